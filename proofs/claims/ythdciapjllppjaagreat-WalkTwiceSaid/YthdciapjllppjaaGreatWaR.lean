/-
  A part of the proof: StrH, XvLate, XvNest, StrM, StrQ, WkA, FtC, StrX.
-/
import Derived.Test.YthdciapjllppjaaGreatWaE
import Derived.Test.YthdciapjllppjaaGreatWaF
import Derived.Test.YthdciapjllppjaaGreatWaQ
set_option maxRecDepth 10000
set_option maxHeartbeats 8000000
set_option linter.unusedVariables false
set_option linter.unusedSectionVars false
set_option linter.unusedSimpArgs false
open Go.Proofs.Tryz (prog)
namespace Go.Proofs.YthdciapjllppjaaGreat
open Go.Xm
variable [ak]
theorem tL(bs:List Bool)(hb:bs.length<=1000000):eX (wr bs) bs:=
 ⟨by rw[cI];omega,iJ bs,fun j _=>CK bs j,by rw[cI];omega⟩
theorem Nm(bs:List Bool):RO (au bs) .u8 (wr bs):=⟨fun h=>⟨_,true,false,cz (fun e=>by
 have:(il .u8 (wr bs)).length=0:=by rw[e];rfl
 rw[bu]at this;omega)⟩,inferInstance⟩
theorem IJ{p:Ph}(hp:pA p){bs:List Bool}(hb:bs.length<=100000){HS:ah}{i k:Nat}(hi:HS[i]? = some (aO k bs))(hk:HS[k]? = some (au bs))(hd:i≠k){q:List Bool}(hq:Nh bs p=q){N:Nat}(hN:HS.length=N){HS':ah}(hh:bE HS [i,k] [aO N q,.dead,au q]=HS')(hbd:Nat.blt HS'.length Mem.bound=true) :
 az.Sound prog ⟨65,[.agg (sn p),.one (.ptr i 0)],HS,.one (.int .i64 0),HS',[i,k]⟩:=by
 subst hq;exact II hp hb hi hk hd hN hh hbd
theorem fk{n:Int}{size:Nat}{z:Int}(hz:z=(size:Nat)){bs:List Bool}(hn:0<=n/\n<18446744073709551616)(hs:size<=64)(hb:bs.length<=1000000){HS:ah}{i k:Nat}(hi:HS[i]? = some (aO k bs))(hk:HS[k]? = some (au bs))(hd:i≠k){q:List Bool}(hq:bs++aI n size=q){N:Nat}(hN:HS.length=N){HS':ah}(hh:bE HS [i,k] [aO N q,.dead,au q]=HS')(hbd:Nat.blt HS'.length Mem.bound=true) :
 az.Sound prog ⟨46,[.one (.ptr i 0),.one (.int .u64 n),.one (.int .i64 z)],HS,.tup [],HS',[i,k]⟩:=by
 subst hq;exact fj hz hn hs hb hi hk hd hN hh hbd
theorem cG{L:List Int}{B:List Bool}(h:eX L B){q q':Nat}{x:Int}{n:Nat}(hv:bT B n (q,false)=(x,(q',false))){z:Int}(hz:z=(n:Nat))(hn:n<=32){HS:ah}{i k:Nat}(hi:HS[i]? = some (gD k L B q false))(hk:HS[k]? = some (dP L))(hd:i≠k){HS':ah}(hh:HS.set i (gD k L B q' false)=HS')(hbd:Nat.blt HS'.length Mem.bound=true) :
 az.Sound prog ⟨69,[.one (.ptr i 0),.one (.int .i64 z)],HS,.one (.int .u64 x),HS',[i]⟩:=by
 have:=I7 h (q,false) hz hn hi hk hd (HS':=HS') (by rw[hv];exact hh) hbd;rw[hv]at this;exact this
theorem Ac{p:Ph}{first count all:Int}{a b:List Int}(hk:xI p first count a.length b.length all)(ha:bc a)(hb:bc b){B:List Bool}(hB:ku p first count (a.length:Nat) (b.length:Nat) (cU a) (cU b) (cU (wr (fP p first count (a.length:Nat) (b.length:Nat) (cU a) (cU b))))=B) :
 bq prog 33 [.agg (Q_ p first count (.slice 0 0 a.length (.toEnd 1)) (.slice 1 0 b.length (.toEnd 1))),.one (.int .i64 all)] [.cells (il .u8 a) 5 true false,.cells (il .u8 b) 5 true false] (.tup [.one (.slice 2 0 (eo B a b).length (.toEnd 1)),.one (.int .i64 0)]) [.cells (il .u8 a) 5 true false,.cells (il .u8 b) 5 true false,.cells (il .u8 (eo B a b)) 5 true false]:=by
 have hph:=hk.ph;have h1:=hk.fst;have h2:=hk.cnt;have h3:=hk.fit;have h4:=hk.most;have h5:=hk.a;have h6:=hk.b
 obtain⟨sa,hsa⟩:∃s,cU a=s:=⟨_,rfl⟩
 obtain⟨sb,hsb⟩:∃s,cU b=s:=⟨_,rfl⟩
 have ra:=f_ a;have rb:=f_ b;rw[hsa]at ra hB;rw[hsb]at rb hB
 obtain⟨S,hSd⟩:∃S,fP p first count (a.length:Nat) (b.length:Nat) sa sb=S:=⟨_,rfl⟩
 have hSl:S.length=101:=by rw[<-hSd];exact rQ ..
 unfold ku at hB;rw[hSd]at hB
 obtain⟨su,hsu⟩:∃s,cU (wr S)=s:=⟨_,rfl⟩
 have ru:=f_ (wr S);rw[hsu]at ru hB;have hS2:((((((Nh [] p++aI first 7)++aI count 7)++aI (a.length:Nat) 16)++aI (b.length:Nat) 16)++aI sa 16)++aI sb 16)=S:=hSd;have e0:(Nh [] p).length=23:=by simp only[Nh,List.length_append,aQ,List.length_cons,List.length_nil]
 obtain⟨b0,hb0⟩:∃x,Nh [] p=x:=⟨_,rfl⟩
 obtain⟨b1,hb1⟩:∃x,b0++aI first 7=x:=⟨_,rfl⟩
 obtain⟨b2',hb2⟩:∃x,b1++aI count 7=x:=⟨_,rfl⟩
 obtain⟨b3,hb3⟩:∃x,b2'++aI (a.length:Nat) 16=x:=⟨_,rfl⟩
 obtain⟨b4,hb4⟩:∃x,b3++aI (b.length:Nat) 16=x:=⟨_,rfl⟩
 obtain⟨b5,hb5⟩:∃x,b4++aI sa 16=x:=⟨_,rfl⟩
 rw[hb0]at e0;rw[hb0,hb1,hb2,hb3,hb4,hb5]at hS2;have e1:b1.length=30:=by rw[<-hb1,List.length_append,aQ,e0]
 have e2:b2'.length=37:=by rw[<-hb2,List.length_append,aQ,e1]
 have e3:b3.length=53:=by rw[<-hb3,List.length_append,aQ,e2]
 have e4:b4.length=69:=by rw[<-hb4,List.length_append,aQ,e3]
 have e5:b5.length=85:=by rw[<-hb5,List.length_append,aQ,e4]
 obtain⟨S1,hS1⟩:∃x,S++aI su 16=x:=⟨_,rfl⟩
 have eS1:S1.length=117:=by rw[<-hS1,List.length_append,aQ,hSl]
 rw[hS1]at hB;have hwS:(wr S).length=13:=by rw[cI,hSl]
 have hBl:B.length=119:=by rw[<-hB,List.length_append,aQ,eS1]
 have hwB:(wr B).length=15:=by rw[cI,hBl]
 refine cO Tryz.func33 ?_;refine WX.cq rfl ?_
 repeat' (first
  |(refine qz ?_;first
   |refine cl ?_ (hi:=by exact uM hk (i:=0) (j:=1) rfl rfl (by decide) rfl)
   |refine rG (cs:=sn p) ?_ (hle:=by decide) (hc:=by exact rfl)
   |refine cl ?_ (hi:=by exact IJ hph (bs:=[]) (by decide) (i:=4) (k:=2) rfl rfl (by decide) hb0 nL nA rfl)
   |refine cl ?_ (hi:=by exact fk (size:=7) rfl (bs:=b0) (by omega) (by decide) (by omega) (i:=4) (k:=5) rfl rfl (by decide) hb1 nL nA rfl)
   |refine cl ?_ (hi:=by exact fk (size:=7) rfl (bs:=b1) (by omega) (by decide) (by omega) (i:=4) (k:=6) rfl rfl (by decide) hb2 nL nA rfl)
   |refine cl ?_ (hi:=by exact fk (size:=16) rfl (bs:=b2') (by omega) (by decide) (by omega) (i:=4) (k:=7) rfl rfl (by decide) hb3 nL nA rfl)
   |refine cl ?_ (hi:=by exact fk (size:=16) rfl (bs:=b3) (by omega) (by decide) (by omega) (i:=4) (k:=8) rfl rfl (by decide) hb4 nL nA rfl)
   |refine sY (zs:=[.nils]) ?_
   |refine cl ?_ (hi:=by exact n9 (l:=a) ha (by omega) (RO.of ..) hsa rfl (i:=0) (j:=10) rfl rfl (by decide) rfl)
   |refine cl ?_ (hi:=by exact fk (size:=16) rfl (bs:=b4) (by omega) (by decide) (by omega) (i:=4) (k:=9) rfl rfl (by decide) hb5 nL nA rfl)
   |refine cl ?_ (hi:=by exact n9 (l:=b) hb (by omega) (RO.of ..) hsb rfl (i:=1) (j:=12) rfl rfl (by decide) rfl)
   |refine cl ?_ (hi:=by exact fk (size:=16) rfl (bs:=b5) (by omega) (by decide) (by omega) (i:=4) (k:=11) rfl rfl (by decide) hS2 nL nA rfl)
   |refine cl ?_ (hi:=by exact oQ (bs:=S) (by omega) (by omega) (i:=4) (k:=13) rfl rfl (by decide) (n:=13) (by rw[hSl]) nL nA rfl)
   |refine cl ?_ (hi:=by exact n9 (l:=wr S) (iJ S) (by omega) (Nm S) hsu hwS (i:=14) (j:=15) rfl rfl (by decide) rfl)
   |refine cl ?_ (hi:=by exact fk (size:=16) rfl (bs:=S) (by omega) (by decide) (by omega) (i:=4) (k:=13) rfl rfl (by decide) hS1 nL nA rfl)
   |refine cl ?_ (hi:=by exact fk (size:=2) rfl (bs:=S1) (by omega) (by decide) (by omega) (i:=4) (k:=16) rfl rfl (by decide) hB nL nA rfl)
   |refine cl ?_ (hi:=by exact rJ nL nA rfl)
   |refine sY (zs:=[.int .u8 0]) ?_
   |refine NH (n:=1) (r:=[182]) rfl (jX rfl rfl rfl) (fun h=>absurd h (by decide)) (fun _=>?_)
   |refine cl ?_ (hi:=by exact oQ (bs:=B) (by omega) (by omega) (i:=4) (k:=17) rfl rfl (by decide) (n:=15) (by rw[hBl]) nL nA rfl)
   |refine cl ?_ (hi:=by exact Ef (bs:=B) (i:=4) (k:=17) rfl rfl (by decide) (z:=119) (by rw[hBl];rfl) rfl)
   |refine cl ?_ (hi:=by exact tf (L:=wr B) (B:=B) (by omega) (by omega) hwB (by rw[hBl];rfl) (i:=21) rfl nL nA rfl))
  |refine zz ?_|refine zx (fun _=>?_) (fun _=>?_)|fail)
 refine WX.cj (σ:=Nat) (fun k=>[(2,.one (.ptr 2 0)),(9,.one (.ptr 3 0)),(8,iq 5 (4+k) 1),(75,.one (.int .i64 (k:Nat)))]) (fun k=>[.cells (il .u8 a) 5 true false,.cells (il .u8 b) 5 true false,.cells (Q_ p first count (.slice 0 0 a.length (.toEnd 1)) (.slice 1 0 b.length (.toEnd 1))) 50 false false,gD 4 (wr B) B (7*k) false,dP (wr B),bR 5 (il .u8 ([0,0,1,182]++o6 B k))]) (fun k=>k<=17) (fun k=>17-k) 0 (Nat.zero_le _) (fun s _=>nf) (bV [0,1,3,22,23,20]) ?_;intro k hk17 ih;have hsl:=fz B k;have hql:([0,0,1,182]++o6 B k).length=4+k:=by rw[List.length_append,hsl];rfl
 by_cases hlt:k<17
 ·have hv:=mw (B:=B) (n:=7) (r:=7*k) (by omega);have hvr:=JR B (7*k);have hsv:o6 B (k+1)=o6 B k++[128+kZ B (7*k) 7 0]:=by rw[o6];unfold Cm;rw[hv]
  obtain⟨v,hve⟩:∃v,kZ B (7*k) 7 0=v:=⟨_,rfl⟩
  rw[hve]at hv hvr hsv
  repeat' (first
   |(refine qz ?_;first
    |refine cl ?_ (hi:=by exact cG (tL B (by omega)) hv rfl (by decide) (i:=3) (k:=4) rfl rfl (by decide) hS rfl))
   |refine zz ?_|refine zx (fun _=>?_) (fun _=>?_)|fail)
  exact ih (k+1) _ _ _ (bV [0,1,2,3,4,7] (obj:=by(repeat' (first|exact af.nil|refine af.flat (by rw[hsv,<-List.append_assoc,<-Ov hvr];rfl) ?_|refine oz ?_));first|done|fail)) (by omega) (by omega)
 ·have hpf:eo B a b=(([0,0,1,182]++o6 B k)++a)++b:=by rw[show k=17 by omega];rfl
  obtain⟨W,hW⟩:∃W,[0,0,1,182]++o6 B k=W:=⟨_,rfl⟩
  rw[hW]at hpf hql;rw[hpf,hW];clear ih
  have hy:bR 5 (il .u8 ((W++a)++b)) = .cells (il .u8 ((W++a)++b)) 5 true false:=cz fun e=>by
   have h2:(il .u8 ((W++a)++b)).length=0:=by rw[e];rfl
   rw[bu,List.length_append,List.length_append,hql]at h2;omega
  repeat' (first|refine zz ?_|refine zx (fun _=>?_) (fun _=>?_)|fail)
  have hz:eg 7 (4+k+a.length+b.length) 1 = .slice 7 0 (4+k+a.length+b.length) (.toEnd 1):=if_neg (by omega);have hlen:((W++a)++b).length=4+k+a.length+b.length:=by rw[List.length_append,List.length_append,hql]
  rw[hy,hz,hlen];show aE _ _ _ _ _ _ _ _;refine kV [0,1,7] ?_;rfl
end Go.Proofs.YthdciapjllppjaaGreat
namespace Go.Xm
variable [ak]
section
variable {P:Program} {ops:Array Oper} {nt nI:Nat} {al:aN} {hs:ah} {o:Oper} {l:List Oper} {L:List az} {K:List Ab->aN->ah->Prop} {d:Nat}
theorem mf{t:TypeId}{a b:Operand}{elem:TypeId}{s:Nat}{kd:IntKind}{z:Int}{g k off len fl cut:Nat}{p:Nat}(hk:SK P ops nt L l ((d,.one (.lpt g k p))::al) hs fun bs=>K (quiet::bs))(ho:o.op = .indexAddr t a b:=by exact rfl)(wn:Wn ops nt al o d:=by exact⟨rfl,rfl,rfl⟩)(hb:ae (rg al) b = .one (.int kd z):=by exact rfl)(ha:ae (rg al) a = .one (.lsl g k off len fl cut):=by exact rfl)(hu:aP P t (.slice elem):=by infer_instance)(hs':aG P elem s:=by infer_instance)(hz:0<=z/\z<(len:Nat):=by first|omega|decide)(hp:off+z.toNat*s=p:=by exact n1):SK P ops nt L (o::l) al hs K:=by
 subst hp;exact SK.lift wn.e wn.l (fun _=>aA.pure wn.w (by rw[ho];simp[aY,b6,ha,hb,hu.out,hs'.out,hz])) hk
theorem kY{a:Operand}{t elem:TypeId}{g k off len fl cut:Nat}(hk:SK P ops nt L l ((d,.one (.int .i64 (len:Nat)))::al) hs fun bs=>K (quiet::bs))(ho:o.op = .call ⟨.builtin .len,#[a],#[t]⟩:=by exact rfl)(wn:Wn ops nt al o d:=by exact⟨rfl,rfl,rfl⟩)(ha:ae (rg al) a = .one (.lsl g k off len fl cut):=by exact rfl)(hu:aP P t (.slice elem):=by infer_instance):SK P ops nt L (o::l) al hs K:=
 SK.lift wn.e wn.l (fun _=>aA.pure wn.w (by rw[ho];simp[aY,ec,ha,yN,hu.out])) hk
theorem aA.Nb{O:dc}(hw:av ops (rg al) o=some true){t:TypeId}{a:Operand}(ho:o.op = .load t a){g k off:Nat}(ha:ae (rg al) a = .one (.lpt g k off)){LL:List (List XC)}(hi:hs[g]? = some (.late LL)){cs:List XC}(hL:LL[k]? = some cs)(hne:cs≠[]){x:X1}(hl:dv P t (cs.map (·.self g)) off=some x) :
 aA O P ops al hs o x.pP hs ⟨false,some g,[]⟩:=by
 intro m hm;refine⟨m,?_,hm,fun _ _=>rfl⟩;unfold jg;rw[hw]
 obtain⟨f,hf1,hf2⟩:∃f,eS P (ae (rg al)) o.op=some (g,f)/\∀(LL:List (List XC)) c cs,LL[k]? = some (c::cs)->f (.late LL)=(dv P t ((c::cs).map (·.self g)) off).map X1.pP:=by
  rw[ho];simp only[eS,ha];refine⟨_,rfl,fun LL c cs h=>?_⟩;simp only[h]
 refine l6 (by rw[ho];rfl) (by rw[ho];rfl) hf1 ?_
 cases cs with
 | nil=>exact absurd rfl hne
 | cons c cs=>rw[hm.at hi,hf2 LL c cs hL,hl];rfl
theorem S7{t:TypeId}{a:Operand}{g k off:Nat}{LL:List (List XC)}{cs:List XC}{c:XC}(hk:SK P ops nt L l ((d,.one (c.self g))::al) hs fun bs=>K (⟨false,some g,[]⟩::bs))(hL:LL[k]? = some cs)(hc:cs[off]? = some c)(ho:o.op = .load t a:=by exact rfl)(ht:cK P t:=by infer_instance)(wn:Wn ops nt al o d:=by exact⟨rfl,rfl,rfl⟩)(ha:ae (rg al) a = .one (.lpt g k off):=by exact rfl)(hi:hs[g]? = some (.late LL):=by exact rfl):SK P ops nt L (o::l) al hs K:=
 SK.lift wn.e wn.l (fun _=>aA.Nb wn.w ho ha hi hL (fun e=>by rw[e]at hc;cases hc) (zR ht.out (by rw[List.getElem?_map,hc];rfl))) hk
theorem sM{t:TypeId}{a:Operand}{g k off:Nat}{LL:List (List XC)}{kd:IntKind}{q:List Int}(hk:SK P ops nt L l ((d,.one (.int kd (q.getD off 0)))::al) hs fun bs=>K (⟨false,some g,[]⟩::bs))(hL:LL[k]? = some (il kd q))(hc:off<q.length)(ho:o.op = .load t a:=by exact rfl)(ht:cK P t:=by infer_instance)(wn:Wn ops nt al o d:=by exact⟨rfl,rfl,rfl⟩)(ha:ae (rg al) a = .one (.lpt g k off):=by exact rfl)(hi:hs[g]? = some (.late LL):=by exact rfl):SK P ops nt L (o::l) al hs K:=
 S7 (c := .int kd (q.getD off 0)) hk hL (by unfold il;rw[List.getElem?_map,List.getD_eq_getElem?_getD,List.getElem?_eq_getElem hc];rfl) ho ht wn ha hi
theorem H6{t:TypeId}{a:Operand}{s:Nat}{g k off:Nat}{LL:List (List XC)}{vs cs cs':List XC}(hk:SK P ops nt L l ((d,.agg cs')::al) hs fun bs=>K (⟨false,some g,[]⟩::bs))(hL:LL[k]? = some vs)(hle:off+s<=vs.length/\0<s)(hc:(vs.drop off).take s=cs)(hc':cs.map (·.self g)=cs':=by exact rfl)(ho:o.op = .load t a:=by exact rfl)(ht:db P t:=by infer_instance)(hs':aG P t s:=by infer_instance)(wn:Wn ops nt al o d:=by exact⟨rfl,rfl,rfl⟩)(ha:ae (rg al) a = .one (.lpt g k off):=by exact rfl)(hi:hs[g]? = some (.late LL):=by exact rfl):SK P ops nt L (o::l) al hs K:=by
 subst hc hc';refine SK.lift wn.e wn.l (fun _=>aA.Nb (x := .agg (((vs.drop off).take s).map (·.self g))) wn.w ho ha hi hL (fun e=>by rw[e]at hle;simp at hle;omega) ?_) hk;unfold dv;rw[ht.out,hs'.out];simp only[List.length_map];rw[if_pos hle.1,<-List.map_drop,<-List.map_take]
class Ex {α : Type}(enc : α->List XC) (s:outParam Nat):Prop where
 len:∀a,(enc a).length=s
 pos:0<s
instance (priority:=low) {α : Type} {enc : α->List XC} {s:Nat} [h:oY enc s]:Ex enc s:=⟨h.len,h.pos⟩
theorem yd{α : Type}{enc : α->List XC}{s:Nat}[hE:Ex enc s](q:List α):(fl enc q).length=q.length*s:=by
 induction q with
 | nil=>simp[fl]
 | cons a l ih=>simp only[fl,List.flatMap_cons,List.length_append,hE.len,List.length_cons]at ih ⊢;rw[ih,Nat.add_mul];omega
theorem Q1{α : Type}{enc : α->List XC}{s:Nat}[hE:Ex enc s](q:List α)(j:Nat)(hj:j<q.length)(dflt : α):j*s+s<=(fl enc q).length/\((fl enc q).drop (j*s)).take s=enc (q.getD j dflt):=
 xZ enc s q (fun a _=>hE.len a) j _ (by simp[List.getD_eq_getElem?_getD,hj])
theorem BW{α : Type}{enc : α->List XC}{s:Nat}[hE:Ex enc s][Inhabited α]{t:TypeId}{a:Operand}{g k off:Nat}{LL:List (List XC)}{q:List α}{j:Nat}{cs':List XC}(hk:SK P ops nt L l ((d,.agg cs')::al) hs fun bs=>K (⟨false,some g,[]⟩::bs))(hL:LL[k]? = some (fl enc q))(hc:j<q.length)(hc':(enc (q.getD j default)).map (·.self g)=cs':=by exact rfl)(ho:o.op = .load t a:=by exact rfl)(ht:db P t:=by infer_instance)(hs':aG P t s:=by infer_instance)(wn:Wn ops nt al o d:=by exact⟨rfl,rfl,rfl⟩)(ha:ae (rg al) a = .one (.lpt g k off):=by exact rfl)(hi:hs[g]? = some (.late LL):=by exact rfl)(hj:off=j*s:=by exact n1):SK P ops nt L (o::l) al hs K:=by
 subst hj;obtain⟨h1,h2⟩:=Q1 (enc:=enc) q j hc default;exact H6 hk hL ⟨h1,hE.pos⟩ h2 hc' ho ht hs' wn ha hi
theorem Ta{t e:TypeId}{a:Operand}{lo hi:Option Operand}{s:Nat}{g k off n fl cut p q:Nat}{z w:Int}(hk:SK P ops nt L l ((d,.one (.lsl g k (off+p*s) (q-p) (fl-p) (cut+p)))::al) hs fun bs=>K (quiet::bs))(ho:o.op = .slice t a lo hi .none:=by exact rfl)(hu:aP P t (.slice e):=by infer_instance)(hs':aG P e s:=by infer_instance)(wn:Wn ops nt al o d:=by exact⟨rfl,rfl,rfl⟩)(ha:ae (rg al) a = .one (.lsl g k off n fl cut):=by exact rfl)(hl:qE (lo.map (ae (rg al))) 0=some z:=by exact rfl)(hh:qE (hi.map (ae (rg al))) (n:Nat)=some w:=by exact rfl)(hp:z=(p:Nat):=by first|exact rfl|omega)(hq:w=(q:Nat):=by first|exact rfl|omega)(hb:p<=q/\q<=fl/\(p=0\/p<fl):=by omega):SK P ops nt L (o::l) al hs K:=by
 subst hp hq;have e1:=qG (y:=q) hl (by omega);have e2:=qF (y:=fl) hh (by omega);exact SK.lift wn.e wn.l (fun _=>aA.pure wn.w (by rw[ho];simp only[aY,ou,hu.out,ha,eF,Option.map_none,e1,e2,hs'.out];rw[if_pos hb.2.2])) hk
theorem D3{t1 e1:TypeId}(hu:P.underlying t1=some (.slice e1)){b:Operand}{g k off n fl cut sz:Nat}(hb:ae (rg al) b = .one (.lsl g k off n fl cut))(hsz:0<sz){LL:List (List XC)}(hi:hs[g]? = some (.late LL)){cs:List XC}(hL:LL[k]? = some cs)(hn:off+n*sz<=cs.length){r:List XC}(hr:(((cs.map (·.self g)).drop off).take (n*sz))=r):∀M,aZ M hs->jZ P t1 sz (ae (rg al) b) M=some (n,r):=fun M hM=>by
 subst hr;rw[hb];unfold jZ;simp only[hu]
 by_cases h0:n=0
 ·rw[if_pos h0,h0,Nat.zero_mul];rfl
 ·rw[if_neg h0,hM.at hi];simp only[hL]
  cases cs with
  | nil=>
    have:=Nat.mul_pos (Nat.pos_of_ne_zero h0) hsz;simp at hn;omega
  | cons c cs=>simp only[];rw[if_pos hn]
end
def XC.mg(g m:Nat):XC->Prop
 | .ptr j _=>j≠g
 | .slice j _ _ _=>j≠g
 | .map j=>j≠g
 | .lsl g' k _ _ _ _=>g'=g->k≠m
 | .lpt g' k _=>g'=g->k≠m
 | .bind a b=>a.mg g m/\b.mg g m
 | _=>True
theorem XC.gp{g m:Nat}:∀{c:XC},c.ok 0->c.mg g m:=by
 intro c
 induction c with
 | ptr j off=>exact fun h=>absurd h (Nat.not_lt_zero _)
 | slice j off n cap=>exact fun h=>absurd h (Nat.not_lt_zero _)
 | map j=>exact fun h=>absurd h (Nat.not_lt_zero _)
 | lsl g' k off n fl cut=>exact fun h=>absurd h (Nat.not_lt_zero _)
 | lpt g' k off=>exact fun h=>absurd h (Nat.not_lt_zero _)
 | bind a b ih1 ih2=>exact fun h=>⟨ih1 h.1,ih2 h.2⟩
 | _=>intro _;trivial
inductive oZ(g m:Nat)(A B:XC):XC->XC->Prop where
 | same {c:XC}:c.mg g m->oZ g m A B c c
 | BN:oZ g m A B A B
inductive dM(g m:Nat)(A B:XC):List XC->List XC->Prop where
 | same {l:List XC}:(∀c∈l,c.mg g m)->dM g m A B l l
 | cons {c c':XC} {l l':List XC}:oZ g m A B c c'->dM g m A B l l'->dM g m A B (c::l) (c'::l')
theorem dM.app{g m:Nat}{A B:XC}{a a' b b':List XC}(h:dM g m A B a a')(k:dM g m A B b b'):dM g m A B (a++b) (a'++b'):=by
 induction h with
 | @same l hl=>
   induction l with
   | nil=>exact k
   | cons c l ih=>exact .cons (.same (hl c (List.mem_cons_self ..))) (ih fun x hx=>hl x (List.mem_cons_of_mem _ hx))
 | cons hc _ ih=>exact .cons hc ih
inductive bh(i g m:Nat)(A B:XC)(L:List (List XC))(vs:List XC):Nat->ah->ah->Prop where
 | nil {j:Nat}:bh i g m A B L vs j [] []
 | flat {j:Nat} {o:aj} {hs hs2:ah} [cu o]:Nat.beq j i=false->bh i g m A B L vs (j+1) hs hs2->bh i g m A B L vs j (o::hs) (o::hs2)
 | dead {j:Nat} {o:aj} {hs hs2:ah}:bh i g m A B L vs (j+1) hs hs2->bh i g m A B L vs j (o::hs) (.dead::hs2)
 | cells {j:Nat} {us us2:List XC} {e:TypeId} {a b:Bool} {hs hs2:ah}:Nat.beq j i=false->dM g m A B us us2->bh i g m A B L vs (j+1) hs hs2->bh i g m A B L vs j (.cells us e a b::hs) (.cells us2 e a b::hs2)
 | ghost {hs hs2:ah}:bh i g m A B L vs (g+1) hs hs2->bh i g m A B L vs g (.late L::hs) (.late (L++[vs])::hs2)
inductive ib(g m:Nat)(A B:XC)(al:aN):aN->Prop where
 | nil:ib g m A B al []
 | flat {t:Nat} {v:XV} {r:aN} [bZ v]:rg al t=v->ib g m A B al r->ib g m A B al ((t,v)::r)
 | one {t:Nat} {c c':XC} {r:aN}:rg al t = .one c->oZ g m A B c c'->ib g m A B al r->ib g m A B al ((t,.one c')::r)
 | agg {t:Nat} {c c':List XC} {r:aN}:rg al t = .agg c->dM g m A B c c'->ib g m A B al r->ib g m A B al ((t,.agg c')::r)
theorem bh.len{i g m:Nat}{A B:XC}{L:List (List XC)}{vs:List XC}{j:Nat}{hs hs2:ah}(h:bh i g m A B L vs j hs hs2):hs2.length=hs.length:=by
 induction h with
 | nil=>rfl
 | flat _ _ ih=>simp[ih]
 | dead _ ih=>simp[ih]
 | cells _ _ _ ih=>simp[ih]
 | ghost _ ih=>simp[ih]
theorem bh.at{i g m:Nat}{A B:XC}{L:List (List XC)}{vs:List XC}{j:Nat}{hs hs2:ah}(h:bh i g m A B L vs j hs hs2):∀(p:Nat) (o2:aj),hs2[p]? = some o2 ->
 o2 = .dead\/(j+p=g/\o2 = .late (L++[vs]))\/(j+p≠i/\cu o2/\hs[p]? = some o2)\/∃us us2 e a b,j+p≠i/\o2 = .cells us2 e a b/\hs[p]? = some (.cells us e a b)/\dM g m A B us us2:=by
 induction h with
 | nil=>intro p o2 h;simp at h
 | @flat j o hs hs2 inst hj _ ih=>
   intro p o2 h
   cases p with
   | zero=>
     simp only[List.getElem?_cons_zero,Option.some.injEq]at h;subst h;exact .inr (.inr (.inl ⟨fun e=>(by rw[Nat.add_zero]at e;rw[e,Nat.beq_refl]at hj;cases hj),inst,rfl⟩))
   | succ p=>
     have:=ih p o2 (by simpa using h);rw[show j+1+p=j+(p+1) by omega]at this;simpa using this
 | @dead j o hs hs2 _ ih=>
   intro p o2 h
   cases p with
   | zero=>
     simp only[List.getElem?_cons_zero,Option.some.injEq]at h;exact .inl h.symm
   | succ p=>
     have:=ih p o2 (by simpa using h);rw[show j+1+p=j+(p+1) by omega]at this;simpa using this
 | @cells j us us2 e a b hs hs2 hj hl _ ih=>
   intro p o2 h
   cases p with
   | zero=>
     simp only[List.getElem?_cons_zero,Option.some.injEq]at h;subst h;exact .inr (.inr (.inr ⟨us,us2,e,a,b,fun e=>(by rw[Nat.add_zero]at e;rw[e,Nat.beq_refl]at hj;cases hj),rfl,rfl,hl⟩))
   | succ p=>
     have:=ih p o2 (by simpa using h);rw[show j+1+p=j+(p+1) by omega]at this;simpa using this
 | @ghost hs hs2 _ ih=>
   intro p o2 h
   cases p with
   | zero=>
     simp only[List.getElem?_cons_zero,Option.some.injEq]at h;exact .inr (.inl ⟨rfl,h.symm⟩)
   | succ p=>
     have:=ih p o2 (by simpa using h);rw[show g+1+p=g+(p+1) by omega]at this;simpa using this
instance QI (L:List (List XC)):cu (.late L):=⟨fun _=>rfl,fun _=>trivial⟩
section
variable {i g m n:Nat} {cp:py} {A B:XC} {β β2:Env}
structure tx(g m:Nat)(A B:XC)(β β2:Env):Prop where
 ne:∀j,j≠g -> β2.bD j = β.bD j
 size:∀j,β2.size j = β.size j
 base:∀j,β2.base j = β.base j
 tab:∀k,k≠m->lM (β2.bD g) k=lM (β.bD g) k/\iU (β2.bD g) k=iU (β.bD g) k/\sO (β2.bD g) k=sO (β.bD g) k
 new:B.den β2=A.den β
theorem tx.same(h:tx g m A B β β2):∀{c:XC},c.mg g m->c.den β2=c.den β:=by
 intro c
 induction c with
 | ptr j off=>intro hc;simp only[XC.den,h.ne j hc,h.base]
 | slice j off len cap=>intro hc;cases cap<;>simp only[XC.den,h.ne j hc,h.base,h.size]
 | map j=>intro hc;simp only[XC.den,h.ne j hc]
 | bind a b ih1 ih2=>intro hc;simp only[XC.den,ih1 hc.1,ih2 hc.2]
 | lsl g' k off len fl cut=>
   intro hc
   by_cases e:g'=g
   ·subst e;simp only[XC.den,(h.tab k (hc rfl)).1,(h.tab k (hc rfl)).2.1,(h.tab k (hc rfl)).2.2]
   ·simp only[XC.den,h.ne g' e]
 | lpt g' k off=>
   intro hc
   by_cases e:g'=g
   ·subst e;simp only[XC.den,(h.tab k (hc rfl)).1,(h.tab k (hc rfl)).2.1,(h.tab k (hc rfl)).2.2]
   ·simp only[XC.den,h.ne g' e]
 | _=>intro _;rfl
theorem tx.cell(h:tx g m A B β β2){c c':XC}(hc:oZ g m A B c c'):c'.den β2=c.den β:=by
 cases hc with
 | same hn=>exact h.same hn
 | BN=>exact h.new
theorem tx.cells(h:tx g m A B β β2){l l':List XC}(hl:dM g m A B l l'):l'.map (·.den β2)=l.map (·.den β)/\l'.length=l.length:=by
 induction hl with
 | same hn=>exact⟨List.map_congr_left fun c hc=>h.same (hn c hc),rfl⟩
 | cons hc _ ih=>exact⟨by simp only[List.map_cons,h.cell hc,ih.1],by simp only[List.length_cons,ih.2]⟩
theorem tx.QJ(h:tx g m A B β β2){o:aj}[ho:cu o]{N N2 lo sz:Nat}{ob:Option Obj}(hr:eY β N lo sz o ob):eY β2 N2 lo sz o ob:=by
 have h0:=ho.ok 0
 cases o with
 | dead=>trivial
 | late L=>trivial
 | cells vs e a b=>
   obtain⟨cs,fr,h1,h2,h3,h4,h5,h6⟩:=hr;exact⟨cs,fr,h1,h2,h3,h4,fun c hc=>XC.c_ (Nat.zero_le _) (h0 c hc),by rw[h6];exact(List.map_congr_left fun c hc=>h.same (XC.gp (h0 c hc))).symm⟩
 | map es=>
   obtain⟨en,clock,h1,h2,h3⟩:=hr
   have hx:∀x:X1,x.ok 0->x.den β2=x.den β:=fun x hx=>by
    cases x with
    | one c=>exact h.same (XC.gp hx)
    | agg cs=>simp only[X1.den];rw[List.map_congr_left fun c hc=>h.same (XC.gp (hx c hc))]
   refine⟨en,clock,h1,fun p hp=>⟨X1.c_ (Nat.zero_le _) (h0 p hp).1,X1.c_ (Nat.zero_le _) (h0 p hp).2⟩,h3.trans ?_⟩;exact List.map_congr_left fun p hp=>by rw[hx _ (h0 p hp).1,hx _ (h0 p hp).2]
theorem tx.QM(h:tx g m A B β β2){v:XV}[hv:bZ v]{N N2:Nat}{u:Value}(hr:aK β N v u):aK β2 N2 v u:=by
 have h0:=hv.ok 0
 cases v with
 | undef=>trivial
 | one c=>exact⟨XC.c_ (Nat.zero_le _) h0,hr.2.trans (h.same (XC.gp h0)).symm⟩
 | agg cs=>exact⟨fun c hc=>XC.c_ (Nat.zero_le _) (h0 c hc),hr.2.trans (by rw[List.map_congr_left fun c hc=>h.same (XC.gp (h0 c hc))])⟩
 | tup xs=>
   refine⟨fun c hc=>X1.c_ (Nat.zero_le _) (h0 c hc),hr.2.trans ?_⟩
   have:xs.map (·.den β2)=xs.map (·.den β):=List.map_congr_left fun x hx=>by
    have h1:=h0 x hx
    cases x with
    | one c=>exact h.same (XC.gp h1)
    | agg cs=>simp only[X1.den];rw[List.map_congr_left fun c hc=>h.same (XC.gp (h1 c hc))]
   rw[this]
theorem ib.at{al r:aN}(h:ib g m A B al r)(t:Nat):rg r t = .undef\/(bZ (rg r t)/\rg al t=rg r t)\/(∃c c',rg r t = .one c'/\rg al t = .one c/\oZ g m A B c c')\/∃c c',rg r t = .agg c'/\rg al t = .agg c/\dM g m A B c c':=by
 induction h with
 | nil=>exact .inl rfl
 | @flat u v r inst hv _ ih=>
   rw[show rg ((u,v)::r) t=if t=u then v else rg r t from rfl];split
   ·rename_i e;subst e;exact .inr (.inl ⟨inst,hv⟩)
   ·exact ih
 | @one u c c' r hv hc _ ih=>
   rw[show rg ((u,XV.one c')::r) t=if t=u then XV.one c' else rg r t from rfl];split
   ·rename_i e;subst e;exact .inr (.inr (.inl ⟨c,c',rfl,hv,hc⟩))
   ·exact ih
 | @agg u c c' r hv hc _ ih=>
   rw[show rg ((u,XV.agg c')::r) t=if t=u then XV.agg c' else rg r t from rfl];split
   ·rename_i e;subst e;exact .inr (.inr (.inr ⟨c,c',rfl,hv,hc⟩))
   ·exact ih
theorem XC.u5{c:XC}{j:Nat}(h:c.lI m=true):(c.self j).mg g m:=by
 cases c with
 | ptr i off=>cases h
 | slice i off len cap=>cases h
 | map i=>cases h
 | bind g c=>cases h
 | lsl g' k off len fl cut=>exact fun _ e=>by subst e;simp[XC.lI,Nat.blt_eq]at h
 | lpt g' k off=>exact fun _ e=>by subst e;simp[XC.lI,Nat.blt_eq]at h
 | _=>trivial
theorem XC.uy{c:XC}{a b:Nat}(hab:a<=b)(h:c.lI a=true):c.lI b=true:=by
 cases c with
 | ptr i off=>cases h
 | slice i off len cap=>cases h
 | map i=>cases h
 | bind g c=>cases h
 | lsl g' k off len fl cut=>simp only[XC.lI,Nat.blt_eq]at h ⊢;omega
 | lpt g' k off=>simp only[XC.lI,Nat.blt_eq]at h ⊢;omega
 | _=>rfl
theorem WX.Sp{P:Program}{nt nI:Nat}{al:aN}{hs:ah}{K:ch}{c:sd}{L:List (List XC)}{vs:List XC}(hg:hs[g]? = some (.late L))(hgI:nI<=g)(hm:L.length=m)(hvl:∀c∈vs,c.lI m=true)
 (hsrc:∀(β : Env) (mm:Mem) (w:World),aZ mm hs->Rel β mm w->∃bk base cap,(∀β2:Env,lM (β2.bD g) m=bk->iU (β2.bD g) m=base->sO (β2.bD g) m=cap->B.den β2=A.den β)/\(vs≠[]->(∃all e fr,w.heap[bk]? = some (.cells all e fr)/\(all.toList.drop base).take vs.length=(vs.map (·.self g)).map (·.den β))/\((i<mm.n/\(mm.get i).own=true /\ β.bD i=bk)\/∃p L' q cs',p<mm.n/\mm.get p = .late L'/\L'[q]? = some cs'/\cs'≠[]/\lM (β.bD p) q=bk)))
 {R:aN} {H:ah}(hH:bh i g m A B L vs 0 hs H) (hR:ib g m A B al R) (hok:sJ nI R H)
 (h:WX P nt nI c R H K):WX P nt nI c al hs K:=by
 intro βI mI wI hnI mm hmm β w a Q hr hst hq;have rel:=hst.rel;have nn:=hmm.n;have hgn:g<mm.n:=by rw[nn];exact(List.getElem?_eq_some_iff.1 hg).1
 have gg:mm.get g = .late L:=hmm.at hg;obtain⟨bk,base,cap,hden,hnew⟩:=hsrc β mm w hmm rel;obtain⟨code,⟨t1,t3,t4⟩,t2⟩:=Mu bk base cap m (β.bD g)
 let β2:Env:=⟨fun j=>if j=g then code else β.bD j,β.base,β.size⟩
 have bg : β2.bD g=code:=if_pos rfl;have bne:∀j,j≠g -> β2.bD j = β.bD j:=fun j hj=>if_neg hj
 have E:tx g m A B β β2:=⟨bne,fun _=>rfl,fun _=>rfl,fun k hk=>by rw[bg];exact t2 k hk,hden β2 (by rw[bg];exact t1) (by rw[bg];exact t3) (by rw[bg];exact t4)⟩
 have ok:=hok;have hm2:=eU H (by simpa [Nat.blt_eq]using ok.bnd);have hlen:=hH.len;have n2:=hm2.n;generalize hM:iT H=m2 at hm2 n2
 have at2:∀p,p<m2.n->m2.get p = .dead\/(p=g/\m2.get p = .late (L++[vs]))\/(p≠i/\cu (m2.get p)/\mm.get p=m2.get p)\/∃us us2 e a b,p≠i/\m2.get p = .cells us2 e a b/\mm.get p = .cells us e a b/\dM g m A B us us2:=fun p hp=>by
  rcases hH.at p _ (hm2.get? hp)with k|⟨k1,k2⟩|⟨k1,k2,k3⟩|⟨us,us2,e,a,b,k1,k2,k3,k4⟩
  ·exact .inl k
  ·exact .inr (.inl ⟨by omega,k2⟩)
  ·exact .inr (.inr (.inl ⟨by omega,k2,hmm.at k3⟩))
  ·exact .inr (.inr (.inr ⟨us,us2,e,a,b,by omega,k2,hmm.at k3,k4⟩))
 have low:∀p,p<m2.n->(m2.get p).live=true->p≠g/\p≠i/\(mm.get p).live=true/\((m2.get p).own=true->(mm.get p).own=true):=fun p hp hl=>by
  rcases at2 p hp with k|⟨k1,k2⟩|⟨k1,k2,k3⟩|⟨us,us2,e,a,b,k1,k2,k3,k4⟩
  ·rw[k]at hl;cases hl
  ·rw[k2]at hl;cases hl
  ·refine⟨fun e=>?_,k1,by rw[k3];exact hl,fun ho=>by rw[k3];exact ho⟩;rw[<-k3,e,gg]at hl;cases hl
  ·refine⟨fun e=>?_,k1,by rw[k3];rfl,fun ho=>?_⟩
   ·rw[e,gg]at k3;cases k3
   ·rw[k2]at ho;rw[k3];exact ho
 have img2:∀k,kT β2 m2 k->∃p,p<mm.n/\p≠i/\(mm.get p).own=true /\ β.bD p=k:=fun k ⟨p,hp,ho,hb⟩=>by
  obtain⟨k1,k2,k3,k4⟩:=low p hp (aj.bL ho);exact⟨p,by omega,k2,k4 ho,by rw[<-hb,bne p k1]⟩
 have himg:∀k,kT β2 m2 k->kT β mm k:=fun k hk=>by
  obtain⟨p,k1,k2,k3,k4⟩:=img2 k hk;exact⟨p,k1,k3,k4⟩
 have hni:vs≠[]->¬kT β2 m2 bk:=fun hne hk=>by
  rcases(hnew hne).2 with⟨hin,hio,hib⟩|⟨p,L',q,cs',h1,h2,h3,h4,h5⟩
  ·obtain⟨p,k1,k2,k3,k4⟩:=img2 _ hk;exact k2 (rel.inj p i k1 hin k3 (aj.bL hio) (k4.trans hib.symm))
  ·rw[<-h5]at hk;exact((rel.late p h1 L' h2 q cs' h3).2 h4).1 (himg _ hk)
 have yh:∀k cs',L[k]? = some cs'->(∀c∈cs',c.lI L.length=true)/\(cs'≠[]->¬kT β2 m2 (lM (β2.bD g) k) /\
  ∃all e fr,w.heap[(lM (β2.bD g) k)]? = some (.cells all e fr)/\(all.toList.drop (iU (β2.bD g) k)).take cs'.length=cs'.map fun c=>(c.self g).den β2):=fun k cs' hk=>by
  have hkl:=(List.getElem?_eq_some_iff.1 hk).1;obtain⟨q1,q2⟩:=rel.late g hgn L gg k cs' hk;refine⟨q1,fun hne=>?_⟩;obtain⟨q3,all,e,fr,q4,q5⟩:=q2 hne;rw[(E.tab k (by omega)).1,(E.tab k (by omega)).2.1];refine⟨fun hk=>q3 (himg _ hk),all,e,fr,q4,q5.trans (List.map_congr_left fun c hc=>?_)⟩;exact(E.same (XC.u5 (by rw[<-hm];exact q1 c hc))).symm
 have hrel:Rel β2 m2 w:=by
  refine⟨hm2.bnd,hm2.fresh,fun p hp=>?_,fun a b ha hb la lb hab=>?_,fun p hp L2 hL2=>?_⟩
  ·rcases at2 p hp with k|⟨k1,k2⟩|⟨k1,k2,k3⟩|⟨us,us2,e,a,b,k1,k2,k3,k4⟩
   ·rw[k];trivial
   ·rw[k2];trivial
   ·by_cases hpg:p=g
    ·have:m2.get p = .late L:=by rw[<-k3,hpg];exact gg
     rw[this];trivial
    ·have:=rel.obj p (by omega);rw[k3]at this;rw[bne p hpg];exact E.QJ this
   ·have hpg:p≠g:=fun e=>by rw[e,gg]at k3;cases k3
    have:=rel.obj p (by omega);rw[k3]at this;obtain⟨cs,fr,j1,j2,j3,j4,j5,j6⟩:=this;obtain⟨d1,d2⟩:=E.cells k4;rw[bne p hpg,k2];refine⟨cs,fr,j1,j2,by rw[d2];exact j3,j4,?_,by rw[d1,d2];exact j6⟩;have hk:=ok.objs.at _ (List.mem_of_getElem? (hm2.get? hp));rw[k2]at hk;rw[n2];exact hk
  ·obtain⟨a1,a2,a3,a4⟩:=low a ha (aj.bL la);obtain⟨b1,b2,b3,b4⟩:=low b hb lb;rw[bne a a1,bne b b1]at hab;exact rel.inj a b (by omega) (by omega) (a4 la) b3 hab
  ·rcases at2 p hp with k|⟨k1,k2⟩|⟨k1,k2,k3⟩|⟨us,us2,e,a,b,k1,k2,k3,k4⟩
   ·rw[k]at hL2;cases hL2
   ·rw[k2]at hL2;cases hL2;subst k1;intro k cs' hk
    by_cases hkm:k<L.length
    ·rw[List.getElem?_append_left hkm]at hk;obtain⟨q1,q2⟩:=yh k cs' hk;exact⟨fun c hc=>XC.uy (by simp) (q1 c hc),q2⟩
    ·have hkl:=(List.getElem?_eq_some_iff.1 hk).1;simp only[List.length_append,List.length_singleton]at hkl;obtain rfl:k=L.length:=by omega
     rw[List.getElem?_append_right (Nat.le_refl _),Nat.sub_self]at hk;simp only[List.getElem?_cons_zero,Option.some.injEq]at hk;subst hk;refine⟨fun c hc=>XC.uy (by rw[<-hm];simp) (hvl c hc),fun hne=>?_⟩;rw[bg,hm,t1,t3];obtain⟨cs,e,fr,h1,h6⟩:=(hnew hne).1;refine⟨hni hne,cs,e,fr,h1,?_⟩;rw[h6,List.map_map];refine List.map_congr_left fun c hc=>?_
     exact(E.same (XC.u5 (hvl c hc))).symm
   ·by_cases hpg:p=g
    ·rw[<-k3,hpg,gg]at hL2;cases hL2;rw[hpg];exact yh
    ·have hL:mm.get p = .late L2:=by rw[k3];exact hL2
     intro k cs' hk;obtain⟨q1,q2⟩:=rel.late p (by omega) L2 hL k cs' hk;refine⟨q1,fun hne=>?_⟩;obtain⟨q3,all,e,fr,q4,q5⟩:=q2 hne;rw[bne p hpg];refine⟨fun hk=>q3 (himg _ hk),all,e,fr,q4,q5.trans (List.map_congr_left fun c hc=>?_)⟩;exact(XC.n6 (q1 c hc) (bne p hpg)).symm
   ·rw[k2]at hL2;cases hL2
 have hst2:Step βI mI wI β2 m2 w:=by
  have hle:=Nat.le_of_ble_eq_true ok.le;refine⟨by omega,fun j hj=>?_,hrel,hst.os,hst.tape,hst.output,hst.size,hst.frame,fun k hk hi=>hst.pY k hk (himg k hi),fun k hk ⟨p,hp,L2,q,cs',e1,e2,e3,e4⟩=>?_⟩
  ·have:=hst.ext j hj;rw[bne j (by omega)];exact this
  ·rcases at2 p hp with k1|⟨k1,k2⟩|⟨k1,k2,k3⟩|⟨us,us2,e,a,b,k1,k2,k3,k4⟩
   ·rw[k1]at e1;cases e1
   ·rw[k2]at e1;cases e1;subst k1
    by_cases hqm:q<L.length
    ·rw[List.getElem?_append_left hqm]at e2;rw[(E.tab q (by omega)).1]at e4;exact hst.vU k hk ⟨p,hgn,L,q,cs',gg,e2,e3,e4⟩
    ·have hql:=(List.getElem?_eq_some_iff.1 e2).1;simp only[List.length_append,List.length_singleton]at hql;obtain rfl:q=L.length:=by omega
     rw[bg,hm,t1]at e4;rw[List.getElem?_append_right (Nat.le_refl _),Nat.sub_self]at e2;simp only[List.getElem?_cons_zero,Option.some.injEq]at e2;subst e2
     rcases(hnew e3).2 with⟨hin,hio,hib⟩|⟨p,L',q,cs',h1,h2,h3,h4,h5⟩
     ·exact .inl (hst.pY k hk ⟨i,hin,hio,hib.trans e4⟩)
     ·exact hst.vU k hk ⟨p,h1,L',q,cs',h2,h3,h4,h5.trans e4⟩
   ·by_cases hpg:p=g
    ·rw[<-k3,hpg,gg]at e1;cases e1;have hql:=(List.getElem?_eq_some_iff.1 e2).1;rw[hpg,(E.tab q (by omega)).1]at e4;exact hst.vU k hk ⟨g,hgn,L,q,cs',gg,e2,e3,e4⟩
    ·rw[bne p hpg]at e4;exact hst.vU k hk ⟨p,by omega,L2,q,cs',by rw[k3];exact e1,e2,e3,e4⟩
   ·rw[k2]at e1;cases e1
 refine h βI mI wI hnI m2 (by rw[<-hM];exact eU H (by simpa [Nat.blt_eq]using ok.bnd)) β2 w a Q ⟨hr.size,hr.small,fun t ht=>?_,fun t ht=>?_⟩ hst2 hq
 ·have hrt:=hr.rel t ht;have hokt:=ok.ij.at t;rw[<-n2]at hokt
  rcases hR.at t with k|⟨k1,k2⟩|⟨c,c',k1,k2,k3⟩|⟨c,c',k1,k2,k3⟩
  ·rw[k];trivial
  ·rw[k2]at hrt;exact E.QM hrt
  ·rw[k2]at hrt;rw[k1]at hokt ⊢;exact⟨hokt,hrt.2.trans (E.cell k3).symm⟩
  ·rw[k2]at hrt;rw[k1]at hokt ⊢;exact⟨hokt,hrt.2.trans (by rw[(E.cells k3).1])⟩
 ·have hot:=hr.out t ht
  rcases hR.at t with k|⟨k1,k2⟩|⟨c,c',k1,k2,k3⟩|⟨c,c',k1,k2,k3⟩
  ·exact k
  ·rw[<-k2];exact hot
  ·rw[k2]at hot;cases hot
  ·rw[k2]at hot;cases hot
theorem WX.BN{P:Program}{nt nI:Nat}{al:aN}{hs:ah}{K:ch}{c:sd}{L:List (List XC)}{vs us:List XC}{e:TypeId}{opn:Bool}(hg:hs[g]? = some (.late L))(hi:hs[i]? = some (.cells us e opn false))(hgI:nI<=g)(hm:L.length=m)(hv:vs.map (·.self g)=us)(hvl:∀c∈vs,c.lI m=true)
 {R:aN} {H:ah}(hH:bh i g m (.slice i 0 n cp) (.lsl g m 0 n n 0) L vs 0 hs H) (hR:ib g m (.slice i 0 n cp) (.lsl g m 0 n n 0) al R) (hok:sJ nI R H) (hn:(∃c,cp = .exact c/\n<=c)\/∃s,cp = .toEnd s/\0<s/\n*s<=us.length)
 (h:WX P nt nI c R H K):WX P nt nI c al hs K:=by
 refine WX.Sp hg hgI hm hvl (fun β mm w hmm rel=>?_) hH hR hok h;have nn:=hmm.n;have hin:i<mm.n:=by rw[nn];exact(List.getElem?_eq_some_iff.1 hi).1
 have gi:mm.get i = .cells us e opn false:=hmm.at hi;have ho:=rel.obj i hin;rw[gi]at ho;obtain⟨cs,fr,h1,h2,h3,h4,h5,h6⟩:=ho;have hbase : β.base i=0:=(h4 rfl).2;rw[hbase]at h6 h2
 obtain⟨cap,hcap,hden⟩:∃cap,n<=cap/\(XC.slice i 0 n cp).den β = .slice (some ⟨β.bD i,0,none⟩) n cap:=by
  rcases hn with⟨q,rfl,hq⟩|⟨s,rfl,hs0,hq⟩
  ·exact⟨q,hq,by simp only[XC.den,hbase]⟩
  ·refine⟨(β.size i-0)/s,?_,by simp only[XC.den,hbase]⟩;rw[Nat.le_div_iff_mul_le hs0];split at h3<;>omega
 refine⟨β.bD i,0,cap,fun β2 t1 t3 t4=>by simp only[XC.den,t1,t3,t4,hden,Nat.add_zero,Nat.sub_zero,Nat.max_eq_right hcap],fun _=>⟨⟨cs,e,fr,h1,?_⟩,.inl ⟨hin,by rw[gi];rfl,rfl⟩⟩⟩;have hl:us.length=vs.length:=by rw[<-hv,List.length_map]
 rw[hl]at h6;rw[h6,<-hv]
theorem XC.eQ{c:XC}(h:c.lI 0=true)(g:Nat):c.self g=c:=by
 cases c with
 | ptr i off=>cases h
 | slice i off len cap=>cases h
 | map i=>cases h
 | bind g c=>cases h
 | lsl g' k off len fl cut=>cases h
 | lpt g' k off=>cases h
 | _=>rfl
theorem eQ{vs:List XC}(h:∀c∈vs,c.lI 0=true)(g:Nat):vs.map (·.self g)=vs:=
 (List.map_congr_left fun c hc=>XC.eQ (h c hc) g).trans (List.map_id' _)
end
theorem XC.Jg{c:XC}{m:Nat}(h:c.lI m=true)(g:Nat)(τ : Nat->Nat):(c.self g).aB τ = c.self (τ g):=by
 cases c with
 | ptr i off=>cases h
 | slice i off len cap=>cases h
 | map i=>cases h
 | bind g c=>cases h
 | _=>rfl
theorem rR{vs:List XC}{m:Nat}(h:∀c∈vs,c.lI m=true)(g:Nat)(τ : Nat->Nat):(vs.map (·.self g)).map (·.aB τ)=vs.map (·.self (τ g)):=by
 rw[List.map_map];exact List.map_congr_left fun c hc=>XC.Jg (h c hc) g τ
theorem gu{vs:List XC}{m:Nat}(h:∀c∈vs,c.lI m=true)(g j:Nat):∀c∈vs.map (·.self j),c.mg g m:=fun c hc=>by
 obtain⟨d,hd,rfl⟩:=List.mem_map.1 hc;exact XC.u5 (h d hd)
theorem u6{vs:List XC}{m:Nat}(h:∀c∈vs,c.lI m=true){g n:Nat}(hg:g<n){t:TypeId}{a b:Bool}:(aj.cells (vs.map (·.self g)) t a b).bH n:=fun c hc=>by
 obtain⟨d,hd,rfl⟩:=List.mem_map.1 hc;exact XC.DX (h d hd) hg
theorem FT{vs:List XC}(h:vs.all XC.shut=true)(g:Nat):vs.map (·.self g)=vs:=by
 rw[List.all_eq_true]at h;refine(List.map_congr_left (g:=id) fun c hc=>?_).trans (List.map_id _);have:=h c hc;cases c<;>first|rfl|cases this
theorem gB(k:IntKind)(q:List Int)(m:Nat):∀c∈il k q,c.lI m=true:=fun c hc=>by
 obtain⟨z,_,rfl⟩:=List.mem_map.1 hc;rfl
theorem WX.sK{P:Program}{nt nI:Nat}{al:aN}{hs:ah}{K:ch}{c:sd}{L:List (List XC)}{vs us:List XC}{e:TypeId}{opn:Bool}(i g n:Nat)(cp:py)(R:aN)(H:ah){m:Nat}(hvl:∀c∈vs,c.lI m=true)(hn:(∃c,cp = .exact c/\n<=c)\/∃s,cp = .toEnd s/\0<s/\n*s<=us.length)(hm:L.length=m)(hg:hs[g]? = some (.late L):=by exact rfl)(hi:hs[i]? = some (.cells us e opn false):=by exact rfl)(hgI:Nat.ble nI g=true:=by exact rfl)(hv:vs.map (·.self g)=us:=by exact rfl)
 (hH:bh i g m (.slice i 0 n cp) (.lsl g m 0 n n 0) L vs 0 hs H:=by repeat' (first|exact bh.nil|refine bh.ghost ?_|refine bh.flat rfl ?_|refine bh.cells rfl (dM.same (gu (by assumption) _ _)) ?_|refine bh.dead ?_)) (hR:ib g m (.slice i 0 n cp) (.lsl g m 0 n n 0) al R:=by repeat' (first|exact ib.nil|refine ib.flat rfl ?_|refine ib.one rfl oZ.BN ?_|refine ib.one rfl (oZ.same (by first|trivial|decide|(intro h;first|exact absurd h (by decide)|omega))) ?_)) (hok:sJ nI R H:=by exact nf)
 (h:WX P nt nI c R H K):WX P nt nI c al hs K:=
 WX.BN hg hi (Nat.le_of_ble_eq_true hgI) hm hv hvl hH hR hok hn h
def p9(L:List (List XC))(g:Nat)(c:XC)(vs:List XC)(n:Nat):Prop:=(n=0/\(c = .nils\/∃i,c = .lem i))\/∃k fl,n<=fl/\c = .lsl g k 0 n fl 0/\L[k]? = some vs
theorem p9.ok{L:List (List XC)}{g:Nat}{c:XC}{vs:List XC}{n m:Nat}(h:p9 L g c vs n)(hg:g<m):c.ok m:=by
 rcases h with⟨_,rfl|⟨i,rfl⟩⟩|⟨k,fl,_,rfl,_⟩
 ·trivial
 ·trivial
 ·exact hg
theorem p9.aB{L:List (List XC)}{g:Nat}{c:XC}{vs:List XC}{n:Nat}(h:p9 L g c vs n)(τ : Nat->Nat):p9 L (τ g) (c.aB τ) vs n:=by
 rcases h with⟨h0,rfl|⟨i,rfl⟩⟩|⟨k,fl,h1,rfl,h2⟩
 ·exact .inl ⟨h0,.inl rfl⟩
 ·exact .inl ⟨h0,.inr ⟨i,rfl⟩⟩
 ·exact .inr ⟨k,fl,h1,rfl,h2⟩
theorem p9.id{L:List (List XC)}{g:Nat}{c:XC}{vs:List XC}{n:Nat}(h:p9 L g c vs n){τ : Nat->Nat}(hg : τ g=g):c.aB τ = c:=by
 rcases h with⟨h0,rfl|⟨i,rfl⟩⟩|⟨k,fl,h1,rfl,h2⟩
 ·rfl
 ·rfl
 ·simp only[XC.aB,hg]
section
variable {P:Program} {ops:Array Oper} {nt nI:Nat} {al:aN} {hs:ah} {o:Oper} {l:List Oper} {I:List az} {K:List Ab->aN->ah->Prop} {d:Nat}
theorem Mo{t1 e1:TypeId}(hu:P.underlying t1=some (.slice e1)){b:Operand}{L:List (List XC)}{g n:Nat}{c:XC}{vs:List XC}{sz:Nat}(hb:ae (rg al) b = .one c)(hc:p9 L g c vs n)(hsz:0<sz)(hi:hs[g]? = some (.late L))(hn:n*sz<=vs.length){r:List XC}(hr:((vs.map (·.self g)).take (n*sz))=r):∀M,aZ M hs->jZ P t1 sz (ae (rg al) b) M=some (n,r):=by
 rcases hc with⟨h0,h1⟩|⟨k,fl,h1,rfl,h2⟩
 ·subst h0;intro M hM;rw[Nat.zero_mul,List.take_zero]at hr;subst hr;rw[hb];unfold jZ
  rcases h1 with rfl|⟨i,rfl⟩<;>simp only[hu]
 ·exact D3 hu hb hsz hi h2 (by omega) (by rw[List.drop_zero];exact hr)
end
end Go.Xm
namespace Go.Xm
open Go.ChangeShapes Go.WideShapes Go.ChangeAt Go.RowKit Go.Deep
def S9:Value->Nat×Nat×Nat
 | .slice (some a) _ cap=>(a.block,a.off,cap)
 | _=>(0,0,0)
def Q8:Value->Nat
 | .slice _ n _=>n
 | _=>0
structure GQ(w:World)(k:IntKind)(v:Value):Prop where
 sl:v = .slice none 0 0\/(∃a cap,v = .slice (some a) 0 cap)\/∃b off n cap,0<n/\n<=cap/\n<=9223372036854775807/\v = .slice (some ⟨b,off,none⟩) n cap
 num:∀i,i<Q8 v->∃z,w.cell? ⟨(S9 v).1,(S9 v).2.1+i,none⟩=some (.int k z)/\(Lit.int k z).wf=true
variable [ak]
theorem p9.self{L:List (List XC)}{c:XC}{vs:List XC}{n:Nat}(h:p9 L 0 c vs n)(g:Nat):p9 L g (c.self g) vs n:=by
 rcases h with⟨h0,rfl|⟨i,rfl⟩⟩|⟨k,fl,h1,rfl,h2⟩
 ·exact .inl ⟨h0,.inl rfl⟩
 ·exact .inl ⟨h0,.inr ⟨i,rfl⟩⟩
 ·exact .inr ⟨k,fl,h1,rfl,h2⟩
end Go.Xm
namespace Go.Xm
variable [ak]
section
variable {P:Program} {ops:Array Oper} {nt nI:Nat} {al:aN} {hs:ah} {o:Oper} {l:List Oper} {L:List az} {K:List Ab->aN->ah->Prop} {d:Nat}
theorem Ti{t t1 e e1:TypeId}{sz len:Nat}{a b:Operand}{zs:List XC}(i n:Nat){j:Nat}{cp cap:py}{cs vs:List XC}{et:TypeId}{opn opn' ro:Bool}{N:Nat}{hs1 hs2:ah}(hcap:cp = .exact n\/(cp = .toEnd sz/\opn=true/\0<n))(h1:SK P ops nt L l ((d,.one (.slice N 0 (n+len) (.toEnd sz)))::al) hs1 fun bs=>K (⟨true,.none,[N]⟩::bs))(h2:SK P ops nt L l ((d,.one (.slice N 0 (n+len) (.toEnd sz)))::al) hs2 fun bs=>K (⟨true,.none,[i,N]⟩::bs))(ho:o.op = .call ⟨.builtin .append,#[a,b],#[t,t1]⟩:=by exact rfl)(hu:aP P t (.slice e):=by infer_instance)(hu1:aP P t1 (.slice e1):=by infer_instance)(hz:aL P e zs:=by infer_instance)(hI:TI P e sz:=by infer_instance)(wn:Wn ops nt al o d:=by exact⟨rfl,rfl,rfl⟩)(hsz:zs.length=sz/\0<sz:=by exact⟨rfl,Nat.le_of_ble_eq_true rfl⟩)(ha:ae (rg al) a = .one (.slice i 0 n cp):=by exact rfl)(hi:hs[i]? = some (.cells cs e opn false):=by exact rfl)(hb:ae (rg al) b = .one (.slice j 0 len cap):=by exact rfl)(hj:hs[j]? = some (.cells vs et opn' ro):=by exact rfl)(hl:vs.length=len*sz:=by exact rfl)(hn:cs.length=n*sz)(hm:0<len/\n+len<=2000000000:=by omega)(hN:hs.length=N:=by exact n2)(hbd:Nat.blt N Mem.bound=true:=by exact rfl)(hh1:hs++[.cells (cs++vs) e true false]=hs1:=by exact n3)(hh2:hs.set i .dead++[.cells (cs++vs) e true false]=hs2:=by first|(simp only[List.set_cons_succ,List.set_cons_zero,List.cons_append,List.nil_append];exact rfl)|exact rfl):SK P ops nt L (o::l) al hs K:=by
 have hsrc:∀M,aZ M hs->jZ P t1 sz (ae (rg al) b) M=some (len,vs):=jX (hu:=hu1) hb hj hl
 rcases hcap with rfl|⟨rfl,rfl,h0⟩
 ·subst hN hh1;obtain⟨ti,hti,rfl,hby⟩:=hI.get;obtain⟨z1,z2⟩:=hsz;have hbytes:(n+len)*ti.bytes<=140737488355328:=Nat.le_trans (Nat.mul_le_mul_left _ hby) (by omega);refine SK.lift wn.e wn.l (fun _=>?_) h1;intro M hM;obtain⟨m',p1,p2,p3⟩:=hM.push (.cells (cs++vs) e true false) (by simpa [Nat.blt_eq]using hbd);refine⟨m',?_,p2,p3⟩;unfold jg;rw[wn.w];refine cg (by rw[ho];rfl) (by rw[ho];rfl) (by rw[ho];rfl) ?_;rw[ho];have e2:0+n*ti.size<=cs.length:=by omega
  have e3:(cs.drop 0).take (n*ti.size)++vs=cs++vs:=by
   rw[List.drop_zero,List.take_of_length_le (by omega)]
  simp only[b9,jf,dT,hu.out,hti,hz.out,ha,hsrc M hM,List.getElem?_toArray,List.getElem?_cons_zero,List.getElem?_cons_succ,hM.at hi];rw[if_pos ⟨z1,z2⟩,if_neg (show¬n+len<=n by omega),if_pos ⟨by omega,hbytes⟩,if_pos e2,e3,p1,hM.n]
 ·have hpos:0<n*sz:=Nat.mul_pos h0 hsz.2;have hne:cs≠[]:=fun e=>by rw[e]at hn;simp at hn;omega
  exact R8 (cs:=cs) hsrc h2 ho hu hz hI wn hsz (ha.trans (fi (by omega)).symm) (hi.trans (congrArg some (cz hne).symm)) hn hm hN hbd hh2
theorem v9{t:TypeId}{a:Operand}{g k off:Nat}{LL:List (List XC)}{cs:List XC}{c x:XC}(hk:SK P ops nt L l ((d,.one x)::al) hs fun bs=>K (⟨false,some g,[]⟩::bs))(hL:LL[k]? = some cs)(hc:cs[off]? = some c)(hx:c.self g=x)(ho:o.op = .load t a:=by exact rfl)(ht:cK P t:=by infer_instance)(wn:Wn ops nt al o d:=by exact⟨rfl,rfl,rfl⟩)(ha:ae (rg al) a = .one (.lpt g k off):=by exact rfl)(hi:hs[g]? = some (.late LL):=by exact rfl):SK P ops nt L (o::l) al hs K:=by
 subst hx;exact S7 hk hL hc ho ht wn ha hi
theorem Mn{t1 e1:TypeId}[hu:aP P t1 (.slice e1)]{b:Operand}{LL:List (List XC)}{g:Nat}{c:XC}{kd:IntKind}{p:List Int}(hb:ae (rg al) b = .one c)(hc:p9 LL g c (il kd p) p.length)(hi:hs[g]? = some (.late LL)):∀M,aZ M hs->jZ P t1 1 (ae (rg al) b) M=some (p.length,il kd p):=
 Mo hu.out hb hc (by decide) hi (by rw[bu];omega) (by rw[eQ (gB kd p 0),List.take_of_length_le (by rw[bu];omega)])
end
theorem p9.back{L:List (List XC)}{i:Nat}{c:XC}{vs:List XC}{n:Nat}(h:p9 L i c vs n)(j:Nat)(τ : Nat->Nat)(hj : τ j=i):∃c0,p9 L j c0 vs n/\c0.aB τ = c:=by
 rcases h with⟨h0,rfl|⟨a,rfl⟩⟩|⟨k,fl,h1,rfl,h2⟩
 ·exact⟨.nils,.inl ⟨h0,.inl rfl⟩,rfl⟩
 ·exact⟨.lem a,.inl ⟨h0,.inr ⟨a,rfl⟩⟩,rfl⟩
 ·exact⟨.lsl j k 0 n fl 0,.inr ⟨k,fl,h1,rfl,h2⟩,by simp only[XC.aB,hj]⟩
theorem stM{nI:Nat}{al:aN}{hs:ah}(le:Nat.ble nI hs.length=true:=by exact rfl)(bnd:Nat.blt hs.length Mem.bound=true:=by exact rfl)(objs:aw hs.length hs:=by repeat' (first|exact aw.nil|refine aw.flat ?_|refine aw.cons (by first|(simp[aj.bH,XC.ok,aJ];done)|(simp[aj.bH,XC.ok,aJ, *];done)) ?_))(ij:jO hs.length al:=by repeat' (first|exact jO.nil|refine jO.flat ?_|refine jO.cons (by first|exact trivial|exact jJ (Nat.le_of_ble_eq_true rfl)|exact p9.ok (by assumption) (Nat.le_of_ble_eq_true rfl)|exact cY.ok ‹_› (Nat.le_of_ble_eq_true rfl)|(simp[XV.bH,XC.ok,X1.ok];done)|(simp[XV.bH,XC.ok,X1.ok,aJ, *];done)) ?_)):sJ nI al hs:=⟨le,bnd,objs,ij⟩
structure xF(p:Prop):Prop where
 out:p
section
variable {P:Program} {nt nI:Nat} {al:aN} {hs:ah}
theorem ll(id:Nat){ops:Array Oper}{dr:Bool}{b:Code}{K:ch}(h:xF (WX P nt nI (.code (.seq (.region id ops dr) b)) al hs K)):WX P nt nI (.code (.seq (.region id ops dr) b)) al hs K:=h.out
theorem uc(id:Nat){ops:Array Oper}{dr:Bool}{x b:Code}{K:ch}(h:xF (WX P nt nI (.code (.seq (.seq (.region id ops dr) x) b)) al hs K)):WX P nt nI (.code (.seq (.seq (.region id ops dr) x) b)) al hs K:=h.out
theorem M8(id:Nat){ops:Array Oper}{dr:Bool}{K:ch}(h:xF (WX P nt nI (.code (.region id ops dr)) al hs K)):WX P nt nI (.code (.region id ops dr)) al hs K:=h.out
end
def Ew(L:List (List XC))(cs:List XC)(ps:List (List Int)):Prop:=
 cs.length=ps.length/\∀i,i<ps.length->p9 L 0 (cs.getD i .nils) (il .u8 (ps.getD i [])) (ps.getD i []).length
theorem Qs{L:List (List XC)}{cs:List XC}{ps:List (List Int)}(h:Ew L cs ps){i:Nat}(hi:i<ps.length)(g:Nat):∃c x,cs[i]? = some c/\c.self g=x/\p9 L g x (il .u8 (ps.getD i [])) (ps.getD i []).length:=by
 have hi2:i<cs.length:=by rw[h.1];exact hi
 refine⟨cs.getD i .nils,_,?_,rfl,(h.2 i hi).self g⟩;rw[List.getD_eq_getElem?_getD,List.getElem?_eq_getElem hi2];rfl
end Go.Xm
namespace Go.Proofs.YthdciapjllppjaaGreat
open Go.Xm
variable [ak]
def Su(b m:List Int):Nat->List Int
 | 0=>b
 | k+1=>if 21+k<b.length then(Su b m k).set (21+k) (uj .u8 ((Su b m k).getD (21+k) 0) (m.getD k 0))else Su b m k
def iS(ps:List (List Int)):Nat->List Int
 | 0=>[]
 | i+1=>iS ps i++ps.getD i []
def tX(g:Nat->Int):Nat->Nat->Option Nat
 | 0,_=>none
 | k+1,i=>if g i=0/\g (i+1)=0/\g (i+2)=1 then some i else tX g k (i+1)
def findF(g:Nat->Int)(n i:Nat):Option Nat:=tX g (n-2-i) i
def du(b:List Int)(off i:Nat):Int:=b.getD (off+i) 0
theorem kr{g:Nat->Int}{n i:Nat}(h:i+2<n)(hg:g i=0/\g (i+1)=0/\g (i+2)=1):findF g n i=some i:=by
 unfold findF;rw[show n-2-i=(n-2-i-1)+1 by omega,tX,if_pos hg]
theorem xY{g:Nat->Int}{n i:Nat}(h:i+2<n)(hg:¬(g i=0/\g (i+1)=0/\g (i+2)=1)):findF g n i=findF g n (i+1):=by
 unfold findF;rw[show n-2-i=(n-2-(i+1))+1 by omega,tX,if_neg hg]
theorem qi{g:Nat->Int}{n i:Nat}(h:n<=i+2):findF g n i=none:=by
 unfold findF;rw[show n-2-i=0 by omega,tX]
def nW(r:Option Nat):Int:=((r.getD 0:Nat):Int)
theorem HC{L:List (List XC)}{k off n fL cut:Nat}{b:List Int}(hL:L[k]? = some (il .u8 b))(hb:off+n<=b.length)(hn:n<=1000000000)(frm:Nat)(hfr:frm<=1000000000){r:Option Nat}(hr:findF (du b off) n frm=r) :
 bq prog 34 [.one (.lsl 0 k off n fL cut),.one (.int .i64 (frm:Nat))] [.late L] (.tup [.one (.int .i64 (nW r)),.one (.bool r.isSome)]) [.late L]:=by
 refine cO Tryz.func34 ?_
 repeat' (first|refine zz ?_|refine zx (fun _=>?_) (fun _=>?_)|fail)
 refine WX.cj (σ:=Nat) (fun i=>[(0,.one (.lsl 0 k off n fL cut)),(6,.one (.int .i64 (i:Nat)))]) (fun i=>[.late L]) (fun i=>(i=frm\/i+2<=n)/\findF (du b off) n i=r) (fun i=>n-i) frm ⟨.inl rfl,hr⟩ (fun i _=>stM) (bV [0] (reg:=by(repeat' (first|exact ai.nil|refine ai.flat (by rw[show max (frm:Int) 0=(frm:Nat) by omega];rfl) ?_|refine rz ?_|refine ai.sl rfl (by assumption) rfl ?_));first|done|fail)) ?_;intro i ⟨hi,hf⟩ ih
 by_cases hlt:i+2<n
 ·have e0 : off+(i:Int).toNat*1=off+i:=by omega
  have e1:off+((i:Int)+1).toNat*1=off+(i+1):=by omega
  have e2:off+((i:Int)+2).toNat*1=off+(i+2):=by omega
  have l0:off+i<b.length:=by omega
  have l1:off+(i+1)<b.length:=by omega
  have l2:off+(i+2)<b.length:=by omega
  have hy:=kr (g:=du b off) hlt;have hno:=xY (g:=du b off) hlt;unfold du at hy hno
  by_cases h0:b.getD (off+i) 0=0
  ·by_cases h1:b.getD (off+(i+1)) 0=0
   ·by_cases h2:b.getD (off+(i+2)) 0=1
    ·have hr2:r=some i:=hf.symm.trans (hy ⟨h0,h1,h2⟩);subst hr2
     repeat' (first
      |(refine qz ?_;first
       |refine kY ?_
       |refine mf ?_ (hp:=e0)
       |refine mf ?_ (hp:=e1)
       |refine mf ?_ (hp:=e2)
       |refine sM ?_ hL l0
       |refine sM ?_ hL l1
       |refine sM ?_ hL l2)
      |refine zz ?_|refine zx (fun _=>?_) (fun _=>?_)|fail)
     show aE _ _ _ _ _ _ _ _;refine kV [0] ?_;rfl
    ·have hf2:=hf;rw[show findF (du b off) n i=findF (du b off) n (i+1)from hno (fun h=>h2 h.2.2)]at hf2
     repeat' (first
      |(refine qz ?_;first
       |refine kY ?_
       |refine mf ?_ (hp:=e0)
       |refine mf ?_ (hp:=e1)
       |refine mf ?_ (hp:=e2)
       |refine sM ?_ hL l0
       |refine sM ?_ hL l1
       |refine sM ?_ hL l2)
      |refine zz ?_|refine zx (fun _=>?_) (fun _=>?_)|fail)
     exact ih (i+1) _ _ _ (bV [0]) ⟨.inr (by omega),hf2⟩ (by omega)
   ·have hf2:=hf;rw[show findF (du b off) n i=findF (du b off) n (i+1)from hno (fun h=>h1 h.2.1)]at hf2
    repeat' (first
     |(refine qz ?_;first
      |refine kY ?_
      |refine mf ?_ (hp:=e0)
      |refine mf ?_ (hp:=e1)
      |refine mf ?_ (hp:=e2)
      |refine sM ?_ hL l0
      |refine sM ?_ hL l1
      |refine sM ?_ hL l2)
     |refine zz ?_|refine zx (fun _=>?_) (fun _=>?_)|fail)
    exact ih (i+1) _ _ _ (bV [0]) ⟨.inr (by omega),hf2⟩ (by omega)
  ·have hf2:=hf;rw[show findF (du b off) n i=findF (du b off) n (i+1)from hno (fun h=>h0 h.1)]at hf2
   repeat' (first
    |(refine qz ?_;first
     |refine kY ?_
     |refine mf ?_ (hp:=e0)
     |refine mf ?_ (hp:=e1)
     |refine mf ?_ (hp:=e2)
     |refine sM ?_ hL l0
     |refine sM ?_ hL l1
     |refine sM ?_ hL l2)
    |refine zz ?_|refine zx (fun _=>?_) (fun _=>?_)|fail)
   exact ih (i+1) _ _ _ (bV [0]) ⟨.inr (by omega),hf2⟩ (by omega)
 ·have hr2:r=none:=hf.symm.trans (qi (by omega));subst hr2
  repeat' (first
   |(refine qz ?_;first
    |refine kY ?_)
   |refine zz ?_|refine zx (fun _=>?_) (fun _=>?_)|fail)
  show aE _ _ _ _ _ _ _ _;refine kV [0] ?_;rfl
theorem La{L:List (List XC)}{g k off n fL cut:Nat}{b:List Int}(hL:L[k]? = some (il .u8 b))(hb:off+n<=b.length)(hn:n<=1000000000){frm:Nat}{z:Int}(hz:z=(frm:Nat))(hfr:frm<=1000000000){r:Option Nat}(hr:findF (du b off) n frm=r){HS:ah}(hi:HS[g]? = some (.late L))(hbd:Nat.blt HS.length Mem.bound=true) :
 az.Sound prog ⟨34,[.one (.lsl g k off n fL cut),.one (.int .i64 z)],HS,.tup [.one (.int .i64 (nW r)),.one (.bool r.isSome)],HS,[]⟩:=by
 subst hz;exact fM [g] (HC hL hb hn frm hfr hr) (by simp) (.flat hi .nil) (.flat .nil) (.cons (show 0<1 by omega) (.flat .nil)) (.cons rfl (.flat .nil)) (by simp[XV.bH,X1.ok,XC.ok]) rfl hbd rfl
def TZ(n:Int)(r:Nat):List Int:=(List.range 7).map fun i=>if i<r then 0 else n/2^(6-i)%2
def q7(n:Int):List Int:=TZ n 0
end Go.Proofs.YthdciapjllppjaaGreat
namespace Go.Xm
variable [ak]
variable {P:Program} {ops:Array Oper} {nt nI:Nat} {al:aN} {hs:ah} {o:Oper} {l:List Oper} {L:List az} {K:List Ab->aN->ah->Prop} {d:Nat}
theorem SW{t t1 e e1:TypeId}{a b:Operand}{k:IntKind}{i n:Nat}{r:List Int}{et:TypeId}{opn ro:Bool}{N:Nat}{hs':ah}(hr:r.length=n)(h0:n≠0)(hsrc:∀M,aZ M hs->jZ P t1 1 (ae (rg al) b) M=some (n,il k r))(h2:SK P ops nt L l ((d,.one (.slice N 0 n (.toEnd 1)))::al) hs' fun bs=>K (⟨true,.none,[N]⟩::bs))(ho:o.op = .call ⟨.builtin .append,#[a,b],#[t,t1]⟩:=by exact rfl)(hu:aP P t (.slice e):=by infer_instance)(hu1:aP P t1 (.slice e1):=by infer_instance)(hz:aL P e [.int k 0]:=by infer_instance)(hI:TI P e 1:=by infer_instance)(wn:Wn ops nt al o d:=by exact⟨rfl,rfl,rfl⟩)(ha:ae (rg al) a = .one (.slice i 0 0 (.exact 0)):=by exact rfl)(hi:hs[i]? = some (.cells (il k []) et opn ro):=by exact rfl)(hm:n<=2000000000:=by omega)(hN:hs.length=N:=by exact n2)(hbd:Nat.blt N Mem.bound=true:=by exact rfl)(hh:hs++[.cells (il k r) e true false]=hs':=by exact n3):SK P ops nt L (o::l) al hs K:=
 NH (q:=[]) hr hsrc (fun h=>absurd h h0) (fun _=>by rw[Nat.zero_add];exact h2) ho hu hu1 hz hI wn ha hi rfl (by omega) hN hbd hh
theorem KA{t e:TypeId}{a:Operand}{lo hi:Option Operand}{s:Nat}{g k off n fl cut p q o' m:Nat}{z w:Int}(hk:SK P ops nt L l ((d,.one (.lsl g k o' m (fl-p) (cut+p)))::al) hs fun bs=>K (quiet::bs))(ho:o.op = .slice t a lo hi .none:=by exact rfl)(hu:aP P t (.slice e):=by infer_instance)(hs':aG P e s:=by infer_instance)(wn:Wn ops nt al o d:=by exact⟨rfl,rfl,rfl⟩)(ha:ae (rg al) a = .one (.lsl g k off n fl cut):=by exact rfl)(hl:qE (lo.map (ae (rg al))) 0=some z:=by exact rfl)(hh:qE (hi.map (ae (rg al))) (n:Nat)=some w:=by exact rfl)(hp:z=(p:Nat):=by first|exact rfl|omega)(hq:w=(q:Nat):=by first|exact rfl|omega)(hb:p<=q/\q<=fl/\(p=0\/p<fl):=by omega)(e1:off+p*s=o':=by omega)(e2:q-p=m:=by omega):SK P ops nt L (o::l) al hs K:=by
 subst e1 e2;exact Ta hk ho hu hs' wn ha hl hh hp hq hb
theorem D4{t1 e1:TypeId}[hu:aP P t1 (.slice e1)]{b:Operand}{LL:List (List XC)}{g k off n fl cut:Nat}{p r:List Int}(hL:LL[k]? = some (il .u8 p))(hr:(p.drop off).take n=r)(hn:off+n<=p.length)(hb:ae (rg al) b = .one (.lsl g k off n fl cut))(hi:hs[g]? = some (.late LL)):∀M,aZ M hs->jZ P t1 1 (ae (rg al) b) M=some (n,il .u8 r):=
 D3 hu.out hb (by decide) hi hL (by rw[bu];omega) (by
  rw[eQ (gB .u8 p 0),Nat.mul_one,<-hr];unfold il
  rw[<-List.map_drop,<-List.map_take])
end Go.Xm
