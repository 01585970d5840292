/-
  A part of the proof: StrH, XvLate, XvNest, StrM, WkA, StrX, WkB, WkC.
-/
import Derived.Test.YthdciapjllppjaaGreatWbE
import Derived.Test.YthdciapjllppjaaGreatWbF
import Derived.Test.YthdciapjllppjaaGreatWbN
import Derived.Test.YthdciapjllppjaaGreatWbQ
set_option maxRecDepth 10000
set_option maxHeartbeats 8000000
set_option linter.unusedVariables false
set_option linter.unusedSectionVars false
set_option linter.unusedSimpArgs false
open Go.Proofs.Tryz (prog)
namespace Go.Proofs.YthdciapjllppjaaGreat
open Go.Xm
variable [aq]
theorem tY(bs:List Bool)(hb:bs.length<=1000000):e_ (wr bs) bs:=
 ⟨by rw[cN];omega,iL bs,fun j _=>C7 bs j,by rw[cN];omega⟩
theorem NK(bs:List Bool):RO (av bs) .u8 (wr bs):=⟨fun h=>⟨_,true,false,cK (fun e=>by
 have:(il .u8 (wr bs)).length=0:=by rw[e];rfl
 rw[bz]at this;omega)⟩,inferInstance⟩
theorem I9{p:Ph}(hp:pK p){bs:List Bool}(hb:bs.length<=100000){HS:aj}{i k:Nat}(hi:HS[i]? = some (aP k bs))(hk:HS[k]? = some (av bs))(hd:i≠k){q:List Bool}(hq:NF bs p=q){N:Nat}(hN:HS.length=N){HS':aj}(hh:bJ HS [i,k] [aP N q,.dead,av q]=HS')(hbd:Nat.blt HS'.length Mem.bound=true) :
 aA.Sound prog ⟨65,[.agg (tu p),.one (.ptr i 0)],HS,.one (.int .i64 0),HS',[i,k]⟩:=by
 subst hq;exact I8 hp hb hi hk hd hN hh hbd
theorem fu{n:Int}{size:Nat}{z:Int}(hz:z=(size:Nat)){bs:List Bool}(hn:0<=n/\n<18446744073709551616)(hs:size<=64)(hb:bs.length<=1000000){HS:aj}{i k:Nat}(hi:HS[i]? = some (aP k bs))(hk:HS[k]? = some (av bs))(hd:i≠k){q:List Bool}(hq:bs++aJ n size=q){N:Nat}(hN:HS.length=N){HS':aj}(hh:bJ HS [i,k] [aP N q,.dead,av q]=HS')(hbd:Nat.blt HS'.length Mem.bound=true) :
 aA.Sound prog ⟨46,[.one (.ptr i 0),.one (.int .u64 n),.one (.int .i64 z)],HS,.tup [],HS',[i,k]⟩:=by
 subst hq;exact fq hz hn hs hb hi hk hd hN hh hbd
theorem cJ{L:List Int}{B:List Bool}(h:e_ L B){q q':Nat}{x:Int}{n:Nat}(hv:bX B n (q,false)=(x,(q',false))){z:Int}(hz:z=(n:Nat))(hn:n<=32){HS:aj}{i k:Nat}(hi:HS[i]? = some (gF k L B q false))(hk:HS[k]? = some (dT L))(hd:i≠k){HS':aj}(hh:HS.set i (gF k L B q' false)=HS')(hbd:Nat.blt HS'.length Mem.bound=true) :
 aA.Sound prog ⟨69,[.one (.ptr i 0),.one (.int .i64 z)],HS,.one (.int .u64 x),HS',[i]⟩:=by
 have:=Js h (q,false) hz hn hi hk hd (HS':=HS') (by rw[hv];exact hh) hbd;rw[hv]at this;exact this
theorem Aw{p:Ph}{first count all:Int}{a b:List Int}(hk:xZ p first count a.length b.length all)(ha:bj a)(hb:bj b){B:List Bool}(hB:kB p first count (a.length:Nat) (b.length:Nat) (c9 a) (c9 b) (c9 (wr (fT p first count (a.length:Nat) (b.length:Nat) (c9 a) (c9 b))))=B) :
 bt prog 33 [.agg (Rt p first count (.slice 0 0 a.length (.toEnd 1)) (.slice 1 0 b.length (.toEnd 1))),.one (.int .i64 all)] [.cells (il .u8 a) 5 true false,.cells (il .u8 b) 5 true false] (.tup [.one (.slice 2 0 (eh B a b).length (.toEnd 1)),.one (.int .i64 0)]) [.cells (il .u8 a) 5 true false,.cells (il .u8 b) 5 true false,.cells (il .u8 (eh B a b)) 5 true false]:=by
 have hph:=hk.ph;have h1:=hk.fst;have h2:=hk.cnt;have h3:=hk.fit;have h4:=hk.most;have h5:=hk.a;have h6:=hk.b
 obtain⟨sa,hsa⟩:∃s,c9 a=s:=⟨_,rfl⟩
 obtain⟨sb,hsb⟩:∃s,c9 b=s:=⟨_,rfl⟩
 have ra:=gf a;have rb:=gf b;rw[hsa]at ra hB;rw[hsb]at rb hB
 obtain⟨S,hSd⟩:∃S,fT p first count (a.length:Nat) (b.length:Nat) sa sb=S:=⟨_,rfl⟩
 have hSl:S.length=101:=by rw[<-hSd];exact rX ..
 unfold kB at hB;rw[hSd]at hB
 obtain⟨su,hsu⟩:∃s,c9 (wr S)=s:=⟨_,rfl⟩
 have ru:=gf (wr S);rw[hsu]at ru hB;have hS2:((((((NF [] p++aJ first 7)++aJ count 7)++aJ (a.length:Nat) 16)++aJ (b.length:Nat) 16)++aJ sa 16)++aJ sb 16)=S:=hSd;have e0:(NF [] p).length=23:=by simp only[NF,List.length_append,aR,List.length_cons,List.length_nil]
 obtain⟨b0,hb0⟩:∃x,NF [] p=x:=⟨_,rfl⟩
 obtain⟨b1,hb1⟩:∃x,b0++aJ first 7=x:=⟨_,rfl⟩
 obtain⟨b2',hb2⟩:∃x,b1++aJ count 7=x:=⟨_,rfl⟩
 obtain⟨b3,hb3⟩:∃x,b2'++aJ (a.length:Nat) 16=x:=⟨_,rfl⟩
 obtain⟨b4,hb4⟩:∃x,b3++aJ (b.length:Nat) 16=x:=⟨_,rfl⟩
 obtain⟨b5,hb5⟩:∃x,b4++aJ sa 16=x:=⟨_,rfl⟩
 rw[hb0]at e0;rw[hb0,hb1,hb2,hb3,hb4,hb5]at hS2;have e1:b1.length=30:=by rw[<-hb1,List.length_append,aR,e0]
 have e2:b2'.length=37:=by rw[<-hb2,List.length_append,aR,e1]
 have e3:b3.length=53:=by rw[<-hb3,List.length_append,aR,e2]
 have e4:b4.length=69:=by rw[<-hb4,List.length_append,aR,e3]
 have e5:b5.length=85:=by rw[<-hb5,List.length_append,aR,e4]
 obtain⟨S1,hS1⟩:∃x,S++aJ su 16=x:=⟨_,rfl⟩
 have eS1:S1.length=117:=by rw[<-hS1,List.length_append,aR,hSl]
 rw[hS1]at hB;have hwS:(wr S).length=13:=by rw[cN,hSl]
 have hBl:B.length=119:=by rw[<-hB,List.length_append,aR,eS1]
 have hwB:(wr B).length=15:=by rw[cN,hBl]
 refine cO Tryz.func33 ?_;refine WX.cc rfl ?_
 repeat' (first
  |(refine qz ?_;first
   |refine cl ?_ (hi:=by exact uW hk (i:=0) (j:=1) rfl rfl (by decide) rfl)
   |refine qI (cs:=tu p) ?_ (hle:=by decide) (hc:=by exact rfl)
   |refine cl ?_ (hi:=by exact I9 hph (bs:=[]) (by decide) (i:=4) (k:=2) rfl rfl (by decide) hb0 nL nA rfl)
   |refine cl ?_ (hi:=by exact fu (size:=7) rfl (bs:=b0) (by omega) (by decide) (by omega) (i:=4) (k:=5) rfl rfl (by decide) hb1 nL nA rfl)
   |refine cl ?_ (hi:=by exact fu (size:=7) rfl (bs:=b1) (by omega) (by decide) (by omega) (i:=4) (k:=6) rfl rfl (by decide) hb2 nL nA rfl)
   |refine cl ?_ (hi:=by exact fu (size:=16) rfl (bs:=b2') (by omega) (by decide) (by omega) (i:=4) (k:=7) rfl rfl (by decide) hb3 nL nA rfl)
   |refine cl ?_ (hi:=by exact fu (size:=16) rfl (bs:=b3) (by omega) (by decide) (by omega) (i:=4) (k:=8) rfl rfl (by decide) hb4 nL nA rfl)
   |refine t5 (zs:=[.nils]) ?_
   |refine cl ?_ (hi:=by exact ou (l:=a) ha (by omega) (RO.of ..) hsa rfl (i:=0) (j:=10) rfl rfl (by decide) rfl)
   |refine cl ?_ (hi:=by exact fu (size:=16) rfl (bs:=b4) (by omega) (by decide) (by omega) (i:=4) (k:=9) rfl rfl (by decide) hb5 nL nA rfl)
   |refine cl ?_ (hi:=by exact ou (l:=b) hb (by omega) (RO.of ..) hsb rfl (i:=1) (j:=12) rfl rfl (by decide) rfl)
   |refine cl ?_ (hi:=by exact fu (size:=16) rfl (bs:=b5) (by omega) (by decide) (by omega) (i:=4) (k:=11) rfl rfl (by decide) hS2 nL nA rfl)
   |refine cl ?_ (hi:=by exact o6 (bs:=S) (by omega) (by omega) (i:=4) (k:=13) rfl rfl (by decide) (n:=13) (by rw[hSl]) nL nA rfl)
   |refine cl ?_ (hi:=by exact ou (l:=wr S) (iL S) (by omega) (NK S) hsu hwS (i:=14) (j:=15) rfl rfl (by decide) rfl)
   |refine cl ?_ (hi:=by exact fu (size:=16) rfl (bs:=S) (by omega) (by decide) (by omega) (i:=4) (k:=13) rfl rfl (by decide) hS1 nL nA rfl)
   |refine cl ?_ (hi:=by exact fu (size:=2) rfl (bs:=S1) (by omega) (by decide) (by omega) (i:=4) (k:=16) rfl rfl (by decide) hB nL nA rfl)
   |refine cl ?_ (hi:=by exact rQ nL nA rfl)
   |refine t5 (zs:=[.int .u8 0]) ?_
   |refine N9 (n:=1) (r:=[182]) rfl (jZ rfl rfl rfl) (fun h=>absurd h (by decide)) (fun _=>?_)
   |refine cl ?_ (hi:=by exact o6 (bs:=B) (by omega) (by omega) (i:=4) (k:=17) rfl rfl (by decide) (n:=15) (by rw[hBl]) nL nA rfl)
   |refine cl ?_ (hi:=by exact ED (bs:=B) (i:=4) (k:=17) rfl rfl (by decide) (z:=119) (by rw[hBl];rfl) rfl)
   |refine cl ?_ (hi:=by exact tA (L:=wr B) (B:=B) (by omega) (by omega) hwB (by rw[hBl];rfl) (i:=21) rfl nL nA rfl))
  |refine zz ?_|refine zx (fun _=>?_) (fun _=>?_)|fail)
 refine WX.cw (σ:=Nat) (fun k=>[(2,.one (.ptr 2 0)),(9,.one (.ptr 3 0)),(8,gJ 5 (4+k) 1),(75,.one (.int .i64 (k:Nat)))]) (fun k=>[.cells (il .u8 a) 5 true false,.cells (il .u8 b) 5 true false,.cells (Rt p first count (.slice 0 0 a.length (.toEnd 1)) (.slice 1 0 b.length (.toEnd 1))) 50 false false,gF 4 (wr B) B (7*k) false,dT (wr B),bU 5 (il .u8 ([0,0,1,182]++po B k))]) (fun k=>k<=17) (fun k=>17-k) 0 (Nat.zero_le _) (fun s _=>ny) (bW [0,1,3,22,23,20]) ?_;intro k hk17 ih;have hsl:=fC B k;have hql:([0,0,1,182]++po B k).length=4+k:=by rw[List.length_append,hsl];rfl
 by_cases hlt:k<17
 ·have hv:=mG (B:=B) (n:=7) (r:=7*k) (by omega);have hvr:=Ka B (7*k);have hsv:po B (k+1)=po B k++[128+lf B (7*k) 7 0]:=by rw[po];unfold CI;rw[hv]
  obtain⟨v,hve⟩:∃v,lf B (7*k) 7 0=v:=⟨_,rfl⟩
  rw[hve]at hv hvr hsv
  repeat' (first
   |(refine qz ?_;first
    |refine cl ?_ (hi:=by exact cJ (tY B (by omega)) hv rfl (by decide) (i:=3) (k:=4) rfl rfl (by decide) hS rfl))
   |refine zz ?_|refine zx (fun _=>?_) (fun _=>?_)|fail)
  exact ih (k+1) _ _ _ (bW [0,1,2,3,4,7] (obj:=by(repeat' (first|exact ae.nil|refine ae.flat (by rw[hsv,<-List.append_assoc,<-OU hvr];rfl) ?_|refine oz ?_));first|done|fail)) (by omega) (by omega)
 ·have hpf:eh B a b=(([0,0,1,182]++po B k)++a)++b:=by rw[show k=17 by omega];rfl
  obtain⟨W,hW⟩:∃W,[0,0,1,182]++po B k=W:=⟨_,rfl⟩
  rw[hW]at hpf hql;rw[hpf,hW];clear ih
  have hy:bU 5 (il .u8 ((W++a)++b)) = .cells (il .u8 ((W++a)++b)) 5 true false:=cK fun e=>by
   have h2:(il .u8 ((W++a)++b)).length=0:=by rw[e];rfl
   rw[bz,List.length_append,List.length_append,hql]at h2;omega
  repeat' (first|refine zz ?_|refine zx (fun _=>?_) (fun _=>?_)|fail)
  have hz:eE 7 (4+k+a.length+b.length) 1 = .slice 7 0 (4+k+a.length+b.length) (.toEnd 1):=if_neg (by omega);have hlen:((W++a)++b).length=4+k+a.length+b.length:=by rw[List.length_append,List.length_append,hql]
  rw[hy,hz,hlen];show aE _ _ _ _ _ _ _ _;refine kV [0,1,7] ?_;rfl
end Go.Proofs.YthdciapjllppjaaGreat
namespace Go.Xm
variable [aq]
section
variable {P:Program} {ops:Array Oper} {nt nI:Nat} {al:aO} {hs:aj} {o:Oper} {l:List Oper} {L:List aA} {K:List Ab->aO->aj->Prop} {d:Nat}
theorem l5{t:TypeId}{a b:Operand}{elem:TypeId}{s:Nat}{kd:IntKind}{z:Int}{g k off len fl cut:Nat}{p:Nat}(hk:SK P ops nt L l ((d,.one (.lpt g k p))::al) hs fun bs=>K (quiet::bs))(ho:o.op = .indexAddr t a b:=by exact rfl)(wn:Wn ops nt al o d:=by exact⟨rfl,rfl,rfl⟩)(hb:af (rg al) b = .one (.int kd z):=by exact rfl)(ha:af (rg al) a = .one (.lsl g k off len fl cut):=by exact rfl)(hu:aQ P t (.slice elem):=by infer_instance)(hs':aH P elem s:=by infer_instance)(hz:0<=z/\z<(len:Nat):=by first|omega|decide)(hp:off+z.toNat*s=p:=by exact n1):SK P ops nt L (o::l) al hs K:=by
 subst hp;exact SK.lift wn.e wn.l (fun _=>aB.pure wn.w (by rw[ho];simp[aZ,b_,ha,hb,hu.out,hs'.out,hz])) hk
theorem kD{a:Operand}{t elem:TypeId}{g k off len fl cut:Nat}(hk:SK P ops nt L l ((d,.one (.int .i64 (len:Nat)))::al) hs fun bs=>K (quiet::bs))(ho:o.op = .call ⟨.builtin .len,#[a],#[t]⟩:=by exact rfl)(wn:Wn ops nt al o d:=by exact⟨rfl,rfl,rfl⟩)(ha:af (rg al) a = .one (.lsl g k off len fl cut):=by exact rfl)(hu:aQ P t (.slice elem):=by infer_instance):SK P ops nt L (o::l) al hs K:=
 SK.lift wn.e wn.l (fun _=>aB.pure wn.w (by rw[ho];simp[aZ,ej,ha,y7,hu.out])) hk
theorem aB.Nz{O:dm}(hw:aw ops (rg al) o=some true){t:TypeId}{a:Operand}(ho:o.op = .load t a){g k off:Nat}(ha:af (rg al) a = .one (.lpt g k off)){LL:List (List XC)}(hi:hs[g]? = some (.late LL)){cs:List XC}(hL:LL[k]? = some cs)(hne:cs≠[]){x:X1}(hl:dC P t (cs.map (·.self g)) off=some x) :
 aB O P ops al hs o x.p6 hs ⟨false,some g,[]⟩:=by
 intro m hm;refine⟨m,?_,hm,fun _ _=>rfl⟩;unfold ji;rw[hw]
 obtain⟨f,hf1,hf2⟩:∃f,eX P (af (rg al)) o.op=some (g,f)/\∀(LL:List (List XC)) c cs,LL[k]? = some (c::cs)->f (.late LL)=(dC P t ((c::cs).map (·.self g)) off).map X1.p6:=by
  rw[ho];simp only[eX,ha];refine⟨_,rfl,fun LL c cs h=>?_⟩;simp only[h]
 refine mh (by rw[ho];rfl) (by rw[ho];rfl) hf1 ?_
 cases cs with
 | nil=>exact absurd rfl hne
 | cons c cs=>rw[hm.at hi,hf2 LL c cs hL,hl];rfl
theorem Tu{t:TypeId}{a:Operand}{g k off:Nat}{LL:List (List XC)}{cs:List XC}{c:XC}(hk:SK P ops nt L l ((d,.one (c.self g))::al) hs fun bs=>K (⟨false,some g,[]⟩::bs))(hL:LL[k]? = some cs)(hc:cs[off]? = some c)(ho:o.op = .load t a:=by exact rfl)(ht:cR P t:=by infer_instance)(wn:Wn ops nt al o d:=by exact⟨rfl,rfl,rfl⟩)(ha:af (rg al) a = .one (.lpt g k off):=by exact rfl)(hi:hs[g]? = some (.late LL):=by exact rfl):SK P ops nt L (o::l) al hs K:=
 SK.lift wn.e wn.l (fun _=>aB.Nz wn.w ho ha hi hL (fun e=>by rw[e]at hc;cases hc) (Ac ht.out (by rw[List.getElem?_map,hc];rfl))) hk
theorem sY{t:TypeId}{a:Operand}{g k off:Nat}{LL:List (List XC)}{kd:IntKind}{q:List Int}(hk:SK P ops nt L l ((d,.one (.int kd (q.getD off 0)))::al) hs fun bs=>K (⟨false,some g,[]⟩::bs))(hL:LL[k]? = some (il kd q))(hc:off<q.length)(ho:o.op = .load t a:=by exact rfl)(ht:cR P t:=by infer_instance)(wn:Wn ops nt al o d:=by exact⟨rfl,rfl,rfl⟩)(ha:af (rg al) a = .one (.lpt g k off):=by exact rfl)(hi:hs[g]? = some (.late LL):=by exact rfl):SK P ops nt L (o::l) al hs K:=
 Tu (c := .int kd (q.getD off 0)) hk hL (by unfold il;rw[List.getElem?_map,List.getD_eq_getElem?_getD,List.getElem?_eq_getElem hc];rfl) ho ht wn ha hi
theorem Re{t:TypeId}{a:Operand}{s:Nat}{g k off:Nat}{LL:List (List XC)}{vs cs cs':List XC}(hk:SK P ops nt L l ((d,.agg cs')::al) hs fun bs=>K (⟨false,some g,[]⟩::bs))(hL:LL[k]? = some vs)(hle:off+s<=vs.length/\0<s)(hc:(vs.drop off).take s=cs)(hc':cs.map (·.self g)=cs':=by exact rfl)(ho:o.op = .load t a:=by exact rfl)(ht:dk P t:=by infer_instance)(hs':aH P t s:=by infer_instance)(wn:Wn ops nt al o d:=by exact⟨rfl,rfl,rfl⟩)(ha:af (rg al) a = .one (.lpt g k off):=by exact rfl)(hi:hs[g]? = some (.late LL):=by exact rfl):SK P ops nt L (o::l) al hs K:=by
 subst hc hc';refine SK.lift wn.e wn.l (fun _=>aB.Nz (x := .agg (((vs.drop off).take s).map (·.self g))) wn.w ho ha hi hL (fun e=>by rw[e]at hle;simp at hle;omega) ?_) hk;unfold dC;rw[ht.out,hs'.out];simp only[List.length_map];rw[if_pos hle.1,<-List.map_drop,<-List.map_take]
class EX {α : Type}(enc : α->List XC) (s:outParam Nat):Prop where
 len:∀a,(enc a).length=s
 pos:0<s
instance (priority:=low) {α : Type} {enc : α->List XC} {s:Nat} [h:nH enc s]:EX enc s:=⟨h.len,h.pos⟩
theorem yv{α : Type}{enc : α->List XC}{s:Nat}[hE:EX enc s](q:List α):(fl enc q).length=q.length*s:=by
 induction q with
 | nil=>simp[fl]
 | cons a l ih=>simp only[fl,List.flatMap_cons,List.length_append,hE.len,List.length_cons]at ih ⊢;rw[ih,Nat.add_mul];omega
theorem Rk{α : Type}{enc : α->List XC}{s:Nat}[hE:EX enc s](q:List α)(j:Nat)(hj:j<q.length)(dflt : α):j*s+s<=(fl enc q).length/\((fl enc q).drop (j*s)).take s=enc (q.getD j dflt):=
 yj enc s q (fun a _=>hE.len a) j _ (by simp[List.getD_eq_getElem?_getD,hj])
theorem Ck{α : Type}{enc : α->List XC}{s:Nat}[hE:EX enc s][Inhabited α]{t:TypeId}{a:Operand}{g k off:Nat}{LL:List (List XC)}{q:List α}{j:Nat}{cs':List XC}(hk:SK P ops nt L l ((d,.agg cs')::al) hs fun bs=>K (⟨false,some g,[]⟩::bs))(hL:LL[k]? = some (fl enc q))(hc:j<q.length)(hc':(enc (q.getD j default)).map (·.self g)=cs':=by exact rfl)(ho:o.op = .load t a:=by exact rfl)(ht:dk P t:=by infer_instance)(hs':aH P t s:=by infer_instance)(wn:Wn ops nt al o d:=by exact⟨rfl,rfl,rfl⟩)(ha:af (rg al) a = .one (.lpt g k off):=by exact rfl)(hi:hs[g]? = some (.late LL):=by exact rfl)(hj:off=j*s:=by exact n1):SK P ops nt L (o::l) al hs K:=by
 subst hj;obtain⟨h1,h2⟩:=Rk (enc:=enc) q j hc default;exact Re hk hL ⟨h1,hE.pos⟩ h2 hc' ho ht hs' wn ha hi
theorem Ty{t e:TypeId}{a:Operand}{lo hi:Option Operand}{s:Nat}{g k off n fl cut p q:Nat}{z w:Int}(hk:SK P ops nt L l ((d,.one (.lsl g k (off+p*s) (q-p) (fl-p) (cut+p)))::al) hs fun bs=>K (quiet::bs))(ho:o.op = .slice t a lo hi .none:=by exact rfl)(hu:aQ P t (.slice e):=by infer_instance)(hs':aH P e s:=by infer_instance)(wn:Wn ops nt al o d:=by exact⟨rfl,rfl,rfl⟩)(ha:af (rg al) a = .one (.lsl g k off n fl cut):=by exact rfl)(hl:qS (lo.map (af (rg al))) 0=some z:=by exact rfl)(hh:qS (hi.map (af (rg al))) (n:Nat)=some w:=by exact rfl)(hp:z=(p:Nat):=by first|exact rfl|omega)(hq:w=(q:Nat):=by first|exact rfl|omega)(hb:p<=q/\q<=fl/\(p=0\/p<fl):=by omega):SK P ops nt L (o::l) al hs K:=by
 subst hp hq;have e1:=qU (y:=q) hl (by omega);have e2:=qT (y:=fl) hh (by omega);exact SK.lift wn.e wn.l (fun _=>aB.pure wn.w (by rw[ho];simp only[aZ,oJ,hu.out,ha,eI,Option.map_none,e1,e2,hs'.out];rw[if_pos hb.2.2])) hk
theorem Eo{t1 e1:TypeId}(hu:P.underlying t1=some (.slice e1)){b:Operand}{g k off n fl cut sz:Nat}(hb:af (rg al) b = .one (.lsl g k off n fl cut))(hsz:0<sz){LL:List (List XC)}(hi:hs[g]? = some (.late LL)){cs:List XC}(hL:LL[k]? = some cs)(hn:off+n*sz<=cs.length){r:List XC}(hr:(((cs.map (·.self g)).drop off).take (n*sz))=r):∀M,a_ M hs->j8 P t1 sz (af (rg al) b) M=some (n,r):=fun M hM=>by
 subst hr;rw[hb];unfold j8;simp only[hu]
 by_cases h0:n=0
 ·rw[if_pos h0,h0,Nat.zero_mul];rfl
 ·rw[if_neg h0,hM.at hi];simp only[hL]
  cases cs with
  | nil=>
    have:=Nat.mul_pos (Nat.pos_of_ne_zero h0) hsz;simp at hn;omega
  | cons c cs=>simp only[];rw[if_pos hn]
end
def XC.mw(g m:Nat):XC->Prop
 | .ptr j _=>j≠g
 | .slice j _ _ _=>j≠g
 | .map j=>j≠g
 | .lsl g' k _ _ _ _=>g'=g->k≠m
 | .lpt g' k _=>g'=g->k≠m
 | .bind a b=>a.mw g m/\b.mw g m
 | _=>True
theorem XC.gv{g m:Nat}:∀{c:XC},c.ok 0->c.mw g m:=by
 intro c
 induction c with
 | ptr j off=>exact fun h=>absurd h (Nat.not_lt_zero _)
 | slice j off n cap=>exact fun h=>absurd h (Nat.not_lt_zero _)
 | map j=>exact fun h=>absurd h (Nat.not_lt_zero _)
 | lsl g' k off n fl cut=>exact fun h=>absurd h (Nat.not_lt_zero _)
 | lpt g' k off=>exact fun h=>absurd h (Nat.not_lt_zero _)
 | bind a b ih1 ih2=>exact fun h=>⟨ih1 h.1,ih2 h.2⟩
 | _=>intro _;trivial
inductive nJ(g m:Nat)(A B:XC):XC->XC->Prop where
 | same {c:XC}:c.mw g m->nJ g m A B c c
 | Ca:nJ g m A B A B
inductive dP(g m:Nat)(A B:XC):List XC->List XC->Prop where
 | same {l:List XC}:(∀c∈l,c.mw g m)->dP g m A B l l
 | cons {c c':XC} {l l':List XC}:nJ g m A B c c'->dP g m A B l l'->dP g m A B (c::l) (c'::l')
theorem dP.app{g m:Nat}{A B:XC}{a a' b b':List XC}(h:dP g m A B a a')(k:dP g m A B b b'):dP g m A B (a++b) (a'++b'):=by
 induction h with
 | @same l hl=>
   induction l with
   | nil=>exact k
   | cons c l ih=>exact .cons (.same (hl c (List.mem_cons_self ..))) (ih fun x hx=>hl x (List.mem_cons_of_mem _ hx))
 | cons hc _ ih=>exact .cons hc ih
inductive bd(i g m:Nat)(A B:XC)(L:List (List XC))(vs:List XC):Nat->aj->aj->Prop where
 | nil {j:Nat}:bd i g m A B L vs j [] []
 | flat {j:Nat} {o:ak} {hs hs2:aj} [cA o]:Nat.beq j i=false->bd i g m A B L vs (j+1) hs hs2->bd i g m A B L vs j (o::hs) (o::hs2)
 | dead {j:Nat} {o:ak} {hs hs2:aj}:bd i g m A B L vs (j+1) hs hs2->bd i g m A B L vs j (o::hs) (.dead::hs2)
 | cells {j:Nat} {us us2:List XC} {e:TypeId} {a b:Bool} {hs hs2:aj}:Nat.beq j i=false->dP g m A B us us2->bd i g m A B L vs (j+1) hs hs2->bd i g m A B L vs j (.cells us e a b::hs) (.cells us2 e a b::hs2)
 | ghost {hs hs2:aj}:bd i g m A B L vs (g+1) hs hs2->bd i g m A B L vs g (.late L::hs) (.late (L++[vs])::hs2)
inductive gX(g m:Nat)(A B:XC)(al:aO):aO->Prop where
 | nil:gX g m A B al []
 | flat {t:Nat} {v:XV} {r:aO} [b8 v]:rg al t=v->gX g m A B al r->gX g m A B al ((t,v)::r)
 | one {t:Nat} {c c':XC} {r:aO}:rg al t = .one c->nJ g m A B c c'->gX g m A B al r->gX g m A B al ((t,.one c')::r)
 | agg {t:Nat} {c c':List XC} {r:aO}:rg al t = .agg c->dP g m A B c c'->gX g m A B al r->gX g m A B al ((t,.agg c')::r)
theorem bd.len{i g m:Nat}{A B:XC}{L:List (List XC)}{vs:List XC}{j:Nat}{hs hs2:aj}(h:bd i g m A B L vs j hs hs2):hs2.length=hs.length:=by
 induction h with
 | nil=>rfl
 | flat _ _ ih=>simp[ih]
 | dead _ ih=>simp[ih]
 | cells _ _ _ ih=>simp[ih]
 | ghost _ ih=>simp[ih]
theorem bd.at{i g m:Nat}{A B:XC}{L:List (List XC)}{vs:List XC}{j:Nat}{hs hs2:aj}(h:bd i g m A B L vs j hs hs2):∀(p:Nat) (o2:ak),hs2[p]? = some o2 ->
 o2 = .dead\/(j+p=g/\o2 = .late (L++[vs]))\/(j+p≠i/\cA o2/\hs[p]? = some o2)\/∃us us2 e a b,j+p≠i/\o2 = .cells us2 e a b/\hs[p]? = some (.cells us e a b)/\dP g m A B us us2:=by
 induction h with
 | nil=>intro p o2 h;simp at h
 | @flat j o hs hs2 inst hj _ ih=>
   intro p o2 h
   cases p with
   | zero=>
     simp only[List.getElem?_cons_zero,Option.some.injEq]at h;subst h;exact .inr (.inr (.inl ⟨fun e=>(by rw[Nat.add_zero]at e;rw[e,Nat.beq_refl]at hj;cases hj),inst,rfl⟩))
   | succ p=>
     have:=ih p o2 (by simpa using h);rw[show j+1+p=j+(p+1) by omega]at this;simpa using this
 | @dead j o hs hs2 _ ih=>
   intro p o2 h
   cases p with
   | zero=>
     simp only[List.getElem?_cons_zero,Option.some.injEq]at h;exact .inl h.symm
   | succ p=>
     have:=ih p o2 (by simpa using h);rw[show j+1+p=j+(p+1) by omega]at this;simpa using this
 | @cells j us us2 e a b hs hs2 hj hl _ ih=>
   intro p o2 h
   cases p with
   | zero=>
     simp only[List.getElem?_cons_zero,Option.some.injEq]at h;subst h;exact .inr (.inr (.inr ⟨us,us2,e,a,b,fun e=>(by rw[Nat.add_zero]at e;rw[e,Nat.beq_refl]at hj;cases hj),rfl,rfl,hl⟩))
   | succ p=>
     have:=ih p o2 (by simpa using h);rw[show j+1+p=j+(p+1) by omega]at this;simpa using this
 | @ghost hs hs2 _ ih=>
   intro p o2 h
   cases p with
   | zero=>
     simp only[List.getElem?_cons_zero,Option.some.injEq]at h;exact .inr (.inl ⟨rfl,h.symm⟩)
   | succ p=>
     have:=ih p o2 (by simpa using h);rw[show g+1+p=g+(p+1) by omega]at this;simpa using this
instance Q0 (L:List (List XC)):cA (.late L):=⟨fun _=>rfl,fun _=>trivial⟩
section
variable {i g m n:Nat} {cp:pr} {A B:XC} {β β2:Env}
structure tM(g m:Nat)(A B:XC)(β β2:Env):Prop where
 ne:∀j,j≠g -> β2.bG j = β.bG j
 size:∀j,β2.size j = β.size j
 base:∀j,β2.base j = β.base j
 tab:∀k,k≠m->lQ (β2.bG g) k=lQ (β.bG g) k/\iV (β2.bG g) k=iV (β.bG g) k/\s3 (β2.bG g) k=s3 (β.bG g) k
 new:B.den β2=A.den β
theorem tM.same(h:tM g m A B β β2):∀{c:XC},c.mw g m->c.den β2=c.den β:=by
 intro c
 induction c with
 | ptr j off=>intro hc;simp only[XC.den,h.ne j hc,h.base]
 | slice j off len cap=>intro hc;cases cap<;>simp only[XC.den,h.ne j hc,h.base,h.size]
 | map j=>intro hc;simp only[XC.den,h.ne j hc]
 | bind a b ih1 ih2=>intro hc;simp only[XC.den,ih1 hc.1,ih2 hc.2]
 | lsl g' k off len fl cut=>
   intro hc
   by_cases e:g'=g
   ·subst e;simp only[XC.den,(h.tab k (hc rfl)).1,(h.tab k (hc rfl)).2.1,(h.tab k (hc rfl)).2.2]
   ·simp only[XC.den,h.ne g' e]
 | lpt g' k off=>
   intro hc
   by_cases e:g'=g
   ·subst e;simp only[XC.den,(h.tab k (hc rfl)).1,(h.tab k (hc rfl)).2.1,(h.tab k (hc rfl)).2.2]
   ·simp only[XC.den,h.ne g' e]
 | _=>intro _;rfl
theorem tM.cell(h:tM g m A B β β2){c c':XC}(hc:nJ g m A B c c'):c'.den β2=c.den β:=by
 cases hc with
 | same hn=>exact h.same hn
 | Ca=>exact h.new
theorem tM.cells(h:tM g m A B β β2){l l':List XC}(hl:dP g m A B l l'):l'.map (·.den β2)=l.map (·.den β)/\l'.length=l.length:=by
 induction hl with
 | same hn=>exact⟨List.map_congr_left fun c hc=>h.same (hn c hc),rfl⟩
 | cons hc _ ih=>exact⟨by simp only[List.map_cons,h.cell hc,ih.1],by simp only[List.length_cons,ih.2]⟩
theorem tM.Q1(h:tM g m A B β β2){o:ak}[ho:cA o]{N N2 lo sz:Nat}{ob:Option Obj}(hr:fb β N lo sz o ob):fb β2 N2 lo sz o ob:=by
 have h0:=ho.ok 0
 cases o with
 | dead=>trivial
 | late L=>trivial
 | cells vs e a b=>
   obtain⟨cs,fr,h1,h2,h3,h4,h5,h6⟩:=hr;exact⟨cs,fr,h1,h2,h3,h4,fun c hc=>XC.dg (Nat.zero_le _) (h0 c hc),by rw[h6];exact(List.map_congr_left fun c hc=>h.same (XC.gv (h0 c hc))).symm⟩
 | map es=>
   obtain⟨en,clock,h1,h2,h3⟩:=hr
   have hx:∀x:X1,x.ok 0->x.den β2=x.den β:=fun x hx=>by
    cases x with
    | one c=>exact h.same (XC.gv hx)
    | agg cs=>simp only[X1.den];rw[List.map_congr_left fun c hc=>h.same (XC.gv (hx c hc))]
   refine⟨en,clock,h1,fun p hp=>⟨X1.dg (Nat.zero_le _) (h0 p hp).1,X1.dg (Nat.zero_le _) (h0 p hp).2⟩,h3.trans ?_⟩;exact List.map_congr_left fun p hp=>by rw[hx _ (h0 p hp).1,hx _ (h0 p hp).2]
theorem tM.Q4(h:tM g m A B β β2){v:XV}[hv:b8 v]{N N2:Nat}{u:Value}(hr:aL β N v u):aL β2 N2 v u:=by
 have h0:=hv.ok 0
 cases v with
 | undef=>trivial
 | one c=>exact⟨XC.dg (Nat.zero_le _) h0,hr.2.trans (h.same (XC.gv h0)).symm⟩
 | agg cs=>exact⟨fun c hc=>XC.dg (Nat.zero_le _) (h0 c hc),hr.2.trans (by rw[List.map_congr_left fun c hc=>h.same (XC.gv (h0 c hc))])⟩
 | tup xs=>
   refine⟨fun c hc=>X1.dg (Nat.zero_le _) (h0 c hc),hr.2.trans ?_⟩
   have:xs.map (·.den β2)=xs.map (·.den β):=List.map_congr_left fun x hx=>by
    have h1:=h0 x hx
    cases x with
    | one c=>exact h.same (XC.gv h1)
    | agg cs=>simp only[X1.den];rw[List.map_congr_left fun c hc=>h.same (XC.gv (h1 c hc))]
   rw[this]
theorem gX.at{al r:aO}(h:gX g m A B al r)(t:Nat):rg r t = .undef\/(b8 (rg r t)/\rg al t=rg r t)\/(∃c c',rg r t = .one c'/\rg al t = .one c/\nJ g m A B c c')\/∃c c',rg r t = .agg c'/\rg al t = .agg c/\dP g m A B c c':=by
 induction h with
 | nil=>exact .inl rfl
 | @flat u v r inst hv _ ih=>
   rw[show rg ((u,v)::r) t=if t=u then v else rg r t from rfl];split
   ·rename_i e;subst e;exact .inr (.inl ⟨inst,hv⟩)
   ·exact ih
 | @one u c c' r hv hc _ ih=>
   rw[show rg ((u,XV.one c')::r) t=if t=u then XV.one c' else rg r t from rfl];split
   ·rename_i e;subst e;exact .inr (.inr (.inl ⟨c,c',rfl,hv,hc⟩))
   ·exact ih
 | @agg u c c' r hv hc _ ih=>
   rw[show rg ((u,XV.agg c')::r) t=if t=u then XV.agg c' else rg r t from rfl];split
   ·rename_i e;subst e;exact .inr (.inr (.inr ⟨c,c',rfl,hv,hc⟩))
   ·exact ih
theorem XC.vk{c:XC}{j:Nat}(h:c.lL m=true):(c.self j).mw g m:=by
 cases c with
 | ptr i off=>cases h
 | slice i off len cap=>cases h
 | map i=>cases h
 | bind g c=>cases h
 | lsl g' k off len fl cut=>exact fun _ e=>by subst e;simp[XC.lL,Nat.blt_eq]at h
 | lpt g' k off=>exact fun _ e=>by subst e;simp[XC.lL,Nat.blt_eq]at h
 | _=>trivial
theorem XC.uH{c:XC}{a b:Nat}(hab:a<=b)(h:c.lL a=true):c.lL b=true:=by
 cases c with
 | ptr i off=>cases h
 | slice i off len cap=>cases h
 | map i=>cases h
 | bind g c=>cases h
 | lsl g' k off len fl cut=>simp only[XC.lL,Nat.blt_eq]at h ⊢;omega
 | lpt g' k off=>simp only[XC.lL,Nat.blt_eq]at h ⊢;omega
 | _=>rfl
theorem WX.SP{P:Program}{nt nI:Nat}{al:aO}{hs:aj}{K:cu}{c:sn}{L:List (List XC)}{vs:List XC}(hg:hs[g]? = some (.late L))(hgI:nI<=g)(hm:L.length=m)(hvl:∀c∈vs,c.lL m=true)
 (hsrc:∀(β : Env) (mm:Mem) (w:World),a_ mm hs->Rel β mm w->∃bk base cap,(∀β2:Env,lQ (β2.bG g) m=bk->iV (β2.bG g) m=base->s3 (β2.bG g) m=cap->B.den β2=A.den β)/\(vs≠[]->(∃all e fr,w.heap[bk]? = some (.cells all e fr)/\(all.toList.drop base).take vs.length=(vs.map (·.self g)).map (·.den β))/\((i<mm.n/\(mm.get i).own=true /\ β.bG i=bk)\/∃p L' q cs',p<mm.n/\mm.get p = .late L'/\L'[q]? = some cs'/\cs'≠[]/\lQ (β.bG p) q=bk)))
 {R:aO} {H:aj}(hH:bd i g m A B L vs 0 hs H) (hR:gX g m A B al R) (hok:sV nI R H)
 (h:WX P nt nI c R H K):WX P nt nI c al hs K:=by
 intro βI mI wI hnI mm hmm β w a Q hr hst hq;have rel:=hst.rel;have nn:=hmm.n;have hgn:g<mm.n:=by rw[nn];exact(List.getElem?_eq_some_iff.1 hg).1
 have gg:mm.get g = .late L:=hmm.at hg;obtain⟨bk,base,cap,hden,hnew⟩:=hsrc β mm w hmm rel;obtain⟨code,⟨t1,t3,t4⟩,t2⟩:=MQ bk base cap m (β.bG g)
 let β2:Env:=⟨fun j=>if j=g then code else β.bG j,β.base,β.size⟩
 have bg : β2.bG g=code:=if_pos rfl;have bne:∀j,j≠g -> β2.bG j = β.bG j:=fun j hj=>if_neg hj
 have E:tM g m A B β β2:=⟨bne,fun _=>rfl,fun _=>rfl,fun k hk=>by rw[bg];exact t2 k hk,hden β2 (by rw[bg];exact t1) (by rw[bg];exact t3) (by rw[bg];exact t4)⟩
 have ok:=hok;have hm2:=eZ H (by simpa [Nat.blt_eq]using ok.bnd);have hlen:=hH.len;have n2:=hm2.n;generalize hM:iU H=m2 at hm2 n2
 have at2:∀p,p<m2.n->m2.get p = .dead\/(p=g/\m2.get p = .late (L++[vs]))\/(p≠i/\cA (m2.get p)/\mm.get p=m2.get p)\/∃us us2 e a b,p≠i/\m2.get p = .cells us2 e a b/\mm.get p = .cells us e a b/\dP g m A B us us2:=fun p hp=>by
  rcases hH.at p _ (hm2.get? hp)with k|⟨k1,k2⟩|⟨k1,k2,k3⟩|⟨us,us2,e,a,b,k1,k2,k3,k4⟩
  ·exact .inl k
  ·exact .inr (.inl ⟨by omega,k2⟩)
  ·exact .inr (.inr (.inl ⟨by omega,k2,hmm.at k3⟩))
  ·exact .inr (.inr (.inr ⟨us,us2,e,a,b,by omega,k2,hmm.at k3,k4⟩))
 have low:∀p,p<m2.n->(m2.get p).live=true->p≠g/\p≠i/\(mm.get p).live=true/\((m2.get p).own=true->(mm.get p).own=true):=fun p hp hl=>by
  rcases at2 p hp with k|⟨k1,k2⟩|⟨k1,k2,k3⟩|⟨us,us2,e,a,b,k1,k2,k3,k4⟩
  ·rw[k]at hl;cases hl
  ·rw[k2]at hl;cases hl
  ·refine⟨fun e=>?_,k1,by rw[k3];exact hl,fun ho=>by rw[k3];exact ho⟩;rw[<-k3,e,gg]at hl;cases hl
  ·refine⟨fun e=>?_,k1,by rw[k3];rfl,fun ho=>?_⟩
   ·rw[e,gg]at k3;cases k3
   ·rw[k2]at ho;rw[k3];exact ho
 have img2:∀k,kY β2 m2 k->∃p,p<mm.n/\p≠i/\(mm.get p).own=true /\ β.bG p=k:=fun k ⟨p,hp,ho,hb⟩=>by
  obtain⟨k1,k2,k3,k4⟩:=low p hp (ak.bO ho);exact⟨p,by omega,k2,k4 ho,by rw[<-hb,bne p k1]⟩
 have himg:∀k,kY β2 m2 k->kY β mm k:=fun k hk=>by
  obtain⟨p,k1,k2,k3,k4⟩:=img2 k hk;exact⟨p,k1,k3,k4⟩
 have hni:vs≠[]->¬kY β2 m2 bk:=fun hne hk=>by
  rcases(hnew hne).2 with⟨hin,hio,hib⟩|⟨p,L',q,cs',h1,h2,h3,h4,h5⟩
  ·obtain⟨p,k1,k2,k3,k4⟩:=img2 _ hk;exact k2 (rel.inj p i k1 hin k3 (ak.bO hio) (k4.trans hib.symm))
  ·rw[<-h5]at hk;exact((rel.late p h1 L' h2 q cs' h3).2 h4).1 (himg _ hk)
 have yB:∀k cs',L[k]? = some cs'->(∀c∈cs',c.lL L.length=true)/\(cs'≠[]->¬kY β2 m2 (lQ (β2.bG g) k) /\
  ∃all e fr,w.heap[(lQ (β2.bG g) k)]? = some (.cells all e fr)/\(all.toList.drop (iV (β2.bG g) k)).take cs'.length=cs'.map fun c=>(c.self g).den β2):=fun k cs' hk=>by
  have hkl:=(List.getElem?_eq_some_iff.1 hk).1;obtain⟨q1,q2⟩:=rel.late g hgn L gg k cs' hk;refine⟨q1,fun hne=>?_⟩;obtain⟨q3,all,e,fr,q4,q5⟩:=q2 hne;rw[(E.tab k (by omega)).1,(E.tab k (by omega)).2.1];refine⟨fun hk=>q3 (himg _ hk),all,e,fr,q4,q5.trans (List.map_congr_left fun c hc=>?_)⟩;exact(E.same (XC.vk (by rw[<-hm];exact q1 c hc))).symm
 have hrel:Rel β2 m2 w:=by
  refine⟨hm2.bnd,hm2.fresh,fun p hp=>?_,fun a b ha hb la lb hab=>?_,fun p hp L2 hL2=>?_⟩
  ·rcases at2 p hp with k|⟨k1,k2⟩|⟨k1,k2,k3⟩|⟨us,us2,e,a,b,k1,k2,k3,k4⟩
   ·rw[k];trivial
   ·rw[k2];trivial
   ·by_cases hpg:p=g
    ·have:m2.get p = .late L:=by rw[<-k3,hpg];exact gg
     rw[this];trivial
    ·have:=rel.obj p (by omega);rw[k3]at this;rw[bne p hpg];exact E.Q1 this
   ·have hpg:p≠g:=fun e=>by rw[e,gg]at k3;cases k3
    have:=rel.obj p (by omega);rw[k3]at this;obtain⟨cs,fr,j1,j2,j3,j4,j5,j6⟩:=this;obtain⟨d1,d2⟩:=E.cells k4;rw[bne p hpg,k2];refine⟨cs,fr,j1,j2,by rw[d2];exact j3,j4,?_,by rw[d1,d2];exact j6⟩;have hk:=ok.objs.at _ (List.mem_of_getElem? (hm2.get? hp));rw[k2]at hk;rw[n2];exact hk
  ·obtain⟨a1,a2,a3,a4⟩:=low a ha (ak.bO la);obtain⟨b1,b2,b3,b4⟩:=low b hb lb;rw[bne a a1,bne b b1]at hab;exact rel.inj a b (by omega) (by omega) (a4 la) b3 hab
  ·rcases at2 p hp with k|⟨k1,k2⟩|⟨k1,k2,k3⟩|⟨us,us2,e,a,b,k1,k2,k3,k4⟩
   ·rw[k]at hL2;cases hL2
   ·rw[k2]at hL2;cases hL2;subst k1;intro k cs' hk
    by_cases hkm:k<L.length
    ·rw[List.getElem?_append_left hkm]at hk;obtain⟨q1,q2⟩:=yB k cs' hk;exact⟨fun c hc=>XC.uH (by simp) (q1 c hc),q2⟩
    ·have hkl:=(List.getElem?_eq_some_iff.1 hk).1;simp only[List.length_append,List.length_singleton]at hkl;obtain rfl:k=L.length:=by omega
     rw[List.getElem?_append_right (Nat.le_refl _),Nat.sub_self]at hk;simp only[List.getElem?_cons_zero,Option.some.injEq]at hk;subst hk;refine⟨fun c hc=>XC.uH (by rw[<-hm];simp) (hvl c hc),fun hne=>?_⟩;rw[bg,hm,t1,t3];obtain⟨cs,e,fr,h1,h6⟩:=(hnew hne).1;refine⟨hni hne,cs,e,fr,h1,?_⟩;rw[h6,List.map_map];refine List.map_congr_left fun c hc=>?_
     exact(E.same (XC.vk (hvl c hc))).symm
   ·by_cases hpg:p=g
    ·rw[<-k3,hpg,gg]at hL2;cases hL2;rw[hpg];exact yB
    ·have hL:mm.get p = .late L2:=by rw[k3];exact hL2
     intro k cs' hk;obtain⟨q1,q2⟩:=rel.late p (by omega) L2 hL k cs' hk;refine⟨q1,fun hne=>?_⟩;obtain⟨q3,all,e,fr,q4,q5⟩:=q2 hne;rw[bne p hpg];refine⟨fun hk=>q3 (himg _ hk),all,e,fr,q4,q5.trans (List.map_congr_left fun c hc=>?_)⟩;exact(XC.oq (q1 c hc) (bne p hpg)).symm
   ·rw[k2]at hL2;cases hL2
 have hst2:Step βI mI wI β2 m2 w:=by
  have hle:=Nat.le_of_ble_eq_true ok.le;refine⟨by omega,fun j hj=>?_,hrel,hst.os,hst.tape,hst.output,hst.size,hst.frame,fun k hk hi=>hst.qj k hk (himg k hi),fun k hk ⟨p,hp,L2,q,cs',e1,e2,e3,e4⟩=>?_⟩
  ·have:=hst.ext j hj;rw[bne j (by omega)];exact this
  ·rcases at2 p hp with k1|⟨k1,k2⟩|⟨k1,k2,k3⟩|⟨us,us2,e,a,b,k1,k2,k3,k4⟩
   ·rw[k1]at e1;cases e1
   ·rw[k2]at e1;cases e1;subst k1
    by_cases hqm:q<L.length
    ·rw[List.getElem?_append_left hqm]at e2;rw[(E.tab q (by omega)).1]at e4;exact hst.wa k hk ⟨p,hgn,L,q,cs',gg,e2,e3,e4⟩
    ·have hql:=(List.getElem?_eq_some_iff.1 e2).1;simp only[List.length_append,List.length_singleton]at hql;obtain rfl:q=L.length:=by omega
     rw[bg,hm,t1]at e4;rw[List.getElem?_append_right (Nat.le_refl _),Nat.sub_self]at e2;simp only[List.getElem?_cons_zero,Option.some.injEq]at e2;subst e2
     rcases(hnew e3).2 with⟨hin,hio,hib⟩|⟨p,L',q,cs',h1,h2,h3,h4,h5⟩
     ·exact .inl (hst.qj k hk ⟨i,hin,hio,hib.trans e4⟩)
     ·exact hst.wa k hk ⟨p,h1,L',q,cs',h2,h3,h4,h5.trans e4⟩
   ·by_cases hpg:p=g
    ·rw[<-k3,hpg,gg]at e1;cases e1;have hql:=(List.getElem?_eq_some_iff.1 e2).1;rw[hpg,(E.tab q (by omega)).1]at e4;exact hst.wa k hk ⟨g,hgn,L,q,cs',gg,e2,e3,e4⟩
    ·rw[bne p hpg]at e4;exact hst.wa k hk ⟨p,by omega,L2,q,cs',by rw[k3];exact e1,e2,e3,e4⟩
   ·rw[k2]at e1;cases e1
 refine h βI mI wI hnI m2 (by rw[<-hM];exact eZ H (by simpa [Nat.blt_eq]using ok.bnd)) β2 w a Q ⟨hr.size,hr.small,fun t ht=>?_,fun t ht=>?_⟩ hst2 hq
 ·have hrt:=hr.rel t ht;have hokt:=ok.ir.at t;rw[<-n2]at hokt
  rcases hR.at t with k|⟨k1,k2⟩|⟨c,c',k1,k2,k3⟩|⟨c,c',k1,k2,k3⟩
  ·rw[k];trivial
  ·rw[k2]at hrt;exact E.Q4 hrt
  ·rw[k2]at hrt;rw[k1]at hokt ⊢;exact⟨hokt,hrt.2.trans (E.cell k3).symm⟩
  ·rw[k2]at hrt;rw[k1]at hokt ⊢;exact⟨hokt,hrt.2.trans (by rw[(E.cells k3).1])⟩
 ·have hot:=hr.out t ht
  rcases hR.at t with k|⟨k1,k2⟩|⟨c,c',k1,k2,k3⟩|⟨c,c',k1,k2,k3⟩
  ·exact k
  ·rw[<-k2];exact hot
  ·rw[k2]at hot;cases hot
  ·rw[k2]at hot;cases hot
theorem WX.Ca{P:Program}{nt nI:Nat}{al:aO}{hs:aj}{K:cu}{c:sn}{L:List (List XC)}{vs us:List XC}{e:TypeId}{opn:Bool}(hg:hs[g]? = some (.late L))(hi:hs[i]? = some (.cells us e opn false))(hgI:nI<=g)(hm:L.length=m)(hv:vs.map (·.self g)=us)(hvl:∀c∈vs,c.lL m=true)
 {R:aO} {H:aj}(hH:bd i g m (.slice i 0 n cp) (.lsl g m 0 n n 0) L vs 0 hs H) (hR:gX g m (.slice i 0 n cp) (.lsl g m 0 n n 0) al R) (hok:sV nI R H) (hn:(∃c,cp = .exact c/\n<=c)\/∃s,cp = .toEnd s/\0<s/\n*s<=us.length)
 (h:WX P nt nI c R H K):WX P nt nI c al hs K:=by
 refine WX.SP hg hgI hm hvl (fun β mm w hmm rel=>?_) hH hR hok h;have nn:=hmm.n;have hin:i<mm.n:=by rw[nn];exact(List.getElem?_eq_some_iff.1 hi).1
 have gi:mm.get i = .cells us e opn false:=hmm.at hi;have ho:=rel.obj i hin;rw[gi]at ho;obtain⟨cs,fr,h1,h2,h3,h4,h5,h6⟩:=ho;have hbase : β.base i=0:=(h4 rfl).2;rw[hbase]at h6 h2
 obtain⟨cap,hcap,hden⟩:∃cap,n<=cap/\(XC.slice i 0 n cp).den β = .slice (some ⟨β.bG i,0,none⟩) n cap:=by
  rcases hn with⟨q,rfl,hq⟩|⟨s,rfl,hs0,hq⟩
  ·exact⟨q,hq,by simp only[XC.den,hbase]⟩
  ·refine⟨(β.size i-0)/s,?_,by simp only[XC.den,hbase]⟩;rw[Nat.le_div_iff_mul_le hs0];split at h3<;>omega
 refine⟨β.bG i,0,cap,fun β2 t1 t3 t4=>by simp only[XC.den,t1,t3,t4,hden,Nat.add_zero,Nat.sub_zero,Nat.max_eq_right hcap],fun _=>⟨⟨cs,e,fr,h1,?_⟩,.inl ⟨hin,by rw[gi];rfl,rfl⟩⟩⟩;have hl:us.length=vs.length:=by rw[<-hv,List.length_map]
 rw[hl]at h6;rw[h6,<-hv]
theorem XC.eU{c:XC}(h:c.lL 0=true)(g:Nat):c.self g=c:=by
 cases c with
 | ptr i off=>cases h
 | slice i off len cap=>cases h
 | map i=>cases h
 | bind g c=>cases h
 | lsl g' k off len fl cut=>cases h
 | lpt g' k off=>cases h
 | _=>rfl
theorem eU{vs:List XC}(h:∀c∈vs,c.lL 0=true)(g:Nat):vs.map (·.self g)=vs:=
 (List.map_congr_left fun c hc=>XC.eU (h c hc) g).trans (List.map_id' _)
end
theorem XC.JB{c:XC}{m:Nat}(h:c.lL m=true)(g:Nat)(τ : Nat->Nat):(c.self g).aC τ = c.self (τ g):=by
 cases c with
 | ptr i off=>cases h
 | slice i off len cap=>cases h
 | map i=>cases h
 | bind g c=>cases h
 | _=>rfl
theorem rY{vs:List XC}{m:Nat}(h:∀c∈vs,c.lL m=true)(g:Nat)(τ : Nat->Nat):(vs.map (·.self g)).map (·.aC τ)=vs.map (·.self (τ g)):=by
 rw[List.map_map];exact List.map_congr_left fun c hc=>XC.JB (h c hc) g τ
theorem gw{vs:List XC}{m:Nat}(h:∀c∈vs,c.lL m=true)(g j:Nat):∀c∈vs.map (·.self j),c.mw g m:=fun c hc=>by
 obtain⟨d,hd,rfl⟩:=List.mem_map.1 hc;exact XC.vk (h d hd)
theorem vn{vs:List XC}{m:Nat}(h:∀c∈vs,c.lL m=true){g n:Nat}(hg:g<n){t:TypeId}{a b:Bool}:(ak.cells (vs.map (·.self g)) t a b).bK n:=fun c hc=>by
 obtain⟨d,hd,rfl⟩:=List.mem_map.1 hc;exact XC.Ei (h d hd) hg
theorem Ge{vs:List XC}(h:vs.all XC.shut=true)(g:Nat):vs.map (·.self g)=vs:=by
 rw[List.all_eq_true]at h;refine(List.map_congr_left (g:=id) fun c hc=>?_).trans (List.map_id _);have:=h c hc;cases c<;>first|rfl|cases this
theorem gD(k:IntKind)(q:List Int)(m:Nat):∀c∈il k q,c.lL m=true:=fun c hc=>by
 obtain⟨z,_,rfl⟩:=List.mem_map.1 hc;rfl
theorem WX.sW{P:Program}{nt nI:Nat}{al:aO}{hs:aj}{K:cu}{c:sn}{L:List (List XC)}{vs us:List XC}{e:TypeId}{opn:Bool}(i g n:Nat)(cp:pr)(R:aO)(H:aj){m:Nat}(hvl:∀c∈vs,c.lL m=true)(hn:(∃c,cp = .exact c/\n<=c)\/∃s,cp = .toEnd s/\0<s/\n*s<=us.length)(hm:L.length=m)(hg:hs[g]? = some (.late L):=by exact rfl)(hi:hs[i]? = some (.cells us e opn false):=by exact rfl)(hgI:Nat.ble nI g=true:=by exact rfl)(hv:vs.map (·.self g)=us:=by exact rfl)
 (hH:bd i g m (.slice i 0 n cp) (.lsl g m 0 n n 0) L vs 0 hs H:=by repeat' (first|exact bd.nil|refine bd.ghost ?_|refine bd.flat rfl ?_|refine bd.cells rfl (dP.same (gw (by assumption) _ _)) ?_|refine bd.dead ?_)) (hR:gX g m (.slice i 0 n cp) (.lsl g m 0 n n 0) al R:=by repeat' (first|exact gX.nil|refine gX.flat rfl ?_|refine gX.one rfl nJ.Ca ?_|refine gX.one rfl (nJ.same (by first|trivial|decide|(intro h;first|exact absurd h (by decide)|omega))) ?_)) (hok:sV nI R H:=by exact ny)
 (h:WX P nt nI c R H K):WX P nt nI c al hs K:=
 WX.Ca hg hi (Nat.le_of_ble_eq_true hgI) hm hv hvl hH hR hok hn h
def qi(L:List (List XC))(g:Nat)(c:XC)(vs:List XC)(n:Nat):Prop:=(n=0/\(c = .nils\/∃i,c = .lem i))\/∃k fl,n<=fl/\c = .lsl g k 0 n fl 0/\L[k]? = some vs
theorem qi.ok{L:List (List XC)}{g:Nat}{c:XC}{vs:List XC}{n m:Nat}(h:qi L g c vs n)(hg:g<m):c.ok m:=by
 rcases h with⟨_,rfl|⟨i,rfl⟩⟩|⟨k,fl,_,rfl,_⟩
 ·trivial
 ·trivial
 ·exact hg
theorem qi.aC{L:List (List XC)}{g:Nat}{c:XC}{vs:List XC}{n:Nat}(h:qi L g c vs n)(τ : Nat->Nat):qi L (τ g) (c.aC τ) vs n:=by
 rcases h with⟨h0,rfl|⟨i,rfl⟩⟩|⟨k,fl,h1,rfl,h2⟩
 ·exact .inl ⟨h0,.inl rfl⟩
 ·exact .inl ⟨h0,.inr ⟨i,rfl⟩⟩
 ·exact .inr ⟨k,fl,h1,rfl,h2⟩
theorem qi.id{L:List (List XC)}{g:Nat}{c:XC}{vs:List XC}{n:Nat}(h:qi L g c vs n){τ : Nat->Nat}(hg : τ g=g):c.aC τ = c:=by
 rcases h with⟨h0,rfl|⟨i,rfl⟩⟩|⟨k,fl,h1,rfl,h2⟩
 ·rfl
 ·rfl
 ·simp only[XC.aC,hg]
section
variable {P:Program} {ops:Array Oper} {nt nI:Nat} {al:aO} {hs:aj} {o:Oper} {l:List Oper} {I:List aA} {K:List Ab->aO->aj->Prop} {d:Nat}
theorem MK{t1 e1:TypeId}(hu:P.underlying t1=some (.slice e1)){b:Operand}{L:List (List XC)}{g n:Nat}{c:XC}{vs:List XC}{sz:Nat}(hb:af (rg al) b = .one c)(hc:qi L g c vs n)(hsz:0<sz)(hi:hs[g]? = some (.late L))(hn:n*sz<=vs.length){r:List XC}(hr:((vs.map (·.self g)).take (n*sz))=r):∀M,a_ M hs->j8 P t1 sz (af (rg al) b) M=some (n,r):=by
 rcases hc with⟨h0,h1⟩|⟨k,fl,h1,rfl,h2⟩
 ·subst h0;intro M hM;rw[Nat.zero_mul,List.take_zero]at hr;subst hr;rw[hb];unfold j8
  rcases h1 with rfl|⟨i,rfl⟩<;>simp only[hu]
 ·exact Eo hu hb hsz hi h2 (by omega) (by rw[List.drop_zero];exact hr)
end
end Go.Xm
namespace Go.Xm
open Go.ChangeShapes Go.WideShapes Go.ChangeAt Go.RowKit Go.Deep
def Tw:Value->Nat×Nat×Nat
 | .slice (some a) _ cap=>(a.block,a.off,cap)
 | _=>(0,0,0)
def Rr:Value->Nat
 | .slice _ n _=>n
 | _=>0
structure Hf(w:World)(k:IntKind)(v:Value):Prop where
 sl:v = .slice none 0 0\/(∃a cap,v = .slice (some a) 0 cap)\/∃b off n cap,0<n/\n<=cap/\n<=9223372036854775807/\v = .slice (some ⟨b,off,none⟩) n cap
 num:∀i,i<Rr v->∃z,w.cell? ⟨(Tw v).1,(Tw v).2.1+i,none⟩=some (.int k z)/\(Lit.int k z).wf=true
variable [aq]
theorem qi.self{L:List (List XC)}{c:XC}{vs:List XC}{n:Nat}(h:qi L 0 c vs n)(g:Nat):qi L g (c.self g) vs n:=by
 rcases h with⟨h0,rfl|⟨i,rfl⟩⟩|⟨k,fl,h1,rfl,h2⟩
 ·exact .inl ⟨h0,.inl rfl⟩
 ·exact .inl ⟨h0,.inr ⟨i,rfl⟩⟩
 ·exact .inr ⟨k,fl,h1,rfl,h2⟩
end Go.Xm
namespace Go.Xm
variable [aq]
section
variable {P:Program} {ops:Array Oper} {nt nI:Nat} {al:aO} {hs:aj} {o:Oper} {l:List Oper} {L:List aA} {K:List Ab->aO->aj->Prop} {d:Nat}
theorem Tk{t t1 e e1:TypeId}{sz len:Nat}{a b:Operand}{zs:List XC}(i n:Nat){j:Nat}{cp cap:pr}{cs vs:List XC}{et:TypeId}{opn opn' ro:Bool}{N:Nat}{hs1 hs2:aj}(hcap:cp = .exact n\/(cp = .toEnd sz/\opn=true/\0<n))(h1:SK P ops nt L l ((d,.one (.slice N 0 (n+len) (.toEnd sz)))::al) hs1 fun bs=>K (⟨true,.none,[N]⟩::bs))(h2:SK P ops nt L l ((d,.one (.slice N 0 (n+len) (.toEnd sz)))::al) hs2 fun bs=>K (⟨true,.none,[i,N]⟩::bs))(ho:o.op = .call ⟨.builtin .append,#[a,b],#[t,t1]⟩:=by exact rfl)(hu:aQ P t (.slice e):=by infer_instance)(hu1:aQ P t1 (.slice e1):=by infer_instance)(hz:aM P e zs:=by infer_instance)(hI:TI P e sz:=by infer_instance)(wn:Wn ops nt al o d:=by exact⟨rfl,rfl,rfl⟩)(hsz:zs.length=sz/\0<sz:=by exact⟨rfl,Nat.le_of_ble_eq_true rfl⟩)(ha:af (rg al) a = .one (.slice i 0 n cp):=by exact rfl)(hi:hs[i]? = some (.cells cs e opn false):=by exact rfl)(hb:af (rg al) b = .one (.slice j 0 len cap):=by exact rfl)(hj:hs[j]? = some (.cells vs et opn' ro):=by exact rfl)(hl:vs.length=len*sz:=by exact rfl)(hn:cs.length=n*sz)(hm:0<len/\n+len<=2000000000:=by omega)(hN:hs.length=N:=by exact n2)(hbd:Nat.blt N Mem.bound=true:=by exact rfl)(hh1:hs++[.cells (cs++vs) e true false]=hs1:=by exact n3)(hh2:hs.set i .dead++[.cells (cs++vs) e true false]=hs2:=by first|(simp only[List.set_cons_succ,List.set_cons_zero,List.cons_append,List.nil_append];exact rfl)|exact rfl):SK P ops nt L (o::l) al hs K:=by
 have hsrc:∀M,a_ M hs->j8 P t1 sz (af (rg al) b) M=some (len,vs):=jZ (hu:=hu1) hb hj hl
 rcases hcap with rfl|⟨rfl,rfl,h0⟩
 ·subst hN hh1;obtain⟨ti,hti,rfl,hby⟩:=hI.get;obtain⟨z1,z2⟩:=hsz;have hbytes:(n+len)*ti.bytes<=140737488355328:=Nat.le_trans (Nat.mul_le_mul_left _ hby) (by omega);refine SK.lift wn.e wn.l (fun _=>?_) h1;intro M hM;obtain⟨m',p1,p2,p3⟩:=hM.push (.cells (cs++vs) e true false) (by simpa [Nat.blt_eq]using hbd);refine⟨m',?_,p2,p3⟩;unfold ji;rw[wn.w];refine ct (by rw[ho];rfl) (by rw[ho];rfl) (by rw[ho];rfl) ?_;rw[ho];have e2:0+n*ti.size<=cs.length:=by omega
  have e3:(cs.drop 0).take (n*ti.size)++vs=cs++vs:=by
   rw[List.drop_zero,List.take_of_length_le (by omega)]
  simp only[cf,jh,dX,hu.out,hti,hz.out,ha,hsrc M hM,List.getElem?_toArray,List.getElem?_cons_zero,List.getElem?_cons_succ,hM.at hi];rw[if_pos ⟨z1,z2⟩,if_neg (show¬n+len<=n by omega),if_pos ⟨by omega,hbytes⟩,if_pos e2,e3,p1,hM.n]
 ·have hpos:0<n*sz:=Nat.mul_pos h0 hsz.2;have hne:cs≠[]:=fun e=>by rw[e]at hn;simp at hn;omega
  exact Sw (cs:=cs) hsrc h2 ho hu hz hI wn hsz (ha.trans (fm (by omega)).symm) (hi.trans (congrArg some (cK hne).symm)) hn hm hN hbd hh2
theorem qJ{t:TypeId}{a:Operand}{g k off:Nat}{LL:List (List XC)}{cs:List XC}{c x:XC}(hk:SK P ops nt L l ((d,.one x)::al) hs fun bs=>K (⟨false,some g,[]⟩::bs))(hL:LL[k]? = some cs)(hc:cs[off]? = some c)(hx:c.self g=x)(ho:o.op = .load t a:=by exact rfl)(ht:cR P t:=by infer_instance)(wn:Wn ops nt al o d:=by exact⟨rfl,rfl,rfl⟩)(ha:af (rg al) a = .one (.lpt g k off):=by exact rfl)(hi:hs[g]? = some (.late LL):=by exact rfl):SK P ops nt L (o::l) al hs K:=by
 subst hx;exact Tu hk hL hc ho ht wn ha hi
theorem MJ{t1 e1:TypeId}[hu:aQ P t1 (.slice e1)]{b:Operand}{LL:List (List XC)}{g:Nat}{c:XC}{kd:IntKind}{p:List Int}(hb:af (rg al) b = .one c)(hc:qi LL g c (il kd p) p.length)(hi:hs[g]? = some (.late LL)):∀M,a_ M hs->j8 P t1 1 (af (rg al) b) M=some (p.length,il kd p):=
 MK hu.out hb hc (by decide) hi (by rw[bz];omega) (by rw[eU (gD kd p 0),List.take_of_length_le (by rw[bz];omega)])
end
theorem qi.back{L:List (List XC)}{i:Nat}{c:XC}{vs:List XC}{n:Nat}(h:qi L i c vs n)(j:Nat)(τ : Nat->Nat)(hj : τ j=i):∃c0,qi L j c0 vs n/\c0.aC τ = c:=by
 rcases h with⟨h0,rfl|⟨a,rfl⟩⟩|⟨k,fl,h1,rfl,h2⟩
 ·exact⟨.nils,.inl ⟨h0,.inl rfl⟩,rfl⟩
 ·exact⟨.lem a,.inl ⟨h0,.inr ⟨a,rfl⟩⟩,rfl⟩
 ·exact⟨.lsl j k 0 n fl 0,.inr ⟨k,fl,h1,rfl,h2⟩,by simp only[XC.aC,hj]⟩
theorem stM{nI:Nat}{al:aO}{hs:aj}(le:Nat.ble nI hs.length=true:=by exact rfl)(bnd:Nat.blt hs.length Mem.bound=true:=by exact rfl)(objs:ax hs.length hs:=by repeat' (first|exact ax.nil|refine ax.flat ?_|refine ax.cons (by first|(simp[ak.bK,XC.ok,aK];done)|(simp[ak.bK,XC.ok,aK, *];done)) ?_))(ir:jQ hs.length al:=by repeat' (first|exact jQ.nil|refine jQ.flat ?_|refine jQ.cons (by first|exact trivial|exact jL (Nat.le_of_ble_eq_true rfl)|exact qi.ok (by assumption) (Nat.le_of_ble_eq_true rfl)|exact cS.ok ‹_› (Nat.le_of_ble_eq_true rfl)|(simp[XV.bK,XC.ok,X1.ok];done)|(simp[XV.bK,XC.ok,X1.ok,aK, *];done)) ?_)):sV nI al hs:=⟨le,bnd,objs,ir⟩
structure xX(p:Prop):Prop where
 out:p
section
variable {P:Program} {nt nI:Nat} {al:aO} {hs:aj}
theorem lq(id:Nat){ops:Array Oper}{dr:Bool}{b:Code}{K:cu}(h:xX (WX P nt nI (.code (.seq (.region id ops dr) b)) al hs K)):WX P nt nI (.code (.seq (.region id ops dr) b)) al hs K:=h.out
theorem uo(id:Nat){ops:Array Oper}{dr:Bool}{x b:Code}{K:cu}(h:xX (WX P nt nI (.code (.seq (.seq (.region id ops dr) x) b)) al hs K)):WX P nt nI (.code (.seq (.seq (.region id ops dr) x) b)) al hs K:=h.out
theorem Nv(id:Nat){ops:Array Oper}{dr:Bool}{K:cu}(h:xX (WX P nt nI (.code (.region id ops dr)) al hs K)):WX P nt nI (.code (.region id ops dr)) al hs K:=h.out
end
def G_(L:List (List XC))(cs:List XC)(ps:List (List Int)):Prop:=
 cs.length=ps.length/\∀i,i<ps.length->qi L 0 (cs.getD i .nils) (il .u8 (ps.getD i [])) (ps.getD i []).length
structure Si where
 lost:Bool
 c:XC
instance:Inhabited Si:=⟨⟨false,.nils⟩⟩
structure Fa where
 lost:Bool
 mask:List Int
instance:Inhabited Fa:=⟨⟨false,[]⟩⟩
def NV(L:List (List XC))(l:List Si)(fs:List Fa):Prop:=
 l.length=fs.length/\∀i,i<fs.length->(l.getD i default).lost=(fs.getD i default).lost/\qi L 0 (l.getD i default).c (il .u8 (fs.getD i default).mask) (fs.getD i default).mask.length
end Go.Xm
namespace Go.Proofs.YthdciapjllppjaaGreat
open Go.Xm
variable [aq]
def uf(g:Nat->Int):Nat->Nat->Option Nat
 | 0,_=>none
 | k+1,i=>if g i=0/\g (i+1)=0/\g (i+2)=1 then some i else uf g k (i+1)
def findF(g:Nat->Int)(n i:Nat):Option Nat:=uf g (n-2-i) i
def dB(b:List Int)(off i:Nat):Int:=b.getD (off+i) 0
theorem kA{g:Nat->Int}{n i:Nat}(h:i+2<n)(hg:g i=0/\g (i+1)=0/\g (i+2)=1):findF g n i=some i:=by
 unfold findF;rw[show n-2-i=(n-2-i-1)+1 by omega,uf,if_pos hg]
theorem yh{g:Nat->Int}{n i:Nat}(h:i+2<n)(hg:¬(g i=0/\g (i+1)=0/\g (i+2)=1)):findF g n i=findF g n (i+1):=by
 unfold findF;rw[show n-2-i=(n-2-(i+1))+1 by omega,uf,if_neg hg]
theorem nX{g:Nat->Int}{n i:Nat}(h:n<=i+2):findF g n i=none:=by
 unfold findF;rw[show n-2-i=0 by omega,uf]
def od(r:Option Nat):Int:=((r.getD 0:Nat):Int)
theorem H0{L:List (List XC)}{k off n fL cut:Nat}{b:List Int}(hL:L[k]? = some (il .u8 b))(hb:off+n<=b.length)(hn:n<=1000000000)(frm:Nat)(hfr:frm<=1000000000){r:Option Nat}(hr:findF (dB b off) n frm=r) :
 bt prog 34 [.one (.lsl 0 k off n fL cut),.one (.int .i64 (frm:Nat))] [.late L] (.tup [.one (.int .i64 (od r)),.one (.bool r.isSome)]) [.late L]:=by
 refine cO Tryz.func34 ?_
 repeat' (first|refine zz ?_|refine zx (fun _=>?_) (fun _=>?_)|fail)
 refine WX.cw (σ:=Nat) (fun i=>[(0,.one (.lsl 0 k off n fL cut)),(6,.one (.int .i64 (i:Nat)))]) (fun i=>[.late L]) (fun i=>(i=frm\/i+2<=n)/\findF (dB b off) n i=r) (fun i=>n-i) frm ⟨.inl rfl,hr⟩ (fun i _=>stM) (bW [0] (reg:=by(repeat' (first|exact ai.nil|refine ai.flat (by rw[show max (frm:Int) 0=(frm:Nat) by omega];rfl) ?_|refine rz ?_|refine ai.sl rfl (by assumption) rfl ?_));first|done|fail)) ?_;intro i ⟨hi,hf⟩ ih
 by_cases hlt:i+2<n
 ·have e0 : off+(i:Int).toNat*1=off+i:=by omega
  have e1:off+((i:Int)+1).toNat*1=off+(i+1):=by omega
  have e2:off+((i:Int)+2).toNat*1=off+(i+2):=by omega
  have l0:off+i<b.length:=by omega
  have l1:off+(i+1)<b.length:=by omega
  have l2:off+(i+2)<b.length:=by omega
  have hy:=kA (g:=dB b off) hlt;have hno:=yh (g:=dB b off) hlt;unfold dB at hy hno
  by_cases h0:b.getD (off+i) 0=0
  ·by_cases h1:b.getD (off+(i+1)) 0=0
   ·by_cases h2:b.getD (off+(i+2)) 0=1
    ·have hr2:r=some i:=hf.symm.trans (hy ⟨h0,h1,h2⟩);subst hr2
     repeat' (first
      |(refine qz ?_;first
       |refine kD ?_
       |refine l5 ?_ (hp:=e0)
       |refine l5 ?_ (hp:=e1)
       |refine l5 ?_ (hp:=e2)
       |refine sY ?_ hL l0
       |refine sY ?_ hL l1
       |refine sY ?_ hL l2)
      |refine zz ?_|refine zx (fun _=>?_) (fun _=>?_)|fail)
     show aE _ _ _ _ _ _ _ _;refine kV [0] ?_;rfl
    ·have hf2:=hf;rw[show findF (dB b off) n i=findF (dB b off) n (i+1)from hno (fun h=>h2 h.2.2)]at hf2
     repeat' (first
      |(refine qz ?_;first
       |refine kD ?_
       |refine l5 ?_ (hp:=e0)
       |refine l5 ?_ (hp:=e1)
       |refine l5 ?_ (hp:=e2)
       |refine sY ?_ hL l0
       |refine sY ?_ hL l1
       |refine sY ?_ hL l2)
      |refine zz ?_|refine zx (fun _=>?_) (fun _=>?_)|fail)
     exact ih (i+1) _ _ _ (bW [0]) ⟨.inr (by omega),hf2⟩ (by omega)
   ·have hf2:=hf;rw[show findF (dB b off) n i=findF (dB b off) n (i+1)from hno (fun h=>h1 h.2.1)]at hf2
    repeat' (first
     |(refine qz ?_;first
      |refine kD ?_
      |refine l5 ?_ (hp:=e0)
      |refine l5 ?_ (hp:=e1)
      |refine l5 ?_ (hp:=e2)
      |refine sY ?_ hL l0
      |refine sY ?_ hL l1
      |refine sY ?_ hL l2)
     |refine zz ?_|refine zx (fun _=>?_) (fun _=>?_)|fail)
    exact ih (i+1) _ _ _ (bW [0]) ⟨.inr (by omega),hf2⟩ (by omega)
  ·have hf2:=hf;rw[show findF (dB b off) n i=findF (dB b off) n (i+1)from hno (fun h=>h0 h.1)]at hf2
   repeat' (first
    |(refine qz ?_;first
     |refine kD ?_
     |refine l5 ?_ (hp:=e0)
     |refine l5 ?_ (hp:=e1)
     |refine l5 ?_ (hp:=e2)
     |refine sY ?_ hL l0
     |refine sY ?_ hL l1
     |refine sY ?_ hL l2)
    |refine zz ?_|refine zx (fun _=>?_) (fun _=>?_)|fail)
   exact ih (i+1) _ _ _ (bW [0]) ⟨.inr (by omega),hf2⟩ (by omega)
 ·have hr2:r=none:=hf.symm.trans (nX (by omega));subst hr2
  repeat' (first
   |(refine qz ?_;first
    |refine kD ?_)
   |refine zz ?_|refine zx (fun _=>?_) (fun _=>?_)|fail)
  show aE _ _ _ _ _ _ _ _;refine kV [0] ?_;rfl
theorem Lx{L:List (List XC)}{g k off n fL cut:Nat}{b:List Int}(hL:L[k]? = some (il .u8 b))(hb:off+n<=b.length)(hn:n<=1000000000){frm:Nat}{z:Int}(hz:z=(frm:Nat))(hfr:frm<=1000000000){r:Option Nat}(hr:findF (dB b off) n frm=r){HS:aj}(hi:HS[g]? = some (.late L))(hbd:Nat.blt HS.length Mem.bound=true) :
 aA.Sound prog ⟨34,[.one (.lsl g k off n fL cut),.one (.int .i64 z)],HS,.tup [.one (.int .i64 (od r)),.one (.bool r.isSome)],HS,[]⟩:=by
 subst hz;exact fR [g] (H0 hL hb hn frm hfr hr) (by simp) (.flat hi .nil) (.flat .nil) (.cons (show 0<1 by omega) (.flat .nil)) (.cons rfl (.flat .nil)) (by simp[XV.bK,X1.ok,XC.ok]) rfl hbd rfl
end Go.Proofs.YthdciapjllppjaaGreat
namespace Go.Xm
variable [aq]
variable {P:Program} {ops:Array Oper} {nt nI:Nat} {al:aO} {hs:aj} {o:Oper} {l:List Oper} {L:List aA} {K:List Ab->aO->aj->Prop} {d:Nat}
theorem Tj{t t1 e e1:TypeId}{a b:Operand}{k:IntKind}{i n:Nat}{r:List Int}{et:TypeId}{opn ro:Bool}{N:Nat}{hs':aj}(hr:r.length=n)(h0:n≠0)(hsrc:∀M,a_ M hs->j8 P t1 1 (af (rg al) b) M=some (n,il k r))(h2:SK P ops nt L l ((d,.one (.slice N 0 n (.toEnd 1)))::al) hs' fun bs=>K (⟨true,.none,[N]⟩::bs))(ho:o.op = .call ⟨.builtin .append,#[a,b],#[t,t1]⟩:=by exact rfl)(hu:aQ P t (.slice e):=by infer_instance)(hu1:aQ P t1 (.slice e1):=by infer_instance)(hz:aM P e [.int k 0]:=by infer_instance)(hI:TI P e 1:=by infer_instance)(wn:Wn ops nt al o d:=by exact⟨rfl,rfl,rfl⟩)(ha:af (rg al) a = .one (.slice i 0 0 (.exact 0)):=by exact rfl)(hi:hs[i]? = some (.cells (il k []) et opn ro):=by exact rfl)(hm:n<=2000000000:=by omega)(hN:hs.length=N:=by exact n2)(hbd:Nat.blt N Mem.bound=true:=by exact rfl)(hh:hs++[.cells (il k r) e true false]=hs':=by exact n3):SK P ops nt L (o::l) al hs K:=
 N9 (q:=[]) hr hsrc (fun h=>absurd h h0) (fun _=>by rw[Nat.zero_add];exact h2) ho hu hu1 hz hI wn ha hi rfl (by omega) hN hbd hh
theorem KX{t e:TypeId}{a:Operand}{lo hi:Option Operand}{s:Nat}{g k off n fl cut p q o' m:Nat}{z w:Int}(hk:SK P ops nt L l ((d,.one (.lsl g k o' m (fl-p) (cut+p)))::al) hs fun bs=>K (quiet::bs))(ho:o.op = .slice t a lo hi .none:=by exact rfl)(hu:aQ P t (.slice e):=by infer_instance)(hs':aH P e s:=by infer_instance)(wn:Wn ops nt al o d:=by exact⟨rfl,rfl,rfl⟩)(ha:af (rg al) a = .one (.lsl g k off n fl cut):=by exact rfl)(hl:qS (lo.map (af (rg al))) 0=some z:=by exact rfl)(hh:qS (hi.map (af (rg al))) (n:Nat)=some w:=by exact rfl)(hp:z=(p:Nat):=by first|exact rfl|omega)(hq:w=(q:Nat):=by first|exact rfl|omega)(hb:p<=q/\q<=fl/\(p=0\/p<fl):=by omega)(e1:off+p*s=o':=by omega)(e2:q-p=m:=by omega):SK P ops nt L (o::l) al hs K:=by
 subst e1 e2;exact Ty hk ho hu hs' wn ha hl hh hp hq hb
theorem Ep{t1 e1:TypeId}[hu:aQ P t1 (.slice e1)]{b:Operand}{LL:List (List XC)}{g k off n fl cut:Nat}{p r:List Int}(hL:LL[k]? = some (il .u8 p))(hr:(p.drop off).take n=r)(hn:off+n<=p.length)(hb:af (rg al) b = .one (.lsl g k off n fl cut))(hi:hs[g]? = some (.late LL)):∀M,a_ M hs->j8 P t1 1 (af (rg al) b) M=some (n,il .u8 r):=
 Eo hu.out hb (by decide) hi hL (by rw[bz];omega) (by
  rw[eU (gD .u8 p 0),Nat.mul_one,<-hr];unfold il
  rw[<-List.map_drop,<-List.map_take])
end Go.Xm
namespace Go.Proofs.YthdciapjllppjaaGreat
open Go.Xm
variable [aq]
theorem iG{S:List Bool}(pre:List Bool){n:Int}{k:Nat}(rest:List Bool)(hS:S=pre++(aJ n k++rest))(hn:0<=n/\n<2^k){q q':Nat}(hq:pre.length=q)(hq':q+k=q'):bX S k (q,false)=(n,(q',false)):=by
 subst hS hq hq';exact E6 hn pre rest
theorem CG{S:List Bool}(pre:List Bool){b:Bool}(rest:List Bool)(hS:S=pre++(b::rest)){q:Nat}(hq:pre.length=q):fI S (q,false)=b/\ch S (q,false)=(q+1,false):=by
 subst hS hq;refine⟨?_,?_⟩
 ·show(!false&&_)=b;rw[Bool.not_false,Bool.true_and,List.getD_eq_getElem?_getD,List.getElem?_append_right (Nat.le_refl _),Nat.sub_self];rfl
 ·unfold ch;rw[if_neg Bool.noConfusion,if_pos (by rw[List.length_append,List.length_cons];omega)]
theorem oW{L:List Int}{B:List Bool}(h:e_ L B){q q':Nat}{b:Bool}(hv:fI B (q,false)=b/\ch B (q,false)=(q',false)){HS:aj}{i k:Nat}(hi:HS[i]? = some (gF k L B q false))(hk:HS[k]? = some (dT L))(hd:i≠k){HS':aj}(hh:HS.set i (gF k L B q' false)=HS')(hbd:Nat.blt HS'.length Mem.bound=true) :
 aA.Sound prog ⟨96,[.one (.ptr i 0)],HS,.one (.bool b),HS',[i]⟩:=by
 have:=Jw h (q,false) hi hk hd (HS':=HS') (by rw[hv.2];exact hh) hbd;rw[hv.1]at this;exact this
theorem Jo{L:List Int}{B:List Bool}(h:e_ L B){q q':Nat}{b:Bool}(hv:fI B (q,false)=b/\ch B (q,false)=(q',false)){HS:aj}{i k:Nat}(hi:HS[i]? = some (gF k L B q false))(hk:HS[k]? = some (dT L))(hd:i≠k){HS':aj}(hh:HS.set i (gF k L B q' false)=HS')(hbd:Nat.blt HS'.length Mem.bound=true) :
 aA.Sound prog ⟨72,[.one (.ptr i 0)],HS,.one (.int .u64 (b2 b)),HS',[i]⟩:=by
 have:=tx h (q,false) rfl hi hk hd (HS':=HS') (by rw[hv.2];exact hh) hbd;rw[hv.1]at this;exact this
structure wP(S:List Bool)(p:Ph)(first count la lb sa sb:Int):Prop where
 id:bX S 16 (0,false)=(p.id,(16,false))
 inter:fI S (16,false)=p.inter/\ch S (16,false)=(17,false)
 down:fI S (17,false)=p.down/\ch S (17,false)=(18,false)
 qp:bX S 5 (18,false)=(p.qp,(23,false))
 first:bX S 7 (23,false)=(first,(30,false))
 count:bX S 7 (30,false)=(count,(37,false))
 la:bX S 16 (37,false)=(la,(53,false))
 lb:bX S 16 (53,false)=(lb,(69,false))
 sa:bX S 16 (69,false)=(sa,(85,false))
 sb:bX S 16 (85,false)=(sb,(101,false))
theorem Qi{n:Int}(h:0<=n/\n<65536):0<=n/\n<2^16:=h
theorem p7{n:Int}(h:0<=n/\n<128):0<=n/\n<2^7:=h
theorem Pd{p:Ph}{first count la lb sa sb:Int}(hp:pK p)(hf:0<=first/\first<128)(hc:0<=count/\count<128)(ha:0<=la/\la<65536)(hb:0<=lb/\lb<65536)(hsa:0<=sa/\sa<65536)(hsb:0<=sb/\sb<65536):wP (fT p first count la lb sa sb) p first count la lb sa sb:=by
 have h1:=hp.id;have h2:=hp.qp;refine⟨?_,?_,?_,?_,?_,?_,?_,?_,?_,?_⟩
 ·exact iG [] _ (by simp only[fT,List.append_assoc,List.nil_append];rfl) (Qi ⟨h1.1,by omega⟩) rfl rfl
 ·exact CG (aJ p.id 16) _ (by simp only[fT,List.append_assoc,List.nil_append,List.cons_append];rfl) (aR ..)
 ·exact CG (aJ p.id 16++[p.inter]) _ (by simp only[fT,List.append_assoc,List.nil_append,List.cons_append];rfl) (by rw[List.length_append,aR];rfl)
 ·exact iG (aJ p.id 16++[p.inter]++[p.down]) _ (by simp only[fT,List.append_assoc,List.nil_append,List.cons_append];rfl) (show 0<=p.qp/\p.qp<32 by omega) (by simp only[List.length_append,aR,List.length_cons,List.length_nil]) rfl
 ·exact iG (aJ p.id 16++[p.inter]++[p.down]++aJ p.qp 5) _ (by simp only[fT,List.append_assoc,List.nil_append,List.cons_append];rfl) (p7 hf) (by simp only[List.length_append,aR,List.length_cons,List.length_nil]) rfl
 ·exact iG (aJ p.id 16++[p.inter]++[p.down]++aJ p.qp 5++aJ first 7) _ (by simp only[fT,List.append_assoc,List.nil_append,List.cons_append];rfl) (p7 hc) (by simp only[List.length_append,aR,List.length_cons,List.length_nil]) rfl
 ·exact iG (aJ p.id 16++[p.inter]++[p.down]++aJ p.qp 5++aJ first 7++aJ count 7) _ (by simp only[fT,List.append_assoc,List.nil_append,List.cons_append];rfl) (Qi ha) (by simp only[List.length_append,aR,List.length_cons,List.length_nil]) rfl
 ·exact iG (aJ p.id 16++[p.inter]++[p.down]++aJ p.qp 5++aJ first 7++aJ count 7++aJ la 16) _ (by simp only[fT,List.append_assoc,List.nil_append,List.cons_append];rfl) (Qi hb) (by simp only[List.length_append,aR,List.length_cons,List.length_nil]) rfl
 ·exact iG (aJ p.id 16++[p.inter]++[p.down]++aJ p.qp 5++aJ first 7++aJ count 7++aJ la 16++aJ lb 16) (aJ sb 16) (by simp only[fT,List.append_assoc,List.nil_append,List.cons_append]) (Qi hsa) (by simp only[List.length_append,aR,List.length_cons,List.length_nil]) rfl
 ·exact iG (aJ p.id 16++[p.inter]++[p.down]++aJ p.qp 5++aJ first 7++aJ count 7++aJ la 16++aJ lb 16++aJ sa 16) [] (by simp only[fT,List.append_assoc,List.nil_append,List.cons_append,List.append_nil]) (Qi hsb) (by simp only[List.length_append,aR,List.length_cons,List.length_nil]) rfl
theorem fE(i:Nat){f f':FuncId}{a a':List XV}{HS H1 HS' H1':aj}{v v':XV}{w w':List Nat}{k k' q q':Nat}{L L':List Int}{B B':List Bool}{e e':Bool}(hi:HS[i]? = some (gF k L B q e))(hi':HS'[i]? = some (gF k' L' B' q' e'))(hn:Nat.beq q q'=false):Compat ⟨f,a,HS,v,H1,w⟩ ⟨f',a',HS',v',H1',w'⟩:=fun _ _ h=>by
 have h:HS=HS':=h;rw[h,hi']at hi
 injection hi with hi
 injection hi with hi
 injection hi with _ hi
 injection hi with hi _
 injection hi with _ hi
 have:q'=q:=by omega
 subst this;rw[Nat.beq_refl]at hn;cases hn
theorem Cz{L:List Int}{S:List Bool}(hB:e_ L S){p:Ph}{first count la lb sa sb:Int}(hp:pK p)(hr:wP S p first count la lb sa sb) :
 bt prog 98 [.one (.ptr 0 0)] (RH L S 0 false) (.agg (tu p)) (RH L S 23 false):=by
 have h1:=hp.id;have h2:=hp.qp;refine cO Tryz.func98 ?_
 repeat' (first
  |(refine qz ?_;first
   |refine cl ?_ (hi:=by exact cJ hB hr.id rfl (by decide) (i:=0) (k:=1) rfl rfl (by decide) hS rfl)
   |refine cl ?_ (hi:=by exact oW hB hr.inter (i:=0) (k:=1) rfl rfl (by decide) hS rfl)
   |refine cl ?_ (hi:=by exact oW hB hr.down (i:=0) (k:=1) rfl rfl (by decide) hS rfl)
   |refine cl ?_ (hi:=by exact cJ hB hr.qp rfl (by decide) (i:=0) (k:=1) rfl rfl (by decide) hS rfl)
   |refine cl ?_ (hi:=by exact xz (i:=0) (k:=1) rfl rfl (by decide) rfl)
   |refine cl ?_ (hi:=by exact kb hp rfl))
  |refine zz ?_|refine zx (fun _=>?_) (fun _=>?_)|refine bp (by first|exact ag.nil|exact ag.one _|exact ag.my (by repeat' (first|exact True.intro|refine And.intro ?_ ?_|exact Compat.ne rfl|exact fE 0 rfl rfl rfl))) ⟨by kernel_rfl,?_⟩|refine bp (by first|exact ag.nil|exact ag.one _|exact ag.my (by repeat' (first|exact True.intro|refine And.intro ?_ ?_|exact Compat.ne rfl|exact fE 0 rfl rfl rfl))) ?_|fail)
 show aE _ _ _ _ _ _ _ _;refine kV [0,1] ?_;rfl
theorem FP{L:List Int}{S:List Bool}(hB:e_ L S){p:Ph}{first count la lb sa sb:Int}(hp:pK p)(hr:wP S p first count la lb sa sb){HS:aj}{i k:Nat}(hi:HS[i]? = some (gF k L S 0 false))(hk:HS[k]? = some (dT L))(hd:i≠k){HS':aj}(hh:HS.set i (gF k L S 23 false)=HS')(hbd:Nat.blt HS'.length Mem.bound=true) :
 aA.Sound prog ⟨98,[.one (.ptr i 0)],HS,.agg (tu p),HS',[i]⟩:=
 F4 (fun _ => .nil) .nil (Cz hB hp hr) hi hk hd hh hbd
abbrev CY(p:Ph)(first count:Int)(c d:XC)(len:Int):List XC:=[.int .i64 p.id,.bool p.inter,.bool p.down,.int .i64 p.qp,.int .i64 first,.int .i64 count,c,d,.int .i64 len,.bool true,.bool true]
theorem u_{L:List Int}{B:List Bool}{p:Nat}(hp:B.length<=p){HS:aj}{i k:Nat}(hi:HS[i]? = some (gF k L B p false))(hk:HS[k]? = some (dT L))(hd:i≠k)(hbd:Nat.blt HS.length Mem.bound=true) :
 aA.Sound prog ⟨97,[.one (.ptr i 0)],HS,.one (.int .i64 0),HS,[i]⟩:=by
 have:=Mo hi hk hd hbd;rw[if_neg Bool.noConfusion,if_neg (by omega)]at this;exact this
theorem CB{W:List (List XC)}{k off n fL cut:Nat}{b:List Int}(hL:W[k]? = some (il .u8 b))(hbl:off+n<=b.length)(hn:n<=1000000000)(hfl:n<=fL){L:List Int}{S:List Bool}(hB:e_ L S)(hSl:S.length=101){p:Ph}{first count all:Int}{A Bb:List Int}(hk:xZ p first count A.length Bb.length all)(hA:bj A)(hBb:bj Bb)(hr:wP S p first count (A.length:Nat) (Bb.length:Nat) (c9 A) (c9 Bb))(hfit:21+A.length+Bb.length<=n)(ewA:(b.drop (off+21)).take A.length=A)(ewB:(b.drop (off+(21+A.length))).take Bb.length=Bb) :
 bt prog 73 [.one (.lsl 0 k off n fL cut),.one (.int .i64 all),.one (.ptr 1 0)] [.late W,gF 2 L S 0 false,dT L] (.tup [.agg (CY p first count (.slice 3 0 A.length (.toEnd 1)) (.slice 4 0 Bb.length (.toEnd 1)) ((21+A.length+Bb.length:Nat):Int)),.one (.int .i64 0)]) [.late W,.dead,.dead,.cells (il .u8 A) 5 true false,.cells (il .u8 Bb) 5 true false]:=by
 have h1:=hk.fst;have h2:=hk.cnt;have h3:=hk.fit;have h4:=hk.most;have h5:=hk.a;have h6:=hk.b;have hph:=hk.ph
 obtain⟨sa,hsa⟩:∃s,c9 A=s:=⟨_,rfl⟩
 obtain⟨sb,hsb⟩:∃s,c9 Bb=s:=⟨_,rfl⟩
 have ra:=gf A;have rb:=gf Bb;rw[hsa]at ra hr;rw[hsb]at rb hr;refine cO Tryz.func73 ?_
 repeat' (first
  |(refine qz ?_;first
   |refine cl ?_ (hi:=by exact FP hB hph hr (i:=1) (k:=2) rfl rfl (by decide) hS rfl)
   |refine cl ?_ (hi:=by exact cJ hB hr.first rfl (by decide) (i:=1) (k:=2) rfl rfl (by decide) hS rfl)
   |refine cl ?_ (hi:=by exact cJ hB hr.count rfl (by decide) (i:=1) (k:=2) rfl rfl (by decide) hS rfl)
   |refine cl ?_ (hi:=by exact cJ hB hr.la rfl (by decide) (i:=1) (k:=2) rfl rfl (by decide) hS rfl)
   |refine cl ?_ (hi:=by exact cJ hB hr.lb rfl (by decide) (i:=1) (k:=2) rfl rfl (by decide) hS rfl)
   |refine cl ?_ (hi:=by exact cJ hB hr.sa rfl (by decide) (i:=1) (k:=2) rfl rfl (by decide) hS rfl)
   |refine cl ?_ (hi:=by exact cJ hB hr.sb rfl (by decide) (i:=1) (k:=2) rfl rfl (by decide) hS rfl)
   |refine cl ?_ (hi:=by exact u_ (by omega) (i:=1) (k:=2) rfl rfl (by decide) rfl)
   |refine kD ?_
   |refine t5 (zs:=[.int .u8 0]) ?_
   |refine KX (p:=21) (q:=21+A.length) (o':=off+21) (m:=A.length) ?_
   |refine KX (p:=21+A.length) (q:=21+A.length+Bb.length) (o':=off+(21+A.length)) (m:=Bb.length) ?_
   |refine Tj (r:=A) rfl (by omega) (Ep hL ewA (by omega) rfl rfl) ?_
   |refine Tj (r:=Bb) rfl (by omega) (Ep hL ewB (by omega) rfl rfl) ?_
   |refine cl ?_ (hi:=by exact uW hk (i:=6) (j:=8) rfl rfl (by decide) rfl)
   |refine t5 (zs:=[.nils]) ?_
   |refine cl ?_ (hi:=by exact ou (l:=A) hA (by omega) (RO.of ..) hsa rfl (i:=6) (j:=9) rfl rfl (by decide) rfl)
   |refine cl ?_ (hi:=by exact ou (l:=Bb) hBb (by omega) (RO.of ..) hsb rfl (i:=8) (j:=10) rfl rfl (by decide) rfl))
  |refine RS (id:=14) [14] ?_|refine zz ?_|refine zx (fun _=>?_) (fun _=>?_)|refine bp (by first|exact ag.nil|exact ag.one _|exact ag.my (by repeat' (first|exact True.intro|refine And.intro ?_ ?_|exact Compat.ne rfl|exact fE 1 rfl rfl rfl|exact dE rfl))) ⟨by kernel_rfl,?_⟩|refine bp (by first|exact ag.nil|exact ag.one _|exact ag.my (by repeat' (first|exact True.intro|refine And.intro ?_ ?_|exact Compat.ne rfl|exact fE 1 rfl rfl rfl|exact dE rfl))) ?_|fail)
 show aE _ _ _ _ _ _ _ _;refine kV [0,1,2,6,8] ?_ (ho:=by repeat' (first|exact ae.nil|refine oz ?_));rfl
theorem dS{L:List (List XC)}{g k off n fL cut:Nat}{b:List Int}(hL:L[k]? = some (il .u8 b))(hb:off+n<=b.length)(hn:n<=1000000000){frm:Nat}{z:Int}(hz:z=(frm:Nat))(hfr:frm<=1000000000){x:Int}{s:Bool}(hr:od (findF (dB b off) n frm)=x/\(findF (dB b off) n frm).isSome=s){HS:aj}(hi:HS[g]? = some (.late L))(hbd:Nat.blt HS.length Mem.bound=true) :
 aA.Sound prog ⟨34,[.one (.lsl g k off n fL cut),.one (.int .i64 z)],HS,.tup [.one (.int .i64 x),.one (.bool s)],HS,[]⟩:=by
 obtain⟨rfl,rfl⟩:=hr;exact Lx hL hb hn hz hfr rfl hi hbd
theorem FV{W:List (List XC)}{g k off n fL cut:Nat}{b:List Int}(hL:W[k]? = some (il .u8 b))(hbl:off+n<=b.length)(hn:n<=1000000000)(hfl:n<=fL){L:List Int}{S:List Bool}(hB:e_ L S)(hSl:S.length=101){p:Ph}{first count all:Int}{A Bb:List Int}(hk:xZ p first count A.length Bb.length all)(hA:bj A)(hBb:bj Bb)(hr:wP S p first count (A.length:Nat) (Bb.length:Nat) (c9 A) (c9 Bb))(hfit:21+A.length+Bb.length<=n)(ewA:(b.drop (off+21)).take A.length=A)(ewB:(b.drop (off+(21+A.length))).take Bb.length=Bb){HS:aj}{i j:Nat}(h0:HS[g]? = some (.late W))(h1:HS[i]? = some (gF j L S 0 false))(h2:HS[j]? = some (dT L))(hnd : [g,i,j].Nodup){N M:Nat}(hN:HS.length=N)(hM:N+1=M){HS':aj}(hh:bJ HS [g,i,j] [.late W,.dead,.dead,.cells (il .u8 A) 5 true false,.cells (il .u8 Bb) 5 true false]=HS')(hbd:Nat.blt HS'.length Mem.bound=true) :
 aA.Sound prog ⟨73,[.one (.lsl g k off n fL cut),.one (.int .i64 all),.one (.ptr i 0)],HS,.tup [.agg (CY p first count (.slice N 0 A.length (.toEnd 1)) (.slice M 0 Bb.length (.toEnd 1)) ((21+A.length+Bb.length:Nat):Int)),.one (.int .i64 0)],HS',[g,i,j]⟩:=by
 subst hN hM;refine bI [g,i,j] [g,i,j] 2 (CB hL hbl hn hfl hB hSl hk hA hBb hr hfit ewA ewB) hnd (.flat h0 (.cons (by rw[h1];rfl) (.flat h2 .nil))) (.flat (.cons (by simp[ak.bK,XC.ok]) (.flat .nil))) (.flat (.flat (.flat (.flat (.flat .nil))))) rfl (.cons (show 0<3 by omega) (.flat (.cons (show 1<3 by omega) .nil))) (.cons rfl (.flat (.cons rfl .nil))) (by simp[XV.bK,X1.ok,XC.ok]) rfl (.flat (.flat (.flat (.flat (.flat .nil))))) rfl rfl hh hbd (.inl rfl)
theorem Jm{B:List Bool}{r:Nat}(h:r+7<=B.length):aJ (128+lf B r 7 0) 7=(B.drop r).take 7:=by
 refine List.ext_getElem (by rw[aR,List.length_take,List.length_drop];omega) fun i h1 h2=>?_
 have hi:i<7:=by rwa [aR]at h1
 have e:=u4 (128+lf B r 7 0) 7 i hi;rw[List.getD_eq_getElem?_getD,List.getElem?_eq_getElem h1,Option.getD_some]at e;rw[e,List.getElem_take,List.getElem_drop];have h3:=vD B 7 r 0 i hi;obtain⟨q,hq⟩:=Rw ⟨6-i,by omega⟩;have hq:(128:Int)=2^(6-i)*(2*q):=hq;have hp:(0:Int)<2^(6-i):=Int.pow_pos (by decide)
 have e2:(128+lf B r 7 0)/2^(6-i)%2=lf B r 7 0/2^(6-i)%2:=by
  rw[hq,Int.add_comm,Int.add_mul_ediv_left _ _ (by omega)];omega
 rw[show 7-1-i=6-i by omega]at h3 ⊢;rw[e2,h3,List.getD_eq_getElem?_getD,List.getElem?_eq_getElem (show r+i<B.length by omega),Option.getD_some];cases B[r+i]<;>rfl
theorem J1{B:List Bool}{k:Nat}(h:7*k+7<=B.length):B.take (7*k)++aJ (128+lf B (7*k) 7 0) 7=B.take (7*(k+1)):=by
 rw[Jm h,show 7*(k+1)=7*k+7 by omega,List.take_add]
theorem take_one{B:List Bool}{k:Nat}(h:k<B.length):B.take k++aJ (b2 (B.getD k false)) 1=B.take (k+1):=by
 rw[List.take_add,List.getD_eq_getElem?_getD,List.getElem?_eq_getElem h,Option.getD_some,List.drop_eq_getElem_cons h];cases B[k]<;>rfl
theorem Kv{b l:List Int}{off:Nat}(h:∀i,i<l.length->b.getD (off+i) 0=l.getD i 0)(hlen:off+l.length<=b.length):(b.drop off).take l.length=l:=by
 refine List.ext_getElem (by rw[List.length_take,List.length_drop];omega) fun i h1 h2=>?_
 have:=h i h2;rw[List.getD_eq_getElem?_getD,List.getD_eq_getElem?_getD,List.getElem?_eq_getElem (show off+i<b.length by omega),List.getElem?_eq_getElem h2]at this;rw[List.getElem_take,List.getElem_drop];exact this
theorem LF:∀v:Fin 128,Ch .u8 (128+(v.val:Int)) 128=128:=by decide +kernel
theorem Ie{v:Int}(h:0<=v/\v<128):Ch .u8 (128+v) 128=128:=by
 have:=LF ⟨v.toNat,by omega⟩;rw[show((⟨v.toNat,by omega⟩:Fin 128).val:Int)=v by show(v.toNat:Int)=v;omega]at this;exact this
theorem mO{b:List Int}{i:Nat}{c:Int}(hi:i<b.length)(hc:b.getD i 0=c):(il .u8 b)[i]? = some (.int .u8 c):=by
 unfold il;rw[List.getElem?_map,List.getElem?_eq_getElem hi];rw[List.getD_eq_getElem?_getD,List.getElem?_eq_getElem hi,Option.getD_some]at hc;rw[hc];rfl
structure K3(b:List Int)(off n:Nat)(p:Ph)(first count all:Int)(A Bb:List Int)(B:List Bool):Prop where
 ok:xZ p first count A.length Bb.length all
 ba:bj A
 bb:bj Bb
 hd:kB p first count (A.length:Nat) (Bb.length:Nat) (c9 A) (c9 Bb) (c9 (wr (fT p first count (A.length:Nat) (Bb.length:Nat) (c9 A) (c9 Bb))))=B
 fit:21+A.length+Bb.length<=n
 is:∀i,i<21+A.length+Bb.length->b.getD (off+i) 0=(eh B A Bb).getD i 0
theorem F0{W:List (List XC)}{k off n fL cut:Nat}{b:List Int}(hL:W[k]? = some (il .u8 b))(hbl:off+n<=b.length)(hn:n<=1000000000)(hfl:n<=fL){p:Ph}{first count all:Int}{A Bb:List Int}{B:List Bool}(hp:K3 b off n p first count all A Bb B) :
 bt prog 36 [.one (.lsl 0 k off n fL cut),.one (.int .i64 all)] [.late W] (.tup [.agg (CY p first count (.slice 1 0 A.length (.toEnd 1)) (.slice 2 0 Bb.length (.toEnd 1)) ((21+A.length+Bb.length:Nat):Int)),.one (.int .i64 0)]) [.late W,.cells (il .u8 A) 5 true false,.cells (il .u8 Bb) 5 true false]:=by
 obtain⟨hk,hA,hBb,hB,hfit,his⟩:=hp;have h1:=hk.fst;have h2:=hk.cnt;have h3:=hk.fit;have h4:=hk.most;have h5:=hk.a;have h6:=hk.b;have hph:=hk.ph;have hBl:B.length=119:=by rw[<-hB];exact oR ..
 obtain⟨S,hSs⟩:∃S,fT p first count (A.length:Nat) (Bb.length:Nat) (c9 A) (c9 Bb)=S:=⟨_,rfl⟩
 have hSl:S.length=101:=by rw[<-hSs];exact rX ..
 have hsr:wP S p first count (A.length:Nat) (Bb.length:Nat) (c9 A) (c9 Bb):=by
  rw[<-hSs];exact Pd hph ⟨h1,by omega⟩ ⟨by omega,by omega⟩ ⟨by omega,by omega⟩ ⟨by omega,by omega⟩ (gf _) (gf _)
 rw[hSs]at hB
 obtain⟨su,hsu⟩:∃s,c9 (wr S)=s:=⟨_,rfl⟩
 have ru:=gf (wr S);rw[hsu]at ru hB;have hB2:(S++aJ su 16)++aJ 0 2=B:=by rw[<-hB];unfold kB;rw[hSs]
 have hBS:B.take 101=S:=by
  rw[<-hB2,List.append_assoc,List.take_left' hSl]
 have hb16:bX B 16 (101,false)=(su,(117,false)):=iG S (aJ 0 2) (by rw[<-hB2,List.append_assoc]) (Qi ru) hSl rfl;have hb2:bX B 2 (117,false)=(0,(119,false)):=iG (S++aJ su 16) [] (by rw[<-hB2,List.append_nil]) (by decide) (by rw[List.length_append,aR,hSl]) rfl;have hwS:(wr S).length=13:=by rw[cN,hSl]
 have hwB:(wr B).length=15:=by rw[cN,hBl]
 have hBin:=tY B (by omega);have hSin:=tY S (by omega)
 have w0:dB b off 0=0/\dB b off 1=0/\dB b off 2=1:=⟨his 0 (by omega),his 1 (by omega),his 2 (by omega)⟩
 have hf0:od (findF (dB b off) n 0)=0/\(findF (dB b off) n 0).isSome=true:=by
  rw[kA (by omega) w0];exact⟨rfl,rfl⟩
 have hc3:(il .u8 b)[off+3]? = some (.int .u8 182):=mO (by omega) (his 3 (by omega))
 have ewA:(b.drop (off+21)).take A.length=A:=Kv (fun i hi=>by
  rw[show off+21+i=off+(21+i) by omega,his (21+i) (by omega)];unfold eh
  rw[List.getD_eq_getElem?_getD,List.getElem?_append_left (by rw[List.length_append,List.length_append,fC];show 21+i<4+17+A.length;omega),List.getElem?_append_right (by rw[List.length_append,fC];show 4+17<=21+i;omega),List.length_append,fC,List.getD_eq_getElem?_getD,show 21+i-(([0,0,1,182]:List Int).length+17)=i by show 21+i-(4+17)=i;omega]) (by omega)
 have ewB:(b.drop (off+(21+A.length))).take Bb.length=Bb:=Kv (fun i hi=>by
  rw[show off+(21+A.length)+i=off+(21+A.length+i) by omega,his (21+A.length+i) (by omega)];unfold eh
  rw[List.getD_eq_getElem?_getD,List.getElem?_append_right (by rw[List.length_append,List.length_append,fC];show 4+17+A.length<=21+A.length+i;omega),List.length_append,List.length_append,fC,List.getD_eq_getElem?_getD,show 21+A.length+i-(([0,0,1,182]:List Int).length+17+A.length)=i by show 21+A.length+i-(4+17+A.length)=i;omega]) (by omega)
 have hsev:∀i,i<17->b.getD (off+(4+i)) 0=128+lf B (7*i) 7 0:=fun i hi=>by
  rw[his (4+i) (by omega),Au B A Bb hi];unfold CI;rw[mG (by omega)]
 have hw0:aP 1 (B.take (7*0)) = .cells [.nils,.int .i64 0] 134 false false:=by rw[Nat.mul_zero,List.take_zero];rfl
 have hw1:aP 2 (B.take 0) = .cells [.nils,.int .i64 0] 134 false false:=by rw[List.take_zero];rfl
 refine cO Tryz.func36 ?_;refine WX.cc rfl ?_;refine WX.cc rfl ?_
 repeat' (first
  |(refine qz ?_;first
   |refine cl ?_ (hi:=by exact dS hL hbl hn (frm:=0) rfl (by decide) hf0 (g:=0) rfl rfl)
   |refine kD ?_
   |refine l5 ?_
   |refine qJ ?_ hL hc3 rfl
   |refine KX (p:=4) (q:=21) (o':=off+4) (m:=17) ?_)
  |refine zz ?_|refine zx (fun _=>?_) (fun _=>?_)|fail)
 refine WX.cw (σ:=Nat) (fun t=>[(0,.one (.lsl 0 k off n fL cut)),(1,.one (.int .i64 all)),(4,.one (.ptr 3 0)),(8,.one (.ptr 4 0)),(44,.one (.lsl 0 k (off+4) 17 (fL-4) (cut+4))),(45,.one (.int .i64 17)),(46,.one (.int .i64 (t:Nat)))]) (fun t=>[.late W,av (B.take (7*t)),.dead,.cells [.int .i64 0,.bool false,.bool false,.int .i64 0,.int .i64 0,.int .i64 0,.nils,.nils,.int .i64 0,.bool false,.bool false] 52 false false,aP 1 (B.take (7*t))]) (fun t=>t<=17) (fun t=>17-t) 0 (Nat.zero_le _) (fun t _=>ny) (bW [0,1,2,3,4] (obj:=by(repeat' (first|exact ae.nil|refine ae.cons (by rw[hw0];rfl) ?_|refine oz ?_));first|done|fail)) ?_;intro t ht ih;have htl:(B.take (7*t)).length=7*t:=by rw[List.length_take];omega
 by_cases hlt:t<17
 ·have hv:=hsev t hlt;have hvr:=Ka B (7*t);have hts:=J1 (B:=B) (k:=t) (by omega);have ha:=Ie hvr
  obtain⟨c,hc⟩:∃c,128+lf B (7*t) 7 0=c:=⟨_,rfl⟩
  have hcr:128<=c/\c<256:=by omega
  rw[hc]at hv hts ha;have hat:=mO (show off+(4+t)<b.length by omega) hv;have e4:off+4+(t:Int).toNat*1=off+(4+t):=by omega
  repeat' (first
   |(refine qz ?_;first
    |refine l5 ?_ (hp:=e4)
    |refine qJ ?_ hL hat rfl
    |refine cl ?_ (hi:=by exact fu (size:=7) rfl (bs:=B.take (7*t)) (by omega) (by decide) (by omega) (i:=4) (k:=1) rfl rfl (by decide) hts nL nA rfl))
   |refine zz ?_|refine zx (fun _=>?_) (fun _=>?_)|fail)
  exact ih (t+1) _ _ _ (bW [0,5,2,3,4]) (by omega) (by omega)
 ·obtain rfl:t=17:=by omega
  clear ih;have hB17:B.take (7*17)=B:=List.take_of_length_le (by omega);rw[hB17]
  repeat' (first
   |(refine qz ?_;first
    |refine cl ?_ (hi:=by exact o6 (bs:=B) (by omega) (by omega) (i:=4) (k:=1) rfl rfl (by decide) (n:=15) (by rw[hBl]) nL nA rfl)
    |refine cl ?_ (hi:=by exact ED (bs:=B) (i:=4) (k:=1) rfl rfl (by decide) (z:=119) (by rw[hBl];rfl) rfl)
    |refine cl ?_ (hi:=by exact tA (L:=wr B) (B:=B) (by omega) (by omega) hwB (by rw[hBl];rfl) (i:=5) rfl nL nA rfl))
   |refine zz ?_|refine zx (fun _=>?_) (fun _=>?_)|fail)
  refine WX.cw (σ:=Nat) (fun t=>[(0,.one (.lsl 0 k off n fL cut)),(1,.one (.int .i64 all)),(4,.one (.ptr 3 0)),(11,.one (.ptr 4 0)),(12,.one (.ptr 6 0)),(66,.one (.int .i64 (t:Nat)))]) (fun t=>[.late W,.dead,av (B.take t),.cells [.int .i64 0,.bool false,.bool false,.int .i64 0,.int .i64 0,.int .i64 0,.nils,.nils,.int .i64 0,.bool false,.bool false] 52 false false,gF 5 (wr B) B t false,dT (wr B),aP 2 (B.take t)]) (fun t=>t<=101) (fun t=>101-t) 0 (Nat.zero_le _) (fun t _=>ny) (bW [0,1,2,3,6,7,8] (obj:=by(repeat' (first|exact ae.nil|refine ae.cons (by rw[hw1];rfl) ?_|refine oz ?_));first|done|fail)) ?_;intro t ht ih;have htl:(B.take t).length=t:=by rw[List.length_take];omega
  by_cases hlt:t<101
  ·have hts:=take_one (B:=B) (k:=t) (by omega)
   have hv:fI B (t,false)=B.getD t false/\ch B (t,false)=(t+1,false):=⟨by show(!false&&B.getD t false)=_;rw[Bool.not_false,Bool.true_and],by unfold ch;rw[if_neg Bool.noConfusion,if_pos (by show t<B.length;omega)]⟩
   obtain⟨x,hx⟩:∃x,B.getD t false=x:=⟨_,rfl⟩
   rw[hx]at hts hv;have hxr:=BS x
   repeat' (first
    |(refine qz ?_;first
     |refine cl ?_ (hi:=by exact Jo hBin hv (i:=4) (k:=5) rfl rfl (by decide) hS rfl)
     |refine cl ?_ (hi:=by exact fu (size:=1) rfl (bs:=B.take t) (by omega) (by decide) (by omega) (i:=6) (k:=2) rfl rfl (by decide) hts nL nA rfl))
    |refine zz ?_|refine zx (fun _=>?_) (fun _=>?_)|fail)
   exact ih (t+1) _ _ _ (bW [0,1,7,3,4,5,6]) (by omega) (by omega)
  ·obtain rfl:t=101:=by omega
   clear ih;rw[hBS]
   repeat' (first
    |(refine qz ?_;first
     |refine cl ?_ (hi:=by exact o6 (bs:=S) (by omega) (by omega) (i:=6) (k:=2) rfl rfl (by decide) (n:=13) (by rw[hSl]) nL nA rfl)
     |refine t5 (zs:=[.nils]) ?_
     |refine cl ?_ (hi:=by exact ou (l:=wr S) (iL S) (by omega) (NK S) hsu hwS (i:=7) (j:=8) rfl rfl (by decide) rfl)
     |refine cl ?_ (hi:=by exact cJ hBin hb16 rfl (by decide) (i:=4) (k:=5) rfl rfl (by decide) hS rfl)
     |refine cl ?_ (hi:=by exact cJ hBin hb2 rfl (by decide) (i:=4) (k:=5) rfl rfl (by decide) hS rfl)
     |refine cl ?_ (hi:=by exact tA (L:=wr S) (B:=S) (by omega) (by omega) hwS (by rw[hSl];rfl) (i:=9) rfl nL nA rfl)
     |refine cl ?_ (hi:=by exact FV hL hbl hn hfl hSin hSl hk hA hBb hsr hfit ewA ewB (g:=0) (i:=10) (j:=11) rfl rfl rfl (by decide) (N:=12) (M:=13) rfl rfl nA rfl))
    |refine zz ?_|refine zx (fun _=>?_) (fun _=>?_)|refine bp (by first|exact ag.nil|exact ag.one _|exact ag.my (by repeat' (first|exact True.intro|refine And.intro ?_ ?_|exact Compat.ne rfl|exact fE 4 rfl rfl rfl|exact dE rfl))) ⟨by kernel_rfl,?_⟩|refine bp (by first|exact ag.nil|exact ag.one _|exact ag.my (by repeat' (first|exact True.intro|refine And.intro ?_ ?_|exact Compat.ne rfl|exact fE 4 rfl rfl rfl|exact dE rfl))) ?_|fail)
   show aE _ _ _ _ _ _ _ _;refine kV [0,12,13] ?_;rfl
end Go.Proofs.YthdciapjllppjaaGreat
