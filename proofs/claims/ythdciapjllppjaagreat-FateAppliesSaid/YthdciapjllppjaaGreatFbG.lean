/-
  A part of the proof: FtB, Bytes, StrN, Small, Flt.
-/
import Derived.Test.YthdciapjllppjaaGreatFbF
set_option maxRecDepth 10000
set_option maxHeartbeats 8000000
set_option linter.unusedVariables false
set_option linter.unusedSectionVars false
set_option linter.unusedSimpArgs false
open Go.Proofs.Tryz (prog)
namespace Go.Proofs.YthdciapjllppjaaGreat
open Go.Xm
variable [av]
theorem xM(ps:List (List Int))(fs:List Fa)(hp:∀i,(ps.getD i []).length<=100000):∀n,(vN ps fs n).length<=100000*n
 | 0=>Nat.le_refl _
 | n + 1=>by
   have h1:=xM ps fs hp n;have h2:=hp n
   have h3:(Hc fs n (ps.getD n [])).length<=(ps.getD n []).length:=by
    unfold Hc;split
    ·split
     ·exact Nat.zero_le _
     ·unfold yd;rw[oA];exact Nat.le_refl _
    ·exact Nat.le_refl _
   rw[vN,List.length_append];omega
theorem EB{L F:List (List XC)}{cs:List XC}{ps:List (List Int)}(hb:nr L cs ps){l:List sC}{fs:List Fa}(hf:kZ F l fs){c d:XC}(hc:da L 0 c cs ps.length)(hd:da F 1 d (fl i4 l) fs.length)(hn:ps.length<=1000)(hfn:fs.length<=1000)(hp:∀i,(ps.getD i []).length<=100000)(hpB:∀i,aW (ps.getD i []))(hfB:∀i,aW (fs.getD i default).mask)(hfl:∀i,(fs.getD i default).mask.length<=100000){q:List Int}(hq:KU ps fs=q) :
 bm prog 26 [.one c,.one d] [.late L,.late F] (ee 2 q.length 1) [.late L,.late F,bz 5 (il .u8 q)]:=by
 have hok:c.ok 3:=hc.ok (Nat.le_of_ble_eq_true rfl);have hok1:d.ok 3:=hd.ok (Nat.le_of_ble_eq_true rfl);have hok2:c.ok 4:=hc.ok (Nat.le_of_ble_eq_true rfl);have hok3:d.ok 4:=hd.ok (Nat.le_of_ble_eq_true rfl);refine cO Tryz.func26 ?_
 repeat' (first
  |(refine qz ?_;first
   |refine lX ?_)
  |refine zz ?_|refine zx (fun _=>?_) (fun _=>?_)|fail)
 refine WX.cj rfl ?_;refine WX.bQ (σ:=Nat) (fun k=>[(1,.one d),(12,.one c),(13,.one (.int .i64 (ps.length:Nat))),(5,ee 2 (vN ps fs k).length 1),(14,.one (.int .i64 (k:Nat)))]) (fun k=>[.late L,.late F,bz 5 (il .u8 (vN ps fs k))]) (fun k=>k<=ps.length) (fun k=>ps.length-k) 0 (Nat.zero_le _) (fun k _=>stM) (bq [0,1,2] (reg:=by(repeat' (first|exact ae.nil|refine ae.ia rfl (by assumption) rfl ?_|refine rz ?_|refine ae.sl rfl (by assumption) rfl ?_));first|done|fail)) ?_;intro k hk ih;have hal:=xM ps fs hp k
 by_cases hlt:k<ps.length
 ·obtain ⟨y,x,h1,h2,h3⟩:=Hu hb hlt 0;have hpk:=hp k;have hpb:=hpB k;have hs1:vN ps fs (k+1)=vN ps fs k++Hc fs k (ps.getD k []):=rfl
  obtain⟨p,hpe⟩:∃p,ps.getD k []=p:=⟨_,rfl⟩
  obtain⟨A,hA⟩:∃A,vN ps fs k=A:=⟨_,rfl⟩
  rw[hpe]at h3 hpk hpb hs1;rw[hA]at hal hs1;rw[hA]
  repeat' (first
   |(refine qz ?_;first
    |refine lX ?_
    |refine rC (fun kk hkk=>?_)
    |refine yc ?_ (by assumption) h1 h2
    |refine vO (zs:=[.int .u8 0]) ?_
    |refine KT (q:=[]) rfl (tj rfl h3 rfl) (fun _=>?_) (fun _=>?_))
   |refine WX.z8 5 (σ:=oV×Bool) (fun s=>[(1,.one d),(12,.one c),(13,.one (.int .i64 (ps.length:Nat))),(5,ee 2 A.length 1),(14,.one (.int .i64 (k:Nat))),(6,.one (.int .i64 (k:Nat))),(8,.one (.slice 3 0 p.length s.1))]) (fun s=>[.late L,.late F,bz 5 (il .u8 A),.cells (il .u8 p) 5 s.2 false]) (fun _=>True) (fun _ _=>stM) ?_ (fun s _=>q9.out ?_)|refine zz ?_|refine zx (fun _=>?_) (fun _=>?_)|fail)
  ·rename_i h0;obtain rfl:p = []:=List.length_eq_zero_iff.1 h0
   (first|refine sH ?_|skip)
   exact⟨(.exact 0,false),_,trivial,(bq [0,1,2,3] (reg:=by(repeat' (first|exact ae.nil|refine ae.ia rfl (by assumption) rfl ?_|refine rz ?_|refine ae.sl rfl (by assumption) rfl ?_));first|done|fail))⟩
  ·rename_i h0;rw[Nat.zero_add]
   (first|refine sH ?_|skip)
   exact⟨(.toEnd 1,true),_,trivial,(bq [0,1,2,4] (reg:=by(repeat' (first|exact ae.nil|refine ae.ia rfl (by assumption) rfl ?_|refine rz ?_|refine ae.sl rfl (by assumption) rfl ?_));first|done|fail))⟩
  refine⟨?_⟩;obtain⟨cap,opn⟩:=s
  by_cases hcond:0<k/\k-1<fs.length
  ·obtain ⟨z,g1,g2,g3⟩:=HT hf hcond.2 1;have hml:=hfl (k-1);have hmB:=hfB (k-1)
   obtain⟨f,hfe⟩:∃f,fs.getD (k-1) default=f:=⟨_,rfl⟩
   have hap:Hc fs k p=if f.lost=true then []else yd p f.mask:=by unfold Hc;rw[if_pos hcond,hfe]
   rw[hfe]at g2 g3 hml hmB;have e1:((k:Int)-1).toNat=k-1:=by omega
   rw[<-e1]at g1 g2
   obtain⟨lo,hlo⟩:∃b,f.lost=b:=⟨_,rfl⟩
   obtain⟨m,hme⟩:∃m,f.mask=m:=⟨_,rfl⟩
   rw[hlo]at hap g2;rw[hme]at hap g3 hml hmB;obtain⟨hc1,hc2⟩:=hcond
   cases lo with
   | true=>
     rw[if_pos rfl,]at hap;rw[hap,List.append_nil]at hs1
     repeat' (first
      |(refine qz ?_;first
       |refine lX ?_
       |refine rC (fun kk hkk=>?_)
       |refine nC (zs:=[.bool false,.nils]) (hz:=mO) ?_
       |refine kD (enc:=i4) ?_ (by assumption) g1 (hc':=g2))
      |refine zz ?_|refine zx (fun _=>?_) (fun _=>?_)|fail)
     exact ih (k+1) _ _ _ (bq [0,1,2] (obj:=by(repeat' (first|exact af.nil|refine af.flat (by rw[hs1];rfl) ?_|refine oz ?_));first|done|fail) (reg:=by(repeat' (first|exact ae.nil|refine ae.ia rfl (by assumption) rfl ?_|refine ae.jD rfl rfl (by rw[hs1]) ?_|refine rz ?_|refine ae.sl rfl (by assumption) rfl ?_));first|done|fail)) (by omega) (by omega)
   | false =>
     rw[if_neg (by decide)]at hap;rw[hap]at hs1
     repeat' (first
      |(refine qz ?_;first
       |refine lX ?_
       |refine rC (fun kk hkk=>?_)
       |refine nC (zs:=[.bool false,.nils]) (hz:=mO) ?_
       |refine kD (enc:=i4) ?_ (by assumption) g1 (hc':=g2))
      |refine zz ?_|refine zx (fun _=>?_) (fun _=>?_)|fail)
     refine WX.bQ (σ:=Nat) (fun t=>[(1,.one d),(12,.one c),(13,.one (.int .i64 (ps.length:Nat))),(5,ee 2 A.length 1),(14,.one (.int .i64 (k:Nat))),(8,.one (.slice 3 0 p.length cap)),(39,.one z),(40,.one (.int .i64 (m.length:Nat))),(41,.one (.int .i64 (t:Nat)))]) (fun t=>[.late L,.late F,bz 5 (il .u8 A),.cells (il .u8 (rG p m t)) 5 opn false]) (fun t=>t<=m.length) (fun t=>m.length-t) 0 (Nat.zero_le _) (fun k _=>stM) (bq [0,1,2,3] (reg:=by(repeat' (first|exact ae.nil|refine ae.ia rfl (by assumption) rfl ?_|refine rz ?_|refine ae.sl rfl (by assumption) rfl ?_));first|done|fail)) ?_;intro t ht ih2;have hkl:=oA p m t;have hmb:=z9 hpb m t
     by_cases hlt2:t<m.length
     ·have e2:(21+(t:Int)).toNat=21+t:=by omega
      have hv:=hmB t;have hw:=hmb (21+t)
      by_cases hlt3:21+t<p.length
      ·have e3:rG p m (t+1)=(rG p m t).set (21+t) (m9 .u8 ((rG p m t).getD (21+t) 0) (m.getD t 0)):=by rw[rG,if_pos hlt3]
       repeat' (first
        |(refine qz ?_;first
         |refine lX ?_
         |refine rC (fun kk hkk=>?_)
         |refine yb ?_ (by assumption) hlt2)
        |refine zz ?_|refine zx (fun _=>?_) (fun _=>?_)|fail)
       exact ih2 (t+1) _ _ _ (bq [0,1,2,3] (obj:=by(repeat' (first|exact af.nil|refine af.flat (by rw[e3];rfl) ?_|refine oz ?_));first|done|fail) (reg:=by(repeat' (first|exact ae.nil|refine ae.ia rfl (by assumption) rfl ?_|refine rz ?_|refine ae.sl rfl (by assumption) rfl ?_));first|done|fail)) (by omega) (by omega)
      ·have e3:rG p m (t+1)=rG p m t:=by rw[rG,if_neg hlt3]
       repeat' (first
        |(refine qz ?_;first
         |refine lX ?_
         |refine rC (fun kk hkk=>?_)
         |refine yb ?_ (by assumption) hlt2)
        |refine zz ?_|refine zx (fun _=>?_) (fun _=>?_)|fail)
       exact ih2 (t+1) _ _ _ (bq [0,1,2,3] (obj:=by(repeat' (first|exact af.nil|refine af.flat (by rw[e3];rfl) ?_|refine oz ?_));first|done|fail) (reg:=by(repeat' (first|exact ae.nil|refine ae.ia rfl (by assumption) rfl ?_|refine rz ?_|refine ae.sl rfl (by assumption) rfl ?_));first|done|fail)) (by omega) (by omega)
     ·obtain rfl:t=m.length:=by omega
      clear ih2;have hmk:rG p m m.length=yd p m:=rfl;rw[hmk]at hkl ⊢
      obtain⟨M,hM⟩:∃M,yd p m=M:=⟨_,rfl⟩
      rw[hM]at hkl hs1 ⊢
      by_cases hp0:p.length=0
      ·rw[hp0]at hkl ⊢;obtain rfl:M = []:=List.length_eq_zero_iff.1 hkl;rw[List.append_nil]at hs1
       repeat' (first
        |(refine qz ?_;first
         |refine Sw (ds:=[]) (cs:=il .u8 A) (ic rfl rfl rfl) ?_ (hn:=by rw[bH];omega) (hm:=by omega))
        |refine zz ?_|refine zx (fun _=>?_) (fun _=>?_)|fail)
       exact ih (k+1) _ _ _ (bq [0,1,2] (obj:=by(repeat' (first|exact af.nil|refine af.flat (by rw[hs1];rfl) ?_|refine oz ?_));first|done|fail) (reg:=by(repeat' (first|exact ae.nil|refine ae.ia rfl (by assumption) rfl ?_|refine ae.jD rfl rfl (by rw[hs1]) ?_|refine rz ?_|refine ae.sl rfl (by assumption) rfl ?_));first|done|fail)) (by omega) (by omega)
      ·repeat' (first|refine zz ?_|refine zx (fun _=>?_) (fun _=>?_)|fail)
       exact ih (k+1) _ _ _ (bq [0,1,4] (obj:=by(repeat' (first|exact af.nil|refine af.flat (by rw[hs1];rfl) ?_|refine oz ?_));first|done|fail) (reg:=by(repeat' (first|exact ae.nil|refine ae.ia rfl (by assumption) rfl ?_|refine ae.jD rfl rfl (by rw[hs1,List.length_append,hkl]) ?_|refine rz ?_|refine ae.sl rfl (by assumption) rfl ?_));first|done|fail)) (by omega) (by omega)
  ·have hap:Hc fs k p=p:=if_neg hcond;rw[hap]at hs1;have hk2:0<k->fs.length<=k-1:=fun h=>by omega
   by_cases hp0:p.length=0
   ·obtain rfl:p = []:=List.length_eq_zero_iff.1 hp0;rw[List.append_nil]at hs1
    repeat' (first
     |(refine qz ?_;first
      |refine lX ?_
      |refine Sw (ds:=[]) (cs:=il .u8 A) (ic rfl rfl rfl) ?_ (hn:=by rw[bH];omega) (hm:=by omega))
     |refine zz ?_|refine zx (fun _=>?_) (fun _=>?_)|fail)
    all_goals (first|(exfalso;omega)|skip)
    all_goals exact ih (k+1) _ _ _ (bq [0,1,2] (obj:=by(repeat' (first|exact af.nil|refine af.flat (by rw[hs1];rfl) ?_|refine oz ?_));first|done|fail) (reg:=by(repeat' (first|exact ae.nil|refine ae.ia rfl (by assumption) rfl ?_|refine ae.jD rfl rfl (by rw[hs1]) ?_|refine rz ?_|refine ae.sl rfl (by assumption) rfl ?_));first|done|fail)) (by omega) (by omega)
   ·repeat' (first
     |(refine qz ?_;first
      |refine lX ?_)
     |refine zz ?_|refine zx (fun _=>?_) (fun _=>?_)|fail)
    all_goals (first|(exfalso;omega)|skip)
    all_goals exact ih (k+1) _ _ _ (bq [0,1,4] (obj:=by(repeat' (first|exact af.nil|refine af.flat (by rw[hs1];rfl) ?_|refine oz ?_));first|done|fail) (reg:=by(repeat' (first|exact ae.nil|refine ae.ia rfl (by assumption) rfl ?_|refine ae.jD rfl rfl (by rw[hs1,List.length_append]) ?_|refine rz ?_|refine ae.sl rfl (by assumption) rfl ?_));first|done|fail)) (by omega) (by omega)
 ·obtain rfl:k=ps.length:=by omega
  have hq:vN ps fs ps.length=q:=hq;rw[hq]
  repeat' (first
   |(refine qz ?_;first
    |refine lX ?_)
   |refine zz ?_|refine zx (fun _=>?_) (fun _=>?_)|fail)
  show aE _ _ _ _ _ _ _ _;refine kV [0,1,2] ?_;rw[dz];rfl
theorem zj{L F:List (List XC)}{cs:List XC}{ps:List (List Int)}(hb:nr L cs ps){l:List sC}{fs:List Fa}(hf:kZ F l fs){i j np nf:Nat}{c d:XC}(hc:da L i c cs np)(hnp:ps.length=np)(hd:da F j d (fl i4 l) nf)(hnf:fs.length=nf)(hn:ps.length<=1000)(hfn:fs.length<=1000)(hp:∀i,(ps.getD i []).length<=100000)(hpB:∀i,aW (ps.getD i []))(hfB:∀i,aW (fs.getD i default).mask)(hfl:∀i,(fs.getD i default).mask.length<=100000){q:List Int}(hq:KU ps fs=q){nq:Nat}(hnq:q.length=nq){HS:ah}(hi:HS[i]? = some (.late L))(hj:HS[j]? = some (.late F))(hij:i≠j){N:Nat}(hN:HS.length=N){HS':ah}(hh:HS++[bz 5 (il .u8 q)]=HS')(hbd:Nat.blt HS'.length Mem.bound=true) :
 aA.Sound prog ⟨26,[.one c,.one d],HS,ee N nq 1,HS',[i,j]⟩:=by
 subst hnp hnf hN hnq;obtain⟨c0,h0,rfl⟩:=hc.back 0 (nth [i,j]) rfl;obtain⟨d0,k0,rfl⟩:=hd.back 1 (nth [i,j]) rfl;refine bp [i,j] [i,j] 1 (EB hb hf h0 k0 hn hfn hp hpB hfB hfl hq) (by simp[hij]) (.flat hi (.flat hj .nil)) (.flat (.flat .nil)) (.flat (.flat (.flat .nil))) rfl (.cons (h0.ok (Nat.le_of_ble_eq_true rfl)) (.cons (k0.ok (Nat.le_of_ble_eq_true rfl)) .nil)) (.cons rfl (.cons rfl .nil)) (ib (Nat.le_of_ble_eq_true rfl)) (dz ..) (.flat (.flat (.flat .nil))) ?_ rfl (by simp only[bC];rw[aC hi,aC hj];exact hh) hbd (.inl rfl);cases il .u8 q<;>simp[fM,aj.live,aj.own,bz]
end Go.Proofs.YthdciapjllppjaaGreat
namespace Go.Xm
variable [av]
variable {P:Program} {ops:Array Oper} {nt nI:Nat} {al:aL} {hs:ah} {o:Oper} {l:List Oper} {L:List aA} {K:List Ab->aL->ah->Prop} {d:Nat}
theorem az.bytes{O:cV}(hw:aw ops (rg al) o=some true){s t:TypeId}{x:Operand}(ho:o.op = .convert s t x){e:TypeId}(hs1:P.underlying s=some (.slice e))(he:P.underlying e=some (.int .u8))(hd:P.underlying t=some .string){i off len:Nat}{cap:oV}(hx:ag (rg al) x = .one (.slice i off len cap)){vs:List XC}{et:TypeId}{opn ro:Bool}(hi:hs[i]? = some (.cells vs et opn ro))(hfit:off+len<=vs.length){ns:List Int}(hb:mK ((vs.drop off).take len)=some ns) :
 az O P ops al hs o (.one (.str (lz ns))) hs ⟨false,some i,[]⟩:=by
 intro m hm;refine⟨m,?_,hm,fun _ _=>rfl⟩;unfold iL;rw[hw]
 obtain⟨f,hf1,hf2⟩:∃f,fj P (ag (rg al)) o.op=some (i,f)/\∀vs' e' o' r',f (.cells vs' e' o' r')=if off+len<=vs'.length then(mK ((vs'.drop off).take len)).map fun ns=>XV.one (.str (lz ns))else .none:=by
  rw[ho];simp only[fj,hs1,hd,hx,he];exact⟨_,rfl,fun _ _ _ _=>rfl⟩
 refine oH (by rw[ho];simp only[aR,ki,hs1,hd,hx]) (by rw[ho];simp only[pT,hx]) hf1 ?_;rw[hm.at hi,hf2,if_pos hfit,hb];rfl
theorem xq:∀a:List Int,mK (il .u8 a)=some a
 | []=>rfl
 | z::a=>by
   show(mK (il .u8 a)).map (z :: ·)=_;rw[xq a];rfl
end Go.Xm
namespace Go.Xm
variable [av]
variable {P:Program} {ops:Array Oper} {nt nI:Nat} {al:aL} {hs:ah} {o:Oper} {l:List Oper} {L:List aA} {K:List Ab->aL->ah->Prop} {d:Nat}
theorem eqs{t t':TypeId}{a b:Operand}{x:List UInt8}(hk:SK P ops nt L l ((d,.one (.bool true))::al) hs fun bs=>K (quiet::bs))(ho:o.op = .binOp .eql t a b t':=by exact rfl)(wn:Wn ops nt al o d:=by exact⟨rfl,rfl,rfl⟩)(ha:ag (rg al) a = .one (.str x):=by exact rfl)(hb:ag (rg al) b = .one (.str x):=by exact rfl):SK P ops nt L (o::l) al hs K:=
 SK.lift wn.e wn.l (fun _=>az.pure wn.w (by rw[ho];simp only[aR,ha,hb,vk,MM,Option.map_some,beq_self_eq_true])) hk
theorem SQ{s t e:TypeId}{x:Operand}{i n:Nat}{a:List Int}{cap:oV}{et:TypeId}{opn ro:Bool}(hn:a.length=n)(hk:SK P ops nt L l ((d,.one (.str (lz a)))::al) hs fun bs=>K (⟨false,some i,[]⟩::bs))(ho:o.op = .convert s t x:=by exact rfl)(hu:aG P s (.slice e):=by infer_instance)(he:aG P e (.int .u8):=by infer_instance)(ht:aG P t .string:=by infer_instance)(wn:Wn ops nt al o d:=by exact⟨rfl,rfl,rfl⟩)
 (hx:ag (rg al) x = .one (.slice i 0 n cap):=by exact rfl) (hi:hs[i]? = some (.cells (il .u8 a) et opn ro):=by exact rfl):SK P ops nt L (o::l) al hs K:=by
 have hil:(il .u8 a).length=a.length:=bH _ _;refine SK.lift wn.e wn.l (fun _=>az.bytes wn.w ho hu.out he.out ht.out hx hi (by omega) (ns:=a) ?_) hk;rw[List.drop_zero,<-hn,<-hil,List.take_length];exact xq a
end Go.Xm
namespace Go.Proofs.YthdciapjllppjaaGreat
open Go.Xm
variable [av]
def bZ(x:Int):Int:=if 0<x then 2*x-1 else -2*x
def xk(n:Int):Int:=if n%2=1 then(n+1)/2 else -(n/2)
theorem Cm(x:Int)(hx : -1000000<=x/\x<=1000000):bm prog 114 [.one (.int .i64 x)] [] (.one (.int .i64 (bZ x))) []:=by
 refine cO Tryz.func114 ?_
 by_cases h:0<x
 ·repeat' (first|refine zz ?_|refine zx (fun _=>?_) (fun _=>?_)|fail)
  show aE _ _ _ _ _ _ _ _;refine kV [] ?_;rw[bZ,if_pos h];rfl
 ·repeat' (first|refine zz ?_|refine zx (fun _=>?_) (fun _=>?_)|fail)
  show aE _ _ _ _ _ _ _ _;refine kV [] ?_;rw[bZ,if_neg h];rfl
theorem rP{x:Int}(hx : -1000000<=x/\x<=1000000){HS:ah}(hb:Nat.blt HS.length Mem.bound=true):aA.Sound prog ⟨114,[.one (.int .i64 x)],HS,.one (.int .i64 (bZ x)),HS,[]⟩:=
 ay (Cm x hx) rfl rfl hb
end Go.Proofs.YthdciapjllppjaaGreat
namespace Go.Xm
variable [av]
variable {P:Program} {ops:Array Oper} {nt nI:Nat} {al:aL} {hs:ah} {o:Oper} {l:List Oper} {L:List aA} {K:List Ab->aL->ah->Prop} {d:Nat}
def fO(n:Int):Nat:=FloatKind.nearest .f64 n
def cI(p:Int×Int):XC := .cplx .f64 (fO p.1) (fO p.2)
def fB(n:Int):Prop := -32<=n/\n<=32
def N3:List (Int×Nat):=(List.range 65).map fun(i:Nat)=>((i:Int)-32,fO ((i:Int)-32))
def RW(l:List (Int×Nat)):Bool:=l.all fun p=>l.all fun q=>FloatKind.f64.format.order p.2 q.2==some (compare p.1 q.1)
set_option maxRecDepth 100000 in
theorem Lj:RW N3=true:=by decide +kernel
theorem AQ{n:Int}(h:fB n):(n,fO n)∈N3:=by
 unfold N3;refine List.mem_map.2 ⟨(n+32).toNat,List.mem_range.2 (by have:=h.1;have:=h.2;omega),?_⟩;have e:(((n+32).toNat:Nat):Int)-32=n:=by have:=h.1;omega
 rw[e]
theorem HQ{x y:Int}(hx:fB x)(hy:fB y):FloatKind.f64.format.order (fO x) (fO y)=some (compare x y):=by
 have h:=Lj;have h1:=List.all_eq_true.1 h _ (AQ hx);have h2:=List.all_eq_true.1 h1 _ (AQ hy);simpa using h2
theorem wv{x y:Int}(hx:fB x)(hy:fB y):(FloatKind.f64.format.order (fO x) (fO y)==some .eq)=decide (x=y):=by
 rw[HQ hx hy]
 by_cases h:x=y
 ·subst h;have:compare x x = .eq:=by simp
  rw[this];simp
 ·have:compare x y ≠ .eq:=by simpa [Int.compare_eq_eq]using h
  simp only[h,decide_false];cases hc:compare x y<;>first|(exact absurd hc this)|rfl
theorem Lh:fO 0=0:=by decide +kernel
theorem ig:cI (0,0) = .cplx .f64 0 0:=by unfold cI;rw[Lh]
theorem Tv{a:Operand}{ts:Array TypeId}{k:FloatKind}{p q:Nat}(hk:SK P ops nt L l ((d,.one (.flt k p))::al) hs fun bs=>K (quiet::bs))(ho:o.op = .call ⟨.builtin .real,#[a],ts⟩:=by exact rfl)(hw:aw ops (rg al) o=some true:=by exact rfl)(hd:o.dst=some d:=by exact rfl)(hlt:Nat.blt d nt=true:=by exact rfl)
 (ha:ag (rg al) a = .one (.cplx k p q):=by exact rfl):SK P ops nt L (o::l) al hs K:=kP hw hd hlt (by rw[ho];simp[aR,dh,ha]) hk
theorem SV{a:Operand}{ts:Array TypeId}{k:FloatKind}{p q:Nat}(hk:SK P ops nt L l ((d,.one (.flt k q))::al) hs fun bs=>K (quiet::bs))(ho:o.op = .call ⟨.builtin .imag,#[a],ts⟩:=by exact rfl)(hw:aw ops (rg al) o=some true:=by exact rfl)(hd:o.dst=some d:=by exact rfl)(hlt:Nat.blt d nt=true:=by exact rfl)
 (ha:ag (rg al) a = .one (.cplx k p q):=by exact rfl):SK P ops nt L (o::l) al hs K:=kP hw hd hlt (by rw[ho];simp[aR,dh,ha]) hk
theorem SS{a b:Operand}{ts:Array TypeId}{k:FloatKind}{p q:Nat}(hk:SK P ops nt L l ((d,.one (.cplx k p q))::al) hs fun bs=>K (quiet::bs))(ho:o.op = .call ⟨.builtin .complex,#[a,b],ts⟩:=by exact rfl)(hw:aw ops (rg al) o=some true:=by exact rfl)(hd:o.dst=some d:=by exact rfl)(hlt:Nat.blt d nt=true:=by exact rfl)
 (ha:ag (rg al) a = .one (.flt k p):=by exact rfl) (hb:ag (rg al) b = .one (.flt k q):=by exact rfl):SK P ops nt L (o::l) al hs K:=kP hw hd hlt (by rw[ho];simp[aR,dh,ha,hb]) hk
theorem SR{s t:TypeId}{y:Operand}{u:TypeDesc}{k:IntKind}{x:Int}(hk:SK P ops nt L l ((d,.one (.flt .f64 (fO x)))::al) hs fun bs=>K (quiet::bs))(ho:o.op = .convert s t y:=by exact rfl)(hw:aw ops (rg al) o=some true:=by exact rfl)(hd:o.dst=some d:=by exact rfl)(hlt:Nat.blt d nt=true:=by exact rfl)
 (hy:ag (rg al) y = .one (.int k x):=by exact rfl) (h1:aG P s u:=by infer_instance) (h2:aG P t (.float .f64):=by infer_instance):SK P ops nt L (o::l) al hs K:=kP hw hd hlt (by rw[ho];simp only[aR,ki,hy,h1.out,h2.out];rfl) hk
theorem RR{t t':TypeId}{a b:Operand}{x y:Int×Int}(h1:x=y->SK P ops nt L l ((d,.one (.bool true))::al) hs fun bs=>K (quiet::bs))(h2:x≠y->SK P ops nt L l ((d,.one (.bool false))::al) hs fun bs=>K (quiet::bs))(hx:fB x.1/\fB x.2)(hy:fB y.1/\fB y.2)(ho:o.op = .binOp .eql t a b t':=by exact rfl)(hw:aw ops (rg al) o=some true:=by exact rfl)(hd:o.dst=some d:=by exact rfl)(hlt:Nat.blt d nt=true:=by exact rfl)
 (ha:ag (rg al) a = .one (cI x):=by exact rfl) (hb:ag (rg al) b = .one (cI y):=by exact rfl):SK P ops nt L (o::l) al hs K:=by
 obtain⟨x1,x2⟩:=x;obtain⟨y1,y2⟩:=y
 have key:aR P (ag (rg al)) o.op=some (.one (.bool (decide (x1=y1)&&decide (x2=y2)))):=by
  rw[ho];simp only[aR,ha,hb,cI,vk,A4,if_true,wv hx.1 hy.1,wv hx.2 hy.2,Option.map_some]
 refine kP hw hd hlt key ?_
 by_cases h:x1=y1/\x2=y2
 ·simp only[h.1,h.2,decide_true,Bool.and_self];exact h1 (by rw[h.1,h.2])
 ·have:(decide (x1=y1)&&decide (x2=y2))=false:=by
   simp only[Bool.and_eq_false_iff,decide_eq_false_iff_not]
   rcases Classical.em (x1=y1)with h3|h3
   ·exact .inr fun h4=>h ⟨h3,h4⟩
   ·exact .inl h3
  rw[this];exact h2 fun e=>h (by cases e;exact⟨rfl,rfl⟩)
theorem GP{t t':TypeId}{a b:Operand}{x y:Int×Int}(h1:x≠y->SK P ops nt L l ((d,.one (.bool true))::al) hs fun bs=>K (quiet::bs))(h2:x=y->SK P ops nt L l ((d,.one (.bool false))::al) hs fun bs=>K (quiet::bs))(hx:fB x.1/\fB x.2)(hy:fB y.1/\fB y.2){cb:XC}(hcb:cb=cI y)(ho:o.op = .binOp .neq t a b t':=by exact rfl)(hw:aw ops (rg al) o=some true:=by exact rfl)(hd:o.dst=some d:=by exact rfl)(hlt:Nat.blt d nt=true:=by exact rfl)
 (ha:ag (rg al) a = .one (cI x):=by exact rfl) (hb:ag (rg al) b = .one cb:=by exact rfl):SK P ops nt L (o::l) al hs K:=by
 obtain⟨x1,x2⟩:=x;obtain⟨y1,y2⟩:=y;subst hcb
 have key:aR P (ag (rg al)) o.op=some (.one (.bool (!(decide (x1=y1)&&decide (x2=y2))))):=by
  rw[ho];simp only[aR,ha,hb,cI,vk,A4,if_true,wv hx.1 hy.1,wv hx.2 hy.2,Option.map_some]
 refine kP hw hd hlt key ?_
 by_cases h:x1=y1/\x2=y2
 ·simp only[h.1,h.2,decide_true,Bool.and_self,Bool.not_true];exact h2 (by rw[h.1,h.2])
 ·have:(decide (x1=y1)&&decide (x2=y2))=false:=by
   simp only[Bool.and_eq_false_iff,decide_eq_false_iff_not]
   rcases Classical.em (x1=y1)with h3|h3
   ·exact .inr fun h4=>h ⟨h3,h4⟩
   ·exact .inl h3
  rw[this,Bool.not_false];exact h1 fun e=>h (by cases e;exact⟨rfl,rfl⟩)
end Go.Xm
namespace Go.Proofs.YthdciapjllppjaaGreat
open Go.Xm
theorem mixed:prog.follows .mixedOrders=true:=by kernel_rfl
def nW(i:Nat):xJ:=⟨132,[.one (.flt .f64 (fO ((i:Int)-32)))],.one (.int .i64 ((i:Int)-32))⟩
noncomputable def Hz:Bool:=(List.range 65).all fun i=>decide (((px wV prog 1000 10).call (nW i).f (nW i).args Mem.empty).map (·.1)=some (nW i).v)
theorem zp:Hz=true:=by kernel_rfl
variable [av]
theorem Gy(n:Int)(h:fB n):bm prog 132 [.one (.flt .f64 (fO n))] [] (.one (.int .i64 n)) []:=by
 have e:(((n+32).toNat:Nat):Int)-32=n:=by have:=h.1;omega
 have h1:=List.all_eq_true.1 zp (n+32).toNat (List.mem_range.2 (by have:=h.1;have:=h.2;omega));have h2:=of_decide_eq_true h1;have:=l_ (mg (r:=nW (n+32).toNat) (Rs (ja _) mixed h2 rfl));unfold nW at this;rw[e]at this;exact this
theorem AY{n:Int}(h:fB n){HS:ah}(hb:Nat.blt HS.length Mem.bound=true):aA.Sound prog ⟨132,[.one (.flt .f64 (fO n))],HS,.one (.int .i64 n),HS,[]⟩:=
 ay (Gy n h) rfl rfl hb
theorem p_{a b:Int}(ha:fB a)(hb:fB b){HS:ah}:Compat ⟨132,[.one (.flt .f64 (fO a))],HS,.one (.int .i64 a),HS,[]⟩ ⟨132,[.one (.flt .f64 (fO b))],HS,.one (.int .i64 b),HS,[]⟩:=fun _ h _=>by
 simp only[List.cons.injEq,XV.one.injEq,XC.flt.injEq,true_and,and_true]at h;have h1:=wv ha ha;have h2:=wv ha hb;rw[<-h,h1]at h2;have:a=b:=by simpa using h2
 subst this;exact⟨rfl,rfl,rfl⟩
theorem Fz(p:Int×Int)(h:fB p.1/\fB p.2):bm prog 100 [.one (cI p)] [] (.tup [.one (.int .i64 p.1),.one (.int .i64 p.2)]) []:=by
 refine cO Tryz.func100 ?_
 repeat' (first
  |(refine qz ?_;first
   |refine Tv ?_
   |refine SV ?_
   |refine cl ?_ (hi:=by exact AY h.1 rfl)
   |refine cl ?_ (hi:=by exact AY h.2 rfl))
  |refine zz ?_|refine zx (fun _=>?_) (fun _=>?_)|refine bM (by first|exact ai.nil|exact ai.one _|exact ai.pf (by repeat' (first|exact True.intro|refine And.intro ?_ ?_|exact Compat.ne rfl|exact p_ h.2 h.1))) ⟨by kernel_rfl,?_⟩|refine bM (by first|exact ai.nil|exact ai.one _|exact ai.pf (by repeat' (first|exact True.intro|refine And.intro ?_ ?_|exact Compat.ne rfl|exact p_ h.2 h.1))) ?_|fail)
 show aE _ _ _ _ _ _ _ _;refine kV [] ?_;rfl
theorem jc{p:Int×Int}(h:fB p.1/\fB p.2){HS:ah}(hb:Nat.blt HS.length Mem.bound=true):aA.Sound prog ⟨100,[.one (cI p)],HS,.tup [.one (.int .i64 p.1),.one (.int .i64 p.2)],HS,[]⟩:=
 ay (Fz p h) rfl rfl hb
theorem Ov(x y:Int):bm prog 109 [.one (.int .i64 x),.one (.int .i64 y)] [] (.one (cI (x,y))) []:=by
 refine cO Tryz.func109 ?_
 repeat' (first
  |(refine qz ?_;first
   |refine SR ?_
   |refine SS ?_)
  |refine zz ?_|refine zx (fun _=>?_) (fun _=>?_)|fail)
 show aE _ _ _ _ _ _ _ _;refine kV [] ?_;rfl
theorem Aa{x y:Int}{HS:ah}(hb:Nat.blt HS.length Mem.bound=true):aA.Sound prog ⟨109,[.one (.int .i64 x),.one (.int .i64 y)],HS,.one (cI (x,y)),HS,[]⟩:=
 ay (Ov x y) rfl rfl hb
def ij(n:Int):Int:=(n+32)%64-32
theorem mH(n:Int) : -32<=ij n/\ij n<=31:=by unfold ij;omega
theorem Kj(n:Int)(h : -1000000<=n/\n<=1000000):bm prog 115 [.one (.int .i64 n)] [] (.one (.int .i64 (ij n))) []:=by
 refine cO Tryz.func115 ?_;have h1:=Int.emod_nonneg (n+32) (show(2:Int)^6≠0 by decide);have h2:(n+32)%(2:Int)^6<64:=Int.emod_lt_of_pos (n+32) (show(0:Int)<2^6 by decide);have h3:=Int.emod_nonneg ((n+32)%2^6+64) (show(2:Int)^6≠0 by decide);have h4:((n+32)%2^6+64)%(2:Int)^6<64:=Int.emod_lt_of_pos _ (show(0:Int)<2^6 by decide)
 repeat' (first
  |(refine qz ?_;first
   |refine an (n:=6) ?_)
  |refine zz ?_|refine zx (fun _=>?_) (fun _=>?_)|fail)
 show aE _ _ _ _ _ _ _ _;refine kV [] ?_
 have:((n+32)%2^6+64)%(2:Int)^6-32=ij n:=by
  unfold ij;show((n+32)%64+64)%64-32=_;omega
 rw[<-this];rfl
theorem MI{n:Int}(h : -1000000<=n/\n<=1000000){HS:ah}(hb:Nat.blt HS.length Mem.bound=true):aA.Sound prog ⟨115,[.one (.int .i64 n)],HS,.one (.int .i64 (ij n)),HS,[]⟩:=
 ay (Kj n h) rfl rfl hb
def eV(p:Int×Int):Bool:=decide (-31<=p.1/\p.1<=31 /\ -31<=p.2/\p.2<=31)
theorem FU(p:Int×Int)(h:fB p.1/\fB p.2):bm prog 111 [.one (cI p)] [] (.one (.bool (eV p))) []:=by
 have hx1:=h.1.1;have hx2:=h.1.2;have hy1:=h.2.1;have hy2:=h.2.2;refine cO Tryz.func111 ?_
 by_cases ha : -31<=p.1/\p.1<=31
 ·by_cases hb : -31<=p.2/\p.2<=31
  ·have e:eV p=true:=decide_eq_true ⟨ha.1,ha.2,hb⟩;rw[e]
   repeat' (first
    |(refine qz ?_;first
     |refine cl ?_ (hi:=by exact jc h rfl)
     |refine cl ?_ (hi:=by exact Aa rfl)
     |refine RR (x:=(p.1,p.2)) (y:=p) (fun _=>?_) (fun hn=>absurd rfl hn) h h)
    |refine zz ?_|refine zx (fun _=>?_) (fun _=>?_)|fail)
   show aE _ _ _ _ _ _ _ _;refine kV [] ?_;rfl
  ·have e:eV p=false:=decide_eq_false fun hh=>hb hh.2.2
   rw[e]
   repeat' (first
    |(refine qz ?_;first
     |refine cl ?_ (hi:=by exact jc h rfl)
     |refine cl ?_ (hi:=by exact Aa rfl)
     |refine RR (x:=(p.1,p.2)) (y:=p) (fun _=>?_) (fun hn=>absurd rfl hn) h h)
    |refine zz ?_|refine zx (fun _=>?_) (fun _=>?_)|fail)
   show aE _ _ _ _ _ _ _ _;refine kV [] ?_;rfl
 ·have e:eV p=false:=decide_eq_false fun hh=>ha ⟨hh.1,hh.2.1⟩
  rw[e]
  repeat' (first
   |(refine qz ?_;first
    |refine cl ?_ (hi:=by exact jc h rfl)
    |refine cl ?_ (hi:=by exact Aa rfl)
    |refine RR (x:=(p.1,p.2)) (y:=p) (fun _=>?_) (fun hn=>absurd rfl hn) h h)
   |refine zz ?_|refine zx (fun _=>?_) (fun _=>?_)|fail)
  show aE _ _ _ _ _ _ _ _;refine kV [] ?_;rfl
theorem eE{p:Int×Int}(h:fB p.1/\fB p.2){HS:ah}(hb:Nat.blt HS.length Mem.bound=true):aA.Sound prog ⟨111,[.one (cI p)],HS,.one (.bool (eV p)),HS,[]⟩:=
 ay (FU p h) rfl rfl hb
def z7(a b c:Int):Int:=max (min a b) (min (max a b) c)
theorem LI(a b c:Int):bm prog 137 [.one (.int .i64 a),.one (.int .i64 b),.one (.int .i64 c)] [] (.one (.int .i64 (z7 a b c))) []:=by
 refine cO Tryz.func137 ?_
 repeat' (first
  |(refine qz ?_;first
   |refine Rq ?_
   |refine SE ?_)
  |refine zz ?_|refine zx (fun _=>?_) (fun _=>?_)|fail)
 show aE _ _ _ _ _ _ _ _;refine kV [] ?_;rfl
theorem On{a b c:Int}{HS:ah}(hb:Nat.blt HS.length Mem.bound=true):aA.Sound prog ⟨137,[.one (.int .i64 a),.one (.int .i64 b),.one (.int .i64 c)],HS,.one (.int .i64 (z7 a b c)),HS,[]⟩:=
 ay (LI a b c) rfl rfl hb
theorem tL{a b c a' b' c':Int}{HS:ah}:Compat ⟨137,[.one (.int .i64 a),.one (.int .i64 b),.one (.int .i64 c)],HS,.one (.int .i64 (z7 a b c)),HS,[]⟩ ⟨137,[.one (.int .i64 a'),.one (.int .i64 b'),.one (.int .i64 c')],HS,.one (.int .i64 (z7 a' b' c')),HS,[]⟩:=fun _ h _=>by
 simp only[List.cons.injEq,XV.one.injEq,XC.int.injEq,true_and,and_true]at h;obtain⟨rfl,rfl,rfl⟩:=h;exact⟨rfl,rfl,rfl⟩
def Om(a b c:Int×Int):Int×Int:=(z7 a.1 b.1 c.1,z7 a.2 b.2 c.2)
def bK(p:Int×Int):Prop:=fB p.1/\fB p.2
theorem wQ{a b c:Int}(ha:fB a)(hb:fB b)(hc:fB c):fB (z7 a b c):=by
 unfold z7 fB at *;omega
theorem B3(a b c:Int×Int)(ha:bK a)(hb:bK b)(hc:bK c):bm prog 118 [.one (cI a),.one (cI b),.one (cI c)] [] (.one (cI (Om a b c))) []:=by
 refine cO Tryz.func118 ?_
 repeat' (first
  |(refine qz ?_;first
   |refine cl ?_ (hi:=by exact jc ha rfl)
   |refine cl ?_ (hi:=by exact jc hb rfl)
   |refine cl ?_ (hi:=by exact jc hc rfl)
   |refine cl ?_ (hi:=by exact On rfl)
   |refine cl ?_ (hi:=by exact Aa rfl))
  |refine zz ?_|refine zx (fun _=>?_) (fun _=>?_)|refine bM (by first|exact ai.nil|exact ai.one _|exact ai.pf (by repeat' (first|exact True.intro|refine And.intro ?_ ?_|exact Compat.ne rfl|exact tL))) ⟨by kernel_rfl,?_⟩|refine bM (by first|exact ai.nil|exact ai.one _|exact ai.pf (by repeat' (first|exact True.intro|refine And.intro ?_ ?_|exact Compat.ne rfl|exact tL))) ?_|fail)
 show aE _ _ _ _ _ _ _ _;refine kV [] ?_;rfl
theorem gK{a b c:Int×Int}(ha:bK a)(hb:bK b)(hc:bK c){HS:ah}(hbd:Nat.blt HS.length Mem.bound=true):aA.Sound prog ⟨118,[.one (cI a),.one (cI b),.one (cI c)],HS,.one (cI (Om a b c)),HS,[]⟩:=
 ay (B3 a b c ha hb hc) rfl rfl hbd
def vt(v:Nat->Int×Int):List XC:=[cI (v 0),cI (v 1),cI (v 2),cI (v 3)]
theorem AH(x y:Int)(hx : -128<=x/\x<128)(hy : -128<=y/\y<128):bm prog 81 [.one (.int .i8 x),.one (.int .i8 y)] [] (.one (cI (x.tmod 32,y.tmod 32))) []:=by
 have ex:bB .rem .i64 .i64 x 32=some (.int .i64 (x.tmod 32)):=Dc (by decide) rfl;have ey:bB .rem .i64 .i64 y 32=some (.int .i64 (y.tmod 32)):=Dc (by decide) rfl;refine cO Tryz.func81 ?_
 repeat' (first
  |(refine qz ?_;first
   |refine gf rfl rfl rfl rfl rfl rfl ex ?_
   |refine gf rfl rfl rfl rfl rfl rfl ey ?_
   |refine cl ?_ (hi:=by exact Aa rfl))
  |refine zz ?_|refine zx (fun _=>?_) (fun _=>?_)|fail)
 show aE _ _ _ _ _ _ _ _;refine kV [] ?_;rfl
theorem Cs{x y:Int}(hx : -128<=x/\x<128)(hy : -128<=y/\y<128){HS:ah}(hb:Nat.blt HS.length Mem.bound=true):aA.Sound prog ⟨81,[.one (.int .i8 x),.one (.int .i8 y)],HS,.one (cI (x.tmod 32,y.tmod 32)),HS,[]⟩:=
 ay (AH x y hx hy) rfl rfl hb
theorem KR(p:Int×Int):bm prog 55 [.one (cI p)] [] (.agg (vt fun _=>p)) []:=by
 refine cO Tryz.func55 ?_
 repeat' (first|refine zz ?_|refine zx (fun _=>?_) (fun _=>?_)|fail)
 show aE _ _ _ _ _ _ _ _;refine kV [] ?_;rfl
theorem NH{p:Int×Int}{HS:ah}(hb:Nat.blt HS.length Mem.bound=true):aA.Sound prog ⟨55,[.one (cI p)],HS,.agg (vt fun _=>p),HS,[]⟩:=
 ay (KR p) rfl rfl hb
end Go.Proofs.YthdciapjllppjaaGreat
