/-
  A part of the proof: FtB, FtK, Bytes, StrN, FtM, FtN.
-/
import Derived.Test.YthdciapjllppjaaGreatFaE
import Derived.Test.YthdciapjllppjaaGreatFaF
import Derived.Test.YthdciapjllppjaaGreatFaY
import Derived.Test.YthdciapjllppjaaGreatFaZC
set_option maxRecDepth 10000
set_option maxHeartbeats 8000000
set_option linter.unusedVariables false
set_option linter.unusedSectionVars false
set_option linter.unusedSimpArgs false
open Go.Proofs.Tryz (prog)
namespace Go.Proofs.YthdciapjllppjaaGreat
open Go.Xm
variable [av]
theorem yv(ps:List (List Int))(fs:List Fa)(hp:∀i,(ps.getD i []).length<=100000):∀n,(wH ps fs n).length<=100000*n
 | 0=>Nat.le_refl _
 | n + 1=>by
   have h1:=yv ps fs hp n;have h2:=hp n
   have h3:(wG fs n (ps.getD n [])).length<=(ps.getD n []).length:=by
    unfold wG;split
    ·split
     ·exact Nat.zero_le _
     ·unfold og;rw[iz];exact Nat.le_refl _
    ·exact Nat.le_refl _
   rw[wH,List.length_append];omega
theorem Fx{L F:List (List XC)}{cs:List XC}{ps:List (List Int)}(hb:lE L cs ps){l:List mA}{fs:List Fa}(hf:gm F l fs){c d:XC}(hc:cy L 0 c cs ps.length)(hd:cy F 1 d (fl cK l) fs.length)(hn:ps.length<=1000)(hfn:fs.length<=1000)(hp:∀i,(ps.getD i []).length<=100000)(hpB:∀i,aR (ps.getD i []))(hfB:∀i,aR (fs.getD i default).mask)(hfl:∀i,(fs.getD i default).mask.length<=100000){q:List Int}(hq:ue ps fs=q) :
 bm prog 26 [.one c,.one d] [.late L,.late F] (dV 2 q.length 1) [.late L,.late F,bu 5 (il .u8 q)]:=by
 have hok:c.ok 3:=hc.ok (Nat.le_of_ble_eq_true rfl);have hok1:d.ok 3:=hd.ok (Nat.le_of_ble_eq_true rfl);have hok2:c.ok 4:=hc.ok (Nat.le_of_ble_eq_true rfl);have hok3:d.ok 4:=hd.ok (Nat.le_of_ble_eq_true rfl);refine cO Tryz.func26 ?_
 repeat' (first
  |(refine qz ?_;first
   |refine ll ?_)
  |refine zz ?_|refine zx (fun _=>?_) (fun _=>?_)|fail)
 refine WX.bU rfl ?_;refine WX.bN (σ:=Nat) (fun k=>[(1,.one d),(12,.one c),(13,.one (.int .i64 (ps.length:Nat))),(5,dV 2 (wH ps fs k).length 1),(14,.one (.int .i64 (k:Nat)))]) (fun k=>[.late L,.late F,bu 5 (il .u8 (wH ps fs k))]) (fun k=>k<=ps.length) (fun k=>ps.length-k) 0 (Nat.zero_le _) (fun k _=>stM) (bq [0,1,2] (reg:=by(repeat' (first|exact ae.nil|refine ae.gO rfl (by assumption) rfl ?_|refine rz ?_|refine ae.sl rfl (by assumption) rfl ?_));first|done|fail)) ?_;intro k hk ih;have hal:=yv ps fs hp k
 by_cases hlt:k<ps.length
 ·obtain ⟨y,x,h1,h2,h3⟩:=D2 hb hlt 0;have hpk:=hp k;have hpb:=hpB k;have hs1:wH ps fs (k+1)=wH ps fs k++wG fs k (ps.getD k []):=rfl
  obtain⟨p,hpe⟩:∃p,ps.getD k []=p:=⟨_,rfl⟩
  obtain⟨A,hA⟩:∃A,wH ps fs k=A:=⟨_,rfl⟩
  rw[hpe]at h3 hpk hpb hs1;rw[hA]at hal hs1;rw[hA]
  repeat' (first
   |(refine qz ?_;first
    |refine ll ?_
    |refine sc (fun kk hkk=>?_)
    |refine se ?_ (by assumption) h1 h2
    |refine sL (zs:=[.int .u8 0]) ?_
    |refine LX (q:=[]) rfl (tW rfl h3 rfl) (fun _=>?_) (fun _=>?_))
   |refine WX.xE 5 (σ:=nQ×Bool) (fun s=>[(1,.one d),(12,.one c),(13,.one (.int .i64 (ps.length:Nat))),(5,dV 2 A.length 1),(14,.one (.int .i64 (k:Nat))),(6,.one (.int .i64 (k:Nat))),(8,.one (.slice 3 0 p.length s.1))]) (fun s=>[.late L,.late F,bu 5 (il .u8 A),.cells (il .u8 p) 5 s.2 false]) (fun _=>True) (fun _ _=>stM) ?_ (fun s _=>rS.out ?_)|refine zz ?_|refine zx (fun _=>?_) (fun _=>?_)|fail)
  ·rename_i h0;obtain rfl:p = []:=List.length_eq_zero_iff.1 h0
   (first|refine tm ?_|skip)
   exact⟨(.exact 0,false),_,trivial,(bq [0,1,2,3] (reg:=by(repeat' (first|exact ae.nil|refine ae.gO rfl (by assumption) rfl ?_|refine rz ?_|refine ae.sl rfl (by assumption) rfl ?_));first|done|fail))⟩
  ·rename_i h0;rw[Nat.zero_add]
   (first|refine tm ?_|skip)
   exact⟨(.toEnd 1,true),_,trivial,(bq [0,1,2,4] (reg:=by(repeat' (first|exact ae.nil|refine ae.gO rfl (by assumption) rfl ?_|refine rz ?_|refine ae.sl rfl (by assumption) rfl ?_));first|done|fail))⟩
  refine⟨?_⟩;obtain⟨cap,opn⟩:=s
  by_cases hcond:0<k/\k-1<fs.length
  ·obtain ⟨z,g1,g2,g3⟩:=IQ hf hcond.2 1;have hml:=hfl (k-1);have hmB:=hfB (k-1)
   obtain⟨f,hfe⟩:∃f,fs.getD (k-1) default=f:=⟨_,rfl⟩
   have hap:wG fs k p=if f.lost=true then []else og p f.mask:=by unfold wG;rw[if_pos hcond,hfe]
   rw[hfe]at g2 g3 hml hmB;have e1:((k:Int)-1).toNat=k-1:=by omega
   rw[<-e1]at g1 g2
   obtain⟨lo,hlo⟩:∃b,f.lost=b:=⟨_,rfl⟩
   obtain⟨m,hme⟩:∃m,f.mask=m:=⟨_,rfl⟩
   rw[hlo]at hap g2;rw[hme]at hap g3 hml hmB;obtain⟨hc1,hc2⟩:=hcond
   cases lo with
   | true=>
     rw[if_pos rfl,]at hap;rw[hap,List.append_nil]at hs1
     repeat' (first
      |(refine qz ?_;first
       |refine ll ?_
       |refine sc (fun kk hkk=>?_)
       |refine nH (zs:=[.bool false,.nils]) (hz:=jI) ?_
       |refine kn (enc:=cK) ?_ (by assumption) g1 (hc':=g2))
      |refine zz ?_|refine zx (fun _=>?_) (fun _=>?_)|fail)
     exact ih (k+1) _ _ _ (bq [0,1,2] (obj:=by(repeat' (first|exact af.nil|refine af.flat (by rw[hs1];rfl) ?_|refine oz ?_));first|done|fail) (reg:=by(repeat' (first|exact ae.nil|refine ae.gO rfl (by assumption) rfl ?_|refine ae.iO rfl rfl (by rw[hs1]) ?_|refine rz ?_|refine ae.sl rfl (by assumption) rfl ?_));first|done|fail)) (by omega) (by omega)
   | false =>
     rw[if_neg (by decide)]at hap;rw[hap]at hs1
     repeat' (first
      |(refine qz ?_;first
       |refine ll ?_
       |refine sc (fun kk hkk=>?_)
       |refine nH (zs:=[.bool false,.nils]) (hz:=jI) ?_
       |refine kn (enc:=cK) ?_ (by assumption) g1 (hc':=g2))
      |refine zz ?_|refine zx (fun _=>?_) (fun _=>?_)|fail)
     refine WX.bN (σ:=Nat) (fun t=>[(1,.one d),(12,.one c),(13,.one (.int .i64 (ps.length:Nat))),(5,dV 2 A.length 1),(14,.one (.int .i64 (k:Nat))),(8,.one (.slice 3 0 p.length cap)),(39,.one z),(40,.one (.int .i64 (m.length:Nat))),(41,.one (.int .i64 (t:Nat)))]) (fun t=>[.late L,.late F,bu 5 (il .u8 A),.cells (il .u8 (qf p m t)) 5 opn false]) (fun t=>t<=m.length) (fun t=>m.length-t) 0 (Nat.zero_le _) (fun k _=>stM) (bq [0,1,2,3] (reg:=by(repeat' (first|exact ae.nil|refine ae.gO rfl (by assumption) rfl ?_|refine rz ?_|refine ae.sl rfl (by assumption) rfl ?_));first|done|fail)) ?_;intro t ht ih2;have hkl:=iz p m t;have hmb:=u6 hpb m t
     by_cases hlt2:t<m.length
     ·have e2:(21+(t:Int)).toNat=21+t:=by omega
      have hv:=hmB t;have hw:=hmb (21+t)
      by_cases hlt3:21+t<p.length
      ·have e3:qf p m (t+1)=(qf p m t).set (21+t) (lK .u8 ((qf p m t).getD (21+t) 0) (m.getD t 0)):=by rw[qf,if_pos hlt3]
       repeat' (first
        |(refine qz ?_;first
         |refine ll ?_
         |refine sc (fun kk hkk=>?_)
         |refine Gd ?_ (by assumption) hlt2)
        |refine zz ?_|refine zx (fun _=>?_) (fun _=>?_)|fail)
       exact ih2 (t+1) _ _ _ (bq [0,1,2,3] (obj:=by(repeat' (first|exact af.nil|refine af.flat (by rw[e3];rfl) ?_|refine oz ?_));first|done|fail) (reg:=by(repeat' (first|exact ae.nil|refine ae.gO rfl (by assumption) rfl ?_|refine rz ?_|refine ae.sl rfl (by assumption) rfl ?_));first|done|fail)) (by omega) (by omega)
      ·have e3:qf p m (t+1)=qf p m t:=by rw[qf,if_neg hlt3]
       repeat' (first
        |(refine qz ?_;first
         |refine ll ?_
         |refine sc (fun kk hkk=>?_)
         |refine Gd ?_ (by assumption) hlt2)
        |refine zz ?_|refine zx (fun _=>?_) (fun _=>?_)|fail)
       exact ih2 (t+1) _ _ _ (bq [0,1,2,3] (obj:=by(repeat' (first|exact af.nil|refine af.flat (by rw[e3];rfl) ?_|refine oz ?_));first|done|fail) (reg:=by(repeat' (first|exact ae.nil|refine ae.gO rfl (by assumption) rfl ?_|refine rz ?_|refine ae.sl rfl (by assumption) rfl ?_));first|done|fail)) (by omega) (by omega)
     ·obtain rfl:t=m.length:=by omega
      clear ih2;have hmk:qf p m m.length=og p m:=rfl;rw[hmk]at hkl ⊢
      obtain⟨M,hM⟩:∃M,og p m=M:=⟨_,rfl⟩
      rw[hM]at hkl hs1 ⊢
      by_cases hp0:p.length=0
      ·rw[hp0]at hkl ⊢;obtain rfl:M = []:=List.length_eq_zero_iff.1 hkl;rw[List.append_nil]at hs1
       repeat' (first
        |(refine qz ?_;first
         |refine Ss (ds:=[]) (cs:=il .u8 A) (gd rfl rfl rfl) ?_ (hn:=by rw[br];omega) (hm:=by omega))
        |refine zz ?_|refine zx (fun _=>?_) (fun _=>?_)|fail)
       exact ih (k+1) _ _ _ (bq [0,1,2] (obj:=by(repeat' (first|exact af.nil|refine af.flat (by rw[hs1];rfl) ?_|refine oz ?_));first|done|fail) (reg:=by(repeat' (first|exact ae.nil|refine ae.gO rfl (by assumption) rfl ?_|refine ae.iO rfl rfl (by rw[hs1]) ?_|refine rz ?_|refine ae.sl rfl (by assumption) rfl ?_));first|done|fail)) (by omega) (by omega)
      ·repeat' (first|refine zz ?_|refine zx (fun _=>?_) (fun _=>?_)|fail)
       exact ih (k+1) _ _ _ (bq [0,1,4] (obj:=by(repeat' (first|exact af.nil|refine af.flat (by rw[hs1];rfl) ?_|refine oz ?_));first|done|fail) (reg:=by(repeat' (first|exact ae.nil|refine ae.gO rfl (by assumption) rfl ?_|refine ae.iO rfl rfl (by rw[hs1,List.length_append,hkl]) ?_|refine rz ?_|refine ae.sl rfl (by assumption) rfl ?_));first|done|fail)) (by omega) (by omega)
  ·have hap:wG fs k p=p:=if_neg hcond;rw[hap]at hs1;have hk2:0<k->fs.length<=k-1:=fun h=>by omega
   by_cases hp0:p.length=0
   ·obtain rfl:p = []:=List.length_eq_zero_iff.1 hp0;rw[List.append_nil]at hs1
    repeat' (first
     |(refine qz ?_;first
      |refine ll ?_
      |refine Ss (ds:=[]) (cs:=il .u8 A) (gd rfl rfl rfl) ?_ (hn:=by rw[br];omega) (hm:=by omega))
     |refine zz ?_|refine zx (fun _=>?_) (fun _=>?_)|fail)
    all_goals (first|(exfalso;omega)|skip)
    all_goals exact ih (k+1) _ _ _ (bq [0,1,2] (obj:=by(repeat' (first|exact af.nil|refine af.flat (by rw[hs1];rfl) ?_|refine oz ?_));first|done|fail) (reg:=by(repeat' (first|exact ae.nil|refine ae.gO rfl (by assumption) rfl ?_|refine ae.iO rfl rfl (by rw[hs1]) ?_|refine rz ?_|refine ae.sl rfl (by assumption) rfl ?_));first|done|fail)) (by omega) (by omega)
   ·repeat' (first
     |(refine qz ?_;first
      |refine ll ?_)
     |refine zz ?_|refine zx (fun _=>?_) (fun _=>?_)|fail)
    all_goals (first|(exfalso;omega)|skip)
    all_goals exact ih (k+1) _ _ _ (bq [0,1,4] (obj:=by(repeat' (first|exact af.nil|refine af.flat (by rw[hs1];rfl) ?_|refine oz ?_));first|done|fail) (reg:=by(repeat' (first|exact ae.nil|refine ae.gO rfl (by assumption) rfl ?_|refine ae.iO rfl rfl (by rw[hs1,List.length_append]) ?_|refine rz ?_|refine ae.sl rfl (by assumption) rfl ?_));first|done|fail)) (by omega) (by omega)
 ·obtain rfl:k=ps.length:=by omega
  have hq:wH ps fs ps.length=q:=hq;rw[hq]
  repeat' (first
   |(refine qz ?_;first
    |refine ll ?_)
   |refine zz ?_|refine zx (fun _=>?_) (fun _=>?_)|fail)
  show aE _ _ _ _ _ _ _ _;refine kV [0,1,2] ?_;rw[dB];rfl
theorem H9{L F:List (List XC)}{cs:List XC}{ps:List (List Int)}(hb:lE L cs ps){l:List mA}{fs:List Fa}(hf:gm F l fs){i j np nf:Nat}{c d:XC}(hc:cy L i c cs np)(hnp:ps.length=np)(hd:cy F j d (fl cK l) nf)(hnf:fs.length=nf)(hn:ps.length<=1000)(hfn:fs.length<=1000)(hp:∀i,(ps.getD i []).length<=100000)(hpB:∀i,aR (ps.getD i []))(hfB:∀i,aR (fs.getD i default).mask)(hfl:∀i,(fs.getD i default).mask.length<=100000){q:List Int}(hq:ue ps fs=q){nq:Nat}(hnq:q.length=nq){HS:ah}(hi:HS[i]? = some (.late L))(hj:HS[j]? = some (.late F))(hij:i≠j){N:Nat}(hN:HS.length=N){HS':ah}(hh:HS++[bu 5 (il .u8 q)]=HS')(hbd:Nat.blt HS'.length Mem.bound=true) :
 aA.Sound prog ⟨26,[.one c,.one d],HS,dV N nq 1,HS',[i,j]⟩:=by
 subst hnp hnf hN hnq;obtain⟨c0,h0,rfl⟩:=hc.back 0 (nth [i,j]) rfl;obtain⟨d0,k0,rfl⟩:=hd.back 1 (nth [i,j]) rfl;refine bh [i,j] [i,j] 1 (Fx hb hf h0 k0 hn hfn hp hpB hfB hfl hq) (by simp[hij]) (.flat hi (.flat hj .nil)) (.flat (.flat .nil)) (.flat (.flat (.flat .nil))) rfl (.cons (h0.ok (Nat.le_of_ble_eq_true rfl)) (.cons (k0.ok (Nat.le_of_ble_eq_true rfl)) .nil)) (.cons rfl (.cons rfl .nil)) (iF (Nat.le_of_ble_eq_true rfl)) (dB ..) (.flat (.flat (.flat .nil))) ?_ rfl (by simp only[bD];rw[aB hi,aB hj];exact hh) hbd (.inl rfl);cases il .u8 q<;>simp[fX,aj.live,aj.own,bu]
theorem gN{τ : Nat->Nat}{HS:ah}{i:Nat}{ls:List Nat}{hs:ah}{L:List (List XC)}{cs:List XC}{e:TypeId}{a b:Bool}(hcs:∀x∈cs,∃vs n,cy L 0 x vs n)(hi:HS[i]? = some (.cells cs e a b))(h0 : τ 0=0)(r:af τ HS ls hs):af τ HS (i::ls) (.cells cs e a b::hs):=by
 refine af.cons ?_ r;rw[hi];simp only[aj.aC];rw[show cs.map (·.aC τ)=cs from(List.map_congr_left (g:=id) fun x hx=>by obtain⟨vs,n,h⟩:=hcs x hx;exact h.id h0).trans (List.map_id _)]
theorem sk{L:List (List XC)}{cs:List XC}{e:TypeId}{a b:Bool}{m:Nat}(hcs:∀x∈cs,∃vs n,cy L 0 x vs n)(hm:0<m):(aj.cells cs e a b).bt m:=fun x hx=>by
 obtain⟨vs,n,h⟩:=hcs x hx;exact h.ok hm
theorem Ca{L F:List (List XC)}{cs:List XC}{ps:List (List Int)}(hb:∀i,i<ps.length->∃x,cs[i]? = some x/\cy L 0 x (il .u8 (ps.getD i [])) (ps.getD i []).length)(hcs:∀x∈cs,∃vs n,cy L 0 x vs n){l:List mA}{fs:List Fa}(hf:gm F l fs){d:XC}(hd:cy F 1 d (fl cK l) fs.length)(hn:ps.length<=1000)(hfn:fs.length<=1000)(hp:∀i,(ps.getD i []).length<=100000)(hpB:∀i,aR (ps.getD i []))(hfB:∀i,aR (fs.getD i default).mask)(hfl:∀i,(fs.getD i default).mask.length<=100000){q:List Int}(hq:ue ps fs=q) :
 bm prog 26 [.one (.slice 2 0 ps.length (.exact ps.length)),.one d] [.late L,.late F,.cells cs 32 false false] (dV 3 q.length 1) [.late L,.late F,.cells cs 32 false false,bu 5 (il .u8 q)]:=by
 have hok1:d.ok 4:=hd.ok (Nat.le_of_ble_eq_true rfl);have hok3:d.ok 5:=hd.ok (Nat.le_of_ble_eq_true rfl);refine cO Tryz.func26 ?_
 repeat' (first
  |(refine qz ?_;first
   |refine ll ?_)
  |refine zz ?_|refine zx (fun _=>?_) (fun _=>?_)|fail)
 refine WX.bU rfl ?_;refine WX.bN (σ:=Nat) (fun k=>[(1,.one d),(12,.one (.slice 2 0 ps.length (.exact ps.length))),(13,.one (.int .i64 (ps.length:Nat))),(5,dV 3 (wH ps fs k).length 1),(14,.one (.int .i64 (k:Nat)))]) (fun k=>[.late L,.late F,.cells cs 32 false false,bu 5 (il .u8 (wH ps fs k))]) (fun k=>k<=ps.length) (fun k=>ps.length-k) 0 (Nat.zero_le _) (fun k _=>(stM (objs:=by repeat' (first|exact ak.nil|refine ak.flat ?_|refine ak.cons (sk hcs (Nat.le_of_ble_eq_true rfl)) ?_)))) (bq [0,1,2,3] (obj:=by(repeat' (first|exact af.nil|refine gN hcs rfl rfl ?_|refine oz ?_));first|done|fail) (reg:=by(repeat' (first|exact ae.nil|refine ae.gO rfl (by assumption) rfl ?_|refine rz ?_|refine ae.sl rfl (by assumption) rfl ?_));first|done|fail)) ?_;intro k hk ih;have hal:=yv ps fs hp k
 by_cases hlt:k<ps.length
 ·obtain ⟨x,h1,h3⟩:=hb k hlt;have hpk:=hp k;have hpb:=hpB k;have hs1:wH ps fs (k+1)=wH ps fs k++wG fs k (ps.getD k []):=rfl
  obtain⟨p,hpe⟩:∃p,ps.getD k []=p:=⟨_,rfl⟩
  obtain⟨A,hA⟩:∃A,wH ps fs k=A:=⟨_,rfl⟩
  rw[hpe]at h3 hpk hpb hs1;rw[hA]at hal hs1;rw[hA]
  repeat' (first
   |(refine qz ?_;first
    |refine ll ?_
    |refine sc (fun kk hkk=>?_)
    |refine ld (c:=x) ?_ (hc:=h1)
    |refine sL (zs:=[.int .u8 0]) ?_
    |refine LX (q:=[]) rfl (tW rfl h3 rfl) (fun _=>?_) (fun _=>?_))
   |refine WX.xE 5 (σ:=nQ×Bool) (fun s=>[(1,.one d),(12,.one (.slice 2 0 ps.length (.exact ps.length))),(13,.one (.int .i64 (ps.length:Nat))),(5,dV 3 A.length 1),(14,.one (.int .i64 (k:Nat))),(6,.one (.int .i64 (k:Nat))),(8,.one (.slice 4 0 p.length s.1))]) (fun s=>[.late L,.late F,.cells cs 32 false false,bu 5 (il .u8 A),.cells (il .u8 p) 5 s.2 false]) (fun _=>True) (fun _ _=>(stM (objs:=by repeat' (first|exact ak.nil|refine ak.flat ?_|refine ak.cons (sk hcs (Nat.le_of_ble_eq_true rfl)) ?_)))) ?_ (fun s _=>rS.out ?_)|refine zz ?_|refine zx (fun _=>?_) (fun _=>?_)|fail)
  ·rename_i h0;obtain rfl:p = []:=List.length_eq_zero_iff.1 h0
   (first|refine tm ?_|skip)
   exact⟨(.exact 0,false),_,trivial,(bq [0,1,2,3,4] (obj:=by(repeat' (first|exact af.nil|refine gN hcs rfl rfl ?_|refine oz ?_));first|done|fail) (reg:=by(repeat' (first|exact ae.nil|refine ae.gO rfl (by assumption) rfl ?_|refine rz ?_|refine ae.sl rfl (by assumption) rfl ?_));first|done|fail))⟩
  ·rename_i h0;rw[Nat.zero_add]
   (first|refine tm ?_|skip)
   exact⟨(.toEnd 1,true),_,trivial,(bq [0,1,2,3,5] (obj:=by(repeat' (first|exact af.nil|refine gN hcs rfl rfl ?_|refine oz ?_));first|done|fail) (reg:=by(repeat' (first|exact ae.nil|refine ae.gO rfl (by assumption) rfl ?_|refine rz ?_|refine ae.sl rfl (by assumption) rfl ?_));first|done|fail))⟩
  refine⟨?_⟩;obtain⟨cap,opn⟩:=s
  by_cases hcond:0<k/\k-1<fs.length
  ·obtain ⟨z,g1,g2,g3⟩:=IQ hf hcond.2 1;have hml:=hfl (k-1);have hmB:=hfB (k-1)
   obtain⟨f,hfe⟩:∃f,fs.getD (k-1) default=f:=⟨_,rfl⟩
   have hap:wG fs k p=if f.lost=true then []else og p f.mask:=by unfold wG;rw[if_pos hcond,hfe]
   rw[hfe]at g2 g3 hml hmB;have e1:((k:Int)-1).toNat=k-1:=by omega
   rw[<-e1]at g1 g2
   obtain⟨lo,hlo⟩:∃b,f.lost=b:=⟨_,rfl⟩
   obtain⟨m,hme⟩:∃m,f.mask=m:=⟨_,rfl⟩
   rw[hlo]at hap g2;rw[hme]at hap g3 hml hmB;obtain⟨hc1,hc2⟩:=hcond
   cases lo with
   | true=>
     rw[if_pos rfl,]at hap;rw[hap,List.append_nil]at hs1
     repeat' (first
      |(refine qz ?_;first
       |refine ll ?_
       |refine sc (fun kk hkk=>?_)
       |refine nH (zs:=[.bool false,.nils]) (hz:=jI) ?_
       |refine kn (enc:=cK) ?_ (by assumption) g1 (hc':=g2))
      |refine zz ?_|refine zx (fun _=>?_) (fun _=>?_)|fail)
     exact ih (k+1) _ _ _ (bq [0,1,2,3] (obj:=by(repeat' (first|exact af.nil|refine af.flat (by rw[hs1];rfl) ?_|refine gN hcs rfl rfl ?_|refine oz ?_));first|done|fail) (reg:=by(repeat' (first|exact ae.nil|refine ae.gO rfl (by assumption) rfl ?_|refine ae.iO rfl rfl (by rw[hs1]) ?_|refine rz ?_|refine ae.sl rfl (by assumption) rfl ?_));first|done|fail)) (by omega) (by omega)
   | false =>
     rw[if_neg (by decide)]at hap;rw[hap]at hs1
     repeat' (first
      |(refine qz ?_;first
       |refine ll ?_
       |refine sc (fun kk hkk=>?_)
       |refine nH (zs:=[.bool false,.nils]) (hz:=jI) ?_
       |refine kn (enc:=cK) ?_ (by assumption) g1 (hc':=g2))
      |refine zz ?_|refine zx (fun _=>?_) (fun _=>?_)|fail)
     refine WX.bN (σ:=Nat) (fun t=>[(1,.one d),(12,.one (.slice 2 0 ps.length (.exact ps.length))),(13,.one (.int .i64 (ps.length:Nat))),(5,dV 3 A.length 1),(14,.one (.int .i64 (k:Nat))),(8,.one (.slice 4 0 p.length cap)),(39,.one z),(40,.one (.int .i64 (m.length:Nat))),(41,.one (.int .i64 (t:Nat)))]) (fun t=>[.late L,.late F,.cells cs 32 false false,bu 5 (il .u8 A),.cells (il .u8 (qf p m t)) 5 opn false]) (fun t=>t<=m.length) (fun t=>m.length-t) 0 (Nat.zero_le _) (fun k _=>(stM (objs:=by repeat' (first|exact ak.nil|refine ak.flat ?_|refine ak.cons (sk hcs (Nat.le_of_ble_eq_true rfl)) ?_)))) (bq [0,1,2,3,4] (obj:=by(repeat' (first|exact af.nil|refine gN hcs rfl rfl ?_|refine oz ?_));first|done|fail) (reg:=by(repeat' (first|exact ae.nil|refine ae.gO rfl (by assumption) rfl ?_|refine rz ?_|refine ae.sl rfl (by assumption) rfl ?_));first|done|fail)) ?_;intro t ht ih2;have hkl:=iz p m t;have hmb:=u6 hpb m t
     by_cases hlt2:t<m.length
     ·have e2:(21+(t:Int)).toNat=21+t:=by omega
      have hv:=hmB t;have hw:=hmb (21+t)
      by_cases hlt3:21+t<p.length
      ·have e3:qf p m (t+1)=(qf p m t).set (21+t) (lK .u8 ((qf p m t).getD (21+t) 0) (m.getD t 0)):=by rw[qf,if_pos hlt3]
       repeat' (first
        |(refine qz ?_;first
         |refine ll ?_
         |refine sc (fun kk hkk=>?_)
         |refine Gd ?_ (by assumption) hlt2)
        |refine zz ?_|refine zx (fun _=>?_) (fun _=>?_)|fail)
       exact ih2 (t+1) _ _ _ (bq [0,1,2,3,4] (obj:=by(repeat' (first|exact af.nil|refine af.flat (by rw[e3];rfl) ?_|refine gN hcs rfl rfl ?_|refine oz ?_));first|done|fail) (reg:=by(repeat' (first|exact ae.nil|refine ae.gO rfl (by assumption) rfl ?_|refine rz ?_|refine ae.sl rfl (by assumption) rfl ?_));first|done|fail)) (by omega) (by omega)
      ·have e3:qf p m (t+1)=qf p m t:=by rw[qf,if_neg hlt3]
       repeat' (first
        |(refine qz ?_;first
         |refine ll ?_
         |refine sc (fun kk hkk=>?_)
         |refine Gd ?_ (by assumption) hlt2)
        |refine zz ?_|refine zx (fun _=>?_) (fun _=>?_)|fail)
       exact ih2 (t+1) _ _ _ (bq [0,1,2,3,4] (obj:=by(repeat' (first|exact af.nil|refine af.flat (by rw[e3];rfl) ?_|refine gN hcs rfl rfl ?_|refine oz ?_));first|done|fail) (reg:=by(repeat' (first|exact ae.nil|refine ae.gO rfl (by assumption) rfl ?_|refine rz ?_|refine ae.sl rfl (by assumption) rfl ?_));first|done|fail)) (by omega) (by omega)
     ·obtain rfl:t=m.length:=by omega
      clear ih2;have hmk:qf p m m.length=og p m:=rfl;rw[hmk]at hkl ⊢
      obtain⟨M,hM⟩:∃M,og p m=M:=⟨_,rfl⟩
      rw[hM]at hkl hs1 ⊢
      by_cases hp0:p.length=0
      ·rw[hp0]at hkl ⊢;obtain rfl:M = []:=List.length_eq_zero_iff.1 hkl;rw[List.append_nil]at hs1
       repeat' (first
        |(refine qz ?_;first
         |refine Ss (ds:=[]) (cs:=il .u8 A) (gd rfl rfl rfl) ?_ (hn:=by rw[br];omega) (hm:=by omega))
        |refine zz ?_|refine zx (fun _=>?_) (fun _=>?_)|fail)
       exact ih (k+1) _ _ _ (bq [0,1,2,3] (obj:=by(repeat' (first|exact af.nil|refine af.flat (by rw[hs1];rfl) ?_|refine gN hcs rfl rfl ?_|refine oz ?_));first|done|fail) (reg:=by(repeat' (first|exact ae.nil|refine ae.gO rfl (by assumption) rfl ?_|refine ae.iO rfl rfl (by rw[hs1]) ?_|refine rz ?_|refine ae.sl rfl (by assumption) rfl ?_));first|done|fail)) (by omega) (by omega)
      ·repeat' (first|refine zz ?_|refine zx (fun _=>?_) (fun _=>?_)|fail)
       exact ih (k+1) _ _ _ (bq [0,1,2,5] (obj:=by(repeat' (first|exact af.nil|refine af.flat (by rw[hs1];rfl) ?_|refine gN hcs rfl rfl ?_|refine oz ?_));first|done|fail) (reg:=by(repeat' (first|exact ae.nil|refine ae.gO rfl (by assumption) rfl ?_|refine ae.iO rfl rfl (by rw[hs1,List.length_append,hkl]) ?_|refine rz ?_|refine ae.sl rfl (by assumption) rfl ?_));first|done|fail)) (by omega) (by omega)
  ·have hap:wG fs k p=p:=if_neg hcond;rw[hap]at hs1;have hk2:0<k->fs.length<=k-1:=fun h=>by omega
   by_cases hp0:p.length=0
   ·obtain rfl:p = []:=List.length_eq_zero_iff.1 hp0;rw[List.append_nil]at hs1
    repeat' (first
     |(refine qz ?_;first
      |refine ll ?_
      |refine Ss (ds:=[]) (cs:=il .u8 A) (gd rfl rfl rfl) ?_ (hn:=by rw[br];omega) (hm:=by omega))
     |refine zz ?_|refine zx (fun _=>?_) (fun _=>?_)|fail)
    all_goals (first|(exfalso;omega)|skip)
    all_goals exact ih (k+1) _ _ _ (bq [0,1,2,3] (obj:=by(repeat' (first|exact af.nil|refine af.flat (by rw[hs1];rfl) ?_|refine gN hcs rfl rfl ?_|refine oz ?_));first|done|fail) (reg:=by(repeat' (first|exact ae.nil|refine ae.gO rfl (by assumption) rfl ?_|refine ae.iO rfl rfl (by rw[hs1]) ?_|refine rz ?_|refine ae.sl rfl (by assumption) rfl ?_));first|done|fail)) (by omega) (by omega)
   ·repeat' (first
     |(refine qz ?_;first
      |refine ll ?_)
     |refine zz ?_|refine zx (fun _=>?_) (fun _=>?_)|fail)
    all_goals (first|(exfalso;omega)|skip)
    all_goals exact ih (k+1) _ _ _ (bq [0,1,2,5] (obj:=by(repeat' (first|exact af.nil|refine af.flat (by rw[hs1];rfl) ?_|refine gN hcs rfl rfl ?_|refine oz ?_));first|done|fail) (reg:=by(repeat' (first|exact ae.nil|refine ae.gO rfl (by assumption) rfl ?_|refine ae.iO rfl rfl (by rw[hs1,List.length_append]) ?_|refine rz ?_|refine ae.sl rfl (by assumption) rfl ?_));first|done|fail)) (by omega) (by omega)
 ·obtain rfl:k=ps.length:=by omega
  have hq:wH ps fs ps.length=q:=hq;rw[hq]
  repeat' (first
   |(refine qz ?_;first
    |refine ll ?_)
   |refine zz ?_|refine zx (fun _=>?_) (fun _=>?_)|fail)
  show aE _ _ _ _ _ _ _ _;refine kV [0,1,2,3] ?_ (ho:=by repeat' (first|exact af.nil|refine gN hcs rfl rfl ?_|refine oz ?_)) (hk:=by repeat' (first|exact ak.nil|refine ak.cons (sk hcs (Nat.le_of_ble_eq_true rfl)) ?_|refine kz ?_));rw[dB];rfl
theorem cy.PM{L:List (List XC)}{g:Nat}{c:XC}{vs:List XC}{n:Nat}(h:cy L g c vs n){τ τ':Nat->Nat}(e : τ g = τ' g):c.aC τ = c.aC τ':=by
 rcases h with⟨_,rfl|⟨i,rfl⟩⟩|⟨k,fl,_,rfl,_⟩
 ·rfl
 ·rfl
 ·simp only[XC.aC,e]
theorem xg{L F:List (List XC)}{p:List Int}{x:XC}{i j k:Nat}(hx:cy L i x (il .u8 p) p.length){l:List mA}{fs:List Fa}(hf:gm F l fs){nf:Nat}{d:XC}(hd:cy F j d (fl cK l) nf)(hnf:fs.length=nf)(hfn:fs.length<=1000)(hp:p.length<=100000)(hpB:aR p)(hfB:∀i,aR (fs.getD i default).mask)(hfl:∀i,(fs.getD i default).mask.length<=100000){q:List Int}(hq:wG fs 1 p=q){nq:Nat}(hnq:q.length=nq)(h0:nq≠0){HS:ah}(hi:HS[i]? = some (.late L))(hj:HS[j]? = some (.late F))(hk:HS[k]? = some (.cells [.nils,x] 32 false false))(hnd : [i,j,k].Nodup){N:Nat}(hN:HS.length=N){HS':ah}(hh:HS++[.cells (il .u8 q) 5 true false]=HS')(hbd:Nat.blt HS'.length Mem.bound=true) :
 aA.Sound prog ⟨26,[.one (.slice k 0 2 (.exact 2)),.one d],HS,.one (.slice N 0 nq (.toEnd 1)),HS',[i,j,k]⟩:=by
 subst hnf hN hnq;obtain⟨x0,h0x,rfl⟩:=hx.back 0 (nth [i,j,k]) rfl;obtain⟨d0,k0,rfl⟩:=hd.back 1 (nth [i,j,k]) rfl
 have hb:∀i,i<([[],p]:List (List Int)).length->∃y,([.nils,x0]:List XC)[i]? = some y/\cy L 0 y (il .u8 (([[],p]:List (List Int)).getD i [])) (([[],p]:List (List Int)).getD i []).length:=fun i hi=>by
  have:i=0\/i=1:=by simp at hi;omega
  rcases this with rfl|rfl
  ·exact⟨.nils,rfl,.inl ⟨rfl,.inl rfl⟩⟩
  ·exact⟨x0,rfl,h0x⟩
 have hcs:∀y∈([.nils,x0]:List XC),∃vs n,cy L 0 y vs n:=fun y hy=>by
  simp only[List.mem_cons,List.not_mem_nil,or_false]at hy
  rcases hy with rfl|rfl
  ·exact⟨[],0,.inl ⟨rfl,.inl rfl⟩⟩
  ·exact⟨_,_,h0x⟩
 have hp2:∀i,(([[],p]:List (List Int)).getD i []).length<=100000:=fun i=>by
  match i with
  | 0=>exact Nat.zero_le _
  | 1=>exact hp
  | i+2=>exact Nat.zero_le _
 have hpB2:∀i,aR (([[],p]:List (List Int)).getD i []):=fun i=>by
  have hnil:aR []:=fun j=>by show(0:Int)<=0/\(0:Int)<256;omega
  match i with
  | 0=>exact hnil
  | 1=>exact hpB
  | i+2=>exact hnil
 have hq2:ue [[],p] fs=q:=(LY p fs).trans hq
 have hso:bu 5 (il .u8 q) = .cells (il .u8 q) 5 true false:=bJ fun e=>by
  have h2:(il .u8 q).length=0:=by rw[e];rfl
  rw[br]at h2;exact h0 h2
 have hc:=Ca hb hcs hf k0 (show 2<=1000 by omega) hfn hp2 hpB2 hfB hfl hq2;rw[hso,c_ h0]at hc
 have hre:aj.aC (nth ([i,j,k]++List.range' HS.length 1)) (.cells [.nils,x0] 32 false false) = .cells [.nils,x0.aC (nth [i,j,k])] 32 false false:=by
  simp only[aj.aC,List.map_cons,List.map_nil];rw[cy.PM h0x (τ:=nth ([i,j,k]++List.range' HS.length 1)) (τ':=nth [i,j,k]) rfl];rfl
 refine bh (os:=[.late L,.late F,.cells [.nils,x0.aC (nth [i,j,k])] 32 false false,.cells (il .u8 q) 5 true false]) [i,j,k] [i,j,k] 1 hc hnd (.flat hi (.flat hj (.cons hk .nil))) (.flat (.flat (.cons (sk hcs (Nat.le_of_ble_eq_true rfl)) .nil))) (.flat (.flat (.cons (sk hcs (Nat.le_of_ble_eq_true rfl)) (.flat .nil)))) rfl (.cons (show 2<3 by omega) (.cons (k0.ok (Nat.le_of_ble_eq_true rfl)) .nil)) (.cons rfl (.cons rfl .nil)) (show 3<4 by omega) rfl (.flat (.flat (.cons hre (.flat .nil)))) rfl rfl (by simp only[bD];rw[aB hi,aB hj,aB hk];exact hh) hbd (.inl rfl)
end Go.Proofs.YthdciapjllppjaaGreat
namespace Go.Xm
variable [av]
variable {P:Program} {ops:Array Oper} {nt nI:Nat} {al:aL} {hs:ah} {o:Oper} {l:List Oper} {L:List aA} {K:List Ab->aL->ah->Prop} {d:Nat}
theorem az.bytes{O:db}(hw:aw ops (rg al) o=some true){s t:TypeId}{x:Operand}(ho:o.op = .convert s t x){e:TypeId}(hs1:P.underlying s=some (.slice e))(he:P.underlying e=some (.int .u8))(hd:P.underlying t=some .string){i off len:Nat}{cap:nQ}(hx:ag (rg al) x = .one (.slice i off len cap)){vs:List XC}{et:TypeId}{opn ro:Bool}(hi:hs[i]? = some (.cells vs et opn ro))(hfit:off+len<=vs.length){ns:List Int}(hb:nh ((vs.drop off).take len)=some ns) :
 az O P ops al hs o (.one (.str (jH ns))) hs ⟨false,some i,[]⟩:=by
 intro m hm;refine⟨m,?_,hm,fun _ _=>rfl⟩;unfold iT;rw[hw]
 obtain⟨f,hf1,hf2⟩:∃f,eV P (ag (rg al)) o.op=some (i,f)/\∀vs' e' o' r',f (.cells vs' e' o' r')=if off+len<=vs'.length then(nh ((vs'.drop off).take len)).map fun ns=>XV.one (.str (jH ns))else .none:=by
  rw[ho];simp only[eV,hs1,hd,hx,he];exact⟨_,rfl,fun _ _ _ _=>rfl⟩
 refine mn (by rw[ho];simp only[aT,jx,hs1,hd,hx]) (by rw[ho];simp only[pk,hx]) hf1 ?_;rw[hm.at hi,hf2,if_pos hfit,hb];rfl
theorem sB:∀a:List Int,nh (il .u8 a)=some a
 | []=>rfl
 | z::a=>by
   show(nh (il .u8 a)).map (z :: ·)=_;rw[sB a];rfl
end Go.Xm
namespace Go.Xm
variable [av]
variable {P:Program} {ops:Array Oper} {nt nI:Nat} {al:aL} {hs:ah} {o:Oper} {l:List Oper} {L:List aA} {K:List Ab->aL->ah->Prop} {d:Nat}
theorem eqs{t t':TypeId}{a b:Operand}{x:List UInt8}(hk:SK P ops nt L l ((d,.one (.bool true))::al) hs fun bs=>K (quiet::bs))(ho:o.op = .binOp .eql t a b t':=by exact rfl)(wn:Wn ops nt al o d:=by exact⟨rfl,rfl,rfl⟩)(ha:ag (rg al) a = .one (.str x):=by exact rfl)(hb:ag (rg al) b = .one (.str x):=by exact rfl):SK P ops nt L (o::l) al hs K:=
 SK.lift wn.e wn.l (fun _=>az.pure wn.w (by rw[ho];simp only[aT,ha,hb,vY,NP,Option.map_some,beq_self_eq_true])) hk
theorem T0{s t e:TypeId}{x:Operand}{i n:Nat}{a:List Int}{cap:nQ}{et:TypeId}{opn ro:Bool}(hn:a.length=n)(hk:SK P ops nt L l ((d,.one (.str (jH a)))::al) hs fun bs=>K (⟨false,some i,[]⟩::bs))(ho:o.op = .convert s t x:=by exact rfl)(hu:aG P s (.slice e):=by infer_instance)(he:aG P e (.int .u8):=by infer_instance)(ht:aG P t .string:=by infer_instance)(wn:Wn ops nt al o d:=by exact⟨rfl,rfl,rfl⟩)
 (hx:ag (rg al) x = .one (.slice i 0 n cap):=by exact rfl) (hi:hs[i]? = some (.cells (il .u8 a) et opn ro):=by exact rfl):SK P ops nt L (o::l) al hs K:=by
 have hil:(il .u8 a).length=a.length:=br _ _;refine SK.lift wn.e wn.l (fun _=>az.bytes wn.w ho hu.out he.out ht.out hx hi (by omega) (ns:=a) ?_) hk;rw[List.drop_zero,<-hn,<-hil,List.take_length];exact sB a
theorem TZ{s t e:TypeId}{x:Operand}{g k n fl cut:Nat}{a:List Int}{LL:List (List XC)}(hL:LL[k]? = some (il .u8 a))(hn:a.length=n)(h0:n≠0)(hk:SK P ops nt L l ((d,.one (.str (jH a)))::al) hs fun bs=>K (⟨false,some g,[]⟩::bs))(ho:o.op = .convert s t x:=by exact rfl)(hu:aG P s (.slice e):=by infer_instance)(he:aG P e (.int .u8):=by infer_instance)(ht:aG P t .string:=by infer_instance)(wn:Wn ops nt al o d:=by exact⟨rfl,rfl,rfl⟩)
 (hx:ag (rg al) x = .one (.lsl g k 0 n fl cut):=by exact rfl) (hi:hs[g]? = some (.late LL):=by exact rfl) (hx0:∀O:db,pk O (ag (rg al)) o.op = .none:=by intro O;exact rfl):SK P ops nt L (o::l) al hs K:=by
 have hil:(il .u8 a).length=a.length:=br _ _;refine SK.lift wn.e wn.l (fun _=>?_) hk;intro m hm;refine⟨m,?_,hm,fun _ _=>rfl⟩;unfold iT;rw[wn.w]
 obtain⟨f,hf1,hf2⟩:∃f,eV P (ag (rg al)) o.op=some (g,f)/\f (.late LL)=some (.one (.str (jH a))):=by
  rw[ho];simp only[eV,hu.out,ht.out,he.out,hx];refine⟨_,rfl,?_⟩;simp only[hL]
  cases hc:il .u8 a with
  | nil=>rw[hc]at hil;simp at hil;omega
  | cons c cs=>
    simp only[];rw[<-hc,if_pos (by rw[hil];omega),dM (gT .u8 a 0),List.drop_zero,<-hn,<-hil,List.take_length,sB];rfl
 refine mn (by rw[ho];simp only[aT,jx,hu.out,ht.out,hx]) (hx0 _) hf1 ?_;rw[hm.at hi,hf2]
end Go.Xm
namespace Go.Xm
theorem aA.Sound.Us[av]{P:Program}{f:FuncId}{args:List XV}{HS HS' new:ah}{v:XV}{ws:List Nat}(h:aA.Sound P ⟨f,args,HS,v,HS',ws⟩)(hh:HS++new=HS'):aA.Sound P ⟨f,args,HS,v,HS',[]⟩:=
 ⟨h.le,h.bnd,fun i hi _=>by subst hh;exact List.getElem?_append_left hi,h.call⟩
end Go.Xm
namespace Go.Proofs.YthdciapjllppjaaGreat
open Go.Xm
variable [av]
def Cu:List Pc->Nat
 | []=>0
 | p::l=>p.gs.length+Cu l
theorem uE(l:List Pc):∀i,i<l.length->Cu (l.take (i+1))=Cu (l.take i)+(l.getD i default).gs.length:=by
 induction l with
 | nil=>intro i h;exact absurd h (Nat.not_lt_zero _)
 | cons p l ih=>
   intro i h
   cases i with
   | zero=>show p.gs.length+Cu (l.take 0)=0+p.gs.length;rw[List.take_zero];show p.gs.length+0=_;omega
   | succ i=>
     have h2:i<l.length:=by simp at h;exact h
     show p.gs.length+Cu (l.take (i+1))=p.gs.length+Cu (l.take i)+(l.getD i default).gs.length;rw[ih i h2];omega
theorem I0(l:List Pc):∀i,Cu (l.take i)<=Cu l:=by
 induction l with
 | nil=>intro i;rw[List.take_nil];exact Nat.le_refl _
 | cons p l ih=>
   intro i
   cases i with
   | zero=>exact Nat.zero_le _
   | succ i=>show p.gs.length+Cu (l.take i)<=p.gs.length+Cu l;exact Nat.add_le_add_left (ih i) _
theorem EG(h:Hd):∀l:List Pc,(qh h l).length=Cu l
 | []=>rfl
 | p::l=>by
   have e:qh h (p::l)=MX h p++qh h l:=rfl;have e2:(MX h p).length=p.gs.length:=List.length_map ..;rw[e,List.length_append,e2,EG h l];rfl
theorem Ck(fT:List Bool->Int->Mb->Bool)(fs:List Fa)(sz:List Int)(n:Nat)(ps:List Pc):∀i,i<=ps.length->(gC fT fs sz n ps i).at_=Cu (ps.take i)
 | 0,_=>rfl
 | i+1,h=>by
   rw[gC];show(pT _ _ _ _ _ _ _).at_=_;rw[uj,uE ps i (by omega)];show(gC fT fs sz n ps i).at_+_=_;rw[Ck fT fs sz n ps i (by omega)]
theorem Ac(fT:Int->Mb->Bool)(fs:List Fa)(sz:List Int)(i:Nat)(gs:List Gr)(x0:OG):∀j,(∀k,k<j->(fs.getD (x0.at_+k) default).lost=true)->(pT fT fs sz i gs x0 j).last=x0.last
 | 0,_=>rfl
 | j+1,h=>by
   rw[pT];show(if _ then _ else _:Int)=_;rw[uj,if_pos (h j (Nat.lt_succ_self j)),Ac fT fs sz i gs x0 j (fun k hk=>h k (by omega))]
theorem Ad(fT:List Bool->Int->Mb->Bool)(fs:List Fa)(sz:List Int)(n:Nat)(ps:List Pc)(h:∀k,k<Cu ps->(fs.getD k default).lost=true):∀i,i<=ps.length->(gC fT fs sz n ps i).last = -1
 | 0,_=>rfl
 | i+1,hi=>by
   have ha:=Ck fT fs sz n ps i (by omega);have hg:=uE ps i (by omega);have hle:=I0 ps (i+1);rw[gC];show(pT _ _ _ _ _ _ _).last=_;rw[Ac _ _ _ _ _ _ _ (fun k hk=>h _ (by show(gC fT fs sz n ps i).at_+k<_;omega))];exact Ad fT fs sz n ps h i (by omega)
theorem CG{f:Fa}(h:f.lost=true)(z:Int):gW f z=true:=by unfold gW;rw[h];rfl
theorem q_{M k:Nat}(h:k<M):((List.replicate M (⟨true,[]⟩:Fa)).getD k default)=⟨true,[]⟩:=by
 rw[List.getD_eq_getElem?_getD,List.getElem?_replicate,if_pos h];rfl
theorem Bf(M k:Nat):((List.replicate M (⟨true,[]⟩:Fa)).getD k default).mask = []:=by
 rw[List.getD_eq_getElem?_getD,List.getElem?_replicate];split<;>rfl
theorem wU{fT:List Bool->Int->Mb->Bool}{sz:List Int}{n M:Nat}{ps:List Pc}(hM:Cu ps=M){i j:Nat}(hi:i<ps.length)(hj:j<(ps.getD i default).gs.length){g:Nat->Int}
 (h:gW ((List.replicate M (⟨true,[]⟩:Fa)).getD ((gC fT (List.replicate M ⟨true,[]⟩) sz n ps i).at_+j) default) (g ((gC fT (List.replicate M ⟨true,[]⟩) sz n ps i).at_+j))=false):False:=by
 have ha:=Ck fT (List.replicate M ⟨true,[]⟩) sz n ps i (by omega);have hg:=uE ps i hi;have hle:=I0 ps (i+1);rw[q_ (by omega)]at h;rw[CG rfl]at h;cases h
theorem GW{L:List (List XC)}{cs:List XC}{ps:List (List Int)}(hb:lE L cs ps){c:XC}{i n M:Nat}(hc:cy L i c cs n)(hpn:ps.length=n)(hM:n=M+1)(h0:M≠0)(hn:ps.length<=1000000)(hpl:∀i,(ps.getD i []).length<=1000000000){z:List Int}(hz:rn ps ps.length=z){HS:ah}(hi:HS[i]? = some (.late L)){N:Nat}(hN:HS.length=N){HS':ah}(hh:HS++[.cells (il .i64 z) 3 true false]=HS')(hbd:Nat.blt HS'.length Mem.bound=true) :
 aA.Sound prog ⟨20,[.one c],HS,.one (.slice N 0 M (.toEnd 1)),HS',[i]⟩:=by
 have hl:(rn ps ps.length).length=M:=by rw[rq,hpn,hM];rfl
 have e1:bu 3 (il .i64 (rn ps ps.length)) = .cells (il .i64 z) 3 true false:=by
  rw[hz]at hl ⊢
  exact bJ fun e=>by
   have h2:(il .i64 z).length=0:=by rw[e];rfl
   rw[br]at h2;omega
 have h3:=Kt hb hc hpn hn hpl hi hN (HS':=HS') (by rw[e1];exact hh) hbd;have e2:n-1=M:=by omega
 rwa [e2,c_ h0]at h3
theorem lE.more{L:List (List XC)}{cs:List XC}{ps:List (List Int)}(h:lE L cs ps)(r:List (List XC)):lE (L++r) cs ps:=⟨h.1,fun i hi=>cy.mono (h.2 i hi) r⟩
theorem MG(L:List (List XC))(M:Nat):gm L (List.replicate M (⟨true,.nils⟩:mA)) (List.replicate M ⟨true,[]⟩):=by
 refine⟨by rw[List.length_replicate,List.length_replicate],fun i hi=>?_⟩;rw[List.length_replicate]at hi
 have e:(List.replicate M (⟨true,.nils⟩:mA)).getD i default=⟨true,.nils⟩:=by
  rw[List.getD_eq_getElem?_getD,List.getElem?_replicate,if_pos hi];rfl
 rw[q_ hi,e];exact⟨rfl,.inl ⟨rfl,.inl rfl⟩⟩
theorem rU{L F:List (List XC)}{cs:List XC}{ps:List (List Int)}(hb:lE L cs ps){l:List mA}{fs:List Fa}(hf:gm F l fs){i j np nf:Nat}{c d:XC}(hc:cy L i c cs np)(hnp:ps.length=np)(hd:cy F j d (fl cK l) nf)(hnf:fs.length=nf)(hn:ps.length<=1000)(hfn:fs.length<=1000)(hp:∀i,(ps.getD i []).length<=100000)(hpB:∀i,aR (ps.getD i []))(hfB:∀i,aR (fs.getD i default).mask)(hfl:∀i,(fs.getD i default).mask.length<=100000){q:List Int}(hq:ue ps fs=q){nq:Nat}(hnq:q.length=nq)(h0:nq≠0){HS:ah}(hi:HS[i]? = some (.late L))(hj:HS[j]? = some (.late F))(hij:i≠j){N:Nat}(hN:HS.length=N){HS':ah}(hh:HS++[.cells (il .u8 q) 5 true false]=HS')(hbd:Nat.blt HS'.length Mem.bound=true) :
 aA.Sound prog ⟨26,[.one c,.one d],HS,.one (.slice N 0 nq (.toEnd 1)),HS',[]⟩:=by
 have e1:bu 5 (il .u8 q) = .cells (il .u8 q) 5 true false:=bJ fun e=>by
  have h2:(il .u8 q).length=0:=by rw[e];rfl
  rw[br]at h2;omega
 have h3:=H9 hb hf hc hnp hd hnf hn hfn hp hpB hfB hfl hq hnq hi hj hij hN (HS':=HS') (by rw[e1];exact hh) hbd;rw[c_ h0]at h3;exact h3.Us hh
theorem gm.more{L:List (List XC)}{l:List mA}{fs:List Fa}(h:gm L l fs)(r:List (List XC)):gm (L++r) l fs:=⟨h.1,fun i hi=>⟨(h.2 i hi).1,cy.mono (h.2 i hi).2 r⟩⟩
theorem qx:aR []:=fun j=>by show(0:Int)<=0/\(0:Int)<256;omega
theorem CH{fs:List Fa}(i:Nat):((fs.map fun f=>(⟨false,f.mask⟩:Fa)).getD i default).mask=(fs.getD i default).mask:=by
 rw[List.getD_eq_getElem?_getD,List.getElem?_map,List.getD_eq_getElem?_getD];cases fs[i]?<;>rfl
theorem Pt{fs:List Fa}{i:Nat}(h:i<fs.length):((fs.map fun f=>(⟨false,f.mask⟩:Fa)).getD i default).lost=false:=by
 rw[List.getD_eq_getElem?_getD,List.getElem?_map,List.getElem?_eq_getElem h];rfl
theorem IZ{fs:List Fa}(P:List Int->Prop)(h0:P [])(h:∀i,i<fs.length->P (fs.getD i default).mask)(i:Nat):P (fs.getD i default).mask:=by
 by_cases hi:i<fs.length
 ·exact h i hi
 ·rw[List.getD_eq_getElem?_getD,List.getElem?_eq_none (by omega)];exact h0
theorem RD{q:List qn}{ps:List (List Int)}(hqk:∀i,i<q.length->qo (q.getD i default))(hqo:∀i,i<q.length->(q.getD i default).mask.length<=500/\(q.getD i default).odd.length<=30)(hp:yq ps):∀i,i<(ki q ps (ps.length-1)).length->aR ((ki q ps (ps.length-1)).getD i default).mask/\((ki q ps (ps.length-1)).getD i default).mask.length<=60000:=by
 have key:∀n,n<=ps.length-1->∀f∈ki q ps n,aR f.mask/\f.mask.length<=60000:=fun n=>by
  induction n with
  | zero=>exact fun _ f hf=>by cases hf
  | succ n ih=>
    intro hn f hf;rw[ki]at hf;split at hf
    ·rename_i hlt
     rcases List.mem_append.1 hf with hf|hf
     ·exact ih (by omega) f hf
     ·rw[List.mem_singleton.1 hf];obtain⟨-,a,b⟩:=hp.prt n (by omega);exact IS (hqk n hlt) (hqo n hlt).1 a.2 b.2
    ·exact ih (by omega) f hf
 intro i hi;rw[List.getD_eq_getElem?_getD,List.getElem?_eq_getElem hi,Option.getD_some];exact key _ (Nat.le_refl _) _ (List.getElem_mem hi)
theorem MZ{s:wC}(hs:jz s):2<=(iD s).length:=by
 have hm:=hs.ok.many;have hcr:=m9 hs.ok;have h0:=hs.ok.pics 0 (by omega);have hlen:(iD s).length=(qh s.hd s.ps).length+1:=List.length_cons
 cases hp:s.ps with
 | nil=>rw[hp]at hm;simp at hm
 | cons p l=>
   rw[hp]at h0;have hg:qk p.ph.inter p.ph.qp 0 p.gs (((s.hd.cols*s.hd.rows).toNat:Nat):Int):=h0.gs
   have hne:p.gs.length≠0:=fun e=>by
    rw[List.length_eq_zero_iff.1 e]at hg;have hg:(0:Int)=_:=hg;omega
   have e:qh s.hd (p::l)=MX s.hd p++qh s.hd l:=rfl;have e2:(MX s.hd p).length=p.gs.length:=List.length_map ..;rw[hlen,hp,e,List.length_append,e2];omega
theorem J3{s:wC}(hs:jz s):yq (iD s):=by
 have h:=CY hs;refine⟨by have:=h.many;omega,fun i h0 hi=>⟨by have:=h.body i h0 hi;omega,by have:=h.few i;omega⟩,h.byte,fun i hi=>?_⟩;obtain⟨-,-,-,a,b,e,a1,a2,b1,b2,-⟩:=CW hs (y4 (Nat.succ_pos i) hi);unfold AW;rw[e];exact⟨rfl,⟨a1,a2⟩,⟨b1,b2⟩⟩
end Go.Proofs.YthdciapjllppjaaGreat
