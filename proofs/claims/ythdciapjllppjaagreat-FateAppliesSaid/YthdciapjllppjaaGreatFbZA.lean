/-
  A part of the proof: StrU, FtH.
-/
import Derived.Test.YthdciapjllppjaaGreatFbX
import Derived.Test.YthdciapjllppjaaGreatFbZ
set_option maxRecDepth 10000
set_option maxHeartbeats 8000000
set_option linter.unusedVariables false
set_option linter.unusedSectionVars false
set_option linter.unusedSimpArgs false
open Go.Proofs.Tryz (prog)
namespace Go.Proofs.YthdciapjllppjaaGreat
open Go.Xm
variable [av]
theorem Dd(A:List (List Int)):(A.map (il .u8)).length=A.length:=List.length_map ..
theorem De(A:List (List Int))(g:Nat):((gQ 0 A).map (·.self g)).length=A.length:=by rw[List.length_map,nD]
theorem Ht(A:List (List Int))(q:List Int)(g:Nat):(gQ 0 (A++[q])).map (·.self g)=(gQ 0 A).map (·.self g)++[.lsl g A.length 0 q.length q.length 0]:=by
 rw[wm,List.map_append,Nat.zero_add];rfl
theorem Hs(A:List (List Int))(q:List Int):(A++[q]).map (il .u8)=A.map (il .u8)++[il .u8 q]:=by
 rw[List.map_append];rfl
theorem zF{gs:List Gr}{l:List PX}{j:Nat}(h1:(l.getD j default).first=(gs.getD j default).first)(h2:(l.getD j default).n=(gs.getD j default).ms.length)(g:Nat):(oP (l.getD j default)).map (·.self g)=x6 (gs.getD j default).first (.lsl g (l.getD j default).k 0 (gs.getD j default).ms.length (gs.getD j default).ms.length 0):=by
 rw[<-h1,<-h2];rfl
abbrev Ae(A:List (List Int))(opn:Bool):aj := .cells ((gQ 0 A).map (·.self 1)) 32 opn false
theorem Af{τ : Nat->Nat}{HS:ah}{i:Nat}{ls:List Nat}{hs:ah}{A:List (List Int)}{opn:Bool}(h1 : τ 1=1){vs:List XC}(hi:HS[i]? = some (.cells vs 32 opn false))(hv:vs=(gQ 0 A).map (·.self 1))(r:af τ HS ls hs):af τ HS (i::ls) (Ae A opn::hs):=by
 subst hv;refine af.cons ?_ r;rw[hi];simp only[aj.aB];rw[rN (nE A 0 A.length (by omega)),h1]
theorem yh{τ : Nat->Nat}{HS:ah}{i:Nat}{ls:List Nat}{hs:ah}{A:List (List Int)}{opn:Bool}(hi:HS[i]? = some (Ae A opn))(h1 : τ 1=1)(r:af τ HS ls hs):af τ HS (i::ls) (Ae A opn::hs):=Af h1 hi rfl r
theorem LN{τ : Nat->Nat}{HS:ah}{i:Nat}{ls:List Nat}{hs:ah}{A B:List (List Int)}{q:List Int}{opn:Bool}(hB:A=B++[q])(hi:HS[i]? = some (.cells ((gQ 0 B).map (·.self 1)++[.lsl 1 B.length 0 q.length q.length 0]) 32 opn false))(h1 : τ 1=1)(r:af τ HS ls hs):af τ HS (i::ls) (Ae A opn::hs):=Af h1 hi (by rw[hB,Ht]) r
theorem ta{A:List (List Int)}{opn:Bool}{m:Nat}(hm:1<m):(Ae A opn).br m:=uX (nE A 0 A.length (by omega)) hm
abbrev M5(cp:oV)(n:Nat)(opn:Bool):Prop:=cp = .exact n\/(cp = .toEnd 1/\opn=true/\0<n)
theorem Ai{s:vR}(hs:jR s){L:List (List XC)}{k n:Nat}(hp:r6 L k s.ps)(hn:s.ps.length=n){ps:List (List Int)}(hps:fC s=ps){m:Nat}(hm:ps.length=m) :
 bm prog 12 [.agg (fh s.hd (.lsl 0 k 0 n n 0))] [.late L] (.tup [.one (.lsl 1 m 0 m m 0),.one (.int .i64 0)]) [.late L,.late (vY ps)]:=by
 subst hn hm hps;have hpcs:=hp;obtain⟨l,hl,hln,hall⟩:=hp;have hok:=hs.ok;have hmany:=hok.many;have hcr:=oE hok;have hdo:=hok.hd;have hraw:=hok.raw
 obtain⟨y,hy⟩:∃y,KF s.hd=y:=⟨_,rfl⟩
 have hyl:=DB s.hd;rw[hy]at hyl;have hpk:fC s=y::sg s.hd s.ps:=by rw[<-hy];rfl
 refine cO Tryz.func12 ?_;refine WX.ghost rfl ?_
 repeat' (first
  |(refine qz ?_;first
   |refine lI ?_ (hle:=(eo _ _).symm)
   |refine cl ?_ (hi:=by exact FX (i:=0) hok hpcs rfl rfl rfl)
   |refine t_ (cs:=gV s.hd) ?_ (hle:=by rw[eo];decide) (hc:=Ct _ _)
   |refine cl ?_ (hi:=by exact H6 hdo hraw hy rfl nL nA rfl))
  |refine gJ 5 ?_|refine mT 5 ?_|refine zz ?_|refine zx (fun _=>?_) (fun _=>?_)|fail)
 refine⟨?_⟩;refine WX.tU (L:=[]) (vs:=il .u8 y) 3 1 y.length (.toEnd 1) [(1,.one (.ptr 2 0)),(5,.one (.lsl 1 0 0 y.length y.length 0)),(6,.one (.int .i64 0))] [.late L,.late [il .u8 y],.cells (fh s.hd (.lsl 0 k 0 s.ps.length s.ps.length 0)) 36 false false,.dead] (ll .u8 y 0) (.inr ⟨1,rfl,Nat.one_pos,by rw[bH];omega⟩) (by exact rfl) (hv:=fk (ll .u8 y 0) 1) (hH:=by repeat' (first|exact a_.nil|refine a_.ghost ?_|refine a_.flat rfl ?_|refine a_.cells rfl (dR.same (jE (by simp[XC.lA]))) ?_|refine a_.cells rfl (dR.same (gL (by assumption) _ _)) ?_|refine a_.cells rfl (dR.same (by simp[XC.lA,cI,eY])) ?_|refine a_.dead ?_)) (hok:=(mE (objs:=by repeat' (first|exact aq.nil|refine aq.cons (bW (show 0<_ from Nat.le_of_ble_eq_true rfl)) ?_|refine aq.cons (ta (Nat.le_of_ble_eq_true rfl)) ?_|refine kz ?_)))) (h:=?_)
 repeat' (first
  |(refine qz ?_;first
   |refine vO (zs:=[.nils]) ?_
   |refine cl ?_ (hi:=by exact Ot (N:=5) rfl nA rfl)
   |refine ld (c := .lsl 0 k 0 s.ps.length s.ps.length 0) ?_ (hc:=yB _ _)
   |refine qw ?_
   |refine tZ ?_)
  |refine zz ?_|refine zx (fun _=>?_) (fun _=>?_)|fail)
 refine WX.bQ (σ:=Nat×oV×Bool) (fun t=>[(1,.one (.ptr 2 0)),(8,.one (.ptr 5 0)),(35,.one (.lsl 0 k 0 s.ps.length s.ps.length 0)),(36,.one (.int .i64 (s.ps.length:Nat))),(7,.one (.slice 4 0 (y::sg s.hd (s.ps.take t.1)).length t.2.1)),(37,.one (.int .i64 (t.1:Nat)))]) (fun t=>[.late L,.late ((y::sg s.hd (s.ps.take t.1)).map (il .u8)),.cells (fh s.hd (.lsl 0 k 0 s.ps.length s.ps.length 0)) 36 false false,.dead,Ae (y::sg s.hd (s.ps.take t.1)) t.2.2,eP 6 10 14,aU 7 8 9 cM,cL cM,cQ cM,cN cM,aU 11 12 13 cZ,cL cZ,cQ cZ,cN cZ,aU 15 16 17 cP,cL cP,cQ cP,cN cP]) (fun t=>t.1<=s.ps.length/\M5 t.2.1 (y::sg s.hd (s.ps.take t.1)).length t.2.2/\(y::sg s.hd (s.ps.take t.1)).length<=1+9*t.1) (fun t=>s.ps.length-t.1) (0,.exact 1,false) ⟨Nat.zero_le _,.inl rfl,Nat.le_refl _⟩ (fun t _=>(mE (objs:=by repeat' (first|exact aq.nil|refine aq.cons (bW (show 0<_ from Nat.le_of_ble_eq_true rfl)) ?_|refine aq.cons (ta (Nat.le_of_ble_eq_true rfl)) ?_|refine kz ?_)))) (bq [0,1,2,3,4,5,6,7,8,9,10,11,12,13,14,15,16,17] (obj:=by(repeat' (first|exact af.nil|refine aN rfl rfl ?_|refine yh rfl rfl ?_|refine oz ?_));first|done|fail)) ?_;intro t ⟨ht,hcap,hfew⟩ ih
 obtain⟨A,hA⟩:∃A,y::sg s.hd (s.ps.take t.1)=A:=⟨_,rfl⟩
 rw[hA]at hcap hfew ⊢
 by_cases hlt:t.1<s.ps.length
 ·obtain⟨a1,a2,a3⟩:=hall t.1 hlt;have hpo:=hok.pics t.1 hlt;have hsf:=uD (ps:=s.ps) a1 a2 0;have hgk:=fun g hg=>Nm hs hlt (g:=g) hg
  have hnx0:y::sg s.hd (s.ps.take (t.1+1))=A++Oz s.hd (s.ps.getD t.1 default):=by
   rw[xh s.ps hlt,<-hA];unfold sg;rw[List.flatMap_append,List.flatMap_singleton];rfl
  obtain⟨p,hpe⟩:∃p,s.ps.getD t.1 default=p:=⟨_,rfl⟩
  obtain⟨a,hae⟩:∃a,l.getD t.1 default=a:=⟨_,rfl⟩
  have hae':l.getD (t.1:Int).toNat default=a:=hae;rw[hpe]at a3 hpo hsf hgk hnx0;rw[hae]at a3 hsf;have hfw:=hpo.few;have hph:=hpo.ph;have hnx:y::sg s.hd (s.ps.take (t.1+1))=A++p.gs.map (DO s.hd p.ph):=hnx0
  obtain⟨P,hP⟩:∃P,p.ph=P:=⟨_,rfl⟩
  rw[hP]at hph hsf hgk hnx;have hsf:(m_ (l.getD (t.1:Int).toNat default)).map (·.self 0)=sf P (.lsl 0 a.k 0 p.gs.length p.gs.length 0):=by rw[hae'];exact hsf
  have hlt2:t.1<l.length:=by omega
  obtain⟨gl,gl1,gl2,gl3⟩:=a3;have hB0:A++(p.gs.take 0).map (DO s.hd P)=A:=by rw[List.take_zero];exact List.append_nil _
  repeat' (first
   |(refine qz ?_;first
    |refine qw ?_
    |refine tZ ?_
    |refine nC (zs:=sf ⟨0,false,false,0⟩ .nils) (hz:=rZ) ?_
    |refine kD (enc:=m_) ?_ hl hlt2 (hc':=hsf))
   |refine zz ?_|refine zx (fun _=>?_) (fun _=>?_)|fail)
  rw[<-hB0]at hcap ⊢;refine WX.bQ (σ:=Nat×oV×Bool) (fun u=>[(1,.one (.ptr 2 0)),(8,.one (.ptr 5 0)),(35,.one (.lsl 0 k 0 s.ps.length s.ps.length 0)),(36,.one (.int .i64 (s.ps.length:Nat))),(37,.one (.int .i64 (t.1:Nat))),(10,.one (.ptr 18 0)),(42,.one (.lsl 0 a.k 0 p.gs.length p.gs.length 0)),(43,.one (.int .i64 (p.gs.length:Nat))),(7,.one (.slice 4 0 (A++(p.gs.take u.1).map (DO s.hd P)).length u.2.1)),(44,.one (.int .i64 (u.1:Nat)))]) (fun u=>[.late L,.late ((A++(p.gs.take u.1).map (DO s.hd P)).map (il .u8)),.cells (fh s.hd (.lsl 0 k 0 s.ps.length s.ps.length 0)) 36 false false,.dead,Ae (A++(p.gs.take u.1).map (DO s.hd P)) u.2.2,eP 6 10 14,aU 7 8 9 cM,cL cM,cQ cM,cN cM,aU 11 12 13 cZ,cL cZ,cQ cZ,cN cZ,aU 15 16 17 cP,cL cP,cQ cP,cN cP,.cells (sf P (.lsl 0 a.k 0 p.gs.length p.gs.length 0)) 87 false false]) (fun u=>u.1<=p.gs.length/\M5 u.2.1 (A++(p.gs.take u.1).map (DO s.hd P)).length u.2.2) (fun u=>p.gs.length-u.1) (0,t.2) ⟨Nat.zero_le _,hcap⟩ (fun u _=>(mE (objs:=by repeat' (first|exact aq.nil|refine aq.cons (bW (show 0<_ from Nat.le_of_ble_eq_true rfl)) ?_|refine aq.cons (ta (Nat.le_of_ble_eq_true rfl)) ?_|refine kz ?_)))) (bq [0,1,2,3,4,5,6,7,8,9,10,11,12,13,14,15,16,17,18] (obj:=by(repeat' (first|exact af.nil|refine aN rfl rfl ?_|refine yh rfl rfl ?_|refine oz ?_));first|done|fail)) ?_;intro u ⟨hu,hcap2⟩ ih2
  have hBl:(A++(p.gs.take u.1).map (DO s.hd P)).length=A.length+u.1:=by
   rw[List.length_append,List.length_map,List.length_take,Nat.min_eq_left hu]
  obtain⟨B,hB⟩:∃B,A++(p.gs.take u.1).map (DO s.hd P)=B:=⟨_,rfl⟩
  rw[hB]at hBl hcap2 ⊢
  by_cases hlt3:u.1<p.gs.length
  ·obtain⟨g1,g2,g3⟩:=gl3 u.1 hlt3;have hgf:=zF (gs:=p.gs) g1 g2 0
   have hmem:p.gs.getD u.1 default∈p.gs:=by
    rw[List.getD_eq_getElem?_getD,List.getElem?_eq_getElem hlt3,Option.getD_some];exact List.getElem_mem hlt3
   obtain⟨hT,hpO,hba,hbb,hla,hlb⟩:=hgk _ hmem
   have hB1:A++(p.gs.take (u.1+1)).map (DO s.hd P)=B++[DO s.hd P (p.gs.getD u.1 default)]:=by
    rw[xh p.gs hlt3,List.map_append,<-List.append_assoc,hB];rfl
   obtain⟨g,hge⟩:∃g,p.gs.getD u.1 default=g:=⟨_,rfl⟩
   obtain⟨b,hbe⟩:∃b,gl.getD u.1 default=b:=⟨_,rfl⟩
   have hbe':gl.getD (u.1:Int).toNat default=b:=hbe;rw[hge]at g3 hgf hT hpO hba hbb hla hlb hB1;rw[hbe]at g3 hgf;have hgf:(oP (gl.getD (u.1:Int).toNat default)).map (·.self 0)=x6 g.first (.lsl 0 b.k 0 g.ms.length g.ms.length 0):=by rw[hbe'];exact hgf
   have hlt4:u.1<gl.length:=by omega
   obtain⟨q,hq⟩:∃q,DO s.hd P g=q:=⟨_,rfl⟩
   have hq2:kN (Rr s.hd P g) (gd s.hd P g).1 (gd s.hd P g).2=q:=hq;have hpH:mU P g.first (g.ms.length:Nat) ((gd s.hd P g).1.length:Nat) ((gd s.hd P g).2.length:Nat) (gu (gd s.hd P g).1) (gu (gd s.hd P g).2) (gu (wr (pn P g.first (g.ms.length:Nat) ((gd s.hd P g).1.length:Nat) ((gd s.hd P g).2.length:Nat) (gu (gd s.hd P g).1) (gu (gd s.hd P g).2))))=Rr s.hd P g:=rfl
   obtain⟨pa,hpa⟩:∃x,(gd s.hd P g).1=x:=⟨_,rfl⟩
   obtain⟨pb,hpb⟩:∃x,(gd s.hd P g).2=x:=⟨_,rfl⟩
   have hpO:yi s.hd P g.ms g.first = .inr (pa,pb):=by rw[hpO,<-hpa,<-hpb]
   rw[hpa,hpb]at hq2 hpH;rw[hpa]at hba hla;rw[hpb]at hbb hlb;rw[hq]at hB1;have hT1:=hT.pos;have hT2:=hT.many;have hT3:=hT.all
   have hpk2:GZ P g.first (g.ms.length:Nat) pa.length pb.length (s.hd.cols*s.hd.rows):=⟨hph,hT1,by omega,by omega,by omega,hla,hlb⟩
   have hbl0:∀c∈gQ 0 B,c.iF B.length=true:=nE B 0 B.length (by omega);have hql:q.length=21+pa.length+pb.length:=by rw[<-hq2,wW]
   repeat' (first
    |(refine qz ?_;first
     |refine qw ?_
     |refine tZ ?_
     |refine nC (zs:=x6 0 .nils) (hz:=vM) ?_
     |refine kD (enc:=oP) ?_ gl1 hlt4 (hc':=hgf)
     |refine t_ (cs:=gV s.hd) ?_ (hle:=by rw[eo];decide) (hc:=Ct _ _)
     |refine t_ (cs:=wY P) ?_ (hle:=by decide) (hc:=by exact rfl)
     |refine ld (c := .int .i64 s.hd.cols) ?_
     |refine ld (c := .int .i64 s.hd.rows) ?_
     |refine cl ?_ (hi:=by exact LY hT g3 hpO rfl (K:=5) (i:=0) rfl rfl (by decide) nL nA rfl)
     |refine cl ?_ (hi:=by exact Cb hpk2 hba hbb hpH hq2 rfl (i:=20) (j:=21) rfl rfl (by decide) nL nA rfl))
    |refine gJ 19 ?_|refine mT 19 ?_|refine zz ?_|refine zx (fun _=>?_) (fun _=>?_)|fail)
   refine⟨?_⟩;refine WX.tU (L:=B.map (il .u8)) (vs:=il .u8 q) 22 1 q.length (.toEnd 1) [(1,.one (.ptr 2 0)),(8,.one (.ptr 5 0)),(35,.one (.lsl 0 k 0 s.ps.length s.ps.length 0)),(36,.one (.int .i64 (s.ps.length:Nat))),(37,.one (.int .i64 (t.1:Nat))),(10,.one (.ptr 18 0)),(42,.one (.lsl 0 a.k 0 p.gs.length p.gs.length 0)),(43,.one (.int .i64 (p.gs.length:Nat))),(7,.one (.slice 4 0 B.length u.2.1)),(44,.one (.int .i64 (u.1:Nat))),(15,.one (.int .i64 0)),(16,.one (.lsl 1 B.length 0 q.length q.length 0))] [.late L,.late (B.map (il .u8)++[il .u8 q]),.cells (fh s.hd (.lsl 0 k 0 s.ps.length s.ps.length 0)) 36 false false,.dead,Ae B u.2.2,eP 6 10 14,aU 7 8 9 cM,cL cM,cQ cM,cN cM,aU 11 12 13 cZ,cL cZ,cQ cZ,cN cZ,aU 15 16 17 cP,cL cP,cQ cP,cN cP,.cells (sf P (.lsl 0 a.k 0 p.gs.length p.gs.length 0)) 87 false false,.dead,.dead,.dead,.dead] (ll .u8 q B.length) (.inr ⟨1,rfl,Nat.one_pos,by rw[bH];omega⟩) (Dd B) (hv:=fk (ll .u8 q 0) 1) (hH:=by repeat' (first|exact a_.nil|refine a_.ghost ?_|refine a_.flat rfl ?_|refine a_.cells rfl (dR.same (jE (by simp[XC.lA]))) ?_|refine a_.cells rfl (dR.same (gL (by assumption) _ _)) ?_|refine a_.cells rfl (dR.same (by simp[XC.lA,cI,eY])) ?_|refine a_.dead ?_)) (hok:=(mE (objs:=by repeat' (first|exact aq.nil|refine aq.cons (bW (show 0<_ from Nat.le_of_ble_eq_true rfl)) ?_|refine aq.cons (ta (Nat.le_of_ble_eq_true rfl)) ?_|refine kz ?_)))) (h:=?_)
   repeat' (first
    |(refine qz ?_;first
     |refine vO (zs:=[.nils]) ?_
     |refine SL 4 B.length hcap2 ?_ ?_ (hn:=by rw[De,Nat.mul_one]))
    |refine zz ?_|refine zx (fun _=>?_) (fun _=>?_)|fail)
   all_goals exact ih2 (u.1+1,.toEnd 1,true) _ _ _ (bq [0,1,2,3,24,5,6,7,8,9,10,11,12,13,14,15,16,17,18] (obj:=by(repeat' (first|exact af.nil|refine af.flat (by rw[hB1,Hs];rfl) ?_|refine aN rfl rfl ?_|refine LN hB1 rfl rfl ?_|refine oz ?_));first|done|fail) (reg:=by(repeat' (first|exact ae.nil|refine ae.cons (by rw[hB1,List.length_append];rfl) ?_|refine rz ?_|refine ae.sl rfl (by assumption) rfl ?_));first|done|fail)) ⟨by show u.1+1<=_;omega,.inr ⟨rfl,rfl,by rw[hB1,List.length_append];exact Nat.succ_pos _⟩⟩ (by show _-(u.1+1)<_;omega)
  ·have e0:u.1=p.gs.length:=by omega
   rw[e0,List.take_length,<-hnx]at hB;clear ih2;subst hB
   repeat' (first
    |(refine qz ?_;first
     |refine qw ?_)
    |refine zz ?_|refine zx (fun _=>?_) (fun _=>?_)|fail)
   exact ih (t.1+1,u.2) _ _ _ (bq [0,1,2,3,4,5,6,7,8,9,10,11,12,13,14,15,16,17] (obj:=by(repeat' (first|exact af.nil|refine aN rfl rfl ?_|refine yh rfl rfl ?_|refine oz ?_));first|done|fail)) ⟨by show t.1+1<=_;omega,hcap2,by rw[hBl];show _<=1+9*(t.1+1);omega⟩ (by show _-(t.1+1)<_;omega)
 ·have e0:t.1=s.ps.length:=by omega
  rw[e0,List.take_length,<-hpk]at hA;clear ih;subst hA
  obtain⟨A,hA⟩:∃A,fC s=A:=⟨_,rfl⟩
  rw[hA]at hcap hfew ⊢;have hbl0:∀c∈gQ 0 A,c.iF A.length=true:=nE A 0 A.length (by omega)
  have hcp:(∃c,t.2.1 = .exact c/\A.length<=c)\/∃z,t.2.1 = .toEnd z/\0<z/\A.length*z<=((gQ 0 A).map (·.self 1)).length:=by
   rcases hcap with h|⟨h,_⟩
   ·exact .inl ⟨_,h,Nat.le_refl _⟩
   ·exact .inr ⟨1,h,Nat.one_pos,by rw[De];omega⟩
  repeat' (first
   |(refine qz ?_;first
    |refine qw ?_)
   |refine gJ 24 ?_|refine mT 24 ?_|refine zz ?_|refine zx (fun _=>?_) (fun _=>?_)|fail)
  refine⟨?_⟩;refine WX.tU (L:=A.map (il .u8)) (vs:=gQ 0 A) 4 1 A.length t.2.1 [(7,.one (.lsl 1 A.length 0 A.length A.length 0))] [.late L,.late (A.map (il .u8)++[gQ 0 A]),.dead,.dead,.dead,.dead,.dead,.dead,.dead,.dead,.dead,.dead,.dead,.dead,.dead,.dead,.dead,.dead] hbl0 hcp (Dd A) (hH:=by repeat' (first|exact a_.nil|refine a_.ghost ?_|refine a_.flat rfl ?_|refine a_.dead ?_)) (h:=?_)
  repeat' (first|refine zz ?_|refine zx (fun _=>?_) (fun _=>?_)|fail)
  show aE _ _ _ _ _ _ _ _;refine kV [0,1] ?_;rfl
theorem B_{s:vR}(hs:jR s){L:List (List XC)}{k n i:Nat}(hp:r6 L k s.ps)(hn:s.ps.length=n){ps:List (List Int)}(hps:fC s=ps){m:Nat}(hm:ps.length=m){HS:ah}(hi:HS[i]? = some (.late L)){N:Nat}(hN:HS.length=N){HS':ah}(hh:HS++[.late (vY ps)]=HS')(hbd:Nat.blt HS'.length Mem.bound=true) :
 aA.Sound prog ⟨12,[.agg (fh s.hd (.lsl i k 0 n n 0))],HS,.tup [.one (.lsl N m 0 m m 0),.one (.int .i64 0)],HS',[i]⟩:=by
 subst hN;refine bp [i] [i] 1 (Ai hs hp hn hps hm) (by simp) (.flat hi .nil) (.flat .nil) (.flat (.flat .nil)) rfl (.cons (rQ (show 0<_ from Nat.le_of_ble_eq_true rfl)) .nil) (.cons (oD rfl) .nil) (LM (show 1<2 by omega) trivial) rfl (.flat (.flat .nil)) rfl rfl (by simp only[bC];rw[aC hi];exact hh) hbd (.inl rfl)
theorem Ha{m:Mb}{b:Bool}(h:alone m=b){HS:ah}(hb:Nat.blt HS.length Mem.bound=true):aA.Sound prog ⟨42,[.agg (mC m)],HS,.one (.bool b),HS,[]⟩:=by
 subst h;exact p7 hb
theorem E9{c r:Int}{L:List (List XC)}{k n:Nat}(mb:Int){m:Mb}(hm:alone m=true) :
 bm prog 41 [.agg (oY c r (.lsl 0 k 0 n n 0)),.one (.int .i64 mb),.agg (mC m)] [.late L] (.one (.bool false)) [.late L]:=by
 refine cO Tryz.func41 ?_
 repeat' (first
  |(refine qz ?_;first
   |refine lI ?_ (hle:=by rw[aY])
   |refine cl ?_ (hi:=by exact Ha hm rfl))
  |refine zz ?_|refine zx (fun _=>?_) (fun _=>?_)|fail)
 show aE _ _ _ _ _ _ _ _;refine kV [0] ?_;rfl
theorem H2{c r:Int}{L:List (List XC)}{k n:Nat}{mb:Int}{m:Mb}(hm:alone m=true){HS:ah}{i:Nat}(hi:HS[i]? = some (.late L))(hbd:Nat.blt HS.length Mem.bound=true) :
 aA.Sound prog ⟨41,[.agg (oY c r (.lsl i k 0 n n 0)),.one (.int .i64 mb),.agg (mC m)],HS,.one (.bool false),HS,[]⟩:=
 fV [i] (E9 (L:=L) (k:=k) (n:=n) mb hm) (by simp) (.flat hi .nil) (.flat .nil) (.cons (Dr (show 0<1 by omega)) (.flat (.flat .nil))) (.cons rfl (.flat (.flat .nil))) trivial rfl hbd rfl
def vV(fT:Int->Mb->Bool)(first:Int)(ms:List Mb)(m:List Bool):Nat->List Bool
 | 0=>m
 | k+1=>(vV fT first ms m k).set (first.toNat+k) (fT (first+(k:Nat)) (ms.getD k default))
theorem tK(fT:Int->Mb->Bool)(first:Int)(ms:List Mb)(m:List Bool):∀k,(vV fT first ms m k).length=m.length
 | 0=>rfl
 | k+1=>by rw[vV,List.length_set,tK fT first ms m k]
structure PO where
 m:List Bool
 at_:Nat
 last:Int
def rl(fT:Int->Mb->Bool)(fs:List Fa)(sz:List Int)(i:Nat)(gs:List Gr)(x0:PO):Nat->PO
 | 0=>x0
 | j+1=>⟨if iJ (fs.getD (rl fT fs sz i gs x0 j).at_ default) (sz.getD (rl fT fs sz i gs x0 j).at_ 0)=true then(rl fT fs sz i gs x0 j).m else vV fT (gs.getD j default).first (gs.getD j default).ms (rl fT fs sz i gs x0 j).m (gs.getD j default).ms.length,(rl fT fs sz i gs x0 j).at_+1,if(fs.getD (rl fT fs sz i gs x0 j).at_ default).lost=true then(rl fT fs sz i gs x0 j).last else(i:Nat)⟩
structure RC where
 out:List (List Bool)
 jb:List Bool
 at_:Nat
 last:Int
def iv(fT:List Bool->Int->Mb->Bool)(fs:List Fa)(sz:List Int)(n:Nat)(ps:List Pc):Nat->RC
 | 0=>⟨[],List.replicate n true,0,-1⟩
 | i+1=>⟨(iv fT fs sz n ps i).out++[(rl (fT (iv fT fs sz n ps i).jb) fs sz i (ps.getD i default).gs ⟨List.replicate n true,(iv fT fs sz n ps i).at_,(iv fT fs sz n ps i).last⟩ (ps.getD i default).gs.length).m],(rl (fT (iv fT fs sz n ps i).jb) fs sz i (ps.getD i default).gs ⟨List.replicate n true,(iv fT fs sz n ps i).at_,(iv fT fs sz n ps i).last⟩ (ps.getD i default).gs.length).m,(rl (fT (iv fT fs sz n ps i).jb) fs sz i (ps.getD i default).gs ⟨List.replicate n true,(iv fT fs sz n ps i).at_,(iv fT fs sz n ps i).last⟩ (ps.getD i default).gs.length).at_,(rl (fT (iv fT fs sz n ps i).jb) fs sz i (ps.getD i default).gs ⟨List.replicate n true,(iv fT fs sz n ps i).at_,(iv fT fs sz n ps i).last⟩ (ps.getD i default).gs.length).last⟩
theorem BE(fT:Int->Mb->Bool)(fs:List Fa)(sz:List Int)(i:Nat)(gs:List Gr)(x0:PO):∀j,(rl fT fs sz i gs x0 j).at_=x0.at_+j
 | 0=>rfl
 | j+1=>by rw[rl];show _+1=_;rw[BE fT fs sz i gs x0 j];omega
theorem sU(fT:Int->Mb->Bool)(fs:List Fa)(sz:List Int)(i:Nat)(gs:List Gr)(x0:PO):∀j,(rl fT fs sz i gs x0 j).m.length=x0.m.length
 | 0=>rfl
 | j+1=>by
   rw[rl];show(if _ then _ else _:List Bool).length=_;split
   ·exact sU fT fs sz i gs x0 j
   ·rw[tK,sU fT fs sz i gs x0 j]
theorem tJ(fT:Int->Mb->Bool)(fs:List Fa)(sz:List Int)(i:Nat)(gs:List Gr)(x0:PO)(h0 : -1<=x0.last/\x0.last<=i):∀j,-1<=(rl fT fs sz i gs x0 j).last/\(rl fT fs sz i gs x0 j).last<=i
 | 0=>h0
 | j+1=>by
   have:=tJ fT fs sz i gs x0 h0 j;rw[rl];show -1<=(if _ then _ else _:Int)/\(if _ then _ else _:Int)<=_;split<;>omega
theorem xS(fT:List Bool->Int->Mb->Bool)(fs:List Fa)(sz:List Int)(n:Nat)(ps:List Pc):∀i,(iv fT fs sz n ps i).out.length=i/\(iv fT fs sz n ps i).jb.length=n/\(-1<=(iv fT fs sz n ps i).last/\(iv fT fs sz n ps i).last<(i:Nat))
 | 0=>⟨rfl,List.length_replicate,by show(-1:Int) <= -1/\(-1:Int)<((0:Nat):Int);omega⟩
 | i+1=>by
   obtain⟨h1,h2,h3,h4⟩:=xS fT fs sz n ps i;have hl:=tJ (fT (iv fT fs sz n ps i).jb) fs sz i (ps.getD i default).gs ⟨List.replicate n true,(iv fT fs sz n ps i).at_,(iv fT fs sz n ps i).last⟩ ⟨h3,by show(iv fT fs sz n ps i).last<=_;omega⟩ (ps.getD i default).gs.length;refine⟨?_,?_,?_⟩
   ·rw[iv];show(_++[_]).length=_;rw[List.length_append,h1];rfl
   ·rw[iv];show(rl _ _ _ _ _ _ _).m.length=_;rw[sU];exact List.length_replicate
   ·rw[iv];show -1<=(rl _ _ _ _ _ _ _).last/\(rl _ _ _ _ _ _ _).last<_;omega
theorem ux{b:Bool}{c:XC}{n:Nat}{e:TypeId}{x y:Bool}(h:c.ok n):(aj.cells [.bool b,c] e x y).br n:=Fu h
theorem K3(fT:List Bool->Int->Mb->Bool)(fs:List Fa)(sz:List Int)(n:Nat)(ps:List Pc):∀i,(bl (List.replicate n true)::(iv fT fs sz n ps i).out.map bl)[i]? = some (bl (iv fT fs sz n ps i).jb)
 | 0=>rfl
 | i+1=>by
   have h1:=(xS fT fs sz n ps i).1;rw[List.getElem?_cons_succ,iv];show((_++[_]).map bl)[i]? = _;rw[List.map_append,List.getElem?_append_right (by rw[List.length_map,h1];exact Nat.le_refl _),List.length_map,h1,Nat.sub_self];rfl
theorem dW{τ : Nat->Nat}{HS:ah}{i:Nat}{ls:List Nat}{hs:ah}{L:List (List XC)}{g n:Nat}{b x y:Bool}{c:XC}{vs:List XC}{e:TypeId}(hc:da L g c vs n)(hg : τ g=g)(hi:HS[i]? = some (.cells [.bool b,c] e x y))(r:af τ HS ls hs):af τ HS (i::ls) (.cells [.bool b,c] e x y::hs):=by
 refine af.cons ?_ r;rw[hi];simp only[aj.aB,List.map_cons,List.map_nil,hc.id hg];rfl
theorem xN(l:List Bool)(m:Nat):∀c∈bl l,c.iF m=true:=fun c hc=>by
 obtain⟨b,_,rfl⟩:=List.mem_map.1 hc;rfl
def r8(c r:Int)(n:Nat):Nat->List XC
 | 0=>[]
 | i+1=>r8 c r n i++oY c r (.lsl 0 (i+1) 0 n n 0)
theorem xV(c r:Int)(n:Nat):∀i,(r8 c r n i).length=i*3
 | 0=>rfl
 | i+1=>by rw[r8,List.length_append,xV c r n i];show i*3+3=_;omega
theorem cS(c r:Int)(n:Nat):∀i,∀x∈r8 c r n i,x.iF (i+1)=true
 | 0=>fun x h=>by cases h
 | i + 1=>fun x h=>by
   rw[r8]at h
   rcases List.mem_append.1 h with h|h
   ·exact XC.nQ (by omega) (cS c r n i x h)
   ·simp only[List.mem_cons,List.not_mem_nil,or_false]at h
    rcases h with rfl|rfl|rfl
    ·rfl
    ·rfl
    ·simp only[XC.iF,Nat.blt_eq];omega
theorem PN:aI prog 75 (oY 0 0 .nils):=by
 show aI prog 75 [.int .i64 0,.int .i64 0,.nils]
 infer_instance
theorem zq{s : vR}(hs:wh s){L F:List (List XC)}{k np n:Nat}(hp:r6 L k s.ps)(hnp:s.ps.length=np)(hn:s.hd.cols*s.hd.rows=(n:Nat)){sz:List Int}{ob1:aj}(hr1:RO ob1 .i64 sz){cp:oV}(hsl:sz.length<=1000){l:List sC}{fs:List Fa}(hf:kZ F l fs){d:XC}(hd:da F 2 d (fl i4 l) fs.length)(hfl:∀i,(fs.getD i default).mask.length<=1000000)(hfn:fs.length<=1000)
 {Q:Mb->Prop}(fT:List Bool->Int->Mb->Bool) (hFrom:∀(jb:List Bool) (mb:Int) (m:Mb),jb.length=n->0<=mb/\mb<n->Q m->iU m->∀(LL:List (List XC)) (kk:Nat),LL[kk]? = some (bl jb)->∀(HS:ah) (i:Nat),HS[i]? = some (.late LL)->Nat.blt HS.length Mem.bound=true->aA.Sound prog ⟨41,[.agg (oY s.hd.cols s.hd.rows (.lsl i kk 0 n n 0)),.one (.int .i64 mb),.agg (mC m)],HS,.one (.bool (fT jb mb m)),HS,[]⟩)
 (hQ:∀i j,i<s.ps.length->j<(s.ps.getD i default).gs.length->iJ (fs.getD ((iv fT fs sz n s.ps i).at_+j) default) (sz.getD ((iv fT fs sz n s.ps i).at_+j) 0)=false->∀m∈((s.ps.getD i default).gs.getD j default).ms,Q m) {x:RC}(hx:iv fT fs sz n s.ps np=x) :
 bm prog 21 [.agg (fh s.hd (.lsl 0 k 0 np np 0)),.one (.slice 1 0 sz.length cp),.one d] [.late L,ob1,.late F] (.one (.lsl 3 (np+1) 0 (x.last+1).toNat np 0)) [.late L,ob1,.late F,.late (bl (List.replicate n true)::x.out.map bl++[r8 s.hd.cols s.hd.rows n np])]:=by
 have hfo:=hr1.flat;have hmany:=hs.many;have hcr:=oE hs;obtain⟨c0,c1⟩:=hs.cols;obtain⟨r0,r1⟩:=hs.rows;have hc8:1<=s.hd.cols/\s.hd.cols<=8:=by omega
 have hr8:1<=s.hd.rows/\s.hd.rows<=8:=by omega
 have hn9:1<=n/\n<=9:=by omega
 have hdok:∀m,d.ok (m+3):=fun m=>hd.ok (by omega)
 obtain⟨pl,hpl,hpll,hpall⟩:=hp
 have hatA:∀i,i<=np->(iv fT fs sz n s.ps i).at_<=9*i:=fun i=>by
  induction i with
  | zero=>exact fun _=>Nat.le_refl _
  | succ i ih=>
    intro h;have:=ih (by omega);have hw:=(hs.pics i (by omega)).few;show(rl _ _ _ _ _ _ _).at_<=_;rw[BE];show(iv fT fs sz n s.ps i).at_+_<=_;omega
 refine cO Tryz.func21 ?_;refine WX.ghost rfl ?_;refine WX.cj rfl ?_
 repeat' (first
  |(refine qz ?_;first
   |refine ld (c := .int .i64 s.hd.cols) ?_
   |refine ld (c := .int .i64 s.hd.rows) ?_
   |refine cl ?_ (hi:=by exact Ds hc8 hr8 hn (by omega) rfl nL nA rfl))
  |refine gJ 3 ?_|refine zz ?_|refine zx (fun _=>?_) (fun _=>?_)|fail)
 refine⟨?_⟩
 refine WX.tU (L:=[]) (vs:=bl (List.replicate n true)) (us:=bl (List.replicate n true)) 6 3 n (.exact n) [(1,.one (.slice 1 0 sz.length cp)),(2,.one d),(3,.one (.ptr 5 0)),(7,.one .nils),(8,.one (.ptr 7 0))] [.late L,ob1,.late F,.late [bl (List.replicate n true)],.dead,.cells (fh s.hd (.lsl 0 k 0 np np 0)) 36 false false,.dead,.cells (oY s.hd.cols s.hd.rows (.lsl 3 0 0 n n 0)) 75 false false] (xN _ 0) (.inl ⟨n,rfl,Nat.le_refl _⟩) (by exact rfl) (hv:=fk (xN _ 0) 3) (hH:=by
  repeat' (first|exact a_.nil|refine a_.ghost ?_|refine a_.flat rfl ?_|refine a_.cells rfl (dR.same (jE (by simp[XC.lA]))) ?_|refine a_.cells rfl (dR.cons (.same trivial) (.cons (.same trivial) (.cons .zE (.same (fun _ h=>nomatch h))))) ?_|refine a_.dead ?_)) (hR:=by
  repeat' (first|exact du.nil|refine du.flat rfl ?_|refine du.one rfl (iT.same (da.lA (by assumption) (by decide))) ?_|refine du.one rfl (iT.same (by first|trivial|(simp[XC.lA];done))) ?_)) (hok:=(stM (objs:=by repeat' (first|exact aq.nil|refine aq.flat ?_|refine aq.cons (bW (show 0<_ from Nat.le_of_ble_eq_true rfl)) ?_|refine aq.cons (jf (eX (cS _ _ _ _) (Nat.le_of_ble_eq_true rfl))) ?_|refine aq.cons trivial ?_|refine aq.cons (by first|(simp[aj.br,XC.ok];done)|(simp[aj.br,XC.ok, *];done)) ?_)))) (h:=?_)
 repeat' (first
  |(refine qz ?_;first
   |refine ld (c := .lsl 0 k 0 np np 0) ?_ (hc:=yB _ _)
   |refine qw ?_)
  |refine zz ?_|refine zx (fun _=>?_) (fun _=>?_)|fail)
 refine WX.bQ (σ:=Nat) (fun i=>[(1,.one (.slice 1 0 sz.length cp)),(2,.one d),(3,.one (.ptr 5 0)),(8,.one (.ptr 7 0)),(28,.one (.lsl 0 k 0 np np 0)),(29,.one (.int .i64 (np:Nat))),(7,ee 4 i 3),(9,.one (.int .i64 ((iv fT fs sz n s.ps i).at_:Nat))),(10,.one (.int .i64 (iv fT fs sz n s.ps i).last)),(30,.one (.int .i64 (i:Nat)))]) (fun i=>[.late L,ob1,.late F,.late (bl (List.replicate n true)::(iv fT fs sz n s.ps i).out.map bl),bz 75 ((r8 s.hd.cols s.hd.rows n i).map (·.self 3)),.cells (fh s.hd (.lsl 0 k 0 np np 0)) 36 false false,.dead,.cells (oY s.hd.cols s.hd.rows (.lsl 3 i 0 n n 0)) 75 false false]) (fun i=>i<=np) (fun i=>np-i) 0 (Nat.zero_le _) (fun i _=>(stM (objs:=by repeat' (first|exact aq.nil|refine aq.flat ?_|refine aq.cons (bW (show 0<_ from Nat.le_of_ble_eq_true rfl)) ?_|refine aq.cons (jf (eX (cS _ _ _ _) (Nat.le_of_ble_eq_true rfl))) ?_|refine aq.cons trivial ?_|refine aq.cons (by first|(simp[aj.br,XC.ok];done)|(simp[aj.br,XC.ok, *];done)) ?_)))) (bq [0,1,2,3,4,5,6,7] (obj:=by(repeat' (first|exact af.nil|refine aN rfl rfl ?_|refine dM (cS _ _ _ _) rfl rfl ?_|refine oz ?_));first|done|fail) (reg:=by(repeat' (first|exact ae.nil|refine ae.ia rfl (by assumption) rfl ?_|refine rz ?_|refine ae.sl rfl (by assumption) rfl ?_));first|done|fail)) ?_;intro i hi ih;obtain⟨h1,h2,h3,h4⟩:=xS fT fs sz n s.ps i;have hQi:=hQ i;have hnx:iv fT fs sz n s.ps (i+1)=⟨(iv fT fs sz n s.ps i).out++[(rl (fT (iv fT fs sz n s.ps i).jb) fs sz i (s.ps.getD i default).gs ⟨List.replicate n true,(iv fT fs sz n s.ps i).at_,(iv fT fs sz n s.ps i).last⟩ (s.ps.getD i default).gs.length).m],(rl (fT (iv fT fs sz n s.ps i).jb) fs sz i (s.ps.getD i default).gs ⟨List.replicate n true,(iv fT fs sz n s.ps i).at_,(iv fT fs sz n s.ps i).last⟩ (s.ps.getD i default).gs.length).m,(rl (fT (iv fT fs sz n s.ps i).jb) fs sz i (s.ps.getD i default).gs ⟨List.replicate n true,(iv fT fs sz n s.ps i).at_,(iv fT fs sz n s.ps i).last⟩ (s.ps.getD i default).gs.length).at_,(rl (fT (iv fT fs sz n s.ps i).jb) fs sz i (s.ps.getD i default).gs ⟨List.replicate n true,(iv fT fs sz n s.ps i).at_,(iv fT fs sz n s.ps i).last⟩ (s.ps.getD i default).gs.length).last⟩:=rfl;have hold:(bl (List.replicate n true)::(iv fT fs sz n s.ps i).out.map bl)[i]? = some (bl (iv fT fs sz n s.ps i).jb):=K3 ..;have hatB:=hatA i hi
 obtain⟨y,hy⟩:∃y,iv fT fs sz n s.ps i=y:=⟨_,rfl⟩
 rw[hy]at hatB h1 h2 h3 h4 hQi hnx hold ⊢;obtain⟨out,jb,at0,last0⟩:=y;have h1:out.length=i:=h1;have h2:jb.length=n:=h2;have h3 : -1<=last0:=h3;have h4:last0<(i:Nat):=h4
 by_cases hlt:i<np
 ·have hlt' : i<s.ps.length:=by omega
  obtain⟨a1,a2,a3⟩:=hpall i hlt';have hsf:=uD (ps:=s.ps) a1 a2 0;have hpo:=hs.pics i hlt';have hQi:=fun j=>hQi j hlt'
  obtain⟨p,hpe⟩:∃p,s.ps.getD i default=p:=⟨_,rfl⟩
  obtain⟨a,hae⟩:∃a,pl.getD i default=a:=⟨_,rfl⟩
  have hae':pl.getD (i:Int).toNat default=a:=hae;rw[hpe]at a3 hsf hpo hQi hnx;rw[hae]at a3 hsf;have hsf:(m_ (pl.getD (i:Int).toNat default)).map (·.self 0)=sf p.ph (.lsl 0 a.k 0 p.gs.length p.gs.length 0):=by rw[hae'];exact hsf
  have hlt2:i<pl.length:=by omega
  have hfew:=hpo.few;have hgs:=hpo.gs;have hall:(((s.hd.cols*s.hd.rows).toNat:Nat):Int)=(n:Nat):=by omega
  rw[hall]at hgs;obtain⟨gl,gl1,gl2,gl3⟩:=a3
  obtain⟨P,hP⟩:∃P,p.ph=P:=⟨_,rfl⟩
  rw[hP]at hsf hgs
  obtain⟨cg,hcg⟩:∃f:Nat->PO,rl (fT jb) fs sz i p.gs ⟨List.replicate n true,at0,last0⟩=f:=⟨_,rfl⟩
  have hcgl:∀j,(cg j).m.length=n:=fun j=>by rw[<-hcg,sU];exact List.length_replicate
  have hcga:∀j,(cg j).at_=at0+j:=fun j=>by rw[<-hcg,BE]
  have hcgz:∀j,-1<=(cg j).last/\(cg j).last<=(i:Nat):=fun j=>by rw[<-hcg];exact tJ _ _ _ _ _ _ ⟨h3,by show last0<=_;omega⟩ j
  have hcg0:cg 0=⟨List.replicate n true,at0,last0⟩:=by rw[<-hcg];rfl
  have hcgs:∀j,cg (j+1)=⟨if iJ (fs.getD (cg j).at_ default) (sz.getD (cg j).at_ 0)=true then(cg j).m else vV (fT jb) (p.gs.getD j default).first (p.gs.getD j default).ms (cg j).m (p.gs.getD j default).ms.length,(cg j).at_+1,if(fs.getD (cg j).at_ default).lost=true then(cg j).last else(i:Nat)⟩:=fun j=>by rw[<-hcg];rfl
  rw[hcg]at hnx;have hat0:at0<=9*i:=hatB
  repeat' (first
   |(refine qz ?_;first
    |refine qw ?_
    |refine tZ ?_
    |refine nC (zs:=sf ⟨0,false,false,0⟩ .nils) (hz:=rZ) ?_
    |refine kD (enc:=m_) ?_ hpl hlt2 (hc':=hsf)
    |refine ld (c := .int .i64 s.hd.cols) ?_
    |refine ld (c := .int .i64 s.hd.rows) ?_
    |refine cl ?_ (hi:=by exact Ds hc8 hr8 hn (by omega) rfl nL nA rfl))
   |refine zz ?_|refine zx (fun _=>?_) (fun _=>?_)|fail)
  refine WX.bQ (σ:=Nat) (fun j=>[(1,.one (.slice 1 0 sz.length cp)),(2,.one d),(3,.one (.ptr 5 0)),(8,.one (.ptr 7 0)),(28,.one (.lsl 0 k 0 np np 0)),(29,.one (.int .i64 (np:Nat))),(7,ee 4 i 3),(30,.one (.int .i64 (i:Nat))),(11,.one (.int .i64 (i:Nat))),(13,.one (.ptr 10 0)),(43,.one (.lsl 0 a.k 0 p.gs.length p.gs.length 0)),(44,.one (.int .i64 (p.gs.length:Nat))),(9,.one (.int .i64 ((cg j).at_:Nat))),(10,.one (.int .i64 (cg j).last)),(45,.one (.int .i64 (j:Nat)))]) (fun j=>[.late L,ob1,.late F,.late (bl (List.replicate n true)::out.map bl),bz 75 ((r8 s.hd.cols s.hd.rows n i).map (·.self 3)),.cells (fh s.hd (.lsl 0 k 0 np np 0)) 36 false false,.dead,.cells (oY s.hd.cols s.hd.rows (.lsl 3 i 0 n n 0)) 75 false false,.dead,.cells (bl (cg j).m) 4 false false,.cells (oY s.hd.cols s.hd.rows (.slice 9 0 n (.exact n))) 75 false false]) (fun j=>j<=p.gs.length) (fun j=>p.gs.length-j) 0 (Nat.zero_le _) (fun j _=>(stM (objs:=by repeat' (first|exact aq.nil|refine aq.flat ?_|refine aq.cons (bW (show 0<_ from Nat.le_of_ble_eq_true rfl)) ?_|refine aq.cons (jf (eX (cS _ _ _ _) (Nat.le_of_ble_eq_true rfl))) ?_|refine aq.cons (ux (da.ok (by assumption) (Nat.le_of_ble_eq_true rfl))) ?_|refine aq.cons trivial ?_|refine aq.cons (by first|(simp[aj.br,XC.ok];done)|(simp[aj.br,XC.ok, *];done)) ?_)))) (bq [0,1,2,3,4,5,6,7,8,9,10] (obj:=by(repeat' (first|exact af.nil|refine aN rfl rfl ?_|refine dM (cS _ _ _ _) rfl rfl ?_|refine af.flat (by rw[hcg0];rfl) ?_|refine oz ?_));first|done|fail) (reg:=by(repeat' (first|exact ae.nil|refine ae.ia rfl (by assumption) rfl ?_|refine ae.flat (by rw[hcg0];rfl) ?_|refine rz ?_|refine ae.sl rfl (by assumption) rfl ?_));first|done|fail)) ?_;intro j hj ih2;have hxl:=hcgl j;have hxa:=hcga j;obtain⟨hz1,hz2⟩:=hcgz j;have hxs:=hcgs j
  obtain⟨x1,hx1⟩:∃x,cg j=x:=⟨_,rfl⟩
  rw[hx1]at hxl hxa hz1 hz2 hxs ⊢;obtain⟨m0,at1,last1⟩:=x1;have hxl:m0.length=n:=hxl;have hxa:at1=at0+j:=hxa
  by_cases hlt3:j<p.gs.length
  ·obtain ⟨g1,g2,g3⟩:=gl3 j hlt3;have hgf:=zF (gs:=p.gs) g1 g2 0
   have hmem:p.gs.getD j default∈p.gs:=by
    rw[List.getD_eq_getElem?_getD,List.getElem?_eq_getElem hlt3,Option.getD_some];exact List.getElem_mem hlt3
   obtain⟨o1,o2,o3,o4,o5,o6⟩:=qj hgs (Int.le_refl 0) _ hmem;have hQj:=hQi j hlt3
   obtain⟨g,hge⟩:∃g,p.gs.getD j default=g:=⟨_,rfl⟩
   obtain⟨b,hbe⟩:∃b,gl.getD j default=b:=⟨_,rfl⟩
   have hbe':gl.getD (j:Int).toNat default=b:=hbe;rw[hge]at g3 hgf o1 o3 o4 o5 o6 hQj hxs;rw[hbe]at g3 hgf;have hgf:(oP (gl.getD (j:Int).toNat default)).map (·.self 0)=x6 g.first (.lsl 0 b.k 0 g.ms.length g.ms.length 0):=by rw[hbe'];exact hgf
   have hlt4:j<gl.length:=by omega
   have hfa:at1<fs.length->∃z,at1<l.length/\(i4 (l.getD at1 default)).map (·.self 2) = [.bool (fs.getD at1 default).lost,z]/\da F 2 z (il .u8 (fs.getD at1 default).mask) (fs.getD at1 default).mask.length:=fun h=>HT hf h 2
   have hml:=hfl at1
   have hfd:¬at1<fs.length->fs.getD at1 default=⟨false,[]⟩:=fun h=>by
    rw[List.getD_eq_getElem?_getD,List.getElem?_eq_none (by omega)];rfl
   have hsd:¬at1<sz.length->sz.getD at1 0=0:=fun h=>by
    rw[List.getD_eq_getElem?_getD,List.getElem?_eq_none (by omega)];rfl
   have hxs:cg (j+1)=⟨if iJ (fs.getD at1 default) (sz.getD at1 0)=true then m0 else vV (fT jb) g.first g.ms m0 g.ms.length,at1+1,if(fs.getD at1 default).lost=true then last1 else(i:Nat)⟩:=hxs;have hQj:iJ (fs.getD at1 default) (sz.getD at1 0)=false->∀m∈g.ms,Q m:=by rw[hxa];exact hQj
   obtain⟨f,hfe⟩:∃f,fs.getD at1 default=f:=⟨_,rfl⟩
   obtain⟨size,hsz⟩:∃z,sz.getD at1 0=z:=⟨_,rfl⟩
   rw[hfe]at hfa hml hfd hxs hQj;rw[hsz]at hxs hQj hsd
   repeat' (first
    |(refine qz ?_;first
     |refine qw ?_
     |refine tZ ?_
     |refine nC (zs:=x6 0 .nils) (hz:=vM) ?_
     |refine kD (enc:=oP) ?_ gl1 hlt4 (hc':=hgf)
     |refine nC (zs:=[.bool false,.nils]) (hz:=mO) ?_)
    |refine mT 12 ?_|refine gJ 12 ?_|refine zz ?_|refine zx (fun _=>?_) (fun _=>?_)|fail)
   refine⟨?_⟩;refine WX.ur 12 (σ:=XC) (fun z=>[(1,.one (.slice 1 0 sz.length cp)),(2,.one d),(3,.one (.ptr 5 0)),(8,.one (.ptr 7 0)),(28,.one (.lsl 0 k 0 np np 0)),(29,.one (.int .i64 (np:Nat))),(7,ee 4 i 3),(30,.one (.int .i64 (i:Nat))),(11,.one (.int .i64 (i:Nat))),(13,.one (.ptr 10 0)),(43,.one (.lsl 0 a.k 0 p.gs.length p.gs.length 0)),(44,.one (.int .i64 (p.gs.length:Nat))),(9,.one (.int .i64 (at1:Nat))),(10,.one (.int .i64 last1)),(45,.one (.int .i64 (j:Nat))),(15,.one (.ptr 11 0)),(16,.one (.ptr 12 0))]) (fun z=>[.late L,ob1,.late F,.late (bl (List.replicate n true)::out.map bl),bz 75 ((r8 s.hd.cols s.hd.rows n i).map (·.self 3)),.cells (fh s.hd (.lsl 0 k 0 np np 0)) 36 false false,.dead,.cells (oY s.hd.cols s.hd.rows (.lsl 3 i 0 n n 0)) 75 false false,.dead,.cells (bl m0) 4 false false,.cells (oY s.hd.cols s.hd.rows (.slice 9 0 n (.exact n))) 75 false false,.cells (x6 g.first (.lsl 0 b.k 0 g.ms.length g.ms.length 0)) 90 false false,.cells [.bool f.lost,z] 69 false false]) (fun z=>da F 2 z (il .u8 f.mask) f.mask.length) (fun z hz=>(stM (objs:=by repeat' (first|exact aq.nil|refine aq.flat ?_|refine aq.cons (bW (show 0<_ from Nat.le_of_ble_eq_true rfl)) ?_|refine aq.cons (jf (eX (cS _ _ _ _) (Nat.le_of_ble_eq_true rfl))) ?_|refine aq.cons (ux (da.ok (by assumption) (Nat.le_of_ble_eq_true rfl))) ?_|refine aq.cons trivial ?_|refine aq.cons (by first|(simp[aj.br,XC.ok];done)|(simp[aj.br,XC.ok, *];done)) ?_)))) ?_ (fun z hz=>q9.out ?_)
   ·by_cases hat:at1<fs.length
    ·obtain⟨z,e1,e2,e3⟩:=hfa hat
     repeat' (first
      |(refine qz ?_;first
       |refine lX ?_
       |refine rC (fun kk hkk=>?_)
       |refine kD (enc:=i4) ?_ (by assumption) e1 (hc':=e2))
      |refine zz ?_|refine zx (fun _=>?_) (fun _=>?_)|fail)
     (first|refine sH ?_|skip)
     exact⟨z,_,e3,(bq [0,1,2,3,4,5,6,7,8,9,10,11,12] (obj:=by(repeat' (first|exact af.nil|refine aN rfl rfl ?_|refine dM (cS _ _ _ _) rfl rfl ?_|refine dW (by assumption) rfl rfl ?_|refine oz ?_));first|done|fail) (reg:=by(repeat' (first|exact ae.nil|refine ae.ia rfl (by assumption) rfl ?_|refine rz ?_|refine ae.sl rfl (by assumption) rfl ?_));first|done|fail))⟩
    ·have e0:=hfd hat;subst e0
     repeat' (first
      |(refine qz ?_;first
       |refine lX ?_)
      |refine zz ?_|refine zx (fun _=>?_) (fun _=>?_)|fail)
     (first|refine sH ?_|skip)
     exact⟨.nils,_,.inl ⟨rfl,.inl rfl⟩,(bq [0,1,2,3,4,5,6,7,8,9,10,11,12] (obj:=by(repeat' (first|exact af.nil|refine aN rfl rfl ?_|refine dM (cS _ _ _ _) rfl rfl ?_|refine dW (by assumption) rfl rfl ?_|refine oz ?_));first|done|fail) (reg:=by(repeat' (first|exact ae.nil|refine ae.ia rfl (by assumption) rfl ?_|refine rz ?_|refine ae.sl rfl (by assumption) rfl ?_));first|done|fail))⟩
   refine⟨?_⟩
   repeat' (first|refine mT 15 ?_|refine gJ 15 ?_|refine zz ?_|refine zx (fun _=>?_) (fun _=>?_)|fail)
   refine⟨?_⟩;refine WX.ur 15 (σ:=Unit) (fun _=>[(1,.one (.slice 1 0 sz.length cp)),(2,.one d),(3,.one (.ptr 5 0)),(8,.one (.ptr 7 0)),(28,.one (.lsl 0 k 0 np np 0)),(29,.one (.int .i64 (np:Nat))),(7,ee 4 i 3),(30,.one (.int .i64 (i:Nat))),(11,.one (.int .i64 (i:Nat))),(13,.one (.ptr 10 0)),(43,.one (.lsl 0 a.k 0 p.gs.length p.gs.length 0)),(44,.one (.int .i64 (p.gs.length:Nat))),(9,.one (.int .i64 (at1:Nat))),(10,.one (.int .i64 last1)),(45,.one (.int .i64 (j:Nat))),(15,.one (.ptr 11 0)),(16,.one (.ptr 12 0)),(17,.one (.int .i64 size))]) (fun _=>[.late L,ob1,.late F,.late (bl (List.replicate n true)::out.map bl),bz 75 ((r8 s.hd.cols s.hd.rows n i).map (·.self 3)),.cells (fh s.hd (.lsl 0 k 0 np np 0)) 36 false false,.dead,.cells (oY s.hd.cols s.hd.rows (.lsl 3 i 0 n n 0)) 75 false false,.dead,.cells (bl m0) 4 false false,.cells (oY s.hd.cols s.hd.rows (.slice 9 0 n (.exact n))) 75 false false,.cells (x6 g.first (.lsl 0 b.k 0 g.ms.length g.ms.length 0)) 90 false false,.cells [.bool f.lost,z] 69 false false]) (fun _=>True) (fun _ _=>(stM (objs:=by repeat' (first|exact aq.nil|refine aq.flat ?_|refine aq.cons (bW (show 0<_ from Nat.le_of_ble_eq_true rfl)) ?_|refine aq.cons (jf (eX (cS _ _ _ _) (Nat.le_of_ble_eq_true rfl))) ?_|refine aq.cons (ux (da.ok (by assumption) (Nat.le_of_ble_eq_true rfl))) ?_|refine aq.cons trivial ?_|refine aq.cons (by first|(simp[aj.br,XC.ok];done)|(simp[aj.br,XC.ok, *];done)) ?_)))) ?_ (fun _ _=>q9.out ?_)
   ·by_cases hat:at1<sz.length
    ·repeat' (first|refine zz ?_|refine zx (fun _=>?_) (fun _=>?_)|fail)
     have hsz':sz.getD (at1:Int).toNat 0=size:=hsz
     (first|refine sH ?_|skip)
     exact⟨(),_,trivial,(bq [0,1,2,3,4,5,6,7,8,9,10,11,12] (obj:=by(repeat' (first|exact af.nil|refine aN rfl rfl ?_|refine dM (cS _ _ _ _) rfl rfl ?_|refine dW (by assumption) rfl rfl ?_|refine oz ?_));first|done|fail) (reg:=by(repeat' (first|exact ae.nil|refine ae.ia rfl (by assumption) rfl ?_|refine ae.flat (by rw[<-hsz];rfl) ?_|refine rz ?_|refine ae.sl rfl (by assumption) rfl ?_));first|done|fail))⟩
    ·have e0:=hsd hat;subst e0
     repeat' (first|refine zz ?_|refine zx (fun _=>?_) (fun _=>?_)|fail)
     (first|refine sH ?_|skip)
     exact⟨(),_,trivial,(bq [0,1,2,3,4,5,6,7,8,9,10,11,12] (obj:=by(repeat' (first|exact af.nil|refine aN rfl rfl ?_|refine dM (cS _ _ _ _) rfl rfl ?_|refine dW (by assumption) rfl rfl ?_|refine oz ?_));first|done|fail) (reg:=by(repeat' (first|exact ae.nil|refine ae.ia rfl (by assumption) rfl ?_|refine rz ?_|refine ae.sl rfl (by assumption) rfl ?_));first|done|fail))⟩
   refine⟨?_⟩
   obtain⟨tch,htc⟩:∃b,iJ f size=b:=⟨_,rfl⟩
   rw[htc]at hxs hQj
   obtain⟨lo,hlo⟩:∃b,f.lost=b:=⟨_,rfl⟩
   cases lo with
   | true=>
     have ht:tch=true:=by rw[<-htc];unfold iJ;rw[hlo];rfl
     subst ht;rw[hlo,if_pos rfl,if_pos rfl]at hxs;rw[hlo]
     repeat' (first
      |(refine qz ?_;first
       |refine cl ?_ (hi:=by exact gF hz (by omega) hlo htc rfl rfl))
      |refine zz ?_|refine zx (fun _=>?_) (fun _=>?_)|fail)
     exact ih2 (j+1) _ _ _ (bq [0,1,2,3,4,5,6,7,8,9,10] (obj:=by(repeat' (first|exact af.nil|refine aN rfl rfl ?_|refine dM (cS _ _ _ _) rfl rfl ?_|refine dW (by assumption) rfl rfl ?_|refine af.flat (by rw[hxs];rfl) ?_|refine oz ?_));first|done|fail) (reg:=by(repeat' (first|exact ae.nil|refine ae.ia rfl (by assumption) rfl ?_|refine ae.flat (by rw[hxs];rfl) ?_|refine rz ?_|refine ae.sl rfl (by assumption) rfl ?_));first|done|fail)) (by omega) (by omega)
   | false =>
     rw[hlo,if_neg (show¬(false=true) by decide)]at hxs;rw[hlo]
     cases tch with
     | true=>
       rw[if_pos rfl]at hxs
       repeat' (first
        |(refine qz ?_;first
         |refine cl ?_ (hi:=by exact gF hz (by omega) hlo htc rfl rfl))
        |refine zz ?_|refine zx (fun _=>?_) (fun _=>?_)|fail)
       exact ih2 (j+1) _ _ _ (bq [0,1,2,3,4,5,6,7,8,9,10] (obj:=by(repeat' (first|exact af.nil|refine aN rfl rfl ?_|refine dM (cS _ _ _ _) rfl rfl ?_|refine dW (by assumption) rfl rfl ?_|refine af.flat (by rw[hxs];rfl) ?_|refine oz ?_));first|done|fail) (reg:=by(repeat' (first|exact ae.nil|refine ae.ia rfl (by assumption) rfl ?_|refine ae.flat (by rw[hxs];rfl) ?_|refine rz ?_|refine ae.sl rfl (by assumption) rfl ?_));first|done|fail)) (by omega) (by omega)
     | false=>
       rw[if_neg (show¬(false=true) by decide)]at hxs;have hQj:=hQj rfl
       repeat' (first
        |(refine qz ?_;first
         |refine cl ?_ (hi:=by exact gF hz (by omega) hlo htc rfl rfl)
         |refine qw ?_)
        |refine zz ?_|refine zx (fun _=>?_) (fun _=>?_)|fail)
       refine WX.bQ (σ:=Nat) (fun u=>[(1,.one (.slice 1 0 sz.length cp)),(2,.one d),(3,.one (.ptr 5 0)),(8,.one (.ptr 7 0)),(28,.one (.lsl 0 k 0 np np 0)),(29,.one (.int .i64 (np:Nat))),(7,ee 4 i 3),(30,.one (.int .i64 (i:Nat))),(11,.one (.int .i64 (i:Nat))),(13,.one (.ptr 10 0)),(43,.one (.lsl 0 a.k 0 p.gs.length p.gs.length 0)),(44,.one (.int .i64 (p.gs.length:Nat))),(9,.one (.int .i64 (at1+1:Nat))),(10,.one (.int .i64 (i:Nat))),(45,.one (.int .i64 (j:Nat))),(15,.one (.ptr 11 0)),(76,.one (.lsl 0 b.k 0 g.ms.length g.ms.length 0)),(77,.one (.int .i64 (g.ms.length:Nat))),(78,.one (.int .i64 (u:Nat)))]) (fun u=>[.late L,ob1,.late F,.late (bl (List.replicate n true)::out.map bl),bz 75 ((r8 s.hd.cols s.hd.rows n i).map (·.self 3)),.cells (fh s.hd (.lsl 0 k 0 np np 0)) 36 false false,.dead,.cells (oY s.hd.cols s.hd.rows (.lsl 3 i 0 n n 0)) 75 false false,.dead,.cells (bl (vV (fT jb) g.first g.ms m0 u)) 4 false false,.cells (oY s.hd.cols s.hd.rows (.slice 9 0 n (.exact n))) 75 false false,.cells (x6 g.first (.lsl 0 b.k 0 g.ms.length g.ms.length 0)) 90 false false]) (fun u=>u<=g.ms.length) (fun u=>g.ms.length-u) 0 (Nat.zero_le _) (fun u _=>(stM (objs:=by repeat' (first|exact aq.nil|refine aq.flat ?_|refine aq.cons (bW (show 0<_ from Nat.le_of_ble_eq_true rfl)) ?_|refine aq.cons (jf (eX (cS _ _ _ _) (Nat.le_of_ble_eq_true rfl))) ?_|refine aq.cons (ux (da.ok (by assumption) (Nat.le_of_ble_eq_true rfl))) ?_|refine aq.cons trivial ?_|refine aq.cons (by first|(simp[aj.br,XC.ok];done)|(simp[aj.br,XC.ok, *];done)) ?_)))) (bq [0,1,2,3,4,5,6,7,8,9,10,11] (obj:=by(repeat' (first|exact af.nil|refine aN rfl rfl ?_|refine dM (cS _ _ _ _) rfl rfl ?_|refine dW (by assumption) rfl rfl ?_|refine oz ?_));first|done|fail) (reg:=by(repeat' (first|exact ae.nil|refine ae.ia rfl (by assumption) rfl ?_|refine rz ?_|refine ae.sl rfl (by assumption) rfl ?_));first|done|fail)) ?_;intro u hk ih3;have hcl:=tK (fT jb) g.first g.ms m0 u
       have hcs:vV (fT jb) g.first g.ms m0 (u+1)=(vV (fT jb) g.first g.ms m0 u).set (g.first.toNat+u) (fT jb (g.first+(u:Nat)) (g.ms.getD u default)):=rfl
       by_cases hlt5:u<g.ms.length
       ·have hmm:g.ms.getD u default∈g.ms:=by
         rw[List.getD_eq_getElem?_getD,List.getElem?_eq_getElem hlt5,Option.getD_some];exact List.getElem_mem hlt5
        have hq1:=hQj _ hmm;have hmk:=um o6 _ hmm
        obtain⟨mm,hme⟩:∃m,g.ms.getD u default=m:=⟨_,rfl⟩
        have hme':g.ms.getD (u:Int).toNat default=mm:=hme;rw[hme]at hq1 hmk hcs
        obtain⟨r,hr⟩:∃r,fT jb (g.first+(u:Nat)) mm=r:=⟨_,rfl⟩
        have hfr:=hFrom jb (g.first+(u:Nat)) mm h2 (by omega) hq1 hmk _ i hold;rw[hr]at hfr hcs
        obtain⟨M,hM⟩:∃M,vV (fT jb) g.first g.ms m0 u=M:=⟨_,rfl⟩
        rw[hM]at hcl hcs;rw[hM]
        repeat' (first
         |(refine qz ?_;first
          |refine qw ?_
          |refine tZ ?_
          |refine nC (zs:=mC y_) (hz:=oN) ?_
          |refine kD (enc:=mC) ?_ g3 hlt5
          |refine tk (cs:=mC mm) ?_ (hy:=by rw[<-hme'];rfl) (hs1:=by rw[aY]) (hs2:=by rw[aY])
          |refine lI ?_ (hle:=by rw[aY])
          |refine cl ?_ (hi:=by exact hfr _ 3 rfl rfl)
          |refine cl ?_ (hi:=by exact K6 (mb:=g.first.toNat+u) (hcl.trans hxl) (by omega) (by omega) (by omega) rfl (i:=9) rfl hS rfl))
         |refine zz ?_|refine zx (fun _=>?_) (fun _=>?_)|fail)
        exact ih3 (u+1) _ _ _ (bq [0,1,2,3,4,5,6,7,8,9,10,11] (obj:=by(repeat' (first|exact af.nil|refine aN rfl rfl ?_|refine dM (cS _ _ _ _) rfl rfl ?_|refine dW (by assumption) rfl rfl ?_|refine af.flat (by rw[hcs];rfl) ?_|refine oz ?_));first|done|fail) (reg:=by(repeat' (first|exact ae.nil|refine ae.ia rfl (by assumption) rfl ?_|refine rz ?_|refine ae.sl rfl (by assumption) rfl ?_));first|done|fail)) (by omega) (by omega)
       ·obtain rfl:u=g.ms.length:=by omega
        repeat' (first
         |(refine qz ?_;first
          |refine qw ?_)
         |refine zz ?_|refine zx (fun _=>?_) (fun _=>?_)|fail)
        exact ih2 (j+1) _ _ _ (bq [0,1,2,3,4,5,6,7,8,9,10] (obj:=by(repeat' (first|exact af.nil|refine aN rfl rfl ?_|refine dM (cS _ _ _ _) rfl rfl ?_|refine dW (by assumption) rfl rfl ?_|refine af.flat (by rw[hxs];rfl) ?_|refine oz ?_));first|done|fail) (reg:=by(repeat' (first|exact ae.nil|refine ae.ia rfl (by assumption) rfl ?_|refine ae.flat (by rw[hxs];rfl) ?_|refine rz ?_|refine ae.sl rfl (by assumption) rfl ?_));first|done|fail)) (by omega) (by omega)
  ·obtain rfl:j=p.gs.length:=by omega
   clear ih2
   have hdx:(r8 s.hd.cols s.hd.rows n (i+1)).map (·.self 3)=(r8 s.hd.cols s.hd.rows n i).map (·.self 3)++oY s.hd.cols s.hd.rows (.lsl 3 (i+1) 0 n n 0):=by
    rw[r8,List.map_append];rfl
   rw[hx1]at hnx
   have hlx:(iv fT fs sz n s.ps (i+1)).out.map bl=out.map bl++[bl m0]:=by
    rw[hnx];show(out++[m0]).map bl=_;rw[List.map_append];rfl
   repeat' (first
    |(refine qz ?_;first
     |refine qw ?_)
    |refine mT 27 ?_|refine gJ 27 ?_|refine zz ?_|refine zx (fun _=>?_) (fun _=>?_)|fail)
   refine⟨?_⟩
   refine WX.tU (L:=bl (List.replicate n true)::out.map bl) (vs:=bl m0) (us:=bl m0) 9 3 n (.exact n) [(1,.one (.slice 1 0 sz.length cp)),(2,.one d),(3,.one (.ptr 5 0)),(8,.one (.ptr 7 0)),(28,.one (.lsl 0 k 0 np np 0)),(29,.one (.int .i64 (np:Nat))),(7,ee 4 i 3),(30,.one (.int .i64 (i:Nat))),(9,.one (.int .i64 (at1:Nat))),(10,.one (.int .i64 last1)),(13,.one (.ptr 10 0))] [.late L,ob1,.late F,.late ((bl (List.replicate n true)::out.map bl)++[bl m0]),bz 75 ((r8 s.hd.cols s.hd.rows n i).map (·.self 3)),.cells (fh s.hd (.lsl 0 k 0 np np 0)) 36 false false,.dead,.cells (oY s.hd.cols s.hd.rows (.lsl 3 i 0 n n 0)) 75 false false,.dead,.dead,.cells (oY s.hd.cols s.hd.rows (.lsl 3 (i+1) 0 n n 0)) 75 false false] (m:=i+1) (xN _ _) (.inl ⟨n,rfl,Nat.le_refl _⟩) (by rw[List.length_cons,List.length_map,h1]) (hv:=fk (xN _ 0) 3) (hH:=by
    repeat' (first|exact a_.nil|refine a_.ghost ?_|refine a_.flat rfl ?_|refine a_.cells rfl (dR.same (jE (by simp[XC.lA]))) ?_|refine a_.Se rfl (gL (cS _ _ _ _) _ _) ?_|refine a_.cells rfl (dR.cons (.same trivial) (.cons (.same trivial) (.cons .zE (.same (fun _ h=>nomatch h))))) ?_|refine a_.cells rfl (dR.same (by simp[XC.lA])) ?_|refine a_.dead ?_)) (hR:=by
    repeat' (first|exact du.nil|refine du.flat rfl ?_|refine du.one rfl (iT.same (da.lA (by assumption) (by decide))) ?_|refine du.one rfl (iT.same (by first|trivial|(simp[XC.lA];done)|exact u1 (by decide))) ?_)) (hok:=(stM (objs:=by repeat' (first|exact aq.nil|refine aq.flat ?_|refine aq.cons (bW (show 0<_ from Nat.le_of_ble_eq_true rfl)) ?_|refine aq.cons (jf (eX (cS _ _ _ _) (Nat.le_of_ble_eq_true rfl))) ?_|refine aq.cons (ux (da.ok (by assumption) (Nat.le_of_ble_eq_true rfl))) ?_|refine aq.cons trivial ?_|refine aq.cons (by first|(simp[aj.br,XC.ok];done)|(simp[aj.br,XC.ok, *];done)) ?_)))) (h:=?_)
   repeat' (first
    |(refine qz ?_;first
     |refine vO (zs:=oY 0 0 .nils) (hz:=PN) ?_
     |refine Ez 4 i ((r8 s.hd.cols s.hd.rows n i).map (·.self 3)) ?_ (hn:=by rw[List.length_map,xV]))
    |refine zz ?_|refine zx (fun _=>?_) (fun _=>?_)|fail)
   exact ih (i+1) _ _ _ (bq [0,1,2,3,12,5,6,7] (obj:=by(repeat' (first|exact af.nil|refine aN rfl rfl ?_|refine dM (cS _ _ _ (i+1)) (by rw[hdx];rfl) rfl ?_|refine af.flat (by rw[hlx];rfl) ?_|refine oz ?_));first|done|fail) (reg:=by(repeat' (first|exact ae.nil|refine ae.ia rfl (by assumption) rfl ?_|refine ae.flat (by rw[hnx];rfl) ?_|refine rz ?_|refine ae.sl rfl (by assumption) rfl ?_));first|done|fail)) (by omega) (by omega)
 ·obtain rfl:i=np:=by omega
  clear ih;rw[hx]at hy;subst hy;have hol:((r8 s.hd.cols s.hd.rows n i).map (·.self 3)).length=i*3:=by rw[List.length_map,xV]
  have hos:bz 75 ((r8 s.hd.cols s.hd.rows n i).map (·.self 3)) = .cells ((r8 s.hd.cols s.hd.rows n i).map (·.self 3)) 75 true false:=bG fun e=>by
   rw[e]at hol;have hol:0=i*3:=hol;omega
  rw[hos,dp (show i≠0 by omega)]
  repeat' (first
   |(refine qz ?_;first
    |refine qw ?_)
   |refine mT 30 ?_|refine gJ 30 ?_|refine zz ?_|refine zx (fun _=>?_) (fun _=>?_)|fail)
  refine⟨?_⟩;refine WX.tU (L:=bl (List.replicate n true)::out.map bl) (vs:=r8 s.hd.cols s.hd.rows n i) (us:=(r8 s.hd.cols s.hd.rows n i).map (·.self 3)) 4 3 i (.toEnd 3) [(7,.one (.lsl 3 (i+1) 0 i i 0)),(10,.one (.int .i64 last0))] [.late L,ob1,.late F,.late ((bl (List.replicate n true)::out.map bl)++[r8 s.hd.cols s.hd.rows n i]),.dead,.dead,.dead,.dead] (m:=i+1) (cS _ _ _ _) (.inr ⟨3,rfl,by decide,by rw[hol];exact Nat.le_refl _⟩) (by rw[List.length_cons,List.length_map,h1]) (h:=?_)
  repeat' (first
   |(refine qz ?_;first
    |refine Rv (p:=0) (q:=(last0+1).toNat) ?_)
   |refine zz ?_|refine zx (fun _=>?_) (fun _=>?_)|fail)
  show aE _ _ _ _ _ _ _ _;refine kV [0,1,2,3] ?_;rfl
end Go.Proofs.YthdciapjllppjaaGreat
