/-
  A part of the proof: StrU, FtH, WkI.
-/
import Derived.Test.YthdciapjllppjaaGreatWbR
import Derived.Test.YthdciapjllppjaaGreatWbZA
import Derived.Test.YthdciapjllppjaaGreatWbZB
set_option maxRecDepth 10000
set_option maxHeartbeats 8000000
set_option linter.unusedVariables false
set_option linter.unusedSectionVars false
set_option linter.unusedSimpArgs false
open Go.Proofs.Tryz (prog)
namespace Go.Proofs.YthdciapjllppjaaGreat
open Go.Xm
variable [aq]
theorem DC(A:List (List Int)):(A.map (il .u8)).length=A.length:=List.length_map ..
theorem DD(A:List (List Int))(g:Nat):((ik 0 A).map (·.self g)).length=A.length:=by rw[List.length_map,nP]
theorem HC(A:List (List Int))(q:List Int)(g:Nat):(ik 0 (A++[q])).map (·.self g)=(ik 0 A).map (·.self g)++[.lsl g A.length 0 q.length q.length 0]:=by
 rw[wV,List.map_append,Nat.zero_add];rfl
theorem HB(A:List (List Int))(q:List Int):(A++[q]).map (il .u8)=A.map (il .u8)++[il .u8 q]:=by
 rw[List.map_append];rfl
theorem H8{gs:List Gr}{l:List Qn}{j:Nat}(h1:(l.getD j default).first=(gs.getD j default).first)(h2:(l.getD j default).n=(gs.getD j default).ms.length)(g:Nat):(pO (l.getD j default)).map (·.self g)=DQ (gs.getD j default).first (.lsl g (l.getD j default).k 0 (gs.getD j default).ms.length (gs.getD j default).ms.length 0):=by
 rw[<-h1,<-h2];rfl
abbrev Aq(A:List (List Int))(opn:Bool):ak := .cells ((ik 0 A).map (·.self 1)) 32 opn false
theorem As{τ : Nat->Nat}{HS:aj}{i:Nat}{ls:List Nat}{hs:aj}{A:List (List Int)}{opn:Bool}(h1 : τ 1=1){vs:List XC}(hi:HS[i]? = some (.cells vs 32 opn false))(hv:vs=(ik 0 A).map (·.self 1))(r:ae τ HS ls hs):ae τ HS (i::ls) (Aq A opn::hs):=by
 subst hv;refine ae.cons ?_ r;rw[hi];simp only[ak.aC];rw[rY (nQ A 0 A.length (by omega)),h1]
theorem yD{τ : Nat->Nat}{HS:aj}{i:Nat}{ls:List Nat}{hs:aj}{A:List (List Int)}{opn:Bool}(hi:HS[i]? = some (Aq A opn))(h1 : τ 1=1)(r:ae τ HS ls hs):ae τ HS (i::ls) (Aq A opn::hs):=As h1 hi rfl r
theorem L6{τ : Nat->Nat}{HS:aj}{i:Nat}{ls:List Nat}{hs:aj}{A B:List (List Int)}{q:List Int}{opn:Bool}(hB:A=B++[q])(hi:HS[i]? = some (.cells ((ik 0 B).map (·.self 1)++[.lsl 1 B.length 0 q.length q.length 0]) 32 opn false))(h1 : τ 1=1)(r:ae τ HS ls hs):ae τ HS (i::ls) (Aq A opn::hs):=As h1 hi (by rw[hB,HC]) r
theorem tp{A:List (List Int)}{opn:Bool}{m:Nat}(hm:1<m):(Aq A opn).bK m:=vn (nQ A 0 A.length (by omega)) hm
abbrev Nq(cp:pr)(n:Nat)(opn:Bool):Prop:=cp = .exact n\/(cp = .toEnd 1/\opn=true/\0<n)
theorem Av{s:tP}(hs:lG s){L:List (List XC)}{k n:Nat}(hp:wN L k s.ps)(hn:s.ps.length=n){ps:List (List Int)}(hps:iF s=ps){m:Nat}(hm:ps.length=m) :
 bt prog 12 [.agg (fJ s.hd (.lsl 0 k 0 n n 0))] [.late L] (.tup [.one (.lsl 1 m 0 m m 0),.one (.int .i64 0)]) [.late L,.late (wq ps)]:=by
 subst hn hm hps;have hpcs:=hp;obtain⟨l,hl,hln,hall⟩:=hp;have hok:=hs.ok;have hmany:=hok.many;have hcr:=oY hok;have hdo:=hok.hd;have hraw:=hok.raw
 obtain⟨y,hy⟩:∃y,hZ s.hd=y:=⟨_,rfl⟩
 have hyl:=jX s.hd;rw[hy]at hyl;have hpk:iF s=y::qk s.hd s.ps:=by rw[<-hy];rfl
 refine cO Tryz.func12 ?_;refine WX.ghost rfl ?_
 repeat' (first
  |(refine qz ?_;first
   |refine jI ?_ (hle:=(dh _ _).symm)
   |refine cl ?_ (hi:=by exact Gd (i:=0) hok hpcs rfl rfl rfl)
   |refine qI (cs:=b9 s.hd) ?_ (hle:=by rw[dh];decide) (hc:=r6 _ _)
   |refine cl ?_ (hi:=by exact zU hdo hraw hy rfl nL nA rfl))
  |refine lq 5 ?_|refine uo 5 ?_|refine zz ?_|refine zx (fun _=>?_) (fun _=>?_)|fail)
 refine⟨?_⟩;refine WX.sW (L:=[]) (vs:=il .u8 y) 3 1 y.length (.toEnd 1) [(1,.one (.ptr 2 0)),(5,.one (.lsl 1 0 0 y.length y.length 0)),(6,.one (.int .i64 0))] [.late L,.late [il .u8 y],.cells (fJ s.hd (.lsl 0 k 0 s.ps.length s.ps.length 0)) 36 false false,.dead] (gD .u8 y 0) (.inr ⟨1,rfl,Nat.one_pos,by rw[bz];omega⟩) (by exact rfl) (hv:=eU (gD .u8 y 0) 1) (hH:=by repeat' (first|exact bd.nil|refine bd.ghost ?_|refine bd.flat rfl ?_|refine bd.cells rfl (dP.same (j0 (by simp[XC.mw]))) ?_|refine bd.cells rfl (dP.same (gw (by assumption) _ _)) ?_|refine bd.cells rfl (dP.same (by simp[XC.mw,c7,eE])) ?_|refine bd.dead ?_)) (hok:=(ny (objs:=by repeat' (first|exact ax.nil|refine ax.cons (cY (show 0<_ from Nat.le_of_ble_eq_true rfl)) ?_|refine ax.cons (tp (Nat.le_of_ble_eq_true rfl)) ?_|refine kz ?_)))) (h:=?_)
 repeat' (first
  |(refine qz ?_;first
   |refine t5 (zs:=[.nils]) ?_
   |refine cl ?_ (hi:=by exact OR (N:=5) rfl nA rfl)
   |refine ld (c := .lsl 0 k 0 s.ps.length s.ps.length 0) ?_ (hc:=CT _ _)
   |refine kD ?_
   |refine l5 ?_)
  |refine zz ?_|refine zx (fun _=>?_) (fun _=>?_)|fail)
 refine WX.cw (σ:=Nat×pr×Bool) (fun t=>[(1,.one (.ptr 2 0)),(8,.one (.ptr 5 0)),(35,.one (.lsl 0 k 0 s.ps.length s.ps.length 0)),(36,.one (.int .i64 (s.ps.length:Nat))),(7,.one (.slice 4 0 (y::qk s.hd (s.ps.take t.1)).length t.2.1)),(37,.one (.int .i64 (t.1:Nat)))]) (fun t=>[.late L,.late ((y::qk s.hd (s.ps.take t.1)).map (il .u8)),.cells (fJ s.hd (.lsl 0 k 0 s.ps.length s.ps.length 0)) 36 false false,.dead,Aq (y::qk s.hd (s.ps.take t.1)) t.2.2,fc 6 10 14,aX 7 8 9 cM,db cM,df cM,dc cM,aX 11 12 13 cZ,db cZ,df cZ,dc cZ,aX 15 16 17 cP,db cP,df cP,dc cP]) (fun t=>t.1<=s.ps.length/\Nq t.2.1 (y::qk s.hd (s.ps.take t.1)).length t.2.2/\(y::qk s.hd (s.ps.take t.1)).length<=1+9*t.1) (fun t=>s.ps.length-t.1) (0,.exact 1,false) ⟨Nat.zero_le _,.inl rfl,Nat.le_refl _⟩ (fun t _=>(ny (objs:=by repeat' (first|exact ax.nil|refine ax.cons (cY (show 0<_ from Nat.le_of_ble_eq_true rfl)) ?_|refine ax.cons (tp (Nat.le_of_ble_eq_true rfl)) ?_|refine kz ?_)))) (bW [0,1,2,3,4,5,6,7,8,9,10,11,12,13,14,15,16,17] (obj:=by(repeat' (first|exact ae.nil|refine bh rfl rfl ?_|refine yD rfl rfl ?_|refine oz ?_));first|done|fail)) ?_;intro t ⟨ht,hcap,hfew⟩ ih
 obtain⟨A,hA⟩:∃A,y::qk s.hd (s.ps.take t.1)=A:=⟨_,rfl⟩
 rw[hA]at hcap hfew ⊢
 by_cases hlt:t.1<s.ps.length
 ·obtain⟨a1,a2,a3⟩:=hall t.1 hlt;have hpo:=hok.pics t.1 hlt;have hsf:=AA (ps:=s.ps) a1 a2 0;have hgk:=fun g hg=>Jc hs hlt (g:=g) hg
  have hnx0:y::qk s.hd (s.ps.take (t.1+1))=A++NI s.hd (s.ps.getD t.1 default):=by
   rw[r7 s.ps hlt,<-hA];unfold qk;rw[List.flatMap_append,List.flatMap_singleton];rfl
  obtain⟨p,hpe⟩:∃p,s.ps.getD t.1 default=p:=⟨_,rfl⟩
  obtain⟨a,hae⟩:∃a,l.getD t.1 default=a:=⟨_,rfl⟩
  have hae':l.getD (t.1:Int).toNat default=a:=hae;rw[hpe]at a3 hpo hsf hgk hnx0;rw[hae]at a3 hsf;have hfw:=hpo.few;have hph:=hpo.ph;have hnx:y::qk s.hd (s.ps.take (t.1+1))=A++p.gs.map (D5 s.hd p.ph):=hnx0
  obtain⟨P,hP⟩:∃P,p.ph=P:=⟨_,rfl⟩
  rw[hP]at hph hsf hgk hnx;have hsf:(oe (l.getD (t.1:Int).toNat default)).map (·.self 0)=tt P (.lsl 0 a.k 0 p.gs.length p.gs.length 0):=by rw[hae'];exact hsf
  have hlt2:t.1<l.length:=by omega
  obtain⟨gl,gl1,gl2,gl3⟩:=a3;have hB0:A++(p.gs.take 0).map (D5 s.hd P)=A:=by rw[List.take_zero];exact List.append_nil _
  repeat' (first
   |(refine qz ?_;first
    |refine kD ?_
    |refine l5 ?_
    |refine jU (zs:=tt ⟨0,false,false,0⟩ .nils) (hz:=v8) ?_
    |refine Ck (enc:=oe) ?_ hl hlt2 (hc':=hsf))
   |refine zz ?_|refine zx (fun _=>?_) (fun _=>?_)|fail)
  rw[<-hB0]at hcap ⊢;refine WX.cw (σ:=Nat×pr×Bool) (fun u=>[(1,.one (.ptr 2 0)),(8,.one (.ptr 5 0)),(35,.one (.lsl 0 k 0 s.ps.length s.ps.length 0)),(36,.one (.int .i64 (s.ps.length:Nat))),(37,.one (.int .i64 (t.1:Nat))),(10,.one (.ptr 18 0)),(42,.one (.lsl 0 a.k 0 p.gs.length p.gs.length 0)),(43,.one (.int .i64 (p.gs.length:Nat))),(7,.one (.slice 4 0 (A++(p.gs.take u.1).map (D5 s.hd P)).length u.2.1)),(44,.one (.int .i64 (u.1:Nat)))]) (fun u=>[.late L,.late ((A++(p.gs.take u.1).map (D5 s.hd P)).map (il .u8)),.cells (fJ s.hd (.lsl 0 k 0 s.ps.length s.ps.length 0)) 36 false false,.dead,Aq (A++(p.gs.take u.1).map (D5 s.hd P)) u.2.2,fc 6 10 14,aX 7 8 9 cM,db cM,df cM,dc cM,aX 11 12 13 cZ,db cZ,df cZ,dc cZ,aX 15 16 17 cP,db cP,df cP,dc cP,.cells (tt P (.lsl 0 a.k 0 p.gs.length p.gs.length 0)) 87 false false]) (fun u=>u.1<=p.gs.length/\Nq u.2.1 (A++(p.gs.take u.1).map (D5 s.hd P)).length u.2.2) (fun u=>p.gs.length-u.1) (0,t.2) ⟨Nat.zero_le _,hcap⟩ (fun u _=>(ny (objs:=by repeat' (first|exact ax.nil|refine ax.cons (cY (show 0<_ from Nat.le_of_ble_eq_true rfl)) ?_|refine ax.cons (tp (Nat.le_of_ble_eq_true rfl)) ?_|refine kz ?_)))) (bW [0,1,2,3,4,5,6,7,8,9,10,11,12,13,14,15,16,17,18] (obj:=by(repeat' (first|exact ae.nil|refine bh rfl rfl ?_|refine yD rfl rfl ?_|refine oz ?_));first|done|fail)) ?_;intro u ⟨hu,hcap2⟩ ih2
  have hBl:(A++(p.gs.take u.1).map (D5 s.hd P)).length=A.length+u.1:=by
   rw[List.length_append,List.length_map,List.length_take,Nat.min_eq_left hu]
  obtain⟨B,hB⟩:∃B,A++(p.gs.take u.1).map (D5 s.hd P)=B:=⟨_,rfl⟩
  rw[hB]at hBl hcap2 ⊢
  by_cases hlt3:u.1<p.gs.length
  ·obtain⟨g1,g2,g3⟩:=gl3 u.1 hlt3;have hgf:=H8 (gs:=p.gs) g1 g2 0
   have hmem:p.gs.getD u.1 default∈p.gs:=by
    rw[List.getD_eq_getElem?_getD,List.getElem?_eq_getElem hlt3,Option.getD_some];exact List.getElem_mem hlt3
   obtain⟨hT,hpO,hba,hbb,hla,hlb⟩:=hgk _ hmem
   have hB1:A++(p.gs.take (u.1+1)).map (D5 s.hd P)=B++[D5 s.hd P (p.gs.getD u.1 default)]:=by
    rw[r7 p.gs hlt3,List.map_append,<-List.append_assoc,hB];rfl
   obtain⟨g,hge⟩:∃g,p.gs.getD u.1 default=g:=⟨_,rfl⟩
   obtain⟨b,hbe⟩:∃b,gl.getD u.1 default=b:=⟨_,rfl⟩
   have hbe':gl.getD (u.1:Int).toNat default=b:=hbe;rw[hge]at g3 hgf hT hpO hba hbb hla hlb hB1;rw[hbe]at g3 hgf;have hgf:(pO (gl.getD (u.1:Int).toNat default)).map (·.self 0)=DQ g.first (.lsl 0 b.k 0 g.ms.length g.ms.length 0):=by rw[hbe'];exact hgf
   have hlt4:u.1<gl.length:=by omega
   obtain⟨q,hq⟩:∃q,D5 s.hd P g=q:=⟨_,rfl⟩
   have hq2:eh (Ru s.hd P g) (f_ s.hd P g).1 (f_ s.hd P g).2=q:=hq;have hpH:kB P g.first (g.ms.length:Nat) ((f_ s.hd P g).1.length:Nat) ((f_ s.hd P g).2.length:Nat) (c9 (f_ s.hd P g).1) (c9 (f_ s.hd P g).2) (c9 (wr (fT P g.first (g.ms.length:Nat) ((f_ s.hd P g).1.length:Nat) ((f_ s.hd P g).2.length:Nat) (c9 (f_ s.hd P g).1) (c9 (f_ s.hd P g).2))))=Ru s.hd P g:=rfl
   obtain⟨pa,hpa⟩:∃x,(f_ s.hd P g).1=x:=⟨_,rfl⟩
   obtain⟨pb,hpb⟩:∃x,(f_ s.hd P g).2=x:=⟨_,rfl⟩
   have hpO:yE s.hd P g.ms g.first = .inr (pa,pb):=by rw[hpO,<-hpa,<-hpb]
   rw[hpa,hpb]at hq2 hpH;rw[hpa]at hba hla;rw[hpb]at hbb hlb;rw[hq]at hB1;have hT1:=hT.pos;have hT2:=hT.many;have hT3:=hT.all
   have hpk2:xZ P g.first (g.ms.length:Nat) pa.length pb.length (s.hd.cols*s.hd.rows):=⟨hph,hT1,by omega,by omega,by omega,hla,hlb⟩
   have hbl0:∀c∈ik 0 B,c.lL B.length=true:=nQ B 0 B.length (by omega);have hql:q.length=21+pa.length+pb.length:=by rw[<-hq2,eQ]
   repeat' (first
    |(refine qz ?_;first
     |refine kD ?_
     |refine l5 ?_
     |refine jU (zs:=DQ 0 .nils) (hz:=zl) ?_
     |refine Ck (enc:=pO) ?_ gl1 hlt4 (hc':=hgf)
     |refine qI (cs:=b9 s.hd) ?_ (hle:=by rw[dh];decide) (hc:=r6 _ _)
     |refine qI (cs:=tu P) ?_ (hle:=by decide) (hc:=by exact rfl)
     |refine ld (c := .int .i64 s.hd.cols) ?_
     |refine ld (c := .int .i64 s.hd.rows) ?_
     |refine cl ?_ (hi:=by exact Mj hT g3 hpO rfl (K:=5) (i:=0) rfl rfl (by decide) nL nA rfl)
     |refine cl ?_ (hi:=by exact Cx hpk2 hba hbb hpH hq2 rfl (i:=20) (j:=21) rfl rfl (by decide) nL nA rfl))
    |refine lq 19 ?_|refine uo 19 ?_|refine zz ?_|refine zx (fun _=>?_) (fun _=>?_)|fail)
   refine⟨?_⟩;refine WX.sW (L:=B.map (il .u8)) (vs:=il .u8 q) 22 1 q.length (.toEnd 1) [(1,.one (.ptr 2 0)),(8,.one (.ptr 5 0)),(35,.one (.lsl 0 k 0 s.ps.length s.ps.length 0)),(36,.one (.int .i64 (s.ps.length:Nat))),(37,.one (.int .i64 (t.1:Nat))),(10,.one (.ptr 18 0)),(42,.one (.lsl 0 a.k 0 p.gs.length p.gs.length 0)),(43,.one (.int .i64 (p.gs.length:Nat))),(7,.one (.slice 4 0 B.length u.2.1)),(44,.one (.int .i64 (u.1:Nat))),(15,.one (.int .i64 0)),(16,.one (.lsl 1 B.length 0 q.length q.length 0))] [.late L,.late (B.map (il .u8)++[il .u8 q]),.cells (fJ s.hd (.lsl 0 k 0 s.ps.length s.ps.length 0)) 36 false false,.dead,Aq B u.2.2,fc 6 10 14,aX 7 8 9 cM,db cM,df cM,dc cM,aX 11 12 13 cZ,db cZ,df cZ,dc cZ,aX 15 16 17 cP,db cP,df cP,dc cP,.cells (tt P (.lsl 0 a.k 0 p.gs.length p.gs.length 0)) 87 false false,.dead,.dead,.dead,.dead] (gD .u8 q B.length) (.inr ⟨1,rfl,Nat.one_pos,by rw[bz];omega⟩) (DC B) (hv:=eU (gD .u8 q 0) 1) (hH:=by repeat' (first|exact bd.nil|refine bd.ghost ?_|refine bd.flat rfl ?_|refine bd.cells rfl (dP.same (j0 (by simp[XC.mw]))) ?_|refine bd.cells rfl (dP.same (gw (by assumption) _ _)) ?_|refine bd.cells rfl (dP.same (by simp[XC.mw,c7,eE])) ?_|refine bd.dead ?_)) (hok:=(ny (objs:=by repeat' (first|exact ax.nil|refine ax.cons (cY (show 0<_ from Nat.le_of_ble_eq_true rfl)) ?_|refine ax.cons (tp (Nat.le_of_ble_eq_true rfl)) ?_|refine kz ?_)))) (h:=?_)
   repeat' (first
    |(refine qz ?_;first
     |refine t5 (zs:=[.nils]) ?_
     |refine Tk 4 B.length hcap2 ?_ ?_ (hn:=by rw[DD,Nat.mul_one]))
    |refine zz ?_|refine zx (fun _=>?_) (fun _=>?_)|fail)
   all_goals exact ih2 (u.1+1,.toEnd 1,true) _ _ _ (bW [0,1,2,3,24,5,6,7,8,9,10,11,12,13,14,15,16,17,18] (obj:=by(repeat' (first|exact ae.nil|refine ae.flat (by rw[hB1,HB];rfl) ?_|refine bh rfl rfl ?_|refine L6 hB1 rfl rfl ?_|refine oz ?_));first|done|fail) (reg:=by(repeat' (first|exact ai.nil|refine ai.cons (by rw[hB1,List.length_append];rfl) ?_|refine rz ?_|refine ai.sl rfl (by assumption) rfl ?_));first|done|fail)) ⟨by show u.1+1<=_;omega,.inr ⟨rfl,rfl,by rw[hB1,List.length_append];exact Nat.succ_pos _⟩⟩ (by show _-(u.1+1)<_;omega)
  ·have e0:u.1=p.gs.length:=by omega
   rw[e0,List.take_length,<-hnx]at hB;clear ih2;subst hB
   repeat' (first
    |(refine qz ?_;first
     |refine kD ?_)
    |refine zz ?_|refine zx (fun _=>?_) (fun _=>?_)|fail)
   exact ih (t.1+1,u.2) _ _ _ (bW [0,1,2,3,4,5,6,7,8,9,10,11,12,13,14,15,16,17] (obj:=by(repeat' (first|exact ae.nil|refine bh rfl rfl ?_|refine yD rfl rfl ?_|refine oz ?_));first|done|fail)) ⟨by show t.1+1<=_;omega,hcap2,by rw[hBl];show _<=1+9*(t.1+1);omega⟩ (by show _-(t.1+1)<_;omega)
 ·have e0:t.1=s.ps.length:=by omega
  rw[e0,List.take_length,<-hpk]at hA;clear ih;subst hA
  obtain⟨A,hA⟩:∃A,iF s=A:=⟨_,rfl⟩
  rw[hA]at hcap hfew ⊢;have hbl0:∀c∈ik 0 A,c.lL A.length=true:=nQ A 0 A.length (by omega)
  have hcp:(∃c,t.2.1 = .exact c/\A.length<=c)\/∃z,t.2.1 = .toEnd z/\0<z/\A.length*z<=((ik 0 A).map (·.self 1)).length:=by
   rcases hcap with h|⟨h,_⟩
   ·exact .inl ⟨_,h,Nat.le_refl _⟩
   ·exact .inr ⟨1,h,Nat.one_pos,by rw[DD];omega⟩
  repeat' (first
   |(refine qz ?_;first
    |refine kD ?_)
   |refine lq 24 ?_|refine uo 24 ?_|refine zz ?_|refine zx (fun _=>?_) (fun _=>?_)|fail)
  refine⟨?_⟩;refine WX.sW (L:=A.map (il .u8)) (vs:=ik 0 A) 4 1 A.length t.2.1 [(7,.one (.lsl 1 A.length 0 A.length A.length 0))] [.late L,.late (A.map (il .u8)++[ik 0 A]),.dead,.dead,.dead,.dead,.dead,.dead,.dead,.dead,.dead,.dead,.dead,.dead,.dead,.dead,.dead,.dead] hbl0 hcp (DC A) (hH:=by repeat' (first|exact bd.nil|refine bd.ghost ?_|refine bd.flat rfl ?_|refine bd.dead ?_)) (h:=?_)
  repeat' (first|refine zz ?_|refine zx (fun _=>?_) (fun _=>?_)|fail)
  show aE _ _ _ _ _ _ _ _;refine kV [0,1] ?_;rfl
theorem Cv{s:tP}(hs:lG s){L:List (List XC)}{k n i:Nat}(hp:wN L k s.ps)(hn:s.ps.length=n){ps:List (List Int)}(hps:iF s=ps){m:Nat}(hm:ps.length=m){HS:aj}(hi:HS[i]? = some (.late L)){N:Nat}(hN:HS.length=N){HS':aj}(hh:HS++[.late (wq ps)]=HS')(hbd:Nat.blt HS'.length Mem.bound=true) :
 aA.Sound prog ⟨12,[.agg (fJ s.hd (.lsl i k 0 n n 0))],HS,.tup [.one (.lsl N m 0 m m 0),.one (.int .i64 0)],HS',[i]⟩:=by
 subst hN;refine bI [i] [i] 1 (Av hs hp hn hps hm) (by simp) (.flat hi .nil) (.flat .nil) (.flat (.flat .nil)) rfl (.cons (lP (show 0<_ from Nat.le_of_ble_eq_true rfl)) .nil) (.cons (qW rfl) .nil) (L5 (show 1<2 by omega) trivial) rfl (.flat (.flat .nil)) rfl rfl (by simp only[bJ];rw[aG hi];exact hh) hbd (.inl rfl)
structure Ux where
 m:List Bool
 at_:Nat
 last:Int
structure Uy where
 out:List (List Bool)
 yB:List Bool
 at_:Nat
 last:Int
structure Pk where
 ph:Ph
 first:Int
 count:Int
 A:List Int
 Bb:List Int
 B:List Bool
instance:Inhabited Pk:=⟨⟨⟨0,false,false,0⟩,0,0,[],[],[]⟩⟩
def cx(k:Pk):Nat:=21+k.A.length+k.Bb.length
structure Fo where
 k:Pk
 at_:Nat
instance:Inhabited Fo:=⟨⟨default,0⟩⟩
def H6(g j:Nat)(f:Fo):List XC:=CY f.k.ph f.k.first f.k.count (.lsl g (2*j) 0 f.k.A.length f.k.A.length 0) (.lsl g (2*j+1) 0 f.k.Bb.length f.k.Bb.length 0) (cx f.k:Nat)++[.int .i64 (f.at_:Nat)]
def pj(g:Nat):Nat->List Fo->List XC
 | _,[]=>[]
 | j,f::l=>H6 g j f++pj g (j+1) l
theorem zN(g:Nat)(f:Fo):∀(l:List Fo) (j:Nat),pj g j (l++[f])=pj g j l++H6 g (j+l.length) f
 | [],j=>by
   show H6 g j f++[] = []++_;rw[List.append_nil,List.nil_append];rfl
 | x::l,j=>by
   show H6 g j x++pj g (j+1) (l++[f])=(H6 g j x++pj g (j+1) l)++_;rw[zN g f l (j+1),List.append_assoc,List.length_cons,show j+1+l.length=j+(l.length+1) by omega]
theorem tg(g:Nat):∀(l:List Fo) (j:Nat),(pj g j l).length=l.length*12
 | [],j=>rfl
 | f::l,j=>by
   rw[pj,List.length_append,tg g l (j+1),List.length_cons];show 12+_=_;omega
theorem iB(m:Nat):∀(l:List Fo) (j:Nat),2*(j+l.length)<=m->∀c∈pj 0 j l,c.lL m=true
 | [],j,_,c,hc=>by cases hc
 | f :: l,j,h,c,hc=>by
   rw[List.length_cons]at h;rw[pj]at hc
   rcases List.mem_append.1 hc with hc|hc
   ·simp only[H6,CY,List.cons_append,List.nil_append,List.mem_cons,List.not_mem_nil,or_false]at hc
    rcases hc with rfl|rfl|rfl|rfl|rfl|rfl|rfl|rfl|rfl|rfl|rfl|rfl<;>first
     | rfl
     | (simp only[XC.lL,Nat.blt_eq];omega)
   ·exact iB m l (j+1) (by omega) c hc
def BF:List Fo->List (List XC)
 | []=>[]
 | f::l=>il .u8 f.k.A::il .u8 f.k.Bb::BF l
theorem oQ:∀l:List Fo,(BF l).length=2*l.length
 | []=>rfl
 | f::l=>by rw[BF,List.length_cons,List.length_cons,oQ l,List.length_cons];omega
theorem zM(f:Fo):∀l:List Fo,BF (l++[f])=(BF l++[il .u8 f.k.A])++[il .u8 f.k.Bb]
 | []=>rfl
 | x::l=>by
   show il .u8 x.k.A::il .u8 x.k.Bb::BF (l++[f])=_;rw[zM f l];rfl
abbrev Ni:=Nat×Option Pk
structure W9 where
 at_:Nat
 passed:Int
 work:Int
 acc:List Fo
def w9(s:W9)(e:Ni):W9:=match e.2 with
 | .none=>⟨e.1+3,s.passed+((e.1:Int)-(s.at_:Nat))+3,s.work+((e.1:Int)-(s.at_:Nat)+1),s.acc⟩
 | .some k=>⟨e.1+cx k,s.passed+((e.1:Int)-(s.at_:Nat)),s.work+((e.1:Int)-(s.at_:Nat)+1)+(cx k:Nat),s.acc++[⟨k,e.1⟩]⟩
def Qv(b:List Int)(n:Nat)(all:Int)(i:Nat)(k:Pk):Prop:=K3 b i (n-i) k.ph k.first k.count all k.A k.Bb k.B
inductive Steps(b:List Int)(n:Nat)(all:Int):Nat->List Ni->Prop where
 | nil {a:Nat}:a<=n->findF (dB b 0) n a = .none->Steps b n all a []
 | no {a i:Nat} {l:List Ni}:a<=i->i+3<n->findF (dB b 0) n a=some i->b.getD (i+3) 0≠182->Steps b n all (i+3) l->Steps b n all a ((i,.none)::l)
 | pk {a i:Nat} {k:Pk} {l:List Ni}:a<=i->i<n->findF (dB b 0) n a=some i->Qv b n all i k->Steps b n all (i+cx k) l->Steps b n all a ((i,some k)::l)
def gV(h:Hd)(some:Bool)(c:XC)(passed work:Int):List XC:=b9 h++[.bool some,c,.int .i64 passed,.int .i64 work]
theorem bc(h:Hd)(s:Bool)(c:XC)(p w:Int):(gV h s c p w).length=135:=by simp[gV,aF]
theorem C5(h:Hd)(s:Bool)(c:XC)(p w:Int):((gV h s c p w).drop 0).take 131=b9 h:=by
 unfold gV;rw[List.drop_zero,List.take_left' (aF h)]
theorem EC(h:Hd){t:List XC}(j:Nat):(b9 h++t)[131+j]? = t[j]?:=by
 rw[List.getElem?_append_right (by rw[aF];omega),aF,Nat.add_sub_cancel_left]
theorem yW(h:Hd){t:List XC}(j:Nat)(x:XC):(b9 h++t).set (131+j) x=b9 h++t.set j x:=by
 rw[List.set_append_right _ _ (by rw[aF];omega),aF,Nat.add_sub_cancel_left]
theorem Kr(h:Hd)(s:Bool)(c:XC)(p w:Int):(gV h s c p w)[131]? = some (.bool s):=EC h 0
theorem Ks(h:Hd)(s:Bool)(c:XC)(p w:Int):(gV h s c p w)[132]? = some c:=EC h 1
theorem oy(h:Hd)(s:Bool)(c:XC)(p w:Int):(gV h s c p w)[133]? = some (.int .i64 p):=EC h 2
theorem oA(h:Hd)(s:Bool)(c:XC)(p w:Int):(gV h s c p w)[134]? = some (.int .i64 w):=EC h 3
theorem C6(h:Hd)(s s':Bool)(c:XC)(p w:Int):(gV h s c p w).set 131 (.bool s')=gV h s' c p w:=yW h 0 _
theorem PR(h:Hd)(s:Bool)(c c':XC)(p w:Int):(gV h s c p w).set 132 c'=gV h s c' p w:=yW h 1 _
theorem oB(h:Hd)(s:Bool)(c:XC)(p w p':Int):(gV h s c p w).set 133 (.int .i64 p')=gV h s c p' w:=yW h 2 _
theorem m9(h:Hd)(s:Bool)(c:XC)(p w w':Int):(gV h s c p w).set 134 (.int .i64 w')=gV h s c p w':=yW h 3 _
theorem lS:aM prog 45 (gV lr false .nils 0 0):=by
 show aM prog 45 ((.int .i64 0 :: .int .i64 0 :: .bool false::((ti .u8 64 fun _=>0)++(ti .u8 64 fun _=>0)))++[.bool false,.nils,.int .i64 0,.int .i64 0])
 infer_instance
end Go.Proofs.YthdciapjllppjaaGreat
