/-
  A part of the proof: FtF, StrD, StrE, StrH, StrJ, PutK, StrT.
-/
import Derived.Test.YthdciapjllppjaaGreatFbF
import Derived.Test.YthdciapjllppjaaGreatFbX
import Derived.Test.YthdciapjllppjaaGreatFbY
set_option maxRecDepth 10000
set_option maxHeartbeats 8000000
set_option linter.unusedVariables false
set_option linter.unusedSectionVars false
set_option linter.unusedSimpArgs false
open Go.Proofs.Tryz (prog)
namespace Go.Xm
variable [av]
section
variable {P:Program} {ops:Array Oper} {nt nI:Nat} {al:aL} {hs:ah} {o:Oper} {l:List Oper} {L:List aA} {K:List Ab->aL->ah->Prop} {d:Nat}
theorem Ez{t t1 e e1:TypeId}{sz len:Nat}{a b:Operand}{zs:List XC}(i n:Nat){j:Nat}{cap:oV}(cs:List XC){vs:List XC}{et:TypeId}{opn ro:Bool}{N:Nat}{hs':ah}(hk:SK P ops nt L l ((d,ee N (n+len) sz)::al) hs' fun bs=>K (⟨true,.none,[i,N]⟩::bs))(ho:o.op = .call ⟨.builtin .append,#[a,b],#[t,t1]⟩:=by exact rfl)(hu:aG P t (.slice e):=by infer_instance)(hu1:aG P t1 (.slice e1):=by infer_instance)(hz:aI P e zs:=by infer_instance)(hI:TI P e sz:=by infer_instance)(wn:Wn ops nt al o d:=by exact⟨rfl,rfl,rfl⟩)(hsz:zs.length=sz/\0<sz:=by exact⟨rfl,Nat.le_of_ble_eq_true rfl⟩)(ha:ag (rg al) a=ee i n sz:=by exact rfl)(hi:hs[i]? = some (bz e cs):=by exact rfl)(hb:ag (rg al) b = .one (.slice j 0 len cap):=by exact rfl)(hj:hs[j]? = some (.cells vs et opn ro):=by exact rfl)(hl:vs.length=len*sz:=by exact rfl)(hn:cs.length=n*sz:=by exact rfl)(hm:0<len/\n+len<=2000000000:=by omega)(hN:hs.length=N:=by exact n2)(hbd:Nat.blt N Mem.bound=true:=by exact rfl)(hh:hs.set i .dead++[bz e (cs++vs)]=hs':=by first|(simp only[List.set_cons_succ,List.set_cons_zero,List.cons_append,List.nil_append];exact rfl)|exact rfl):SK P ops nt L (o::l) al hs K:=by
 have hpos:0<len*sz:=Nat.mul_pos hm.1 hsz.2
 have hne:cs++vs≠[]:=fun e=>by
  have h2:(cs++vs).length=0:=by rw[e];rfl
  rw[List.length_append]at h2;omega
 refine Sv i n cs ?_ ho hu hu1 hz hI wn hsz ha hi hb hj hl hn hm hN hbd (hs':=hs') ?_
 ·rw[dp (by omega)]at hk;exact hk
 ·rw[<-hh,bG hne]
end
theorem da.lA{L:List (List XC)}{g g' m:Nat}{c:XC}{vs:List XC}{n:Nat}(h:da L g' c vs n)(hne:g'≠g):c.lA g m:=by
 rcases h with⟨_,rfl|⟨i,rfl⟩⟩|⟨k,fl,_,rfl,_⟩
 ·trivial
 ·trivial
 ·exact fun e=>absurd e hne
theorem a_.Se{i g m:Nat}{A B:XC}{L:List (List XC)}{vs cs:List XC}{e:TypeId}{j:Nat}{hs hs2:ah}(hj:Nat.beq j i=false)(hn:∀c∈cs,c.lA g m)(h:a_ i g m A B L vs (j+1) hs hs2):a_ i g m A B L vs j (Xm.bz e cs::hs) (Xm.bz e cs::hs2):=by
 cases cs with
 | nil=>exact .dead h
 | cons c r=>exact .cells hj (.same hn) h
theorem jf{cs:List XC}{e:TypeId}{n:Nat}(h:∀c∈cs,c.ok n):(bz e cs).br n:=by
 cases cs with
 | nil=>trivial
 | cons c r=>exact h
theorem eX{vs:List XC}{m:Nat}(h:∀c∈vs,c.iF m=true){g n:Nat}(hg:g<n):∀c∈vs.map (·.self g),c.ok n:=uX (t:=0) (a:=false) (b:=false) h hg
theorem dM{τ : Nat->Nat}{HS:ah}{i:Nat}{ls:List Nat}{hs:ah}{vs:List XC}{e:TypeId}{g m:Nat}(hl:∀c∈vs,c.iF m=true)(hi:HS[i]? = some (bz e (vs.map (·.self g))))(hg : τ g=g)(r:af τ HS ls hs):af τ HS (i::ls) (bz e (vs.map (·.self g))::hs):=by
 refine af.cons ?_ r;rw[hi]
 cases hv:vs.map (·.self g)with
 | nil=>rfl
 | cons c r=>
   have:=rN hl g τ;rw[hg,hv]at this;show some (aj.cells (c::r) e true false)=some (.cells ((c::r).map (·.aB τ)) e true false);rw[this]
end Go.Xm
namespace Go.Proofs.YthdciapjllppjaaGreat
open Go.Xm
variable [av]
theorem y8:aI prog 125 (ek 0 0 0 .nils .nils):=by
 show aI prog 125 [.int .u8 0,.int .u16 0,.int .u16 0,.nils,.nils]
 infer_instance
theorem Jo{L:List (List XC)}{l:List oO}{q:List pZ}(h:oX L l q){i:Nat}(hi:i<q.length)(g:Nat):∃co cm,i<l.length/\(kE (l.getD i default)).map (·.self g)=ek (q.getD i default).kind (q.getD i default).at_ (q.getD i default).burst co cm/\da L g co (il .u16 (q.getD i default).odd) (q.getD i default).odd.length/\da L g cm (il .u8 (q.getD i default).mask) (q.getD i default).mask.length/\cm=(l.getD i default).cm.self g/\da L 0 (l.getD i default).cm (il .u8 (q.getD i default).mask) (q.getD i default).mask.length:=by
 obtain⟨h1,h2,h3,h4,h5⟩:=h.2 i hi;refine⟨_,_,by rw[h.1];exact hi,?_,h4.self g,h5.self g,rfl,h5⟩;rw[<-h1,<-h2,<-h3];rfl
def KC(x:List (List XC)×List sC):List (List XC):=if x.2.length=0 then x.1 else x.1++[fl i4 x.2]
def KD(x:List (List XC)×List sC)(g:Nat):XC:=if x.2.length=0 then .nils else .lsl g x.1.length 0 x.2.length x.2.length 0
theorem HR{x:List (List XC)×List sC}(g:Nat):da (KC x) g (KD x g) (fl i4 x.2) x.2.length:=by
 unfold KC KD;split
 ·rename_i h;exact .inl ⟨h,.inl rfl⟩
 ·refine .inr ⟨_,_,Nat.le_refl _,rfl,?_⟩;rw[List.getElem?_append_right (Nat.le_refl _),Nat.sub_self];rfl
theorem Ff{L:List (List XC)}{l:List sC}{fs:List Fa}(h:kZ L l fs)(r:List (List XC)):kZ (L++r) l fs:=
 ⟨h.1,fun i hi=>⟨(h.2 i hi).1,da.mono (h.2 i hi).2 r⟩⟩
theorem NX{x:List (List XC)×List sC}{fs:List Fa}(h:kZ x.1 x.2 fs):kZ (KC x) x.2 fs:=by
 unfold KC;split
 ·exact h
 ·exact Ff h _
theorem u1{k n z g m:Nat}(h:k≠g):(eY k n z).lA g m:=by
 unfold eY;split
 ·trivial
 ·exact h
theorem Qw{i g m:Nat}{A B:XC}{L:List (List XC)}{ws:List XC}{e:TypeId}{j:Nat}{hs hs2:ah}{vs:List XC}(hso:bz e (vs.map (·.self g)++[.bool false,A]) = .cells (vs.map (·.self g)++[.bool false,A]) e true false)(hl:∀c∈vs,c.iF m=true)(hj:Nat.beq j i=false)(h:a_ i g m A B L ws (j+1) hs hs2):a_ i g m A B L ws j (bz e (vs.map (·.self g)++[.bool false,A])::hs) (.cells (vs.map (·.self g)++[.bool false,B]) e true false::hs2):=by
 rw[hso];exact .cells hj (dR.app (dR.same (gL hl _ _)) (dR.cons (.same trivial) (.cons .zE (.same (fun _ h=>nomatch h))))) h
theorem DM{vs:List XC}{m g n k p fL:Nat}{e:TypeId}{a b c:Bool}(hl:∀c∈vs,c.iF m=true)(hg:g<n):(aj.cells (vs.map (·.self g)++[.bool c,.lsl g k 0 p fL 0]) e a b).br n:=fun x hx=>by
 rcases List.mem_append.1 hx with hx|hx
 ·exact eX hl hg x hx
 ·simp only[List.mem_cons,List.not_mem_nil,or_false]at hx
  rcases hx with rfl|rfl
  ·trivial
  ·exact hg
structure xI(ps:List (List Int)):Prop where
 len:ps.length<=1000
 body:∀i,0<i->i<ps.length->21<=(ps.getD i []).length/\(ps.getD i []).length<=100000000
 byte:∀i,aW (ps.getD i [])
 prt:∀i,i+1<ps.length->fu (ps.getD (i+1) [])=((((Ah ps i).1:Nat):Int),(((Ah ps i).2:Nat):Int))/\(1<=(Ah ps i).1/\(Ah ps i).1<=30000)/\(1<=(Ah ps i).2/\(Ah ps i).2<=30000)
theorem yk(ps:List (List Int)):∀n i,i+1<n->(oR ps n).getD i default=fu (ps.getD (i+1) [])
 | 0,i,h=>by omega
 | n + 1,i,h=>by
   rw[oR,if_neg (by omega),List.getD_eq_getElem?_getD]
   by_cases hi:i+1<n
   ·rw[List.getElem?_append_left (by rw[jd];omega),<-List.getD_eq_getElem?_getD];exact yk ps n i hi
   ·obtain rfl:n=i+1:=by omega
    rw[List.getElem?_append_right (by rw[jd];omega),jd,show i-(i+1-1)=0 by omega];rfl
theorem E7{LA:List (List XC)}{l:List oO}{q:List pZ}(hq:oX LA l q)(ps:List (List Int))(i:Nat):(o7 LA l q ps i).2.length=min i q.length:=by
 rw[(nJ hq ps i).1,ow]
theorem EZ{LP LA:List (List XC)}{cs:List XC}{ps:List (List Int)}(hb:nr LP cs ps){l:List oO}{q:List pZ}(hq:oX LA l q){c d:XC}(hc:da LP 0 c cs ps.length)(hd:da LA 1 d (fl kE l) q.length)(hqk:∀i,i<q.length->p5 (q.getD i default)/\(q.getD i default).odd.length<=30)(hps:xI ps)(hql:q.length<=1000){x:List (List XC)×List sC}(hx:o7 LA l q ps (ps.length-1)=x) :
 bm prog 19 [.one c,.one d] [.late LP,.late LA] (.one (KD x 2)) [.late LP,.late LA,.late (KC x)]:=by
 have hcok:∀n,c.ok (n+2):=fun n=>hc.ok (by omega)
 have hdok:∀n,d.ok (n+2):=fun n=>hd.ok (by omega)
 have hpl:=hps.len
 obtain⟨np,hnp⟩:∃n,ps.length-1=n:=⟨_,rfl⟩
 obtain⟨prt,hprt⟩:∃p,oR ps ps.length=p:=⟨_,rfl⟩
 have hprl:prt.length=np:=by rw[<-hprt,jd,hnp]
 have hpra:=fun i (hi:i+1<ps.length)=>yk ps ps.length i hi
 rw[hprt]at hpra;have hpp:=hps.prt;have hbody:=hps.body;have hbyte:=hps.byte;rw[hnp]at hx
 obtain⟨fr,hfr⟩:∃f,o7 LA l q ps=f:=⟨_,rfl⟩
 have hfrl:∀i,(fr i).2.length=min i q.length:=fun i=>by rw[<-hfr];exact E7 hq ps i
 have hfri:∀i,kZ (fr i).1 (fr i).2 (jX q ps i):=fun i=>by rw[<-hfr];exact nJ hq ps i
 have hfr0:fr 0=([],[]):=by rw[<-hfr];rfl
 have hfrs:∀i,fr (i+1)=if i<q.length then lh LA (fr i) (l.getD i default) (q.getD i default) (Ah ps i).1 (Ah ps i).2 else fr i:=fun i=>by rw[<-hfr];rfl
 rw[hfr]at hx;refine cO Tryz.func19 ?_;refine WX.ghost rfl ?_;refine WX.cj rfl ?_
 repeat' (first
  |(refine qz ?_;first
   |refine cl ?_ (hi:=by exact uB hb (i:=0) hc rfl (by omega) hbody hbyte hprt rfl nL nA rfl))
  |refine zz ?_|refine zx (fun _=>?_) (fun _=>?_)|fail)
 rw[hnp];refine WX.bQ (σ:=Nat) (fun i=>[(1,.one d),(9,ee 4 np 2),(10,.one (.int .i64 (np:Nat))),(5,ee 3 (fr i).2.length 2),(11,.one (.int .i64 (i:Nat)))]) (fun i=>[.late LP,.late LA,.late (fr i).1,bz 69 ((fl i4 (fr i).2).map (·.self 2)),bz 79 (fl sI prt)]) (fun i=>i<=np) (fun i=>np-i) 0 (Nat.zero_le _) (fun i _=>by have hz:=i7 (hfri i);exact stM (objs:=by repeat' (first|exact aq.nil|refine aq.flat ?_|refine aq.cons (jf (eX (by assumption) (Nat.le_of_ble_eq_true rfl))) ?_))) (bq [0,1,2,3,4] (obj:=by(repeat' (first|exact af.nil|refine af.flat (by rw[hfr0];rfl) ?_|refine af.cons (by rw[hfr0];rfl) ?_|refine oz ?_));first|done|fail) (reg:=by(repeat' (first|exact ae.nil|refine ae.ia rfl (by assumption) rfl ?_|refine ae.cons (by rw[hfr0];rfl) ?_|refine rz ?_|refine ae.sl rfl (by assumption) rfl ?_));first|done|fail)) ?_;intro i hi ih;have hlok:=i7 (hfri i);have hln:=hfrl i;have hcl:((fl i4 (fr i).2).map (·.self 2)).length=(fr i).2.length*2:=by rw[List.length_map,ue]
 by_cases hlt:i<np
 ·have hpi : i+1<ps.length:=by omega
  obtain⟨p1,p2,p3⟩:=hpp i hpi;have hpe:prt.getD i default=((((Ah ps i).1:Nat):Int),(((Ah ps i).2:Nat):Int)):=(hpra i hpi).trans p1
  obtain⟨a,ha⟩:∃a,(Ah ps i).1=a:=⟨_,rfl⟩
  obtain⟨b,hbb⟩:∃b,(Ah ps i).2=b:=⟨_,rfl⟩
  have hfs:=hfrs i;rw[ha,hbb]at hpe hfs;rw[ha]at p2;rw[hbb]at p3
  by_cases hlq:i<q.length
  ·rw [if_pos hlq]at hfs;obtain⟨sok,sodd⟩:=hqk i hlq;obtain⟨co,cm,s1,s2,s3,s4,s5,s6⟩:=Jo hq hlq 1
   obtain⟨s,hse⟩:∃s,q.getD i default=s:=⟨_,rfl⟩
   rw[hse]at sok sodd s2 s3 s4 s6 hfs
   have hA:GV LA 1 s co cm a b:=⟨s3,s4,sok,sodd,p2,p3⟩
   have hkk:=sok.kind
   obtain⟨f,hf⟩:∃f,fF s a b=f:=⟨_,rfl⟩
   have hrm:∀{G':Prop},G'->G':=fun h=>h
   repeat' (first
    |(refine qz ?_;first
     |refine lX ?_)
    |refine zI 6 ?_|refine gJ 6 ?_|refine zz ?_|refine zx (fun _=>?_) (fun _=>?_)|fail)
   refine⟨?_⟩;rw[hpe]
   by_cases hk5:s.kind%8<5
   ·have hX:fr (i+1)=((fr i).1,(fr i).2++[⟨decide (s.kind%8=4),.nils⟩]):=by rw[hfs];unfold lh;rw[if_pos hk5]
    have hX1:(fr (i+1)).1=(fr i).1:=by rw[hX]
    have hX2:(fr (i+1)).2=(fr i).2++[⟨decide (s.kind%8=4),.nils⟩]:=by rw[hX]
    have hlo:f.lost=decide (s.kind%8=4):=by rw[<-hf];unfold fF;rw[if_pos hk5]
    have hcsx:(fl i4 ((fr i).2++[⟨decide (s.kind%8=4),.nils⟩])).map (·.self 2)=(fl i4 (fr i).2).map (·.self 2)++[.bool (decide (s.kind%8=4)),.nils]:=by
     unfold fl;rw[List.flatMap_append,List.map_append];rfl
    repeat' (first
     |(refine qz ?_;first
      |refine rC (fun kk hkk=>?_)
      |refine kD (enc:=kE) ?_ (by assumption) s1 (hc':=s2)
      |refine cl ?_ (hi:=by exact qf hA (.inl hk5) hf (if_pos hk5) rfl rfl)
      |refine vO (zs:=[.bool false,.nils]) (hz:=mO) ?_
      |refine Ez 3 (fr i).2.length ((fl i4 (fr i).2).map (·.self 2)) ?_ (hn:=hcl))
     |refine zz ?_|refine zx (fun _=>?_) (fun _=>?_)|fail)
    rw[hlo];exact ih (i+1) _ _ _ (bq [0,1,2,7,4] (obj:=by(repeat' (first|exact af.nil|refine dM (i7 (hfri (i+1))) (by rw[hX2,hcsx];rfl) rfl ?_|refine af.flat (by rw[hX1];rfl) ?_|refine oz ?_));first|done|fail) (reg:=by(repeat' (first|exact ae.nil|refine ae.ia rfl (by assumption) rfl ?_|refine ae.jD rfl rfl (by rw[hX2,List.length_append];rfl) ?_|refine rz ?_|refine ae.sl rfl (by assumption) rfl ?_));first|done|fail)) (by omega) (by omega)
   ·by_cases hk7:s.kind%8=7
    ·have hlo:f.lost=false:=by rw[<-hf];unfold fF;rw[if_neg hk5,if_pos hk7]
     obtain⟨fl0,fm0⟩:=f;obtain rfl:fl0=false:=hlo
     rcases s6 with⟨z0,e|⟨k,e⟩⟩|⟨k,fL,z1,e,z3⟩
     ·rw[e]at s5;obtain rfl:cm = .nils:=s5;have hX:fr (i+1)=((fr i).1,(fr i).2++[⟨false,.nils⟩]):=by rw[hfs];unfold lh;rw[if_neg hk5,if_pos hk7,e]
      have hX1:(fr (i+1)).1=(fr i).1:=by rw[hX]
      have hX2:(fr (i+1)).2=(fr i).2++[⟨false,.nils⟩]:=by rw[hX]
      have hcsx:(fl i4 ((fr i).2++[⟨false,.nils⟩])).map (·.self 2)=(fl i4 (fr i).2).map (·.self 2)++[.bool false,.nils]:=by
       unfold fl;rw[List.flatMap_append,List.map_append];rfl
      repeat' (first
       |(refine qz ?_;first
        |refine rC (fun kk hkk=>?_)
        |refine kD (enc:=kE) ?_ (by assumption) s1 (hc':=s2)
        |refine cl ?_ (hi:=by exact qf hA (.inr hk7) hf (if_neg hk5) rfl rfl)
        |refine vO (zs:=[.bool false,.nils]) (hz:=mO) ?_
        |refine Ez 3 (fr i).2.length ((fl i4 (fr i).2).map (·.self 2)) ?_ (hn:=hcl))
       |refine zz ?_|refine zx (fun _=>?_) (fun _=>?_)|fail)
      exact ih (i+1) _ _ _ (bq [0,1,2,7,4] (obj:=by(repeat' (first|exact af.nil|refine dM (i7 (hfri (i+1))) (by rw[hX2,hcsx];rfl) rfl ?_|refine af.flat (by rw[hX1];rfl) ?_|refine oz ?_));first|done|fail) (reg:=by(repeat' (first|exact ae.nil|refine ae.ia rfl (by assumption) rfl ?_|refine ae.jD rfl rfl (by rw[hX2,List.length_append];rfl) ?_|refine rz ?_|refine ae.sl rfl (by assumption) rfl ?_));first|done|fail)) (by omega) (by omega)
     ·rw[e]at s5;obtain rfl:cm = .lem k:=s5;have hX:fr (i+1)=((fr i).1,(fr i).2++[⟨false,.lem k⟩]):=by rw[hfs];unfold lh;rw[if_neg hk5,if_pos hk7,e]
      have hX1:(fr (i+1)).1=(fr i).1:=by rw[hX]
      have hX2:(fr (i+1)).2=(fr i).2++[⟨false,.lem k⟩]:=by rw[hX]
      have hcsx:(fl i4 ((fr i).2++[⟨false,.lem k⟩])).map (·.self 2)=(fl i4 (fr i).2).map (·.self 2)++[.bool false,.lem k]:=by
       unfold fl;rw[List.flatMap_append,List.map_append];rfl
      repeat' (first
       |(refine qz ?_;first
        |refine rC (fun kk hkk=>?_)
        |refine kD (enc:=kE) ?_ (by assumption) s1 (hc':=s2)
        |refine cl ?_ (hi:=by exact qf hA (.inr hk7) hf (if_neg hk5) rfl rfl)
        |refine vO (zs:=[.bool false,.nils]) (hz:=mO) ?_
        |refine Ez 3 (fr i).2.length ((fl i4 (fr i).2).map (·.self 2)) ?_ (hn:=hcl))
       |refine zz ?_|refine zx (fun _=>?_) (fun _=>?_)|fail)
      exact ih (i+1) _ _ _ (bq [0,1,2,7,4] (obj:=by(repeat' (first|exact af.nil|refine dM (i7 (hfri (i+1))) (by rw[hX2,hcsx];rfl) rfl ?_|refine af.flat (by rw[hX1];rfl) ?_|refine oz ?_));first|done|fail) (reg:=by(repeat' (first|exact ae.nil|refine ae.ia rfl (by assumption) rfl ?_|refine ae.jD rfl rfl (by rw[hX2,List.length_append];rfl) ?_|refine rz ?_|refine ae.sl rfl (by assumption) rfl ?_));first|done|fail)) (by omega) (by omega)
     ·rw[e]at s5;obtain rfl:cm = .lsl 1 k 0 s.mask.length fL 0:=s5;have hgd:LA.getD k []=il .u8 s.mask:=by rw[List.getD_eq_getElem?_getD,z3];rfl
      have hX:fr (i+1)=((fr i).1++[il .u8 s.mask],(fr i).2++[⟨false,.lsl 0 (fr i).1.length 0 s.mask.length fL 0⟩]):=by rw[hfs,<-hgd];unfold lh;rw[if_neg hk5,if_pos hk7,e]
      have hX1:(fr (i+1)).1=(fr i).1++[il .u8 s.mask]:=by rw[hX]
      have hX2:(fr (i+1)).2=(fr i).2++[⟨false,.lsl 0 (fr i).1.length 0 s.mask.length fL 0⟩]:=by rw[hX]
      have hcsx:(fl i4 ((fr i).2++[⟨false,.lsl 0 (fr i).1.length 0 s.mask.length fL 0⟩])).map (·.self 2)=(fl i4 (fr i).2).map (·.self 2)++[.bool false,.lsl 2 (fr i).1.length 0 s.mask.length fL 0]:=by
       unfold fl;rw[List.flatMap_append,List.map_append];rfl
      repeat' (first
       |(refine qz ?_;first
        |refine rC (fun kk hkk=>?_)
        |refine kD (enc:=kE) ?_ (by assumption) s1 (hc':=s2)
        |refine cl ?_ (hi:=by exact qf hA (.inr hk7) hf (if_neg hk5) rfl rfl)
        |refine vO (zs:=[.bool false,.nils]) (hz:=mO) ?_
        |refine Ez 3 (fr i).2.length ((fl i4 (fr i).2).map (·.self 2)) ?_ (hn:=hcl))
       |refine zI 7 ?_|refine gJ 7 ?_|refine zz ?_|refine zx (fun _=>?_) (fun _=>?_)|fail)
      refine⟨?_⟩;have hso:bz 69 ((fl i4 (fr i).2).map (·.self 2)++[.bool false,.lsl 1 k 0 s.mask.length fL 0]) = .cells ((fl i4 (fr i).2).map (·.self 2)++[.bool false,.lsl 1 k 0 s.mask.length fL 0]) 69 true false:=bG (by simp);have hso2:bz 69 ((fl i4 (fr i).2).map (·.self 2)++[.bool false,.lsl 2 (fr i).1.length 0 s.mask.length fL 0]) = .cells ((fl i4 (fr i).2).map (·.self 2)++[.bool false,.lsl 2 (fr i).1.length 0 s.mask.length fL 0]) 69 true false:=bG (by simp)
      refine WX.QR (L:=(fr i).1) (L':=LA) (vs:=il .u8 s.mask) 1 k 0 s.mask.length fL 0 2 [(1,.one d),(9,ee 4 np 2),(10,.one (.int .i64 (np:Nat))),(11,.one (.int .i64 (i:Nat))),(5,ee 7 ((fr i).2.length+1) 2)] [.late LP,.late LA,.late ((fr i).1++[il .u8 s.mask]),.dead,bz 79 (fl sI prt),.dead,.dead,.cells ((fl i4 (fr i).2).map (·.self 2)++[.bool false,.lsl 2 (fr i).1.length 0 s.mask.length fL 0]) 69 true false] (ll .u8 s.mask 0) rfl z3 (hH:=by
       repeat' (first|exact a_.nil|refine a_.ghost ?_|refine a_.flat rfl ?_|refine Qw hso hlok rfl ?_|refine a_.dead ?_)) (hR:=by repeat' (first|exact du.nil|refine du.flat rfl ?_|refine du.one rfl iT.zE ?_|refine du.one rfl (iT.same (da.lA (by assumption) (by decide))) ?_|refine du.one rfl (iT.same (by first|trivial|(simp[XC.lA];done)|exact u1 (by decide))) ?_)) (hok:=stM (objs:=by repeat' (first|exact aq.nil|refine aq.flat ?_|refine aq.cons (DM hlok (Nat.le_of_ble_eq_true rfl)) ?_|refine aq.cons trivial ?_))) (hx:=?_)
      rw[<-hso2]
      repeat' (first|refine zz ?_|refine zx (fun _=>?_) (fun _=>?_)|fail)
      exact ih (i+1) _ _ _ (bq [0,1,2,7,4] (obj:=by(repeat' (first|exact af.nil|refine dM (i7 (hfri (i+1))) (by rw[hX2,hcsx];rfl) rfl ?_|refine af.flat (by rw[hX1];rfl) ?_|refine oz ?_));first|done|fail) (reg:=by(repeat' (first|exact ae.nil|refine ae.ia rfl (by assumption) rfl ?_|refine ae.jD rfl rfl (by rw[hX2,List.length_append];rfl) ?_|refine rz ?_|refine ae.sl rfl (by assumption) rfl ?_));first|done|fail)) (by omega) (by omega)
    ·have hk56:s.kind%8=5\/s.kind%8=6:=by omega
     have hml:(fF s a b).mask.length=a+b:=by
      unfold fF;rw[if_neg hk5,if_neg hk7];split
      ·exact ui ..
      ·show(f6 _ _ _ _ _).length=_;unfold f6;exact uj ..
     have hX:fr (i+1)=((fr i).1++[il .u8 (fF s a b).mask],(fr i).2++[⟨false,.lsl 0 (fr i).1.length 0 (fF s a b).mask.length (fF s a b).mask.length 0⟩]):=by rw[hfs];unfold lh;rw[if_neg hk5,if_neg hk7]
     obtain⟨m,hm⟩:∃m,(fF s a b).mask=m:=⟨_,rfl⟩
     obtain⟨n,hn⟩:∃n,a+b=n:=⟨_,rfl⟩
     rw[hm,hn]at hml;rw[hm,hml]at hX;have hX1:(fr (i+1)).1=(fr i).1++[il .u8 m]:=by rw[hX]
     have hX2:(fr (i+1)).2=(fr i).2++[⟨false,.lsl 0 (fr i).1.length 0 n n 0⟩]:=by rw[hX]
     have hcsx:(fl i4 ((fr i).2++[⟨false,.lsl 0 (fr i).1.length 0 n n 0⟩])).map (·.self 2)=(fl i4 (fr i).2).map (·.self 2)++[.bool false,.lsl 2 (fr i).1.length 0 n n 0]:=by
      unfold fl;rw[List.flatMap_append,List.map_append];rfl
     repeat' (first
      |(refine qz ?_;first
       |refine rC (fun kk hkk=>?_)
       |refine kD (enc:=kE) ?_ (by assumption) s1 (hc':=s2)
       |refine cl ?_ (hi:=by exact HV hA hk56 hm hn rfl nL nA rfl)
       |refine vO (zs:=[.bool false,.nils]) (hz:=mO) ?_
       |refine Ez 3 (fr i).2.length ((fl i4 (fr i).2).map (·.self 2)) ?_ (hn:=hcl))
      |refine zI 7 ?_|refine gJ 7 ?_|refine zz ?_|refine zx (fun _=>?_) (fun _=>?_)|fail)
     refine⟨?_⟩;have hso:bz 69 ((fl i4 (fr i).2).map (·.self 2)++[.bool false,.slice 6 0 n (.exact n)]) = .cells ((fl i4 (fr i).2).map (·.self 2)++[.bool false,.slice 6 0 n (.exact n)]) 69 true false:=bG (by simp);have hso2:bz 69 ((fl i4 (fr i).2).map (·.self 2)++[.bool false,.lsl 2 (fr i).1.length 0 n n 0]) = .cells ((fl i4 (fr i).2).map (·.self 2)++[.bool false,.lsl 2 (fr i).1.length 0 n n 0]) 69 true false:=bG (by simp)
     refine WX.tU (L:=(fr i).1) (vs:=il .u8 m) (us:=il .u8 m) 6 2 n (.exact n) [(1,.one d),(9,ee 4 np 2),(10,.one (.int .i64 (np:Nat))),(11,.one (.int .i64 (i:Nat))),(5,ee 8 ((fr i).2.length+1) 2)] [.late LP,.late LA,.late ((fr i).1++[il .u8 m]),.dead,bz 79 (fl sI prt),.dead,.dead,.dead,.cells ((fl i4 (fr i).2).map (·.self 2)++[.bool false,.lsl 2 (fr i).1.length 0 n n 0]) 69 true false] (ll .u8 m _) (.inl ⟨n,rfl,Nat.le_refl _⟩) rfl (hv:=fk (ll .u8 m 0) 2) (hH:=by
      repeat' (first|exact a_.nil|refine a_.ghost ?_|refine a_.flat rfl ?_|refine Qw hso hlok rfl ?_|refine a_.dead ?_)) (hR:=by repeat' (first|exact du.nil|refine du.flat rfl ?_|refine du.one rfl iT.zE ?_|refine du.one rfl (iT.same (da.lA (by assumption) (by decide))) ?_|refine du.one rfl (iT.same (by first|trivial|(simp[XC.lA];done)|exact u1 (by decide))) ?_)) (hok:=stM (objs:=by repeat' (first|exact aq.nil|refine aq.flat ?_|refine aq.cons (DM hlok (Nat.le_of_ble_eq_true rfl)) ?_|refine aq.cons trivial ?_))) (h:=?_)
     rw[<-hso2]
     repeat' (first|refine zz ?_|refine zx (fun _=>?_) (fun _=>?_)|fail)
     exact ih (i+1) _ _ _ (bq [0,1,2,8,4] (obj:=by(repeat' (first|exact af.nil|refine dM (i7 (hfri (i+1))) (by rw[hX2,hcsx];rfl) rfl ?_|refine af.flat (by rw[hX1];rfl) ?_|refine oz ?_));first|done|fail) (reg:=by(repeat' (first|exact ae.nil|refine ae.ia rfl (by assumption) rfl ?_|refine ae.jD rfl rfl (by rw[hX2,List.length_append];rfl) ?_|refine rz ?_|refine ae.sl rfl (by assumption) rfl ?_));first|done|fail)) (by omega) (by omega)
  ·rw[if_neg hlq]at hfs
   repeat' (first
    |(refine qz ?_;first
     |refine lX ?_)
    |refine zz ?_|refine zx (fun _=>?_) (fun _=>?_)|fail)
   exact ih (i+1) _ _ _ (bq [0,1,2,3,4] (obj:=by(repeat' (first|exact af.nil|refine dM (i7 (hfri (i+1))) (by rw[hfs];rfl) rfl ?_|refine af.flat (by rw[hfs];rfl) ?_|refine oz ?_));first|done|fail) (reg:=by(repeat' (first|exact ae.nil|refine ae.ia rfl (by assumption) rfl ?_|refine ae.jD rfl rfl (by rw[hfs]) ?_|refine rz ?_|refine ae.sl rfl (by assumption) rfl ?_));first|done|fail)) (by omega) (by omega)
 ·obtain rfl:i=np:=by omega
  clear ih;rw[hx]at hlok hln hcl ⊢
  by_cases h0:x.2.length=0
  ·have e1:KD x 2 = .nils:=if_pos h0;have e2:KC x=x.1:=if_pos h0;rw[e1,e2,h0]
   repeat' (first|refine zz ?_|refine zx (fun _=>?_) (fun _=>?_)|fail)
   show aE _ _ _ _ _ _ _ _;refine kV [0,1,2] ?_;rfl
  ·have e1:KD x 2 = .lsl 2 x.1.length 0 x.2.length x.2.length 0:=if_neg h0;have e2:KC x=x.1++[fl i4 x.2]:=if_neg h0
   have hsl:bz 69 ((fl i4 x.2).map (·.self 2)) = .cells ((fl i4 x.2).map (·.self 2)) 69 true false:=bG fun e=>by
    have h2:((fl i4 x.2).map (·.self 2)).length=0:=by rw[e];rfl
    rw[hcl]at h2;omega
   rw[e1,e2,hsl,dp h0]
   repeat' (first|refine gJ 8 ?_|refine mT 8 ?_|refine zI 8 ?_|refine zz ?_|refine zx (fun _=>?_) (fun _=>?_)|fail)
   refine⟨?_⟩;refine WX.tU (L:=x.1) (vs:=fl i4 x.2) (us:=(fl i4 x.2).map (·.self 2)) 3 2 x.2.length (.toEnd 2) [(5,.one (.lsl 2 x.1.length 0 x.2.length x.2.length 0))] [.late LP,.late LA,.late (x.1++[fl i4 x.2]),.dead,.dead] hlok (.inr ⟨2,rfl,by decide,by rw[hcl];exact Nat.le_refl _⟩) rfl (h:=?_)
   repeat' (first|refine zz ?_|refine zx (fun _=>?_) (fun _=>?_)|fail)
   show aE _ _ _ _ _ _ _ _;refine kV [0,1,2] ?_;rfl
theorem HW{LP LA:List (List XC)}{cs:List XC}{ps:List (List Int)}(hb:nr LP cs ps){l:List oO}{q:List pZ}(hq:oX LA l q){c d:XC}{i j np nq:Nat}(hc:da LP i c cs np)(hnp:ps.length=np)(hd:da LA j d (fl kE l) nq)(hnq:q.length=nq)(hqk:∀i,i<q.length->p5 (q.getD i default)/\(q.getD i default).odd.length<=30)(hps:xI ps)(hql:q.length<=1000){x:List (List XC)×List sC}(hx:o7 LA l q ps (ps.length-1)=x){X:List (List XC)}(hX:KC x=X){HS:ah}(hi:HS[i]? = some (.late LP))(hj:HS[j]? = some (.late LA))(hij:i≠j){N:Nat}(hN:HS.length=N){r:XC}(hr:KD x N=r){HS':ah}(hh:HS++[.late X]=HS')(hbd:Nat.blt HS'.length Mem.bound=true) :
 aA.Sound prog ⟨19,[.one c,.one d],HS,.one r,HS',[i,j]⟩:=by
 subst hnp hnq hN hX hr;obtain⟨c0,h0,rfl⟩:=hc.back 0 (nth [i,j]) rfl;obtain⟨d0,k0,rfl⟩:=hd.back 1 (nth [i,j]) rfl;refine bp [i,j] [i,j] 1 (EZ hb hq h0 k0 hqk hps hql hx) (by simp[hij]) (.flat hi (.flat hj .nil)) (.flat (.flat .nil)) (.flat (.flat (.flat .nil))) rfl (.cons (h0.ok (Nat.le_of_ble_eq_true rfl)) (.cons (k0.ok (Nat.le_of_ble_eq_true rfl)) .nil)) (.cons rfl (.cons rfl .nil)) ((HR 2).ok (Nat.le_of_ble_eq_true rfl)) ?_ (.flat (.flat (.flat .nil))) rfl rfl (by simp only[bC];rw[aC hi,aC hj];exact hh) hbd (.inl rfl);show XV.one ((KD x 2).aB _)=_;unfold KD;split
 ·rfl
 ·rfl
theorem CE(bs:List Bool)(h0:1<=bs.length)(hb:bs.length<=1000000) :
 bm prog 66 [.one (.ptr 0 0)] (WH bs) (ee 2 ((bs.length+7)/8) 1) [aO 1 bs,au bs,au bs]:=by
 refine cO Tryz.func66 ?_;have hwl:=dA bs
 repeat' (first
  |(refine qz ?_;first
   |refine KT (n:=(bs.length+7)/8) (r:=wr bs) (dA bs) (yA rfl rfl (dA bs)) (fun h=>?_) (fun h=>?_))
  |refine zz ?_|refine zx (fun _=>?_) (fun _=>?_)|fail)
 ·omega
 ·have hw:ee 3 ((bs.length+7)/8) 1 = .one (.slice 3 0 (0+(bs.length+7)/8) (.toEnd 1)):=by
   rw[dp (by omega),Nat.zero_add]
  have hy:au bs = .cells (il .u8 ([]++wr bs)) 5 true false:=by
   refine bG fun hn=>?_
   have h2:(il .u8 (wr bs)).length=0:=by rw[hn];rfl
   rw[bH,hwl]at h2;omega
  show aE _ _ _ _ _ _ _ _;refine kV [0,1,3] ?_ (ho:=by repeat' (first|exact af.nil|refine af.flat (by rw[hy];rfl) ?_|refine oz ?_));rw[dz,Nat.zero_add,dp (by omega)];rfl
theorem xn{bs:List Bool}(h0:1<=bs.length)(hb:bs.length<=1000000){HS:ah}{i k:Nat}(hi:HS[i]? = some (aO k bs))(hk:HS[k]? = some (au bs))(hd:i≠k){n:Nat}(hn:(bs.length+7)/8=n){N:Nat}(hN:HS.length=N){HS':ah}(hh:HS++[au bs]=HS')(hbd:Nat.blt HS'.length Mem.bound=true) :
 aA.Sound prog ⟨66,[.one (.ptr i 0)],HS,ee N n 1,HS',[i,k]⟩:=by
 subst hN hn
 have hh':bC HS [i,k] [aO k bs,au bs,au bs]=HS':=by
  simp only[bC];rw[aC hi,aC hk];exact hh
 refine bp [i,k] [i,k] 1 (CE bs h0 hb) (by simp[hd]) ?_ ?_ ?_ rfl (.cons (by simp[XV.br,XC.ok]) .nil) (.cons rfl .nil) (ib (Nat.le_of_ble_eq_true rfl)) (dz ..) ?_ ?_ rfl hh' hbd (.inl rfl)
 ·exact af.gT hi rfl rfl rfl (.flat hk .nil)
 ·exact .cons (by simp[aj.br,XC.ok,aJ]) (.flat .nil)
 ·exact .cons (by simp[aj.br,XC.ok,aJ]) (.flat (.flat .nil))
 ·exact .cons (by simp only[aj.aB,List.map_cons,List.map_nil,XC.aB,aX];rfl) (.flat (.flat .nil))
 ·exact DY ..
theorem Ke(bs:List Bool):bm prog 68 [.one (.ptr 0 0)] (WH bs) (.one (.int .i64 (bs.length:Nat))) (WH bs):=by
 refine cO Tryz.func68 ?_
 repeat' (first|refine zz ?_|refine zx (fun _=>?_) (fun _=>?_)|fail)
 show aE _ _ _ _ _ _ _ _;refine kV [0,1] ?_;rfl
theorem MH{bs:List Bool}{HS:ah}{i k:Nat}(hi:HS[i]? = some (aO k bs))(hk:HS[k]? = some (au bs))(hd:i≠k){z:Int}(hz:(bs.length:Nat)=z)(hbd:Nat.blt HS.length Mem.bound=true) :
 aA.Sound prog ⟨68,[.one (.ptr i 0)],HS,.one (.int .i64 z),HS,[i,k]⟩:=by
 subst hz
 have hh':bC HS [i,k] [aO k bs,au bs]=HS:=by
  simp only[bC];rw[aC hi,aC hk];exact List.append_nil HS
 refine bp [i,k] [i,k] 0 (Ke bs) (by simp[hd]) ?_ ?_ ?_ rfl (.cons (by simp[XV.br,XC.ok]) .nil) (.cons rfl .nil) trivial rfl ?_ ?_ rfl hh' hbd (.inl rfl)
 ·exact af.gT hi rfl rfl rfl (.flat hk .nil)
 ·exact .cons (by simp[aj.br,XC.ok,aJ]) (.flat .nil)
 ·exact .cons (by simp[aj.br,XC.ok,aJ]) (.flat .nil)
 ·exact .cons (by simp only[aj.aB,List.map_cons,List.map_nil,XC.aB,aX];rfl) (.flat .nil)
 ·cases il .u8 (wr bs)<;>simp[fM,aj.live,aj.own,bz]
theorem B0:bm prog 50 [] [] (.one (.slice 0 0 3 (.exact 3))) [.cells (il .u8 [0,0,1]) 5 false false]:=by
 refine cO Tryz.func50 ?_
 repeat' (first
  |(refine qz ?_;first
   |refine vO (zs:=[.int .u8 0]) ?_)
  |refine zz ?_|refine zx (fun _=>?_) (fun _=>?_)|fail)
 show aE _ _ _ _ _ _ _ _;refine kV [0] ?_;rfl
theorem rF{HS:ah}{N:Nat}(hN:HS.length=N){HS':ah}(hh:HS++[.cells (il .u8 [0,0,1]) 5 false false]=HS')(hbd:Nat.blt HS'.length Mem.bound=true) :
 aA.Sound prog ⟨50,[],HS,.one (.slice N 0 3 (.exact 3)),HS',[]⟩:=by
 subst hN;exact bp [] [] 1 B0 (by simp) .nil .nil (.flat .nil) rfl .nil .nil (by show 0<1;omega) rfl (.flat .nil) rfl rfl hh hbd (.inl rfl)
def Nj(bs:List Bool)(p:Ph):List Bool:=(((bs++bd p.id 16)++[p.inter])++[p.down])++bd p.qp 5
theorem FB(p:Ph)(hp:sD p)(bs:List Bool)(hb:bs.length<=100000) :
 bm prog 65 [.agg (wY p),.one (.ptr 0 0)] (WH bs) (.one (.int .i64 0)) (KN (Nj bs p)):=by
 have hid:=hp.id;have hqp:=hp.qp;have e1:(bs++bd p.id 16).length=bs.length+16:=by rw[List.length_append,bu]
 have e2:((bs++bd p.id 16)++[p.inter]).length=bs.length+17:=by rw[List.length_append,e1];rfl
 have e3:(((bs++bd p.id 16)++[p.inter])++[p.down]).length=bs.length+18:=by rw[List.length_append,e2];rfl
 refine cO Tryz.func65 ?_
 repeat' (first
  |(refine qz ?_;first
   |refine cl ?_ (hi:=by exact lL hp rfl)
   |refine cl ?_ (hi:=by exact eZ (size:=16) rfl (bs:=bs) (by omega) (by decide) (by omega) (i:=0) (k:=1) rfl rfl (by decide) nL nA rfl)
   |refine cl ?_ (hi:=by exact jj (bs:=bs++bd p.id 16) (by omega) (i:=0) (k:=3) rfl rfl (by decide) nL nA rfl)
   |refine cl ?_ (hi:=by exact jj (bs:=(bs++bd p.id 16)++[p.inter]) (by omega) (i:=0) (k:=4) rfl rfl (by decide) nL nA rfl)
   |refine cl ?_ (hi:=by exact eZ (size:=5) rfl (bs:=((bs++bd p.id 16)++[p.inter])++[p.down]) (by omega) (by decide) (by omega) (i:=0) (k:=5) rfl rfl (by decide) nL nA rfl))
  |refine zz ?_|refine zx (fun _=>?_) (fun _=>?_)|fail)
 show aE _ _ _ _ _ _ _ _;refine kV [0,1,6] ?_;rfl
theorem IZ{p:Ph}(hp:sD p){bs:List Bool}(hb:bs.length<=100000){HS:ah}{i k:Nat}(hi:HS[i]? = some (aO k bs))(hk:HS[k]? = some (au bs))(hd:i≠k){N:Nat}(hN:HS.length=N){HS':ah}(hh:bC HS [i,k] [aO N (Nj bs p),.dead,au (Nj bs p)]=HS')(hbd:Nat.blt HS'.length Mem.bound=true) :
 aA.Sound prog ⟨65,[.agg (wY p),.one (.ptr i 0)],HS,.one (.int .i64 0),HS',[i,k]⟩:=by
 subst hN;refine bp [i,k] [i,k] 1 (FB p hp bs hb) (by simp[hd]) ?_ ?_ ?_ rfl (.flat (.cons (by simp[XV.br,XC.ok]) .nil)) (.flat (.cons rfl .nil)) trivial rfl ?_ (Jl ..) rfl hh hbd (.inl rfl)
 ·exact af.gT hi rfl rfl rfl (.flat hk .nil)
 ·exact .cons (by simp[aj.br,XC.ok,aJ]) (.flat .nil)
 ·exact .cons (by simp[aj.br,XC.ok,aJ]) (.flat (.flat .nil))
 ·exact .cons (by simp only[aj.aB,List.map_cons,List.map_nil,XC.aB,aX];rfl) (.flat (.flat .nil))
abbrev QS(p:Ph)(first count:Int)(c d:XC):List XC:=[.int .i64 p.id,.bool p.inter,.bool p.down,.int .i64 p.qp,.int .i64 first,.int .i64 count,c,d]
structure GZ(p:Ph)(first count:Int)(la lb:Nat)(all:Int):Prop where
 ph:sD p
 fst:0<=first
 cnt:1<=count
 fit:first+count<=all
 most:all<=64
 a:1<=la/\la<=30000
 b:1<=lb/\lb<=30000
theorem As{p:Ph}{first count all:Int}{la lb:Nat}(hk:GZ p first count la lb all)(oa ob:aj)[b9 oa][b9 ob] :
 bm prog 64 [.agg (QS p first count (.slice 0 0 la (.toEnd 1)) (.slice 1 0 lb (.toEnd 1))),.one (.int .i64 all)] [oa,ob] (.one (.int .i64 0)) [oa,ob]:=by
 obtain⟨hph,hf,hc,hfit,hall,ha,hb⟩:=hk;refine cO Tryz.func64 ?_
 repeat' (first
  |(refine qz ?_;first
   |refine t_ (cs:=wY p) ?_ (hle:=by decide) (hc:=by exact rfl)
   |refine cl ?_ (hi:=by exact lL hph rfl))
  |refine zz ?_|refine zx (fun _=>?_) (fun _=>?_)|fail)
 show aE _ _ _ _ _ _ _ _;refine kV [0,1] ?_;rfl
theorem Ce{p:Ph}{first count all:Int}{la lb:Nat}(hk:GZ p first count la lb all){oa ob:aj}[b9 oa][b9 ob]{HS:ah}{i j:Nat}(hi:HS[i]? = some oa)(hj:HS[j]? = some ob)(hd:i≠j)(hb:Nat.blt HS.length Mem.bound=true) :
 aA.Sound prog ⟨64,[.agg (QS p first count (.slice i 0 la (.toEnd 1)) (.slice j 0 lb (.toEnd 1))),.one (.int .i64 all)],HS,.one (.int .i64 0),HS,[]⟩:=by
 refine fV [i,j] (As hk oa ob) (by simp[hd]) (.flat hi (.flat hj .nil)) (.flat (.flat .nil)) (.cons ?_ (.flat .nil)) (.cons rfl (.flat .nil)) trivial rfl hb rfl;intro c hc;simp only[List.mem_cons,List.not_mem_nil,or_false]at hc
 rcases hc with rfl|rfl|rfl|rfl|rfl|rfl|rfl|rfl<;>first|trivial|(show(_:Nat)<2;omega)
theorem QQ:∀v:Fin 128,BW .u8 128 (v.val:Int)=128+(v.val:Int):=by decide +kernel
theorem Ow{v:Int}(h:0<=v/\v<128):BW .u8 128 v=128+v:=by
 have:=QQ ⟨v.toNat,by omega⟩;rw[show((⟨v.toNat,by omega⟩:Fin 128).val:Int)=v by show(v.toNat:Int)=v;omega]at this;exact this
theorem Hn(bs:List Bool)(hb:bs.length<=1000000):nj (wr bs) bs:=
 ⟨by rw[dA];omega,jG bs,fun j _=>Kh bs j,by rw[dA];omega⟩
theorem QU(bs:List Bool):RO (au bs) .u8 (wr bs):=⟨fun h=>⟨_,true,false,bG (fun e=>by
 have:(il .u8 (wr bs)).length=0:=by rw[e];rfl
 rw[bH]at this;omega)⟩,inferInstance⟩
theorem I0{p:Ph}(hp:sD p){bs:List Bool}(hb:bs.length<=100000){HS:ah}{i k:Nat}(hi:HS[i]? = some (aO k bs))(hk:HS[k]? = some (au bs))(hd:i≠k){q:List Bool}(hq:Nj bs p=q){N:Nat}(hN:HS.length=N){HS':ah}(hh:bC HS [i,k] [aO N q,.dead,au q]=HS')(hbd:Nat.blt HS'.length Mem.bound=true) :
 aA.Sound prog ⟨65,[.agg (wY p),.one (.ptr i 0)],HS,.one (.int .i64 0),HS',[i,k]⟩:=by
 subst hq;exact IZ hp hb hi hk hd hN hh hbd
theorem fX{n:Int}{size:Nat}{z:Int}(hz:z=(size:Nat)){bs:List Bool}(hn:0<=n/\n<18446744073709551616)(hs:size<=64)(hb:bs.length<=1000000){HS:ah}{i k:Nat}(hi:HS[i]? = some (aO k bs))(hk:HS[k]? = some (au bs))(hd:i≠k){q:List Bool}(hq:bs++bd n size=q){N:Nat}(hN:HS.length=N){HS':ah}(hh:bC HS [i,k] [aO N q,.dead,au q]=HS')(hbd:Nat.blt HS'.length Mem.bound=true) :
 aA.Sound prog ⟨46,[.one (.ptr i 0),.one (.int .u64 n),.one (.int .i64 z)],HS,.tup [],HS',[i,k]⟩:=by
 subst hq;exact eZ hz hn hs hb hi hk hd hN hh hbd
theorem FO{L:List Int}{B:List Bool}(h:nj L B){q q':Nat}{x:Int}{n:Nat}(hv:eO B n (q,false)=(x,(q',false))){z:Int}(hz:z=(n:Nat))(hn:n<=32){HS:ah}{i k:Nat}(hi:HS[i]? = some (qE k L B q false))(hk:HS[k]? = some (ln L))(hd:i≠k){HS':ah}(hh:HS.set i (qE k L B q' false)=HS')(hbd:Nat.blt HS'.length Mem.bound=true) :
 aA.Sound prog ⟨69,[.one (.ptr i 0),.one (.int .i64 z)],HS,.one (.int .u64 x),HS',[i]⟩:=by
 have:=Jh h (q,false) hz hn hi hk hd (HS':=HS') (by rw[hv];exact hh) hbd;rw[hv]at this;exact this
theorem Aj{p:Ph}{first count all:Int}{a b:List Int}(hk:GZ p first count a.length b.length all)(ha:aW a)(hb:aW b){B:List Bool}(hB:mU p first count (a.length:Nat) (b.length:Nat) (gu a) (gu b) (gu (wr (pn p first count (a.length:Nat) (b.length:Nat) (gu a) (gu b))))=B) :
 bm prog 33 [.agg (QS p first count (.slice 0 0 a.length (.toEnd 1)) (.slice 1 0 b.length (.toEnd 1))),.one (.int .i64 all)] [.cells (il .u8 a) 5 true false,.cells (il .u8 b) 5 true false] (.tup [.one (.slice 2 0 (kN B a b).length (.toEnd 1)),.one (.int .i64 0)]) [.cells (il .u8 a) 5 true false,.cells (il .u8 b) 5 true false,.cells (il .u8 (kN B a b)) 5 true false]:=by
 have hph:=hk.ph;have h1:=hk.fst;have h2:=hk.cnt;have h3:=hk.fit;have h4:=hk.most;have h5:=hk.a;have h6:=hk.b
 obtain⟨sa,hsa⟩:∃s,gu a=s:=⟨_,rfl⟩
 obtain⟨sb,hsb⟩:∃s,gu b=s:=⟨_,rfl⟩
 have ra:=n5 a;have rb:=n5 b;rw[hsa]at ra hB;rw[hsb]at rb hB
 obtain⟨S,hSd⟩:∃S,pn p first count (a.length:Nat) (b.length:Nat) sa sb=S:=⟨_,rfl⟩
 have hSl:S.length=101:=by rw[<-hSd];exact xb ..
 unfold mU at hB;rw[hSd]at hB
 obtain⟨su,hsu⟩:∃s,gu (wr S)=s:=⟨_,rfl⟩
 have ru:=n5 (wr S);rw[hsu]at ru hB;have hS2:((((((Nj [] p++bd first 7)++bd count 7)++bd (a.length:Nat) 16)++bd (b.length:Nat) 16)++bd sa 16)++bd sb 16)=S:=hSd;have e0:(Nj [] p).length=23:=by simp only[Nj,List.length_append,bu,List.length_cons,List.length_nil]
 obtain⟨b0,hb0⟩:∃x,Nj [] p=x:=⟨_,rfl⟩
 obtain⟨b1,hb1⟩:∃x,b0++bd first 7=x:=⟨_,rfl⟩
 obtain⟨b2',hb2⟩:∃x,b1++bd count 7=x:=⟨_,rfl⟩
 obtain⟨b3,hb3⟩:∃x,b2'++bd (a.length:Nat) 16=x:=⟨_,rfl⟩
 obtain⟨b4,hb4⟩:∃x,b3++bd (b.length:Nat) 16=x:=⟨_,rfl⟩
 obtain⟨b5,hb5⟩:∃x,b4++bd sa 16=x:=⟨_,rfl⟩
 rw[hb0]at e0;rw[hb0,hb1,hb2,hb3,hb4,hb5]at hS2;have e1:b1.length=30:=by rw[<-hb1,List.length_append,bu,e0]
 have e2:b2'.length=37:=by rw[<-hb2,List.length_append,bu,e1]
 have e3:b3.length=53:=by rw[<-hb3,List.length_append,bu,e2]
 have e4:b4.length=69:=by rw[<-hb4,List.length_append,bu,e3]
 have e5:b5.length=85:=by rw[<-hb5,List.length_append,bu,e4]
 obtain⟨S1,hS1⟩:∃x,S++bd su 16=x:=⟨_,rfl⟩
 have eS1:S1.length=117:=by rw[<-hS1,List.length_append,bu,hSl]
 rw[hS1]at hB;have hwS:(wr S).length=13:=by rw[dA,hSl]
 have hBl:B.length=119:=by rw[<-hB,List.length_append,bu,eS1]
 have hwB:(wr B).length=15:=by rw[dA,hBl]
 refine cO Tryz.func33 ?_;refine WX.cj rfl ?_
 repeat' (first
  |(refine qz ?_;first
   |refine cl ?_ (hi:=by exact Ce hk (i:=0) (j:=1) rfl rfl (by decide) rfl)
   |refine t_ (cs:=wY p) ?_ (hle:=by decide) (hc:=by exact rfl)
   |refine cl ?_ (hi:=by exact I0 hph (bs:=[]) (by decide) (i:=4) (k:=2) rfl rfl (by decide) hb0 nL nA rfl)
   |refine cl ?_ (hi:=by exact fX (size:=7) rfl (bs:=b0) (by omega) (by decide) (by omega) (i:=4) (k:=5) rfl rfl (by decide) hb1 nL nA rfl)
   |refine cl ?_ (hi:=by exact fX (size:=7) rfl (bs:=b1) (by omega) (by decide) (by omega) (i:=4) (k:=6) rfl rfl (by decide) hb2 nL nA rfl)
   |refine cl ?_ (hi:=by exact fX (size:=16) rfl (bs:=b2') (by omega) (by decide) (by omega) (i:=4) (k:=7) rfl rfl (by decide) hb3 nL nA rfl)
   |refine cl ?_ (hi:=by exact fX (size:=16) rfl (bs:=b3) (by omega) (by decide) (by omega) (i:=4) (k:=8) rfl rfl (by decide) hb4 nL nA rfl)
   |refine vO (zs:=[.nils]) ?_
   |refine cl ?_ (hi:=by exact u5 (l:=a) ha (by omega) (RO.of ..) hsa rfl (i:=0) (j:=10) rfl rfl (by decide) rfl)
   |refine cl ?_ (hi:=by exact fX (size:=16) rfl (bs:=b4) (by omega) (by decide) (by omega) (i:=4) (k:=9) rfl rfl (by decide) hb5 nL nA rfl)
   |refine cl ?_ (hi:=by exact u5 (l:=b) hb (by omega) (RO.of ..) hsb rfl (i:=1) (j:=12) rfl rfl (by decide) rfl)
   |refine cl ?_ (hi:=by exact fX (size:=16) rfl (bs:=b5) (by omega) (by decide) (by omega) (i:=4) (k:=11) rfl rfl (by decide) hS2 nL nA rfl)
   |refine cl ?_ (hi:=by exact xn (bs:=S) (by omega) (by omega) (i:=4) (k:=13) rfl rfl (by decide) (n:=13) (by rw[hSl]) nL nA rfl)
   |refine cl ?_ (hi:=by exact u5 (l:=wr S) (jG S) (by omega) (QU S) hsu hwS (i:=14) (j:=15) rfl rfl (by decide) rfl)
   |refine cl ?_ (hi:=by exact fX (size:=16) rfl (bs:=S) (by omega) (by decide) (by omega) (i:=4) (k:=13) rfl rfl (by decide) hS1 nL nA rfl)
   |refine cl ?_ (hi:=by exact fX (size:=2) rfl (bs:=S1) (by omega) (by decide) (by omega) (i:=4) (k:=16) rfl rfl (by decide) hB nL nA rfl)
   |refine cl ?_ (hi:=by exact rF nL nA rfl)
   |refine vO (zs:=[.int .u8 0]) ?_
   |refine KT (n:=1) (r:=[182]) rfl (ic rfl rfl rfl) (fun h=>absurd h (by decide)) (fun _=>?_)
   |refine cl ?_ (hi:=by exact xn (bs:=B) (by omega) (by omega) (i:=4) (k:=17) rfl rfl (by decide) (n:=15) (by rw[hBl]) nL nA rfl)
   |refine cl ?_ (hi:=by exact MH (bs:=B) (i:=4) (k:=17) rfl rfl (by decide) (z:=119) (by rw[hBl];rfl) rfl)
   |refine cl ?_ (hi:=by exact L6 (L:=wr B) (B:=B) (by omega) (by omega) hwB (by rw[hBl];rfl) (i:=21) rfl nL nA rfl))
  |refine zz ?_|refine zx (fun _=>?_) (fun _=>?_)|fail)
 refine WX.bQ (σ:=Nat) (fun k=>[(2,.one (.ptr 2 0)),(9,.one (.ptr 3 0)),(8,ee 5 (4+k) 1),(75,.one (.int .i64 (k:Nat)))]) (fun k=>[.cells (il .u8 a) 5 true false,.cells (il .u8 b) 5 true false,.cells (QS p first count (.slice 0 0 a.length (.toEnd 1)) (.slice 1 0 b.length (.toEnd 1))) 50 false false,qE 4 (wr B) B (7*k) false,ln (wr B),bz 5 (il .u8 ([0,0,1,182]++pM B k))]) (fun k=>k<=17) (fun k=>17-k) 0 (Nat.zero_le _) (fun s _=>mE) (bq [0,1,3,22,23,20]) ?_;intro k hk17 ih;have hsl:=j9 B k;have hql:([0,0,1,182]++pM B k).length=4+k:=by rw[List.length_append,hsl];rfl
 by_cases hlt:k<17
 ·have hv:=pE (B:=B) (n:=7) (r:=7*k) (by omega);have hvr:=Nw B (7*k);have hsv:pM B (k+1)=pM B k++[128+pQ B (7*k) 7 0]:=by rw[pM];unfold FZ;rw[hv]
  obtain⟨v,hve⟩:∃v,pQ B (7*k) 7 0=v:=⟨_,rfl⟩
  rw[hve]at hv hvr hsv
  repeat' (first
   |(refine qz ?_;first
    |refine cl ?_ (hi:=by exact FO (Hn B (by omega)) hv rfl (by decide) (i:=3) (k:=4) rfl rfl (by decide) hS rfl))
   |refine zz ?_|refine zx (fun _=>?_) (fun _=>?_)|fail)
  exact ih (k+1) _ _ _ (bq [0,1,2,3,4,7] (obj:=by(repeat' (first|exact af.nil|refine af.flat (by rw[hsv,<-List.append_assoc,<-Ow hvr];rfl) ?_|refine oz ?_));first|done|fail)) (by omega) (by omega)
 ·have hpf:kN B a b=(([0,0,1,182]++pM B k)++a)++b:=by rw[show k=17 by omega];rfl
  obtain⟨W,hW⟩:∃W,[0,0,1,182]++pM B k=W:=⟨_,rfl⟩
  rw[hW]at hpf hql;rw[hpf,hW];clear ih
  have hy:bz 5 (il .u8 ((W++a)++b)) = .cells (il .u8 ((W++a)++b)) 5 true false:=bG fun e=>by
   have h2:(il .u8 ((W++a)++b)).length=0:=by rw[e];rfl
   rw[bH,List.length_append,List.length_append,hql]at h2;omega
  repeat' (first|refine zz ?_|refine zx (fun _=>?_) (fun _=>?_)|fail)
  have hz:eY 7 (4+k+a.length+b.length) 1 = .slice 7 0 (4+k+a.length+b.length) (.toEnd 1):=if_neg (by omega);have hlen:((W++a)++b).length=4+k+a.length+b.length:=by rw[List.length_append,List.length_append,hql]
  rw[hy,hz,hlen];show aE _ _ _ _ _ _ _ _;refine kV [0,1,7] ?_;rfl
def Q7(h:Hd)(j:Nat):Nat->Int:=if j=0 then h.a else h.b
def sG(h:Hd):Nat->List Bool
 | 0=>x9 h
 | j+1=>sG h j++oT (Q7 h j) 64
theorem tW(h:Hd):∀j,(sG h j).length=17+512*j
 | 0=>qk h
 | j+1=>by rw[sG,List.length_append,tW h j,n7];omega
theorem Pt(x:Int):IntKind.u8.wrap x=x%256:=by
 simp[IntKind.wrap,IntKind.bits,IntKind.signed]
theorem MA(f g:Nat->Int):∀j,j<2->((ti .u8 64 f++ti .u8 64 g).drop (j*64)).take 64=ti .u8 64 (if j=0 then f else g)
 | 0,_=>by
   rw[Nat.zero_mul,List.drop_zero,List.take_left' (aS ..)];rfl
 | 1,_=>by
   rw[Nat.one_mul,List.drop_left' (aS ..),List.take_of_length_le (by rw[aS];exact Nat.le_refl _)];rfl
 | j+2,h=>absurd h (by omega)
theorem Qz(h:Hd):((gV h).drop 3).take 64=ti .u8 64 h.a:=by
 show(ti .u8 64 h.a++ti .u8 64 h.b).take 64=_;exact List.take_left' (aS ..)
theorem QA(h:Hd):((gV h).drop 67).take 64=ti .u8 64 h.b:=by
 have e:(gV h).drop 67=(ti .u8 64 h.a++ti .u8 64 h.b).drop 64:=rfl;rw[e,List.drop_left' (aS ..),List.take_of_length_le (by rw[aS];exact Nat.le_refl _)]
theorem Kz:aI prog 22 (ti .u8 64 fun _=>0):=by infer_instance
instance Ro (f g:Nat->Int) (e:TypeId) (a b:Bool):b9 (.cells (ti .u8 64 f++ti .u8 64 g) e a b):=gq (by rw[List.all_append,iR,iR];rfl)
theorem AW{bs:List Bool}(hb:bs.length<=1000000){n:Nat}(hn:((bs++[true]).length+7)/8=n){w:List Int}(hw:wr (bs++[true])=w){HS:ah}{i k:Nat}(hi:HS[i]? = some (aO k bs))(hk:HS[k]? = some (au bs))(hd:i≠k){N:Nat}(hN:HS.length=N){HS':ah}(hh:HS++[bz 5 (il .u8 w)]=HS')(hbd:Nat.blt HS'.length Mem.bound=true) :
 aA.Sound prog ⟨48,[.one (.ptr i 0)],HS,ee N n 1,HS',[i,k]⟩:=by
 subst hn hw;exact vg hb hi hk hd hN hh hbd
theorem yx{q:List Int}(hq:1<=q.length):bz 5 (il .u8 q) = .cells (il .u8 q) 5 true false:=bG fun e=>by
 have h2:(il .u8 q).length=0:=by rw[e];rfl
 rw[bH]at h2;omega
theorem No(l:List Int):RO (bz 5 (il .u8 l)) .u8 l:=⟨fun h=>⟨_,true,false,yx (by omega)⟩,inferInstance⟩
theorem wu{l:List Int}(hl:aW l)(hn:l.length<=100000)(h0:1<=l.length){q:List Int}(hq:(f5 l l.length).1=q){n m:Nat}(hln:l.length=n)(hm:q.length=m){HS:ah}{i:Nat}(hi:HS[i]? = some (bz 5 (il .u8 l))){N:Nat}(hN:HS.length=N){HS':ah}(hh:HS++[.cells (il .u8 q) 5 true false]=HS')(hb:Nat.blt HS'.length Mem.bound=true) :
 aA.Sound prog ⟨51,[ee i n 1],HS,.one (.slice N 0 m (.toEnd 1)),HS',[i]⟩:=by
 subst hm;have hp:=qd h0;rw[hq]at hp;rw[<-dp (show q.length≠0 by omega)];exact ry hl hn hq hln hi hN (by rw[yx hp];exact hh) hb
theorem AX{b:Bool}{bs:List Bool}(hb:bs.length<=1000000){HS:ah}{i k:Nat}(hi:HS[i]? = some (aO k bs))(hk:HS[k]? = some (au bs))(hd:i≠k){q:List Bool}(hq:bs++[b]=q){N:Nat}(hN:HS.length=N){HS':ah}(hh:bC HS [i,k] [aO N q,.dead,au q]=HS')(hbd:Nat.blt HS'.length Mem.bound=true) :
 aA.Sound prog ⟨47,[.one (.ptr i 0),.one (.bool b)],HS,.tup [],HS',[i,k]⟩:=by
 subst hq;exact jj hb hi hk hd hN hh hbd
theorem Fb{h:Hd}(ho:qZ h)(hr:∀i,i<64->(0<=h.a i/\h.a i<=255)/\(0<=h.b i/\h.b i<=255)){q:List Int}(hq:KF h=q) :
 bm prog 27 [.agg (gV h)] [] (.tup [.one (.slice 0 0 q.length (.toEnd 1)),.one (.int .i64 0)]) [.cells (il .u8 q) 5 true false]:=by
 have hd1:=ho.dims.c0;have hd2:=ho.dims.c1;have hd3:=ho.dims.r0;have hd4:=ho.dims.r1;have hB0:=qk h;have e0:(([]++bd h.cols 8)++bd h.rows 8)++[h.w]=x9 h:=rfl;have l0:(bd h.cols 8).length=8:=bu ..;have l1:(bd h.rows 8).length=8:=bu ..
 obtain⟨b0,hb0⟩:∃b,[]++bd h.cols 8=b:=⟨_,rfl⟩
 obtain⟨b1,hb1⟩:∃b,b0++bd h.rows 8=b:=⟨_,rfl⟩
 have k0:b0.length=8:=by rw[<-hb0];simp[l0]
 have k1:b1.length=16:=by rw[<-hb1,List.length_append,k0,l1]
 rw[hb0,hb1]at e0
 obtain⟨w,hw⟩:∃w,h.w=w:=⟨_,rfl⟩
 have hhB:N5 h=if w=true then sG h 2 else x9 h:=by rw[<-hw];rfl
 refine cO Tryz.func27 ?_;have hR:E_ h=wr (N5 h++[true]):=rfl;have hS:KE h=E_ h++[gu (E_ h)/256,gu (E_ h)%256,128]:=rfl;have hRb:=zJ h;have hRl:=Dz h;have hSb:=zK h;have hSl:=DA h;have hss:=n5 (E_ h);have hY : [0,0,1,176]++(f5 (KE h) (KE h).length).1=q:=hq
 obtain⟨R,hRe⟩:∃R,E_ h=R:=⟨_,rfl⟩
 rw[hRe]at hR hS hRb hRl hss
 obtain⟨su,hsu⟩:∃z,gu R=z:=⟨_,rfl⟩
 rw[hsu]at hS hss
 obtain⟨S,hSe⟩:∃S,KE h=S:=⟨_,rfl⟩
 rw[hSe]at hS hSb hSl hY
 obtain⟨E,hEe⟩:∃E,(f5 S S.length).1=E:=⟨_,rfl⟩
 have hEl:=(qc S).1;rw[hEe]at hY hEl;subst hY;have hSp:1<=S.length:=by rw[hS,List.length_append];simp
 have hEp:=qd hSp;rw[hEe]at hEp;have hw8:IntKind.u8.wrap su=su%256:=Pt su;have hx8:su/2^Int.toNat 8=su/256:=rfl;have hs8:0<=su/2^Int.toNat 8/\su/2^Int.toNat 8<=255:=by rw[hx8];omega
 rw[<-hw8,<-hx8]at hS;subst hS;refine WX.cj rfl ?_;rw[hw]at e0
 cases w with
 | true =>
   have hhB:N5 h=sG h 2:=hhB.trans (if_pos rfl);have hb2:=tW h 2;rw[hhB]at hR
   repeat' (first
    |(refine qz ?_;first
     |refine lI ?_ (hle:=by rw[cu])
     |refine cl ?_ (hi:=by exact ox ho rfl)
     |refine ld (c := .int .i64 h.cols) ?_
     |refine ld (c := .int .i64 h.rows) ?_
     |refine ld (c := .bool true) ?_ (hc:=by rw[<-hw];rfl)
     |refine cl ?_ (hi:=by exact fX (size:=8) rfl (bs:=[]) (by omega) (by decide) (by decide) (i:=2) (k:=0) rfl rfl (by decide) hb0 nL nA rfl)
     |refine cl ?_ (hi:=by exact fX (size:=8) rfl (bs:=b0) (by omega) (by decide) (by omega) (i:=2) (k:=3) rfl rfl (by decide) hb1 nL nA rfl)
     |refine cl ?_ (hi:=by exact AX (b:=true) (bs:=b1) (by omega) (i:=2) (k:=4) rfl rfl (by decide) e0 nL nA rfl)
     |refine t_ (cs:=ti .u8 64 h.a) ?_ (hle:=by rw[cu];decide) (hc:=Qz h)
     |refine t_ (cs:=ti .u8 64 h.b) ?_ (hle:=by rw[cu];decide) (hc:=QA h)
     |refine vO (zs:=ti .u8 64 fun _=>0) (cs:=ti .u8 64 h.a++ti .u8 64 h.b) ?_ (hz:=Kz))
    |refine zz ?_|refine zx (fun _=>?_) (fun _=>?_)|fail)
   refine WX.bQ (σ:=Nat) (fun j=>[(5,.one (.ptr 0 0)),(43,.one (.slice 2 0 2 (.exact 2))),(44,.one (.int .i64 2)),(45,.one (.int .i64 (j:Nat)))]) (fun j=>[aO 1 (sG h j),au (sG h j),.cells (ti .u8 64 h.a++ti .u8 64 h.b) 22 false false]) (fun j=>j<=2) (fun j=>2-j) 0 (Nat.zero_le _) (fun j _=>stM) (bq [2,5,6]) ?_;intro j hj ih
   by_cases hlt:j<2
   ·have htw:=MA h.a h.b j hlt;have hjl:=tW h j
    obtain⟨f,hf⟩:∃f,(if j=0 then h.a else h.b)=f:=⟨_,rfl⟩
    have hf2:Q7 h j=f:=hf
    have hfr:∀i,i<64->0<=f i/\f i<=255:=fun i hi=>by
     rw[<-hf];split
     ·exact(hr i hi).1
     ·exact(hr i hi).2
    have hnx:sG h (j+1)=sG h j++oT f 64:=by rw[sG,hf2]
    rw[hf]at htw
    obtain⟨C,hC⟩:∃C,sG h j=C:=⟨_,rfl⟩
    rw[hC]at hjl hnx ⊢
    repeat' (first
     |(refine qz ?_;first
      |refine nC (zs:=ti .u8 64 fun _=>0) (hz:=Kz) ?_
      |refine t_ (cs:=ti .u8 64 f) ?_ (hle:=by rw[List.length_append,aS,aS];omega) (hc:=htw)
      |refine tk (cs:=ti .u8 64 f) ?_ (hs1:=by rw[aS]) (hs2:=by rw[aS])
      |refine lI ?_ (hle:=by rw[aS]))
     |refine zz ?_|refine zx (fun _=>?_) (fun _=>?_)|fail)
    have hC0:C++oT f 0=C:=List.append_nil _;rw[<-hC0];refine WX.bQ (σ:=Nat) (fun t=>[(5,.one (.ptr 0 0)),(43,.one (.slice 2 0 2 (.exact 2))),(44,.one (.int .i64 2)),(45,.one (.int .i64 (j:Nat))),(49,.agg (ti .u8 64 f)),(50,.one (.int .i64 (t:Nat)))]) (fun t=>[aO 1 (C++oT f t),au (C++oT f t),.cells (ti .u8 64 h.a++ti .u8 64 h.b) 22 false false]) (fun t=>t<=64) (fun t=>64-t) 0 (Nat.zero_le _) (fun j _=>stM) (bq [0,1,2]) ?_;intro t ht ih2;have htl:(C++oT f t).length=17+512*j+8*t:=by rw[List.length_append,hjl,n7]
    by_cases hlt2:t<64
    ·have hft:0<=f (t:Int).toNat/\f (t:Int).toNat<=255:=hfr t hlt2;have e3:(C++oT f t)++bd (f (t:Int).toNat) 8=C++oT f (t+1):=by show(C++oT f t)++bd (f t) 8=_;rw[oT,List.append_assoc]
     repeat' (first
      |(refine qz ?_;first
       |refine QC ?_
       |refine cl ?_ (hi:=by exact fX (size:=8) rfl (bs:=C++oT f t) (by omega) (by decide) (by omega) (i:=0) (k:=1) rfl rfl (by decide) e3 nL nA rfl))
      |refine zz ?_|refine zx (fun _=>?_) (fun _=>?_)|fail)
     exact ih2 (t+1) _ _ _ (bq [0,3,2]) (by omega) (by omega)
    ·obtain rfl:t=64:=by omega
     rw[<-hnx]
     repeat' (first|refine zz ?_|refine zx (fun _=>?_) (fun _=>?_)|fail)
     exact ih (j+1) _ _ _ (bq [0,1,2]) (by omega) (by omega)
   ·obtain rfl:j=2:=by omega
    clear ih;have hRn:R.length=131:=by rw[hR,dA,List.length_append,hb2];rfl
    have hSn:(R++[su/2^Int.toNat 8,IntKind.u8.wrap su,128]).length=134:=by rw[List.length_append,hRn];rfl
    repeat' (first
     |(refine qz ?_;first
      |refine cl ?_ (hi:=by exact AW (bs:=sG h 2) (by omega) (n:=131) (by rw[List.length_append,hb2];rfl) hR.symm (i:=0) (k:=1) rfl rfl (by decide) nL nA rfl)
      |refine vO (zs:=[.nils]) ?_
      |refine cl ?_ (hi:=by exact u5 (l:=R) hRb (by omega) (No R) hsu hRn (i:=3) (j:=4) rfl rfl (by decide) rfl)
      |refine cv ?_
      |refine Sz ?_
      |refine vO (zs:=[.int .u8 0]) ?_
      |refine PR (i:=3) (n:=131) (q:=R) (r:=[su/2^Int.toNat 8,IntKind.u8.wrap su,128]) ?_
      |refine cl ?_ (hi:=by exact rF nL nA rfl)
      |refine KT (n:=1) (r:=[176]) rfl (ic rfl rfl rfl) (fun h=>absurd h (by decide)) (fun _=>?_)
      |refine cl ?_ (hi:=by exact wu hSb (by omega) hSp hEe hSn rfl (i:=6) rfl nL nA rfl)
      |refine PR (i:=9) (n:=4) (q:=[0,0,1]++[176]) (r:=E) ?_)
     |refine zz ?_|refine zx (fun _=>?_) (fun _=>?_)|fail)
    have hz:eY 11 (4+E.length) 1 = .slice 11 0 (4+E.length) (.toEnd 1):=if_neg (by omega);have hlen:([0,0,1,176]++E).length=4+E.length:=by rw[List.length_append];rfl
    rw[hz,hlen];show aE _ _ _ _ _ _ _ _;refine kV [11] ?_;rfl
 | false=>
   have hhB:N5 h=x9 h:=hhB.trans (if_neg (by decide));rw[hhB]at hR;have hRn:R.length=3:=by rw[hR,dA,List.length_append,hB0];rfl
   have hSn:(R++[su/2^Int.toNat 8,IntKind.u8.wrap su,128]).length=6:=by rw[List.length_append,hRn];rfl
   repeat' (first
    |(refine qz ?_;first
     |refine lI ?_ (hle:=by rw[cu])
     |refine cl ?_ (hi:=by exact ox ho rfl)
     |refine ld (c := .int .i64 h.cols) ?_
     |refine ld (c := .int .i64 h.rows) ?_
     |refine ld (c := .bool false) ?_ (hc:=by rw[<-hw];rfl)
     |refine cl ?_ (hi:=by exact fX (size:=8) rfl (bs:=[]) (by omega) (by decide) (by decide) (i:=2) (k:=0) rfl rfl (by decide) hb0 nL nA rfl)
     |refine cl ?_ (hi:=by exact fX (size:=8) rfl (bs:=b0) (by omega) (by decide) (by omega) (i:=2) (k:=3) rfl rfl (by decide) hb1 nL nA rfl)
     |refine cl ?_ (hi:=by exact AX (b:=false) (bs:=b1) (by omega) (i:=2) (k:=4) rfl rfl (by decide) e0 nL nA rfl)
     |refine cl ?_ (hi:=by exact AW (bs:=x9 h) (by omega) (n:=3) (by rw[List.length_append,hB0];rfl) hR.symm (i:=2) (k:=5) rfl rfl (by decide) nL nA rfl)
     |refine vO (zs:=[.nils]) ?_
     |refine cl ?_ (hi:=by exact u5 (l:=R) hRb (by omega) (No R) hsu hRn (i:=6) (j:=7) rfl rfl (by decide) rfl)
     |refine cv ?_
     |refine Sz ?_
     |refine vO (zs:=[.int .u8 0]) ?_
     |refine PR (i:=6) (n:=3) (q:=R) (r:=[su/2^Int.toNat 8,IntKind.u8.wrap su,128]) ?_
     |refine cl ?_ (hi:=by exact rF nL nA rfl)
     |refine KT (n:=1) (r:=[176]) rfl (ic rfl rfl rfl) (fun h=>absurd h (by decide)) (fun _=>?_)
     |refine cl ?_ (hi:=by exact wu hSb (by omega) hSp hEe hSn rfl (i:=9) rfl nL nA rfl)
     |refine PR (i:=12) (n:=4) (q:=[0,0,1]++[176]) (r:=E) ?_)
    |refine zz ?_|refine zx (fun _=>?_) (fun _=>?_)|fail)
   have hz:eY 14 (4+E.length) 1 = .slice 14 0 (4+E.length) (.toEnd 1):=if_neg (by omega);have hlen:([0,0,1,176]++E).length=4+E.length:=by rw[List.length_append];rfl
   rw[hz,hlen];show aE _ _ _ _ _ _ _ _;refine kV [14] ?_;rfl
theorem H6{h:Hd}(ho:qZ h)(hr:∀i,i<64->(0<=h.a i/\h.a i<=255)/\(0<=h.b i/\h.b i<=255)){q:List Int}(hq:KF h=q){n:Nat}(hn:q.length=n){HS:ah}{N:Nat}(hN:HS.length=N){HS':ah}(hh:HS++[.cells (il .u8 q) 5 true false]=HS')(hbd:Nat.blt HS'.length Mem.bound=true) :
 aA.Sound prog ⟨27,[.agg (gV h)],HS,.tup [.one (.slice N 0 n (.toEnd 1)),.one (.int .i64 0)],HS',[]⟩:=by
 subst hN hn;exact bp [] [] 1 (Fb ho hr hq) (by simp) .nil .nil (.flat .nil) rfl (.flat .nil) (.flat .nil) (LM (show 0<1 by omega) trivial) rfl (.flat .nil) rfl rfl hh hbd (.inl rfl)
theorem HD{h:Hd}{p:Ph}{l:List Mb}{first:Int}(hT:l5 h p l first){L:List (List XC)}{k0:Nat}(ho:L[k0]? = some (fl mC l)){x:PS}(hx:nU l first (Nn h p) l.length = .inr x){a b:List Int}(hqa:(f5 (wr (x.B++[true])) (wr (x.B++[true])).length).1=a)(hqb:(f5 (wr (x.w++[true])) (wr (x.w++[true])).length).1=b)(hla:a.length<=30000)(hlb:b.length<=30000) :
 bm prog 32 [.one (.ptr 0 0),.agg (gV h),.agg (wY p),.one (.int .i64 first),.one (.lsl 13 k0 0 l.length l.length 0)] [eP 1 5 9,aU 2 3 4 cM,cL cM,cQ cM,cN cM,aU 6 7 8 cZ,cL cZ,cQ cZ,cN cZ,aU 10 11 12 cP,cL cP,cQ cP,cN cP,.late L] (.tup [.one (eY 14 a.length 1),.one (eY 15 b.length 1),.one (.int .i64 0)]) [eP 1 5 9,aU 2 3 4 cM,cL cM,cQ cM,cN cM,aU 6 7 8 cZ,cL cZ,cQ cZ,cN cZ,aU 10 11 12 cP,cL cP,cQ cP,cN cP,.late L,bz 5 (il .u8 a),bz 5 (il .u8 b)]:=by
 have h1:=hT.hd.dims.c0;have h2:=hT.hd.dims.c1;have h3:=hT.hd.dims.r0;have h4:=hT.hd.dims.r1;have hf:=hT.pos;have hm:=hT.many;have hm16:=hT.few;have ha:=hT.all;have hcr:1<=h.cols*h.rows/\h.cols*h.rows<=64:=HG hT.hd.dims;refine cO Tryz.func32 ?_
 repeat' (first
  |(refine qz ?_;first
   |refine qw ?_
   |refine tZ ?_
   |refine lI ?_ (hle:=by rw[cu])
   |refine cl ?_ (hi:=by exact ox hT.hd rfl)
   |refine cl ?_ (hi:=by exact lL hT.ph rfl)
   |refine cl ?_ (hi:=by exact Hk hT.hd rfl nL nA rfl))
  |refine zz ?_|refine zx (fun _=>?_) (fun _=>?_)|fail)
 refine WX.cj rfl ?_;refine WX.cj rfl ?_;refine WX.bQ (σ:=Nat×PS) (fun s=>[(3,.one (.int .i64 first)),(7,.one (.ptr 14 0)),(15,.one (.ptr 15 0)),(16,.one (.ptr 22 0)),(17,.one (.ptr 24 0)),(71,.one (.lsl 13 k0 0 l.length l.length 0)),(72,.one (.int .i64 (l.length:Nat))),(73,.one (.int .i64 (s.1:Nat)))]) (fun s=>[eP 1 5 9,aU 2 3 4 cM,cL cM,cQ cM,cN cM,aU 6 7 8 cZ,cL cZ,cQ cZ,cN cZ,aU 10 11 12 cP,cL cP,cQ cP,cN cP,.late L,.cells (wY p) 48 false false,Rt s.2.S 15,fi 17 s.2.S.cols s.2.S.rows,.map (cx s.2.S.M),Rw s.2.S 15,.map (ak s.2.S.A),.map (ak s.2.S.B),.map (ak s.2.S.C),aO 23 s.2.B,au s.2.B,aO 25 s.2.w,au s.2.w]) (fun s=>s.1<=l.length/\nU l first (Nn h p) s.1 = .inr s.2/\Eu p.inter h.cols h.rows s.1 s.2) (fun s=>l.length-s.1) (0,Nn h p) ⟨Nat.zero_le _,rfl,Nl hT.hd hT.ph⟩ (fun s _=>mE) (bq [0,1,2,3,4,5,6,7,8,9,10,11,12,13,15,16,17,18,19,20,21,22,23,25,24,26] (obj:=by(repeat' (first|exact af.nil|refine af.gT rfl rfl rfl rfl ?_|refine oz ?_));first|done|fail)) ?_;intro s ⟨hle,hrun,hs⟩ ih
 by_cases hlt:s.1<l.length
 ·have hmk:iU (l.getD s.1 default):=by
   rw[List.getD_eq_getElem?_getD,List.getElem?_eq_getElem hlt,Option.getD_some];exact hT.mok _ (List.getElem_mem hlt)
  have hnx:=w6 hrun
  obtain⟨m,hme⟩:∃m,l.getD s.1 default=m:=⟨_,rfl⟩
  have hme':l.getD (s.1:Int).toNat default=m:=hme;rw[hme]at hmk hnx;have hqq:=hs.qp;have hmb:0<=first+(s.1:Nat)/\first+(s.1:Nat)<h.cols*h.rows:=by omega
  obtain⟨c,hc⟩:∃c,db m p.inter s.2.S.qp=c:=⟨_,rfl⟩
  have hcS:db m s.2.S.inter s.2.S.qp=c:=by rw[hs.inter];exact hc
  by_cases hc0:c=0
  ·subst hc0;have hP:=I_ hs (by omega) hmk hmb hcS
   cases hz:mW s.2.S s.2.B s.2.w m (first+(s.1:Nat))with
   | none=>
     have eN:=(hx.symm.trans (Av (hnx.trans (FI hcS hz)) l.length (by omega)))
     cases eN
   | some z=>
     have hnx2:=hnx.trans (uK hcS hz)
     repeat' (first
      |(refine qz ?_;first
       |refine qw ?_
       |refine tZ ?_
       |refine nC (zs:=mC y_) (hz:=oN) ?_
       |refine kD (enc:=mC) ?_ ho (by omega)
       |refine tk (cs:=mC m) ?_ (hy:=by rw[<-hme'];rfl) (hs1:=by rw[aY]) (hs2:=by rw[aY])
       |refine lI ?_ (hle:=by rw[aY])
       |refine cl ?_ (hi:=by exact zo hmk hqq hc rfl)
       |refine cl ?_ (hi:=by exact OA hP hz (i:=22) (k:=23) (N:=15) (j:=24) (g:=25) rfl rfl rfl rfl rfl rfl (by decide) nL nA rfl))
      |refine zz ?_|refine zx (fun _=>?_) (fun _=>?_)|fail)
     exact ih (s.1+1,⟨z.1,z.2.1,z.2.2⟩) _ _ _ (bq [0,1,2,3,4,5,6,7,8,9,10,11,12,13,14,15,16,17,18,19,20,21,22,27,24,28]) ⟨by show s.1+1<=l.length;omega,hnx2,w4 hs hmk (hnx2▸hnx.symm)⟩ (by show l.length-(s.1+1)<l.length-s.1;omega)
  ·have eB:=(hx.symm.trans (Av (hnx.trans (FG hcS hc0)) l.length (by omega)))
   cases eB
 ·have e0:s.1=l.length:=by omega
  have hlB:=hs.len;have hlw:=hs.lenw;rw[e0,hx]at hrun;obtain rfl:x=s.2:=Sum.inr.inj hrun;have hB1:s.2.B.length<=1000000:=by omega
  have hB2:s.2.w.length<=1000000:=by omega
  have hL1:(wr (s.2.B++[true])).length<=100000:=by rw[dA,List.length_append,List.length_cons,List.length_nil];omega
  have hL2:(wr (s.2.w++[true])).length<=100000:=by rw[dA,List.length_append,List.length_cons,List.length_nil];omega
  have hY1:=jG (s.2.B++[true]);have hY2:=jG (s.2.w++[true])
  repeat' (first
   |(refine qz ?_;first
    |refine qw ?_
    |refine tZ ?_
    |refine cl ?_ (hi:=by exact vg (bs:=s.2.B) hB1 (i:=22) (k:=23) rfl rfl (by decide) nL nA rfl)
    |refine cl ?_ (hi:=by exact ry (l:=wr (s.2.B++[true])) hY1 hL1 hqa (n:=((s.2.B++[true]).length+7)/8) (by rw[dA]) (i:=26) rfl nL nA rfl)
    |refine cl ?_ (hi:=by exact vg (bs:=s.2.w) hB2 (i:=24) (k:=25) rfl rfl (by decide) nL nA rfl)
    |refine cl ?_ (hi:=by exact ry (l:=wr (s.2.w++[true])) hY2 hL2 hqb (n:=((s.2.w++[true]).length+7)/8) (by rw[dA]) (i:=28) rfl nL nA rfl))
   |refine zz ?_|refine zx (fun _=>?_) (fun _=>?_)|refine bM (by first|exact ai.nil|exact ai.one _|exact ai.pf (by repeat' (first|exact True.intro|refine And.intro ?_ ?_|exact Compat.ne rfl|exact d9 rfl))) ⟨by kernel_rfl,?_⟩|refine bM (by first|exact ai.nil|exact ai.one _|exact ai.pf (by repeat' (first|exact True.intro|refine And.intro ?_ ?_|exact Compat.ne rfl|exact d9 rfl))) ?_|fail)
  show aE _ _ _ _ _ _ _ _;refine kV [0,1,2,3,4,5,6,7,8,9,10,11,12,13,27,29] ?_;simp only[XV.aB,List.map_cons,List.map_nil,X1.aB,aX];rfl
theorem LY{h:Hd}{p:Ph}{l:List Mb}{first:Int}(hT:l5 h p l first){L:List (List XC)}{k0:Nat}(ho:L[k0]? = some (fl mC l)){a b:List Int}(hp:yi h p l first = .inr (a,b)){n:Nat}(hln:l.length=n){HS:ah}{K i:Nat}(hS:(HS.drop K).take 13=mR K)(hi:HS[i]? = some (.late L))(hd:(Bn K [i]).Nodup){N:Nat}(hN:HS.length=N){HS':ah}(hh:HS++[bz 5 (il .u8 a),bz 5 (il .u8 b)]=HS')(hbd:Nat.blt HS'.length Mem.bound=true) :
 aA.Sound prog ⟨32,[.one (.ptr K 0),.agg (gV h),.agg (wY p),.one (.int .i64 first),.one (.lsl i k0 0 n n 0)],HS,.tup [.one (eY N a.length 1),.one (eY (N+1) b.length 1),.one (.int .i64 0)],HS',Bn K [i]⟩:=by
 subst hln hN
 have hc:bm prog 32 [.one (.ptr 0 0),.agg (gV h),.agg (wY p),.one (.int .i64 first),.one (.lsl 13 k0 0 l.length l.length 0)] (kC++[.late L]) (.tup [.one (eY 14 a.length 1),.one (eY 15 b.length 1),.one (.int .i64 0)]) (kC ++ .late L::[bz 5 (il .u8 a),bz 5 (il .u8 b)]):=by
  unfold yi at hp;split at hp
  ·cases hp
  ·rename_i x hx;split at hp
   ·cases hp
   ·rename_i hl;cases hp;exact HD hT ho hx rfl rfl (by omega) (by omega)
 refine Ig 2 rfl hc hS hi hd (.cons (by show 0<14;omega) (.flat (.flat (.flat (.cons (by show 13<14;omega) .nil))))) (.cons rfl (.flat (.flat (.flat (.cons rfl .nil))))) ?_ ?_ (.flat (.flat .nil)) (.flat (.flat .nil)) ?_ hh hbd
 ·intro x hx;simp only[List.mem_cons,List.not_mem_nil,or_false]at hx
  rcases hx with rfl|rfl|rfl
  ·exact aJ (by omega)
  ·exact aJ (by omega)
  ·trivial
 ·simp only[XV.aB,List.map_cons,List.map_nil,X1.aB,aX];rfl
 ·cases il .u8 a<;>cases il .u8 b<;>rfl
theorem Cb{p:Ph}{first count all:Int}{a b:List Int}(hk:GZ p first count a.length b.length all)(ha:aW a)(hb:aW b){B:List Bool}(hB:mU p first count (a.length:Nat) (b.length:Nat) (gu a) (gu b) (gu (wr (pn p first count (a.length:Nat) (b.length:Nat) (gu a) (gu b))))=B){q:List Int}(hq:kN B a b=q){n:Nat}(hn:q.length=n){HS:ah}{i j:Nat}(hi:HS[i]? = some (bz 5 (il .u8 a)))(hj:HS[j]? = some (bz 5 (il .u8 b)))(hd:i≠j){N:Nat}(hN:HS.length=N){HS':ah}(hh:HS++[.cells (il .u8 q) 5 true false]=HS')(hbd:Nat.blt HS'.length Mem.bound=true) :
 aA.Sound prog ⟨33,[.agg (QS p first count (eY i a.length 1) (eY j b.length 1)),.one (.int .i64 all)],HS,.tup [.one (.slice N 0 n (.toEnd 1)),.one (.int .i64 0)],HS',[i,j]⟩:=by
 subst hn hq hN;have h1:=hk.a;have h2:=hk.b;rw[yx h1.1]at hi;rw[yx h2.1]at hj;rw[show eY i a.length 1 = .slice i 0 a.length (.toEnd 1)from if_neg (by omega),show eY j b.length 1 = .slice j 0 b.length (.toEnd 1)from if_neg (by omega)];refine bp [i,j] [i,j] 1 (Aj hk ha hb hB) (by simp[hd]) (.flat hi (.flat hj .nil)) (.flat (.flat .nil)) (.flat (.flat (.flat .nil))) rfl (.cons ?_ (.flat .nil)) (.cons rfl (.flat .nil)) (LM (show 2<3 by omega) trivial) rfl (.flat (.flat (.flat .nil))) rfl rfl (by simp only[bC];rw[aC hi,aC hj];exact hh) hbd (.inl rfl);intro c hc;simp only[List.mem_cons,List.not_mem_nil,or_false]at hc
 rcases hc with rfl|rfl|rfl|rfl|rfl|rfl|rfl|rfl<;>first|trivial|(show(_:Nat)<2;omega)
def gQ(b:Nat):List (List Int)->List XC
 | []=>[]
 | p::l => .lsl 0 b 0 p.length p.length 0::gQ (b+1) l
theorem nD:∀(l:List (List Int)) (b:Nat),(gQ b l).length=l.length
 | [],b=>rfl
 | p::l,b=>by rw[gQ,List.length_cons,nD l,List.length_cons]
theorem wm:∀(l:List (List Int)) (b:Nat) (p:List Int),gQ b (l++[p])=gQ b l++[.lsl 0 (b+l.length) 0 p.length p.length 0]
 | [],b,p=>rfl
 | x::l,b,p=>by
   rw[List.cons_append,gQ,wm l,gQ,List.cons_append,List.length_cons,show b+1+l.length=b+(l.length+1) by omega]
theorem nE:∀(l:List (List Int)) (b n:Nat),b+l.length<=n->∀c∈gQ b l,c.iF n=true
 | [],b,n,h=>fun c hc=>by cases hc
 | p::l,b,n,h=>fun c hc=>by
   rw[gQ]at hc;rw[List.length_cons]at h
   rcases List.mem_cons.1 hc with rfl|hc
   ·simp only[XC.iF,Nat.blt_eq];omega
   ·exact nE l (b+1) n (by omega) c hc
theorem xO:∀(l:List (List Int)) (b i:Nat),i<l.length->(gQ b l).getD i .nils = .lsl 0 (b+i) 0 (l.getD i []).length (l.getD i []).length 0
 | [],b,i,h=>absurd h (Nat.not_lt_zero i)
 | p::l,b,0,h=>rfl
 | p::l,b,i+1,h=>by
   rw[gQ,List.getD_cons_succ,xO l (b+1) i (by simpa using h),List.getD_cons_succ,show b+1+i=b+(i+1) by omega]
def vY(ps:List (List Int)):List (List XC):=ps.map (il .u8)++[gQ 0 ps]
theorem Lw{ps:List (List Int)}:nr (vY ps) (gQ 0 ps) ps:=by
 refine⟨nD ps 0,fun i hi => .inr ⟨i,_,Nat.le_refl _,?_,?_⟩⟩
 ·rw[xO ps 0 i hi,Nat.zero_add]
 ·unfold vY;rw[List.getElem?_append_left (by simpa using hi),List.getElem?_map,List.getElem?_eq_getElem hi,List.getD_eq_getElem?_getD,List.getElem?_eq_getElem hi];rfl
theorem Fh(ps:List (List Int)):(vY ps)[ps.length]? = some (gQ 0 ps):=by
 unfold vY;rw[List.getElem?_append_right (by simp),List.length_map,Nat.sub_self];rfl
theorem jE{h:Hd}{c:XC}{g m:Nat}(hc:c.lA g m):∀x∈fh h c,x.lA g m:=fun x hx=>by
 rcases List.mem_append.1 (show x∈gV h++[c]from hx)with hx|hx
 ·exact XC.iN (XC.bh (List.all_eq_true.1 (eC h) x hx) 0)
 ·rw[List.mem_singleton.1 hx];exact hc
end Go.Proofs.YthdciapjllppjaaGreat
