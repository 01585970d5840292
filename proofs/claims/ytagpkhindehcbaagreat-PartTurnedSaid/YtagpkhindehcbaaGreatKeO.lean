/-
  A part of the proof: Modes2, Scan, RunsOf, BlockPut.
-/
import Derived.Test.YtagpkhindehcbaaGreatKeH
import Derived.Test.YtagpkhindehcbaaGreatKeN
set_option maxRecDepth 10000
set_option maxHeartbeats 8000000
set_option linter.unusedVariables false
set_option linter.unusedSectionVars false
set_option linter.unusedSimpArgs false
namespace Go.Proofs.YtagpkhindehcbaaGreat
open Go.Xm
variable [ax]
def Bh(m:Mb)(i:Nat):Prop:=(m.kind=0->m.lev i=0)/\(-2047<=m.lev i/\m.lev i<=2047)/\(i%64=0->alone m=true->0<=m.lev i/\m.lev i<=127)
open Classical in
noncomputable def xY(m:Mb):Int:=if ∀i,i<384->Bh m i then 0 else 2
theorem Ja(m : Mb)(hm:iL m):bh Tryz.prog 51 [.agg (mC m)] [] (.one (.int .i64 (xY m))) []:=by
 have hkind:=hm.kind
 refine cO Tryz.func51 ?_
 repeat' (first
  |(refine qz ?_;first
   |refine sO (cs:=ti .i64 384 m.lev) ?_ (hle:=by rw[aI];decide) (hc:=vp m))
  |refine zz ?_|refine zx (fun _=>?_) (fun _=>?_)|fail)
 refine WX.dA (σ:=Nat) (fun k=>[(9,.one (.int .i64 (k:Nat))),(1,.one (.ptr 0 0)),(8,.agg (ti .i64 384 m.lev))]) (fun _=>[mw m]) (fun k=>k<=6/\∀i,i<k*64->Bh m i) (fun k=>6-k) 0 ⟨by omega,fun i hi=>by omega⟩ (fun s _=>lS) (cG [0]) ?_
 intro k ⟨hk,hall⟩ ih
 by_cases hk6:k<6
 ·repeat' (first
   |(refine qz ?_;first
    |refine Be (n:=384) ?_
    |refine kr ?_ (hs1:=by rw[aD]) (hs2:=by rw[aD])
    |refine fC ?_ (hle:=by rw[aD]))
   |refine zz ?_|refine zx (fun _=>?_) (fun _=>?_)|fail)
  refine WX.dA (σ:=Nat) (fun j=>[(13,.one (.int .i64 (j:Nat))),(1,.one (.ptr 0 0)),(8,.agg (ti .i64 384 m.lev)),(9,.one (.int .i64 (k:Nat))),(12,.agg (ti .i64 64 fun i=>m.lev (k*64+i)))]) (fun _=>[mw m]) (fun j=>j<=64/\∀i,i<k*64+j->Bh m i) (fun j=>64-j) 0 ⟨by omega,hall⟩ (fun s _=>lS) (cG [0]) ?_
  intro j ⟨hj,hall2⟩ ih2
  by_cases hj64:j<64
  ·have hd : m.lev (k*64+j)=m.lev (k*64+(j:Int).toNat):=rfl
   have hl:=hm.lev (k*64+j)
   repeat' (first
    |(refine qz ?_;first
     |refine OT (n:=64) (q:=fun i=>m.lev (k*64+i)) ?_
     |refine fC ?_ (hle:=by rw[aI])
     |refine uO (fun ga=>?_) (fun ga=>?_) (hi:=by exact oN rfl))
    |refine zz ?_|refine zx (fun _=>?_) (fun _=>?_)|fail)
   all_goals
    first
     | (refine ih2 (j+1) _ _ _ (cG [0]) ⟨by omega,fun i hi=>?_⟩ (by omega)
        by_cases hij:i=k*64+j
        ·subst hij
         unfold Bh
         simp only[Int.toNat_natCast]at *
         refine⟨fun _=>by omega,by omega,fun h64 hal=>?_⟩
         first
          | omega
          | (rw[hal]at ga;cases ga)
        ·exact hall2 i (by omega))
     | (show aB _ _ _ _ _ _ _ _;refine kV [] ?_
        rw [show xY m=2 from if_neg (fun hall=>by
         obtain⟨p1,p2,p3⟩:=hall (k*64+j) (by omega)
         simp only[Int.toNat_natCast]at *
         first
          | omega
          | (have:=p3 (by omega) ga;omega))]
        rfl)
  ·repeat' (first|refine zz ?_|refine zx (fun _=>?_) (fun _=>?_)|fail)
   refine ih (k+1) _ _ _ (cG [0]) ⟨by omega,fun i hi=>hall2 i (by omega)⟩ (by omega)
 ·repeat' (first|refine zz ?_|refine zx (fun _=>?_) (fun _=>?_)|fail)
  show aB _ _ _ _ _ _ _ _;refine kV [] ?_
  rw[show xY m=0 from if_pos (fun i hi=>hall i (by omega))]
  rfl
theorem Mp{m:Mb}(hm:iL m){HS:aj}(hb:Nat.blt HS.length Mem.bound=true):aG.Sound Tryz.prog ⟨51,[.agg (mC m)],HS,.one (.int .i64 (xY m)),HS,[]⟩:=
 az (Ja m hm) (by simp only[List.all_cons,List.all_nil,Bool.and_true];exact jk m) rfl hb
theorem iy{m:Mb}{b:Bool}(h:alone m=b){HS:aj}(hb:Nat.blt HS.length Mem.bound=true):aG.Sound Tryz.prog ⟨13,[.agg (mC m)],HS,.one (.bool b),HS,[]⟩:=by
 subst h;exact oN hb
noncomputable def dB(m:Mb)(inter:Bool)(was:Int):Int:=
 if 5<=m.kind\/(inter=false/\alone m=false)then 5
 else if m.edge=true/\alone m=false then 4
 else if m.kind=4/\(dt was m.qp).2=false then 6
 else if m.kind≠4/\m.qp≠was then 6
 else if gN m≠0 then gN m else xY m
theorem KL(m:Mb):gN m=0\/gN m=14:=by
 unfold gN
 split
 ·exact .inl rfl
 ·exact .inr rfl
theorem FN(m:Mb)(hm:iL m)(inter:Bool)(was:Int)(hw : -1000000<=was/\was<=1000000):bh Tryz.prog 28 [.agg (mC m),.one (.bool inter),.one (.int .i64 was)] [] (.one (.int .i64 (dB m inter was))) []:=by
 have hkind:=hm.kind
 have hqp:=hm.qp
 have hvv:=KL m
 obtain⟨a,ha⟩:∃a,alone m=a:=⟨_,rfl⟩
 obtain⟨e,he⟩:∃e,m.edge=e:=⟨_,rfl⟩
 obtain⟨st,hst⟩:∃st,dt was m.qp=st:=⟨_,rfl⟩
 have hC:mC m = .int .u8 m.kind :: .int .i64 m.qp::cy (m.v 0)::cy (m.v 1)::cy (m.v 2)::cy (m.v 3) :: .bool e::ti .i64 384 m.lev:=by rw[<-he];rfl
 have al:∀{HS:aj},Nat.blt HS.length Mem.bound=true->aG.Sound Tryz.prog ⟨13,[.agg (mC m)],HS,.one (.bool a),HS,[]⟩:=fun hb=>iy ha hb
 have sl:∀{HS:aj},Nat.blt HS.length Mem.bound=true->aG.Sound Tryz.prog ⟨49,[.one (.int .i64 was),.one (.int .i64 m.qp)],HS,.tup [.one (.int .i64 st.1),.one (.bool st.2)],HS,[]⟩:=fun hb=>by
  have:=zP hw hqp hb
  rw[hst]at this
  exact this
 have hl6:(mC m)[6]? = some (.bool e):=by rw[hC];rfl
 obtain⟨s1,s2⟩:=st
 cases inter<;>cases a<;>cases e<;>cases s2
 all_goals
  refine cO Tryz.func28 ?_
  repeat' (first
   |(refine qz ?_;first
    |refine ld (hc:=hl6) ?_
    |refine fC ?_ (hle:=by rw[aI])
    |refine cl ?_ (hi:=by exact al rfl)
    |refine cl ?_ (hi:=by exact sl rfl)
    |refine cl ?_ (hi:=by exact Nu hm rfl)
    |refine cl ?_ (hi:=by exact Mp hm rfl))
   |refine zz ?_|refine zx (fun _=>?_) (fun _=>?_)|fail)
  all_goals
   show aB _ _ _ _ _ _ _ _;refine kV [] ?_
   unfold dB
   rw[ha,he,hst]
   simp only[Bool.false_eq_true,Bool.true_eq_false,and_true,and_false,true_and,false_and,or_false,or_true,if_true,if_false,true_or,not_true,not_false_eq_true]
   repeat' split
   all_goals first
    | rfl
    | (exfalso;omega)
theorem Il{m:Mb}(hm:iL m){inter:Bool}{was:Int}(hw : -1000000<=was/\was<=1000000){HS:aj}(hb:Nat.blt HS.length Mem.bound=true):aG.Sound Tryz.prog ⟨28,[.agg (mC m),.one (.bool inter),.one (.int .i64 was)],HS,.one (.int .i64 (dB m inter was)),HS,[]⟩:=
 az (FN m hm inter was hw) (by show((mC m).all XC.shut&&(true&&(true&&true)))=true;rw[jk];rfl) rfl hb
end Go.Proofs.YtagpkhindehcbaaGreat
namespace Go.Proofs.YtagpkhindehcbaaGreat
open Go.Xm
variable [ax]
def h_(o:Int)(f:Nat->Int)(i:Nat):Int:=f (oD o i).toNat
def rj(g z:Nat->Int)(i j:Nat):Int:=if j<i then g j else z j
theorem pb(g z:Nat->Int)(i:Nat):cn (rj g z i) i (g i)=rj g z (i+1):=by
 funext j
 unfold cn rj
 by_cases h:j=i
 ·subst h;simp
 ·by_cases h1:j<i
  ·rw[if_neg h,if_pos h1,if_pos (by omega)]
  ·rw[if_neg h,if_neg h1,if_neg (by omega)]
theorem pc(g z:Nat->Int):rj g z 0=z:=by funext j;simp[rj]
theorem Dk(k:IntKind)(g z:Nat->Int)(n:Nat):ti k n (rj g z n)=ti k n g:=sf fun i hi=>by simp[rj,hi]
theorem Kp{o:Int}(h:o=0\/o=1\/o=2)(f:Nat->Int):bh Tryz.prog 91 [.one (.int .u8 o),.agg (ti .i64 64 f)] [] (.agg (ti .i64 64 (h_ o f))) []:=by
 refine cO Tryz.func91 ?_
 repeat' (first
  |(refine qz ?_;first
   |refine cl ?_ (hi:=by exact yd h rfl))
  |refine zz ?_|refine zx (fun _=>?_) (fun _=>?_)|fail)
 refine WX.dA (σ:=Nat) (fun j=>[(10,.one (.int .i64 (j:Nat))),(3,.one (.ptr 0 0)),(4,.one (.ptr 1 0)),(5,.one (.ptr 2 0)),(9,.agg (ti .i64 64 (oD o)))]) (fun j=>[.cells (ti .i64 64 f) 50 false false,.cells (ti .i64 64 fun _=>0) 50 false false,.cells (ti .i64 64 (rj (h_ o f) (fun _=>0) j)) 50 false false]) (fun j=>j<=64) (fun j=>64-j) 0 (by omega) (fun s _=>lS) (cG [0,1,2] (obj:=by(repeat' (first|exact ae.nil|refine ae.flat (by rw[pc];rfl) ?_|refine ae.flat rfl ?_|refine ae.cons rfl ?_|refine ae.dead rfl ?_|refine ae.cons (by simp only[ak.ay,List.map_cons,List.map_nil,XC.ay,aC];exact rfl) ?_));first|done|fail)) ?_
 intro j hj ih
 by_cases hj64:j<64
 ·have hr:=kS h hj64
  have hr':0<=oD o (j:Int).toNat/\oD o (j:Int).toNat<64:=hr
  repeat' (first
   |(refine qz ?_;first
    |refine OT (n:=64) ?_)
   |refine zz ?_|refine zx (fun _=>?_) (fun _=>?_)|fail)
  refine ih (j+1) _ _ _ (cG [0,1,2] (obj:=by(repeat' (first|exact ae.nil|refine ae.flat (by rw[<-pb];rfl) ?_|refine ae.flat rfl ?_|refine ae.cons rfl ?_|refine ae.dead rfl ?_|refine ae.cons (by simp only[ak.ay,List.map_cons,List.map_nil,XC.ay,aC];exact rfl) ?_));first|done|fail)) (by omega) (by omega)
 ·obtain rfl:j=64:=by omega
  repeat' (first
   |(refine qz ?_;first
    |refine fC ?_ (hle:=by rw[aD])
    |refine kr ?_ (hs1:=by rw[aD]) (hs2:=by rw[aD]))
   |refine zz ?_|refine zx (fun _=>?_) (fun _=>?_)|fail)
  show aB _ _ _ _ _ _ _ _;refine kV [] ?_
  rw[Dk];rfl
theorem pY{o:Int}(h:o=0\/o=1\/o=2){f:Nat->Int}{HS:aj}(hb:Nat.blt HS.length Mem.bound=true):aG.Sound Tryz.prog ⟨91,[.one (.int .u8 o),.agg (ti .i64 64 f)],HS,.agg (ti .i64 64 (h_ o f)),HS,[]⟩:=
 az (Kp h f) (by show(true&&((ti .i64 64 f).all XC.shut&&true))=true;rw[gX];rfl) (gX _ _ _) hb
def dC(edge:Bool)(frm:Int):Int:=if edge=true/\frm=1 then 2 else if edge=true/\frm=2 then 1 else 0
theorem eQ(edge:Bool)(frm:Int):dC edge frm=0\/dC edge frm=1\/dC edge frm=2:=by
 unfold dC
 split
 ·exact .inr (.inr rfl)
 ·split
  ·exact .inr (.inl rfl)
  ·exact .inl rfl
theorem Gk(edge:Bool)(frm:Int):bh Tryz.prog 71 [.one (.bool edge),.one (.int .u8 frm)] [] (.one (.int .u8 (dC edge frm))) []:=by
 cases edge
 all_goals
  refine cO Tryz.func71 ?_
  repeat' (first|refine zz ?_|refine zx (fun _=>?_) (fun _=>?_)|fail)
  all_goals
   show aB _ _ _ _ _ _ _ _;refine kV [] ?_
   unfold dC
   simp only[Bool.false_eq_true,true_and,false_and,if_false]
   repeat' split
   all_goals first
    | rfl
    | (exfalso;omega)
theorem km{edge:Bool}{frm:Int}{HS:aj}(hb:Nat.blt HS.length Mem.bound=true):aG.Sound Tryz.prog ⟨71,[.one (.bool edge),.one (.int .u8 frm)],HS,.one (.int .u8 (dC edge frm)),HS,[]⟩:=
 az (Gk edge frm) rfl rfl hb
def eJ(m:Mb):Int:=if alone m=true then 1 else 0
theorem GO(m:Mb):bh Tryz.prog 37 [.agg (mC m)] [] (.one (.int .i64 (eJ m))) []:=by
 unfold eJ
 refine cO Tryz.func37 ?_
 repeat' (first
  |(refine qz ?_;first
   |refine fC ?_ (hle:=by rw[aI])
   |refine uO (fun ga=>?_) (fun ga=>?_) (hi:=by exact oN rfl))
  |refine zz ?_|refine zx (fun _=>?_) (fun _=>?_)|fail)
 ·show aB _ _ _ _ _ _ _ _;refine kV [] ?_
  rw[if_pos ga];rfl
 ·show aB _ _ _ _ _ _ _ _;refine kV [] ?_
  rw[if_neg (by rw[ga];decide)];rfl
theorem sa{m:Mb}{HS:aj}(hb:Nat.blt HS.length Mem.bound=true):aG.Sound Tryz.prog ⟨37,[.agg (mC m)],HS,.one (.int .i64 (eJ m)),HS,[]⟩:=
 az (GO m) (by simp only[List.all_cons,List.all_nil,Bool.and_true];exact jk m) rfl hb
end Go.Proofs.YtagpkhindehcbaaGreat
namespace Go.Xm
variable [ax]
variable {P:Program} {ops:Array Oper} {nt nI:Nat} {al:bn} {hs:aj} {o:Oper} {l:List Oper} {L:List aG} {K:List Ab->bn->aj->Prop} {d:Nat}
theorem R7{t:TypeId}{a y:Operand}{i off:Nat}{c:XC}{cs cs':List XC}{e:TypeId}{hs':aj}(hk:SK P ops nt L l al hs' fun bs=>K (⟨true,.none,[i]⟩::bs))(hle:off<cs.length)(hv:cs.set off c=cs')(ho:o.op = .store t a y:=by exact rfl)(ht:aQ P t 1:=by infer_instance)(hw:av ops (rg al) o=some true:=by exact rfl)(hd:o.dst = .none:=by exact rfl)
 (ha:ai (rg al) a = .one (.ptr i off):=by exact rfl) (hy:db (ai (rg al) y)=some [c]:=by exact rfl) (hi:hs[i]? = some (cR e cs):=by exact rfl) (hh:hs.set i (cR e cs')=hs':=by first|(simp only[List.set_cons_succ,List.set_cons_zero];exact rfl)|exact rfl):SK P ops nt L (o::l) al hs K:=by
 have h1:cR e cs = .cells cs e true false:=e9 (fun hn=>by rw[hn]at hle;simp at hle)
 have h2:cR e cs' = .cells cs' e true false:=e9 (fun hn=>by
  have:=congrArg List.length hv
  rw[List.length_set,hn]at this
  simp at this
  rw[this]at hle
  simp at hle)
 exact lG ho hw hd ha hy (hi.trans (congrArg some h1)) hle hv (by rw[<-h2];exact hh) hk
end Go.Xm
namespace Go.Proofs.YtagpkhindehcbaaGreat
open Go.Xm
variable [ax]
abbrev Ev:=Int×Int×Bool
def mu(e:Ev):List XC:=[.int .i64 e.1,.int .i64 e.2.1,.bool e.2.2]
instance:sC mu 3:=⟨fun _=>rfl,fun _=>rfl,by decide⟩
abbrev c8(l:List Ev):ak:=cR 144 (fl mu l)
def eF(f:Nat->Int):Nat->Nat->Int->List Ev
 | 0,_,_=>[]
 | k+1,i,run=>if f i=0 then eF f k (i+1) (run+1)else(run,f i,false)::eF f k (i+1) 0
def iQ:List Ev->List Ev
 | []=>[]
 | [e]=>[(e.1,e.2.1,true)]
 | e::e2::l=>e::iQ (e2::l)
theorem iR:∀l:List Ev,(iQ l).length=l.length
 | []=>rfl
 | [e]=>rfl
 | e::e2::l=>by simp only[iQ,List.length_cons,iR (e2::l)]
theorem Ew(e:Ev)(l:List Ev):fl mu (e::l) = .int .i64 e.1 :: .int .i64 e.2.1 :: .bool e.2.2::fl mu l:=rfl
theorem vg:∀l:List Ev,l≠[]->(fl mu l).set ((l.length-1)*3+2) (.bool true)=fl mu (iQ l)
 | [],h=>absurd rfl h
 | [e],_=>rfl
 | e::e2::l,_=>by
   have ih:=vg (e2::l) (by simp)
   rw[Ew e,iQ,Ew e,<-ih]
   have:((e::e2::l).length-1)*3+2=((e2::l).length-1)*3+2+3:=by simp only[List.length_cons];omega
   rw[this]
   rfl
def dV(f:Nat->Int)(st:Nat):List Ev:=iQ (eF f (64-st) st 0)
theorem sX(f:Nat->Int):∀(k i:Nat) (run:Int),(eF f k i run).length<=k
 | 0,_,_=>Nat.le_refl _
 | k+1,i,run=>by
   unfold eF
   split
   ·have:=sX f k (i+1) (run+1);omega
   ·have:=sX f k (i+1) 0;simp only[List.length_cons];omega
theorem J2(f:Nat->Int)(st:Nat)(hst:st<=64):bh Tryz.prog 90 [.agg (ti .i64 64 f),.one (.int .i64 (st:Nat))] [] (iv 0 (dV f st).length 3) [c8 (dV f st)]:=by
 refine cO Tryz.func90 ?_
 repeat' (first|refine zz ?_|refine zx (fun _=>?_) (fun _=>?_)|fail)
 refine WX.c7 rfl ?_
 refine WX.dA (σ:=Nat×Int×List Ev) (fun s=>[(7,.one (.int .i64 (s.1:Nat))),(6,.one (.int .i64 s.2.1)),(5,iv 1 s.2.2.length 3),(2,.one (.ptr 0 0))]) (fun s=>[.cells (ti .i64 64 f) 50 false false,c8 s.2.2]) (fun s=>s.1<=64/\0<=s.2.1/\s.2.1<=s.1/\s.2.2.length<=s.1/\s.2.2++eF f (64-s.1) s.1 s.2.1=eF f (64-st) st 0) (fun s=>64-s.1) (st,0,[]) ⟨hst,Int.le_refl _,by show(0:Int)<=(st:Nat);omega,by show 0<=st;omega,rfl⟩ (fun s _=>lS) (cG [0,1]) ?_
 intro s ⟨h1,h2,h3,h4,h5⟩ ih
 by_cases h64:s.1<64
 ·obtain⟨k,hk⟩:∃k,64-s.1=k+1:=⟨63-s.1,by omega⟩
  have hk':64-(s.1+1)=k:=by omega
  rw[hk,eF]at h5
  by_cases hz:f s.1=0
  ·have hz':f (s.1:Int).toNat=0:=hz
   rw[if_pos hz]at h5
   repeat' (first|refine zz ?_|refine zx (fun _=>?_) (fun _=>?_)|fail)
   refine ih (s.1+1,s.2.1+1,s.2.2) _ _ _ (cG [0,1]) ⟨by show s.1+1<=64;omega,by show 0<=s.2.1+1;omega,by show s.2.1+1<=((s.1+1:Nat):Int);omega,by show s.2.2.length<=s.1+1;omega,by show s.2.2++eF f (64-(s.1+1)) (s.1+1) (s.2.1+1)=_;rw[hk'];exact h5⟩ (by show 64-(s.1+1)<64-s.1;omega)
  ·have hz':¬f (s.1:Int).toNat=0:=hz
   rw[if_neg hz]at h5
   repeat' (first
    |(refine qz ?_;first
     |refine oP (enc:=mu) (a:=(s.2.1,f s.1,false)) ?_
     |refine ub (enc:=mu) ?_)
    |refine zz ?_|refine zx (fun _=>?_) (fun _=>?_)|fail)
   refine ih (s.1+1,0,s.2.2++[(s.2.1,f s.1,false)]) _ _ _ (cG [0,3] (obj:=by(repeat' (first|exact ae.nil|refine ae.flat (by rw[List.length_append];rfl) ?_|refine ae.flat rfl ?_|refine ae.cons rfl ?_|refine ae.dead rfl ?_|refine ae.cons (by simp only[ak.ay,List.map_cons,List.map_nil,XC.ay,aC];exact rfl) ?_));first|done|fail)) ⟨by show s.1+1<=64;omega,by show(0:Int)<=0;omega,by show(0:Int)<=((s.1+1:Nat):Int);omega,by show(s.2.2++[_]).length<=s.1+1;simp;omega,by show(s.2.2++[(s.2.1,f s.1,false)])++eF f (64-(s.1+1)) (s.1+1) 0=_;rw[hk',List.append_assoc];exact h5⟩ (by show 64-(s.1+1)<64-s.1;omega)
 ·have e0:64-s.1=0:=by omega
  rw[e0,eF,List.append_nil]at h5
  have e:dV f st=iQ s.2.2:=by rw[dV,<-h5]
  rw[e]
  by_cases hn:s.2.2.length=0
  ·have hs0:s.2.2 = []:=List.length_eq_zero_iff.1 hn
   rw[hs0]
   repeat' (first|refine zz ?_|refine zx (fun _=>?_) (fun _=>?_)|fail)
   show aB _ _ _ _ _ _ _ _;refine kV [1] ?_
   rfl
  ·have hset:(fl mu s.2.2).set ((((s.2.2.length:Nat):Int)-1).toNat*3+2) (.bool true)=fl mu (iQ s.2.2):=by
    rw[show(((s.2.2.length:Nat):Int)-1).toNat=s.2.2.length-1 by omega]
    exact vg _ (fun h=>hn (by rw[h];rfl))
   have hle:(((s.2.2.length:Nat):Int)-1).toNat*3+2<(fl mu s.2.2).length:=by
    rw[u_];omega
   repeat' (first
    |(refine qz ?_;first
     |refine R7 ?_ hle hset)
    |refine zz ?_|refine zx (fun _=>?_) (fun _=>?_)|fail)
   show aB _ _ _ _ _ _ _ _;refine kV [1] ?_
   rw[eG,iR]
   rfl
theorem MU{f:Nat->Int}{st:Nat}{z:Int}(hz:z=(st:Nat))(hst:st<=64){HS:aj}{N:Nat}(hN:HS.length=N){HS':aj}(hh:HS++[c8 (dV f st)]=HS')(hbd:Nat.blt HS'.length Mem.bound=true) :
 aG.Sound Tryz.prog ⟨90,[.agg (ti .i64 64 f),.one (.int .i64 z)],HS,iv N (dV f st).length 3,HS',[]⟩:=by
 subst hN
 subst hz
 refine bT (os:=[c8 (dV f st)]) [] [] 1 (J2 f st hst) (by simp) .nil .nil ?_ rfl (.flat (.flat .nil)) (.flat (.flat .nil)) (ju (Nat.le_of_ble_eq_true rfl)) (eG ..) ?_ ?_ rfl hh hbd (.inl rfl)
 ·exact .flat .nil
 ·exact .flat .nil
 ·unfold c8
  cases fl mu (dV f st)<;>rfl
def l4(l e:Nat->Int)(i:Nat):Prop:=l i-e i < -2047\/2047<l i-e i
open Classical in
noncomputable def ov(l e:Nat->Int):Option (Nat->Int):=if ∃i,i<64/\l4 l e i then none else some fun i=>l i-e i
noncomputable def Bl(o:Option (Nat->Int)):XV := .tup [.agg (ti .i64 64 (o.getD fun _=>0)),.one (.bool o.isSome)]
theorem vn(o:Option (Nat->Int)):(Bl o).shut=true:=by
 show((ti .i64 64 (o.getD fun _=>0)).all XC.shut&&(true&&true))=true
 rw[gX];rfl
theorem I8(l e:Nat->Int)(hl:∀i,-1000000<=l i/\l i<=1000000)(he:∀i,-1000000<=e i/\e i<=1000000):bh Tryz.prog 88 [.agg (ti .i64 64 l),.agg (ti .i64 64 e)] [] (Bl (ov l e)) []:=by
 refine cO Tryz.func88 ?_
 repeat' (first
  |(refine qz ?_;first
   |refine fC ?_ (hle:=by rw[aD]))
  |refine zz ?_|refine zx (fun _=>?_) (fun _=>?_)|fail)
 refine WX.dA (σ:=Nat) (fun j=>[(9,.one (.int .i64 (j:Nat))),(2,.one (.ptr 0 0)),(4,.one (.ptr 1 0)),(8,.agg (ti .i64 64 e))]) (fun j=>[.cells (ti .i64 64 (rj (fun i=>l i-e i) l j)) 50 false false,.cells (ti .i64 64 fun _=>0) 50 false false]) (fun j=>j<=64/\∀i,i<j->¬l4 l e i) (fun j=>64-j) 0 ⟨by omega,fun i hi=>by omega⟩ (fun s _=>lS) (cG [0,2] (obj:=by(repeat' (first|exact ae.nil|refine ae.flat (by rw[pc];rfl) ?_|refine ae.flat rfl ?_|refine ae.cons rfl ?_|refine ae.dead rfl ?_|refine ae.cons (by simp only[ak.ay,List.map_cons,List.map_nil,XC.ay,aC];exact rfl) ?_));first|done|fail)) ?_
 intro j ⟨hj,hall⟩ ih
 by_cases hj64:j<64
 ·have a1:=hl j
  have a2:=he j
  have a2':=he (j:Int).toNat
  have e1:e (j:Int).toNat=e j:=rfl
  have em:rj (fun i=>l i-e i) l j j=l j:=by simp[rj]
  have eu:cn (rj (fun i=>l i-e i) l j) j (rj (fun i=>l i-e i) l j j-e (j:Int).toNat) j=rj (fun i=>l i-e i) l j j-e (j:Int).toNat:=by simp[cn]
  by_cases hb:l4 l e j
  ·have hb':=hb
   unfold l4 at hb'
   have e0:ov l e=none:=if_pos ⟨j,hj64,hb⟩
   rw[e0]
   repeat' (first
    |(refine qz ?_;first
     |refine OT (n:=64) ?_
     |refine kr ?_ (hs1:=by rw[aD]) (hs2:=by rw[aD]))
    |refine zz ?_|refine zx (fun _=>?_) (fun _=>?_)|fail)
   all_goals
    first
     | (exfalso;omega)
     | (show aB _ _ _ _ _ _ _ _;refine kV [] ?_;rfl)
  ·have hb':=hb
   unfold l4 at hb'
   have e2:rj (fun i=>l i-e i) l j j-e (j:Int).toNat=l j-e j:=by rw[em,e1]
   repeat' (first
    |(refine qz ?_;first
     |refine OT (n:=64) ?_)
    |refine zz ?_|refine zx (fun _=>?_) (fun _=>?_)|fail)
   refine ih (j+1) _ _ _ (cG [0,1] (obj:=by(repeat' (first|exact ae.nil|refine ae.flat (by rw[<-pb,e2];rfl) ?_|refine ae.flat rfl ?_|refine ae.cons rfl ?_|refine ae.dead rfl ?_|refine ae.cons (by simp only[ak.ay,List.map_cons,List.map_nil,XC.ay,aC];exact rfl) ?_));first|done|fail)) ⟨by omega,fun i hi=>?_⟩ (by omega)
   by_cases hij:i=j
   ·subst hij;exact hb
   ·exact hall i (by omega)
 ·obtain rfl:j=64:=by omega
  have e0:ov l e=some fun i=>l i-e i:=if_neg fun⟨i,hi,hb⟩=>hall i hi hb
  rw[e0]
  repeat' (first
   |(refine qz ?_;first
    |refine fC ?_ (hle:=by rw[aD])
    |refine kr ?_ (hs1:=by rw[aD]) (hs2:=by rw[aD]))
   |refine zz ?_|refine zx (fun _=>?_) (fun _=>?_)|fail)
  show aB _ _ _ _ _ _ _ _;refine kV [] ?_
  rw[Dk];rfl
theorem zq{l e:Nat->Int}(hl:∀i,-1000000<=l i/\l i<=1000000)(he:∀i,-1000000<=e i/\e i<=1000000){o:Option (Nat->Int)}(ho:ov l e=o){HS:aj}(hb:Nat.blt HS.length Mem.bound=true):aG.Sound Tryz.prog ⟨88,[.agg (ti .i64 64 l),.agg (ti .i64 64 e)],HS,Bl o,HS,[]⟩:=by
 subst ho
 exact az (I8 l e hl he) (by show((ti .i64 64 l).all XC.shut&&((ti .i64 64 e).all XC.shut&&true))=true;rw[gX,gX];rfl) (vn _) hb
end Go.Proofs.YtagpkhindehcbaaGreat
namespace Go.Proofs.YtagpkhindehcbaaGreat
open Go.Xm
variable [ax]
structure lT(e:Ev):Prop where
 run:0<=e.1/\e.1<=63
 nz:e.2.1≠0
 lev : -2047<=e.2.1/\e.2.1<=2047
theorem rW(e:Ev)(h:lT e):bh Tryz.prog 104 [.agg (mu e)] [] (.one (.bool true)) []:=by
 have h1:=h.run
 have h2:=h.nz
 have h3:=h.lev
 refine cO Tryz.func104 ?_
 repeat' (first|refine zz ?_|refine zx (fun _=>?_) (fun _=>?_)|fail)
 show aB _ _ _ _ _ _ _ _;refine kV [] ?_
 rfl
theorem tM{e:Ev}(h:lT e){HS:aj}(hb:Nat.blt HS.length Mem.bound=true):aG.Sound Tryz.prog ⟨104,[.agg (mu e)],HS,.one (.bool true),HS,[]⟩:=
 az (rW e h) rfl rfl hb
structure jC(l:List Ev):Prop where
 len:0<l.length/\l.length<=64
 ok:∀j,j<l.length->lT (l.getD j default)
 last:∀j,j<l.length->(l.getD j default).2.2=decide (j+1=l.length)
def IE(e:Ev):List Bool:=bP (2*e.1+(if e.2.2 then 1 else 0))++bP (aV e.2.1-1)
def dO(l:List Ev):List Bool:=l.flatMap IE
theorem pr{x:Int}(h : -2047<=x/\x<=2047)(h0:x≠0):1<=aV x/\aV x<=4094:=by unfold aV;split<;>omega
theorem LS{e:Ev}(h:lT e):(IE e).length<=54:=by
 unfold IE
 have h1:=h.run
 have h2:=pr h.lev h.nz
 have h3:=jO (2*e.1+(if e.2.2 then 1 else 0)) (by split<;>omega)
 have h4:=jO (aV e.2.1-1) (by omega)
 rw[List.length_append];omega
theorem sK{l:List Ev}{j:Nat}(hj:j<l.length):dO (l.take (j+1))=dO (l.take j)++IE (l.getD j default):=by
 unfold dO
 rw[List.take_add_one,List.flatMap_append,List.getD_eq_getElem?_getD,List.getElem?_eq_getElem hj]
 simp
theorem u5{l:List Ev}(h:jC l):∀j,j<=l.length->(dO (l.take j)).length<=54*j
 | 0,_=>by simp[dO]
 | j+1,hj=>by
   rw[sK (by omega),List.length_append]
   have:=u5 h j (by omega)
   have:=LS (h.ok j (by omega))
   omega
theorem Ib(bs:List Bool)(l:List Ev)(h:jC l)(hb:bs.length<=800000) :
 bh Tryz.prog 92 [.one (.ptr 0 0),iv 2 l.length 3] [aN 1 bs,aq bs,c8 l] (.one (.int .i64 0)) [aN 3 (bs++dO l),.dead,c8 l,aq (bs++dO l)]:=by
 have hlen:=h.len
 refine cO Tryz.func92 ?_
 repeat' (first|refine zz ?_|refine zx (fun _=>?_) (fun _=>?_)|fail)
 refine WX.dA (σ:=Nat) (fun j=>[(22,.one (.int .i64 (j:Nat))),(0,.one (.ptr 0 0)),(1,iv 2 l.length 3),(20,iv 2 l.length 3),(21,.one (.int .i64 (l.length:Nat)))]) (fun _=>[aN 1 bs,aq bs,c8 l]) (fun j=>j<=l.length) (fun j=>l.length-j) 0 (by omega) (fun s _=>lS) (cG [0,1,2]) ?_
 intro j hj ih
 by_cases hjl:j<l.length
 ·have hok:=h.ok j hjl
  have hlast:=h.last j hjl
  by_cases hl:j+1=l.length
  ·have hb2:(mu (l.getD j default))[2]? = some (.bool true):=by
    show some (XC.bool (l.getD j default).2.2)=_
    rw[hlast,decide_eq_true hl]
   repeat' (first
    |(refine qz ?_;first
     |refine QR (enc:=mu) (j:=j) ?_
     |refine ld (hc:=hb2) ?_
     |refine cl ?_ (hi:=by exact tM hok rfl))
    |refine zz ?_|refine zx (fun _=>?_) (fun _=>?_)|fail)
   refine ih (j+1) _ _ _ (cG [0,1,2]) (by omega) (by omega)
  ·have hb2:(mu (l.getD j default))[2]? = some (.bool false):=by
    show some (XC.bool (l.getD j default).2.2)=_
    rw[hlast,decide_eq_false hl]
   repeat' (first
    |(refine qz ?_;first
     |refine QR (enc:=mu) (j:=j) ?_
     |refine ld (hc:=hb2) ?_
     |refine cl ?_ (hi:=by exact tM hok rfl))
    |refine zz ?_|refine zx (fun _=>?_) (fun _=>?_)|fail)
   refine ih (j+1) _ _ _ (cG [0,1,2]) (by omega) (by omega)
 ·repeat' (first|refine zz ?_|refine zx (fun _=>?_) (fun _=>?_)|fail)
  refine WX.dA (σ:=Nat) (fun j=>[(43,.one (.int .i64 (j:Nat))),(0,.one (.ptr 0 0)),(41,iv 2 l.length 3),(42,.one (.int .i64 (l.length:Nat)))]) (fun j=>[aN 3 (bs++dO (l.take j)),.dead,c8 l,aq (bs++dO (l.take j))]) (fun j=>j<=l.length) (fun j=>l.length-j) 0 (by omega) (fun s _=>lS) (cG [0,1,2,1] (obj:=by(repeat' (first|exact ae.nil|refine ae.flat (by rw[show dO (l.take 0) = []from rfl,List.append_nil];rfl) ?_|refine ae.ir (by rw[show dO (l.take 0) = []from rfl,List.append_nil];rfl) rfl rfl rfl ?_|refine ae.flat rfl ?_|refine ae.cons rfl ?_|refine ae.dead rfl ?_|refine ae.cons (by simp only[ak.ay,List.map_cons,List.map_nil,XC.ay,aC];exact rfl) ?_));first|done|fail)) ?_
  intro j2 hj2 ih2
  by_cases hjl2:j2<l.length
  ·have hok:=h.ok j2 hjl2
   have hlast:=h.last j2 hjl2
   have e1:=hok.run
   have e2:=hok.lev
   have e3:=pr e2 hok.nz
   have hB:=u5 h j2 hj2
   have hlB:(bs++dO (l.take j2)).length<=810000:=by rw[List.length_append];omega
   by_cases hl:j2+1=l.length
   ·have hb2:(mu (l.getD j2 default))[2]? = some (.bool true):=by
     show some (XC.bool (l.getD j2 default).2.2)=_
     rw[hlast,decide_eq_true hl]
    have hr:=jO (2*(l.getD j2 default).1+1) (by omega)
    have eB:dO (l.take (j2+1))=dO (l.take j2)++(bP (2*(l.getD j2 default).1+1)++bP (aV (l.getD j2 default).2.1-1)):=by
     rw[sK hjl2,IE,hlast,decide_eq_true hl];rfl
    repeat' (first
     |(refine qz ?_;first
      |refine QR (enc:=mu) (j:=j2) ?_
      |refine ld (hc:=hb2) ?_
      |refine cl ?_ (hi:=by exact s6 (by omega) rfl)
      |refine cl ?_ (hi:=by exact jP (v:=2*(l.getD j2 default).1+1) (bs:=bs++dO (l.take j2)) (by omega) (by omega) rfl rfl (by decide) nL nA rfl)
      |refine cl ?_ (hi:=by exact jP (v:=aV (l.getD j2 default).2.1-1) (bs:=(bs++dO (l.take j2))++bP (2*(l.getD j2 default).1+1)) (by omega) (by rw[List.length_append];omega) rfl rfl (by decide) nL nA rfl))
     |refine zz ?_|refine zx (fun _=>?_) (fun _=>?_)|refine bj (by first|exact af.nil|exact af.one _|exact af.l7 (by repeat' (first|exact True.intro|refine And.intro ?_ ?_|exact Compat.ne rfl|exact e_ rfl))) ⟨by kernel_rfl,?_⟩|refine bj (by first|exact af.nil|exact af.one _|exact af.l7 (by repeat' (first|exact True.intro|refine And.intro ?_ ?_|exact Compat.ne rfl|exact e_ rfl))) ?_|fail)
    have hE:bs++dO (l.take (j2+1))=bs++dO (l.take j2)++bP (2*(l.getD j2 default).1+1)++bP (aV (l.getD j2 default).2.1-1):=by rw[eB];simp only[List.append_assoc]
    refine ih2 (j2+1) _ _ _ (cG [0,1,2,6] (obj:=by(repeat' (first|exact ae.nil|refine ae.flat (by rw[hE];rfl) ?_|refine ae.ir (by rw[hE];rfl) rfl rfl rfl ?_|refine ae.flat rfl ?_|refine ae.cons rfl ?_|refine ae.dead rfl ?_|refine ae.cons (by simp only[ak.ay,List.map_cons,List.map_nil,XC.ay,aC];exact rfl) ?_));first|done|fail)) (by omega) (by omega)
   ·have hb2:(mu (l.getD j2 default))[2]? = some (.bool false):=by
     show some (XC.bool (l.getD j2 default).2.2)=_
     rw[hlast,decide_eq_false hl]
    have hr:=jO (2*(l.getD j2 default).1) (by omega)
    have eB:dO (l.take (j2+1))=dO (l.take j2)++(bP (2*(l.getD j2 default).1)++bP (aV (l.getD j2 default).2.1-1)):=by
     rw[sK hjl2,IE,hlast,decide_eq_false hl,if_neg (by decide),Int.add_zero]
    repeat' (first
     |(refine qz ?_;first
      |refine QR (enc:=mu) (j:=j2) ?_
      |refine ld (hc:=hb2) ?_
      |refine cl ?_ (hi:=by exact s6 (by omega) rfl)
      |refine cl ?_ (hi:=by exact jP (v:=2*(l.getD j2 default).1) (bs:=bs++dO (l.take j2)) (by omega) (by omega) rfl rfl (by decide) nL nA rfl)
      |refine cl ?_ (hi:=by exact jP (v:=aV (l.getD j2 default).2.1-1) (bs:=(bs++dO (l.take j2))++bP (2*(l.getD j2 default).1)) (by omega) (by rw[List.length_append];omega) rfl rfl (by decide) nL nA rfl))
     |refine zz ?_|refine zx (fun _=>?_) (fun _=>?_)|refine bj (by first|exact af.nil|exact af.one _|exact af.l7 (by repeat' (first|exact True.intro|refine And.intro ?_ ?_|exact Compat.ne rfl|exact e_ rfl))) ⟨by kernel_rfl,?_⟩|refine bj (by first|exact af.nil|exact af.one _|exact af.l7 (by repeat' (first|exact True.intro|refine And.intro ?_ ?_|exact Compat.ne rfl|exact e_ rfl))) ?_|fail)
    have hE:bs++dO (l.take (j2+1))=bs++dO (l.take j2)++bP (2*(l.getD j2 default).1)++bP (aV (l.getD j2 default).2.1-1):=by rw[eB];simp only[List.append_assoc]
    refine ih2 (j2+1) _ _ _ (cG [0,1,2,6] (obj:=by(repeat' (first|exact ae.nil|refine ae.flat (by rw[hE];rfl) ?_|refine ae.ir (by rw[hE];rfl) rfl rfl rfl ?_|refine ae.flat rfl ?_|refine ae.cons rfl ?_|refine ae.dead rfl ?_|refine ae.cons (by simp only[ak.ay,List.map_cons,List.map_nil,XC.ay,aC];exact rfl) ?_));first|done|fail)) (by omega) (by omega)
  ·have hT:l.take j2=l:=List.take_of_length_le (by omega)
   rw[hT]
   repeat' (first|refine zz ?_|refine zx (fun _=>?_) (fun _=>?_)|fail)
   show aB _ _ _ _ _ _ _ _;refine kV [0,1,2,3] ?_
   rfl
theorem Pd(a b:List XC)(e e' e2 e3:TypeId)(cs ds fs:List XC):ee [.cells a e false false,cR e' cs,cR e3 fs] [.cells b e false false,.dead,cR e3 fs,cR e2 ds]=true:=by
 cases cs<;>cases ds<;>cases fs<;>simp[ee,ak.live,ak.own,cR]
theorem LF{bs:List Bool}{l:List Ev}(h:jC l)(hb:bs.length<=800000){HS:aj}{i k q:Nat}(hi:HS[i]? = some (aN k bs))(hk:HS[k]? = some (aq bs))(hq:HS[q]? = some (c8 l))(hd : [i,k,q].Nodup){N:Nat}(hN:HS.length=N){HS':aj}(hh:bK HS [i,k] [aN N (bs++dO l),.dead,aq (bs++dO l)]=HS')(hbd:Nat.blt HS'.length Mem.bound=true) :
 aG.Sound Tryz.prog ⟨92,[.one (.ptr i 0),iv q l.length 3],HS,.one (.int .i64 0),HS',[i,k]⟩:=by
 subst hN
 have hh':bK HS [i,k,q] [aN HS.length (bs++dO l),.dead,c8 l,aq (bs++dO l)]=HS':=by
  subst hh
  simp only[List.nodup_cons,List.mem_cons,List.not_mem_nil,or_false,not_or]at hd
  simp only[bK]
  rw[aF (i:=q) (by rw[List.getElem?_set_ne hd.2.1,List.getElem?_set_ne hd.1.2];exact hq)]
 refine bT [i,k,q] [i,k] 1 (Ib bs l h hb) hd ?_ ?_ ?_ rfl (.cons (by simp[XV.ca,XC.ok]) (.cons (ju (Nat.le_of_ble_eq_true rfl)) .nil)) (.cons rfl (.cons (eG ..) .nil)) (bC.ok _) (bC.ay _) ?_ (Pd ..) rfl hh' hbd (.inr fun j hjl hj=>?_)
 ·exact ae.ir hi rfl rfl rfl (.flat hk (.flat hq .nil))
 ·exact .cons (by simp[ak.ca,XC.ok,ba]) (.flat (.flat .nil))
 ·exact .cons (by simp[ak.ca,XC.ok,ba]) (.flat (.flat (.flat .nil)))
 ·exact .cons (by simp only[ak.ay,List.map_cons,List.map_nil,XC.ay,aC];rfl) (.flat (.flat (.flat .nil)))
 ·subst hh
  exact m6 _ _ _ _ hjl (by simpa using hj)
end Go.Proofs.YtagpkhindehcbaaGreat
