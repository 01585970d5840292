/-
  A part of the proof: Modes2, Scan, RunsOf, BlockPut.
-/
import Derived.Test.YtagpkhindehcbaaGreatKfH
import Derived.Test.YtagpkhindehcbaaGreatKfN
set_option maxRecDepth 10000
set_option maxHeartbeats 8000000
set_option linter.unusedVariables false
set_option linter.unusedSectionVars false
set_option linter.unusedSimpArgs false
namespace Go.Proofs.YtagpkhindehcbaaGreat
open Go.Xm
variable [ax]
def A6(m:Mb)(i:Nat):Prop:=(m.kind=0->m.lev i=0)/\(-2047<=m.lev i/\m.lev i<=2047)/\(i%64=0->alone m=true->0<=m.lev i/\m.lev i<=127)
open Classical in
noncomputable def xP(m:Mb):Int:=if ∀i,i<384->A6 m i then 0 else 2
theorem IY(m : Mb)(hm:iK m):bh Tryz.prog 51 [.agg (mC m)] [] (.one (.int .i64 (xP m))) []:=by
 have hkind:=hm.kind
 refine cO Tryz.func51 ?_
 repeat' (first
  |(refine qz ?_;first
   |refine t_ (cs:=ti .i64 384 m.lev) ?_ (hle:=by rw[aI];decide) (hc:=C4 m))
  |refine zz ?_|refine zx (fun _=>?_) (fun _=>?_)|fail)
 refine WX.dw (σ:=Nat) (fun k=>[(9,.one (.int .i64 (k:Nat))),(1,.one (.ptr 0 0)),(8,.agg (ti .i64 384 m.lev))]) (fun _=>[mu m]) (fun k=>k<=6/\∀i,i<k*64->A6 m i) (fun k=>6-k) 0 ⟨by omega,fun i hi=>by omega⟩ (fun s _=>lD) (cG [0]) ?_
 intro k ⟨hk,hall⟩ ih
 by_cases hk6:k<6
 ·repeat' (first
   |(refine qz ?_;first
    |refine A3 (n:=384) ?_
    |refine kj ?_ (hs1:=by rw[aE]) (hs2:=by rw[aE])
    |refine fG ?_ (hle:=by rw[aE]))
   |refine zz ?_|refine zx (fun _=>?_) (fun _=>?_)|fail)
  refine WX.dw (σ:=Nat) (fun j=>[(13,.one (.int .i64 (j:Nat))),(1,.one (.ptr 0 0)),(8,.agg (ti .i64 384 m.lev)),(9,.one (.int .i64 (k:Nat))),(12,.agg (ti .i64 64 fun i=>m.lev (k*64+i)))]) (fun _=>[mu m]) (fun j=>j<=64/\∀i,i<k*64+j->A6 m i) (fun j=>64-j) 0 ⟨by omega,hall⟩ (fun s _=>lD) (cG [0]) ?_
  intro j ⟨hj,hall2⟩ ih2
  by_cases hj64:j<64
  ·have hd : m.lev (k*64+j)=m.lev (k*64+(j:Int).toNat):=rfl
   have hl:=hm.lev (k*64+j)
   repeat' (first
    |(refine qz ?_;first
     |refine OB (n:=64) (q:=fun i=>m.lev (k*64+i)) ?_
     |refine fG ?_ (hle:=by rw[aI])
     |refine uK (fun ga=>?_) (fun ga=>?_) (hi:=by exact oO rfl))
    |refine zz ?_|refine zx (fun _=>?_) (fun _=>?_)|fail)
   all_goals
    first
     | (refine ih2 (j+1) _ _ _ (cG [0]) ⟨by omega,fun i hi=>?_⟩ (by omega)
        by_cases hij:i=k*64+j
        ·subst hij
         unfold A6
         simp only[Int.toNat_natCast]at *
         refine⟨fun _=>by omega,by omega,fun h64 hal=>?_⟩
         first
          | omega
          | (rw[hal]at ga;cases ga)
        ·exact hall2 i (by omega))
     | (show aC _ _ _ _ _ _ _ _;refine kV [] ?_
        rw [show xP m=2 from if_neg (fun hall=>by
         obtain⟨p1,p2,p3⟩:=hall (k*64+j) (by omega)
         simp only[Int.toNat_natCast]at *
         first
          | omega
          | (have:=p3 (by omega) ga;omega))]
        rfl)
  ·repeat' (first|refine zz ?_|refine zx (fun _=>?_) (fun _=>?_)|fail)
   refine ih (k+1) _ _ _ (cG [0]) ⟨by omega,fun i hi=>hall2 i (by omega)⟩ (by omega)
 ·repeat' (first|refine zz ?_|refine zx (fun _=>?_) (fun _=>?_)|fail)
  show aC _ _ _ _ _ _ _ _;refine kV [] ?_
  rw[show xP m=0 from if_pos (fun i hi=>hall i (by omega))]
  rfl
theorem Ma{m:Mb}(hm:iK m){HS:aj}(hb:Nat.blt HS.length Mem.bound=true):aG.Sound Tryz.prog ⟨51,[.agg (mC m)],HS,.one (.int .i64 (xP m)),HS,[]⟩:=
 aA (IY m hm) (by simp only[List.all_cons,List.all_nil,Bool.and_true];exact kO m) rfl hb
theorem ir{m:Mb}{b:Bool}(h:alone m=b){HS:aj}(hb:Nat.blt HS.length Mem.bound=true):aG.Sound Tryz.prog ⟨13,[.agg (mC m)],HS,.one (.bool b),HS,[]⟩:=by
 subst h;exact oO hb
noncomputable def dC(m:Mb)(inter:Bool)(was:Int):Int:=
 if 5<=m.kind\/(inter=false/\alone m=false)then 5
 else if m.edge=true/\alone m=false then 4
 else if m.kind=4/\(dz was m.qp).2=false then 6
 else if m.kind≠4/\m.qp≠was then 6
 else if gL m≠0 then gL m else xP m
theorem Ky(m:Mb):gL m=0\/gL m=14:=by
 unfold gL
 split
 ·exact .inl rfl
 ·exact .inr rfl
theorem Fx(m:Mb)(hm:iK m)(inter:Bool)(was:Int)(hw : -1000000<=was/\was<=1000000):bh Tryz.prog 28 [.agg (mC m),.one (.bool inter),.one (.int .i64 was)] [] (.one (.int .i64 (dC m inter was))) []:=by
 have hkind:=hm.kind
 have hqp:=hm.qp
 have hvv:=Ky m
 obtain⟨a,ha⟩:∃a,alone m=a:=⟨_,rfl⟩
 obtain⟨e,he⟩:∃e,m.edge=e:=⟨_,rfl⟩
 obtain⟨st,hst⟩:∃st,dz was m.qp=st:=⟨_,rfl⟩
 have hC:mC m = .int .u8 m.kind :: .int .i64 m.qp::cD (m.v 0)::cD (m.v 1)::cD (m.v 2)::cD (m.v 3) :: .bool e::ti .i64 384 m.lev:=by rw[<-he];rfl
 have al:∀{HS:aj},Nat.blt HS.length Mem.bound=true->aG.Sound Tryz.prog ⟨13,[.agg (mC m)],HS,.one (.bool a),HS,[]⟩:=fun hb=>ir ha hb
 have sl:∀{HS:aj},Nat.blt HS.length Mem.bound=true->aG.Sound Tryz.prog ⟨49,[.one (.int .i64 was),.one (.int .i64 m.qp)],HS,.tup [.one (.int .i64 st.1),.one (.bool st.2)],HS,[]⟩:=fun hb=>by
  have:=zF hw hqp hb
  rw[hst]at this
  exact this
 have hl6:(mC m)[6]? = some (.bool e):=by rw[hC];rfl
 obtain⟨s1,s2⟩:=st
 cases inter<;>cases a<;>cases e<;>cases s2
 all_goals
  refine cO Tryz.func28 ?_
  repeat' (first
   |(refine qz ?_;first
    |refine ld (hc:=hl6) ?_
    |refine fG ?_ (hle:=by rw[aI])
    |refine cl ?_ (hi:=by exact al rfl)
    |refine cl ?_ (hi:=by exact sl rfl)
    |refine cl ?_ (hi:=by exact Ni hm rfl)
    |refine cl ?_ (hi:=by exact Ma hm rfl))
   |refine zz ?_|refine zx (fun _=>?_) (fun _=>?_)|fail)
  all_goals
   show aC _ _ _ _ _ _ _ _;refine kV [] ?_
   unfold dC
   rw[ha,he,hst]
   simp only[Bool.false_eq_true,Bool.true_eq_false,and_true,and_false,true_and,false_and,or_false,or_true,if_true,if_false,true_or,not_true,not_false_eq_true]
   repeat' split
   all_goals first
    | rfl
    | (exfalso;omega)
theorem H_{m:Mb}(hm:iK m){inter:Bool}{was:Int}(hw : -1000000<=was/\was<=1000000){HS:aj}(hb:Nat.blt HS.length Mem.bound=true):aG.Sound Tryz.prog ⟨28,[.agg (mC m),.one (.bool inter),.one (.int .i64 was)],HS,.one (.int .i64 (dC m inter was)),HS,[]⟩:=
 aA (Fx m hm inter was hw) (by show((mC m).all XC.shut&&(true&&(true&&true)))=true;rw[kO];rfl) rfl hb
def hU(o:Int)(f:Nat->Int)(i:Nat):Int:=f (oG o i).toNat
def ri(g z:Nat->Int)(i j:Nat):Int:=if j<i then g j else z j
theorem pa(g z:Nat->Int)(i:Nat):cw (ri g z i) i (g i)=ri g z (i+1):=by
 funext j
 unfold cw ri
 by_cases h:j=i
 ·subst h;simp
 ·by_cases h1:j<i
  ·rw[if_neg h,if_pos h1,if_pos (by omega)]
  ·rw[if_neg h,if_neg h1,if_neg (by omega)]
theorem pb(g z:Nat->Int):ri g z 0=z:=by funext j;simp[ri]
theorem C_(k:IntKind)(g z:Nat->Int)(n:Nat):ti k n (ri g z n)=ti k n g:=sf fun i hi=>by simp[ri,hi]
theorem J_{o:Int}(h:o=0\/o=1\/o=2)(f:Nat->Int):bh Tryz.prog 91 [.one (.int .u8 o),.agg (ti .i64 64 f)] [] (.agg (ti .i64 64 (hU o f))) []:=by
 refine cO Tryz.func91 ?_
 repeat' (first
  |(refine qz ?_;first
   |refine cl ?_ (hi:=by exact xZ h rfl))
  |refine zz ?_|refine zx (fun _=>?_) (fun _=>?_)|fail)
 refine WX.dw (σ:=Nat) (fun j=>[(10,.one (.int .i64 (j:Nat))),(3,.one (.ptr 0 0)),(4,.one (.ptr 1 0)),(5,.one (.ptr 2 0)),(9,.agg (ti .i64 64 (oG o)))]) (fun j=>[.cells (ti .i64 64 f) 50 false false,.cells (ti .i64 64 fun _=>0) 50 false false,.cells (ti .i64 64 (ri (hU o f) (fun _=>0) j)) 50 false false]) (fun j=>j<=64) (fun j=>64-j) 0 (by omega) (fun s _=>lD) (cG [0,1,2] (obj:=by(repeat' (first|exact ae.nil|refine ae.flat (by rw[pb];rfl) ?_|refine ae.flat rfl ?_|refine ae.cons rfl ?_|refine ae.dead rfl ?_|refine ae.cons (by simp only[ak.ay,List.map_cons,List.map_nil,XC.ay,aB];exact rfl) ?_));first|done|fail)) ?_
 intro j hj ih
 by_cases hj64:j<64
 ·have hr:=kP h hj64
  have hr':0<=oG o (j:Int).toNat/\oG o (j:Int).toNat<64:=hr
  repeat' (first
   |(refine qz ?_;first
    |refine OB (n:=64) ?_)
   |refine zz ?_|refine zx (fun _=>?_) (fun _=>?_)|fail)
  refine ih (j+1) _ _ _ (cG [0,1,2] (obj:=by(repeat' (first|exact ae.nil|refine ae.flat (by rw[<-pa];rfl) ?_|refine ae.flat rfl ?_|refine ae.cons rfl ?_|refine ae.dead rfl ?_|refine ae.cons (by simp only[ak.ay,List.map_cons,List.map_nil,XC.ay,aB];exact rfl) ?_));first|done|fail)) (by omega) (by omega)
 ·obtain rfl:j=64:=by omega
  repeat' (first
   |(refine qz ?_;first
    |refine fG ?_ (hle:=by rw[aE])
    |refine kj ?_ (hs1:=by rw[aE]) (hs2:=by rw[aE]))
   |refine zz ?_|refine zx (fun _=>?_) (fun _=>?_)|fail)
  show aC _ _ _ _ _ _ _ _;refine kV [] ?_
  rw[C_];rfl
theorem pT{o:Int}(h:o=0\/o=1\/o=2){f:Nat->Int}{HS:aj}(hb:Nat.blt HS.length Mem.bound=true):aG.Sound Tryz.prog ⟨91,[.one (.int .u8 o),.agg (ti .i64 64 f)],HS,.agg (ti .i64 64 (hU o f)),HS,[]⟩:=
 aA (J_ h f) (by show(true&&((ti .i64 64 f).all XC.shut&&true))=true;rw[gX];rfl) (gX _ _ _) hb
def dD(edge:Bool)(frm:Int):Int:=if edge=true/\frm=1 then 2 else if edge=true/\frm=2 then 1 else 0
theorem eT(edge:Bool)(frm:Int):dD edge frm=0\/dD edge frm=1\/dD edge frm=2:=by
 unfold dD
 split
 ·exact .inr (.inr rfl)
 ·split
  ·exact .inr (.inl rfl)
  ·exact .inl rfl
theorem F9(edge:Bool)(frm:Int):bh Tryz.prog 71 [.one (.bool edge),.one (.int .u8 frm)] [] (.one (.int .u8 (dD edge frm))) []:=by
 cases edge
 all_goals
  refine cO Tryz.func71 ?_
  repeat' (first|refine zz ?_|refine zx (fun _=>?_) (fun _=>?_)|fail)
  all_goals
   show aC _ _ _ _ _ _ _ _;refine kV [] ?_
   unfold dD
   simp only[Bool.false_eq_true,true_and,false_and,if_false]
   repeat' split
   all_goals first
    | rfl
    | (exfalso;omega)
theorem kg{edge:Bool}{frm:Int}{HS:aj}(hb:Nat.blt HS.length Mem.bound=true):aG.Sound Tryz.prog ⟨71,[.one (.bool edge),.one (.int .u8 frm)],HS,.one (.int .u8 (dD edge frm)),HS,[]⟩:=
 aA (F9 edge frm) rfl rfl hb
def eJ(m:Mb):Int:=if alone m=true then 1 else 0
theorem GD(m:Mb):bh Tryz.prog 37 [.agg (mC m)] [] (.one (.int .i64 (eJ m))) []:=by
 unfold eJ
 refine cO Tryz.func37 ?_
 repeat' (first
  |(refine qz ?_;first
   |refine fG ?_ (hle:=by rw[aI])
   |refine uK (fun ga=>?_) (fun ga=>?_) (hi:=by exact oO rfl))
  |refine zz ?_|refine zx (fun _=>?_) (fun _=>?_)|fail)
 ·show aC _ _ _ _ _ _ _ _;refine kV [] ?_
  rw[if_pos ga];rfl
 ·show aC _ _ _ _ _ _ _ _;refine kV [] ?_
  rw[if_neg (by rw[ga];decide)];rfl
theorem sa{m:Mb}{HS:aj}(hb:Nat.blt HS.length Mem.bound=true):aG.Sound Tryz.prog ⟨37,[.agg (mC m)],HS,.one (.int .i64 (eJ m)),HS,[]⟩:=
 aA (GD m) (by simp only[List.all_cons,List.all_nil,Bool.and_true];exact kO m) rfl hb
end Go.Proofs.YtagpkhindehcbaaGreat
namespace Go.Xm
variable [ax]
variable {P:Program} {ops:Array Oper} {nt nI:Nat} {al:bl} {hs:aj} {o:Oper} {l:List Oper} {L:List aG} {K:List Ab->bl->aj->Prop} {d:Nat}
theorem RG{t:TypeId}{a y:Operand}{i off:Nat}{c:XC}{cs cs':List XC}{e:TypeId}{hs':aj}(hk:SK P ops nt L l al hs' fun bs=>K (⟨true,.none,[i]⟩::bs))(hle:off<cs.length)(hv:cs.set off c=cs')(ho:o.op = .store t a y:=by exact rfl)(ht:aP P t 1:=by infer_instance)(hw:av ops (rg al) o=some true:=by exact rfl)(hd:o.dst = .none:=by exact rfl)
 (ha:ai (rg al) a = .one (.ptr i off):=by exact rfl) (hy:dh (ai (rg al) y)=some [c]:=by exact rfl) (hi:hs[i]? = some (cE e cs):=by exact rfl) (hh:hs.set i (cE e cs')=hs':=by first|(simp only[List.set_cons_succ,List.set_cons_zero];exact rfl)|exact rfl):SK P ops nt L (o::l) al hs K:=by
 have h1:cE e cs = .cells cs e true false:=fb (fun hn=>by rw[hn]at hle;simp at hle)
 have h2:cE e cs' = .cells cs' e true false:=fb (fun hn=>by
  have:=congrArg List.length hv
  rw[List.length_set,hn]at this
  simp at this
  rw[this]at hle
  simp at hle)
 exact lC ho hw hd ha hy (hi.trans (congrArg some h1)) hle hv (by rw[<-h2];exact hh) hk
end Go.Xm
namespace Go.Proofs.YtagpkhindehcbaaGreat
open Go.Xm
variable [ax]
abbrev Ev:=Int×Int×Bool
def mr(e:Ev):List XC:=[.int .i64 e.1,.int .i64 e.2.1,.bool e.2.2]
instance:sw mr 3:=⟨fun _=>rfl,fun _=>rfl,by decide⟩
abbrev db(l:List Ev):ak:=cE 144 (fl mr l)
def eD(f:Nat->Int):Nat->Nat->Int->List Ev
 | 0,_,_=>[]
 | k+1,i,run=>if f i=0 then eD f k (i+1) (run+1)else(run,f i,false)::eD f k (i+1) 0
def iP:List Ev->List Ev
 | []=>[]
 | [e]=>[(e.1,e.2.1,true)]
 | e::e2::l=>e::iP (e2::l)
theorem iQ:∀l:List Ev,(iP l).length=l.length
 | []=>rfl
 | [e]=>rfl
 | e::e2::l=>by simp only[iP,List.length_cons,iQ (e2::l)]
theorem El(e:Ev)(l:List Ev):fl mr (e::l) = .int .i64 e.1 :: .int .i64 e.2.1 :: .bool e.2.2::fl mr l:=rfl
theorem u_:∀l:List Ev,l≠[]->(fl mr l).set ((l.length-1)*3+2) (.bool true)=fl mr (iP l)
 | [],h=>absurd rfl h
 | [e],_=>rfl
 | e::e2::l,_=>by
   have ih:=u_ (e2::l) (by simp)
   rw[El e,iP,El e,<-ih]
   have:((e::e2::l).length-1)*3+2=((e2::l).length-1)*3+2+3:=by simp only[List.length_cons];omega
   rw[this]
   rfl
def dS(f:Nat->Int)(st:Nat):List Ev:=iP (eD f (64-st) st 0)
theorem sU(f:Nat->Int):∀(k i:Nat) (run:Int),(eD f k i run).length<=k
 | 0,_,_=>Nat.le_refl _
 | k+1,i,run=>by
   unfold eD
   split
   ·have:=sU f k (i+1) (run+1);omega
   ·have:=sU f k (i+1) 0;simp only[List.length_cons];omega
theorem JN(f:Nat->Int)(st:Nat)(hst:st<=64):bh Tryz.prog 90 [.agg (ti .i64 64 f),.one (.int .i64 (st:Nat))] [] (hZ 0 (dS f st).length 3) [db (dS f st)]:=by
 refine cO Tryz.func90 ?_
 repeat' (first|refine zz ?_|refine zx (fun _=>?_) (fun _=>?_)|fail)
 refine WX.cU rfl ?_
 refine WX.dw (σ:=Nat×Int×List Ev) (fun s=>[(7,.one (.int .i64 (s.1:Nat))),(6,.one (.int .i64 s.2.1)),(5,hZ 1 s.2.2.length 3),(2,.one (.ptr 0 0))]) (fun s=>[.cells (ti .i64 64 f) 50 false false,db s.2.2]) (fun s=>s.1<=64/\0<=s.2.1/\s.2.1<=s.1/\s.2.2.length<=s.1/\s.2.2++eD f (64-s.1) s.1 s.2.1=eD f (64-st) st 0) (fun s=>64-s.1) (st,0,[]) ⟨hst,Int.le_refl _,by show(0:Int)<=(st:Nat);omega,by show 0<=st;omega,rfl⟩ (fun s _=>lD) (cG [0,1]) ?_
 intro s ⟨h1,h2,h3,h4,h5⟩ ih
 by_cases h64:s.1<64
 ·obtain⟨k,hk⟩:∃k,64-s.1=k+1:=⟨63-s.1,by omega⟩
  have hk':64-(s.1+1)=k:=by omega
  rw[hk,eD]at h5
  by_cases hz:f s.1=0
  ·have hz':f (s.1:Int).toNat=0:=hz
   rw[if_pos hz]at h5
   repeat' (first|refine zz ?_|refine zx (fun _=>?_) (fun _=>?_)|fail)
   refine ih (s.1+1,s.2.1+1,s.2.2) _ _ _ (cG [0,1]) ⟨by show s.1+1<=64;omega,by show 0<=s.2.1+1;omega,by show s.2.1+1<=((s.1+1:Nat):Int);omega,by show s.2.2.length<=s.1+1;omega,by show s.2.2++eD f (64-(s.1+1)) (s.1+1) (s.2.1+1)=_;rw[hk'];exact h5⟩ (by show 64-(s.1+1)<64-s.1;omega)
  ·have hz':¬f (s.1:Int).toNat=0:=hz
   rw[if_neg hz]at h5
   repeat' (first
    |(refine qz ?_;first
     |refine oR (enc:=mr) (a:=(s.2.1,f s.1,false)) ?_
     |refine t5 (enc:=mr) ?_)
    |refine zz ?_|refine zx (fun _=>?_) (fun _=>?_)|fail)
   refine ih (s.1+1,0,s.2.2++[(s.2.1,f s.1,false)]) _ _ _ (cG [0,3] (obj:=by(repeat' (first|exact ae.nil|refine ae.flat (by rw[List.length_append];rfl) ?_|refine ae.flat rfl ?_|refine ae.cons rfl ?_|refine ae.dead rfl ?_|refine ae.cons (by simp only[ak.ay,List.map_cons,List.map_nil,XC.ay,aB];exact rfl) ?_));first|done|fail)) ⟨by show s.1+1<=64;omega,by show(0:Int)<=0;omega,by show(0:Int)<=((s.1+1:Nat):Int);omega,by show(s.2.2++[_]).length<=s.1+1;simp;omega,by show(s.2.2++[(s.2.1,f s.1,false)])++eD f (64-(s.1+1)) (s.1+1) 0=_;rw[hk',List.append_assoc];exact h5⟩ (by show 64-(s.1+1)<64-s.1;omega)
 ·have e0:64-s.1=0:=by omega
  rw[e0,eD,List.append_nil]at h5
  have e:dS f st=iP s.2.2:=by rw[dS,<-h5]
  rw[e]
  by_cases hn:s.2.2.length=0
  ·have hs0:s.2.2 = []:=List.length_eq_zero_iff.1 hn
   rw[hs0]
   repeat' (first|refine zz ?_|refine zx (fun _=>?_) (fun _=>?_)|fail)
   show aC _ _ _ _ _ _ _ _;refine kV [1] ?_
   rfl
  ·have hset:(fl mr s.2.2).set ((((s.2.2.length:Nat):Int)-1).toNat*3+2) (.bool true)=fl mr (iP s.2.2):=by
    rw[show(((s.2.2.length:Nat):Int)-1).toNat=s.2.2.length-1 by omega]
    exact u_ _ (fun h=>hn (by rw[h];rfl))
   have hle:(((s.2.2.length:Nat):Int)-1).toNat*3+2<(fl mr s.2.2).length:=by
    rw[u3];omega
   repeat' (first
    |(refine qz ?_;first
     |refine RG ?_ hle hset)
    |refine zz ?_|refine zx (fun _=>?_) (fun _=>?_)|fail)
   show aC _ _ _ _ _ _ _ _;refine kV [1] ?_
   rw[dT,iQ]
   rfl
theorem MG{f:Nat->Int}{st:Nat}{z:Int}(hz:z=(st:Nat))(hst:st<=64){HS:aj}{N:Nat}(hN:HS.length=N){HS':aj}(hh:HS++[db (dS f st)]=HS')(hbd:Nat.blt HS'.length Mem.bound=true) :
 aG.Sound Tryz.prog ⟨90,[.agg (ti .i64 64 f),.one (.int .i64 z)],HS,hZ N (dS f st).length 3,HS',[]⟩:=by
 subst hN
 subst hz
 refine bO (os:=[db (dS f st)]) [] [] 1 (JN f st hst) (by simp) .nil .nil ?_ rfl (.flat (.flat .nil)) (.flat (.flat .nil)) (iT (Nat.le_of_ble_eq_true rfl)) (dT ..) ?_ ?_ rfl hh hbd (.inl rfl)
 ·exact .flat .nil
 ·exact .flat .nil
 ·unfold db
  cases fl mr (dS f st)<;>rfl
def lZ(l e:Nat->Int)(i:Nat):Prop:=l i-e i < -2047\/2047<l i-e i
open Classical in
noncomputable def ot(l e:Nat->Int):Option (Nat->Int):=if ∃i,i<64/\lZ l e i then none else some fun i=>l i-e i
noncomputable def A_(o:Option (Nat->Int)):XV := .tup [.agg (ti .i64 64 (o.getD fun _=>0)),.one (.bool o.isSome)]
theorem vd(o:Option (Nat->Int)):(A_ o).shut=true:=by
 show((ti .i64 64 (o.getD fun _=>0)).all XC.shut&&(true&&true))=true
 rw[gX];rfl
theorem IV(l e:Nat->Int)(hl:∀i,-1000000<=l i/\l i<=1000000)(he:∀i,-1000000<=e i/\e i<=1000000):bh Tryz.prog 88 [.agg (ti .i64 64 l),.agg (ti .i64 64 e)] [] (A_ (ot l e)) []:=by
 refine cO Tryz.func88 ?_
 repeat' (first
  |(refine qz ?_;first
   |refine fG ?_ (hle:=by rw[aE]))
  |refine zz ?_|refine zx (fun _=>?_) (fun _=>?_)|fail)
 refine WX.dw (σ:=Nat) (fun j=>[(9,.one (.int .i64 (j:Nat))),(2,.one (.ptr 0 0)),(4,.one (.ptr 1 0)),(8,.agg (ti .i64 64 e))]) (fun j=>[.cells (ti .i64 64 (ri (fun i=>l i-e i) l j)) 50 false false,.cells (ti .i64 64 fun _=>0) 50 false false]) (fun j=>j<=64/\∀i,i<j->¬lZ l e i) (fun j=>64-j) 0 ⟨by omega,fun i hi=>by omega⟩ (fun s _=>lD) (cG [0,2] (obj:=by(repeat' (first|exact ae.nil|refine ae.flat (by rw[pb];rfl) ?_|refine ae.flat rfl ?_|refine ae.cons rfl ?_|refine ae.dead rfl ?_|refine ae.cons (by simp only[ak.ay,List.map_cons,List.map_nil,XC.ay,aB];exact rfl) ?_));first|done|fail)) ?_
 intro j ⟨hj,hall⟩ ih
 by_cases hj64:j<64
 ·have a1:=hl j
  have a2:=he j
  have a2':=he (j:Int).toNat
  have e1:e (j:Int).toNat=e j:=rfl
  have em:ri (fun i=>l i-e i) l j j=l j:=by simp[ri]
  have eu:cw (ri (fun i=>l i-e i) l j) j (ri (fun i=>l i-e i) l j j-e (j:Int).toNat) j=ri (fun i=>l i-e i) l j j-e (j:Int).toNat:=by simp[cw]
  by_cases hb:lZ l e j
  ·have hb':=hb
   unfold lZ at hb'
   have e0:ot l e=none:=if_pos ⟨j,hj64,hb⟩
   rw[e0]
   repeat' (first
    |(refine qz ?_;first
     |refine OB (n:=64) ?_
     |refine kj ?_ (hs1:=by rw[aE]) (hs2:=by rw[aE]))
    |refine zz ?_|refine zx (fun _=>?_) (fun _=>?_)|fail)
   all_goals
    first
     | (exfalso;omega)
     | (show aC _ _ _ _ _ _ _ _;refine kV [] ?_;rfl)
  ·have hb':=hb
   unfold lZ at hb'
   have e2:ri (fun i=>l i-e i) l j j-e (j:Int).toNat=l j-e j:=by rw[em,e1]
   repeat' (first
    |(refine qz ?_;first
     |refine OB (n:=64) ?_)
    |refine zz ?_|refine zx (fun _=>?_) (fun _=>?_)|fail)
   refine ih (j+1) _ _ _ (cG [0,1] (obj:=by(repeat' (first|exact ae.nil|refine ae.flat (by rw[<-pa,e2];rfl) ?_|refine ae.flat rfl ?_|refine ae.cons rfl ?_|refine ae.dead rfl ?_|refine ae.cons (by simp only[ak.ay,List.map_cons,List.map_nil,XC.ay,aB];exact rfl) ?_));first|done|fail)) ⟨by omega,fun i hi=>?_⟩ (by omega)
   by_cases hij:i=j
   ·subst hij;exact hb
   ·exact hall i (by omega)
 ·obtain rfl:j=64:=by omega
  have e0:ot l e=some fun i=>l i-e i:=if_neg fun⟨i,hi,hb⟩=>hall i hi hb
  rw[e0]
  repeat' (first
   |(refine qz ?_;first
    |refine fG ?_ (hle:=by rw[aE])
    |refine kj ?_ (hs1:=by rw[aE]) (hs2:=by rw[aE]))
   |refine zz ?_|refine zx (fun _=>?_) (fun _=>?_)|fail)
  show aC _ _ _ _ _ _ _ _;refine kV [] ?_
  rw[C_];rfl
theorem ze{l e:Nat->Int}(hl:∀i,-1000000<=l i/\l i<=1000000)(he:∀i,-1000000<=e i/\e i<=1000000){o:Option (Nat->Int)}(ho:ot l e=o){HS:aj}(hb:Nat.blt HS.length Mem.bound=true):aG.Sound Tryz.prog ⟨88,[.agg (ti .i64 64 l),.agg (ti .i64 64 e)],HS,A_ o,HS,[]⟩:=by
 subst ho
 exact aA (IV l e hl he) (by show((ti .i64 64 l).all XC.shut&&((ti .i64 64 e).all XC.shut&&true))=true;rw[gX,gX];rfl) (vd _) hb
structure oE(e:Ev):Prop where
 run:0<=e.1/\e.1<=63
 nz:e.2.1≠0
 lev : -2047<=e.2.1/\e.2.1<=2047
theorem rV(e:Ev)(h:oE e):bh Tryz.prog 104 [.agg (mr e)] [] (.one (.bool true)) []:=by
 have h1:=h.run
 have h2:=h.nz
 have h3:=h.lev
 refine cO Tryz.func104 ?_
 repeat' (first|refine zz ?_|refine zx (fun _=>?_) (fun _=>?_)|fail)
 show aC _ _ _ _ _ _ _ _;refine kV [] ?_
 rfl
theorem tD{e:Ev}(h:oE e){HS:aj}(hb:Nat.blt HS.length Mem.bound=true):aG.Sound Tryz.prog ⟨104,[.agg (mr e)],HS,.one (.bool true),HS,[]⟩:=
 aA (rV e h) rfl rfl hb
structure jW(l:List Ev):Prop where
 len:0<l.length/\l.length<=64
 ok:∀j,j<l.length->oE (l.getD j default)
 last:∀j,j<l.length->(l.getD j default).2.2=decide (j+1=l.length)
def LD(e:Ev):List Bool:=cu (2*e.1+(if e.2.2 then 1 else 0))++cu (aY e.2.1-1)
def fF(l:List Ev):List Bool:=l.flatMap LD
theorem tE{x:Int}(h : -2047<=x/\x<=2047)(h0:x≠0):1<=aY x/\aY x<=4094:=by unfold aY;split<;>omega
theorem LG{e:Ev}(h:oE e):(LD e).length<=54:=by
 unfold LD
 have h1:=h.run
 have h2:=tE h.lev h.nz
 have h3:=jI (2*e.1+(if e.2.2 then 1 else 0)) (by split<;>omega)
 have h4:=jI (aY e.2.1-1) (by omega)
 rw[List.length_append];omega
theorem sH{l:List Ev}{j:Nat}(hj:j<l.length):fF (l.take (j+1))=fF (l.take j)++LD (l.getD j default):=by
 unfold fF
 rw[List.take_add_one,List.flatMap_append,List.getD_eq_getElem?_getD,List.getElem?_eq_getElem hj]
 simp
theorem uX{l:List Ev}(h:jW l):∀j,j<=l.length->(fF (l.take j)).length<=54*j
 | 0,_=>by simp[fF]
 | j+1,hj=>by
   rw[sH (by omega),List.length_append]
   have:=uX h j (by omega)
   have:=LG (h.ok j (by omega))
   omega
theorem H3(bs:List Bool)(l:List Ev)(h:jW l)(hb:bs.length<=800000) :
 bh Tryz.prog 92 [.one (.ptr 0 0),hZ 2 l.length 3] [aN 1 bs,aq bs,db l] (.one (.int .i64 0)) [aN 3 (bs++fF l),.dead,db l,aq (bs++fF l)]:=by
 have hlen:=h.len
 refine cO Tryz.func92 ?_
 repeat' (first|refine zz ?_|refine zx (fun _=>?_) (fun _=>?_)|fail)
 refine WX.dw (σ:=Nat) (fun j=>[(22,.one (.int .i64 (j:Nat))),(0,.one (.ptr 0 0)),(1,hZ 2 l.length 3),(20,hZ 2 l.length 3),(21,.one (.int .i64 (l.length:Nat)))]) (fun _=>[aN 1 bs,aq bs,db l]) (fun j=>j<=l.length) (fun j=>l.length-j) 0 (by omega) (fun s _=>lD) (cG [0,1,2]) ?_
 intro j hj ih
 by_cases hjl:j<l.length
 ·have hok:=h.ok j hjl
  have hlast:=h.last j hjl
  by_cases hl:j+1=l.length
  ·have hb2:(mr (l.getD j default))[2]? = some (.bool true):=by
    show some (XC.bool (l.getD j default).2.2)=_
    rw[hlast,decide_eq_true hl]
   repeat' (first
    |(refine qz ?_;first
     |refine Qw (enc:=mr) (j:=j) ?_
     |refine ld (hc:=hb2) ?_
     |refine cl ?_ (hi:=by exact tD hok rfl))
    |refine zz ?_|refine zx (fun _=>?_) (fun _=>?_)|fail)
   refine ih (j+1) _ _ _ (cG [0,1,2]) (by omega) (by omega)
  ·have hb2:(mr (l.getD j default))[2]? = some (.bool false):=by
    show some (XC.bool (l.getD j default).2.2)=_
    rw[hlast,decide_eq_false hl]
   repeat' (first
    |(refine qz ?_;first
     |refine Qw (enc:=mr) (j:=j) ?_
     |refine ld (hc:=hb2) ?_
     |refine cl ?_ (hi:=by exact tD hok rfl))
    |refine zz ?_|refine zx (fun _=>?_) (fun _=>?_)|fail)
   refine ih (j+1) _ _ _ (cG [0,1,2]) (by omega) (by omega)
 ·repeat' (first|refine zz ?_|refine zx (fun _=>?_) (fun _=>?_)|fail)
  refine WX.dw (σ:=Nat) (fun j=>[(43,.one (.int .i64 (j:Nat))),(0,.one (.ptr 0 0)),(41,hZ 2 l.length 3),(42,.one (.int .i64 (l.length:Nat)))]) (fun j=>[aN 3 (bs++fF (l.take j)),.dead,db l,aq (bs++fF (l.take j))]) (fun j=>j<=l.length) (fun j=>l.length-j) 0 (by omega) (fun s _=>lD) (cG [0,1,2,1] (obj:=by(repeat' (first|exact ae.nil|refine ae.flat (by rw[show fF (l.take 0) = []from rfl,List.append_nil];rfl) ?_|refine ae.ij (by rw[show fF (l.take 0) = []from rfl,List.append_nil];rfl) rfl rfl rfl ?_|refine ae.flat rfl ?_|refine ae.cons rfl ?_|refine ae.dead rfl ?_|refine ae.cons (by simp only[ak.ay,List.map_cons,List.map_nil,XC.ay,aB];exact rfl) ?_));first|done|fail)) ?_
  intro j2 hj2 ih2
  by_cases hjl2:j2<l.length
  ·have hok:=h.ok j2 hjl2
   have hlast:=h.last j2 hjl2
   have e1:=hok.run
   have e2:=hok.lev
   have e3:=tE e2 hok.nz
   have hB:=uX h j2 hj2
   have hlB:(bs++fF (l.take j2)).length<=810000:=by rw[List.length_append];omega
   by_cases hl:j2+1=l.length
   ·have hb2:(mr (l.getD j2 default))[2]? = some (.bool true):=by
     show some (XC.bool (l.getD j2 default).2.2)=_
     rw[hlast,decide_eq_true hl]
    have hr:=jI (2*(l.getD j2 default).1+1) (by omega)
    have eB:fF (l.take (j2+1))=fF (l.take j2)++(cu (2*(l.getD j2 default).1+1)++cu (aY (l.getD j2 default).2.1-1)):=by
     rw[sH hjl2,LD,hlast,decide_eq_true hl];rfl
    repeat' (first
     |(refine qz ?_;first
      |refine Qw (enc:=mr) (j:=j2) ?_
      |refine ld (hc:=hb2) ?_
      |refine cl ?_ (hi:=by exact sY (by omega) rfl)
      |refine cl ?_ (hi:=by exact jJ (v:=2*(l.getD j2 default).1+1) (bs:=bs++fF (l.take j2)) (by omega) (by omega) rfl rfl (by decide) nL nA rfl)
      |refine cl ?_ (hi:=by exact jJ (v:=aY (l.getD j2 default).2.1-1) (bs:=(bs++fF (l.take j2))++cu (2*(l.getD j2 default).1+1)) (by omega) (by rw[List.length_append];omega) rfl rfl (by decide) nL nA rfl))
     |refine zz ?_|refine zx (fun _=>?_) (fun _=>?_)|refine bp (by first|exact af.nil|exact af.one _|exact af.mD (by repeat' (first|exact True.intro|refine And.intro ?_ ?_|exact Compat.ne rfl|exact ff rfl))) ⟨by kernel_rfl,?_⟩|refine bp (by first|exact af.nil|exact af.one _|exact af.mD (by repeat' (first|exact True.intro|refine And.intro ?_ ?_|exact Compat.ne rfl|exact ff rfl))) ?_|fail)
    have hE:bs++fF (l.take (j2+1))=bs++fF (l.take j2)++cu (2*(l.getD j2 default).1+1)++cu (aY (l.getD j2 default).2.1-1):=by rw[eB];simp only[List.append_assoc]
    refine ih2 (j2+1) _ _ _ (cG [0,1,2,6] (obj:=by(repeat' (first|exact ae.nil|refine ae.flat (by rw[hE];rfl) ?_|refine ae.ij (by rw[hE];rfl) rfl rfl rfl ?_|refine ae.flat rfl ?_|refine ae.cons rfl ?_|refine ae.dead rfl ?_|refine ae.cons (by simp only[ak.ay,List.map_cons,List.map_nil,XC.ay,aB];exact rfl) ?_));first|done|fail)) (by omega) (by omega)
   ·have hb2:(mr (l.getD j2 default))[2]? = some (.bool false):=by
     show some (XC.bool (l.getD j2 default).2.2)=_
     rw[hlast,decide_eq_false hl]
    have hr:=jI (2*(l.getD j2 default).1) (by omega)
    have eB:fF (l.take (j2+1))=fF (l.take j2)++(cu (2*(l.getD j2 default).1)++cu (aY (l.getD j2 default).2.1-1)):=by
     rw[sH hjl2,LD,hlast,decide_eq_false hl,if_neg (by decide),Int.add_zero]
    repeat' (first
     |(refine qz ?_;first
      |refine Qw (enc:=mr) (j:=j2) ?_
      |refine ld (hc:=hb2) ?_
      |refine cl ?_ (hi:=by exact sY (by omega) rfl)
      |refine cl ?_ (hi:=by exact jJ (v:=2*(l.getD j2 default).1) (bs:=bs++fF (l.take j2)) (by omega) (by omega) rfl rfl (by decide) nL nA rfl)
      |refine cl ?_ (hi:=by exact jJ (v:=aY (l.getD j2 default).2.1-1) (bs:=(bs++fF (l.take j2))++cu (2*(l.getD j2 default).1)) (by omega) (by rw[List.length_append];omega) rfl rfl (by decide) nL nA rfl))
     |refine zz ?_|refine zx (fun _=>?_) (fun _=>?_)|refine bp (by first|exact af.nil|exact af.one _|exact af.mD (by repeat' (first|exact True.intro|refine And.intro ?_ ?_|exact Compat.ne rfl|exact ff rfl))) ⟨by kernel_rfl,?_⟩|refine bp (by first|exact af.nil|exact af.one _|exact af.mD (by repeat' (first|exact True.intro|refine And.intro ?_ ?_|exact Compat.ne rfl|exact ff rfl))) ?_|fail)
    have hE:bs++fF (l.take (j2+1))=bs++fF (l.take j2)++cu (2*(l.getD j2 default).1)++cu (aY (l.getD j2 default).2.1-1):=by rw[eB];simp only[List.append_assoc]
    refine ih2 (j2+1) _ _ _ (cG [0,1,2,6] (obj:=by(repeat' (first|exact ae.nil|refine ae.flat (by rw[hE];rfl) ?_|refine ae.ij (by rw[hE];rfl) rfl rfl rfl ?_|refine ae.flat rfl ?_|refine ae.cons rfl ?_|refine ae.dead rfl ?_|refine ae.cons (by simp only[ak.ay,List.map_cons,List.map_nil,XC.ay,aB];exact rfl) ?_));first|done|fail)) (by omega) (by omega)
  ·have hT:l.take j2=l:=List.take_of_length_le (by omega)
   rw[hT]
   repeat' (first|refine zz ?_|refine zx (fun _=>?_) (fun _=>?_)|fail)
   show aC _ _ _ _ _ _ _ _;refine kV [0,1,2,3] ?_
   rfl
theorem OV(a b:List XC)(e e' e2 e3:TypeId)(cs ds fs:List XC):d9 [.cells a e false false,cE e' cs,cE e3 fs] [.cells b e false false,.dead,cE e3 fs,cE e2 ds]=true:=by
 cases cs<;>cases ds<;>cases fs<;>simp[d9,ak.live,ak.own,cE]
theorem Ls{bs:List Bool}{l:List Ev}(h:jW l)(hb:bs.length<=800000){HS:aj}{i k q:Nat}(hi:HS[i]? = some (aN k bs))(hk:HS[k]? = some (aq bs))(hq:HS[q]? = some (db l))(hd : [i,k,q].Nodup){N:Nat}(hN:HS.length=N){HS':aj}(hh:bK HS [i,k] [aN N (bs++fF l),.dead,aq (bs++fF l)]=HS')(hbd:Nat.blt HS'.length Mem.bound=true) :
 aG.Sound Tryz.prog ⟨92,[.one (.ptr i 0),hZ q l.length 3],HS,.one (.int .i64 0),HS',[i,k]⟩:=by
 subst hN
 have hh':bK HS [i,k,q] [aN HS.length (bs++fF l),.dead,db l,aq (bs++fF l)]=HS':=by
  subst hh
  simp only[List.nodup_cons,List.mem_cons,List.not_mem_nil,or_false,not_or]at hd
  simp only[bK]
  rw[aF (i:=q) (by rw[List.getElem?_set_ne hd.2.1,List.getElem?_set_ne hd.1.2];exact hq)]
 refine bO [i,k,q] [i,k] 1 (H3 bs l h hb) hd ?_ ?_ ?_ rfl (.cons (by simp[XV.b7,XC.ok]) (.cons (iT (Nat.le_of_ble_eq_true rfl)) .nil)) (.cons rfl (.cons (dT ..) .nil)) (bE.ok _) (bE.ay _) ?_ (OV ..) rfl hh' hbd (.inr fun j hjl hj=>?_)
 ·exact ae.ij hi rfl rfl rfl (.flat hk (.flat hq .nil))
 ·exact .cons (by simp[ak.b7,XC.ok,aZ]) (.flat (.flat .nil))
 ·exact .cons (by simp[ak.b7,XC.ok,aZ]) (.flat (.flat (.flat .nil)))
 ·exact .cons (by simp only[ak.ay,List.map_cons,List.map_nil,XC.ay,aB];rfl) (.flat (.flat (.flat .nil)))
 ·subst hh
  exact mV _ _ _ _ hjl (by simpa using hj)
end Go.Proofs.YtagpkhindehcbaaGreat
