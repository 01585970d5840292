/-
  A part of the proof: Modes2, Hd0, Scan, RunsOf, BlockPut, Sta.
-/
import Derived.Test.YtnkodcmkpfefhaaGreatEeE
import Derived.Test.YtnkodcmkpfefhaaGreatEeF
import Derived.Test.YtnkodcmkpfefhaaGreatEeG
import Derived.Test.YtnkodcmkpfefhaaGreatEeO
set_option maxRecDepth 10000
set_option maxHeartbeats 8000000
set_option linter.unusedVariables false
set_option linter.unusedSectionVars false
set_option linter.unusedSimpArgs false
namespace Go.Proofs.YtnkodcmkpfefhaaGreat
open Go.Xm
variable [aw]
def wt(m:Mb)(i:Nat):Prop:=(m.kind=0->m.lev i=0)/\(-2047<=m.lev i/\m.lev i<=2047)/\(i%64=0->alone m=true->0<=m.lev i/\m.lev i<=127)
open Classical in
noncomputable def pM(m:Mb):Int:=if ∀i,i<384->wt m i then 0 else 2
theorem Ez(m : Mb)(hm:iR m):aW Tryz.prog 90 [.agg (mC m)] [] (.one (.int .i64 (pM m))) []:=by
 have hkind:=hm.kind
 refine cO Tryz.func90 ?_
 repeat' (first
  |(refine qz ?_;first
   |refine mU (cs:=ti .i64 384 m.lev) ?_ (hle:=by rw[aQ];decide) (hc:=yJ m))
  |refine zz ?_|refine zx (fun _=>?_) (fun _=>?_)|fail)
 refine WX.bZ (σ:=Nat) (fun k=>[(9,.one (.int .i64 (k:Nat))),(1,.one (.ptr 0 0)),(8,.agg (ti .i64 384 m.lev))]) (fun _=>[Hp m]) (fun k=>k<=6/\∀i,i<k*64->wt m i) (fun k=>6-k) 0 ⟨by omega,fun i hi=>by omega⟩ (fun s _=>hX) (b_ [0]) ?_
 intro k ⟨hk,hall⟩ ih
 by_cases hk6:k<6
 ·repeat' (first
   |(refine qz ?_;first
    |refine uz (n:=384) ?_
    |refine lO ?_ (hs1:=by rw[aL]) (hs2:=by rw[aL])
    |refine fV ?_ (hle:=by rw[aL]))
   |refine zz ?_|refine zx (fun _=>?_) (fun _=>?_)|fail)
  refine WX.bZ (σ:=Nat) (fun j=>[(13,.one (.int .i64 (j:Nat))),(1,.one (.ptr 0 0)),(8,.agg (ti .i64 384 m.lev)),(9,.one (.int .i64 (k:Nat))),(12,.agg (ti .i64 64 fun i=>m.lev (k*64+i)))]) (fun _=>[Hp m]) (fun j=>j<=64/\∀i,i<k*64+j->wt m i) (fun j=>64-j) 0 ⟨by omega,hall⟩ (fun s _=>hX) (b_ [0]) ?_
  intro j ⟨hj,hall2⟩ ih2
  by_cases hj64:j<64
  ·have hd : m.lev (k*64+j)=m.lev (k*64+(j:Int).toNat):=rfl
   have hl:=hm.lev (k*64+j)
   repeat' (first
    |(refine qz ?_;first
     |refine El (n:=64) (q:=fun i=>m.lev (k*64+i)) ?_
     |refine fV ?_ (hle:=by rw[aQ])
     |refine z5 (fun ga=>?_) (fun ga=>?_) (hi:=by exact qX rfl))
    |refine zz ?_|refine zx (fun _=>?_) (fun _=>?_)|fail)
   all_goals
    first
     | (refine ih2 (j+1) _ _ _ (b_ [0]) ⟨by omega,fun i hi=>?_⟩ (by omega)
        by_cases hij:i=k*64+j
        ·subst hij
         unfold wt
         simp only[Int.toNat_natCast]at *
         refine⟨fun _=>by omega,by omega,fun h64 hal=>?_⟩
         first
          | omega
          | (rw[hal]at ga;cases ga)
        ·exact hall2 i (by omega))
     | (show aD _ _ _ _ _ _ _ _;refine kV [] ?_
        rw [show pM m=2 from if_neg (fun hall=>by
         obtain⟨p1,p2,p3⟩:=hall (k*64+j) (by omega)
         simp only[Int.toNat_natCast]at *
         first
          | omega
          | (have:=p3 (by omega) ga;omega))]
        rfl)
  ·repeat' (first|refine zz ?_|refine zx (fun _=>?_) (fun _=>?_)|fail)
   refine ih (k+1) _ _ _ (b_ [0]) ⟨by omega,fun i hi=>hall2 i (by omega)⟩ (by omega)
 ·repeat' (first|refine zz ?_|refine zx (fun _=>?_) (fun _=>?_)|fail)
  show aD _ _ _ _ _ _ _ _;refine kV [] ?_
  rw[show pM m=0 from if_pos (fun i hi=>hall i (by omega))]
  rfl
theorem Hk{m:Mb}(hm:iR m){HS:ai}(hb:Nat.blt HS.length Mem.bound=true):aC.Sound Tryz.prog ⟨90,[.agg (mC m)],HS,.one (.int .i64 (pM m)),HS,[]⟩:=
 au (Ez m hm) (by simp only[List.all_cons,List.all_nil,Bool.and_true];exact k_ m) rfl hb
theorem dP{m:Mb}{b:Bool}(h:alone m=b){HS:ai}(hb:Nat.blt HS.length Mem.bound=true):aC.Sound Tryz.prog ⟨21,[.agg (mC m)],HS,.one (.bool b),HS,[]⟩:=by
 subst h;exact qX hb
noncomputable def c7(m:Mb)(inter:Bool)(was:Int):Int:=
 if 5<=m.kind\/(inter=false/\alone m=false)then 5
 else if m.edge=true/\alone m=false then 4
 else if m.kind=4/\(dV was m.qp).2=false then 6
 else if m.kind≠4/\m.qp≠was then 6
 else if eZ m≠0 then eZ m else pM m
theorem FP(m:Mb):eZ m=0\/eZ m=14:=by
 unfold eZ
 split
 ·exact .inl rfl
 ·exact .inr rfl
theorem Bj(m:Mb)(hm:iR m)(inter:Bool)(was:Int)(hw : -1000000<=was/\was<=1000000):aW Tryz.prog 69 [.agg (mC m),.one (.bool inter),.one (.int .i64 was)] [] (.one (.int .i64 (c7 m inter was))) []:=by
 have hkind:=hm.kind
 have hqp:=hm.qp
 have hvv:=FP m
 obtain⟨a,ha⟩:∃a,alone m=a:=⟨_,rfl⟩
 obtain⟨e,he⟩:∃e,m.edge=e:=⟨_,rfl⟩
 obtain⟨st,hst⟩:∃st,dV was m.qp=st:=⟨_,rfl⟩
 have hC:mC m = .int .u8 m.kind :: .int .i64 m.qp::cI (m.v 0)::cI (m.v 1)::cI (m.v 2)::cI (m.v 3) :: .bool e::ti .i64 384 m.lev:=by rw[<-he];rfl
 have al:∀{HS:ai},Nat.blt HS.length Mem.bound=true->aC.Sound Tryz.prog ⟨21,[.agg (mC m)],HS,.one (.bool a),HS,[]⟩:=fun hb=>dP ha hb
 have sl:∀{HS:ai},Nat.blt HS.length Mem.bound=true->aC.Sound Tryz.prog ⟨88,[.one (.int .i64 was),.one (.int .i64 m.qp)],HS,.tup [.one (.int .i64 st.1),.one (.bool st.2)],HS,[]⟩:=fun hb=>by
  have:=qM hw hqp hb
  rw[hst]at this
  exact this
 have hl6:(mC m)[6]? = some (.bool e):=by rw[hC];rfl
 obtain⟨s1,s2⟩:=st
 cases inter<;>cases a<;>cases e<;>cases s2
 all_goals
  refine cO Tryz.func69 ?_
  repeat' (first
   |(refine qz ?_;first
    |refine ld (hc:=hl6) ?_
    |refine fV ?_ (hle:=by rw[aQ])
    |refine cl ?_ (hi:=by exact al rfl)
    |refine cl ?_ (hi:=by exact sl rfl)
    |refine cl ?_ (hi:=by exact H4 hm rfl)
    |refine cl ?_ (hi:=by exact Hk hm rfl))
   |refine zz ?_|refine zx (fun _=>?_) (fun _=>?_)|fail)
  all_goals
   show aD _ _ _ _ _ _ _ _;refine kV [] ?_
   unfold c7
   rw[ha,he,hst]
   simp only[Bool.false_eq_true,Bool.true_eq_false,and_true,and_false,true_and,false_and,or_false,or_true,if_true,if_false,true_or,not_true,not_false_eq_true]
   repeat' split
   all_goals first
    | rfl
    | (exfalso;omega)
theorem DK{m:Mb}(hm:iR m){inter:Bool}{was:Int}(hw : -1000000<=was/\was<=1000000){HS:ai}(hb:Nat.blt HS.length Mem.bound=true):aC.Sound Tryz.prog ⟨69,[.agg (mC m),.one (.bool inter),.one (.int .i64 was)],HS,.one (.int .i64 (c7 m inter was)),HS,[]⟩:=
 au (Bj m hm inter was hw) (by show((mC m).all XC.shut&&(true&&(true&&true)))=true;rw[k_];rfl) rfl hb
structure Hd where
 cols:Int
 rows:Int
 w:Bool
 a:Nat->Int
 b:Nat->Int
def bG(h:Hd):List XC := .bool h.w::(ti .u8 64 h.a++ti .u8 64 h.b)
def j5(h:Hd):List XC := .int .i64 h.cols :: .int .i64 h.rows::bG h
theorem cW(h:Hd):(bG h).length=129:=by simp[bG,aL]
theorem db(h:Hd):(j5 h).length=131:=by simp[j5,cW]
theorem el(h:Hd):(bG h).all XC.shut=true:=by simp[bG,ti,XC.shut]
theorem fG(h:Hd):(j5 h).all XC.shut=true:=by simp[j5,bG,ti,XC.shut]
theorem uV(h:Hd){i:Nat}(hi:i<64):(bG h)[1+i]? = some (.int .u8 (h.a i)):=by
 unfold bG
 rw[Nat.add_comm,List.getElem?_cons_succ,List.getElem?_append_left (by rw[aL];exact hi),eY hi]
theorem uW(h:Hd){i:Nat}(hi:i<64):(bG h)[65+i]? = some (.int .u8 (h.b i)):=by
 unfold bG
 rw[show 65+i=(64+i)+1 by omega,List.getElem?_cons_succ,List.getElem?_append_right (by rw[aL];omega),aL,show 64+i-64=i by omega,eY hi]
instance K9 (h:Hd):bh (.agg (bG h)):=ef (el h)
instance LV (h:Hd):bh (.agg (j5 h)):=ef (fG h)
instance K_ (h:Hd) (e:TypeId) (a b:Bool):aR (.cells (bG h) e a b):=fF (el h)
theorem qB(h:Hd):((j5 h).drop 2).take 129=bG h:=by
 show(bG h).take 129=_
 rw[List.take_of_length_le (by rw[cW];omega)]
def iz(g z:Nat->Int)(i j:Nat):Int:=if j<i then g j else z j
theorem fH(g z:Nat->Int)(i:Nat):gM (iz g z i) i (g i)=iz g z (i+1):=by
 funext j
 unfold gM iz
 by_cases h:j=i
 ·subst h;simp
 ·by_cases h1:j<i
  ·rw[if_neg h,if_pos h1,if_pos (by omega)]
  ·rw[if_neg h,if_neg h1,if_neg (by omega)]
theorem fI(g z:Nat->Int):iz g z 0=z:=by funext j;simp[iz]
def lK(o:Int)(f:Nat->Int)(i:Nat):Int:=f (yT o i).toNat
theorem EG(k:IntKind)(g z:Nat->Int)(n:Nat):ti k n (iz g z n)=ti k n g:=bJ fun i hi=>by simp[iz,hi]
theorem Fv{o:Int}(h:o=0\/o=1\/o=2)(f:Nat->Int):aW Tryz.prog 148 [.one (.int .u8 o),.agg (ti .i64 64 f)] [] (.agg (ti .i64 64 (lK o f))) []:=by
 refine cO Tryz.func148 ?_
 repeat' (first
  |(refine qz ?_;first
   |refine cl ?_ (hi:=by exact B7 h rfl))
  |refine zz ?_|refine zx (fun _=>?_) (fun _=>?_)|fail)
 refine WX.bZ (σ:=Nat) (fun j=>[(10,.one (.int .i64 (j:Nat))),(3,.one (.ptr 0 0)),(4,.one (.ptr 1 0)),(5,.one (.ptr 2 0)),(9,.agg (ti .i64 64 (yT o)))]) (fun j=>[.cells (ti .i64 64 f) 65 false false,.cells (ti .i64 64 fun _=>0) 65 false false,.cells (ti .i64 64 (iz (lK o f) (fun _=>0) j)) 65 false false]) (fun j=>j<=64) (fun j=>64-j) 0 (by omega) (fun s _=>hX) (b_ [0,1,2] (obj:=by(repeat' (first|exact ae.nil|refine ae.flat (by rw[fI];rfl) ?_|refine ae.flat rfl ?_|refine ae.cons rfl ?_|refine ae.dead rfl ?_|refine ae.cons (by simp only[ah.ax,List.map_cons,List.map_nil,XC.ax,aB];exact rfl) ?_));first|done|fail)) ?_
 intro j hj ih
 by_cases hj64:j<64
 ·have hr:=Ap h hj64
  have hr':0<=yT o (j:Int).toNat/\yT o (j:Int).toNat<64:=hr
  repeat' (first
   |(refine qz ?_;first
    |refine El (n:=64) ?_)
   |refine zz ?_|refine zx (fun _=>?_) (fun _=>?_)|fail)
  refine ih (j+1) _ _ _ (b_ [0,1,2] (obj:=by(repeat' (first|exact ae.nil|refine ae.flat (by rw[<-fH];rfl) ?_|refine ae.flat rfl ?_|refine ae.cons rfl ?_|refine ae.dead rfl ?_|refine ae.cons (by simp only[ah.ax,List.map_cons,List.map_nil,XC.ax,aB];exact rfl) ?_));first|done|fail)) (by omega) (by omega)
 ·obtain rfl:j=64:=by omega
  repeat' (first
   |(refine qz ?_;first
    |refine fV ?_ (hle:=by rw[aL])
    |refine lO ?_ (hs1:=by rw[aL]) (hs2:=by rw[aL]))
   |refine zz ?_|refine zx (fun _=>?_) (fun _=>?_)|fail)
  show aD _ _ _ _ _ _ _ _;refine kV [] ?_
  rw[EG];rfl
theorem mK{o:Int}(h:o=0\/o=1\/o=2){f:Nat->Int}{HS:ai}(hb:Nat.blt HS.length Mem.bound=true):aC.Sound Tryz.prog ⟨148,[.one (.int .u8 o),.agg (ti .i64 64 f)],HS,.agg (ti .i64 64 (lK o f)),HS,[]⟩:=
 au (Fv h f) (by show(true&&((ti .i64 64 f).all XC.shut&&true))=true;rw[iX];rfl) (iX _ _ _) hb
def gz(edge:Bool)(frm:Int):Int:=if edge=true/\frm=1 then 2 else if edge=true/\frm=2 then 1 else 0
theorem gY(edge:Bool)(frm:Int):gz edge frm=0\/gz edge frm=1\/gz edge frm=2:=by
 unfold gz
 split
 ·exact .inr (.inr rfl)
 ·split
  ·exact .inr (.inl rfl)
  ·exact .inl rfl
theorem BZ(edge:Bool)(frm:Int):aW Tryz.prog 147 [.one (.bool edge),.one (.int .u8 frm)] [] (.one (.int .u8 (gz edge frm))) []:=by
 cases edge
 all_goals
  refine cO Tryz.func147 ?_
  repeat' (first|refine zz ?_|refine zx (fun _=>?_) (fun _=>?_)|fail)
  all_goals
   show aD _ _ _ _ _ _ _ _;refine kV [] ?_
   unfold gz
   simp only[Bool.false_eq_true,true_and,false_and,if_false]
   repeat' split
   all_goals first
    | rfl
    | (exfalso;omega)
theorem jf{edge:Bool}{frm:Int}{HS:ai}(hb:Nat.blt HS.length Mem.bound=true):aC.Sound Tryz.prog ⟨147,[.one (.bool edge),.one (.int .u8 frm)],HS,.one (.int .u8 (gz edge frm)),HS,[]⟩:=
 au (BZ edge frm) rfl rfl hb
def zc(m:Mb):Int:=if alone m=true then 1 else 0
theorem CE(m:Mb):aW Tryz.prog 149 [.agg (mC m)] [] (.one (.int .i64 (zc m))) []:=by
 unfold zc
 refine cO Tryz.func149 ?_
 repeat' (first
  |(refine qz ?_;first
   |refine fV ?_ (hle:=by rw[aQ])
   |refine z5 (fun ga=>?_) (fun ga=>?_) (hi:=by exact qX rfl))
  |refine zz ?_|refine zx (fun _=>?_) (fun _=>?_)|fail)
 ·show aD _ _ _ _ _ _ _ _;refine kV [] ?_
  rw[if_pos ga];rfl
 ·show aD _ _ _ _ _ _ _ _;refine kV [] ?_
  rw[if_neg (by rw[ga];decide)];rfl
theorem Fx{m:Mb}{HS:ai}(hb:Nat.blt HS.length Mem.bound=true):aC.Sound Tryz.prog ⟨149,[.agg (mC m)],HS,.one (.int .i64 (zc m)),HS,[]⟩:=
 au (CE m) (by simp only[List.all_cons,List.all_nil,Bool.and_true];exact k_ m) rfl hb
end Go.Proofs.YtnkodcmkpfefhaaGreat
namespace Go.Xm
variable [aw]
variable {P:Program} {ops:Array Oper} {nt nI:Nat} {al:bc} {hs:ai} {o:Oper} {l:List Oper} {L:List aC} {K:List Ab->bc->ai->Prop} {d:Nat}
theorem MT{t:TypeId}{a y:Operand}{i off:Nat}{c:XC}{cs cs':List XC}{e:TypeId}{hs':ai}(hk:SK P ops nt L l al hs' fun bs=>K (⟨true,.none,[i]⟩::bs))(hle:off<cs.length)(hv:cs.set off c=cs')(ho:o.op = .store t a y:=by exact rfl)(ht:aO P t 1:=by infer_instance)(hw:av ops (rg al) o=some true:=by exact rfl)(hd:o.dst = .none:=by exact rfl)
 (ha:ag (rg al) a = .one (.ptr i off):=by exact rfl) (hy:cu (ag (rg al) y)=some [c]:=by exact rfl) (hi:hs[i]? = some (dG e cs):=by exact rfl) (hh:hs.set i (dG e cs')=hs':=by first|(simp only[List.set_cons_succ,List.set_cons_zero];exact rfl)|exact rfl):SK P ops nt L (o::l) al hs K:=by
 have h1:dG e cs = .cells cs e true false:=iW (fun hn=>by rw[hn]at hle;simp at hle)
 have h2:dG e cs' = .cells cs' e true false:=iW (fun hn=>by
  have:=congrArg List.length hv
  rw[List.length_set,hn]at this
  simp at this
  rw[this]at hle
  simp at hle)
 exact jk ho hw hd ha hy (hi.trans (congrArg some h1)) hle hv (by rw[<-h2];exact hh) hk
end Go.Xm
namespace Go.Proofs.YtnkodcmkpfefhaaGreat
open Go.Xm
variable [aw]
abbrev Ev:=Int×Int×Bool
def sM(e:Ev):List XC:=[.int .i64 e.1,.int .i64 e.2.1,.bool e.2.2]
instance:qb sM 3:=⟨fun _=>rfl,fun _=>rfl,by decide⟩
abbrev da(l:List Ev):ah:=dG 243 (fl sM l)
def jL(f:Nat->Int):Nat->Nat->Int->List Ev
 | 0,_,_=>[]
 | k+1,i,run=>if f i=0 then jL f k (i+1) (run+1)else(run,f i,false)::jL f k (i+1) 0
def jc:List Ev->List Ev
 | []=>[]
 | [e]=>[(e.1,e.2.1,true)]
 | e::e2::l=>e::jc (e2::l)
theorem gW:∀l:List Ev,(jc l).length=l.length
 | []=>rfl
 | [e]=>rfl
 | e::e2::l=>by simp only[jc,List.length_cons,gW (e2::l)]
theorem z_(e:Ev)(l:List Ev):fl sM (e::l) = .int .i64 e.1 :: .int .i64 e.2.1 :: .bool e.2.2::fl sM l:=rfl
theorem rG:∀l:List Ev,l≠[]->(fl sM l).set ((l.length-1)*3+2) (.bool true)=fl sM (jc l)
 | [],h=>absurd rfl h
 | [e],_=>rfl
 | e::e2::l,_=>by
   have ih:=rG (e2::l) (by simp)
   rw[z_ e,jc,z_ e,<-ih]
   have:((e::e2::l).length-1)*3+2=((e2::l).length-1)*3+2+3:=by simp only[List.length_cons];omega
   rw[this]
   rfl
def gF(f:Nat->Int)(st:Nat):List Ev:=jc (jL f (64-st) st 0)
theorem pr(f:Nat->Int):∀(k i:Nat) (run:Int),(jL f k i run).length<=k
 | 0,_,_=>Nat.le_refl _
 | k+1,i,run=>by
   unfold jL
   split
   ·have:=pr f k (i+1) (run+1);omega
   ·have:=pr f k (i+1) 0;simp only[List.length_cons];omega
theorem Fh(f:Nat->Int)(st:Nat)(hst:st<=64):aW Tryz.prog 146 [.agg (ti .i64 64 f),.one (.int .i64 (st:Nat))] [] (kA 0 (gF f st).length 3) [da (gF f st)]:=by
 refine cO Tryz.func146 ?_
 repeat' (first|refine zz ?_|refine zx (fun _=>?_) (fun _=>?_)|fail)
 refine WX.c6 rfl ?_
 refine WX.bZ (σ:=Nat×Int×List Ev) (fun s=>[(7,.one (.int .i64 (s.1:Nat))),(6,.one (.int .i64 s.2.1)),(5,kA 1 s.2.2.length 3),(2,.one (.ptr 0 0))]) (fun s=>[.cells (ti .i64 64 f) 65 false false,da s.2.2]) (fun s=>s.1<=64/\0<=s.2.1/\s.2.1<=s.1/\s.2.2.length<=s.1/\s.2.2++jL f (64-s.1) s.1 s.2.1=jL f (64-st) st 0) (fun s=>64-s.1) (st,0,[]) ⟨hst,Int.le_refl _,by show(0:Int)<=(st:Nat);omega,by show 0<=st;omega,rfl⟩ (fun s _=>hX) (b_ [0,1]) ?_
 intro s ⟨h1,h2,h3,h4,h5⟩ ih
 by_cases h64:s.1<64
 ·obtain⟨k,hk⟩:∃k,64-s.1=k+1:=⟨63-s.1,by omega⟩
  have hk':64-(s.1+1)=k:=by omega
  rw[hk,jL]at h5
  by_cases hz:f s.1=0
  ·have hz':f (s.1:Int).toNat=0:=hz
   rw[if_pos hz]at h5
   repeat' (first|refine zz ?_|refine zx (fun _=>?_) (fun _=>?_)|fail)
   refine ih (s.1+1,s.2.1+1,s.2.2) _ _ _ (b_ [0,1]) ⟨by show s.1+1<=64;omega,by show 0<=s.2.1+1;omega,by show s.2.1+1<=((s.1+1:Nat):Int);omega,by show s.2.2.length<=s.1+1;omega,by show s.2.2++jL f (64-(s.1+1)) (s.1+1) (s.2.1+1)=_;rw[hk'];exact h5⟩ (by show 64-(s.1+1)<64-s.1;omega)
  ·have hz':¬f (s.1:Int).toNat=0:=hz
   rw[if_neg hz]at h5
   repeat' (first
    |(refine qz ?_;first
     |refine sQ (enc:=sM) (a:=(s.2.1,f s.1,false)) ?_
     |refine uf (enc:=sM) ?_)
    |refine zz ?_|refine zx (fun _=>?_) (fun _=>?_)|fail)
   refine ih (s.1+1,0,s.2.2++[(s.2.1,f s.1,false)]) _ _ _ (b_ [0,3] (obj:=by(repeat' (first|exact ae.nil|refine ae.flat (by rw[List.length_append];rfl) ?_|refine ae.flat rfl ?_|refine ae.cons rfl ?_|refine ae.dead rfl ?_|refine ae.cons (by simp only[ah.ax,List.map_cons,List.map_nil,XC.ax,aB];exact rfl) ?_));first|done|fail)) ⟨by show s.1+1<=64;omega,by show(0:Int)<=0;omega,by show(0:Int)<=((s.1+1:Nat):Int);omega,by show(s.2.2++[_]).length<=s.1+1;simp;omega,by show(s.2.2++[(s.2.1,f s.1,false)])++jL f (64-(s.1+1)) (s.1+1) 0=_;rw[hk',List.append_assoc];exact h5⟩ (by show 64-(s.1+1)<64-s.1;omega)
 ·have e0:64-s.1=0:=by omega
  rw[e0,jL,List.append_nil]at h5
  have e:gF f st=jc s.2.2:=by rw[gF,<-h5]
  rw[e]
  by_cases hn:s.2.2.length=0
  ·have hs0:s.2.2 = []:=List.length_eq_zero_iff.1 hn
   rw[hs0]
   repeat' (first|refine zz ?_|refine zx (fun _=>?_) (fun _=>?_)|fail)
   show aD _ _ _ _ _ _ _ _;refine kV [1] ?_
   rfl
  ·have hset:(fl sM s.2.2).set ((((s.2.2.length:Nat):Int)-1).toNat*3+2) (.bool true)=fl sM (jc s.2.2):=by
    rw[show(((s.2.2.length:Nat):Int)-1).toNat=s.2.2.length-1 by omega]
    exact rG _ (fun h=>hn (by rw[h];rfl))
   have hle:(((s.2.2.length:Nat):Int)-1).toNat*3+2<(fl sM s.2.2).length:=by
    rw[rp];omega
   repeat' (first
    |(refine qz ?_;first
     |refine MT ?_ hle hset)
    |refine zz ?_|refine zx (fun _=>?_) (fun _=>?_)|fail)
   show aD _ _ _ _ _ _ _ _;refine kV [1] ?_
   rw[ic,gW]
   rfl
theorem HF{f:Nat->Int}{st:Nat}{z:Int}(hz:z=(st:Nat))(hst:st<=64){HS:ai}{N:Nat}(hN:HS.length=N){HS':ai}(hh:HS++[da (gF f st)]=HS')(hbd:Nat.blt HS'.length Mem.bound=true) :
 aC.Sound Tryz.prog ⟨146,[.agg (ti .i64 64 f),.one (.int .i64 z)],HS,kA N (gF f st).length 3,HS',[]⟩:=by
 subst hN
 subst hz
 refine ca (os:=[da (gF f st)]) [] [] 1 (Fh f st hst) (by simp) .nil .nil ?_ rfl (.flat (.flat .nil)) (.flat (.flat .nil)) (ma (Nat.le_of_ble_eq_true rfl)) (ic ..) ?_ ?_ rfl hh hbd (.inl rfl)
 ·exact .flat .nil
 ·exact .flat .nil
 ·unfold da
  cases fl sM (gF f st)<;>rfl
def iV(l e:Nat->Int)(i:Nat):Prop:=l i-e i < -2047\/2047<l i-e i
open Classical in
noncomputable def jH(l e:Nat->Int):Option (Nat->Int):=if ∃i,i<64/\iV l e i then none else some fun i=>l i-e i
noncomputable def Et(o:Option (Nat->Int)):XV := .tup [.agg (ti .i64 64 (o.getD fun _=>0)),.one (.bool o.isSome)]
theorem yE(o:Option (Nat->Int)):(Et o).shut=true:=by
 show((ti .i64 64 (o.getD fun _=>0)).all XC.shut&&(true&&true))=true
 rw[iX];rfl
theorem Eu(l e:Nat->Int)(hl:∀i,-1000000<=l i/\l i<=1000000)(he:∀i,-1000000<=e i/\e i<=1000000):aW Tryz.prog 97 [.agg (ti .i64 64 l),.agg (ti .i64 64 e)] [] (Et (jH l e)) []:=by
 refine cO Tryz.func97 ?_
 repeat' (first
  |(refine qz ?_;first
   |refine fV ?_ (hle:=by rw[aL]))
  |refine zz ?_|refine zx (fun _=>?_) (fun _=>?_)|fail)
 refine WX.bZ (σ:=Nat) (fun j=>[(9,.one (.int .i64 (j:Nat))),(2,.one (.ptr 0 0)),(4,.one (.ptr 1 0)),(8,.agg (ti .i64 64 e))]) (fun j=>[.cells (ti .i64 64 (iz (fun i=>l i-e i) l j)) 65 false false,.cells (ti .i64 64 fun _=>0) 65 false false]) (fun j=>j<=64/\∀i,i<j->¬iV l e i) (fun j=>64-j) 0 ⟨by omega,fun i hi=>by omega⟩ (fun s _=>hX) (b_ [0,2] (obj:=by(repeat' (first|exact ae.nil|refine ae.flat (by rw[fI];rfl) ?_|refine ae.flat rfl ?_|refine ae.cons rfl ?_|refine ae.dead rfl ?_|refine ae.cons (by simp only[ah.ax,List.map_cons,List.map_nil,XC.ax,aB];exact rfl) ?_));first|done|fail)) ?_
 intro j ⟨hj,hall⟩ ih
 by_cases hj64:j<64
 ·have a1:=hl j
  have a2:=he j
  have a2':=he (j:Int).toNat
  have e1:e (j:Int).toNat=e j:=rfl
  have em:iz (fun i=>l i-e i) l j j=l j:=by simp[iz]
  have eu:gM (iz (fun i=>l i-e i) l j) j (iz (fun i=>l i-e i) l j j-e (j:Int).toNat) j=iz (fun i=>l i-e i) l j j-e (j:Int).toNat:=by simp[gM]
  by_cases hb:iV l e j
  ·have hb':=hb
   unfold iV at hb'
   have e0:jH l e=none:=if_pos ⟨j,hj64,hb⟩
   rw[e0]
   repeat' (first
    |(refine qz ?_;first
     |refine El (n:=64) ?_
     |refine lO ?_ (hs1:=by rw[aL]) (hs2:=by rw[aL]))
    |refine zz ?_|refine zx (fun _=>?_) (fun _=>?_)|fail)
   all_goals
    first
     | (exfalso;omega)
     | (show aD _ _ _ _ _ _ _ _;refine kV [] ?_;rfl)
  ·have hb':=hb
   unfold iV at hb'
   have e2:iz (fun i=>l i-e i) l j j-e (j:Int).toNat=l j-e j:=by rw[em,e1]
   repeat' (first
    |(refine qz ?_;first
     |refine El (n:=64) ?_)
    |refine zz ?_|refine zx (fun _=>?_) (fun _=>?_)|fail)
   refine ih (j+1) _ _ _ (b_ [0,1] (obj:=by(repeat' (first|exact ae.nil|refine ae.flat (by rw[<-fH,e2];rfl) ?_|refine ae.flat rfl ?_|refine ae.cons rfl ?_|refine ae.dead rfl ?_|refine ae.cons (by simp only[ah.ax,List.map_cons,List.map_nil,XC.ax,aB];exact rfl) ?_));first|done|fail)) ⟨by omega,fun i hi=>?_⟩ (by omega)
   by_cases hij:i=j
   ·subst hij;exact hb
   ·exact hall i (by omega)
 ·obtain rfl:j=64:=by omega
  have e0:jH l e=some fun i=>l i-e i:=if_neg fun⟨i,hi,hb⟩=>hall i hi hb
  rw[e0]
  repeat' (first
   |(refine qz ?_;first
    |refine fV ?_ (hle:=by rw[aL])
    |refine lO ?_ (hs1:=by rw[aL]) (hs2:=by rw[aL]))
   |refine zz ?_|refine zx (fun _=>?_) (fun _=>?_)|fail)
  show aD _ _ _ _ _ _ _ _;refine kV [] ?_
  rw[EG];rfl
theorem qE{l e:Nat->Int}(hl:∀i,-1000000<=l i/\l i<=1000000)(he:∀i,-1000000<=e i/\e i<=1000000){o:Option (Nat->Int)}(ho:jH l e=o){HS:ai}(hb:Nat.blt HS.length Mem.bound=true):aC.Sound Tryz.prog ⟨97,[.agg (ti .i64 64 l),.agg (ti .i64 64 e)],HS,Et o,HS,[]⟩:=by
 subst ho
 exact au (Eu l e hl he) (by show((ti .i64 64 l).all XC.shut&&((ti .i64 64 e).all XC.shut&&true))=true;rw[iX,iX];rfl) (yE _) hb
structure Df(e:Ev):Prop where
 run:0<=e.1/\e.1<=63
 nz:e.2.1≠0
 lev : -2047<=e.2.1/\e.2.1<=2047
theorem uP(e:Ev)(h:Df e):aW Tryz.prog 162 [.agg (sM e)] [] (.one (.bool true)) []:=by
 have h1:=h.run
 have h2:=h.nz
 have h3:=h.lev
 refine cO Tryz.func162 ?_
 repeat' (first|refine zz ?_|refine zx (fun _=>?_) (fun _=>?_)|fail)
 show aD _ _ _ _ _ _ _ _;refine kV [] ?_
 rfl
theorem pT{e:Ev}(h:Df e){HS:ai}(hb:Nat.blt HS.length Mem.bound=true):aC.Sound Tryz.prog ⟨162,[.agg (sM e)],HS,.one (.bool true),HS,[]⟩:=
 au (uP e h) rfl rfl hb
structure nV(l:List Ev):Prop where
 len:0<l.length/\l.length<=64
 ok:∀j,j<l.length->Df (l.getD j default)
 last:∀j,j<l.length->(l.getD j default).2.2=decide (j+1=l.length)
def KA(e:Ev):List Bool:=dU (2*e.1+(if e.2.2 then 1 else 0))++dU (bT e.2.1-1)
def fE(l:List Ev):List Bool:=l.flatMap KA
theorem pV{x:Int}(h : -2047<=x/\x<=2047)(h0:x≠0):1<=bT x/\bT x<=4094:=by unfold bT;split<;>omega
theorem GQ{e:Ev}(h:Df e):(KA e).length<=54:=by
 unfold KA
 have h1:=h.run
 have h2:=pV h.lev h.nz
 have h3:=hJ (2*e.1+(if e.2.2 then 1 else 0)) (by split<;>omega)
 have h4:=hJ (bT e.2.1-1) (by omega)
 rw[List.length_append];omega
theorem o8{l:List Ev}{j:Nat}(hj:j<l.length):fE (l.take (j+1))=fE (l.take j)++KA (l.getD j default):=by
 unfold fE
 rw[List.take_add_one,List.flatMap_append,List.getD_eq_getElem?_getD,List.getElem?_eq_getElem hj]
 simp
theorem rl{l:List Ev}(h:nV l):∀j,j<=l.length->(fE (l.take j)).length<=54*j
 | 0,_=>by simp[fE]
 | j+1,hj=>by
   rw[o8 (by omega),List.length_append]
   have:=rl h j (by omega)
   have:=GQ (h.ok j (by omega))
   omega
theorem DE(bs:List Bool)(l:List Ev)(h:nV l)(hb:bs.length<=800000) :
 aW Tryz.prog 150 [.one (.ptr 0 0),kA 2 l.length 3] [aK 1 bs,aq bs,da l] (.one (.int .i64 0)) [aK 3 (bs++fE l),.dead,da l,aq (bs++fE l)]:=by
 have hlen:=h.len
 refine cO Tryz.func150 ?_
 repeat' (first|refine zz ?_|refine zx (fun _=>?_) (fun _=>?_)|fail)
 refine WX.bZ (σ:=Nat) (fun j=>[(22,.one (.int .i64 (j:Nat))),(0,.one (.ptr 0 0)),(1,kA 2 l.length 3),(20,kA 2 l.length 3),(21,.one (.int .i64 (l.length:Nat)))]) (fun _=>[aK 1 bs,aq bs,da l]) (fun j=>j<=l.length) (fun j=>l.length-j) 0 (by omega) (fun s _=>hX) (b_ [0,1,2]) ?_
 intro j hj ih
 by_cases hjl:j<l.length
 ·have hok:=h.ok j hjl
  have hlast:=h.last j hjl
  by_cases hl:j+1=l.length
  ·have hb2:(sM (l.getD j default))[2]? = some (.bool true):=by
    show some (XC.bool (l.getD j default).2.2)=_
    rw[hlast,decide_eq_true hl]
   repeat' (first
    |(refine qz ?_;first
     |refine Lh (enc:=sM) (j:=j) ?_
     |refine ld (hc:=hb2) ?_
     |refine cl ?_ (hi:=by exact pT hok rfl))
    |refine zz ?_|refine zx (fun _=>?_) (fun _=>?_)|fail)
   refine ih (j+1) _ _ _ (b_ [0,1,2]) (by omega) (by omega)
  ·have hb2:(sM (l.getD j default))[2]? = some (.bool false):=by
    show some (XC.bool (l.getD j default).2.2)=_
    rw[hlast,decide_eq_false hl]
   repeat' (first
    |(refine qz ?_;first
     |refine Lh (enc:=sM) (j:=j) ?_
     |refine ld (hc:=hb2) ?_
     |refine cl ?_ (hi:=by exact pT hok rfl))
    |refine zz ?_|refine zx (fun _=>?_) (fun _=>?_)|fail)
   refine ih (j+1) _ _ _ (b_ [0,1,2]) (by omega) (by omega)
 ·repeat' (first|refine zz ?_|refine zx (fun _=>?_) (fun _=>?_)|fail)
  refine WX.bZ (σ:=Nat) (fun j=>[(43,.one (.int .i64 (j:Nat))),(0,.one (.ptr 0 0)),(41,kA 2 l.length 3),(42,.one (.int .i64 (l.length:Nat)))]) (fun j=>[aK 3 (bs++fE (l.take j)),.dead,da l,aq (bs++fE (l.take j))]) (fun j=>j<=l.length) (fun j=>l.length-j) 0 (by omega) (fun s _=>hX) (b_ [0,1,2,1] (obj:=by(repeat' (first|exact ae.nil|refine ae.flat (by rw[show fE (l.take 0) = []from rfl,List.append_nil];rfl) ?_|refine ae.fu (by rw[show fE (l.take 0) = []from rfl,List.append_nil];rfl) rfl rfl rfl ?_|refine ae.flat rfl ?_|refine ae.cons rfl ?_|refine ae.dead rfl ?_|refine ae.cons (by simp only[ah.ax,List.map_cons,List.map_nil,XC.ax,aB];exact rfl) ?_));first|done|fail)) ?_
  intro j2 hj2 ih2
  by_cases hjl2:j2<l.length
  ·have hok:=h.ok j2 hjl2
   have hlast:=h.last j2 hjl2
   have e1:=hok.run
   have e2:=hok.lev
   have e3:=pV e2 hok.nz
   have hB:=rl h j2 hj2
   have hlB:(bs++fE (l.take j2)).length<=810000:=by rw[List.length_append];omega
   by_cases hl:j2+1=l.length
   ·have hb2:(sM (l.getD j2 default))[2]? = some (.bool true):=by
     show some (XC.bool (l.getD j2 default).2.2)=_
     rw[hlast,decide_eq_true hl]
    have hr:=hJ (2*(l.getD j2 default).1+1) (by omega)
    have eB:fE (l.take (j2+1))=fE (l.take j2)++(dU (2*(l.getD j2 default).1+1)++dU (bT (l.getD j2 default).2.1-1)):=by
     rw[o8 hjl2,KA,hlast,decide_eq_true hl];rfl
    repeat' (first
     |(refine qz ?_;first
      |refine Lh (enc:=sM) (j:=j2) ?_
      |refine ld (hc:=hb2) ?_
      |refine cl ?_ (hi:=by exact pt (by omega) rfl)
      |refine cl ?_ (hi:=by exact hU (v:=2*(l.getD j2 default).1+1) (bs:=bs++fE (l.take j2)) (by omega) (by omega) rfl rfl (by decide) nL nA rfl)
      |refine cl ?_ (hi:=by exact hU (v:=bT (l.getD j2 default).2.1-1) (bs:=(bs++fE (l.take j2))++dU (2*(l.getD j2 default).1+1)) (by omega) (by rw[List.length_append];omega) rfl rfl (by decide) nL nA rfl))
     |refine zz ?_|refine zx (fun _=>?_) (fun _=>?_)|refine aS (by first|exact af.nil|exact af.one _|exact af.i3 (by repeat' (first|exact True.intro|refine And.intro ?_ ?_|exact Compat.ne rfl|exact dI rfl))) ⟨by kernel_rfl,?_⟩|refine aS (by first|exact af.nil|exact af.one _|exact af.i3 (by repeat' (first|exact True.intro|refine And.intro ?_ ?_|exact Compat.ne rfl|exact dI rfl))) ?_|fail)
    have hE:bs++fE (l.take (j2+1))=bs++fE (l.take j2)++dU (2*(l.getD j2 default).1+1)++dU (bT (l.getD j2 default).2.1-1):=by rw[eB];simp only[List.append_assoc]
    refine ih2 (j2+1) _ _ _ (b_ [0,1,2,6] (obj:=by(repeat' (first|exact ae.nil|refine ae.flat (by rw[hE];rfl) ?_|refine ae.fu (by rw[hE];rfl) rfl rfl rfl ?_|refine ae.flat rfl ?_|refine ae.cons rfl ?_|refine ae.dead rfl ?_|refine ae.cons (by simp only[ah.ax,List.map_cons,List.map_nil,XC.ax,aB];exact rfl) ?_));first|done|fail)) (by omega) (by omega)
   ·have hb2:(sM (l.getD j2 default))[2]? = some (.bool false):=by
     show some (XC.bool (l.getD j2 default).2.2)=_
     rw[hlast,decide_eq_false hl]
    have hr:=hJ (2*(l.getD j2 default).1) (by omega)
    have eB:fE (l.take (j2+1))=fE (l.take j2)++(dU (2*(l.getD j2 default).1)++dU (bT (l.getD j2 default).2.1-1)):=by
     rw[o8 hjl2,KA,hlast,decide_eq_false hl,if_neg (by decide),Int.add_zero]
    repeat' (first
     |(refine qz ?_;first
      |refine Lh (enc:=sM) (j:=j2) ?_
      |refine ld (hc:=hb2) ?_
      |refine cl ?_ (hi:=by exact pt (by omega) rfl)
      |refine cl ?_ (hi:=by exact hU (v:=2*(l.getD j2 default).1) (bs:=bs++fE (l.take j2)) (by omega) (by omega) rfl rfl (by decide) nL nA rfl)
      |refine cl ?_ (hi:=by exact hU (v:=bT (l.getD j2 default).2.1-1) (bs:=(bs++fE (l.take j2))++dU (2*(l.getD j2 default).1)) (by omega) (by rw[List.length_append];omega) rfl rfl (by decide) nL nA rfl))
     |refine zz ?_|refine zx (fun _=>?_) (fun _=>?_)|refine aS (by first|exact af.nil|exact af.one _|exact af.i3 (by repeat' (first|exact True.intro|refine And.intro ?_ ?_|exact Compat.ne rfl|exact dI rfl))) ⟨by kernel_rfl,?_⟩|refine aS (by first|exact af.nil|exact af.one _|exact af.i3 (by repeat' (first|exact True.intro|refine And.intro ?_ ?_|exact Compat.ne rfl|exact dI rfl))) ?_|fail)
    have hE:bs++fE (l.take (j2+1))=bs++fE (l.take j2)++dU (2*(l.getD j2 default).1)++dU (bT (l.getD j2 default).2.1-1):=by rw[eB];simp only[List.append_assoc]
    refine ih2 (j2+1) _ _ _ (b_ [0,1,2,6] (obj:=by(repeat' (first|exact ae.nil|refine ae.flat (by rw[hE];rfl) ?_|refine ae.fu (by rw[hE];rfl) rfl rfl rfl ?_|refine ae.flat rfl ?_|refine ae.cons rfl ?_|refine ae.dead rfl ?_|refine ae.cons (by simp only[ah.ax,List.map_cons,List.map_nil,XC.ax,aB];exact rfl) ?_));first|done|fail)) (by omega) (by omega)
  ·have hT:l.take j2=l:=List.take_of_length_le (by omega)
   rw[hT]
   repeat' (first|refine zz ?_|refine zx (fun _=>?_) (fun _=>?_)|fail)
   show aD _ _ _ _ _ _ _ _;refine kV [0,1,2,3] ?_
   rfl
theorem JA(a b:List XC)(e e' e2 e3:TypeId)(cs ds fs:List XC):eV [.cells a e false false,dG e' cs,dG e3 fs] [.cells b e false false,.dead,dG e3 fs,dG e2 ds]=true:=by
 cases cs<;>cases ds<;>cases fs<;>simp[eV,ah.live,ah.own,dG]
theorem GG{bs:List Bool}{l:List Ev}(h:nV l)(hb:bs.length<=800000){HS:ai}{i k q:Nat}(hi:HS[i]? = some (aK k bs))(hk:HS[k]? = some (aq bs))(hq:HS[q]? = some (da l))(hd : [i,k,q].Nodup){N:Nat}(hN:HS.length=N){HS':ai}(hh:bQ HS [i,k] [aK N (bs++fE l),.dead,aq (bs++fE l)]=HS')(hbd:Nat.blt HS'.length Mem.bound=true) :
 aC.Sound Tryz.prog ⟨150,[.one (.ptr i 0),kA q l.length 3],HS,.one (.int .i64 0),HS',[i,k]⟩:=by
 subst hN
 have hh':bQ HS [i,k,q] [aK HS.length (bs++fE l),.dead,da l,aq (bs++fE l)]=HS':=by
  subst hh
  simp only[List.nodup_cons,List.mem_cons,List.not_mem_nil,or_false,not_or]at hd
  simp only[bQ]
  rw[aV (i:=q) (by rw[List.getElem?_set_ne hd.2.1,List.getElem?_set_ne hd.1.2];exact hq)]
 refine ca [i,k,q] [i,k] 1 (DE bs l h hb) hd ?_ ?_ ?_ rfl (.cons (by simp[XV.bl,XC.ok]) (.cons (ma (Nat.le_of_ble_eq_true rfl)) .nil)) (.cons rfl (.cons (ic ..) .nil)) (bh.ok _) (bh.ax _) ?_ (JA ..) rfl hh' hbd (.inr fun j hjl hj=>?_)
 ·exact ae.fu hi rfl rfl rfl (.flat hk (.flat hq .nil))
 ·exact .cons (by simp[ah.bl,XC.ok,aE]) (.flat (.flat .nil))
 ·exact .cons (by simp[ah.bl,XC.ok,aE]) (.flat (.flat (.flat .nil)))
 ·exact .cons (by simp only[ah.ax,List.map_cons,List.map_nil,XC.ax,aB];rfl) (.flat (.flat (.flat .nil)))
 ·subst hh
  exact ky _ _ _ _ hjl (by simpa using hj)
structure bO where
 id:Int
 inter:Bool
 down:Bool
 hqp:Int
 qp:Int
 cols:Int
 rows:Int
 M:iI
 A:mS
 B:mS
 C:mS
abbrev fv(S:bO):ah := .cells [.ptr 3 0,.int .i64 S.id,.bool S.inter,.bool S.down,.int .i64 S.hqp,.int .i64 S.qp,.ptr 16 0,.ptr 18 0] 159 false false
abbrev gh(S:bO):ai:=[fv S,cK 4 8 12,aI 5 6 7 cM,bz cM,bC cM,bB cM,aI 9 10 11 cZ,bz cZ,bC cZ,bB cZ,aI 13 14 15 cP,bz cP,bC cP,bB cP,
 dq 17 S.cols S.rows,.map (bK S.M),.cells [.int .i64 S.cols,.int .i64 S.rows,.map 19,.map 20,.map 21] 142 false false,.map (aj S.A),.map (aj S.B),.map (aj S.C)]
instance HY (M:mS):aR (.map (aj M)):=wC (fun _=>rfl) (fun b=>show X1.shut (.agg (cU b))=true from aY b) M
abbrev cf:List Nat:=[2,3,4,5,6,7,8,9,10,11,12,13,14,15,16,17,18,19,20,21]
theorem jZ(S:bO)(n:Nat)(h:22<=n){l:ai}(hl:ay n l):ay n (gh S++l):=by
 have k:∀j,j<22->j<n:=fun j hj=>by omega
 refine .cons ?_ (.cons ?_ (.cons ?_ (.flat (.flat (.flat (.cons ?_ (.flat (.flat (.flat (.cons ?_ (.flat (.flat (.flat (.cons ?_ (.flat (.cons ?_ (.flat (.flat (.flat hl)))))))))))))))))))
 all_goals simp[ah.bl,XC.ok];omega
theorem uT(S:bO){τ : Nat->Nat}(h:∀j,2<=j->j<22 -> τ j=j){l l':ai}(hl:dC τ l l'):dC τ (gh S++l) (gh S++l'):=by
 have h3:=h 3 (by omega) (by omega)
 have h4:=h 4 (by omega) (by omega)
 have h5:=h 5 (by omega) (by omega)
 have h6:=h 6 (by omega) (by omega)
 have h7:=h 7 (by omega) (by omega)
 have h8:=h 8 (by omega) (by omega)
 have h9:=h 9 (by omega) (by omega)
 have h10:=h 10 (by omega) (by omega)
 have h11:=h 11 (by omega) (by omega)
 have h12:=h 12 (by omega) (by omega)
 have h13:=h 13 (by omega) (by omega)
 have h14:=h 14 (by omega) (by omega)
 have h15:=h 15 (by omega) (by omega)
 have h16:=h 16 (by omega) (by omega)
 have h17:=h 17 (by omega) (by omega)
 have h18:=h 18 (by omega) (by omega)
 have h19:=h 19 (by omega) (by omega)
 have h20:=h 20 (by omega) (by omega)
 have h21:=h 21 (by omega) (by omega)
 refine .cons ?_ (.cons ?_ (.cons ?_ (.flat (.flat (.flat (.cons ?_ (.flat (.flat (.flat (.cons ?_ (.flat (.flat (.flat (.cons ?_ (.flat (.cons ?_ (.flat (.flat (.flat hl)))))))))))))))))))
 all_goals simp only[ah.ax,List.map_cons,List.map_nil,XC.ax, *]
theorem qL(S:bO){τ : Nat->Nat}{HS:ai}(h:∀j,2<=j->j<22 -> τ j=j)(hS:(HS.drop 2).take 20=gh S){ls:List Nat}{l:ai}(hl:ae τ HS ls l):ae τ HS (cf++ls) (gh S++l):=by
 have g:∀j,j<20->HS[j+2]? = (gh S)[j]?:=fun j hj=>by
  rw[<-hS,List.getElem?_take,if_pos hj,List.getElem?_drop]
  congr 1
  omega
 have h3:=h 3 (by omega) (by omega)
 have h4:=h 4 (by omega) (by omega)
 have h5:=h 5 (by omega) (by omega)
 have h6:=h 6 (by omega) (by omega)
 have h7:=h 7 (by omega) (by omega)
 have h8:=h 8 (by omega) (by omega)
 have h9:=h 9 (by omega) (by omega)
 have h10:=h 10 (by omega) (by omega)
 have h11:=h 11 (by omega) (by omega)
 have h12:=h 12 (by omega) (by omega)
 have h13:=h 13 (by omega) (by omega)
 have h14:=h 14 (by omega) (by omega)
 have h15:=h 15 (by omega) (by omega)
 have h16:=h 16 (by omega) (by omega)
 have h17:=h 17 (by omega) (by omega)
 have h18:=h 18 (by omega) (by omega)
 have h19:=h 19 (by omega) (by omega)
 have h20:=h 20 (by omega) (by omega)
 have h21:=h 21 (by omega) (by omega)
 refine .cons ?_ (.cons ?_ (.cons ?_ (.flat (g 3 (by omega)) (.flat (g 4 (by omega)) (.flat (g 5 (by omega)) (.cons ?_ (.flat (g 7 (by omega)) (.flat (g 8 (by omega)) (.flat (g 9 (by omega)) (.cons ?_ (.flat (g 11 (by omega)) (.flat (g 12 (by omega)) (.flat (g 13 (by omega)) (.cons ?_ (.flat (g 15 (by omega)) (.cons ?_ (.flat (g 17 (by omega)) (.flat (g 18 (by omega)) (.flat (g 19 (by omega)) hl)))))))))))))))))))
 ·rw[g 0 (by omega)];simp only[ah.ax,List.map_cons,List.map_nil,XC.ax, *];rfl
 ·rw[g 1 (by omega)];simp only[ah.ax,List.map_cons,List.map_nil,XC.ax, *];rfl
 ·rw[g 2 (by omega)];simp only[ah.ax,List.map_cons,List.map_nil,XC.ax, *];rfl
 ·rw[g 6 (by omega)];simp only[ah.ax,List.map_cons,List.map_nil,XC.ax, *];rfl
 ·rw[g 10 (by omega)];simp only[ah.ax,List.map_cons,List.map_nil,XC.ax, *];rfl
 ·rw[g 14 (by omega)];simp only[ah.ax,List.map_cons,List.map_nil,XC.ax, *];rfl
 ·rw[g 16 (by omega)];simp only[ah.ax,List.map_cons,List.map_nil,XC.ax, *];rfl
theorem HC(a b:List XC)(e e' e2:TypeId)(cs ds:List XC)(S S':bO):eV (.cells a e false false::dG e' cs::gh S) (.cells b e false false :: .dead::(gh S'++[dG e2 ds]))=true:=by
 cases cs<;>cases ds<;>simp[eV,ah.live,ah.own,dG]
theorem IF{f:FuncId}{more:List XV}(hm:∀τ,eD τ more more)(hmo:gj 22 more){v:XV}[bh v]{bs bs':List Bool}{S S':bO}(hc:aW Tryz.prog f (.one (.ptr 2 0) :: .one (.ptr 0 0)::more) (aK 1 bs::aq bs::gh S) v (aK 22 bs' :: .dead::(gh S'++[aq bs'])))
 {HS:ai} {k:Nat}(hi:HS[0]? = some (aK k bs)) (hk:HS[k]? = some (aq bs)) (hS:(HS.drop 2).take 20=gh S) (hd:(k==1||Nat.ble 22 k)=true) {N:Nat}(hN:HS.length=N) {HS':ai}(hh:bQ HS (0::k::cf) (aK N bs' :: .dead::(gh S'++[aq bs']))=HS') (hbd:Nat.blt HS'.length Mem.bound=true) :
 aC.Sound Tryz.prog ⟨f,.one (.ptr 2 0) :: .one (.ptr 0 0)::more,HS,v,HS',0::k::cf⟩:=by
 subst hN
 have hkk:k=1\/22<=k:=by simpa [Nat.ble_eq]using hd
 have h0:0∉cf:=by decide
 have hk':k∉cf:=by
  intro h
  simp only[cf,List.mem_cons,List.not_mem_nil,or_false]at h
  omega
 have nd:(0::k::cf).Nodup:=List.nodup_cons.2 ⟨fun h=>(List.mem_cons.1 h).elim (fun e=>by omega) h0,List.nodup_cons.2 ⟨hk',by decide⟩⟩
 have hq:∀q:Fin 20,cf[q.val]? = some (q.val+2):=by decide
 have ht:∀j,2<=j->j<22->nth (0::k::cf) j=j:=fun j h1 h2=>by
  obtain⟨q,rfl⟩:∃q,j=q+2:=⟨j-2,by omega⟩
  have:=hq ⟨q,by omega⟩
  unfold nth
  rw[List.getD_eq_getElem?_getD]
  simp only[List.getElem?_cons_succ]
  rw[this];rfl
 have ht':∀j,2<=j->j<22->nth ((0::k::cf)++List.range' HS.length 1) j=j:=fun j h1 h2=>by
  obtain⟨q,rfl⟩:∃q,j=q+2:=⟨j-2,by omega⟩
  have:=hq ⟨q,by omega⟩
  unfold nth
  rw[List.getD_eq_getElem?_getD]
  show((cf++List.range' HS.length 1)[q]?).getD 0=q+2
  rw[List.getElem?_append_left (show q<cf.length by show q<20;omega),this];rfl
 have hv:=qL S ht hS (ls:=[]) .nil
 rw[List.append_nil,List.append_nil]at hv
 have ho:=jZ S 22 (Nat.le_refl _) (l:=[]) .nil
 rw[List.append_nil]at ho
 refine ca (0::k::cf) (0::k::cf) 1 hc nd (ae.fu hi rfl rfl rfl (.flat hk hv)) (.cons (by simp[ah.bl,XC.ok,aE]) (.flat ho)) (.cons (by simp[ah.bl,XC.ok,aE]) (.flat (jZ S' 23 (by omega) (.flat .nil)))) rfl (.cons (by show 2<22;omega) (.cons (by show 0<22;omega) hmo)) (.cons rfl (.cons rfl (hm _))) (bh.ok _) (bh.ax _) ?_ (HC ..) rfl hh hbd (.inl rfl)
 exact .cons (by simp only[ah.ax,List.map_cons,List.map_nil,XC.ax,aB];rfl) (.flat (uT S' ht' (.flat .nil)))
def dh(n:Int):Nat:=bitLen (max n (-n)).toNat
def cH(n:Int):List Bool:=ir cZ (dh n)++fq (if n<0 then n+(1*2^dh n-1)else n) (dh n)
theorem BS(n:Nat):n<2^bitLen n:=by
 unfold bitLen
 split
 ·rename_i h;rw[h];decide
 ·exact Nat.lt_log2_self
theorem i0{C:Cd}(hC:xT C)(n:Nat):(ir C n).length<=64:=by
 unfold ir
 have:=hC.sz n
 have h:∀(x:Int) (k:Nat),(fq x k).length=k:=fun x k=>gB x k
 rw[h];omega
theorem vQ{n:Int}(h : -4000<=n/\n<=4000):dh n<=12:=o5 (by omega)
theorem DT(bs:List Bool)(S:bO)(n:Int)(hn : -4000<=n/\n<=4000)(hb:bs.length<=800000) :
 aW Tryz.prog 145 [.one (.ptr 2 0),.one (.ptr 0 0),.one (.int .i64 n)] [aK 1 bs,aq bs,fv (S),cK 4 8 12,aI 5 6 7 cM,bz cM,bC cM,bB cM,aI 9 10 11 cZ,bz cZ,bC cZ,bB cZ,aI 13 14 15 cP,bz cP,bC cP,bB cP,dq 17 (S).cols (S).rows,.map (bK (S).M),.cells [.int .i64 (S).cols,.int .i64 (S).rows,.map 19,.map 20,.map 21] 142 false false,.map (aj (S).A),.map (aj (S).B),.map (aj (S).C)] (.tup []) [aK 22 (bs++cH n),.dead,fv (S),cK 4 8 12,aI 5 6 7 cM,bz cM,bC cM,bB cM,aI 9 10 11 cZ,bz cZ,bC cZ,bB cZ,aI 13 14 15 cP,bz cP,bC cP,bB cP,dq 17 (S).cols (S).rows,.map (bK (S).M),.cells [.int .i64 (S).cols,.int .i64 (S).rows,.map 19,.map 20,.map 21] 142 false false,.map (aj (S).A),.map (aj (S).B),.map (aj (S).C),aq (bs++cH n)]:=by
 have hm:max n (0-n)=max n (-n):=by rw[Int.zero_sub]
 have hl:=vQ hn
 have hlt:=BS (max n (-n)).toNat
 have hl2:ot (max n (0-n)).toNat=(dh n:Nat):=by rw[hm];rfl
 have hc:=i0 zW (dh n)
 have hpow:(2:Int)^dh n<=4096:=by
  have:=Nat.pow_le_pow_right (show 0<2 by decide) hl
  have h2:((2^dh n:Nat):Int)<=((2^12:Nat):Int):=Int.ofNat_le.2 this
  rw[Int.natCast_pow]at h2
  exact h2
 have hpl : -n<(2:Int)^dh n/\n<(2:Int)^dh n:=by
  have h2:(((max n (-n)).toNat:Nat):Int)<((2^dh n:Nat):Int):=Int.ofNat_lt.2 hlt
  rw[Int.natCast_pow]at h2
  have h3:((2:Nat):Int)^dh n=(2:Int)^dh n:=rfl
  rw[h3]at h2
  omega
 have h1:(1:Int)*2^dh n=2^dh n:=Int.one_mul _
 have e0:bs++cH n=(bs++ir cZ (dh n))++fq (if n<0 then n+(1*2^dh n-1)else n) (dh n):=by rw[cH,List.append_assoc]
 rw[e0]
 refine cO Tryz.func145 ?_
 by_cases h0:n<0
 ·rw[if_pos h0]
  repeat' (first
   |(refine qz ?_;first
    |refine L3 ?_
    |refine cl (v := .one (.int .i64 (dh n:Nat))) ?_ (hi:=by rw[<-hl2];exact yD (by omega) rfl)
    |refine cl ?_ (hi:=by exact n9 (C:=cZ) zW (n:=dh n) rfl (by show dh n<13;omega) (bs:=bs) (by omega) rfl rfl rfl rfl rfl rfl (by decide) nL nA rfl)
    |refine Gq (n:=dh n) ?_ (h:=⟨by show dh n<=64;omega,by show _/\_;omega⟩)
    |refine cl ?_ (hi:=by exact fR (n:=n+(1*2^dh n-1)) (size:=dh n) rfl (bs:=bs++ir cZ (dh n)) (by omega) (by omega) (by rw[List.length_append];omega) rfl rfl (by decide) nL nA rfl))
   |refine zz ?_|refine zx (fun _=>?_) (fun _=>?_)|fail)
  show aD _ _ _ _ _ _ _ _;refine kV [0,1,2,3,4,5,6,7,8,9,10,11,12,13,14,15,16,17,18,19,20,21,23] ?_
  rfl
 ·rw[if_neg h0]
  repeat' (first
   |(refine qz ?_;first
    |refine L3 ?_
    |refine cl (v := .one (.int .i64 (dh n:Nat))) ?_ (hi:=by rw[<-hl2];exact yD (by omega) rfl)
    |refine cl ?_ (hi:=by exact n9 (C:=cZ) zW (n:=dh n) rfl (by show dh n<13;omega) (bs:=bs) (by omega) rfl rfl rfl rfl rfl rfl (by decide) nL nA rfl)
    |refine cl ?_ (hi:=by exact fR (n:=n) (size:=dh n) rfl (bs:=bs++ir cZ (dh n)) (by omega) (by omega) (by rw[List.length_append];omega) rfl rfl (by decide) nL nA rfl))
   |refine zz ?_|refine zx (fun _=>?_) (fun _=>?_)|fail)
  show aD _ _ _ _ _ _ _ _;refine kV [0,1,2,3,4,5,6,7,8,9,10,11,12,13,14,15,16,17,18,19,20,21,23] ?_
  rfl
theorem Bp{n:Int}(h : -4000<=n/\n<=4000):(cH n).length<=76:=by
 unfold cH
 have:=i0 zW (dh n)
 have:=vQ h
 rw[List.length_append,gB];omega
theorem GN{bs:List Bool}{S:bO}{n:Int}(hn : -4000<=n/\n<=4000)(hb:bs.length<=800000){HS:ai}{k:Nat}(hi:HS[0]? = some (aK k bs))(hk:HS[k]? = some (aq bs))(hS:(HS.drop 2).take 20=gh S)(hd:(k==1||Nat.ble 22 k)=true){N:Nat}(hN:HS.length=N){HS':ai}(hh:bQ HS (0::k::cf) (aK N (bs++cH n) :: .dead::(gh S++[aq (bs++cH n)]))=HS')(hbd:Nat.blt HS'.length Mem.bound=true) :
 aC.Sound Tryz.prog ⟨145,[.one (.ptr 2 0),.one (.ptr 0 0),.one (.int .i64 n)],HS,.tup [],HS',0::k::cf⟩:=
 IF (fun _ => .flat .nil) (.flat .nil) (DT bs S n hn hb) hi hk hS hd hN hh hbd
end Go.Proofs.YtnkodcmkpfefhaaGreat
