/-
  A part of the proof: Scan, RunsOf, BlockPut, Sta, Undiff, CodeLaw, Heads, StrP, StrE.
-/
import Derived.Test.YthdciapjllppjaaGreatWbF
import Derived.Test.YthdciapjllppjaaGreatWbH
import Derived.Test.YthdciapjllppjaaGreatWbN
import Derived.Test.YthdciapjllppjaaGreatWbP
set_option maxRecDepth 10000
set_option maxHeartbeats 8000000
set_option linter.unusedVariables false
set_option linter.unusedSectionVars false
set_option linter.unusedSimpArgs false
open Go.Proofs.Tryz (prog)
namespace Go.Proofs.YthdciapjllppjaaGreat
open Go.Xm
variable [aq]
def qV(o:Int)(f:Nat->Int)(i:Nat):Int:=f (BJ o i).toNat
theorem IS(k:IntKind)(g z:Nat->Int)(n:Nat):ti k n (uN g z n)=ti k n g:=kL fun i hi=>by simp[uN,hi]
theorem JQ{o:Int}(h:o=0\/o=1\/o=2)(f:Nat->Int):bt prog 126 [.one (.int .u8 o),.agg (ti .i64 64 f)] [] (.agg (ti .i64 64 (qV o f))) []:=by
 refine cO Tryz.func126 ?_
 repeat' (first
  |(refine qz ?_;first
   |refine cl ?_ (hi:=by exact FU h rfl))
  |refine zz ?_|refine zx (fun _=>?_) (fun _=>?_)|fail)
 refine WX.cw (σ:=Nat) (fun j=>[(10,.one (.int .i64 (j:Nat))),(3,.one (.ptr 0 0)),(4,.one (.ptr 1 0)),(5,.one (.ptr 2 0)),(9,.agg (ti .i64 64 (BJ o)))]) (fun j=>[.cells (ti .i64 64 f) 104 false false,.cells (ti .i64 64 fun _=>0) 104 false false,.cells (ti .i64 64 (uN (qV o f) (fun _=>0) j)) 104 false false]) (fun j=>j<=64) (fun j=>64-j) 0 (by omega) (fun s _=>ny) (bW [0,1,2] (obj:=by(repeat' (first|exact ae.nil|refine ae.flat (by rw[qO];rfl) ?_|refine oz ?_));first|done|fail)) ?_;intro j hj ih
 by_cases hj64:j<64
 ·have hr:=D9 h hj64;have hr':0<=BJ o (j:Int).toNat/\BJ o (j:Int).toNat<64:=hr
  repeat' (first
   |(refine qz ?_;first
    |refine Rc (n:=64) ?_)
   |refine zz ?_|refine zx (fun _=>?_) (fun _=>?_)|fail)
  refine ih (j+1) _ _ _ (bW [0,1,2] (obj:=by(repeat' (first|exact ae.nil|refine ae.flat (by rw[<-qN];rfl) ?_|refine oz ?_));first|done|fail)) (by omega) (by omega)
 ·obtain rfl:j=64:=by omega
  repeat' (first
   |(refine qz ?_;first
    |refine jI ?_ (hle:=by rw[aU])
    |refine nD ?_ (hs1:=by rw[aU]) (hs2:=by rw[aU]))
   |refine zz ?_|refine zx (fun _=>?_) (fun _=>?_)|fail)
  show aE _ _ _ _ _ _ _ _;refine kV [] ?_;rw[IS];rfl
theorem yL{o:Int}(h:o=0\/o=1\/o=2){f:Nat->Int}{HS:aj}(hb:Nat.blt HS.length Mem.bound=true):aA.Sound prog ⟨126,[.one (.int .u8 o),.agg (ti .i64 64 f)],HS,.agg (ti .i64 64 (qV o f)),HS,[]⟩:=
 az (JQ h f) (by show(true&&((ti .i64 64 f).all XC.shut&&true))=true;rw[jg];rfl) (jg _ _ _) hb
def i7(edge:Bool)(frm:Int):Int:=if edge=true/\frm=1 then 2 else if edge=true/\frm=2 then 1 else 0
theorem oV(edge:Bool)(frm:Int):i7 edge frm=0\/i7 edge frm=1\/i7 edge frm=2:=by
 unfold i7;split
 ·exact .inr (.inr rfl)
 ·split
  ·exact .inr (.inl rfl)
  ·exact .inl rfl
theorem FI(edge:Bool)(frm:Int):bt prog 125 [.one (.bool edge),.one (.int .u8 frm)] [] (.one (.int .u8 (i7 edge frm))) []:=by
 cases edge
 all_goals
  refine cO Tryz.func125 ?_
  repeat' (first|refine zz ?_|refine zx (fun _=>?_) (fun _=>?_)|fail)
  all_goals
   show aE _ _ _ _ _ _ _ _;refine kV [] ?_;unfold i7;simp only[Bool.false_eq_true,true_and,false_and,if_false]
   repeat' split
   all_goals first
    | rfl
    | (exfalso;omega)
theorem uR{edge:Bool}{frm:Int}{HS:aj}(hb:Nat.blt HS.length Mem.bound=true):aA.Sound prog ⟨125,[.one (.bool edge),.one (.int .u8 frm)],HS,.one (.int .u8 (i7 edge frm)),HS,[]⟩:=
 az (FI edge frm) rfl rfl hb
def yQ(m:Mb):Int:=if alone m=true then 1 else 0
theorem Gp(m:Mb):bt prog 127 [.agg (mC m)] [] (.one (.int .i64 (yQ m))) []:=by
 unfold yQ;refine cO Tryz.func127 ?_
 repeat' (first
  |(refine qz ?_;first
   |refine jI ?_ (hle:=by rw[bn])
   |refine B0 (fun ga=>?_) (fun ga=>?_) (hi:=by exact tV rfl))
  |refine zz ?_|refine zx (fun _=>?_) (fun _=>?_)|fail)
 ·show aE _ _ _ _ _ _ _ _;refine kV [] ?_;rw[if_pos ga];rfl
 ·show aE _ _ _ _ _ _ _ _;refine kV [] ?_;rw[if_neg (by rw[ga];decide)];rfl
theorem JS{m:Mb}{HS:aj}(hb:Nat.blt HS.length Mem.bound=true):aA.Sound prog ⟨127,[.agg (mC m)],HS,.one (.int .i64 (yQ m)),HS,[]⟩:=
 az (Gp m) (by simp only[List.all_cons,List.all_nil,Bool.and_true];exact jY m) rfl hb
end Go.Proofs.YthdciapjllppjaaGreat
namespace Go.Xm
variable [aq]
variable {P:Program} {ops:Array Oper} {nt nI:Nat} {al:aO} {hs:aj} {o:Oper} {l:List Oper} {L:List aA} {K:List Ab->aO->aj->Prop} {d:Nat}
theorem S6{t:TypeId}{a y:Operand}{i off:Nat}{c:XC}{cs cs':List XC}{e:TypeId}{hs':aj}(hk:SK P ops nt L l al hs' fun bs=>K (⟨true,.none,[i]⟩::bs))(hle:off<cs.length)(hv:cs.set off c=cs')(ho:o.op = .store t a y:=by exact rfl)(ht:aH P t 1:=by infer_instance)(hw:aw ops (rg al) o=some true:=by exact rfl)(hd:o.dst = .none:=by exact rfl)
 (ha:af (rg al) a = .one (.ptr i off):=by exact rfl) (hy:cQ (af (rg al) y)=some [c]:=by exact rfl) (hi:hs[i]? = some (bU e cs):=by exact rfl) (hh:hs.set i (bU e cs')=hs':=by first|(simp only[List.set_cons_succ,List.set_cons_zero];exact rfl)|exact rfl):SK P ops nt L (o::l) al hs K:=by
 have h1:bU e cs = .cells cs e true false:=cK (fun hn=>by rw[hn]at hle;simp at hle)
 have h2:bU e cs' = .cells cs' e true false:=cK (fun hn=>by
  have:=congrArg List.length hv;rw[List.length_set,hn]at this;simp at this;rw[this]at hle
  simp at hle)
 exact kH ho hw hd ha hy (hi.trans (congrArg some h1)) hle hv (by rw[<-h2];exact hh) hk
end Go.Xm
namespace Go.Proofs.YthdciapjllppjaaGreat
open Go.Xm
variable [aq]
abbrev Ev:=Int×Int×Bool
def v9(e:Ev):List XC:=[.int .i64 e.1,.int .i64 e.2.1,.bool e.2.2]
instance:nH v9 3:=⟨fun _=>rfl,fun _=>rfl,by decide⟩
abbrev eK(l:List Ev):ak:=bU 265 (fl v9 l)
def ly(f:Nat->Int):Nat->Nat->Int->List Ev
 | 0,_,_=>[]
 | k+1,i,run=>if f i=0 then ly f k (i+1) (run+1)else(run,f i,false)::ly f k (i+1) 0
def kC:List Ev->List Ev
 | []=>[]
 | [e]=>[(e.1,e.2.1,true)]
 | e::e2::l=>e::kC (e2::l)
theorem iZ:∀l:List Ev,(kC l).length=l.length
 | []=>rfl
 | [e]=>rfl
 | e::e2::l=>by simp only[kC,List.length_cons,iZ (e2::l)]
theorem DN(e:Ev)(l:List Ev):fl v9 (e::l) = .int .i64 e.1 :: .int .i64 e.2.1 :: .bool e.2.2::fl v9 l:=rfl
theorem uB:∀l:List Ev,l≠[]->(fl v9 l).set ((l.length-1)*3+2) (.bool true)=fl v9 (kC l)
 | [],h=>absurd rfl h
 | [e],_=>rfl
 | e::e2::l,_=>by
   have ih:=uB (e2::l) (by simp);rw[DN e,kC,DN e,<-ih];have:((e::e2::l).length-1)*3+2=((e2::l).length-1)*3+2+3:=by simp only[List.length_cons];omega
   rw[this];rfl
def jR(f:Nat->Int)(st:Nat):List Ev:=kC (ly f (64-st) st 0)
theorem rW(f:Nat->Int):∀(k i:Nat) (run:Int),(ly f k i run).length<=k
 | 0,_,_=>Nat.le_refl _
 | k+1,i,run=>by
   unfold ly;split
   ·have:=rW f k (i+1) (run+1);omega
   ·have:=rW f k (i+1) 0;simp only[List.length_cons];omega
theorem Jz(f:Nat->Int)(st:Nat)(hst:st<=64):bt prog 124 [.agg (ti .i64 64 f),.one (.int .i64 (st:Nat))] [] (gJ 0 (jR f st).length 3) [eK (jR f st)]:=by
 refine cO Tryz.func124 ?_
 repeat' (first|refine zz ?_|refine zx (fun _=>?_) (fun _=>?_)|fail)
 refine WX.cc rfl ?_;refine WX.cw (σ:=Nat×Int×List Ev) (fun s=>[(7,.one (.int .i64 (s.1:Nat))),(6,.one (.int .i64 s.2.1)),(5,gJ 1 s.2.2.length 3),(2,.one (.ptr 0 0))]) (fun s=>[.cells (ti .i64 64 f) 104 false false,eK s.2.2]) (fun s=>s.1<=64/\0<=s.2.1/\s.2.1<=s.1/\s.2.2.length<=s.1/\s.2.2++ly f (64-s.1) s.1 s.2.1=ly f (64-st) st 0) (fun s=>64-s.1) (st,0,[]) ⟨hst,Int.le_refl _,by show(0:Int)<=(st:Nat);omega,by show 0<=st;omega,rfl⟩ (fun s _=>ny) (bW [0,1]) ?_;intro s ⟨h1,h2,h3,h4,h5⟩ ih
 by_cases h64:s.1<64
 ·obtain⟨k,hk⟩:∃k,64-s.1=k+1:=⟨63-s.1,by omega⟩
  have hk':64-(s.1+1)=k:=by omega
  rw[hk,ly]at h5
  by_cases hz:f s.1=0
  ·have hz':f (s.1:Int).toNat=0:=hz;rw[if_pos hz]at h5
   repeat' (first|refine zz ?_|refine zx (fun _=>?_) (fun _=>?_)|fail)
   refine ih (s.1+1,s.2.1+1,s.2.2) _ _ _ (bW [0,1]) ⟨by show s.1+1<=64;omega,by show 0<=s.2.1+1;omega,by show s.2.1+1<=((s.1+1:Nat):Int);omega,by show s.2.2.length<=s.1+1;omega,by show s.2.2++ly f (64-(s.1+1)) (s.1+1) (s.2.1+1)=_;rw[hk'];exact h5⟩ (by show 64-(s.1+1)<64-s.1;omega)
  ·have hz':¬f (s.1:Int).toNat=0:=hz;rw[if_neg hz]at h5
   repeat' (first
    |(refine qz ?_;first
     |refine wm (enc:=v9) (a:=(s.2.1,f s.1,false)) ?_
     |refine x7 (enc:=v9) ?_)
    |refine zz ?_|refine zx (fun _=>?_) (fun _=>?_)|fail)
   refine ih (s.1+1,0,s.2.2++[(s.2.1,f s.1,false)]) _ _ _ (bW [0,3] (obj:=by(repeat' (first|exact ae.nil|refine ae.flat (by rw[List.length_append];rfl) ?_|refine oz ?_));first|done|fail)) ⟨by show s.1+1<=64;omega,by show(0:Int)<=0;omega,by show(0:Int)<=((s.1+1:Nat):Int);omega,by show(s.2.2++[_]).length<=s.1+1;simp;omega,by show(s.2.2++[(s.2.1,f s.1,false)])++ly f (64-(s.1+1)) (s.1+1) 0=_;rw[hk',List.append_assoc];exact h5⟩ (by show 64-(s.1+1)<64-s.1;omega)
 ·have e0:64-s.1=0:=by omega
  rw[e0,ly,List.append_nil]at h5;have e:jR f st=kC s.2.2:=by rw[jR,<-h5]
  rw[e]
  by_cases hn:s.2.2.length=0
  ·have hs0:s.2.2 = []:=List.length_eq_zero_iff.1 hn;rw[hs0]
   repeat' (first|refine zz ?_|refine zx (fun _=>?_) (fun _=>?_)|fail)
   show aE _ _ _ _ _ _ _ _;refine kV [1] ?_;rfl
  ·have hset:(fl v9 s.2.2).set ((((s.2.2.length:Nat):Int)-1).toNat*3+2) (.bool true)=fl v9 (kC s.2.2):=by
    rw[show(((s.2.2.length:Nat):Int)-1).toNat=s.2.2.length-1 by omega];exact uB _ (fun h=>hn (by rw[h];rfl))
   have hle:(((s.2.2.length:Nat):Int)-1).toNat*3+2<(fl v9 s.2.2).length:=by
    rw[uj];omega
   repeat' (first
    |(refine qz ?_;first
     |refine S6 ?_ hle hset)
    |refine zz ?_|refine zx (fun _=>?_) (fun _=>?_)|fail)
   show aE _ _ _ _ _ _ _ _;refine kV [1] ?_;rw[fV,iZ];rfl
theorem Mr{f:Nat->Int}{st:Nat}{z:Int}(hz:z=(st:Nat))(hst:st<=64){HS:aj}{N:Nat}(hN:HS.length=N){HS':aj}(hh:HS++[eK (jR f st)]=HS')(hbd:Nat.blt HS'.length Mem.bound=true) :
 aA.Sound prog ⟨124,[.agg (ti .i64 64 f),.one (.int .i64 z)],HS,gJ N (jR f st).length 3,HS',[]⟩:=by
 subst hN;subst hz;refine bI (os:=[eK (jR f st)]) [] [] 1 (Jz f st hst) (by simp) .nil .nil ?_ rfl (.flat (.flat .nil)) (.flat (.flat .nil)) (jL (Nat.le_of_ble_eq_true rfl)) (fV ..) ?_ ?_ rfl hh hbd (.inl rfl)
 ·exact .flat .nil
 ·exact .flat .nil
 ·unfold eK;cases fl v9 (jR f st)<;>rfl
def lu(l e:Nat->Int)(i:Nat):Prop:=l i-e i < -2047\/2047<l i-e i
open Classical in
noncomputable def pz(l e:Nat->Int):Option (Nat->Int):=if ∃i,i<64/\lu l e i then none else some fun i=>l i-e i
noncomputable def ID(o:Option (Nat->Int)):XV := .tup [.agg (ti .i64 64 (o.getD fun _=>0)),.one (.bool o.isSome)]
theorem Cm(o:Option (Nat->Int)):(ID o).shut=true:=by
 show((ti .i64 64 (o.getD fun _=>0)).all XC.shut&&(true&&true))=true;rw[jg];rfl
theorem IE(l e:Nat->Int)(hl:∀i,-1000000<=l i/\l i<=1000000)(he:∀i,-1000000<=e i/\e i<=1000000):bt prog 120 [.agg (ti .i64 64 l),.agg (ti .i64 64 e)] [] (ID (pz l e)) []:=by
 refine cO Tryz.func120 ?_
 repeat' (first
  |(refine qz ?_;first
   |refine jI ?_ (hle:=by rw[aU]))
  |refine zz ?_|refine zx (fun _=>?_) (fun _=>?_)|fail)
 refine WX.cw (σ:=Nat) (fun j=>[(9,.one (.int .i64 (j:Nat))),(2,.one (.ptr 0 0)),(4,.one (.ptr 1 0)),(8,.agg (ti .i64 64 e))]) (fun j=>[.cells (ti .i64 64 (uN (fun i=>l i-e i) l j)) 104 false false,.cells (ti .i64 64 fun _=>0) 104 false false]) (fun j=>j<=64/\∀i,i<j->¬lu l e i) (fun j=>64-j) 0 ⟨by omega,fun i hi=>by omega⟩ (fun s _=>ny) (bW [0,2] (obj:=by(repeat' (first|exact ae.nil|refine ae.flat (by rw[qO];rfl) ?_|refine oz ?_));first|done|fail)) ?_;intro j ⟨hj,hall⟩ ih
 by_cases hj64:j<64
 ·have a1:=hl j;have a2:=he j;have a2':=he (j:Int).toNat;have e1:e (j:Int).toNat=e j:=rfl;have em:uN (fun i=>l i-e i) l j j=l j:=by simp[uN]
  have eu:fY (uN (fun i=>l i-e i) l j) j (uN (fun i=>l i-e i) l j j-e (j:Int).toNat) j=uN (fun i=>l i-e i) l j j-e (j:Int).toNat:=by simp[fY]
  by_cases hb:lu l e j
  ·have hb':=hb;unfold lu at hb';have e0:pz l e=none:=if_pos ⟨j,hj64,hb⟩;rw[e0]
   repeat' (first
    |(refine qz ?_;first
     |refine Rc (n:=64) ?_
     |refine nD ?_ (hs1:=by rw[aU]) (hs2:=by rw[aU]))
    |refine zz ?_|refine zx (fun _=>?_) (fun _=>?_)|fail)
   all_goals
    first
     | (exfalso;omega)
     | (show aE _ _ _ _ _ _ _ _;refine kV [] ?_;rfl)
  ·have hb':=hb;unfold lu at hb';have e2:uN (fun i=>l i-e i) l j j-e (j:Int).toNat=l j-e j:=by rw[em,e1]
   repeat' (first
    |(refine qz ?_;first
     |refine Rc (n:=64) ?_)
    |refine zz ?_|refine zx (fun _=>?_) (fun _=>?_)|fail)
   refine ih (j+1) _ _ _ (bW [0,1] (obj:=by(repeat' (first|exact ae.nil|refine ae.flat (by rw[<-qN,e2];rfl) ?_|refine oz ?_));first|done|fail)) ⟨by omega,fun i hi=>?_⟩ (by omega)
   by_cases hij:i=j
   ·subst hij;exact hb
   ·exact hall i (by omega)
 ·obtain rfl:j=64:=by omega
  have e0:pz l e=some fun i=>l i-e i:=if_neg fun⟨i,hi,hb⟩=>hall i hi hb
  rw[e0]
  repeat' (first
   |(refine qz ?_;first
    |refine jI ?_ (hle:=by rw[aU])
    |refine nD ?_ (hs1:=by rw[aU]) (hs2:=by rw[aU]))
   |refine zz ?_|refine zx (fun _=>?_) (fun _=>?_)|fail)
  show aE _ _ _ _ _ _ _ _;refine kV [] ?_;rw[IS];rfl
theorem LQ{l e:Nat->Int}(hl:∀i,-1000000<=l i/\l i<=1000000)(he:∀i,-1000000<=e i/\e i<=1000000){o:Option (Nat->Int)}(ho:pz l e=o){HS:aj}(hb:Nat.blt HS.length Mem.bound=true):aA.Sound prog ⟨120,[.agg (ti .i64 64 l),.agg (ti .i64 64 e)],HS,ID o,HS,[]⟩:=by
 subst ho;exact az (IE l e hl he) (by show((ti .i64 64 l).all XC.shut&&((ti .i64 64 e).all XC.shut&&true))=true;rw[jg,jg];rfl) (Cm _) hb
structure ET(e:Ev):Prop where
 run:0<=e.1/\e.1<=63
 nz:e.2.1≠0
 lev : -2047<=e.2.1/\e.2.1<=2047
theorem yF(e:Ev)(h:ET e):bt prog 145 [.agg (v9 e)] [] (.one (.bool true)) []:=by
 have h1:=h.run;have h2:=h.nz;have h3:=h.lev;refine cO Tryz.func145 ?_
 repeat' (first|refine zz ?_|refine zx (fun _=>?_) (fun _=>?_)|fail)
 show aE _ _ _ _ _ _ _ _;refine kV [] ?_;rfl
theorem sI{e:Ev}(h:ET e){HS:aj}(hb:Nat.blt HS.length Mem.bound=true):aA.Sound prog ⟨145,[.agg (v9 e)],HS,.one (.bool true),HS,[]⟩:=
 az (yF e h) rfl rfl hb
structure ql(l:List Ev):Prop where
 len:0<l.length/\l.length<=64
 ok:∀j,j<l.length->ET (l.getD j default)
 last:∀j,j<l.length->(l.getD j default).2.2=decide (j+1=l.length)
def Qh(e:Ev):List Bool:=eT (2*e.1+(if e.2.2 then 1 else 0))++eT (b7 e.2.1-1)
def gM(l:List Ev):List Bool:=l.flatMap Qh
theorem sK{x:Int}(h : -2047<=x/\x<=2047)(h0:x≠0):1<=b7 x/\b7 x<=4094:=by unfold b7;split<;>omega
theorem Lk{e:Ev}(h:ET e):(Qh e).length<=54:=by
 unfold Qh;have h1:=h.run;have h2:=sK h.lev h.nz;have h3:=i9 (2*e.1+(if e.2.2 then 1 else 0)) (by split<;>omega);have h4:=i9 (b7 e.2.1-1) (by omega);rw[List.length_append];omega
theorem rM{l:List Ev}{j:Nat}(hj:j<l.length):gM (l.take (j+1))=gM (l.take j)++Qh (l.getD j default):=by
 unfold gM;rw[List.take_add_one,List.flatMap_append,List.getD_eq_getElem?_getD,List.getElem?_eq_getElem hj];simp
theorem ue{l:List Ev}(h:ql l):∀j,j<=l.length->(gM (l.take j)).length<=54*j
 | 0,_=>by simp[gM]
 | j+1,hj=>by
   rw[rM (by omega),List.length_append];have:=ue h j (by omega);have:=Lk (h.ok j (by omega));omega
theorem Hz(bs:List Bool)(l:List Ev)(h:ql l)(hb:bs.length<=800000) :
 bt prog 128 [.one (.ptr 0 0),gJ 2 l.length 3] [aP 1 bs,av bs,eK l] (.one (.int .i64 0)) [aP 3 (bs++gM l),.dead,eK l,av (bs++gM l)]:=by
 have hlen:=h.len;refine cO Tryz.func128 ?_
 repeat' (first|refine zz ?_|refine zx (fun _=>?_) (fun _=>?_)|fail)
 refine WX.cw (σ:=Nat) (fun j=>[(22,.one (.int .i64 (j:Nat))),(0,.one (.ptr 0 0)),(1,gJ 2 l.length 3),(20,gJ 2 l.length 3),(21,.one (.int .i64 (l.length:Nat)))]) (fun _=>[aP 1 bs,av bs,eK l]) (fun j=>j<=l.length) (fun j=>l.length-j) 0 (by omega) (fun s _=>ny) (bW [0,1,2]) ?_;intro j hj ih
 by_cases hjl:j<l.length
 ·have hok:=h.ok j hjl;have hlast:=h.last j hjl
  by_cases hl:j+1=l.length
  ·have hb2:(v9 (l.getD j default))[2]? = some (.bool true):=by
    show some (XC.bool (l.getD j default).2.2)=_;rw[hlast,decide_eq_true hl]
   repeat' (first
    |(refine qz ?_;first
     |refine Rf (enc:=v9) (j:=j) ?_
     |refine ld (hc:=hb2) ?_
     |refine cl ?_ (hi:=by exact sI hok rfl))
    |refine zz ?_|refine zx (fun _=>?_) (fun _=>?_)|fail)
   refine ih (j+1) _ _ _ (bW [0,1,2]) (by omega) (by omega)
  ·have hb2:(v9 (l.getD j default))[2]? = some (.bool false):=by
    show some (XC.bool (l.getD j default).2.2)=_;rw[hlast,decide_eq_false hl]
   repeat' (first
    |(refine qz ?_;first
     |refine Rf (enc:=v9) (j:=j) ?_
     |refine ld (hc:=hb2) ?_
     |refine cl ?_ (hi:=by exact sI hok rfl))
    |refine zz ?_|refine zx (fun _=>?_) (fun _=>?_)|fail)
   refine ih (j+1) _ _ _ (bW [0,1,2]) (by omega) (by omega)
 ·repeat' (first|refine zz ?_|refine zx (fun _=>?_) (fun _=>?_)|fail)
  refine WX.cw (σ:=Nat) (fun j=>[(43,.one (.int .i64 (j:Nat))),(0,.one (.ptr 0 0)),(41,gJ 2 l.length 3),(42,.one (.int .i64 (l.length:Nat)))]) (fun j=>[aP 3 (bs++gM (l.take j)),.dead,eK l,av (bs++gM (l.take j))]) (fun j=>j<=l.length) (fun j=>l.length-j) 0 (by omega) (fun s _=>ny) (bW [0,1,2,1] (obj:=by(repeat' (first|exact ae.nil|refine ae.flat (by rw[show gM (l.take 0) = []from rfl,List.append_nil];rfl) ?_|refine ae.iu (by rw[show gM (l.take 0) = []from rfl,List.append_nil];rfl) rfl rfl rfl ?_|refine oz ?_));first|done|fail)) ?_;intro j2 hj2 ih2
  by_cases hjl2:j2<l.length
  ·have hok:=h.ok j2 hjl2;have hlast:=h.last j2 hjl2;have e1:=hok.run;have e2:=hok.lev;have e3:=sK e2 hok.nz;have hB:=ue h j2 hj2;have hlB:(bs++gM (l.take j2)).length<=810000:=by rw[List.length_append];omega
   by_cases hl:j2+1=l.length
   ·have hb2:(v9 (l.getD j2 default))[2]? = some (.bool true):=by
     show some (XC.bool (l.getD j2 default).2.2)=_;rw[hlast,decide_eq_true hl]
    have hr:=i9 (2*(l.getD j2 default).1+1) (by omega)
    have eB:gM (l.take (j2+1))=gM (l.take j2)++(eT (2*(l.getD j2 default).1+1)++eT (b7 (l.getD j2 default).2.1-1)):=by
     rw[rM hjl2,Qh,hlast,decide_eq_true hl];rfl
    repeat' (first
     |(refine qz ?_;first
      |refine Rf (enc:=v9) (j:=j2) ?_
      |refine ld (hc:=hb2) ?_
      |refine cl ?_ (hi:=by exact r5 (by omega) rfl)
      |refine cl ?_ (hi:=by exact i_ (v:=2*(l.getD j2 default).1+1) (bs:=bs++gM (l.take j2)) (by omega) (by omega) rfl rfl (by decide) nL nA rfl)
      |refine cl ?_ (hi:=by exact i_ (v:=b7 (l.getD j2 default).2.1-1) (bs:=(bs++gM (l.take j2))++eT (2*(l.getD j2 default).1+1)) (by omega) (by rw[List.length_append];omega) rfl rfl (by decide) nL nA rfl))
     |refine zz ?_|refine zx (fun _=>?_) (fun _=>?_)|refine bp (by first|exact ag.nil|exact ag.one _|exact ag.my (by repeat' (first|exact True.intro|refine And.intro ?_ ?_|exact Compat.ne rfl|exact dE rfl))) ⟨by kernel_rfl,?_⟩|refine bp (by first|exact ag.nil|exact ag.one _|exact ag.my (by repeat' (first|exact True.intro|refine And.intro ?_ ?_|exact Compat.ne rfl|exact dE rfl))) ?_|fail)
    have hE:bs++gM (l.take (j2+1))=bs++gM (l.take j2)++eT (2*(l.getD j2 default).1+1)++eT (b7 (l.getD j2 default).2.1-1):=by rw[eB];simp only[List.append_assoc]
    refine ih2 (j2+1) _ _ _ (bW [0,1,2,6] (obj:=by(repeat' (first|exact ae.nil|refine ae.flat (by rw[hE];rfl) ?_|refine ae.iu (by rw[hE];rfl) rfl rfl rfl ?_|refine oz ?_));first|done|fail)) (by omega) (by omega)
   ·have hb2:(v9 (l.getD j2 default))[2]? = some (.bool false):=by
     show some (XC.bool (l.getD j2 default).2.2)=_;rw[hlast,decide_eq_false hl]
    have hr:=i9 (2*(l.getD j2 default).1) (by omega)
    have eB:gM (l.take (j2+1))=gM (l.take j2)++(eT (2*(l.getD j2 default).1)++eT (b7 (l.getD j2 default).2.1-1)):=by
     rw[rM hjl2,Qh,hlast,decide_eq_false hl,if_neg (by decide),Int.add_zero]
    repeat' (first
     |(refine qz ?_;first
      |refine Rf (enc:=v9) (j:=j2) ?_
      |refine ld (hc:=hb2) ?_
      |refine cl ?_ (hi:=by exact r5 (by omega) rfl)
      |refine cl ?_ (hi:=by exact i_ (v:=2*(l.getD j2 default).1) (bs:=bs++gM (l.take j2)) (by omega) (by omega) rfl rfl (by decide) nL nA rfl)
      |refine cl ?_ (hi:=by exact i_ (v:=b7 (l.getD j2 default).2.1-1) (bs:=(bs++gM (l.take j2))++eT (2*(l.getD j2 default).1)) (by omega) (by rw[List.length_append];omega) rfl rfl (by decide) nL nA rfl))
     |refine zz ?_|refine zx (fun _=>?_) (fun _=>?_)|refine bp (by first|exact ag.nil|exact ag.one _|exact ag.my (by repeat' (first|exact True.intro|refine And.intro ?_ ?_|exact Compat.ne rfl|exact dE rfl))) ⟨by kernel_rfl,?_⟩|refine bp (by first|exact ag.nil|exact ag.one _|exact ag.my (by repeat' (first|exact True.intro|refine And.intro ?_ ?_|exact Compat.ne rfl|exact dE rfl))) ?_|fail)
    have hE:bs++gM (l.take (j2+1))=bs++gM (l.take j2)++eT (2*(l.getD j2 default).1)++eT (b7 (l.getD j2 default).2.1-1):=by rw[eB];simp only[List.append_assoc]
    refine ih2 (j2+1) _ _ _ (bW [0,1,2,6] (obj:=by(repeat' (first|exact ae.nil|refine ae.flat (by rw[hE];rfl) ?_|refine ae.iu (by rw[hE];rfl) rfl rfl rfl ?_|refine oz ?_));first|done|fail)) (by omega) (by omega)
  ·have hT:l.take j2=l:=List.take_of_length_le (by omega);rw[hT]
   repeat' (first|refine zz ?_|refine zx (fun _=>?_) (fun _=>?_)|fail)
   show aE _ _ _ _ _ _ _ _;refine kV [0,1,2,3] ?_;rfl
theorem O2(a b:List XC)(e e' e2 e3:TypeId)(cs ds fs:List XC):gN [.cells a e false false,bU e' cs,bU e3 fs] [.cells b e false false,.dead,bU e3 fs,bU e2 ds]=true:=by
 cases cs<;>cases ds<;>cases fs<;>simp[gN,ak.live,ak.own,bU]
theorem Le{bs:List Bool}{l:List Ev}(h:ql l)(hb:bs.length<=800000){HS:aj}{i k q:Nat}(hi:HS[i]? = some (aP k bs))(hk:HS[k]? = some (av bs))(hq:HS[q]? = some (eK l))(hd : [i,k,q].Nodup){N:Nat}(hN:HS.length=N){HS':aj}(hh:bJ HS [i,k] [aP N (bs++gM l),.dead,av (bs++gM l)]=HS')(hbd:Nat.blt HS'.length Mem.bound=true) :
 aA.Sound prog ⟨128,[.one (.ptr i 0),gJ q l.length 3],HS,.one (.int .i64 0),HS',[i,k]⟩:=by
 subst hN
 have hh':bJ HS [i,k,q] [aP HS.length (bs++gM l),.dead,eK l,av (bs++gM l)]=HS':=by
  subst hh;simp only[List.nodup_cons,List.mem_cons,List.not_mem_nil,or_false,not_or]at hd;simp only[bJ];rw[aG (i:=q) (by rw[List.getElem?_set_ne hd.2.1,List.getElem?_set_ne hd.1.2];exact hq)]
 refine bI [i,k,q] [i,k] 1 (Hz bs l h hb) hd ?_ ?_ ?_ rfl (.cons (by simp[XV.bK,XC.ok]) (.cons (jL (Nat.le_of_ble_eq_true rfl)) .nil)) (.cons rfl (.cons (fV ..) .nil)) (b8.ok _) (b8.aC _) ?_ (O2 ..) rfl hh' hbd (.inr fun j hjl hj=>?_)
 ·exact ae.iu hi rfl rfl rfl (.flat hk (.flat hq .nil))
 ·exact .cons (by simp[ak.bK,XC.ok,aK]) (.flat (.flat .nil))
 ·exact .cons (by simp[ak.bK,XC.ok,aK]) (.flat (.flat (.flat .nil)))
 ·exact .cons (by simp only[ak.aC,List.map_cons,List.map_nil,XC.aC,aV];rfl) (.flat (.flat (.flat .nil)))
 ·subst hh;exact l_ _ _ _ _ hjl (by simpa using hj)
structure cH where
 id:Int
 inter:Bool
 down:Bool
 hqp:Int
 qp:Int
 cols:Int
 rows:Int
 M:jH
 A:nF
 B:nF
 C:nF
abbrev jB(S:cH):ak := .cells [.ptr 3 0,.int .i64 S.id,.bool S.inter,.bool S.down,.int .i64 S.hqp,.int .i64 S.qp,.ptr 16 0,.ptr 18 0] 157 false false
abbrev iT(S:cH):aj:=[jB S,fc 4 8 12,aX 5 6 7 cM,db cM,df cM,dc cM,aX 9 10 11 cZ,db cZ,df cZ,dc cZ,aX 13 14 15 cP,db cP,df cP,dc cP,
 fD 17 S.cols S.rows,.map (cE S.M),.cells [.int .i64 S.cols,.int .i64 S.rows,.map 19,.map 20,.map 21] 220 false false,.map (au S.A),.map (au S.B),.map (au S.C)]
instance MP (M:nF):cA (.map (au M)):=Ae (fun _=>rfl) (fun b=>show X1.shut (.agg (dv b))=true from bl b) M
abbrev dw:List Nat:=[2,3,4,5,6,7,8,9,10,11,12,13,14,15,16,17,18,19,20,21]
theorem ot(S:cH)(n:Nat)(h:22<=n){l:aj}(hl:ax n l):ax n (iT S++l):=by
 have k:∀j,j<22->j<n:=fun j hj=>by omega
 refine .cons ?_ (.cons ?_ (.cons ?_ (.flat (.flat (.flat (.cons ?_ (.flat (.flat (.flat (.cons ?_ (.flat (.flat (.flat (.cons ?_ (.flat (.cons ?_ (.flat (.flat (.flat hl)))))))))))))))))))
 all_goals simp[ak.bK,XC.ok];omega
theorem yN(S:cH){τ : Nat->Nat}(h:∀j,2<=j->j<22 -> τ j=j){l l':aj}(hl:d9 τ l l'):d9 τ (iT S++l) (iT S++l'):=by
 have h3:=h 3 (by omega) (by omega);have h4:=h 4 (by omega) (by omega);have h5:=h 5 (by omega) (by omega);have h6:=h 6 (by omega) (by omega);have h7:=h 7 (by omega) (by omega);have h8:=h 8 (by omega) (by omega);have h9:=h 9 (by omega) (by omega);have h10:=h 10 (by omega) (by omega);have h11:=h 11 (by omega) (by omega);have h12:=h 12 (by omega) (by omega);have h13:=h 13 (by omega) (by omega);have h14:=h 14 (by omega) (by omega);have h15:=h 15 (by omega) (by omega);have h16:=h 16 (by omega) (by omega);have h17:=h 17 (by omega) (by omega);have h18:=h 18 (by omega) (by omega);have h19:=h 19 (by omega) (by omega);have h20:=h 20 (by omega) (by omega);have h21:=h 21 (by omega) (by omega);refine .cons ?_ (.cons ?_ (.cons ?_ (.flat (.flat (.flat (.cons ?_ (.flat (.flat (.flat (.cons ?_ (.flat (.flat (.flat (.cons ?_ (.flat (.cons ?_ (.flat (.flat (.flat hl)))))))))))))))))))
 all_goals simp only[ak.aC,List.map_cons,List.map_nil,XC.aC, *]
theorem yO(S:cH){τ : Nat->Nat}{HS:aj}(h:∀j,2<=j->j<22 -> τ j=j)(hS:(HS.drop 2).take 20=iT S){ls:List Nat}{l:aj}(hl:ae τ HS ls l):ae τ HS (dw++ls) (iT S++l):=by
 have g:∀j,j<20->HS[j+2]? = (iT S)[j]?:=fun j hj=>by
  rw[<-hS,List.getElem?_take,if_pos hj,List.getElem?_drop]
  congr 1
  omega
 have h3:=h 3 (by omega) (by omega);have h4:=h 4 (by omega) (by omega);have h5:=h 5 (by omega) (by omega);have h6:=h 6 (by omega) (by omega);have h7:=h 7 (by omega) (by omega);have h8:=h 8 (by omega) (by omega);have h9:=h 9 (by omega) (by omega);have h10:=h 10 (by omega) (by omega);have h11:=h 11 (by omega) (by omega);have h12:=h 12 (by omega) (by omega);have h13:=h 13 (by omega) (by omega);have h14:=h 14 (by omega) (by omega);have h15:=h 15 (by omega) (by omega);have h16:=h 16 (by omega) (by omega);have h17:=h 17 (by omega) (by omega);have h18:=h 18 (by omega) (by omega);have h19:=h 19 (by omega) (by omega);have h20:=h 20 (by omega) (by omega);have h21:=h 21 (by omega) (by omega);refine .cons ?_ (.cons ?_ (.cons ?_ (.flat (g 3 (by omega)) (.flat (g 4 (by omega)) (.flat (g 5 (by omega)) (.cons ?_ (.flat (g 7 (by omega)) (.flat (g 8 (by omega)) (.flat (g 9 (by omega)) (.cons ?_ (.flat (g 11 (by omega)) (.flat (g 12 (by omega)) (.flat (g 13 (by omega)) (.cons ?_ (.flat (g 15 (by omega)) (.cons ?_ (.flat (g 17 (by omega)) (.flat (g 18 (by omega)) (.flat (g 19 (by omega)) hl)))))))))))))))))))
 ·rw[g 0 (by omega)];simp only[ak.aC,List.map_cons,List.map_nil,XC.aC, *];rfl
 ·rw[g 1 (by omega)];simp only[ak.aC,List.map_cons,List.map_nil,XC.aC, *];rfl
 ·rw[g 2 (by omega)];simp only[ak.aC,List.map_cons,List.map_nil,XC.aC, *];rfl
 ·rw[g 6 (by omega)];simp only[ak.aC,List.map_cons,List.map_nil,XC.aC, *];rfl
 ·rw[g 10 (by omega)];simp only[ak.aC,List.map_cons,List.map_nil,XC.aC, *];rfl
 ·rw[g 14 (by omega)];simp only[ak.aC,List.map_cons,List.map_nil,XC.aC, *];rfl
 ·rw[g 16 (by omega)];simp only[ak.aC,List.map_cons,List.map_nil,XC.aC, *];rfl
theorem Mq(a b:List XC)(e e' e2:TypeId)(cs ds:List XC)(S S':cH):gN (.cells a e false false::bU e' cs::iT S) (.cells b e false false :: .dead::(iT S'++[bU e2 ds]))=true:=by
 cases cs<;>cases ds<;>simp[gN,ak.live,ak.own,bU]
theorem NO{f:FuncId}{more:List XV}(hm:∀τ,e9 τ more more)(hmo:gW 22 more){v:XV}[b8 v]{bs bs':List Bool}{S S':cH}(hc:bt prog f (.one (.ptr 2 0) :: .one (.ptr 0 0)::more) (aP 1 bs::av bs::iT S) v (aP 22 bs' :: .dead::(iT S'++[av bs'])))
 {HS:aj} {k:Nat}(hi:HS[0]? = some (aP k bs)) (hk:HS[k]? = some (av bs)) (hS:(HS.drop 2).take 20=iT S) (hd:(k==1||Nat.ble 22 k)=true) {N:Nat}(hN:HS.length=N) {HS':aj}(hh:bJ HS (0::k::dw) (aP N bs' :: .dead::(iT S'++[av bs']))=HS') (hbd:Nat.blt HS'.length Mem.bound=true) :
 aA.Sound prog ⟨f,.one (.ptr 2 0) :: .one (.ptr 0 0)::more,HS,v,HS',0::k::dw⟩:=by
 subst hN;have hkk:k=1\/22<=k:=by simpa [Nat.ble_eq]using hd
 have h0:0∉dw:=by decide
 have hk':k∉dw:=by
  intro h;simp only[dw,List.mem_cons,List.not_mem_nil,or_false]at h;omega
 have nd:(0::k::dw).Nodup:=List.nodup_cons.2 ⟨fun h=>(List.mem_cons.1 h).elim (fun e=>by omega) h0,List.nodup_cons.2 ⟨hk',by decide⟩⟩;have hq:∀q:Fin 20,dw[q.val]? = some (q.val+2):=by decide
 have ht:∀j,2<=j->j<22->nth (0::k::dw) j=j:=fun j h1 h2=>by
  obtain⟨q,rfl⟩:∃q,j=q+2:=⟨j-2,by omega⟩
  have:=hq ⟨q,by omega⟩;unfold nth;rw[List.getD_eq_getElem?_getD];simp only[List.getElem?_cons_succ];rw[this];rfl
 have ht':∀j,2<=j->j<22->nth ((0::k::dw)++List.range' HS.length 1) j=j:=fun j h1 h2=>by
  obtain⟨q,rfl⟩:∃q,j=q+2:=⟨j-2,by omega⟩
  have:=hq ⟨q,by omega⟩;unfold nth;rw[List.getD_eq_getElem?_getD];show((dw++List.range' HS.length 1)[q]?).getD 0=q+2;rw[List.getElem?_append_left (show q<dw.length by show q<20;omega),this];rfl
 have hv:=yO S ht hS (ls:=[]) .nil;rw[List.append_nil,List.append_nil]at hv;have ho:=ot S 22 (Nat.le_refl _) (l:=[]) .nil;rw[List.append_nil]at ho;refine bI (0::k::dw) (0::k::dw) 1 hc nd (ae.iu hi rfl rfl rfl (.flat hk hv)) (.cons (by simp[ak.bK,XC.ok,aK]) (.flat ho)) (.cons (by simp[ak.bK,XC.ok,aK]) (.flat (ot S' 23 (by omega) (.flat .nil)))) rfl (.cons (by show 2<22;omega) (.cons (by show 0<22;omega) hmo)) (.cons rfl (.cons rfl (hm _))) (b8.ok _) (b8.aC _) ?_ (Mq ..) rfl hh hbd (.inl rfl);exact .cons (by simp only[ak.aC,List.map_cons,List.map_nil,XC.aC,aV];rfl) (.flat (yN S' ht' (.flat .nil)))
def dK(n:Int):Nat:=bitLen (max n (-n)).toNat
def fQ(n:Int):List Bool:=jn cZ (dK n)++aJ (if n<0 then n+(1*2^dK n-1)else n) (dK n)
theorem FD(n:Nat):n<2^bitLen n:=by
 unfold bitLen;split
 ·rename_i h;rw[h];decide
 ·exact Nat.lt_log2_self
theorem j9{C:Cd}(hC:BK C)(n:Nat):(jn C n).length<=64:=by
 unfold jn;have:=hC.sz n;have h:∀(x:Int) (k:Nat),(aJ x k).length=k:=fun x k=>aR x k
 rw[h];omega
theorem zH{n:Int}(h : -4000<=n/\n<=4000):dK n<=12:=rG (by omega)
theorem HN(bs:List Bool)(S:cH)(n:Int)(hn : -4000<=n/\n<=4000)(hb:bs.length<=800000) :
 bt prog 122 [.one (.ptr 2 0),.one (.ptr 0 0),.one (.int .i64 n)] [aP 1 bs,av bs,jB (S),fc 4 8 12,aX 5 6 7 cM,db cM,df cM,dc cM,aX 9 10 11 cZ,db cZ,df cZ,dc cZ,aX 13 14 15 cP,db cP,df cP,dc cP,fD 17 (S).cols (S).rows,.map (cE (S).M),.cells [.int .i64 (S).cols,.int .i64 (S).rows,.map 19,.map 20,.map 21] 220 false false,.map (au (S).A),.map (au (S).B),.map (au (S).C)] (.tup []) [aP 22 (bs++fQ n),.dead,jB (S),fc 4 8 12,aX 5 6 7 cM,db cM,df cM,dc cM,aX 9 10 11 cZ,db cZ,df cZ,dc cZ,aX 13 14 15 cP,db cP,df cP,dc cP,fD 17 (S).cols (S).rows,.map (cE (S).M),.cells [.int .i64 (S).cols,.int .i64 (S).rows,.map 19,.map 20,.map 21] 220 false false,.map (au (S).A),.map (au (S).B),.map (au (S).C),av (bs++fQ n)]:=by
 have hm:max n (0-n)=max n (-n):=by rw[Int.zero_sub]
 have hl:=zH hn;have hlt:=FD (max n (-n)).toNat;have hl2:qK (max n (0-n)).toNat=(dK n:Nat):=by rw[hm];rfl
 have hc:=j9 DL (dK n)
 have hpow:(2:Int)^dK n<=4096:=by
  have:=Nat.pow_le_pow_right (show 0<2 by decide) hl;have h2:((2^dK n:Nat):Int)<=((2^12:Nat):Int):=Int.ofNat_le.2 this;rw[Int.natCast_pow]at h2;exact h2
 have hpl : -n<(2:Int)^dK n/\n<(2:Int)^dK n:=by
  have h2:(((max n (-n)).toNat:Nat):Int)<((2^dK n:Nat):Int):=Int.ofNat_lt.2 hlt;rw[Int.natCast_pow]at h2;have h3:((2:Nat):Int)^dK n=(2:Int)^dK n:=rfl;rw[h3]at h2;omega
 have h1:(1:Int)*2^dK n=2^dK n:=Int.one_mul _;have e0:bs++fQ n=(bs++jn cZ (dK n))++aJ (if n<0 then n+(1*2^dK n-1)else n) (dK n):=by rw[fQ,List.append_assoc]
 rw[e0];refine cO Tryz.func122 ?_
 by_cases h0:n<0
 ·rw[if_pos h0]
  repeat' (first
   |(refine qz ?_;first
    |refine R8 ?_
    |refine cl (v := .one (.int .i64 (dK n:Nat))) ?_ (hi:=by rw[<-hl2];exact Cl (by omega) rfl)
    |refine cl ?_ (hi:=by exact qs (C:=cZ) DL (n:=dK n) rfl (by show dK n<13;omega) (bs:=bs) (by omega) rfl rfl rfl rfl rfl rfl (by decide) nL nA rfl)
    |refine JO (n:=dK n) ?_ (h:=⟨by show dK n<=64;omega,by show _/\_;omega⟩)
    |refine cl ?_ (hi:=by exact fq (n:=n+(1*2^dK n-1)) (size:=dK n) rfl (bs:=bs++jn cZ (dK n)) (by omega) (by omega) (by rw[List.length_append];omega) rfl rfl (by decide) nL nA rfl))
   |refine zz ?_|refine zx (fun _=>?_) (fun _=>?_)|fail)
  show aE _ _ _ _ _ _ _ _;refine kV [0,1,2,3,4,5,6,7,8,9,10,11,12,13,14,15,16,17,18,19,20,21,23] ?_;rfl
 ·rw[if_neg h0]
  repeat' (first
   |(refine qz ?_;first
    |refine R8 ?_
    |refine cl (v := .one (.int .i64 (dK n:Nat))) ?_ (hi:=by rw[<-hl2];exact Cl (by omega) rfl)
    |refine cl ?_ (hi:=by exact qs (C:=cZ) DL (n:=dK n) rfl (by show dK n<13;omega) (bs:=bs) (by omega) rfl rfl rfl rfl rfl rfl (by decide) nL nA rfl)
    |refine cl ?_ (hi:=by exact fq (n:=n) (size:=dK n) rfl (bs:=bs++jn cZ (dK n)) (by omega) (by omega) (by rw[List.length_append];omega) rfl rfl (by decide) nL nA rfl))
   |refine zz ?_|refine zx (fun _=>?_) (fun _=>?_)|fail)
  show aE _ _ _ _ _ _ _ _;refine kV [0,1,2,3,4,5,6,7,8,9,10,11,12,13,14,15,16,17,18,19,20,21,23] ?_;rfl
theorem Fg{n:Int}(h : -4000<=n/\n<=4000):(fQ n).length<=76:=by
 unfold fQ;have:=j9 DL (dK n);have:=zH h;rw[List.length_append,aR];omega
theorem Lj{bs:List Bool}{S:cH}{n:Int}(hn : -4000<=n/\n<=4000)(hb:bs.length<=800000){HS:aj}{k:Nat}(hi:HS[0]? = some (aP k bs))(hk:HS[k]? = some (av bs))(hS:(HS.drop 2).take 20=iT S)(hd:(k==1||Nat.ble 22 k)=true){N:Nat}(hN:HS.length=N){HS':aj}(hh:bJ HS (0::k::dw) (aP N (bs++fQ n) :: .dead::(iT S++[av (bs++fQ n)]))=HS')(hbd:Nat.blt HS'.length Mem.bound=true) :
 aA.Sound prog ⟨122,[.one (.ptr 2 0),.one (.ptr 0 0),.one (.int .i64 n)],HS,.tup [],HS',0::k::dw⟩:=
 NO (fun _ => .flat .nil) (.flat .nil) (HN bs S n hn hb) hi hk hS hd hN hh hbd
def kG(B:List Bool):Nat->Int->Nat×Bool->Int×(Nat×Bool)
 | 0,x,r=>(x,r)
 | n+1,x,r=>kG B n (2*x+b2 (fI B r)) (ch B r)
def bX(B:List Bool)(n:Nat)(r:Nat×Bool):Int×(Nat×Bool):=(if(kG B n 0 r).2.2=true then 0 else(kG B n 0 r).1,(kG B n 0 r).2)
theorem Jg{j:Nat}(h:j<=32):(2:Int)^j<=4294967296:=by
 have h1:=Nat.pow_le_pow_right (show 0<2 by decide) h;have h2:((2^j:Nat):Int)<=((2^32:Nat):Int):=Int.ofNat_le.2 h1;rw[Int.natCast_pow]at h2;exact h2
theorem F5{L:List Int}{B:List Bool}(h:e_ L B)(r:Nat×Bool)(n:Nat)(hn:n<=32) :
 bt prog 69 [.one (.ptr 0 0),.one (.int .i64 (n:Nat))] (RH L B r.1 r.2) (.one (.int .u64 (bX B n r).1)) (RH L B (bX B n r).2.1 (bX B n r).2.2):=by
 obtain⟨q,hq⟩:∃q,kG B n 0 r=q:=⟨_,rfl⟩
 unfold bX;rw[hq];refine cO Tryz.func69 ?_
 repeat' (first|refine zz ?_|refine zx (fun _=>?_) (fun _=>?_)|fail)
 refine WX.cw (σ:=Nat×Int×(Nat×Bool)) (fun s=>[(8,.one (.int .i64 (s.1:Nat))),(5,.one (.int .u64 s.2.1)),(0,.one (.ptr 0 0)),(7,.one (.int .i64 (n:Nat)))]) (fun s=>RH L B s.2.2.1 s.2.2.2) (fun s=>s.1<=n/\0<=s.2.1/\s.2.1<2^s.1/\kG B (n-s.1) s.2.1 s.2.2=q) (fun s=>n-s.1) (0,0,r) ⟨by show 0<=n;omega,by show(0:Int)<=0;omega,by show(0:Int)<2^0;decide,by show kG B (n-0) 0 r=q;rw[Nat.sub_zero];exact hq⟩ (fun s _=>ny) (bW [0,1]) ?_;intro s ⟨h1,h2,h3,h4⟩ ih;have hp:=Jg (j:=s.1) (by omega)
 by_cases hlt:s.1<n
 ·have hb:=QL (fI B s.2.2);have hio:sB .u64 (s.2.1*2^1) (b2 (fI B s.2.2))=2*s.2.1+b2 (fI B s.2.2):=Ik .u64 rfl h2 (by omega) hb (fun y g0 g1=>f6 (k := .u64) ⟨by show 0<=y;omega,by show y<18446744073709551616;omega⟩)
  obtain⟨k,hk⟩:∃k,n-s.1=k+1:=⟨n-s.1-1,by omega⟩
  rw[hk,kG]at h4
  repeat' (first
   |(refine qz ?_;first
    |refine JO (n:=1) ?_
    |refine cl ?_ (hi:=by exact tx h s.2.2 rfl rfl rfl (by decide) nL rfl))
   |refine zz ?_|refine zx (fun _=>?_) (fun _=>?_)|fail)
  refine ih (s.1+1,2*s.2.1+b2 (fI B s.2.2),ch B s.2.2) _ _ _ (bW [0,1] (reg:=by(repeat' (first|exact ai.nil|refine ai.flat (by rw[<-hio];rfl) ?_|refine rz ?_|refine ai.sl rfl (by assumption) rfl ?_));first|done|fail)) ⟨by show s.1+1<=n;omega,by show 0<=2*s.2.1+b2 (fI B s.2.2);omega,?_,?_⟩ (by show n-(s.1+1)<n-s.1;omega)
  ·show 2*s.2.1+b2 (fI B s.2.2)<2^(s.1+1);rw[Int.pow_succ];omega
  ·show kG B (n-(s.1+1)) (2*s.2.1+b2 (fI B s.2.2)) (ch B s.2.2)=q;rw[show n-(s.1+1)=k by omega];exact h4
 ·have e0:n-s.1=0:=by omega
  rw[e0,kG]at h4;subst h4
  repeat' (first
   |(refine qz ?_;first
    |refine B0 (fun ge=>?_) (fun ge=>?_) (hi:=by exact xz rfl rfl (by decide) rfl))
   |refine zz ?_|refine zx (fun _=>?_) (fun _=>?_)|fail)
  ·rw[if_pos ge];show aE _ _ _ _ _ _ _ _;refine kV [0,1] ?_;rfl
  ·rw[if_neg (by rw[ge];decide)];show aE _ _ _ _ _ _ _ _;refine kV [0,1] ?_;rfl
theorem Js{L:List Int}{B:List Bool}(h:e_ L B)(r:Nat×Bool){n:Nat}{z:Int}(hz:z=(n:Nat))(hn:n<=32){HS:aj}{i k:Nat}(hi:HS[i]? = some (gF k L B r.1 r.2))(hk:HS[k]? = some (dT L))(hd:i≠k){HS':aj}(hh:HS.set i (gF k L B (bX B n r).2.1 (bX B n r).2.2)=HS')(hbd:Nat.blt HS'.length Mem.bound=true) :
 aA.Sound prog ⟨69,[.one (.ptr i 0),.one (.int .i64 z)],HS,.one (.int .u64 (bX B n r).1),HS',[i]⟩:=by
 subst hz;exact F4 (fun _ => .flat .nil) (.flat .nil) (F5 h r n hn) hi hk hd hh hbd
theorem xx(n:Int):∀(k:Nat) (x:Int) (pre rest:List Bool),kG (pre++(aJ n k++rest)) k x (pre.length,false)=(x*2^k+n%2^k,(pre.length+k,false))
 | 0,x,pre,rest=>by simp[kG]
 | k + 1,x,pre,rest=>by
   rw[kG,aJ];obtain⟨a1,a2⟩:=O0 pre (decide (n/2^k%2=1)) (aJ n k++rest);rw[List.cons_append,a1,a2];have e1:pre++(decide (n/2^k%2=1)::(aJ n k++rest))=(pre++[decide (n/2^k%2=1)])++(aJ n k++rest):=by simp
   have e2:(pre.length+1,false)=((pre++[decide (n/2^k%2=1)]).length,false):=by simp
   rw[e1,e2,xx n k];have h2:(0:Int)<2^k:=Int.pow_pos (by decide)
   have hm:n%2^(k+1)=(n/2^k%2)*2^k+n%2^k:=by
    rw[Int.pow_succ];have h3:=Int.emod_add_mul_ediv n (2^k);have h4:=Int.emod_add_mul_ediv (n/2^k) 2;have h5:=Int.emod_nonneg n (show(2:Int)^k≠0 by omega);have h6:=Int.emod_lt_of_pos n h2;have h7:0<=n/2^k%2/\n/2^k%2<=1:=by omega
    have h8:n=(2^k*2)*(n/2^k/2)+((n/2^k%2)*2^k+n%2^k):=by
     have:2^k*(n/2^k)=2^k*(n/2^k%2)+2^k*(2*(n/2^k/2)):=by rw[<-Int.mul_add,h4]
     have e:2^k*(2*(n/2^k/2))=(2^k*2)*(n/2^k/2):=by rw[Int.mul_assoc]
     have e':2^k*(n/2^k%2)=(n/2^k%2)*2^k:=Int.mul_comm _ _;omega
    have h9:0<=(n/2^k%2)*2^k+n%2^k/\(n/2^k%2)*2^k+n%2^k<2^k*2:=by
     rcases(show n/2^k%2=0\/n/2^k%2=1 by omega)with e|e<;>rw[e]<;>omega
    have h10:=Int.emod_eq_of_lt h9.1 h9.2;rw[<-h10]
    conv=>lhs;rw[h8,Int.add_comm,Int.add_mul_emod_self_left]
   have hb:b2 (decide (n/2^k%2=1))=n/2^k%2:=by
    unfold b2
    by_cases h:n/2^k%2=1
    ·rw[decide_eq_true h,h];rfl
    ·rw[decide_eq_false h];have:n/2^k%2=0:=by omega
     rw[this];rfl
   rw[hb,hm];refine Prod.ext ?_ ?_
   ·show(2*x+n/2^k%2)*2^k+n%2^k=x*2^(k+1)+(n/2^k%2*2^k+n%2^k);rw[Int.pow_succ,Int.add_mul];have:2*x*2^k=x*(2^k*2):=by rw[Int.mul_comm 2 x,Int.mul_assoc,Int.mul_comm 2 (2^k)]
    omega
   ·show((pre++[_]).length+k,false)=(pre.length+(k+1),false);simp;omega
theorem E6{n:Int}{k:Nat}(hn:0<=n/\n<2^k)(pre rest:List Bool):bX (pre++(aJ n k++rest)) k (pre.length,false)=(n,(pre.length+k,false)):=by
 unfold bX;rw[xx];simp only[Bool.false_eq_true,if_false,Int.zero_mul,Int.zero_add,Int.emod_eq_of_lt hn.1 hn.2]
structure lE(h:Hd):Prop where
 dims:lU h.cols h.rows
 yes:h.w=true->∀i,i<64->8<=h.a i/\8<=h.b i
 no:h.w=false->∀i,i<64->h.a i=0/\h.b i=0
theorem CX(h:Hd)(ho:lE h):bt prog 79 [.agg (dY h)] [] (.one (.int .i64 0)) []:=by
 obtain⟨w,hw⟩:∃w,h.w=w:=⟨_,rfl⟩
 have h0:(dY h)[0]? = some (.bool w):=by rw[<-hw];rfl
 refine cO Tryz.func79 ?_
 repeat' (first|refine zz ?_|refine zx (fun _=>?_) (fun _=>?_)|fail)
 refine WX.cw (σ:=Nat) (fun j=>[(4,.one (.int .i64 (j:Nat))),(1,.one (.ptr 0 0))]) (fun _=>[.cells (dY h) 24 false false]) (fun j=>j<=64) (fun j=>64-j) 0 (by omega) (fun s _=>ny) (bW [0]) ?_;intro j hj ih
 by_cases hj64:j<64
 ·have ga:=JX h hj64;have gb:=JY h hj64;cases w
  ·have hn:=ho.no hw j hj64
   repeat' (first
    |(refine qz ?_;first
     |refine ld (hc:=h0) ?_
     |refine ld (hc:=ga) ?_
     |refine ld (hc:=gb) ?_)
    |refine zz ?_|refine zx (fun _=>?_) (fun _=>?_)|fail)
   refine ih (j+1) _ _ _ (bW [0]) (by omega) (by omega)
  ·have hn:=ho.yes hw j hj64
   repeat' (first
    |(refine qz ?_;first
     |refine ld (hc:=h0) ?_
     |refine ld (hc:=ga) ?_
     |refine ld (hc:=gb) ?_)
    |refine zz ?_|refine zx (fun _=>?_) (fun _=>?_)|fail)
   refine ih (j+1) _ _ _ (bW [0]) (by omega) (by omega)
 ·repeat' (first|refine zz ?_|refine zx (fun _=>?_) (fun _=>?_)|fail)
  show aE _ _ _ _ _ _ _ _;refine kV [] ?_;rfl
theorem GB{h:Hd}(ho:lE h){HS:aj}(hb:Nat.blt HS.length Mem.bound=true):aA.Sound prog ⟨79,[.agg (dY h)],HS,.one (.int .i64 0),HS,[]⟩:=
 az (CX h ho) (by simp only[List.all_cons,List.all_nil,Bool.and_true];exact oZ h) rfl hb
theorem Cf(h:Hd)(ho:lE h):bt prog 45 [.agg (b9 h)] [] (.one (.int .i64 0)) []:=by
 have h1:=ho.dims.c0;have h2:=ho.dims.c1;have h3:=ho.dims.r0;have h4:=ho.dims.r1;refine cO Tryz.func45 ?_
 repeat' (first
  |(refine qz ?_;first
   |refine qI (cs:=dY h) ?_ (hle:=by rw[aF];decide) (hc:=DU h)
   |refine cl ?_ (hi:=by exact GB ho rfl))
  |refine zz ?_|refine zx (fun _=>?_) (fun _=>?_)|fail)
 show aE _ _ _ _ _ _ _ _;refine kV [] ?_;rfl
theorem j_{h:Hd}(ho:lE h){HS:aj}(hb:Nat.blt HS.length Mem.bound=true):aA.Sound prog ⟨45,[.agg (b9 h)],HS,.one (.int .i64 0),HS,[]⟩:=
 az (Cf h ho) (by simp only[List.all_cons,List.all_nil,Bool.and_true];exact cW h) rfl hb
structure Ph where
 id:Int
 inter:Bool
 down:Bool
 qp:Int
def tu(p:Ph):List XC:=[.int .i64 p.id,.bool p.inter,.bool p.down,.int .i64 p.qp]
structure pK(p:Ph):Prop where
 id:0<=p.id/\p.id<=65535
 qp:1<=p.qp/\p.qp<=31
 down:p.down=true->p.inter=true
instance R3 (p:Ph):b8 (.agg (tu p)):=eL rfl
theorem Cy(p:Ph)(ho:pK p):bt prog 56 [.agg (tu p)] [] (.one (.int .i64 0)) []:=by
 have h1:=ho.id;have h2:=ho.qp
 obtain⟨d,hd⟩:∃d,p.down=d:=⟨_,rfl⟩
 have hl:(tu p)[2]? = some (.bool d):=by rw[<-hd];rfl
 cases d
 ·refine cO Tryz.func56 ?_
  repeat' (first
   |(refine qz ?_;first
    |refine ld (hc:=hl) ?_)
   |refine zz ?_|refine zx (fun _=>?_) (fun _=>?_)|fail)
  show aE _ _ _ _ _ _ _ _;refine kV [] ?_;rfl
 ·have hi:=ho.down hd;have hl2:(tu p)[1]? = some (.bool true):=by rw[<-hi];rfl
  refine cO Tryz.func56 ?_
  repeat' (first
   |(refine qz ?_;first
    |refine ld (hc:=hl) ?_
    |refine ld (hc:=hl2) ?_)
   |refine zz ?_|refine zx (fun _=>?_) (fun _=>?_)|fail)
  show aE _ _ _ _ _ _ _ _;refine kV [] ?_;rfl
theorem kb{p:Ph}(ho:pK p){HS:aj}(hb:Nat.blt HS.length Mem.bound=true):aA.Sound prog ⟨56,[.agg (tu p)],HS,.one (.int .i64 0),HS,[]⟩:=
 az (Cy p ho) rfl rfl hb
theorem MV{cols rows:Int}(h:lU cols rows){HS:aj}{N:Nat}(hN:HS.length=N){HS':aj}(hh:HS++[fD (N+1) cols rows,.map (cE [])]=HS')(hbd:Nat.blt HS'.length Mem.bound=true) :
 aA.Sound prog ⟨83,[.one (.int .i64 cols),.one (.int .i64 rows)],HS,.one (.ptr N 0),HS',[]⟩:=by
 subst hN;refine bI (os:=[fD (HS.length+1) cols rows,.map (cE [])]) [] [] 2 (Km cols rows h) (by simp) .nil .nil ?_ rfl (.flat (.flat .nil)) (.flat (.flat .nil)) (by show 0<2;omega) rfl ?_ rfl rfl hh hbd (.inl rfl)
 ·exact .cons (by simp[ak.bK,XC.ok]) (.flat .nil)
 ·exact .cons rfl (.flat .nil)
abbrev Hu(h:Hd)(p:Ph):aj:=[.cells [.ptr 0 0,.int .i64 p.id,.bool p.inter,.bool p.down,.int .i64 p.qp,.int .i64 p.qp,.ptr 14 0,.ptr 16 0] 157 false false,fD 15 h.cols h.rows,.map (cE []),.cells [.int .i64 h.cols,.int .i64 h.rows,.map 17,.map 18,.map 19] 220 false false,.map (au []),.map (au []),.map (au [])]
theorem E5(h:Hd)(p:Ph)(ho:lE h):bt prog 61 [.one (.ptr 0 0),.agg (b9 h),.agg (tu p)] [fc 1 5 9,aX 2 3 4 cM,db cM,df cM,dc cM,aX 6 7 8 cZ,db cZ,df cZ,dc cZ,aX 10 11 12 cP,db cP,df cP,dc cP] (.one (.ptr 13 0)) ([fc 1 5 9,aX 2 3 4 cM,db cM,df cM,dc cM,aX 6 7 8 cZ,db cZ,df cZ,dc cZ,aX 10 11 12 cP,db cP,df cP,dc cP]++Hu h p):=by
 have h1:=ho.dims.c0;have h2:=ho.dims.c1;have h3:=ho.dims.r0;have h4:=ho.dims.r1;refine cO Tryz.func61 ?_
 repeat' (first
  |(refine qz ?_;first
   |refine jI ?_ (hle:=by rfl)
   |refine cl ?_ (hi:=by exact MV (cols:=h.cols) (rows:=h.rows) ho.dims nL (by first|(simp only[List.cons_append,List.nil_append];exact rfl)|exact rfl) rfl)
   |refine cl ?_ (hi:=by exact Ii (cols:=h.cols) (rows:=h.rows) (by omega) (by omega) nL (by first|(simp only[List.cons_append,List.nil_append];exact rfl)|exact rfl) rfl))
  |refine zz ?_|refine zx (fun _=>?_) (fun _=>?_)|fail)
 show aE _ _ _ _ _ _ _ _;refine kV [0,1,2,3,4,5,6,7,8,9,10,11,12,21,15,16,17,18,19,20] ?_;rfl
def lf(B:List Bool):Nat->Nat->Int->Int
 | _,0,x=>x
 | r,n+1,x=>lf B (r+1) n (2*x+b2 (B.getD r false))
theorem xy(B:List Bool):∀(n r:Nat) (x:Int),r+n<=B.length->kG B n x (r,false)=(lf B r n x,(r+n,false))
 | 0,r,x,h=>rfl
 | n + 1,r,x,h=>by
   have e1:fI B (r,false)=B.getD r false:=by simp[fI]
   have e2:ch B (r,false)=(r+1,false):=by
    unfold ch;rw[if_neg Bool.noConfusion,if_pos (by show r<B.length;omega)]
   rw[kG,e1,e2,xy B n (r+1) _ (by omega),lf,show r+1+n=r+(n+1) by omega]
theorem mG{B:List Bool}{n r:Nat}(h:r+n<=B.length):bX B n (r,false)=(lf B r n 0,(r+n,false)):=by
 unfold bX;rw[xy B n r 0 h,if_neg Bool.noConfusion]
theorem BS(b:Bool):0<=b2 b/\b2 b<=1:=by cases b<;>decide
theorem vE(B:List Bool):∀(n r:Nat) (x:Int),lf B r n x/2^n=x
 | 0,r,x=>by show x/2^0=x;simp
 | n+1,r,x=>by
   rw[lf,Int.pow_succ,<-Int.ediv_ediv_of_nonneg (Int.le_of_lt (Int.pow_pos (by decide))),vE B n];have:=BS (B.getD r false);omega
theorem vD(B:List Bool):∀(n r:Nat) (x:Int) (i:Nat),i<n->lf B r n x/2^(n-1-i)%2=b2 (B.getD (r+i) false)
 | 0,r,x,i,h=>absurd h (Nat.not_lt_zero _)
 | n+1,r,x,0,h=>by
   rw[lf,show n+1-1-0=n by omega,vE,Nat.add_zero];have:=BS (B.getD r false);omega
 | n+1,r,x,i+1,h=>by
   rw[lf,show n+1-1-(i+1)=n-1-i by omega,vD B n (r+1) _ i (by omega),show r+1+i=r+(i+1) by omega]
theorem Ka(B:List Bool)(r:Nat):0<=lf B r 7 0/\lf B r 7 0<128:=by
 have h:=vE B 7 r 0;have e:(2:Int)^7=128:=by decide
 rw[e]at h;omega
def CI(B:List Bool)(i:Nat):Int:=128+(bX B 7 (7*i,false)).1
def po(B:List Bool):Nat->List Int
 | 0=>[]
 | k+1=>po B k++[CI B k]
theorem fC(B:List Bool):∀k,(po B k).length=k
 | 0=>rfl
 | k+1=>by rw[po,List.length_append,fC B k];rfl
theorem Ej(B:List Bool):∀k i,i<k->(po B k).getD i 0=CI B i
 | 0,i,h=>absurd h (Nat.not_lt_zero _)
 | k + 1,i,h=>by
   rw[po,List.getD_eq_getElem?_getD]
   by_cases hi:i<k
   ·rw[List.getElem?_append_left (by rw[fC];exact hi),<-List.getD_eq_getElem?_getD];exact Ej B k i hi
   ·obtain rfl:i=k:=by omega
    rw[List.getElem?_append_right (by rw[fC];exact Nat.le_refl _),fC,Nat.sub_self];rfl
def eh(B:List Bool)(x y:List Int):List Int:=(([0,0,1,182]++po B 17)++x)++y
theorem eQ(B:List Bool)(x y:List Int):(eh B x y).length=21+x.length+y.length:=by
 simp only[eh,List.length_append,fC,List.length_cons,List.length_nil]
theorem Au(B:List Bool)(x y:List Int){i:Nat}(hi:i<17):(eh B x y).getD (4+i) 0=CI B i:=by
 unfold eh;rw[List.append_assoc,List.append_assoc,List.getD_eq_getElem?_getD,List.getElem?_append_right (by show 4<=4+i;omega),show 4+i-([0,0,1,182]:List Int).length=i by show 4+i-4=i;omega,List.getElem?_append_left (by rw[fC];exact hi),<-List.getD_eq_getElem?_getD];exact Ej B 17 i hi
def OX(p:List Int)(j:Nat):Int:=p.getD (4+j/7) 0/2^(6-j%7)%2
def Jn(p:List Int)(o:Nat):Nat->Int
 | 0=>0
 | k+1=>2*Jn p o k+OX p (o+k)
def rS(p:List Int):Int×Int:=(Jn p 37 16,Jn p 53 16)
theorem Rw:∀(k:Fin 7),∃q:Int,128=2^k.val*(2*q):=fun k=>⟨64/2^k.val,by revert k;decide⟩
theorem FN{B:List Bool}(hB:119<=B.length)(x y:List Int){j:Nat}(hj:j<119):OX (eh B x y) j=b2 (B.getD j false):=by
 unfold OX;rw[Au B x y (show j/7<17 by omega)];unfold CI;rw[mG (by omega)];have h:=vD B 7 (7*(j/7)) 0 (j%7) (by omega);rw[show 7*(j/7)+j%7=j by omega,show 7-1-j%7=6-j%7 by omega]at h;rw[<-h];obtain⟨q,hq⟩:=Rw ⟨6-j%7,by omega⟩;have hq:(128:Int)=2^(6-j%7)*(2*q):=hq;have hp:(0:Int)<2^(6-j%7):=Int.pow_pos (by decide);show(128+lf B (7*(j/7)) 7 0)/2^(6-j%7)%2=lf B (7*(j/7)) 7 0/2^(6-j%7)%2;rw[hq,Int.add_comm,Int.add_mul_ediv_left _ _ (by omega)];omega
theorem u4(n:Int):∀(k i:Nat),i<k->(aJ n k).getD i false=decide (n/2^(k-1-i)%2=1)
 | 0,i,h=>absurd h (Nat.not_lt_zero _)
 | k+1,0,h=>rfl
 | k+1,i+1,h=>by
   rw[aJ,List.getD_cons_succ,u4 n k i (by omega),show k+1-1-(i+1)=k-1-i by omega]
theorem u7{pre rest:List Bool}{n:Int}(hn:0<=n/\n<65536)(x y:List Int)(hB:119<=(pre++(aJ n 16++rest)).length)(hp:pre.length+16<=119):∀k,k<=16->Jn (eh (pre++(aJ n 16++rest)) x y) pre.length k=n/2^(16-k)
 | 0,_=>by
   show 0=n/2^16;have e:(2:Int)^16=65536:=by decide
   rw[e];omega
 | k + 1,hk=>by
   have hget:(pre++(aJ n 16++rest)).getD (pre.length+k) false=decide (n/2^(15-k)%2=1):=by
    rw[List.getD_eq_getElem?_getD,List.getElem?_append_right (by omega),Nat.add_sub_cancel_left,List.getElem?_append_left (by rw[aR];omega),<-List.getD_eq_getElem?_getD,u4 n 16 k (by omega)]
   rw[Jn,u7 hn x y hB hp k (by omega),FN hB x y (by omega),hget,show 16-k=(15-k)+1 by omega,show 16-(k+1)=15-k by omega,Int.pow_succ,<-Int.ediv_ediv_of_nonneg (Int.le_of_lt (Int.pow_pos (by decide)))];unfold b2;split
   ·rename_i h;have h:=of_decide_eq_true h;omega
   ·rename_i h;have h:¬_:=fun g=>h (decide_eq_true g)
    omega
def fT(p:Ph)(first count la lb sa sb:Int):List Bool:=((((((((([]++aJ p.id 16)++[p.inter])++[p.down])++aJ p.qp 5)++aJ first 7)++aJ count 7)++aJ la 16)++aJ lb 16)++aJ sa 16)++aJ sb 16
def kB(p:Ph)(first count la lb sa sb su:Int):List Bool:=(fT p first count la lb sa sb++aJ su 16)++aJ 0 2
theorem rX(p:Ph)(first count la lb sa sb:Int):(fT p first count la lb sa sb).length=101:=by
 simp only[fT,List.length_append,aR,List.length_cons,List.length_nil]
theorem oR(p:Ph)(first count la lb sa sb su:Int):(kB p first count la lb sa sb su).length=119:=by
 simp only[kB,rX,List.length_append,aR]
theorem Az{p:Ph}{first count la lb sa sb su:Int}(ha:0<=la/\la<65536)(hb:0<=lb/\lb<65536)(x y:List Int):rS (eh (kB p first count la lb sa sb su) x y)=(la,lb):=by
 have hl:=oR p first count la lb sa sb su
 have e1:kB p first count la lb sa sb su=((((([]++aJ p.id 16)++[p.inter])++[p.down])++aJ p.qp 5++aJ first 7)++aJ count 7)++(aJ la 16++(((aJ lb 16++aJ sa 16)++aJ sb 16++aJ su 16)++aJ 0 2)):=by
  simp only[kB,fT,List.append_assoc]
 have e2:kB p first count la lb sa sb su=(((((([]++aJ p.id 16)++[p.inter])++[p.down])++aJ p.qp 5++aJ first 7)++aJ count 7)++aJ la 16)++(aJ lb 16++((aJ sa 16++aJ sb 16++aJ su 16)++aJ 0 2)):=by
  simp only[kB,fT,List.append_assoc]
 unfold rS;refine Prod.ext ?_ ?_
 ·have h:=u7 ha x y (by rw[<-e1];omega) (by simp only[List.length_append,aR,List.length_cons,List.length_nil];omega) 16 (Nat.le_refl _);rw[<-e1]at h;simp only[List.length_append,aR,List.length_cons,List.length_nil]at h;exact h.trans (by simp)
 ·have h:=u7 hb x y (by rw[<-e2];omega) (by simp only[List.length_append,aR,List.length_cons,List.length_nil];omega) 16 (Nat.le_refl _);rw[<-e2]at h;simp only[List.length_append,aR,List.length_cons,List.length_nil]at h;exact h.trans (by simp)
theorem rQ{HS:aj}{N:Nat}(hN:HS.length=N){HS':aj}(hh:HS++[.cells (il .u8 [0,0,1]) 5 false false]=HS')(hbd:Nat.blt HS'.length Mem.bound=true) :
 aA.Sound prog ⟨50,[],HS,.one (.slice N 0 3 (.exact 3)),HS',[]⟩:=by
 subst hN;exact bI [] [] 1 Co (by simp) .nil .nil (.flat .nil) rfl .nil .nil (by show 0<1;omega) rfl (.flat .nil) rfl rfl hh hbd (.inl rfl)
def NF(bs:List Bool)(p:Ph):List Bool:=(((bs++aJ p.id 16)++[p.inter])++[p.down])++aJ p.qp 5
theorem FO(p:Ph)(hp:pK p)(bs:List Bool)(hb:bs.length<=100000) :
 bt prog 65 [.agg (tu p),.one (.ptr 0 0)] (WH bs) (.one (.int .i64 0)) (K6 (NF bs p)):=by
 have hid:=hp.id;have hqp:=hp.qp;have e1:(bs++aJ p.id 16).length=bs.length+16:=by rw[List.length_append,aR]
 have e2:((bs++aJ p.id 16)++[p.inter]).length=bs.length+17:=by rw[List.length_append,e1];rfl
 have e3:(((bs++aJ p.id 16)++[p.inter])++[p.down]).length=bs.length+18:=by rw[List.length_append,e2];rfl
 refine cO Tryz.func65 ?_
 repeat' (first
  |(refine qz ?_;first
   |refine cl ?_ (hi:=by exact kb hp rfl)
   |refine cl ?_ (hi:=by exact fq (size:=16) rfl (bs:=bs) (by omega) (by decide) (by omega) (i:=0) (k:=1) rfl rfl (by decide) nL nA rfl)
   |refine cl ?_ (hi:=by exact jD (bs:=bs++aJ p.id 16) (by omega) (i:=0) (k:=3) rfl rfl (by decide) nL nA rfl)
   |refine cl ?_ (hi:=by exact jD (bs:=(bs++aJ p.id 16)++[p.inter]) (by omega) (i:=0) (k:=4) rfl rfl (by decide) nL nA rfl)
   |refine cl ?_ (hi:=by exact fq (size:=5) rfl (bs:=((bs++aJ p.id 16)++[p.inter])++[p.down]) (by omega) (by decide) (by omega) (i:=0) (k:=5) rfl rfl (by decide) nL nA rfl))
  |refine zz ?_|refine zx (fun _=>?_) (fun _=>?_)|fail)
 show aE _ _ _ _ _ _ _ _;refine kV [0,1,6] ?_;rfl
theorem I8{p:Ph}(hp:pK p){bs:List Bool}(hb:bs.length<=100000){HS:aj}{i k:Nat}(hi:HS[i]? = some (aP k bs))(hk:HS[k]? = some (av bs))(hd:i≠k){N:Nat}(hN:HS.length=N){HS':aj}(hh:bJ HS [i,k] [aP N (NF bs p),.dead,av (NF bs p)]=HS')(hbd:Nat.blt HS'.length Mem.bound=true) :
 aA.Sound prog ⟨65,[.agg (tu p),.one (.ptr i 0)],HS,.one (.int .i64 0),HS',[i,k]⟩:=by
 subst hN;refine bI [i,k] [i,k] 1 (FO p hp bs hb) (by simp[hd]) ?_ ?_ ?_ rfl (.flat (.cons (by simp[XV.bK,XC.ok]) .nil)) (.flat (.cons rfl .nil)) trivial rfl ?_ (Jy ..) rfl hh hbd (.inl rfl)
 ·exact ae.iu hi rfl rfl rfl (.flat hk .nil)
 ·exact .cons (by simp[ak.bK,XC.ok,aK]) (.flat .nil)
 ·exact .cons (by simp[ak.bK,XC.ok,aK]) (.flat (.flat .nil))
 ·exact .cons (by simp only[ak.aC,List.map_cons,List.map_nil,XC.aC,aV];rfl) (.flat (.flat .nil))
abbrev Rt(p:Ph)(first count:Int)(c d:XC):List XC:=[.int .i64 p.id,.bool p.inter,.bool p.down,.int .i64 p.qp,.int .i64 first,.int .i64 count,c,d]
structure xZ(p:Ph)(first count:Int)(la lb:Nat)(all:Int):Prop where
 ph:pK p
 fst:0<=first
 cnt:1<=count
 fit:first+count<=all
 most:all<=64
 a:1<=la/\la<=30000
 b:1<=lb/\lb<=30000
theorem AF{p:Ph}{first count all:Int}{la lb:Nat}(hk:xZ p first count la lb all)(oa ob:ak)[cA oa][cA ob] :
 bt prog 64 [.agg (Rt p first count (.slice 0 0 la (.toEnd 1)) (.slice 1 0 lb (.toEnd 1))),.one (.int .i64 all)] [oa,ob] (.one (.int .i64 0)) [oa,ob]:=by
 obtain⟨hph,hf,hc,hfit,hall,ha,hb⟩:=hk;refine cO Tryz.func64 ?_
 repeat' (first
  |(refine qz ?_;first
   |refine qI (cs:=tu p) ?_ (hle:=by decide) (hc:=by exact rfl)
   |refine cl ?_ (hi:=by exact kb hph rfl))
  |refine zz ?_|refine zx (fun _=>?_) (fun _=>?_)|fail)
 show aE _ _ _ _ _ _ _ _;refine kV [0,1] ?_;rfl
theorem uW{p:Ph}{first count all:Int}{la lb:Nat}(hk:xZ p first count la lb all){oa ob:ak}[cA oa][cA ob]{HS:aj}{i j:Nat}(hi:HS[i]? = some oa)(hj:HS[j]? = some ob)(hd:i≠j)(hb:Nat.blt HS.length Mem.bound=true) :
 aA.Sound prog ⟨64,[.agg (Rt p first count (.slice i 0 la (.toEnd 1)) (.slice j 0 lb (.toEnd 1))),.one (.int .i64 all)],HS,.one (.int .i64 0),HS,[]⟩:=by
 refine fR [i,j] (AF hk oa ob) (by simp[hd]) (.flat hi (.flat hj .nil)) (.flat (.flat .nil)) (.cons ?_ (.flat .nil)) (.cons rfl (.flat .nil)) trivial rfl hb rfl;intro c hc;simp only[List.mem_cons,List.not_mem_nil,or_false]at hc
 rcases hc with rfl|rfl|rfl|rfl|rfl|rfl|rfl|rfl<;>first|trivial|(show(_:Nat)<2;omega)
theorem Rs:∀v:Fin 128,sB .u8 128 (v.val:Int)=128+(v.val:Int):=by decide +kernel
theorem OU{v:Int}(h:0<=v/\v<128):sB .u8 128 v=128+v:=by
 have:=Rs ⟨v.toNat,by omega⟩;rw[show((⟨v.toNat,by omega⟩:Fin 128).val:Int)=v by show(v.toNat:Int)=v;omega]at this;exact this
end Go.Proofs.YthdciapjllppjaaGreat
