/-
  A part of the proof: Scan, RunsOf, BlockPut, Sta, Undiff, CodeLaw, Heads, StrP, StrE.
-/
import Derived.Test.YthdciapjllppjaaGreatWaF
import Derived.Test.YthdciapjllppjaaGreatWaH
import Derived.Test.YthdciapjllppjaaGreatWaN
import Derived.Test.YthdciapjllppjaaGreatWaP
set_option maxRecDepth 10000
set_option maxHeartbeats 8000000
set_option linter.unusedVariables false
set_option linter.unusedSectionVars false
set_option linter.unusedSimpArgs false
open Go.Proofs.Tryz (prog)
namespace Go.Proofs.YthdciapjllppjaaGreat
open Go.Xm
variable [ak]
def qH(o:Int)(f:Nat->Int)(i:Nat):Int:=f (Bo o i).toNat
theorem Ir(k:IntKind)(g z:Nat->Int)(n:Nat):ti k n (uE g z n)=ti k n g:=kG fun i hi=>by simp[uE,hi]
theorem Jv{o:Int}(h:o=0\/o=1\/o=2)(f:Nat->Int):bq prog 126 [.one (.int .u8 o),.agg (ti .i64 64 f)] [] (.agg (ti .i64 64 (qH o f))) []:=by
 refine cO Tryz.func126 ?_
 repeat' (first
  |(refine qz ?_;first
   |refine cl ?_ (hi:=by exact Fv h rfl))
  |refine zz ?_|refine zx (fun _=>?_) (fun _=>?_)|fail)
 refine WX.cj (σ:=Nat) (fun j=>[(10,.one (.int .i64 (j:Nat))),(3,.one (.ptr 0 0)),(4,.one (.ptr 1 0)),(5,.one (.ptr 2 0)),(9,.agg (ti .i64 64 (Bo o)))]) (fun j=>[.cells (ti .i64 64 f) 104 false false,.cells (ti .i64 64 fun _=>0) 104 false false,.cells (ti .i64 64 (uE (qH o f) (fun _=>0) j)) 104 false false]) (fun j=>j<=64) (fun j=>64-j) 0 (by omega) (fun s _=>nf) (bV [0,1,2] (obj:=by(repeat' (first|exact af.nil|refine af.flat (by rw[qy];rfl) ?_|refine oz ?_));first|done|fail)) ?_;intro j hj ih
 by_cases hj64:j<64
 ·have hr:=DN h hj64;have hr':0<=Bo o (j:Int).toNat/\Bo o (j:Int).toNat<64:=hr
  repeat' (first
   |(refine qz ?_;first
    |refine QU (n:=64) ?_)
   |refine zz ?_|refine zx (fun _=>?_) (fun _=>?_)|fail)
  refine ih (j+1) _ _ _ (bV [0,1,2] (obj:=by(repeat' (first|exact af.nil|refine af.flat (by rw[<-qx];rfl) ?_|refine oz ?_));first|done|fail)) (by omega) (by omega)
 ·obtain rfl:j=64:=by omega
  repeat' (first
   |(refine qz ?_;first
    |refine jV ?_ (hle:=by rw[aT])
    |refine nr ?_ (hs1:=by rw[aT]) (hs2:=by rw[aT]))
   |refine zz ?_|refine zx (fun _=>?_) (fun _=>?_)|fail)
  show aE _ _ _ _ _ _ _ _;refine kV [] ?_;rw[Ir];rfl
theorem yt{o:Int}(h:o=0\/o=1\/o=2){f:Nat->Int}{HS:ah}(hb:Nat.blt HS.length Mem.bound=true):az.Sound prog ⟨126,[.one (.int .u8 o),.agg (ti .i64 64 f)],HS,.agg (ti .i64 64 (qH o f)),HS,[]⟩:=
 ay (Jv h f) (by show(true&&((ti .i64 64 f).all XC.shut&&true))=true;rw[je];rfl) (je _ _ _) hb
def iZ(edge:Bool)(frm:Int):Int:=if edge=true/\frm=1 then 2 else if edge=true/\frm=2 then 1 else 0
theorem oI(edge:Bool)(frm:Int):iZ edge frm=0\/iZ edge frm=1\/iZ edge frm=2:=by
 unfold iZ;split
 ·exact .inr (.inr rfl)
 ·split
  ·exact .inr (.inl rfl)
  ·exact .inl rfl
theorem Fi(edge:Bool)(frm:Int):bq prog 125 [.one (.bool edge),.one (.int .u8 frm)] [] (.one (.int .u8 (iZ edge frm))) []:=by
 cases edge
 all_goals
  refine cO Tryz.func125 ?_
  repeat' (first|refine zz ?_|refine zx (fun _=>?_) (fun _=>?_)|fail)
  all_goals
   show aE _ _ _ _ _ _ _ _;refine kV [] ?_;unfold iZ;simp only[Bool.false_eq_true,true_and,false_and,if_false]
   repeat' split
   all_goals first
    | rfl
    | (exfalso;omega)
theorem uH{edge:Bool}{frm:Int}{HS:ah}(hb:Nat.blt HS.length Mem.bound=true):az.Sound prog ⟨125,[.one (.bool edge),.one (.int .u8 frm)],HS,.one (.int .u8 (iZ edge frm)),HS,[]⟩:=
 ay (Fi edge frm) rfl rfl hb
def yA(m:Mb):Int:=if alone m=true then 1 else 0
theorem F3(m:Mb):bq prog 127 [.agg (mC m)] [] (.one (.int .i64 (yA m))) []:=by
 unfold yA;refine cO Tryz.func127 ?_
 repeat' (first
  |(refine qz ?_;first
   |refine jV ?_ (hle:=by rw[bl])
   |refine BE (fun ga=>?_) (fun ga=>?_) (hi:=by exact tH rfl))
  |refine zz ?_|refine zx (fun _=>?_) (fun _=>?_)|fail)
 ·show aE _ _ _ _ _ _ _ _;refine kV [] ?_;rw[if_pos ga];rfl
 ·show aE _ _ _ _ _ _ _ _;refine kV [] ?_;rw[if_neg (by rw[ga];decide)];rfl
theorem Jx{m:Mb}{HS:ah}(hb:Nat.blt HS.length Mem.bound=true):az.Sound prog ⟨127,[.agg (mC m)],HS,.one (.int .i64 (yA m)),HS,[]⟩:=
 ay (F3 m) (by simp only[List.all_cons,List.all_nil,Bool.and_true];exact jW m) rfl hb
end Go.Proofs.YthdciapjllppjaaGreat
namespace Go.Xm
variable [ak]
variable {P:Program} {ops:Array Oper} {nt nI:Nat} {al:aN} {hs:ah} {o:Oper} {l:List Oper} {L:List az} {K:List Ab->aN->ah->Prop} {d:Nat}
theorem SE{t:TypeId}{a y:Operand}{i off:Nat}{c:XC}{cs cs':List XC}{e:TypeId}{hs':ah}(hk:SK P ops nt L l al hs' fun bs=>K (⟨true,.none,[i]⟩::bs))(hle:off<cs.length)(hv:cs.set off c=cs')(ho:o.op = .store t a y:=by exact rfl)(ht:aG P t 1:=by infer_instance)(hw:av ops (rg al) o=some true:=by exact rfl)(hd:o.dst = .none:=by exact rfl)
 (ha:ae (rg al) a = .one (.ptr i off):=by exact rfl) (hy:cJ (ae (rg al) y)=some [c]:=by exact rfl) (hi:hs[i]? = some (bR e cs):=by exact rfl) (hh:hs.set i (bR e cs')=hs':=by first|(simp only[List.set_cons_succ,List.set_cons_zero];exact rfl)|exact rfl):SK P ops nt L (o::l) al hs K:=by
 have h1:bR e cs = .cells cs e true false:=cz (fun hn=>by rw[hn]at hle;simp at hle)
 have h2:bR e cs' = .cells cs' e true false:=cz (fun hn=>by
  have:=congrArg List.length hv;rw[List.length_set,hn]at this;simp at this;rw[this]at hle
  simp at hle)
 exact kC ho hw hd ha hy (hi.trans (congrArg some h1)) hle hv (by rw[<-h2];exact hh) hk
end Go.Xm
namespace Go.Proofs.YthdciapjllppjaaGreat
open Go.Xm
variable [ak]
abbrev Ev:=Int×Int×Bool
def vS(e:Ev):List XC:=[.int .i64 e.1,.int .i64 e.2.1,.bool e.2.2]
instance:oY vS 3:=⟨fun _=>rfl,fun _=>rfl,by decide⟩
abbrev eH(l:List Ev):aj:=bR 265 (fl vS l)
def lp(f:Nat->Int):Nat->Nat->Int->List Ev
 | 0,_,_=>[]
 | k+1,i,run=>if f i=0 then lp f k (i+1) (run+1)else(run,f i,false)::lp f k (i+1) 0
def kx:List Ev->List Ev
 | []=>[]
 | [e]=>[(e.1,e.2.1,true)]
 | e::e2::l=>e::kx (e2::l)
theorem iX:∀l:List Ev,(kx l).length=l.length
 | []=>rfl
 | [e]=>rfl
 | e::e2::l=>by simp only[kx,List.length_cons,iX (e2::l)]
theorem Dr(e:Ev)(l:List Ev):fl vS (e::l) = .int .i64 e.1 :: .int .i64 e.2.1 :: .bool e.2.2::fl vS l:=rfl
theorem uo:∀l:List Ev,l≠[]->(fl vS l).set ((l.length-1)*3+2) (.bool true)=fl vS (kx l)
 | [],h=>absurd rfl h
 | [e],_=>rfl
 | e::e2::l,_=>by
   have ih:=uo (e2::l) (by simp);rw[Dr e,kx,Dr e,<-ih];have:((e::e2::l).length-1)*3+2=((e2::l).length-1)*3+2+3:=by simp only[List.length_cons];omega
   rw[this];rfl
def jP(f:Nat->Int)(st:Nat):List Ev:=kx (lp f (64-st) st 0)
theorem rP(f:Nat->Int):∀(k i:Nat) (run:Int),(lp f k i run).length<=k
 | 0,_,_=>Nat.le_refl _
 | k+1,i,run=>by
   unfold lp;split
   ·have:=rP f k (i+1) (run+1);omega
   ·have:=rP f k (i+1) 0;simp only[List.length_cons];omega
theorem Jd(f:Nat->Int)(st:Nat)(hst:st<=64):bq prog 124 [.agg (ti .i64 64 f),.one (.int .i64 (st:Nat))] [] (iq 0 (jP f st).length 3) [eH (jP f st)]:=by
 refine cO Tryz.func124 ?_
 repeat' (first|refine zz ?_|refine zx (fun _=>?_) (fun _=>?_)|fail)
 refine WX.cq rfl ?_;refine WX.cj (σ:=Nat×Int×List Ev) (fun s=>[(7,.one (.int .i64 (s.1:Nat))),(6,.one (.int .i64 s.2.1)),(5,iq 1 s.2.2.length 3),(2,.one (.ptr 0 0))]) (fun s=>[.cells (ti .i64 64 f) 104 false false,eH s.2.2]) (fun s=>s.1<=64/\0<=s.2.1/\s.2.1<=s.1/\s.2.2.length<=s.1/\s.2.2++lp f (64-s.1) s.1 s.2.1=lp f (64-st) st 0) (fun s=>64-s.1) (st,0,[]) ⟨hst,Int.le_refl _,by show(0:Int)<=(st:Nat);omega,by show 0<=st;omega,rfl⟩ (fun s _=>nf) (bV [0,1]) ?_;intro s ⟨h1,h2,h3,h4,h5⟩ ih
 by_cases h64:s.1<64
 ·obtain⟨k,hk⟩:∃k,64-s.1=k+1:=⟨63-s.1,by omega⟩
  have hk':64-(s.1+1)=k:=by omega
  rw[hk,lp]at h5
  by_cases hz:f s.1=0
  ·have hz':f (s.1:Int).toNat=0:=hz;rw[if_pos hz]at h5
   repeat' (first|refine zz ?_|refine zx (fun _=>?_) (fun _=>?_)|fail)
   refine ih (s.1+1,s.2.1+1,s.2.2) _ _ _ (bV [0,1]) ⟨by show s.1+1<=64;omega,by show 0<=s.2.1+1;omega,by show s.2.1+1<=((s.1+1:Nat):Int);omega,by show s.2.2.length<=s.1+1;omega,by show s.2.2++lp f (64-(s.1+1)) (s.1+1) (s.2.1+1)=_;rw[hk'];exact h5⟩ (by show 64-(s.1+1)<64-s.1;omega)
  ·have hz':¬f (s.1:Int).toNat=0:=hz;rw[if_neg hz]at h5
   repeat' (first
    |(refine qz ?_;first
     |refine vZ (enc:=vS) (a:=(s.2.1,f s.1,false)) ?_
     |refine xN (enc:=vS) ?_)
    |refine zz ?_|refine zx (fun _=>?_) (fun _=>?_)|fail)
   refine ih (s.1+1,0,s.2.2++[(s.2.1,f s.1,false)]) _ _ _ (bV [0,3] (obj:=by(repeat' (first|exact af.nil|refine af.flat (by rw[List.length_append];rfl) ?_|refine oz ?_));first|done|fail)) ⟨by show s.1+1<=64;omega,by show(0:Int)<=0;omega,by show(0:Int)<=((s.1+1:Nat):Int);omega,by show(s.2.2++[_]).length<=s.1+1;simp;omega,by show(s.2.2++[(s.2.1,f s.1,false)])++lp f (64-(s.1+1)) (s.1+1) 0=_;rw[hk',List.append_assoc];exact h5⟩ (by show 64-(s.1+1)<64-s.1;omega)
 ·have e0:64-s.1=0:=by omega
  rw[e0,lp,List.append_nil]at h5;have e:jP f st=kx s.2.2:=by rw[jP,<-h5]
  rw[e]
  by_cases hn:s.2.2.length=0
  ·have hs0:s.2.2 = []:=List.length_eq_zero_iff.1 hn;rw[hs0]
   repeat' (first|refine zz ?_|refine zx (fun _=>?_) (fun _=>?_)|fail)
   show aE _ _ _ _ _ _ _ _;refine kV [1] ?_;rfl
  ·have hset:(fl vS s.2.2).set ((((s.2.2.length:Nat):Int)-1).toNat*3+2) (.bool true)=fl vS (kx s.2.2):=by
    rw[show(((s.2.2.length:Nat):Int)-1).toNat=s.2.2.length-1 by omega];exact uo _ (fun h=>hn (by rw[h];rfl))
   have hle:(((s.2.2.length:Nat):Int)-1).toNat*3+2<(fl vS s.2.2).length:=by
    rw[t6];omega
   repeat' (first
    |(refine qz ?_;first
     |refine SE ?_ hle hset)
    |refine zz ?_|refine zx (fun _=>?_) (fun _=>?_)|fail)
   show aE _ _ _ _ _ _ _ _;refine kV [1] ?_;rw[fR,iX];rfl
theorem L3{f:Nat->Int}{st:Nat}{z:Int}(hz:z=(st:Nat))(hst:st<=64){HS:ah}{N:Nat}(hN:HS.length=N){HS':ah}(hh:HS++[eH (jP f st)]=HS')(hbd:Nat.blt HS'.length Mem.bound=true) :
 az.Sound prog ⟨124,[.agg (ti .i64 64 f),.one (.int .i64 z)],HS,iq N (jP f st).length 3,HS',[]⟩:=by
 subst hN;subst hz;refine bz (os:=[eH (jP f st)]) [] [] 1 (Jd f st hst) (by simp) .nil .nil ?_ rfl (.flat (.flat .nil)) (.flat (.flat .nil)) (jJ (Nat.le_of_ble_eq_true rfl)) (fR ..) ?_ ?_ rfl hh hbd (.inl rfl)
 ·exact .flat .nil
 ·exact .flat .nil
 ·unfold eH;cases fl vS (jP f st)<;>rfl
def ln(l e:Nat->Int)(i:Nat):Prop:=l i-e i < -2047\/2047<l i-e i
open Classical in
noncomputable def pc(l e:Nat->Int):Option (Nat->Int):=if ∃i,i<64/\ln l e i then none else some fun i=>l i-e i
noncomputable def Ib(o:Option (Nat->Int)):XV := .tup [.agg (ti .i64 64 (o.getD fun _=>0)),.one (.bool o.isSome)]
theorem BY(o:Option (Nat->Int)):(Ib o).shut=true:=by
 show((ti .i64 64 (o.getD fun _=>0)).all XC.shut&&(true&&true))=true;rw[je];rfl
theorem Ic(l e:Nat->Int)(hl:∀i,-1000000<=l i/\l i<=1000000)(he:∀i,-1000000<=e i/\e i<=1000000):bq prog 120 [.agg (ti .i64 64 l),.agg (ti .i64 64 e)] [] (Ib (pc l e)) []:=by
 refine cO Tryz.func120 ?_
 repeat' (first
  |(refine qz ?_;first
   |refine jV ?_ (hle:=by rw[aT]))
  |refine zz ?_|refine zx (fun _=>?_) (fun _=>?_)|fail)
 refine WX.cj (σ:=Nat) (fun j=>[(9,.one (.int .i64 (j:Nat))),(2,.one (.ptr 0 0)),(4,.one (.ptr 1 0)),(8,.agg (ti .i64 64 e))]) (fun j=>[.cells (ti .i64 64 (uE (fun i=>l i-e i) l j)) 104 false false,.cells (ti .i64 64 fun _=>0) 104 false false]) (fun j=>j<=64/\∀i,i<j->¬ln l e i) (fun j=>64-j) 0 ⟨by omega,fun i hi=>by omega⟩ (fun s _=>nf) (bV [0,2] (obj:=by(repeat' (first|exact af.nil|refine af.flat (by rw[qy];rfl) ?_|refine oz ?_));first|done|fail)) ?_;intro j ⟨hj,hall⟩ ih
 by_cases hj64:j<64
 ·have a1:=hl j;have a2:=he j;have a2':=he (j:Int).toNat;have e1:e (j:Int).toNat=e j:=rfl;have em:uE (fun i=>l i-e i) l j j=l j:=by simp[uE]
  have eu:fV (uE (fun i=>l i-e i) l j) j (uE (fun i=>l i-e i) l j j-e (j:Int).toNat) j=uE (fun i=>l i-e i) l j j-e (j:Int).toNat:=by simp[fV]
  by_cases hb:ln l e j
  ·have hb':=hb;unfold ln at hb';have e0:pc l e=none:=if_pos ⟨j,hj64,hb⟩;rw[e0]
   repeat' (first
    |(refine qz ?_;first
     |refine QU (n:=64) ?_
     |refine nr ?_ (hs1:=by rw[aT]) (hs2:=by rw[aT]))
    |refine zz ?_|refine zx (fun _=>?_) (fun _=>?_)|fail)
   all_goals
    first
     | (exfalso;omega)
     | (show aE _ _ _ _ _ _ _ _;refine kV [] ?_;rfl)
  ·have hb':=hb;unfold ln at hb';have e2:uE (fun i=>l i-e i) l j j-e (j:Int).toNat=l j-e j:=by rw[em,e1]
   repeat' (first
    |(refine qz ?_;first
     |refine QU (n:=64) ?_)
    |refine zz ?_|refine zx (fun _=>?_) (fun _=>?_)|fail)
   refine ih (j+1) _ _ _ (bV [0,1] (obj:=by(repeat' (first|exact af.nil|refine af.flat (by rw[<-qx,e2];rfl) ?_|refine oz ?_));first|done|fail)) ⟨by omega,fun i hi=>?_⟩ (by omega)
   by_cases hij:i=j
   ·subst hij;exact hb
   ·exact hall i (by omega)
 ·obtain rfl:j=64:=by omega
  have e0:pc l e=some fun i=>l i-e i:=if_neg fun⟨i,hi,hb⟩=>hall i hi hb
  rw[e0]
  repeat' (first
   |(refine qz ?_;first
    |refine jV ?_ (hle:=by rw[aT])
    |refine nr ?_ (hs1:=by rw[aT]) (hs2:=by rw[aT]))
   |refine zz ?_|refine zx (fun _=>?_) (fun _=>?_)|fail)
  show aE _ _ _ _ _ _ _ _;refine kV [] ?_;rw[Ir];rfl
theorem Ls{l e:Nat->Int}(hl:∀i,-1000000<=l i/\l i<=1000000)(he:∀i,-1000000<=e i/\e i<=1000000){o:Option (Nat->Int)}(ho:pc l e=o){HS:ah}(hb:Nat.blt HS.length Mem.bound=true):az.Sound prog ⟨120,[.agg (ti .i64 64 l),.agg (ti .i64 64 e)],HS,Ib o,HS,[]⟩:=by
 subst ho;exact ay (Ic l e hl he) (by show((ti .i64 64 l).all XC.shut&&((ti .i64 64 e).all XC.shut&&true))=true;rw[je,je];rfl) (BY _) hb
structure Et(e:Ev):Prop where
 run:0<=e.1/\e.1<=63
 nz:e.2.1≠0
 lev : -2047<=e.2.1/\e.2.1<=2047
theorem yl(e:Ev)(h:Et e):bq prog 145 [.agg (vS e)] [] (.one (.bool true)) []:=by
 have h1:=h.run;have h2:=h.nz;have h3:=h.lev;refine cO Tryz.func145 ?_
 repeat' (first|refine zz ?_|refine zx (fun _=>?_) (fun _=>?_)|fail)
 show aE _ _ _ _ _ _ _ _;refine kV [] ?_;rfl
theorem sw{e:Ev}(h:Et e){HS:ah}(hb:Nat.blt HS.length Mem.bound=true):az.Sound prog ⟨145,[.agg (vS e)],HS,.one (.bool true),HS,[]⟩:=
 ay (yl e h) rfl rfl hb
structure p5(l:List Ev):Prop where
 len:0<l.length/\l.length<=64
 ok:∀j,j<l.length->Et (l.getD j default)
 last:∀j,j<l.length->(l.getD j default).2.2=decide (j+1=l.length)
def PX(e:Ev):List Bool:=eP (2*e.1+(if e.2.2 then 1 else 0))++eP (bY e.2.1-1)
def gJ(l:List Ev):List Bool:=l.flatMap PX
theorem sy{x:Int}(h : -2047<=x/\x<=2047)(h0:x≠0):1<=bY x/\bY x<=4094:=by unfold bY;split<;>omega
theorem KY{e:Ev}(h:Et e):(PX e).length<=54:=by
 unfold PX;have h1:=h.run;have h2:=sy h.lev h.nz;have h3:=i6 (2*e.1+(if e.2.2 then 1 else 0)) (by split<;>omega);have h4:=i6 (bY e.2.1-1) (by omega);rw[List.length_append];omega
theorem rA{l:List Ev}{j:Nat}(hj:j<l.length):gJ (l.take (j+1))=gJ (l.take j)++PX (l.getD j default):=by
 unfold gJ;rw[List.take_add_one,List.flatMap_append,List.getD_eq_getElem?_getD,List.getElem?_eq_getElem hj];simp
theorem tW{l:List Ev}(h:p5 l):∀j,j<=l.length->(gJ (l.take j)).length<=54*j
 | 0,_=>by simp[gJ]
 | j+1,hj=>by
   rw[rA (by omega),List.length_append];have:=tW h j (by omega);have:=KY (h.ok j (by omega));omega
theorem Ha(bs:List Bool)(l:List Ev)(h:p5 l)(hb:bs.length<=800000) :
 bq prog 128 [.one (.ptr 0 0),iq 2 l.length 3] [aO 1 bs,au bs,eH l] (.one (.int .i64 0)) [aO 3 (bs++gJ l),.dead,eH l,au (bs++gJ l)]:=by
 have hlen:=h.len;refine cO Tryz.func128 ?_
 repeat' (first|refine zz ?_|refine zx (fun _=>?_) (fun _=>?_)|fail)
 refine WX.cj (σ:=Nat) (fun j=>[(22,.one (.int .i64 (j:Nat))),(0,.one (.ptr 0 0)),(1,iq 2 l.length 3),(20,iq 2 l.length 3),(21,.one (.int .i64 (l.length:Nat)))]) (fun _=>[aO 1 bs,au bs,eH l]) (fun j=>j<=l.length) (fun j=>l.length-j) 0 (by omega) (fun s _=>nf) (bV [0,1,2]) ?_;intro j hj ih
 by_cases hjl:j<l.length
 ·have hok:=h.ok j hjl;have hlast:=h.last j hjl
  by_cases hl:j+1=l.length
  ·have hb2:(vS (l.getD j default))[2]? = some (.bool true):=by
    show some (XC.bool (l.getD j default).2.2)=_;rw[hlast,decide_eq_true hl]
   repeat' (first
    |(refine qz ?_;first
     |refine QW (enc:=vS) (j:=j) ?_
     |refine ld (hc:=hb2) ?_
     |refine cl ?_ (hi:=by exact sw hok rfl))
    |refine zz ?_|refine zx (fun _=>?_) (fun _=>?_)|fail)
   refine ih (j+1) _ _ _ (bV [0,1,2]) (by omega) (by omega)
  ·have hb2:(vS (l.getD j default))[2]? = some (.bool false):=by
    show some (XC.bool (l.getD j default).2.2)=_;rw[hlast,decide_eq_false hl]
   repeat' (first
    |(refine qz ?_;first
     |refine QW (enc:=vS) (j:=j) ?_
     |refine ld (hc:=hb2) ?_
     |refine cl ?_ (hi:=by exact sw hok rfl))
    |refine zz ?_|refine zx (fun _=>?_) (fun _=>?_)|fail)
   refine ih (j+1) _ _ _ (bV [0,1,2]) (by omega) (by omega)
 ·repeat' (first|refine zz ?_|refine zx (fun _=>?_) (fun _=>?_)|fail)
  refine WX.cj (σ:=Nat) (fun j=>[(43,.one (.int .i64 (j:Nat))),(0,.one (.ptr 0 0)),(41,iq 2 l.length 3),(42,.one (.int .i64 (l.length:Nat)))]) (fun j=>[aO 3 (bs++gJ (l.take j)),.dead,eH l,au (bs++gJ (l.take j))]) (fun j=>j<=l.length) (fun j=>l.length-j) 0 (by omega) (fun s _=>nf) (bV [0,1,2,1] (obj:=by(repeat' (first|exact af.nil|refine af.flat (by rw[show gJ (l.take 0) = []from rfl,List.append_nil];rfl) ?_|refine af.ik (by rw[show gJ (l.take 0) = []from rfl,List.append_nil];rfl) rfl rfl rfl ?_|refine oz ?_));first|done|fail)) ?_;intro j2 hj2 ih2
  by_cases hjl2:j2<l.length
  ·have hok:=h.ok j2 hjl2;have hlast:=h.last j2 hjl2;have e1:=hok.run;have e2:=hok.lev;have e3:=sy e2 hok.nz;have hB:=tW h j2 hj2;have hlB:(bs++gJ (l.take j2)).length<=810000:=by rw[List.length_append];omega
   by_cases hl:j2+1=l.length
   ·have hb2:(vS (l.getD j2 default))[2]? = some (.bool true):=by
     show some (XC.bool (l.getD j2 default).2.2)=_;rw[hlast,decide_eq_true hl]
    have hr:=i6 (2*(l.getD j2 default).1+1) (by omega)
    have eB:gJ (l.take (j2+1))=gJ (l.take j2)++(eP (2*(l.getD j2 default).1+1)++eP (bY (l.getD j2 default).2.1-1)):=by
     rw[rA hjl2,PX,hlast,decide_eq_true hl];rfl
    repeat' (first
     |(refine qz ?_;first
      |refine QW (enc:=vS) (j:=j2) ?_
      |refine ld (hc:=hb2) ?_
      |refine cl ?_ (hi:=by exact rT (by omega) rfl)
      |refine cl ?_ (hi:=by exact i7 (v:=2*(l.getD j2 default).1+1) (bs:=bs++gJ (l.take j2)) (by omega) (by omega) rfl rfl (by decide) nL nA rfl)
      |refine cl ?_ (hi:=by exact i7 (v:=bY (l.getD j2 default).2.1-1) (bs:=(bs++gJ (l.take j2))++eP (2*(l.getD j2 default).1+1)) (by omega) (by rw[List.length_append];omega) rfl rfl (by decide) nL nA rfl))
     |refine zz ?_|refine zx (fun _=>?_) (fun _=>?_)|refine bm (by first|exact ag.nil|exact ag.one _|exact ag.mh (by repeat' (first|exact True.intro|refine And.intro ?_ ?_|exact Compat.ne rfl|exact dz rfl))) ⟨by kernel_rfl,?_⟩|refine bm (by first|exact ag.nil|exact ag.one _|exact ag.mh (by repeat' (first|exact True.intro|refine And.intro ?_ ?_|exact Compat.ne rfl|exact dz rfl))) ?_|fail)
    have hE:bs++gJ (l.take (j2+1))=bs++gJ (l.take j2)++eP (2*(l.getD j2 default).1+1)++eP (bY (l.getD j2 default).2.1-1):=by rw[eB];simp only[List.append_assoc]
    refine ih2 (j2+1) _ _ _ (bV [0,1,2,6] (obj:=by(repeat' (first|exact af.nil|refine af.flat (by rw[hE];rfl) ?_|refine af.ik (by rw[hE];rfl) rfl rfl rfl ?_|refine oz ?_));first|done|fail)) (by omega) (by omega)
   ·have hb2:(vS (l.getD j2 default))[2]? = some (.bool false):=by
     show some (XC.bool (l.getD j2 default).2.2)=_;rw[hlast,decide_eq_false hl]
    have hr:=i6 (2*(l.getD j2 default).1) (by omega)
    have eB:gJ (l.take (j2+1))=gJ (l.take j2)++(eP (2*(l.getD j2 default).1)++eP (bY (l.getD j2 default).2.1-1)):=by
     rw[rA hjl2,PX,hlast,decide_eq_false hl,if_neg (by decide),Int.add_zero]
    repeat' (first
     |(refine qz ?_;first
      |refine QW (enc:=vS) (j:=j2) ?_
      |refine ld (hc:=hb2) ?_
      |refine cl ?_ (hi:=by exact rT (by omega) rfl)
      |refine cl ?_ (hi:=by exact i7 (v:=2*(l.getD j2 default).1) (bs:=bs++gJ (l.take j2)) (by omega) (by omega) rfl rfl (by decide) nL nA rfl)
      |refine cl ?_ (hi:=by exact i7 (v:=bY (l.getD j2 default).2.1-1) (bs:=(bs++gJ (l.take j2))++eP (2*(l.getD j2 default).1)) (by omega) (by rw[List.length_append];omega) rfl rfl (by decide) nL nA rfl))
     |refine zz ?_|refine zx (fun _=>?_) (fun _=>?_)|refine bm (by first|exact ag.nil|exact ag.one _|exact ag.mh (by repeat' (first|exact True.intro|refine And.intro ?_ ?_|exact Compat.ne rfl|exact dz rfl))) ⟨by kernel_rfl,?_⟩|refine bm (by first|exact ag.nil|exact ag.one _|exact ag.mh (by repeat' (first|exact True.intro|refine And.intro ?_ ?_|exact Compat.ne rfl|exact dz rfl))) ?_|fail)
    have hE:bs++gJ (l.take (j2+1))=bs++gJ (l.take j2)++eP (2*(l.getD j2 default).1)++eP (bY (l.getD j2 default).2.1-1):=by rw[eB];simp only[List.append_assoc]
    refine ih2 (j2+1) _ _ _ (bV [0,1,2,6] (obj:=by(repeat' (first|exact af.nil|refine af.flat (by rw[hE];rfl) ?_|refine af.ik (by rw[hE];rfl) rfl rfl rfl ?_|refine oz ?_));first|done|fail)) (by omega) (by omega)
  ·have hT:l.take j2=l:=List.take_of_length_le (by omega);rw[hT]
   repeat' (first|refine zz ?_|refine zx (fun _=>?_) (fun _=>?_)|fail)
   show aE _ _ _ _ _ _ _ _;refine kV [0,1,2,3] ?_;rfl
theorem OE(a b:List XC)(e e' e2 e3:TypeId)(cs ds fs:List XC):gK [.cells a e false false,bR e' cs,bR e3 fs] [.cells b e false false,.dead,bR e3 fs,bR e2 ds]=true:=by
 cases cs<;>cases ds<;>cases fs<;>simp[gK,aj.live,aj.own,bR]
theorem KT{bs:List Bool}{l:List Ev}(h:p5 l)(hb:bs.length<=800000){HS:ah}{i k q:Nat}(hi:HS[i]? = some (aO k bs))(hk:HS[k]? = some (au bs))(hq:HS[q]? = some (eH l))(hd : [i,k,q].Nodup){N:Nat}(hN:HS.length=N){HS':ah}(hh:bE HS [i,k] [aO N (bs++gJ l),.dead,au (bs++gJ l)]=HS')(hbd:Nat.blt HS'.length Mem.bound=true) :
 az.Sound prog ⟨128,[.one (.ptr i 0),iq q l.length 3],HS,.one (.int .i64 0),HS',[i,k]⟩:=by
 subst hN
 have hh':bE HS [i,k,q] [aO HS.length (bs++gJ l),.dead,eH l,au (bs++gJ l)]=HS':=by
  subst hh;simp only[List.nodup_cons,List.mem_cons,List.not_mem_nil,or_false,not_or]at hd;simp only[bE];rw[aF (i:=q) (by rw[List.getElem?_set_ne hd.2.1,List.getElem?_set_ne hd.1.2];exact hq)]
 refine bz [i,k,q] [i,k] 1 (Ha bs l h hb) hd ?_ ?_ ?_ rfl (.cons (by simp[XV.bH,XC.ok]) (.cons (jJ (Nat.le_of_ble_eq_true rfl)) .nil)) (.cons rfl (.cons (fR ..) .nil)) (bZ.ok _) (bZ.aB _) ?_ (OE ..) rfl hh' hbd (.inr fun j hjl hj=>?_)
 ·exact af.ik hi rfl rfl rfl (.flat hk (.flat hq .nil))
 ·exact .cons (by simp[aj.bH,XC.ok,aJ]) (.flat (.flat .nil))
 ·exact .cons (by simp[aj.bH,XC.ok,aJ]) (.flat (.flat (.flat .nil)))
 ·exact .cons (by simp only[aj.aB,List.map_cons,List.map_nil,XC.aB,aU];rfl) (.flat (.flat (.flat .nil)))
 ·subst hh;exact lX _ _ _ _ hjl (by simpa using hj)
structure cD where
 id:Int
 inter:Bool
 down:Bool
 hqp:Int
 qp:Int
 cols:Int
 rows:Int
 M:jF
 A:nq
 B:nq
 C:nq
abbrev jz(S:cD):aj := .cells [.ptr 3 0,.int .i64 S.id,.bool S.inter,.bool S.down,.int .i64 S.hqp,.int .i64 S.qp,.ptr 16 0,.ptr 18 0] 157 false false
abbrev iR(S:cD):ah:=[jz S,eZ 4 8 12,aW 5 6 7 cM,c6 cM,c9 cM,c7 cM,aW 9 10 11 cZ,c6 cZ,c9 cZ,c7 cZ,aW 13 14 15 cP,c6 cP,c9 cP,c7 cP,
 fA 17 S.cols S.rows,.map (cB S.M),.cells [.int .i64 S.cols,.int .i64 S.rows,.map 19,.map 20,.map 21] 220 false false,.map (aq S.A),.map (aq S.B),.map (aq S.C)]
instance Mt (M:nq):cu (.map (aq M)):=zT (fun _=>rfl) (fun b=>show X1.shut (.agg (dk b))=true from bd b) M
abbrev dm:List Nat:=[2,3,4,5,6,7,8,9,10,11,12,13,14,15,16,17,18,19,20,21]
theorem n8(S:cD)(n:Nat)(h:22<=n){l:ah}(hl:aw n l):aw n (iR S++l):=by
 have k:∀j,j<22->j<n:=fun j hj=>by omega
 refine .cons ?_ (.cons ?_ (.cons ?_ (.flat (.flat (.flat (.cons ?_ (.flat (.flat (.flat (.cons ?_ (.flat (.flat (.flat (.cons ?_ (.flat (.cons ?_ (.flat (.flat (.flat hl)))))))))))))))))))
 all_goals simp[aj.bH,XC.ok];omega
theorem yw(S:cD){τ : Nat->Nat}(h:∀j,2<=j->j<22 -> τ j=j){l l':ah}(hl:dX τ l l'):dX τ (iR S++l) (iR S++l'):=by
 have h3:=h 3 (by omega) (by omega);have h4:=h 4 (by omega) (by omega);have h5:=h 5 (by omega) (by omega);have h6:=h 6 (by omega) (by omega);have h7:=h 7 (by omega) (by omega);have h8:=h 8 (by omega) (by omega);have h9:=h 9 (by omega) (by omega);have h10:=h 10 (by omega) (by omega);have h11:=h 11 (by omega) (by omega);have h12:=h 12 (by omega) (by omega);have h13:=h 13 (by omega) (by omega);have h14:=h 14 (by omega) (by omega);have h15:=h 15 (by omega) (by omega);have h16:=h 16 (by omega) (by omega);have h17:=h 17 (by omega) (by omega);have h18:=h 18 (by omega) (by omega);have h19:=h 19 (by omega) (by omega);have h20:=h 20 (by omega) (by omega);have h21:=h 21 (by omega) (by omega);refine .cons ?_ (.cons ?_ (.cons ?_ (.flat (.flat (.flat (.cons ?_ (.flat (.flat (.flat (.cons ?_ (.flat (.flat (.flat (.cons ?_ (.flat (.cons ?_ (.flat (.flat (.flat hl)))))))))))))))))))
 all_goals simp only[aj.aB,List.map_cons,List.map_nil,XC.aB, *]
theorem yx(S:cD){τ : Nat->Nat}{HS:ah}(h:∀j,2<=j->j<22 -> τ j=j)(hS:(HS.drop 2).take 20=iR S){ls:List Nat}{l:ah}(hl:af τ HS ls l):af τ HS (dm++ls) (iR S++l):=by
 have g:∀j,j<20->HS[j+2]? = (iR S)[j]?:=fun j hj=>by
  rw[<-hS,List.getElem?_take,if_pos hj,List.getElem?_drop]
  congr 1
  omega
 have h3:=h 3 (by omega) (by omega);have h4:=h 4 (by omega) (by omega);have h5:=h 5 (by omega) (by omega);have h6:=h 6 (by omega) (by omega);have h7:=h 7 (by omega) (by omega);have h8:=h 8 (by omega) (by omega);have h9:=h 9 (by omega) (by omega);have h10:=h 10 (by omega) (by omega);have h11:=h 11 (by omega) (by omega);have h12:=h 12 (by omega) (by omega);have h13:=h 13 (by omega) (by omega);have h14:=h 14 (by omega) (by omega);have h15:=h 15 (by omega) (by omega);have h16:=h 16 (by omega) (by omega);have h17:=h 17 (by omega) (by omega);have h18:=h 18 (by omega) (by omega);have h19:=h 19 (by omega) (by omega);have h20:=h 20 (by omega) (by omega);have h21:=h 21 (by omega) (by omega);refine .cons ?_ (.cons ?_ (.cons ?_ (.flat (g 3 (by omega)) (.flat (g 4 (by omega)) (.flat (g 5 (by omega)) (.cons ?_ (.flat (g 7 (by omega)) (.flat (g 8 (by omega)) (.flat (g 9 (by omega)) (.cons ?_ (.flat (g 11 (by omega)) (.flat (g 12 (by omega)) (.flat (g 13 (by omega)) (.cons ?_ (.flat (g 15 (by omega)) (.cons ?_ (.flat (g 17 (by omega)) (.flat (g 18 (by omega)) (.flat (g 19 (by omega)) hl)))))))))))))))))))
 ·rw[g 0 (by omega)];simp only[aj.aB,List.map_cons,List.map_nil,XC.aB, *];rfl
 ·rw[g 1 (by omega)];simp only[aj.aB,List.map_cons,List.map_nil,XC.aB, *];rfl
 ·rw[g 2 (by omega)];simp only[aj.aB,List.map_cons,List.map_nil,XC.aB, *];rfl
 ·rw[g 6 (by omega)];simp only[aj.aB,List.map_cons,List.map_nil,XC.aB, *];rfl
 ·rw[g 10 (by omega)];simp only[aj.aB,List.map_cons,List.map_nil,XC.aB, *];rfl
 ·rw[g 14 (by omega)];simp only[aj.aB,List.map_cons,List.map_nil,XC.aB, *];rfl
 ·rw[g 16 (by omega)];simp only[aj.aB,List.map_cons,List.map_nil,XC.aB, *];rfl
theorem L0(a b:List XC)(e e' e2:TypeId)(cs ds:List XC)(S S':cD):gK (.cells a e false false::bR e' cs::iR S) (.cells b e false false :: .dead::(iR S'++[bR e2 ds]))=true:=by
 cases cs<;>cases ds<;>simp[gK,aj.live,aj.own,bR]
theorem Nq{f:FuncId}{more:List XV}(hm:∀τ,eV τ more more)(hmo:gS 22 more){v:XV}[bZ v]{bs bs':List Bool}{S S':cD}(hc:bq prog f (.one (.ptr 2 0) :: .one (.ptr 0 0)::more) (aO 1 bs::au bs::iR S) v (aO 22 bs' :: .dead::(iR S'++[au bs'])))
 {HS:ah} {k:Nat}(hi:HS[0]? = some (aO k bs)) (hk:HS[k]? = some (au bs)) (hS:(HS.drop 2).take 20=iR S) (hd:(k==1||Nat.ble 22 k)=true) {N:Nat}(hN:HS.length=N) {HS':ah}(hh:bE HS (0::k::dm) (aO N bs' :: .dead::(iR S'++[au bs']))=HS') (hbd:Nat.blt HS'.length Mem.bound=true) :
 az.Sound prog ⟨f,.one (.ptr 2 0) :: .one (.ptr 0 0)::more,HS,v,HS',0::k::dm⟩:=by
 subst hN;have hkk:k=1\/22<=k:=by simpa [Nat.ble_eq]using hd
 have h0:0∉dm:=by decide
 have hk':k∉dm:=by
  intro h;simp only[dm,List.mem_cons,List.not_mem_nil,or_false]at h;omega
 have nd:(0::k::dm).Nodup:=List.nodup_cons.2 ⟨fun h=>(List.mem_cons.1 h).elim (fun e=>by omega) h0,List.nodup_cons.2 ⟨hk',by decide⟩⟩;have hq:∀q:Fin 20,dm[q.val]? = some (q.val+2):=by decide
 have ht:∀j,2<=j->j<22->nth (0::k::dm) j=j:=fun j h1 h2=>by
  obtain⟨q,rfl⟩:∃q,j=q+2:=⟨j-2,by omega⟩
  have:=hq ⟨q,by omega⟩;unfold nth;rw[List.getD_eq_getElem?_getD];simp only[List.getElem?_cons_succ];rw[this];rfl
 have ht':∀j,2<=j->j<22->nth ((0::k::dm)++List.range' HS.length 1) j=j:=fun j h1 h2=>by
  obtain⟨q,rfl⟩:∃q,j=q+2:=⟨j-2,by omega⟩
  have:=hq ⟨q,by omega⟩;unfold nth;rw[List.getD_eq_getElem?_getD];show((dm++List.range' HS.length 1)[q]?).getD 0=q+2;rw[List.getElem?_append_left (show q<dm.length by show q<20;omega),this];rfl
 have hv:=yx S ht hS (ls:=[]) .nil;rw[List.append_nil,List.append_nil]at hv;have ho:=n8 S 22 (Nat.le_refl _) (l:=[]) .nil;rw[List.append_nil]at ho;refine bz (0::k::dm) (0::k::dm) 1 hc nd (af.ik hi rfl rfl rfl (.flat hk hv)) (.cons (by simp[aj.bH,XC.ok,aJ]) (.flat ho)) (.cons (by simp[aj.bH,XC.ok,aJ]) (.flat (n8 S' 23 (by omega) (.flat .nil)))) rfl (.cons (by show 2<22;omega) (.cons (by show 0<22;omega) hmo)) (.cons rfl (.cons rfl (hm _))) (bZ.ok _) (bZ.aB _) ?_ (L0 ..) rfl hh hbd (.inl rfl);exact .cons (by simp only[aj.aB,List.map_cons,List.map_nil,XC.aB,aU];rfl) (.flat (yw S' ht' (.flat .nil)))
def dG(n:Int):Nat:=bitLen (max n (-n)).toNat
def fJ(n:Int):List Bool:=jl cZ (dG n)++aI (if n<0 then n+(1*2^dG n-1)else n) (dG n)
theorem Fc(n:Nat):n<2^bitLen n:=by
 unfold bitLen;split
 ·rename_i h;rw[h];decide
 ·exact Nat.lt_log2_self
theorem j0{C:Cd}(hC:Bp C)(n:Nat):(jl C n).length<=64:=by
 unfold jl;have:=hC.sz n;have h:∀(x:Int) (k:Nat),(aI x k).length=k:=fun x k=>aQ x k
 rw[h];omega
theorem zl{n:Int}(h : -4000<=n/\n<=4000):dG n<=12:=rm (by omega)
theorem Hq(bs:List Bool)(S:cD)(n:Int)(hn : -4000<=n/\n<=4000)(hb:bs.length<=800000) :
 bq prog 122 [.one (.ptr 2 0),.one (.ptr 0 0),.one (.int .i64 n)] [aO 1 bs,au bs,jz (S),eZ 4 8 12,aW 5 6 7 cM,c6 cM,c9 cM,c7 cM,aW 9 10 11 cZ,c6 cZ,c9 cZ,c7 cZ,aW 13 14 15 cP,c6 cP,c9 cP,c7 cP,fA 17 (S).cols (S).rows,.map (cB (S).M),.cells [.int .i64 (S).cols,.int .i64 (S).rows,.map 19,.map 20,.map 21] 220 false false,.map (aq (S).A),.map (aq (S).B),.map (aq (S).C)] (.tup []) [aO 22 (bs++fJ n),.dead,jz (S),eZ 4 8 12,aW 5 6 7 cM,c6 cM,c9 cM,c7 cM,aW 9 10 11 cZ,c6 cZ,c9 cZ,c7 cZ,aW 13 14 15 cP,c6 cP,c9 cP,c7 cP,fA 17 (S).cols (S).rows,.map (cB (S).M),.cells [.int .i64 (S).cols,.int .i64 (S).rows,.map 19,.map 20,.map 21] 220 false false,.map (aq (S).A),.map (aq (S).B),.map (aq (S).C),au (bs++fJ n)]:=by
 have hm:max n (0-n)=max n (-n):=by rw[Int.zero_sub]
 have hl:=zl hn;have hlt:=Fc (max n (-n)).toNat;have hl2:qt (max n (0-n)).toNat=(dG n:Nat):=by rw[hm];rfl
 have hc:=j0 Dp (dG n)
 have hpow:(2:Int)^dG n<=4096:=by
  have:=Nat.pow_le_pow_right (show 0<2 by decide) hl;have h2:((2^dG n:Nat):Int)<=((2^12:Nat):Int):=Int.ofNat_le.2 this;rw[Int.natCast_pow]at h2;exact h2
 have hpl : -n<(2:Int)^dG n/\n<(2:Int)^dG n:=by
  have h2:(((max n (-n)).toNat:Nat):Int)<((2^dG n:Nat):Int):=Int.ofNat_lt.2 hlt;rw[Int.natCast_pow]at h2;have h3:((2:Nat):Int)^dG n=(2:Int)^dG n:=rfl;rw[h3]at h2;omega
 have h1:(1:Int)*2^dG n=2^dG n:=Int.one_mul _;have e0:bs++fJ n=(bs++jl cZ (dG n))++aI (if n<0 then n+(1*2^dG n-1)else n) (dG n):=by rw[fJ,List.append_assoc]
 rw[e0];refine cO Tryz.func122 ?_
 by_cases h0:n<0
 ·rw[if_pos h0]
  repeat' (first
   |(refine qz ?_;first
    |refine RP ?_
    |refine cl (v := .one (.int .i64 (dG n:Nat))) ?_ (hi:=by rw[<-hl2];exact BX (by omega) rfl)
    |refine cl ?_ (hi:=by exact qd (C:=cZ) Dp (n:=dG n) rfl (by show dG n<13;omega) (bs:=bs) (by omega) rfl rfl rfl rfl rfl rfl (by decide) nL nA rfl)
    |refine Jt (n:=dG n) ?_ (h:=⟨by show dG n<=64;omega,by show _/\_;omega⟩)
    |refine cl ?_ (hi:=by exact fj (n:=n+(1*2^dG n-1)) (size:=dG n) rfl (bs:=bs++jl cZ (dG n)) (by omega) (by omega) (by rw[List.length_append];omega) rfl rfl (by decide) nL nA rfl))
   |refine zz ?_|refine zx (fun _=>?_) (fun _=>?_)|fail)
  show aE _ _ _ _ _ _ _ _;refine kV [0,1,2,3,4,5,6,7,8,9,10,11,12,13,14,15,16,17,18,19,20,21,23] ?_;rfl
 ·rw[if_neg h0]
  repeat' (first
   |(refine qz ?_;first
    |refine RP ?_
    |refine cl (v := .one (.int .i64 (dG n:Nat))) ?_ (hi:=by rw[<-hl2];exact BX (by omega) rfl)
    |refine cl ?_ (hi:=by exact qd (C:=cZ) Dp (n:=dG n) rfl (by show dG n<13;omega) (bs:=bs) (by omega) rfl rfl rfl rfl rfl rfl (by decide) nL nA rfl)
    |refine cl ?_ (hi:=by exact fj (n:=n) (size:=dG n) rfl (bs:=bs++jl cZ (dG n)) (by omega) (by omega) (by rw[List.length_append];omega) rfl rfl (by decide) nL nA rfl))
   |refine zz ?_|refine zx (fun _=>?_) (fun _=>?_)|fail)
  show aE _ _ _ _ _ _ _ _;refine kV [0,1,2,3,4,5,6,7,8,9,10,11,12,13,14,15,16,17,18,19,20,21,23] ?_;rfl
theorem ES{n:Int}(h : -4000<=n/\n<=4000):(fJ n).length<=76:=by
 unfold fJ;have:=j0 Dp (dG n);have:=zl h;rw[List.length_append,aQ];omega
theorem KX{bs:List Bool}{S:cD}{n:Int}(hn : -4000<=n/\n<=4000)(hb:bs.length<=800000){HS:ah}{k:Nat}(hi:HS[0]? = some (aO k bs))(hk:HS[k]? = some (au bs))(hS:(HS.drop 2).take 20=iR S)(hd:(k==1||Nat.ble 22 k)=true){N:Nat}(hN:HS.length=N){HS':ah}(hh:bE HS (0::k::dm) (aO N (bs++fJ n) :: .dead::(iR S++[au (bs++fJ n)]))=HS')(hbd:Nat.blt HS'.length Mem.bound=true) :
 az.Sound prog ⟨122,[.one (.ptr 2 0),.one (.ptr 0 0),.one (.int .i64 n)],HS,.tup [],HS',0::k::dm⟩:=
 Nq (fun _ => .flat .nil) (.flat .nil) (Hq bs S n hn hb) hi hk hS hd hN hh hbd
def kB(B:List Bool):Nat->Int->Nat×Bool->Int×(Nat×Bool)
 | 0,x,r=>(x,r)
 | n+1,x,r=>kB B n (2*x+b2 (fF B r)) (ca B r)
def bT(B:List Bool)(n:Nat)(r:Nat×Bool):Int×(Nat×Bool):=(if(kB B n 0 r).2.2=true then 0 else(kB B n 0 r).1,(kB B n 0 r).2)
theorem IV{j:Nat}(h:j<=32):(2:Int)^j<=4294967296:=by
 have h1:=Nat.pow_le_pow_right (show 0<2 by decide) h;have h2:((2^j:Nat):Int)<=((2^32:Nat):Int):=Int.ofNat_le.2 h1;rw[Int.natCast_pow]at h2;exact h2
theorem FH{L:List Int}{B:List Bool}(h:eX L B)(r:Nat×Bool)(n:Nat)(hn:n<=32) :
 bq prog 69 [.one (.ptr 0 0),.one (.int .i64 (n:Nat))] (RH L B r.1 r.2) (.one (.int .u64 (bT B n r).1)) (RH L B (bT B n r).2.1 (bT B n r).2.2):=by
 obtain⟨q,hq⟩:∃q,kB B n 0 r=q:=⟨_,rfl⟩
 unfold bT;rw[hq];refine cO Tryz.func69 ?_
 repeat' (first|refine zz ?_|refine zx (fun _=>?_) (fun _=>?_)|fail)
 refine WX.cj (σ:=Nat×Int×(Nat×Bool)) (fun s=>[(8,.one (.int .i64 (s.1:Nat))),(5,.one (.int .u64 s.2.1)),(0,.one (.ptr 0 0)),(7,.one (.int .i64 (n:Nat)))]) (fun s=>RH L B s.2.2.1 s.2.2.2) (fun s=>s.1<=n/\0<=s.2.1/\s.2.1<2^s.1/\kB B (n-s.1) s.2.1 s.2.2=q) (fun s=>n-s.1) (0,0,r) ⟨by show 0<=n;omega,by show(0:Int)<=0;omega,by show(0:Int)<2^0;decide,by show kB B (n-0) 0 r=q;rw[Nat.sub_zero];exact hq⟩ (fun s _=>nf) (bV [0,1]) ?_;intro s ⟨h1,h2,h3,h4⟩ ih;have hp:=IV (j:=s.1) (by omega)
 by_cases hlt:s.1<n
 ·have hb:=Qq (fF B s.2.2);have hio:ya .u64 (s.2.1*2^1) (b2 (fF B s.2.2))=2*s.2.1+b2 (fF B s.2.2):=HT .u64 rfl h2 (by omega) hb (fun y g0 g1=>fZ (k := .u64) ⟨by show 0<=y;omega,by show y<18446744073709551616;omega⟩)
  obtain⟨k,hk⟩:∃k,n-s.1=k+1:=⟨n-s.1-1,by omega⟩
  rw[hk,kB]at h4
  repeat' (first
   |(refine qz ?_;first
    |refine Jt (n:=1) ?_
    |refine cl ?_ (hi:=by exact td h s.2.2 rfl rfl rfl (by decide) nL rfl))
   |refine zz ?_|refine zx (fun _=>?_) (fun _=>?_)|fail)
  refine ih (s.1+1,2*s.2.1+b2 (fF B s.2.2),ca B s.2.2) _ _ _ (bV [0,1] (reg:=by(repeat' (first|exact ai.nil|refine ai.flat (by rw[<-hio];rfl) ?_|refine rz ?_|refine ai.sl rfl (by assumption) rfl ?_));first|done|fail)) ⟨by show s.1+1<=n;omega,by show 0<=2*s.2.1+b2 (fF B s.2.2);omega,?_,?_⟩ (by show n-(s.1+1)<n-s.1;omega)
  ·show 2*s.2.1+b2 (fF B s.2.2)<2^(s.1+1);rw[Int.pow_succ];omega
  ·show kB B (n-(s.1+1)) (2*s.2.1+b2 (fF B s.2.2)) (ca B s.2.2)=q;rw[show n-(s.1+1)=k by omega];exact h4
 ·have e0:n-s.1=0:=by omega
  rw[e0,kB]at h4;subst h4
  repeat' (first
   |(refine qz ?_;first
    |refine BE (fun ge=>?_) (fun ge=>?_) (hi:=by exact xd rfl rfl (by decide) rfl))
   |refine zz ?_|refine zx (fun _=>?_) (fun _=>?_)|fail)
  ·rw[if_pos ge];show aE _ _ _ _ _ _ _ _;refine kV [0,1] ?_;rfl
  ·rw[if_neg (by rw[ge];decide)];show aE _ _ _ _ _ _ _ _;refine kV [0,1] ?_;rfl
theorem I7{L:List Int}{B:List Bool}(h:eX L B)(r:Nat×Bool){n:Nat}{z:Int}(hz:z=(n:Nat))(hn:n<=32){HS:ah}{i k:Nat}(hi:HS[i]? = some (gD k L B r.1 r.2))(hk:HS[k]? = some (dP L))(hd:i≠k){HS':ah}(hh:HS.set i (gD k L B (bT B n r).2.1 (bT B n r).2.2)=HS')(hbd:Nat.blt HS'.length Mem.bound=true) :
 az.Sound prog ⟨69,[.one (.ptr i 0),.one (.int .i64 z)],HS,.one (.int .u64 (bT B n r).1),HS',[i]⟩:=by
 subst hz;exact FG (fun _ => .flat .nil) (.flat .nil) (FH h r n hn) hi hk hd hh hbd
theorem xb(n:Int):∀(k:Nat) (x:Int) (pre rest:List Bool),kB (pre++(aI n k++rest)) k x (pre.length,false)=(x*2^k+n%2^k,(pre.length+k,false))
 | 0,x,pre,rest=>by simp[kB]
 | k + 1,x,pre,rest=>by
   rw[kB,aI];obtain⟨a1,a2⟩:=OC pre (decide (n/2^k%2=1)) (aI n k++rest);rw[List.cons_append,a1,a2];have e1:pre++(decide (n/2^k%2=1)::(aI n k++rest))=(pre++[decide (n/2^k%2=1)])++(aI n k++rest):=by simp
   have e2:(pre.length+1,false)=((pre++[decide (n/2^k%2=1)]).length,false):=by simp
   rw[e1,e2,xb n k];have h2:(0:Int)<2^k:=Int.pow_pos (by decide)
   have hm:n%2^(k+1)=(n/2^k%2)*2^k+n%2^k:=by
    rw[Int.pow_succ];have h3:=Int.emod_add_mul_ediv n (2^k);have h4:=Int.emod_add_mul_ediv (n/2^k) 2;have h5:=Int.emod_nonneg n (show(2:Int)^k≠0 by omega);have h6:=Int.emod_lt_of_pos n h2;have h7:0<=n/2^k%2/\n/2^k%2<=1:=by omega
    have h8:n=(2^k*2)*(n/2^k/2)+((n/2^k%2)*2^k+n%2^k):=by
     have:2^k*(n/2^k)=2^k*(n/2^k%2)+2^k*(2*(n/2^k/2)):=by rw[<-Int.mul_add,h4]
     have e:2^k*(2*(n/2^k/2))=(2^k*2)*(n/2^k/2):=by rw[Int.mul_assoc]
     have e':2^k*(n/2^k%2)=(n/2^k%2)*2^k:=Int.mul_comm _ _;omega
    have h9:0<=(n/2^k%2)*2^k+n%2^k/\(n/2^k%2)*2^k+n%2^k<2^k*2:=by
     rcases(show n/2^k%2=0\/n/2^k%2=1 by omega)with e|e<;>rw[e]<;>omega
    have h10:=Int.emod_eq_of_lt h9.1 h9.2;rw[<-h10]
    conv=>lhs;rw[h8,Int.add_comm,Int.add_mul_emod_self_left]
   have hb:b2 (decide (n/2^k%2=1))=n/2^k%2:=by
    unfold b2
    by_cases h:n/2^k%2=1
    ·rw[decide_eq_true h,h];rfl
    ·rw[decide_eq_false h];have:n/2^k%2=0:=by omega
     rw[this];rfl
   rw[hb,hm];refine Prod.ext ?_ ?_
   ·show(2*x+n/2^k%2)*2^k+n%2^k=x*2^(k+1)+(n/2^k%2*2^k+n%2^k);rw[Int.pow_succ,Int.add_mul];have:2*x*2^k=x*(2^k*2):=by rw[Int.mul_comm 2 x,Int.mul_assoc,Int.mul_comm 2 (2^k)]
    omega
   ·show((pre++[_]).length+k,false)=(pre.length+(k+1),false);simp;omega
theorem EI{n:Int}{k:Nat}(hn:0<=n/\n<2^k)(pre rest:List Bool):bT (pre++(aI n k++rest)) k (pre.length,false)=(n,(pre.length+k,false)):=by
 unfold bT;rw[xb];simp only[Bool.false_eq_true,if_false,Int.zero_mul,Int.zero_add,Int.emod_eq_of_lt hn.1 hn.2]
structure lB(h:Hd):Prop where
 dims:lP h.cols h.rows
 yes:h.w=true->∀i,i<64->8<=h.a i/\8<=h.b i
 no:h.w=false->∀i,i<64->h.a i=0/\h.b i=0
theorem CC(h:Hd)(ho:lB h):bq prog 79 [.agg (dU h)] [] (.one (.int .i64 0)) []:=by
 obtain⟨w,hw⟩:∃w,h.w=w:=⟨_,rfl⟩
 have h0:(dU h)[0]? = some (.bool w):=by rw[<-hw];rfl
 refine cO Tryz.func79 ?_
 repeat' (first|refine zz ?_|refine zx (fun _=>?_) (fun _=>?_)|fail)
 refine WX.cj (σ:=Nat) (fun j=>[(4,.one (.int .i64 (j:Nat))),(1,.one (.ptr 0 0))]) (fun _=>[.cells (dU h) 24 false false]) (fun j=>j<=64) (fun j=>64-j) 0 (by omega) (fun s _=>nf) (bV [0]) ?_;intro j hj ih
 by_cases hj64:j<64
 ·have ga:=JC h hj64;have gb:=JD h hj64;cases w
  ·have hn:=ho.no hw j hj64
   repeat' (first
    |(refine qz ?_;first
     |refine ld (hc:=h0) ?_
     |refine ld (hc:=ga) ?_
     |refine ld (hc:=gb) ?_)
    |refine zz ?_|refine zx (fun _=>?_) (fun _=>?_)|fail)
   refine ih (j+1) _ _ _ (bV [0]) (by omega) (by omega)
  ·have hn:=ho.yes hw j hj64
   repeat' (first
    |(refine qz ?_;first
     |refine ld (hc:=h0) ?_
     |refine ld (hc:=ga) ?_
     |refine ld (hc:=gb) ?_)
    |refine zz ?_|refine zx (fun _=>?_) (fun _=>?_)|fail)
   refine ih (j+1) _ _ _ (bV [0]) (by omega) (by omega)
 ·repeat' (first|refine zz ?_|refine zx (fun _=>?_) (fun _=>?_)|fail)
  show aE _ _ _ _ _ _ _ _;refine kV [] ?_;rfl
theorem Gd{h:Hd}(ho:lB h){HS:ah}(hb:Nat.blt HS.length Mem.bound=true):az.Sound prog ⟨79,[.agg (dU h)],HS,.one (.int .i64 0),HS,[]⟩:=
 ay (CC h ho) (by simp only[List.all_cons,List.all_nil,Bool.and_true];exact oM h) rfl hb
theorem BR(h:Hd)(ho:lB h):bq prog 45 [.agg (b7 h)] [] (.one (.int .i64 0)) []:=by
 have h1:=ho.dims.c0;have h2:=ho.dims.c1;have h3:=ho.dims.r0;have h4:=ho.dims.r1;refine cO Tryz.func45 ?_
 repeat' (first
  |(refine qz ?_;first
   |refine rG (cs:=dU h) ?_ (hle:=by rw[aD];decide) (hc:=Dz h)
   |refine cl ?_ (hi:=by exact Gd ho rfl))
  |refine zz ?_|refine zx (fun _=>?_) (fun _=>?_)|fail)
 show aE _ _ _ _ _ _ _ _;refine kV [] ?_;rfl
theorem j7{h:Hd}(ho:lB h){HS:ah}(hb:Nat.blt HS.length Mem.bound=true):az.Sound prog ⟨45,[.agg (b7 h)],HS,.one (.int .i64 0),HS,[]⟩:=
 ay (BR h ho) (by simp only[List.all_cons,List.all_nil,Bool.and_true];exact cN h) rfl hb
structure Ph where
 id:Int
 inter:Bool
 down:Bool
 qp:Int
def sn(p:Ph):List XC:=[.int .i64 p.id,.bool p.inter,.bool p.down,.int .i64 p.qp]
structure pA(p:Ph):Prop where
 id:0<=p.id/\p.id<=65535
 qp:1<=p.qp/\p.qp<=31
 down:p.down=true->p.inter=true
instance RJ (p:Ph):bZ (.agg (sn p)):=eI rfl
theorem Cb(p:Ph)(ho:pA p):bq prog 56 [.agg (sn p)] [] (.one (.int .i64 0)) []:=by
 have h1:=ho.id;have h2:=ho.qp
 obtain⟨d,hd⟩:∃d,p.down=d:=⟨_,rfl⟩
 have hl:(sn p)[2]? = some (.bool d):=by rw[<-hd];rfl
 cases d
 ·refine cO Tryz.func56 ?_
  repeat' (first
   |(refine qz ?_;first
    |refine ld (hc:=hl) ?_)
   |refine zz ?_|refine zx (fun _=>?_) (fun _=>?_)|fail)
  show aE _ _ _ _ _ _ _ _;refine kV [] ?_;rfl
 ·have hi:=ho.down hd;have hl2:(sn p)[1]? = some (.bool true):=by rw[<-hi];rfl
  refine cO Tryz.func56 ?_
  repeat' (first
   |(refine qz ?_;first
    |refine ld (hc:=hl) ?_
    |refine ld (hc:=hl2) ?_)
   |refine zz ?_|refine zx (fun _=>?_) (fun _=>?_)|fail)
  show aE _ _ _ _ _ _ _ _;refine kV [] ?_;rfl
theorem j9{p:Ph}(ho:pA p){HS:ah}(hb:Nat.blt HS.length Mem.bound=true):az.Sound prog ⟨56,[.agg (sn p)],HS,.one (.int .i64 0),HS,[]⟩:=
 ay (Cb p ho) rfl rfl hb
theorem Mz{cols rows:Int}(h:lP cols rows){HS:ah}{N:Nat}(hN:HS.length=N){HS':ah}(hh:HS++[fA (N+1) cols rows,.map (cB [])]=HS')(hbd:Nat.blt HS'.length Mem.bound=true) :
 az.Sound prog ⟨83,[.one (.int .i64 cols),.one (.int .i64 rows)],HS,.one (.ptr N 0),HS',[]⟩:=by
 subst hN;refine bz (os:=[fA (HS.length+1) cols rows,.map (cB [])]) [] [] 2 (J3 cols rows h) (by simp) .nil .nil ?_ rfl (.flat (.flat .nil)) (.flat (.flat .nil)) (by show 0<2;omega) rfl ?_ rfl rfl hh hbd (.inl rfl)
 ·exact .cons (by simp[aj.bH,XC.ok]) (.flat .nil)
 ·exact .cons rfl (.flat .nil)
abbrev G8(h:Hd)(p:Ph):ah:=[.cells [.ptr 0 0,.int .i64 p.id,.bool p.inter,.bool p.down,.int .i64 p.qp,.int .i64 p.qp,.ptr 14 0,.ptr 16 0] 157 false false,fA 15 h.cols h.rows,.map (cB []),.cells [.int .i64 h.cols,.int .i64 h.rows,.map 17,.map 18,.map 19] 220 false false,.map (aq []),.map (aq []),.map (aq [])]
theorem EH(h:Hd)(p:Ph)(ho:lB h):bq prog 61 [.one (.ptr 0 0),.agg (b7 h),.agg (sn p)] [eZ 1 5 9,aW 2 3 4 cM,c6 cM,c9 cM,c7 cM,aW 6 7 8 cZ,c6 cZ,c9 cZ,c7 cZ,aW 10 11 12 cP,c6 cP,c9 cP,c7 cP] (.one (.ptr 13 0)) ([eZ 1 5 9,aW 2 3 4 cM,c6 cM,c9 cM,c7 cM,aW 6 7 8 cZ,c6 cZ,c9 cZ,c7 cZ,aW 10 11 12 cP,c6 cP,c9 cP,c7 cP]++G8 h p):=by
 have h1:=ho.dims.c0;have h2:=ho.dims.c1;have h3:=ho.dims.r0;have h4:=ho.dims.r1;refine cO Tryz.func61 ?_
 repeat' (first
  |(refine qz ?_;first
   |refine jV ?_ (hle:=by rfl)
   |refine cl ?_ (hi:=by exact Mz (cols:=h.cols) (rows:=h.rows) ho.dims nL (by first|(simp only[List.cons_append,List.nil_append];exact rfl)|exact rfl) rfl)
   |refine cl ?_ (hi:=by exact HQ (cols:=h.cols) (rows:=h.rows) (by omega) (by omega) nL (by first|(simp only[List.cons_append,List.nil_append];exact rfl)|exact rfl) rfl))
  |refine zz ?_|refine zx (fun _=>?_) (fun _=>?_)|fail)
 show aE _ _ _ _ _ _ _ _;refine kV [0,1,2,3,4,5,6,7,8,9,10,11,12,21,15,16,17,18,19,20] ?_;rfl
def kZ(B:List Bool):Nat->Nat->Int->Int
 | _,0,x=>x
 | r,n+1,x=>kZ B (r+1) n (2*x+b2 (B.getD r false))
theorem xc(B:List Bool):∀(n r:Nat) (x:Int),r+n<=B.length->kB B n x (r,false)=(kZ B r n x,(r+n,false))
 | 0,r,x,h=>rfl
 | n + 1,r,x,h=>by
   have e1:fF B (r,false)=B.getD r false:=by simp[fF]
   have e2:ca B (r,false)=(r+1,false):=by
    unfold ca;rw[if_neg Bool.noConfusion,if_pos (by show r<B.length;omega)]
   rw[kB,e1,e2,xc B n (r+1) _ (by omega),kZ,show r+1+n=r+(n+1) by omega]
theorem mw{B:List Bool}{n r:Nat}(h:r+n<=B.length):bT B n (r,false)=(kZ B r n 0,(r+n,false)):=by
 unfold bT;rw[xc B n r 0 h,if_neg Bool.noConfusion]
theorem Bx(b:Bool):0<=b2 b/\b2 b<=1:=by cases b<;>decide
theorem vp(B:List Bool):∀(n r:Nat) (x:Int),kZ B r n x/2^n=x
 | 0,r,x=>by show x/2^0=x;simp
 | n+1,r,x=>by
   rw[kZ,Int.pow_succ,<-Int.ediv_ediv_of_nonneg (Int.le_of_lt (Int.pow_pos (by decide))),vp B n];have:=Bx (B.getD r false);omega
theorem vo(B:List Bool):∀(n r:Nat) (x:Int) (i:Nat),i<n->kZ B r n x/2^(n-1-i)%2=b2 (B.getD (r+i) false)
 | 0,r,x,i,h=>absurd h (Nat.not_lt_zero _)
 | n+1,r,x,0,h=>by
   rw[kZ,show n+1-1-0=n by omega,vp,Nat.add_zero];have:=Bx (B.getD r false);omega
 | n+1,r,x,i+1,h=>by
   rw[kZ,show n+1-1-(i+1)=n-1-i by omega,vo B n (r+1) _ i (by omega),show r+1+i=r+(i+1) by omega]
theorem JR(B:List Bool)(r:Nat):0<=kZ B r 7 0/\kZ B r 7 0<128:=by
 have h:=vp B 7 r 0;have e:(2:Int)^7=128:=by decide
 rw[e]at h;omega
def Cm(B:List Bool)(i:Nat):Int:=128+(bT B 7 (7*i,false)).1
def o6(B:List Bool):Nat->List Int
 | 0=>[]
 | k+1=>o6 B k++[Cm B k]
theorem fz(B:List Bool):∀k,(o6 B k).length=k
 | 0=>rfl
 | k+1=>by rw[o6,List.length_append,fz B k];rfl
theorem DY(B:List Bool):∀k i,i<k->(o6 B k).getD i 0=Cm B i
 | 0,i,h=>absurd h (Nat.not_lt_zero _)
 | k + 1,i,h=>by
   rw[o6,List.getD_eq_getElem?_getD]
   by_cases hi:i<k
   ·rw[List.getElem?_append_left (by rw[fz];exact hi),<-List.getD_eq_getElem?_getD];exact DY B k i hi
   ·obtain rfl:i=k:=by omega
    rw[List.getElem?_append_right (by rw[fz];exact Nat.le_refl _),fz,Nat.sub_self];rfl
def eo(B:List Bool)(x y:List Int):List Int:=(([0,0,1,182]++o6 B 17)++x)++y
theorem gq(B:List Bool)(x y:List Int):(eo B x y).length=21+x.length+y.length:=by
 simp only[eo,List.length_append,fz,List.length_cons,List.length_nil]
theorem z_(B:List Bool)(x y:List Int){i:Nat}(hi:i<17):(eo B x y).getD (4+i) 0=Cm B i:=by
 unfold eo;rw[List.append_assoc,List.append_assoc,List.getD_eq_getElem?_getD,List.getElem?_append_right (by show 4<=4+i;omega),show 4+i-([0,0,1,182]:List Int).length=i by show 4+i-4=i;omega,List.getElem?_append_left (by rw[fz];exact hi),<-List.getD_eq_getElem?_getD];exact DY B 17 i hi
def Oy(p:List Int)(j:Nat):Int:=p.getD (4+j/7) 0/2^(6-j%7)%2
def I2(p:List Int)(o:Nat):Nat->Int
 | 0=>0
 | k+1=>2*I2 p o k+Oy p (o+k)
def rL(p:List Int):Int×Int:=(I2 p 37 16,I2 p 53 16)
theorem Rb:∀(k:Fin 7),∃q:Int,128=2^k.val*(2*q):=fun k=>⟨64/2^k.val,by revert k;decide⟩
theorem Fm{B:List Bool}(hB:119<=B.length)(x y:List Int){j:Nat}(hj:j<119):Oy (eo B x y) j=b2 (B.getD j false):=by
 unfold Oy;rw[z_ B x y (show j/7<17 by omega)];unfold Cm;rw[mw (by omega)];have h:=vo B 7 (7*(j/7)) 0 (j%7) (by omega);rw[show 7*(j/7)+j%7=j by omega,show 7-1-j%7=6-j%7 by omega]at h;rw[<-h];obtain⟨q,hq⟩:=Rb ⟨6-j%7,by omega⟩;have hq:(128:Int)=2^(6-j%7)*(2*q):=hq;have hp:(0:Int)<2^(6-j%7):=Int.pow_pos (by decide);show(128+kZ B (7*(j/7)) 7 0)/2^(6-j%7)%2=kZ B (7*(j/7)) 7 0/2^(6-j%7)%2;rw[hq,Int.add_comm,Int.add_mul_ediv_left _ _ (by omega)];omega
theorem uV(n:Int):∀(k i:Nat),i<k->(aI n k).getD i false=decide (n/2^(k-1-i)%2=1)
 | 0,i,h=>absurd h (Nat.not_lt_zero _)
 | k+1,0,h=>rfl
 | k+1,i+1,h=>by
   rw[aI,List.getD_cons_succ,uV n k i (by omega),show k+1-1-(i+1)=k-1-i by omega]
theorem uY{pre rest:List Bool}{n:Int}(hn:0<=n/\n<65536)(x y:List Int)(hB:119<=(pre++(aI n 16++rest)).length)(hp:pre.length+16<=119):∀k,k<=16->I2 (eo (pre++(aI n 16++rest)) x y) pre.length k=n/2^(16-k)
 | 0,_=>by
   show 0=n/2^16;have e:(2:Int)^16=65536:=by decide
   rw[e];omega
 | k + 1,hk=>by
   have hget:(pre++(aI n 16++rest)).getD (pre.length+k) false=decide (n/2^(15-k)%2=1):=by
    rw[List.getD_eq_getElem?_getD,List.getElem?_append_right (by omega),Nat.add_sub_cancel_left,List.getElem?_append_left (by rw[aQ];omega),<-List.getD_eq_getElem?_getD,uV n 16 k (by omega)]
   rw[I2,uY hn x y hB hp k (by omega),Fm hB x y (by omega),hget,show 16-k=(15-k)+1 by omega,show 16-(k+1)=15-k by omega,Int.pow_succ,<-Int.ediv_ediv_of_nonneg (Int.le_of_lt (Int.pow_pos (by decide)))];unfold b2;split
   ·rename_i h;have h:=of_decide_eq_true h;omega
   ·rename_i h;have h:¬_:=fun g=>h (decide_eq_true g)
    omega
def fP(p:Ph)(first count la lb sa sb:Int):List Bool:=((((((((([]++aI p.id 16)++[p.inter])++[p.down])++aI p.qp 5)++aI first 7)++aI count 7)++aI la 16)++aI lb 16)++aI sa 16)++aI sb 16
def ku(p:Ph)(first count la lb sa sb su:Int):List Bool:=(fP p first count la lb sa sb++aI su 16)++aI 0 2
theorem rQ(p:Ph)(first count la lb sa sb:Int):(fP p first count la lb sa sb).length=101:=by
 simp only[fP,List.length_append,aQ,List.length_cons,List.length_nil]
theorem rE(p:Ph)(first count la lb sa sb su:Int):(ku p first count la lb sa sb su).length=119:=by
 simp only[ku,rQ,List.length_append,aQ]
theorem Af{p:Ph}{first count la lb sa sb su:Int}(ha:0<=la/\la<65536)(hb:0<=lb/\lb<65536)(x y:List Int):rL (eo (ku p first count la lb sa sb su) x y)=(la,lb):=by
 have hl:=rE p first count la lb sa sb su
 have e1:ku p first count la lb sa sb su=((((([]++aI p.id 16)++[p.inter])++[p.down])++aI p.qp 5++aI first 7)++aI count 7)++(aI la 16++(((aI lb 16++aI sa 16)++aI sb 16++aI su 16)++aI 0 2)):=by
  simp only[ku,fP,List.append_assoc]
 have e2:ku p first count la lb sa sb su=(((((([]++aI p.id 16)++[p.inter])++[p.down])++aI p.qp 5++aI first 7)++aI count 7)++aI la 16)++(aI lb 16++((aI sa 16++aI sb 16++aI su 16)++aI 0 2)):=by
  simp only[ku,fP,List.append_assoc]
 unfold rL;refine Prod.ext ?_ ?_
 ·have h:=uY ha x y (by rw[<-e1];omega) (by simp only[List.length_append,aQ,List.length_cons,List.length_nil];omega) 16 (Nat.le_refl _);rw[<-e1]at h;simp only[List.length_append,aQ,List.length_cons,List.length_nil]at h;exact h.trans (by simp)
 ·have h:=uY hb x y (by rw[<-e2];omega) (by simp only[List.length_append,aQ,List.length_cons,List.length_nil];omega) 16 (Nat.le_refl _);rw[<-e2]at h;simp only[List.length_append,aQ,List.length_cons,List.length_nil]at h;exact h.trans (by simp)
theorem rJ{HS:ah}{N:Nat}(hN:HS.length=N){HS':ah}(hh:HS++[.cells (il .u8 [0,0,1]) 5 false false]=HS')(hbd:Nat.blt HS'.length Mem.bound=true) :
 az.Sound prog ⟨50,[],HS,.one (.slice N 0 3 (.exact 3)),HS',[]⟩:=by
 subst hN;exact bz [] [] 1 B0 (by simp) .nil .nil (.flat .nil) rfl .nil .nil (by show 0<1;omega) rfl (.flat .nil) rfl rfl hh hbd (.inl rfl)
def Nh(bs:List Bool)(p:Ph):List Bool:=(((bs++aI p.id 16)++[p.inter])++[p.down])++aI p.qp 5
theorem Fp(p:Ph)(hp:pA p)(bs:List Bool)(hb:bs.length<=100000) :
 bq prog 65 [.agg (sn p),.one (.ptr 0 0)] (WH bs) (.one (.int .i64 0)) (KJ (Nh bs p)):=by
 have hid:=hp.id;have hqp:=hp.qp;have e1:(bs++aI p.id 16).length=bs.length+16:=by rw[List.length_append,aQ]
 have e2:((bs++aI p.id 16)++[p.inter]).length=bs.length+17:=by rw[List.length_append,e1];rfl
 have e3:(((bs++aI p.id 16)++[p.inter])++[p.down]).length=bs.length+18:=by rw[List.length_append,e2];rfl
 refine cO Tryz.func65 ?_
 repeat' (first
  |(refine qz ?_;first
   |refine cl ?_ (hi:=by exact j9 hp rfl)
   |refine cl ?_ (hi:=by exact fj (size:=16) rfl (bs:=bs) (by omega) (by decide) (by omega) (i:=0) (k:=1) rfl rfl (by decide) nL nA rfl)
   |refine cl ?_ (hi:=by exact jB (bs:=bs++aI p.id 16) (by omega) (i:=0) (k:=3) rfl rfl (by decide) nL nA rfl)
   |refine cl ?_ (hi:=by exact jB (bs:=(bs++aI p.id 16)++[p.inter]) (by omega) (i:=0) (k:=4) rfl rfl (by decide) nL nA rfl)
   |refine cl ?_ (hi:=by exact fj (size:=5) rfl (bs:=((bs++aI p.id 16)++[p.inter])++[p.down]) (by omega) (by decide) (by omega) (i:=0) (k:=5) rfl rfl (by decide) nL nA rfl))
  |refine zz ?_|refine zx (fun _=>?_) (fun _=>?_)|fail)
 show aE _ _ _ _ _ _ _ _;refine kV [0,1,6] ?_;rfl
theorem II{p:Ph}(hp:pA p){bs:List Bool}(hb:bs.length<=100000){HS:ah}{i k:Nat}(hi:HS[i]? = some (aO k bs))(hk:HS[k]? = some (au bs))(hd:i≠k){N:Nat}(hN:HS.length=N){HS':ah}(hh:bE HS [i,k] [aO N (Nh bs p),.dead,au (Nh bs p)]=HS')(hbd:Nat.blt HS'.length Mem.bound=true) :
 az.Sound prog ⟨65,[.agg (sn p),.one (.ptr i 0)],HS,.one (.int .i64 0),HS',[i,k]⟩:=by
 subst hN;refine bz [i,k] [i,k] 1 (Fp p hp bs hb) (by simp[hd]) ?_ ?_ ?_ rfl (.flat (.cons (by simp[XV.bH,XC.ok]) .nil)) (.flat (.cons rfl .nil)) trivial rfl ?_ (Jc ..) rfl hh hbd (.inl rfl)
 ·exact af.ik hi rfl rfl rfl (.flat hk .nil)
 ·exact .cons (by simp[aj.bH,XC.ok,aJ]) (.flat .nil)
 ·exact .cons (by simp[aj.bH,XC.ok,aJ]) (.flat (.flat .nil))
 ·exact .cons (by simp only[aj.aB,List.map_cons,List.map_nil,XC.aB,aU];rfl) (.flat (.flat .nil))
abbrev Q_(p:Ph)(first count:Int)(c d:XC):List XC:=[.int .i64 p.id,.bool p.inter,.bool p.down,.int .i64 p.qp,.int .i64 first,.int .i64 count,c,d]
structure xI(p:Ph)(first count:Int)(la lb:Nat)(all:Int):Prop where
 ph:pA p
 fst:0<=first
 cnt:1<=count
 fit:first+count<=all
 most:all<=64
 a:1<=la/\la<=30000
 b:1<=lb/\lb<=30000
theorem Ak{p:Ph}{first count all:Int}{la lb:Nat}(hk:xI p first count la lb all)(oa ob:aj)[cu oa][cu ob] :
 bq prog 64 [.agg (Q_ p first count (.slice 0 0 la (.toEnd 1)) (.slice 1 0 lb (.toEnd 1))),.one (.int .i64 all)] [oa,ob] (.one (.int .i64 0)) [oa,ob]:=by
 obtain⟨hph,hf,hc,hfit,hall,ha,hb⟩:=hk;refine cO Tryz.func64 ?_
 repeat' (first
  |(refine qz ?_;first
   |refine rG (cs:=sn p) ?_ (hle:=by decide) (hc:=by exact rfl)
   |refine cl ?_ (hi:=by exact j9 hph rfl))
  |refine zz ?_|refine zx (fun _=>?_) (fun _=>?_)|fail)
 show aE _ _ _ _ _ _ _ _;refine kV [0,1] ?_;rfl
theorem uM{p:Ph}{first count all:Int}{la lb:Nat}(hk:xI p first count la lb all){oa ob:aj}[cu oa][cu ob]{HS:ah}{i j:Nat}(hi:HS[i]? = some oa)(hj:HS[j]? = some ob)(hd:i≠j)(hb:Nat.blt HS.length Mem.bound=true) :
 az.Sound prog ⟨64,[.agg (Q_ p first count (.slice i 0 la (.toEnd 1)) (.slice j 0 lb (.toEnd 1))),.one (.int .i64 all)],HS,.one (.int .i64 0),HS,[]⟩:=by
 refine fM [i,j] (Ak hk oa ob) (by simp[hd]) (.flat hi (.flat hj .nil)) (.flat (.flat .nil)) (.cons ?_ (.flat .nil)) (.cons rfl (.flat .nil)) trivial rfl hb rfl;intro c hc;simp only[List.mem_cons,List.not_mem_nil,or_false]at hc
 rcases hc with rfl|rfl|rfl|rfl|rfl|rfl|rfl|rfl<;>first|trivial|(show(_:Nat)<2;omega)
theorem Q9:∀v:Fin 128,ya .u8 128 (v.val:Int)=128+(v.val:Int):=by decide +kernel
theorem Ov{v:Int}(h:0<=v/\v<128):ya .u8 128 v=128+v:=by
 have:=Q9 ⟨v.toNat,by omega⟩;rw[show((⟨v.toNat,by omega⟩:Fin 128).val:Int)=v by show(v.toNat:Int)=v;omega]at this;exact this
end Go.Proofs.YthdciapjllppjaaGreat
