/-
  A part of the proof: Scan, RunsOf, BlockPut, Sta, Sta2, Sta3, TabS, EvLaw, Blocks0.
-/
import Derived.Test.YthdciapjllppjaaGreatFaG
import Derived.Test.YthdciapjllppjaaGreatFaP
set_option maxRecDepth 10000
set_option maxHeartbeats 8000000
set_option linter.unusedVariables false
set_option linter.unusedSectionVars false
set_option linter.unusedSimpArgs false
open Go.Proofs.Tryz (prog)
namespace Go.Proofs.YthdciapjllppjaaGreat
open Go.Xm
variable [av]
def rk(o:Int)(f:Nat->Int)(i:Nat):Int:=f (CZ o i).toNat
theorem JI(k:IntKind)(g z:Nat->Int)(n:Nat):ti k n (u4 g z n)=ti k n g:=vP fun i hi=>by simp[u4,hi]
theorem KH{o:Int}(h:o=0\/o=1\/o=2)(f:Nat->Int):bm prog 126 [.one (.int .u8 o),.agg (ti .i64 64 f)] [] (.agg (ti .i64 64 (rk o f))) []:=by
 refine cO Tryz.func126 ?_
 repeat' (first
  |(refine qz ?_;first
   |refine cl ?_ (hi:=by exact Gz h rfl))
  |refine zz ?_|refine zx (fun _=>?_) (fun _=>?_)|fail)
 refine WX.bN (σ:=Nat) (fun j=>[(10,.one (.int .i64 (j:Nat))),(3,.one (.ptr 0 0)),(4,.one (.ptr 1 0)),(5,.one (.ptr 2 0)),(9,.agg (ti .i64 64 (CZ o)))]) (fun j=>[.cells (ti .i64 64 f) 104 false false,.cells (ti .i64 64 fun _=>0) 104 false false,.cells (ti .i64 64 (u4 (rk o f) (fun _=>0) j)) 104 false false]) (fun j=>j<=64) (fun j=>64-j) 0 (by omega) (fun s _=>mZ) (bq [0,1,2] (obj:=by(repeat' (first|exact af.nil|refine af.flat (by rw[qV];rfl) ?_|refine oz ?_));first|done|fail)) ?_;intro j hj ih
 by_cases hj64:j<64
 ·have hr:=EI h hj64;have hr':0<=CZ o (j:Int).toNat/\CZ o (j:Int).toNat<64:=hr
  repeat' (first
   |(refine qz ?_;first
    |refine RJ (n:=64) ?_)
   |refine zz ?_|refine zx (fun _=>?_) (fun _=>?_)|fail)
  refine ih (j+1) _ _ _ (bq [0,1,2] (obj:=by(repeat' (first|exact af.nil|refine af.flat (by rw[<-qU];rfl) ?_|refine oz ?_));first|done|fail)) (by omega) (by omega)
 ·obtain rfl:j=64:=by omega
  repeat' (first
   |(refine qz ?_;first
    |refine lg ?_ (hle:=by rw[aU])
    |refine tq ?_ (hs1:=by rw[aU]) (hs2:=by rw[aU]))
   |refine zz ?_|refine zx (fun _=>?_) (fun _=>?_)|fail)
  show aE _ _ _ _ _ _ _ _;refine kV [] ?_;rw[JI];rfl
theorem ze{o:Int}(h:o=0\/o=1\/o=2){f:Nat->Int}{HS:ah}(hb:Nat.blt HS.length Mem.bound=true):aA.Sound prog ⟨126,[.one (.int .u8 o),.agg (ti .i64 64 f)],HS,.agg (ti .i64 64 (rk o f)),HS,[]⟩:=
 ay (KH h f) (by show(true&&((ti .i64 64 f).all XC.shut&&true))=true;rw[ja];rfl) (ja _ _ _) hb
def ky(edge:Bool)(frm:Int):Int:=if edge=true/\frm=1 then 2 else if edge=true/\frm=2 then 1 else 0
theorem oT(edge:Bool)(frm:Int):ky edge frm=0\/ky edge frm=1\/ky edge frm=2:=by
 unfold ky;split
 ·exact .inr (.inr rfl)
 ·split
  ·exact .inr (.inl rfl)
  ·exact .inl rfl
theorem Gq(edge:Bool)(frm:Int):bm prog 125 [.one (.bool edge),.one (.int .u8 frm)] [] (.one (.int .u8 (ky edge frm))) []:=by
 cases edge
 all_goals
  refine cO Tryz.func125 ?_
  repeat' (first|refine zz ?_|refine zx (fun _=>?_) (fun _=>?_)|fail)
  all_goals
   show aE _ _ _ _ _ _ _ _;refine kV [] ?_;unfold ky;simp only[Bool.false_eq_true,true_and,false_and,if_false]
   repeat' split
   all_goals first
    | rfl
    | (exfalso;omega)
theorem u9{edge:Bool}{frm:Int}{HS:ah}(hb:Nat.blt HS.length Mem.bound=true):aA.Sound prog ⟨125,[.one (.bool edge),.one (.int .u8 frm)],HS,.one (.int .u8 (ky edge frm)),HS,[]⟩:=
 ay (Gq edge frm) rfl rfl hb
def Dg(m:Mb):Int:=if alone m=true then 1 else 0
theorem G9(m:Mb):bm prog 127 [.agg (mC m)] [] (.one (.int .i64 (Dg m))) []:=by
 unfold Dg;refine cO Tryz.func127 ?_
 repeat' (first
  |(refine qz ?_;first
   |refine lg ?_ (hle:=by rw[aY])
   |refine Ci (fun ga=>?_) (fun ga=>?_) (hi:=by exact qv rfl))
  |refine zz ?_|refine zx (fun _=>?_) (fun _=>?_)|fail)
 ·show aE _ _ _ _ _ _ _ _;refine kV [] ?_;rw[if_pos ga];rfl
 ·show aE _ _ _ _ _ _ _ _;refine kV [] ?_;rw[if_neg (by rw[ga];decide)];rfl
theorem KJ{m:Mb}{HS:ah}(hb:Nat.blt HS.length Mem.bound=true):aA.Sound prog ⟨127,[.agg (mC m)],HS,.one (.int .i64 (Dg m)),HS,[]⟩:=
 ay (G9 m) (by simp only[List.all_cons,List.all_nil,Bool.and_true];exact jQ m) rfl hb
end Go.Proofs.YthdciapjllppjaaGreat
namespace Go.Xm
variable [av]
variable {P:Program} {ops:Array Oper} {nt nI:Nat} {al:aL} {hs:ah} {o:Oper} {l:List Oper} {L:List aA} {K:List Ab->aL->ah->Prop} {d:Nat}
theorem Tu{t:TypeId}{a y:Operand}{i off:Nat}{c:XC}{cs cs':List XC}{e:TypeId}{hs':ah}(hk:SK P ops nt L l al hs' fun bs=>K (⟨true,.none,[i]⟩::bs))(hle:off<cs.length)(hv:cs.set off c=cs')(ho:o.op = .store t a y:=by exact rfl)(ht:aF P t 1:=by infer_instance)(hw:aw ops (rg al) o=some true:=by exact rfl)(hd:o.dst = .none:=by exact rfl)
 (ha:ag (rg al) a = .one (.ptr i off):=by exact rfl) (hy:cJ (ag (rg al) y)=some [c]:=by exact rfl) (hi:hs[i]? = some (bu e cs):=by exact rfl) (hh:hs.set i (bu e cs')=hs':=by first|(simp only[List.set_cons_succ,List.set_cons_zero];exact rfl)|exact rfl):SK P ops nt L (o::l) al hs K:=by
 have h1:bu e cs = .cells cs e true false:=bJ (fun hn=>by rw[hn]at hle;simp at hle)
 have h2:bu e cs' = .cells cs' e true false:=bJ (fun hn=>by
  have:=congrArg List.length hv;rw[List.length_set,hn]at this;simp at this;rw[this]at hle
  simp at hle)
 exact kD ho hw hd ha hy (hi.trans (congrArg some h1)) hle hv (by rw[<-h2];exact hh) hk
end Go.Xm
namespace Go.Proofs.YthdciapjllppjaaGreat
open Go.Xm
variable [av]
abbrev Ev:=Int×Int×Bool
def wJ(e:Ev):List XC:=[.int .i64 e.1,.int .i64 e.2.1,.bool e.2.2]
instance:nR wJ 3:=⟨fun _=>rfl,fun _=>rfl,by decide⟩
abbrev eK(l:List Ev):aj:=bu 265 (fl wJ l)
def lp(f:Nat->Int):Nat->Nat->Int->List Ev
 | 0,_,_=>[]
 | k+1,i,run=>if f i=0 then lp f k (i+1) (run+1)else(run,f i,false)::lp f k (i+1) 0
def kj:List Ev->List Ev
 | []=>[]
 | [e]=>[(e.1,e.2.1,true)]
 | e::e2::l=>e::kj (e2::l)
theorem iW:∀l:List Ev,(kj l).length=l.length
 | []=>rfl
 | [e]=>rfl
 | e::e2::l=>by simp only[kj,List.length_cons,iW (e2::l)]
theorem Eg(e:Ev)(l:List Ev):fl wJ (e::l) = .int .i64 e.1 :: .int .i64 e.2.1 :: .bool e.2.2::fl wJ l:=rfl
theorem uL:∀l:List Ev,l≠[]->(fl wJ l).set ((l.length-1)*3+2) (.bool true)=fl wJ (kj l)
 | [],h=>absurd rfl h
 | [e],_=>rfl
 | e::e2::l,_=>by
   have ih:=uL (e2::l) (by simp);rw[Eg e,kj,Eg e,<-ih];have:((e::e2::l).length-1)*3+2=((e2::l).length-1)*3+2+3:=by simp only[List.length_cons];omega
   rw[this];rfl
def jL(f:Nat->Int)(st:Nat):List Ev:=kj (lp f (64-st) st 0)
theorem ss(f:Nat->Int):∀(k i:Nat) (run:Int),(lp f k i run).length<=k
 | 0,_,_=>Nat.le_refl _
 | k+1,i,run=>by
   unfold lp;split
   ·have:=ss f k (i+1) (run+1);omega
   ·have:=ss f k (i+1) 0;simp only[List.length_cons];omega
theorem Kl(f:Nat->Int)(st:Nat)(hst:st<=64):bm prog 124 [.agg (ti .i64 64 f),.one (.int .i64 (st:Nat))] [] (dV 0 (jL f st).length 3) [eK (jL f st)]:=by
 refine cO Tryz.func124 ?_
 repeat' (first|refine zz ?_|refine zx (fun _=>?_) (fun _=>?_)|fail)
 refine WX.bU rfl ?_;refine WX.bN (σ:=Nat×Int×List Ev) (fun s=>[(7,.one (.int .i64 (s.1:Nat))),(6,.one (.int .i64 s.2.1)),(5,dV 1 s.2.2.length 3),(2,.one (.ptr 0 0))]) (fun s=>[.cells (ti .i64 64 f) 104 false false,eK s.2.2]) (fun s=>s.1<=64/\0<=s.2.1/\s.2.1<=s.1/\s.2.2.length<=s.1/\s.2.2++lp f (64-s.1) s.1 s.2.1=lp f (64-st) st 0) (fun s=>64-s.1) (st,0,[]) ⟨hst,Int.le_refl _,by show(0:Int)<=(st:Nat);omega,by show 0<=st;omega,rfl⟩ (fun s _=>mZ) (bq [0,1]) ?_;intro s ⟨h1,h2,h3,h4,h5⟩ ih
 by_cases h64:s.1<64
 ·obtain⟨k,hk⟩:∃k,64-s.1=k+1:=⟨63-s.1,by omega⟩
  have hk':64-(s.1+1)=k:=by omega
  rw[hk,lp]at h5
  by_cases hz:f s.1=0
  ·have hz':f (s.1:Int).toNat=0:=hz;rw[if_pos hz]at h5
   repeat' (first|refine zz ?_|refine zx (fun _=>?_) (fun _=>?_)|fail)
   refine ih (s.1+1,s.2.1+1,s.2.2) _ _ _ (bq [0,1]) ⟨by show s.1+1<=64;omega,by show 0<=s.2.1+1;omega,by show s.2.1+1<=((s.1+1:Nat):Int);omega,by show s.2.2.length<=s.1+1;omega,by show s.2.2++lp f (64-(s.1+1)) (s.1+1) (s.2.1+1)=_;rw[hk'];exact h5⟩ (by show 64-(s.1+1)<64-s.1;omega)
  ·have hz':¬f (s.1:Int).toNat=0:=hz;rw[if_neg hz]at h5
   repeat' (first
    |(refine qz ?_;first
     |refine uh (enc:=wJ) (a:=(s.2.1,f s.1,false)) ?_
     |refine xe (enc:=wJ) ?_)
    |refine zz ?_|refine zx (fun _=>?_) (fun _=>?_)|fail)
   refine ih (s.1+1,0,s.2.2++[(s.2.1,f s.1,false)]) _ _ _ (bq [0,3] (obj:=by(repeat' (first|exact af.nil|refine af.flat (by rw[List.length_append];rfl) ?_|refine oz ?_));first|done|fail)) ⟨by show s.1+1<=64;omega,by show(0:Int)<=0;omega,by show(0:Int)<=((s.1+1:Nat):Int);omega,by show(s.2.2++[_]).length<=s.1+1;simp;omega,by show(s.2.2++[(s.2.1,f s.1,false)])++lp f (64-(s.1+1)) (s.1+1) 0=_;rw[hk',List.append_assoc];exact h5⟩ (by show 64-(s.1+1)<64-s.1;omega)
 ·have e0:64-s.1=0:=by omega
  rw[e0,lp,List.append_nil]at h5;have e:jL f st=kj s.2.2:=by rw[jL,<-h5]
  rw[e]
  by_cases hn:s.2.2.length=0
  ·have hs0:s.2.2 = []:=List.length_eq_zero_iff.1 hn;rw[hs0]
   repeat' (first|refine zz ?_|refine zx (fun _=>?_) (fun _=>?_)|fail)
   show aE _ _ _ _ _ _ _ _;refine kV [1] ?_;rfl
  ·have hset:(fl wJ s.2.2).set ((((s.2.2.length:Nat):Int)-1).toNat*3+2) (.bool true)=fl wJ (kj s.2.2):=by
    rw[show(((s.2.2.length:Nat):Int)-1).toNat=s.2.2.length-1 by omega];exact uL _ (fun h=>hn (by rw[h];rfl))
   have hle:(((s.2.2.length:Nat):Int)-1).toNat*3+2<(fl wJ s.2.2).length:=by
    rw[uA];omega
   repeat' (first
    |(refine qz ?_;first
     |refine Tu ?_ hle hset)
    |refine zz ?_|refine zx (fun _=>?_) (fun _=>?_)|fail)
   show aE _ _ _ _ _ _ _ _;refine kV [1] ?_;rw[dB,iW];rfl
theorem Na{f:Nat->Int}{st:Nat}{z:Int}(hz:z=(st:Nat))(hst:st<=64){HS:ah}{N:Nat}(hN:HS.length=N){HS':ah}(hh:HS++[eK (jL f st)]=HS')(hbd:Nat.blt HS'.length Mem.bound=true) :
 aA.Sound prog ⟨124,[.agg (ti .i64 64 f),.one (.int .i64 z)],HS,dV N (jL f st).length 3,HS',[]⟩:=by
 subst hN;subst hz;refine bh (os:=[eK (jL f st)]) [] [] 1 (Kl f st hst) (by simp) .nil .nil ?_ rfl (.flat (.flat .nil)) (.flat (.flat .nil)) (iF (Nat.le_of_ble_eq_true rfl)) (dB ..) ?_ ?_ rfl hh hbd (.inl rfl)
 ·exact .flat .nil
 ·exact .flat .nil
 ·unfold eK;cases fl wJ (jL f st)<;>rfl
def lh(l e:Nat->Int)(i:Nat):Prop:=l i-e i < -2047\/2047<l i-e i
open Classical in
noncomputable def pz(l e:Nat->Int):Option (Nat->Int):=if ∃i,i<64/\lh l e i then none else some fun i=>l i-e i
noncomputable def Ju(o:Option (Nat->Int)):XV := .tup [.agg (ti .i64 64 (o.getD fun _=>0)),.one (.bool o.isSome)]
theorem CE(o:Option (Nat->Int)):(Ju o).shut=true:=by
 show((ti .i64 64 (o.getD fun _=>0)).all XC.shut&&(true&&true))=true;rw[ja];rfl
theorem Jv(l e:Nat->Int)(hl:∀i,-1000000<=l i/\l i<=1000000)(he:∀i,-1000000<=e i/\e i<=1000000):bm prog 120 [.agg (ti .i64 64 l),.agg (ti .i64 64 e)] [] (Ju (pz l e)) []:=by
 refine cO Tryz.func120 ?_
 repeat' (first
  |(refine qz ?_;first
   |refine lg ?_ (hle:=by rw[aU]))
  |refine zz ?_|refine zx (fun _=>?_) (fun _=>?_)|fail)
 refine WX.bN (σ:=Nat) (fun j=>[(9,.one (.int .i64 (j:Nat))),(2,.one (.ptr 0 0)),(4,.one (.ptr 1 0)),(8,.agg (ti .i64 64 e))]) (fun j=>[.cells (ti .i64 64 (u4 (fun i=>l i-e i) l j)) 104 false false,.cells (ti .i64 64 fun _=>0) 104 false false]) (fun j=>j<=64/\∀i,i<j->¬lh l e i) (fun j=>64-j) 0 ⟨by omega,fun i hi=>by omega⟩ (fun s _=>mZ) (bq [0,2] (obj:=by(repeat' (first|exact af.nil|refine af.flat (by rw[qV];rfl) ?_|refine oz ?_));first|done|fail)) ?_;intro j ⟨hj,hall⟩ ih
 by_cases hj64:j<64
 ·have a1:=hl j;have a2:=he j;have a2':=he (j:Int).toNat;have e1:e (j:Int).toNat=e j:=rfl;have em:u4 (fun i=>l i-e i) l j j=l j:=by simp[u4]
  have eu:gX (u4 (fun i=>l i-e i) l j) j (u4 (fun i=>l i-e i) l j j-e (j:Int).toNat) j=u4 (fun i=>l i-e i) l j j-e (j:Int).toNat:=by simp[gX]
  by_cases hb:lh l e j
  ·have hb':=hb;unfold lh at hb';have e0:pz l e=none:=if_pos ⟨j,hj64,hb⟩;rw[e0]
   repeat' (first
    |(refine qz ?_;first
     |refine RJ (n:=64) ?_
     |refine tq ?_ (hs1:=by rw[aU]) (hs2:=by rw[aU]))
    |refine zz ?_|refine zx (fun _=>?_) (fun _=>?_)|fail)
   all_goals
    first
     | (exfalso;omega)
     | (show aE _ _ _ _ _ _ _ _;refine kV [] ?_;rfl)
  ·have hb':=hb;unfold lh at hb';have e2:u4 (fun i=>l i-e i) l j j-e (j:Int).toNat=l j-e j:=by rw[em,e1]
   repeat' (first
    |(refine qz ?_;first
     |refine RJ (n:=64) ?_)
    |refine zz ?_|refine zx (fun _=>?_) (fun _=>?_)|fail)
   refine ih (j+1) _ _ _ (bq [0,1] (obj:=by(repeat' (first|exact af.nil|refine af.flat (by rw[<-qU,e2];rfl) ?_|refine oz ?_));first|done|fail)) ⟨by omega,fun i hi=>?_⟩ (by omega)
   by_cases hij:i=j
   ·subst hij;exact hb
   ·exact hall i (by omega)
 ·obtain rfl:j=64:=by omega
  have e0:pz l e=some fun i=>l i-e i:=if_neg fun⟨i,hi,hb⟩=>hall i hi hb
  rw[e0]
  repeat' (first
   |(refine qz ?_;first
    |refine lg ?_ (hle:=by rw[aU])
    |refine tq ?_ (hs1:=by rw[aU]) (hs2:=by rw[aU]))
   |refine zz ?_|refine zx (fun _=>?_) (fun _=>?_)|fail)
  show aE _ _ _ _ _ _ _ _;refine kV [] ?_;rw[JI];rfl
theorem ME{l e:Nat->Int}(hl:∀i,-1000000<=l i/\l i<=1000000)(he:∀i,-1000000<=e i/\e i<=1000000){o:Option (Nat->Int)}(ho:pz l e=o){HS:ah}(hb:Nat.blt HS.length Mem.bound=true):aA.Sound prog ⟨120,[.agg (ti .i64 64 l),.agg (ti .i64 64 e)],HS,Ju o,HS,[]⟩:=by
 subst ho;exact ay (Jv l e hl he) (by show((ti .i64 64 l).all XC.shut&&((ti .i64 64 e).all XC.shut&&true))=true;rw[ja,ja];rfl) (CE _) hb
structure HQ(e:Ev):Prop where
 run:0<=e.1/\e.1<=63
 nz:e.2.1≠0
 lev : -2047<=e.2.1/\e.2.1<=2047
theorem y7(e:Ev)(h:HQ e):bm prog 145 [.agg (wJ e)] [] (.one (.bool true)) []:=by
 have h1:=h.run;have h2:=h.nz;have h3:=h.lev;refine cO Tryz.func145 ?_
 repeat' (first|refine zz ?_|refine zx (fun _=>?_) (fun _=>?_)|fail)
 show aE _ _ _ _ _ _ _ _;refine kV [] ?_;rfl
theorem sX{e:Ev}(h:HQ e){HS:ah}(hb:Nat.blt HS.length Mem.bound=true):aA.Sound prog ⟨145,[.agg (wJ e)],HS,.one (.bool true),HS,[]⟩:=
 ay (y7 e h) rfl rfl hb
structure qj(l:List Ev):Prop where
 len:0<l.length/\l.length<=64
 ok:∀j,j<l.length->HQ (l.getD j default)
 last:∀j,j<l.length->(l.getD j default).2.2=decide (j+1=l.length)
def Q0(e:Ev):List Bool:=eS (2*e.1+(if e.2.2 then 1 else 0))++eS (b7 e.2.1-1)
def gF(l:List Ev):List Bool:=l.flatMap Q0
theorem sZ{x:Int}(h : -2047<=x/\x<=2047)(h0:x≠0):1<=b7 x/\b7 x<=4094:=by unfold b7;split<;>omega
theorem Me{e:Ev}(h:HQ e):(Q0 e).length<=54:=by
 unfold Q0;have h1:=h.run;have h2:=sZ h.lev h.nz;have h3:=iY (2*e.1+(if e.2.2 then 1 else 0)) (by split<;>omega);have h4:=iY (b7 e.2.1-1) (by omega);rw[List.length_append];omega
theorem r9{l:List Ev}{j:Nat}(hj:j<l.length):gF (l.take (j+1))=gF (l.take j)++Q0 (l.getD j default):=by
 unfold gF;rw[List.take_add_one,List.flatMap_append,List.getD_eq_getElem?_getD,List.getElem?_eq_getElem hj];simp
theorem uy{l:List Ev}(h:qj l):∀j,j<=l.length->(gF (l.take j)).length<=54*j
 | 0,_=>by simp[gF]
 | j+1,hj=>by
   rw[r9 (by omega),List.length_append];have:=uy h j (by omega);have:=Me (h.ok j (by omega));omega
theorem Io(bs:List Bool)(l:List Ev)(h:qj l)(hb:bs.length<=800000) :
 bm prog 128 [.one (.ptr 0 0),dV 2 l.length 3] [aP 1 bs,au bs,eK l] (.one (.int .i64 0)) [aP 3 (bs++gF l),.dead,eK l,au (bs++gF l)]:=by
 have hlen:=h.len;refine cO Tryz.func128 ?_
 repeat' (first|refine zz ?_|refine zx (fun _=>?_) (fun _=>?_)|fail)
 refine WX.bN (σ:=Nat) (fun j=>[(22,.one (.int .i64 (j:Nat))),(0,.one (.ptr 0 0)),(1,dV 2 l.length 3),(20,dV 2 l.length 3),(21,.one (.int .i64 (l.length:Nat)))]) (fun _=>[aP 1 bs,au bs,eK l]) (fun j=>j<=l.length) (fun j=>l.length-j) 0 (by omega) (fun s _=>mZ) (bq [0,1,2]) ?_;intro j hj ih
 by_cases hjl:j<l.length
 ·have hok:=h.ok j hjl;have hlast:=h.last j hjl
  by_cases hl:j+1=l.length
  ·have hb2:(wJ (l.getD j default))[2]? = some (.bool true):=by
    show some (XC.bool (l.getD j default).2.2)=_;rw[hlast,decide_eq_true hl]
   repeat' (first
    |(refine qz ?_;first
     |refine RP (enc:=wJ) (j:=j) ?_
     |refine ld (hc:=hb2) ?_
     |refine cl ?_ (hi:=by exact sX hok rfl))
    |refine zz ?_|refine zx (fun _=>?_) (fun _=>?_)|fail)
   refine ih (j+1) _ _ _ (bq [0,1,2]) (by omega) (by omega)
  ·have hb2:(wJ (l.getD j default))[2]? = some (.bool false):=by
    show some (XC.bool (l.getD j default).2.2)=_;rw[hlast,decide_eq_false hl]
   repeat' (first
    |(refine qz ?_;first
     |refine RP (enc:=wJ) (j:=j) ?_
     |refine ld (hc:=hb2) ?_
     |refine cl ?_ (hi:=by exact sX hok rfl))
    |refine zz ?_|refine zx (fun _=>?_) (fun _=>?_)|fail)
   refine ih (j+1) _ _ _ (bq [0,1,2]) (by omega) (by omega)
 ·repeat' (first|refine zz ?_|refine zx (fun _=>?_) (fun _=>?_)|fail)
  refine WX.bN (σ:=Nat) (fun j=>[(43,.one (.int .i64 (j:Nat))),(0,.one (.ptr 0 0)),(41,dV 2 l.length 3),(42,.one (.int .i64 (l.length:Nat)))]) (fun j=>[aP 3 (bs++gF (l.take j)),.dead,eK l,au (bs++gF (l.take j))]) (fun j=>j<=l.length) (fun j=>l.length-j) 0 (by omega) (fun s _=>mZ) (bq [0,1,2,1] (obj:=by(repeat' (first|exact af.nil|refine af.flat (by rw[show gF (l.take 0) = []from rfl,List.append_nil];rfl) ?_|refine af.ig (by rw[show gF (l.take 0) = []from rfl,List.append_nil];rfl) rfl rfl rfl ?_|refine oz ?_));first|done|fail)) ?_;intro j2 hj2 ih2
  by_cases hjl2:j2<l.length
  ·have hok:=h.ok j2 hjl2;have hlast:=h.last j2 hjl2;have e1:=hok.run;have e2:=hok.lev;have e3:=sZ e2 hok.nz;have hB:=uy h j2 hj2;have hlB:(bs++gF (l.take j2)).length<=810000:=by rw[List.length_append];omega
   by_cases hl:j2+1=l.length
   ·have hb2:(wJ (l.getD j2 default))[2]? = some (.bool true):=by
     show some (XC.bool (l.getD j2 default).2.2)=_;rw[hlast,decide_eq_true hl]
    have hr:=iY (2*(l.getD j2 default).1+1) (by omega)
    have eB:gF (l.take (j2+1))=gF (l.take j2)++(eS (2*(l.getD j2 default).1+1)++eS (b7 (l.getD j2 default).2.1-1)):=by
     rw[r9 hjl2,Q0,hlast,decide_eq_true hl];rfl
    repeat' (first
     |(refine qz ?_;first
      |refine RP (enc:=wJ) (j:=j2) ?_
      |refine ld (hc:=hb2) ?_
      |refine cl ?_ (hi:=by exact sw (by omega) rfl)
      |refine cl ?_ (hi:=by exact iZ (v:=2*(l.getD j2 default).1+1) (bs:=bs++gF (l.take j2)) (by omega) (by omega) rfl rfl (by decide) nL nA rfl)
      |refine cl ?_ (hi:=by exact iZ (v:=b7 (l.getD j2 default).2.1-1) (bs:=(bs++gF (l.take j2))++eS (2*(l.getD j2 default).1+1)) (by omega) (by rw[List.length_append];omega) rfl rfl (by decide) nL nA rfl))
     |refine zz ?_|refine zx (fun _=>?_) (fun _=>?_)|refine bP (by first|exact ai.nil|exact ai.one _|exact ai.pC (by repeat' (first|exact True.intro|refine And.intro ?_ ?_|exact Compat.ne rfl|exact ep rfl))) ⟨by kernel_rfl,?_⟩|refine bP (by first|exact ai.nil|exact ai.one _|exact ai.pC (by repeat' (first|exact True.intro|refine And.intro ?_ ?_|exact Compat.ne rfl|exact ep rfl))) ?_|fail)
    have hE:bs++gF (l.take (j2+1))=bs++gF (l.take j2)++eS (2*(l.getD j2 default).1+1)++eS (b7 (l.getD j2 default).2.1-1):=by rw[eB];simp only[List.append_assoc]
    refine ih2 (j2+1) _ _ _ (bq [0,1,2,6] (obj:=by(repeat' (first|exact af.nil|refine af.flat (by rw[hE];rfl) ?_|refine af.ig (by rw[hE];rfl) rfl rfl rfl ?_|refine oz ?_));first|done|fail)) (by omega) (by omega)
   ·have hb2:(wJ (l.getD j2 default))[2]? = some (.bool false):=by
     show some (XC.bool (l.getD j2 default).2.2)=_;rw[hlast,decide_eq_false hl]
    have hr:=iY (2*(l.getD j2 default).1) (by omega)
    have eB:gF (l.take (j2+1))=gF (l.take j2)++(eS (2*(l.getD j2 default).1)++eS (b7 (l.getD j2 default).2.1-1)):=by
     rw[r9 hjl2,Q0,hlast,decide_eq_false hl,if_neg (by decide),Int.add_zero]
    repeat' (first
     |(refine qz ?_;first
      |refine RP (enc:=wJ) (j:=j2) ?_
      |refine ld (hc:=hb2) ?_
      |refine cl ?_ (hi:=by exact sw (by omega) rfl)
      |refine cl ?_ (hi:=by exact iZ (v:=2*(l.getD j2 default).1) (bs:=bs++gF (l.take j2)) (by omega) (by omega) rfl rfl (by decide) nL nA rfl)
      |refine cl ?_ (hi:=by exact iZ (v:=b7 (l.getD j2 default).2.1-1) (bs:=(bs++gF (l.take j2))++eS (2*(l.getD j2 default).1)) (by omega) (by rw[List.length_append];omega) rfl rfl (by decide) nL nA rfl))
     |refine zz ?_|refine zx (fun _=>?_) (fun _=>?_)|refine bP (by first|exact ai.nil|exact ai.one _|exact ai.pC (by repeat' (first|exact True.intro|refine And.intro ?_ ?_|exact Compat.ne rfl|exact ep rfl))) ⟨by kernel_rfl,?_⟩|refine bP (by first|exact ai.nil|exact ai.one _|exact ai.pC (by repeat' (first|exact True.intro|refine And.intro ?_ ?_|exact Compat.ne rfl|exact ep rfl))) ?_|fail)
    have hE:bs++gF (l.take (j2+1))=bs++gF (l.take j2)++eS (2*(l.getD j2 default).1)++eS (b7 (l.getD j2 default).2.1-1):=by rw[eB];simp only[List.append_assoc]
    refine ih2 (j2+1) _ _ _ (bq [0,1,2,6] (obj:=by(repeat' (first|exact af.nil|refine af.flat (by rw[hE];rfl) ?_|refine af.ig (by rw[hE];rfl) rfl rfl rfl ?_|refine oz ?_));first|done|fail)) (by omega) (by omega)
  ·have hT:l.take j2=l:=List.take_of_length_le (by omega);rw[hT]
   repeat' (first|refine zz ?_|refine zx (fun _=>?_) (fun _=>?_)|fail)
   show aE _ _ _ _ _ _ _ _;refine kV [0,1,2,3] ?_;rfl
theorem PO(a b:List XC)(e e' e2 e3:TypeId)(cs ds fs:List XC):fX [.cells a e false false,bu e' cs,bu e3 fs] [.cells b e false false,.dead,bu e3 fs,bu e2 ds]=true:=by
 cases cs<;>cases ds<;>cases fs<;>simp[fX,aj.live,aj.own,bu]
theorem L5{bs:List Bool}{l:List Ev}(h:qj l)(hb:bs.length<=800000){HS:ah}{i k q:Nat}(hi:HS[i]? = some (aP k bs))(hk:HS[k]? = some (au bs))(hq:HS[q]? = some (eK l))(hd : [i,k,q].Nodup){N:Nat}(hN:HS.length=N){HS':ah}(hh:bD HS [i,k] [aP N (bs++gF l),.dead,au (bs++gF l)]=HS')(hbd:Nat.blt HS'.length Mem.bound=true) :
 aA.Sound prog ⟨128,[.one (.ptr i 0),dV q l.length 3],HS,.one (.int .i64 0),HS',[i,k]⟩:=by
 subst hN
 have hh':bD HS [i,k,q] [aP HS.length (bs++gF l),.dead,eK l,au (bs++gF l)]=HS':=by
  subst hh;simp only[List.nodup_cons,List.mem_cons,List.not_mem_nil,or_false,not_or]at hd;simp only[bD];rw[aB (i:=q) (by rw[List.getElem?_set_ne hd.2.1,List.getElem?_set_ne hd.1.2];exact hq)]
 refine bh [i,k,q] [i,k] 1 (Io bs l h hb) hd ?_ ?_ ?_ rfl (.cons (by simp[XV.bt,XC.ok]) (.cons (iF (Nat.le_of_ble_eq_true rfl)) .nil)) (.cons rfl (.cons (dB ..) .nil)) (b_.ok _) (b_.aC _) ?_ (PO ..) rfl hh' hbd (.inr fun j hjl hj=>?_)
 ·exact af.ig hi rfl rfl rfl (.flat hk (.flat hq .nil))
 ·exact .cons (by simp[aj.bt,XC.ok,aJ]) (.flat (.flat .nil))
 ·exact .cons (by simp[aj.bt,XC.ok,aJ]) (.flat (.flat (.flat .nil)))
 ·exact .cons (by simp only[aj.aC,List.map_cons,List.map_nil,XC.aC,aX];rfl) (.flat (.flat (.flat .nil)))
 ·subst hh;exact l9 _ _ _ _ hjl (by simpa using hj)
structure c6 where
 id:Int
 inter:Bool
 down:Bool
 hqp:Int
 qp:Int
 cols:Int
 rows:Int
 M:jA
 A:nW
 B:nW
 C:nW
abbrev jr(S:c6):aj := .cells [.ptr 3 0,.int .i64 S.id,.bool S.inter,.bool S.down,.int .i64 S.hqp,.int .i64 S.qp,.ptr 16 0,.ptr 18 0] 157 false false
abbrev iQ(S:c6):ah:=[jr S,fc 4 8 12,aW 5 6 7 cM,cV cM,cY cM,cW cM,aW 9 10 11 cZ,cV cZ,cY cZ,cW cZ,aW 13 14 15 cP,cV cP,cY cP,cW cP,
 fD 17 S.cols S.rows,.map (cB S.M),.cells [.int .i64 S.cols,.int .i64 S.rows,.map 19,.map 20,.map 21] 220 false false,.map (aq S.A),.map (aq S.B),.map (aq S.C)]
instance Ny (M:nW):cf (.map (aq M)):=uZ (fun _=>rfl) (fun b=>show X1.shut (.agg (dt b))=true from a_ b) M
abbrev du:List Nat:=[2,3,4,5,6,7,8,9,10,11,12,13,14,15,16,17,18,19,20,21]
theorem ow(S:c6)(n:Nat)(h:22<=n){l:ah}(hl:ak n l):ak n (iQ S++l):=by
 have k:∀j,j<22->j<n:=fun j hj=>by omega
 refine .cons ?_ (.cons ?_ (.cons ?_ (.flat (.flat (.flat (.cons ?_ (.flat (.flat (.flat (.cons ?_ (.flat (.flat (.flat (.cons ?_ (.flat (.cons ?_ (.flat (.flat (.flat hl)))))))))))))))))))
 all_goals simp[aj.bt,XC.ok];omega
theorem zh(S:c6){τ : Nat->Nat}(h:∀j,2<=j->j<22 -> τ j=j){l l':ah}(hl:d_ τ l l'):d_ τ (iQ S++l) (iQ S++l'):=by
 have h3:=h 3 (by omega) (by omega);have h4:=h 4 (by omega) (by omega);have h5:=h 5 (by omega) (by omega);have h6:=h 6 (by omega) (by omega);have h7:=h 7 (by omega) (by omega);have h8:=h 8 (by omega) (by omega);have h9:=h 9 (by omega) (by omega);have h10:=h 10 (by omega) (by omega);have h11:=h 11 (by omega) (by omega);have h12:=h 12 (by omega) (by omega);have h13:=h 13 (by omega) (by omega);have h14:=h 14 (by omega) (by omega);have h15:=h 15 (by omega) (by omega);have h16:=h 16 (by omega) (by omega);have h17:=h 17 (by omega) (by omega);have h18:=h 18 (by omega) (by omega);have h19:=h 19 (by omega) (by omega);have h20:=h 20 (by omega) (by omega);have h21:=h 21 (by omega) (by omega);refine .cons ?_ (.cons ?_ (.cons ?_ (.flat (.flat (.flat (.cons ?_ (.flat (.flat (.flat (.cons ?_ (.flat (.flat (.flat (.cons ?_ (.flat (.cons ?_ (.flat (.flat (.flat hl)))))))))))))))))))
 all_goals simp only[aj.aC,List.map_cons,List.map_nil,XC.aC, *]
theorem zi(S:c6){τ : Nat->Nat}{HS:ah}(h:∀j,2<=j->j<22 -> τ j=j)(hS:(HS.drop 2).take 20=iQ S){ls:List Nat}{l:ah}(hl:af τ HS ls l):af τ HS (du++ls) (iQ S++l):=by
 have g:∀j,j<20->HS[j+2]? = (iQ S)[j]?:=fun j hj=>by
  rw[<-hS,List.getElem?_take,if_pos hj,List.getElem?_drop]
  congr 1
  omega
 have h3:=h 3 (by omega) (by omega);have h4:=h 4 (by omega) (by omega);have h5:=h 5 (by omega) (by omega);have h6:=h 6 (by omega) (by omega);have h7:=h 7 (by omega) (by omega);have h8:=h 8 (by omega) (by omega);have h9:=h 9 (by omega) (by omega);have h10:=h 10 (by omega) (by omega);have h11:=h 11 (by omega) (by omega);have h12:=h 12 (by omega) (by omega);have h13:=h 13 (by omega) (by omega);have h14:=h 14 (by omega) (by omega);have h15:=h 15 (by omega) (by omega);have h16:=h 16 (by omega) (by omega);have h17:=h 17 (by omega) (by omega);have h18:=h 18 (by omega) (by omega);have h19:=h 19 (by omega) (by omega);have h20:=h 20 (by omega) (by omega);have h21:=h 21 (by omega) (by omega);refine .cons ?_ (.cons ?_ (.cons ?_ (.flat (g 3 (by omega)) (.flat (g 4 (by omega)) (.flat (g 5 (by omega)) (.cons ?_ (.flat (g 7 (by omega)) (.flat (g 8 (by omega)) (.flat (g 9 (by omega)) (.cons ?_ (.flat (g 11 (by omega)) (.flat (g 12 (by omega)) (.flat (g 13 (by omega)) (.cons ?_ (.flat (g 15 (by omega)) (.cons ?_ (.flat (g 17 (by omega)) (.flat (g 18 (by omega)) (.flat (g 19 (by omega)) hl)))))))))))))))))))
 ·rw[g 0 (by omega)];simp only[aj.aC,List.map_cons,List.map_nil,XC.aC, *];rfl
 ·rw[g 1 (by omega)];simp only[aj.aC,List.map_cons,List.map_nil,XC.aC, *];rfl
 ·rw[g 2 (by omega)];simp only[aj.aC,List.map_cons,List.map_nil,XC.aC, *];rfl
 ·rw[g 6 (by omega)];simp only[aj.aC,List.map_cons,List.map_nil,XC.aC, *];rfl
 ·rw[g 10 (by omega)];simp only[aj.aC,List.map_cons,List.map_nil,XC.aC, *];rfl
 ·rw[g 14 (by omega)];simp only[aj.aC,List.map_cons,List.map_nil,XC.aC, *];rfl
 ·rw[g 16 (by omega)];simp only[aj.aC,List.map_cons,List.map_nil,XC.aC, *];rfl
theorem M_(a b:List XC)(e e' e2:TypeId)(cs ds:List XC)(S S':c6):fX (.cells a e false false::bu e' cs::iQ S) (.cells b e false false :: .dead::(iQ S'++[bu e2 ds]))=true:=by
 cases cs<;>cases ds<;>simp[fX,aj.live,aj.own,bu]
theorem Oy{f:FuncId}{more:List XV}(hm:∀τ,e9 τ more more)(hmo:gQ 22 more){v:XV}[b_ v]{bs bs':List Bool}{S S':c6}(hc:bm prog f (.one (.ptr 2 0) :: .one (.ptr 0 0)::more) (aP 1 bs::au bs::iQ S) v (aP 22 bs' :: .dead::(iQ S'++[au bs'])))
 {HS:ah} {k:Nat}(hi:HS[0]? = some (aP k bs)) (hk:HS[k]? = some (au bs)) (hS:(HS.drop 2).take 20=iQ S) (hd:(k==1||Nat.ble 22 k)=true) {N:Nat}(hN:HS.length=N) {HS':ah}(hh:bD HS (0::k::du) (aP N bs' :: .dead::(iQ S'++[au bs']))=HS') (hbd:Nat.blt HS'.length Mem.bound=true) :
 aA.Sound prog ⟨f,.one (.ptr 2 0) :: .one (.ptr 0 0)::more,HS,v,HS',0::k::du⟩:=by
 subst hN;have hkk:k=1\/22<=k:=by simpa [Nat.ble_eq]using hd
 have h0:0∉du:=by decide
 have hk':k∉du:=by
  intro h;simp only[du,List.mem_cons,List.not_mem_nil,or_false]at h;omega
 have nd:(0::k::du).Nodup:=List.nodup_cons.2 ⟨fun h=>(List.mem_cons.1 h).elim (fun e=>by omega) h0,List.nodup_cons.2 ⟨hk',by decide⟩⟩;have hq:∀q:Fin 20,du[q.val]? = some (q.val+2):=by decide
 have ht:∀j,2<=j->j<22->nth (0::k::du) j=j:=fun j h1 h2=>by
  obtain⟨q,rfl⟩:∃q,j=q+2:=⟨j-2,by omega⟩
  have:=hq ⟨q,by omega⟩;unfold nth;rw[List.getD_eq_getElem?_getD];simp only[List.getElem?_cons_succ];rw[this];rfl
 have ht':∀j,2<=j->j<22->nth ((0::k::du)++List.range' HS.length 1) j=j:=fun j h1 h2=>by
  obtain⟨q,rfl⟩:∃q,j=q+2:=⟨j-2,by omega⟩
  have:=hq ⟨q,by omega⟩;unfold nth;rw[List.getD_eq_getElem?_getD];show((du++List.range' HS.length 1)[q]?).getD 0=q+2;rw[List.getElem?_append_left (show q<du.length by show q<20;omega),this];rfl
 have hv:=zi S ht hS (ls:=[]) .nil;rw[List.append_nil,List.append_nil]at hv;have ho:=ow S 22 (Nat.le_refl _) (l:=[]) .nil;rw[List.append_nil]at ho;refine bh (0::k::du) (0::k::du) 1 hc nd (af.ig hi rfl rfl rfl (.flat hk hv)) (.cons (by simp[aj.bt,XC.ok,aJ]) (.flat ho)) (.cons (by simp[aj.bt,XC.ok,aJ]) (.flat (ow S' 23 (by omega) (.flat .nil)))) rfl (.cons (by show 2<22;omega) (.cons (by show 0<22;omega) hmo)) (.cons rfl (.cons rfl (hm _))) (b_.ok _) (b_.aC _) ?_ (M_ ..) rfl hh hbd (.inl rfl);exact .cons (by simp only[aj.aC,List.map_cons,List.map_nil,XC.aC,aX];rfl) (.flat (zh S' ht' (.flat .nil)))
def dI(n:Int):Nat:=bitLen (max n (-n)).toNat
def fH(n:Int):List Bool:=jf cZ (dI n)++bd (if n<0 then n+(1*2^dI n-1)else n) (dI n)
theorem Gi(n:Nat):n<2^bitLen n:=by
 unfold bitLen;split
 ·rename_i h;rw[h];decide
 ·exact Nat.lt_log2_self
theorem jV{C:Cd}(hC:B1 C)(n:Nat):(jf C n).length<=64:=by
 unfold jf;have:=hC.sz n;have h:∀(x:Int) (k:Nat),(bd x k).length=k:=fun x k=>bB x k
 rw[h];omega
theorem Ag{n:Int}(h : -4000<=n/\n<=4000):dI n<=12:=rW (by omega)
theorem IC(bs:List Bool)(S:c6)(n:Int)(hn : -4000<=n/\n<=4000)(hb:bs.length<=800000) :
 bm prog 122 [.one (.ptr 2 0),.one (.ptr 0 0),.one (.int .i64 n)] [aP 1 bs,au bs,jr (S),fc 4 8 12,aW 5 6 7 cM,cV cM,cY cM,cW cM,aW 9 10 11 cZ,cV cZ,cY cZ,cW cZ,aW 13 14 15 cP,cV cP,cY cP,cW cP,fD 17 (S).cols (S).rows,.map (cB (S).M),.cells [.int .i64 (S).cols,.int .i64 (S).rows,.map 19,.map 20,.map 21] 220 false false,.map (aq (S).A),.map (aq (S).B),.map (aq (S).C)] (.tup []) [aP 22 (bs++fH n),.dead,jr (S),fc 4 8 12,aW 5 6 7 cM,cV cM,cY cM,cW cM,aW 9 10 11 cZ,cV cZ,cY cZ,cW cZ,aW 13 14 15 cP,cV cP,cY cP,cW cP,fD 17 (S).cols (S).rows,.map (cB (S).M),.cells [.int .i64 (S).cols,.int .i64 (S).rows,.map 19,.map 20,.map 21] 220 false false,.map (aq (S).A),.map (aq (S).B),.map (aq (S).C),au (bs++fH n)]:=by
 have hm:max n (0-n)=max n (-n):=by rw[Int.zero_sub]
 have hl:=Ag hn;have hlt:=Gi (max n (-n)).toNat;have hl2:qQ (max n (0-n)).toNat=(dI n:Nat):=by rw[hm];rfl
 have hc:=jV D_ (dI n)
 have hpow:(2:Int)^dI n<=4096:=by
  have:=Nat.pow_le_pow_right (show 0<2 by decide) hl;have h2:((2^dI n:Nat):Int)<=((2^12:Nat):Int):=Int.ofNat_le.2 this;rw[Int.natCast_pow]at h2;exact h2
 have hpl : -n<(2:Int)^dI n/\n<(2:Int)^dI n:=by
  have h2:(((max n (-n)).toNat:Nat):Int)<((2^dI n:Nat):Int):=Int.ofNat_lt.2 hlt;rw[Int.natCast_pow]at h2;have h3:((2:Nat):Int)^dI n=(2:Int)^dI n:=rfl;rw[h3]at h2;omega
 have h1:(1:Int)*2^dI n=2^dI n:=Int.one_mul _;have e0:bs++fH n=(bs++jf cZ (dI n))++bd (if n<0 then n+(1*2^dI n-1)else n) (dI n):=by rw[fH,List.append_assoc]
 rw[e0];refine cO Tryz.func122 ?_
 by_cases h0:n<0
 ·rw[if_pos h0]
  repeat' (first
   |(refine qz ?_;first
    |refine SD ?_
    |refine cl (v := .one (.int .i64 (dI n:Nat))) ?_ (hi:=by rw[<-hl2];exact CD (by omega) rfl)
    |refine cl ?_ (hi:=by exact qA (C:=cZ) D_ (n:=dI n) rfl (by show dI n<13;omega) (bs:=bs) (by omega) rfl rfl rfl rfl rfl rfl (by decide) nL nA rfl)
    |refine KF (n:=dI n) ?_ (h:=⟨by show dI n<=64;omega,by show _/\_;omega⟩)
    |refine cl ?_ (hi:=by exact fu (n:=n+(1*2^dI n-1)) (size:=dI n) rfl (bs:=bs++jf cZ (dI n)) (by omega) (by omega) (by rw[List.length_append];omega) rfl rfl (by decide) nL nA rfl))
   |refine zz ?_|refine zx (fun _=>?_) (fun _=>?_)|fail)
  show aE _ _ _ _ _ _ _ _;refine kV [0,1,2,3,4,5,6,7,8,9,10,11,12,13,14,15,16,17,18,19,20,21,23] ?_;rfl
 ·rw[if_neg h0]
  repeat' (first
   |(refine qz ?_;first
    |refine SD ?_
    |refine cl (v := .one (.int .i64 (dI n:Nat))) ?_ (hi:=by rw[<-hl2];exact CD (by omega) rfl)
    |refine cl ?_ (hi:=by exact qA (C:=cZ) D_ (n:=dI n) rfl (by show dI n<13;omega) (bs:=bs) (by omega) rfl rfl rfl rfl rfl rfl (by decide) nL nA rfl)
    |refine cl ?_ (hi:=by exact fu (n:=n) (size:=dI n) rfl (bs:=bs++jf cZ (dI n)) (by omega) (by omega) (by rw[List.length_append];omega) rfl rfl (by decide) nL nA rfl))
   |refine zz ?_|refine zx (fun _=>?_) (fun _=>?_)|fail)
  show aE _ _ _ _ _ _ _ _;refine kV [0,1,2,3,4,5,6,7,8,9,10,11,12,13,14,15,16,17,18,19,20,21,23] ?_;rfl
theorem FN{n:Int}(h : -4000<=n/\n<=4000):(fH n).length<=76:=by
 unfold fH;have:=jV D_ (dI n);have:=Ag h;rw[List.length_append,bB];omega
theorem Ma{bs:List Bool}{S:c6}{n:Int}(hn : -4000<=n/\n<=4000)(hb:bs.length<=800000){HS:ah}{k:Nat}(hi:HS[0]? = some (aP k bs))(hk:HS[k]? = some (au bs))(hS:(HS.drop 2).take 20=iQ S)(hd:(k==1||Nat.ble 22 k)=true){N:Nat}(hN:HS.length=N){HS':ah}(hh:bD HS (0::k::du) (aP N (bs++fH n) :: .dead::(iQ S++[au (bs++fH n)]))=HS')(hbd:Nat.blt HS'.length Mem.bound=true) :
 aA.Sound prog ⟨122,[.one (.ptr 2 0),.one (.ptr 0 0),.one (.int .i64 n)],HS,.tup [],HS',0::k::du⟩:=
 Oy (fun _ => .flat .nil) (.flat .nil) (IC bs S n hn hb) hi hk hS hd hN hh hbd
abbrev PZ(S:c6):List XC:=[.ptr 3 0,.int .i64 S.id,.bool S.inter,.bool S.down,.int .i64 S.hqp,.int .i64 S.qp,.ptr 16 0,.ptr 18 0]
theorem y_{S:c6}{b:Bool}(h:S.inter=b):(PZ S)[2]? = some (.bool b):=by rw[<-h];rfl
def bc(S:c6)(m:Mb):List Bool:=(if S.inter=true then jf cM m.kind.toNat else [decide (m.kind=4)])++(if m.kind=4 then bd (eG S.qp m.qp).1 2 else [])
def fA(S:c6)(m:Mb):c6:=if m.kind=4 then {S with qp:=m.qp}else S
theorem G_(a b:Int):0<=(eG a b).1/\(eG a b).1<=3:=by
 unfold eG
 repeat' split
 all_goals simp
theorem n_(bs:List Bool)(S:c6)(m:Mb)(hm:jc m)(hk:m.kind<=4)(hq : -1000000<=S.qp/\S.qp<=1000000)(hb:bs.length<=800000) :
 bm prog 88 [.one (.ptr 2 0),.one (.ptr 0 0),.agg (mC m)] [aP 1 bs,au bs,jr (S),fc 4 8 12,aW 5 6 7 cM,cV cM,cY cM,cW cM,aW 9 10 11 cZ,cV cZ,cY cZ,cW cZ,aW 13 14 15 cP,cV cP,cY cP,cW cP,fD 17 (S).cols (S).rows,.map (cB (S).M),.cells [.int .i64 (S).cols,.int .i64 (S).rows,.map 19,.map 20,.map 21] 220 false false,.map (aq (S).A),.map (aq (S).B),.map (aq (S).C)] (.tup []) [aP 22 (bs++bc S m),.dead,jr (fA S m),fc 4 8 12,aW 5 6 7 cM,cV cM,cY cM,cW cM,aW 9 10 11 cZ,cV cZ,cY cZ,cW cZ,aW 13 14 15 cP,cV cP,cY cP,cW cP,fD 17 (fA S m).cols (fA S m).rows,.map (cB (fA S m).M),.cells [.int .i64 (fA S m).cols,.int .i64 (fA S m).rows,.map 19,.map 20,.map 21] 220 false false,.map (aq (fA S m).A),.map (aq (fA S m).B),.map (aq (fA S m).C),au (bs++bc S m)]:=by
 have hkind:=hm.kind;have hqp:=hm.qp;have hsr:=G_ S.qp m.qp;have hcb:=jV D9 m.kind.toNat;have hkn:m.kind=(m.kind.toNat:Nat):=by omega
 unfold bc
 obtain⟨b,hin⟩:∃b,S.inter=b:=⟨_,rfl⟩
 have hl2:=y_ hin
 by_cases h4:m.kind=4
 ·have e4:fA S m = {S with qp:=m.qp}:=if_pos h4;rw[e4,if_pos h4];cases b
  ·rw[if_neg (by rw[hin];decide),decide_eq_true h4,<-List.append_assoc];refine cO Tryz.func88 ?_
   repeat' (first
    |(refine qz ?_;first
     |refine ld (hc:=hl2) ?_
     |refine cl ?_ (hi:=by exact jv (b:=true) (bs:=bs) (by omega) rfl rfl (by decide) nL nA rfl)
     |refine cl ?_ (hi:=by exact zk hq hqp rfl)
     |refine cl ?_ (hi:=by exact fu (n:=(eG S.qp m.qp).1) (size:=2) rfl (bs:=bs++[true]) (by omega) (by decide) (by rw[List.length_append];simp;omega) rfl rfl (by decide) nL nA rfl))
    |refine zz ?_|refine zx (fun _=>?_) (fun _=>?_)|fail)
   show aE _ _ _ _ _ _ _ _;refine kV [0,1,2,3,4,5,6,7,8,9,10,11,12,13,14,15,16,17,18,19,20,21,24] ?_;rfl
  ·rw[if_pos hin,<-List.append_assoc];refine cO Tryz.func88 ?_
   repeat' (first
    |(refine qz ?_;first
     |refine ld (hc:=hl2) ?_
     |refine cl ?_ (hi:=by exact qA (C:=cM) D9 (n:=m.kind.toNat) hkn (by show m.kind.toNat<5;omega) (bs:=bs) (by omega) rfl rfl rfl rfl rfl rfl (by decide) nL nA rfl)
     |refine cl ?_ (hi:=by exact zk hq hqp rfl)
     |refine cl ?_ (hi:=by exact fu (n:=(eG S.qp m.qp).1) (size:=2) rfl (bs:=bs++jf cM m.kind.toNat) (by omega) (by decide) (by rw[List.length_append];omega) rfl rfl (by decide) nL nA rfl))
    |refine zz ?_|refine zx (fun _=>?_) (fun _=>?_)|fail)
   show aE _ _ _ _ _ _ _ _;refine kV [0,1,2,3,4,5,6,7,8,9,10,11,12,13,14,15,16,17,18,19,20,21,24] ?_;rfl
 ·have e4:fA S m=S:=if_neg h4;rw[e4,if_neg h4,List.append_nil];cases b
  ·rw[if_neg (by rw[hin];decide),decide_eq_false h4];refine cO Tryz.func88 ?_
   repeat' (first
    |(refine qz ?_;first
     |refine ld (hc:=hl2) ?_
     |refine cl ?_ (hi:=by exact jv (b:=false) (bs:=bs) (by omega) rfl rfl (by decide) nL nA rfl))
    |refine zz ?_|refine zx (fun _=>?_) (fun _=>?_)|fail)
   show aE _ _ _ _ _ _ _ _;refine kV [0,1,2,3,4,5,6,7,8,9,10,11,12,13,14,15,16,17,18,19,20,21,23] ?_;rfl
  ·rw[if_pos hin];refine cO Tryz.func88 ?_
   repeat' (first
    |(refine qz ?_;first
     |refine ld (hc:=hl2) ?_
     |refine cl ?_ (hi:=by exact qA (C:=cM) D9 (n:=m.kind.toNat) hkn (by show m.kind.toNat<5;omega) (bs:=bs) (by omega) rfl rfl rfl rfl rfl rfl (by decide) nL nA rfl))
    |refine zz ?_|refine zx (fun _=>?_) (fun _=>?_)|fail)
   show aE _ _ _ _ _ _ _ _;refine kV [0,1,2,3,4,5,6,7,8,9,10,11,12,13,14,15,16,17,18,19,20,21,23] ?_;rfl
theorem jX(S:c6)(m:Mb):(bc S m).length<=66:=by
 unfold bc;have:=jV D9 m.kind.toNat;rw[List.length_append];split<;>split<;>simp only[List.length_cons,List.length_nil,bB]<;>omega
def E9(M:jA)(cols mb:Int)(v:Nat->Int×Int):jA:=cI (cI (cI (cI M cols mb 0 (v 0)) cols mb 1 (v 1)) cols mb 2 (v 2)) cols mb 3 (v 3)
def b6(S:c6)(mb:Int)(v:Nat->Int×Int):c6:={S with M:=E9 S.M S.cols mb v}
theorem Hf(bs:List Bool)(S:c6)(hD:mB S.cols S.rows)(mb:Int)(hmb:0<=mb/\mb<S.cols*S.rows)(m:Mb) :
 bm prog 89 [.one (.ptr 2 0),.one (.int .i64 mb),.agg (mC m)] [aP 1 bs,au bs,jr (S),fc 4 8 12,aW 5 6 7 cM,cV cM,cY cM,cW cM,aW 9 10 11 cZ,cV cZ,cY cZ,cW cZ,aW 13 14 15 cP,cV cP,cY cP,cW cP,fD 17 (S).cols (S).rows,.map (cB (S).M),.cells [.int .i64 (S).cols,.int .i64 (S).rows,.map 19,.map 20,.map 21] 220 false false,.map (aq (S).A),.map (aq (S).B),.map (aq (S).C)] (.tup []) [aP 1 bs,au bs,jr (b6 S mb m.v),fc 4 8 12,aW 5 6 7 cM,cV cM,cY cM,cW cM,aW 9 10 11 cZ,cV cZ,cY cZ,cW cZ,aW 13 14 15 cP,cV cP,cY cP,cW cP,fD 17 (b6 S mb m.v).cols (b6 S mb m.v).rows,.map (cB (b6 S mb m.v).M),.cells [.int .i64 (b6 S mb m.v).cols,.int .i64 (b6 S mb m.v).rows,.map 19,.map 20,.map 21] 220 false false,.map (aq (b6 S mb m.v).A),.map (aq (b6 S mb m.v).B),.map (aq (b6 S mb m.v).C)]:=by
 refine cO Tryz.func89 ?_
 repeat' (first
  |(refine qz ?_;first
   |refine uN (cs:=vt m.v) ?_ (hle:=by rw[aY];decide)
   |refine LI ?_
   |refine cl ?_ (hi:=by exact jR (M:=S.M) (cols:=S.cols) (rows:=S.rows) (i:=16) (j:=17) (k:=0) (v:=m.v 0) hD hmb (by decide) rfl rfl (by decide) nA rfl)
   |refine cl ?_ (hi:=by exact jR (M:=cI S.M S.cols mb 0 (m.v 0)) (cols:=S.cols) (rows:=S.rows) (i:=16) (j:=17) (k:=1) (v:=m.v 1) hD hmb (by decide) rfl rfl (by decide) nA rfl)
   |refine cl ?_ (hi:=by exact jR (M:=cI (cI S.M S.cols mb 0 (m.v 0)) S.cols mb 1 (m.v 1)) (cols:=S.cols) (rows:=S.rows) (i:=16) (j:=17) (k:=2) (v:=m.v 2) hD hmb (by decide) rfl rfl (by decide) nA rfl)
   |refine cl ?_ (hi:=by exact jR (M:=cI (cI (cI S.M S.cols mb 0 (m.v 0)) S.cols mb 1 (m.v 1)) S.cols mb 2 (m.v 2)) (cols:=S.cols) (rows:=S.rows) (i:=16) (j:=17) (k:=3) (v:=m.v 3) hD hmb (by decide) rfl rfl (by decide) nA rfl))
  |refine WX.loop ?_|refine WX.round ?_|refine zz ?_|refine zx (fun _=>?_) (fun _=>?_)|fail)
 show aE _ _ _ _ _ _ _ _;refine kV [0,1,2,3,4,5,6,7,8,9,10,11,12,13,14,15,16,17,18,19,20,21] ?_;rfl
def CN(S:c6)(mb k dx dy:Int):Option Kn:=bp S.A S.B S.C S.cols (placeOf S.cols mb k).1 ((placeOf S.cols mb k).2.1-dx) ((placeOf S.cols mb k).2.2-dy)
def dQ(S:c6)(mb k q:Int):Int×Int:=kh (CN S mb k 1 0) (CN S mb k 0 1) (CN S mb k 1 1) q
def kF(S:c6)(mb k q:Int):Nat->Int:=Ah (CN S mb k 1 0) (CN S mb k 0 1) (CN S mb k 1 1) q
def Qr(S:c6)(mb k:Int):Int:=(placeOf S.cols mb k).2.2*cD S.cols (placeOf S.cols mb k).1+(placeOf S.cols mb k).2.1
def eT(S:c6)(mb k:Int)(b:Kn):c6:={S with A:=sv (placeOf S.cols mb k).1 0 S.A (Qr S mb k) b,B:=sv (placeOf S.cols mb k).1 1 S.B (Qr S mb k) b,C:=sv (placeOf S.cols mb k).1 2 S.C (Qr S mb k) b}
theorem bz(n q:Int):0<=dc n q/\dc n q<=127:=by
 have h:=m8 q;have:0<=(max n 0+stepOf q/2)/stepOf q:=Int.ediv_nonneg (by omega) (by omega);unfold dc;omega
theorem IM(la lb lc:Option Kn)(q:Int):0<=(kh la lb lc q).2/\(kh la lb lc q).2<=127/\0<=(kh la lb lc q).1/\(kh la lb lc q).1<=2:=by
 unfold kh;cases la<;>cases lb<;>simp only[]
 ·exact⟨(bz _ _).1,(bz _ _).2,by simp,by simp⟩
 ·exact⟨(bz _ _).1,(bz _ _).2,by simp,by simp⟩
 ·exact⟨(bz _ _).1,(bz _ _).2,by simp,by simp⟩
 ·cases lc<;>simp only[]<;>split
  ·exact⟨(bz _ _).1,(bz _ _).2,by simp,by simp⟩
  ·exact⟨(bz _ _).1,(bz _ _).2,by simp,by simp⟩
  ·exact⟨(bz _ _).1,(bz _ _).2,by simp,by simp⟩
  ·exact⟨(bz _ _).1,(bz _ _).2,by simp,by simp⟩
theorem sy(S:c6)(mb k q:Int):0<=(dQ S mb k q).2/\(dQ S mb k q).2<=127/\0<=(dQ S mb k q).1/\(dQ S mb k q).1<=2:=IM _ _ _ _
section
variable {S:c6} {mb k q:Int}(hD:mB S.cols S.rows) (hmb:0<=mb/\mb<S.cols*S.rows) (hk:0<=k/\k<6)
include hD hmb hk
theorem Th:gM S.cols S.rows mb k=true:=jk.2 ⟨hmb.1,hmb.2,hk⟩
theorem KS:bm prog 119 [.one (.ptr 0 0),.one (.int .i64 mb),.one (.int .i64 k),.one (.int .i64 q)] (bL S.cols S.rows S.A S.B S.C) (jO (dQ S mb k q)) (bL S.cols S.rows S.A S.B S.C):=
 qE ⟨hD.c0,hD.c1⟩ ⟨by have:=hD.r0;omega,hD.r1⟩ (Th hD hmb hk) (p:=(placeOf S.cols mb k).1) (x:=(placeOf S.cols mb k).2.1) (y:=(placeOf S.cols mb k).2.2) rfl (by unfold CN;rw[Int.sub_zero]) (by unfold CN;rw[Int.sub_zero]) rfl
theorem Hl:bm prog 121 [.one (.ptr 0 0),.one (.int .i64 mb),.one (.int .i64 k),.one (.int .i64 q)] (bL S.cols S.rows S.A S.B S.C) (.agg (ti .i64 64 (kF S mb k q))) (bL S.cols S.rows S.A S.B S.C):=
 IG ⟨hD.c0,hD.c1⟩ ⟨by have:=hD.r0;omega,hD.r1⟩ (Th hD hmb hk) (p:=(placeOf S.cols mb k).1) (x:=(placeOf S.cols mb k).2.1) (y:=(placeOf S.cols mb k).2.2) rfl (by unfold CN;rw[Int.sub_zero]) (by unfold CN;rw[Int.sub_zero]) rfl
theorem KW(b:Kn):bm prog 123 [.one (.ptr 0 0),.one (.int .i64 mb),.one (.int .i64 k),.agg (dt b)] (bL S.cols S.rows S.A S.B S.C) (.tup []) (bL S.cols S.rows (eT S mb k b).A (eT S mb k b).B (eT S mb k b).C):=
 Nf ⟨hD.c0,hD.c1⟩ ⟨by have:=hD.r0;omega,hD.r1⟩ (Th hD hmb hk) (p:=(placeOf S.cols mb k).1) (x:=(placeOf S.cols mb k).2.1) (y:=(placeOf S.cols mb k).2.2) rfl b
theorem zm{HS:ah}(ha:HS[18]? = some (.cells [.int .i64 S.cols,.int .i64 S.rows,.map 19,.map 20,.map 21] 220 false false))(hb:HS[19]? = some (.map (aq S.A)))(hc:HS[20]? = some (.map (aq S.B)))(hd:HS[21]? = some (.map (aq S.C)))(hbd:Nat.blt HS.length Mem.bound=true) :
 aA.Sound prog ⟨119,[.one (.ptr 18 0),.one (.int .i64 mb),.one (.int .i64 k),.one (.int .i64 q)],HS,jO (dQ S mb k q),HS,[]⟩:=
 aD (KS hD hmb hk) 18 19 20 21 (by decide) ha hb hc hd rfl rfl hbd
theorem KR{HS:ah}(ha:HS[18]? = some (.cells [.int .i64 S.cols,.int .i64 S.rows,.map 19,.map 20,.map 21] 220 false false))(hb:HS[19]? = some (.map (aq S.A)))(hc:HS[20]? = some (.map (aq S.B)))(hd:HS[21]? = some (.map (aq S.C)))(hbd:Nat.blt HS.length Mem.bound=true) :
 aA.Sound prog ⟨121,[.one (.ptr 18 0),.one (.int .i64 mb),.one (.int .i64 k),.one (.int .i64 q)],HS,.agg (ti .i64 64 (kF S mb k q)),HS,[]⟩:=
 aD (Hl hD hmb hk) 18 19 20 21 (by decide) ha hb hc hd rfl (ja _ _ _) hbd
theorem E7{b:Kn}{HS HS':ah}(ha:HS[18]? = some (.cells [.int .i64 S.cols,.int .i64 S.rows,.map 19,.map 20,.map 21] 220 false false))(hb:HS[19]? = some (.map (aq S.A)))(hc:HS[20]? = some (.map (aq S.B)))(hd:HS[21]? = some (.map (aq S.C)))(hh:((HS.set 19 (.map (aq (eT S mb k b).A))).set 20 (.map (aq (eT S mb k b).B))).set 21 (.map (aq (eT S mb k b).C))=HS')(hbd:Nat.blt HS'.length Mem.bound=true) :
 aA.Sound prog ⟨123,[.one (.ptr 18 0),.one (.int .i64 mb),.one (.int .i64 k),.agg (dt b)],HS,.tup [],HS',[19,20,21]⟩:=
 I_ (KW hD hmb hk b) 18 19 20 21 (by decide) ha hb hc hd hh hbd
end
theorem Dk{S:c6}{mb k q:Int}(h:∀dx dy b,CN S mb k dx dy=some b->∀i,-1000000<=b.lv i/\b.lv i<=1000000)(i:Nat) : -1000000<=kF S mb k q i/\kF S mb k q i<=1000000:=by
 have hem:∀(b:Kn) (s:Nat),(∀i,-1000000<=b.lv i/\b.lv i<=1000000)->∀n i,-1000000<=em b s n i/\em b s n i<=1000000:=by
  intro b s hb n
  induction n with
  | zero=>intro i;simp[em]
  | succ n ih=>
    intro i;rw[yG];unfold gX;split
    ·exact hb _
    ·exact ih i
 have ho:∀(o:Option Kn) (s:Nat),(∀b,o=some b->∀i,-1000000<=b.lv i/\b.lv i<=1000000) -> -1000000<=ji o s q i/\ji o s q i<=1000000:=by
  intro o s hb
  cases o with
  | none=>simp[ji,iX]
  | some b=>
    unfold ji;simp only[];split
    ·exact hem b s (hb b rfl) _ i
    ·simp[iX]
 unfold kF Ah;split
 ·exact ho _ _ (h 1 0)
 ·split
  ·exact ho _ _ (h 0 1)
  ·simp[iX]
end Go.Proofs.YthdciapjllppjaaGreat
namespace Go.Proofs.YthdciapjllppjaaGreat
open Go.Xm
variable [av]
theorem vD{f:Nat->Int}(h:∀i,i<64 -> -2047<=f i/\f i<=2047):∀(n i:Nat) (run:Int),i+n=64->0<=run->run<=i->∀e∈lp f n i run,HQ e/\e.2.2=false
 | 0,i,run,_,_,_,e,he=>by cases he
 | n + 1,i,run,h1,h2,h3,e,he=>by
   unfold lp at he
   by_cases hz:f i=0
   ·rw[if_pos hz]at he;exact vD h n (i+1) (run+1) (by omega) (by omega) (by omega) e he
   ·rw[if_neg hz]at he
    rcases List.mem_cons.1 he with rfl|he
    ·exact⟨⟨⟨h2,by show run<=63;omega⟩,hz,h i (by omega)⟩,rfl⟩
    ·exact vD h n (i+1) 0 (by omega) (by omega) (by omega) e he
theorem uK:∀(l:List Ev) (j:Nat),(∀e∈l,e.2.2=false)->j<l.length->(kj l).getD j default=((l.getD j default).1,(l.getD j default).2.1,decide (j+1=l.length))
 | [],j,_,hj=>by simp at hj
 | [e],j,_,hj=>by
   have:j=0:=by simpa using hj
   subst this;rfl
 | e::e2::l,0,hf,_=>by
   have:e.2.2=false:=hf e (List.mem_cons_self ..);show e=(e.1,e.2.1,decide (0+1=(e::e2::l).length));rw[decide_eq_false (by simp),<-this]
 | e :: e2::l,j+1,hf,hj=>by
   have ih:=uK (e2::l) j (fun x hx=>hf x (List.mem_cons_of_mem _ hx)) (by simpa using hj);show(kj (e2::l)).getD j default=_;rw[ih];show _=(((e2::l).getD j default).1,((e2::l).getD j default).2.1,decide (j+1+1=(e::e2::l).length))
   have:decide (j+1=(e2::l).length)=decide (j+1+1=(e::e2::l).length):=by
    simp only[List.length_cons]
    rcases Classical.em (j+1=l.length+1)with g|g
    ·rw[decide_eq_true g,decide_eq_true (by omega)]
    ·rw[decide_eq_false g,decide_eq_false (by omega)]
   rw[this]
theorem Nb{f:Nat->Int}{st:Nat}(hst:st<=64)(h:∀i,i<64 -> -2047<=f i/\f i<=2047):jL f st = []\/qj (jL f st):=by
 have hg:=vD h (64-st) st 0 (by omega) (Int.le_refl _) (by omega);have hlen:=ss f (64-st) st 0;unfold jL;generalize lp f (64-st) st 0=l at hg hlen ⊢
 cases hl:l with
 | nil=>exact .inl rfl
 | cons a t=>
   right;rw[<-hl];have hpos:0<l.length:=by rw[hl];simp
   have hget:∀j,j<l.length->(kj l).getD j default=((l.getD j default).1,(l.getD j default).2.1,decide (j+1=l.length)):=fun j hj=>uK l j (fun e he=>(hg e he).2) hj
   have hmem:∀j,j<l.length->l.getD j default∈l:=fun j hj=>by
    rw[List.getD_eq_getElem?_getD,List.getElem?_eq_getElem hj];exact List.getElem_mem hj
   refine⟨by rw[iW];omega,fun j hj=>?_,fun j hj=>?_⟩
   ·rw[iW]at hj;have:=(hg _ (hmem j hj)).1;rw[hget j hj];exact⟨this.run,this.nz,this.lev⟩
   ·rw[iW]at hj;rw[hget j hj,iW]
theorem Kp{o:Int}(ho:o=0\/o=1\/o=2){f:Nat->Int}(h:∀i,i<64 -> -2047<=f i/\f i<=2047):∀i,i<64 -> -2047<=rk o f i/\rk o f i<=2047:=fun i hi=>by
 have:=EI ho hi;exact h _ (by omega)
structure rP where
 S:c6
 B:List Bool
 pat:Int
 col:Int
 ev:Nat->List Ev
def cA(m:Mb)(k:Nat)(i:Nat):Int:=m.lev (k*64+i)
noncomputable def nv(m:Mb)(S:c6)(mb:Int)(k:Nat):Option (Nat->Int):=
 if alone m=true then(if m.edge=true then pz (cA m k) (kF S mb k m.qp)else some (cA m k)).map fun r=>gX r 0 0 else some (cA m k)
noncomputable def Fy(m:Mb)(S:c6)(mb:Int)(k:Nat)(r:Nat->Int):List Ev:=jL (rk (ky m.edge (dQ S mb k m.qp).1) r) (if alone m=true then 1 else 0)
def sj(pat k:Int):Int:=CB .i64 pat (8/2^k.toNat)
def r4(col k:Int):Int:=CB .u64 col (2/2^(k-4).toNat)
noncomputable def gk(m:Mb)(mb:Int)(k:Nat)(x:rP)(ev:List Ev):rP:=
 ⟨if alone m=true then eT x.S mb k ⟨cA m k,m.qp⟩else x.S,if alone m=true then x.B++fH (cA m k 0-(dQ x.S mb k m.qp).2)else x.B,if 0<ev.length/\k<4 then sj x.pat k else x.pat,if 0<ev.length/\¬k<4 then r4 x.col k else x.col,fun j=>if j=k then ev else x.ev j⟩
noncomputable def j_(m:Mb)(mb:Int)(x0:rP):Nat->Option rP
 | 0=>some x0
 | k+1=>(j_ m mb x0 k).bind fun x=>(nv m x.S mb k).map fun r=>gk m mb k x (Fy m x.S mb k r)
theorem FA{m:Mb}{mb:Int}{x0:rP}{k:Nat}(h:j_ m mb x0 k=none):∀j,k<=j->j_ m mb x0 j=none:=by
 intro j hj
 induction hj with
 | refl=>exact h
 | step _ ih=>rw[j_,ih];rfl
def zV(T:nW):Prop:=∀key b,dz T key=some b->∀i,-1000000<=b.lv i/\b.lv i<=1000000
def N6(S:c6):Prop:=zV S.A/\zV S.B/\zV S.C
theorem Jx{T:nW}(h:zV T){key:Int}{b:Kn}(hb:∀i,-1000000<=b.lv i/\b.lv i<=1000000):zV (sq T key b):=fun key' b' h'=>by
 rw[si]at h';split at h'
 ·cases h';exact hb
 ·exact h key' b' h'
theorem uP{p q:Int}{T:nW}(h:zV T){key:Int}{b:Kn}(hb:∀i,-1000000<=b.lv i/\b.lv i<=1000000):zV (sv p q T key b):=by
 unfold sv;split
 ·exact Jx h hb
 ·exact h
theorem uO:zV []:=fun key b h=>by cases h
structure j9(S:c6):Prop where
 dims:mB S.cols S.rows
 lev:N6 S
 tiny:fG S.M
theorem Pz{S:c6}(h:N6 S){mb k dx dy:Int}{b:Kn}(hb:CN S mb k dx dy=some b):∀i,-1000000<=b.lv i/\b.lv i<=1000000:=by
 unfold CN bp cn at hb;split at hb
 ·cases hb
 ·unfold bO at hb;split at hb
  ·exact h.1 _ _ hb
  ·split at hb
   ·exact h.2.1 _ _ hb
   ·exact h.2.2 _ _ hb
structure nT(m:Mb):Prop where
 ok:jc m
 kind:m.kind<=4
 lev:∀i,i<384 -> -2047<=m.lev i/\m.lev i<=2047
 first:alone m=true->∀k,k<6->0<=m.lev (k*64)/\m.lev (k*64)<=127
structure Fo(m:Mb)(mb:Int)(x0:rP)(s:Nat×rP):Prop where
 le:s.1<=6
 run:j_ m mb x0 s.1=some s.2
 st:j9 s.2.S
 cr:s.2.S.cols=x0.S.cols/\s.2.S.rows=x0.S.rows
 len:s.2.B.length<=x0.B.length+76*s.1
 nil:∀j,s.1<=j->s.2.ev j = []
 evs:∀j,s.2.ev j = []\/qj (s.2.ev j)
 pat:0<=s.2.pat/\s.2.pat<16
 col:0<=s.2.col/\s.2.col<4
theorem JX:∀(a:Fin 16) (k:Fin 4),0<=sj (a.val:Int) (k.val:Int)/\sj (a.val:Int) (k.val:Int)<16:=by decide +kernel
theorem Iy:∀(a:Fin 4) (k:Fin 2),0<=r4 (a.val:Int) ((k.val+4:Nat):Int)/\r4 (a.val:Int) ((k.val+4:Nat):Int)<4:=by decide +kernel
theorem JY{a:Int}{k:Nat}(h:0<=a/\a<16)(hk:k<4):0<=sj a k/\sj a k<16:=by
 have:=JX ⟨a.toNat,by omega⟩ ⟨k,hk⟩;simp only[Int.toNat_of_nonneg h.1]at this;exact this
theorem Iz{a:Int}{k:Nat}(h:0<=a/\a<4)(hk:¬k<4)(hk6:k<6):0<=r4 a k/\r4 a k<4:=by
 have:=Iy ⟨a.toNat,by omega⟩ ⟨k-4,by omega⟩;simp only[Int.toNat_of_nonneg h.1,show k-4+4=k by omega]at this;exact this
theorem uu{m:Mb}(hg:nT m){S:c6}{mb:Int}{k:Nat}(ha:alone m=true)(hk:k<6) : -4000<=cA m k 0-(dQ S mb k m.qp).2/\cA m k 0-(dQ S mb k m.qp).2<=4000:=by
 have h1:=hg.first ha k hk
 have h2:=sy S mb k m.qp;have e:cA m k 0=m.lev (k*64):=by unfold cA;rw[Nat.add_zero]
 rw[e];omega
theorem Jw{m:Mb}(hg:nT m){k:Nat}(hk:k<6):∀i,i<64 -> -2047<=cA m k i/\cA m k i<=2047:=fun i hi=>hg.lev _ (by omega)
theorem Gh{l e r:Nat->Int}(h:pz l e=some r):∀i,i<64 -> -2047<=r i/\r i<=2047:=by
 unfold pz at h;split at h
 ·cases h
 ·rename_i hn;cases h;intro i hi;have:¬lh l e i:=fun hb=>hn ⟨i,hi,hb⟩
  unfold lh at this;show -2047<=l i-e i/\l i-e i<=2047;omega
theorem Fz{m:Mb}(hg:nT m){S:c6}{mb:Int}{k:Nat}(hk:k<6){r:Nat->Int}(h:nv m S mb k=some r):∀i,i<64 -> -2047<=r i/\r i<=2047:=by
 have hl:=Jw hg hk
 have hu:∀q:Nat->Int,(∀i,i<64 -> -2047<=q i/\q i<=2047)->∀i,i<64 -> -2047<=gX q 0 0 i/\gX q 0 0 i<=2047:=fun q hq i hi=>by
  unfold gX;split
  ·omega
  ·exact hq i hi
 unfold nv at h;split at h
 ·obtain⟨q,hq,rfl⟩:=Option.map_eq_some_iff.1 h;split at hq
  ·exact hu q (Gh hq)
  ·cases hq;exact hu _ hl
 ·cases h;exact hl
theorem xi{m:Mb}(hg:nT m){mb:Int}{x0:rP}{s:Nat×rP}(h:Fo m mb x0 s)(h6:s.1<6){r:Nat->Int}(hr:nv m s.2.S mb s.1=some r):Fo m mb x0 (s.1+1,gk m mb s.1 s.2 (Fy m s.2.S mb s.1 r)):=by
 have hrr:=Fz hg h6 hr
 have hev:Fy m s.2.S mb s.1 r = []\/qj (Fy m s.2.S mb s.1 r):=by
  unfold Fy;exact Nb (by split<;>omega) (Kp (oT _ _) hrr)
 refine⟨by show s.1+1<=6;omega,?_,?_,?_,?_,?_,?_,?_,?_⟩
 ·show j_ m mb x0 (s.1+1)=_;rw[j_,h.run];simp only[Option.bind_some,hr,Option.map_some]
 ·show j9 (if alone m=true then eT s.2.S mb s.1 ⟨cA m s.1,m.qp⟩else s.2.S);split
  ·have hb:∀i,-1000000<=(Kn.mk (cA m s.1) m.qp).lv i/\(Kn.mk (cA m s.1) m.qp).lv i<=1000000:=fun i=>hg.ok.lev _
   exact⟨h.st.dims,⟨uP h.st.lev.1 hb,uP h.st.lev.2.1 hb,uP h.st.lev.2.2 hb⟩,h.st.tiny⟩
  ·exact h.st
 ·show(if alone m=true then eT s.2.S mb s.1 ⟨cA m s.1,m.qp⟩else s.2.S).cols=_/\(if alone m=true then eT s.2.S mb s.1 ⟨cA m s.1,m.qp⟩else s.2.S).rows=_;split<;>exact h.cr
 ·show(if alone m=true then s.2.B++fH (cA m s.1 0-(dQ s.2.S mb s.1 m.qp).2)else s.2.B).length<=x0.B.length+76*(s.1+1);have:=h.len;split
  ·rename_i ha;have:=FN (uu hg (S:=s.2.S) (mb:=mb) ha h6);rw[List.length_append];omega
  ·omega
 ·intro j hj;show(if j=s.1 then _ else s.2.ev j) = [];have hj':s.1+1<=j:=hj;rw[if_neg (by omega)];exact h.nil j (by omega)
 ·intro j;show(if j=s.1 then _ else s.2.ev j) = []\/qj (if j=s.1 then _ else s.2.ev j);split
  ·exact hev
  ·exact h.evs j
 ·show 0<=(if _ then sj s.2.pat s.1 else s.2.pat)/\(if _ then sj s.2.pat s.1 else s.2.pat)<16;split
  ·rename_i hc;exact JY h.pat hc.2
  ·exact h.pat
 ·show 0<=(if _ then r4 s.2.col s.1 else s.2.col)/\(if _ then r4 s.2.col s.1 else s.2.col)<4;split
  ·rename_i hc;exact Iz h.col hc.2 h6
  ·exact h.col
def eJ(x:rP):List Bool:=(x.B++jf cP x.pat.toNat)++bd x.col 2
def cR(bw:List Bool)(x:rP):Nat->List Bool
 | 0=>bw
 | k+1=>cR bw x k++gF (x.ev k)
theorem rV{bw:List Bool}{x:rP}(h:∀j,x.ev j = []\/qj (x.ev j)):∀k,(cR bw x k).length<=bw.length+3456*k
 | 0=>Nat.le_refl _
 | k + 1=>by
   rw[cR,List.length_append];have ih:=rV (bw:=bw) h k
   have:(gF (x.ev k)).length<=3456:=by
    rcases h k with e|e
    ·rw[e];simp[gF]
    ·have h1:=uy e _ (Nat.le_refl _);rw[List.take_length]at h1;have:=e.len;omega
   omega
theorem vM{m:Mb}{a:Bool}(ha:alone m=a){HS:ah}(hb:Nat.blt HS.length Mem.bound=true):aA.Sound prog ⟨127,[.agg (mC m)],HS,.one (.int .i64 (if a=true then 1 else 0)),HS,[]⟩:=by
 subst ha;exact KJ hb
abbrev OO(ev:Nat->List Ev):aj := .cells [fk 27 (ev 0).length 3,fk 28 (ev 1).length 3,fk 29 (ev 2).length 3,fk 30 (ev 3).length 3,fk 31 (ev 4).length 3,fk 32 (ev 5).length 3] 232 false false
end Go.Proofs.YthdciapjllppjaaGreat
