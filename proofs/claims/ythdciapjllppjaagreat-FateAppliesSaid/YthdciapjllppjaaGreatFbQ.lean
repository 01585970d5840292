/-
  A part of the proof: Scan, RunsOf, BlockPut, Sta, Sta2, Sta3, TabS, EvLaw, Blocks0.
-/
import Derived.Test.YthdciapjllppjaaGreatFbH
import Derived.Test.YthdciapjllppjaaGreatFbP
set_option maxRecDepth 10000
set_option maxHeartbeats 8000000
set_option linter.unusedVariables false
set_option linter.unusedSectionVars false
set_option linter.unusedSimpArgs false
open Go.Proofs.Tryz (prog)
namespace Go.Proofs.YthdciapjllppjaaGreat
open Go.Xm
variable [av]
def qI(o:Int)(f:Nat->Int)(i:Nat):Int:=f (Cf o i).toNat
theorem IL(k:IntKind)(g z:Nat->Int)(n:Nat):ti k n (uv g z n)=ti k n g:=u6 fun i hi=>by simp[uv,hi]
theorem JH{o:Int}(h:o=0\/o=1\/o=2)(f:Nat->Int):bm prog 126 [.one (.int .u8 o),.agg (ti .i64 64 f)] [] (.agg (ti .i64 64 (qI o f))) []:=by
 refine cO Tryz.func126 ?_
 repeat' (first
  |(refine qz ?_;first
   |refine cl ?_ (hi:=by exact FF h rfl))
  |refine zz ?_|refine zx (fun _=>?_) (fun _=>?_)|fail)
 refine WX.bQ (σ:=Nat) (fun j=>[(10,.one (.int .i64 (j:Nat))),(3,.one (.ptr 0 0)),(4,.one (.ptr 1 0)),(5,.one (.ptr 2 0)),(9,.agg (ti .i64 64 (Cf o)))]) (fun j=>[.cells (ti .i64 64 f) 104 false false,.cells (ti .i64 64 fun _=>0) 104 false false,.cells (ti .i64 64 (uv (qI o f) (fun _=>0) j)) 104 false false]) (fun j=>j<=64) (fun j=>64-j) 0 (by omega) (fun s _=>mE) (bq [0,1,2] (obj:=by(repeat' (first|exact af.nil|refine af.flat (by rw[qA];rfl) ?_|refine oz ?_));first|done|fail)) ?_;intro j hj ih
 by_cases hj64:j<64
 ·have hr:=DQ h hj64;have hr':0<=Cf o (j:Int).toNat/\Cf o (j:Int).toNat<64:=hr
  repeat' (first
   |(refine qz ?_;first
    |refine QC (n:=64) ?_)
   |refine zz ?_|refine zx (fun _=>?_) (fun _=>?_)|fail)
  refine ih (j+1) _ _ _ (bq [0,1,2] (obj:=by(repeat' (first|exact af.nil|refine af.flat (by rw[<-qy];rfl) ?_|refine oz ?_));first|done|fail)) (by omega) (by omega)
 ·obtain rfl:j=64:=by omega
  repeat' (first
   |(refine qz ?_;first
    |refine lI ?_ (hle:=by rw[aS])
    |refine tk ?_ (hs1:=by rw[aS]) (hs2:=by rw[aS]))
   |refine zz ?_|refine zx (fun _=>?_) (fun _=>?_)|fail)
  show aE _ _ _ _ _ _ _ _;refine kV [] ?_;rw[IL];rfl
theorem yz{o:Int}(h:o=0\/o=1\/o=2){f:Nat->Int}{HS:ah}(hb:Nat.blt HS.length Mem.bound=true):aA.Sound prog ⟨126,[.one (.int .u8 o),.agg (ti .i64 64 f)],HS,.agg (ti .i64 64 (qI o f)),HS,[]⟩:=
 ay (JH h f) (by show(true&&((ti .i64 64 f).all XC.shut&&true))=true;rw[iR];rfl) (iR _ _ _) hb
def j7(edge:Bool)(frm:Int):Int:=if edge=true/\frm=1 then 2 else if edge=true/\frm=2 then 1 else 0
theorem oC(edge:Bool)(frm:Int):j7 edge frm=0\/j7 edge frm=1\/j7 edge frm=2:=by
 unfold j7;split
 ·exact .inr (.inr rfl)
 ·split
  ·exact .inr (.inl rfl)
  ·exact .inl rfl
theorem Fw(edge:Bool)(frm:Int):bm prog 125 [.one (.bool edge),.one (.int .u8 frm)] [] (.one (.int .u8 (j7 edge frm))) []:=by
 cases edge
 all_goals
  refine cO Tryz.func125 ?_
  repeat' (first|refine zz ?_|refine zx (fun _=>?_) (fun _=>?_)|fail)
  all_goals
   show aE _ _ _ _ _ _ _ _;refine kV [] ?_;unfold j7;simp only[Bool.false_eq_true,true_and,false_and,if_false]
   repeat' split
   all_goals first
    | rfl
    | (exfalso;omega)
theorem uz{edge:Bool}{frm:Int}{HS:ah}(hb:Nat.blt HS.length Mem.bound=true):aA.Sound prog ⟨125,[.one (.bool edge),.one (.int .u8 frm)],HS,.one (.int .u8 (j7 edge frm)),HS,[]⟩:=
 ay (Fw edge frm) rfl rfl hb
def Cv(m:Mb):Int:=if alone m=true then 1 else 0
theorem Ga(m:Mb):bm prog 127 [.agg (mC m)] [] (.one (.int .i64 (Cv m))) []:=by
 unfold Cv;refine cO Tryz.func127 ?_
 repeat' (first
  |(refine qz ?_;first
   |refine lI ?_ (hle:=by rw[aY])
   |refine BD (fun ga=>?_) (fun ga=>?_) (hi:=by exact p7 rfl))
  |refine zz ?_|refine zx (fun _=>?_) (fun _=>?_)|fail)
 ·show aE _ _ _ _ _ _ _ _;refine kV [] ?_;rw[if_pos ga];rfl
 ·show aE _ _ _ _ _ _ _ _;refine kV [] ?_;rw[if_neg (by rw[ga];decide)];rfl
theorem JJ{m:Mb}{HS:ah}(hb:Nat.blt HS.length Mem.bound=true):aA.Sound prog ⟨127,[.agg (mC m)],HS,.one (.int .i64 (Cv m)),HS,[]⟩:=
 ay (Ga m) (by simp only[List.all_cons,List.all_nil,Bool.and_true];exact jC m) rfl hb
end Go.Proofs.YthdciapjllppjaaGreat
namespace Go.Xm
variable [av]
variable {P:Program} {ops:Array Oper} {nt nI:Nat} {al:aL} {hs:ah} {o:Oper} {l:List Oper} {L:List aA} {K:List Ab->aL->ah->Prop} {d:Nat}
theorem Sg{t:TypeId}{a y:Operand}{i off:Nat}{c:XC}{cs cs':List XC}{e:TypeId}{hs':ah}(hk:SK P ops nt L l al hs' fun bs=>K (⟨true,.none,[i]⟩::bs))(hle:off<cs.length)(hv:cs.set off c=cs')(ho:o.op = .store t a y:=by exact rfl)(ht:aF P t 1:=by infer_instance)(hw:aw ops (rg al) o=some true:=by exact rfl)(hd:o.dst = .none:=by exact rfl)
 (ha:ag (rg al) a = .one (.ptr i off):=by exact rfl) (hy:cE (ag (rg al) y)=some [c]:=by exact rfl) (hi:hs[i]? = some (bz e cs):=by exact rfl) (hh:hs.set i (bz e cs')=hs':=by first|(simp only[List.set_cons_succ,List.set_cons_zero];exact rfl)|exact rfl):SK P ops nt L (o::l) al hs K:=by
 have h1:bz e cs = .cells cs e true false:=bG (fun hn=>by rw[hn]at hle;simp at hle)
 have h2:bz e cs' = .cells cs' e true false:=bG (fun hn=>by
  have:=congrArg List.length hv;rw[List.length_set,hn]at this;simp at this;rw[this]at hle
  simp at hle)
 exact ka ho hw hd ha hy (hi.trans (congrArg some h1)) hle hv (by rw[<-h2];exact hh) hk
end Go.Xm
namespace Go.Proofs.YthdciapjllppjaaGreat
open Go.Xm
variable [av]
abbrev Ev:=Int×Int×Bool
def vP(e:Ev):List XC:=[.int .i64 e.1,.int .i64 e.2.1,.bool e.2.2]
instance:nk vP 3:=⟨fun _=>rfl,fun _=>rfl,by decide⟩
abbrev ez(l:List Ev):aj:=bz 265 (fl vP l)
def kO(f:Nat->Int):Nat->Nat->Int->List Ev
 | 0,_,_=>[]
 | k+1,i,run=>if f i=0 then kO f k (i+1) (run+1)else(run,f i,false)::kO f k (i+1) 0
def jY:List Ev->List Ev
 | []=>[]
 | [e]=>[(e.1,e.2.1,true)]
 | e::e2::l=>e::jY (e2::l)
theorem iE:∀l:List Ev,(jY l).length=l.length
 | []=>rfl
 | [e]=>rfl
 | e::e2::l=>by simp only[jY,List.length_cons,iE (e2::l)]
theorem Dt(e:Ev)(l:List Ev):fl vP (e::l) = .int .i64 e.1 :: .int .i64 e.2.1 :: .bool e.2.2::fl vP l:=rfl
theorem t8:∀l:List Ev,l≠[]->(fl vP l).set ((l.length-1)*3+2) (.bool true)=fl vP (jY l)
 | [],h=>absurd rfl h
 | [e],_=>rfl
 | e::e2::l,_=>by
   have ih:=t8 (e2::l) (by simp);rw[Dt e,jY,Dt e,<-ih];have:((e::e2::l).length-1)*3+2=((e2::l).length-1)*3+2+3:=by simp only[List.length_cons];omega
   rw[this];rfl
def jy(f:Nat->Int)(st:Nat):List Ev:=jY (kO f (64-st) st 0)
theorem rM(f:Nat->Int):∀(k i:Nat) (run:Int),(kO f k i run).length<=k
 | 0,_,_=>Nat.le_refl _
 | k+1,i,run=>by
   unfold kO;split
   ·have:=rM f k (i+1) (run+1);omega
   ·have:=rM f k (i+1) 0;simp only[List.length_cons];omega
theorem Jm(f:Nat->Int)(st:Nat)(hst:st<=64):bm prog 124 [.agg (ti .i64 64 f),.one (.int .i64 (st:Nat))] [] (ee 0 (jy f st).length 3) [ez (jy f st)]:=by
 refine cO Tryz.func124 ?_
 repeat' (first|refine zz ?_|refine zx (fun _=>?_) (fun _=>?_)|fail)
 refine WX.cj rfl ?_;refine WX.bQ (σ:=Nat×Int×List Ev) (fun s=>[(7,.one (.int .i64 (s.1:Nat))),(6,.one (.int .i64 s.2.1)),(5,ee 1 s.2.2.length 3),(2,.one (.ptr 0 0))]) (fun s=>[.cells (ti .i64 64 f) 104 false false,ez s.2.2]) (fun s=>s.1<=64/\0<=s.2.1/\s.2.1<=s.1/\s.2.2.length<=s.1/\s.2.2++kO f (64-s.1) s.1 s.2.1=kO f (64-st) st 0) (fun s=>64-s.1) (st,0,[]) ⟨hst,Int.le_refl _,by show(0:Int)<=(st:Nat);omega,by show 0<=st;omega,rfl⟩ (fun s _=>mE) (bq [0,1]) ?_;intro s ⟨h1,h2,h3,h4,h5⟩ ih
 by_cases h64:s.1<64
 ·obtain⟨k,hk⟩:∃k,64-s.1=k+1:=⟨63-s.1,by omega⟩
  have hk':64-(s.1+1)=k:=by omega
  rw[hk,kO]at h5
  by_cases hz:f s.1=0
  ·have hz':f (s.1:Int).toNat=0:=hz;rw[if_pos hz]at h5
   repeat' (first|refine zz ?_|refine zx (fun _=>?_) (fun _=>?_)|fail)
   refine ih (s.1+1,s.2.1+1,s.2.2) _ _ _ (bq [0,1]) ⟨by show s.1+1<=64;omega,by show 0<=s.2.1+1;omega,by show s.2.1+1<=((s.1+1:Nat):Int);omega,by show s.2.2.length<=s.1+1;omega,by show s.2.2++kO f (64-(s.1+1)) (s.1+1) (s.2.1+1)=_;rw[hk'];exact h5⟩ (by show 64-(s.1+1)<64-s.1;omega)
  ·have hz':¬f (s.1:Int).toNat=0:=hz;rw[if_neg hz]at h5
   repeat' (first
    |(refine qz ?_;first
     |refine tH (enc:=vP) (a:=(s.2.1,f s.1,false)) ?_
     |refine wi (enc:=vP) ?_)
    |refine zz ?_|refine zx (fun _=>?_) (fun _=>?_)|fail)
   refine ih (s.1+1,0,s.2.2++[(s.2.1,f s.1,false)]) _ _ _ (bq [0,3] (obj:=by(repeat' (first|exact af.nil|refine af.flat (by rw[List.length_append];rfl) ?_|refine oz ?_));first|done|fail)) ⟨by show s.1+1<=64;omega,by show(0:Int)<=0;omega,by show(0:Int)<=((s.1+1:Nat):Int);omega,by show(s.2.2++[_]).length<=s.1+1;simp;omega,by show(s.2.2++[(s.2.1,f s.1,false)])++kO f (64-(s.1+1)) (s.1+1) 0=_;rw[hk',List.append_assoc];exact h5⟩ (by show 64-(s.1+1)<64-s.1;omega)
 ·have e0:64-s.1=0:=by omega
  rw[e0,kO,List.append_nil]at h5;have e:jy f st=jY s.2.2:=by rw[jy,<-h5]
  rw[e]
  by_cases hn:s.2.2.length=0
  ·have hs0:s.2.2 = []:=List.length_eq_zero_iff.1 hn;rw[hs0]
   repeat' (first|refine zz ?_|refine zx (fun _=>?_) (fun _=>?_)|fail)
   show aE _ _ _ _ _ _ _ _;refine kV [1] ?_;rfl
  ·have hset:(fl vP s.2.2).set ((((s.2.2.length:Nat):Int)-1).toNat*3+2) (.bool true)=fl vP (jY s.2.2):=by
    rw[show(((s.2.2.length:Nat):Int)-1).toNat=s.2.2.length-1 by omega];exact t8 _ (fun h=>hn (by rw[h];rfl))
   have hle:(((s.2.2.length:Nat):Int)-1).toNat*3+2<(fl vP s.2.2).length:=by
    rw[rB];omega
   repeat' (first
    |(refine qz ?_;first
     |refine Sg ?_ hle hset)
    |refine zz ?_|refine zx (fun _=>?_) (fun _=>?_)|fail)
   show aE _ _ _ _ _ _ _ _;refine kV [1] ?_;rw[dz,iE];rfl
theorem L9{f:Nat->Int}{st:Nat}{z:Int}(hz:z=(st:Nat))(hst:st<=64){HS:ah}{N:Nat}(hN:HS.length=N){HS':ah}(hh:HS++[ez (jy f st)]=HS')(hbd:Nat.blt HS'.length Mem.bound=true) :
 aA.Sound prog ⟨124,[.agg (ti .i64 64 f),.one (.int .i64 z)],HS,ee N (jy f st).length 3,HS',[]⟩:=by
 subst hN;subst hz;refine bp (os:=[ez (jy f st)]) [] [] 1 (Jm f st hst) (by simp) .nil .nil ?_ rfl (.flat (.flat .nil)) (.flat (.flat .nil)) (ib (Nat.le_of_ble_eq_true rfl)) (dz ..) ?_ ?_ rfl hh hbd (.inl rfl)
 ·exact .flat .nil
 ·exact .flat .nil
 ·unfold ez;cases fl vP (jy f st)<;>rfl
def kL(l e:Nat->Int)(i:Nat):Prop:=l i-e i < -2047\/2047<l i-e i
open Classical in
noncomputable def o_(l e:Nat->Int):Option (Nat->Int):=if ∃i,i<64/\kL l e i then none else some fun i=>l i-e i
noncomputable def Iy(o:Option (Nat->Int)):XV := .tup [.agg (ti .i64 64 (o.getD fun _=>0)),.one (.bool o.isSome)]
theorem BZ(o:Option (Nat->Int)):(Iy o).shut=true:=by
 show((ti .i64 64 (o.getD fun _=>0)).all XC.shut&&(true&&true))=true;rw[iR];rfl
theorem Iz(l e:Nat->Int)(hl:∀i,-1000000<=l i/\l i<=1000000)(he:∀i,-1000000<=e i/\e i<=1000000):bm prog 120 [.agg (ti .i64 64 l),.agg (ti .i64 64 e)] [] (Iy (o_ l e)) []:=by
 refine cO Tryz.func120 ?_
 repeat' (first
  |(refine qz ?_;first
   |refine lI ?_ (hle:=by rw[aS]))
  |refine zz ?_|refine zx (fun _=>?_) (fun _=>?_)|fail)
 refine WX.bQ (σ:=Nat) (fun j=>[(9,.one (.int .i64 (j:Nat))),(2,.one (.ptr 0 0)),(4,.one (.ptr 1 0)),(8,.agg (ti .i64 64 e))]) (fun j=>[.cells (ti .i64 64 (uv (fun i=>l i-e i) l j)) 104 false false,.cells (ti .i64 64 fun _=>0) 104 false false]) (fun j=>j<=64/\∀i,i<j->¬kL l e i) (fun j=>64-j) 0 ⟨by omega,fun i hi=>by omega⟩ (fun s _=>mE) (bq [0,2] (obj:=by(repeat' (first|exact af.nil|refine af.flat (by rw[qA];rfl) ?_|refine oz ?_));first|done|fail)) ?_;intro j ⟨hj,hall⟩ ih
 by_cases hj64:j<64
 ·have a1:=hl j;have a2:=he j;have a2':=he (j:Int).toNat;have e1:e (j:Int).toNat=e j:=rfl;have em:uv (fun i=>l i-e i) l j j=l j:=by simp[uv]
  have eu:gG (uv (fun i=>l i-e i) l j) j (uv (fun i=>l i-e i) l j j-e (j:Int).toNat) j=uv (fun i=>l i-e i) l j j-e (j:Int).toNat:=by simp[gG]
  by_cases hb:kL l e j
  ·have hb':=hb;unfold kL at hb';have e0:o_ l e=none:=if_pos ⟨j,hj64,hb⟩;rw[e0]
   repeat' (first
    |(refine qz ?_;first
     |refine QC (n:=64) ?_
     |refine tk ?_ (hs1:=by rw[aS]) (hs2:=by rw[aS]))
    |refine zz ?_|refine zx (fun _=>?_) (fun _=>?_)|fail)
   all_goals
    first
     | (exfalso;omega)
     | (show aE _ _ _ _ _ _ _ _;refine kV [] ?_;rfl)
  ·have hb':=hb;unfold kL at hb';have e2:uv (fun i=>l i-e i) l j j-e (j:Int).toNat=l j-e j:=by rw[em,e1]
   repeat' (first
    |(refine qz ?_;first
     |refine QC (n:=64) ?_)
    |refine zz ?_|refine zx (fun _=>?_) (fun _=>?_)|fail)
   refine ih (j+1) _ _ _ (bq [0,1] (obj:=by(repeat' (first|exact af.nil|refine af.flat (by rw[<-qy,e2];rfl) ?_|refine oz ?_));first|done|fail)) ⟨by omega,fun i hi=>?_⟩ (by omega)
   by_cases hij:i=j
   ·subst hij;exact hb
   ·exact hall i (by omega)
 ·obtain rfl:j=64:=by omega
  have e0:o_ l e=some fun i=>l i-e i:=if_neg fun⟨i,hi,hb⟩=>hall i hi hb
  rw[e0]
  repeat' (first
   |(refine qz ?_;first
    |refine lI ?_ (hle:=by rw[aS])
    |refine tk ?_ (hs1:=by rw[aS]) (hs2:=by rw[aS]))
   |refine zz ?_|refine zx (fun _=>?_) (fun _=>?_)|fail)
  show aE _ _ _ _ _ _ _ _;refine kV [] ?_;rw[IL];rfl
theorem Ly{l e:Nat->Int}(hl:∀i,-1000000<=l i/\l i<=1000000)(he:∀i,-1000000<=e i/\e i<=1000000){o:Option (Nat->Int)}(ho:o_ l e=o){HS:ah}(hb:Nat.blt HS.length Mem.bound=true):aA.Sound prog ⟨120,[.agg (ti .i64 64 l),.agg (ti .i64 64 e)],HS,Iy o,HS,[]⟩:=by
 subst ho;exact ay (Iz l e hl he) (by show((ti .i64 64 l).all XC.shut&&((ti .i64 64 e).all XC.shut&&true))=true;rw[iR,iR];rfl) (BZ _) hb
structure GU(e:Ev):Prop where
 run:0<=e.1/\e.1<=63
 nz:e.2.1≠0
 lev : -2047<=e.2.1/\e.2.1<=2047
theorem yn(e:Ev)(h:GU e):bm prog 145 [.agg (vP e)] [] (.one (.bool true)) []:=by
 have h1:=h.run;have h2:=h.nz;have h3:=h.lev;refine cO Tryz.func145 ?_
 repeat' (first|refine zz ?_|refine zx (fun _=>?_) (fun _=>?_)|fail)
 show aE _ _ _ _ _ _ _ _;refine kV [] ?_;rfl
theorem sk{e:Ev}(h:GU e){HS:ah}(hb:Nat.blt HS.length Mem.bound=true):aA.Sound prog ⟨145,[.agg (vP e)],HS,.one (.bool true),HS,[]⟩:=
 ay (yn e h) rfl rfl hb
structure pV(l:List Ev):Prop where
 len:0<l.length/\l.length<=64
 ok:∀j,j<l.length->GU (l.getD j default)
 last:∀j,j<l.length->(l.getD j default).2.2=decide (j+1=l.length)
def PV(e:Ev):List Bool:=eF (2*e.1+(if e.2.2 then 1 else 0))++eF (bZ e.2.1-1)
def gp(l:List Ev):List Bool:=l.flatMap PV
theorem sn{x:Int}(h : -2047<=x/\x<=2047)(h0:x≠0):1<=bZ x/\bZ x<=4094:=by unfold bZ;split<;>omega
theorem K7{e:Ev}(h:GU e):(PV e).length<=54:=by
 unfold PV;have h1:=h.run;have h2:=sn h.lev h.nz;have h3:=iH (2*e.1+(if e.2.2 then 1 else 0)) (by split<;>omega);have h4:=iH (bZ e.2.1-1) (by omega);rw[List.length_append];omega
theorem rA{l:List Ev}{j:Nat}(hj:j<l.length):gp (l.take (j+1))=gp (l.take j)++PV (l.getD j default):=by
 unfold gp;rw[List.take_add_one,List.flatMap_append,List.getD_eq_getElem?_getD,List.getElem?_eq_getElem hj];simp
theorem tR{l:List Ev}(h:pV l):∀j,j<=l.length->(gp (l.take j)).length<=54*j
 | 0,_=>by simp[gp]
 | j+1,hj=>by
   rw[rA (by omega),List.length_append];have:=tR h j (by omega);have:=K7 (h.ok j (by omega));omega
theorem Hq(bs:List Bool)(l:List Ev)(h:pV l)(hb:bs.length<=800000) :
 bm prog 128 [.one (.ptr 0 0),ee 2 l.length 3] [aO 1 bs,au bs,ez l] (.one (.int .i64 0)) [aO 3 (bs++gp l),.dead,ez l,au (bs++gp l)]:=by
 have hlen:=h.len;refine cO Tryz.func128 ?_
 repeat' (first|refine zz ?_|refine zx (fun _=>?_) (fun _=>?_)|fail)
 refine WX.bQ (σ:=Nat) (fun j=>[(22,.one (.int .i64 (j:Nat))),(0,.one (.ptr 0 0)),(1,ee 2 l.length 3),(20,ee 2 l.length 3),(21,.one (.int .i64 (l.length:Nat)))]) (fun _=>[aO 1 bs,au bs,ez l]) (fun j=>j<=l.length) (fun j=>l.length-j) 0 (by omega) (fun s _=>mE) (bq [0,1,2]) ?_;intro j hj ih
 by_cases hjl:j<l.length
 ·have hok:=h.ok j hjl;have hlast:=h.last j hjl
  by_cases hl:j+1=l.length
  ·have hb2:(vP (l.getD j default))[2]? = some (.bool true):=by
    show some (XC.bool (l.getD j default).2.2)=_;rw[hlast,decide_eq_true hl]
   repeat' (first
    |(refine qz ?_;first
     |refine QH (enc:=vP) (j:=j) ?_
     |refine ld (hc:=hb2) ?_
     |refine cl ?_ (hi:=by exact sk hok rfl))
    |refine zz ?_|refine zx (fun _=>?_) (fun _=>?_)|fail)
   refine ih (j+1) _ _ _ (bq [0,1,2]) (by omega) (by omega)
  ·have hb2:(vP (l.getD j default))[2]? = some (.bool false):=by
    show some (XC.bool (l.getD j default).2.2)=_;rw[hlast,decide_eq_false hl]
   repeat' (first
    |(refine qz ?_;first
     |refine QH (enc:=vP) (j:=j) ?_
     |refine ld (hc:=hb2) ?_
     |refine cl ?_ (hi:=by exact sk hok rfl))
    |refine zz ?_|refine zx (fun _=>?_) (fun _=>?_)|fail)
   refine ih (j+1) _ _ _ (bq [0,1,2]) (by omega) (by omega)
 ·repeat' (first|refine zz ?_|refine zx (fun _=>?_) (fun _=>?_)|fail)
  refine WX.bQ (σ:=Nat) (fun j=>[(43,.one (.int .i64 (j:Nat))),(0,.one (.ptr 0 0)),(41,ee 2 l.length 3),(42,.one (.int .i64 (l.length:Nat)))]) (fun j=>[aO 3 (bs++gp (l.take j)),.dead,ez l,au (bs++gp (l.take j))]) (fun j=>j<=l.length) (fun j=>l.length-j) 0 (by omega) (fun s _=>mE) (bq [0,1,2,1] (obj:=by(repeat' (first|exact af.nil|refine af.flat (by rw[show gp (l.take 0) = []from rfl,List.append_nil];rfl) ?_|refine af.gT (by rw[show gp (l.take 0) = []from rfl,List.append_nil];rfl) rfl rfl rfl ?_|refine oz ?_));first|done|fail)) ?_;intro j2 hj2 ih2
  by_cases hjl2:j2<l.length
  ·have hok:=h.ok j2 hjl2;have hlast:=h.last j2 hjl2;have e1:=hok.run;have e2:=hok.lev;have e3:=sn e2 hok.nz;have hB:=tR h j2 hj2;have hlB:(bs++gp (l.take j2)).length<=810000:=by rw[List.length_append];omega
   by_cases hl:j2+1=l.length
   ·have hb2:(vP (l.getD j2 default))[2]? = some (.bool true):=by
     show some (XC.bool (l.getD j2 default).2.2)=_;rw[hlast,decide_eq_true hl]
    have hr:=iH (2*(l.getD j2 default).1+1) (by omega)
    have eB:gp (l.take (j2+1))=gp (l.take j2)++(eF (2*(l.getD j2 default).1+1)++eF (bZ (l.getD j2 default).2.1-1)):=by
     rw[rA hjl2,PV,hlast,decide_eq_true hl];rfl
    repeat' (first
     |(refine qz ?_;first
      |refine QH (enc:=vP) (j:=j2) ?_
      |refine ld (hc:=hb2) ?_
      |refine cl ?_ (hi:=by exact rP (by omega) rfl)
      |refine cl ?_ (hi:=by exact iI (v:=2*(l.getD j2 default).1+1) (bs:=bs++gp (l.take j2)) (by omega) (by omega) rfl rfl (by decide) nL nA rfl)
      |refine cl ?_ (hi:=by exact iI (v:=bZ (l.getD j2 default).2.1-1) (bs:=(bs++gp (l.take j2))++eF (2*(l.getD j2 default).1+1)) (by omega) (by rw[List.length_append];omega) rfl rfl (by decide) nL nA rfl))
     |refine zz ?_|refine zx (fun _=>?_) (fun _=>?_)|refine bM (by first|exact ai.nil|exact ai.one _|exact ai.pf (by repeat' (first|exact True.intro|refine And.intro ?_ ?_|exact Compat.ne rfl|exact d9 rfl))) ⟨by kernel_rfl,?_⟩|refine bM (by first|exact ai.nil|exact ai.one _|exact ai.pf (by repeat' (first|exact True.intro|refine And.intro ?_ ?_|exact Compat.ne rfl|exact d9 rfl))) ?_|fail)
    have hE:bs++gp (l.take (j2+1))=bs++gp (l.take j2)++eF (2*(l.getD j2 default).1+1)++eF (bZ (l.getD j2 default).2.1-1):=by rw[eB];simp only[List.append_assoc]
    refine ih2 (j2+1) _ _ _ (bq [0,1,2,6] (obj:=by(repeat' (first|exact af.nil|refine af.flat (by rw[hE];rfl) ?_|refine af.gT (by rw[hE];rfl) rfl rfl rfl ?_|refine oz ?_));first|done|fail)) (by omega) (by omega)
   ·have hb2:(vP (l.getD j2 default))[2]? = some (.bool false):=by
     show some (XC.bool (l.getD j2 default).2.2)=_;rw[hlast,decide_eq_false hl]
    have hr:=iH (2*(l.getD j2 default).1) (by omega)
    have eB:gp (l.take (j2+1))=gp (l.take j2)++(eF (2*(l.getD j2 default).1)++eF (bZ (l.getD j2 default).2.1-1)):=by
     rw[rA hjl2,PV,hlast,decide_eq_false hl,if_neg (by decide),Int.add_zero]
    repeat' (first
     |(refine qz ?_;first
      |refine QH (enc:=vP) (j:=j2) ?_
      |refine ld (hc:=hb2) ?_
      |refine cl ?_ (hi:=by exact rP (by omega) rfl)
      |refine cl ?_ (hi:=by exact iI (v:=2*(l.getD j2 default).1) (bs:=bs++gp (l.take j2)) (by omega) (by omega) rfl rfl (by decide) nL nA rfl)
      |refine cl ?_ (hi:=by exact iI (v:=bZ (l.getD j2 default).2.1-1) (bs:=(bs++gp (l.take j2))++eF (2*(l.getD j2 default).1)) (by omega) (by rw[List.length_append];omega) rfl rfl (by decide) nL nA rfl))
     |refine zz ?_|refine zx (fun _=>?_) (fun _=>?_)|refine bM (by first|exact ai.nil|exact ai.one _|exact ai.pf (by repeat' (first|exact True.intro|refine And.intro ?_ ?_|exact Compat.ne rfl|exact d9 rfl))) ⟨by kernel_rfl,?_⟩|refine bM (by first|exact ai.nil|exact ai.one _|exact ai.pf (by repeat' (first|exact True.intro|refine And.intro ?_ ?_|exact Compat.ne rfl|exact d9 rfl))) ?_|fail)
    have hE:bs++gp (l.take (j2+1))=bs++gp (l.take j2)++eF (2*(l.getD j2 default).1)++eF (bZ (l.getD j2 default).2.1-1):=by rw[eB];simp only[List.append_assoc]
    refine ih2 (j2+1) _ _ _ (bq [0,1,2,6] (obj:=by(repeat' (first|exact af.nil|refine af.flat (by rw[hE];rfl) ?_|refine af.gT (by rw[hE];rfl) rfl rfl rfl ?_|refine oz ?_));first|done|fail)) (by omega) (by omega)
  ·have hT:l.take j2=l:=List.take_of_length_le (by omega);rw[hT]
   repeat' (first|refine zz ?_|refine zx (fun _=>?_) (fun _=>?_)|fail)
   show aE _ _ _ _ _ _ _ _;refine kV [0,1,2,3] ?_;rfl
theorem OF(a b:List XC)(e e' e2 e3:TypeId)(cs ds fs:List XC):fM [.cells a e false false,bz e' cs,bz e3 fs] [.cells b e false false,.dead,bz e3 fs,bz e2 ds]=true:=by
 cases cs<;>cases ds<;>cases fs<;>simp[fM,aj.live,aj.own,bz]
theorem KZ{bs:List Bool}{l:List Ev}(h:pV l)(hb:bs.length<=800000){HS:ah}{i k q:Nat}(hi:HS[i]? = some (aO k bs))(hk:HS[k]? = some (au bs))(hq:HS[q]? = some (ez l))(hd : [i,k,q].Nodup){N:Nat}(hN:HS.length=N){HS':ah}(hh:bC HS [i,k] [aO N (bs++gp l),.dead,au (bs++gp l)]=HS')(hbd:Nat.blt HS'.length Mem.bound=true) :
 aA.Sound prog ⟨128,[.one (.ptr i 0),ee q l.length 3],HS,.one (.int .i64 0),HS',[i,k]⟩:=by
 subst hN
 have hh':bC HS [i,k,q] [aO HS.length (bs++gp l),.dead,ez l,au (bs++gp l)]=HS':=by
  subst hh;simp only[List.nodup_cons,List.mem_cons,List.not_mem_nil,or_false,not_or]at hd;simp only[bC];rw[aC (i:=q) (by rw[List.getElem?_set_ne hd.2.1,List.getElem?_set_ne hd.1.2];exact hq)]
 refine bp [i,k,q] [i,k] 1 (Hq bs l h hb) hd ?_ ?_ ?_ rfl (.cons (by simp[XV.br,XC.ok]) (.cons (ib (Nat.le_of_ble_eq_true rfl)) .nil)) (.cons rfl (.cons (dz ..) .nil)) (b7.ok _) (b7.aB _) ?_ (OF ..) rfl hh' hbd (.inr fun j hjl hj=>?_)
 ·exact af.gT hi rfl rfl rfl (.flat hk (.flat hq .nil))
 ·exact .cons (by simp[aj.br,XC.ok,aJ]) (.flat (.flat .nil))
 ·exact .cons (by simp[aj.br,XC.ok,aJ]) (.flat (.flat (.flat .nil)))
 ·exact .cons (by simp only[aj.aB,List.map_cons,List.map_nil,XC.aB,aX];rfl) (.flat (.flat (.flat .nil)))
 ·subst hh;exact lM _ _ _ _ hjl (by simpa using hj)
structure cR where
 id:Int
 inter:Bool
 down:Bool
 hqp:Int
 qp:Int
 cols:Int
 rows:Int
 M:jm
 A:nB
 B:nB
 C:nB
abbrev jg(S:cR):aj := .cells [.ptr 3 0,.int .i64 S.id,.bool S.inter,.bool S.down,.int .i64 S.hqp,.int .i64 S.qp,.ptr 16 0,.ptr 18 0] 157 false false
abbrev iz(S:cR):ah:=[jg S,eP 4 8 12,aU 5 6 7 cM,cL cM,cQ cM,cN cM,aU 9 10 11 cZ,cL cZ,cQ cZ,cN cZ,aU 13 14 15 cP,cL cP,cQ cP,cN cP,
 fi 17 S.cols S.rows,.map (cx S.M),.cells [.int .i64 S.cols,.int .i64 S.rows,.map 19,.map 20,.map 21] 220 false false,.map (ak S.A),.map (ak S.B),.map (ak S.C)]
instance Mx (M:nB):b9 (.map (ak M)):=uo (fun _=>rfl) (fun b=>show X1.shut (.agg (df b))=true from aZ b) M
abbrev dg:List Nat:=[2,3,4,5,6,7,8,9,10,11,12,13,14,15,16,17,18,19,20,21]
theorem nZ(S:cR)(n:Nat)(h:22<=n){l:ah}(hl:aq n l):aq n (iz S++l):=by
 have k:∀j,j<22->j<n:=fun j hj=>by omega
 refine .cons ?_ (.cons ?_ (.cons ?_ (.flat (.flat (.flat (.cons ?_ (.flat (.flat (.flat (.cons ?_ (.flat (.flat (.flat (.cons ?_ (.flat (.cons ?_ (.flat (.flat (.flat hl)))))))))))))))))))
 all_goals simp[aj.br,XC.ok];omega
theorem yC(S:cR){τ : Nat->Nat}(h:∀j,2<=j->j<22 -> τ j=j){l l':ah}(hl:dS τ l l'):dS τ (iz S++l) (iz S++l'):=by
 have h3:=h 3 (by omega) (by omega);have h4:=h 4 (by omega) (by omega);have h5:=h 5 (by omega) (by omega);have h6:=h 6 (by omega) (by omega);have h7:=h 7 (by omega) (by omega);have h8:=h 8 (by omega) (by omega);have h9:=h 9 (by omega) (by omega);have h10:=h 10 (by omega) (by omega);have h11:=h 11 (by omega) (by omega);have h12:=h 12 (by omega) (by omega);have h13:=h 13 (by omega) (by omega);have h14:=h 14 (by omega) (by omega);have h15:=h 15 (by omega) (by omega);have h16:=h 16 (by omega) (by omega);have h17:=h 17 (by omega) (by omega);have h18:=h 18 (by omega) (by omega);have h19:=h 19 (by omega) (by omega);have h20:=h 20 (by omega) (by omega);have h21:=h 21 (by omega) (by omega);refine .cons ?_ (.cons ?_ (.cons ?_ (.flat (.flat (.flat (.cons ?_ (.flat (.flat (.flat (.cons ?_ (.flat (.flat (.flat (.cons ?_ (.flat (.cons ?_ (.flat (.flat (.flat hl)))))))))))))))))))
 all_goals simp only[aj.aB,List.map_cons,List.map_nil,XC.aB, *]
theorem yD(S:cR){τ : Nat->Nat}{HS:ah}(h:∀j,2<=j->j<22 -> τ j=j)(hS:(HS.drop 2).take 20=iz S){ls:List Nat}{l:ah}(hl:af τ HS ls l):af τ HS (dg++ls) (iz S++l):=by
 have g:∀j,j<20->HS[j+2]? = (iz S)[j]?:=fun j hj=>by
  rw[<-hS,List.getElem?_take,if_pos hj,List.getElem?_drop]
  congr 1
  omega
 have h3:=h 3 (by omega) (by omega);have h4:=h 4 (by omega) (by omega);have h5:=h 5 (by omega) (by omega);have h6:=h 6 (by omega) (by omega);have h7:=h 7 (by omega) (by omega);have h8:=h 8 (by omega) (by omega);have h9:=h 9 (by omega) (by omega);have h10:=h 10 (by omega) (by omega);have h11:=h 11 (by omega) (by omega);have h12:=h 12 (by omega) (by omega);have h13:=h 13 (by omega) (by omega);have h14:=h 14 (by omega) (by omega);have h15:=h 15 (by omega) (by omega);have h16:=h 16 (by omega) (by omega);have h17:=h 17 (by omega) (by omega);have h18:=h 18 (by omega) (by omega);have h19:=h 19 (by omega) (by omega);have h20:=h 20 (by omega) (by omega);have h21:=h 21 (by omega) (by omega);refine .cons ?_ (.cons ?_ (.cons ?_ (.flat (g 3 (by omega)) (.flat (g 4 (by omega)) (.flat (g 5 (by omega)) (.cons ?_ (.flat (g 7 (by omega)) (.flat (g 8 (by omega)) (.flat (g 9 (by omega)) (.cons ?_ (.flat (g 11 (by omega)) (.flat (g 12 (by omega)) (.flat (g 13 (by omega)) (.cons ?_ (.flat (g 15 (by omega)) (.cons ?_ (.flat (g 17 (by omega)) (.flat (g 18 (by omega)) (.flat (g 19 (by omega)) hl)))))))))))))))))))
 ·rw[g 0 (by omega)];simp only[aj.aB,List.map_cons,List.map_nil,XC.aB, *];rfl
 ·rw[g 1 (by omega)];simp only[aj.aB,List.map_cons,List.map_nil,XC.aB, *];rfl
 ·rw[g 2 (by omega)];simp only[aj.aB,List.map_cons,List.map_nil,XC.aB, *];rfl
 ·rw[g 6 (by omega)];simp only[aj.aB,List.map_cons,List.map_nil,XC.aB, *];rfl
 ·rw[g 10 (by omega)];simp only[aj.aB,List.map_cons,List.map_nil,XC.aB, *];rfl
 ·rw[g 14 (by omega)];simp only[aj.aB,List.map_cons,List.map_nil,XC.aB, *];rfl
 ·rw[g 16 (by omega)];simp only[aj.aB,List.map_cons,List.map_nil,XC.aB, *];rfl
theorem L8(a b:List XC)(e e' e2:TypeId)(cs ds:List XC)(S S':cR):fM (.cells a e false false::bz e' cs::iz S) (.cells b e false false :: .dead::(iz S'++[bz e2 ds]))=true:=by
 cases cs<;>cases ds<;>simp[fM,aj.live,aj.own,bz]
theorem Ns{f:FuncId}{more:List XV}(hm:∀τ,eL τ more more)(hmo:gB 22 more){v:XV}[b7 v]{bs bs':List Bool}{S S':cR}(hc:bm prog f (.one (.ptr 2 0) :: .one (.ptr 0 0)::more) (aO 1 bs::au bs::iz S) v (aO 22 bs' :: .dead::(iz S'++[au bs'])))
 {HS:ah} {k:Nat}(hi:HS[0]? = some (aO k bs)) (hk:HS[k]? = some (au bs)) (hS:(HS.drop 2).take 20=iz S) (hd:(k==1||Nat.ble 22 k)=true) {N:Nat}(hN:HS.length=N) {HS':ah}(hh:bC HS (0::k::dg) (aO N bs' :: .dead::(iz S'++[au bs']))=HS') (hbd:Nat.blt HS'.length Mem.bound=true) :
 aA.Sound prog ⟨f,.one (.ptr 2 0) :: .one (.ptr 0 0)::more,HS,v,HS',0::k::dg⟩:=by
 subst hN;have hkk:k=1\/22<=k:=by simpa [Nat.ble_eq]using hd
 have h0:0∉dg:=by decide
 have hk':k∉dg:=by
  intro h;simp only[dg,List.mem_cons,List.not_mem_nil,or_false]at h;omega
 have nd:(0::k::dg).Nodup:=List.nodup_cons.2 ⟨fun h=>(List.mem_cons.1 h).elim (fun e=>by omega) h0,List.nodup_cons.2 ⟨hk',by decide⟩⟩;have hq:∀q:Fin 20,dg[q.val]? = some (q.val+2):=by decide
 have ht:∀j,2<=j->j<22->nth (0::k::dg) j=j:=fun j h1 h2=>by
  obtain⟨q,rfl⟩:∃q,j=q+2:=⟨j-2,by omega⟩
  have:=hq ⟨q,by omega⟩;unfold nth;rw[List.getD_eq_getElem?_getD];simp only[List.getElem?_cons_succ];rw[this];rfl
 have ht':∀j,2<=j->j<22->nth ((0::k::dg)++List.range' HS.length 1) j=j:=fun j h1 h2=>by
  obtain⟨q,rfl⟩:∃q,j=q+2:=⟨j-2,by omega⟩
  have:=hq ⟨q,by omega⟩;unfold nth;rw[List.getD_eq_getElem?_getD];show((dg++List.range' HS.length 1)[q]?).getD 0=q+2;rw[List.getElem?_append_left (show q<dg.length by show q<20;omega),this];rfl
 have hv:=yD S ht hS (ls:=[]) .nil;rw[List.append_nil,List.append_nil]at hv;have ho:=nZ S 22 (Nat.le_refl _) (l:=[]) .nil;rw[List.append_nil]at ho;refine bp (0::k::dg) (0::k::dg) 1 hc nd (af.gT hi rfl rfl rfl (.flat hk hv)) (.cons (by simp[aj.br,XC.ok,aJ]) (.flat ho)) (.cons (by simp[aj.br,XC.ok,aJ]) (.flat (nZ S' 23 (by omega) (.flat .nil)))) rfl (.cons (by show 2<22;omega) (.cons (by show 0<22;omega) hmo)) (.cons rfl (.cons rfl (hm _))) (b7.ok _) (b7.aB _) ?_ (L8 ..) rfl hh hbd (.inl rfl);exact .cons (by simp only[aj.aB,List.map_cons,List.map_nil,XC.aB,aX];rfl) (.flat (yC S' ht' (.flat .nil)))
def dB(n:Int):Nat:=bitLen (max n (-n)).toNat
def fw(n:Int):List Bool:=iX cZ (dB n)++bd (if n<0 then n+(1*2^dB n-1)else n) (dB n)
theorem Fo(n:Nat):n<2^bitLen n:=by
 unfold bitLen;split
 ·rename_i h;rw[h];decide
 ·exact Nat.lt_log2_self
theorem jJ{C:Cd}(hC:Bo C)(n:Nat):(iX C n).length<=64:=by
 unfold iX;have:=hC.sz n;have h:∀(x:Int) (k:Nat),(bd x k).length=k:=fun x k=>bu x k
 rw[h];omega
theorem zt{n:Int}(h : -4000<=n/\n<=4000):dB n<=12:=ri (by omega)
theorem HF(bs:List Bool)(S:cR)(n:Int)(hn : -4000<=n/\n<=4000)(hb:bs.length<=800000) :
 bm prog 122 [.one (.ptr 2 0),.one (.ptr 0 0),.one (.int .i64 n)] [aO 1 bs,au bs,jg (S),eP 4 8 12,aU 5 6 7 cM,cL cM,cQ cM,cN cM,aU 9 10 11 cZ,cL cZ,cQ cZ,cN cZ,aU 13 14 15 cP,cL cP,cQ cP,cN cP,fi 17 (S).cols (S).rows,.map (cx (S).M),.cells [.int .i64 (S).cols,.int .i64 (S).rows,.map 19,.map 20,.map 21] 220 false false,.map (ak (S).A),.map (ak (S).B),.map (ak (S).C)] (.tup []) [aO 22 (bs++fw n),.dead,jg (S),eP 4 8 12,aU 5 6 7 cM,cL cM,cQ cM,cN cM,aU 9 10 11 cZ,cL cZ,cQ cZ,cN cZ,aU 13 14 15 cP,cL cP,cQ cP,cN cP,fi 17 (S).cols (S).rows,.map (cx (S).M),.cells [.int .i64 (S).cols,.int .i64 (S).rows,.map 19,.map 20,.map 21] 220 false false,.map (ak (S).A),.map (ak (S).B),.map (ak (S).C),au (bs++fw n)]:=by
 have hm:max n (0-n)=max n (-n):=by rw[Int.zero_sub]
 have hl:=zt hn;have hlt:=Fo (max n (-n)).toNat;have hl2:qs (max n (0-n)).toNat=(dB n:Nat):=by rw[hm];rfl
 have hc:=jJ Dm (dB n)
 have hpow:(2:Int)^dB n<=4096:=by
  have:=Nat.pow_le_pow_right (show 0<2 by decide) hl;have h2:((2^dB n:Nat):Int)<=((2^12:Nat):Int):=Int.ofNat_le.2 this;rw[Int.natCast_pow]at h2;exact h2
 have hpl : -n<(2:Int)^dB n/\n<(2:Int)^dB n:=by
  have h2:(((max n (-n)).toNat:Nat):Int)<((2^dB n:Nat):Int):=Int.ofNat_lt.2 hlt;rw[Int.natCast_pow]at h2;have h3:((2:Nat):Int)^dB n=(2:Int)^dB n:=rfl;rw[h3]at h2;omega
 have h1:(1:Int)*2^dB n=2^dB n:=Int.one_mul _;have e0:bs++fw n=(bs++iX cZ (dB n))++bd (if n<0 then n+(1*2^dB n-1)else n) (dB n):=by rw[fw,List.append_assoc]
 rw[e0];refine cO Tryz.func122 ?_
 by_cases h0:n<0
 ·rw[if_pos h0]
  repeat' (first
   |(refine qz ?_;first
    |refine Rq ?_
    |refine cl (v := .one (.int .i64 (dB n:Nat))) ?_ (hi:=by rw[<-hl2];exact BY (by omega) rfl)
    |refine cl ?_ (hi:=by exact qa (C:=cZ) Dm (n:=dB n) rfl (by show dB n<13;omega) (bs:=bs) (by omega) rfl rfl rfl rfl rfl rfl (by decide) nL nA rfl)
    |refine JF (n:=dB n) ?_ (h:=⟨by show dB n<=64;omega,by show _/\_;omega⟩)
    |refine cl ?_ (hi:=by exact eZ (n:=n+(1*2^dB n-1)) (size:=dB n) rfl (bs:=bs++iX cZ (dB n)) (by omega) (by omega) (by rw[List.length_append];omega) rfl rfl (by decide) nL nA rfl))
   |refine zz ?_|refine zx (fun _=>?_) (fun _=>?_)|fail)
  show aE _ _ _ _ _ _ _ _;refine kV [0,1,2,3,4,5,6,7,8,9,10,11,12,13,14,15,16,17,18,19,20,21,23] ?_;rfl
 ·rw[if_neg h0]
  repeat' (first
   |(refine qz ?_;first
    |refine Rq ?_
    |refine cl (v := .one (.int .i64 (dB n:Nat))) ?_ (hi:=by rw[<-hl2];exact BY (by omega) rfl)
    |refine cl ?_ (hi:=by exact qa (C:=cZ) Dm (n:=dB n) rfl (by show dB n<13;omega) (bs:=bs) (by omega) rfl rfl rfl rfl rfl rfl (by decide) nL nA rfl)
    |refine cl ?_ (hi:=by exact eZ (n:=n) (size:=dB n) rfl (bs:=bs++iX cZ (dB n)) (by omega) (by omega) (by rw[List.length_append];omega) rfl rfl (by decide) nL nA rfl))
   |refine zz ?_|refine zx (fun _=>?_) (fun _=>?_)|fail)
  show aE _ _ _ _ _ _ _ _;refine kV [0,1,2,3,4,5,6,7,8,9,10,11,12,13,14,15,16,17,18,19,20,21,23] ?_;rfl
theorem ER{n:Int}(h : -4000<=n/\n<=4000):(fw n).length<=76:=by
 unfold fw;have:=jJ Dm (dB n);have:=zt h;rw[List.length_append,bu];omega
theorem K4{bs:List Bool}{S:cR}{n:Int}(hn : -4000<=n/\n<=4000)(hb:bs.length<=800000){HS:ah}{k:Nat}(hi:HS[0]? = some (aO k bs))(hk:HS[k]? = some (au bs))(hS:(HS.drop 2).take 20=iz S)(hd:(k==1||Nat.ble 22 k)=true){N:Nat}(hN:HS.length=N){HS':ah}(hh:bC HS (0::k::dg) (aO N (bs++fw n) :: .dead::(iz S++[au (bs++fw n)]))=HS')(hbd:Nat.blt HS'.length Mem.bound=true) :
 aA.Sound prog ⟨122,[.one (.ptr 2 0),.one (.ptr 0 0),.one (.int .i64 n)],HS,.tup [],HS',0::k::dg⟩:=
 Ns (fun _ => .flat .nil) (.flat .nil) (HF bs S n hn hb) hi hk hS hd hN hh hbd
abbrev OO(S:cR):List XC:=[.ptr 3 0,.int .i64 S.id,.bool S.inter,.bool S.down,.int .i64 S.hqp,.int .i64 S.qp,.ptr 16 0,.ptr 18 0]
theorem yr{S:cR}{b:Bool}(h:S.inter=b):(OO S)[2]? = some (.bool b):=by rw[<-h];rfl
def bc(S:cR)(m:Mb):List Bool:=(if S.inter=true then iX cM m.kind.toNat else [decide (m.kind=4)])++(if m.kind=4 then bd (ei S.qp m.qp).1 2 else [])
def ff(S:cR)(m:Mb):cR:=if m.kind=4 then {S with qp:=m.qp}else S
theorem Gb(a b:Int):0<=(ei a b).1/\(ei a b).1<=3:=by
 unfold ei
 repeat' split
 all_goals simp
theorem nO(bs:List Bool)(S:cR)(m:Mb)(hm:iU m)(hk:m.kind<=4)(hq : -1000000<=S.qp/\S.qp<=1000000)(hb:bs.length<=800000) :
 bm prog 88 [.one (.ptr 2 0),.one (.ptr 0 0),.agg (mC m)] [aO 1 bs,au bs,jg (S),eP 4 8 12,aU 5 6 7 cM,cL cM,cQ cM,cN cM,aU 9 10 11 cZ,cL cZ,cQ cZ,cN cZ,aU 13 14 15 cP,cL cP,cQ cP,cN cP,fi 17 (S).cols (S).rows,.map (cx (S).M),.cells [.int .i64 (S).cols,.int .i64 (S).rows,.map 19,.map 20,.map 21] 220 false false,.map (ak (S).A),.map (ak (S).B),.map (ak (S).C)] (.tup []) [aO 22 (bs++bc S m),.dead,jg (ff S m),eP 4 8 12,aU 5 6 7 cM,cL cM,cQ cM,cN cM,aU 9 10 11 cZ,cL cZ,cQ cZ,cN cZ,aU 13 14 15 cP,cL cP,cQ cP,cN cP,fi 17 (ff S m).cols (ff S m).rows,.map (cx (ff S m).M),.cells [.int .i64 (ff S m).cols,.int .i64 (ff S m).rows,.map 19,.map 20,.map 21] 220 false false,.map (ak (ff S m).A),.map (ak (ff S m).B),.map (ak (ff S m).C),au (bs++bc S m)]:=by
 have hkind:=hm.kind;have hqp:=hm.qp;have hsr:=Gb S.qp m.qp;have hcb:=jJ Dl m.kind.toNat;have hkn:m.kind=(m.kind.toNat:Nat):=by omega
 unfold bc
 obtain⟨b,hin⟩:∃b,S.inter=b:=⟨_,rfl⟩
 have hl2:=yr hin
 by_cases h4:m.kind=4
 ·have e4:ff S m = {S with qp:=m.qp}:=if_pos h4;rw[e4,if_pos h4];cases b
  ·rw[if_neg (by rw[hin];decide),decide_eq_true h4,<-List.append_assoc];refine cO Tryz.func88 ?_
   repeat' (first
    |(refine qz ?_;first
     |refine ld (hc:=hl2) ?_
     |refine cl ?_ (hi:=by exact jj (b:=true) (bs:=bs) (by omega) rfl rfl (by decide) nL nA rfl)
     |refine cl ?_ (hi:=by exact yF hq hqp rfl)
     |refine cl ?_ (hi:=by exact eZ (n:=(ei S.qp m.qp).1) (size:=2) rfl (bs:=bs++[true]) (by omega) (by decide) (by rw[List.length_append];simp;omega) rfl rfl (by decide) nL nA rfl))
    |refine zz ?_|refine zx (fun _=>?_) (fun _=>?_)|fail)
   show aE _ _ _ _ _ _ _ _;refine kV [0,1,2,3,4,5,6,7,8,9,10,11,12,13,14,15,16,17,18,19,20,21,24] ?_;rfl
  ·rw[if_pos hin,<-List.append_assoc];refine cO Tryz.func88 ?_
   repeat' (first
    |(refine qz ?_;first
     |refine ld (hc:=hl2) ?_
     |refine cl ?_ (hi:=by exact qa (C:=cM) Dl (n:=m.kind.toNat) hkn (by show m.kind.toNat<5;omega) (bs:=bs) (by omega) rfl rfl rfl rfl rfl rfl (by decide) nL nA rfl)
     |refine cl ?_ (hi:=by exact yF hq hqp rfl)
     |refine cl ?_ (hi:=by exact eZ (n:=(ei S.qp m.qp).1) (size:=2) rfl (bs:=bs++iX cM m.kind.toNat) (by omega) (by decide) (by rw[List.length_append];omega) rfl rfl (by decide) nL nA rfl))
    |refine zz ?_|refine zx (fun _=>?_) (fun _=>?_)|fail)
   show aE _ _ _ _ _ _ _ _;refine kV [0,1,2,3,4,5,6,7,8,9,10,11,12,13,14,15,16,17,18,19,20,21,24] ?_;rfl
 ·have e4:ff S m=S:=if_neg h4;rw[e4,if_neg h4,List.append_nil];cases b
  ·rw[if_neg (by rw[hin];decide),decide_eq_false h4];refine cO Tryz.func88 ?_
   repeat' (first
    |(refine qz ?_;first
     |refine ld (hc:=hl2) ?_
     |refine cl ?_ (hi:=by exact jj (b:=false) (bs:=bs) (by omega) rfl rfl (by decide) nL nA rfl))
    |refine zz ?_|refine zx (fun _=>?_) (fun _=>?_)|fail)
   show aE _ _ _ _ _ _ _ _;refine kV [0,1,2,3,4,5,6,7,8,9,10,11,12,13,14,15,16,17,18,19,20,21,23] ?_;rfl
  ·rw[if_pos hin];refine cO Tryz.func88 ?_
   repeat' (first
    |(refine qz ?_;first
     |refine ld (hc:=hl2) ?_
     |refine cl ?_ (hi:=by exact qa (C:=cM) Dl (n:=m.kind.toNat) hkn (by show m.kind.toNat<5;omega) (bs:=bs) (by omega) rfl rfl rfl rfl rfl rfl (by decide) nL nA rfl))
    |refine zz ?_|refine zx (fun _=>?_) (fun _=>?_)|fail)
   show aE _ _ _ _ _ _ _ _;refine kV [0,1,2,3,4,5,6,7,8,9,10,11,12,13,14,15,16,17,18,19,20,21,23] ?_;rfl
theorem jL(S:cR)(m:Mb):(bc S m).length<=66:=by
 unfold bc;have:=jJ Dl m.kind.toNat;rw[List.length_append];split<;>split<;>simp only[List.length_cons,List.length_nil,bu]<;>omega
def Eb(M:jm)(cols mb:Int)(v:Nat->Int×Int):jm:=cD (cD (cD (cD M cols mb 0 (v 0)) cols mb 1 (v 1)) cols mb 2 (v 2)) cols mb 3 (v 3)
def bY(S:cR)(mb:Int)(v:Nat->Int×Int):cR:={S with M:=Eb S.M S.cols mb v}
theorem Gg(bs:List Bool)(S:cR)(hD:lY S.cols S.rows)(mb:Int)(hmb:0<=mb/\mb<S.cols*S.rows)(m:Mb) :
 bm prog 89 [.one (.ptr 2 0),.one (.int .i64 mb),.agg (mC m)] [aO 1 bs,au bs,jg (S),eP 4 8 12,aU 5 6 7 cM,cL cM,cQ cM,cN cM,aU 9 10 11 cZ,cL cZ,cQ cZ,cN cZ,aU 13 14 15 cP,cL cP,cQ cP,cN cP,fi 17 (S).cols (S).rows,.map (cx (S).M),.cells [.int .i64 (S).cols,.int .i64 (S).rows,.map 19,.map 20,.map 21] 220 false false,.map (ak (S).A),.map (ak (S).B),.map (ak (S).C)] (.tup []) [aO 1 bs,au bs,jg (bY S mb m.v),eP 4 8 12,aU 5 6 7 cM,cL cM,cQ cM,cN cM,aU 9 10 11 cZ,cL cZ,cQ cZ,cN cZ,aU 13 14 15 cP,cL cP,cQ cP,cN cP,fi 17 (bY S mb m.v).cols (bY S mb m.v).rows,.map (cx (bY S mb m.v).M),.cells [.int .i64 (bY S mb m.v).cols,.int .i64 (bY S mb m.v).rows,.map 19,.map 20,.map 21] 220 false false,.map (ak (bY S mb m.v).A),.map (ak (bY S mb m.v).B),.map (ak (bY S mb m.v).C)]:=by
 refine cO Tryz.func89 ?_
 repeat' (first
  |(refine qz ?_;first
   |refine t_ (cs:=vt m.v) ?_ (hle:=by rw[aY];decide)
   |refine KG ?_
   |refine cl ?_ (hi:=by exact jF (M:=S.M) (cols:=S.cols) (rows:=S.rows) (i:=16) (j:=17) (k:=0) (v:=m.v 0) hD hmb (by decide) rfl rfl (by decide) nA rfl)
   |refine cl ?_ (hi:=by exact jF (M:=cD S.M S.cols mb 0 (m.v 0)) (cols:=S.cols) (rows:=S.rows) (i:=16) (j:=17) (k:=1) (v:=m.v 1) hD hmb (by decide) rfl rfl (by decide) nA rfl)
   |refine cl ?_ (hi:=by exact jF (M:=cD (cD S.M S.cols mb 0 (m.v 0)) S.cols mb 1 (m.v 1)) (cols:=S.cols) (rows:=S.rows) (i:=16) (j:=17) (k:=2) (v:=m.v 2) hD hmb (by decide) rfl rfl (by decide) nA rfl)
   |refine cl ?_ (hi:=by exact jF (M:=cD (cD (cD S.M S.cols mb 0 (m.v 0)) S.cols mb 1 (m.v 1)) S.cols mb 2 (m.v 2)) (cols:=S.cols) (rows:=S.rows) (i:=16) (j:=17) (k:=3) (v:=m.v 3) hD hmb (by decide) rfl rfl (by decide) nA rfl))
  |refine WX.loop ?_|refine WX.round ?_|refine zz ?_|refine zx (fun _=>?_) (fun _=>?_)|fail)
 show aE _ _ _ _ _ _ _ _;refine kV [0,1,2,3,4,5,6,7,8,9,10,11,12,13,14,15,16,17,18,19,20,21] ?_;rfl
def B5(S:cR)(mb k dx dy:Int):Option Kn:=bn S.A S.B S.C S.cols (placeOf S.cols mb k).1 ((placeOf S.cols mb k).2.1-dx) ((placeOf S.cols mb k).2.2-dy)
def dI(S:cR)(mb k q:Int):Int×Int:=jW (B5 S mb k 1 0) (B5 S mb k 0 1) (B5 S mb k 1 1) q
def kf(S:cR)(mb k q:Int):Nat->Int:=zu (B5 S mb k 1 0) (B5 S mb k 0 1) (B5 S mb k 1 1) q
def Pg(S:cR)(mb k:Int):Int:=(placeOf S.cols mb k).2.2*cz S.cols (placeOf S.cols mb k).1+(placeOf S.cols mb k).2.1
def eH(S:cR)(mb k:Int)(b:Kn):cR:={S with A:=rO (placeOf S.cols mb k).1 0 S.A (Pg S mb k) b,B:=rO (placeOf S.cols mb k).1 1 S.B (Pg S mb k) b,C:=rO (placeOf S.cols mb k).1 2 S.C (Pg S mb k) b}
theorem bt(n q:Int):0<=cW n q/\cW n q<=127:=by
 have h:=mF q;have:0<=(max n 0+stepOf q/2)/stepOf q:=Int.ediv_nonneg (by omega) (by omega);unfold cW;omega
theorem HP(la lb lc:Option Kn)(q:Int):0<=(jW la lb lc q).2/\(jW la lb lc q).2<=127/\0<=(jW la lb lc q).1/\(jW la lb lc q).1<=2:=by
 unfold jW;cases la<;>cases lb<;>simp only[]
 ·exact⟨(bt _ _).1,(bt _ _).2,by simp,by simp⟩
 ·exact⟨(bt _ _).1,(bt _ _).2,by simp,by simp⟩
 ·exact⟨(bt _ _).1,(bt _ _).2,by simp,by simp⟩
 ·cases lc<;>simp only[]<;>split
  ·exact⟨(bt _ _).1,(bt _ _).2,by simp,by simp⟩
  ·exact⟨(bt _ _).1,(bt _ _).2,by simp,by simp⟩
  ·exact⟨(bt _ _).1,(bt _ _).2,by simp,by simp⟩
  ·exact⟨(bt _ _).1,(bt _ _).2,by simp,by simp⟩
theorem rR(S:cR)(mb k q:Int):0<=(dI S mb k q).2/\(dI S mb k q).2<=127/\0<=(dI S mb k q).1/\(dI S mb k q).1<=2:=HP _ _ _ _
section
variable {S:cR} {mb k q:Int}(hD:lY S.cols S.rows) (hmb:0<=mb/\mb<S.cols*S.rows) (hk:0<=k/\k<6)
include hD hmb hk
theorem R3:gz S.cols S.rows mb k=true:=i6.2 ⟨hmb.1,hmb.2,hk⟩
theorem JS:bm prog 119 [.one (.ptr 0 0),.one (.int .i64 mb),.one (.int .i64 k),.one (.int .i64 q)] (bJ S.cols S.rows S.A S.B S.C) (jB (dI S mb k q)) (bJ S.cols S.rows S.A S.B S.C):=
 qe ⟨hD.c0,hD.c1⟩ ⟨by have:=hD.r0;omega,hD.r1⟩ (R3 hD hmb hk) (p:=(placeOf S.cols mb k).1) (x:=(placeOf S.cols mb k).2.1) (y:=(placeOf S.cols mb k).2.2) rfl (by unfold B5;rw[Int.sub_zero]) (by unfold B5;rw[Int.sub_zero]) rfl
theorem Gm:bm prog 121 [.one (.ptr 0 0),.one (.int .i64 mb),.one (.int .i64 k),.one (.int .i64 q)] (bJ S.cols S.rows S.A S.B S.C) (.agg (ti .i64 64 (kf S mb k q))) (bJ S.cols S.rows S.A S.B S.C):=
 HJ ⟨hD.c0,hD.c1⟩ ⟨by have:=hD.r0;omega,hD.r1⟩ (R3 hD hmb hk) (p:=(placeOf S.cols mb k).1) (x:=(placeOf S.cols mb k).2.1) (y:=(placeOf S.cols mb k).2.2) rfl (by unfold B5;rw[Int.sub_zero]) (by unfold B5;rw[Int.sub_zero]) rfl
theorem JW(b:Kn):bm prog 123 [.one (.ptr 0 0),.one (.int .i64 mb),.one (.int .i64 k),.agg (df b)] (bJ S.cols S.rows S.A S.B S.C) (.tup []) (bJ S.cols S.rows (eH S mb k b).A (eH S mb k b).B (eH S mb k b).C):=
 Mc ⟨hD.c0,hD.c1⟩ ⟨by have:=hD.r0;omega,hD.r1⟩ (R3 hD hmb hk) (p:=(placeOf S.cols mb k).1) (x:=(placeOf S.cols mb k).2.1) (y:=(placeOf S.cols mb k).2.2) rfl b
theorem yH{HS:ah}(ha:HS[18]? = some (.cells [.int .i64 S.cols,.int .i64 S.rows,.map 19,.map 20,.map 21] 220 false false))(hb:HS[19]? = some (.map (ak S.A)))(hc:HS[20]? = some (.map (ak S.B)))(hd:HS[21]? = some (.map (ak S.C)))(hbd:Nat.blt HS.length Mem.bound=true) :
 aA.Sound prog ⟨119,[.one (.ptr 18 0),.one (.int .i64 mb),.one (.int .i64 k),.one (.int .i64 q)],HS,jB (dI S mb k q),HS,[]⟩:=
 aD (JS hD hmb hk) 18 19 20 21 (by decide) ha hb hc hd rfl rfl hbd
theorem JR{HS:ah}(ha:HS[18]? = some (.cells [.int .i64 S.cols,.int .i64 S.rows,.map 19,.map 20,.map 21] 220 false false))(hb:HS[19]? = some (.map (ak S.A)))(hc:HS[20]? = some (.map (ak S.B)))(hd:HS[21]? = some (.map (ak S.C)))(hbd:Nat.blt HS.length Mem.bound=true) :
 aA.Sound prog ⟨121,[.one (.ptr 18 0),.one (.int .i64 mb),.one (.int .i64 k),.one (.int .i64 q)],HS,.agg (ti .i64 64 (kf S mb k q)),HS,[]⟩:=
 aD (Gm hD hmb hk) 18 19 20 21 (by decide) ha hb hc hd rfl (iR _ _ _) hbd
theorem D_{b:Kn}{HS HS':ah}(ha:HS[18]? = some (.cells [.int .i64 S.cols,.int .i64 S.rows,.map 19,.map 20,.map 21] 220 false false))(hb:HS[19]? = some (.map (ak S.A)))(hc:HS[20]? = some (.map (ak S.B)))(hd:HS[21]? = some (.map (ak S.C)))(hh:((HS.set 19 (.map (ak (eH S mb k b).A))).set 20 (.map (ak (eH S mb k b).B))).set 21 (.map (ak (eH S mb k b).C))=HS')(hbd:Nat.blt HS'.length Mem.bound=true) :
 aA.Sound prog ⟨123,[.one (.ptr 18 0),.one (.int .i64 mb),.one (.int .i64 k),.agg (df b)],HS,.tup [],HS',[19,20,21]⟩:=
 Ib (JW hD hmb hk b) 18 19 20 21 (by decide) ha hb hc hd hh hbd
end
theorem Cz{S:cR}{mb k q:Int}(h:∀dx dy b,B5 S mb k dx dy=some b->∀i,-1000000<=b.lv i/\b.lv i<=1000000)(i:Nat) : -1000000<=kf S mb k q i/\kf S mb k q i<=1000000:=by
 have hem:∀(b:Kn) (s:Nat),(∀i,-1000000<=b.lv i/\b.lv i<=1000000)->∀n i,-1000000<=em b s n i/\em b s n i<=1000000:=by
  intro b s hb n
  induction n with
  | zero=>intro i;simp[em]
  | succ n ih=>
    intro i;rw[xW];unfold gG;split
    ·exact hb _
    ·exact ih i
 have ho:∀(o:Option Kn) (s:Nat),(∀b,o=some b->∀i,-1000000<=b.lv i/\b.lv i<=1000000) -> -1000000<=i3 o s q i/\i3 o s q i<=1000000:=by
  intro o s hb
  cases o with
  | none=>simp[i3,iG]
  | some b=>
    unfold i3;simp only[];split
    ·exact hem b s (hb b rfl) _ i
    ·simp[iG]
 unfold kf zu;split
 ·exact ho _ _ (h 1 0)
 ·split
  ·exact ho _ _ (h 0 1)
  ·simp[iG]
end Go.Proofs.YthdciapjllppjaaGreat
namespace Go.Proofs.YthdciapjllppjaaGreat
open Go.Xm
variable [av]
theorem uT{f:Nat->Int}(h:∀i,i<64 -> -2047<=f i/\f i<=2047):∀(n i:Nat) (run:Int),i+n=64->0<=run->run<=i->∀e∈kO f n i run,GU e/\e.2.2=false
 | 0,i,run,_,_,_,e,he=>by cases he
 | n + 1,i,run,h1,h2,h3,e,he=>by
   unfold kO at he
   by_cases hz:f i=0
   ·rw[if_pos hz]at he;exact uT h n (i+1) (run+1) (by omega) (by omega) (by omega) e he
   ·rw[if_neg hz]at he
    rcases List.mem_cons.1 he with rfl|he
    ·exact⟨⟨⟨h2,by show run<=63;omega⟩,hz,h i (by omega)⟩,rfl⟩
    ·exact uT h n (i+1) 0 (by omega) (by omega) (by omega) e he
theorem t7:∀(l:List Ev) (j:Nat),(∀e∈l,e.2.2=false)->j<l.length->(jY l).getD j default=((l.getD j default).1,(l.getD j default).2.1,decide (j+1=l.length))
 | [],j,_,hj=>by simp at hj
 | [e],j,_,hj=>by
   have:j=0:=by simpa using hj
   subst this;rfl
 | e::e2::l,0,hf,_=>by
   have:e.2.2=false:=hf e (List.mem_cons_self ..);show e=(e.1,e.2.1,decide (0+1=(e::e2::l).length));rw[decide_eq_false (by simp),<-this]
 | e :: e2::l,j+1,hf,hj=>by
   have ih:=t7 (e2::l) j (fun x hx=>hf x (List.mem_cons_of_mem _ hx)) (by simpa using hj);show(jY (e2::l)).getD j default=_;rw[ih];show _=(((e2::l).getD j default).1,((e2::l).getD j default).2.1,decide (j+1+1=(e::e2::l).length))
   have:decide (j+1=(e2::l).length)=decide (j+1+1=(e::e2::l).length):=by
    simp only[List.length_cons]
    rcases Classical.em (j+1=l.length+1)with g|g
    ·rw[decide_eq_true g,decide_eq_true (by omega)]
    ·rw[decide_eq_false g,decide_eq_false (by omega)]
   rw[this]
theorem L_{f:Nat->Int}{st:Nat}(hst:st<=64)(h:∀i,i<64 -> -2047<=f i/\f i<=2047):jy f st = []\/pV (jy f st):=by
 have hg:=uT h (64-st) st 0 (by omega) (Int.le_refl _) (by omega);have hlen:=rM f (64-st) st 0;unfold jy;generalize kO f (64-st) st 0=l at hg hlen ⊢
 cases hl:l with
 | nil=>exact .inl rfl
 | cons a t=>
   right;rw[<-hl];have hpos:0<l.length:=by rw[hl];simp
   have hget:∀j,j<l.length->(jY l).getD j default=((l.getD j default).1,(l.getD j default).2.1,decide (j+1=l.length)):=fun j hj=>t7 l j (fun e he=>(hg e he).2) hj
   have hmem:∀j,j<l.length->l.getD j default∈l:=fun j hj=>by
    rw[List.getD_eq_getElem?_getD,List.getElem?_eq_getElem hj];exact List.getElem_mem hj
   refine⟨by rw[iE];omega,fun j hj=>?_,fun j hj=>?_⟩
   ·rw[iE]at hj;have:=(hg _ (hmem j hj)).1;rw[hget j hj];exact⟨this.run,this.nz,this.lev⟩
   ·rw[iE]at hj;rw[hget j hj,iE]
theorem Jp{o:Int}(ho:o=0\/o=1\/o=2){f:Nat->Int}(h:∀i,i<64 -> -2047<=f i/\f i<=2047):∀i,i<64 -> -2047<=qI o f i/\qI o f i<=2047:=fun i hi=>by
 have:=DQ ho hi;exact h _ (by omega)
structure qX where
 S:cR
 B:List Bool
 pat:Int
 col:Int
 ev:Nat->List Ev
def cw(m:Mb)(k:Nat)(i:Nat):Int:=m.lev (k*64+i)
noncomputable def mQ(m:Mb)(S:cR)(mb:Int)(k:Nat):Option (Nat->Int):=
 if alone m=true then(if m.edge=true then o_ (cw m k) (kf S mb k m.qp)else some (cw m k)).map fun r=>gG r 0 0 else some (cw m k)
noncomputable def EC(m:Mb)(S:cR)(mb:Int)(k:Nat)(r:Nat->Int):List Ev:=jy (qI (j7 m.edge (dI S mb k m.qp).1) r) (if alone m=true then 1 else 0)
def rI(pat k:Int):Int:=BW .i64 pat (8/2^k.toNat)
def rm(col k:Int):Int:=BW .u64 col (2/2^(k-4).toNat)
noncomputable def fY(m:Mb)(mb:Int)(k:Nat)(x:qX)(ev:List Ev):qX:=
 ⟨if alone m=true then eH x.S mb k ⟨cw m k,m.qp⟩else x.S,if alone m=true then x.B++fw (cw m k 0-(dI x.S mb k m.qp).2)else x.B,if 0<ev.length/\k<4 then rI x.pat k else x.pat,if 0<ev.length/\¬k<4 then rm x.col k else x.col,fun j=>if j=k then ev else x.ev j⟩
noncomputable def jS(m:Mb)(mb:Int)(x0:qX):Nat->Option qX
 | 0=>some x0
 | k+1=>(jS m mb x0 k).bind fun x=>(mQ m x.S mb k).map fun r=>fY m mb k x (EC m x.S mb k r)
theorem EE{m:Mb}{mb:Int}{x0:qX}{k:Nat}(h:jS m mb x0 k=none):∀j,k<=j->jS m mb x0 j=none:=by
 intro j hj
 induction hj with
 | refl=>exact h
 | step _ ih=>rw[jS,ih];rfl
def zd(T:nB):Prop:=∀key b,dk T key=some b->∀i,-1000000<=b.lv i/\b.lv i<=1000000
def M0(S:cR):Prop:=zd S.A/\zd S.B/\zd S.C
theorem IB{T:nB}(h:zd T){key:Int}{b:Kn}(hb:∀i,-1000000<=b.lv i/\b.lv i<=1000000):zd (rL T key b):=fun key' b' h'=>by
 rw[rH]at h';split at h'
 ·cases h';exact hb
 ·exact h key' b' h'
theorem ub{p q:Int}{T:nB}(h:zd T){key:Int}{b:Kn}(hb:∀i,-1000000<=b.lv i/\b.lv i<=1000000):zd (rO p q T key b):=by
 unfold rO;split
 ·exact IB h hb
 ·exact h
theorem ua:zd []:=fun key b h=>by cases h
structure jQ(S:cR):Prop where
 dims:lY S.cols S.rows
 lev:M0 S
 tiny:fv S.M
theorem Oq{S:cR}(h:M0 S){mb k dx dy:Int}{b:Kn}(hb:B5 S mb k dx dy=some b):∀i,-1000000<=b.lv i/\b.lv i<=1000000:=by
 unfold B5 bn cf at hb;split at hb
 ·cases hb
 ·unfold bL at hb;split at hb
  ·exact h.1 _ _ hb
  ·split at hb
   ·exact h.2.1 _ _ hb
   ·exact h.2.2 _ _ hb
structure nv(m:Mb):Prop where
 ok:iU m
 kind:m.kind<=4
 lev:∀i,i<384 -> -2047<=m.lev i/\m.lev i<=2047
 first:alone m=true->∀k,k<6->0<=m.lev (k*64)/\m.lev (k*64)<=127
structure Ep(m:Mb)(mb:Int)(x0:qX)(s:Nat×qX):Prop where
 le:s.1<=6
 run:jS m mb x0 s.1=some s.2
 st:jQ s.2.S
 cr:s.2.S.cols=x0.S.cols/\s.2.S.rows=x0.S.rows
 len:s.2.B.length<=x0.B.length+76*s.1
 nil:∀j,s.1<=j->s.2.ev j = []
 evs:∀j,s.2.ev j = []\/pV (s.2.ev j)
 pat:0<=s.2.pat/\s.2.pat<16
 col:0<=s.2.col/\s.2.col<4
theorem IX:∀(a:Fin 16) (k:Fin 4),0<=rI (a.val:Int) (k.val:Int)/\rI (a.val:Int) (k.val:Int)<16:=by decide +kernel
theorem HB:∀(a:Fin 4) (k:Fin 2),0<=rm (a.val:Int) ((k.val+4:Nat):Int)/\rm (a.val:Int) ((k.val+4:Nat):Int)<4:=by decide +kernel
theorem IY{a:Int}{k:Nat}(h:0<=a/\a<16)(hk:k<4):0<=rI a k/\rI a k<16:=by
 have:=IX ⟨a.toNat,by omega⟩ ⟨k,hk⟩;simp only[Int.toNat_of_nonneg h.1]at this;exact this
theorem HC{a:Int}{k:Nat}(h:0<=a/\a<4)(hk:¬k<4)(hk6:k<6):0<=rm a k/\rm a k<4:=by
 have:=HB ⟨a.toNat,by omega⟩ ⟨k-4,by omega⟩;simp only[Int.toNat_of_nonneg h.1,show k-4+4=k by omega]at this;exact this
theorem tN{m:Mb}(hg:nv m){S:cR}{mb:Int}{k:Nat}(ha:alone m=true)(hk:k<6) : -4000<=cw m k 0-(dI S mb k m.qp).2/\cw m k 0-(dI S mb k m.qp).2<=4000:=by
 have h1:=hg.first ha k hk
 have h2:=rR S mb k m.qp;have e:cw m k 0=m.lev (k*64):=by unfold cw;rw[Nat.add_zero]
 rw[e];omega
theorem IA{m:Mb}(hg:nv m){k:Nat}(hk:k<6):∀i,i<64 -> -2047<=cw m k i/\cw m k i<=2047:=fun i hi=>hg.lev _ (by omega)
theorem Fm{l e r:Nat->Int}(h:o_ l e=some r):∀i,i<64 -> -2047<=r i/\r i<=2047:=by
 unfold o_ at h;split at h
 ·cases h
 ·rename_i hn;cases h;intro i hi;have:¬kL l e i:=fun hb=>hn ⟨i,hi,hb⟩
  unfold kL at this;show -2047<=l i-e i/\l i-e i<=2047;omega
theorem ED{m:Mb}(hg:nv m){S:cR}{mb:Int}{k:Nat}(hk:k<6){r:Nat->Int}(h:mQ m S mb k=some r):∀i,i<64 -> -2047<=r i/\r i<=2047:=by
 have hl:=IA hg hk
 have hu:∀q:Nat->Int,(∀i,i<64 -> -2047<=q i/\q i<=2047)->∀i,i<64 -> -2047<=gG q 0 0 i/\gG q 0 0 i<=2047:=fun q hq i hi=>by
  unfold gG;split
  ·omega
  ·exact hq i hi
 unfold mQ at h;split at h
 ·obtain⟨q,hq,rfl⟩:=Option.map_eq_some_iff.1 h;split at hq
  ·exact hu q (Fm hq)
  ·cases hq;exact hu _ hl
 ·cases h;exact hl
theorem wk{m:Mb}(hg:nv m){mb:Int}{x0:qX}{s:Nat×qX}(h:Ep m mb x0 s)(h6:s.1<6){r:Nat->Int}(hr:mQ m s.2.S mb s.1=some r):Ep m mb x0 (s.1+1,fY m mb s.1 s.2 (EC m s.2.S mb s.1 r)):=by
 have hrr:=ED hg h6 hr
 have hev:EC m s.2.S mb s.1 r = []\/pV (EC m s.2.S mb s.1 r):=by
  unfold EC;exact L_ (by split<;>omega) (Jp (oC _ _) hrr)
 refine⟨by show s.1+1<=6;omega,?_,?_,?_,?_,?_,?_,?_,?_⟩
 ·show jS m mb x0 (s.1+1)=_;rw[jS,h.run];simp only[Option.bind_some,hr,Option.map_some]
 ·show jQ (if alone m=true then eH s.2.S mb s.1 ⟨cw m s.1,m.qp⟩else s.2.S);split
  ·have hb:∀i,-1000000<=(Kn.mk (cw m s.1) m.qp).lv i/\(Kn.mk (cw m s.1) m.qp).lv i<=1000000:=fun i=>hg.ok.lev _
   exact⟨h.st.dims,⟨ub h.st.lev.1 hb,ub h.st.lev.2.1 hb,ub h.st.lev.2.2 hb⟩,h.st.tiny⟩
  ·exact h.st
 ·show(if alone m=true then eH s.2.S mb s.1 ⟨cw m s.1,m.qp⟩else s.2.S).cols=_/\(if alone m=true then eH s.2.S mb s.1 ⟨cw m s.1,m.qp⟩else s.2.S).rows=_;split<;>exact h.cr
 ·show(if alone m=true then s.2.B++fw (cw m s.1 0-(dI s.2.S mb s.1 m.qp).2)else s.2.B).length<=x0.B.length+76*(s.1+1);have:=h.len;split
  ·rename_i ha;have:=ER (tN hg (S:=s.2.S) (mb:=mb) ha h6);rw[List.length_append];omega
  ·omega
 ·intro j hj;show(if j=s.1 then _ else s.2.ev j) = [];have hj':s.1+1<=j:=hj;rw[if_neg (by omega)];exact h.nil j (by omega)
 ·intro j;show(if j=s.1 then _ else s.2.ev j) = []\/pV (if j=s.1 then _ else s.2.ev j);split
  ·exact hev
  ·exact h.evs j
 ·show 0<=(if _ then rI s.2.pat s.1 else s.2.pat)/\(if _ then rI s.2.pat s.1 else s.2.pat)<16;split
  ·rename_i hc;exact IY h.pat hc.2
  ·exact h.pat
 ·show 0<=(if _ then rm s.2.col s.1 else s.2.col)/\(if _ then rm s.2.col s.1 else s.2.col)<4;split
  ·rename_i hc;exact HC h.col hc.2 h6
  ·exact h.col
def ep(x:qX):List Bool:=(x.B++iX cP x.pat.toNat)++bd x.col 2
def cJ(bw:List Bool)(x:qX):Nat->List Bool
 | 0=>bw
 | k+1=>cJ bw x k++gp (x.ev k)
theorem rh{bw:List Bool}{x:qX}(h:∀j,x.ev j = []\/pV (x.ev j)):∀k,(cJ bw x k).length<=bw.length+3456*k
 | 0=>Nat.le_refl _
 | k + 1=>by
   rw[cJ,List.length_append];have ih:=rh (bw:=bw) h k
   have:(gp (x.ev k)).length<=3456:=by
    rcases h k with e|e
    ·rw[e];simp[gp]
    ·have h1:=tR e _ (Nat.le_refl _);rw[List.take_length]at h1;have:=e.len;omega
   omega
theorem u3{m:Mb}{a:Bool}(ha:alone m=a){HS:ah}(hb:Nat.blt HS.length Mem.bound=true):aA.Sound prog ⟨127,[.agg (mC m)],HS,.one (.int .i64 (if a=true then 1 else 0)),HS,[]⟩:=by
 subst ha;exact JJ hb
abbrev NI(ev:Nat->List Ev):aj := .cells [eY 27 (ev 0).length 3,eY 28 (ev 1).length 3,eY 29 (ev 2).length 3,eY 30 (ev 3).length 3,eY 31 (ev 4).length 3,eY 32 (ev 5).length 3] 232 false false
end Go.Proofs.YthdciapjllppjaaGreat
