/-
  A part of the proof: Back0, Back1, Sta, Undiff, CodeLaw, Sta2, Sta3, Sta4, Undiff2.
-/
import Derived.Test.YtagpkhindehcbaaGreatKfF
import Derived.Test.YtagpkhindehcbaaGreatKfM
import Derived.Test.YtagpkhindehcbaaGreatKfN
import Derived.Test.YtagpkhindehcbaaGreatKfO
set_option maxRecDepth 10000
set_option maxHeartbeats 8000000
set_option linter.unusedVariables false
set_option linter.unusedSectionVars false
set_option linter.unusedSimpArgs false
namespace Go.Proofs.YtagpkhindehcbaaGreat
open Go.Xm
variable [ax]
def Hz(o:Int)(f:Nat->Int):Nat->(Nat->Int)
 | 0=>fun _=>0
 | i+1=>cw (Hz o f i) (oG o i).toNat (f i)
def dc(o:Int)(f:Nat->Int):Nat->Int:=Hz o f 64
theorem GC{o:Int}(h:o=0\/o=1\/o=2)(f:Nat->Int):bh Tryz.prog 69 [.one (.int .u8 o),.agg (ti .i64 64 f)] [] (.agg (ti .i64 64 (dc o f))) []:=by
 refine cO Tryz.func69 ?_
 repeat' (first
  |(refine qz ?_;first
   |refine cl ?_ (hi:=by exact xZ h rfl))
  |refine zz ?_|refine zx (fun _=>?_) (fun _=>?_)|fail)
 refine WX.dw (σ:=Nat) (fun j=>[(10,.one (.int .i64 (j:Nat))),(3,.one (.ptr 0 0)),(4,.one (.ptr 1 0)),(5,.one (.ptr 2 0)),(9,.agg (ti .i64 64 (oG o)))]) (fun j=>[.cells (ti .i64 64 f) 50 false false,.cells (ti .i64 64 fun _=>0) 50 false false,.cells (ti .i64 64 (Hz o f j)) 50 false false]) (fun j=>j<=64) (fun j=>64-j) 0 (by omega) (fun s _=>lD) (cG [0,1,2]) ?_
 intro j hj ih
 by_cases hj64:j<64
 ·have hr:=kP h hj64
  have hr':0<=oG o (j:Int).toNat/\oG o (j:Int).toNat<64:=hr
  repeat' (first
   |(refine qz ?_;first
    |refine OB (n:=64) ?_)
   |refine zz ?_|refine zx (fun _=>?_) (fun _=>?_)|fail)
  refine ih (j+1) _ _ _ (cG [0,1,2]) (by omega) (by omega)
 ·obtain rfl:j=64:=by omega
  repeat' (first
   |(refine qz ?_;first
    |refine fG ?_ (hle:=by rw[aE])
    |refine kj ?_ (hs1:=by rw[aE]) (hs2:=by rw[aE]))
   |refine zz ?_|refine zx (fun _=>?_) (fun _=>?_)|fail)
  show aC _ _ _ _ _ _ _ _;refine kV [] ?_
  rfl
theorem r_{o:Int}(h:o=0\/o=1\/o=2){f:Nat->Int}{HS:aj}(hb:Nat.blt HS.length Mem.bound=true):aG.Sound Tryz.prog ⟨69,[.one (.int .u8 o),.agg (ti .i64 64 f)],HS,.agg (ti .i64 64 (dc o f)),HS,[]⟩:=
 aA (GC h f) (by show(true&&((ti .i64 64 f).all XC.shut&&true))=true;rw[gX];rfl) (gX _ _ _) hb
def l0(l e:Nat->Int)(i:Nat):Prop:=l i+e i < -2047\/2047<l i+e i
open Classical in
noncomputable def j9(l e:Nat->Int):Option (Nat->Int):=if ∃i,i<64/\l0 l e i then none else some fun i=>l i+e i
theorem I_(l e:Nat->Int)(hl:∀i,-1000000<=l i/\l i<=1000000)(he:∀i,-1000000<=e i/\e i<=1000000):bh Tryz.prog 72 [.agg (ti .i64 64 l),.agg (ti .i64 64 e)] [] (A_ (j9 l e)) []:=by
 refine cO Tryz.func72 ?_
 repeat' (first
  |(refine qz ?_;first
   |refine fG ?_ (hle:=by rw[aE]))
  |refine zz ?_|refine zx (fun _=>?_) (fun _=>?_)|fail)
 refine WX.dw (σ:=Nat) (fun j=>[(9,.one (.int .i64 (j:Nat))),(2,.one (.ptr 0 0)),(4,.one (.ptr 1 0)),(8,.agg (ti .i64 64 e))]) (fun j=>[.cells (ti .i64 64 (ri (fun i=>l i+e i) l j)) 50 false false,.cells (ti .i64 64 fun _=>0) 50 false false]) (fun j=>j<=64/\∀i,i<j->¬l0 l e i) (fun j=>64-j) 0 ⟨by omega,fun i hi=>by omega⟩ (fun s _=>lD) (cG [0,2] (obj:=by(repeat' (first|exact ae.nil|refine ae.flat (by rw[pb];rfl) ?_|refine ae.flat rfl ?_|refine ae.cons rfl ?_|refine ae.dead rfl ?_|refine ae.cons (by simp only[ak.ay,List.map_cons,List.map_nil,XC.ay,aB];exact rfl) ?_));first|done|fail)) ?_
 intro j ⟨hj,hall⟩ ih
 by_cases hj64:j<64
 ·have a1:=hl j
  have a2:=he j
  have a2':=he (j:Int).toNat
  have e1:e (j:Int).toNat=e j:=rfl
  have em:ri (fun i=>l i+e i) l j j=l j:=by simp[ri]
  have eu:cw (ri (fun i=>l i+e i) l j) j (ri (fun i=>l i+e i) l j j+e (j:Int).toNat) j=ri (fun i=>l i+e i) l j j+e (j:Int).toNat:=by simp[cw]
  by_cases hb:l0 l e j
  ·have hb':=hb
   unfold l0 at hb'
   have e0:j9 l e=none:=if_pos ⟨j,hj64,hb⟩
   rw[e0]
   repeat' (first
    |(refine qz ?_;first
     |refine OB (n:=64) ?_
     |refine kj ?_ (hs1:=by rw[aE]) (hs2:=by rw[aE]))
    |refine zz ?_|refine zx (fun _=>?_) (fun _=>?_)|fail)
   all_goals
    first
     | (exfalso;omega)
     | (show aC _ _ _ _ _ _ _ _;refine kV [] ?_;rfl)
  ·have hb':=hb
   unfold l0 at hb'
   have e2:ri (fun i=>l i+e i) l j j+e (j:Int).toNat=l j+e j:=by rw[em,e1]
   repeat' (first
    |(refine qz ?_;first
     |refine OB (n:=64) ?_)
    |refine zz ?_|refine zx (fun _=>?_) (fun _=>?_)|fail)
   refine ih (j+1) _ _ _ (cG [0,1] (obj:=by(repeat' (first|exact ae.nil|refine ae.flat (by rw[<-pa,e2];rfl) ?_|refine ae.flat rfl ?_|refine ae.cons rfl ?_|refine ae.dead rfl ?_|refine ae.cons (by simp only[ak.ay,List.map_cons,List.map_nil,XC.ay,aB];exact rfl) ?_));first|done|fail)) ⟨by omega,fun i hi=>?_⟩ (by omega)
   by_cases hij:i=j
   ·subst hij;exact hb
   ·exact hall i (by omega)
 ·obtain rfl:j=64:=by omega
  have e0:j9 l e=some fun i=>l i+e i:=if_neg fun⟨i,hi,hb⟩=>hall i hi hb
  rw[e0]
  repeat' (first
   |(refine qz ?_;first
    |refine fG ?_ (hle:=by rw[aE])
    |refine kj ?_ (hs1:=by rw[aE]) (hs2:=by rw[aE]))
   |refine zz ?_|refine zx (fun _=>?_) (fun _=>?_)|fail)
  show aC _ _ _ _ _ _ _ _;refine kV [] ?_
  rw[C_];rfl
theorem Ex{l e:Nat->Int}(hl:∀i,-1000000<=l i/\l i<=1000000)(he:∀i,-1000000<=e i/\e i<=1000000){o:Option (Nat->Int)}(ho:j9 l e=o){HS:aj}(hb:Nat.blt HS.length Mem.bound=true):aG.Sound Tryz.prog ⟨72,[.agg (ti .i64 64 l),.agg (ti .i64 64 e)],HS,A_ o,HS,[]⟩:=by
 subst ho
 exact aA (I_ l e hl he) (by show((ti .i64 64 l).all XC.shut&&((ti .i64 64 e).all XC.shut&&true))=true;rw[gX,gX];rfl) (vd _) hb
def eZ(l:List Ev)(st:Int):Nat->Option (Int×(Nat->Int))
 | 0=>some (st,fun _=>0)
 | j+1=>(eZ l st j).bind fun x=>if 63<x.1+(l.getD j default).1 then none else some (x.1+(l.getD j default).1+1,cw x.2 (x.1+(l.getD j default).1).toNat (l.getD j default).2.1)
def iY(l:List Ev)(st:Int):Option (Nat->Int):=(eZ l st l.length).map (·.2)
def D7(o:Option (Nat->Int)):XV := .tup [.agg (ti .i64 64 (o.getD fun _=>0)),.one (.int .i64 (if o.isSome then 0 else 2))]
theorem uE(o:Option (Nat->Int)):(D7 o).shut=true:=by
 show((ti .i64 64 (o.getD fun _=>0)).all XC.shut&&(true&&true))=true
 rw[gX];rfl
instance PO (o:Option (Nat->Int)):bE (D7 o):=fw (uE o)
theorem yS{l:List Ev}{st:Int}{j:Nat}(h:eZ l st j=none):∀k,j<=k->eZ l st k=none:=by
 intro k hk
 induction k with
 | zero=>rw[Nat.le_zero.1 hk]at h;exact h
 | succ k ih=>
   by_cases hjk:j=k+1
   ·subst hjk;exact h
   ·show(eZ l st k).bind _=none
    rw[ih (by omega)];rfl
structure mE(l:List Ev):Prop where
 ok:∀j,j<l.length->oE (l.getD j default)
 last:∀j,j<l.length->(l.getD j default).2.2=decide (j+1=l.length)
 len:l.length<=64
def yP(c:XC)(i n:Nat):Prop:=(n=0/\c = .nils)\/∃cap,c = .slice i 0 n cap
theorem HW{l:List Ev}(h:mE l){o:ak}(ho:uy o mr l){c:XC}(hc:yP c 0 l.length){st:Int}(hs:0<=st/\st<=1):bh Tryz.prog 36 [.one c,.one (.int .i64 st)] [o] (D7 (iY l st)) [o]:=by
 have hfo:=ho.flat
 have hlen:=h.len
 rcases hc with⟨h0,rfl⟩|⟨cap,rfl⟩
 ·obtain rfl:=List.length_eq_zero_iff.1 h0
  refine cO Tryz.func36 ?_
  repeat' (first
   |(refine qz ?_;first
    |refine fG ?_ (hle:=by rw[aE])
    |refine kj ?_ (hs1:=by rw[aE]) (hs2:=by rw[aE]))
   |refine WX.loop ?_|refine WX.round ?_|refine zz ?_|refine zx (fun _=>?_) (fun _=>?_)|fail)
  show aC _ _ _ _ _ _ _ _;refine kV [0] ?_
  rfl
 refine cO Tryz.func36 ?_
 repeat' (first|refine zz ?_|refine zx (fun _=>?_) (fun _=>?_)|fail)
 refine WX.dw (σ:=Nat×Int×(Nat->Int)) (fun s=>[(15,.one (.int .i64 (s.1:Nat))),(7,.one (.int .i64 s.2.1)),(0,.one (.slice 0 0 l.length cap)),(4,.one (.ptr 1 0)),(6,.one (.ptr 2 0)),(13,.one (.slice 0 0 l.length cap)),(14,.one (.int .i64 (l.length:Nat)))]) (fun s=>[o,.cells (ti .i64 64 fun _=>0) 50 false false,.cells (ti .i64 64 s.2.2) 50 false false]) (fun s=>s.1<=l.length/\eZ l st s.1=some s.2/\0<=s.2.1/\s.2.1<=64) (fun s=>l.length-s.1) (0,st,fun _=>0) ⟨Nat.zero_le _,rfl,by dsimp only;omega,by dsimp only;omega⟩ (fun s _=>lD) (cG [0,1,2]) ?_
 intro s ⟨hj,hrun,hp⟩ ih
 by_cases hjl:s.1<l.length
 ·have hok:=h.ok s.1 hjl
  have r1:=hok.run
  have r2:=hok.nz
  have r3:=hok.lev
  have hlast:=h.last s.1 hjl
  obtain⟨b,hb⟩:∃b,(l.getD s.1 default).2.2=b:=⟨_,rfl⟩
  have hb2:(mr (l.getD s.1 default))[2]? = some (.bool b):=by rw[<-hb];rfl
  rw[hb]at hlast
  by_cases hbig:63<s.2.1+(l.getD s.1 default).1
  ·have e0:iY l st=none:=by
    unfold iY
    rw[yS (j:=s.1+1) (by show(eZ l st s.1).bind _=none;rw[hrun];exact if_pos hbig) l.length (by omega)]
    rfl
   rw[e0]
   repeat' (first
    |(refine qz ?_;first
     |refine sL (enc:=mr) ?_
     |refine kj ?_ (hs1:=by rw[aE]) (hs2:=by rw[aE]))
    |refine zz ?_|refine zx (fun _=>?_) (fun _=>?_)|fail)
   show aC _ _ _ _ _ _ _ _;refine kV [0] ?_
   rfl
  ·have e1:eZ l st (s.1+1)=some (s.2.1+(l.getD s.1 default).1+1,cw s.2.2 (s.2.1+(l.getD s.1 default).1).toNat (l.getD s.1 default).2.1):=by
    show(eZ l st s.1).bind _=_
    rw[hrun];exact if_neg hbig
   by_cases hl:s.1+1=l.length
   ·obtain rfl:b=true:=by rw[hlast];exact decide_eq_true hl
    repeat' (first
     |(refine qz ?_;first
      |refine sL (enc:=mr) ?_
      |refine ld (hc:=hb2) ?_)
     |refine zz ?_|refine zx (fun _=>?_) (fun _=>?_)|fail)
    refine ih (s.1+1,s.2.1+(l.getD s.1 default).1+1,cw s.2.2 (s.2.1+(l.getD s.1 default).1).toNat (l.getD s.1 default).2.1) _ _ _ (cG [0,1,2]) ⟨by dsimp only;omega,e1,by dsimp only;omega,by dsimp only;omega⟩ (by dsimp only;omega)
   ·obtain rfl:b=false:=by rw[hlast];exact decide_eq_false hl
    repeat' (first
     |(refine qz ?_;first
      |refine sL (enc:=mr) ?_
      |refine ld (hc:=hb2) ?_)
     |refine zz ?_|refine zx (fun _=>?_) (fun _=>?_)|fail)
    refine ih (s.1+1,s.2.1+(l.getD s.1 default).1+1,cw s.2.2 (s.2.1+(l.getD s.1 default).1).toNat (l.getD s.1 default).2.1) _ _ _ (cG [0,1,2]) ⟨by dsimp only;omega,e1,by dsimp only;omega,by dsimp only;omega⟩ (by dsimp only;omega)
 ·have hje:s.1=l.length:=by omega
  have e0:iY l st=some s.2.2:=by unfold iY;rw[<-hje,hrun];rfl
  rw[e0]
  repeat' (first
   |(refine qz ?_;first
    |refine fG ?_ (hle:=by rw[aE])
    |refine kj ?_ (hs1:=by rw[aE]) (hs2:=by rw[aE]))
   |refine zz ?_|refine zx (fun _=>?_) (fun _=>?_)|fail)
  show aC _ _ _ _ _ _ _ _;refine kV [0] ?_
  rfl
def ji(e:Ev):Bool:=decide (0<=e.1/\e.1<=63/\e.2.1≠0 /\ -2047<=e.2.1/\e.2.1<=2047)
theorem qI{e:Ev}(h:ji e=true):oE e:=by
 have:=of_decide_eq_true h
 exact⟨⟨this.1,this.2.1⟩,this.2.2.1,this.2.2.2⟩
theorem AM(e:Ev)(h1 : -1000000<=e.1/\e.1<=1000000)(h2 : -1000000<=e.2.1/\e.2.1<=1000000):bh Tryz.prog 104 [.agg (mr e)] [] (.one (.bool (ji e))) []:=by
 cases hr:ji e with
 | true=>exact rV e (qI hr)
 | false=>
   have hn:=of_decide_eq_false hr
   refine cO Tryz.func104 ?_
   repeat' (first|refine zz ?_|refine zx (fun _=>?_) (fun _=>?_)|fail)
   all_goals first
    | (exfalso;omega)
    | (show aC _ _ _ _ _ _ _ _;refine kV [] ?_;rfl)
theorem uW{e:Ev}(h1 : -1000000<=e.1/\e.1<=1000000)(h2 : -1000000<=e.2.1/\e.2.1<=1000000){b:Bool}(hb':ji e=b){HS:aj}(hb:Nat.blt HS.length Mem.bound=true):aG.Sound Tryz.prog ⟨104,[.agg (mr e)],HS,.one (.bool b),HS,[]⟩:=by
 subst hb'
 exact aA (AM e h1 h2) rfl rfl hb
def w8(n m:Int):Ev:=(n/2,bB (m+1),decide (n%2=1))
theorem G8{n:Int}(h:0<=n/\n<=10000) : -10000<=bB n/\bB n<=10000:=by
 unfold bB;split<;>omega
def Oq(e:Ev):XV := .tup [.agg (mr e),.one (.bool (ji e))]
theorem FG(n m:Int)(hn:0<=n/\n<=9000)(hm:0<=m/\m<=9000):bh Tryz.prog 76 [.one (.int .i64 n),.one (.int .i64 m)] [] (Oq (w8 n m)) []:=by
 have hu:=G8 (n:=m+1) (by omega)
 obtain⟨b,hb⟩:∃b,decide (n%2=1)=b:=⟨_,rfl⟩
 have he:w8 n m=(n/2,bB (m+1),b):=by unfold w8;rw[hb]
 rw[he]
 cases b with
 | true=>
   have h1:=of_decide_eq_true hb
   refine cO Tryz.func76 ?_
   repeat' (first
    |(refine qz ?_;first
     |refine cl ?_ (hi:=by exact l8 (by omega) rfl)
     |refine cl ?_ (hi:=by exact uW (e:=(n/2,bB (m+1),true)) (by dsimp only;omega) (by dsimp only;omega) rfl rfl))
    |refine zz ?_|refine zx (fun _=>?_) (fun _=>?_)|fail)
   show aC _ _ _ _ _ _ _ _;refine kV [] ?_
   rfl
 | false=>
   have h1:=of_decide_eq_false hb
   refine cO Tryz.func76 ?_
   repeat' (first
    |(refine qz ?_;first
     |refine cl ?_ (hi:=by exact l8 (by omega) rfl)
     |refine cl ?_ (hi:=by exact uW (e:=(n/2,bB (m+1),false)) (by dsimp only;omega) (by dsimp only;omega) rfl rfl))
    |refine zz ?_|refine zx (fun _=>?_) (fun _=>?_)|fail)
   show aC _ _ _ _ _ _ _ _;refine kV [] ?_
   rfl
theorem rA{n m:Int}(hn:0<=n/\n<=9000)(hm:0<=m/\m<=9000){e:Ev}(he:w8 n m=e){b:Bool}(hr:ji e=b){HS:aj}(hb:Nat.blt HS.length Mem.bound=true):aG.Sound Tryz.prog ⟨76,[.one (.int .i64 n),.one (.int .i64 m)],HS,.tup [.agg (mr e),.one (.bool b)],HS,[]⟩:=by
 subst he hr
 exact aA (FG n m hn hm) rfl rfl hb
theorem pg{L:List Int}{B:List Bool}(h:dp L B){p p':Nat}{e e':Bool}{v:Int}(hq:bq B (p,e)=(v,p',e')){HS:aj}{i k:Nat}(hi:HS[i]? = some (bt k L B p e))(hk:HS[k]? = some (aL L))(hd:i≠k){HS':aj}(hh:HS.set i (bt k L B p' e')=HS')(hbd:Nat.blt HS'.length Mem.bound=true) :
 aG.Sound Tryz.prog ⟨75,[.one (.ptr i 0)],HS,.one (.int .i64 v),HS',[i]⟩:=by
 have:=pk h (p,e) hi hk hd (HS':=HS') (by rw[hq];exact hh) hbd
 rw[hq]at this
 exact this
theorem gw{L:List Int}{B:List Bool}{p q p' q':Nat}{e g e' g':Bool}{v v':Int}(h1:bq B (p,e)=(v,q,g))(h2:bq B (p',e')=(v',q',g')){f:FuncId}{a:List XV}{w:List Nat}{HS HS' K K':aj}{i k:Nat}(hi:HS[i]? = some (bt k L B p e))(hi':HS'[i]? = some (bt k L B p' e'))(hK:HS.set i (bt k L B q g)=K)(hK':HS'.set i (bt k L B q' g')=K'):Compat ⟨f,a,HS,.one (.int .i64 v),K,w⟩ ⟨f,a,HS',.one (.int .i64 v'),K',w⟩:=fun _ _ h=>by
 have h:HS=HS':=h
 subst h
 rw[hi]at hi'
 have hp:(p:Int)=p'/\e=e':=by
  simp only[Option.some.injEq,ak.cells.injEq,List.cons.injEq,XC.int.injEq,XC.bool.injEq,true_and,and_true]at hi'
  exact hi'
 have hp1:p=p':=by omega
 obtain rfl:=hp1
 obtain rfl:=hp.2
 rw[h1]at h2
 cases h2
 exact⟨rfl,hK.symm.trans hK',rfl⟩
def oQ(B:List Bool):Nat->Nat×Bool->List Ev->List Ev×(Nat×Bool)
 | 0,r,acc=>([],(r.1,true))
 | k+1,r,acc=>
   let n:=bq B r
   let m:=bq B n.2
   if m.2.2=true\/ji (w8 n.1 m.1)=false then([],(m.2.1,true))
   else if(w8 n.1 m.1).2.2=true then(acc++[w8 n.1 m.1],m.2)else oQ B k m.2 (acc++[w8 n.1 m.1])
def jY(B:List Bool)(r:Nat×Bool):List Ev×(Nat×Bool):=oQ B 64 r []
theorem Fw{L:List Int}{B:List Bool}(h:dp L B)(r:Nat×Bool) :
 bh Tryz.prog 39 [.one (.ptr 0 0)] (RH L B r.1 r.2) (hZ 2 (jY B r).1.length 3) [bt 1 L B (jY B r).2.1 (jY B r).2.2,aL L,db (jY B r).1]:=by
 refine cO Tryz.func39 ?_
 repeat' (first|refine zz ?_|refine zx (fun _=>?_) (fun _=>?_)|fail)
 refine WX.cU rfl ?_
 refine WX.dw (σ:=List Ev×(Nat×Bool)) (fun s=>[(3,hZ 2 s.1.length 3),(0,.one (.ptr 0 0))]) (fun s=>[bt 1 L B s.2.1 s.2.2,aL L,db s.1]) (fun s=>s.1.length<=64/\oQ B (64-s.1.length) s.2 s.1=jY B r) (fun s=>64-s.1.length) ([],r) ⟨Nat.zero_le _,rfl⟩ (fun s _=>lD) (cG [0,1,2]) ?_
 intro s ⟨h1,h2⟩ ih
 by_cases h64:s.1.length<64
 ·obtain ⟨k,hk⟩:∃k,64-s.1.length=k+1:=⟨63-s.1.length,by omega⟩
  rw[hk,oQ]at h2
  obtain⟨v1,p1,b1,hq1⟩:∃v p b,bq B (s.2.1,s.2.2)=(v,p,b):=⟨_,_,_,rfl⟩
  obtain⟨v2,p2,b2,hq2⟩:∃v p b,bq B (p1,b1)=(v,p,b):=⟨_,_,_,rfl⟩
  obtain⟨e,he⟩:∃e,w8 v1 v2=e:=⟨_,rfl⟩
  have g1:=nY B (s.2.1,s.2.2)
  have g2:=nY B (p1,b1)
  rw[hq1]at g1
  rw[hq2]at g2
  have h2':(if b2=true\/ji e=false then([],(p2,true))else if e.2.2=true then(s.1++[e],(p2,b2))else oQ B k (p2,b2) (s.1++[e]))=jY B r:=by
   rw[<-h2,show bq B s.2=(v1,p1,b1)from hq1]
   dsimp only
   rw[hq2]
   dsimp only
   rw[he]
  obtain⟨R,hR⟩:∃R,ji e=R:=⟨_,rfl⟩
  rw[hR]at h2'
  cases b2 with
  | true=>
    rw[if_pos (.inl rfl)]at h2'
    rw[<-h2']
    repeat' (first
     |(refine qz ?_;first
      |refine cl ?_ (hi:=by exact pg h hq1 rfl rfl (by decide) rfl rfl)
      |refine cl ?_ (hi:=by exact pg h hq2 rfl rfl (by decide) rfl rfl)
      |refine cl ?_ (hi:=by exact rA (by dsimp only at g1;omega) (by dsimp only at g2;omega) he hR rfl)
      |refine cl ?_ (hi:=by exact gW rfl rfl (by decide) rfl)
      |refine cl ?_ (hi:=by exact gG rfl rfl (by decide) rfl rfl))
     |refine zz ?_|refine zx (fun _=>?_) (fun _=>?_)|refine bp (by first|exact af.nil|exact af.one _|exact af.mD (by repeat' (first|exact True.intro|refine And.intro ?_ ?_|exact Compat.ne rfl|exact gw hq2 hq1 rfl rfl rfl rfl))) ⟨by kernel_rfl,?_⟩|refine bp (by first|exact af.nil|exact af.one _|exact af.mD (by repeat' (first|exact True.intro|refine And.intro ?_ ?_|exact Compat.ne rfl|exact gw hq2 hq1 rfl rfl rfl rfl))) ?_|fail)
    show aC _ _ _ _ _ _ _ _;refine kV [0,1,2] ?_
    rfl
  | false =>
    cases R with
    | false=>
      rw[if_pos (.inr rfl)]at h2'
      rw[<-h2']
      repeat' (first
       |(refine qz ?_;first
        |refine cl ?_ (hi:=by exact pg h hq1 rfl rfl (by decide) rfl rfl)
        |refine cl ?_ (hi:=by exact pg h hq2 rfl rfl (by decide) rfl rfl)
        |refine cl ?_ (hi:=by exact rA (by dsimp only at g1;omega) (by dsimp only at g2;omega) he hR rfl)
        |refine cl ?_ (hi:=by exact gW rfl rfl (by decide) rfl)
        |refine cl ?_ (hi:=by exact gG rfl rfl (by decide) rfl rfl))
       |refine zz ?_|refine zx (fun _=>?_) (fun _=>?_)|refine bp (by first|exact af.nil|exact af.one _|exact af.mD (by repeat' (first|exact True.intro|refine And.intro ?_ ?_|exact Compat.ne rfl|exact gw hq2 hq1 rfl rfl rfl rfl))) ⟨by kernel_rfl,?_⟩|refine bp (by first|exact af.nil|exact af.one _|exact af.mD (by repeat' (first|exact True.intro|refine And.intro ?_ ?_|exact Compat.ne rfl|exact gw hq2 hq1 rfl rfl rfl rfl))) ?_|fail)
      show aC _ _ _ _ _ _ _ _;refine kV [0,1,2] ?_
      rfl
    | true=>
      rw[if_neg (by simp)]at h2'
      obtain⟨lb,hlb⟩:∃b,e.2.2=b:=⟨_,rfl⟩
      have hb2:(mr e)[2]? = some (.bool lb):=by rw[<-hlb];rfl
      rw[hlb]at h2'
      cases lb with
      | true=>
        rw[if_pos rfl]at h2'
        rw[<-h2']
        repeat' (first
         |(refine qz ?_;first
          |refine cl ?_ (hi:=by exact pg h hq1 rfl rfl (by decide) rfl rfl)
          |refine cl ?_ (hi:=by exact pg h hq2 rfl rfl (by decide) rfl rfl)
          |refine cl ?_ (hi:=by exact rA (by dsimp only at g1;omega) (by dsimp only at g2;omega) he hR rfl)
          |refine cl ?_ (hi:=by exact gW rfl rfl (by decide) rfl)
          |refine cl ?_ (hi:=by exact gG rfl rfl (by decide) rfl rfl)
          |refine ld (hc:=hb2) ?_
          |refine oR (enc:=mr) (a:=e) ?_
          |refine t5 (enc:=mr) ?_)
         |refine zz ?_|refine zx (fun _=>?_) (fun _=>?_)|refine bp (by first|exact af.nil|exact af.one _|exact af.mD (by repeat' (first|exact True.intro|refine And.intro ?_ ?_|exact Compat.ne rfl|exact gw hq2 hq1 rfl rfl rfl rfl))) ⟨by kernel_rfl,?_⟩|refine bp (by first|exact af.nil|exact af.one _|exact af.mD (by repeat' (first|exact True.intro|refine And.intro ?_ ?_|exact Compat.ne rfl|exact gw hq2 hq1 rfl rfl rfl rfl))) ?_|fail)
        show aC _ _ _ _ _ _ _ _;refine kV [0,1,5] ?_
        rw[dT,show((s.1++[e],((p2,false):Nat×Bool)).1).length=s.1.length+1 by simp];rfl
      | false=>
        rw[if_neg (by decide)]at h2'
        repeat' (first
         |(refine qz ?_;first
          |refine cl ?_ (hi:=by exact pg h hq1 rfl rfl (by decide) rfl rfl)
          |refine cl ?_ (hi:=by exact pg h hq2 rfl rfl (by decide) rfl rfl)
          |refine cl ?_ (hi:=by exact rA (by dsimp only at g1;omega) (by dsimp only at g2;omega) he hR rfl)
          |refine cl ?_ (hi:=by exact gW rfl rfl (by decide) rfl)
          |refine cl ?_ (hi:=by exact gG rfl rfl (by decide) rfl rfl)
          |refine ld (hc:=hb2) ?_
          |refine oR (enc:=mr) (a:=e) ?_
          |refine t5 (enc:=mr) ?_)
         |refine zz ?_|refine zx (fun _=>?_) (fun _=>?_)|refine bp (by first|exact af.nil|exact af.one _|exact af.mD (by repeat' (first|exact True.intro|refine And.intro ?_ ?_|exact Compat.ne rfl|exact gw hq2 hq1 rfl rfl rfl rfl))) ⟨by kernel_rfl,?_⟩|refine bp (by first|exact af.nil|exact af.one _|exact af.mD (by repeat' (first|exact True.intro|refine And.intro ?_ ?_|exact Compat.ne rfl|exact gw hq2 hq1 rfl rfl rfl rfl))) ?_|fail)
        refine ih (s.1++[e],(p2,false)) _ _ _ (cG [0,1,5] (obj:=by(repeat' (first|exact ae.nil|refine ae.flat (by rw[List.length_append];rfl) ?_|refine ae.flat rfl ?_|refine ae.cons rfl ?_|refine ae.dead rfl ?_|refine ae.cons (by simp only[ak.ay,List.map_cons,List.map_nil,XC.ay,aB];exact rfl) ?_));first|done|fail)) ⟨by simp;omega,by
         show oQ B (64-(s.1++[e]).length) (p2,false) (s.1++[e])=_
         rw[show 64-(s.1++[e]).length=k by simp;omega];exact h2'⟩ (by simp;omega)
 ·have e0:64-s.1.length=0:=by omega
  rw[e0,oQ]at h2
  rw[<-h2]
  repeat' (first
   |(refine qz ?_;first
    |refine cl ?_ (hi:=by exact gG rfl rfl (by decide) rfl rfl))
   |refine zz ?_|refine zx (fun _=>?_) (fun _=>?_)|fail)
  show aC _ _ _ _ _ _ _ _;refine kV [0,1,2] ?_
  rfl
theorem AA{L:List Int}{B:List Bool}(h:dp L B){p:Nat}{e:Bool}{l:List Ev}{p':Nat}{e':Bool}(hq:jY B (p,e)=(l,p',e')){HS:aj}{i k:Nat}(hi:HS[i]? = some (bt k L B p e))(hk:HS[k]? = some (aL L))(hd:i≠k){N:Nat}(hN:HS.length=N){HS':aj}(hh:HS.set i (bt k L B p' e')++[db l]=HS')(hbd:Nat.blt HS'.length Mem.bound=true) :
 aG.Sound Tryz.prog ⟨39,[.one (.ptr i 0)],HS,hZ N l.length 3,HS',[i]⟩:=by
 subst hN
 have hc:=Fw h (p,e)
 rw[hq]at hc
 have hh':bK HS [i,k] [bt k L B p' e',aL L,db l]=HS':=by
  show(HS.set i (bt k L B p' e')).set k (aL L)++[db l]=HS'
  rw[aF (l:=HS.set i (bt k L B p' e')) (by rw[List.getElem?_set_ne hd];exact hk)]
  exact hh
 refine bO (os:=[bt k L B p' e',aL L,db l]) [i,k] [i] 1 hc (by simp[hd]) ?_ ?_ ?_ rfl (.cons (by simp[XV.b7,XC.ok]) .nil) (.cons rfl .nil) (iT (Nat.le_of_ble_eq_true rfl)) (dT ..) ?_ ?_ rfl hh' hbd (.inr fun j hj hjn=>?_)
 ·exact .cons hi (.flat hk .nil)
 ·exact .cons (by simp[ak.b7,XC.ok]) (.flat .nil)
 ·exact .cons (by simp[ak.b7,XC.ok]) (.flat (.flat .nil))
 ·exact .cons rfl (.flat (.flat .nil))
 ·unfold db
  cases fl mr l<;>rfl
 ·subst hh
  rw[List.getElem?_append_left (by rw[List.length_set];exact hj),List.getElem?_set,if_neg (fun h=>hjn (by rw[h];exact List.mem_singleton.2 rfl))]
structure bm where
 id:Int
 inter:Bool
 down:Bool
 hqp:Int
 qp:Int
 cols:Int
 rows:Int
 M:gm
 A:oJ
 B:oJ
 C:oJ
abbrev dJ(S:bm):ak := .cells [.ptr 3 0,.int .i64 S.id,.bool S.inter,.bool S.down,.int .i64 S.hqp,.int .i64 S.qp,.ptr 16 0,.ptr 18 0] 97 false false
abbrev ep(S:bm):aj:=[dJ S,bM 4 8 12,aw 5 6 7 cM,aR cM,aT cM,aS cM,aw 9 10 11 cZ,aR cZ,aT cZ,aS cZ,aw 13 14 15 cP,aR cP,aT cP,aS cP,
 cn 17 S.cols S.rows,.map (ba S.M),.cells [.int .i64 S.cols,.int .i64 S.rows,.map 19,.map 20,.map 21] 171 false false,.map (ag S.A),.map (ag S.B),.map (ag S.C)]
instance M7 (M:oJ):c8 (.map (ag M)):=Bg (fun _=>rfl) (fun b=>show X1.shut (.agg (dO b))=true from bn b) M
abbrev bR:List Nat:=[2,3,4,5,6,7,8,9,10,11,12,13,14,15,16,17,18,19,20,21]
theorem gK(S:bm)(n:Nat)(h:22<=n){l:aj}(hl:bc n l):bc n (ep S++l):=by
 have k:∀j,j<22->j<n:=fun j hj=>by omega
 refine .cons ?_ (.cons ?_ (.cons ?_ (.flat (.flat (.flat (.cons ?_ (.flat (.flat (.flat (.cons ?_ (.flat (.flat (.flat (.cons ?_ (.flat (.cons ?_ (.flat (.flat (.flat hl)))))))))))))))))))
 all_goals simp[ak.b7,XC.ok];omega
theorem r8(S:bm){τ : Nat->Nat}(h:∀j,2<=j->j<22 -> τ j=j){l l':aj}(hl:dv τ l l'):dv τ (ep S++l) (ep S++l'):=by
 have h3:=h 3 (by omega) (by omega)
 have h4:=h 4 (by omega) (by omega)
 have h5:=h 5 (by omega) (by omega)
 have h6:=h 6 (by omega) (by omega)
 have h7:=h 7 (by omega) (by omega)
 have h8:=h 8 (by omega) (by omega)
 have h9:=h 9 (by omega) (by omega)
 have h10:=h 10 (by omega) (by omega)
 have h11:=h 11 (by omega) (by omega)
 have h12:=h 12 (by omega) (by omega)
 have h13:=h 13 (by omega) (by omega)
 have h14:=h 14 (by omega) (by omega)
 have h15:=h 15 (by omega) (by omega)
 have h16:=h 16 (by omega) (by omega)
 have h17:=h 17 (by omega) (by omega)
 have h18:=h 18 (by omega) (by omega)
 have h19:=h 19 (by omega) (by omega)
 have h20:=h 20 (by omega) (by omega)
 have h21:=h 21 (by omega) (by omega)
 refine .cons ?_ (.cons ?_ (.cons ?_ (.flat (.flat (.flat (.cons ?_ (.flat (.flat (.flat (.cons ?_ (.flat (.flat (.flat (.cons ?_ (.flat (.cons ?_ (.flat (.flat (.flat hl)))))))))))))))))))
 all_goals simp only[ak.ay,List.map_cons,List.map_nil,XC.ay, *]
theorem pU(S:bm){τ : Nat->Nat}{HS:aj}(h:∀j,2<=j->j<22 -> τ j=j)(hS:(HS.drop 2).take 20=ep S){ls:List Nat}{l:aj}(hl:ae τ HS ls l):ae τ HS (bR++ls) (ep S++l):=by
 have g:∀j,j<20->HS[j+2]? = (ep S)[j]?:=fun j hj=>by
  rw[<-hS,List.getElem?_take,if_pos hj,List.getElem?_drop]
  congr 1
  omega
 have h3:=h 3 (by omega) (by omega)
 have h4:=h 4 (by omega) (by omega)
 have h5:=h 5 (by omega) (by omega)
 have h6:=h 6 (by omega) (by omega)
 have h7:=h 7 (by omega) (by omega)
 have h8:=h 8 (by omega) (by omega)
 have h9:=h 9 (by omega) (by omega)
 have h10:=h 10 (by omega) (by omega)
 have h11:=h 11 (by omega) (by omega)
 have h12:=h 12 (by omega) (by omega)
 have h13:=h 13 (by omega) (by omega)
 have h14:=h 14 (by omega) (by omega)
 have h15:=h 15 (by omega) (by omega)
 have h16:=h 16 (by omega) (by omega)
 have h17:=h 17 (by omega) (by omega)
 have h18:=h 18 (by omega) (by omega)
 have h19:=h 19 (by omega) (by omega)
 have h20:=h 20 (by omega) (by omega)
 have h21:=h 21 (by omega) (by omega)
 refine .cons ?_ (.cons ?_ (.cons ?_ (.flat (g 3 (by omega)) (.flat (g 4 (by omega)) (.flat (g 5 (by omega)) (.cons ?_ (.flat (g 7 (by omega)) (.flat (g 8 (by omega)) (.flat (g 9 (by omega)) (.cons ?_ (.flat (g 11 (by omega)) (.flat (g 12 (by omega)) (.flat (g 13 (by omega)) (.cons ?_ (.flat (g 15 (by omega)) (.cons ?_ (.flat (g 17 (by omega)) (.flat (g 18 (by omega)) (.flat (g 19 (by omega)) hl)))))))))))))))))))
 ·rw[g 0 (by omega)];simp only[ak.ay,List.map_cons,List.map_nil,XC.ay, *];rfl
 ·rw[g 1 (by omega)];simp only[ak.ay,List.map_cons,List.map_nil,XC.ay, *];rfl
 ·rw[g 2 (by omega)];simp only[ak.ay,List.map_cons,List.map_nil,XC.ay, *];rfl
 ·rw[g 6 (by omega)];simp only[ak.ay,List.map_cons,List.map_nil,XC.ay, *];rfl
 ·rw[g 10 (by omega)];simp only[ak.ay,List.map_cons,List.map_nil,XC.ay, *];rfl
 ·rw[g 14 (by omega)];simp only[ak.ay,List.map_cons,List.map_nil,XC.ay, *];rfl
 ·rw[g 16 (by omega)];simp only[ak.ay,List.map_cons,List.map_nil,XC.ay, *];rfl
theorem MD(a b:List XC)(e e' e2:TypeId)(cs ds:List XC)(S S':bm):d9 (.cells a e false false::cE e' cs::ep S) (.cells b e false false :: .dead::(ep S'++[cE e2 ds]))=true:=by
 cases cs<;>cases ds<;>simp[d9,ak.live,ak.own,cE]
theorem NS{f:FuncId}{more:List XV}(hm:∀τ,dR τ more more)(hmo:fq 22 more){v:XV}[bE v]{bs bs':List Bool}{S S':bm}(hc:bh Tryz.prog f (.one (.ptr 2 0) :: .one (.ptr 0 0)::more) (aN 1 bs::aq bs::ep S) v (aN 22 bs' :: .dead::(ep S'++[aq bs'])))
 {HS:aj} {k:Nat}(hi:HS[0]? = some (aN k bs)) (hk:HS[k]? = some (aq bs)) (hS:(HS.drop 2).take 20=ep S) (hd:(k==1||Nat.ble 22 k)=true) {N:Nat}(hN:HS.length=N) {HS':aj}(hh:bK HS (0::k::bR) (aN N bs' :: .dead::(ep S'++[aq bs']))=HS') (hbd:Nat.blt HS'.length Mem.bound=true) :
 aG.Sound Tryz.prog ⟨f,.one (.ptr 2 0) :: .one (.ptr 0 0)::more,HS,v,HS',0::k::bR⟩:=by
 subst hN
 have hkk:k=1\/22<=k:=by simpa [Nat.ble_eq]using hd
 have h0:0∉bR:=by decide
 have hk':k∉bR:=by
  intro h
  simp only[bR,List.mem_cons,List.not_mem_nil,or_false]at h
  omega
 have nd:(0::k::bR).Nodup:=List.nodup_cons.2 ⟨fun h=>(List.mem_cons.1 h).elim (fun e=>by omega) h0,List.nodup_cons.2 ⟨hk',by decide⟩⟩
 have hq:∀q:Fin 20,bR[q.val]? = some (q.val+2):=by decide
 have ht:∀j,2<=j->j<22->nth (0::k::bR) j=j:=fun j h1 h2=>by
  obtain⟨q,rfl⟩:∃q,j=q+2:=⟨j-2,by omega⟩
  have:=hq ⟨q,by omega⟩
  unfold nth
  rw[List.getD_eq_getElem?_getD]
  simp only[List.getElem?_cons_succ]
  rw[this];rfl
 have ht':∀j,2<=j->j<22->nth ((0::k::bR)++List.range' HS.length 1) j=j:=fun j h1 h2=>by
  obtain⟨q,rfl⟩:∃q,j=q+2:=⟨j-2,by omega⟩
  have:=hq ⟨q,by omega⟩
  unfold nth
  rw[List.getD_eq_getElem?_getD]
  show((bR++List.range' HS.length 1)[q]?).getD 0=q+2
  rw[List.getElem?_append_left (show q<bR.length by show q<20;omega),this];rfl
 have hv:=pU S ht hS (ls:=[]) .nil
 rw[List.append_nil,List.append_nil]at hv
 have ho:=gK S 22 (Nat.le_refl _) (l:=[]) .nil
 rw[List.append_nil]at ho
 refine bO (0::k::bR) (0::k::bR) 1 hc nd (ae.ij hi rfl rfl rfl (.flat hk hv)) (.cons (by simp[ak.b7,XC.ok,aZ]) (.flat ho)) (.cons (by simp[ak.b7,XC.ok,aZ]) (.flat (gK S' 23 (by omega) (.flat .nil)))) rfl (.cons (by show 2<22;omega) (.cons (by show 0<22;omega) hmo)) (.cons rfl (.cons rfl (hm _))) (bE.ok _) (bE.ay _) ?_ (MD ..) rfl hh hbd (.inl rfl)
 exact .cons (by simp only[ak.ay,List.map_cons,List.map_nil,XC.ay,aB];rfl) (.flat (r8 S' ht' (.flat .nil)))
def bJ(n:Int):Nat:=bitLen (max n (-n)).toNat
def bY(n:Int):List Bool:=c9 cZ (bJ n)++d8 (if n<0 then n+(1*2^bJ n-1)else n) (bJ n)
theorem xQ(n:Nat):n<2^bitLen n:=by
 unfold bitLen
 split
 ·rename_i h;rw[h];decide
 ·exact Nat.lt_log2_self
theorem kS{C:Cd}(hC:w4 C)(n:Nat):(c9 C n).length<=64:=by
 unfold c9
 have:=hC.sz n
 have h:∀(x:Int) (k:Nat),(d8 x k).length=k:=fun x k=>gF x k
 rw[h];omega
theorem uO{n:Int}(h : -4000<=n/\n<=4000):bJ n<=12:=pF (by omega)
theorem Ik(bs:List Bool)(S:bm)(n:Int)(hn : -4000<=n/\n<=4000)(hb:bs.length<=800000) :
 bh Tryz.prog 89 [.one (.ptr 2 0),.one (.ptr 0 0),.one (.int .i64 n)] [aN 1 bs,aq bs,dJ (S),bM 4 8 12,aw 5 6 7 cM,aR cM,aT cM,aS cM,aw 9 10 11 cZ,aR cZ,aT cZ,aS cZ,aw 13 14 15 cP,aR cP,aT cP,aS cP,cn 17 (S).cols (S).rows,.map (ba (S).M),.cells [.int .i64 (S).cols,.int .i64 (S).rows,.map 19,.map 20,.map 21] 171 false false,.map (ag (S).A),.map (ag (S).B),.map (ag (S).C)] (.tup []) [aN 22 (bs++bY n),.dead,dJ (S),bM 4 8 12,aw 5 6 7 cM,aR cM,aT cM,aS cM,aw 9 10 11 cZ,aR cZ,aT cZ,aS cZ,aw 13 14 15 cP,aR cP,aT cP,aS cP,cn 17 (S).cols (S).rows,.map (ba (S).M),.cells [.int .i64 (S).cols,.int .i64 (S).rows,.map 19,.map 20,.map 21] 171 false false,.map (ag (S).A),.map (ag (S).B),.map (ag (S).C),aq (bs++bY n)]:=by
 have hm:max n (0-n)=max n (-n):=by rw[Int.zero_sub]
 have hl:=uO hn
 have hlt:=xQ (max n (-n)).toNat
 have hl2:rJ (max n (0-n)).toNat=(bJ n:Nat):=by rw[hm];rfl
 have hc:=kS AE (bJ n)
 have hpow:(2:Int)^bJ n<=4096:=by
  have:=Nat.pow_le_pow_right (show 0<2 by decide) hl
  have h2:((2^bJ n:Nat):Int)<=((2^12:Nat):Int):=Int.ofNat_le.2 this
  rw[Int.natCast_pow]at h2
  exact h2
 have hpl : -n<(2:Int)^bJ n/\n<(2:Int)^bJ n:=by
  have h2:(((max n (-n)).toNat:Nat):Int)<((2^bJ n:Nat):Int):=Int.ofNat_lt.2 hlt
  rw[Int.natCast_pow]at h2
  have h3:((2:Nat):Int)^bJ n=(2:Int)^bJ n:=rfl
  rw[h3]at h2
  omega
 have h1:(1:Int)*2^bJ n=2^bJ n:=Int.one_mul _
 have e0:bs++bY n=(bs++c9 cZ (bJ n))++d8 (if n<0 then n+(1*2^bJ n-1)else n) (bJ n):=by rw[bY,List.append_assoc]
 rw[e0]
 refine cO Tryz.func89 ?_
 by_cases h0:n<0
 ·rw[if_pos h0]
  repeat' (first
   |(refine qz ?_;first
    |refine Q6 ?_
    |refine cl (v := .one (.int .i64 (bJ n:Nat))) ?_ (hi:=by rw[<-hl2];exact C3 (by omega) rfl)
    |refine cl ?_ (hi:=by exact rz (C:=cZ) AE (n:=bJ n) rfl (by show bJ n<13;omega) (bs:=bs) (by omega) rfl rfl rfl rfl rfl rfl (by decide) nL nA rfl)
    |refine Cp (n:=bJ n) ?_ (h:=⟨by show bJ n<=64;omega,by show _/\_;omega⟩)
    |refine cl ?_ (hi:=by exact iJ (n:=n+(1*2^bJ n-1)) (size:=bJ n) rfl (bs:=bs++c9 cZ (bJ n)) (by omega) (by omega) (by rw[List.length_append];omega) rfl rfl (by decide) nL nA rfl))
   |refine zz ?_|refine zx (fun _=>?_) (fun _=>?_)|fail)
  show aC _ _ _ _ _ _ _ _;refine kV [0,1,2,3,4,5,6,7,8,9,10,11,12,13,14,15,16,17,18,19,20,21,23] ?_
  rfl
 ·rw[if_neg h0]
  repeat' (first
   |(refine qz ?_;first
    |refine Q6 ?_
    |refine cl (v := .one (.int .i64 (bJ n:Nat))) ?_ (hi:=by rw[<-hl2];exact C3 (by omega) rfl)
    |refine cl ?_ (hi:=by exact rz (C:=cZ) AE (n:=bJ n) rfl (by show bJ n<13;omega) (bs:=bs) (by omega) rfl rfl rfl rfl rfl rfl (by decide) nL nA rfl)
    |refine cl ?_ (hi:=by exact iJ (n:=n) (size:=bJ n) rfl (bs:=bs++c9 cZ (bJ n)) (by omega) (by omega) (by rw[List.length_append];omega) rfl rfl (by decide) nL nA rfl))
   |refine zz ?_|refine zx (fun _=>?_) (fun _=>?_)|fail)
  show aC _ _ _ _ _ _ _ _;refine kV [0,1,2,3,4,5,6,7,8,9,10,11,12,13,14,15,16,17,18,19,20,21,23] ?_
  rfl
theorem FB{n:Int}(h : -4000<=n/\n<=4000):(bY n).length<=76:=by
 unfold bY
 have:=kS AE (bJ n)
 have:=uO h
 rw[List.length_append,gF];omega
theorem LC{bs:List Bool}{S:bm}{n:Int}(hn : -4000<=n/\n<=4000)(hb:bs.length<=800000){HS:aj}{k:Nat}(hi:HS[0]? = some (aN k bs))(hk:HS[k]? = some (aq bs))(hS:(HS.drop 2).take 20=ep S)(hd:(k==1||Nat.ble 22 k)=true){N:Nat}(hN:HS.length=N){HS':aj}(hh:bK HS (0::k::bR) (aN N (bs++bY n) :: .dead::(ep S++[aq (bs++bY n)]))=HS')(hbd:Nat.blt HS'.length Mem.bound=true) :
 aG.Sound Tryz.prog ⟨89,[.one (.ptr 2 0),.one (.ptr 0 0),.one (.int .i64 n)],HS,.tup [],HS',0::k::bR⟩:=
 NS (fun _ => .flat .nil) (.flat .nil) (Ik bs S n hn hb) hi hk hS hd hN hh hbd
def iz(B:List Bool):Nat->Int->Nat×Bool->Int×(Nat×Bool)
 | 0,x,r=>(x,r)
 | n+1,x,r=>iz B n (2*x+b2 (cm B r)) (bg B r)
def bG(B:List Bool)(n:Nat)(r:Nat×Bool):Int×(Nat×Bool):=(if(iz B n 0 r).2.2=true then 0 else(iz B n 0 r).1,(iz B n 0 r).2)
theorem vF{j:Nat}(h:j<=32):(2:Int)^j<=4294967296:=by
 have h1:=Nat.pow_le_pow_right (show 0<2 by decide) h
 have h2:((2^j:Nat):Int)<=((2^32:Nat):Int):=Int.ofNat_le.2 h1
 rw[Int.natCast_pow]at h2
 exact h2
theorem Gf{L:List Int}{B:List Bool}(h:dp L B)(r:Nat×Bool)(n:Nat)(hn:n<=32) :
 bh Tryz.prog 65 [.one (.ptr 0 0),.one (.int .i64 (n:Nat))] (RH L B r.1 r.2) (.one (.int .u64 (bG B n r).1)) (RH L B (bG B n r).2.1 (bG B n r).2.2):=by
 obtain⟨q,hq⟩:∃q,iz B n 0 r=q:=⟨_,rfl⟩
 unfold bG
 rw[hq]
 refine cO Tryz.func65 ?_
 repeat' (first|refine zz ?_|refine zx (fun _=>?_) (fun _=>?_)|fail)
 refine WX.dw (σ:=Nat×Int×(Nat×Bool)) (fun s=>[(8,.one (.int .i64 (s.1:Nat))),(5,.one (.int .u64 s.2.1)),(0,.one (.ptr 0 0)),(7,.one (.int .i64 (n:Nat)))]) (fun s=>RH L B s.2.2.1 s.2.2.2) (fun s=>s.1<=n/\0<=s.2.1/\s.2.1<2^s.1/\iz B (n-s.1) s.2.1 s.2.2=q) (fun s=>n-s.1) (0,0,r) ⟨by show 0<=n;omega,by show(0:Int)<=0;omega,by show(0:Int)<2^0;decide,by show iz B (n-0) 0 r=q;rw[Nat.sub_zero];exact hq⟩ (fun s _=>lD) (cG [0,1]) ?_
 intro s ⟨h1,h2,h3,h4⟩ ih
 have hp:=vF (j:=s.1) (by omega)
 by_cases hlt:s.1<n
 ·have hb:=Av (cm B s.2.2)
  have hio:Es .u64 (s.2.1*2^1) (b2 (cm B s.2.2))=2*s.2.1+b2 (cm B s.2.2):=A1 .u64 rfl h2 (by omega) hb (fun y g0 g1=>gB (k := .u64) ⟨by show 0<=y;omega,by show y<18446744073709551616;omega⟩)
  obtain⟨k,hk⟩:∃k,n-s.1=k+1:=⟨n-s.1-1,by omega⟩
  rw[hk,iz]at h4
  repeat' (first
   |(refine qz ?_;first
    |refine Cp (n:=1) ?_
    |refine cl ?_ (hi:=by exact rS h s.2.2 rfl rfl rfl (by decide) nL rfl))
   |refine zz ?_|refine zx (fun _=>?_) (fun _=>?_)|fail)
  refine ih (s.1+1,2*s.2.1+b2 (cm B s.2.2),bg B s.2.2) _ _ _ (cG [0,1] (reg:=by(repeat' (first|exact ah.nil|refine ah.flat (by rw[<-hio];rfl) ?_|refine ah.flat rfl ?_|refine ah.cons rfl ?_|refine ah.sl rfl (by assumption) rfl ?_|refine ah.fN rfl rfl (by first|rfl|omega|(simp;done)|(simp;omega)) ?_));first|done|fail)) ⟨by show s.1+1<=n;omega,by show 0<=2*s.2.1+b2 (cm B s.2.2);omega,?_,?_⟩ (by show n-(s.1+1)<n-s.1;omega)
  ·show 2*s.2.1+b2 (cm B s.2.2)<2^(s.1+1)
   rw[Int.pow_succ];omega
  ·show iz B (n-(s.1+1)) (2*s.2.1+b2 (cm B s.2.2)) (bg B s.2.2)=q
   rw[show n-(s.1+1)=k by omega];exact h4
 ·have e0:n-s.1=0:=by omega
  rw[e0,iz]at h4
  subst h4
  repeat' (first
   |(refine qz ?_;first
    |refine uK (fun ge=>?_) (fun ge=>?_) (hi:=by exact gW rfl rfl (by decide) rfl))
   |refine zz ?_|refine zx (fun _=>?_) (fun _=>?_)|fail)
  ·rw[if_pos ge]
   show aC _ _ _ _ _ _ _ _;refine kV [0,1] ?_
   rfl
  ·rw[if_neg (by rw[ge];decide)]
   show aC _ _ _ _ _ _ _ _;refine kV [0,1] ?_
   rfl
theorem rT{L:List Int}{B:List Bool}(h:dp L B)(r:Nat×Bool){n:Nat}{z:Int}(hz:z=(n:Nat))(hn:n<=32){HS:aj}{i k:Nat}(hi:HS[i]? = some (bt k L B r.1 r.2))(hk:HS[k]? = some (aL L))(hd:i≠k){HS':aj}(hh:HS.set i (bt k L B (bG B n r).2.1 (bG B n r).2.2)=HS')(hbd:Nat.blt HS'.length Mem.bound=true) :
 aG.Sound Tryz.prog ⟨65,[.one (.ptr i 0),.one (.int .i64 z)],HS,.one (.int .u64 (bG B n r).1),HS',[i]⟩:=by
 subst hz
 exact Bx (fun _ => .flat .nil) (.flat .nil) (Gf h r n hn) hi hk hd hh hbd
theorem x_(n:Int):∀(k:Nat) (x:Int) (pre rest:List Bool),iz (pre++(d8 n k++rest)) k x (pre.length,false)=(x*2^k+n%2^k,(pre.length+k,false))
 | 0,x,pre,rest=>by simp[iz]
 | k + 1,x,pre,rest=>by
   rw[iz,d8]
   obtain⟨a1,a2⟩:=qW pre (decide (n/2^k%2=1)) (d8 n k++rest)
   rw[List.cons_append,a1,a2]
   have e1:pre++(decide (n/2^k%2=1)::(d8 n k++rest))=(pre++[decide (n/2^k%2=1)])++(d8 n k++rest):=by simp
   have e2:(pre.length+1,false)=((pre++[decide (n/2^k%2=1)]).length,false):=by simp
   rw[e1,e2,x_ n k]
   have h2:(0:Int)<2^k:=Int.pow_pos (by decide)
   have hm:n%2^(k+1)=(n/2^k%2)*2^k+n%2^k:=by
    rw[Int.pow_succ]
    have h3:=Int.emod_add_mul_ediv n (2^k)
    have h4:=Int.emod_add_mul_ediv (n/2^k) 2
    have h5:=Int.emod_nonneg n (show(2:Int)^k≠0 by omega)
    have h6:=Int.emod_lt_of_pos n h2
    have h7:0<=n/2^k%2/\n/2^k%2<=1:=by omega
    have h8:n=(2^k*2)*(n/2^k/2)+((n/2^k%2)*2^k+n%2^k):=by
     have:2^k*(n/2^k)=2^k*(n/2^k%2)+2^k*(2*(n/2^k/2)):=by rw[<-Int.mul_add,h4]
     have e:2^k*(2*(n/2^k/2))=(2^k*2)*(n/2^k/2):=by rw[Int.mul_assoc]
     have e':2^k*(n/2^k%2)=(n/2^k%2)*2^k:=Int.mul_comm _ _
     omega
    have h9:0<=(n/2^k%2)*2^k+n%2^k/\(n/2^k%2)*2^k+n%2^k<2^k*2:=by
     rcases(show n/2^k%2=0\/n/2^k%2=1 by omega)with e|e<;>rw[e]<;>omega
    have h10:=Int.emod_eq_of_lt h9.1 h9.2
    rw[<-h10]
    conv=>lhs;rw[h8,Int.add_comm,Int.add_mul_emod_self_left]
   have hb:b2 (decide (n/2^k%2=1))=n/2^k%2:=by
    unfold b2
    by_cases h:n/2^k%2=1
    ·rw[decide_eq_true h,h];rfl
    ·rw[decide_eq_false h]
     have:n/2^k%2=0:=by omega
     rw[this];rfl
   rw[hb,hm]
   refine Prod.ext ?_ ?_
   ·show(2*x+n/2^k%2)*2^k+n%2^k=x*2^(k+1)+(n/2^k%2*2^k+n%2^k)
    rw[Int.pow_succ,Int.add_mul]
    have:2*x*2^k=x*(2^k*2):=by rw[Int.mul_comm 2 x,Int.mul_assoc,Int.mul_comm 2 (2^k)]
    omega
   ·show((pre++[_]).length+k,false)=(pre.length+(k+1),false)
    simp;omega
theorem xw{n:Int}{k:Nat}(hn:0<=n/\n<2^k)(pre rest:List Bool):bG (pre++(d8 n k++rest)) k (pre.length,false)=(n,(pre.length+k,false)):=by
 unfold bG
 rw[x_]
 simp only[Bool.false_eq_true,if_false,Int.zero_mul,Int.zero_add,Int.emod_eq_of_lt hn.1 hn.2]
def yx(C:Cd):List Bool->Int->Option Int
 | [],_=>none
 | b::w,x=>
   if C.T.getD (x.toNat*2+(b2 b%2^1).toNat) 0=0 then none
   else if C.T.getD (x.toNat*2+(b2 b%2^1).toNat) 0<0 then(if w = []then some (-1-C.T.getD (x.toNat*2+(b2 b%2^1).toNat) 0)else none)
   else yx C w (C.T.getD (x.toNat*2+(b2 b%2^1).toNat) 0)
theorem p6(C:Cd):∀(w:List Bool) (x n:Int) (f:Nat) (pre rest:List Bool),yx C w x=some n->w.length<=f->qG C (pre++(w++rest)) f x (pre.length,false)=(n,(pre.length+w.length,false))
 | [],x,n,f,pre,rest,h,_=>by cases h
 | b::w,x,n,0,pre,rest,h,hf=>by simp at hf
 | b :: w,x,n,f+1,pre,rest,h,hf=>by
   rw[qG,List.cons_append]
   obtain⟨a1,a2⟩:=qW pre b (w++rest)
   rw[a1,a2]
   unfold yx at h
   by_cases h0:C.T.getD (x.toNat*2+(b2 b%2^1).toNat) 0=0
   ·rw[if_pos h0]at h;cases h
   ·rw [if_neg h0]at h
    rw[if_neg (by simp;exact h0)]
    by_cases h1:C.T.getD (x.toNat*2+(b2 b%2^1).toNat) 0<0
    ·rw[if_pos h1]at h ⊢
     by_cases hw:w = []
     ·rw[if_pos hw]at h
      cases h
      subst hw
      rfl
     ·rw[if_neg hw]at h;cases h
    ·rw[if_neg h1]at h ⊢
     have e1:pre++(b::(w++rest))=(pre++[b])++(w++rest):=by simp
     have e2:(pre.length+1,false)=((pre++[b]).length,false):=by simp
     rw[e1,e2,p6 C w _ n f (pre++[b]) rest h (by simpa using hf)]
     simp;omega
theorem NW:∀n:Fin 5,yx cM (c9 cM n.val) 0=some (n.val:Int)/\(c9 cM n.val).length<=cM.T.length/2:=by decide +kernel
theorem NY:∀n:Fin 13,yx cZ (c9 cZ n.val) 0=some (n.val:Int)/\(c9 cZ n.val).length<=cZ.T.length/2:=by decide +kernel
theorem NX:∀n:Fin 16,yx cP (c9 cP n.val) 0=some (n.val:Int)/\(c9 cP n.val).length<=cP.T.length/2:=by decide +kernel
theorem Da{n:Nat}(h:n<5)(pre rest:List Bool):kK cM (pre++(c9 cM n++rest)) (pre.length,false)=((n:Int),(pre.length+(c9 cM n).length,false)):=
 p6 cM _ 0 _ _ pre rest (NW ⟨n,h⟩).1 (NW ⟨n,h⟩).2
theorem Dq{n:Nat}(h:n<13)(pre rest:List Bool):kK cZ (pre++(c9 cZ n++rest)) (pre.length,false)=((n:Int),(pre.length+(c9 cZ n).length,false)):=
 p6 cZ _ 0 _ _ pre rest (NY ⟨n,h⟩).1 (NY ⟨n,h⟩).2
theorem xe{n:Nat}(h:n<16)(pre rest:List Bool):kK cP (pre++(c9 cP n++rest)) (pre.length,false)=((n:Int),(pre.length+(c9 cP n).length,false)):=
 p6 cP _ 0 _ _ pre rest (NX ⟨n,h⟩).1 (NX ⟨n,h⟩).2
abbrev JP(S:bm):List XC:=[.ptr 3 0,.int .i64 S.id,.bool S.inter,.bool S.down,.int .i64 S.hqp,.int .i64 S.qp,.ptr 16 0,.ptr 18 0]
theorem rY{S:bm}{b:Bool}(h:S.inter=b):(JP S)[2]? = some (.bool b):=by rw[<-h];rfl
def az(S:bm)(m:Mb):List Bool:=(if S.inter=true then c9 cM m.kind.toNat else [decide (m.kind=4)])++(if m.kind=4 then d8 (dz S.qp m.qp).1 2 else [])
def fy(S:bm)(m:Mb):bm:=if m.kind=4 then {S with qp:=m.qp}else S
theorem yh(a b:Int):0<=(dz a b).1/\(dz a b).1<=3:=by
 unfold dz
 repeat' split
 all_goals simp
theorem jl(bs:List Bool)(S:bm)(m:Mb)(hm:iK m)(hk:m.kind<=4)(hq : -1000000<=S.qp/\S.qp<=1000000)(hb:bs.length<=800000) :
 bh Tryz.prog 52 [.one (.ptr 2 0),.one (.ptr 0 0),.agg (mC m)] [aN 1 bs,aq bs,dJ (S),bM 4 8 12,aw 5 6 7 cM,aR cM,aT cM,aS cM,aw 9 10 11 cZ,aR cZ,aT cZ,aS cZ,aw 13 14 15 cP,aR cP,aT cP,aS cP,cn 17 (S).cols (S).rows,.map (ba (S).M),.cells [.int .i64 (S).cols,.int .i64 (S).rows,.map 19,.map 20,.map 21] 171 false false,.map (ag (S).A),.map (ag (S).B),.map (ag (S).C)] (.tup []) [aN 22 (bs++az S m),.dead,dJ (fy S m),bM 4 8 12,aw 5 6 7 cM,aR cM,aT cM,aS cM,aw 9 10 11 cZ,aR cZ,aT cZ,aS cZ,aw 13 14 15 cP,aR cP,aT cP,aS cP,cn 17 (fy S m).cols (fy S m).rows,.map (ba (fy S m).M),.cells [.int .i64 (fy S m).cols,.int .i64 (fy S m).rows,.map 19,.map 20,.map 21] 171 false false,.map (ag (fy S m).A),.map (ag (fy S m).B),.map (ag (fy S m).C),aq (bs++az S m)]:=by
 have hkind:=hm.kind
 have hqp:=hm.qp
 have hsr:=yh S.qp m.qp
 have hcb:=kS AD m.kind.toNat
 have hkn:m.kind=(m.kind.toNat:Nat):=by omega
 unfold az
 obtain⟨b,hin⟩:∃b,S.inter=b:=⟨_,rfl⟩
 have hl2:=rY hin
 by_cases h4:m.kind=4
 ·have e4:fy S m = {S with qp:=m.qp}:=if_pos h4
  rw[e4,if_pos h4]
  cases b
  ·rw[if_neg (by rw[hin];decide),decide_eq_true h4,<-List.append_assoc]
   refine cO Tryz.func52 ?_
   repeat' (first
    |(refine qz ?_;first
     |refine ld (hc:=hl2) ?_
     |refine cl ?_ (hi:=by exact lH (b:=true) (bs:=bs) (by omega) rfl rfl (by decide) nL nA rfl)
     |refine cl ?_ (hi:=by exact zF hq hqp rfl)
     |refine cl ?_ (hi:=by exact iJ (n:=(dz S.qp m.qp).1) (size:=2) rfl (bs:=bs++[true]) (by omega) (by decide) (by rw[List.length_append];simp;omega) rfl rfl (by decide) nL nA rfl))
    |refine zz ?_|refine zx (fun _=>?_) (fun _=>?_)|fail)
   show aC _ _ _ _ _ _ _ _;refine kV [0,1,2,3,4,5,6,7,8,9,10,11,12,13,14,15,16,17,18,19,20,21,24] ?_
   rfl
  ·rw[if_pos hin,<-List.append_assoc]
   refine cO Tryz.func52 ?_
   repeat' (first
    |(refine qz ?_;first
     |refine ld (hc:=hl2) ?_
     |refine cl ?_ (hi:=by exact rz (C:=cM) AD (n:=m.kind.toNat) hkn (by show m.kind.toNat<5;omega) (bs:=bs) (by omega) rfl rfl rfl rfl rfl rfl (by decide) nL nA rfl)
     |refine cl ?_ (hi:=by exact zF hq hqp rfl)
     |refine cl ?_ (hi:=by exact iJ (n:=(dz S.qp m.qp).1) (size:=2) rfl (bs:=bs++c9 cM m.kind.toNat) (by omega) (by decide) (by rw[List.length_append];omega) rfl rfl (by decide) nL nA rfl))
    |refine zz ?_|refine zx (fun _=>?_) (fun _=>?_)|fail)
   show aC _ _ _ _ _ _ _ _;refine kV [0,1,2,3,4,5,6,7,8,9,10,11,12,13,14,15,16,17,18,19,20,21,24] ?_
   rfl
 ·have e4:fy S m=S:=if_neg h4
  rw[e4,if_neg h4,List.append_nil]
  cases b
  ·rw[if_neg (by rw[hin];decide),decide_eq_false h4]
   refine cO Tryz.func52 ?_
   repeat' (first
    |(refine qz ?_;first
     |refine ld (hc:=hl2) ?_
     |refine cl ?_ (hi:=by exact lH (b:=false) (bs:=bs) (by omega) rfl rfl (by decide) nL nA rfl))
    |refine zz ?_|refine zx (fun _=>?_) (fun _=>?_)|fail)
   show aC _ _ _ _ _ _ _ _;refine kV [0,1,2,3,4,5,6,7,8,9,10,11,12,13,14,15,16,17,18,19,20,21,23] ?_
   rfl
  ·rw[if_pos hin]
   refine cO Tryz.func52 ?_
   repeat' (first
    |(refine qz ?_;first
     |refine ld (hc:=hl2) ?_
     |refine cl ?_ (hi:=by exact rz (C:=cM) AD (n:=m.kind.toNat) hkn (by show m.kind.toNat<5;omega) (bs:=bs) (by omega) rfl rfl rfl rfl rfl rfl (by decide) nL nA rfl))
    |refine zz ?_|refine zx (fun _=>?_) (fun _=>?_)|fail)
   show aC _ _ _ _ _ _ _ _;refine kV [0,1,2,3,4,5,6,7,8,9,10,11,12,13,14,15,16,17,18,19,20,21,23] ?_
   rfl
theorem f7(S:bm)(m:Mb):(az S m).length<=66:=by
 unfold az
 have:=kS AD m.kind.toNat
 rw[List.length_append]
 split<;>split<;>simp only[List.length_cons,List.length_nil,gF]<;>omega
def si(M:gm)(cols mb:Int)(v:Nat->Int×Int):gm:=aV (aV (aV (aV M cols mb 0 (v 0)) cols mb 1 (v 1)) cols mb 2 (v 2)) cols mb 3 (v 3)
def aX(S:bm)(mb:Int)(v:Nat->Int×Int):bm:={S with M:=si S.M S.cols mb v}
theorem GJ(bs:List Bool)(S:bm)(hD:gR S.cols S.rows)(mb:Int)(hmb:0<=mb/\mb<S.cols*S.rows)(m:Mb) :
 bh Tryz.prog 53 [.one (.ptr 2 0),.one (.int .i64 mb),.agg (mC m)] [aN 1 bs,aq bs,dJ (S),bM 4 8 12,aw 5 6 7 cM,aR cM,aT cM,aS cM,aw 9 10 11 cZ,aR cZ,aT cZ,aS cZ,aw 13 14 15 cP,aR cP,aT cP,aS cP,cn 17 (S).cols (S).rows,.map (ba (S).M),.cells [.int .i64 (S).cols,.int .i64 (S).rows,.map 19,.map 20,.map 21] 171 false false,.map (ag (S).A),.map (ag (S).B),.map (ag (S).C)] (.tup []) [aN 1 bs,aq bs,dJ (aX S mb m.v),bM 4 8 12,aw 5 6 7 cM,aR cM,aT cM,aS cM,aw 9 10 11 cZ,aR cZ,aT cZ,aS cZ,aw 13 14 15 cP,aR cP,aT cP,aS cP,cn 17 (aX S mb m.v).cols (aX S mb m.v).rows,.map (ba (aX S mb m.v).M),.cells [.int .i64 (aX S mb m.v).cols,.int .i64 (aX S mb m.v).rows,.map 19,.map 20,.map 21] 171 false false,.map (ag (aX S mb m.v).A),.map (ag (aX S mb m.v).B),.map (ag (aX S mb m.v).C)]:=by
 refine cO Tryz.func53 ?_
 repeat' (first
  |(refine qz ?_;first
   |refine t_ (cs:=vt m.v) ?_ (hle:=by rw[aI];decide)
   |refine xc ?_
   |refine cl ?_ (hi:=by exact dF (M:=S.M) (cols:=S.cols) (rows:=S.rows) (i:=16) (j:=17) (k:=0) (v:=m.v 0) hD hmb (by decide) rfl rfl (by decide) nA rfl)
   |refine cl ?_ (hi:=by exact dF (M:=aV S.M S.cols mb 0 (m.v 0)) (cols:=S.cols) (rows:=S.rows) (i:=16) (j:=17) (k:=1) (v:=m.v 1) hD hmb (by decide) rfl rfl (by decide) nA rfl)
   |refine cl ?_ (hi:=by exact dF (M:=aV (aV S.M S.cols mb 0 (m.v 0)) S.cols mb 1 (m.v 1)) (cols:=S.cols) (rows:=S.rows) (i:=16) (j:=17) (k:=2) (v:=m.v 2) hD hmb (by decide) rfl rfl (by decide) nA rfl)
   |refine cl ?_ (hi:=by exact dF (M:=aV (aV (aV S.M S.cols mb 0 (m.v 0)) S.cols mb 1 (m.v 1)) S.cols mb 2 (m.v 2)) (cols:=S.cols) (rows:=S.rows) (i:=16) (j:=17) (k:=3) (v:=m.v 3) hD hmb (by decide) rfl rfl (by decide) nA rfl))
  |refine WX.loop ?_|refine WX.round ?_|refine zz ?_|refine zx (fun _=>?_) (fun _=>?_)|fail)
 show aC _ _ _ _ _ _ _ _;refine kV [0,1,2,3,4,5,6,7,8,9,10,11,12,13,14,15,16,17,18,19,20,21] ?_
 rfl
theorem sT:∀(ls:List Nat) (os HS:aj) (ls2:List Nat) (os2:aj),os.length=ls.length->(∀(j i:Nat),ls[j]? = some i->∃o,HS[i]? = some o/\os[j]? = some o)->bK HS (ls++ls2) (os++os2)=bK HS ls2 os2
 | [],[],HS,ls2,os2,_,_=>by simp
 | [],_::_,_,_,_,h,_=>by simp at h
 | _::_,[],_,_,_,h,_=>by simp at h
 | i::ls,o::os,HS,ls2,os2,h,hg=>by
   obtain⟨o',h1,h2⟩:=hg 0 i rfl
   have:o'=o:=by simpa using h2.symm
   subst this
   show bK (HS.set i o') (ls++ls2) (os++os2)=_
   rw[aF h1]
   exact sT ls os HS ls2 os2 (by simpa using h) fun j i' hj=>hg (j+1) i' hj
theorem uh{j i:Nat}(h:bR[j]? = some i):j<20/\i=j+2:=by
 have hjl:j<20:=(List.getElem?_eq_some_iff.1 h).1
 have hq:∀q:Fin 20,bR[q.val]? = some (q.val+2):=by decide
 have:=hq ⟨j,hjl⟩
 rw[h]at this
 exact⟨hjl,by simpa using this⟩
theorem zD{S:bm}{HS:aj}(hS:(HS.drop 2).take 20=ep S){j:Nat}(hj:j<20):HS[j+2]? = (ep S)[j]?:=by
 rw[<-hS,List.getElem?_take,if_pos hj,List.getElem?_drop]
 congr 1
 omega
theorem qV(ls:List Nat)(os HS l:aj)(h:os.length=ls.length)(hg:∀(j i:Nat),ls[j]? = some i->∃o,HS[i]? = some o/\os[j]? = some o):bK HS ls (os++l)=HS++l:=by
 have:=sT ls os HS [] l h hg
 rw[List.append_nil]at this
 rw[this,bK]
theorem sd{f:FuncId}{more:List XV}(hm:∀τ,dR τ more more)(hmo:fq 22 more){v:XV}[bE v]{bs bs':List Bool}{S S':bm}(hT:(ep S').tail=(ep S).tail)(hc:bh Tryz.prog f (.one (.ptr 2 0) :: .one (.ptr 0 0)::more) (aN 1 bs::aq bs::ep S) v (aN 22 bs' :: .dead::(ep S'++[aq bs'])))
 {HS:aj} {k:Nat}(hi:HS[0]? = some (aN k bs)) (hk:HS[k]? = some (aq bs)) (hS:(HS.drop 2).take 20=ep S) (hd:(k==1||Nat.ble 22 k)=true) {N:Nat}(hN:HS.length=N) {HS':aj}(hh:bK HS [0,k,2] [aN N bs',.dead,dJ S',aq bs']=HS') (hbd:Nat.blt HS'.length Mem.bound=true) :
 aG.Sound Tryz.prog ⟨f,.one (.ptr 2 0) :: .one (.ptr 0 0)::more,HS,v,HS',0::k::bR⟩:=by
 refine NS hm hmo hc hi hk hS hd hN ?_ hbd
 rw[<-hh]
 have hkk:k=1\/22<=k:=by simpa [Nat.ble_eq]using hd
 have e1:ep S'++[aq bs']=dJ S'::((ep S).tail++[aq bs']):=by rw[<-hT];rfl
 have e2:bR=2::bR.tail:=rfl
 rw[e1,e2,bK,bK,bK,bK,bK,bK,bK]
 refine qV bR.tail (ep S).tail _ _ rfl fun j i hj=>?_
 have hj':bR[j+1]? = some i:=hj
 obtain⟨h1,rfl⟩:=uh hj'
 have hl:j+1<(ep S).length:=h1
 refine⟨(ep S)[j+1],?_,?_⟩
 ·rw[List.getElem?_set_ne (by omega),List.getElem?_set_ne (by omega),List.getElem?_set_ne (by omega),zD hS h1,List.getElem?_eq_getElem hl]
 ·rw[List.getElem?_tail,List.getElem?_eq_getElem hl]
theorem nS(k:Nat)(r:List Nat):∀j,2<=j->j<22->nth ((0::k::bR)++r) j=j:=fun j h1 h2=>by
 have hq:∀q:Fin 20,bR[q.val]? = some (q.val+2):=by decide
 obtain⟨q,rfl⟩:∃q,j=q+2:=⟨j-2,by omega⟩
 have:=hq ⟨q,by omega⟩
 unfold nth
 rw[List.getD_eq_getElem?_getD]
 show((bR++r)[q]?).getD 0=q+2
 rw[List.getElem?_append_left (show q<bR.length by show q<20;omega),this];rfl
theorem r9{k:Nat}(hkk:k=1\/22<=k):(0::k::bR).Nodup:=by
 have h0:0∉bR:=by decide
 have hk':k∉bR:=by
  intro h
  simp only[bR,List.mem_cons,List.not_mem_nil,or_false]at h
  omega
 exact List.nodup_cons.2 ⟨fun h=>(List.mem_cons.1 h).elim (fun e=>by omega) h0,List.nodup_cons.2 ⟨hk',by decide⟩⟩
theorem JK(a:List XC)(e e':TypeId)(cs:List XC)(S S':bm):d9 (.cells a e false false::cE e' cs::ep S) (.cells a e false false::cE e' cs::ep S')=true:=by
 cases cs<;>simp[d9,ak.live,ak.own,cE]
theorem ju{bs:List Bool}{S:bm}(hD:gR S.cols S.rows){mb:Int}(hmb:0<=mb/\mb<S.cols*S.rows){m:Mb}{HS:aj}{k:Nat}(hi:HS[0]? = some (aN k bs))(hk:HS[k]? = some (aq bs))(hS:(HS.drop 2).take 20=ep S)(hd:(k==1||Nat.ble 22 k)=true){HS':aj}(hh:HS.set 17 (.map (ba (si S.M S.cols mb m.v)))=HS')(hbd:Nat.blt HS'.length Mem.bound=true) :
 aG.Sound Tryz.prog ⟨53,[.one (.ptr 2 0),.one (.int .i64 mb),.agg (mC m)],HS,.tup [],HS',[17]⟩:=by
 have hkk:k=1\/22<=k:=by simpa [Nat.ble_eq]using hd
 have nd:=r9 hkk
 have ht:∀j,2<=j->j<22->nth (0::k::bR) j=j:=fun j h1 h2=>by
  have:=nS k [] j h1 h2
  rwa [List.append_nil]at this
 have ht':∀j,2<=j->j<22->nth ((0::k::bR)++List.range' HS.length 0) j=j:=nS k _
 have hv:=pU S ht hS (ls:=[]) .nil
 rw[List.append_nil,List.append_nil]at hv
 have ho:=gK S 22 (Nat.le_refl _) (l:=[]) .nil
 rw[List.append_nil]at ho
 have ho':=gK (aX S mb m.v) 22 (Nat.le_refl _) (l:=[]) .nil
 rw[List.append_nil]at ho'
 have hr:=r8 (aX S mb m.v) ht' (l:=[]) (l':=[]) .nil
 rw[List.append_nil]at hr
 have hh' : bK HS (0::k::bR) (aN k bs::aq bs::ep (aX S mb m.v))=HS':=by
  rw[<-hh]
  have e1:(aN k bs::aq bs::ep (aX S mb m.v))=(aN k bs::aq bs::(ep S).take 15)++(.map (ba (si S.M S.cols mb m.v))::((ep S).drop 16++[])):=rfl
  have e2:(0::k::bR)=(0::k::bR.take 15)++(17::bR.drop 16):=rfl
  rw[e1,e2,sT _ _ _ _ _ rfl]
  ·rw[bK]
   rw[qV (bR.drop 16) ((ep S).drop 16) _ [] rfl,List.append_nil]
   intro j i hj
   rw[List.getElem?_drop]at hj
   obtain⟨h1,rfl⟩:=uh hj
   have hl:16+j<(ep S).length:=h1
   refine⟨(ep S)[16+j],?_,?_⟩
   ·rw[List.getElem?_set_ne (by omega),zD hS h1,List.getElem?_eq_getElem hl]
   ·rw[List.getElem?_drop,List.getElem?_eq_getElem hl]
  ·intro j i hj
   match j,hj with
   | 0,hj=>cases hj;exact⟨_,hi,rfl⟩
   | 1,hj=>cases hj;exact⟨_,hk,rfl⟩
   | j + 2,hj=>
     have hj2:(bR.take 15)[j]? = some i:=hj
     rw[List.getElem?_take]at hj2
     split at hj2
     ·rename_i h15
      obtain⟨h1,rfl⟩:=uh hj2
      have hl:j<(ep S).length:=h1
      refine⟨(ep S)[j],?_,?_⟩
      ·rw[zD hS h1,List.getElem?_eq_getElem hl]
      ·show((ep S).take 15)[j]? = _
       rw[List.getElem?_take,if_pos h15,List.getElem?_eq_getElem hl]
     ·cases hj2
 refine bO (0::k::bR) [17] 0 (GJ bs S hD mb hmb m) nd (ae.ij hi rfl rfl rfl (.flat hk hv)) (.cons (by simp[ak.b7,XC.ok,aZ]) (.flat ho)) (.cons (by simp[ak.b7,XC.ok,aZ]) (.flat ho')) rfl (.cons (by show 2<22;omega) (.flat (.flat .nil))) (.cons rfl (.flat (.flat .nil))) (bE.ok _) (bE.ay _) ?_ (JK ..) rfl hh' hbd (.inr fun j hjl hj=>?_)
 ·exact .cons (by simp only[ak.ay,List.map_cons,List.map_nil,XC.ay,aB];rfl) (.flat hr)
 ·subst hh
  exact List.getElem?_set_ne (fun h=>hj (by rw[<-h];exact List.mem_singleton.2 rfl))
theorem oU{C:Cd}{K:Int}(hK:0<=K)(h:∀j,-(K+1)<=C.T.getD j 0)(B:List Bool):∀(k:Nat) (x:Int) (r:Nat×Bool),0<=(qG C B k x r).1/\(qG C B k x r).1<=K
 | 0,x,r=>⟨Int.le_refl _,hK⟩
 | k + 1,x,r=>by
   unfold qG
   split
   ·exact⟨Int.le_refl _,hK⟩
   ·split
    ·rename_i h1
     have:=h (x.toNat*2+(b2 (cm B r)%2^1).toNat)
     show 0 <= -1-C.T.getD _ 0 /\ -1-C.T.getD _ 0<=K
     omega
    ·exact oU hK h B k _ _
theorem H7(j:Nat) : -(12+1)<=cZ.T.getD j 0:=iy (p:=fun x => -(12+1)<=x) (by decide) (by decide) j
theorem Oe(j:Nat) : -(4+1)<=cM.T.getD j 0:=iy (p:=fun x => -(4+1)<=x) (by decide) (by decide) j
theorem Of(j:Nat) : -(15+1)<=cP.T.getD j 0:=iy (p:=fun x => -(15+1)<=x) (by decide) (by decide) j
theorem ya(B:List Bool):∀(n:Nat) (x:Int) (r:Nat×Bool),0<=x->0<=(iz B n x r).1/\(iz B n x r).1<(x+1)*2^n
 | 0,x,r,h=>⟨h,by show x<(x+1)*2^0;omega⟩
 | n+1,x,r,h=>by
   have hb:=Av (cm B r)
   have ih:=ya B n (2*x+b2 (cm B r)) (bg B r) (by omega)
   refine⟨ih.1,Int.lt_of_lt_of_le ih.2 ?_⟩
   rw[Int.pow_succ,Int.mul_comm (2^n) 2,<-Int.mul_assoc]
   exact Int.mul_le_mul_of_nonneg_right (by omega) (Int.le_of_lt (Int.pow_pos (by decide)))
theorem iL(B:List Bool)(n:Nat)(r:Nat×Bool):0<=(bG B n r).1/\(bG B n r).1<2^n:=by
 have h:=ya B n 0 r (Int.le_refl _)
 have hp:(0:Int)<2^n:=Int.pow_pos (by decide)
 unfold bG
 simp only[]
 split
 ·omega
 ·rw[Int.zero_add,Int.one_mul]at h;exact h
def cQ(B:List Bool)(r:Nat×Bool):Nat:=(kK cZ B r).1.toNat
def lF(B:List Bool)(r:Nat×Bool):Int×(Nat×Bool):=bG B (cQ B r) (kK cZ B r).2
def eI(B:List Bool)(r:Nat×Bool):Int×(Nat×Bool):=
 if 0<cQ B r/\(lF B r).1<1*2^(cQ B r-1)then
  ((lF B r).1-(1*2^cQ B r-1),if(lF B r).1-(1*2^cQ B r-1)=0 then((lF B r).2.1,true)else(lF B r).2)
 else lF B r
theorem Ng{L:List Int}{B:List Bool}(h:dp L B)(r:Nat×Bool)(S:bm) :
 bh Tryz.prog 96 [.one (.ptr 2 0),.one (.ptr 0 0)] [bt 1 L B r.1 r.2,aL L,dJ (S),bM 4 8 12,aw 5 6 7 cM,aR cM,aT cM,aS cM,aw 9 10 11 cZ,aR cZ,aT cZ,aS cZ,aw 13 14 15 cP,aR cP,aT cP,aS cP,cn 17 (S).cols (S).rows,.map (ba (S).M),.cells [.int .i64 (S).cols,.int .i64 (S).rows,.map 19,.map 20,.map 21] 171 false false,.map (ag (S).A),.map (ag (S).B),.map (ag (S).C)] (.one (.int .i64 (eI B r).1)) [bt 1 L B (eI B r).2.1 (eI B r).2.2,aL L,dJ (S),bM 4 8 12,aw 5 6 7 cM,aR cM,aT cM,aS cM,aw 9 10 11 cZ,aR cZ,aT cZ,aS cZ,aw 13 14 15 cP,aR cP,aT cP,aS cP,cn 17 (S).cols (S).rows,.map (ba (S).M),.cells [.int .i64 (S).cols,.int .i64 (S).rows,.map 19,.map 20,.map 21] 171 false false,.map (ag (S).A),.map (ag (S).B),.map (ag (S).C)]:=by
 have hr:=oU (K:=12) (by decide) H7 B (cZ.T.length/2) 0 r
 have hz:(kK cZ B r).1=(cQ B r:Nat):=by unfold cQ;have:0<=(kK cZ B r).1:=hr.1;omega
 have hs:cQ B r<=12:=by have:(kK cZ B r).1<=12:=hr.2;omega
 have hn:=iL B (cQ B r) (kK cZ B r).2
 have hn':0<=(lF B r).1/\(lF B r).1<2^cQ B r:=hn
 have hp:=vF (j:=cQ B r) (by omega)
 have hp1:=vF (j:=cQ B r-1) (by omega)
 have hq:(0:Int)<2^cQ B r:=Int.pow_pos (by decide)
 have hq1:(0:Int)<2^(cQ B r-1):=Int.pow_pos (by decide)
 have key:∀{HS HS':aj},HS[0]? = some (bt 1 L B (kK cZ B r).2.1 (kK cZ B r).2.2)->HS[1]? = some (aL L)->HS.set 0 (bt 1 L B (lF B r).2.1 (lF B r).2.2)=HS'->Nat.blt HS'.length Mem.bound=true->aG.Sound Tryz.prog ⟨65,[.one (.ptr 0 0),.one (.int .i64 (cQ B r:Nat))],HS,.one (.int .u64 (lF B r).1),HS',[0]⟩:=fun a b c d=>rT h (kK cZ B r).2 rfl (by omega) a b (by decide) c d
 have key0:∀{HS HS':aj},HS[0]? = some (bt 1 L B r.1 r.2)->HS[1]? = some (aL L)->HS[8]? = some (aw 9 10 11 cZ)->HS[9]? = some (aR cZ)->HS[10]? = some (aT cZ)->HS[11]? = some (aS cZ)->HS.set 0 (bt 1 L B (kK cZ B r).2.1 (kK cZ B r).2.2)=HS'->Nat.blt HS'.length Mem.bound=true->aG.Sound Tryz.prog ⟨63,[.one (.ptr 8 0),.one (.ptr 0 0)],HS,.one (.int .i64 (cQ B r:Nat)),HS',[0]⟩:=fun a b c d e f g i=>by
  have:=uN AE h r a b c d e f (by decide) g i
  rw[hz]at this
  exact this
 unfold eI
 by_cases hc:0<cQ B r/\(lF B r).1<1*2^(cQ B r-1)
 ·rw [if_pos hc]
  have hc1:=hc.1
  have hc2:=hc.2
  have e1:((cQ B r:Nat):Int)-1=((cQ B r-1:Nat):Int):=by omega
  by_cases h0:(lF B r).1-(1*2^cQ B r-1)=0
  ·rw[if_pos h0]
   refine cO Tryz.func96 ?_
   repeat' (first
    |(refine qz ?_;first
     |refine cl ?_ (hi:=by exact key0 rfl rfl rfl rfl rfl rfl nL rfl)
     |refine cl ?_ (hi:=by exact key rfl rfl nL rfl)
     |refine Cp (n:=cQ B r-1) ?_ (hn:=e1) (h:=⟨by show cQ B r-1<=64;omega,by show _/\_;omega⟩)
     |refine Cp (n:=cQ B r) ?_ (h:=⟨by show cQ B r<=64;omega,by show _/\_;omega⟩)
     |refine cl ?_ (hi:=by exact gG (p:=(lF B r).2.1) (e:=(lF B r).2.2) rfl rfl (by decide) nL rfl))
    |refine zz ?_|refine zx (fun _=>?_) (fun _=>?_)|fail)
   show aC _ _ _ _ _ _ _ _;refine kV [0,1,2,3,4,5,6,7,8,9,10,11,12,13,14,15,16,17,18,19,20,21] ?_
   rfl
  ·rw[if_neg h0]
   refine cO Tryz.func96 ?_
   repeat' (first
    |(refine qz ?_;first
     |refine cl ?_ (hi:=by exact key0 rfl rfl rfl rfl rfl rfl nL rfl)
     |refine cl ?_ (hi:=by exact key rfl rfl nL rfl)
     |refine Cp (n:=cQ B r-1) ?_ (hn:=e1) (h:=⟨by show cQ B r-1<=64;omega,by show _/\_;omega⟩)
     |refine Cp (n:=cQ B r) ?_ (h:=⟨by show cQ B r<=64;omega,by show _/\_;omega⟩))
    |refine zz ?_|refine zx (fun _=>?_) (fun _=>?_)|fail)
   show aC _ _ _ _ _ _ _ _;refine kV [0,1,2,3,4,5,6,7,8,9,10,11,12,13,14,15,16,17,18,19,20,21] ?_
   rfl
 ·rw [if_neg hc]
  by_cases h0:0<cQ B r
  ·have hc2:¬(lF B r).1<1*2^(cQ B r-1):=fun g=>hc ⟨h0,g⟩
   have e1:((cQ B r:Nat):Int)-1=((cQ B r-1:Nat):Int):=by omega
   refine cO Tryz.func96 ?_
   repeat' (first
    |(refine qz ?_;first
     |refine cl ?_ (hi:=by exact key0 rfl rfl rfl rfl rfl rfl nL rfl)
     |refine cl ?_ (hi:=by exact key rfl rfl nL rfl)
     |refine Cp (n:=cQ B r-1) ?_ (hn:=e1) (h:=⟨by show cQ B r-1<=64;omega,by show _/\_;omega⟩))
    |refine zz ?_|refine zx (fun _=>?_) (fun _=>?_)|fail)
   show aC _ _ _ _ _ _ _ _;refine kV [0,1,2,3,4,5,6,7,8,9,10,11,12,13,14,15,16,17,18,19,20,21] ?_
   rfl
  ·refine cO Tryz.func96 ?_
   repeat' (first
    |(refine qz ?_;first
     |refine cl ?_ (hi:=by exact key0 rfl rfl rfl rfl rfl rfl nL rfl)
     |refine cl ?_ (hi:=by exact key rfl rfl nL rfl))
    |refine zz ?_|refine zx (fun _=>?_) (fun _=>?_)|fail)
   show aC _ _ _ _ _ _ _ _;refine kV [0,1,2,3,4,5,6,7,8,9,10,11,12,13,14,15,16,17,18,19,20,21] ?_
   rfl
theorem CF{n:Nat}(h:0<n):0<bitLen n/\2^(bitLen n-1)<=n:=by
 unfold bitLen
 rw[if_neg (by omega)]
 exact⟨by omega,by rw[Nat.add_sub_cancel];exact Nat.log2_self_le (by omega)⟩
theorem Qu{k:Nat}:((2^k:Nat):Int)=(2:Int)^k:=Int.natCast_pow 2 k
theorem FC{n:Int}(hn : -4000<=n/\n<=4000)(pre rest:List Bool):eI (pre++(bY n++rest)) (pre.length,false)=(n,(pre.length+(bY n).length,false)):=by
 have hl:=uO hn
 have hlt:=xQ (max n (-n)).toNat
 have hlt':(((max n (-n)).toNat:Nat):Int)<(2:Int)^bJ n:=by rw[<-Qu];exact Int.ofNat_lt.2 hlt
 have hm0:(((max n (-n)).toNat:Nat):Int)=max n (-n):=by omega
 have e1:pre++(bY n++rest)=pre++(c9 cZ (bJ n)++(d8 (if n<0 then n+(1*2^bJ n-1)else n) (bJ n)++rest)):=by unfold bY;simp only[List.append_assoc]
 have e2:pre++(bY n++rest)=(pre++c9 cZ (bJ n))++(d8 (if n<0 then n+(1*2^bJ n-1)else n) (bJ n)++rest):=by rw[e1];simp only[List.append_assoc]
 have k1:kK cZ (pre++(bY n++rest)) (pre.length,false)=((bJ n:Int),(pre.length+(c9 cZ (bJ n)).length,false)):=by rw[e1];exact Dq (by omega) pre _
 have hsz:cQ (pre++(bY n++rest)) (pre.length,false)=bJ n:=by unfold cQ;rw[k1];rfl
 have hr:0<=(if n<0 then n+(1*2^bJ n-1)else n)/\(if n<0 then n+(1*2^bJ n-1)else n)<2^bJ n:=by split<;>omega
 have k2:lF (pre++(bY n++rest)) (pre.length,false)=((if n<0 then n+(1*2^bJ n-1)else n),(pre.length+(bY n).length,false)):=by
  unfold lF
  rw[hsz,k1]
  have:=xw (n:=if n<0 then n+(1*2^bJ n-1)else n) (k:=bJ n) hr (pre++c9 cZ (bJ n)) rest
  rw[<-e2,List.length_append]at this
  rw[this]
  unfold bY
  rw[List.length_append,gF,Nat.add_assoc]
 unfold eI
 rw[hsz,k2]
 by_cases h0:n=0
 ·subst h0
  have e:bJ 0=0:=by decide
  rw[if_neg (by rw[e];simp)]
  rfl
 ·have hlow:=CF (n:=(max n (-n)).toNat) (by omega)
  have hlow1:0<bJ n:=hlow.1
  have hlow2:(2:Int)^(bJ n-1)<=(((max n (-n)).toNat:Nat):Int):=by rw[<-Qu];exact Int.ofNat_le.2 hlow.2
  have hp:(2:Int)^bJ n=2^(bJ n-1)*2:=by
   obtain⟨q,hq⟩:∃q,bJ n=q+1:=⟨bJ n-1,by omega⟩
   rw[hq,Nat.add_sub_cancel,Int.pow_succ]
  by_cases hneg:n<0
  ·simp only[if_pos hneg]
   rw[if_pos ⟨hlow1,by omega⟩]
   have en:n+(1*2^bJ n-1)-(1*2^bJ n-1)=n:=by omega
   rw[en,if_neg h0]
  ·simp only[if_neg hneg]
   rw[if_neg (fun g=>by have:=g.2;omega)]
end Go.Proofs.YtagpkhindehcbaaGreat
