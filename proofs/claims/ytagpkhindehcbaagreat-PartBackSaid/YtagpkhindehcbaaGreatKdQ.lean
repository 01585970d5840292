/-
  A part of the proof: Back0, Back1, Sta, Undiff, CodeLaw, Sta2, Sta3, Sta4, Undiff2.
-/
import Derived.Test.YtagpkhindehcbaaGreatKdH
import Derived.Test.YtagpkhindehcbaaGreatKdN
import Derived.Test.YtagpkhindehcbaaGreatKdP
set_option maxRecDepth 10000
set_option maxHeartbeats 8000000
set_option linter.unusedVariables false
set_option linter.unusedSectionVars false
set_option linter.unusedSimpArgs false
namespace Go.Proofs.YtagpkhindehcbaaGreat
open Go.Xm
variable [az]
def FR (o:Int) (f:Nat→Int):Nat→(Nat→Int)
 | 0=>fun _=>0
 | i+1=>c8 (FR o f i) (oe o i).toNat (f i)
def d_ (o:Int) (f:Nat→Int):Nat→Int:=FR o f 64
theorem EY {o:Int}(h:o=0∨o=1∨o=2) (f:Nat→Int):bn Tryz.prog 69 [.one (.int .u8 o),.agg (ti .i64 64 f)] [] (.agg (ti .i64 64 (d_ o f))) []:=by
 refine cO Tryz.func69 ?_
 repeat' (first
  |(refine qz ?_;first
   |refine cl ?_ (hi:=by exact v9 h rfl))
  |refine zz ?_|refine zx (fun _=>?_) (fun _=>?_)|fail)
 refine WX.cS (σ:=Nat) (fun j=>[(10,.one (.int .i64 (j:Nat))),(3,.one (.ptr 0 0)),(4,.one (.ptr 1 0)),(5,.one (.ptr 2 0)),(9,.agg (ti .i64 64 (oe o)))]) (fun j=>[.cells (ti .i64 64 f) 50 false false,.cells (ti .i64 64 fun _=>0) 50 false false,.cells (ti .i64 64 (FR o f j)) 50 false false]) (fun j=>j≤64) (fun j=>64-j) 0 (by omega) (fun s _=>j5) (bh [0,1,2]) ?_
 intro j hj ih
 by_cases hj64:j<64
 · have hr:=qL h hj64
   have hr':0≤oe o (j:Int).toNat∧oe o (j:Int).toNat<64:=hr
   repeat' (first
    |(refine qz ?_;first
     |refine MA (n:=64) ?_)
    |refine zz ?_|refine zx (fun _=>?_) (fun _=>?_)|fail)
   refine ih (j+1) _ _ _ (bh [0,1,2]) (by omega) (by omega)
 · obtain rfl:j=64:=by omega
   repeat' (first
    |(refine qz ?_;first
     |refine fW ?_ (hle:=by rw [aF])
     |refine jb ?_ (hs1:=by rw [aF]) (hs2:=by rw [aF]))
    |refine zz ?_|refine zx (fun _=>?_) (fun _=>?_)|fail)
   show aC _ _ _ _ _ _ _ _;refine kV [] ?_
   rfl
theorem qY {o:Int}(h:o=0∨o=1∨o=2) {f:Nat→Int} {HS:aj}(hb:Nat.blt HS.length Mem.bound=true):aH.Sound Tryz.prog ⟨69,[.one (.int .u8 o),.agg (ti .i64 64 f)],HS,.agg (ti .i64 64 (d_ o f)),HS,[]⟩:=
 aA (EY h f) (by show(true && ((ti .i64 64 f).all XC.shut && true))=true;rw [gD];rfl) (gD _ _ _) hb
def kZ (l e:Nat→Int) (i:Nat):Prop:=l i+e i < -2047∨2047<l i+e i
open Classical in
noncomputable def ku (l e:Nat→Int):Option (Nat→Int):=if ∃ i,i<64∧kZ l e i then none else some fun i=>l i+e i
theorem Hn (l e:Nat→Int) (hl:∀ i,-1000000≤l i∧l i≤1000000) (he:∀ i,-1000000≤e i∧e i≤1000000):bn Tryz.prog 72 [.agg (ti .i64 64 l),.agg (ti .i64 64 e)] [] (zj (ku l e)) []:=by
 refine cO Tryz.func72 ?_
 repeat' (first
  |(refine qz ?_;first
   |refine fW ?_ (hle:=by rw [aF]))
  |refine zz ?_|refine zx (fun _=>?_) (fun _=>?_)|fail)
 refine WX.cS (σ:=Nat) (fun j=>[(9,.one (.int .i64 (j:Nat))),(2,.one (.ptr 0 0)),(4,.one (.ptr 1 0)),(8,.agg (ti .i64 64 e))]) (fun j=>[.cells (ti .i64 64 (qd (fun i=>l i+e i) l j)) 50 false false,.cells (ti .i64 64 fun _=>0) 50 false false]) (fun j=>j≤64∧∀ i,i<j→¬kZ l e i) (fun j=>64-j) 0 ⟨by omega,fun i hi=>by omega⟩ (fun s _=>j5) (bh [0,2] (obj:=by(repeat' (first|exact ae.nil|refine ae.flat (by rw [n9];rfl) ?_|refine ae.flat rfl ?_|refine ae.cons rfl ?_|refine ae.dead rfl ?_|refine ae.cons (by simp only [ak.ay,List.map_cons,List.map_nil,XC.ay,aw];exact rfl) ?_));first|done|fail)) ?_
 intro j ⟨hj,hall⟩ ih
 by_cases hj64:j<64
 · have a1:=hl j
   have a2:=he j
   have a2':=he (j:Int).toNat
   have e1:e (j:Int).toNat=e j:=rfl
   have em:qd (fun i=>l i+e i) l j j=l j:=by simp [qd]
   have eu:c8 (qd (fun i=>l i+e i) l j) j (qd (fun i=>l i+e i) l j j+e (j:Int).toNat) j=qd (fun i=>l i+e i) l j j+e (j:Int).toNat:=by simp [c8]
   by_cases hb:kZ l e j
   · have hb':=hb
     unfold kZ at hb'
     have e0:ku l e=none:=if_pos ⟨j,hj64,hb⟩
     rw [e0]
     repeat' (first
      |(refine qz ?_;first
       |refine MA (n:=64) ?_
       |refine jb ?_ (hs1:=by rw [aF]) (hs2:=by rw [aF]))
      |refine zz ?_|refine zx (fun _=>?_) (fun _=>?_)|fail)
     all_goals
      first
       | (exfalso;omega)
       | (show aC _ _ _ _ _ _ _ _;refine kV [] ?_;rfl)
   · have hb':=hb
     unfold kZ at hb'
     have e2:qd (fun i=>l i+e i) l j j+e (j:Int).toNat=l j+e j:=by rw [em,e1]
     repeat' (first
      |(refine qz ?_;first
       |refine MA (n:=64) ?_)
      |refine zz ?_|refine zx (fun _=>?_) (fun _=>?_)|fail)
     refine ih (j+1) _ _ _ (bh [0,1] (obj:=by(repeat' (first|exact ae.nil|refine ae.flat (by rw [←n8,e2];rfl) ?_|refine ae.flat rfl ?_|refine ae.cons rfl ?_|refine ae.dead rfl ?_|refine ae.cons (by simp only [ak.ay,List.map_cons,List.map_nil,XC.ay,aw];exact rfl) ?_));first|done|fail)) ⟨by omega,fun i hi=>?_⟩ (by omega)
     by_cases hij:i=j
     · subst hij;exact hb
     · exact hall i (by omega)
 · obtain rfl:j=64:=by omega
   have e0:ku l e=some fun i=>l i+e i:=if_neg fun⟨i,hi,hb⟩=>hall i hi hb
   rw [e0]
   repeat' (first
    |(refine qz ?_;first
     |refine fW ?_ (hle:=by rw [aF])
     |refine jb ?_ (hs1:=by rw [aF]) (hs2:=by rw [aF]))
    |refine zz ?_|refine zx (fun _=>?_) (fun _=>?_)|fail)
   show aC _ _ _ _ _ _ _ _;refine kV [] ?_
   rw [Bp];rfl
theorem CR {l e:Nat→Int}(hl:∀ i,-1000000≤l i∧l i≤1000000) (he:∀ i,-1000000≤e i∧e i≤1000000) {o:Option (Nat→Int)}(ho:ku l e=o) {HS:aj}(hb:Nat.blt HS.length Mem.bound=true):aH.Sound Tryz.prog ⟨72,[.agg (ti .i64 64 l),.agg (ti .i64 64 e)],HS,zj o,HS,[]⟩:=by
 subst ho
 exact aA (Hn l e hl he) (by show((ti .i64 64 l).all XC.shut && ((ti .i64 64 e).all XC.shut && true))=true;rw [gD,gD];rfl) (tX _) hb
def dG (l:List Ev) (st:Int):Nat→Option (Int × (Nat→Int))
 | 0=>some (st,fun _=>0)
 | j+1=>(dG l st j).bind fun x=>if 63<x.1+(l.getD j default).1 then none else some (x.1+(l.getD j default).1+1,c8 x.2 (x.1+(l.getD j default).1).toNat (l.getD j default).2.1)
def jB (l:List Ev) (st:Int):Option (Nat→Int):=(dG l st l.length).map (·.2)
def Cq (o:Option (Nat→Int)):XV := .tup [.agg (ti .i64 64 (o.getD fun _=>0)),.one (.int .i64 (if o.isSome then 0 else 2))]
theorem tj (o:Option (Nat→Int)):(Cq o).shut=true:=by
 show((ti .i64 64 (o.getD fun _=>0)).all XC.shut && (true && true))=true
 rw [gD];rfl
instance NQ (o:Option (Nat→Int)):bz (Cq o):=e_ (tj o)
theorem xd {l:List Ev} {st:Int} {j:Nat}(h:dG l st j=none):∀ k,j≤k→dG l st k=none:=by
 intro k hk
 induction k with
 | zero=>rw [Nat.le_zero.1 hk]at h;exact h
 | succ k ih=>
   by_cases hjk:j=k+1
   · subst hjk;exact h
   · show(dG l st k).bind _=none
     rw [ih (by omega)];rfl
theorem yH {l:List Ev}(hl:∀ j,j<l.length→mw (l.getD j default)) {st:Int}(hs:0≤st∧st≤64):∀ j,j≤l.length→∀ x,dG l st j=some x→0≤x.1∧x.1≤64
 | 0,_,x,h=>by cases h;exact hs
 | j + 1,hj,x,h=>by
   have h2:(dG l st j).bind _=some x:=h
   cases hr:dG l st j with
   | none=>rw [hr]at h2;cases h2
   | some y=>
     rw [hr]at h2
     have h3:(if 63<y.1+(l.getD j default).1 then none else some _)=some x:=h2
     have:=yH hl hs j (by omega) y hr
     have:=(hl j (by omega)).run
     split at h3
     · cases h3
     · cases h3
       dsimp only
       omega
structure lJ (l:List Ev):Prop where
 ok:∀ j,j<l.length→mw (l.getD j default)
 last:∀ j,j<l.length→(l.getD j default).2.2=decide (j+1=l.length)
 len:l.length≤64
def xa (c:XC) (i n:Nat):Prop:=(n=0∧c = .nils)∨∃ cap,c = .slice i 0 n cap
theorem Ga {l:List Ev}(h:lJ l) {o:ak}(ho:sN o lA l) {c:XC}(hc:xa c 0 l.length) {st:Int}(hs:0≤st∧st≤1):bn Tryz.prog 36 [.one c,.one (.int .i64 st)] [o] (Cq (jB l st)) [o]:=by
 have hfo:=ho.flat
 have hlen:=h.len
 rcases hc with⟨h0,rfl⟩|⟨cap,rfl⟩
 · obtain rfl:=List.length_eq_zero_iff.1 h0
   refine cO Tryz.func36 ?_
   repeat' (first
    |(refine qz ?_;first
     |refine fW ?_ (hle:=by rw [aF])
     |refine jb ?_ (hs1:=by rw [aF]) (hs2:=by rw [aF]))
    |refine WX.loop ?_|refine WX.round ?_|refine zz ?_|refine zx (fun _=>?_) (fun _=>?_)|fail)
   show aC _ _ _ _ _ _ _ _;refine kV [0] ?_
   rfl
 refine cO Tryz.func36 ?_
 repeat' (first|refine zz ?_|refine zx (fun _=>?_) (fun _=>?_)|fail)
 refine WX.cS (σ:=Nat × Int × (Nat→Int)) (fun s=>[(15,.one (.int .i64 (s.1:Nat))),(7,.one (.int .i64 s.2.1)),(0,.one (.slice 0 0 l.length cap)),(4,.one (.ptr 1 0)),(6,.one (.ptr 2 0)),(13,.one (.slice 0 0 l.length cap)),(14,.one (.int .i64 (l.length:Nat)))]) (fun s=>[o,.cells (ti .i64 64 fun _=>0) 50 false false,.cells (ti .i64 64 s.2.2) 50 false false]) (fun s=>s.1≤l.length∧dG l st s.1=some s.2∧0≤s.2.1∧s.2.1≤64) (fun s=>l.length-s.1) (0,st,fun _=>0) ⟨Nat.zero_le _,rfl,by dsimp only;omega,by dsimp only;omega⟩ (fun s _=>j5) (bh [0,1,2]) ?_
 intro s ⟨hj,hrun,hp⟩ ih
 by_cases hjl:s.1<l.length
 · have hok:=h.ok s.1 hjl
   have r1:=hok.run
   have r2:=hok.nz
   have r3:=hok.lev
   have hlast:=h.last s.1 hjl
   obtain⟨b,hb⟩:∃ b,(l.getD s.1 default).2.2=b:=⟨_,rfl⟩
   have hb2:(lA (l.getD s.1 default))[2]? = some (.bool b):=by rw [←hb];rfl
   rw [hb]at hlast
   by_cases hbig:63<s.2.1+(l.getD s.1 default).1
   · have e0:jB l st=none:=by
      unfold jB
      rw [xd (j:=s.1+1) (by show(dG l st s.1).bind _=none;rw [hrun];exact if_pos hbig) l.length (by omega)]
      rfl
     rw [e0]
     repeat' (first
      |(refine qz ?_;first
       |refine n6 (enc:=lA) ?_
       |refine jb ?_ (hs1:=by rw [aF]) (hs2:=by rw [aF]))
      |refine zz ?_|refine zx (fun _=>?_) (fun _=>?_)|fail)
     show aC _ _ _ _ _ _ _ _;refine kV [0] ?_
     rfl
   · have e1:dG l st (s.1+1)=some (s.2.1+(l.getD s.1 default).1+1,c8 s.2.2 (s.2.1+(l.getD s.1 default).1).toNat (l.getD s.1 default).2.1):=by
      show(dG l st s.1).bind _=_
      rw [hrun];exact if_neg hbig
     by_cases hl:s.1+1=l.length
     · obtain rfl:b=true:=by rw [hlast];exact decide_eq_true hl
       repeat' (first
        |(refine qz ?_;first
         |refine n6 (enc:=lA) ?_
         |refine ld (hc:=hb2) ?_)
        |refine zz ?_|refine zx (fun _=>?_) (fun _=>?_)|fail)
       refine ih (s.1+1,s.2.1+(l.getD s.1 default).1+1,c8 s.2.2 (s.2.1+(l.getD s.1 default).1).toNat (l.getD s.1 default).2.1) _ _ _ (bh [0,1,2]) ⟨by dsimp only;omega,e1,by dsimp only;omega,by dsimp only;omega⟩ (by dsimp only;omega)
     · obtain rfl:b=false:=by rw [hlast];exact decide_eq_false hl
       repeat' (first
        |(refine qz ?_;first
         |refine n6 (enc:=lA) ?_
         |refine ld (hc:=hb2) ?_)
        |refine zz ?_|refine zx (fun _=>?_) (fun _=>?_)|fail)
       refine ih (s.1+1,s.2.1+(l.getD s.1 default).1+1,c8 s.2.2 (s.2.1+(l.getD s.1 default).1).toNat (l.getD s.1 default).2.1) _ _ _ (bh [0,1,2]) ⟨by dsimp only;omega,e1,by dsimp only;omega,by dsimp only;omega⟩ (by dsimp only;omega)
 · have hje:s.1=l.length:=by omega
   have e0:jB l st=some s.2.2:=by unfold jB;rw [←hje,hrun];rfl
   rw [e0]
   repeat' (first
    |(refine qz ?_;first
     |refine fW ?_ (hle:=by rw [aF])
     |refine jb ?_ (hs1:=by rw [aF]) (hs2:=by rw [aF]))
    |refine zz ?_|refine zx (fun _=>?_) (fun _=>?_)|fail)
   show aC _ _ _ _ _ _ _ _;refine kV [0] ?_
   rfl
end Go.Proofs.YtagpkhindehcbaaGreat
namespace Go.Proofs.YtagpkhindehcbaaGreat
open Go.Xm
variable [az]
def iO (e:Ev):Bool:=decide (0≤e.1∧e.1≤63∧e.2.1≠0 ∧ -2047≤e.2.1∧e.2.1≤2047)
theorem tI {e:Ev}(h:iO e=true):mw e:=by
 have:=of_decide_eq_true h
 exact⟨⟨this.1,this.2.1⟩,this.2.2.1,this.2.2.2⟩
theorem yX (e:Ev) (h1 : -1000000≤e.1∧e.1≤1000000) (h2 : -1000000≤e.2.1∧e.2.1≤1000000):bn Tryz.prog 104 [.agg (lA e)] [] (.one (.bool (iO e))) []:=by
 cases hr:iO e with
 | true=>exact qR e (tI hr)
 | false=>
   have hn:=of_decide_eq_false hr
   refine cO Tryz.func104 ?_
   repeat' (first|refine zz ?_|refine zx (fun _=>?_) (fun _=>?_)|fail)
   all_goals first
    | (exfalso;omega)
    | (show aC _ _ _ _ _ _ _ _;refine kV [] ?_;rfl)
theorem tJ {e:Ev}(h1 : -1000000≤e.1∧e.1≤1000000) (h2 : -1000000≤e.2.1∧e.2.1≤1000000) {b:Bool}(hb':iO e=b) {HS:aj}(hb:Nat.blt HS.length Mem.bound=true):aH.Sound Tryz.prog ⟨104,[.agg (lA e)],HS,.one (.bool b),HS,[]⟩:=by
 subst hb'
 exact aA (yX e h1 h2) rfl rfl hb
def FQ (n m:Int):Ev:=(n/2,cm (m+1),decide (n%2=1))
theorem Fm {n:Int}(h:0≤n∧n≤10000) : -10000≤cm n∧cm n≤10000:=by
 unfold cm;split <;> omega
def Mr (e:Ev):XV := .tup [.agg (lA e),.one (.bool (iO e))]
theorem D4 (n m:Int) (hn:0≤n∧n≤9000) (hm:0≤m∧m≤9000):bn Tryz.prog 76 [.one (.int .i64 n),.one (.int .i64 m)] [] (Mr (FQ n m)) []:=by
 have hu:=Fm (n:=m+1) (by omega)
 obtain⟨b,hb⟩:∃ b,decide (n%2=1)=b:=⟨_,rfl⟩
 have he:FQ n m=(n/2,cm (m+1),b):=by unfold FQ;rw [hb]
 rw [he]
 cases b with
 | true=>
   have h1:=of_decide_eq_true hb
   refine cO Tryz.func76 ?_
   repeat' (first
    |(refine qz ?_;first
     |refine cl ?_ (hi:=by exact ll (by omega) rfl)
     |refine cl ?_ (hi:=by exact tJ (e:=(n/2,cm (m+1),true)) (by dsimp only;omega) (by dsimp only;omega) rfl rfl))
    |refine zz ?_|refine zx (fun _=>?_) (fun _=>?_)|fail)
   show aC _ _ _ _ _ _ _ _;refine kV [] ?_
   rfl
 | false=>
   have h1:=of_decide_eq_false hb
   refine cO Tryz.func76 ?_
   repeat' (first
    |(refine qz ?_;first
     |refine cl ?_ (hi:=by exact ll (by omega) rfl)
     |refine cl ?_ (hi:=by exact tJ (e:=(n/2,cm (m+1),false)) (by dsimp only;omega) (by dsimp only;omega) rfl rfl))
    |refine zz ?_|refine zx (fun _=>?_) (fun _=>?_)|fail)
   show aC _ _ _ _ _ _ _ _;refine kV [] ?_
   rfl
theorem qs {n m:Int}(hn:0≤n∧n≤9000) (hm:0≤m∧m≤9000) {e:Ev}(he:FQ n m=e) {b:Bool}(hr:iO e=b) {HS:aj}(hb:Nat.blt HS.length Mem.bound=true):aH.Sound Tryz.prog ⟨76,[.one (.int .i64 n),.one (.int .i64 m)],HS,.tup [.agg (lA e),.one (.bool b)],HS,[]⟩:=by
 subst he hr
 exact aA (D4 n m hn hm) rfl rfl hb
theorem om {L:List Int} {B:List Bool}(h:cK L B) {p p':Nat} {e e':Bool} {v:Int}(hq:bT B (p,e)=(v,p',e')) {HS:aj} {i k:Nat}(hi:HS[i]? = some (br k L B p e)) (hk:HS[k]? = some (aM L)) (hd:i≠k) {HS':aj}(hh:HS.set i (br k L B p' e')=HS') (hbd:Nat.blt HS'.length Mem.bound=true) :
 aH.Sound Tryz.prog ⟨75,[.one (.ptr i 0)],HS,.one (.int .i64 v),HS',[i]⟩:=by
 have:=oo h (p,e) hi hk hd (HS':=HS') (by rw [hq];exact hh) hbd
 rw [hq]at this
 exact this
theorem f7 {L:List Int} {B:List Bool} {p q p' q':Nat} {e g e' g':Bool} {v v':Int}(h1:bT B (p,e)=(v,q,g)) (h2:bT B (p',e')=(v',q',g')) {f:FuncId} {a:List XV} {w:List Nat} {HS HS' K K':aj} {i k:Nat}(hi:HS[i]? = some (br k L B p e)) (hi':HS'[i]? = some (br k L B p' e')) (hK:HS.set i (br k L B q g)=K) (hK':HS'.set i (br k L B q' g')=K'):Compat ⟨f,a,HS,.one (.int .i64 v),K,w⟩ ⟨f,a,HS',.one (.int .i64 v'),K',w⟩:=fun _ _ h=>by
 have h:HS=HS':=h
 subst h
 rw [hi]at hi'
 have hp:(p:Int)=p'∧e=e':=by
  simp only [Option.some.injEq,ak.cells.injEq,List.cons.injEq,XC.int.injEq,XC.bool.injEq,true_and,and_true]at hi'
  exact hi'
 have hp1:p=p':=by omega
 obtain rfl:=hp1
 obtain rfl:=hp.2
 rw [h1]at h2
 cases h2
 exact⟨rfl,hK.symm.trans hK',rfl⟩
def nP (B:List Bool):Nat→Nat × Bool→List Ev→List Ev × (Nat × Bool)
 | 0,r,acc=>([],(r.1,true))
 | k+1,r,acc=>
   let n:=bT B r
   let m:=bT B n.2
   if m.2.2=true∨iO (FQ n.1 m.1)=false then([],(m.2.1,true))
   else if(FQ n.1 m.1).2.2=true then(acc++[FQ n.1 m.1],m.2)else nP B k m.2 (acc++[FQ n.1 m.1])
def jX (B:List Bool) (r:Nat × Bool):List Ev × (Nat × Bool):=nP B 64 r []
theorem DU {L:List Int} {B:List Bool}(h:cK L B) (r:Nat × Bool) :
 bn Tryz.prog 39 [.one (.ptr 0 0)] (RH L B r.1 r.2) (fS 2 (jX B r).1.length 3) [br 1 L B (jX B r).2.1 (jX B r).2.2,aM L,dc (jX B r).1]:=by
 refine cO Tryz.func39 ?_
 repeat' (first|refine zz ?_|refine zx (fun _=>?_) (fun _=>?_)|fail)
 refine WX.cW rfl ?_
 refine WX.cS (σ:=List Ev × (Nat × Bool)) (fun s=>[(3,fS 2 s.1.length 3),(0,.one (.ptr 0 0))]) (fun s=>[br 1 L B s.2.1 s.2.2,aM L,dc s.1]) (fun s=>s.1.length≤64∧nP B (64-s.1.length) s.2 s.1=jX B r) (fun s=>64-s.1.length) ([],r) ⟨Nat.zero_le _,rfl⟩ (fun s _=>j5) (bh [0,1,2]) ?_
 intro s ⟨h1,h2⟩ ih
 by_cases h64:s.1.length<64
 · obtain ⟨k,hk⟩:∃ k,64-s.1.length=k+1:=⟨63-s.1.length,by omega⟩
   rw [hk,nP]at h2
   obtain⟨v1,p1,b1,hq1⟩:∃ v p b,bT B (s.2.1,s.2.2)=(v,p,b):=⟨_,_,_,rfl⟩
   obtain⟨v2,p2,b2,hq2⟩:∃ v p b,bT B (p1,b1)=(v,p,b):=⟨_,_,_,rfl⟩
   obtain⟨e,he⟩:∃ e,FQ v1 v2=e:=⟨_,rfl⟩
   have g1:=m8 B (s.2.1,s.2.2)
   have g2:=m8 B (p1,b1)
   rw [hq1]at g1
   rw [hq2]at g2
   have h2':(if b2=true∨iO e=false then([],(p2,true))else if e.2.2=true then(s.1++[e],(p2,b2))else nP B k (p2,b2) (s.1++[e]))=jX B r:=by
    rw [←h2,show bT B s.2=(v1,p1,b1)from hq1]
    dsimp only
    rw [hq2]
    dsimp only
    rw [he]
   obtain⟨R,hR⟩:∃ R,iO e=R:=⟨_,rfl⟩
   rw [hR]at h2'
   cases b2 with
   | true=>
     rw [if_pos (.inl rfl)]at h2'
     rw [←h2']
     repeat' (first
      |(refine qz ?_;first
       |refine cl ?_ (hi:=by exact om h hq1 rfl rfl (by decide) rfl rfl)
       |refine cl ?_ (hi:=by exact om h hq2 rfl rfl (by decide) rfl rfl)
       |refine cl ?_ (hi:=by exact qs (by dsimp only at g1;omega) (by dsimp only at g2;omega) he hR rfl)
       |refine cl ?_ (hi:=by exact gB rfl rfl (by decide) rfl)
       |refine cl ?_ (hi:=by exact gj rfl rfl (by decide) rfl rfl))
      |refine zz ?_|refine zx (fun _=>?_) (fun _=>?_)|refine bq (by first|exact ag.nil|exact ag.one _|exact ag.lI (by repeat' (first|exact True.intro|refine And.intro ?_ ?_|exact Compat.ne rfl|exact f7 hq2 hq1 rfl rfl rfl rfl))) ⟨by kernel_rfl,?_⟩|refine bq (by first|exact ag.nil|exact ag.one _|exact ag.lI (by repeat' (first|exact True.intro|refine And.intro ?_ ?_|exact Compat.ne rfl|exact f7 hq2 hq1 rfl rfl rfl rfl))) ?_|fail)
     show aC _ _ _ _ _ _ _ _;refine kV [0,1,2] ?_
     rfl
   | false =>
     cases R with
     | false=>
       rw [if_pos (.inr rfl)]at h2'
       rw [←h2']
       repeat' (first
        |(refine qz ?_;first
         |refine cl ?_ (hi:=by exact om h hq1 rfl rfl (by decide) rfl rfl)
         |refine cl ?_ (hi:=by exact om h hq2 rfl rfl (by decide) rfl rfl)
         |refine cl ?_ (hi:=by exact qs (by dsimp only at g1;omega) (by dsimp only at g2;omega) he hR rfl)
         |refine cl ?_ (hi:=by exact gB rfl rfl (by decide) rfl)
         |refine cl ?_ (hi:=by exact gj rfl rfl (by decide) rfl rfl))
        |refine zz ?_|refine zx (fun _=>?_) (fun _=>?_)|refine bq (by first|exact ag.nil|exact ag.one _|exact ag.lI (by repeat' (first|exact True.intro|refine And.intro ?_ ?_|exact Compat.ne rfl|exact f7 hq2 hq1 rfl rfl rfl rfl))) ⟨by kernel_rfl,?_⟩|refine bq (by first|exact ag.nil|exact ag.one _|exact ag.lI (by repeat' (first|exact True.intro|refine And.intro ?_ ?_|exact Compat.ne rfl|exact f7 hq2 hq1 rfl rfl rfl rfl))) ?_|fail)
       show aC _ _ _ _ _ _ _ _;refine kV [0,1,2] ?_
       rfl
     | true=>
       rw [if_neg (by simp)]at h2'
       obtain⟨lb,hlb⟩:∃ b,e.2.2=b:=⟨_,rfl⟩
       have hb2:(lA e)[2]? = some (.bool lb):=by rw [←hlb];rfl
       rw [hlb]at h2'
       cases lb with
       | true=>
         rw [if_pos rfl]at h2'
         rw [←h2']
         repeat' (first
          |(refine qz ?_;first
           |refine cl ?_ (hi:=by exact om h hq1 rfl rfl (by decide) rfl rfl)
           |refine cl ?_ (hi:=by exact om h hq2 rfl rfl (by decide) rfl rfl)
           |refine cl ?_ (hi:=by exact qs (by dsimp only at g1;omega) (by dsimp only at g2;omega) he hR rfl)
           |refine cl ?_ (hi:=by exact gB rfl rfl (by decide) rfl)
           |refine cl ?_ (hi:=by exact gj rfl rfl (by decide) rfl rfl)
           |refine ld (hc:=hb2) ?_
           |refine pf (enc:=lA) (a:=e) ?_
           |refine tg (enc:=lA) ?_)
          |refine zz ?_|refine zx (fun _=>?_) (fun _=>?_)|refine bq (by first|exact ag.nil|exact ag.one _|exact ag.lI (by repeat' (first|exact True.intro|refine And.intro ?_ ?_|exact Compat.ne rfl|exact f7 hq2 hq1 rfl rfl rfl rfl))) ⟨by kernel_rfl,?_⟩|refine bq (by first|exact ag.nil|exact ag.one _|exact ag.lI (by repeat' (first|exact True.intro|refine And.intro ?_ ?_|exact Compat.ne rfl|exact f7 hq2 hq1 rfl rfl rfl rfl))) ?_|fail)
         show aC _ _ _ _ _ _ _ _;refine kV [0,1,5] ?_
         rw [cY,show((s.1++[e],((p2,false):Nat × Bool)).1).length=s.1.length+1 by simp];rfl
       | false=>
         rw [if_neg (by decide)]at h2'
         repeat' (first
          |(refine qz ?_;first
           |refine cl ?_ (hi:=by exact om h hq1 rfl rfl (by decide) rfl rfl)
           |refine cl ?_ (hi:=by exact om h hq2 rfl rfl (by decide) rfl rfl)
           |refine cl ?_ (hi:=by exact qs (by dsimp only at g1;omega) (by dsimp only at g2;omega) he hR rfl)
           |refine cl ?_ (hi:=by exact gB rfl rfl (by decide) rfl)
           |refine cl ?_ (hi:=by exact gj rfl rfl (by decide) rfl rfl)
           |refine ld (hc:=hb2) ?_
           |refine pf (enc:=lA) (a:=e) ?_
           |refine tg (enc:=lA) ?_)
          |refine zz ?_|refine zx (fun _=>?_) (fun _=>?_)|refine bq (by first|exact ag.nil|exact ag.one _|exact ag.lI (by repeat' (first|exact True.intro|refine And.intro ?_ ?_|exact Compat.ne rfl|exact f7 hq2 hq1 rfl rfl rfl rfl))) ⟨by kernel_rfl,?_⟩|refine bq (by first|exact ag.nil|exact ag.one _|exact ag.lI (by repeat' (first|exact True.intro|refine And.intro ?_ ?_|exact Compat.ne rfl|exact f7 hq2 hq1 rfl rfl rfl rfl))) ?_|fail)
         refine ih (s.1++[e],(p2,false)) _ _ _ (bh [0,1,5] (obj:=by(repeat' (first|exact ae.nil|refine ae.flat (by rw [List.length_append];rfl) ?_|refine ae.flat rfl ?_|refine ae.cons rfl ?_|refine ae.dead rfl ?_|refine ae.cons (by simp only [ak.ay,List.map_cons,List.map_nil,XC.ay,aw];exact rfl) ?_));first|done|fail)) ⟨by simp;omega,by
          show nP B (64-(s.1++[e]).length) (p2,false) (s.1++[e])=_
          rw [show 64-(s.1++[e]).length=k by simp;omega];exact h2'⟩ (by simp;omega)
 · have e0:64-s.1.length=0:=by omega
   rw [e0,nP]at h2
   rw [←h2]
   repeat' (first
    |(refine qz ?_;first
     |refine cl ?_ (hi:=by exact gj rfl rfl (by decide) rfl rfl))
    |refine zz ?_|refine zx (fun _=>?_) (fun _=>?_)|fail)
   show aC _ _ _ _ _ _ _ _;refine kV [0,1,2] ?_
   rfl
theorem yM {L:List Int} {B:List Bool}(h:cK L B) {p:Nat} {e:Bool} {l:List Ev} {p':Nat} {e':Bool}(hq:jX B (p,e)=(l,p',e')) {HS:aj} {i k:Nat}(hi:HS[i]? = some (br k L B p e)) (hk:HS[k]? = some (aM L)) (hd:i≠k) {N:Nat}(hN:HS.length=N) {HS':aj}(hh:HS.set i (br k L B p' e')++[dc l]=HS') (hbd:Nat.blt HS'.length Mem.bound=true) :
 aH.Sound Tryz.prog ⟨39,[.one (.ptr i 0)],HS,fS N l.length 3,HS',[i]⟩:=by
 subst hN
 have hc:=DU h (p,e)
 rw [hq]at hc
 have hh':bG HS [i,k] [br k L B p' e',aM L,dc l]=HS':=by
  show(HS.set i (br k L B p' e')).set k (aM L)++[dc l]=HS'
  rw [aG (l:=HS.set i (br k L B p' e')) (by rw [List.getElem?_set_ne hd];exact hk)]
  exact hh
 refine bV (os:=[br k L B p' e',aM L,dc l]) [i,k] [i] 1 hc (by simp [hd]) ?_ ?_ ?_ rfl (.cons (by simp [XV.b7,XC.ok]) .nil) (.cons rfl .nil) (ff (Nat.le_of_ble_eq_true rfl)) (cY ..) ?_ ?_ rfl hh' hbd (.inr fun j hj hjn=>?_)
 · exact .cons hi (.flat hk .nil)
 · exact .cons (by simp [ak.b7,XC.ok]) (.flat .nil)
 · exact .cons (by simp [ak.b7,XC.ok]) (.flat (.flat .nil))
 · exact .cons rfl (.flat (.flat .nil))
 · unfold dc
   cases fl lA l <;> rfl
 · subst hh
   rw [List.getElem?_append_left (by rw [List.length_set];exact hj),List.getElem?_set,if_neg (fun h=>hjn (by rw [h];exact List.mem_singleton.2 rfl))]
end Go.Proofs.YtagpkhindehcbaaGreat
namespace Go.Proofs.YtagpkhindehcbaaGreat
open Go.Xm
variable [az]
structure bC where
 id:Int
 inter:Bool
 down:Bool
 hqp:Int
 qp:Int
 cols:Int
 rows:Int
 M:fZ
 A:nF
 B:nF
 C:nF
abbrev du (S:bC):ak := .cells [.ptr 3 0,.int .i64 S.id,.bool S.inter,.bool S.down,.int .i64 S.hqp,.int .i64 S.qp,.ptr 16 0,.ptr 18 0] 97 false false
abbrev dI (S:bC):aj:=[du S,bM 4 8 12,ax 5 6 7 cM,aU cM,aW cM,aV cM,ax 9 10 11 cZ,aU cZ,aW cZ,aV cZ,ax 13 14 15 cP,aU cP,aW cP,aV cP,
 cg 17 S.cols S.rows,.map (bg S.M),.cells [.int .i64 S.cols,.int .i64 S.rows,.map 19,.map 20,.map 21] 171 false false,.map (ah S.A),.map (ah S.B),.map (ah S.C)]
instance K7 (M:nF):cI (.map (ah M)):=t6 (fun _=>rfl) (fun b=>show X1.shut (.agg (dB b))=true from bp b) M
abbrev bL:List Nat:=[2,3,4,5,6,7,8,9,10,11,12,13,14,15,16,17,18,19,20,21]
theorem gp (S:bC) (n:Nat) (h:22≤n) {l:aj}(hl:bl n l):bl n (dI S++l):=by
 have k:∀ j,j<22→j<n:=fun j hj=>by omega
 refine .cons ?_ (.cons ?_ (.cons ?_ (.flat (.flat (.flat (.cons ?_ (.flat (.flat (.flat (.cons ?_ (.flat (.flat (.flat (.cons ?_ (.flat (.cons ?_ (.flat (.flat (.flat hl)))))))))))))))))))
 all_goals simp [ak.b7,XC.ok];omega
theorem qW (S:bC) {τ : Nat→Nat}(h:∀ j,2≤j→j<22 → τ j=j) {l l':aj}(hl:da τ l l'):da τ (dI S++l) (dI S++l'):=by
 have h3:=h 3 (by omega) (by omega)
 have h4:=h 4 (by omega) (by omega)
 have h5:=h 5 (by omega) (by omega)
 have h6:=h 6 (by omega) (by omega)
 have h7:=h 7 (by omega) (by omega)
 have h8:=h 8 (by omega) (by omega)
 have h9:=h 9 (by omega) (by omega)
 have h10:=h 10 (by omega) (by omega)
 have h11:=h 11 (by omega) (by omega)
 have h12:=h 12 (by omega) (by omega)
 have h13:=h 13 (by omega) (by omega)
 have h14:=h 14 (by omega) (by omega)
 have h15:=h 15 (by omega) (by omega)
 have h16:=h 16 (by omega) (by omega)
 have h17:=h 17 (by omega) (by omega)
 have h18:=h 18 (by omega) (by omega)
 have h19:=h 19 (by omega) (by omega)
 have h20:=h 20 (by omega) (by omega)
 have h21:=h 21 (by omega) (by omega)
 refine .cons ?_ (.cons ?_ (.cons ?_ (.flat (.flat (.flat (.cons ?_ (.flat (.flat (.flat (.cons ?_ (.flat (.flat (.flat (.cons ?_ (.flat (.cons ?_ (.flat (.flat (.flat hl)))))))))))))))))))
 all_goals simp only [ak.ay,List.map_cons,List.map_nil,XC.ay, *]
theorem o3 (S:bC) {τ : Nat→Nat} {HS:aj}(h:∀ j,2≤j→j<22 → τ j=j) (hS:(HS.drop 2).take 20=dI S) {ls:List Nat} {l:aj}(hl:ae τ HS ls l):ae τ HS (bL++ls) (dI S++l):=by
 have g:∀ j,j<20→HS[j+2]? = (dI S)[j]?:=fun j hj=>by
  rw [←hS,List.getElem?_take,if_pos hj,List.getElem?_drop]
  congr 1
  omega
 have h3:=h 3 (by omega) (by omega)
 have h4:=h 4 (by omega) (by omega)
 have h5:=h 5 (by omega) (by omega)
 have h6:=h 6 (by omega) (by omega)
 have h7:=h 7 (by omega) (by omega)
 have h8:=h 8 (by omega) (by omega)
 have h9:=h 9 (by omega) (by omega)
 have h10:=h 10 (by omega) (by omega)
 have h11:=h 11 (by omega) (by omega)
 have h12:=h 12 (by omega) (by omega)
 have h13:=h 13 (by omega) (by omega)
 have h14:=h 14 (by omega) (by omega)
 have h15:=h 15 (by omega) (by omega)
 have h16:=h 16 (by omega) (by omega)
 have h17:=h 17 (by omega) (by omega)
 have h18:=h 18 (by omega) (by omega)
 have h19:=h 19 (by omega) (by omega)
 have h20:=h 20 (by omega) (by omega)
 have h21:=h 21 (by omega) (by omega)
 refine .cons ?_ (.cons ?_ (.cons ?_ (.flat (g 3 (by omega)) (.flat (g 4 (by omega)) (.flat (g 5 (by omega)) (.cons ?_ (.flat (g 7 (by omega)) (.flat (g 8 (by omega)) (.flat (g 9 (by omega)) (.cons ?_ (.flat (g 11 (by omega)) (.flat (g 12 (by omega)) (.flat (g 13 (by omega)) (.cons ?_ (.flat (g 15 (by omega)) (.cons ?_ (.flat (g 17 (by omega)) (.flat (g 18 (by omega)) (.flat (g 19 (by omega)) hl)))))))))))))))))))
 · rw [g 0 (by omega)];simp only [ak.ay,List.map_cons,List.map_nil,XC.ay, *];rfl
 · rw [g 1 (by omega)];simp only [ak.ay,List.map_cons,List.map_nil,XC.ay, *];rfl
 · rw [g 2 (by omega)];simp only [ak.ay,List.map_cons,List.map_nil,XC.ay, *];rfl
 · rw [g 6 (by omega)];simp only [ak.ay,List.map_cons,List.map_nil,XC.ay, *];rfl
 · rw [g 10 (by omega)];simp only [ak.ay,List.map_cons,List.map_nil,XC.ay, *];rfl
 · rw [g 14 (by omega)];simp only [ak.ay,List.map_cons,List.map_nil,XC.ay, *];rfl
 · rw [g 16 (by omega)];simp only [ak.ay,List.map_cons,List.map_nil,XC.ay, *];rfl
theorem KH (a b:List XC) (e e' e2:TypeId) (cs ds:List XC) (S S':bC):dP (.cells a e false false::b8 e' cs::dI S) (.cells b e false false :: .dead::(dI S'++[b8 e2 ds]))=true:=by
 cases cs <;> cases ds <;> simp [dP,ak.live,ak.own,b8]
theorem LU {f:FuncId} {more:List XV}(hm:∀ τ,dF τ more more) (hmo:eV 22 more) {v:XV} [bz v] {bs bs':List Bool} {S S':bC}(hc:bn Tryz.prog f (.one (.ptr 2 0) :: .one (.ptr 0 0)::more) (aP 1 bs::aq bs::dI S) v (aP 22 bs' :: .dead::(dI S'++[aq bs'])))
 {HS:aj} {k:Nat}(hi:HS[0]? = some (aP k bs)) (hk:HS[k]? = some (aq bs)) (hS:(HS.drop 2).take 20=dI S) (hd:(k == 1 || Nat.ble 22 k)=true) {N:Nat}(hN:HS.length=N) {HS':aj}(hh:bG HS (0::k::bL) (aP N bs' :: .dead::(dI S'++[aq bs']))=HS') (hbd:Nat.blt HS'.length Mem.bound=true) :
 aH.Sound Tryz.prog ⟨f,.one (.ptr 2 0) :: .one (.ptr 0 0)::more,HS,v,HS',0::k::bL⟩:=by
 subst hN
 have hkk:k=1∨22≤k:=by simpa [Nat.ble_eq]using hd
 have h0:0∉bL:=by decide
 have hk':k∉bL:=by
  intro h
  simp only [bL,List.mem_cons,List.not_mem_nil,or_false]at h
  omega
 have nd:(0::k::bL).Nodup:=List.nodup_cons.2 ⟨fun h=>(List.mem_cons.1 h).elim (fun e=>by omega) h0,List.nodup_cons.2 ⟨hk',by decide⟩⟩
 have hq:∀ q:Fin 20,bL[q.val]? = some (q.val+2):=by decide
 have ht:∀ j,2≤j→j<22→nth (0::k::bL) j=j:=fun j h1 h2=>by
  obtain⟨q,rfl⟩:∃ q,j=q+2:=⟨j-2,by omega⟩
  have:=hq ⟨q,by omega⟩
  unfold nth
  rw [List.getD_eq_getElem?_getD]
  simp only [List.getElem?_cons_succ]
  rw [this];rfl
 have ht':∀ j,2≤j→j<22→nth ((0::k::bL)++List.range' HS.length 1) j=j:=fun j h1 h2=>by
  obtain⟨q,rfl⟩:∃ q,j=q+2:=⟨j-2,by omega⟩
  have:=hq ⟨q,by omega⟩
  unfold nth
  rw [List.getD_eq_getElem?_getD]
  show((bL++List.range' HS.length 1)[q]?).getD 0=q+2
  rw [List.getElem?_append_left (show q<bL.length by show q<20;omega),this];rfl
 have hv:=o3 S ht hS (ls:=[]) .nil
 rw [List.append_nil,List.append_nil]at hv
 have ho:=gp S 22 (Nat.le_refl _) (l:=[]) .nil
 rw [List.append_nil]at ho
 refine bV (0::k::bL) (0::k::bL) 1 hc nd (ae.ed hi rfl rfl rfl (.flat hk hv)) (.cons (by simp [ak.b7,XC.ok,bc]) (.flat ho)) (.cons (by simp [ak.b7,XC.ok,bc]) (.flat (gp S' 23 (by omega) (.flat .nil)))) rfl (.cons (by show 2<22;omega) (.cons (by show 0<22;omega) hmo)) (.cons rfl (.cons rfl (hm _))) (bz.ok _) (bz.ay _) ?_ (KH ..) rfl hh hbd (.inl rfl)
 exact .cons (by simp only [ak.ay,List.map_cons,List.map_nil,XC.ay,aw];rfl) (.flat (qW S' ht' (.flat .nil)))
def bK (n:Int):Nat:=bitLen (max n (-n)).toNat
def aX (n:Int):List Bool:=db cZ (bK n)++ej (if n<0 then n+(1*2^bK n-1)else n) (bK n)
theorem vV (n:Nat):n<2^bitLen n:=by
 unfold bitLen
 split
 · rename_i h;rw [h];decide
 · exact Nat.lt_log2_self
theorem j7 {C:Cd}(hC:u_ C) (n:Nat):(db C n).length≤64:=by
 unfold db
 have:=hC.sz n
 have h:∀(x:Int) (k:Nat),(ej x k).length=k:=fun x k=>gi x k
 rw [h];omega
theorem tv {n:Int}(h : -4000≤n∧n≤4000):bK n≤12:=lN (by omega)
theorem Gt (bs:List Bool) (S:bC) (n:Int) (hn : -4000≤n∧n≤4000) (hb:bs.length≤800000) :
 bn Tryz.prog 89 [.one (.ptr 2 0),.one (.ptr 0 0),.one (.int .i64 n)] [aP 1 bs,aq bs,du (S),bM 4 8 12,ax 5 6 7 cM,aU cM,aW cM,aV cM,ax 9 10 11 cZ,aU cZ,aW cZ,aV cZ,ax 13 14 15 cP,aU cP,aW cP,aV cP,cg 17 (S).cols (S).rows,.map (bg (S).M),.cells [.int .i64 (S).cols,.int .i64 (S).rows,.map 19,.map 20,.map 21] 171 false false,.map (ah (S).A),.map (ah (S).B),.map (ah (S).C)] (.tup []) [aP 22 (bs++aX n),.dead,du (S),bM 4 8 12,ax 5 6 7 cM,aU cM,aW cM,aV cM,ax 9 10 11 cZ,aU cZ,aW cZ,aV cZ,ax 13 14 15 cP,aU cP,aW cP,aV cP,cg 17 (S).cols (S).rows,.map (bg (S).M),.cells [.int .i64 (S).cols,.int .i64 (S).rows,.map 19,.map 20,.map 21] 171 false false,.map (ah (S).A),.map (ah (S).B),.map (ah (S).C),aq (bs++aX n)]:=by
 have hm:max n (0-n)=max n (-n):=by rw [Int.zero_sub]
 have hl:=tv hn
 have hlt:=vV (max n (-n)).toNat
 have hl2:qD (max n (0-n)).toNat=(bK n:Nat):=by rw [hm];rfl
 have hc:=j7 yP (bK n)
 have hpow:(2:Int)^bK n≤4096:=by
  have:=Nat.pow_le_pow_right (show 0<2 by decide) hl
  have h2:((2^bK n:Nat):Int)≤((2^12:Nat):Int):=Int.ofNat_le.2 this
  rw [Int.natCast_pow]at h2
  exact h2
 have hpl : -n<(2:Int)^bK n∧n<(2:Int)^bK n:=by
  have h2:(((max n (-n)).toNat:Nat):Int)<((2^bK n:Nat):Int):=Int.ofNat_lt.2 hlt
  rw [Int.natCast_pow]at h2
  have h3:((2:Nat):Int)^bK n=(2:Int)^bK n:=rfl
  rw [h3]at h2
  omega
 have h1:(1:Int)*2^bK n=2^bK n:=Int.one_mul _
 have e0:bs++aX n=(bs++db cZ (bK n))++ej (if n<0 then n+(1*2^bK n-1)else n) (bK n):=by rw [aX,List.append_assoc]
 rw [e0]
 refine cO Tryz.func89 ?_
 by_cases h0:n<0
 · rw [if_pos h0]
   repeat' (first
    |(refine qz ?_;first
     |refine O7 ?_
     |refine cl (v := .one (.int .i64 (bK n:Nat))) ?_ (hi:=by rw [←hl2];exact Bj (by omega) rfl)
     |refine cl ?_ (hi:=by exact qn (C:=cZ) yP (n:=bK n) rfl (by show bK n<13;omega) (bs:=bs) (by omega) rfl rfl rfl rfl rfl rfl (by decide) nL nA rfl)
     |refine AH (n:=bK n) ?_ (h:=⟨by show bK n≤64;omega,by show _∧_;omega⟩)
     |refine cl ?_ (hi:=by exact h_ (n:=n+(1*2^bK n-1)) (size:=bK n) rfl (bs:=bs++db cZ (bK n)) (by omega) (by omega) (by rw [List.length_append];omega) rfl rfl (by decide) nL nA rfl))
    |refine zz ?_|refine zx (fun _=>?_) (fun _=>?_)|fail)
   show aC _ _ _ _ _ _ _ _;refine kV [0,1,2,3,4,5,6,7,8,9,10,11,12,13,14,15,16,17,18,19,20,21,23] ?_
   rfl
 · rw [if_neg h0]
   repeat' (first
    |(refine qz ?_;first
     |refine O7 ?_
     |refine cl (v := .one (.int .i64 (bK n:Nat))) ?_ (hi:=by rw [←hl2];exact Bj (by omega) rfl)
     |refine cl ?_ (hi:=by exact qn (C:=cZ) yP (n:=bK n) rfl (by show bK n<13;omega) (bs:=bs) (by omega) rfl rfl rfl rfl rfl rfl (by decide) nL nA rfl)
     |refine cl ?_ (hi:=by exact h_ (n:=n) (size:=bK n) rfl (bs:=bs++db cZ (bK n)) (by omega) (by omega) (by rw [List.length_append];omega) rfl rfl (by decide) nL nA rfl))
    |refine zz ?_|refine zx (fun _=>?_) (fun _=>?_)|fail)
   show aC _ _ _ _ _ _ _ _;refine kV [0,1,2,3,4,5,6,7,8,9,10,11,12,13,14,15,16,17,18,19,20,21,23] ?_
   rfl
theorem DZ {n:Int}(h : -4000≤n∧n≤4000):(aX n).length≤76:=by
 unfold aX
 have:=j7 yP (bK n)
 have:=tv h
 rw [List.length_append,gi];omega
theorem JH {bs:List Bool} {S:bC} {n:Int}(hn : -4000≤n∧n≤4000) (hb:bs.length≤800000) {HS:aj} {k:Nat}(hi:HS[0]? = some (aP k bs)) (hk:HS[k]? = some (aq bs)) (hS:(HS.drop 2).take 20=dI S) (hd:(k == 1 || Nat.ble 22 k)=true) {N:Nat}(hN:HS.length=N) {HS':aj}(hh:bG HS (0::k::bL) (aP N (bs++aX n) :: .dead::(dI S++[aq (bs++aX n)]))=HS') (hbd:Nat.blt HS'.length Mem.bound=true) :
 aH.Sound Tryz.prog ⟨89,[.one (.ptr 2 0),.one (.ptr 0 0),.one (.int .i64 n)],HS,.tup [],HS',0::k::bL⟩:=
 LU (fun _ => .flat .nil) (.flat .nil) (Gt bs S n hn hb) hi hk hS hd hN hh hbd
end Go.Proofs.YtagpkhindehcbaaGreat
namespace Go.Proofs.YtagpkhindehcbaaGreat
open Go.Xm
variable [az]
def kA (B:List Bool):Nat→Int→Nat × Bool→Int × (Nat × Bool)
 | 0,x,r=>(x,r)
 | n+1,x,r=>kA B n (2*x+b2 (dH B r)) (bY B r)
def bZ (B:List Bool) (n:Nat) (r:Nat × Bool):Int × (Nat × Bool):=(if(kA B n 0 r).2.2=true then 0 else(kA B n 0 r).1,(kA B n 0 r).2)
theorem uj {j:Nat}(h:j≤32):(2:Int)^j≤4294967296:=by
 have h1:=Nat.pow_le_pow_right (show 0<2 by decide) h
 have h2:((2^j:Nat):Int)≤((2^32:Nat):Int):=Int.ofNat_le.2 h1
 rw [Int.natCast_pow]at h2
 exact h2
theorem EE {L:List Int} {B:List Bool}(h:cK L B) (r:Nat × Bool) (n:Nat) (hn:n≤32) :
 bn Tryz.prog 65 [.one (.ptr 0 0),.one (.int .i64 (n:Nat))] (RH L B r.1 r.2) (.one (.int .u64 (bZ B n r).1)) (RH L B (bZ B n r).2.1 (bZ B n r).2.2):=by
 obtain⟨q,hq⟩:∃ q,kA B n 0 r=q:=⟨_,rfl⟩
 unfold bZ
 rw [hq]
 refine cO Tryz.func65 ?_
 repeat' (first|refine zz ?_|refine zx (fun _=>?_) (fun _=>?_)|fail)
 refine WX.cS (σ:=Nat × Int × (Nat × Bool)) (fun s=>[(8,.one (.int .i64 (s.1:Nat))),(5,.one (.int .u64 s.2.1)),(0,.one (.ptr 0 0)),(7,.one (.int .i64 (n:Nat)))]) (fun s=>RH L B s.2.2.1 s.2.2.2) (fun s=>s.1≤n∧0≤s.2.1∧s.2.1<2^s.1∧kA B (n-s.1) s.2.1 s.2.2=q) (fun s=>n-s.1) (0,0,r) ⟨by show 0≤n;omega,by show(0:Int)≤0;omega,by show(0:Int)<2^0;decide,by show kA B (n-0) 0 r=q;rw [Nat.sub_zero];exact hq⟩ (fun s _=>j5) (bh [0,1]) ?_
 intro s ⟨h1,h2,h3,h4⟩ ih
 have hp:=uj (j:=s.1) (by omega)
 by_cases hlt:s.1<n
 · have hb:=yG (dH B s.2.2)
   have hio:CM .u64 (s.2.1*2^1) (b2 (dH B s.2.2))=2*s.2.1+b2 (dH B s.2.2):=zb .u64 rfl h2 (by omega) hb (fun y g0 g1=>f_ (k := .u64) ⟨by show 0≤y;omega,by show y<18446744073709551616;omega⟩)
   obtain⟨k,hk⟩:∃ k,n-s.1=k+1:=⟨n-s.1-1,by omega⟩
   rw [hk,kA]at h4
   repeat' (first
    |(refine qz ?_;first
     |refine AH (n:=1) ?_
     |refine cl ?_ (hi:=by exact qN h s.2.2 rfl rfl rfl (by decide) nL rfl))
    |refine zz ?_|refine zx (fun _=>?_) (fun _=>?_)|fail)
   refine ih (s.1+1,2*s.2.1+b2 (dH B s.2.2),bY B s.2.2) _ _ _ (bh [0,1] (reg:=by(repeat' (first|exact af.nil|refine af.flat (by rw [←hio];rfl) ?_|refine af.flat rfl ?_|refine af.cons rfl ?_|refine af.sl rfl (by assumption) rfl ?_|refine af.dY rfl rfl (by first|rfl|omega|(simp;done)|(simp;omega)) ?_));first|done|fail)) ⟨by show s.1+1≤n;omega,by show 0≤2*s.2.1+b2 (dH B s.2.2);omega,?_,?_⟩ (by show n-(s.1+1)<n-s.1;omega)
   · show 2*s.2.1+b2 (dH B s.2.2)<2^(s.1+1)
     rw [Int.pow_succ];omega
   · show kA B (n-(s.1+1)) (2*s.2.1+b2 (dH B s.2.2)) (bY B s.2.2)=q
     rw [show n-(s.1+1)=k by omega];exact h4
 · have e0:n-s.1=0:=by omega
   rw [e0,kA]at h4
   subst h4
   repeat' (first
    |(refine qz ?_;first
     |refine tn (fun ge=>?_) (fun ge=>?_) (hi:=by exact gB rfl rfl (by decide) rfl))
    |refine zz ?_|refine zx (fun _=>?_) (fun _=>?_)|fail)
   · rw [if_pos ge]
     show aC _ _ _ _ _ _ _ _;refine kV [0,1] ?_
     rfl
   · rw [if_neg (by rw [ge];decide)]
     show aC _ _ _ _ _ _ _ _;refine kV [0,1] ?_
     rfl
theorem qO {L:List Int} {B:List Bool}(h:cK L B) (r:Nat × Bool) {n:Nat} {z:Int}(hz:z=(n:Nat)) (hn:n≤32) {HS:aj} {i k:Nat}(hi:HS[i]? = some (br k L B r.1 r.2)) (hk:HS[k]? = some (aM L)) (hd:i≠k) {HS':aj}(hh:HS.set i (br k L B (bZ B n r).2.1 (bZ B n r).2.2)=HS') (hbd:Nat.blt HS'.length Mem.bound=true) :
 aH.Sound Tryz.prog ⟨65,[.one (.ptr i 0),.one (.int .i64 z)],HS,.one (.int .u64 (bZ B n r).1),HS',[i]⟩:=by
 subst hz
 exact zI (fun _ => .flat .nil) (.flat .nil) (EE h r n hn) hi hk hd hh hbd
end Go.Proofs.YtagpkhindehcbaaGreat
namespace Go.Proofs.YtagpkhindehcbaaGreat
open Go.Xm
variable [az]
theorem wb (n:Int):∀(k:Nat) (x:Int) (pre rest:List Bool),kA (pre++(ej n k++rest)) k x (pre.length,false)=(x*2^k+n%2^k,(pre.length+k,false))
 | 0,x,pre,rest=>by simp [kA]
 | k + 1,x,pre,rest=>by
   rw [kA,ej]
   obtain⟨a1,a2⟩:=p5 pre (decide (n/2^k%2=1)) (ej n k++rest)
   rw [List.cons_append,a1,a2]
   have e1:pre++(decide (n/2^k%2=1)::(ej n k++rest))=(pre++[decide (n/2^k%2=1)])++(ej n k++rest):=by simp
   have e2:(pre.length+1,false)=((pre++[decide (n/2^k%2=1)]).length,false):=by simp
   rw [e1,e2,wb n k]
   have h2:(0:Int)<2^k:=Int.pow_pos (by decide)
   have hm:n%2^(k+1)=(n/2^k%2)*2^k+n%2^k:=by
    rw [Int.pow_succ]
    have h3:=Int.emod_add_mul_ediv n (2^k)
    have h4:=Int.emod_add_mul_ediv (n/2^k) 2
    have h5:=Int.emod_nonneg n (show(2:Int)^k≠0 by omega)
    have h6:=Int.emod_lt_of_pos n h2
    have h7:0≤n/2^k%2∧n/2^k%2≤1:=by omega
    have h8:n=(2^k*2)*(n/2^k/2)+((n/2^k%2)*2^k+n%2^k):=by
     have:2^k*(n/2^k)=2^k*(n/2^k%2)+2^k*(2*(n/2^k/2)):=by rw [←Int.mul_add,h4]
     have e:2^k*(2*(n/2^k/2))=(2^k*2)*(n/2^k/2):=by rw [Int.mul_assoc]
     have e':2^k*(n/2^k%2)=(n/2^k%2)*2^k:=Int.mul_comm _ _
     omega
    have h9:0≤(n/2^k%2)*2^k+n%2^k∧(n/2^k%2)*2^k+n%2^k<2^k*2:=by
     rcases(show n/2^k%2=0∨n/2^k%2=1 by omega)with e|e <;> rw [e] <;> omega
    have h10:=Int.emod_eq_of_lt h9.1 h9.2
    rw [←h10]
    conv=>lhs;rw [h8,Int.add_comm,Int.add_mul_emod_self_left]
   have hb:b2 (decide (n/2^k%2=1))=n/2^k%2:=by
    unfold b2
    by_cases h:n/2^k%2=1
    · rw [decide_eq_true h,h];rfl
    · rw [decide_eq_false h]
      have:n/2^k%2=0:=by omega
      rw [this];rfl
   rw [hb,hm]
   refine Prod.ext ?_ ?_
   · show(2*x+n/2^k%2)*2^k+n%2^k=x*2^(k+1)+(n/2^k%2*2^k+n%2^k)
     rw [Int.pow_succ,Int.add_mul]
     have:2*x*2^k=x*(2^k*2):=by rw [Int.mul_comm 2 x,Int.mul_assoc,Int.mul_comm 2 (2^k)]
     omega
   · show((pre++[_]).length+k,false)=(pre.length+(k+1),false)
     simp;omega
theorem vF {n:Int} {k:Nat}(hn:0≤n∧n<2^k) (pre rest:List Bool):bZ (pre++(ej n k++rest)) k (pre.length,false)=(n,(pre.length+k,false)):=by
 unfold bZ
 rw [wb]
 simp only [Bool.false_eq_true,if_false,Int.zero_mul,Int.zero_add,Int.emod_eq_of_lt hn.1 hn.2]
def wM (C:Cd):List Bool→Int→Option Int
 | [],_=>none
 | b::w,x=>
   if C.T.getD (x.toNat*2+(b2 b%2^1).toNat) 0=0 then none
   else if C.T.getD (x.toNat*2+(b2 b%2^1).toNat) 0<0 then(if w = []then some (-1-C.T.getD (x.toNat*2+(b2 b%2^1).toNat) 0)else none)
   else wM C w (C.T.getD (x.toNat*2+(b2 b%2^1).toNat) 0)
theorem o7 (C:Cd):∀(w:List Bool) (x n:Int) (f:Nat) (pre rest:List Bool),wM C w x=some n→w.length≤f→tu C (pre++(w++rest)) f x (pre.length,false)=(n,(pre.length+w.length,false))
 | [],x,n,f,pre,rest,h,_=>by cases h
 | b::w,x,n,0,pre,rest,h,hf=>by simp at hf
 | b :: w,x,n,f+1,pre,rest,h,hf=>by
   rw [tu,List.cons_append]
   obtain⟨a1,a2⟩:=p5 pre b (w++rest)
   rw [a1,a2]
   unfold wM at h
   by_cases h0:C.T.getD (x.toNat*2+(b2 b%2^1).toNat) 0=0
   · rw [if_pos h0]at h;cases h
   · rw [if_neg h0]at h
     rw [if_neg (by simp;exact h0)]
     by_cases h1:C.T.getD (x.toNat*2+(b2 b%2^1).toNat) 0<0
     · rw [if_pos h1]at h ⊢
       by_cases hw:w = []
       · rw [if_pos hw]at h
         cases h
         subst hw
         rfl
       · rw [if_neg hw]at h;cases h
     · rw [if_neg h1]at h ⊢
       have e1:pre++(b::(w++rest))=(pre++[b])++(w++rest):=by simp
       have e2:(pre.length+1,false)=((pre++[b]).length,false):=by simp
       rw [e1,e2,o7 C w _ n f (pre++[b]) rest h (by simpa using hf)]
       simp;omega
theorem LY:∀ n:Fin 5,wM cM (db cM n.val) 0=some (n.val:Int)∧(db cM n.val).length≤cM.T.length/2:=by decide +kernel
theorem L0:∀ n:Fin 13,wM cZ (db cZ n.val) 0=some (n.val:Int)∧(db cZ n.val).length≤cZ.T.length/2:=by decide +kernel
theorem LZ:∀ n:Fin 16,wM cP (db cP n.val) 0=some (n.val:Int)∧(db cP n.val).length≤cP.T.length/2:=by decide +kernel
theorem Bq {n:Nat}(h:n<5) (pre rest:List Bool):kS cM (pre++(db cM n++rest)) (pre.length,false)=((n:Int),(pre.length+(db cM n).length,false)):=
 o7 cM _ 0 _ _ pre rest (LY ⟨n,h⟩).1 (LY ⟨n,h⟩).2
theorem BH {n:Nat}(h:n<13) (pre rest:List Bool):kS cZ (pre++(db cZ n++rest)) (pre.length,false)=((n:Int),(pre.length+(db cZ n).length,false)):=
 o7 cZ _ 0 _ _ pre rest (L0 ⟨n,h⟩).1 (L0 ⟨n,h⟩).2
theorem vq {n:Nat}(h:n<16) (pre rest:List Bool):kS cP (pre++(db cP n++rest)) (pre.length,false)=((n:Int),(pre.length+(db cP n).length,false)):=
 o7 cP _ 0 _ _ pre rest (LZ ⟨n,h⟩).1 (LZ ⟨n,h⟩).2
end Go.Proofs.YtagpkhindehcbaaGreat
namespace Go.Proofs.YtagpkhindehcbaaGreat
open Go.Xm
variable [az]
abbrev H3 (S:bC):List XC:=[.ptr 3 0,.int .i64 S.id,.bool S.inter,.bool S.down,.int .i64 S.hqp,.int .i64 S.qp,.ptr 16 0,.ptr 18 0]
theorem qT {S:bC} {b:Bool}(h:S.inter=b):(H3 S)[2]? = some (.bool b):=by rw [←h];rfl
def aB (S:bC) (m:Mb):List Bool:=(if S.inter=true then db cM m.kind.toNat else [decide (m.kind=4)])++(if m.kind=4 then ej (dV S.qp m.qp).1 2 else [])
def fc (S:bC) (m:Mb):bC:=if m.kind=4 then {S with qp:=m.qp}else S
theorem wt (a b:Int):0≤(dV a b).1∧(dV a b).1≤3:=by
 unfold dV
 repeat' split
 all_goals simp
theorem iR (bs:List Bool) (S:bC) (m:Mb) (hm:i_ m) (hk:m.kind≤4) (hq : -1000000≤S.qp∧S.qp≤1000000) (hb:bs.length≤800000) :
 bn Tryz.prog 52 [.one (.ptr 2 0),.one (.ptr 0 0),.agg (mC m)] [aP 1 bs,aq bs,du (S),bM 4 8 12,ax 5 6 7 cM,aU cM,aW cM,aV cM,ax 9 10 11 cZ,aU cZ,aW cZ,aV cZ,ax 13 14 15 cP,aU cP,aW cP,aV cP,cg 17 (S).cols (S).rows,.map (bg (S).M),.cells [.int .i64 (S).cols,.int .i64 (S).rows,.map 19,.map 20,.map 21] 171 false false,.map (ah (S).A),.map (ah (S).B),.map (ah (S).C)] (.tup []) [aP 22 (bs++aB S m),.dead,du (fc S m),bM 4 8 12,ax 5 6 7 cM,aU cM,aW cM,aV cM,ax 9 10 11 cZ,aU cZ,aW cZ,aV cZ,ax 13 14 15 cP,aU cP,aW cP,aV cP,cg 17 (fc S m).cols (fc S m).rows,.map (bg (fc S m).M),.cells [.int .i64 (fc S m).cols,.int .i64 (fc S m).rows,.map 19,.map 20,.map 21] 171 false false,.map (ah (fc S m).A),.map (ah (fc S m).B),.map (ah (fc S m).C),aq (bs++aB S m)]:=by
 have hkind:=hm.kind
 have hqp:=hm.qp
 have hsr:=wt S.qp m.qp
 have hcb:=j7 yO m.kind.toNat
 have hkn:m.kind=(m.kind.toNat:Nat):=by omega
 unfold aB
 obtain⟨b,hin⟩:∃ b,S.inter=b:=⟨_,rfl⟩
 have hl2:=qT hin
 by_cases h4:m.kind=4
 · have e4:fc S m = {S with qp:=m.qp}:=if_pos h4
   rw [e4,if_pos h4]
   cases b
   · rw [if_neg (by rw [hin];decide),decide_eq_true h4,←List.append_assoc]
     refine cO Tryz.func52 ?_
     repeat' (first
      |(refine qz ?_;first
       |refine ld (hc:=hl2) ?_
       |refine cl ?_ (hi:=by exact kE (b:=true) (bs:=bs) (by omega) rfl rfl (by decide) nL nA rfl)
       |refine cl ?_ (hi:=by exact xQ hq hqp rfl)
       |refine cl ?_ (hi:=by exact h_ (n:=(dV S.qp m.qp).1) (size:=2) rfl (bs:=bs++[true]) (by omega) (by decide) (by rw [List.length_append];simp;omega) rfl rfl (by decide) nL nA rfl))
      |refine zz ?_|refine zx (fun _=>?_) (fun _=>?_)|fail)
     show aC _ _ _ _ _ _ _ _;refine kV [0,1,2,3,4,5,6,7,8,9,10,11,12,13,14,15,16,17,18,19,20,21,24] ?_
     rfl
   · rw [if_pos hin,←List.append_assoc]
     refine cO Tryz.func52 ?_
     repeat' (first
      |(refine qz ?_;first
       |refine ld (hc:=hl2) ?_
       |refine cl ?_ (hi:=by exact qn (C:=cM) yO (n:=m.kind.toNat) hkn (by show m.kind.toNat<5;omega) (bs:=bs) (by omega) rfl rfl rfl rfl rfl rfl (by decide) nL nA rfl)
       |refine cl ?_ (hi:=by exact xQ hq hqp rfl)
       |refine cl ?_ (hi:=by exact h_ (n:=(dV S.qp m.qp).1) (size:=2) rfl (bs:=bs++db cM m.kind.toNat) (by omega) (by decide) (by rw [List.length_append];omega) rfl rfl (by decide) nL nA rfl))
      |refine zz ?_|refine zx (fun _=>?_) (fun _=>?_)|fail)
     show aC _ _ _ _ _ _ _ _;refine kV [0,1,2,3,4,5,6,7,8,9,10,11,12,13,14,15,16,17,18,19,20,21,24] ?_
     rfl
 · have e4:fc S m=S:=if_neg h4
   rw [e4,if_neg h4,List.append_nil]
   cases b
   · rw [if_neg (by rw [hin];decide),decide_eq_false h4]
     refine cO Tryz.func52 ?_
     repeat' (first
      |(refine qz ?_;first
       |refine ld (hc:=hl2) ?_
       |refine cl ?_ (hi:=by exact kE (b:=false) (bs:=bs) (by omega) rfl rfl (by decide) nL nA rfl))
      |refine zz ?_|refine zx (fun _=>?_) (fun _=>?_)|fail)
     show aC _ _ _ _ _ _ _ _;refine kV [0,1,2,3,4,5,6,7,8,9,10,11,12,13,14,15,16,17,18,19,20,21,23] ?_
     rfl
   · rw [if_pos hin]
     refine cO Tryz.func52 ?_
     repeat' (first
      |(refine qz ?_;first
       |refine ld (hc:=hl2) ?_
       |refine cl ?_ (hi:=by exact qn (C:=cM) yO (n:=m.kind.toNat) hkn (by show m.kind.toNat<5;omega) (bs:=bs) (by omega) rfl rfl rfl rfl rfl rfl (by decide) nL nA rfl))
      |refine zz ?_|refine zx (fun _=>?_) (fun _=>?_)|fail)
     show aC _ _ _ _ _ _ _ _;refine kV [0,1,2,3,4,5,6,7,8,9,10,11,12,13,14,15,16,17,18,19,20,21,23] ?_
     rfl
theorem fN (S:bC) (m:Mb):(aB S m).length≤66:=by
 unfold aB
 have:=j7 yO m.kind.toNat
 rw [List.length_append]
 split <;> split <;> simp only [List.length_cons,List.length_nil,gi] <;> omega
def rb (M:fZ) (cols mb:Int) (v:Nat→Int × Int):fZ:=aZ (aZ (aZ (aZ M cols mb 0 (v 0)) cols mb 1 (v 1)) cols mb 2 (v 2)) cols mb 3 (v 3)
end Go.Proofs.YtagpkhindehcbaaGreat
namespace Go.Proofs.YtagpkhindehcbaaGreat
open Go.Xm
variable [az]
def ba (S:bC) (mb:Int) (v:Nat→Int × Int):bC:={S with M:=rb S.M S.cols mb v}
theorem E5 (bs:List Bool) (S:bC) (hD:gz S.cols S.rows) (mb:Int) (hmb:0≤mb∧mb<S.cols*S.rows) (m:Mb) :
 bn Tryz.prog 53 [.one (.ptr 2 0),.one (.int .i64 mb),.agg (mC m)] [aP 1 bs,aq bs,du (S),bM 4 8 12,ax 5 6 7 cM,aU cM,aW cM,aV cM,ax 9 10 11 cZ,aU cZ,aW cZ,aV cZ,ax 13 14 15 cP,aU cP,aW cP,aV cP,cg 17 (S).cols (S).rows,.map (bg (S).M),.cells [.int .i64 (S).cols,.int .i64 (S).rows,.map 19,.map 20,.map 21] 171 false false,.map (ah (S).A),.map (ah (S).B),.map (ah (S).C)] (.tup []) [aP 1 bs,aq bs,du (ba S mb m.v),bM 4 8 12,ax 5 6 7 cM,aU cM,aW cM,aV cM,ax 9 10 11 cZ,aU cZ,aW cZ,aV cZ,ax 13 14 15 cP,aU cP,aW cP,aV cP,cg 17 (ba S mb m.v).cols (ba S mb m.v).rows,.map (bg (ba S mb m.v).M),.cells [.int .i64 (ba S mb m.v).cols,.int .i64 (ba S mb m.v).rows,.map 19,.map 20,.map 21] 171 false false,.map (ah (ba S mb m.v).A),.map (ah (ba S mb m.v).B),.map (ah (ba S mb m.v).C)]:=by
 refine cO Tryz.func53 ?_
 repeat' (first
  |(refine qz ?_;first
   |refine rH (cs:=vt m.v) ?_ (hle:=by rw [aJ];decide)
   |refine pS ?_
   |refine cl ?_ (hi:=by exact dh (M:=S.M) (cols:=S.cols) (rows:=S.rows) (i:=16) (j:=17) (k:=0) (v:=m.v 0) hD hmb (by decide) rfl rfl (by decide) nA rfl)
   |refine cl ?_ (hi:=by exact dh (M:=aZ S.M S.cols mb 0 (m.v 0)) (cols:=S.cols) (rows:=S.rows) (i:=16) (j:=17) (k:=1) (v:=m.v 1) hD hmb (by decide) rfl rfl (by decide) nA rfl)
   |refine cl ?_ (hi:=by exact dh (M:=aZ (aZ S.M S.cols mb 0 (m.v 0)) S.cols mb 1 (m.v 1)) (cols:=S.cols) (rows:=S.rows) (i:=16) (j:=17) (k:=2) (v:=m.v 2) hD hmb (by decide) rfl rfl (by decide) nA rfl)
   |refine cl ?_ (hi:=by exact dh (M:=aZ (aZ (aZ S.M S.cols mb 0 (m.v 0)) S.cols mb 1 (m.v 1)) S.cols mb 2 (m.v 2)) (cols:=S.cols) (rows:=S.rows) (i:=16) (j:=17) (k:=3) (v:=m.v 3) hD hmb (by decide) rfl rfl (by decide) nA rfl))
  |refine WX.loop ?_|refine WX.round ?_|refine zz ?_|refine zx (fun _=>?_) (fun _=>?_)|fail)
 show aC _ _ _ _ _ _ _ _;refine kV [0,1,2,3,4,5,6,7,8,9,10,11,12,13,14,15,16,17,18,19,20,21] ?_
 rfl
end Go.Proofs.YtagpkhindehcbaaGreat
namespace Go.Proofs.YtagpkhindehcbaaGreat
open Go.Xm
variable [az]
theorem rP:∀(ls:List Nat) (os HS:aj) (ls2:List Nat) (os2:aj),os.length=ls.length→(∀(j i:Nat),ls[j]? = some i→∃ o,HS[i]? = some o∧os[j]? = some o)→bG HS (ls++ls2) (os++os2)=bG HS ls2 os2
 | [],[],HS,ls2,os2,_,_=>by simp
 | [],_::_,_,_,_,h,_=>by simp at h
 | _::_,[],_,_,_,h,_=>by simp at h
 | i::ls,o::os,HS,ls2,os2,h,hg=>by
   obtain⟨o',h1,h2⟩:=hg 0 i rfl
   have:o'=o:=by simpa using h2.symm
   subst this
   show bG (HS.set i o') (ls++ls2) (os++os2)=_
   rw [aG h1]
   exact rP ls os HS ls2 os2 (by simpa using h) fun j i' hj=>hg (j+1) i' hj
theorem sZ {j i:Nat}(h:bL[j]? = some i):j<20∧i=j+2:=by
 have hjl:j<20:=(List.getElem?_eq_some_iff.1 h).1
 have hq:∀ q:Fin 20,bL[q.val]? = some (q.val+2):=by decide
 have:=hq ⟨j,hjl⟩
 rw [h]at this
 exact⟨hjl,by simpa using this⟩
theorem xO {S:bC} {HS:aj}(hS:(HS.drop 2).take 20=dI S) {j:Nat}(hj:j<20):HS[j+2]? = (dI S)[j]?:=by
 rw [←hS,List.getElem?_take,if_pos hj,List.getElem?_drop]
 congr 1
 omega
theorem pZ (ls:List Nat) (os HS l:aj) (h:os.length=ls.length) (hg:∀(j i:Nat),ls[j]? = some i→∃ o,HS[i]? = some o∧os[j]? = some o):bG HS ls (os++l)=HS++l:=by
 have:=rP ls os HS [] l h hg
 rw [List.append_nil]at this
 rw [this,bG]
theorem q8 {f:FuncId} {more:List XV}(hm:∀ τ,dF τ more more) (hmo:eV 22 more) {v:XV} [bz v] {bs bs':List Bool} {S S':bC}(hT:(dI S').tail=(dI S).tail) (hc:bn Tryz.prog f (.one (.ptr 2 0) :: .one (.ptr 0 0)::more) (aP 1 bs::aq bs::dI S) v (aP 22 bs' :: .dead::(dI S'++[aq bs'])))
 {HS:aj} {k:Nat}(hi:HS[0]? = some (aP k bs)) (hk:HS[k]? = some (aq bs)) (hS:(HS.drop 2).take 20=dI S) (hd:(k == 1 || Nat.ble 22 k)=true) {N:Nat}(hN:HS.length=N) {HS':aj}(hh:bG HS [0,k,2] [aP N bs',.dead,du S',aq bs']=HS') (hbd:Nat.blt HS'.length Mem.bound=true) :
 aH.Sound Tryz.prog ⟨f,.one (.ptr 2 0) :: .one (.ptr 0 0)::more,HS,v,HS',0::k::bL⟩:=by
 refine LU hm hmo hc hi hk hS hd hN ?_ hbd
 rw [←hh]
 have hkk:k=1∨22≤k:=by simpa [Nat.ble_eq]using hd
 have e1:dI S'++[aq bs']=du S'::((dI S).tail++[aq bs']):=by rw [←hT];rfl
 have e2:bL=2::bL.tail:=rfl
 rw [e1,e2,bG,bG,bG,bG,bG,bG,bG]
 refine pZ bL.tail (dI S).tail _ _ rfl fun j i hj=>?_
 have hj':bL[j+1]? = some i:=hj
 obtain⟨h1,rfl⟩:=sZ hj'
 have hl:j+1<(dI S).length:=h1
 refine⟨(dI S)[j+1],?_,?_⟩
 · rw [List.getElem?_set_ne (by omega),List.getElem?_set_ne (by omega),List.getElem?_set_ne (by omega),xO hS h1,List.getElem?_eq_getElem hl]
 · rw [List.getElem?_tail,List.getElem?_eq_getElem hl]
theorem mY (k:Nat) (r:List Nat):∀ j,2≤j→j<22→nth ((0::k::bL)++r) j=j:=fun j h1 h2=>by
 have hq:∀ q:Fin 20,bL[q.val]? = some (q.val+2):=by decide
 obtain⟨q,rfl⟩:∃ q,j=q+2:=⟨j-2,by omega⟩
 have:=hq ⟨q,by omega⟩
 unfold nth
 rw [List.getD_eq_getElem?_getD]
 show((bL++r)[q]?).getD 0=q+2
 rw [List.getElem?_append_left (show q<bL.length by show q<20;omega),this];rfl
theorem qX {k:Nat}(hkk:k=1∨22≤k):(0::k::bL).Nodup:=by
 have h0:0∉bL:=by decide
 have hk':k∉bL:=by
  intro h
  simp only [bL,List.mem_cons,List.not_mem_nil,or_false]at h
  omega
 exact List.nodup_cons.2 ⟨fun h=>(List.mem_cons.1 h).elim (fun e=>by omega) h0,List.nodup_cons.2 ⟨hk',by decide⟩⟩
theorem HY (a:List XC) (e e':TypeId) (cs:List XC) (S S':bC):dP (.cells a e false false::b8 e' cs::dI S) (.cells a e false false::b8 e' cs::dI S')=true:=by
 cases cs <;> simp [dP,ak.live,ak.own,b8]
theorem i4 {bs:List Bool} {S:bC}(hD:gz S.cols S.rows) {mb:Int}(hmb:0≤mb∧mb<S.cols*S.rows) {m:Mb} {HS:aj} {k:Nat}(hi:HS[0]? = some (aP k bs)) (hk:HS[k]? = some (aq bs)) (hS:(HS.drop 2).take 20=dI S) (hd:(k == 1 || Nat.ble 22 k)=true) {HS':aj}(hh:HS.set 17 (.map (bg (rb S.M S.cols mb m.v)))=HS') (hbd:Nat.blt HS'.length Mem.bound=true) :
 aH.Sound Tryz.prog ⟨53,[.one (.ptr 2 0),.one (.int .i64 mb),.agg (mC m)],HS,.tup [],HS',[17]⟩:=by
 have hkk:k=1∨22≤k:=by simpa [Nat.ble_eq]using hd
 have nd:=qX hkk
 have ht:∀ j,2≤j→j<22→nth (0::k::bL) j=j:=fun j h1 h2=>by
  have:=mY k [] j h1 h2
  rwa [List.append_nil]at this
 have ht':∀ j,2≤j→j<22→nth ((0::k::bL)++List.range' HS.length 0) j=j:=mY k _
 have hv:=o3 S ht hS (ls:=[]) .nil
 rw [List.append_nil,List.append_nil]at hv
 have ho:=gp S 22 (Nat.le_refl _) (l:=[]) .nil
 rw [List.append_nil]at ho
 have ho':=gp (ba S mb m.v) 22 (Nat.le_refl _) (l:=[]) .nil
 rw [List.append_nil]at ho'
 have hr:=qW (ba S mb m.v) ht' (l:=[]) (l':=[]) .nil
 rw [List.append_nil]at hr
 have hh' : bG HS (0::k::bL) (aP k bs::aq bs::dI (ba S mb m.v))=HS':=by
  rw [←hh]
  have e1:(aP k bs::aq bs::dI (ba S mb m.v))=(aP k bs::aq bs::(dI S).take 15)++(.map (bg (rb S.M S.cols mb m.v))::((dI S).drop 16++[])):=rfl
  have e2:(0::k::bL)=(0::k::bL.take 15)++(17::bL.drop 16):=rfl
  rw [e1,e2,rP _ _ _ _ _ rfl]
  · rw [bG]
    rw [pZ (bL.drop 16) ((dI S).drop 16) _ [] rfl,List.append_nil]
    intro j i hj
    rw [List.getElem?_drop]at hj
    obtain⟨h1,rfl⟩:=sZ hj
    have hl:16+j<(dI S).length:=h1
    refine⟨(dI S)[16+j],?_,?_⟩
    · rw [List.getElem?_set_ne (by omega),xO hS h1,List.getElem?_eq_getElem hl]
    · rw [List.getElem?_drop,List.getElem?_eq_getElem hl]
  · intro j i hj
    match j,hj with
    | 0,hj=>cases hj;exact⟨_,hi,rfl⟩
    | 1,hj=>cases hj;exact⟨_,hk,rfl⟩
    | j + 2,hj=>
      have hj2:(bL.take 15)[j]? = some i:=hj
      rw [List.getElem?_take]at hj2
      split at hj2
      · rename_i h15
        obtain⟨h1,rfl⟩:=sZ hj2
        have hl:j<(dI S).length:=h1
        refine⟨(dI S)[j],?_,?_⟩
        · rw [xO hS h1,List.getElem?_eq_getElem hl]
        · show((dI S).take 15)[j]? = _
          rw [List.getElem?_take,if_pos h15,List.getElem?_eq_getElem hl]
      · cases hj2
 refine bV (0::k::bL) [17] 0 (E5 bs S hD mb hmb m) nd (ae.ed hi rfl rfl rfl (.flat hk hv)) (.cons (by simp [ak.b7,XC.ok,bc]) (.flat ho)) (.cons (by simp [ak.b7,XC.ok,bc]) (.flat ho')) rfl (.cons (by show 2<22;omega) (.flat (.flat .nil))) (.cons rfl (.flat (.flat .nil))) (bz.ok _) (bz.ay _) ?_ (HY ..) rfl hh' hbd (.inr fun j hjl hj=>?_)
 · exact .cons (by simp only [ak.ay,List.map_cons,List.map_nil,XC.ay,aw];rfl) (.flat hr)
 · subst hh
   exact List.getElem?_set_ne (fun h=>hj (by rw [←h];exact List.mem_singleton.2 rfl))
end Go.Proofs.YtagpkhindehcbaaGreat
namespace Go.Proofs.YtagpkhindehcbaaGreat
open Go.Xm
variable [az]
theorem nT {C:Cd} {K:Int}(hK:0≤K) (h:∀ j,-(K+1)≤C.T.getD j 0) (B:List Bool):∀(k:Nat) (x:Int) (r:Nat × Bool),0≤(tu C B k x r).1∧(tu C B k x r).1≤K
 | 0,x,r=>⟨Int.le_refl _,hK⟩
 | k + 1,x,r=>by
   unfold tu
   split
   · exact⟨Int.le_refl _,hK⟩
   · split
     · rename_i h1
       have:=h (x.toNat*2+(b2 (dH B r)%2^1).toNat)
       show 0 ≤ -1-C.T.getD _ 0 ∧ -1-C.T.getD _ 0≤K
       omega
     · exact nT hK h B k _ _
theorem Gg (j:Nat) : -(12+1)≤cZ.T.getD j 0:=jH (p:=fun x => -(12+1)≤x) (by decide) (by decide) j
theorem Mc (j:Nat) : -(4+1)≤cM.T.getD j 0:=jH (p:=fun x => -(4+1)≤x) (by decide) (by decide) j
theorem Md (j:Nat) : -(15+1)≤cP.T.getD j 0:=jH (p:=fun x => -(15+1)≤x) (by decide) (by decide) j
theorem we (B:List Bool):∀(n:Nat) (x:Int) (r:Nat × Bool),0≤x→0≤(kA B n x r).1∧(kA B n x r).1<(x+1)*2^n
 | 0,x,r,h=>⟨h,by show x<(x+1)*2^0;omega⟩
 | n+1,x,r,h=>by
   have hb:=yG (dH B r)
   have ih:=we B n (2*x+b2 (dH B r)) (bY B r) (by omega)
   refine⟨ih.1,Int.lt_of_lt_of_le ih.2 ?_⟩
   rw [Int.pow_succ,Int.mul_comm (2^n) 2,←Int.mul_assoc]
   exact Int.mul_le_mul_of_nonneg_right (by omega) (Int.le_of_lt (Int.pow_pos (by decide)))
theorem mF (B:List Bool) (n:Nat) (r:Nat × Bool):0≤(bZ B n r).1∧(bZ B n r).1<2^n:=by
 have h:=we B n 0 r (Int.le_refl _)
 have hp:(0:Int)<2^n:=Int.pow_pos (by decide)
 unfold bZ
 simp only []
 split
 · omega
 · rw [Int.zero_add,Int.one_mul]at h;exact h
def cG (B:List Bool) (r:Nat × Bool):Nat:=(kS cZ B r).1.toNat
def l8 (B:List Bool) (r:Nat × Bool):Int × (Nat × Bool):=bZ B (cG B r) (kS cZ B r).2
def fJ (B:List Bool) (r:Nat × Bool):Int × (Nat × Bool):=
 if 0<cG B r∧(l8 B r).1<1*2^(cG B r-1)then
  ((l8 B r).1-(1*2^cG B r-1),if(l8 B r).1-(1*2^cG B r-1)=0 then((l8 B r).2.1,true)else(l8 B r).2)
 else l8 B r
theorem Ld {L:List Int} {B:List Bool}(h:cK L B) (r:Nat × Bool) (S:bC) :
 bn Tryz.prog 96 [.one (.ptr 2 0),.one (.ptr 0 0)] [br 1 L B r.1 r.2,aM L,du (S),bM 4 8 12,ax 5 6 7 cM,aU cM,aW cM,aV cM,ax 9 10 11 cZ,aU cZ,aW cZ,aV cZ,ax 13 14 15 cP,aU cP,aW cP,aV cP,cg 17 (S).cols (S).rows,.map (bg (S).M),.cells [.int .i64 (S).cols,.int .i64 (S).rows,.map 19,.map 20,.map 21] 171 false false,.map (ah (S).A),.map (ah (S).B),.map (ah (S).C)] (.one (.int .i64 (fJ B r).1)) [br 1 L B (fJ B r).2.1 (fJ B r).2.2,aM L,du (S),bM 4 8 12,ax 5 6 7 cM,aU cM,aW cM,aV cM,ax 9 10 11 cZ,aU cZ,aW cZ,aV cZ,ax 13 14 15 cP,aU cP,aW cP,aV cP,cg 17 (S).cols (S).rows,.map (bg (S).M),.cells [.int .i64 (S).cols,.int .i64 (S).rows,.map 19,.map 20,.map 21] 171 false false,.map (ah (S).A),.map (ah (S).B),.map (ah (S).C)]:=by
 have hr:=nT (K:=12) (by decide) Gg B (cZ.T.length/2) 0 r
 have hz:(kS cZ B r).1=(cG B r:Nat):=by unfold cG;have:0≤(kS cZ B r).1:=hr.1;omega
 have hs:cG B r≤12:=by have:(kS cZ B r).1≤12:=hr.2;omega
 have hn:=mF B (cG B r) (kS cZ B r).2
 have hn':0≤(l8 B r).1∧(l8 B r).1<2^cG B r:=hn
 have hp:=uj (j:=cG B r) (by omega)
 have hp1:=uj (j:=cG B r-1) (by omega)
 have hq:(0:Int)<2^cG B r:=Int.pow_pos (by decide)
 have hq1:(0:Int)<2^(cG B r-1):=Int.pow_pos (by decide)
 have key:∀ {HS HS':aj},HS[0]? = some (br 1 L B (kS cZ B r).2.1 (kS cZ B r).2.2)→HS[1]? = some (aM L)→HS.set 0 (br 1 L B (l8 B r).2.1 (l8 B r).2.2)=HS'→Nat.blt HS'.length Mem.bound=true→aH.Sound Tryz.prog ⟨65,[.one (.ptr 0 0),.one (.int .i64 (cG B r:Nat))],HS,.one (.int .u64 (l8 B r).1),HS',[0]⟩:=fun a b c d=>qO h (kS cZ B r).2 rfl (by omega) a b (by decide) c d
 have key0:∀ {HS HS':aj},HS[0]? = some (br 1 L B r.1 r.2)→HS[1]? = some (aM L)→HS[8]? = some (ax 9 10 11 cZ)→HS[9]? = some (aU cZ)→HS[10]? = some (aW cZ)→HS[11]? = some (aV cZ)→HS.set 0 (br 1 L B (kS cZ B r).2.1 (kS cZ B r).2.2)=HS'→Nat.blt HS'.length Mem.bound=true→aH.Sound Tryz.prog ⟨63,[.one (.ptr 8 0),.one (.ptr 0 0)],HS,.one (.int .i64 (cG B r:Nat)),HS',[0]⟩:=fun a b c d e f g i=>by
  have:=tt yP h r a b c d e f (by decide) g i
  rw [hz]at this
  exact this
 unfold fJ
 by_cases hc:0<cG B r∧(l8 B r).1<1*2^(cG B r-1)
 · rw [if_pos hc]
   have hc1:=hc.1
   have hc2:=hc.2
   have e1:((cG B r:Nat):Int)-1=((cG B r-1:Nat):Int):=by omega
   by_cases h0:(l8 B r).1-(1*2^cG B r-1)=0
   · rw [if_pos h0]
     refine cO Tryz.func96 ?_
     repeat' (first
      |(refine qz ?_;first
       |refine cl ?_ (hi:=by exact key0 rfl rfl rfl rfl rfl rfl nL rfl)
       |refine cl ?_ (hi:=by exact key rfl rfl nL rfl)
       |refine AH (n:=cG B r-1) ?_ (hn:=e1) (h:=⟨by show cG B r-1≤64;omega,by show _∧_;omega⟩)
       |refine AH (n:=cG B r) ?_ (h:=⟨by show cG B r≤64;omega,by show _∧_;omega⟩)
       |refine cl ?_ (hi:=by exact gj (p:=(l8 B r).2.1) (e:=(l8 B r).2.2) rfl rfl (by decide) nL rfl))
      |refine zz ?_|refine zx (fun _=>?_) (fun _=>?_)|fail)
     show aC _ _ _ _ _ _ _ _;refine kV [0,1,2,3,4,5,6,7,8,9,10,11,12,13,14,15,16,17,18,19,20,21] ?_
     rfl
   · rw [if_neg h0]
     refine cO Tryz.func96 ?_
     repeat' (first
      |(refine qz ?_;first
       |refine cl ?_ (hi:=by exact key0 rfl rfl rfl rfl rfl rfl nL rfl)
       |refine cl ?_ (hi:=by exact key rfl rfl nL rfl)
       |refine AH (n:=cG B r-1) ?_ (hn:=e1) (h:=⟨by show cG B r-1≤64;omega,by show _∧_;omega⟩)
       |refine AH (n:=cG B r) ?_ (h:=⟨by show cG B r≤64;omega,by show _∧_;omega⟩))
      |refine zz ?_|refine zx (fun _=>?_) (fun _=>?_)|fail)
     show aC _ _ _ _ _ _ _ _;refine kV [0,1,2,3,4,5,6,7,8,9,10,11,12,13,14,15,16,17,18,19,20,21] ?_
     rfl
 · rw [if_neg hc]
   by_cases h0:0<cG B r
   · have hc2:¬(l8 B r).1<1*2^(cG B r-1):=fun g=>hc ⟨h0,g⟩
     have e1:((cG B r:Nat):Int)-1=((cG B r-1:Nat):Int):=by omega
     refine cO Tryz.func96 ?_
     repeat' (first
      |(refine qz ?_;first
       |refine cl ?_ (hi:=by exact key0 rfl rfl rfl rfl rfl rfl nL rfl)
       |refine cl ?_ (hi:=by exact key rfl rfl nL rfl)
       |refine AH (n:=cG B r-1) ?_ (hn:=e1) (h:=⟨by show cG B r-1≤64;omega,by show _∧_;omega⟩))
      |refine zz ?_|refine zx (fun _=>?_) (fun _=>?_)|fail)
     show aC _ _ _ _ _ _ _ _;refine kV [0,1,2,3,4,5,6,7,8,9,10,11,12,13,14,15,16,17,18,19,20,21] ?_
     rfl
   · refine cO Tryz.func96 ?_
     repeat' (first
      |(refine qz ?_;first
       |refine cl ?_ (hi:=by exact key0 rfl rfl rfl rfl rfl rfl nL rfl)
       |refine cl ?_ (hi:=by exact key rfl rfl nL rfl))
      |refine zz ?_|refine zx (fun _=>?_) (fun _=>?_)|fail)
     show aC _ _ _ _ _ _ _ _;refine kV [0,1,2,3,4,5,6,7,8,9,10,11,12,13,14,15,16,17,18,19,20,21] ?_
     rfl
theorem AS {n:Nat}(h:0<n):0<bitLen n∧2^(bitLen n-1)≤n:=by
 unfold bitLen
 rw [if_neg (by omega)]
 exact⟨by omega,by rw [Nat.add_sub_cancel];exact Nat.log2_self_le (by omega)⟩
theorem OA {k:Nat}:((2^k:Nat):Int)=(2:Int)^k:=Int.natCast_pow 2 k
theorem D0 {n:Int}(hn : -4000≤n∧n≤4000) (pre rest:List Bool):fJ (pre++(aX n++rest)) (pre.length,false)=(n,(pre.length+(aX n).length,false)):=by
 have hl:=tv hn
 have hlt:=vV (max n (-n)).toNat
 have hlt':(((max n (-n)).toNat:Nat):Int)<(2:Int)^bK n:=by rw [←OA];exact Int.ofNat_lt.2 hlt
 have hm0:(((max n (-n)).toNat:Nat):Int)=max n (-n):=by omega
 have e1:pre++(aX n++rest)=pre++(db cZ (bK n)++(ej (if n<0 then n+(1*2^bK n-1)else n) (bK n)++rest)):=by unfold aX;simp only [List.append_assoc]
 have e2:pre++(aX n++rest)=(pre++db cZ (bK n))++(ej (if n<0 then n+(1*2^bK n-1)else n) (bK n)++rest):=by rw [e1];simp only [List.append_assoc]
 have k1:kS cZ (pre++(aX n++rest)) (pre.length,false)=((bK n:Int),(pre.length+(db cZ (bK n)).length,false)):=by rw [e1];exact BH (by omega) pre _
 have hsz:cG (pre++(aX n++rest)) (pre.length,false)=bK n:=by unfold cG;rw [k1];rfl
 have hr:0≤(if n<0 then n+(1*2^bK n-1)else n)∧(if n<0 then n+(1*2^bK n-1)else n)<2^bK n:=by split <;> omega
 have k2:l8 (pre++(aX n++rest)) (pre.length,false)=((if n<0 then n+(1*2^bK n-1)else n),(pre.length+(aX n).length,false)):=by
  unfold l8
  rw [hsz,k1]
  have:=vF (n:=if n<0 then n+(1*2^bK n-1)else n) (k:=bK n) hr (pre++db cZ (bK n)) rest
  rw [←e2,List.length_append]at this
  rw [this]
  unfold aX
  rw [List.length_append,gi,Nat.add_assoc]
 unfold fJ
 rw [hsz,k2]
 by_cases h0:n=0
 · subst h0
   have e:bK 0=0:=by decide
   rw [if_neg (by rw [e];simp)]
   rfl
 · have hlow:=AS (n:=(max n (-n)).toNat) (by omega)
   have hlow1:0<bK n:=hlow.1
   have hlow2:(2:Int)^(bK n-1)≤(((max n (-n)).toNat:Nat):Int):=by rw [←OA];exact Int.ofNat_le.2 hlow.2
   have hp:(2:Int)^bK n=2^(bK n-1)*2:=by
    obtain⟨q,hq⟩:∃ q,bK n=q+1:=⟨bK n-1,by omega⟩
    rw [hq,Nat.add_sub_cancel,Int.pow_succ]
   by_cases hneg:n<0
   · simp only [if_pos hneg]
     rw [if_pos ⟨hlow1,by omega⟩]
     have en:n+(1*2^bK n-1)-(1*2^bK n-1)=n:=by omega
     rw [en,if_neg h0]
   · simp only [if_neg hneg]
     rw [if_neg (fun g=>by have:=g.2;omega)]
end Go.Proofs.YtagpkhindehcbaaGreat
