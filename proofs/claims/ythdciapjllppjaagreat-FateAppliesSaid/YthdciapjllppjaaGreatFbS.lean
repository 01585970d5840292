/-
  A part of the proof: Sta4, Put0, Put1.
-/
import Derived.Test.YthdciapjllppjaaGreatFbQ
import Derived.Test.YthdciapjllppjaaGreatFbR
set_option maxRecDepth 10000
set_option maxHeartbeats 8000000
set_option linter.unusedVariables false
set_option linter.unusedSectionVars false
set_option linter.unusedSimpArgs false
open Go.Proofs.Tryz (prog)
namespace Go.Proofs.YthdciapjllppjaaGreat
open Go.Xm
variable [av]
theorem rK:∀(ls:List Nat) (os HS:ah) (ls2:List Nat) (os2:ah),os.length=ls.length->(∀(j i:Nat),ls[j]? = some i->∃o,HS[i]? = some o/\os[j]? = some o)->bC HS (ls++ls2) (os++os2)=bC HS ls2 os2
 | [],[],HS,ls2,os2,_,_=>by simp
 | [],_::_,_,_,_,h,_=>by simp at h
 | _::_,[],_,_,_,h,_=>by simp at h
 | i::ls,o::os,HS,ls2,os2,h,hg=>by
   obtain⟨o',h1,h2⟩:=hg 0 i rfl;have:o'=o:=by simpa using h2.symm
   subst this;show bC (HS.set i o') (ls++ls2) (os++os2)=_;rw[aC h1];exact rK ls os HS ls2 os2 (by simpa using h) fun j i' hj=>hg (j+1) i' hj
theorem yE{j i:Nat}(h:dg[j]? = some i):j<20/\i=j+2:=by
 have hjl:j<20:=(List.getElem?_eq_some_iff.1 h).1;have hq:∀q:Fin 20,dg[q.val]? = some (q.val+2):=by decide
 have:=hq ⟨j,hjl⟩;rw[h]at this;exact⟨hjl,by simpa using this⟩
theorem Cu{S:cR}{HS:ah}(hS:(HS.drop 2).take 20=iz S){j:Nat}(hj:j<20):HS[j+2]? = (iz S)[j]?:=by
 rw[<-hS,List.getElem?_take,if_pos hj,List.getElem?_drop]
 congr 1
 omega
theorem uM(ls:List Nat)(os HS l:ah)(h:os.length=ls.length)(hg:∀(j i:Nat),ls[j]? = some i->∃o,HS[i]? = some o/\os[j]? = some o):bC HS ls (os++l)=HS++l:=by
 have:=rK ls os HS [] l h hg;rw[List.append_nil]at this;rw[this,bC]
theorem AN{f:FuncId}{more:List XV}(hm:∀τ,eL τ more more)(hmo:gB 22 more){v:XV}[b7 v]{bs bs':List Bool}{S S':cR}(hT:(iz S').tail=(iz S).tail)(hc:bm prog f (.one (.ptr 2 0) :: .one (.ptr 0 0)::more) (aO 1 bs::au bs::iz S) v (aO 22 bs' :: .dead::(iz S'++[au bs'])))
 {HS:ah} {k:Nat}(hi:HS[0]? = some (aO k bs)) (hk:HS[k]? = some (au bs)) (hS:(HS.drop 2).take 20=iz S) (hd:(k==1||Nat.ble 22 k)=true) {N:Nat}(hN:HS.length=N) {HS':ah}(hh:bC HS [0,k,2] [aO N bs',.dead,jg S',au bs']=HS') (hbd:Nat.blt HS'.length Mem.bound=true) :
 aA.Sound prog ⟨f,.one (.ptr 2 0) :: .one (.ptr 0 0)::more,HS,v,HS',0::k::dg⟩:=by
 refine Ns hm hmo hc hi hk hS hd hN ?_ hbd;rw[<-hh];have hkk:k=1\/22<=k:=by simpa [Nat.ble_eq]using hd
 have e1:iz S'++[au bs']=jg S'::((iz S).tail++[au bs']):=by rw[<-hT];rfl
 have e2:dg=2::dg.tail:=rfl;rw[e1,e2,bC,bC,bC,bC,bC,bC,bC];refine uM dg.tail (iz S).tail _ _ rfl fun j i hj=>?_
 have hj':dg[j+1]? = some i:=hj;obtain⟨h1,rfl⟩:=yE hj';have hl:j+1<(iz S).length:=h1;refine⟨(iz S)[j+1],?_,?_⟩
 ·rw[List.getElem?_set_ne (by omega),List.getElem?_set_ne (by omega),List.getElem?_set_ne (by omega),Cu hS h1,List.getElem?_eq_getElem hl]
 ·rw[List.getElem?_tail,List.getElem?_eq_getElem hl]
theorem yf(k:Nat)(r:List Nat):∀j,2<=j->j<22->nth ((0::k::dg)++r) j=j:=fun j h1 h2=>by
 have hq:∀q:Fin 20,dg[q.val]? = some (q.val+2):=by decide
 obtain⟨q,rfl⟩:∃q,j=q+2:=⟨j-2,by omega⟩
 have:=hq ⟨q,by omega⟩;unfold nth;rw[List.getD_eq_getElem?_getD];show((dg++r)[q]?).getD 0=q+2;rw[List.getElem?_append_left (show q<dg.length by show q<20;omega),this];rfl
theorem AI{k:Nat}(hkk:k=1\/22<=k):(0::k::dg).Nodup:=by
 have h0:0∉dg:=by decide
 have hk':k∉dg:=by
  intro h;simp only[dg,List.mem_cons,List.not_mem_nil,or_false]at h;omega
 exact List.nodup_cons.2 ⟨fun h=>(List.mem_cons.1 h).elim (fun e=>by omega) h0,List.nodup_cons.2 ⟨hk',by decide⟩⟩
theorem Jk(a:List XC)(e e':TypeId)(cs:List XC)(S S':cR):fM (.cells a e false false::bz e' cs::iz S) (.cells a e false false::bz e' cs::iz S')=true:=by
 cases cs<;>simp[fM,aj.live,aj.own,bz]
theorem n6{bs:List Bool}{S:cR}(hD:lY S.cols S.rows){mb:Int}(hmb:0<=mb/\mb<S.cols*S.rows){m:Mb}{HS:ah}{k:Nat}(hi:HS[0]? = some (aO k bs))(hk:HS[k]? = some (au bs))(hS:(HS.drop 2).take 20=iz S)(hd:(k==1||Nat.ble 22 k)=true){HS':ah}(hh:HS.set 17 (.map (cx (Eb S.M S.cols mb m.v)))=HS')(hbd:Nat.blt HS'.length Mem.bound=true) :
 aA.Sound prog ⟨89,[.one (.ptr 2 0),.one (.int .i64 mb),.agg (mC m)],HS,.tup [],HS',[17]⟩:=by
 have hkk:k=1\/22<=k:=by simpa [Nat.ble_eq]using hd
 have nd:=AI hkk
 have ht:∀j,2<=j->j<22->nth (0::k::dg) j=j:=fun j h1 h2=>by
  have:=yf k [] j h1 h2;rwa [List.append_nil]at this
 have ht':∀j,2<=j->j<22->nth ((0::k::dg)++List.range' HS.length 0) j=j:=yf k _;have hv:=yD S ht hS (ls:=[]) .nil;rw[List.append_nil,List.append_nil]at hv;have ho:=nZ S 22 (Nat.le_refl _) (l:=[]) .nil;rw[List.append_nil]at ho;have ho':=nZ (bY S mb m.v) 22 (Nat.le_refl _) (l:=[]) .nil;rw[List.append_nil]at ho';have hr:=yC (bY S mb m.v) ht' (l:=[]) (l':=[]) .nil;rw[List.append_nil]at hr
 have hh' : bC HS (0::k::dg) (aO k bs::au bs::iz (bY S mb m.v))=HS':=by
  rw[<-hh];have e1:(aO k bs::au bs::iz (bY S mb m.v))=(aO k bs::au bs::(iz S).take 15)++(.map (cx (Eb S.M S.cols mb m.v))::((iz S).drop 16++[])):=rfl;have e2:(0::k::dg)=(0::k::dg.take 15)++(17::dg.drop 16):=rfl;rw[e1,e2,rK _ _ _ _ _ rfl]
  ·rw[bC];rw[uM (dg.drop 16) ((iz S).drop 16) _ [] rfl,List.append_nil];intro j i hj;rw[List.getElem?_drop]at hj;obtain⟨h1,rfl⟩:=yE hj;have hl:16+j<(iz S).length:=h1;refine⟨(iz S)[16+j],?_,?_⟩
   ·rw[List.getElem?_set_ne (by omega),Cu hS h1,List.getElem?_eq_getElem hl]
   ·rw[List.getElem?_drop,List.getElem?_eq_getElem hl]
  ·intro j i hj
   match j,hj with
   | 0,hj=>cases hj;exact⟨_,hi,rfl⟩
   | 1,hj=>cases hj;exact⟨_,hk,rfl⟩
   | j + 2,hj=>
     have hj2:(dg.take 15)[j]? = some i:=hj;rw[List.getElem?_take]at hj2;split at hj2
     ·rename_i h15;obtain⟨h1,rfl⟩:=yE hj2;have hl:j<(iz S).length:=h1;refine⟨(iz S)[j],?_,?_⟩
      ·rw[Cu hS h1,List.getElem?_eq_getElem hl]
      ·show((iz S).take 15)[j]? = _;rw[List.getElem?_take,if_pos h15,List.getElem?_eq_getElem hl]
     ·cases hj2
 refine bp (0::k::dg) [17] 0 (Gg bs S hD mb hmb m) nd (af.gT hi rfl rfl rfl (.flat hk hv)) (.cons (by simp[aj.br,XC.ok,aJ]) (.flat ho)) (.cons (by simp[aj.br,XC.ok,aJ]) (.flat ho')) rfl (.cons (by show 2<22;omega) (.flat (.flat .nil))) (.cons rfl (.flat (.flat .nil))) (b7.ok _) (b7.aB _) ?_ (Jk ..) rfl hh' hbd (.inr fun j hjl hj=>?_)
 ·exact .cons (by simp only[aj.aB,List.map_cons,List.map_nil,XC.aB,aX];rfl) (.flat hr)
 ·subst hh;exact List.getElem?_set_ne (fun h=>hj (by rw[<-h];exact List.mem_singleton.2 rfl))
def aQ(m:Mb)(mb:Int)(x:cR×List Bool)(k:Nat):cR×List Bool:=({x.1 with M:=cD x.1.M x.1.cols mb k (m.v k)},x.2++gM (m.v k) (gk x.1.M x.1.cols x.1.rows mb k))
def fy(S:cR)(B:List Bool)(m:Mb)(mb:Int):cR×List Bool:=
 if m.kind=0 then(bY S mb m.v,B++bc S m)
 else if m.kind=1 then(bY (aQ m mb (S,B++bc S m) 0).1 mb m.v,(aQ m mb (S,B++bc S m) 0).2)
 else if m.kind=2 then(bY (aQ m mb (aQ m mb (aQ m mb (aQ m mb (S,B++bc S m) 0) 1) 2) 3).1 mb m.v,(aQ m mb (aQ m mb (aQ m mb (aQ m mb (S,B++bc S m) 0) 1) 2) 3).2)
 else(bY (ff S m) mb m.v,(B++bc S m)++[m.edge])
structure r7(S:cR)(B bw:List Bool)(m:Mb)(mb:Int):Prop where
 st:jQ S
 mb:0<=mb/\mb<S.cols*S.rows
 qp : -1000000<=S.qp/\S.qp<=1000000
 good:nv m
 right:∀k,k<4->eV (m.v k)=true
 len:B.length<=600000
 lenw:bw.length<=600000
theorem ef{M:jm}(h:fv M){cols mb k:Int}{v:Int×Int}(hv:bK v):fv (cD M cols mb k v):=Gp h hv
theorem kg{M:jm}(h:fv M){cols mb:Int}{v:Nat->Int×Int}(hv:∀k,bK (v k)):fv (Eb M cols mb v):=ef (ef (ef (ef h (hv 0)) (hv 1)) (hv 2)) (hv 3)
theorem i9{S:cR}{m:Mb}(h:m.kind≠4):ff S m=S:=if_neg h
theorem zN{S:cR}{m:Mb}(h:m.kind=4):ff S m = {S with qp:=m.qp}:=if_pos h
theorem DX(a b c d:List XC)(e e' e2 e3 e4 e5 e6 e7:TypeId)(cs ds fs gs:List XC)(S S':cR):fM (.cells a e false false::bz e' cs::(iz S++[.cells c e5 false false,bz e6 fs])) (.cells b e2 false false :: .dead::(iz S'++[.cells d e7 false false,.dead,bz e3 ds,bz e4 gs]))=true:=by
 cases cs<;>cases ds<;>cases fs<;>cases gs<;>simp[fM,aj.live,aj.own,bz]
theorem EH{B bw:List Bool}{S:cR}{m:Mb}{mb:Int}{x:qX}(hc:bm prog 93 [.one (.ptr 2 0),.one (.ptr 0 0),.one (.ptr 22 0),.one (.int .i64 mb),.agg (mC m)] (aO 1 B::au B::(iz S++[aO 23 bw,au bw])) (.one (.int .i64 0)) (aO 24 (ep x) :: .dead::(iz x.S++[aO 25 (cJ bw x 6),.dead,au (ep x),au (cJ bw x 6)])))
 {HS:ah} {k:Nat}(hi:HS[0]? = some (aO k B)) (hk:HS[k]? = some (au B)) (hS:(HS.drop 2).take 20=iz S) (h22:HS[22]? = some (aO 23 bw)) (h23:HS[23]? = some (au bw)) (hd:(k==1||Nat.ble 24 k)=true) {N:Nat}(hN:HS.length=N) (hbd:Nat.blt (N+2) Mem.bound=true) :
 aA.Sound prog ⟨93,[.one (.ptr 2 0),.one (.ptr 0 0),.one (.ptr 22 0),.one (.int .i64 mb),.agg (mC m)],HS,.one (.int .i64 0),bC HS ((0::k::dg)++[22,23]) (aO N (ep x) :: .dead::(iz x.S++[aO (N+1) (cJ bw x 6),.dead,au (ep x),au (cJ bw x 6)])),(0::k::dg)++[22,23]⟩:=by
 subst hN;have hkk:k=1\/24<=k:=by simpa [Nat.ble_eq]using hd
 have nd0:=AI (k:=k) (by omega)
 have nd:((0::k::dg)++[22,23]).Nodup:=by
  refine List.nodup_append.2 ⟨nd0,by decide,fun a ha b hb=>?_⟩;have hb':b=22\/b=23:=by simpa using hb
  simp only[dg,List.mem_cons,List.not_mem_nil,or_false]at ha;omega
 have ht:∀j,2<=j->j<22->nth ((0::k::dg)++[22,23]) j=j:=yf k _
 have ht':∀j,2<=j->j<22->nth (((0::k::dg)++[22,23])++List.range' HS.length 2) j=j:=fun j h1 h2=>by
  rw[List.append_assoc];exact yf k _ j h1 h2
 have hv:=yD S ht hS (ls:=[22,23]) (l:=[aO 23 bw,au bw]) (af.gT h22 rfl rfl rfl (.flat h23 .nil));have ho:=nZ S 24 (by omega) (l:=[aO 23 bw,au bw]) (.cons (by simp[aj.br,XC.ok,aJ]) (.flat .nil));have ho':=nZ x.S 26 (by omega) (l:=[aO 25 (cJ bw x 6),.dead,au (ep x),au (cJ bw x 6)]) (.cons (by simp[aj.br,XC.ok,aJ]) (.flat (.flat (.flat .nil))));have hr:=yC x.S ht' (l:=[aO 25 (cJ bw x 6),.dead,au (ep x),au (cJ bw x 6)]) (l':=[aO (HS.length+1) (cJ bw x 6),.dead,au (ep x),au (cJ bw x 6)]) (.cons (by simp only[aj.aB,List.map_cons,List.map_nil,XC.aB,aX];rfl) (.flat (.flat (.flat .nil))));have hlen:(bC HS ((0::k::dg)++[22,23]) (aO HS.length (ep x) :: .dead::(iz x.S++[aO (HS.length+1) (cJ bw x 6),.dead,au (ep x),au (cJ bw x 6)]))).length=HS.length+2:=uN _ _ _ (by show 24<=26;omega);refine bp ((0::k::dg)++[22,23]) ((0::k::dg)++[22,23]) 2 hc nd (af.gT hi rfl rfl rfl (.flat hk hv)) (.cons (by simp[aj.br,XC.ok,aJ]) (.flat ho)) (.cons (by simp[aj.br,XC.ok,aJ]) (.flat ho')) rfl (.cons (by show 2<24;omega) (.cons (by show 0<24;omega) (.cons (by show 22<24;omega) (.flat (.flat .nil))))) (.cons rfl (.cons rfl (.cons rfl (.flat (.flat .nil))))) (b7.ok _) (b7.aB _) ?_ (DX ..) rfl rfl (by rw[hlen];exact hbd) (.inl rfl);exact .cons (by simp only[aj.aB,List.map_cons,List.map_nil,XC.aB,aX];rfl) (.flat hr)
theorem ou{B bw:List Bool}{S:cR}{m:Mb}{mb:Int}{x:qX}(hc:bm prog 93 [.one (.ptr 2 0),.one (.ptr 0 0),.one (.ptr 22 0),.one (.int .i64 mb),.agg (mC m)] [aO 1 B,au B,jg (S),eP 4 8 12,aU 5 6 7 cM,cL cM,cQ cM,cN cM,aU 9 10 11 cZ,cL cZ,cQ cZ,cN cZ,aU 13 14 15 cP,cL cP,cQ cP,cN cP,fi 17 (S).cols (S).rows,.map (cx (S).M),.cells [.int .i64 (S).cols,.int .i64 (S).rows,.map 19,.map 20,.map 21] 220 false false,.map (ak (S).A),.map (ak (S).B),.map (ak (S).C),aO 23 bw,au bw] (.one (.int .i64 0)) [aO 24 (ep x),.dead,jg (x.S),eP 4 8 12,aU 5 6 7 cM,cL cM,cQ cM,cN cM,aU 9 10 11 cZ,cL cZ,cQ cZ,cN cZ,aU 13 14 15 cP,cL cP,cQ cP,cN cP,fi 17 (x.S).cols (x.S).rows,.map (cx (x.S).M),.cells [.int .i64 (x.S).cols,.int .i64 (x.S).rows,.map 19,.map 20,.map 21] 220 false false,.map (ak (x.S).A),.map (ak (x.S).B),.map (ak (x.S).C),aO 25 (cJ bw x 6),.dead,au (ep x),au (cJ bw x 6)])
 {HS:ah} {k:Nat}(hi:HS[0]? = some (aO k B)) (hk:HS[k]? = some (au B)) (hS:(HS.drop 2).take 20=iz S) (h22:HS[22]? = some (aO 23 bw)) (h23:HS[23]? = some (au bw)) (hd:(k==1||Nat.ble 24 k)=true) {N:Nat}(hN:HS.length=N) {HS':ah}(hh:bC HS [0,k,2,3,4,5,6,7,8,9,10,11,12,13,14,15,16,17,18,19,20,21,22,23] [aO N (ep x),.dead,jg (x.S),eP 4 8 12,aU 5 6 7 cM,cL cM,cQ cM,cN cM,aU 9 10 11 cZ,cL cZ,cQ cZ,cN cZ,aU 13 14 15 cP,cL cP,cQ cP,cN cP,fi 17 (x.S).cols (x.S).rows,.map (cx (x.S).M),.cells [.int .i64 (x.S).cols,.int .i64 (x.S).rows,.map 19,.map 20,.map 21] 220 false false,.map (ak (x.S).A),.map (ak (x.S).B),.map (ak (x.S).C),aO (N+1) (cJ bw x 6),.dead,au (ep x),au (cJ bw x 6)]=HS') (hbd:Nat.blt (N+2) Mem.bound=true) :
 aA.Sound prog ⟨93,[.one (.ptr 2 0),.one (.ptr 0 0),.one (.ptr 22 0),.one (.int .i64 mb),.agg (mC m)],HS,.one (.int .i64 0),HS',(0::k::dg)++[22,23]⟩:=by
 subst hh;exact EH hc hi hk hS h22 h23 hd hN hbd
theorem Q1{S:cR}{B bw:List Bool}{m:Mb}{mb:Int}(hP:r7 S B bw m mb)(hk:m.kind=0) :
 bm prog 63 [.one (.ptr 2 0),.one (.ptr 0 0),.one (.ptr 22 0),.one (.int .i64 mb),.agg (mC m)] [aO 1 B,au B,jg (S),eP 4 8 12,aU 5 6 7 cM,cL cM,cQ cM,cN cM,aU 9 10 11 cZ,cL cZ,cQ cZ,cN cZ,aU 13 14 15 cP,cL cP,cQ cP,cN cP,fi 17 (S).cols (S).rows,.map (cx (S).M),.cells [.int .i64 (S).cols,.int .i64 (S).rows,.map 19,.map 20,.map 21] 220 false false,.map (ak (S).A),.map (ak (S).B),.map (ak (S).C),aO 23 bw,au bw] (.one (.int .i64 0)) [aO 24 ((B++bc S m)),.dead,jg (bY S mb m.v),eP 4 8 12,aU 5 6 7 cM,cL cM,cQ cM,cN cM,aU 9 10 11 cZ,cL cZ,cQ cZ,cN cZ,aU 13 14 15 cP,cL cP,cQ cP,cN cP,fi 17 (bY S mb m.v).cols (bY S mb m.v).rows,.map (cx (bY S mb m.v).M),.cells [.int .i64 (bY S mb m.v).cols,.int .i64 (bY S mb m.v).rows,.map 19,.map 20,.map 21] 220 false false,.map (ak (bY S mb m.v).A),.map (ak (bY S mb m.v).B),.map (ak (bY S mb m.v).C),aO 25 bw,.dead,au ((B++bc S m)),au bw]:=by
 have hg:=hP.good;have hm:=hg.ok;have hD:=hP.st.dims;have hmb:=hP.mb;have hlen:=hP.len;have hkl:=jL S m;have hK:=nO B S m hm hg.kind hP.qp (by omega);rw[i9 (by omega)]at hK;have htE:fv S.M:=hP.st.tiny;refine cO Tryz.func63 ?_
 repeat' (first
  |(refine qz ?_;first
   |refine lI ?_ (hle:=by rw[aY])
   |refine cl ?_ (hi:=by exact AN (S:=S) (S':=S) (bs:=B) (bs':=B++bc S m) (fun _ => .flat .nil) (.flat .nil) rfl hK rfl rfl rfl rfl nL nA rfl)
   |refine cl ?_ (hi:=by exact n6 (S:=S) (bs:=(B++bc S m)) hD hmb rfl rfl rfl rfl nA rfl))
  |refine zz ?_|refine zx (fun _=>?_) (fun _=>?_)|fail)
 show aE _ _ _ _ _ _ _ _;refine kV [0,1,2,3,4,5,6,7,8,9,10,11,12,13,14,15,16,17,18,19,20,21,22,23,25,23] ?_;rfl
theorem Q2{S:cR}{B bw:List Bool}{m:Mb}{mb:Int}(hP:r7 S B bw m mb)(hk:m.kind=1)(x:qX)(hx:jS m mb ⟨bY (aQ m mb (S,B++bc S m) 0).1 mb m.v,(aQ m mb (S,B++bc S m) 0).2,0,0,fun _=>[]⟩ 6=some x) :
 bm prog 63 [.one (.ptr 2 0),.one (.ptr 0 0),.one (.ptr 22 0),.one (.int .i64 mb),.agg (mC m)] [aO 1 B,au B,jg (S),eP 4 8 12,aU 5 6 7 cM,cL cM,cQ cM,cN cM,aU 9 10 11 cZ,cL cZ,cQ cZ,cN cZ,aU 13 14 15 cP,cL cP,cQ cP,cN cP,fi 17 (S).cols (S).rows,.map (cx (S).M),.cells [.int .i64 (S).cols,.int .i64 (S).rows,.map 19,.map 20,.map 21] 220 false false,.map (ak (S).A),.map (ak (S).B),.map (ak (S).C),aO 23 bw,au bw] (.one (.int .i64 0)) [aO 24 (ep x),.dead,jg (x.S),eP 4 8 12,aU 5 6 7 cM,cL cM,cQ cM,cN cM,aU 9 10 11 cZ,cL cZ,cQ cZ,cN cZ,aU 13 14 15 cP,cL cP,cQ cP,cN cP,fi 17 (x.S).cols (x.S).rows,.map (cx (x.S).M),.cells [.int .i64 (x.S).cols,.int .i64 (x.S).rows,.map 19,.map 20,.map 21] 220 false false,.map (ak (x.S).A),.map (ak (x.S).B),.map (ak (x.S).C),aO 25 (cJ bw x 6),.dead,au (ep x),au (cJ bw x 6)]:=by
 have hg:=hP.good;have hm:=hg.ok;have hD:=hP.st.dims;have hmb:=hP.mb;have hlen:=hP.len;have hkl:=jL S m;have hK:=nO B S m hm hg.kind hP.qp (by omega);rw[i9 (by omega)]at hK;have ht0:fv (S.M):=hP.st.tiny;have hl0:=lQ (m.v 0) (gk (S.M) S.cols S.rows mb 0);have htE:fv (cD (S.M) S.cols mb 0 (m.v 0)):=ef ht0 (hm.v 0)
 have hS2:jQ (bY (aQ m mb (S,B++bc S m) 0).1 mb m.v):=⟨hD,hP.st.lev,kg htE hm.v⟩
 have hB2:((aQ m mb (S,B++bc S m) 0).2).length<=700000:=by
  show(((B++bc S m)++gM (m.v 0) (gk (S.M) S.cols S.rows mb 0))).length<=700000;simp only[List.length_append,List.length_cons,List.length_nil];omega
 refine cO Tryz.func63 ?_
 repeat' (first
  |(refine qz ?_;first
   |refine lI ?_ (hle:=by rw[aY])
   |refine cl ?_ (hi:=by exact AN (S:=S) (S':=S) (bs:=B) (bs':=B++bc S m) (fun _ => .flat .nil) (.flat .nil) rfl hK rfl rfl rfl rfl nL nA rfl)
   |refine cl ?_ (hi:=by exact qN (M:=S.M) (k:=0) ht0 hD hmb (by decide) (i:=16) (j:=17) rfl rfl (by decide) rfl)
   |refine cl ?_ (hi:=by exact qO (bs:=(B++bc S m)) (v:=m.v 0) (e:=gk (S.M) S.cols S.rows mb 0) (hm.v 0) (lP ht0) (hP.right 0 (by decide)) (by simp only[List.length_append];omega) rfl rfl (by decide) nL nA rfl)
   |refine cl ?_ (hi:=by exact jF (M:=S.M) (k:=0) (v:=m.v 0) hD hmb (by decide) (i:=16) (j:=17) rfl rfl (by decide) nA rfl)
   |refine cl ?_ (hi:=by exact n6 (S:=(aQ m mb (S,B++bc S m) 0).1) (bs:=(aQ m mb (S,B++bc S m) 0).2) hD hmb rfl rfl rfl rfl nA rfl)
   |refine cl ?_ (hi:=by exact ou (B:=(aQ m mb (S,B++bc S m) 0).2) (S:=bY (aQ m mb (S,B++bc S m) 0).1 mb m.v) (ov ((aQ m mb (S,B++bc S m) 0).2) bw (bY (aQ m mb (S,B++bc S m) 0).1 mb m.v) m mb hg hS2 hmb hB2 (by have:=hP.lenw;omega) x hx) rfl rfl rfl rfl rfl rfl nL nA rfl))
  |refine WX.loop ?_|refine WX.round ?_|refine zz ?_|refine zx (fun _=>?_) (fun _=>?_)|fail)
 show aE _ _ _ _ _ _ _ _;refine kV [0,1,2,3,4,5,6,7,8,9,10,11,12,13,14,15,16,17,18,19,20,21,22,23,27,28] ?_;rfl
end Go.Proofs.YthdciapjllppjaaGreat
