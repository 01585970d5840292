/-
  A part of the proof: Sta4, Put0, Put1.
-/
import Derived.Test.YthdciapjllppjaaGreatWaT
import Derived.Test.YthdciapjllppjaaGreatWaU
set_option maxRecDepth 10000
set_option maxHeartbeats 8000000
set_option linter.unusedVariables false
set_option linter.unusedSectionVars false
set_option linter.unusedSimpArgs false
open Go.Proofs.Tryz (prog)
namespace Go.Proofs.YthdciapjllppjaaGreat
open Go.Xm
variable [ak]
theorem rO:∀(ls:List Nat) (os HS:ah) (ls2:List Nat) (os2:ah),os.length=ls.length->(∀(j i:Nat),ls[j]? = some i->∃o,HS[i]? = some o/\os[j]? = some o)->bE HS (ls++ls2) (os++os2)=bE HS ls2 os2
 | [],[],HS,ls2,os2,_,_=>by simp
 | [],_::_,_,_,_,h,_=>by simp at h
 | _::_,[],_,_,_,h,_=>by simp at h
 | i::ls,o::os,HS,ls2,os2,h,hg=>by
   obtain⟨o',h1,h2⟩:=hg 0 i rfl;have:o'=o:=by simpa using h2.symm
   subst this;show bE (HS.set i o') (ls++ls2) (os++os2)=_;rw[aF h1];exact rO ls os HS ls2 os2 (by simpa using h) fun j i' hj=>hg (j+1) i' hj
theorem yz{j i:Nat}(h:dm[j]? = some i):j<20/\i=j+2:=by
 have hjl:j<20:=(List.getElem?_eq_some_iff.1 h).1;have hq:∀q:Fin 20,dm[q.val]? = some (q.val+2):=by decide
 have:=hq ⟨j,hjl⟩;rw[h]at this;exact⟨hjl,by simpa using this⟩
theorem Cz{S:cD}{HS:ah}(hS:(HS.drop 2).take 20=iR S){j:Nat}(hj:j<20):HS[j+2]? = (iR S)[j]?:=by
 rw[<-hS,List.getElem?_take,if_pos hj,List.getElem?_drop]
 congr 1
 omega
theorem uW(ls:List Nat)(os HS l:ah)(h:os.length=ls.length)(hg:∀(j i:Nat),ls[j]? = some i->∃o,HS[i]? = some o/\os[j]? = some o):bE HS ls (os++l)=HS++l:=by
 have:=rO ls os HS [] l h hg;rw[List.append_nil]at this;rw[this,bE]
theorem AK{f:FuncId}{more:List XV}(hm:∀τ,eV τ more more)(hmo:gS 22 more){v:XV}[bZ v]{bs bs':List Bool}{S S':cD}(hT:(iR S').tail=(iR S).tail)(hc:bq prog f (.one (.ptr 2 0) :: .one (.ptr 0 0)::more) (aO 1 bs::au bs::iR S) v (aO 22 bs' :: .dead::(iR S'++[au bs'])))
 {HS:ah} {k:Nat}(hi:HS[0]? = some (aO k bs)) (hk:HS[k]? = some (au bs)) (hS:(HS.drop 2).take 20=iR S) (hd:(k==1||Nat.ble 22 k)=true) {N:Nat}(hN:HS.length=N) {HS':ah}(hh:bE HS [0,k,2] [aO N bs',.dead,jz S',au bs']=HS') (hbd:Nat.blt HS'.length Mem.bound=true) :
 az.Sound prog ⟨f,.one (.ptr 2 0) :: .one (.ptr 0 0)::more,HS,v,HS',0::k::dm⟩:=by
 refine Nq hm hmo hc hi hk hS hd hN ?_ hbd;rw[<-hh];have hkk:k=1\/22<=k:=by simpa [Nat.ble_eq]using hd
 have e1:iR S'++[au bs']=jz S'::((iR S).tail++[au bs']):=by rw[<-hT];rfl
 have e2:dm=2::dm.tail:=rfl;rw[e1,e2,bE,bE,bE,bE,bE,bE,bE];refine uW dm.tail (iR S).tail _ _ rfl fun j i hj=>?_
 have hj':dm[j+1]? = some i:=hj;obtain⟨h1,rfl⟩:=yz hj';have hl:j+1<(iR S).length:=h1;refine⟨(iR S)[j+1],?_,?_⟩
 ·rw[List.getElem?_set_ne (by omega),List.getElem?_set_ne (by omega),List.getElem?_set_ne (by omega),Cz hS h1,List.getElem?_eq_getElem hl]
 ·rw[List.getElem?_tail,List.getElem?_eq_getElem hl]
theorem yf(k:Nat)(r:List Nat):∀j,2<=j->j<22->nth ((0::k::dm)++r) j=j:=fun j h1 h2=>by
 have hq:∀q:Fin 20,dm[q.val]? = some (q.val+2):=by decide
 obtain⟨q,rfl⟩:∃q,j=q+2:=⟨j-2,by omega⟩
 have:=hq ⟨q,by omega⟩;unfold nth;rw[List.getD_eq_getElem?_getD];show((dm++r)[q]?).getD 0=q+2;rw[List.getElem?_append_left (show q<dm.length by show q<20;omega),this];rfl
theorem AE{k:Nat}(hkk:k=1\/22<=k):(0::k::dm).Nodup:=by
 have h0:0∉dm:=by decide
 have hk':k∉dm:=by
  intro h;simp only[dm,List.mem_cons,List.not_mem_nil,or_false]at h;omega
 exact List.nodup_cons.2 ⟨fun h=>(List.mem_cons.1 h).elim (fun e=>by omega) h0,List.nodup_cons.2 ⟨hk',by decide⟩⟩
theorem Jb(a:List XC)(e e':TypeId)(cs:List XC)(S S':cD):gK (.cells a e false false::bR e' cs::iR S) (.cells a e false false::bR e' cs::iR S')=true:=by
 cases cs<;>simp[gK,aj.live,aj.own,bR]
theorem n_{bs:List Bool}{S:cD}(hD:lP S.cols S.rows){mb:Int}(hmb:0<=mb/\mb<S.cols*S.rows){m:Mb}{HS:ah}{k:Nat}(hi:HS[0]? = some (aO k bs))(hk:HS[k]? = some (au bs))(hS:(HS.drop 2).take 20=iR S)(hd:(k==1||Nat.ble 22 k)=true){HS':ah}(hh:HS.set 17 (.map (cB (Ea S.M S.cols mb m.v)))=HS')(hbd:Nat.blt HS'.length Mem.bound=true) :
 az.Sound prog ⟨89,[.one (.ptr 2 0),.one (.int .i64 mb),.agg (mC m)],HS,.tup [],HS',[17]⟩:=by
 have hkk:k=1\/22<=k:=by simpa [Nat.ble_eq]using hd
 have nd:=AE hkk
 have ht:∀j,2<=j->j<22->nth (0::k::dm) j=j:=fun j h1 h2=>by
  have:=yf k [] j h1 h2;rwa [List.append_nil]at this
 have ht':∀j,2<=j->j<22->nth ((0::k::dm)++List.range' HS.length 0) j=j:=yf k _;have hv:=yx S ht hS (ls:=[]) .nil;rw[List.append_nil,List.append_nil]at hv;have ho:=n8 S 22 (Nat.le_refl _) (l:=[]) .nil;rw[List.append_nil]at ho;have ho':=n8 (bX S mb m.v) 22 (Nat.le_refl _) (l:=[]) .nil;rw[List.append_nil]at ho';have hr:=yw (bX S mb m.v) ht' (l:=[]) (l':=[]) .nil;rw[List.append_nil]at hr
 have hh' : bE HS (0::k::dm) (aO k bs::au bs::iR (bX S mb m.v))=HS':=by
  rw[<-hh];have e1:(aO k bs::au bs::iR (bX S mb m.v))=(aO k bs::au bs::(iR S).take 15)++(.map (cB (Ea S.M S.cols mb m.v))::((iR S).drop 16++[])):=rfl;have e2:(0::k::dm)=(0::k::dm.take 15)++(17::dm.drop 16):=rfl;rw[e1,e2,rO _ _ _ _ _ rfl]
  ·rw[bE];rw[uW (dm.drop 16) ((iR S).drop 16) _ [] rfl,List.append_nil];intro j i hj;rw[List.getElem?_drop]at hj;obtain⟨h1,rfl⟩:=yz hj;have hl:16+j<(iR S).length:=h1;refine⟨(iR S)[16+j],?_,?_⟩
   ·rw[List.getElem?_set_ne (by omega),Cz hS h1,List.getElem?_eq_getElem hl]
   ·rw[List.getElem?_drop,List.getElem?_eq_getElem hl]
  ·intro j i hj
   match j,hj with
   | 0,hj=>cases hj;exact⟨_,hi,rfl⟩
   | 1,hj=>cases hj;exact⟨_,hk,rfl⟩
   | j + 2,hj=>
     have hj2:(dm.take 15)[j]? = some i:=hj;rw[List.getElem?_take]at hj2;split at hj2
     ·rename_i h15;obtain⟨h1,rfl⟩:=yz hj2;have hl:j<(iR S).length:=h1;refine⟨(iR S)[j],?_,?_⟩
      ·rw[Cz hS h1,List.getElem?_eq_getElem hl]
      ·show((iR S).take 15)[j]? = _;rw[List.getElem?_take,if_pos h15,List.getElem?_eq_getElem hl]
     ·cases hj2
 refine bz (0::k::dm) [17] 0 (F9 bs S hD mb hmb m) nd (af.ik hi rfl rfl rfl (.flat hk hv)) (.cons (by simp[aj.bH,XC.ok,aJ]) (.flat ho)) (.cons (by simp[aj.bH,XC.ok,aJ]) (.flat ho')) rfl (.cons (by show 2<22;omega) (.flat (.flat .nil))) (.cons rfl (.flat (.flat .nil))) (bZ.ok _) (bZ.aB _) ?_ (Jb ..) rfl hh' hbd (.inr fun j hjl hj=>?_)
 ·exact .cons (by simp only[aj.aB,List.map_cons,List.map_nil,XC.aB,aU];rfl) (.flat hr)
 ·subst hh;exact List.getElem?_set_ne (fun h=>hj (by rw[<-h];exact List.mem_singleton.2 rfl))
def aS(m:Mb)(mb:Int)(x:cD×List Bool)(k:Nat):cD×List Bool:=({x.1 with M:=cH x.1.M x.1.cols mb k (m.v k)},x.2++hJ (m.v k) (gG x.1.M x.1.cols x.1.rows mb k))
def fN(S:cD)(B:List Bool)(m:Mb)(mb:Int):cD×List Bool:=
 if m.kind=0 then(bX S mb m.v,B++bj S m)
 else if m.kind=1 then(bX (aS m mb (S,B++bj S m) 0).1 mb m.v,(aS m mb (S,B++bj S m) 0).2)
 else if m.kind=2 then(bX (aS m mb (aS m mb (aS m mb (aS m mb (S,B++bj S m) 0) 1) 2) 3).1 mb m.v,(aS m mb (aS m mb (aS m mb (aS m mb (S,B++bj S m) 0) 1) 2) 3).2)
 else(bX (fx S m) mb m.v,(B++bj S m)++[m.edge])
structure sf(S:cD)(B bw:List Bool)(m:Mb)(mb:Int):Prop where
 st:kg S
 mb:0<=mb/\mb<S.cols*S.rows
 qp : -1000000<=S.qp/\S.qp<=1000000
 good:nw m
 right:∀k,k<4->fg (m.v k)=true
 len:B.length<=600000
 lenw:bw.length<=600000
theorem eh{M:jF}(h:fH M){cols mb k:Int}{v:Int×Int}(hv:bJ v):fH (cH M cols mb k v):=Gg h hv
theorem kH{M:jF}(h:fH M){cols mb:Int}{v:Nat->Int×Int}(hv:∀k,bJ (v k)):fH (Ea M cols mb v):=eh (eh (eh (eh h (hv 0)) (hv 1)) (hv 2)) (hv 3)
theorem ju{S:cD}{m:Mb}(h:m.kind≠4):fx S m=S:=if_neg h
theorem zH{S:cD}{m:Mb}(h:m.kind=4):fx S m = {S with qp:=m.qp}:=if_pos h
theorem DU(a b c d:List XC)(e e' e2 e3 e4 e5 e6 e7:TypeId)(cs ds fs gs:List XC)(S S':cD):gK (.cells a e false false::bR e' cs::(iR S++[.cells c e5 false false,bR e6 fs])) (.cells b e2 false false :: .dead::(iR S'++[.cells d e7 false false,.dead,bR e3 ds,bR e4 gs]))=true:=by
 cases cs<;>cases ds<;>cases fs<;>cases gs<;>simp[gK,aj.live,aj.own,bR]
theorem EJ{B bw:List Bool}{S:cD}{m:Mb}{mb:Int}{x:ri}(hc:bq prog 93 [.one (.ptr 2 0),.one (.ptr 0 0),.one (.ptr 22 0),.one (.int .i64 mb),.agg (mC m)] (aO 1 B::au B::(iR S++[aO 23 bw,au bw])) (.one (.int .i64 0)) (aO 24 (eG x) :: .dead::(iR x.S++[aO 25 (cV bw x 6),.dead,au (eG x),au (cV bw x 6)])))
 {HS:ah} {k:Nat}(hi:HS[0]? = some (aO k B)) (hk:HS[k]? = some (au B)) (hS:(HS.drop 2).take 20=iR S) (h22:HS[22]? = some (aO 23 bw)) (h23:HS[23]? = some (au bw)) (hd:(k==1||Nat.ble 24 k)=true) {N:Nat}(hN:HS.length=N) (hbd:Nat.blt (N+2) Mem.bound=true) :
 az.Sound prog ⟨93,[.one (.ptr 2 0),.one (.ptr 0 0),.one (.ptr 22 0),.one (.int .i64 mb),.agg (mC m)],HS,.one (.int .i64 0),bE HS ((0::k::dm)++[22,23]) (aO N (eG x) :: .dead::(iR x.S++[aO (N+1) (cV bw x 6),.dead,au (eG x),au (cV bw x 6)])),(0::k::dm)++[22,23]⟩:=by
 subst hN;have hkk:k=1\/24<=k:=by simpa [Nat.ble_eq]using hd
 have nd0:=AE (k:=k) (by omega)
 have nd:((0::k::dm)++[22,23]).Nodup:=by
  refine List.nodup_append.2 ⟨nd0,by decide,fun a ha b hb=>?_⟩;have hb':b=22\/b=23:=by simpa using hb
  simp only[dm,List.mem_cons,List.not_mem_nil,or_false]at ha;omega
 have ht:∀j,2<=j->j<22->nth ((0::k::dm)++[22,23]) j=j:=yf k _
 have ht':∀j,2<=j->j<22->nth (((0::k::dm)++[22,23])++List.range' HS.length 2) j=j:=fun j h1 h2=>by
  rw[List.append_assoc];exact yf k _ j h1 h2
 have hv:=yx S ht hS (ls:=[22,23]) (l:=[aO 23 bw,au bw]) (af.ik h22 rfl rfl rfl (.flat h23 .nil));have ho:=n8 S 24 (by omega) (l:=[aO 23 bw,au bw]) (.cons (by simp[aj.bH,XC.ok,aJ]) (.flat .nil));have ho':=n8 x.S 26 (by omega) (l:=[aO 25 (cV bw x 6),.dead,au (eG x),au (cV bw x 6)]) (.cons (by simp[aj.bH,XC.ok,aJ]) (.flat (.flat (.flat .nil))));have hr:=yw x.S ht' (l:=[aO 25 (cV bw x 6),.dead,au (eG x),au (cV bw x 6)]) (l':=[aO (HS.length+1) (cV bw x 6),.dead,au (eG x),au (cV bw x 6)]) (.cons (by simp only[aj.aB,List.map_cons,List.map_nil,XC.aB,aU];rfl) (.flat (.flat (.flat .nil))));have hlen:(bE HS ((0::k::dm)++[22,23]) (aO HS.length (eG x) :: .dead::(iR x.S++[aO (HS.length+1) (cV bw x 6),.dead,au (eG x),au (cV bw x 6)]))).length=HS.length+2:=uX _ _ _ (by show 24<=26;omega);refine bz ((0::k::dm)++[22,23]) ((0::k::dm)++[22,23]) 2 hc nd (af.ik hi rfl rfl rfl (.flat hk hv)) (.cons (by simp[aj.bH,XC.ok,aJ]) (.flat ho)) (.cons (by simp[aj.bH,XC.ok,aJ]) (.flat ho')) rfl (.cons (by show 2<24;omega) (.cons (by show 0<24;omega) (.cons (by show 22<24;omega) (.flat (.flat .nil))))) (.cons rfl (.cons rfl (.cons rfl (.flat (.flat .nil))))) (bZ.ok _) (bZ.aB _) ?_ (DU ..) rfl rfl (by rw[hlen];exact hbd) (.inl rfl);exact .cons (by simp only[aj.aB,List.map_cons,List.map_nil,XC.aB,aU];rfl) (.flat hr)
theorem oB{B bw:List Bool}{S:cD}{m:Mb}{mb:Int}{x:ri}(hc:bq prog 93 [.one (.ptr 2 0),.one (.ptr 0 0),.one (.ptr 22 0),.one (.int .i64 mb),.agg (mC m)] [aO 1 B,au B,jz (S),eZ 4 8 12,aW 5 6 7 cM,c6 cM,c9 cM,c7 cM,aW 9 10 11 cZ,c6 cZ,c9 cZ,c7 cZ,aW 13 14 15 cP,c6 cP,c9 cP,c7 cP,fA 17 (S).cols (S).rows,.map (cB (S).M),.cells [.int .i64 (S).cols,.int .i64 (S).rows,.map 19,.map 20,.map 21] 220 false false,.map (aq (S).A),.map (aq (S).B),.map (aq (S).C),aO 23 bw,au bw] (.one (.int .i64 0)) [aO 24 (eG x),.dead,jz (x.S),eZ 4 8 12,aW 5 6 7 cM,c6 cM,c9 cM,c7 cM,aW 9 10 11 cZ,c6 cZ,c9 cZ,c7 cZ,aW 13 14 15 cP,c6 cP,c9 cP,c7 cP,fA 17 (x.S).cols (x.S).rows,.map (cB (x.S).M),.cells [.int .i64 (x.S).cols,.int .i64 (x.S).rows,.map 19,.map 20,.map 21] 220 false false,.map (aq (x.S).A),.map (aq (x.S).B),.map (aq (x.S).C),aO 25 (cV bw x 6),.dead,au (eG x),au (cV bw x 6)])
 {HS:ah} {k:Nat}(hi:HS[0]? = some (aO k B)) (hk:HS[k]? = some (au B)) (hS:(HS.drop 2).take 20=iR S) (h22:HS[22]? = some (aO 23 bw)) (h23:HS[23]? = some (au bw)) (hd:(k==1||Nat.ble 24 k)=true) {N:Nat}(hN:HS.length=N) {HS':ah}(hh:bE HS [0,k,2,3,4,5,6,7,8,9,10,11,12,13,14,15,16,17,18,19,20,21,22,23] [aO N (eG x),.dead,jz (x.S),eZ 4 8 12,aW 5 6 7 cM,c6 cM,c9 cM,c7 cM,aW 9 10 11 cZ,c6 cZ,c9 cZ,c7 cZ,aW 13 14 15 cP,c6 cP,c9 cP,c7 cP,fA 17 (x.S).cols (x.S).rows,.map (cB (x.S).M),.cells [.int .i64 (x.S).cols,.int .i64 (x.S).rows,.map 19,.map 20,.map 21] 220 false false,.map (aq (x.S).A),.map (aq (x.S).B),.map (aq (x.S).C),aO (N+1) (cV bw x 6),.dead,au (eG x),au (cV bw x 6)]=HS') (hbd:Nat.blt (N+2) Mem.bound=true) :
 az.Sound prog ⟨93,[.one (.ptr 2 0),.one (.ptr 0 0),.one (.ptr 22 0),.one (.int .i64 mb),.agg (mC m)],HS,.one (.int .i64 0),HS',(0::k::dm)++[22,23]⟩:=by
 subst hh;exact EJ hc hi hk hS h22 h23 hd hN hbd
theorem Ri{S:cD}{B bw:List Bool}{m:Mb}{mb:Int}(hP:sf S B bw m mb)(hk:m.kind=0) :
 bq prog 63 [.one (.ptr 2 0),.one (.ptr 0 0),.one (.ptr 22 0),.one (.int .i64 mb),.agg (mC m)] [aO 1 B,au B,jz (S),eZ 4 8 12,aW 5 6 7 cM,c6 cM,c9 cM,c7 cM,aW 9 10 11 cZ,c6 cZ,c9 cZ,c7 cZ,aW 13 14 15 cP,c6 cP,c9 cP,c7 cP,fA 17 (S).cols (S).rows,.map (cB (S).M),.cells [.int .i64 (S).cols,.int .i64 (S).rows,.map 19,.map 20,.map 21] 220 false false,.map (aq (S).A),.map (aq (S).B),.map (aq (S).C),aO 23 bw,au bw] (.one (.int .i64 0)) [aO 24 ((B++bj S m)),.dead,jz (bX S mb m.v),eZ 4 8 12,aW 5 6 7 cM,c6 cM,c9 cM,c7 cM,aW 9 10 11 cZ,c6 cZ,c9 cZ,c7 cZ,aW 13 14 15 cP,c6 cP,c9 cP,c7 cP,fA 17 (bX S mb m.v).cols (bX S mb m.v).rows,.map (cB (bX S mb m.v).M),.cells [.int .i64 (bX S mb m.v).cols,.int .i64 (bX S mb m.v).rows,.map 19,.map 20,.map 21] 220 false false,.map (aq (bX S mb m.v).A),.map (aq (bX S mb m.v).B),.map (aq (bX S mb m.v).C),aO 25 bw,.dead,au ((B++bj S m)),au bw]:=by
 have hg:=hP.good;have hm:=hg.ok;have hD:=hP.st.dims;have hmb:=hP.mb;have hlen:=hP.len;have hkl:=j8 S m;have hK:=nQ B S m hm hg.kind hP.qp (by omega);rw[ju (by omega)]at hK;have htE:fH S.M:=hP.st.tiny;refine cO Tryz.func63 ?_
 repeat' (first
  |(refine qz ?_;first
   |refine jV ?_ (hle:=by rw[bl])
   |refine cl ?_ (hi:=by exact AK (S:=S) (S':=S) (bs:=B) (bs':=B++bj S m) (fun _ => .flat .nil) (.flat .nil) rfl hK rfl rfl rfl rfl nL nA rfl)
   |refine cl ?_ (hi:=by exact n_ (S:=S) (bs:=(B++bj S m)) hD hmb rfl rfl rfl rfl nA rfl))
  |refine zz ?_|refine zx (fun _=>?_) (fun _=>?_)|fail)
 show aE _ _ _ _ _ _ _ _;refine kV [0,1,2,3,4,5,6,7,8,9,10,11,12,13,14,15,16,17,18,19,20,21,22,23,25,23] ?_;rfl
theorem Rj{S:cD}{B bw:List Bool}{m:Mb}{mb:Int}(hP:sf S B bw m mb)(hk:m.kind=1)(x:ri)(hx:kh m mb ⟨bX (aS m mb (S,B++bj S m) 0).1 mb m.v,(aS m mb (S,B++bj S m) 0).2,0,0,fun _=>[]⟩ 6=some x) :
 bq prog 63 [.one (.ptr 2 0),.one (.ptr 0 0),.one (.ptr 22 0),.one (.int .i64 mb),.agg (mC m)] [aO 1 B,au B,jz (S),eZ 4 8 12,aW 5 6 7 cM,c6 cM,c9 cM,c7 cM,aW 9 10 11 cZ,c6 cZ,c9 cZ,c7 cZ,aW 13 14 15 cP,c6 cP,c9 cP,c7 cP,fA 17 (S).cols (S).rows,.map (cB (S).M),.cells [.int .i64 (S).cols,.int .i64 (S).rows,.map 19,.map 20,.map 21] 220 false false,.map (aq (S).A),.map (aq (S).B),.map (aq (S).C),aO 23 bw,au bw] (.one (.int .i64 0)) [aO 24 (eG x),.dead,jz (x.S),eZ 4 8 12,aW 5 6 7 cM,c6 cM,c9 cM,c7 cM,aW 9 10 11 cZ,c6 cZ,c9 cZ,c7 cZ,aW 13 14 15 cP,c6 cP,c9 cP,c7 cP,fA 17 (x.S).cols (x.S).rows,.map (cB (x.S).M),.cells [.int .i64 (x.S).cols,.int .i64 (x.S).rows,.map 19,.map 20,.map 21] 220 false false,.map (aq (x.S).A),.map (aq (x.S).B),.map (aq (x.S).C),aO 25 (cV bw x 6),.dead,au (eG x),au (cV bw x 6)]:=by
 have hg:=hP.good;have hm:=hg.ok;have hD:=hP.st.dims;have hmb:=hP.mb;have hlen:=hP.len;have hkl:=j8 S m;have hK:=nQ B S m hm hg.kind hP.qp (by omega);rw[ju (by omega)]at hK;have ht0:fH (S.M):=hP.st.tiny;have hl0:=l5 (m.v 0) (gG (S.M) S.cols S.rows mb 0);have htE:fH (cH (S.M) S.cols mb 0 (m.v 0)):=eh ht0 (hm.v 0)
 have hS2:kg (bX (aS m mb (S,B++bj S m) 0).1 mb m.v):=⟨hD,hP.st.lev,kH htE hm.v⟩
 have hB2:((aS m mb (S,B++bj S m) 0).2).length<=700000:=by
  show(((B++bj S m)++hJ (m.v 0) (gG (S.M) S.cols S.rows mb 0))).length<=700000;simp only[List.length_append,List.length_cons,List.length_nil];omega
 refine cO Tryz.func63 ?_
 repeat' (first
  |(refine qz ?_;first
   |refine jV ?_ (hle:=by rw[bl])
   |refine cl ?_ (hi:=by exact AK (S:=S) (S':=S) (bs:=B) (bs':=B++bj S m) (fun _ => .flat .nil) (.flat .nil) rfl hK rfl rfl rfl rfl nL nA rfl)
   |refine cl ?_ (hi:=by exact qR (M:=S.M) (k:=0) ht0 hD hmb (by decide) (i:=16) (j:=17) rfl rfl (by decide) rfl)
   |refine cl ?_ (hi:=by exact qS (bs:=(B++bj S m)) (v:=m.v 0) (e:=gG (S.M) S.cols S.rows mb 0) (hm.v 0) (lZ ht0) (hP.right 0 (by decide)) (by simp only[List.length_append];omega) rfl rfl (by decide) nL nA rfl)
   |refine cl ?_ (hi:=by exact jY (M:=S.M) (k:=0) (v:=m.v 0) hD hmb (by decide) (i:=16) (j:=17) rfl rfl (by decide) nA rfl)
   |refine cl ?_ (hi:=by exact n_ (S:=(aS m mb (S,B++bj S m) 0).1) (bs:=(aS m mb (S,B++bj S m) 0).2) hD hmb rfl rfl rfl rfl nA rfl)
   |refine cl ?_ (hi:=by exact oB (B:=(aS m mb (S,B++bj S m) 0).2) (S:=bX (aS m mb (S,B++bj S m) 0).1 mb m.v) (oC ((aS m mb (S,B++bj S m) 0).2) bw (bX (aS m mb (S,B++bj S m) 0).1 mb m.v) m mb hg hS2 hmb hB2 (by have:=hP.lenw;omega) x hx) rfl rfl rfl rfl rfl rfl nL nA rfl))
  |refine WX.loop ?_|refine WX.round ?_|refine zz ?_|refine zx (fun _=>?_) (fun _=>?_)|fail)
 show aE _ _ _ _ _ _ _ _;refine kV [0,1,2,3,4,5,6,7,8,9,10,11,12,13,14,15,16,17,18,19,20,21,22,23,27,28] ?_;rfl
end Go.Proofs.YthdciapjllppjaaGreat
