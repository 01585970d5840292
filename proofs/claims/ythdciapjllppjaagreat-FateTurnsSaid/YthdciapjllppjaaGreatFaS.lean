/-
  A part of the proof: Sta4, Put0, Put1.
-/
import Derived.Test.YthdciapjllppjaaGreatFaQ
import Derived.Test.YthdciapjllppjaaGreatFaR
set_option maxRecDepth 10000
set_option maxHeartbeats 8000000
set_option linter.unusedVariables false
set_option linter.unusedSectionVars false
set_option linter.unusedSimpArgs false
open Go.Proofs.Tryz (prog)
namespace Go.Proofs.YthdciapjllppjaaGreat
open Go.Xm
variable [av]
theorem sn:∀(ls:List Nat) (os HS:ah) (ls2:List Nat) (os2:ah),os.length=ls.length->(∀(j i:Nat),ls[j]? = some i->∃o,HS[i]? = some o/\os[j]? = some o)->bD HS (ls++ls2) (os++os2)=bD HS ls2 os2
 | [],[],HS,ls2,os2,_,_=>by simp
 | [],_::_,_,_,_,h,_=>by simp at h
 | _::_,[],_,_,_,h,_=>by simp at h
 | i::ls,o::os,HS,ls2,os2,h,hg=>by
   obtain⟨o',h1,h2⟩:=hg 0 i rfl;have:o'=o:=by simpa using h2.symm
   subst this;show bD (HS.set i o') (ls++ls2) (os++os2)=_;rw[aB h1];exact sn ls os HS ls2 os2 (by simpa using h) fun j i' hj=>hg (j+1) i' hj
theorem zj{j i:Nat}(h:du[j]? = some i):j<20/\i=j+2:=by
 have hjl:j<20:=(List.getElem?_eq_some_iff.1 h).1;have hq:∀q:Fin 20,du[q.val]? = some (q.val+2):=by decide
 have:=hq ⟨j,hjl⟩;rw[h]at this;exact⟨hjl,by simpa using this⟩
theorem Df{S:c6}{HS:ah}(hS:(HS.drop 2).take 20=iQ S){j:Nat}(hj:j<20):HS[j+2]? = (iQ S)[j]?:=by
 rw[<-hS,List.getElem?_take,if_pos hj,List.getElem?_drop]
 congr 1
 omega
theorem vu(ls:List Nat)(os HS l:ah)(h:os.length=ls.length)(hg:∀(j i:Nat),ls[j]? = some i->∃o,HS[i]? = some o/\os[j]? = some o):bD HS ls (os++l)=HS++l:=by
 have:=sn ls os HS [] l h hg;rw[List.append_nil]at this;rw[this,bD]
theorem Bq{f:FuncId}{more:List XV}(hm:∀τ,e9 τ more more)(hmo:gQ 22 more){v:XV}[b_ v]{bs bs':List Bool}{S S':c6}(hT:(iQ S').tail=(iQ S).tail)(hc:bm prog f (.one (.ptr 2 0) :: .one (.ptr 0 0)::more) (aP 1 bs::au bs::iQ S) v (aP 22 bs' :: .dead::(iQ S'++[au bs'])))
 {HS:ah} {k:Nat}(hi:HS[0]? = some (aP k bs)) (hk:HS[k]? = some (au bs)) (hS:(HS.drop 2).take 20=iQ S) (hd:(k==1||Nat.ble 22 k)=true) {N:Nat}(hN:HS.length=N) {HS':ah}(hh:bD HS [0,k,2] [aP N bs',.dead,jr S',au bs']=HS') (hbd:Nat.blt HS'.length Mem.bound=true) :
 aA.Sound prog ⟨f,.one (.ptr 2 0) :: .one (.ptr 0 0)::more,HS,v,HS',0::k::du⟩:=by
 refine Oy hm hmo hc hi hk hS hd hN ?_ hbd;rw[<-hh];have hkk:k=1\/22<=k:=by simpa [Nat.ble_eq]using hd
 have e1:iQ S'++[au bs']=jr S'::((iQ S).tail++[au bs']):=by rw[<-hT];rfl
 have e2:du=2::du.tail:=rfl;rw[e1,e2,bD,bD,bD,bD,bD,bD,bD];refine vu du.tail (iQ S).tail _ _ rfl fun j i hj=>?_
 have hj':du[j+1]? = some i:=hj;obtain⟨h1,rfl⟩:=zj hj';have hl:j+1<(iQ S).length:=h1;refine⟨(iQ S)[j+1],?_,?_⟩
 ·rw[List.getElem?_set_ne (by omega),List.getElem?_set_ne (by omega),List.getElem?_set_ne (by omega),Df hS h1,List.getElem?_eq_getElem hl]
 ·rw[List.getElem?_tail,List.getElem?_eq_getElem hl]
theorem yU(k:Nat)(r:List Nat):∀j,2<=j->j<22->nth ((0::k::du)++r) j=j:=fun j h1 h2=>by
 have hq:∀q:Fin 20,du[q.val]? = some (q.val+2):=by decide
 obtain⟨q,rfl⟩:∃q,j=q+2:=⟨j-2,by omega⟩
 have:=hq ⟨q,by omega⟩;unfold nth;rw[List.getD_eq_getElem?_getD];show((du++r)[q]?).getD 0=q+2;rw[List.getElem?_append_left (show q<du.length by show q<20;omega),this];rfl
theorem Bl{k:Nat}(hkk:k=1\/22<=k):(0::k::du).Nodup:=by
 have h0:0∉du:=by decide
 have hk':k∉du:=by
  intro h;simp only[du,List.mem_cons,List.not_mem_nil,or_false]at h;omega
 exact List.nodup_cons.2 ⟨fun h=>(List.mem_cons.1 h).elim (fun e=>by omega) h0,List.nodup_cons.2 ⟨hk',by decide⟩⟩
theorem Kj(a:List XC)(e e':TypeId)(cs:List XC)(S S':c6):fX (.cells a e false false::bu e' cs::iQ S) (.cells a e false false::bu e' cs::iQ S')=true:=by
 cases cs<;>simp[fX,aj.live,aj.own,bu]
theorem oy{bs:List Bool}{S:c6}(hD:mB S.cols S.rows){mb:Int}(hmb:0<=mb/\mb<S.cols*S.rows){m:Mb}{HS:ah}{k:Nat}(hi:HS[0]? = some (aP k bs))(hk:HS[k]? = some (au bs))(hS:(HS.drop 2).take 20=iQ S)(hd:(k==1||Nat.ble 22 k)=true){HS':ah}(hh:HS.set 17 (.map (cB (E9 S.M S.cols mb m.v)))=HS')(hbd:Nat.blt HS'.length Mem.bound=true) :
 aA.Sound prog ⟨89,[.one (.ptr 2 0),.one (.int .i64 mb),.agg (mC m)],HS,.tup [],HS',[17]⟩:=by
 have hkk:k=1\/22<=k:=by simpa [Nat.ble_eq]using hd
 have nd:=Bl hkk
 have ht:∀j,2<=j->j<22->nth (0::k::du) j=j:=fun j h1 h2=>by
  have:=yU k [] j h1 h2;rwa [List.append_nil]at this
 have ht':∀j,2<=j->j<22->nth ((0::k::du)++List.range' HS.length 0) j=j:=yU k _;have hv:=zi S ht hS (ls:=[]) .nil;rw[List.append_nil,List.append_nil]at hv;have ho:=ow S 22 (Nat.le_refl _) (l:=[]) .nil;rw[List.append_nil]at ho;have ho':=ow (b6 S mb m.v) 22 (Nat.le_refl _) (l:=[]) .nil;rw[List.append_nil]at ho';have hr:=zh (b6 S mb m.v) ht' (l:=[]) (l':=[]) .nil;rw[List.append_nil]at hr
 have hh' : bD HS (0::k::du) (aP k bs::au bs::iQ (b6 S mb m.v))=HS':=by
  rw[<-hh];have e1:(aP k bs::au bs::iQ (b6 S mb m.v))=(aP k bs::au bs::(iQ S).take 15)++(.map (cB (E9 S.M S.cols mb m.v))::((iQ S).drop 16++[])):=rfl;have e2:(0::k::du)=(0::k::du.take 15)++(17::du.drop 16):=rfl;rw[e1,e2,sn _ _ _ _ _ rfl]
  ·rw[bD];rw[vu (du.drop 16) ((iQ S).drop 16) _ [] rfl,List.append_nil];intro j i hj;rw[List.getElem?_drop]at hj;obtain⟨h1,rfl⟩:=zj hj;have hl:16+j<(iQ S).length:=h1;refine⟨(iQ S)[16+j],?_,?_⟩
   ·rw[List.getElem?_set_ne (by omega),Df hS h1,List.getElem?_eq_getElem hl]
   ·rw[List.getElem?_drop,List.getElem?_eq_getElem hl]
  ·intro j i hj
   match j,hj with
   | 0,hj=>cases hj;exact⟨_,hi,rfl⟩
   | 1,hj=>cases hj;exact⟨_,hk,rfl⟩
   | j + 2,hj=>
     have hj2:(du.take 15)[j]? = some i:=hj;rw[List.getElem?_take]at hj2;split at hj2
     ·rename_i h15;obtain⟨h1,rfl⟩:=zj hj2;have hl:j<(iQ S).length:=h1;refine⟨(iQ S)[j],?_,?_⟩
      ·rw[Df hS h1,List.getElem?_eq_getElem hl]
      ·show((iQ S).take 15)[j]? = _;rw[List.getElem?_take,if_pos h15,List.getElem?_eq_getElem hl]
     ·cases hj2
 refine bh (0::k::du) [17] 0 (Hf bs S hD mb hmb m) nd (af.ig hi rfl rfl rfl (.flat hk hv)) (.cons (by simp[aj.bt,XC.ok,aJ]) (.flat ho)) (.cons (by simp[aj.bt,XC.ok,aJ]) (.flat ho')) rfl (.cons (by show 2<22;omega) (.flat (.flat .nil))) (.cons rfl (.flat (.flat .nil))) (b_.ok _) (b_.aC _) ?_ (Kj ..) rfl hh' hbd (.inr fun j hjl hj=>?_)
 ·exact .cons (by simp only[aj.aC,List.map_cons,List.map_nil,XC.aC,aX];rfl) (.flat hr)
 ·subst hh;exact List.getElem?_set_ne (fun h=>hj (by rw[<-h];exact List.mem_singleton.2 rfl))
def aS(m:Mb)(mb:Int)(x:c6×List Bool)(k:Nat):c6×List Bool:=({x.1 with M:=cI x.1.M x.1.cols mb k (m.v k)},x.2++hU (m.v k) (gB x.1.M x.1.cols x.1.rows mb k))
def fI(S:c6)(B:List Bool)(m:Mb)(mb:Int):c6×List Bool:=
 if m.kind=0 then(b6 S mb m.v,B++bc S m)
 else if m.kind=1 then(b6 (aS m mb (S,B++bc S m) 0).1 mb m.v,(aS m mb (S,B++bc S m) 0).2)
 else if m.kind=2 then(b6 (aS m mb (aS m mb (aS m mb (aS m mb (S,B++bc S m) 0) 1) 2) 3).1 mb m.v,(aS m mb (aS m mb (aS m mb (aS m mb (S,B++bc S m) 0) 1) 2) 3).2)
 else(b6 (fA S m) mb m.v,(B++bc S m)++[m.edge])
structure sK(S:c6)(B bw:List Bool)(m:Mb)(mb:Int):Prop where
 st:j9 S
 mb:0<=mb/\mb<S.cols*S.rows
 qp : -1000000<=S.qp/\S.qp<=1000000
 good:nT m
 right:∀k,k<4->fj (m.v k)=true
 len:B.length<=600000
 lenw:bw.length<=600000
theorem eC{M:jA}(h:fG M){cols mb k:Int}{v:Int×Int}(hv:bM v):fG (cI M cols mb k v):=Hn h hv
theorem kG{M:jA}(h:fG M){cols mb:Int}{v:Nat->Int×Int}(hv:∀k,bM (v k)):fG (E9 M cols mb v):=eC (eC (eC (eC h (hv 0)) (hv 1)) (hv 2)) (hv 3)
theorem jl{S:c6}{m:Mb}(h:m.kind≠4):fA S m=S:=if_neg h
theorem Ax{S:c6}{m:Mb}(h:m.kind=4):fA S m = {S with qp:=m.qp}:=if_pos h
theorem ET(a b c d:List XC)(e e' e2 e3 e4 e5 e6 e7:TypeId)(cs ds fs gs:List XC)(S S':c6):fX (.cells a e false false::bu e' cs::(iQ S++[.cells c e5 false false,bu e6 fs])) (.cells b e2 false false :: .dead::(iQ S'++[.cells d e7 false false,.dead,bu e3 ds,bu e4 gs]))=true:=by
 cases cs<;>cases ds<;>cases fs<;>cases gs<;>simp[fX,aj.live,aj.own,bu]
theorem FD{B bw:List Bool}{S:c6}{m:Mb}{mb:Int}{x:rP}(hc:bm prog 93 [.one (.ptr 2 0),.one (.ptr 0 0),.one (.ptr 22 0),.one (.int .i64 mb),.agg (mC m)] (aP 1 B::au B::(iQ S++[aP 23 bw,au bw])) (.one (.int .i64 0)) (aP 24 (eJ x) :: .dead::(iQ x.S++[aP 25 (cR bw x 6),.dead,au (eJ x),au (cR bw x 6)])))
 {HS:ah} {k:Nat}(hi:HS[0]? = some (aP k B)) (hk:HS[k]? = some (au B)) (hS:(HS.drop 2).take 20=iQ S) (h22:HS[22]? = some (aP 23 bw)) (h23:HS[23]? = some (au bw)) (hd:(k==1||Nat.ble 24 k)=true) {N:Nat}(hN:HS.length=N) (hbd:Nat.blt (N+2) Mem.bound=true) :
 aA.Sound prog ⟨93,[.one (.ptr 2 0),.one (.ptr 0 0),.one (.ptr 22 0),.one (.int .i64 mb),.agg (mC m)],HS,.one (.int .i64 0),bD HS ((0::k::du)++[22,23]) (aP N (eJ x) :: .dead::(iQ x.S++[aP (N+1) (cR bw x 6),.dead,au (eJ x),au (cR bw x 6)])),(0::k::du)++[22,23]⟩:=by
 subst hN;have hkk:k=1\/24<=k:=by simpa [Nat.ble_eq]using hd
 have nd0:=Bl (k:=k) (by omega)
 have nd:((0::k::du)++[22,23]).Nodup:=by
  refine List.nodup_append.2 ⟨nd0,by decide,fun a ha b hb=>?_⟩;have hb':b=22\/b=23:=by simpa using hb
  simp only[du,List.mem_cons,List.not_mem_nil,or_false]at ha;omega
 have ht:∀j,2<=j->j<22->nth ((0::k::du)++[22,23]) j=j:=yU k _
 have ht':∀j,2<=j->j<22->nth (((0::k::du)++[22,23])++List.range' HS.length 2) j=j:=fun j h1 h2=>by
  rw[List.append_assoc];exact yU k _ j h1 h2
 have hv:=zi S ht hS (ls:=[22,23]) (l:=[aP 23 bw,au bw]) (af.ig h22 rfl rfl rfl (.flat h23 .nil));have ho:=ow S 24 (by omega) (l:=[aP 23 bw,au bw]) (.cons (by simp[aj.bt,XC.ok,aJ]) (.flat .nil));have ho':=ow x.S 26 (by omega) (l:=[aP 25 (cR bw x 6),.dead,au (eJ x),au (cR bw x 6)]) (.cons (by simp[aj.bt,XC.ok,aJ]) (.flat (.flat (.flat .nil))));have hr:=zh x.S ht' (l:=[aP 25 (cR bw x 6),.dead,au (eJ x),au (cR bw x 6)]) (l':=[aP (HS.length+1) (cR bw x 6),.dead,au (eJ x),au (cR bw x 6)]) (.cons (by simp only[aj.aC,List.map_cons,List.map_nil,XC.aC,aX];rfl) (.flat (.flat (.flat .nil))));have hlen:(bD HS ((0::k::du)++[22,23]) (aP HS.length (eJ x) :: .dead::(iQ x.S++[aP (HS.length+1) (cR bw x 6),.dead,au (eJ x),au (cR bw x 6)]))).length=HS.length+2:=vv _ _ _ (by show 24<=26;omega);refine bh ((0::k::du)++[22,23]) ((0::k::du)++[22,23]) 2 hc nd (af.ig hi rfl rfl rfl (.flat hk hv)) (.cons (by simp[aj.bt,XC.ok,aJ]) (.flat ho)) (.cons (by simp[aj.bt,XC.ok,aJ]) (.flat ho')) rfl (.cons (by show 2<24;omega) (.cons (by show 0<24;omega) (.cons (by show 22<24;omega) (.flat (.flat .nil))))) (.cons rfl (.cons rfl (.cons rfl (.flat (.flat .nil))))) (b_.ok _) (b_.aC _) ?_ (ET ..) rfl rfl (by rw[hlen];exact hbd) (.inl rfl);exact .cons (by simp only[aj.aC,List.map_cons,List.map_nil,XC.aC,aX];rfl) (.flat hr)
theorem oM{B bw:List Bool}{S:c6}{m:Mb}{mb:Int}{x:rP}(hc:bm prog 93 [.one (.ptr 2 0),.one (.ptr 0 0),.one (.ptr 22 0),.one (.int .i64 mb),.agg (mC m)] [aP 1 B,au B,jr (S),fc 4 8 12,aW 5 6 7 cM,cV cM,cY cM,cW cM,aW 9 10 11 cZ,cV cZ,cY cZ,cW cZ,aW 13 14 15 cP,cV cP,cY cP,cW cP,fD 17 (S).cols (S).rows,.map (cB (S).M),.cells [.int .i64 (S).cols,.int .i64 (S).rows,.map 19,.map 20,.map 21] 220 false false,.map (aq (S).A),.map (aq (S).B),.map (aq (S).C),aP 23 bw,au bw] (.one (.int .i64 0)) [aP 24 (eJ x),.dead,jr (x.S),fc 4 8 12,aW 5 6 7 cM,cV cM,cY cM,cW cM,aW 9 10 11 cZ,cV cZ,cY cZ,cW cZ,aW 13 14 15 cP,cV cP,cY cP,cW cP,fD 17 (x.S).cols (x.S).rows,.map (cB (x.S).M),.cells [.int .i64 (x.S).cols,.int .i64 (x.S).rows,.map 19,.map 20,.map 21] 220 false false,.map (aq (x.S).A),.map (aq (x.S).B),.map (aq (x.S).C),aP 25 (cR bw x 6),.dead,au (eJ x),au (cR bw x 6)])
 {HS:ah} {k:Nat}(hi:HS[0]? = some (aP k B)) (hk:HS[k]? = some (au B)) (hS:(HS.drop 2).take 20=iQ S) (h22:HS[22]? = some (aP 23 bw)) (h23:HS[23]? = some (au bw)) (hd:(k==1||Nat.ble 24 k)=true) {N:Nat}(hN:HS.length=N) {HS':ah}(hh:bD HS [0,k,2,3,4,5,6,7,8,9,10,11,12,13,14,15,16,17,18,19,20,21,22,23] [aP N (eJ x),.dead,jr (x.S),fc 4 8 12,aW 5 6 7 cM,cV cM,cY cM,cW cM,aW 9 10 11 cZ,cV cZ,cY cZ,cW cZ,aW 13 14 15 cP,cV cP,cY cP,cW cP,fD 17 (x.S).cols (x.S).rows,.map (cB (x.S).M),.cells [.int .i64 (x.S).cols,.int .i64 (x.S).rows,.map 19,.map 20,.map 21] 220 false false,.map (aq (x.S).A),.map (aq (x.S).B),.map (aq (x.S).C),aP (N+1) (cR bw x 6),.dead,au (eJ x),au (cR bw x 6)]=HS') (hbd:Nat.blt (N+2) Mem.bound=true) :
 aA.Sound prog ⟨93,[.one (.ptr 2 0),.one (.ptr 0 0),.one (.ptr 22 0),.one (.int .i64 mb),.agg (mC m)],HS,.one (.int .i64 0),HS',(0::k::du)++[22,23]⟩:=by
 subst hh;exact FD hc hi hk hS h22 h23 hd hN hbd
theorem Sa{S:c6}{B bw:List Bool}{m:Mb}{mb:Int}(hP:sK S B bw m mb)(hk:m.kind=0) :
 bm prog 63 [.one (.ptr 2 0),.one (.ptr 0 0),.one (.ptr 22 0),.one (.int .i64 mb),.agg (mC m)] [aP 1 B,au B,jr (S),fc 4 8 12,aW 5 6 7 cM,cV cM,cY cM,cW cM,aW 9 10 11 cZ,cV cZ,cY cZ,cW cZ,aW 13 14 15 cP,cV cP,cY cP,cW cP,fD 17 (S).cols (S).rows,.map (cB (S).M),.cells [.int .i64 (S).cols,.int .i64 (S).rows,.map 19,.map 20,.map 21] 220 false false,.map (aq (S).A),.map (aq (S).B),.map (aq (S).C),aP 23 bw,au bw] (.one (.int .i64 0)) [aP 24 ((B++bc S m)),.dead,jr (b6 S mb m.v),fc 4 8 12,aW 5 6 7 cM,cV cM,cY cM,cW cM,aW 9 10 11 cZ,cV cZ,cY cZ,cW cZ,aW 13 14 15 cP,cV cP,cY cP,cW cP,fD 17 (b6 S mb m.v).cols (b6 S mb m.v).rows,.map (cB (b6 S mb m.v).M),.cells [.int .i64 (b6 S mb m.v).cols,.int .i64 (b6 S mb m.v).rows,.map 19,.map 20,.map 21] 220 false false,.map (aq (b6 S mb m.v).A),.map (aq (b6 S mb m.v).B),.map (aq (b6 S mb m.v).C),aP 25 bw,.dead,au ((B++bc S m)),au bw]:=by
 have hg:=hP.good;have hm:=hg.ok;have hD:=hP.st.dims;have hmb:=hP.mb;have hlen:=hP.len;have hkl:=jX S m;have hK:=n_ B S m hm hg.kind hP.qp (by omega);rw[jl (by omega)]at hK;have htE:fG S.M:=hP.st.tiny;refine cO Tryz.func63 ?_
 repeat' (first
  |(refine qz ?_;first
   |refine lg ?_ (hle:=by rw[aY])
   |refine cl ?_ (hi:=by exact Bq (S:=S) (S':=S) (bs:=B) (bs':=B++bc S m) (fun _ => .flat .nil) (.flat .nil) rfl hK rfl rfl rfl rfl nL nA rfl)
   |refine cl ?_ (hi:=by exact oy (S:=S) (bs:=(B++bc S m)) hD hmb rfl rfl rfl rfl nA rfl))
  |refine zz ?_|refine zx (fun _=>?_) (fun _=>?_)|fail)
 show aE _ _ _ _ _ _ _ _;refine kV [0,1,2,3,4,5,6,7,8,9,10,11,12,13,14,15,16,17,18,19,20,21,22,23,25,23] ?_;rfl
theorem Sb{S:c6}{B bw:List Bool}{m:Mb}{mb:Int}(hP:sK S B bw m mb)(hk:m.kind=1)(x:rP)(hx:j_ m mb ⟨b6 (aS m mb (S,B++bc S m) 0).1 mb m.v,(aS m mb (S,B++bc S m) 0).2,0,0,fun _=>[]⟩ 6=some x) :
 bm prog 63 [.one (.ptr 2 0),.one (.ptr 0 0),.one (.ptr 22 0),.one (.int .i64 mb),.agg (mC m)] [aP 1 B,au B,jr (S),fc 4 8 12,aW 5 6 7 cM,cV cM,cY cM,cW cM,aW 9 10 11 cZ,cV cZ,cY cZ,cW cZ,aW 13 14 15 cP,cV cP,cY cP,cW cP,fD 17 (S).cols (S).rows,.map (cB (S).M),.cells [.int .i64 (S).cols,.int .i64 (S).rows,.map 19,.map 20,.map 21] 220 false false,.map (aq (S).A),.map (aq (S).B),.map (aq (S).C),aP 23 bw,au bw] (.one (.int .i64 0)) [aP 24 (eJ x),.dead,jr (x.S),fc 4 8 12,aW 5 6 7 cM,cV cM,cY cM,cW cM,aW 9 10 11 cZ,cV cZ,cY cZ,cW cZ,aW 13 14 15 cP,cV cP,cY cP,cW cP,fD 17 (x.S).cols (x.S).rows,.map (cB (x.S).M),.cells [.int .i64 (x.S).cols,.int .i64 (x.S).rows,.map 19,.map 20,.map 21] 220 false false,.map (aq (x.S).A),.map (aq (x.S).B),.map (aq (x.S).C),aP 25 (cR bw x 6),.dead,au (eJ x),au (cR bw x 6)]:=by
 have hg:=hP.good;have hm:=hg.ok;have hD:=hP.st.dims;have hmb:=hP.mb;have hlen:=hP.len;have hkl:=jX S m;have hK:=n_ B S m hm hg.kind hP.qp (by omega);rw[jl (by omega)]at hK;have ht0:fG (S.M):=hP.st.tiny;have hl0:=mj (m.v 0) (gB (S.M) S.cols S.rows mb 0);have htE:fG (cI (S.M) S.cols mb 0 (m.v 0)):=eC ht0 (hm.v 0)
 have hS2:j9 (b6 (aS m mb (S,B++bc S m) 0).1 mb m.v):=⟨hD,hP.st.lev,kG htE hm.v⟩
 have hB2:((aS m mb (S,B++bc S m) 0).2).length<=700000:=by
  show(((B++bc S m)++hU (m.v 0) (gB (S.M) S.cols S.rows mb 0))).length<=700000;simp only[List.length_append,List.length_cons,List.length_nil];omega
 refine cO Tryz.func63 ?_
 repeat' (first
  |(refine qz ?_;first
   |refine lg ?_ (hle:=by rw[aY])
   |refine cl ?_ (hi:=by exact Bq (S:=S) (S':=S) (bs:=B) (bs':=B++bc S m) (fun _ => .flat .nil) (.flat .nil) rfl hK rfl rfl rfl rfl nL nA rfl)
   |refine cl ?_ (hi:=by exact rD (M:=S.M) (k:=0) ht0 hD hmb (by decide) (i:=16) (j:=17) rfl rfl (by decide) rfl)
   |refine cl ?_ (hi:=by exact rE (bs:=(B++bc S m)) (v:=m.v 0) (e:=gB (S.M) S.cols S.rows mb 0) (hm.v 0) (mh ht0) (hP.right 0 (by decide)) (by simp only[List.length_append];omega) rfl rfl (by decide) nL nA rfl)
   |refine cl ?_ (hi:=by exact jR (M:=S.M) (k:=0) (v:=m.v 0) hD hmb (by decide) (i:=16) (j:=17) rfl rfl (by decide) nA rfl)
   |refine cl ?_ (hi:=by exact oy (S:=(aS m mb (S,B++bc S m) 0).1) (bs:=(aS m mb (S,B++bc S m) 0).2) hD hmb rfl rfl rfl rfl nA rfl)
   |refine cl ?_ (hi:=by exact oM (B:=(aS m mb (S,B++bc S m) 0).2) (S:=b6 (aS m mb (S,B++bc S m) 0).1 mb m.v) (oN ((aS m mb (S,B++bc S m) 0).2) bw (b6 (aS m mb (S,B++bc S m) 0).1 mb m.v) m mb hg hS2 hmb hB2 (by have:=hP.lenw;omega) x hx) rfl rfl rfl rfl rfl rfl nL nA rfl))
  |refine WX.loop ?_|refine WX.round ?_|refine zz ?_|refine zx (fun _=>?_) (fun _=>?_)|fail)
 show aE _ _ _ _ _ _ _ _;refine kV [0,1,2,3,4,5,6,7,8,9,10,11,12,13,14,15,16,17,18,19,20,21,22,23,27,28] ?_;rfl
end Go.Proofs.YthdciapjllppjaaGreat
