/-
  A part of the proof: Sta4, Put0, Put1.
-/
import Derived.Test.YthdciapjllppjaaGreatWbS
import Derived.Test.YthdciapjllppjaaGreatWbT
set_option maxRecDepth 10000
set_option maxHeartbeats 8000000
set_option linter.unusedVariables false
set_option linter.unusedSectionVars false
set_option linter.unusedSimpArgs false
open Go.Proofs.Tryz (prog)
namespace Go.Proofs.YthdciapjllppjaaGreat
open Go.Xm
variable [aq]
theorem rV:∀(ls:List Nat) (os HS:aj) (ls2:List Nat) (os2:aj),os.length=ls.length->(∀(j i:Nat),ls[j]? = some i->∃o,HS[i]? = some o/\os[j]? = some o)->bJ HS (ls++ls2) (os++os2)=bJ HS ls2 os2
 | [],[],HS,ls2,os2,_,_=>by simp
 | [],_::_,_,_,_,h,_=>by simp at h
 | _::_,[],_,_,_,h,_=>by simp at h
 | i::ls,o::os,HS,ls2,os2,h,hg=>by
   obtain⟨o',h1,h2⟩:=hg 0 i rfl;have:o'=o:=by simpa using h2.symm
   subst this;show bJ (HS.set i o') (ls++ls2) (os++os2)=_;rw[aG h1];exact rV ls os HS ls2 os2 (by simpa using h) fun j i' hj=>hg (j+1) i' hj
theorem yP{j i:Nat}(h:dw[j]? = some i):j<20/\i=j+2:=by
 have hjl:j<20:=(List.getElem?_eq_some_iff.1 h).1;have hq:∀q:Fin 20,dw[q.val]? = some (q.val+2):=by decide
 have:=hq ⟨j,hjl⟩;rw[h]at this;exact⟨hjl,by simpa using this⟩
theorem CU{S:cH}{HS:aj}(hS:(HS.drop 2).take 20=iT S){j:Nat}(hj:j<20):HS[j+2]? = (iT S)[j]?:=by
 rw[<-hS,List.getElem?_take,if_pos hj,List.getElem?_drop]
 congr 1
 omega
theorem u5(ls:List Nat)(os HS l:aj)(h:os.length=ls.length)(hg:∀(j i:Nat),ls[j]? = some i->∃o,HS[i]? = some o/\os[j]? = some o):bJ HS ls (os++l)=HS++l:=by
 have:=rV ls os HS [] l h hg;rw[List.append_nil]at this;rw[this,bJ]
theorem A4{f:FuncId}{more:List XV}(hm:∀τ,e9 τ more more)(hmo:gW 22 more){v:XV}[b8 v]{bs bs':List Bool}{S S':cH}(hT:(iT S').tail=(iT S).tail)(hc:bt prog f (.one (.ptr 2 0) :: .one (.ptr 0 0)::more) (aP 1 bs::av bs::iT S) v (aP 22 bs' :: .dead::(iT S'++[av bs'])))
 {HS:aj} {k:Nat}(hi:HS[0]? = some (aP k bs)) (hk:HS[k]? = some (av bs)) (hS:(HS.drop 2).take 20=iT S) (hd:(k==1||Nat.ble 22 k)=true) {N:Nat}(hN:HS.length=N) {HS':aj}(hh:bJ HS [0,k,2] [aP N bs',.dead,jB S',av bs']=HS') (hbd:Nat.blt HS'.length Mem.bound=true) :
 aA.Sound prog ⟨f,.one (.ptr 2 0) :: .one (.ptr 0 0)::more,HS,v,HS',0::k::dw⟩:=by
 refine NO hm hmo hc hi hk hS hd hN ?_ hbd;rw[<-hh];have hkk:k=1\/22<=k:=by simpa [Nat.ble_eq]using hd
 have e1:iT S'++[av bs']=jB S'::((iT S).tail++[av bs']):=by rw[<-hT];rfl
 have e2:dw=2::dw.tail:=rfl;rw[e1,e2,bJ,bJ,bJ,bJ,bJ,bJ,bJ];refine u5 dw.tail (iT S).tail _ _ rfl fun j i hj=>?_
 have hj':dw[j+1]? = some i:=hj;obtain⟨h1,rfl⟩:=yP hj';have hl:j+1<(iT S).length:=h1;refine⟨(iT S)[j+1],?_,?_⟩
 ·rw[List.getElem?_set_ne (by omega),List.getElem?_set_ne (by omega),List.getElem?_set_ne (by omega),CU hS h1,List.getElem?_eq_getElem hl]
 ·rw[List.getElem?_tail,List.getElem?_eq_getElem hl]
theorem yz(k:Nat)(r:List Nat):∀j,2<=j->j<22->nth ((0::k::dw)++r) j=j:=fun j h1 h2=>by
 have hq:∀q:Fin 20,dw[q.val]? = some (q.val+2):=by decide
 obtain⟨q,rfl⟩:∃q,j=q+2:=⟨j-2,by omega⟩
 have:=hq ⟨q,by omega⟩;unfold nth;rw[List.getD_eq_getElem?_getD];show((dw++r)[q]?).getD 0=q+2;rw[List.getElem?_append_left (show q<dw.length by show q<20;omega),this];rfl
theorem AW{k:Nat}(hkk:k=1\/22<=k):(0::k::dw).Nodup:=by
 have h0:0∉dw:=by decide
 have hk':k∉dw:=by
  intro h;simp only[dw,List.mem_cons,List.not_mem_nil,or_false]at h;omega
 exact List.nodup_cons.2 ⟨fun h=>(List.mem_cons.1 h).elim (fun e=>by omega) h0,List.nodup_cons.2 ⟨hk',by decide⟩⟩
theorem Jx(a:List XC)(e e':TypeId)(cs:List XC)(S S':cH):gN (.cells a e false false::bU e' cs::iT S) (.cells a e false false::bU e' cs::iT S')=true:=by
 cases cs<;>simp[gN,ak.live,ak.own,bU]
theorem ov{bs:List Bool}{S:cH}(hD:lU S.cols S.rows){mb:Int}(hmb:0<=mb/\mb<S.cols*S.rows){m:Mb}{HS:aj}{k:Nat}(hi:HS[0]? = some (aP k bs))(hk:HS[k]? = some (av bs))(hS:(HS.drop 2).take 20=iT S)(hd:(k==1||Nat.ble 22 k)=true){HS':aj}(hh:HS.set 17 (.map (cE (Ey S.M S.cols mb m.v)))=HS')(hbd:Nat.blt HS'.length Mem.bound=true) :
 aA.Sound prog ⟨89,[.one (.ptr 2 0),.one (.int .i64 mb),.agg (mC m)],HS,.tup [],HS',[17]⟩:=by
 have hkk:k=1\/22<=k:=by simpa [Nat.ble_eq]using hd
 have nd:=AW hkk
 have ht:∀j,2<=j->j<22->nth (0::k::dw) j=j:=fun j h1 h2=>by
  have:=yz k [] j h1 h2;rwa [List.append_nil]at this
 have ht':∀j,2<=j->j<22->nth ((0::k::dw)++List.range' HS.length 0) j=j:=yz k _;have hv:=yO S ht hS (ls:=[]) .nil;rw[List.append_nil,List.append_nil]at hv;have ho:=ot S 22 (Nat.le_refl _) (l:=[]) .nil;rw[List.append_nil]at ho;have ho':=ot (b6 S mb m.v) 22 (Nat.le_refl _) (l:=[]) .nil;rw[List.append_nil]at ho';have hr:=yN (b6 S mb m.v) ht' (l:=[]) (l':=[]) .nil;rw[List.append_nil]at hr
 have hh' : bJ HS (0::k::dw) (aP k bs::av bs::iT (b6 S mb m.v))=HS':=by
  rw[<-hh];have e1:(aP k bs::av bs::iT (b6 S mb m.v))=(aP k bs::av bs::(iT S).take 15)++(.map (cE (Ey S.M S.cols mb m.v))::((iT S).drop 16++[])):=rfl;have e2:(0::k::dw)=(0::k::dw.take 15)++(17::dw.drop 16):=rfl;rw[e1,e2,rV _ _ _ _ _ rfl]
  ·rw[bJ];rw[u5 (dw.drop 16) ((iT S).drop 16) _ [] rfl,List.append_nil];intro j i hj;rw[List.getElem?_drop]at hj;obtain⟨h1,rfl⟩:=yP hj;have hl:16+j<(iT S).length:=h1;refine⟨(iT S)[16+j],?_,?_⟩
   ·rw[List.getElem?_set_ne (by omega),CU hS h1,List.getElem?_eq_getElem hl]
   ·rw[List.getElem?_drop,List.getElem?_eq_getElem hl]
  ·intro j i hj
   match j,hj with
   | 0,hj=>cases hj;exact⟨_,hi,rfl⟩
   | 1,hj=>cases hj;exact⟨_,hk,rfl⟩
   | j + 2,hj=>
     have hj2:(dw.take 15)[j]? = some i:=hj;rw[List.getElem?_take]at hj2;split at hj2
     ·rename_i h15;obtain⟨h1,rfl⟩:=yP hj2;have hl:j<(iT S).length:=h1;refine⟨(iT S)[j],?_,?_⟩
      ·rw[CU hS h1,List.getElem?_eq_getElem hl]
      ·show((iT S).take 15)[j]? = _;rw[List.getElem?_take,if_pos h15,List.getElem?_eq_getElem hl]
     ·cases hj2
 refine bI (0::k::dw) [17] 0 (Gw bs S hD mb hmb m) nd (ae.iu hi rfl rfl rfl (.flat hk hv)) (.cons (by simp[ak.bK,XC.ok,aK]) (.flat ho)) (.cons (by simp[ak.bK,XC.ok,aK]) (.flat ho')) rfl (.cons (by show 2<22;omega) (.flat (.flat .nil))) (.cons rfl (.flat (.flat .nil))) (b8.ok _) (b8.aC _) ?_ (Jx ..) rfl hh' hbd (.inr fun j hjl hj=>?_)
 ·exact .cons (by simp only[ak.aC,List.map_cons,List.map_nil,XC.aC,aV];rfl) (.flat hr)
 ·subst hh;exact List.getElem?_set_ne (fun h=>hj (by rw[<-h];exact List.mem_singleton.2 rfl))
def aT(m:Mb)(mb:Int)(x:cH×List Bool)(k:Nat):cH×List Bool:=({x.1 with M:=cL x.1.M x.1.cols mb k (m.v k)},x.2++ia (m.v k) (gI x.1.M x.1.cols x.1.rows mb k))
def fS(S:cH)(B:List Bool)(m:Mb)(mb:Int):cH×List Bool:=
 if m.kind=0 then(b6 S mb m.v,B++bm S m)
 else if m.kind=1 then(b6 (aT m mb (S,B++bm S m) 0).1 mb m.v,(aT m mb (S,B++bm S m) 0).2)
 else if m.kind=2 then(b6 (aT m mb (aT m mb (aT m mb (aT m mb (S,B++bm S m) 0) 1) 2) 3).1 mb m.v,(aT m mb (aT m mb (aT m mb (aT m mb (S,B++bm S m) 0) 1) 2) 3).2)
 else(b6 (fA S m) mb m.v,(B++bm S m)++[m.edge])
structure ss(S:cH)(B bw:List Bool)(m:Mb)(mb:Int):Prop where
 st:km S
 mb:0<=mb/\mb<S.cols*S.rows
 qp : -1000000<=S.qp/\S.qp<=1000000
 good:nM m
 right:∀k,k<4->fj (m.v k)=true
 len:B.length<=600000
 lenw:bw.length<=600000
theorem ep{M:jH}(h:fN M){cols mb k:Int}{v:Int×Int}(hv:bM v):fN (cL M cols mb k v):=GF h hv
theorem kN{M:jH}(h:fN M){cols mb:Int}{v:Nat->Int×Int}(hv:∀k,bM (v k)):fN (Ey M cols mb v):=ep (ep (ep (ep h (hv 0)) (hv 1)) (hv 2)) (hv 3)
theorem jw{S:cH}{m:Mb}(h:m.kind≠4):fA S m=S:=if_neg h
theorem zX{S:cH}{m:Mb}(h:m.kind=4):fA S m = {S with qp:=m.qp}:=if_pos h
theorem Ef(a b c d:List XC)(e e' e2 e3 e4 e5 e6 e7:TypeId)(cs ds fs gs:List XC)(S S':cH):gN (.cells a e false false::bU e' cs::(iT S++[.cells c e5 false false,bU e6 fs])) (.cells b e2 false false :: .dead::(iT S'++[.cells d e7 false false,.dead,bU e3 ds,bU e4 gs]))=true:=by
 cases cs<;>cases ds<;>cases fs<;>cases gs<;>simp[gN,ak.live,ak.own,bU]
theorem E7{B bw:List Bool}{S:cH}{m:Mb}{mb:Int}{x:rB}(hc:bt prog 93 [.one (.ptr 2 0),.one (.ptr 0 0),.one (.ptr 22 0),.one (.int .i64 mb),.agg (mC m)] (aP 1 B::av B::(iT S++[aP 23 bw,av bw])) (.one (.int .i64 0)) (aP 24 (eJ x) :: .dead::(iT x.S++[aP 25 (c_ bw x 6),.dead,av (eJ x),av (c_ bw x 6)])))
 {HS:aj} {k:Nat}(hi:HS[0]? = some (aP k B)) (hk:HS[k]? = some (av B)) (hS:(HS.drop 2).take 20=iT S) (h22:HS[22]? = some (aP 23 bw)) (h23:HS[23]? = some (av bw)) (hd:(k==1||Nat.ble 24 k)=true) {N:Nat}(hN:HS.length=N) (hbd:Nat.blt (N+2) Mem.bound=true) :
 aA.Sound prog ⟨93,[.one (.ptr 2 0),.one (.ptr 0 0),.one (.ptr 22 0),.one (.int .i64 mb),.agg (mC m)],HS,.one (.int .i64 0),bJ HS ((0::k::dw)++[22,23]) (aP N (eJ x) :: .dead::(iT x.S++[aP (N+1) (c_ bw x 6),.dead,av (eJ x),av (c_ bw x 6)])),(0::k::dw)++[22,23]⟩:=by
 subst hN;have hkk:k=1\/24<=k:=by simpa [Nat.ble_eq]using hd
 have nd0:=AW (k:=k) (by omega)
 have nd:((0::k::dw)++[22,23]).Nodup:=by
  refine List.nodup_append.2 ⟨nd0,by decide,fun a ha b hb=>?_⟩;have hb':b=22\/b=23:=by simpa using hb
  simp only[dw,List.mem_cons,List.not_mem_nil,or_false]at ha;omega
 have ht:∀j,2<=j->j<22->nth ((0::k::dw)++[22,23]) j=j:=yz k _
 have ht':∀j,2<=j->j<22->nth (((0::k::dw)++[22,23])++List.range' HS.length 2) j=j:=fun j h1 h2=>by
  rw[List.append_assoc];exact yz k _ j h1 h2
 have hv:=yO S ht hS (ls:=[22,23]) (l:=[aP 23 bw,av bw]) (ae.iu h22 rfl rfl rfl (.flat h23 .nil));have ho:=ot S 24 (by omega) (l:=[aP 23 bw,av bw]) (.cons (by simp[ak.bK,XC.ok,aK]) (.flat .nil));have ho':=ot x.S 26 (by omega) (l:=[aP 25 (c_ bw x 6),.dead,av (eJ x),av (c_ bw x 6)]) (.cons (by simp[ak.bK,XC.ok,aK]) (.flat (.flat (.flat .nil))));have hr:=yN x.S ht' (l:=[aP 25 (c_ bw x 6),.dead,av (eJ x),av (c_ bw x 6)]) (l':=[aP (HS.length+1) (c_ bw x 6),.dead,av (eJ x),av (c_ bw x 6)]) (.cons (by simp only[ak.aC,List.map_cons,List.map_nil,XC.aC,aV];rfl) (.flat (.flat (.flat .nil))));have hlen:(bJ HS ((0::k::dw)++[22,23]) (aP HS.length (eJ x) :: .dead::(iT x.S++[aP (HS.length+1) (c_ bw x 6),.dead,av (eJ x),av (c_ bw x 6)]))).length=HS.length+2:=u6 _ _ _ (by show 24<=26;omega);refine bI ((0::k::dw)++[22,23]) ((0::k::dw)++[22,23]) 2 hc nd (ae.iu hi rfl rfl rfl (.flat hk hv)) (.cons (by simp[ak.bK,XC.ok,aK]) (.flat ho)) (.cons (by simp[ak.bK,XC.ok,aK]) (.flat ho')) rfl (.cons (by show 2<24;omega) (.cons (by show 0<24;omega) (.cons (by show 22<24;omega) (.flat (.flat .nil))))) (.cons rfl (.cons rfl (.cons rfl (.flat (.flat .nil))))) (b8.ok _) (b8.aC _) ?_ (Ef ..) rfl rfl (by rw[hlen];exact hbd) (.inl rfl);exact .cons (by simp only[ak.aC,List.map_cons,List.map_nil,XC.aC,aV];rfl) (.flat hr)
theorem oN{B bw:List Bool}{S:cH}{m:Mb}{mb:Int}{x:rB}(hc:bt prog 93 [.one (.ptr 2 0),.one (.ptr 0 0),.one (.ptr 22 0),.one (.int .i64 mb),.agg (mC m)] [aP 1 B,av B,jB (S),fc 4 8 12,aX 5 6 7 cM,db cM,df cM,dc cM,aX 9 10 11 cZ,db cZ,df cZ,dc cZ,aX 13 14 15 cP,db cP,df cP,dc cP,fD 17 (S).cols (S).rows,.map (cE (S).M),.cells [.int .i64 (S).cols,.int .i64 (S).rows,.map 19,.map 20,.map 21] 220 false false,.map (au (S).A),.map (au (S).B),.map (au (S).C),aP 23 bw,av bw] (.one (.int .i64 0)) [aP 24 (eJ x),.dead,jB (x.S),fc 4 8 12,aX 5 6 7 cM,db cM,df cM,dc cM,aX 9 10 11 cZ,db cZ,df cZ,dc cZ,aX 13 14 15 cP,db cP,df cP,dc cP,fD 17 (x.S).cols (x.S).rows,.map (cE (x.S).M),.cells [.int .i64 (x.S).cols,.int .i64 (x.S).rows,.map 19,.map 20,.map 21] 220 false false,.map (au (x.S).A),.map (au (x.S).B),.map (au (x.S).C),aP 25 (c_ bw x 6),.dead,av (eJ x),av (c_ bw x 6)])
 {HS:aj} {k:Nat}(hi:HS[0]? = some (aP k B)) (hk:HS[k]? = some (av B)) (hS:(HS.drop 2).take 20=iT S) (h22:HS[22]? = some (aP 23 bw)) (h23:HS[23]? = some (av bw)) (hd:(k==1||Nat.ble 24 k)=true) {N:Nat}(hN:HS.length=N) {HS':aj}(hh:bJ HS [0,k,2,3,4,5,6,7,8,9,10,11,12,13,14,15,16,17,18,19,20,21,22,23] [aP N (eJ x),.dead,jB (x.S),fc 4 8 12,aX 5 6 7 cM,db cM,df cM,dc cM,aX 9 10 11 cZ,db cZ,df cZ,dc cZ,aX 13 14 15 cP,db cP,df cP,dc cP,fD 17 (x.S).cols (x.S).rows,.map (cE (x.S).M),.cells [.int .i64 (x.S).cols,.int .i64 (x.S).rows,.map 19,.map 20,.map 21] 220 false false,.map (au (x.S).A),.map (au (x.S).B),.map (au (x.S).C),aP (N+1) (c_ bw x 6),.dead,av (eJ x),av (c_ bw x 6)]=HS') (hbd:Nat.blt (N+2) Mem.bound=true) :
 aA.Sound prog ⟨93,[.one (.ptr 2 0),.one (.ptr 0 0),.one (.ptr 22 0),.one (.int .i64 mb),.agg (mC m)],HS,.one (.int .i64 0),HS',(0::k::dw)++[22,23]⟩:=by
 subst hh;exact E7 hc hi hk hS h22 h23 hd hN hbd
theorem RD{S:cH}{B bw:List Bool}{m:Mb}{mb:Int}(hP:ss S B bw m mb)(hk:m.kind=0) :
 bt prog 63 [.one (.ptr 2 0),.one (.ptr 0 0),.one (.ptr 22 0),.one (.int .i64 mb),.agg (mC m)] [aP 1 B,av B,jB (S),fc 4 8 12,aX 5 6 7 cM,db cM,df cM,dc cM,aX 9 10 11 cZ,db cZ,df cZ,dc cZ,aX 13 14 15 cP,db cP,df cP,dc cP,fD 17 (S).cols (S).rows,.map (cE (S).M),.cells [.int .i64 (S).cols,.int .i64 (S).rows,.map 19,.map 20,.map 21] 220 false false,.map (au (S).A),.map (au (S).B),.map (au (S).C),aP 23 bw,av bw] (.one (.int .i64 0)) [aP 24 ((B++bm S m)),.dead,jB (b6 S mb m.v),fc 4 8 12,aX 5 6 7 cM,db cM,df cM,dc cM,aX 9 10 11 cZ,db cZ,df cZ,dc cZ,aX 13 14 15 cP,db cP,df cP,dc cP,fD 17 (b6 S mb m.v).cols (b6 S mb m.v).rows,.map (cE (b6 S mb m.v).M),.cells [.int .i64 (b6 S mb m.v).cols,.int .i64 (b6 S mb m.v).rows,.map 19,.map 20,.map 21] 220 false false,.map (au (b6 S mb m.v).A),.map (au (b6 S mb m.v).B),.map (au (b6 S mb m.v).C),aP 25 bw,.dead,av ((B++bm S m)),av bw]:=by
 have hg:=hP.good;have hm:=hg.ok;have hD:=hP.st.dims;have hmb:=hP.mb;have hlen:=hP.len;have hkl:=ka S m;have hK:=n6 B S m hm hg.kind hP.qp (by omega);rw[jw (by omega)]at hK;have htE:fN S.M:=hP.st.tiny;refine cO Tryz.func63 ?_
 repeat' (first
  |(refine qz ?_;first
   |refine jI ?_ (hle:=by rw[bn])
   |refine cl ?_ (hi:=by exact A4 (S:=S) (S':=S) (bs:=B) (bs':=B++bm S m) (fun _ => .flat .nil) (.flat .nil) rfl hK rfl rfl rfl rfl nL nA rfl)
   |refine cl ?_ (hi:=by exact ov (S:=S) (bs:=(B++bm S m)) hD hmb rfl rfl rfl rfl nA rfl))
  |refine zz ?_|refine zx (fun _=>?_) (fun _=>?_)|fail)
 show aE _ _ _ _ _ _ _ _;refine kV [0,1,2,3,4,5,6,7,8,9,10,11,12,13,14,15,16,17,18,19,20,21,22,23,25,23] ?_;rfl
theorem RE{S:cH}{B bw:List Bool}{m:Mb}{mb:Int}(hP:ss S B bw m mb)(hk:m.kind=1)(x:rB)(hx:kn m mb ⟨b6 (aT m mb (S,B++bm S m) 0).1 mb m.v,(aT m mb (S,B++bm S m) 0).2,0,0,fun _=>[]⟩ 6=some x) :
 bt prog 63 [.one (.ptr 2 0),.one (.ptr 0 0),.one (.ptr 22 0),.one (.int .i64 mb),.agg (mC m)] [aP 1 B,av B,jB (S),fc 4 8 12,aX 5 6 7 cM,db cM,df cM,dc cM,aX 9 10 11 cZ,db cZ,df cZ,dc cZ,aX 13 14 15 cP,db cP,df cP,dc cP,fD 17 (S).cols (S).rows,.map (cE (S).M),.cells [.int .i64 (S).cols,.int .i64 (S).rows,.map 19,.map 20,.map 21] 220 false false,.map (au (S).A),.map (au (S).B),.map (au (S).C),aP 23 bw,av bw] (.one (.int .i64 0)) [aP 24 (eJ x),.dead,jB (x.S),fc 4 8 12,aX 5 6 7 cM,db cM,df cM,dc cM,aX 9 10 11 cZ,db cZ,df cZ,dc cZ,aX 13 14 15 cP,db cP,df cP,dc cP,fD 17 (x.S).cols (x.S).rows,.map (cE (x.S).M),.cells [.int .i64 (x.S).cols,.int .i64 (x.S).rows,.map 19,.map 20,.map 21] 220 false false,.map (au (x.S).A),.map (au (x.S).B),.map (au (x.S).C),aP 25 (c_ bw x 6),.dead,av (eJ x),av (c_ bw x 6)]:=by
 have hg:=hP.good;have hm:=hg.ok;have hD:=hP.st.dims;have hmb:=hP.mb;have hlen:=hP.len;have hkl:=ka S m;have hK:=n6 B S m hm hg.kind hP.qp (by omega);rw[jw (by omega)]at hK;have ht0:fN (S.M):=hP.st.tiny;have hl0:=mg (m.v 0) (gI (S.M) S.cols S.rows mb 0);have htE:fN (cL (S.M) S.cols mb 0 (m.v 0)):=ep ht0 (hm.v 0)
 have hS2:km (b6 (aT m mb (S,B++bm S m) 0).1 mb m.v):=⟨hD,hP.st.lev,kN htE hm.v⟩
 have hB2:((aT m mb (S,B++bm S m) 0).2).length<=700000:=by
  show(((B++bm S m)++ia (m.v 0) (gI (S.M) S.cols S.rows mb 0))).length<=700000;simp only[List.length_append,List.length_cons,List.length_nil];omega
 refine cO Tryz.func63 ?_
 repeat' (first
  |(refine qz ?_;first
   |refine jI ?_ (hle:=by rw[bn])
   |refine cl ?_ (hi:=by exact A4 (S:=S) (S':=S) (bs:=B) (bs':=B++bm S m) (fun _ => .flat .nil) (.flat .nil) rfl hK rfl rfl rfl rfl nL nA rfl)
   |refine cl ?_ (hi:=by exact q_ (M:=S.M) (k:=0) ht0 hD hmb (by decide) (i:=16) (j:=17) rfl rfl (by decide) rfl)
   |refine cl ?_ (hi:=by exact rf (bs:=(B++bm S m)) (v:=m.v 0) (e:=gI (S.M) S.cols S.rows mb 0) (hm.v 0) (mf ht0) (hP.right 0 (by decide)) (by simp only[List.length_append];omega) rfl rfl (by decide) nL nA rfl)
   |refine cl ?_ (hi:=by exact j7 (M:=S.M) (k:=0) (v:=m.v 0) hD hmb (by decide) (i:=16) (j:=17) rfl rfl (by decide) nA rfl)
   |refine cl ?_ (hi:=by exact ov (S:=(aT m mb (S,B++bm S m) 0).1) (bs:=(aT m mb (S,B++bm S m) 0).2) hD hmb rfl rfl rfl rfl nA rfl)
   |refine cl ?_ (hi:=by exact oN (B:=(aT m mb (S,B++bm S m) 0).2) (S:=b6 (aT m mb (S,B++bm S m) 0).1 mb m.v) (oO ((aT m mb (S,B++bm S m) 0).2) bw (b6 (aT m mb (S,B++bm S m) 0).1 mb m.v) m mb hg hS2 hmb hB2 (by have:=hP.lenw;omega) x hx) rfl rfl rfl rfl rfl rfl nL nA rfl))
  |refine WX.loop ?_|refine WX.round ?_|refine zz ?_|refine zx (fun _=>?_) (fun _=>?_)|fail)
 show aE _ _ _ _ _ _ _ _;refine kV [0,1,2,3,4,5,6,7,8,9,10,11,12,13,14,15,16,17,18,19,20,21,22,23,27,28] ?_;rfl
end Go.Proofs.YthdciapjllppjaaGreat
