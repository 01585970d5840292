/-
  A part of the proof: Codes, PartNew, PrSmall, PrTab, PrAt, PrExp0.
-/
import Derived.Test.YtagpkhindehcbaaGreatKeF
import Derived.Test.YtagpkhindehcbaaGreatKeG
set_option maxRecDepth 10000
set_option maxHeartbeats 8000000
set_option linter.unusedVariables false
set_option linter.unusedSectionVars false
set_option linter.unusedSimpArgs false
namespace Go.Proofs.YtagpkhindehcbaaGreat
open Go.Xm
structure Cd where
 S:List Int
 W:List Int
 T:List Int
def NT(C:Cd):Bool:=decide (C.W.length=C.S.length)&&decide (C.S.length<=64)&&decide (C.T.length=2*(C.T.length/2))&&decide (0<C.T.length/\C.T.length<=1000)&&C.S.all (fun s=>decide (0<=s/\s<=64))&&C.W.all (fun w=>decide (0<=w/\w<18446744073709551616))&&
 (List.range C.T.length).all (fun j=>decide (-1000<=C.T.getD j 0/\(C.T.getD j 0<=0\/((j/2:Nat):Int)<C.T.getD j 0/\2*C.T.getD j 0+1<C.T.length)))
structure xe(C:Cd):Prop where
 lenW:C.W.length=C.S.length
 lenS:C.S.length<=64
 even:C.T.length=2*(C.T.length/2)
 pos:0<C.T.length/\C.T.length<=1000
 sz:∀i,0<=C.S.getD i 0/\C.S.getD i 0<=64
 wd:∀i,0<=C.W.getD i 0/\C.W.getD i 0<18446744073709551616
 tr:∀j,j<C.T.length -> -1000<=C.T.getD j 0/\(C.T.getD j 0<=0\/((j/2:Nat):Int)<C.T.getD j 0/\2*C.T.getD j 0+1<C.T.length)
theorem j_{l:List Int}{p:Int->Prop}(h:∀x∈l,p x)(h0:p 0)(i:Nat):p (l.getD i 0):=by
 rw[List.getD_eq_getElem?_getD]
 cases hi:l[i]? with
 | none=>exact h0
 | some x=>exact h x (List.mem_of_getElem? hi)
theorem zc{C:Cd}(h:NT C=true):xe C:=by
 unfold NT at h
 simp only[Bool.and_eq_true,decide_eq_true_eq,List.all_eq_true,List.mem_range]at h
 obtain⟨⟨⟨⟨⟨⟨h1,h2⟩,h3⟩,h4⟩,h5⟩,h6⟩,h7⟩:=h
 exact⟨h1,h2,h3,h4,j_ h5 (by decide),j_ h6 (by decide),h7⟩
variable [ax]
abbrev aw(a b t:Nat)(C:Cd):ak := .cells [.slice a 0 C.S.length (.toEnd 1),.slice b 0 C.S.length (.exact C.S.length),.slice t 0 (C.T.length/2) (.toEnd 2)] 163 false false
abbrev aR(C:Cd):ak := .cells (il .i64 C.S) 3 true false
abbrev aT(C:Cd):ak := .cells (il .u64 C.W) 77 false false
abbrev aS(C:Cd):ak := .cells (il .i64 C.T) 190 true false
def cV(C:Cd)(n:Nat):List Bool:=ed (C.W.getD n 0) (C.S.getD n 0).toNat
theorem Is{C:Cd}(hC:xe C)(bs:List Bool)(n:Nat)(hn:n<C.S.length)(hb:bs.length<=1000000) :
 bh Tryz.prog 80 [.one (.ptr 2 0),.one (.ptr 0 0),.one (.int .i64 (n:Nat))] [aN 1 bs,aq bs,aw 3 4 5 C,aR C,aT C,aS C] (.one (.int .i64 0)) [aN 6 (bs++cV C n),.dead,aw 3 4 5 C,aR C,aT C,aS C,aq (bs++cV C n)]:=by
 have h1:=hC.lenW
 have h2:=hC.lenS
 have h3:=hC.sz n
 have h4:=hC.wd n
 have e3:(C.S.getD ((n:Int)).toNat 0)=C.S.getD n 0:=rfl
 have e5:((C.S.getD n 0).toNat:Int)=C.S.getD n 0:=by omega
 refine cO Tryz.func80 ?_
 repeat' (first
  |(refine qz ?_;first
   |refine cl ?_ (hi:=by exact iK (n:=C.W.getD n 0) (z:=C.S.getD n 0) (size:=(C.S.getD n 0).toNat) (by omega) (bs:=bs) h4 (by omega) hb rfl rfl (by decide) nL nA rfl))
  |refine zz ?_|refine zx (fun _=>?_) (fun _=>?_)|fail)
 show aB _ _ _ _ _ _ _ _;refine kV [0,1,2,3,4,5,6] ?_
 rfl
def qJ(C:Cd)(B:List Bool):Nat->Int->Nat×Bool->Int×(Nat×Bool)
 | 0,_,r=>(0,(r.1,true))
 | k+1,x,r=>
   if(bd B r).2=true\/C.T.getD (x.toNat*2+(b2 (cp B r)%2^1).toNat) 0=0 then(0,((bd B r).1,true))
   else if C.T.getD (x.toNat*2+(b2 (cp B r)%2^1).toNat) 0<0 then(-1-C.T.getD (x.toNat*2+(b2 (cp B r)%2^1).toNat) 0,bd B r)
   else qJ C B k (C.T.getD (x.toNat*2+(b2 (cp B r)%2^1).toNat) 0) (bd B r)
def kO(C:Cd)(B:List Bool)(r:Nat×Bool):Int×(Nat×Bool):=qJ C B (C.T.length/2) 0 r
theorem FP{C:Cd}(hC:xe C){L:List Int}{B:List Bool}(h:c_ L B)(r:Nat×Bool) :
 bh Tryz.prog 63 [.one (.ptr 2 0),.one (.ptr 0 0)] [bp 1 L B r.1 r.2,aK L,aw 3 4 5 C,aR C,aT C,aS C] (.one (.int .i64 (kO C B r).1)) [bp 1 L B (kO C B r).2.1 (kO C B r).2.2,aK L,aw 3 4 5 C,aR C,aT C,aS C]:=by
 have hp:=hC.pos
 have hev:=hC.even
 refine cO Tryz.func63 ?_
 have e0:qJ C B (C.T.length/2) 0 r=kO C B r:=rfl
 generalize kO C B r=q at e0 ⊢
 repeat' (first|refine zz ?_|refine zx (fun _=>?_) (fun _=>?_)|fail)
 refine WX.dA (σ:=Nat×Int×(Nat×Bool)) (fun s=>[(5,.one (.int .i64 s.2.1)),(1,.one (.ptr 0 0)),(0,.one (.ptr 2 0))]) (fun s=>[bp 1 L B s.2.2.1 s.2.2.2,aK L,aw 3 4 5 C,aR C,aT C,aS C]) (fun s=>qJ C B s.1 s.2.1 s.2.2=q/\0<=s.2.1/\s.2.1+s.1>=C.T.length/2/\2*s.2.1+1<C.T.length) (fun s=>s.1) (C.T.length/2,0,r) ⟨e0,Int.le_refl _,by show(0:Int)+_>=_;omega,by show 2*(0:Int)+1<_;omega⟩ (fun s _=>lS) (cG [0,1,2,3,4,5]) ?_
 intro s ⟨h1,h2,h3,h4⟩ ih
 obtain⟨k,hk⟩:∃k,s.1=k+1:=by
  cases hs:s.1 with
  | zero=>rw[hs]at h3;omega
  | succ k=>exact⟨k,rfl⟩
 have hq:q=qJ C B (k+1) s.2.1 s.2.2:=by rw[<-h1,hk]
 rw[qJ]at hq
 have hb:=AE (cp B s.2.2)
 have ht:=hC.tr (s.2.1.toNat*2+(b2 (cp B s.2.2)%2^1).toNat) (by omega)
 repeat' (first
  |(refine qz ?_;first
   |refine cl ?_ (hi:=by exact rT h s.2.2 rfl rfl rfl (by decide) nL rfl)
   |refine an (n:=1) ?_
   |refine cl ?_ (hi:=by exact gH rfl rfl (by decide) nL rfl)
   |refine uO (fun ge=>?_) (fun ge=>?_) (hi:=by exact gW rfl rfl (by decide) rfl))
  |refine zz ?_|refine zx (fun _=>?_) (fun _=>?_)|fail)
 ·rw[hq,if_pos (Or.inl ge)]
  show aB _ _ _ _ _ _ _ _;refine kV [0,1,2,3,4,5] ?_
  rfl
 ·rename_i gx
  rw[hq,if_pos (Or.inr gx)]
  show aB _ _ _ _ _ _ _ _;refine kV [0,1,2,3,4,5] ?_
  rfl
 ·rename_i gx gn
  rw[hq,if_neg (by rw[ge];simp;exact gx),if_pos gn]
  show aB _ _ _ _ _ _ _ _;refine kV [0,1,2,3,4,5] ?_
  rfl
 ·rename_i gx gn
  rw[if_neg (by rw[ge];simp;exact gx),if_neg gn]at hq
  refine ih (k,C.T.getD (s.2.1.toNat*2+(b2 (cp B s.2.2)%2^1).toNat) 0,bd B s.2.2) _ _ _ (cG [0,1,2,3,4,5]) ⟨hq.symm,by show 0<=C.T.getD _ 0;omega,?_,by show 2*C.T.getD _ 0+1<_;omega⟩ (by show k<s.1;omega)
  show C.T.getD _ 0+(k:Int)>=_
  omega
theorem uR{C:Cd}(hC:xe C){L:List Int}{B:List Bool}(h:c_ L B)(r:Nat×Bool){HS:aj}{i k c a b t:Nat}(hi:HS[i]? = some (bp k L B r.1 r.2))(hk:HS[k]? = some (aK L))(hc:HS[c]? = some (aw a b t C))(ha:HS[a]? = some (aR C))(hb:HS[b]? = some (aT C))(ht:HS[t]? = some (aS C))(hd : [i,k,c,a,b,t].Nodup){HS':aj}(hh:HS.set i (bp k L B (kO C B r).2.1 (kO C B r).2.2)=HS')(hbd:Nat.blt HS'.length Mem.bound=true) :
 aG.Sound Tryz.prog ⟨63,[.one (.ptr c 0),.one (.ptr i 0)],HS,.one (.int .i64 (kO C B r).1),HS',[i]⟩:=by
 have hh':bK HS [i,k,c,a,b,t] [bp k L B (kO C B r).2.1 (kO C B r).2.2,aK L,aw a b t C,aR C,aT C,aS C]=HS':=by
  subst hh
  simp only[List.nodup_cons,List.mem_cons,List.not_mem_nil,or_false,not_or]at hd
  simp only[bK,List.append_nil]
  rw[aF (i:=k) (by rw[List.getElem?_set_ne hd.1.1];exact hk),aF (i:=c) (by rw[List.getElem?_set_ne hd.1.2.1];exact hc),aF (i:=a) (by rw[List.getElem?_set_ne hd.1.2.2.1];exact ha),aF (i:=b) (by rw[List.getElem?_set_ne hd.1.2.2.2.1];exact hb),aF (i:=t) (by rw[List.getElem?_set_ne hd.1.2.2.2.2];exact ht)]
 refine bT [i,k,c,a,b,t] [i] 0 (FP hC h r) hd ?_ ?_ ?_ rfl (.cons (by simp[XV.ca,XC.ok]) (.cons (by simp[XV.ca,XC.ok]) .nil)) (.cons rfl (.cons rfl .nil)) (bC.ok _) (bC.ay _) ?_ rfl rfl hh' hbd (.inr fun j _ hj=>?_)
 ·exact .cons hi (.flat hk (.cons hc (.flat ha (.flat hb (.flat ht .nil)))))
 ·exact .cons (by simp[ak.ca,XC.ok]) (.flat (.cons (by simp[ak.ca,XC.ok]) (.flat (.flat (.flat .nil)))))
 ·exact .cons (by simp[ak.ca,XC.ok]) (.flat (.cons (by simp[ak.ca,XC.ok]) (.flat (.flat (.flat .nil)))))
 ·exact .cons rfl (.flat (.cons rfl (.flat (.flat (.flat .nil)))))
 ·subst hh
  rw[List.getElem?_set,if_neg (fun h=>hj (by rw[h];exact List.mem_singleton.2 rfl))]
theorem Pe(a b:List XC)(e e' e2:TypeId)(cs ds c1 c2 c3 c4:List XC)(e4 e5 e6 e7:TypeId):ee [.cells a e false false,cR e' cs,.cells c1 e4 false false,.cells c2 e5 true false,.cells c3 e6 false false,.cells c4 e7 true false] [.cells b e false false,.dead,.cells c1 e4 false false,.cells c2 e5 true false,.cells c3 e6 false false,.cells c4 e7 true false,cR e2 ds]=true:=by
 cases cs<;>cases ds<;>simp[ee,ak.live,ak.own,cR]
theorem rA{C:Cd}(hC:xe C){bs:List Bool}{n:Nat}{z:Int}(hz:z=(n:Nat))(hn:n<C.S.length)(hbl:bs.length<=1000000){HS:aj}{i k c a b t:Nat}(hi:HS[i]? = some (aN k bs))(hk:HS[k]? = some (aq bs))(hc:HS[c]? = some (aw a b t C))(ha:HS[a]? = some (aR C))(hb:HS[b]? = some (aT C))(ht:HS[t]? = some (aS C))(hd : [i,k,c,a,b,t].Nodup){N:Nat}(hN:HS.length=N){HS':aj}(hh:bK HS [i,k] [aN N (bs++cV C n),.dead,aq (bs++cV C n)]=HS')(hbd:Nat.blt HS'.length Mem.bound=true) :
 aG.Sound Tryz.prog ⟨80,[.one (.ptr c 0),.one (.ptr i 0),.one (.int .i64 z)],HS,.one (.int .i64 0),HS',[i,k]⟩:=by
 subst hN
 subst hz
 have hh':bK HS [i,k,c,a,b,t] [aN HS.length (bs++cV C n),.dead,aw a b t C,aR C,aT C,aS C,aq (bs++cV C n)]=HS':=by
  subst hh
  simp only[List.nodup_cons,List.mem_cons,List.not_mem_nil,or_false,not_or]at hd
  simp only[bK]
  rw[aF (i:=c) (by rw[List.getElem?_set_ne hd.2.1.1,List.getElem?_set_ne hd.1.2.1];exact hc),aF (i:=a) (by rw[List.getElem?_set_ne hd.2.1.2.1,List.getElem?_set_ne hd.1.2.2.1];exact ha),aF (i:=b) (by rw[List.getElem?_set_ne hd.2.1.2.2.1,List.getElem?_set_ne hd.1.2.2.2.1];exact hb),aF (i:=t) (by rw[List.getElem?_set_ne hd.2.1.2.2.2,List.getElem?_set_ne hd.1.2.2.2.2];exact ht)]
 refine bT [i,k,c,a,b,t] [i,k] 1 (Is hC bs n hn hbl) hd ?_ ?_ ?_ rfl (.cons (by simp[XV.ca,XC.ok]) (.cons (by simp[XV.ca,XC.ok]) (.flat .nil))) (.cons rfl (.cons rfl (.flat .nil))) (bC.ok _) (bC.ay _) ?_ (Pe ..) rfl hh' hbd (.inr fun j hjl hj=>?_)
 ·exact ae.ir hi rfl rfl rfl (.flat hk (.cons hc (.flat ha (.flat hb (.flat ht .nil)))))
 ·exact .cons (by simp[ak.ca,XC.ok,ba]) (.flat (.cons (by simp[ak.ca,XC.ok]) (.flat (.flat (.flat .nil)))))
 ·exact .cons (by simp[ak.ca,XC.ok,ba]) (.flat (.cons (by simp[ak.ca,XC.ok]) (.flat (.flat (.flat (.flat .nil))))))
 ·exact .cons (by simp only[ak.ay,List.map_cons,List.map_nil,XC.ay,aC];rfl) (.flat (.cons rfl (.flat (.flat (.flat (.flat .nil))))))
 ·subst hh
  exact m6 _ _ _ _ hjl (by simpa using hj)
end Go.Proofs.YtagpkhindehcbaaGreat
namespace Go.Xm
variable [ax]
theorem CV{P:Program}{f:FuncId}{args:List XV}{v1 v:XV}{hs1 hs2:aj}(hc:bh P f args [] v1 hs1)(τl:List Nat)(hv:v1=v.ay (nth τl))(hok:v.ca hs2.length)(nd:Nd τl hs2)(ho:ae (nth τl) hs1 τl hs2)(hk:bl hs2.length hs2)(hb:Nat.blt hs2.length Mem.bound=true):bh P f args [] v hs2:=by
 intro m hm β w vs hall hw
 refine(hc m hm β w vs hall hw).mono fun e w' ⟨u,β',m1,he,hm1,hu,hst⟩=>?_
 have hbd:hs2.length<Mem.bound:=by simpa [Nat.blt_eq]using hb
 have hm2:=iY hs2 hbd
 have nm:=hm.n
 have n2:=hm2.n
 simp only[List.length_nil]at nm
 let β2:Env:=⟨fun i => β'.dm (nth τl i),fun i => β'.base (nth τl i),fun i => β'.size (nth τl i)⟩
 have hvia:CH β2 β' (nth τl) hs2.length:=fun i _=>⟨rfl,rfl,rfl⟩
 have hview:=ho.view nd hk
 subst hv
 refine⟨u,β2,mW hs2,he,hm2,by rw[n2];exact hu.yF hvia hok,⟨by omega,fun i hi=>by omega,hst.rel.view hm1 hm2 hview hvia,hst.os,hst.tape,hst.output,hst.size,hst.frame,fun k hk hi=>hst.xn k hk (Rel.zW hm1 hm2 hview hvia hi)⟩⟩
end Go.Xm
namespace Go.Proofs.YtagpkhindehcbaaGreat
open Go.Xm
def cM:Cd:=⟨[2,1,3,4,4],[2,0,6,14,15],[-2,1,-1,2,-3,3,-4,-5]⟩
def cZ:Cd:=⟨[3,2,2,3,3,4,5,6,7,8,9,10,10],[4,0,1,5,6,14,30,62,126,254,510,1022,1023],[1,2,-2,-3,3,4,-1,-4,-5,5,-6,6,-7,7,-8,8,-9,9,-10,10,-11,11,-12,-13]⟩
def cP:Cd:=⟨[3,4,4,4,4,4,5,4,4,5,4,4,4,5,5,3],[0,4,5,6,7,8,28,9,10,29,11,12,13,30,31,1],[1,6,2,3,-1,-16,4,5,-2,-3,-4,-5,7,10,8,9,-6,-8,-9,-11,11,12,-12,-13,13,14,-7,-10,-14,-15]⟩
theorem AN:xe cM:=zc (by decide)
theorem AO:xe cZ:=zc (by decide)
theorem Eo:xe cP:=zc (by decide)
abbrev bO(a b c:Nat):ak := .cells [.ptr a 0,.ptr b 0,.ptr c 0] 86 false false
abbrev Io:aj:=[bO 1 5 9,aw 2 3 4 cM,aR cM,aT cM,aS cM,aw 6 7 8 cZ,aR cZ,aT cZ,aS cZ,aw 10 11 12 cP,aR cP,aT cP,aS cP]
noncomputable def Jo:Option (XV×Mem):=(qE x8 Tryz.prog 100000 60).call 10 [] Mem.empty
abbrev ze:List Nat:=[74,5,2,3,11,17,14,15,39,45,42,43,73]
theorem Gg:Jo.map (fun p=>(p.1,p.2.n,ze.map p.2.get))=some (.one (.ptr 74 0),75,Io.map (·.ay (nth ze))):=by kernel_rfl
variable [ax]
theorem MC:bh Tryz.prog 10 [] [] (.one (.ptr 0 0)) Io:=by
 obtain⟨⟨v,m⟩,h1,h2⟩:=Option.map_eq_some_iff.1 Gg
 simp only[Prod.mk.injEq]at h2
 obtain⟨rfl,h3,h4⟩:=h2
 have hc:=CU (ki Tryz.prog) mixed (v := .one (.ptr 74 0)) (hs':=qR m) (f:=10) (args:=[]) (F:=100000) (k:=60) (by
  show Jo.map _=_
  rw[h1];rfl)
 have hg:∀i,i<75->(qR m)[i]? = some (m.get i):=fun i hi=>by
  unfold qR
  rw[h3]
  simp[hi]
 simp only[List.map_cons,List.map_nil,List.cons.injEq]at h4
 obtain⟨g0,g1,g2,g3,g4,g5,g6,g7,g8,g9,g10,g11,g12,_⟩:=h4
 refine CV hc ze rfl (by simp[XV.ca,XC.ok]) (Or.inl (by decide)) ?_ ?_ rfl
 ·refine .cons (by rw[hg _ (by decide),g0]) (.cons (by rw[hg _ (by decide),g1]) (.cons (by rw[hg _ (by decide),g2]) (.cons (by rw[hg _ (by decide),g3]) (.cons (by rw[hg _ (by decide),g4]) (.cons (by rw[hg _ (by decide),g5]) (.cons (by rw[hg _ (by decide),g6]) (.cons (by rw[hg _ (by decide),g7]) (.cons (by rw[hg _ (by decide),g8]) (.cons (by rw[hg _ (by decide),g9]) (.cons (by rw[hg _ (by decide),g10]) (.cons (by rw[hg _ (by decide),g11]) (.cons (by rw[hg _ (by decide),g12]) .nil))))))))))))
 ·refine .cons (by simp[ak.ca,XC.ok]) (.cons (by simp[ak.ca,XC.ok]) (.flat (.flat (.flat (.cons (by simp[ak.ca,XC.ok]) (.flat (.flat (.flat (.cons (by simp[ak.ca,XC.ok]) (.flat (.flat (.flat .nil))))))))))))
end Go.Proofs.YtagpkhindehcbaaGreat
namespace Go.Proofs.YtagpkhindehcbaaGreat
open Go.Xm
variable [ax]
def stepOf(q:Int):Int:=64*max 2 (min (max q 1) 31/2)
theorem n7(q:Int):128<=stepOf q/\stepOf q<=960:=by unfold stepOf;omega
theorem vS(q:Int):bh Tryz.prog 111 [.one (.int .i64 q)] [] (.one (.int .i64 (stepOf q))) []:=by
 refine cO Tryz.func111 ?_
 repeat' (first|refine zz ?_|refine zx (fun _=>?_) (fun _=>?_)|fail)
 refine mP (.inr rfl) (fun m hm=>rfl) ?_ rfl
 rfl
def dG(n q:Int):Int:=min ((max n 0+stepOf q/2)/stepOf q) 127
theorem dP(n q:Int)(hn : -100000000<=n/\n<=100000000):bh Tryz.prog 99 [.one (.int .i64 n),.one (.int .i64 q)] [] (.one (.int .i64 (dG n q))) []:=by
 have hs:=n7 q
 refine cO Tryz.func99 ?_
 repeat' (first
  |(refine qz ?_;first
   |refine aE (az (vS _) rfl rfl rfl) rfl rfl rfl rfl rfl rfl (by kernel_rfl) rfl ?_)
  |refine zz ?_|refine zx (fun _=>?_) (fun _=>?_)|fail)
 refine mP (.inr rfl) (fun m hm=>rfl) ?_ rfl
 rfl
def gU(n q:Int):Int:=min (max n 0) 127*stepOf q
theorem qo(n q:Int):0<=gU n q/\gU n q<=121920:=by
 have h1:=n7 q
 have h2:0<=min (max n 0) 127/\min (max n 0) 127<=127:=by omega
 unfold gU
 exact⟨Int.mul_nonneg h2.1 (by omega),by
  have:=Int.mul_le_mul h2.2 h1.2 (by omega) (by omega:(0:Int)<=127)
  omega⟩
theorem xk(n q:Int):bh Tryz.prog 112 [.one (.int .i64 n),.one (.int .i64 q)] [] (.one (.int .i64 (gU n q))) []:=by
 have hs:=n7 q
 have hb:=qo n q
 unfold gU at hb
 refine cO Tryz.func112 ?_
 repeat' (first
  |(refine qz ?_;first
   |refine aE (az (vS _) rfl rfl rfl) rfl rfl rfl rfl rfl rfl (by kernel_rfl) rfl ?_)
  |refine zz ?_|refine zx (fun _=>?_) (fun _=>?_)|fail)
 refine mP (.inr rfl) (fun m hm=>rfl) ?_ rfl
 rfl
theorem j5(a b:Int)(ha : -1000000<=a/\a<=1000000)(hb : -1000000<=b/\b<=1000000):bh Tryz.prog 103 [.one (.int .i64 a),.one (.int .i64 b)] [] (.one (.int .i64 (max (a-b) (b-a)))) []:=by
 refine cO Tryz.func103 ?_
 repeat' (first|refine zz ?_|refine zx (fun _=>?_) (fun _=>?_)|fail)
 refine mP (.inr rfl) (fun m hm=>rfl) ?_ rfl
 rfl
structure Kn where
 lv:Nat->Int
 qp:Int
def dQ(b:Kn):List XC:=ti .i64 64 b.lv++[.int .i64 b.qp]
theorem vd(b:Kn):(dQ b)[64]? = some (.int .i64 b.qp):=by
 unfold dQ
 rw[List.getElem?_append_right (by rw[aD];omega),aD];rfl
theorem Bf(b:Kn)(j:Nat)(h:j<64):(dQ b)[j]? = some (.int .i64 (b.lv j)):=by
 unfold dQ
 rw[List.getElem?_append_left (by rw[aD];exact h),fz h]
theorem bq(b:Kn):(dQ b).all XC.shut=true:=by
 simp[dQ,ti,XC.shut]
theorem gF(b:Kn):bh Tryz.prog 102 [.agg (dQ b)] [] (.one (.int .i64 (gU (b.lv 0) b.qp))) []:=by
 refine cO Tryz.func102 ?_
 repeat' (first
  |(refine qz ?_;first
   |refine aE (az (xk _ _) rfl rfl rfl) rfl rfl rfl rfl rfl rfl (by kernel_rfl) rfl ?_
   |refine gl rfl rfl rfl rfl rfl rfl (vd _) ?_
   |refine gl rfl rfl rfl rfl rfl rfl (Bf _ _ (by omega)) ?_)
  |refine zz ?_|refine zx (fun _=>?_) (fun _=>?_)|fail)
 refine mP (.inr rfl) (fun m hm=>rfl) ?_ rfl
 rfl
def placeOf(cols mb k:Int):Int×Int×Int:=if k<4 then(0,2*(mb%cols)+k%2,2*(mb/cols)+k/2)else(k-3,mb%cols,mb/cols)
theorem BD{cols rows mb k:Int}(hc:1<=cols/\cols<=8)(hm:0<=mb/\mb<1000000)(hk:0<=k/\k<1000):0<=mb/cols/\mb/cols<=mb/\0<=mb%cols/\mb%cols<cols:=
 ⟨Int.ediv_nonneg hm.1 (by omega),Int.ediv_le_self _ hm.1,Int.emod_nonneg _ (by omega),Int.emod_lt_of_pos _ (by omega)⟩
end Go.Proofs.YtagpkhindehcbaaGreat
namespace Go.Proofs.YtagpkhindehcbaaGreat
open Go.Xm
variable [ax]
abbrev oH:=List (Int×Kn)
def OQ(z:Int):X1 := .one (.int .i64 z)
def Dc(b:Kn):X1 := .agg (dQ b)
theorem uc:uC Tryz.prog 3 OQ:=OV
def O3:Kn:=⟨fun _=>0,0⟩
theorem P6:pI Tryz.prog 156=some (Dc O3):=by kernel_rfl
abbrev ag(M:oH):List (X1×X1):=lz OQ Dc M
theorem jg(M:oH)(τ : Nat->Nat):(ag M).map (fun p=>(p.1.ay τ,p.2.ay τ))=ag M:=by
 unfold ag lz
 rw[List.map_map]
 refine List.map_congr_left fun p _=>?_
 simp only[Function.comp,X1.eE (x:=Dc p.2) (bq p.2) τ]
 rfl
theorem zh(M:oH)(n:Nat):∀p∈ag M,p.1.ok n/\p.2.ok n:=by
 intro p hp
 obtain⟨q,_,rfl⟩:=List.mem_map.1 hp
 exact⟨trivial,X1.bV (x:=Dc q.2) (bq q.2) n⟩
abbrev BZ(cols rows:Int):List XC:=[.int .i64 cols,.int .i64 rows,.map 1,.map 2,.map 3]
abbrev bX(cols rows:Int)(A B C:oH):aj:=[.cells (BZ cols rows) 171 false false,.map (ag A),.map (ag B),.map (ag C)]
theorem dL(cols rows:Int)(A B C:oH):∀o∈bX cols rows A B C,o.ca 4:=by
 intro o ho
 simp only[bX,List.mem_cons,List.not_mem_nil,or_false]at ho
 rcases ho with rfl|rfl|rfl|rfl
 ·simp[ak.ca,XC.ok,BZ]
 ·exact zh A 4
 ·exact zh B 4
 ·exact zh C 4
theorem GV(cols rows:Int)(A B C:oH):∀o∈bX cols rows A B C,o.live=true:=by
 intro o ho
 simp only[bX,List.mem_cons,List.not_mem_nil,or_false]at ho
 rcases ho with rfl|rfl|rfl|rfl<;>rfl
theorem yx{HS:aj}{cols rows:Int}{A B C:oH}(a b c d:Nat)(hd : [a,b,c,d].Nodup)(ha:HS[a]? = some (.cells [.int .i64 cols,.int .i64 rows,.map b,.map c,.map d] 171 false false))(hb:HS[b]? = some (.map (ag A)))(hc:HS[c]? = some (.map (ag B)))(hdd:HS[d]? = some (.map (ag C))) :
 View (nth [a,b,c,d]) HS (bX cols rows A B C):=by
 refine Ob [a,b,c,d] rfl hd (dL _ _ _ _ _) fun j o hj=>?_
 match j,hj with
 | 0,hj=>cases hj;exact ha
 | 1,hj=>cases hj;simp only[ak.ay,jg];exact hb
 | 2,hj=>cases hj;simp only[ak.ay,jg];exact hc
 | 3,hj=>cases hj;simp only[ak.ay,jg];exact hdd
 | j+4,hj=>simp[bX]at hj
def bU(A B C:oH)(p:Int):oH:=if p=0 then A else if p=1 then B else C
def sS(cols mb k:Int):XV := .tup [.one (.int .i64 (placeOf cols mb k).1),.one (.int .i64 (if k<4 then 2*cols else cols)),.one (.int .i64 (placeOf cols mb k).2.1),.one (.int .i64 (placeOf cols mb k).2.2)]
theorem yc(cols mb k:Int)(n:Nat):(sS cols mb k).ca n:=by
 simp[sS,XV.ca,X1.ok,XC.ok]
theorem Gp(cols rows mb k:Int)(A B C:oH)(hc:1<=cols/\cols<=8)(hm:0<=mb/\mb<1000000)(hk:0<=k/\k<1000) :
 bh Tryz.prog 100 [.one (.ptr 0 0),.one (.int .i64 mb),.one (.int .i64 k)] (bX cols rows A B C) (sS cols mb k) (bX cols rows A B C):=by
 have hb:=BD (rows:=0) hc hm hk
 refine cO Tryz.func100 ?_
 repeat' (first|refine zz ?_|refine zx (fun _=>?_) (fun _=>?_)|fail)
 ·show aB _ _ _ _ _ _ _ _;refine b9 (junk:=[]) (.inr rfl) (fun m hm=>rfl) ?_ (yc _ _ _ _) rfl (dL _ _ _ _ _)
  simp only[sS,placeOf,if_pos (show k<4 from ‹_›)]
 ·show aB _ _ _ _ _ _ _ _;refine b9 (junk:=[]) (.inr rfl) (fun m hm=>rfl) ?_ (yc _ _ _ _) rfl (dL _ _ _ _ _)
  simp only[sS,placeOf,if_neg (show¬k<4 from ‹_›)]
def iH(cols rows mb k:Int):Bool:=decide (0<=mb/\mb<cols*rows/\0<=k/\k<6)
theorem fJ(cols rows mb k:Int)(A B C:oH)(hcr:0<=cols*rows/\cols*rows<=64) :
 bh Tryz.prog 98 [.one (.ptr 0 0),.one (.int .i64 mb),.one (.int .i64 k)] (bX cols rows A B C) (.one (.bool (iH cols rows mb k))) (bX cols rows A B C):=by
 refine cO Tryz.func98 ?_
 repeat' (first|refine zz ?_|refine zx (fun _=>?_) (fun _=>?_)|fail)
 all_goals
  show aB _ _ _ _ _ _ _ _;refine kM ?_ (dL _ _ _ _ _)
  unfold iH
  first
   | rw[decide_eq_true (by omega)];rfl
   | rw[decide_eq_false (by omega)];rfl
end Go.Proofs.YtagpkhindehcbaaGreat
namespace Go.Proofs.YtagpkhindehcbaaGreat
open Go.Xm
variable [ax]
def cD(T:oH)(wide x y:Int):Option Kn:=if x<0\/y<0\/wide<=x then none else cC T (y*wide+x)
def found(o:Option Kn):XV := .tup [Dc (o.getD O3),.one (.bool o.isSome)]
theorem A6(o:Option Kn)(n:Nat):(found o).ca n:=by
 intro x hx
 simp only[List.mem_cons,List.not_mem_nil,or_false]at hx
 rcases hx with rfl|rfl
 ·exact X1.bV (x:=Dc _) (bq _) n
 ·trivial
theorem H2(cols rows p wide x y:Int)(A B C:oH)(hp:p=0\/p=1\/p=2)(hyw : -10000<=y*wide/\y*wide<=10000)(hx : -10000<=x/\x<=10000) :
 bh Tryz.prog 101 [.one (.ptr 0 0),.one (.int .i64 p),.one (.int .i64 wide),.one (.int .i64 x),.one (.int .i64 y)] (bX cols rows A B C) (found (cD (bU A B C p) wide x y)) (bX cols rows A B C):=by
 unfold cD
 by_cases hin:x<0\/y<0\/wide<=x
 ·rw[if_pos hin]
  refine cO Tryz.func101 ?_
  repeat' (first|refine zz ?_|refine zx (fun _=>?_) (fun _=>?_)|fail)
  all_goals
   show aB _ _ _ _ _ _ _ _
   refine b9 (junk:=_) (.inr rfl) (ig.two rfl (.cell rfl rfl (cj rfl) (.tmp rfl .nil))) ?_ (A6 _ _) rfl (dL _ _ _ _ _)
   rfl
 ·rw [if_neg hin]
  rcases hp with rfl|rfl|rfl
  all_goals
   refine cO Tryz.func101 ?_
   repeat' (first
    |(refine qz ?_;first
     |refine E4 rfl rfl rfl rfl uc P6 rfl rfl rfl ?_)
    |refine zz ?_|refine zx (fun _=>?_) (fun _=>?_)|fail)
   show aB _ _ _ _ _ _ _ _
   refine b9 (junk:=_) (.inr rfl) (ig.two rfl (.cell rfl rfl (cj rfl) (.tmp rfl .nil))) ?_ (A6 _ _) rfl (dL _ _ _ _ _)
   rfl
theorem aJ{f:FuncId}{args:List XV}{v:XV}{cols rows:Int}{A B C:oH}{HS:aj}(hc:bh Tryz.prog f (.one (.ptr 0 0)::args) (bX cols rows A B C) v (bX cols rows A B C))(a b c d:Nat)(hd : [a,b,c,d].Nodup)(ha:HS[a]? = some (.cells [.int .i64 cols,.int .i64 rows,.map b,.map c,.map d] 171 false false))(hb:HS[b]? = some (.map (ag A)))(hcc:HS[c]? = some (.map (ag B)))(hdd:HS[d]? = some (.map (ag C)))
 (hs:args.all XV.shut=true) (hv:v.shut=true) (hbd:Nat.blt HS.length Mem.bound=true):aG.Sound Tryz.prog ⟨f,.one (.ptr a 0)::args,HS,v,HS,[]⟩:=by
 have hs':∀x∈args,x.shut=true:=List.all_eq_true.1 hs
 refine F_ hc (yx a b c d hd ha hb hcc hdd) (GV _ _ _ _ _) (fun x hx=>?_) ?_ (XV.eZ hv _) (XV.eE hv _) hbd rfl
 ·rcases List.mem_cons.1 hx with rfl|hx
  ·show 0<4;omega
  ·exact XV.eZ (hs' x hx) _
 ·show XV.ay _ _::args.map _=_
  rw[mo hs']
  rfl
end Go.Proofs.YtagpkhindehcbaaGreat
namespace Go.Proofs.YtagpkhindehcbaaGreat
open Go.Xm
variable [ax]
def iA(b:Kn):Int:=gU (b.lv 0) b.qp
theorem fV(b:Kn):0<=iA b/\iA b<=121920:=qo _ _
def j9(la lb lc:Option Kn)(q:Int):Int×Int:=
 match la,lb with
 | some a,some b=>
   let m:=match lc with
    | some c=>iA c
    | none=>8192
   if max (iA a-m) (m-iA a)<max (m-iA b) (iA b-m)then(2,dG (iA b) q)else(1,dG (iA a) q)
 | some a,none=>(1,dG (iA a) q)
 | none,some b=>(2,dG (iA b) q)
 | none,none=>(0,dG 8192 q)
def kQ(e:Int×Int):XV := .tup [.one (.int .u8 e.1),.one (.int .i64 e.2)]
theorem lZ(e:Int×Int)(n:Nat):(kQ e).ca n:=by simp[kQ,XV.ca,X1.ok,XC.ok]
theorem fh{cols rows p wide x y:Int}{A B C:oH}{b:Kn}(h:cD (bU A B C p) wide x y=some b)(hp:p=0\/p=1\/p=2)(hyw : -10000<=y*wide/\y*wide<=10000)(hx : -10000<=x/\x<=10000) :
 bh Tryz.prog 101 [.one (.ptr 0 0),.one (.int .i64 p),.one (.int .i64 wide),.one (.int .i64 x),.one (.int .i64 y)] (bX cols rows A B C) (.tup [.agg (dQ b),.one (.bool true)]) (bX cols rows A B C):=by
 have:=H2 cols rows p wide x y A B C hp hyw hx
 rw[h]at this
 exact this
theorem iF{cols rows p wide x y:Int}{A B C:oH}(h:cD (bU A B C p) wide x y=none)(hp:p=0\/p=1\/p=2)(hyw : -10000<=y*wide/\y*wide<=10000)(hx : -10000<=x/\x<=10000) :
 bh Tryz.prog 101 [.one (.ptr 0 0),.one (.int .i64 p),.one (.int .i64 wide),.one (.int .i64 x),.one (.int .i64 y)] (bX cols rows A B C) (.tup [.agg (dQ O3),.one (.bool false)]) (bX cols rows A B C):=by
 have:=H2 cols rows p wide x y A B C hp hyw hx
 rw[h]at this
 exact this
theorem OU{a b:Kn}(h:dQ a=dQ b):(∀i,i<64->a.lv i=b.lv i)/\a.qp=b.qp:=by
 refine⟨fun i hi=>?_,?_⟩
 ·have e:=Bf a i hi
  rw[h,Bf b i hi]at e
  simpa using e.symm
 ·have e:=vd a
  rw[h,vd b]at e
  simpa using e.symm
theorem bR{a b:Kn}{h h' g g':aj}(e:h=g->h'=g'):Compat ⟨102,[.agg (dQ a)],h,.one (.int .i64 (gU (a.lv 0) a.qp)),h',[]⟩ ⟨102,[.agg (dQ b)],g,.one (.int .i64 (gU (b.lv 0) b.qp)),g',[]⟩:=by
 intro _ h2 h3
 simp only[List.cons.injEq,XV.agg.injEq,and_true]at h2
 have:=OU h2
 exact⟨by show XV.one _=XV.one _;rw[this.1 0 (by omega),this.2],e h3,rfl⟩
theorem ch{a b c d:Int}{h h' g g':aj}(e:h=g->h'=g'):Compat ⟨103,[.one (.int .i64 a),.one (.int .i64 b)],h,.one (.int .i64 (max (a-b) (b-a))),h',[]⟩ ⟨103,[.one (.int .i64 c),.one (.int .i64 d)],g,.one (.int .i64 (max (c-d) (d-c))),g',[]⟩:=by
 intro _ h2 h3
 simp only[List.cons.injEq,XV.one.injEq,XC.int.injEq,true_and,and_true]at h2
 obtain⟨rfl,rfl⟩:=h2
 exact⟨rfl,e h3,rfl⟩
end Go.Proofs.YtagpkhindehcbaaGreat
