/-
  A part of the proof: Codes, PartNew, PrSmall, PrTab, PrAt, PrExp0.
-/
import Derived.Test.YtagpkhindehcbaaGreatKfF
import Derived.Test.YtagpkhindehcbaaGreatKfG
set_option maxRecDepth 10000
set_option maxHeartbeats 8000000
set_option linter.unusedVariables false
set_option linter.unusedSectionVars false
set_option linter.unusedSimpArgs false
namespace Go.Proofs.YtagpkhindehcbaaGreat
open Go.Xm
structure Cd where
 S:List Int
 W:List Int
 T:List Int
def ND(C:Cd):Bool:=decide (C.W.length=C.S.length)&&decide (C.S.length<=64)&&decide (C.T.length=2*(C.T.length/2))&&decide (0<C.T.length/\C.T.length<=1000)&&C.S.all (fun s=>decide (0<=s/\s<=64))&&C.W.all (fun w=>decide (0<=w/\w<18446744073709551616))&&
 (List.range C.T.length).all (fun j=>decide (-1000<=C.T.getD j 0/\(C.T.getD j 0<=0\/((j/2:Nat):Int)<C.T.getD j 0/\2*C.T.getD j 0+1<C.T.length)))
structure w4(C:Cd):Prop where
 lenW:C.W.length=C.S.length
 lenS:C.S.length<=64
 even:C.T.length=2*(C.T.length/2)
 pos:0<C.T.length/\C.T.length<=1000
 sz:∀i,0<=C.S.getD i 0/\C.S.getD i 0<=64
 wd:∀i,0<=C.W.getD i 0/\C.W.getD i 0<18446744073709551616
 tr:∀j,j<C.T.length -> -1000<=C.T.getD j 0/\(C.T.getD j 0<=0\/((j/2:Nat):Int)<C.T.getD j 0/\2*C.T.getD j 0+1<C.T.length)
theorem iy{l:List Int}{p:Int->Prop}(h:∀x∈l,p x)(h0:p 0)(i:Nat):p (l.getD i 0):=by
 rw[List.getD_eq_getElem?_getD]
 cases hi:l[i]? with
 | none=>exact h0
 | some x=>exact h x (List.mem_of_getElem? hi)
theorem yU{C:Cd}(h:ND C=true):w4 C:=by
 unfold ND at h
 simp only[Bool.and_eq_true,decide_eq_true_eq,List.all_eq_true,List.mem_range]at h
 obtain⟨⟨⟨⟨⟨⟨h1,h2⟩,h3⟩,h4⟩,h5⟩,h6⟩,h7⟩:=h
 exact⟨h1,h2,h3,h4,iy h5 (by decide),iy h6 (by decide),h7⟩
variable [ax]
abbrev aw(a b t:Nat)(C:Cd):ak := .cells [.slice a 0 C.S.length (.toEnd 1),.slice b 0 C.S.length (.exact C.S.length),.slice t 0 (C.T.length/2) (.toEnd 2)] 163 false false
abbrev aR(C:Cd):ak := .cells (il .i64 C.S) 3 true false
abbrev aT(C:Cd):ak := .cells (il .u64 C.W) 77 false false
abbrev aS(C:Cd):ak := .cells (il .i64 C.T) 190 true false
def c9(C:Cd)(n:Nat):List Bool:=d8 (C.W.getD n 0) (C.S.getD n 0).toNat
theorem Ih{C:Cd}(hC:w4 C)(bs:List Bool)(n:Nat)(hn:n<C.S.length)(hb:bs.length<=1000000) :
 bh Tryz.prog 80 [.one (.ptr 2 0),.one (.ptr 0 0),.one (.int .i64 (n:Nat))] [aN 1 bs,aq bs,aw 3 4 5 C,aR C,aT C,aS C] (.one (.int .i64 0)) [aN 6 (bs++c9 C n),.dead,aw 3 4 5 C,aR C,aT C,aS C,aq (bs++c9 C n)]:=by
 have h1:=hC.lenW
 have h2:=hC.lenS
 have h3:=hC.sz n
 have h4:=hC.wd n
 have e3:(C.S.getD ((n:Int)).toNat 0)=C.S.getD n 0:=rfl
 have e5:((C.S.getD n 0).toNat:Int)=C.S.getD n 0:=by omega
 refine cO Tryz.func80 ?_
 repeat' (first
  |(refine qz ?_;first
   |refine cl ?_ (hi:=by exact iJ (n:=C.W.getD n 0) (z:=C.S.getD n 0) (size:=(C.S.getD n 0).toNat) (by omega) (bs:=bs) h4 (by omega) hb rfl rfl (by decide) nL nA rfl))
  |refine zz ?_|refine zx (fun _=>?_) (fun _=>?_)|fail)
 show aC _ _ _ _ _ _ _ _;refine kV [0,1,2,3,4,5,6] ?_
 rfl
def qG(C:Cd)(B:List Bool):Nat->Int->Nat×Bool->Int×(Nat×Bool)
 | 0,_,r=>(0,(r.1,true))
 | k+1,x,r=>
   if(bg B r).2=true\/C.T.getD (x.toNat*2+(b2 (cm B r)%2^1).toNat) 0=0 then(0,((bg B r).1,true))
   else if C.T.getD (x.toNat*2+(b2 (cm B r)%2^1).toNat) 0<0 then(-1-C.T.getD (x.toNat*2+(b2 (cm B r)%2^1).toNat) 0,bg B r)
   else qG C B k (C.T.getD (x.toNat*2+(b2 (cm B r)%2^1).toNat) 0) (bg B r)
def kK(C:Cd)(B:List Bool)(r:Nat×Bool):Int×(Nat×Bool):=qG C B (C.T.length/2) 0 r
theorem Fz{C:Cd}(hC:w4 C){L:List Int}{B:List Bool}(h:dp L B)(r:Nat×Bool) :
 bh Tryz.prog 63 [.one (.ptr 2 0),.one (.ptr 0 0)] [bt 1 L B r.1 r.2,aL L,aw 3 4 5 C,aR C,aT C,aS C] (.one (.int .i64 (kK C B r).1)) [bt 1 L B (kK C B r).2.1 (kK C B r).2.2,aL L,aw 3 4 5 C,aR C,aT C,aS C]:=by
 have hp:=hC.pos
 have hev:=hC.even
 refine cO Tryz.func63 ?_
 have e0:qG C B (C.T.length/2) 0 r=kK C B r:=rfl
 generalize kK C B r=q at e0 ⊢
 repeat' (first|refine zz ?_|refine zx (fun _=>?_) (fun _=>?_)|fail)
 refine WX.dw (σ:=Nat×Int×(Nat×Bool)) (fun s=>[(5,.one (.int .i64 s.2.1)),(1,.one (.ptr 0 0)),(0,.one (.ptr 2 0))]) (fun s=>[bt 1 L B s.2.2.1 s.2.2.2,aL L,aw 3 4 5 C,aR C,aT C,aS C]) (fun s=>qG C B s.1 s.2.1 s.2.2=q/\0<=s.2.1/\s.2.1+s.1>=C.T.length/2/\2*s.2.1+1<C.T.length) (fun s=>s.1) (C.T.length/2,0,r) ⟨e0,Int.le_refl _,by show(0:Int)+_>=_;omega,by show 2*(0:Int)+1<_;omega⟩ (fun s _=>lD) (cG [0,1,2,3,4,5]) ?_
 intro s ⟨h1,h2,h3,h4⟩ ih
 obtain⟨k,hk⟩:∃k,s.1=k+1:=by
  cases hs:s.1 with
  | zero=>rw[hs]at h3;omega
  | succ k=>exact⟨k,rfl⟩
 have hq:q=qG C B (k+1) s.2.1 s.2.2:=by rw[<-h1,hk]
 rw[qG]at hq
 have hb:=Av (cm B s.2.2)
 have ht:=hC.tr (s.2.1.toNat*2+(b2 (cm B s.2.2)%2^1).toNat) (by omega)
 repeat' (first
  |(refine qz ?_;first
   |refine cl ?_ (hi:=by exact rS h s.2.2 rfl rfl rfl (by decide) nL rfl)
   |refine an (n:=1) ?_
   |refine cl ?_ (hi:=by exact gG rfl rfl (by decide) nL rfl)
   |refine uK (fun ge=>?_) (fun ge=>?_) (hi:=by exact gW rfl rfl (by decide) rfl))
  |refine zz ?_|refine zx (fun _=>?_) (fun _=>?_)|fail)
 ·rw[hq,if_pos (Or.inl ge)]
  show aC _ _ _ _ _ _ _ _;refine kV [0,1,2,3,4,5] ?_
  rfl
 ·rename_i gx
  rw[hq,if_pos (Or.inr gx)]
  show aC _ _ _ _ _ _ _ _;refine kV [0,1,2,3,4,5] ?_
  rfl
 ·rename_i gx gn
  rw[hq,if_neg (by rw[ge];simp;exact gx),if_pos gn]
  show aC _ _ _ _ _ _ _ _;refine kV [0,1,2,3,4,5] ?_
  rfl
 ·rename_i gx gn
  rw[if_neg (by rw[ge];simp;exact gx),if_neg gn]at hq
  refine ih (k,C.T.getD (s.2.1.toNat*2+(b2 (cm B s.2.2)%2^1).toNat) 0,bg B s.2.2) _ _ _ (cG [0,1,2,3,4,5]) ⟨hq.symm,by show 0<=C.T.getD _ 0;omega,?_,by show 2*C.T.getD _ 0+1<_;omega⟩ (by show k<s.1;omega)
  show C.T.getD _ 0+(k:Int)>=_
  omega
theorem uN{C:Cd}(hC:w4 C){L:List Int}{B:List Bool}(h:dp L B)(r:Nat×Bool){HS:aj}{i k c a b t:Nat}(hi:HS[i]? = some (bt k L B r.1 r.2))(hk:HS[k]? = some (aL L))(hc:HS[c]? = some (aw a b t C))(ha:HS[a]? = some (aR C))(hb:HS[b]? = some (aT C))(ht:HS[t]? = some (aS C))(hd : [i,k,c,a,b,t].Nodup){HS':aj}(hh:HS.set i (bt k L B (kK C B r).2.1 (kK C B r).2.2)=HS')(hbd:Nat.blt HS'.length Mem.bound=true) :
 aG.Sound Tryz.prog ⟨63,[.one (.ptr c 0),.one (.ptr i 0)],HS,.one (.int .i64 (kK C B r).1),HS',[i]⟩:=by
 have hh':bK HS [i,k,c,a,b,t] [bt k L B (kK C B r).2.1 (kK C B r).2.2,aL L,aw a b t C,aR C,aT C,aS C]=HS':=by
  subst hh
  simp only[List.nodup_cons,List.mem_cons,List.not_mem_nil,or_false,not_or]at hd
  simp only[bK,List.append_nil]
  rw[aF (i:=k) (by rw[List.getElem?_set_ne hd.1.1];exact hk),aF (i:=c) (by rw[List.getElem?_set_ne hd.1.2.1];exact hc),aF (i:=a) (by rw[List.getElem?_set_ne hd.1.2.2.1];exact ha),aF (i:=b) (by rw[List.getElem?_set_ne hd.1.2.2.2.1];exact hb),aF (i:=t) (by rw[List.getElem?_set_ne hd.1.2.2.2.2];exact ht)]
 refine bO [i,k,c,a,b,t] [i] 0 (Fz hC h r) hd ?_ ?_ ?_ rfl (.cons (by simp[XV.b7,XC.ok]) (.cons (by simp[XV.b7,XC.ok]) .nil)) (.cons rfl (.cons rfl .nil)) (bE.ok _) (bE.ay _) ?_ rfl rfl hh' hbd (.inr fun j _ hj=>?_)
 ·exact .cons hi (.flat hk (.cons hc (.flat ha (.flat hb (.flat ht .nil)))))
 ·exact .cons (by simp[ak.b7,XC.ok]) (.flat (.cons (by simp[ak.b7,XC.ok]) (.flat (.flat (.flat .nil)))))
 ·exact .cons (by simp[ak.b7,XC.ok]) (.flat (.cons (by simp[ak.b7,XC.ok]) (.flat (.flat (.flat .nil)))))
 ·exact .cons rfl (.flat (.cons rfl (.flat (.flat (.flat .nil)))))
 ·subst hh
  rw[List.getElem?_set,if_neg (fun h=>hj (by rw[h];exact List.mem_singleton.2 rfl))]
theorem OW(a b:List XC)(e e' e2:TypeId)(cs ds c1 c2 c3 c4:List XC)(e4 e5 e6 e7:TypeId):d9 [.cells a e false false,cE e' cs,.cells c1 e4 false false,.cells c2 e5 true false,.cells c3 e6 false false,.cells c4 e7 true false] [.cells b e false false,.dead,.cells c1 e4 false false,.cells c2 e5 true false,.cells c3 e6 false false,.cells c4 e7 true false,cE e2 ds]=true:=by
 cases cs<;>cases ds<;>simp[d9,ak.live,ak.own,cE]
theorem rz{C:Cd}(hC:w4 C){bs:List Bool}{n:Nat}{z:Int}(hz:z=(n:Nat))(hn:n<C.S.length)(hbl:bs.length<=1000000){HS:aj}{i k c a b t:Nat}(hi:HS[i]? = some (aN k bs))(hk:HS[k]? = some (aq bs))(hc:HS[c]? = some (aw a b t C))(ha:HS[a]? = some (aR C))(hb:HS[b]? = some (aT C))(ht:HS[t]? = some (aS C))(hd : [i,k,c,a,b,t].Nodup){N:Nat}(hN:HS.length=N){HS':aj}(hh:bK HS [i,k] [aN N (bs++c9 C n),.dead,aq (bs++c9 C n)]=HS')(hbd:Nat.blt HS'.length Mem.bound=true) :
 aG.Sound Tryz.prog ⟨80,[.one (.ptr c 0),.one (.ptr i 0),.one (.int .i64 z)],HS,.one (.int .i64 0),HS',[i,k]⟩:=by
 subst hN
 subst hz
 have hh':bK HS [i,k,c,a,b,t] [aN HS.length (bs++c9 C n),.dead,aw a b t C,aR C,aT C,aS C,aq (bs++c9 C n)]=HS':=by
  subst hh
  simp only[List.nodup_cons,List.mem_cons,List.not_mem_nil,or_false,not_or]at hd
  simp only[bK]
  rw[aF (i:=c) (by rw[List.getElem?_set_ne hd.2.1.1,List.getElem?_set_ne hd.1.2.1];exact hc),aF (i:=a) (by rw[List.getElem?_set_ne hd.2.1.2.1,List.getElem?_set_ne hd.1.2.2.1];exact ha),aF (i:=b) (by rw[List.getElem?_set_ne hd.2.1.2.2.1,List.getElem?_set_ne hd.1.2.2.2.1];exact hb),aF (i:=t) (by rw[List.getElem?_set_ne hd.2.1.2.2.2,List.getElem?_set_ne hd.1.2.2.2.2];exact ht)]
 refine bO [i,k,c,a,b,t] [i,k] 1 (Ih hC bs n hn hbl) hd ?_ ?_ ?_ rfl (.cons (by simp[XV.b7,XC.ok]) (.cons (by simp[XV.b7,XC.ok]) (.flat .nil))) (.cons rfl (.cons rfl (.flat .nil))) (bE.ok _) (bE.ay _) ?_ (OW ..) rfl hh' hbd (.inr fun j hjl hj=>?_)
 ·exact ae.ij hi rfl rfl rfl (.flat hk (.cons hc (.flat ha (.flat hb (.flat ht .nil)))))
 ·exact .cons (by simp[ak.b7,XC.ok,aZ]) (.flat (.cons (by simp[ak.b7,XC.ok]) (.flat (.flat (.flat .nil)))))
 ·exact .cons (by simp[ak.b7,XC.ok,aZ]) (.flat (.cons (by simp[ak.b7,XC.ok]) (.flat (.flat (.flat (.flat .nil))))))
 ·exact .cons (by simp only[ak.ay,List.map_cons,List.map_nil,XC.ay,aB];rfl) (.flat (.cons rfl (.flat (.flat (.flat (.flat .nil))))))
 ·subst hh
  exact mV _ _ _ _ hjl (by simpa using hj)
end Go.Proofs.YtagpkhindehcbaaGreat
namespace Go.Xm
variable [ax]
theorem CL{P:Program}{f:FuncId}{args:List XV}{v1 v:XV}{hs1 hs2:aj}(hc:bh P f args [] v1 hs1)(τl:List Nat)(hv:v1=v.ay (nth τl))(hok:v.b7 hs2.length)(nd:Nd τl hs2)(ho:ae (nth τl) hs1 τl hs2)(hk:bc hs2.length hs2)(hb:Nat.blt hs2.length Mem.bound=true):bh P f args [] v hs2:=by
 intro m hm β w vs hall hw
 refine(hc m hm β w vs hall hw).mono fun e w' ⟨u,β',m1,he,hm1,hu,hst⟩=>?_
 have hbd:hs2.length<Mem.bound:=by simpa [Nat.blt_eq]using hb
 have hm2:=iZ hs2 hbd
 have nm:=hm.n
 have n2:=hm2.n
 simp only[List.length_nil]at nm
 let β2:Env:=⟨fun i => β'.dt (nth τl i),fun i => β'.base (nth τl i),fun i => β'.size (nth τl i)⟩
 have hvia:Cx β2 β' (nth τl) hs2.length:=fun i _=>⟨rfl,rfl,rfl⟩
 have hview:=ho.view nd hk
 subst hv
 refine⟨u,β2,mR hs2,he,hm2,by rw[n2];exact hu.yr hvia hok,⟨by omega,fun i hi=>by omega,hst.rel.view hm1 hm2 hview hvia,hst.os,hst.tape,hst.output,hst.size,hst.frame,fun k hk hi=>hst.xa k hk (Rel.zN hm1 hm2 hview hvia hi)⟩⟩
end Go.Xm
namespace Go.Proofs.YtagpkhindehcbaaGreat
open Go.Xm
def cM:Cd:=⟨[2,1,3,4,4],[2,0,6,14,15],[-2,1,-1,2,-3,3,-4,-5]⟩
def cZ:Cd:=⟨[3,2,2,3,3,4,5,6,7,8,9,10,10],[4,0,1,5,6,14,30,62,126,254,510,1022,1023],[1,2,-2,-3,3,4,-1,-4,-5,5,-6,6,-7,7,-8,8,-9,9,-10,10,-11,11,-12,-13]⟩
def cP:Cd:=⟨[3,4,4,4,4,4,5,4,4,5,4,4,4,5,5,3],[0,4,5,6,7,8,28,9,10,29,11,12,13,30,31,1],[1,6,2,3,-1,-16,4,5,-2,-3,-4,-5,7,10,8,9,-6,-8,-9,-11,11,12,-12,-13,13,14,-7,-10,-14,-15]⟩
theorem AD:w4 cM:=yU (by decide)
theorem AE:w4 cZ:=yU (by decide)
theorem Ef:w4 cP:=yU (by decide)
abbrev bM(a b c:Nat):ak := .cells [.ptr a 0,.ptr b 0,.ptr c 0] 86 false false
abbrev Ib:aj:=[bM 1 5 9,aw 2 3 4 cM,aR cM,aT cM,aS cM,aw 6 7 8 cZ,aR cZ,aT cZ,aS cZ,aw 10 11 12 cP,aR cP,aT cP,aS cP]
noncomputable def Ja:Option (XV×Mem):=(qB xT Tryz.prog 100000 60).call 10 [] Mem.empty
abbrev yW:List Nat:=[74,5,2,3,11,17,14,15,39,45,42,43,73]
theorem F5:Ja.map (fun p=>(p.1,p.2.n,yW.map p.2.get))=some (.one (.ptr 74 0),75,Ib.map (·.ay (nth yW))):=by kernel_rfl
variable [ax]
theorem Mn:bh Tryz.prog 10 [] [] (.one (.ptr 0 0)) Ib:=by
 obtain⟨⟨v,m⟩,h1,h2⟩:=Option.map_eq_some_iff.1 F5
 simp only[Prod.mk.injEq]at h2
 obtain⟨rfl,h3,h4⟩:=h2
 have hc:=CK (j_ Tryz.prog) mixed (v := .one (.ptr 74 0)) (hs':=qO m) (f:=10) (args:=[]) (F:=100000) (k:=60) (by
  show Ja.map _=_
  rw[h1];rfl)
 have hg:∀i,i<75->(qO m)[i]? = some (m.get i):=fun i hi=>by
  unfold qO
  rw[h3]
  simp[hi]
 simp only[List.map_cons,List.map_nil,List.cons.injEq]at h4
 obtain⟨g0,g1,g2,g3,g4,g5,g6,g7,g8,g9,g10,g11,g12,_⟩:=h4
 refine CL hc yW rfl (by simp[XV.b7,XC.ok]) (Or.inl (by decide)) ?_ ?_ rfl
 ·refine .cons (by rw[hg _ (by decide),g0]) (.cons (by rw[hg _ (by decide),g1]) (.cons (by rw[hg _ (by decide),g2]) (.cons (by rw[hg _ (by decide),g3]) (.cons (by rw[hg _ (by decide),g4]) (.cons (by rw[hg _ (by decide),g5]) (.cons (by rw[hg _ (by decide),g6]) (.cons (by rw[hg _ (by decide),g7]) (.cons (by rw[hg _ (by decide),g8]) (.cons (by rw[hg _ (by decide),g9]) (.cons (by rw[hg _ (by decide),g10]) (.cons (by rw[hg _ (by decide),g11]) (.cons (by rw[hg _ (by decide),g12]) .nil))))))))))))
 ·refine .cons (by simp[ak.b7,XC.ok]) (.cons (by simp[ak.b7,XC.ok]) (.flat (.flat (.flat (.cons (by simp[ak.b7,XC.ok]) (.flat (.flat (.flat (.cons (by simp[ak.b7,XC.ok]) (.flat (.flat (.flat .nil))))))))))))
end Go.Proofs.YtagpkhindehcbaaGreat
namespace Go.Proofs.YtagpkhindehcbaaGreat
open Go.Xm
variable [ax]
def stepOf(q:Int):Int:=64*max 2 (min (max q 1) 31/2)
theorem nZ(q:Int):128<=stepOf q/\stepOf q<=960:=by unfold stepOf;omega
theorem vJ(q:Int):bh Tryz.prog 111 [.one (.int .i64 q)] [] (.one (.int .i64 (stepOf q))) []:=by
 refine cO Tryz.func111 ?_
 repeat' (first|refine zz ?_|refine zx (fun _=>?_) (fun _=>?_)|fail)
 refine mM (.inr rfl) (fun m hm=>rfl) ?_ rfl
 rfl
def dG(n q:Int):Int:=min ((max n 0+stepOf q/2)/stepOf q) 127
theorem dN(n q:Int)(hn : -100000000<=n/\n<=100000000):bh Tryz.prog 99 [.one (.int .i64 n),.one (.int .i64 q)] [] (.one (.int .i64 (dG n q))) []:=by
 have hs:=nZ q
 refine cO Tryz.func99 ?_
 repeat' (first
  |(refine qz ?_;first
   |refine aD (aA (vJ _) rfl rfl rfl) rfl rfl rfl rfl rfl rfl (by kernel_rfl) rfl ?_)
  |refine zz ?_|refine zx (fun _=>?_) (fun _=>?_)|fail)
 refine mM (.inr rfl) (fun m hm=>rfl) ?_ rfl
 rfl
def gT(n q:Int):Int:=min (max n 0) 127*stepOf q
theorem qj(n q:Int):0<=gT n q/\gT n q<=121920:=by
 have h1:=nZ q
 have h2:0<=min (max n 0) 127/\min (max n 0) 127<=127:=by omega
 unfold gT
 exact⟨Int.mul_nonneg h2.1 (by omega),by
  have:=Int.mul_le_mul h2.2 h1.2 (by omega) (by omega:(0:Int)<=127)
  omega⟩
theorem w9(n q:Int):bh Tryz.prog 112 [.one (.int .i64 n),.one (.int .i64 q)] [] (.one (.int .i64 (gT n q))) []:=by
 have hs:=nZ q
 have hb:=qj n q
 unfold gT at hb
 refine cO Tryz.func112 ?_
 repeat' (first
  |(refine qz ?_;first
   |refine aD (aA (vJ _) rfl rfl rfl) rfl rfl rfl rfl rfl rfl (by kernel_rfl) rfl ?_)
  |refine zz ?_|refine zx (fun _=>?_) (fun _=>?_)|fail)
 refine mM (.inr rfl) (fun m hm=>rfl) ?_ rfl
 rfl
theorem jX(a b:Int)(ha : -1000000<=a/\a<=1000000)(hb : -1000000<=b/\b<=1000000):bh Tryz.prog 103 [.one (.int .i64 a),.one (.int .i64 b)] [] (.one (.int .i64 (max (a-b) (b-a)))) []:=by
 refine cO Tryz.func103 ?_
 repeat' (first|refine zz ?_|refine zx (fun _=>?_) (fun _=>?_)|fail)
 refine mM (.inr rfl) (fun m hm=>rfl) ?_ rfl
 rfl
structure Kn where
 lv:Nat->Int
 qp:Int
def dO(b:Kn):List XC:=ti .i64 64 b.lv++[.int .i64 b.qp]
theorem u6(b:Kn):(dO b)[64]? = some (.int .i64 b.qp):=by
 unfold dO
 rw[List.getElem?_append_right (by rw[aE];omega),aE];rfl
theorem A4(b:Kn)(j:Nat)(h:j<64):(dO b)[j]? = some (.int .i64 (b.lv j)):=by
 unfold dO
 rw[List.getElem?_append_left (by rw[aE];exact h),iV h]
theorem bn(b:Kn):(dO b).all XC.shut=true:=by
 simp[dO,ti,XC.shut]
theorem gE(b:Kn):bh Tryz.prog 102 [.agg (dO b)] [] (.one (.int .i64 (gT (b.lv 0) b.qp))) []:=by
 refine cO Tryz.func102 ?_
 repeat' (first
  |(refine qz ?_;first
   |refine aD (aA (w9 _ _) rfl rfl rfl) rfl rfl rfl rfl rfl rfl (by kernel_rfl) rfl ?_
   |refine gk rfl rfl rfl rfl rfl rfl (u6 _) ?_
   |refine gk rfl rfl rfl rfl rfl rfl (A4 _ _ (by omega)) ?_)
  |refine zz ?_|refine zx (fun _=>?_) (fun _=>?_)|fail)
 refine mM (.inr rfl) (fun m hm=>rfl) ?_ rfl
 rfl
def placeOf(cols mb k:Int):Int×Int×Int:=if k<4 then(0,2*(mb%cols)+k%2,2*(mb/cols)+k/2)else(k-3,mb%cols,mb/cols)
theorem Bt{cols rows mb k:Int}(hc:1<=cols/\cols<=8)(hm:0<=mb/\mb<1000000)(hk:0<=k/\k<1000):0<=mb/cols/\mb/cols<=mb/\0<=mb%cols/\mb%cols<cols:=
 ⟨Int.ediv_nonneg hm.1 (by omega),Int.ediv_le_self _ hm.1,Int.emod_nonneg _ (by omega),Int.emod_lt_of_pos _ (by omega)⟩
abbrev oJ:=List (Int×Kn)
def Oy(z:Int):X1 := .one (.int .i64 z)
def C1(b:Kn):X1 := .agg (dO b)
theorem t6:uw Tryz.prog 3 Oy:=OD
def OL:Kn:=⟨fun _=>0,0⟩
theorem PL:pE Tryz.prog 156=some (C1 OL):=by kernel_rfl
abbrev ag(M:oJ):List (X1×X1):=lQ Oy C1 M
theorem jh(M:oJ)(τ : Nat->Nat):(ag M).map (fun p=>(p.1.ay τ,p.2.ay τ))=ag M:=by
 unfold ag lQ
 rw[List.map_map]
 refine List.map_congr_left fun p _=>?_
 simp only[Function.comp,X1.eC (x:=C1 p.2) (bn p.2) τ]
 rfl
theorem yZ(M:oJ)(n:Nat):∀p∈ag M,p.1.ok n/\p.2.ok n:=by
 intro p hp
 obtain⟨q,_,rfl⟩:=List.mem_map.1 hp
 exact⟨trivial,X1.bV (x:=C1 q.2) (bn q.2) n⟩
abbrev BQ(cols rows:Int):List XC:=[.int .i64 cols,.int .i64 rows,.map 1,.map 2,.map 3]
abbrev bX(cols rows:Int)(A B C:oJ):aj:=[.cells (BQ cols rows) 171 false false,.map (ag A),.map (ag B),.map (ag C)]
theorem dK(cols rows:Int)(A B C:oJ):∀o∈bX cols rows A B C,o.b7 4:=by
 intro o ho
 simp only[bX,List.mem_cons,List.not_mem_nil,or_false]at ho
 rcases ho with rfl|rfl|rfl|rfl
 ·simp[ak.b7,XC.ok,BQ]
 ·exact yZ A 4
 ·exact yZ B 4
 ·exact yZ C 4
theorem GK(cols rows:Int)(A B C:oJ):∀o∈bX cols rows A B C,o.live=true:=by
 intro o ho
 simp only[bX,List.mem_cons,List.not_mem_nil,or_false]at ho
 rcases ho with rfl|rfl|rfl|rfl<;>rfl
theorem yj{HS:aj}{cols rows:Int}{A B C:oJ}(a b c d:Nat)(hd : [a,b,c,d].Nodup)(ha:HS[a]? = some (.cells [.int .i64 cols,.int .i64 rows,.map b,.map c,.map d] 171 false false))(hb:HS[b]? = some (.map (ag A)))(hc:HS[c]? = some (.map (ag B)))(hdd:HS[d]? = some (.map (ag C))) :
 View (nth [a,b,c,d]) HS (bX cols rows A B C):=by
 refine NV [a,b,c,d] rfl hd (dK _ _ _ _ _) fun j o hj=>?_
 match j,hj with
 | 0,hj=>cases hj;exact ha
 | 1,hj=>cases hj;simp only[ak.ay,jh];exact hb
 | 2,hj=>cases hj;simp only[ak.ay,jh];exact hc
 | 3,hj=>cases hj;simp only[ak.ay,jh];exact hdd
 | j+4,hj=>simp[bX]at hj
def bU(A B C:oJ)(p:Int):oJ:=if p=0 then A else if p=1 then B else C
def sP(cols mb k:Int):XV := .tup [.one (.int .i64 (placeOf cols mb k).1),.one (.int .i64 (if k<4 then 2*cols else cols)),.one (.int .i64 (placeOf cols mb k).2.1),.one (.int .i64 (placeOf cols mb k).2.2)]
theorem xY(cols mb k:Int)(n:Nat):(sP cols mb k).b7 n:=by
 simp[sP,XV.b7,X1.ok,XC.ok]
theorem Gc(cols rows mb k:Int)(A B C:oJ)(hc:1<=cols/\cols<=8)(hm:0<=mb/\mb<1000000)(hk:0<=k/\k<1000) :
 bh Tryz.prog 100 [.one (.ptr 0 0),.one (.int .i64 mb),.one (.int .i64 k)] (bX cols rows A B C) (sP cols mb k) (bX cols rows A B C):=by
 have hb:=Bt (rows:=0) hc hm hk
 refine cO Tryz.func100 ?_
 repeat' (first|refine zz ?_|refine zx (fun _=>?_) (fun _=>?_)|fail)
 ·show aC _ _ _ _ _ _ _ _;refine b8 (junk:=[]) (.inr rfl) (fun m hm=>rfl) ?_ (xY _ _ _ _) rfl (dK _ _ _ _ _)
  simp only[sP,placeOf,if_pos (show k<4 from ‹_›)]
 ·show aC _ _ _ _ _ _ _ _;refine b8 (junk:=[]) (.inr rfl) (fun m hm=>rfl) ?_ (xY _ _ _ _) rfl (dK _ _ _ _ _)
  simp only[sP,placeOf,if_neg (show¬k<4 from ‹_›)]
def iG(cols rows mb k:Int):Bool:=decide (0<=mb/\mb<cols*rows/\0<=k/\k<6)
theorem fM(cols rows mb k:Int)(A B C:oJ)(hcr:0<=cols*rows/\cols*rows<=64) :
 bh Tryz.prog 98 [.one (.ptr 0 0),.one (.int .i64 mb),.one (.int .i64 k)] (bX cols rows A B C) (.one (.bool (iG cols rows mb k))) (bX cols rows A B C):=by
 refine cO Tryz.func98 ?_
 repeat' (first|refine zz ?_|refine zx (fun _=>?_) (fun _=>?_)|fail)
 all_goals
  show aC _ _ _ _ _ _ _ _;refine kM ?_ (dK _ _ _ _ _)
  unfold iG
  first
   | rw[decide_eq_true (by omega)];rfl
   | rw[decide_eq_false (by omega)];rfl
def cI(T:oJ)(wide x y:Int):Option Kn:=if x<0\/y<0\/wide<=x then none else cH T (y*wide+x)
def found(o:Option Kn):XV := .tup [C1 (o.getD OL),.one (.bool o.isSome)]
theorem AV(o:Option Kn)(n:Nat):(found o).b7 n:=by
 intro x hx
 simp only[List.mem_cons,List.not_mem_nil,or_false]at hx
 rcases hx with rfl|rfl
 ·exact X1.bV (x:=C1 _) (bn _) n
 ·trivial
theorem HT(cols rows p wide x y:Int)(A B C:oJ)(hp:p=0\/p=1\/p=2)(hyw : -10000<=y*wide/\y*wide<=10000)(hx : -10000<=x/\x<=10000) :
 bh Tryz.prog 101 [.one (.ptr 0 0),.one (.int .i64 p),.one (.int .i64 wide),.one (.int .i64 x),.one (.int .i64 y)] (bX cols rows A B C) (found (cI (bU A B C p) wide x y)) (bX cols rows A B C):=by
 unfold cI
 by_cases hin:x<0\/y<0\/wide<=x
 ·rw[if_pos hin]
  refine cO Tryz.func101 ?_
  repeat' (first|refine zz ?_|refine zx (fun _=>?_) (fun _=>?_)|fail)
  all_goals
   show aC _ _ _ _ _ _ _ _
   refine b8 (junk:=_) (.inr rfl) (ib.two rfl (.cell rfl rfl (cg rfl) (.tmp rfl .nil))) ?_ (AV _ _) rfl (dK _ _ _ _ _)
   rfl
 ·rw [if_neg hin]
  rcases hp with rfl|rfl|rfl
  all_goals
   refine cO Tryz.func101 ?_
   repeat' (first
    |(refine qz ?_;first
     |refine ER rfl rfl rfl rfl t6 PL rfl rfl rfl ?_)
    |refine zz ?_|refine zx (fun _=>?_) (fun _=>?_)|fail)
   show aC _ _ _ _ _ _ _ _
   refine b8 (junk:=_) (.inr rfl) (ib.two rfl (.cell rfl rfl (cg rfl) (.tmp rfl .nil))) ?_ (AV _ _) rfl (dK _ _ _ _ _)
   rfl
theorem aJ{f:FuncId}{args:List XV}{v:XV}{cols rows:Int}{A B C:oJ}{HS:aj}(hc:bh Tryz.prog f (.one (.ptr 0 0)::args) (bX cols rows A B C) v (bX cols rows A B C))(a b c d:Nat)(hd : [a,b,c,d].Nodup)(ha:HS[a]? = some (.cells [.int .i64 cols,.int .i64 rows,.map b,.map c,.map d] 171 false false))(hb:HS[b]? = some (.map (ag A)))(hcc:HS[c]? = some (.map (ag B)))(hdd:HS[d]? = some (.map (ag C)))
 (hs:args.all XV.shut=true) (hv:v.shut=true) (hbd:Nat.blt HS.length Mem.bound=true):aG.Sound Tryz.prog ⟨f,.one (.ptr a 0)::args,HS,v,HS,[]⟩:=by
 have hs':∀x∈args,x.shut=true:=List.all_eq_true.1 hs
 refine FW hc (yj a b c d hd ha hb hcc hdd) (GK _ _ _ _ _) (fun x hx=>?_) ?_ (XV.e9 hv _) (XV.eC hv _) hbd rfl
 ·rcases List.mem_cons.1 hx with rfl|hx
  ·show 0<4;omega
  ·exact XV.e9 (hs' x hx) _
 ·show XV.ay _ _::args.map _=_
  rw[mn hs']
  rfl
def iw(b:Kn):Int:=gT (b.lv 0) b.qp
theorem fX(b:Kn):0<=iw b/\iw b<=121920:=qj _ _
def j5(la lb lc:Option Kn)(q:Int):Int×Int:=
 match la,lb with
 | some a,some b=>
   let m:=match lc with
    | some c=>iw c
    | none=>8192
   if max (iw a-m) (m-iw a)<max (m-iw b) (iw b-m)then(2,dG (iw b) q)else(1,dG (iw a) q)
 | some a,none=>(1,dG (iw a) q)
 | none,some b=>(2,dG (iw b) q)
 | none,none=>(0,dG 8192 q)
def kN(e:Int×Int):XV := .tup [.one (.int .u8 e.1),.one (.int .i64 e.2)]
theorem lX(e:Int×Int)(n:Nat):(kN e).b7 n:=by simp[kN,XV.b7,X1.ok,XC.ok]
theorem fk{cols rows p wide x y:Int}{A B C:oJ}{b:Kn}(h:cI (bU A B C p) wide x y=some b)(hp:p=0\/p=1\/p=2)(hyw : -10000<=y*wide/\y*wide<=10000)(hx : -10000<=x/\x<=10000) :
 bh Tryz.prog 101 [.one (.ptr 0 0),.one (.int .i64 p),.one (.int .i64 wide),.one (.int .i64 x),.one (.int .i64 y)] (bX cols rows A B C) (.tup [.agg (dO b),.one (.bool true)]) (bX cols rows A B C):=by
 have:=HT cols rows p wide x y A B C hp hyw hx
 rw[h]at this
 exact this
theorem iF{cols rows p wide x y:Int}{A B C:oJ}(h:cI (bU A B C p) wide x y=none)(hp:p=0\/p=1\/p=2)(hyw : -10000<=y*wide/\y*wide<=10000)(hx : -10000<=x/\x<=10000) :
 bh Tryz.prog 101 [.one (.ptr 0 0),.one (.int .i64 p),.one (.int .i64 wide),.one (.int .i64 x),.one (.int .i64 y)] (bX cols rows A B C) (.tup [.agg (dO OL),.one (.bool false)]) (bX cols rows A B C):=by
 have:=HT cols rows p wide x y A B C hp hyw hx
 rw[h]at this
 exact this
theorem OC{a b:Kn}(h:dO a=dO b):(∀i,i<64->a.lv i=b.lv i)/\a.qp=b.qp:=by
 refine⟨fun i hi=>?_,?_⟩
 ·have e:=A4 a i hi
  rw[h,A4 b i hi]at e
  simpa using e.symm
 ·have e:=u6 a
  rw[h,u6 b]at e
  simpa using e.symm
theorem bT{a b:Kn}{h h' g g':aj}(e:h=g->h'=g'):Compat ⟨102,[.agg (dO a)],h,.one (.int .i64 (gT (a.lv 0) a.qp)),h',[]⟩ ⟨102,[.agg (dO b)],g,.one (.int .i64 (gT (b.lv 0) b.qp)),g',[]⟩:=by
 intro _ h2 h3
 simp only[List.cons.injEq,XV.agg.injEq,and_true]at h2
 have:=OC h2
 exact⟨by show XV.one _=XV.one _;rw[this.1 0 (by omega),this.2],e h3,rfl⟩
theorem cf{a b c d:Int}{h h' g g':aj}(e:h=g->h'=g'):Compat ⟨103,[.one (.int .i64 a),.one (.int .i64 b)],h,.one (.int .i64 (max (a-b) (b-a))),h',[]⟩ ⟨103,[.one (.int .i64 c),.one (.int .i64 d)],g,.one (.int .i64 (max (c-d) (d-c))),g',[]⟩:=by
 intro _ h2 h3
 simp only[List.cons.injEq,XV.one.injEq,XC.int.injEq,true_and,and_true]at h2
 obtain⟨rfl,rfl⟩:=h2
 exact⟨rfl,e h3,rfl⟩
end Go.Proofs.YtagpkhindehcbaaGreat
