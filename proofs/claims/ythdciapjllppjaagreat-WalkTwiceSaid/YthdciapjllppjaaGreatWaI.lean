/-
  A part of the proof: Codes, PartNew, PrSmall, PrTab, PrAt, PrExp0.
-/
import Derived.Test.YthdciapjllppjaaGreatWaF
import Derived.Test.YthdciapjllppjaaGreatWaG
set_option maxRecDepth 10000
set_option maxHeartbeats 8000000
set_option linter.unusedVariables false
set_option linter.unusedSectionVars false
set_option linter.unusedSimpArgs false
open Go.Proofs.Tryz (prog)
namespace Go.Proofs.YthdciapjllppjaaGreat
open Go.Xm
structure Cd where
 S:List Int
 W:List Int
 T:List Int
def M3(C:Cd):Bool:=decide (C.W.length=C.S.length)&&decide (C.S.length<=64)&&decide (C.T.length=2*(C.T.length/2))&&decide (0<C.T.length/\C.T.length<=1000)&&C.S.all (fun s=>decide (0<=s/\s<=64))&&C.W.all (fun w=>decide (0<=w/\w<18446744073709551616))&&
 (List.range C.T.length).all (fun j=>decide (-1000<=C.T.getD j 0/\(C.T.getD j 0<=0\/((j/2:Nat):Int)<C.T.getD j 0/\2*C.T.getD j 0+1<C.T.length)))
structure Bp(C:Cd):Prop where
 lenW:C.W.length=C.S.length
 lenS:C.S.length<=64
 even:C.T.length=2*(C.T.length/2)
 pos:0<C.T.length/\C.T.length<=1000
 sz:∀i,0<=C.S.getD i 0/\C.S.getD i 0<=64
 wd:∀i,0<=C.W.getD i 0/\C.W.getD i 0<18446744073709551616
 tr:∀j,j<C.T.length -> -1000<=C.T.getD j 0/\(C.T.getD j 0<=0\/((j/2:Nat):Int)<C.T.getD j 0/\2*C.T.getD j 0+1<C.T.length)
theorem nN{l:List Int}{p:Int->Prop}(h:∀x∈l,p x)(h0:p 0)(i:Nat):p (l.getD i 0):=by
 rw[List.getD_eq_getElem?_getD]
 cases hi:l[i]? with
 | none=>exact h0
 | some x=>exact h x (List.mem_of_getElem? hi)
theorem xQ{C:Cd}(h:M3 C=true):Bp C:=by
 unfold M3 at h;simp only[Bool.and_eq_true,decide_eq_true_eq,List.all_eq_true,List.mem_range]at h;obtain⟨⟨⟨⟨⟨⟨h1,h2⟩,h3⟩,h4⟩,h5⟩,h6⟩,h7⟩:=h;exact⟨h1,h2,h3,h4,nN h5 (by decide),nN h6 (by decide),h7⟩
variable [ak]
abbrev aW(a b t:Nat)(C:Cd):aj := .cells [.slice a 0 C.S.length (.toEnd 1),.slice b 0 C.S.length (.exact C.S.length),.slice t 0 (C.T.length/2) (.toEnd 2)] 212 false false
abbrev c6(C:Cd):aj := .cells (il .i64 C.S) 3 true false
abbrev c9(C:Cd):aj := .cells (il .u64 C.W) 95 false false
abbrev c7(C:Cd):aj := .cells (il .i64 C.T) 256 true false
def jl(C:Cd)(n:Nat):List Bool:=aI (C.W.getD n 0) (C.S.getD n 0).toNat
theorem Hp{C:Cd}(hC:Bp C)(bs:List Bool)(n:Nat)(hn:n<C.S.length)(hb:bs.length<=1000000) :
 bq prog 112 [.one (.ptr 2 0),.one (.ptr 0 0),.one (.int .i64 (n:Nat))] [aO 1 bs,au bs,aW 3 4 5 C,c6 C,c9 C,c7 C] (.one (.int .i64 0)) [aO 6 (bs++jl C n),.dead,aW 3 4 5 C,c6 C,c9 C,c7 C,au (bs++jl C n)]:=by
 have h1:=hC.lenW;have h2:=hC.lenS;have h3:=hC.sz n;have h4:=hC.wd n;have e3:(C.S.getD ((n:Int)).toNat 0)=C.S.getD n 0:=rfl;have e5:((C.S.getD n 0).toNat:Int)=C.S.getD n 0:=by omega
 refine cO Tryz.func112 ?_
 repeat' (first
  |(refine qz ?_;first
   |refine cl ?_ (hi:=by exact fj (n:=C.W.getD n 0) (z:=C.S.getD n 0) (size:=(C.S.getD n 0).toNat) (by omega) (bs:=bs) h4 (by omega) hb rfl rfl (by decide) nL nA rfl))
  |refine zz ?_|refine zx (fun _=>?_) (fun _=>?_)|fail)
 show aE _ _ _ _ _ _ _ _;refine kV [0,1,2,3,4,5,6] ?_;rfl
def Qx(C:Cd)(B:List Bool):Nat->Int->Nat×Bool->Int×(Nat×Bool)
 | 0,_,r=>(0,(r.1,true))
 | k+1,x,r=>
   if(ca B r).2=true\/C.T.getD (x.toNat*2+(b2 (fF B r)%2^1).toNat) 0=0 then(0,((ca B r).1,true))
   else if C.T.getD (x.toNat*2+(b2 (fF B r)%2^1).toNat) 0<0 then(-1-C.T.getD (x.toNat*2+(b2 (fF B r)%2^1).toNat) 0,ca B r)
   else Qx C B k (C.T.getD (x.toNat*2+(b2 (fF B r)%2^1).toNat) 0) (ca B r)
def PW(C:Cd)(B:List Bool)(r:Nat×Bool):Int×(Nat×Bool):=Qx C B (C.T.length/2) 0 r
theorem OF(a b:List XC)(e e' e2:TypeId)(cs ds c1 c2 c3 c4:List XC)(e4 e5 e6 e7:TypeId):gK [.cells a e false false,bR e' cs,.cells c1 e4 false false,.cells c2 e5 true false,.cells c3 e6 false false,.cells c4 e7 true false] [.cells b e false false,.dead,.cells c1 e4 false false,.cells c2 e5 true false,.cells c3 e6 false false,.cells c4 e7 true false,bR e2 ds]=true:=by
 cases cs<;>cases ds<;>simp[gK,aj.live,aj.own,bR]
theorem qd{C:Cd}(hC:Bp C){bs:List Bool}{n:Nat}{z:Int}(hz:z=(n:Nat))(hn:n<C.S.length)(hbl:bs.length<=1000000){HS:ah}{i k c a b t:Nat}(hi:HS[i]? = some (aO k bs))(hk:HS[k]? = some (au bs))(hc:HS[c]? = some (aW a b t C))(ha:HS[a]? = some (c6 C))(hb:HS[b]? = some (c9 C))(ht:HS[t]? = some (c7 C))(hd : [i,k,c,a,b,t].Nodup){N:Nat}(hN:HS.length=N){HS':ah}(hh:bE HS [i,k] [aO N (bs++jl C n),.dead,au (bs++jl C n)]=HS')(hbd:Nat.blt HS'.length Mem.bound=true) :
 az.Sound prog ⟨112,[.one (.ptr c 0),.one (.ptr i 0),.one (.int .i64 z)],HS,.one (.int .i64 0),HS',[i,k]⟩:=by
 subst hN;subst hz
 have hh':bE HS [i,k,c,a,b,t] [aO HS.length (bs++jl C n),.dead,aW a b t C,c6 C,c9 C,c7 C,au (bs++jl C n)]=HS':=by
  subst hh;simp only[List.nodup_cons,List.mem_cons,List.not_mem_nil,or_false,not_or]at hd;simp only[bE];rw[aF (i:=c) (by rw[List.getElem?_set_ne hd.2.1.1,List.getElem?_set_ne hd.1.2.1];exact hc),aF (i:=a) (by rw[List.getElem?_set_ne hd.2.1.2.1,List.getElem?_set_ne hd.1.2.2.1];exact ha),aF (i:=b) (by rw[List.getElem?_set_ne hd.2.1.2.2.1,List.getElem?_set_ne hd.1.2.2.2.1];exact hb),aF (i:=t) (by rw[List.getElem?_set_ne hd.2.1.2.2.2,List.getElem?_set_ne hd.1.2.2.2.2];exact ht)]
 refine bz [i,k,c,a,b,t] [i,k] 1 (Hp hC bs n hn hbl) hd ?_ ?_ ?_ rfl (.cons (by simp[XV.bH,XC.ok]) (.cons (by simp[XV.bH,XC.ok]) (.flat .nil))) (.cons rfl (.cons rfl (.flat .nil))) (bZ.ok _) (bZ.aB _) ?_ (OF ..) rfl hh' hbd (.inr fun j hjl hj=>?_)
 ·exact af.ik hi rfl rfl rfl (.flat hk (.cons hc (.flat ha (.flat hb (.flat ht .nil)))))
 ·exact .cons (by simp[aj.bH,XC.ok,aJ]) (.flat (.cons (by simp[aj.bH,XC.ok]) (.flat (.flat (.flat .nil)))))
 ·exact .cons (by simp[aj.bH,XC.ok,aJ]) (.flat (.cons (by simp[aj.bH,XC.ok]) (.flat (.flat (.flat (.flat .nil))))))
 ·exact .cons (by simp only[aj.aB,List.map_cons,List.map_nil,XC.aB,aU];rfl) (.flat (.cons rfl (.flat (.flat (.flat (.flat .nil))))))
 ·subst hh;exact lX _ _ _ _ hjl (by simpa using hj)
end Go.Proofs.YthdciapjllppjaaGreat
namespace Go.Xm
variable [ak]
theorem BH{P:Program}{f:FuncId}{args:List XV}{v1 v:XV}{hs1 hs2:ah}(hc:bq P f args [] v1 hs1)(τl:List Nat)(hv:v1=v.aB (nth τl))(hok:v.bH hs2.length)(nd:Nd τl hs2)(ho:af (nth τl) hs1 τl hs2)(hk:aw hs2.length hs2)(hb:Nat.blt hs2.length Mem.bound=true):bq P f args [] v hs2:=by
 intro m hm β w vs hall hw;refine(hc m hm β w vs hall hw).mono fun e w' ⟨u,β',m1,he,hm1,hu,hst⟩=>?_
 have hbd:hs2.length<Mem.bound:=by simpa [Nat.blt_eq]using hb
 have hm2:=eU hs2 hbd;have nm:=hm.n;have n2:=hm2.n;simp only[List.length_nil]at nm
 let β2:Env:=⟨fun i => β'.bD (nth τl i),fun i => β'.base (nth τl i),fun i => β'.size (nth τl i)⟩
 have hvia:Bk β2 β' (nth τl) hs2.length:=fun i _=>⟨rfl,rfl,rfl⟩
 have hview:=ho.view nd hk;subst hv;refine⟨u,β2,iT hs2,he,hm2,by rw[n2];exact hu.xl hvia hok,⟨by omega,fun i hi=>by omega,hst.rel.view hm1 hm2 hview hvia,hst.os,hst.tape,hst.output,hst.size,hst.frame,fun k hk hi=>hst.pY k hk (Rel.tm hm1 hm2 hview hvia hi),fun k hk hl=>hst.vU k hk (Rel.tn hm1 hm2 hview hvia hl)⟩⟩
end Go.Xm
namespace Go.Proofs.YthdciapjllppjaaGreat
open Go.Xm
def cM:Cd:=⟨[2,1,3,4,4],[2,0,6,14,15],[-2,1,-1,2,-3,3,-4,-5]⟩
def cZ:Cd:=⟨[3,2,2,3,3,4,5,6,7,8,9,10,10],[4,0,1,5,6,14,30,62,126,254,510,1022,1023],[1,2,-2,-3,3,4,-1,-4,-5,5,-6,6,-7,7,-8,8,-9,9,-10,10,-11,11,-12,-13]⟩
def cP:Cd:=⟨[3,4,4,4,4,4,5,4,4,5,4,4,4,5,5,3],[0,4,5,6,7,8,28,9,10,29,11,12,13,30,31,1],[1,6,2,3,-1,-16,4,5,-2,-3,-4,-5,7,10,8,9,-6,-8,-9,-11,11,12,-12,-13,13,14,-7,-10,-14,-15]⟩
theorem Dn:Bp cM:=xQ (by decide)
theorem Dp:Bp cZ:=xQ (by decide)
theorem Hf:Bp cP:=xQ (by decide)
abbrev eZ(a b c:Nat):aj := .cells [.ptr a 0,.ptr b 0,.ptr c 0] 150 false false
abbrev Hk:ah:=[eZ 1 5 9,aW 2 3 4 cM,c6 cM,c9 cM,c7 cM,aW 6 7 8 cZ,c6 cZ,c9 cZ,c7 cZ,aW 10 11 12 cP,c6 cP,c9 cP,c7 cP]
noncomputable def Ix:Option (XV×Mem):=(pv wZ prog 100000 60).call 31 [] Mem.empty
abbrev xS:List Nat:=[74,5,2,3,11,17,14,15,39,45,42,43,73]
theorem Ff:Ix.map (fun p=>(p.1,p.2.n,xS.map p.2.get))=some (.one (.ptr 74 0),75,Hk.map (·.aB (nth xS))):=by kernel_rfl
variable [ak]
theorem LF:bq prog 31 [] [] (.one (.ptr 0 0)) Hk:=by
 obtain⟨⟨v,m⟩,h1,h2⟩:=Option.map_eq_some_iff.1 Ff;simp only[Prod.mk.injEq]at h2;obtain⟨rfl,h3,h4⟩:=h2
 have hc:=BG (jw prog) mixed (v := .one (.ptr 74 0)) (hs':=pH m) (f:=31) (args:=[]) (F:=100000) (k:=60) (by
  show Ix.map _=_
  rw[h1];rfl)
 have hg:∀i,i<75->(pH m)[i]? = some (m.get i):=fun i hi=>by
  unfold pH;rw[h3];simp[hi]
 simp only[List.map_cons,List.map_nil,List.cons.injEq]at h4;obtain⟨g0,g1,g2,g3,g4,g5,g6,g7,g8,g9,g10,g11,g12,_⟩:=h4;refine BH hc xS rfl (by simp[XV.bH,XC.ok]) (Or.inl (by decide)) ?_ ?_ rfl
 ·refine .cons (by rw[hg _ (by decide),g0]) (.cons (by rw[hg _ (by decide),g1]) (.cons (by rw[hg _ (by decide),g2]) (.cons (by rw[hg _ (by decide),g3]) (.cons (by rw[hg _ (by decide),g4]) (.cons (by rw[hg _ (by decide),g5]) (.cons (by rw[hg _ (by decide),g6]) (.cons (by rw[hg _ (by decide),g7]) (.cons (by rw[hg _ (by decide),g8]) (.cons (by rw[hg _ (by decide),g9]) (.cons (by rw[hg _ (by decide),g10]) (.cons (by rw[hg _ (by decide),g11]) (.cons (by rw[hg _ (by decide),g12]) .nil))))))))))))
 ·refine .cons (by simp[aj.bH,XC.ok]) (.cons (by simp[aj.bH,XC.ok]) (.flat (.flat (.flat (.cons (by simp[aj.bH,XC.ok]) (.flat (.flat (.flat (.cons (by simp[aj.bH,XC.ok]) (.flat (.flat (.flat .nil))))))))))))
end Go.Proofs.YthdciapjllppjaaGreat
namespace Go.Proofs.YthdciapjllppjaaGreat
open Go.Xm
variable [ak]
def stepOf(q:Int):Int:=64*max 2 (min (max q 1) 31/2)
theorem mU(q:Int):128<=stepOf q/\stepOf q<=960:=by unfold stepOf;omega
theorem uZ(q:Int):bq prog 158 [.one (.int .i64 q)] [] (.one (.int .i64 (stepOf q))) []:=by
 refine cO Tryz.func158 ?_
 repeat' (first|refine zz ?_|refine zx (fun _=>?_) (fun _=>?_)|fail)
 refine lT (.inr rfl) (fun m hm=>rfl) ?_ rfl;rfl
def df(n q:Int):Int:=min ((max n 0+stepOf q/2)/stepOf q) 127
theorem dj(n q:Int)(hn : -100000000<=n/\n<=100000000):bq prog 139 [.one (.int .i64 n),.one (.int .i64 q)] [] (.one (.int .i64 (df n q))) []:=by
 have hs:=mU q;refine cO Tryz.func139 ?_
 repeat' (first
  |(refine qz ?_;first
   |refine ax (ay (uZ _) rfl rfl rfl) rfl rfl rfl rfl rfl rfl (by kernel_rfl) rfl ?_)
  |refine zz ?_|refine zx (fun _=>?_) (fun _=>?_)|fail)
 refine lT (.inr rfl) (fun m hm=>rfl) ?_ rfl;rfl
def gn(n q:Int):Int:=min (max n 0) 127*stepOf q
theorem o8(n q:Int):0<=gn n q/\gn n q<=121920:=by
 have h1:=mU q;have h2:0<=min (max n 0) 127/\min (max n 0) 127<=127:=by omega
 unfold gn
 exact⟨Int.mul_nonneg h2.1 (by omega),by
  have:=Int.mul_le_mul h2.2 h1.2 (by omega) (by omega:(0:Int)<=127)
  omega⟩
theorem v5(n q:Int):bq prog 159 [.one (.int .i64 n),.one (.int .i64 q)] [] (.one (.int .i64 (gn n q))) []:=by
 have hs:=mU q;have hb:=o8 n q;unfold gn at hb;refine cO Tryz.func159 ?_
 repeat' (first
  |(refine qz ?_;first
   |refine ax (ay (uZ _) rfl rfl rfl) rfl rfl rfl rfl rfl rfl (by kernel_rfl) rfl ?_)
  |refine zz ?_|refine zx (fun _=>?_) (fun _=>?_)|fail)
 refine lT (.inr rfl) (fun m hm=>rfl) ?_ rfl;rfl
theorem jj(a b:Int)(ha : -1000000<=a/\a<=1000000)(hb : -1000000<=b/\b<=1000000):bq prog 143 [.one (.int .i64 a),.one (.int .i64 b)] [] (.one (.int .i64 (max (a-b) (b-a)))) []:=by
 refine cO Tryz.func143 ?_
 repeat' (first|refine zz ?_|refine zx (fun _=>?_) (fun _=>?_)|fail)
 refine lT (.inr rfl) (fun m hm=>rfl) ?_ rfl;rfl
structure Kn where
 lv:Nat->Int
 qp:Int
def dk(b:Kn):List XC:=ti .i64 64 b.lv++[.int .i64 b.qp]
theorem uk(b:Kn):(dk b)[64]? = some (.int .i64 b.qp):=by
 unfold dk;rw[List.getElem?_append_right (by rw[aT];omega),aT];rfl
theorem zF(b:Kn)(j:Nat)(h:j<64):(dk b)[j]? = some (.int .i64 (b.lv j)):=by
 unfold dk;rw[List.getElem?_append_left (by rw[aT];exact h),jK h]
theorem bd(b:Kn):(dk b).all XC.shut=true:=by
 simp[dk,ti,XC.shut]
theorem f6(b:Kn):bq prog 142 [.agg (dk b)] [] (.one (.int .i64 (gn (b.lv 0) b.qp))) []:=by
 refine cO Tryz.func142 ?_
 repeat' (first
  |(refine qz ?_;first
   |refine ax (ay (v5 _ _) rfl rfl rfl) rfl rfl rfl rfl rfl rfl (by kernel_rfl) rfl ?_
   |refine fQ rfl rfl rfl rfl rfl rfl (uk _) ?_
   |refine fQ rfl rfl rfl rfl rfl rfl (zF _ _ (by omega)) ?_)
  |refine zz ?_|refine zx (fun _=>?_) (fun _=>?_)|fail)
 refine lT (.inr rfl) (fun m hm=>rfl) ?_ rfl;rfl
def placeOf(cols mb k:Int):Int×Int×Int:=if k<4 then(0,2*(mb%cols)+k%2,2*(mb/cols)+k/2)else(k-3,mb%cols,mb/cols)
theorem Am{cols rows mb k:Int}(hc:1<=cols/\cols<=8)(hm:0<=mb/\mb<1000000)(hk:0<=k/\k<1000):0<=mb/cols/\mb/cols<=mb/\0<=mb%cols/\mb%cols<cols:=
 ⟨Int.ediv_nonneg hm.1 (by omega),Int.ediv_le_self _ hm.1,Int.emod_nonneg _ (by omega),Int.emod_lt_of_pos _ (by omega)⟩
abbrev nq:=List (Int×Kn)
def N5(z:Int):X1 := .one (.int .i64 z)
def BV(b:Kn):X1 := .agg (dk b)
theorem s6:tB prog 3 N5:=N_
def Ot:Kn:=⟨fun _=>0,0⟩
theorem PM:ow prog 242=some (BV Ot):=by kernel_rfl
abbrev aq(M:nq):List (X1×X1):=kX N5 BV M
theorem iy(M:nq)(τ : Nat->Nat):(aq M).map (fun p=>(p.1.aB τ,p.2.aB τ))=aq M:=by
 unfold aq kX;rw[List.map_map];refine List.map_congr_left fun p _=>?_
 simp only[Function.comp,X1.dQ (x:=BV p.2) (bd p.2) τ];rfl
theorem xV(M:nq)(n:Nat):∀p∈aq M,p.1.ok n/\p.2.ok n:=by
 intro p hp;obtain⟨q,_,rfl⟩:=List.mem_map.1 hp;exact⟨trivial,X1.aX (x:=BV q.2) (bd q.2) n⟩
abbrev AL(cols rows:Int):List XC:=[.int .i64 cols,.int .i64 rows,.map 1,.map 2,.map 3]
abbrev bI(cols rows:Int)(A B C:nq):ah:=[.cells (AL cols rows) 220 false false,.map (aq A),.map (aq B),.map (aq C)]
theorem dh(cols rows:Int)(A B C:nq):∀o∈bI cols rows A B C,o.bH 4:=by
 intro o ho;simp only[bI,List.mem_cons,List.not_mem_nil,or_false]at ho
 rcases ho with rfl|rfl|rfl|rfl
 ·simp[aj.bH,XC.ok,AL]
 ·exact xV A 4
 ·exact xV B 4
 ·exact xV C 4
theorem F_(cols rows:Int)(A B C:nq):∀o∈bI cols rows A B C,o.live=true:=by
 intro o ho;simp only[bI,List.mem_cons,List.not_mem_nil,or_false]at ho
 rcases ho with rfl|rfl|rfl|rfl<;>rfl
theorem xk{HS:ah}{cols rows:Int}{A B C:nq}(a b c d:Nat)(hd : [a,b,c,d].Nodup)(ha:HS[a]? = some (.cells [.int .i64 cols,.int .i64 rows,.map b,.map c,.map d] 220 false false))(hb:HS[b]? = some (.map (aq A)))(hc:HS[c]? = some (.map (aq B)))(hdd:HS[d]? = some (.map (aq C))) :
 View (nth [a,b,c,d]) HS (bI cols rows A B C):=by
 refine Nt [a,b,c,d] rfl hd (dh _ _ _ _ _) fun j o hj=>?_
 match j,hj with
 | 0,hj=>cases hj;exact ha
 | 1,hj=>cases hj;simp only[aj.aB,iy];exact hb
 | 2,hj=>cases hj;simp only[aj.aB,iy];exact hc
 | 3,hj=>cases hj;simp only[aj.aB,iy];exact hdd
 | j+4,hj=>simp[bI]at hj
def bK(A B C:nq)(p:Int):nq:=if p=0 then A else if p=1 then B else C
def rN(cols mb k:Int):XV := .tup [.one (.int .i64 (placeOf cols mb k).1),.one (.int .i64 (if k<4 then 2*cols else cols)),.one (.int .i64 (placeOf cols mb k).2.1),.one (.int .i64 (placeOf cols mb k).2.2)]
theorem w7(cols mb k:Int)(n:Nat):(rN cols mb k).bH n:=by
 simp[rN,XV.bH,X1.ok,XC.ok]
theorem Fu(cols rows mb k:Int)(A B C:nq)(hc:1<=cols/\cols<=8)(hm:0<=mb/\mb<1000000)(hk:0<=k/\k<1000) :
 bq prog 140 [.one (.ptr 0 0),.one (.int .i64 mb),.one (.int .i64 k)] (bI cols rows A B C) (rN cols mb k) (bI cols rows A B C):=by
 have hb:=Am (rows:=0) hc hm hk;refine cO Tryz.func140 ?_
 repeat' (first|refine zz ?_|refine zx (fun _=>?_) (fun _=>?_)|fail)
 ·show aE _ _ _ _ _ _ _ _;refine bN (junk:=[]) (.inr rfl) (fun m hm=>rfl) ?_ (w7 _ _ _ _) rfl (dh _ _ _ _ _);simp only[rN,placeOf,if_pos (show k<4 from ‹_›)]
 ·show aE _ _ _ _ _ _ _ _;refine bN (junk:=[]) (.inr rfl) (fun m hm=>rfl) ?_ (w7 _ _ _ _) rfl (dh _ _ _ _ _);simp only[rN,placeOf,if_neg (show¬k<4 from ‹_›)]
def gR(cols rows mb k:Int):Bool:=decide (0<=mb/\mb<cols*rows/\0<=k/\k<6)
theorem fe(cols rows mb k:Int)(A B C:nq)(hcr:0<=cols*rows/\cols*rows<=64) :
 bq prog 138 [.one (.ptr 0 0),.one (.int .i64 mb),.one (.int .i64 k)] (bI cols rows A B C) (.one (.bool (gR cols rows mb k))) (bI cols rows A B C):=by
 refine cO Tryz.func138 ?_
 repeat' (first|refine zz ?_|refine zx (fun _=>?_) (fun _=>?_)|fail)
 all_goals
  show aE _ _ _ _ _ _ _ _;refine kM ?_ (dh _ _ _ _ _);unfold gR
  first
   | rw[decide_eq_true (by omega)];rfl
   | rw[decide_eq_false (by omega)];rfl
def cf(T:nq)(wide x y:Int):Option Kn:=if x<0\/y<0\/wide<=x then none else eK T (y*wide+x)
def found(o:Option Kn):XV := .tup [BV (o.getD Ot),.one (.bool o.isSome)]
theorem zt(o:Option Kn)(n:Nat):(found o).bH n:=by
 intro x hx;simp only[List.mem_cons,List.not_mem_nil,or_false]at hx
 rcases hx with rfl|rfl
 ·exact X1.aX (x:=BV _) (bd _) n
 ·trivial
theorem G7(cols rows p wide x y:Int)(A B C:nq)(hp:p=0\/p=1\/p=2)(hyw : -10000<=y*wide/\y*wide<=10000)(hx : -10000<=x/\x<=10000) :
 bq prog 141 [.one (.ptr 0 0),.one (.int .i64 p),.one (.int .i64 wide),.one (.int .i64 x),.one (.int .i64 y)] (bI cols rows A B C) (found (cf (bK A B C p) wide x y)) (bI cols rows A B C):=by
 unfold cf
 by_cases hin:x<0\/y<0\/wide<=x
 ·rw[if_pos hin];refine cO Tryz.func141 ?_
  repeat' (first|refine zz ?_|refine zx (fun _=>?_) (fun _=>?_)|fail)
  all_goals
   show aE _ _ _ _ _ _ _ _;refine bN (junk:=_) (.inr rfl) (fE.two rfl (.cell rfl rfl (bO rfl) (.tmp rfl .nil))) ?_ (zt _ _) rfl (dh _ _ _ _ _);rfl
 ·rw [if_neg hin]
  rcases hp with rfl|rfl|rfl
  all_goals
   refine cO Tryz.func141 ?_
   repeat' (first
    |(refine qz ?_;first
     |refine D1 rfl rfl rfl rfl s6 PM rfl rfl rfl ?_)
    |refine zz ?_|refine zx (fun _=>?_) (fun _=>?_)|fail)
   show aE _ _ _ _ _ _ _ _;refine bN (junk:=_) (.inr rfl) (fE.two rfl (.cell rfl rfl (bO rfl) (.tmp rfl .nil))) ?_ (zt _ _) rfl (dh _ _ _ _ _);rfl
theorem aC{f:FuncId}{args:List XV}{v:XV}{cols rows:Int}{A B C:nq}{HS:ah}(hc:bq prog f (.one (.ptr 0 0)::args) (bI cols rows A B C) v (bI cols rows A B C))(a b c d:Nat)(hd : [a,b,c,d].Nodup)(ha:HS[a]? = some (.cells [.int .i64 cols,.int .i64 rows,.map b,.map c,.map d] 220 false false))(hb:HS[b]? = some (.map (aq A)))(hcc:HS[c]? = some (.map (aq B)))(hdd:HS[d]? = some (.map (aq C)))
 (hs:args.all XV.shut=true) (hv:v.shut=true) (hbd:Nat.blt HS.length Mem.bound=true):az.Sound prog ⟨f,.one (.ptr a 0)::args,HS,v,HS,[]⟩:=by
 have hs':∀x∈args,x.shut=true:=List.all_eq_true.1 hs;refine E5 hc (xk a b c d hd ha hb hcc hdd) (F_ _ _ _ _ _) (fun x hx=>?_) ?_ (XV.ky hv _) (XV.dQ hv _) hbd rfl
 ·rcases List.mem_cons.1 hx with rfl|hx
  ·show 0<4;omega
  ·exact XV.ky (hs' x hx) _
 ·show XV.aB _ _::args.map _=_;rw[lD hs'];rfl
def iW(b:Kn):Int:=gn (b.lv 0) b.qp
theorem fw(b:Kn):0<=iW b/\iW b<=121920:=o8 _ _
def kn(la lb lc:Option Kn)(q:Int):Int×Int:=
 match la,lb with
 | some a,some b=>
   let m:=match lc with
    | some c=>iW c
    | none=>8192
   if max (iW a-m) (m-iW a)<max (m-iW b) (iW b-m)then(2,df (iW b) q)else(1,df (iW a) q)
 | some a,none=>(1,df (iW a) q)
 | none,some b=>(2,df (iW b) q)
 | none,none=>(0,df 8192 q)
def jT(e:Int×Int):XV := .tup [.one (.int .u8 e.1),.one (.int .i64 e.2)]
theorem lg(e:Int×Int)(n:Nat):(jT e).bH n:=by simp[jT,XV.bH,X1.ok,XC.ok]
theorem eE{cols rows p wide x y:Int}{A B C:nq}{b:Kn}(h:cf (bK A B C p) wide x y=some b)(hp:p=0\/p=1\/p=2)(hyw : -10000<=y*wide/\y*wide<=10000)(hx : -10000<=x/\x<=10000) :
 bq prog 141 [.one (.ptr 0 0),.one (.int .i64 p),.one (.int .i64 wide),.one (.int .i64 x),.one (.int .i64 y)] (bI cols rows A B C) (.tup [.agg (dk b),.one (.bool true)]) (bI cols rows A B C):=by
 have:=G7 cols rows p wide x y A B C hp hyw hx;rw[h]at this;exact this
theorem gP{cols rows p wide x y:Int}{A B C:nq}(h:cf (bK A B C p) wide x y=none)(hp:p=0\/p=1\/p=2)(hyw : -10000<=y*wide/\y*wide<=10000)(hx : -10000<=x/\x<=10000) :
 bq prog 141 [.one (.ptr 0 0),.one (.int .i64 p),.one (.int .i64 wide),.one (.int .i64 x),.one (.int .i64 y)] (bI cols rows A B C) (.tup [.agg (dk Ot),.one (.bool false)]) (bI cols rows A B C):=by
 have:=G7 cols rows p wide x y A B C hp hyw hx;rw[h]at this;exact this
theorem N9{a b:Kn}(h:dk a=dk b):(∀i,i<64->a.lv i=b.lv i)/\a.qp=b.qp:=by
 refine⟨fun i hi=>?_,?_⟩
 ·have e:=zF a i hi;rw[h,zF b i hi]at e;simpa using e.symm
 ·have e:=uk a;rw[h,uk b]at e;simpa using e.symm
theorem bG{a b:Kn}{h h' g g':ah}(e:h=g->h'=g'):Compat ⟨142,[.agg (dk a)],h,.one (.int .i64 (gn (a.lv 0) a.qp)),h',[]⟩ ⟨142,[.agg (dk b)],g,.one (.int .i64 (gn (b.lv 0) b.qp)),g',[]⟩:=by
 intro _ h2 h3;simp only[List.cons.injEq,XV.agg.injEq,and_true]at h2;have:=N9 h2;exact⟨by show XV.one _=XV.one _;rw[this.1 0 (by omega),this.2],e h3,rfl⟩
theorem bQ{a b c d:Int}{h h' g g':ah}(e:h=g->h'=g'):Compat ⟨143,[.one (.int .i64 a),.one (.int .i64 b)],h,.one (.int .i64 (max (a-b) (b-a))),h',[]⟩ ⟨143,[.one (.int .i64 c),.one (.int .i64 d)],g,.one (.int .i64 (max (c-d) (d-c))),g',[]⟩:=by
 intro _ h2 h3;simp only[List.cons.injEq,XV.one.injEq,XC.int.injEq,true_and,and_true]at h2;obtain⟨rfl,rfl⟩:=h2;exact⟨rfl,e h3,rfl⟩
end Go.Proofs.YthdciapjllppjaaGreat
