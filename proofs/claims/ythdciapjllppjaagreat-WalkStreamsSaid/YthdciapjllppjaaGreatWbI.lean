/-
  A part of the proof: Codes, PartNew, PrSmall, PrTab, PrAt, PrExp0.
-/
import Derived.Test.YthdciapjllppjaaGreatWbF
import Derived.Test.YthdciapjllppjaaGreatWbG
set_option maxRecDepth 10000
set_option maxHeartbeats 8000000
set_option linter.unusedVariables false
set_option linter.unusedSectionVars false
set_option linter.unusedSimpArgs false
open Go.Proofs.Tryz (prog)
namespace Go.Proofs.YthdciapjllppjaaGreat
open Go.Xm
structure Cd where
 S:List Int
 W:List Int
 T:List Int
def Nr(C:Cd):Bool:=decide (C.W.length=C.S.length)&&decide (C.S.length<=64)&&decide (C.T.length=2*(C.T.length/2))&&decide (0<C.T.length/\C.T.length<=1000)&&C.S.all (fun s=>decide (0<=s/\s<=64))&&C.W.all (fun w=>decide (0<=w/\w<18446744073709551616))&&
 (List.range C.T.length).all (fun j=>decide (-1000<=C.T.getD j 0/\(C.T.getD j 0<=0\/((j/2:Nat):Int)<C.T.getD j 0/\2*C.T.getD j 0+1<C.T.length)))
structure BK(C:Cd):Prop where
 lenW:C.W.length=C.S.length
 lenS:C.S.length<=64
 even:C.T.length=2*(C.T.length/2)
 pos:0<C.T.length/\C.T.length<=1000
 sz:∀i,0<=C.S.getD i 0/\C.S.getD i 0<=64
 wd:∀i,0<=C.W.getD i 0/\C.W.getD i 0<18446744073709551616
 tr:∀j,j<C.T.length -> -1000<=C.T.getD j 0/\(C.T.getD j 0<=0\/((j/2:Nat):Int)<C.T.getD j 0/\2*C.T.getD j 0+1<C.T.length)
theorem lY{l:List Int}{p:Int->Prop}(h:∀x∈l,p x)(h0:p 0)(i:Nat):p (l.getD i 0):=by
 rw[List.getD_eq_getElem?_getD]
 cases hi:l[i]? with
 | none=>exact h0
 | some x=>exact h x (List.mem_of_getElem? hi)
theorem x_{C:Cd}(h:Nr C=true):BK C:=by
 unfold Nr at h;simp only[Bool.and_eq_true,decide_eq_true_eq,List.all_eq_true,List.mem_range]at h;obtain⟨⟨⟨⟨⟨⟨h1,h2⟩,h3⟩,h4⟩,h5⟩,h6⟩,h7⟩:=h;exact⟨h1,h2,h3,h4,lY h5 (by decide),lY h6 (by decide),h7⟩
variable [aq]
abbrev aX(a b t:Nat)(C:Cd):ak := .cells [.slice a 0 C.S.length (.toEnd 1),.slice b 0 C.S.length (.exact C.S.length),.slice t 0 (C.T.length/2) (.toEnd 2)] 212 false false
abbrev db(C:Cd):ak := .cells (il .i64 C.S) 3 true false
abbrev df(C:Cd):ak := .cells (il .u64 C.W) 95 false false
abbrev dc(C:Cd):ak := .cells (il .i64 C.T) 256 true false
def jn(C:Cd)(n:Nat):List Bool:=aJ (C.W.getD n 0) (C.S.getD n 0).toNat
theorem HM{C:Cd}(hC:BK C)(bs:List Bool)(n:Nat)(hn:n<C.S.length)(hb:bs.length<=1000000) :
 bt prog 112 [.one (.ptr 2 0),.one (.ptr 0 0),.one (.int .i64 (n:Nat))] [aP 1 bs,av bs,aX 3 4 5 C,db C,df C,dc C] (.one (.int .i64 0)) [aP 6 (bs++jn C n),.dead,aX 3 4 5 C,db C,df C,dc C,av (bs++jn C n)]:=by
 have h1:=hC.lenW;have h2:=hC.lenS;have h3:=hC.sz n;have h4:=hC.wd n;have e3:(C.S.getD ((n:Int)).toNat 0)=C.S.getD n 0:=rfl;have e5:((C.S.getD n 0).toNat:Int)=C.S.getD n 0:=by omega
 refine cO Tryz.func112 ?_
 repeat' (first
  |(refine qz ?_;first
   |refine cl ?_ (hi:=by exact fq (n:=C.W.getD n 0) (z:=C.S.getD n 0) (size:=(C.S.getD n 0).toNat) (by omega) (bs:=bs) h4 (by omega) hb rfl rfl (by decide) nL nA rfl))
  |refine zz ?_|refine zx (fun _=>?_) (fun _=>?_)|fail)
 show aE _ _ _ _ _ _ _ _;refine kV [0,1,2,3,4,5,6] ?_;rfl
def QR(C:Cd)(B:List Bool):Nat->Int->Nat×Bool->Int×(Nat×Bool)
 | 0,_,r=>(0,(r.1,true))
 | k+1,x,r=>
   if(ch B r).2=true\/C.T.getD (x.toNat*2+(b2 (fI B r)%2^1).toNat) 0=0 then(0,((ch B r).1,true))
   else if C.T.getD (x.toNat*2+(b2 (fI B r)%2^1).toNat) 0<0 then(-1-C.T.getD (x.toNat*2+(b2 (fI B r)%2^1).toNat) 0,ch B r)
   else QR C B k (C.T.getD (x.toNat*2+(b2 (fI B r)%2^1).toNat) 0) (ch B r)
def Qg(C:Cd)(B:List Bool)(r:Nat×Bool):Int×(Nat×Bool):=QR C B (C.T.length/2) 0 r
theorem O3(a b:List XC)(e e' e2:TypeId)(cs ds c1 c2 c3 c4:List XC)(e4 e5 e6 e7:TypeId):gN [.cells a e false false,bU e' cs,.cells c1 e4 false false,.cells c2 e5 true false,.cells c3 e6 false false,.cells c4 e7 true false] [.cells b e false false,.dead,.cells c1 e4 false false,.cells c2 e5 true false,.cells c3 e6 false false,.cells c4 e7 true false,bU e2 ds]=true:=by
 cases cs<;>cases ds<;>simp[gN,ak.live,ak.own,bU]
theorem qs{C:Cd}(hC:BK C){bs:List Bool}{n:Nat}{z:Int}(hz:z=(n:Nat))(hn:n<C.S.length)(hbl:bs.length<=1000000){HS:aj}{i k c a b t:Nat}(hi:HS[i]? = some (aP k bs))(hk:HS[k]? = some (av bs))(hc:HS[c]? = some (aX a b t C))(ha:HS[a]? = some (db C))(hb:HS[b]? = some (df C))(ht:HS[t]? = some (dc C))(hd : [i,k,c,a,b,t].Nodup){N:Nat}(hN:HS.length=N){HS':aj}(hh:bJ HS [i,k] [aP N (bs++jn C n),.dead,av (bs++jn C n)]=HS')(hbd:Nat.blt HS'.length Mem.bound=true) :
 aA.Sound prog ⟨112,[.one (.ptr c 0),.one (.ptr i 0),.one (.int .i64 z)],HS,.one (.int .i64 0),HS',[i,k]⟩:=by
 subst hN;subst hz
 have hh':bJ HS [i,k,c,a,b,t] [aP HS.length (bs++jn C n),.dead,aX a b t C,db C,df C,dc C,av (bs++jn C n)]=HS':=by
  subst hh;simp only[List.nodup_cons,List.mem_cons,List.not_mem_nil,or_false,not_or]at hd;simp only[bJ];rw[aG (i:=c) (by rw[List.getElem?_set_ne hd.2.1.1,List.getElem?_set_ne hd.1.2.1];exact hc),aG (i:=a) (by rw[List.getElem?_set_ne hd.2.1.2.1,List.getElem?_set_ne hd.1.2.2.1];exact ha),aG (i:=b) (by rw[List.getElem?_set_ne hd.2.1.2.2.1,List.getElem?_set_ne hd.1.2.2.2.1];exact hb),aG (i:=t) (by rw[List.getElem?_set_ne hd.2.1.2.2.2,List.getElem?_set_ne hd.1.2.2.2.2];exact ht)]
 refine bI [i,k,c,a,b,t] [i,k] 1 (HM hC bs n hn hbl) hd ?_ ?_ ?_ rfl (.cons (by simp[XV.bK,XC.ok]) (.cons (by simp[XV.bK,XC.ok]) (.flat .nil))) (.cons rfl (.cons rfl (.flat .nil))) (b8.ok _) (b8.aC _) ?_ (O3 ..) rfl hh' hbd (.inr fun j hjl hj=>?_)
 ·exact ae.iu hi rfl rfl rfl (.flat hk (.cons hc (.flat ha (.flat hb (.flat ht .nil)))))
 ·exact .cons (by simp[ak.bK,XC.ok,aK]) (.flat (.cons (by simp[ak.bK,XC.ok]) (.flat (.flat (.flat .nil)))))
 ·exact .cons (by simp[ak.bK,XC.ok,aK]) (.flat (.cons (by simp[ak.bK,XC.ok]) (.flat (.flat (.flat (.flat .nil))))))
 ·exact .cons (by simp only[ak.aC,List.map_cons,List.map_nil,XC.aC,aV];rfl) (.flat (.cons rfl (.flat (.flat (.flat (.flat .nil))))))
 ·subst hh;exact l_ _ _ _ _ hjl (by simpa using hj)
end Go.Proofs.YthdciapjllppjaaGreat
namespace Go.Xm
variable [aq]
theorem B4{P:Program}{f:FuncId}{args:List XV}{v1 v:XV}{hs1 hs2:aj}(hc:bt P f args [] v1 hs1)(τl:List Nat)(hv:v1=v.aC (nth τl))(hok:v.bK hs2.length)(nd:Nd τl hs2)(ho:ae (nth τl) hs1 τl hs2)(hk:ax hs2.length hs2)(hb:Nat.blt hs2.length Mem.bound=true):bt P f args [] v hs2:=by
 intro m hm β w vs hall hw;refine(hc m hm β w vs hall hw).mono fun e w' ⟨u,β',m1,he,hm1,hu,hst⟩=>?_
 have hbd:hs2.length<Mem.bound:=by simpa [Nat.blt_eq]using hb
 have hm2:=eZ hs2 hbd;have nm:=hm.n;have n2:=hm2.n;simp only[List.length_nil]at nm
 let β2:Env:=⟨fun i => β'.bG (nth τl i),fun i => β'.base (nth τl i),fun i => β'.size (nth τl i)⟩
 have hvia:BE β2 β' (nth τl) hs2.length:=fun i _=>⟨rfl,rfl,rfl⟩
 have hview:=ho.view nd hk;subst hv;refine⟨u,β2,iU hs2,he,hm2,by rw[n2];exact hu.xH hvia hok,⟨by omega,fun i hi=>by omega,hst.rel.view hm1 hm2 hview hvia,hst.os,hst.tape,hst.output,hst.size,hst.frame,fun k hk hi=>hst.qj k hk (Rel.tF hm1 hm2 hview hvia hi),fun k hk hl=>hst.wa k hk (Rel.tG hm1 hm2 hview hvia hl)⟩⟩
end Go.Xm
namespace Go.Proofs.YthdciapjllppjaaGreat
open Go.Xm
def cM:Cd:=⟨[2,1,3,4,4],[2,0,6,14,15],[-2,1,-1,2,-3,3,-4,-5]⟩
def cZ:Cd:=⟨[3,2,2,3,3,4,5,6,7,8,9,10,10],[4,0,1,5,6,14,30,62,126,254,510,1022,1023],[1,2,-2,-3,3,4,-1,-4,-5,5,-6,6,-7,7,-8,8,-9,9,-10,10,-11,11,-12,-13]⟩
def cP:Cd:=⟨[3,4,4,4,4,4,5,4,4,5,4,4,4,5,5,3],[0,4,5,6,7,8,28,9,10,29,11,12,13,30,31,1],[1,6,2,3,-1,-16,4,5,-2,-3,-4,-5,7,10,8,9,-6,-8,-9,-11,11,12,-12,-13,13,14,-7,-10,-14,-15]⟩
theorem DK:BK cM:=x_ (by decide)
theorem DL:BK cZ:=x_ (by decide)
theorem HD:BK cP:=x_ (by decide)
abbrev fc(a b c:Nat):ak := .cells [.ptr a 0,.ptr b 0,.ptr c 0] 150 false false
abbrev HH:aj:=[fc 1 5 9,aX 2 3 4 cM,db cM,df cM,dc cM,aX 6 7 8 cZ,db cZ,df cZ,dc cZ,aX 10 11 12 cP,db cP,df cP,dc cP]
noncomputable def IX:Option (XV×Mem):=(pH xl prog 100000 60).call 31 [] Mem.empty
abbrev yb:List Nat:=[74,5,2,3,11,17,14,15,39,45,42,43,73]
theorem FF:IX.map (fun p=>(p.1,p.2.n,yb.map p.2.get))=some (.one (.ptr 74 0),75,HH.map (·.aC (nth yb))):=by kernel_rfl
variable [aq]
theorem L4:bt prog 31 [] [] (.one (.ptr 0 0)) HH:=by
 obtain⟨⟨v,m⟩,h1,h2⟩:=Option.map_eq_some_iff.1 FF;simp only[Prod.mk.injEq]at h2;obtain⟨rfl,h3,h4⟩:=h2
 have hc:=B3 (jy prog) mixed (v := .one (.ptr 74 0)) (hs':=pR m) (f:=31) (args:=[]) (F:=100000) (k:=60) (by
  show IX.map _=_
  rw[h1];rfl)
 have hg:∀i,i<75->(pR m)[i]? = some (m.get i):=fun i hi=>by
  unfold pR;rw[h3];simp[hi]
 simp only[List.map_cons,List.map_nil,List.cons.injEq]at h4;obtain⟨g0,g1,g2,g3,g4,g5,g6,g7,g8,g9,g10,g11,g12,_⟩:=h4;refine B4 hc yb rfl (by simp[XV.bK,XC.ok]) (Or.inl (by decide)) ?_ ?_ rfl
 ·refine .cons (by rw[hg _ (by decide),g0]) (.cons (by rw[hg _ (by decide),g1]) (.cons (by rw[hg _ (by decide),g2]) (.cons (by rw[hg _ (by decide),g3]) (.cons (by rw[hg _ (by decide),g4]) (.cons (by rw[hg _ (by decide),g5]) (.cons (by rw[hg _ (by decide),g6]) (.cons (by rw[hg _ (by decide),g7]) (.cons (by rw[hg _ (by decide),g8]) (.cons (by rw[hg _ (by decide),g9]) (.cons (by rw[hg _ (by decide),g10]) (.cons (by rw[hg _ (by decide),g11]) (.cons (by rw[hg _ (by decide),g12]) .nil))))))))))))
 ·refine .cons (by simp[ak.bK,XC.ok]) (.cons (by simp[ak.bK,XC.ok]) (.flat (.flat (.flat (.cons (by simp[ak.bK,XC.ok]) (.flat (.flat (.flat (.cons (by simp[ak.bK,XC.ok]) (.flat (.flat (.flat .nil))))))))))))
end Go.Proofs.YthdciapjllppjaaGreat
namespace Go.Proofs.YthdciapjllppjaaGreat
open Go.Xm
variable [aq]
def stepOf(q:Int):Int:=64*max 2 (min (max q 1) 31/2)
theorem m8(q:Int):128<=stepOf q/\stepOf q<=960:=by unfold stepOf;omega
theorem u9(q:Int):bt prog 158 [.one (.int .i64 q)] [] (.one (.int .i64 (stepOf q))) []:=by
 refine cO Tryz.func158 ?_
 repeat' (first|refine zz ?_|refine zx (fun _=>?_) (fun _=>?_)|fail)
 refine l6 (.inr rfl) (fun m hm=>rfl) ?_ rfl;rfl
def dp(n q:Int):Int:=min ((max n 0+stepOf q/2)/stepOf q) 127
theorem du(n q:Int)(hn : -100000000<=n/\n<=100000000):bt prog 139 [.one (.int .i64 n),.one (.int .i64 q)] [] (.one (.int .i64 (dp n q))) []:=by
 have hs:=m8 q;refine cO Tryz.func139 ?_
 repeat' (first
  |(refine qz ?_;first
   |refine ay (az (u9 _) rfl rfl rfl) rfl rfl rfl rfl rfl rfl (by kernel_rfl) rfl ?_)
  |refine zz ?_|refine zx (fun _=>?_) (fun _=>?_)|fail)
 refine l6 (.inr rfl) (fun m hm=>rfl) ?_ rfl;rfl
def gu(n q:Int):Int:=min (max n 0) 127*stepOf q
theorem pv(n q:Int):0<=gu n q/\gu n q<=121920:=by
 have h1:=m8 q;have h2:0<=min (max n 0) 127/\min (max n 0) 127<=127:=by omega
 unfold gu
 exact⟨Int.mul_nonneg h2.1 (by omega),by
  have:=Int.mul_le_mul h2.2 h1.2 (by omega) (by omega:(0:Int)<=127)
  omega⟩
theorem wo(n q:Int):bt prog 159 [.one (.int .i64 n),.one (.int .i64 q)] [] (.one (.int .i64 (gu n q))) []:=by
 have hs:=m8 q;have hb:=pv n q;unfold gu at hb;refine cO Tryz.func159 ?_
 repeat' (first
  |(refine qz ?_;first
   |refine ay (az (u9 _) rfl rfl rfl) rfl rfl rfl rfl rfl rfl (by kernel_rfl) rfl ?_)
  |refine zz ?_|refine zx (fun _=>?_) (fun _=>?_)|fail)
 refine l6 (.inr rfl) (fun m hm=>rfl) ?_ rfl;rfl
theorem jl(a b:Int)(ha : -1000000<=a/\a<=1000000)(hb : -1000000<=b/\b<=1000000):bt prog 143 [.one (.int .i64 a),.one (.int .i64 b)] [] (.one (.int .i64 (max (a-b) (b-a)))) []:=by
 refine cO Tryz.func143 ?_
 repeat' (first|refine zz ?_|refine zx (fun _=>?_) (fun _=>?_)|fail)
 refine l6 (.inr rfl) (fun m hm=>rfl) ?_ rfl;rfl
structure Kn where
 lv:Nat->Int
 qp:Int
def dv(b:Kn):List XC:=ti .i64 64 b.lv++[.int .i64 b.qp]
theorem uz(b:Kn):(dv b)[64]? = some (.int .i64 b.qp):=by
 unfold dv;rw[List.getElem?_append_right (by rw[aU];omega),aU];rfl
theorem zW(b:Kn)(j:Nat)(h:j<64):(dv b)[j]? = some (.int .i64 (b.lv j)):=by
 unfold dv;rw[List.getElem?_append_left (by rw[aU];exact h),jM h]
theorem bl(b:Kn):(dv b).all XC.shut=true:=by
 simp[dv,ti,XC.shut]
theorem f9(b:Kn):bt prog 142 [.agg (dv b)] [] (.one (.int .i64 (gu (b.lv 0) b.qp))) []:=by
 refine cO Tryz.func142 ?_
 repeat' (first
  |(refine qz ?_;first
   |refine ay (az (wo _ _) rfl rfl rfl) rfl rfl rfl rfl rfl rfl (by kernel_rfl) rfl ?_
   |refine fU rfl rfl rfl rfl rfl rfl (uz _) ?_
   |refine fU rfl rfl rfl rfl rfl rfl (zW _ _ (by omega)) ?_)
  |refine zz ?_|refine zx (fun _=>?_) (fun _=>?_)|fail)
 refine l6 (.inr rfl) (fun m hm=>rfl) ?_ rfl;rfl
def placeOf(cols mb k:Int):Int×Int×Int:=if k<4 then(0,2*(mb%cols)+k%2,2*(mb/cols)+k/2)else(k-3,mb%cols,mb/cols)
theorem AH{cols rows mb k:Int}(hc:1<=cols/\cols<=8)(hm:0<=mb/\mb<1000000)(hk:0<=k/\k<1000):0<=mb/cols/\mb/cols<=mb/\0<=mb%cols/\mb%cols<cols:=
 ⟨Int.ediv_nonneg hm.1 (by omega),Int.ediv_le_self _ hm.1,Int.emod_nonneg _ (by omega),Int.emod_lt_of_pos _ (by omega)⟩
abbrev nF:=List (Int×Kn)
def Ox(z:Int):X1 := .one (.int .i64 z)
def Cj(b:Kn):X1 := .agg (dv b)
theorem tj:tO prog 3 Ox:=OC
def OS:Kn:=⟨fun _=>0,0⟩
theorem P_:oL prog 242=some (Cj OS):=by kernel_rfl
abbrev au(M:nF):List (X1×X1):=k_ Ox Cj M
theorem iz(M:nF)(τ : Nat->Nat):(au M).map (fun p=>(p.1.aC τ,p.2.aC τ))=au M:=by
 unfold au k_;rw[List.map_map];refine List.map_congr_left fun p _=>?_
 simp only[Function.comp,X1.dU (x:=Cj p.2) (bl p.2) τ];rfl
theorem ye(M:nF)(n:Nat):∀p∈au M,p.1.ok n/\p.2.ok n:=by
 intro p hp;obtain⟨q,_,rfl⟩:=List.mem_map.1 hp;exact⟨trivial,X1.aY (x:=Cj q.2) (bl q.2) n⟩
abbrev A5(cols rows:Int):List XC:=[.int .i64 cols,.int .i64 rows,.map 1,.map 2,.map 3]
abbrev bL(cols rows:Int)(A B C:nF):aj:=[.cells (A5 cols rows) 220 false false,.map (au A),.map (au B),.map (au C)]
theorem dt(cols rows:Int)(A B C:nF):∀o∈bL cols rows A B C,o.bK 4:=by
 intro o ho;simp only[bL,List.mem_cons,List.not_mem_nil,or_false]at ho
 rcases ho with rfl|rfl|rfl|rfl
 ·simp[ak.bK,XC.ok,A5]
 ·exact ye A 4
 ·exact ye B 4
 ·exact ye C 4
theorem Gx(cols rows:Int)(A B C:nF):∀o∈bL cols rows A B C,o.live=true:=by
 intro o ho;simp only[bL,List.mem_cons,List.not_mem_nil,or_false]at ho
 rcases ho with rfl|rfl|rfl|rfl<;>rfl
theorem xG{HS:aj}{cols rows:Int}{A B C:nF}(a b c d:Nat)(hd : [a,b,c,d].Nodup)(ha:HS[a]? = some (.cells [.int .i64 cols,.int .i64 rows,.map b,.map c,.map d] 220 false false))(hb:HS[b]? = some (.map (au A)))(hc:HS[c]? = some (.map (au B)))(hdd:HS[d]? = some (.map (au C))) :
 View (nth [a,b,c,d]) HS (bL cols rows A B C):=by
 refine NR [a,b,c,d] rfl hd (dt _ _ _ _ _) fun j o hj=>?_
 match j,hj with
 | 0,hj=>cases hj;exact ha
 | 1,hj=>cases hj;simp only[ak.aC,iz];exact hb
 | 2,hj=>cases hj;simp only[ak.aC,iz];exact hc
 | 3,hj=>cases hj;simp only[ak.aC,iz];exact hdd
 | j+4,hj=>simp[bL]at hj
def bN(A B C:nF)(p:Int):nF:=if p=0 then A else if p=1 then B else C
def rU(cols mb k:Int):XV := .tup [.one (.int .i64 (placeOf cols mb k).1),.one (.int .i64 (if k<4 then 2*cols else cols)),.one (.int .i64 (placeOf cols mb k).2.1),.one (.int .i64 (placeOf cols mb k).2.2)]
theorem xt(cols mb k:Int)(n:Nat):(rU cols mb k).bK n:=by
 simp[rU,XV.bK,X1.ok,XC.ok]
theorem FT(cols rows mb k:Int)(A B C:nF)(hc:1<=cols/\cols<=8)(hm:0<=mb/\mb<1000000)(hk:0<=k/\k<1000) :
 bt prog 140 [.one (.ptr 0 0),.one (.int .i64 mb),.one (.int .i64 k)] (bL cols rows A B C) (rU cols mb k) (bL cols rows A B C):=by
 have hb:=AH (rows:=0) hc hm hk;refine cO Tryz.func140 ?_
 repeat' (first|refine zz ?_|refine zx (fun _=>?_) (fun _=>?_)|fail)
 ·show aE _ _ _ _ _ _ _ _;refine bQ (junk:=[]) (.inr rfl) (fun m hm=>rfl) ?_ (xt _ _ _ _) rfl (dt _ _ _ _ _);simp only[rU,placeOf,if_pos (show k<4 from ‹_›)]
 ·show aE _ _ _ _ _ _ _ _;refine bQ (junk:=[]) (.inr rfl) (fun m hm=>rfl) ?_ (xt _ _ _ _) rfl (dt _ _ _ _ _);simp only[rU,placeOf,if_neg (show¬k<4 from ‹_›)]
def gU(cols rows mb k:Int):Bool:=decide (0<=mb/\mb<cols*rows/\0<=k/\k<6)
theorem fh(cols rows mb k:Int)(A B C:nF)(hcr:0<=cols*rows/\cols*rows<=64) :
 bt prog 138 [.one (.ptr 0 0),.one (.int .i64 mb),.one (.int .i64 k)] (bL cols rows A B C) (.one (.bool (gU cols rows mb k))) (bL cols rows A B C):=by
 refine cO Tryz.func138 ?_
 repeat' (first|refine zz ?_|refine zx (fun _=>?_) (fun _=>?_)|fail)
 all_goals
  show aE _ _ _ _ _ _ _ _;refine kM ?_ (dt _ _ _ _ _);unfold gU
  first
   | rw[decide_eq_true (by omega)];rfl
   | rw[decide_eq_false (by omega)];rfl
def cq(T:nF)(wide x y:Int):Option Kn:=if x<0\/y<0\/wide<=x then none else eP T (y*wide+x)
def found(o:Option Kn):XV := .tup [Cj (o.getD OS),.one (.bool o.isSome)]
theorem zP(o:Option Kn)(n:Nat):(found o).bK n:=by
 intro x hx;simp only[List.mem_cons,List.not_mem_nil,or_false]at hx
 rcases hx with rfl|rfl
 ·exact X1.aY (x:=Cj _) (bl _) n
 ·trivial
theorem Ht(cols rows p wide x y:Int)(A B C:nF)(hp:p=0\/p=1\/p=2)(hyw : -10000<=y*wide/\y*wide<=10000)(hx : -10000<=x/\x<=10000) :
 bt prog 141 [.one (.ptr 0 0),.one (.int .i64 p),.one (.int .i64 wide),.one (.int .i64 x),.one (.int .i64 y)] (bL cols rows A B C) (found (cq (bN A B C p) wide x y)) (bL cols rows A B C):=by
 unfold cq
 by_cases hin:x<0\/y<0\/wide<=x
 ·rw[if_pos hin];refine cO Tryz.func141 ?_
  repeat' (first|refine zz ?_|refine zx (fun _=>?_) (fun _=>?_)|fail)
  all_goals
   show aE _ _ _ _ _ _ _ _;refine bQ (junk:=_) (.inr rfl) (fH.two rfl (.cell rfl rfl (bR rfl) (.tmp rfl .nil))) ?_ (zP _ _) rfl (dt _ _ _ _ _);rfl
 ·rw [if_neg hin]
  rcases hp with rfl|rfl|rfl
  all_goals
   refine cO Tryz.func141 ?_
   repeat' (first
    |(refine qz ?_;first
     |refine Em rfl rfl rfl rfl tj P_ rfl rfl rfl ?_)
    |refine zz ?_|refine zx (fun _=>?_) (fun _=>?_)|fail)
   show aE _ _ _ _ _ _ _ _;refine bQ (junk:=_) (.inr rfl) (fH.two rfl (.cell rfl rfl (bR rfl) (.tmp rfl .nil))) ?_ (zP _ _) rfl (dt _ _ _ _ _);rfl
theorem aD{f:FuncId}{args:List XV}{v:XV}{cols rows:Int}{A B C:nF}{HS:aj}(hc:bt prog f (.one (.ptr 0 0)::args) (bL cols rows A B C) v (bL cols rows A B C))(a b c d:Nat)(hd : [a,b,c,d].Nodup)(ha:HS[a]? = some (.cells [.int .i64 cols,.int .i64 rows,.map b,.map c,.map d] 220 false false))(hb:HS[b]? = some (.map (au A)))(hcc:HS[c]? = some (.map (au B)))(hdd:HS[d]? = some (.map (au C)))
 (hs:args.all XV.shut=true) (hv:v.shut=true) (hbd:Nat.blt HS.length Mem.bound=true):aA.Sound prog ⟨f,.one (.ptr a 0)::args,HS,v,HS,[]⟩:=by
 have hs':∀x∈args,x.shut=true:=List.all_eq_true.1 hs;refine Fu hc (xG a b c d hd ha hb hcc hdd) (Gx _ _ _ _ _) (fun x hx=>?_) ?_ (XV.kE hv _) (XV.dU hv _) hbd rfl
 ·rcases List.mem_cons.1 hx with rfl|hx
  ·show 0<4;omega
  ·exact XV.kE (hs' x hx) _
 ·show XV.aC _ _::args.map _=_;rw[lH hs'];rfl
def iY(b:Kn):Int:=gu (b.lv 0) b.qp
theorem fz(b:Kn):0<=iY b/\iY b<=121920:=pv _ _
def kx(la lb lc:Option Kn)(q:Int):Int×Int:=
 match la,lb with
 | some a,some b=>
   let m:=match lc with
    | some c=>iY c
    | none=>8192
   if max (iY a-m) (m-iY a)<max (m-iY b) (iY b-m)then(2,dp (iY b) q)else(1,dp (iY a) q)
 | some a,none=>(1,dp (iY a) q)
 | none,some b=>(2,dp (iY b) q)
 | none,none=>(0,dp 8192 q)
def jW(e:Int×Int):XV := .tup [.one (.int .u8 e.1),.one (.int .i64 e.2)]
theorem ln(e:Int×Int)(n:Nat):(jW e).bK n:=by simp[jW,XV.bK,X1.ok,XC.ok]
theorem eH{cols rows p wide x y:Int}{A B C:nF}{b:Kn}(h:cq (bN A B C p) wide x y=some b)(hp:p=0\/p=1\/p=2)(hyw : -10000<=y*wide/\y*wide<=10000)(hx : -10000<=x/\x<=10000) :
 bt prog 141 [.one (.ptr 0 0),.one (.int .i64 p),.one (.int .i64 wide),.one (.int .i64 x),.one (.int .i64 y)] (bL cols rows A B C) (.tup [.agg (dv b),.one (.bool true)]) (bL cols rows A B C):=by
 have:=Ht cols rows p wide x y A B C hp hyw hx;rw[h]at this;exact this
theorem gS{cols rows p wide x y:Int}{A B C:nF}(h:cq (bN A B C p) wide x y=none)(hp:p=0\/p=1\/p=2)(hyw : -10000<=y*wide/\y*wide<=10000)(hx : -10000<=x/\x<=10000) :
 bt prog 141 [.one (.ptr 0 0),.one (.int .i64 p),.one (.int .i64 wide),.one (.int .i64 x),.one (.int .i64 y)] (bL cols rows A B C) (.tup [.agg (dv OS),.one (.bool false)]) (bL cols rows A B C):=by
 have:=Ht cols rows p wide x y A B C hp hyw hx;rw[h]at this;exact this
theorem OB{a b:Kn}(h:dv a=dv b):(∀i,i<64->a.lv i=b.lv i)/\a.qp=b.qp:=by
 refine⟨fun i hi=>?_,?_⟩
 ·have e:=zW a i hi;rw[h,zW b i hi]at e;simpa using e.symm
 ·have e:=uz a;rw[h,uz b]at e;simpa using e.symm
theorem bH{a b:Kn}{h h' g g':aj}(e:h=g->h'=g'):Compat ⟨142,[.agg (dv a)],h,.one (.int .i64 (gu (a.lv 0) a.qp)),h',[]⟩ ⟨142,[.agg (dv b)],g,.one (.int .i64 (gu (b.lv 0) b.qp)),g',[]⟩:=by
 intro _ h2 h3;simp only[List.cons.injEq,XV.agg.injEq,and_true]at h2;have:=OB h2;exact⟨by show XV.one _=XV.one _;rw[this.1 0 (by omega),this.2],e h3,rfl⟩
theorem bV{a b c d:Int}{h h' g g':aj}(e:h=g->h'=g'):Compat ⟨143,[.one (.int .i64 a),.one (.int .i64 b)],h,.one (.int .i64 (max (a-b) (b-a))),h',[]⟩ ⟨143,[.one (.int .i64 c),.one (.int .i64 d)],g,.one (.int .i64 (max (c-d) (d-c))),g',[]⟩:=by
 intro _ h2 h3;simp only[List.cons.injEq,XV.one.injEq,XC.int.injEq,true_and,and_true]at h2;obtain⟨rfl,rfl⟩:=h2;exact⟨rfl,e h3,rfl⟩
end Go.Proofs.YthdciapjllppjaaGreat
