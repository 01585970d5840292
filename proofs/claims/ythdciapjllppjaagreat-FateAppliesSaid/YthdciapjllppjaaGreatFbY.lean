/-
  A part of the proof: StrA, FtT, FtD, FtC, FtE.
-/
import Derived.Test.YthdciapjllppjaaGreatFbF
import Derived.Test.YthdciapjllppjaaGreatFbX
set_option maxRecDepth 10000
set_option maxHeartbeats 8000000
set_option linter.unusedVariables false
set_option linter.unusedSectionVars false
set_option linter.unusedSimpArgs false
open Go.Proofs.Tryz (prog)
namespace Go.Proofs.YthdciapjllppjaaGreat
open Go.ChangeShapes Go.WideShapes Go.ChangeAt Go.RowKit Go.Deep Go.Xm
structure pZ where
 kind:Int
 at_:Int
 burst:Int
 odd:List Int
 mask:List Int
instance:Inhabited pZ:=⟨⟨0,0,0,[],[]⟩⟩
structure p5(s:pZ):Prop where
 kind:0<=s.kind/\s.kind<256
 at_:0<=s.at_/\s.at_<65536
 burst:0<=s.burst/\s.burst<65536
 odd:∀z∈s.odd,0<=z/\z<65536
 mask:∀z∈s.mask,0<=z/\z<256
structure oO where
 kind:Int
 at_:Int
 burst:Int
 co:XC
 cm:XC
instance:Inhabited oO:=⟨⟨0,0,0,.nils,.nils⟩⟩
def kE(s:oO):List XC:=[.int .u8 s.kind,.int .u16 s.at_,.int .u16 s.burst,s.co,s.cm]
instance:zb kE 5:=⟨fun _=>rfl,by decide⟩
def oX(L:List (List XC))(l:List oO)(q:List pZ):Prop:=
 l.length=q.length/\∀i,i<q.length->(l.getD i default).kind=(q.getD i default).kind/\(l.getD i default).at_=(q.getD i default).at_/\(l.getD i default).burst=(q.getD i default).burst/\da L 0 (l.getD i default).co (il .u16 (q.getD i default).odd) (q.getD i default).odd.length/\da L 0 (l.getD i default).cm (il .u8 (q.getD i default).mask) (q.getD i default).mask.length
def m8:Value->Int
 | .int _ z=>z
 | _=>0
section
variable {H:Type} {enc:TypeId×Value->H} {w:World} {base:Nat} {spare:Nat->Bool} {held:Bool}
structure G0(w:World)(G:Nat->Nat->Value)(i:Nat):Prop where
 n0:∃z,G i 0 = .int .u8 z/\(Lit.int .u8 z).wf=true
 n1:∃z,G i 1 = .int .u16 z/\(Lit.int .u16 z).wf=true
 n2:∃z,G i 2 = .int .u16 z/\(Lit.int .u16 z).wf=true
 odd:pA w .u16 (G i 3)
 mask:pA w .u8 (G i 4)
set_option maxRecDepth 100000 in
theorem OL[av]{v:Value}{b0:Nat}{r:Reach}{t:TypeId}(ht:prog.underlying t=some (.slice 125))(hcell:Cell.okWide prog w r b0 t v){fuel:Nat}{x:DataW H×List MemPlace}(hf:DataW.trod enc prog w base spare held fuel t [v]=some x) :
 ∃(G:Nat->Nat->Value) (n:Nat),n<=9223372036854775807/\(∀i,i<n->G0 w G i)/\((v = .slice none 0 0/\n=0)\/∃b off cap:Nat,n<=cap/\v = .slice (some ⟨b,off,none⟩) n cap/\∀i j,i<n->j<5->w.cell? ⟨b,off+(i*5+j),none⟩=some (G i j)):=by
 rcases qC ht Tryz.underlying125 (by kernel_rfl) (by kernel_rfl) hf with⟨hcs,_⟩|⟨a,len,cap,m,D,Pl,hcs,_,hlc,hcm,hm,_,hall⟩
 ·simp only[List.cons.injEq,and_true]at hcs;exact⟨fun _ _ => .nilIface,0,Nat.zero_le _,fun i hi=>absurd hi (Nat.not_lt_zero i),.inl ⟨hcs,rfl⟩⟩
 ·simp only[List.cons.injEq,and_true]at hcs;subst hcs;have hspot:=u2 ht hcell;have hlm:len<=m:=by rw[hm];split<;>omega
  refine⟨fun i j=>(w.cell? ⟨a.block,a.off+(i*5+j),none⟩).getD .nilIface,len,by unfold maxLen at hcm;omega,fun i hi=>?_,.inr ⟨a.block,a.off,cap,hlc,?_,fun i j hi hj=>?_⟩⟩
  ·obtain⟨ys,n,_,_,_,hff⟩:=hall i (by omega)
   have key:∀(j:Nat) (f:Field) (k:IntKind),prog.underlying f.type=some (.int k)->(∃(v:Value) (y:DataW H×List MemPlace),w.cell? (a.add (i*5+j))=some v/\ys[j]? = some y/\DataW.trod enc prog w base spare held n f.type [v]=some y)->∃z,(w.cell? ⟨a.block,a.off+(i*5+j),none⟩).getD .nilIface = .int k z/\(Lit.int k z).wf=true:=fun j f k hk ⟨u,y,hc,_,hu⟩=>by
    obtain⟨z,hz,_,hwf⟩:=DataW.trod_int hk hu;simp only[List.cons.injEq,and_true]at hz;rw[ot hspot]at hc;rw[hc,hz];exact⟨z,rfl,hwf⟩
   have keyS:∀(j:Nat) (f:Field) (e:TypeId) (k:IntKind),prog.underlying f.type=some (.slice e)->prog.underlying e=some (.int k)->prog.cellsOf e=1->(∃(v:Value) (y:DataW H×List MemPlace),w.cell? (a.add (i*5+j))=some v/\ys[j]? = some y/\DataW.trod enc prog w base spare held n f.type [v]=some y)->pA w k ((w.cell? ⟨a.block,a.off+(i*5+j),none⟩).getD .nilIface):=fun j f e k ht he hC ⟨u,y,hc,_,hu⟩=>by
    rw[ot hspot]at hc;rw[hc];exact Fs ht he hC hu
   exact⟨key 0 _ .u8 Tryz.underlying5 (hff 0 _ rfl),key 1 _ .u16 Tryz.underlying122 (hff 1 _ rfl),key 2 _ .u16 Tryz.underlying122 (hff 2 _ rfl),keyS 3 _ _ .u16 Tryz.underlying123 Tryz.underlying122 (by kernel_rfl) (hff 3 _ rfl),keyS 4 _ _ .u8 Tryz.underlying32 Tryz.underlying5 (by kernel_rfl) (hff 4 _ rfl)⟩
  ·obtain⟨b,o,s⟩:=a;simp only at hspot;subst hspot;rfl
  ·obtain⟨ys,n,_,_,_,hff⟩:=hall i (by omega)
   have key:∀(f:Field),(∃(v:Value) (y:DataW H×List MemPlace),w.cell? (a.add (i*5+j))=some v/\ys[j]? = some y/\DataW.trod enc prog w base spare held n f.type [v]=some y)->w.cell? ⟨a.block,a.off+(i*5+j),none⟩=some ((w.cell? ⟨a.block,a.off+(i*5+j),none⟩).getD .nilIface):=fun f ⟨u,y,hc,_,_⟩=>by
    rw[ot hspot]at hc;rw[hc];rfl
   have hj:j=0\/j=1\/j=2\/j=3\/j=4:=by omega
   rcases hj with rfl|rfl|rfl|rfl|rfl
   ·exact key _ (hff 0 _ rfl)
   ·exact key _ (hff 1 _ rfl)
   ·exact key _ (hff 2 _ rfl)
   ·exact key _ (hff 3 _ rfl)
   ·exact key _ (hff 4 _ rfl)
end
def Jn(w:World)(G:Nat->Nat->Value)(i:Nat):pZ:=⟨m8 (G i 0),m8 (G i 1),m8 (G i 2),DG w (G i 3),DG w (G i 4)⟩
def OB(w:World)(G:Nat->Nat->Value)(n:Nat):List pZ:=(List.range n).map (Jn w G)
theorem yl(w:World)(G:Nat->Nat->Value)(n:Nat):(OB w G n).length=n:=by simp[OB]
theorem Jd(w:World)(G:Nat->Nat->Value){n i:Nat}(hi:i<n):(OB w G n).getD i default=Jn w G i:=by
 unfold OB;rw[List.getD_eq_getElem?_getD,List.getElem?_map,List.getElem?_range hi];rfl
theorem OM{w:World}{G:Nat->Nat->Value}{i:Nat}(h:G0 w G i):p5 (Jn w G i):=by
 have b8:∀z,(Lit.int .u8 z).wf=true->0<=z/\z<256:=fun z h=>by
  have:=bounds_u8 h;omega
 have b16:∀z,(Lit.int .u16 z).wf=true->0<=z/\z<65536:=fun z h=>by
  have:=bounds_u16 h;omega
 obtain⟨⟨z0,e0,w0⟩,⟨z1,e1,w1⟩,⟨z2,e2,w2⟩,h3,h4⟩:=h;exact⟨by show 0<=m8 (G i 0)/\m8 (G i 0)<256;rw[e0];exact b8 _ w0,by show 0<=m8 (G i 1)/\m8 (G i 1)<65536;rw[e1];exact b16 _ w1,by show 0<=m8 (G i 2)/\m8 (G i 2)<65536;rw[e2];exact b16 _ w2,fun z hz=>b16 z (Ni h3 z hz),fun z hz=>b8 z (Ni h4 z hz)⟩
def CZ(G:Nat->Nat->Value)(v:Value)(n k:Nat):Value:=if k<2*n then G (k/2) (3+k%2)else v
abbrev p8(G:Nat->Nat->Value)(v:Value)(n:Nat):av:=⟨fun k=>AE (CZ G v n k),fun k=>by
 rcases Mp (CZ G v n k)with e|⟨a,cap,e⟩<;>rw[e]<;>exact⟨rfl,rfl⟩⟩
def GQ(w:World)(G:Nat->Nat->Value)(n:Nat):List oO:=(List.range n).map fun i=>⟨m8 (G i 0),m8 (G i 1),m8 (G i 2),y9 (2*i) (jx (G i 3)),y9 (2*i+1) (jx (G i 4))⟩
def PU(w:World)(G:Nat->Nat->Value)(k:Nat):List XC:=if k%2=0 then il .u16 (DG w (G (k/2) 3))else il .u8 (DG w (G (k/2) 4))
def GO(w:World)(G:Nat->Nat->Value)(n:Nat):List (List XC):=(List.range (2*n)).map (PU w G)++[fl kE (GQ w G n)]
theorem xH(w:World)(G:Nat->Nat->Value)(n:Nat):(GO w G n).length=2*n+1:=by simp[GO]
theorem xG(w:World)(G:Nat->Nat->Value){n k:Nat}(hk:k<2*n):(GO w G n)[k]? = some (PU w G k):=by
 unfold GO;rw[List.getElem?_append_left (by simpa using hk),List.getElem?_map,List.getElem?_range hk];rfl
theorem tB(w:World)(G:Nat->Nat->Value)(n:Nat):(GO w G n)[2*n]? = some (fl kE (GQ w G n)):=by
 unfold GO;rw[List.getElem?_append_right (by simp),List.length_map,List.length_range,Nat.sub_self];rfl
theorem ya(w:World)(G:Nat->Nat->Value)(n:Nat):(GQ w G n).length=n:=by simp[GQ]
theorem Ip(w:World)(G:Nat->Nat->Value){n i:Nat}(hi:i<n):(GQ w G n).getD i default=⟨m8 (G i 0),m8 (G i 1),m8 (G i 2),y9 (2*i) (jx (G i 3)),y9 (2*i+1) (jx (G i 4))⟩:=by
 unfold GQ;rw[List.getD_eq_getElem?_getD,List.getElem?_map,List.getElem?_range hi];rfl
theorem R5[av](w:World)(G:Nat->Nat->Value)(n:Nat):oX (GO w G n) (GQ w G n) (OB w G n):=by
 refine⟨by rw[ya,yl],fun i hi=>?_⟩;rw[yl]at hi;rw[Ip w G hi,Jd w G hi];refine⟨rfl,rfl,rfl,?_,?_⟩
 ·have h:=xG w G (n:=n) (k:=2*i) (by omega);unfold PU at h;rw[if_pos (by omega),show 2*i/2=i by omega]at h;have:=BF (n:=jx (G i 3)) h;show da (GO w G n) 0 (y9 (2*i) (jx (G i 3))) (il .u16 (DG w (G i 3))) (DG w (G i 3)).length;rw[DH];exact this
 ·have h:=xG w G (n:=n) (k:=2*i+1) (by omega);unfold PU at h;rw[if_neg (by omega),show(2*i+1)/2=i by omega]at h;have:=BF (n:=jx (G i 4)) h;show da (GO w G n) 0 (y9 (2*i+1) (jx (G i 4))) (il .u8 (DG w (G i 4))) (DG w (G i 4)).length;rw[DH];exact this
end Go.Proofs.YthdciapjllppjaaGreat
namespace Go.Proofs.YthdciapjllppjaaGreat
open Go.Xm
variable [av]
def n8(m:List Int)(fr i:Nat):List Int:=m.set (fr+i/8) (m9 .u8 (m.getD (fr+i/8) 0) (128/2^(i%8)))
abbrev Nv(lost:Bool)(n fr:Nat)(m:List Int):ah:=[.cells [.bool lost,.slice 2 0 n (.exact n)] 69 false false,.cells [.int .i64 (fr:Nat)] 3 false false,.cells (il .u8 m) 5 false false]
theorem JY(lost:Bool)(n fr i:Nat)(m:List Int)(hm:m.length=n)(hl:aW m)(hi:fr+i/8<n)(hs:n<=70000) :
 bm prog 74 [.one (.int .i64 (i:Nat)),.one (.ptr 0 0),.one (.ptr 1 0)] (Nv lost n fr m) (.tup []) (Nv lost n fr (n8 m fr i)):=by
 have hlp:=hl ((fr:Int)+(i:Int)/8).toNat;have e1:((fr:Int)+(i:Int)/8).toNat=fr+i/8:=by omega
 have e2:((i:Int)%8).toNat=i%8:=by omega
 refine cO Tryz.func74 ?_
 repeat' (first|refine zz ?_|refine zx (fun _=>?_) (fun _=>?_)|fail)
 show aE _ _ _ _ _ _ _ _;refine kV [0,1,2] ?_;rfl
theorem xi(m:List Int)(fr i:Nat):(n8 m fr i).length=m.length:=by simp[n8]
theorem Ea{HS:ah}(a b c:Nat)(hd : [a,b,c].Nodup){lost:Bool}{n fr:Nat}(i:Int){m:List Int}(ha:HS[a]? = some (.cells [.bool lost,.slice c 0 n (.exact n)] 69 false false))(hb:HS[b]? = some (.cells [.int .i64 (fr:Nat)] 3 false false))(hc:HS[c]? = some (.cells (il .u8 m) 5 false false))(hm:m.length=n)(hl:aW m)(hi0:0<=i)(hi:fr+i.toNat/8<n)(hs:n<=70000)
 {HS':ah}(hh:bC HS [a,b,c] [.cells [.bool lost,.slice c 0 n (.exact n)] 69 false false,.cells [.int .i64 (fr:Nat)] 3 false false,.cells (il .u8 (n8 m fr i.toNat)) 5 false false]=HS') (hbd:Nat.blt HS'.length Mem.bound=true) :
 aA.Sound prog ⟨74,[.one (.int .i64 i),.one (.ptr a 0),.one (.ptr b 0)],HS,.tup [],HS',[a,b,c]⟩:=by
 obtain⟨j,rfl⟩:∃j:Nat,i=j:=⟨i.toNat,by omega⟩
 refine bp [a,b,c] [a,b,c] 0 (JY lost n fr j m hm hl hi hs) hd (.cons ha (.cons hb (.flat hc .nil))) (.cons (by simp[aj.br,XC.ok]) (.cons (by simp[aj.br,XC.ok]) (.flat .nil))) (.cons (by simp[aj.br,XC.ok]) (.cons (by simp[aj.br,XC.ok]) (.flat .nil))) rfl (.flat (.cons (by simp[XV.br,XC.ok]) (.cons (by simp[XV.br,XC.ok]) .nil))) (.flat (.cons rfl (.cons rfl .nil))) (by simp[XV.br]) rfl (.cons rfl (.cons rfl (.flat .nil))) rfl rfl hh hbd (.inl rfl)
theorem MK:∀(x:Fin 256) (k:Fin 8),0<=m9 .u8 (x.val:Int) (128/2^k.val)/\m9 .u8 (x.val:Int) (128/2^k.val)<256:=by
 decide +kernel
theorem u_{m:List Int}(hl:aW m)(fr i:Nat):aW (n8 m fr i):=by
 intro p;unfold n8;rw[List.getD_eq_getElem?_getD,List.getElem?_set];split
 ·split
  ·have h:=hl (fr+i/8)
   obtain⟨x,hx⟩:∃x:Fin 256,m.getD (fr+i/8) 0=(x.val:Int):=⟨⟨(m.getD (fr+i/8) 0).toNat,by omega⟩,by simp only[];omega⟩
   rw[hx];exact MK x ⟨i%8,Nat.mod_lt _ (by omega)⟩
  ·simp
 ·rw[<-List.getD_eq_getElem?_getD];exact hl p
def ek(kind at_ burst:Int)(co cm:XC):List XC:=[.int .u8 kind,.int .u16 at_,.int .u16 burst,co,cm]
def o8(kind at_ burst:Int)(co cm:XC):aj := .cells (ek kind at_ burst co cm) 125 false false
theorem cn{τ : Nat->Nat}{HS:ah}{i:Nat}{l:List Nat}{hs:ah}{kind at_ burst:Int}{co cm:XC}{L:List (List XC)}{us vs:List XC}{n n':Nat}(hco:da L 0 co us n)(hcm:da L 0 cm vs n')(h:HS[i]? = some (o8 kind at_ burst co cm))(h0 : τ 0=0)(r:af τ HS l hs):af τ HS (i::l) (o8 kind at_ burst co cm::hs):=by
 refine af.cons ?_ r;rw[h];simp only[o8,ek,aj.aB,List.map_cons,List.map_nil,hco.id h0,hcm.id h0];rfl
theorem lF{kind at_ burst:Int}{co cm:XC}{L:List (List XC)}{us vs:List XC}{n n' m:Nat}(hco:da L 0 co us n)(hcm:da L 0 cm vs n')(h:Nat.ble 1 m=true):(o8 kind at_ burst co cm).br m:=by
 have h:=Nat.le_of_ble_eq_true h;intro c hc;simp only[ek,List.mem_cons,List.not_mem_nil,or_false]at hc
 rcases hc with rfl|rfl|rfl|rfl|rfl
 ·trivial
 ·trivial
 ·trivial
 ·exact hco.ok (by omega)
 ·exact hcm.ok (by omega)
theorem BP(kind at_ burst:Int)(co cm:XC){L:List (List XC)}{od mk:List Int}(hco:da L 0 co (il .u16 od) od.length)(hcm:da L 0 cm (il .u8 mk) mk.length)(hk:0<=kind/\kind<256)(hk5:kind%8<5)(a b:Nat)(ha:1<=a/\a<=30000)(hb:1<=b/\b<=30000) :
 bm prog 38 [.agg (ek kind at_ burst co cm),.one (.int .i64 (a:Nat)),.one (.int .i64 (b:Nat))] [.late L] (.agg [.bool (decide (kind%8=4)),.nils]) [.late L]:=by
 have hco2:=hco.ok (Nat.lt_succ_self 0);have hcm2:=hcm.ok (Nat.lt_succ_self 0);refine cO Tryz.func38 ?_
 repeat' (first|refine zz ?_|refine zx (fun _=>?_) (fun _=>?_)|fail)
 ·rename_i h;rw[decide_eq_true h];show aE _ _ _ _ _ _ _ _;refine kV [0] ?_;rfl
 ·rename_i h;rw[decide_eq_false h];show aE _ _ _ _ _ _ _ _;refine kV [0] ?_;rfl
def vX(at_:Int)(a:Nat):Nat:=if at_%2=1 then a else 0
def pO(at_:Int)(a b:Nat):Nat:=if at_%2=1 then b else a
def m5(n fr size:Nat)(at1 burst:Int):Nat->List Int
 | 0=>List.replicate n 0
 | k+1=>if burst/2^k%2=1/\at1+(k:Nat)<size*8 then n8 (m5 n fr size at1 burst k) fr (at1+(k:Nat)).toNat else m5 n fr size at1 burst k
theorem ui(n fr size:Nat)(at1 burst:Int):∀k,(m5 n fr size at1 burst k).length=n
 | 0=>by simp[m5]
 | k+1=>by
   unfold m5;split
   ·rw[xi,ui]
   ·exact ui ..
theorem AB(n:Nat):aW (List.replicate n 0):=fun p=>by
 rw[List.getD_eq_getElem?_getD,List.getElem?_replicate];split<;>simp
theorem sZ(n fr size:Nat)(at1 burst:Int):∀k,aW (m5 n fr size at1 burst k)
 | 0=>AB n
 | k+1=>by
   unfold m5;split
   ·exact u_ (sZ _ _ _ _ _ _) _ _
   ·exact sZ _ _ _ _ _ _
abbrev Rh(at_:Int)(a b:Nat):Int:=at_/2%((pO at_ a b:Nat)*8)
theorem EW(kind at_ burst:Int)(co cm:XC){L:List (List XC)}{od mk:List Int}(hco:da L 0 co (il .u16 od) od.length)(hcm:da L 0 cm (il .u8 mk) mk.length)(hk:0<=kind/\kind<256)(hk5:kind%8=5)(hat:0<=at_/\at_<65536)(hbu:0<=burst/\burst<65536)(a b:Nat)(ha:1<=a/\a<=30000)(hb:1<=b/\b<=30000) :
 bm prog 38 [.agg (ek kind at_ burst co cm),.one (.int .i64 (a:Nat)),.one (.int .i64 (b:Nat))] [.late L] (.agg [.bool false,.slice 1 0 (a+b) (.exact (a+b))]) [.late L,.cells (il .u8 (m5 (a+b) (vX at_ a) (pO at_ a b) (Rh at_ a b) burst 16)) 5 false false]:=by
 have hco2:=hco.ok (Nat.lt_succ_self 0);have hcm2:=hcm.ok (Nat.lt_succ_self 0);refine cO Tryz.func38 ?_;have hfz:vX at_ a+pO at_ a b<=a+b/\1<=pO at_ a b/\pO at_ a b<=30000:=by unfold vX pO;split<;>omega
 generalize hfr:vX at_ a=fr at hfz ⊢;generalize hsz:pO at_ a b=sz at hfz ⊢;have hm0:=Int.emod_nonneg (at_/2) (show(sz:Int)*8≠0 by omega);have hm1:=Int.emod_lt_of_pos (at_/2) (show(0:Int)<(sz:Int)*8 by omega)
 repeat' (first|refine WX.ur 10 (σ:=Unit) (fun _=>[(3,.one (.ptr 1 0)),(6,.one (.ptr 2 0)),(7,.one (.ptr 3 0)),(9,.one (.ptr 5 0)),(10,.one (.int .i64 (sz:Nat)))]) (fun _=>[.late L,o8 kind at_ burst co cm,.cells [.bool false,.nils] 69 false false,.cells [.bool false,.slice 4 0 (a+b) (.exact (a+b))] 69 false false,.cells (il .u8 (List.replicate (a+b) 0)) 5 false false,.cells [.int .i64 (fr:Nat)] 3 false false]) (fun _=>True) (fun _ _=>(mE (objs:=by repeat' (first|exact aq.nil|refine aq.cons (lF hco hcm rfl) ?_|refine kz ?_)))) ?_ (fun _ _=>?_)|refine zz ?_|refine zx (fun _=>?_) (fun _=>?_)|fail)
 ·rename_i h;have f1:fr=a:=hfr.symm.trans (if_pos h);have f2:sz=b:=hsz.symm.trans (if_pos h);subst f1 f2
  (first|refine sH ?_|skip)
  exact⟨(),_,trivial,(bq [0,1,2,3,4,5] (obj:=by(repeat' (first|exact af.nil|refine cn hco hcm rfl rfl ?_|refine oz ?_));first|done|fail))⟩
 ·rename_i h;have f1:fr=0:=hfr.symm.trans (if_neg h);have f2:sz=a:=hsz.symm.trans (if_neg h);subst f1 f2
  (first|refine sH ?_|skip)
  exact⟨(),_,trivial,(bq [0,1,2,3,4,5] (obj:=by(repeat' (first|exact af.nil|refine cn hco hcm rfl rfl ?_|refine oz ?_));first|done|fail))⟩
 ·refine WX.bQ (σ:=Nat) (fun k=>[(3,.one (.ptr 1 0)),(6,.one (.ptr 2 0)),(7,.one (.ptr 3 0)),(10,.one (.int .i64 (sz:Nat))),(11,.one (.bind (.bind (.fn 74) (.ptr 3 0)) (.ptr 5 0))),(12,.one (.int .i64 (at_/2%((sz:Int)*8)))),(67,.one (.int .i64 (k:Nat)))]) (fun k=>[.late L,o8 kind at_ burst co cm,.cells [.bool false,.nils] 69 false false,.cells [.bool false,.slice 4 0 (a+b) (.exact (a+b))] 69 false false,.cells (il .u8 (m5 (a+b) fr sz (at_/2%((sz:Int)*8)) burst k)) 5 false false,.cells [.int .i64 (fr:Nat)] 3 false false]) (fun k=>k<=16) (fun k=>16-k) 0 (Nat.zero_le _) (fun k _=>(mE (objs:=by repeat' (first|exact aq.nil|refine aq.cons (lF hco hcm rfl) ?_|refine kz ?_)))) (bq [0,1,2,3,4,5] (obj:=by(repeat' (first|exact af.nil|refine cn hco hcm rfl rfl ?_|refine oz ?_));first|done|fail)) ?_;intro k hk16 ih;have hml:=ui (a+b) fr sz (at_/2%((sz:Int)*8)) burst k;have hmb:=sZ (a+b) fr sz (at_/2%((sz:Int)*8)) burst k
  repeat' (first
   |(refine qz ?_;first
    |refine cl ?_ (hi:=by exact Ea 3 5 4 (by decide) _ rfl rfl rfl hml hmb (by omega) (by omega) (by omega) nA rfl))
   |refine zz ?_|refine zx (fun _=>?_) (fun _=>?_)|fail)
  ·rename_i h1 h2 h3;have e1:m5 (a+b) fr sz (at_/2%((sz:Int)*8)) burst (k+1)=n8 (m5 (a+b) fr sz (at_/2%((sz:Int)*8)) burst k) fr (at_/2%((sz:Int)*8)+(k:Nat)).toNat:=if_pos ⟨h2,h3⟩;exact ih (k+1) _ _ _ (bq [0,1,2,3,4,5] (obj:=by(repeat' (first|exact af.nil|refine af.flat (by rw[e1];rfl) ?_|refine cn hco hcm rfl rfl ?_|refine oz ?_));first|done|fail)) (by omega) (by omega)
  ·rename_i h1 h2 h3;have e1:m5 (a+b) fr sz (at_/2%((sz:Int)*8)) burst (k+1)=m5 (a+b) fr sz (at_/2%((sz:Int)*8)) burst k:=if_neg (fun h=>h3 h.2);exact ih (k+1) _ _ _ (bq [0,1,2,3,4,5] (obj:=by(repeat' (first|exact af.nil|refine af.flat (by rw[e1];rfl) ?_|refine cn hco hcm rfl rfl ?_|refine oz ?_));first|done|fail)) (by omega) (by omega)
  ·rename_i h1 h2;have e1:m5 (a+b) fr sz (at_/2%((sz:Int)*8)) burst (k+1)=m5 (a+b) fr sz (at_/2%((sz:Int)*8)) burst k:=if_neg (fun h=>h2 h.1);exact ih (k+1) _ _ _ (bq [0,1,2,3,4,5] (obj:=by(repeat' (first|exact af.nil|refine af.flat (by rw[e1];rfl) ?_|refine cn hco hcm rfl rfl ?_|refine oz ?_));first|done|fail)) (by omega) (by omega)
  ·obtain rfl:k=16:=by omega
   rw[show Rh at_ a b=at_/2%((sz:Int)*8) by unfold Rh;rw[hsz]];show aE _ _ _ _ _ _ _ _;refine kV [0,4] ?_;rfl
abbrev Ck(M:List (Int×Bool))(z:Int):Bool:=(dk M z).getD false
def j8(q:List Int)(w:Int):Nat->List (Int×Bool)×Int
 | 0=>([],0)
 | i+1=>if Ck (j8 q w i).1 (q.getD i 0%w)then j8 q w i else(rL (j8 q w i).1 (q.getD i 0%w) true,(j8 q w i).2+1)
theorem xc(q:List Int)(w:Int):∀i,0<=(j8 q w i).2/\(j8 q w i).2<=i
 | 0=>by simp[j8]
 | i+1=>by
   have ih:=xc q w i;unfold j8;split
   ·omega
   ·simp only[];omega
def qL(M:List (Int×Bool))(many at0:Int)(i:Nat):Bool:=Ck M i&&(decide (many%2=1)||decide ((i:Int)≠at0))
def m6(n fr:Nat)(M:List (Int×Bool))(many at0:Int):Nat->List Int
 | 0=>List.replicate n 0
 | i+1=>if qL M many at0 i then n8 (m6 n fr M many at0 i) fr i else m6 n fr M many at0 i
theorem uj(n fr:Nat)(M:List (Int×Bool))(many at0:Int):∀k,(m6 n fr M many at0 k).length=n
 | 0=>by simp[m6]
 | k+1=>by
   unfold m6;split
   ·rw[xi,uj]
   ·exact uj ..
theorem s7(n fr:Nat)(M:List (Int×Bool))(many at0:Int):∀k,aW (m6 n fr M many at0 k)
 | 0=>AB n
 | k+1=>by
   unfold m6;split
   ·exact u_ (s7 _ _ _ _ _ _) _ _
   ·exact s7 _ _ _ _ _ _
def f6(at_:Int)(od:List Int)(n fr sz:Nat):List Int:=
 m6 n fr (j8 (at_::od) ((sz:Int)*8) (1+od.length)).1 (j8 (at_::od) ((sz:Int)*8) (1+od.length)).2 (at_%((sz:Int)*8)) (sz*8)
theorem EX(kind at_ burst:Int)(co cm:XC){L:List (List XC)}{od mk:List Int}(hco:da L 0 co (il .u16 od) od.length)(hcm:da L 0 cm (il .u8 mk) mk.length)(hk:0<=kind/\kind<256)(hk6:kind%8=6)(hat:0<=at_/\at_<65536)(hod:∀p,0<=od.getD p 0/\od.getD p 0<65536)(hol:od.length<=30)(a b:Nat)(ha:1<=a/\a<=30000)(hb:1<=b/\b<=30000) :
 bm prog 38 [.agg (ek kind at_ burst co cm),.one (.int .i64 (a:Nat)),.one (.int .i64 (b:Nat))] [.late L] (.agg [.bool false,.slice 1 0 (a+b) (.exact (a+b))]) [.late L,.cells (il .u8 (f6 at_ od (a+b) (vX at_ a) (pO at_ a b))) 5 false false]:=by
 have hco2:=hco.ok (Nat.lt_succ_self 0);have hcm2:=hcm.ok (Nat.lt_succ_self 0);refine cO Tryz.func38 ?_;have hfz:vX at_ a+pO at_ a b<=a+b/\1<=pO at_ a b/\pO at_ a b<=30000:=by unfold vX pO;split<;>omega
 generalize hfr:vX at_ a=fr at hfz ⊢;generalize hsz:pO at_ a b=sz at hfz ⊢
 have hqb:∀p,0<=(at_::od).getD p 0/\(at_::od).getD p 0<65536:=fun p=>by
  cases p with
  | zero=>exact hat
  | succ p=>exact hod p
 repeat' (first
  |(refine qz ?_;first
   |refine KT rfl (tj rfl hco rfl) (fun _=>?_) (fun _=>?_))
  |refine WX.ur 10 (σ:=Unit) (fun _=>[(3,.one (.ptr 1 0)),(6,.one (.ptr 2 0)),(7,.one (.ptr 3 0)),(9,.one (.ptr 5 0)),(10,.one (.int .i64 (sz:Nat)))]) (fun _=>[.late L,o8 kind at_ burst co cm,.cells [.bool false,.nils] 69 false false,.cells [.bool false,.slice 4 0 (a+b) (.exact (a+b))] 69 false false,.cells (il .u8 (List.replicate (a+b) 0)) 5 false false,.cells [.int .i64 (fr:Nat)] 3 false false]) (fun _=>True) (fun _ _=>(mE (objs:=by repeat' (first|exact aq.nil|refine aq.cons (lF hco hcm rfl) ?_|refine kz ?_)))) ?_ (fun _ _=>?_)|refine WX.z8 24 (σ:=oV×Bool) (fun s=>[(3,.one (.ptr 1 0)),(6,.one (.ptr 2 0)),(7,.one (.ptr 3 0)),(10,.one (.int .i64 (sz:Nat))),(11,.one (.bind (.bind (.fn 74) (.ptr 3 0)) (.ptr 5 0))),(14,.one (.map 6)),(15,.one (.int .i64 0)),(97,.one (.slice 7 0 (1+od.length) s.1)),(98,.one (.int .i64 ((1+od.length:Nat)))),(99,.one (.int .i64 0))]) (fun s=>[.late L,o8 kind at_ burst co cm,.cells [.bool false,.nils] 69 false false,.cells [.bool false,.slice 4 0 (a+b) (.exact (a+b))] 69 false false,.cells (il .u8 (List.replicate (a+b) 0)) 5 false false,.cells [.int .i64 (fr:Nat)] 3 false false,.map (gD (kI .i64) vB []),.cells (il .u16 (at_::od)) 122 s.2 false]) (fun _=>True) (fun _ _=>(mE (objs:=by repeat' (first|exact aq.nil|refine aq.cons (lF hco hcm rfl) ?_|refine kz ?_)))) ?_ (fun _ _=>?_)|refine zz ?_|refine zx (fun _=>?_) (fun _=>?_)|fail)
 ·rename_i h;have f1:fr=a:=hfr.symm.trans (if_pos h);have f2:sz=b:=hsz.symm.trans (if_pos h);subst f1 f2
  (first|refine sH ?_|skip)
  exact⟨(),_,trivial,(bq [0,1,2,3,4,5] (obj:=by(repeat' (first|exact af.nil|refine cn hco hcm rfl rfl ?_|refine oz ?_));first|done|fail))⟩
 ·rename_i h;have f1:fr=0:=hfr.symm.trans (if_neg h);have f2:sz=a:=hsz.symm.trans (if_neg h);subst f1 f2
  (first|refine sH ?_|skip)
  exact⟨(),_,trivial,(bq [0,1,2,3,4,5] (obj:=by(repeat' (first|exact af.nil|refine cn hco hcm rfl rfl ?_|refine oz ?_));first|done|fail))⟩
 ·rename_i h;have f1:od = []:=List.length_eq_zero_iff.1 h;subst f1
  (first|refine sH ?_|skip)
  exact⟨(.exact 1,false),_,trivial,(bq [0,1,2,3,4,5,6,7] (obj:=by(repeat' (first|exact af.nil|refine cn hco hcm rfl rfl ?_|refine oz ?_));first|done|fail))⟩
 ·rename_i h
  (first|refine sH ?_|skip)
  exact⟨(.toEnd 1,true),_,trivial,(bq [0,1,2,3,4,5,6,8] (obj:=by(repeat' (first|exact af.nil|refine cn hco hcm rfl rfl ?_|refine oz ?_));first|done|fail))⟩
 ·rename_i _ _ s _;obtain⟨cap,opn⟩:=s;refine WX.bQ (σ:=Nat×List (Int×Bool)×Int) (fun s=>[(3,.one (.ptr 1 0)),(6,.one (.ptr 2 0)),(7,.one (.ptr 3 0)),(10,.one (.int .i64 (sz:Nat))),(11,.one (.bind (.bind (.fn 74) (.ptr 3 0)) (.ptr 5 0))),(14,.one (.map 6)),(97,.one (.slice 7 0 (1+od.length) cap)),(98,.one (.int .i64 ((1+od.length:Nat)))),(15,.one (.int .i64 s.2.2)),(99,.one (.int .i64 (s.1:Nat)))]) (fun s=>[.late L,o8 kind at_ burst co cm,.cells [.bool false,.nils] 69 false false,.cells [.bool false,.slice 4 0 (a+b) (.exact (a+b))] 69 false false,.cells (il .u8 (List.replicate (a+b) 0)) 5 false false,.cells [.int .i64 (fr:Nat)] 3 false false,.map (gD (kI .i64) vB s.2.1),.cells (il .u16 (at_::od)) 122 opn false]) (fun s=>s.1<=1+od.length/\s.2=j8 (at_::od) ((sz:Int)*8) s.1) (fun s=>1+od.length-s.1) (0,[],0) ⟨Nat.zero_le _,rfl⟩ (fun s _=>(mE (objs:=by repeat' (first|exact aq.nil|refine aq.cons (lF hco hcm rfl) ?_|refine kz ?_)))) (bq [0,1,2,3,4,5,6,7] (obj:=by(repeat' (first|exact af.nil|refine cn hco hcm rfl rfl ?_|refine oz ?_));first|done|fail)) ?_;intro s ⟨hj,hsn⟩ ih;have hsb:=xc (at_::od) ((sz:Int)*8) s.1;rw[<-hsn]at hsb;have hqj:=hqb s.1;have hqm:=Int.emod_nonneg ((at_::od).getD s.1 0) (show(sz:Int)*8≠0 by omega);have hqm1:=Int.emod_lt_of_pos ((at_::od).getD s.1 0) (show(0:Int)<(sz:Int)*8 by omega);have hlc:(at_::od).length=1+od.length:=by simp;omega
  repeat' (first|refine zz ?_|refine zx (fun _=>?_) (fun _=>?_)|fail)
  ·rename_i h1 h2;refine ih (s.1+1,s.2) _ _ _ (bq [0,1,2,3,4,5,6,7] (obj:=by(repeat' (first|exact af.nil|refine cn hco hcm rfl rfl ?_|refine oz ?_));first|done|fail)) ⟨by show s.1+1<=_;omega,?_⟩ (by show _-(s.1+1)<_;omega);show s.2=j8 _ _ (s.1+1);unfold j8;rw[<-hsn];exact(if_pos h2).symm
  ·rename_i h1 h2;refine ih (s.1+1,rL s.2.1 ((at_::od).getD s.1 0%((sz:Int)*8)) true,s.2.2+1) _ _ _ (bq [0,1,2,3,4,5,6,7] (obj:=by(repeat' (first|exact af.nil|refine cn hco hcm rfl rfl ?_|refine oz ?_));first|done|fail)) ⟨by show s.1+1<=_;omega,?_⟩ (by show _-(s.1+1)<_;omega);show _=j8 _ _ (s.1+1);unfold j8;rw[<-hsn];exact(if_neg (by unfold Ck;rw[h2];decide)).symm
  ·have hse:s.1=1+od.length:=by omega
   rw[hse]at hsn;have hm0:=Int.emod_nonneg at_ (show(sz:Int)*8≠0 by omega);have hm1:=Int.emod_lt_of_pos at_ (show(0:Int)<(sz:Int)*8 by omega);refine WX.bQ (σ:=Nat) (fun i=>[(3,.one (.ptr 1 0)),(6,.one (.ptr 2 0)),(7,.one (.ptr 3 0)),(10,.one (.int .i64 (sz:Nat))),(11,.one (.bind (.bind (.fn 74) (.ptr 3 0)) (.ptr 5 0))),(14,.one (.map 6)),(15,.one (.int .i64 s.2.2)),(118,.one (.int .i64 ((sz:Int)*8))),(119,.one (.int .i64 (i:Nat)))]) (fun i=>[.late L,o8 kind at_ burst co cm,.cells [.bool false,.nils] 69 false false,.cells [.bool false,.slice 4 0 (a+b) (.exact (a+b))] 69 false false,.cells (il .u8 (m6 (a+b) fr s.2.1 s.2.2 (at_%((sz:Int)*8)) i)) 5 false false,.cells [.int .i64 (fr:Nat)] 3 false false,.map (gD (kI .i64) vB s.2.1)]) (fun i=>i<=sz*8) (fun i=>sz*8-i) 0 (Nat.zero_le _) (fun i _=>(mE (objs:=by repeat' (first|exact aq.nil|refine aq.cons (lF hco hcm rfl) ?_|refine kz ?_)))) (bq [0,1,2,3,4,5,6] (obj:=by(repeat' (first|exact af.nil|refine cn hco hcm rfl rfl ?_|refine oz ?_));first|done|fail)) ?_;intro i hi ih2;clear ih;have hml:=uj (a+b) fr s.2.1 s.2.2 (at_%((sz:Int)*8)) i;have hmb:=s7 (a+b) fr s.2.1 s.2.2 (at_%((sz:Int)*8)) i
   repeat' (first
    |(refine qz ?_;first
     |refine cl ?_ (hi:=by exact Ea 3 5 4 (by decide) _ rfl rfl rfl hml hmb (by omega) (by omega) (by omega) nA rfl))
    |refine zz ?_|refine zx (fun _=>?_) (fun _=>?_)|fail)
   ·rename_i h1 h2 h3;have e0:qL s.2.1 s.2.2 (at_%((sz:Int)*8)) i=true:=by simp only[qL,Ck,h2,decide_eq_true h3,Bool.true_or,Bool.and_self]
    have e1:m6 (a+b) fr s.2.1 s.2.2 (at_%((sz:Int)*8)) (i+1)=n8 (m6 (a+b) fr s.2.1 s.2.2 (at_%((sz:Int)*8)) i) fr i:=if_pos e0;exact ih2 (i+1) _ _ _ (bq [0,1,2,3,4,5,6] (obj:=by(repeat' (first|exact af.nil|refine af.flat (by rw[e1];rfl) ?_|refine cn hco hcm rfl rfl ?_|refine oz ?_));first|done|fail)) (by omega) (by omega)
   ·rename_i h1 h2 h3 h4;have e0:qL s.2.1 s.2.2 (at_%((sz:Int)*8)) i=true:=by simp only[qL,Ck,h2,decide_eq_true h4,Bool.or_true,Bool.and_self]
    have e1:m6 (a+b) fr s.2.1 s.2.2 (at_%((sz:Int)*8)) (i+1)=n8 (m6 (a+b) fr s.2.1 s.2.2 (at_%((sz:Int)*8)) i) fr i:=if_pos e0;exact ih2 (i+1) _ _ _ (bq [0,1,2,3,4,5,6] (obj:=by(repeat' (first|exact af.nil|refine af.flat (by rw[e1];rfl) ?_|refine cn hco hcm rfl rfl ?_|refine oz ?_));first|done|fail)) (by omega) (by omega)
   ·rename_i h1 h2 h3 h4;have e0:¬qL s.2.1 s.2.2 (at_%((sz:Int)*8)) i=true:=by simp only[qL,Ck,h2,decide_eq_false h3,decide_eq_false h4];decide
    have e1:m6 (a+b) fr s.2.1 s.2.2 (at_%((sz:Int)*8)) (i+1)=m6 (a+b) fr s.2.1 s.2.2 (at_%((sz:Int)*8)) i:=if_neg e0;exact ih2 (i+1) _ _ _ (bq [0,1,2,3,4,5,6] (obj:=by(repeat' (first|exact af.nil|refine af.flat (by rw[e1];rfl) ?_|refine cn hco hcm rfl rfl ?_|refine oz ?_));first|done|fail)) (by omega) (by omega)
   ·rename_i h1 h2;have e0:¬qL s.2.1 s.2.2 (at_%((sz:Int)*8)) i=true:=by simp only[qL,Ck,h2,Bool.false_and];decide
    have e1:m6 (a+b) fr s.2.1 s.2.2 (at_%((sz:Int)*8)) (i+1)=m6 (a+b) fr s.2.1 s.2.2 (at_%((sz:Int)*8)) i:=if_neg e0;exact ih2 (i+1) _ _ _ (bq [0,1,2,3,4,5,6] (obj:=by(repeat' (first|exact af.nil|refine af.flat (by rw[e1];rfl) ?_|refine cn hco hcm rfl rfl ?_|refine oz ?_));first|done|fail)) (by omega) (by omega)
   ·obtain rfl:i=sz*8:=by omega
    unfold f6;rw[<-hsn];show aE _ _ _ _ _ _ _ _;refine kV [0,4] ?_;rfl
def FN(n:Int)(r:Nat):List Int:=(List.range 7).map fun i=>if i<r then 0 else n/2^(6-i)%2
def q7(n:Int):List Int:=FN n 0
theorem ym(n:Int)(r:Nat):(FN n r).length=7:=by simp[FN]
theorem QT(n:Int)(r:Nat){i:Nat}(hi:i<7):(FN n r).getD i 0=if i<r then 0 else n/2^(6-i)%2:=by
 unfold FN;rw[List.getD_eq_getElem?_getD,List.getElem?_map,List.getElem?_range hi];rfl
theorem OC(n:Int)(r:Nat)(hr:r<7):(FN n (r+1)).set r (n/2^(6-r)%2)=FN n r:=by
 refine List.ext_getElem? fun i=>?_
 rw[List.getElem?_set];unfold FN
 by_cases hi:i<7
 ·rw[List.length_map,List.length_range,List.getElem?_map,List.getElem?_map,List.getElem?_range hi]
  by_cases h:r=i
  ·subst h;rw[if_pos rfl,if_pos hr];show some _=some (if r<r then 0 else n/2^(6-r)%2);rw[if_neg (Nat.lt_irrefl r)]
  ·rw[if_neg h];show some (if i<r+1 then _ else _)=some (if i<r then _ else _)
   by_cases h2:i<r
   ·rw[if_pos h2,if_pos (by omega)]
   ·rw[if_neg h2,if_neg (by omega)]
 ·rw[List.length_map,List.length_range,if_neg (by omega)];rw[List.getElem?_eq_none (by simp;omega),List.getElem?_eq_none (by simp;omega)]
theorem L0(n:Int):FN n 7=List.replicate 7 0:=by
 refine List.ext_getElem? fun i=>?_
 by_cases hi:i<7
 ·unfold FN;rw[List.getElem?_map,List.getElem?_range hi,List.getElem?_replicate,if_pos hi];show some (if i<7 then _ else _)=_;rw[if_pos hi]
 ·rw[List.getElem?_eq_none (by rw[ym];omega),List.getElem?_eq_none (by simp;omega)]
theorem Au(k:Nat):(0:Int)<2^k:=Int.pow_pos (by decide)
theorem K5(n:Int){r:Nat}(h1:1<=r)(h7:r<=7):n/2^(7-r)/2=n/2^(7-(r-1)):=by
 rw[show 7-(r-1)=(7-r)+1 by omega,Int.pow_succ,Int.ediv_ediv_of_nonneg (Int.le_of_lt (Au _))]
theorem EG(n:Int)(hn:0<=n/\n<256) :
 bm prog 44 [.one (.int .u64 n),.one (.int .i64 7)] [] (.one (.slice 0 0 7 (.exact 7))) [.cells (il .u8 (q7 n)) 5 false false]:=by
 refine cO Tryz.func44 ?_
 repeat' (first|refine zz ?_|refine zx (fun _=>?_) (fun _=>?_)|fail)
 refine WX.bQ (σ:=Nat) (fun r=>[(5,.one (.slice 0 0 7 (.exact 7))),(0,.one (.int .u64 (n/2^(7-r)))),(6,.one (.int .i64 ((r:Int)-1)))]) (fun r=>[.cells (il .u8 (FN n r)) 5 false false]) (fun r=>r<=7) (fun r=>r) 7 (Nat.le_refl _) (fun r _=>stM) (bq [0] (obj:=by(repeat' (first|exact af.nil|refine af.flat (by rw[L0];rfl) ?_|refine oz ?_));first|done|fail) (reg:=by(repeat' (first|exact ae.nil|refine ae.flat (by simp;rfl) ?_|refine rz ?_|refine ae.sl rfl (by assumption) rfl ?_));first|done|fail)) ?_;intro r hr ih;have hlen:=ym n r;have hpp:=Au (7-r)
 obtain⟨v,hv⟩:∃v,n/2^(7-r)=v:=⟨_,rfl⟩
 have hv0:0<=v/\v<256:=by
  rw[<-hv];have h1:=Int.ediv_nonneg hn.1 (Int.le_of_lt hpp);have h2:=Int.ediv_le_self (2^(7-r)) hn.1;omega
 by_cases h0:r=0
 ·subst h0;rw[hv]
  repeat' (first|refine zz ?_|refine zx (fun _=>?_) (fun _=>?_)|fail)
  show aE _ _ _ _ _ _ _ _;refine kV [0] ?_;rfl
 ·have e1:((r:Int)-1).toNat=r-1:=by omega
  have e2:=K5 n (show 1<=r by omega) hr
  have e3:(FN n r).set (r-1) (v%2)=FN n (r-1):=by
   have:=OC n (r-1) (by omega);rw[show r-1+1=r by omega,show 6-(r-1)=7-r by omega,hv]at this;exact this
  rw[hv]at e2 ⊢
  repeat' (first|refine zz ?_|refine zx (fun _=>?_) (fun _=>?_)|fail)
  exact ih (r-1) _ _ _ (bq [0] (obj:=by(repeat' (first|exact af.nil|refine af.flat (by rw[<-e3,<-e1];rfl) ?_|refine oz ?_));first|done|fail) (reg:=by(repeat' (first|exact ae.nil|refine ae.flat (by rw[<-e2];rfl) ?_|refine ae.flat (by rw[show(((r-1:Nat):Int)-1)=(r:Int)-1-1 by omega];rfl) ?_|refine rz ?_|refine ae.sl rfl (by assumption) rfl ?_));first|done|fail)) (by omega) (by omega)
theorem Hm{n:Int}(hn:0<=n/\n<256){HS:ah}{N:Nat}(hN:HS.length=N){HS':ah}(hh:HS++[.cells (il .u8 (q7 n)) 5 false false]=HS')(hbd:Nat.blt HS'.length Mem.bound=true) :
 aA.Sound prog ⟨44,[.one (.int .u64 n),.one (.int .i64 7)],HS,.one (.slice N 0 7 (.exact 7)),HS',[]⟩:=by
 subst hN;exact bp [] [] 1 (EG n hn) (by simp) .nil .nil (.flat .nil) rfl (.flat (.flat .nil)) (.flat (.flat .nil)) (by show 0<1;omega) rfl (.flat .nil) rfl rfl hh hbd (.inl rfl)
def l7(p:List Int):Nat->List Int
 | 0=>[]
 | k+1=>l7 p k++q7 (p.getD (4+k) 0)
theorem t6(p:List Int):∀k,(l7 p k).length=7*k
 | 0=>rfl
 | k+1=>by rw[l7,List.length_append,t6 p k,q7,ym];omega
theorem M_(p:List Int):∀k j,j<7*k->(l7 p k).getD j 0=An p j
 | 0,j,h=>by omega
 | k + 1,j,h=>by
   rw[l7,List.getD_eq_getElem?_getD]
   by_cases hj:j<7*k
   ·rw[List.getElem?_append_left (by rw[t6];exact hj),<-List.getD_eq_getElem?_getD];exact M_ p k j hj
   ·rw[List.getElem?_append_right (by rw[t6];omega),t6,<-List.getD_eq_getElem?_getD];unfold q7;rw[QT _ _ (by omega),if_neg (Nat.not_lt_zero _)];unfold An;rw[show j/7=k by omega,show j-7*k=j%7 by omega]
theorem uP(p:List Int)(o:Nat):∀k,0<=mD p o k/\mD p o k<2^k
 | 0=>by unfold mD;decide
 | k+1=>by
   have h1:=uP p o k;have h2:=uC p (o+k);rw[mD,Int.pow_succ];omega
def sI(p:Int×Int):List XC:=[.int .i64 p.1,.int .i64 p.2]
instance:nk sI 2:=⟨fun _=>rfl,fun _=>rfl,by decide⟩
def oR(ps:List (List Int)):Nat->List (Int×Int)
 | 0=>[]
 | k+1=>if k=0 then []else oR ps k++[fu (ps.getD k [])]
theorem jd(ps:List (List Int)):∀k,(oR ps k).length=k-1
 | 0=>rfl
 | k+1=>by
   rw[oR];split
   ·subst_vars;rfl
   ·rw[List.length_append,jd ps k,List.length_singleton];omega
theorem Mo{L:List (List XC)}{g:Nat}{c:XC}{vs:List XC}{n:Nat}(h:da L g c vs n)(hn:n≠0):∃k fl,n<=fl/\c = .lsl g k 0 n fl 0/\L[k]? = some vs:=by
 rcases h with⟨h0,_⟩|h
 ·exact absurd h0 hn
 ·exact h
theorem I9{k:Nat}(h:k<=16):(2:Int)^k<=65536:=by
 have:∀k:Fin 17,(2:Int)^k.val<=65536:=by decide
 exact this ⟨k,by omega⟩
theorem Ak{L:List (List XC)}{cs:List XC}{ps:List (List Int)}(hb:nr L cs ps){c:XC}(hc:da L 0 c cs ps.length)(hn:ps.length<=1000000)(hp:∀i,0<i->i<ps.length->21<=(ps.getD i []).length/\(ps.getD i []).length<=100000000)(hpB:∀i,aW (ps.getD i [])) :
 bm prog 24 [.one c] [.late L] (ee 1 (ps.length-1) 2) [.late L,bz 79 (fl sI (oR ps ps.length))]:=by
 have hok:c.ok 2:=hc.ok (Nat.le_of_ble_eq_true rfl);have hok3:c.ok 3:=hc.ok (Nat.le_of_ble_eq_true rfl);refine cO Tryz.func24 ?_
 repeat' (first
  |(refine qz ?_;first
   |refine lX ?_)
  |refine zz ?_|refine zx (fun _=>?_) (fun _=>?_)|fail)
 refine WX.cj rfl ?_;refine WX.bQ (σ:=Nat) (fun k=>[(12,.one c),(13,.one (.int .i64 (ps.length:Nat))),(3,ee 1 (k-1) 2),(14,.one (.int .i64 (k:Nat)))]) (fun k=>[.late L,bz 79 (fl sI (oR ps k))]) (fun k=>k<=ps.length) (fun k=>ps.length-k) 0 (Nat.zero_le _) (fun k _=>stM) (bq [0,1] (reg:=by(repeat' (first|exact ae.nil|refine ae.ia rfl (by assumption) rfl ?_|refine rz ?_|refine ae.sl rfl (by assumption) rfl ?_));first|done|fail)) ?_;intro k hk ih;have hsl:=jd ps k
 by_cases hlt:k<ps.length
 ·obtain ⟨y,x,h1,h2,h3⟩:=Hu hb hlt 0;have hpb:=hpB k;have hpl:=hp k
  obtain⟨p,hpe⟩:∃p,ps.getD k []=p:=⟨_,rfl⟩
  rw[hpe]at h3 hpb hpl;have hs1:oR ps (k+1)=if k=0 then []else oR ps k++[fu p]:=by rw[oR,hpe]
  by_cases hk0:k=0
  ·rw[if_pos hk0]at hs1;subst hk0
   repeat' (first
    |(refine qz ?_;first
     |refine lX ?_
     |refine rC (fun kk hkk=>?_)
     |refine yc ?_ (by assumption) h1 h2)
    |refine zz ?_|refine zx (fun _=>?_) (fun _=>?_)|fail)
   exact ih (0+1) _ _ _ (bq [0,1] (obj:=by(repeat' (first|exact af.nil|refine af.flat (by rw[hs1];rfl) ?_|refine oz ?_));first|done|fail) (reg:=by(repeat' (first|exact ae.nil|refine ae.ia rfl (by assumption) rfl ?_|refine rz ?_|refine ae.sl rfl (by assumption) rfl ?_));first|done|fail)) (by omega) (by omega)
  ·rw [if_neg hk0]at hs1;obtain⟨pl,pu⟩:=hpl (by omega) hlt;obtain⟨kx,fx,hfx,rfl,hL⟩:=Mo h3 (by omega)
   obtain⟨acc,hacc⟩:∃acc,oR ps k=acc:=⟨_,rfl⟩
   rw[hacc]at hs1 hsl ⊢
   repeat' (first
    |(refine qz ?_;first
     |refine lX ?_
     |refine rC (fun kk hkk=>?_)
     |refine yc ?_ (by assumption) h1 h2
     |refine Rv (p:=4) (q:=21) ?_
     |refine qw ?_
     |refine tZ ?_)
    |refine zz ?_|refine zx (fun _=>?_) (fun _=>?_)|fail)
   refine WX.cj rfl ?_;refine WX.bQ (σ:=Nat) (fun t=>[(12,.one c),(13,.one (.int .i64 (ps.length:Nat))),(3,ee 1 (k-1) 2),(14,.one (.int .i64 (k:Nat))),(22,.one (.lsl 0 kx 4 17 (fx-4) 4)),(23,.one (.int .i64 17)),(6,ee 2 (7*t) 1),(24,.one (.int .i64 (t:Nat)))]) (fun t=>[.late L,bz 79 (fl sI acc),bz 5 (il .u8 (l7 p t))]) (fun t=>t<=17) (fun t=>17-t) 0 (Nat.zero_le _) (fun k _=>stM) (bq [0,1,2] (reg:=by(repeat' (first|exact ae.nil|refine ae.ia rfl (by assumption) rfl ?_|refine rz ?_|refine ae.sl rfl (by assumption) rfl ?_));first|done|fail)) ?_;intro t ht ih2;have hl7:=t6 p t
   by_cases hlt2:t<17
   ·have hbt:=hpb (4+t);have hi2:4+t<p.length:=by omega
    have e4:4+(t:Int).toNat*1=4+t:=by omega
    have hq7:(q7 (p.getD (4+t) 0)).length=7:=ym _ 0
    repeat' (first
     |(refine qz ?_;first
      |refine tZ ?_ (hp:=e4)
      |refine yb ?_ hL hi2
      |refine cl ?_ (hi:=by exact Hm hbt nL nA rfl))
     |refine zz ?_|refine zx (fun _=>?_) (fun _=>?_)|fail)
    exact ih2 (t+1) _ _ _ (bq [0,1,4] (reg:=by(repeat' (first|exact ae.nil|refine ae.ia rfl (by assumption) rfl ?_|refine ae.jD rfl rfl (by omega) ?_|refine rz ?_|refine ae.sl rfl (by assumption) rfl ?_));first|done|fail)) (by omega) (by omega)
   ·obtain rfl:t=17:=by omega
    clear ih2
    obtain⟨B,hB⟩:∃B,l7 p 17=B:=⟨_,rfl⟩
    have hBa:=M_ p 17;rw[hB]at hBa hl7 ⊢
    repeat' (first|refine zz ?_|refine zx (fun _=>?_) (fun _=>?_)|fail)
    refine WX.bQ (σ:=Nat) (fun t=>[(12,.one c),(13,.one (.int .i64 (ps.length:Nat))),(3,ee 1 (k-1) 2),(14,.one (.int .i64 (k:Nat))),(6,ee 2 (7*17) 1),(9,.one (.int .i64 (mD p 37 t))),(10,.one (.int .i64 (mD p 53 t))),(34,.one (.int .i64 (t:Nat)))]) (fun t=>[.late L,bz 79 (fl sI acc),bz 5 (il .u8 B)]) (fun t=>t<=16) (fun t=>16-t) 0 (Nat.zero_le _) (fun k _=>stM) (bq [0,1,2] (reg:=by(repeat' (first|exact ae.nil|refine ae.ia rfl (by assumption) rfl ?_|refine rz ?_|refine ae.sl rfl (by assumption) rfl ?_));first|done|fail)) ?_;intro t ht ih2;have ra:=uP p 37 t;have rb:=uP p 53 t;have rp:=I9 ht
    have hsB:bz 5 (il .u8 B) = .cells (il .u8 B) 5 true false:=bG fun e=>by
     have h2:(il .u8 B).length=0:=by rw[e];rfl
     rw[bH]at h2;omega
    have hsv:ee 2 (7*17) 1 = .one (.slice 2 0 (7*17) (.toEnd 1)):=rfl;rw[hsB]
    by_cases hlt3:t<16
    ·have e5:(37+(t:Int)).toNat=37+t:=by omega
     have e6:(53+(t:Int)).toNat=53+t:=by omega
     have b1':=hBa (37+t) (by omega);have b2':=hBa (53+t) (by omega);have p1:=uC p (37+t);have p2:=uC p (53+t);have v1':0<=B.getD (37+(t:Int)).toNat 0/\B.getD (37+(t:Int)).toNat 0<=1:=by rw[e5,b1'];exact p1
     have v2':0<=B.getD (53+(t:Int)).toNat 0/\B.getD (53+(t:Int)).toNat 0<=1:=by rw[e6,b2'];exact p2
     have hn1:mD p 37 (t+1)=2*mD p 37 t+B.getD (37+(t:Int)).toNat 0:=by rw[mD,e5,b1']
     have hn2:mD p 53 (t+1)=2*mD p 53 t+B.getD (53+(t:Int)).toNat 0:=by rw[mD,e6,b2']
     repeat' (first|refine zz ?_|refine zx (fun _=>?_) (fun _=>?_)|fail)
     exact ih2 (t+1) _ _ _ (bq [0,1,2] (obj:=by(repeat' (first|exact af.nil|refine af.flat (by rw[hsB];rfl) ?_|refine oz ?_));first|done|fail) (reg:=by(repeat' (first|exact ae.nil|refine ae.ia rfl (by assumption) rfl ?_|refine ae.flat (by rw[hn1];rfl) ?_|refine ae.flat (by rw[hn2];rfl) ?_|refine rz ?_|refine ae.sl rfl (by assumption) rfl ?_));first|done|fail)) (by omega) (by omega)
    ·obtain rfl:t=16:=by omega
     clear ih2;have hpf:sI (fu p) = [.int .i64 (mD p 37 16),.int .i64 (mD p 53 16)]:=rfl
     repeat' (first
      |(refine qz ?_;first
       |refine tH (enc:=sI) (a:=fu p) ?_
       |refine wi (enc:=sI) ?_)
      |refine zz ?_|refine zx (fun _=>?_) (fun _=>?_)|fail)
     exact ih (k+1) _ _ _ (bq [0,4] (obj:=by(repeat' (first|exact af.nil|refine af.flat (by rw[hs1];rfl) ?_|refine oz ?_));first|done|fail) (reg:=by(repeat' (first|exact ae.nil|refine ae.ia rfl (by assumption) rfl ?_|refine ae.jD rfl rfl (by omega) ?_|refine rz ?_|refine ae.sl rfl (by assumption) rfl ?_));first|done|fail)) (by omega) (by omega)
 ·obtain rfl:k=ps.length:=by omega
  repeat' (first
   |(refine qz ?_;first
    |refine lX ?_)
   |refine zz ?_|refine zx (fun _=>?_) (fun _=>?_)|fail)
  show aE _ _ _ _ _ _ _ _;refine kV [0,1] ?_;rw[dz];rfl
theorem uB{L:List (List XC)}{cs:List XC}{ps:List (List Int)}(hb:nr L cs ps){c:XC}{i n:Nat}(hc:da L i c cs n)(hpn:ps.length=n)(hn:ps.length<=1000000)(hp:∀i,0<i->i<ps.length->21<=(ps.getD i []).length/\(ps.getD i []).length<=100000000)(hpB:∀i,aW (ps.getD i [])){q:List (Int×Int)}(hq:oR ps ps.length=q){HS:ah}(hi:HS[i]? = some (.late L)){N:Nat}(hN:HS.length=N){HS':ah}(hh:HS++[bz 79 (fl sI q)]=HS')(hbd:Nat.blt HS'.length Mem.bound=true) :
 aA.Sound prog ⟨24,[.one c],HS,ee N (n-1) 2,HS',[i]⟩:=by
 subst hpn hN hq;obtain⟨c0,h0,rfl⟩:=hc.back 0 (nth [i]) rfl;refine bp [i] [i] 1 (Ak hb h0 hn hp hpB) (by simp) (.flat hi .nil) (.flat .nil) (.flat (.flat .nil)) rfl (.cons (h0.ok (Nat.lt_succ_self 0)) .nil) (.cons rfl .nil) (ib (Nat.le_of_ble_eq_true rfl)) (dz ..) (.flat (.flat .nil)) ?_ rfl (by simp only[bC];rw[aC hi];exact hh) hbd (.inl rfl);cases fl sI (oR ps ps.length)<;>simp[fM,aj.live,aj.own,bz]
theorem Fu{b:Bool}{c:XC}{n:Nat}(h:c.ok n):(XV.agg [.bool b,c]).br n:=fun x hx=>by
 simp only[List.mem_cons,List.not_mem_nil,or_false]at hx
 rcases hx with rfl|rfl
 ·trivial
 ·exact h
theorem EY(kind at_ burst:Int)(co cm:XC){L:List (List XC)}{od mk:List Int}(hco:da L 0 co (il .u16 od) od.length)(hcm:da L 0 cm (il .u8 mk) mk.length)(hk:0<=kind/\kind<256)(hk7:kind%8=7)(a b:Nat)(ha:1<=a/\a<=30000)(hb:1<=b/\b<=30000) :
 bm prog 38 [.agg (ek kind at_ burst co cm),.one (.int .i64 (a:Nat)),.one (.int .i64 (b:Nat))] [.late L] (.agg [.bool false,cm]) [.late L]:=by
 have hco2:=hco.ok (Nat.lt_succ_self 0);have hcm2:=hcm.ok (Nat.lt_succ_self 0);refine cO Tryz.func38 ?_
 repeat' (first|refine zz ?_|refine zx (fun _=>?_) (fun _=>?_)|fail)
 show aE _ _ _ _ _ _ _ _;refine kV [0] ?_ (hr:=f4.one rfl (.cell rfl rfl (cy rfl) .nil)) (hok:=Fu hcm2);simp only[XV.aB,List.map_cons,List.map_nil,hcm.id (τ:=nth [0]) rfl];rfl
def fF(s:pZ)(a b:Nat):Fa:=
 if s.kind%8<5 then⟨decide (s.kind%8=4),[]⟩
 else if s.kind%8=7 then⟨false,s.mask⟩
 else if s.kind%8=5 then⟨false,m5 (a+b) (vX s.at_ a) (pO s.at_ a b) (Rh s.at_ a b) s.burst 16⟩
 else⟨false,f6 s.at_ s.odd (a+b) (vX s.at_ a) (pO s.at_ a b)⟩
theorem QM(l:List Int)(hl:∀z∈l,0<=z/\z<256):aW l:=fun i=>by
 rw[List.getD_eq_getElem?_getD]
 cases h:l[i]? with
 | none=>show(0:Int)<=0/\(0:Int)<256;omega
 | some z=>exact hl z (List.mem_of_getElem? h)
theorem HU{s:pZ}(hs:p5 s)(hm:s.mask.length<=500){a b:Nat}(ha:a<=30000)(hb:b<=30000):aW (fF s a b).mask/\(fF s a b).mask.length<=60000:=by
 unfold fF;split
 ·exact⟨fun i=>by show(0:Int)<=0/\(0:Int)<256;omega,Nat.zero_le _⟩
 ·split
  ·exact⟨QM _ hs.mask,by show s.mask.length<=_;omega⟩
  ·split
   ·exact⟨sZ _ _ _ _ _ _,by show(m5 _ _ _ _ _ _).length<=_;rw[ui];omega⟩
   ·exact⟨s7 _ _ _ _ _ _,by show(f6 _ _ _ _ _).length<=_;unfold f6;rw[uj];omega⟩
def lh(LA:List (List XC))(x:List (List XC)×List sC)(c:oO)(s:pZ)(a b:Nat):List (List XC)×List sC:=
 if s.kind%8<5 then(x.1,x.2++[⟨decide (s.kind%8=4),.nils⟩])
 else if s.kind%8=7 then match c.cm with
  | .lsl _ k _ n fl _=>(x.1++[LA.getD k []],x.2++[⟨false,.lsl 0 x.1.length 0 n fl 0⟩])
  | cc=>(x.1,x.2++[⟨false,cc⟩])
 else(x.1++[il .u8 (fF s a b).mask],x.2++[⟨false,.lsl 0 x.1.length 0 (fF s a b).mask.length (fF s a b).mask.length 0⟩])
def Ah(ps:List (List Int))(i:Nat):Nat×Nat:=((fu (ps.getD (i+1) [])).1.toNat,(fu (ps.getD (i+1) [])).2.toNat)
def o7(LA:List (List XC))(l:List oO)(q:List pZ)(ps:List (List Int)):Nat->List (List XC)×List sC
 | 0=>([],[])
 | i+1=>if i<q.length then lh LA (o7 LA l q ps i) (l.getD i default) (q.getD i default) (Ah ps i).1 (Ah ps i).2 else o7 LA l q ps i
def jX(q:List pZ)(ps:List (List Int)):Nat->List Fa
 | 0=>[]
 | i+1=>if i<q.length then jX q ps i++[fF (q.getD i default) (Ah ps i).1 (Ah ps i).2]else jX q ps i
theorem ow(q:List pZ)(ps:List (List Int)):∀i,(jX q ps i).length=min i q.length
 | 0=>by simp[jX]
 | i+1=>by
   rw[jX];split
   ·rw[List.length_append,ow q ps i,List.length_singleton];omega
   ·rw[ow q ps i];omega
theorem da.mono{L:List (List XC)}{g:Nat}{c:XC}{vs:List XC}{n:Nat}(h:da L g c vs n)(r:List (List XC)):da (L++r) g c vs n:=by
 rcases h with h|⟨k,fl,h1,h2,h3⟩
 ·exact .inl h
 ·exact .inr ⟨k,fl,h1,h2,by rw[List.getElem?_append_left (List.getElem?_eq_some_iff.1 h3).1];exact h3⟩
theorem jK{L:List (List XC)}{l:List sC}{fs:List Fa}(h:kZ L l fs){r:List (List XC)}{x:sC}{f:Fa}(h1:x.lost=f.lost)(h2:da (L++r) 0 x.c (il .u8 f.mask) f.mask.length):kZ (L++r) (l++[x]) (fs++[f]):=by
 refine⟨by rw[List.length_append,List.length_append,h.1];rfl,fun i hi=>?_⟩;rw[List.length_append,List.length_singleton]at hi
 by_cases hlt:i<fs.length
 ·have e1:(l++[x]).getD i default=l.getD i default:=by
   rw[List.getD_eq_getElem?_getD,List.getElem?_append_left (by rw[h.1];exact hlt),List.getD_eq_getElem?_getD]
  have e2:(fs++[f]).getD i default=fs.getD i default:=by
   rw[List.getD_eq_getElem?_getD,List.getElem?_append_left hlt,List.getD_eq_getElem?_getD]
  rw[e1,e2];exact⟨(h.2 i hlt).1,da.mono (h.2 i hlt).2 r⟩
 ·obtain rfl:i=fs.length:=by omega
  have e1:(l++[x]).getD fs.length default=x:=by
   rw[List.getD_eq_getElem?_getD,List.getElem?_append_right (by rw[h.1];exact Nat.le_refl _),h.1,Nat.sub_self];rfl
  have e2:(fs++[f]).getD fs.length default=f:=by
   rw[List.getD_eq_getElem?_getD,List.getElem?_append_right (Nat.le_refl _),Nat.sub_self];rfl
  rw[e1,e2];exact⟨h1,h2⟩
theorem E8{LA:List (List XC)}{x:List (List XC)×List sC}{fs:List Fa}(h:kZ x.1 x.2 fs){c:oO}{s:pZ}(hcm:da LA 0 c.cm (il .u8 s.mask) s.mask.length)(a b:Nat):kZ (lh LA x c s a b).1 (lh LA x c s a b).2 (fs++[fF s a b]):=by
 unfold lh fF;split
 ·have:=jK (r:=[]) h (x:=⟨decide (s.kind%8=4),.nils⟩) (f:=⟨decide (s.kind%8=4),[]⟩) rfl (.inl ⟨rfl,.inl rfl⟩);rwa [List.append_nil]at this
 ·split
  ·rcases hcm with⟨h0,e|⟨k,e⟩⟩|⟨k,fl,h1,e,h3⟩
   ·rw[e];have:=jK (r:=[]) h (x:=⟨false,.nils⟩) (f:=⟨false,s.mask⟩) rfl (.inl ⟨h0,.inl rfl⟩);rwa [List.append_nil]at this
   ·rw[e];have:=jK (r:=[]) h (x:=⟨false,.lem k⟩) (f:=⟨false,s.mask⟩) rfl (.inl ⟨h0,.inr ⟨k,rfl⟩⟩);rwa [List.append_nil]at this
   ·rw[e];refine jK h rfl (.inr ⟨x.1.length,fl,h1,rfl,?_⟩);rw[List.getElem?_append_right (Nat.le_refl _),Nat.sub_self,List.getD_eq_getElem?_getD,h3];rfl
  ·split
   ·refine jK h rfl (.inr ⟨x.1.length,_,Nat.le_refl _,rfl,?_⟩);rw[List.getElem?_append_right (Nat.le_refl _),Nat.sub_self];rfl
   ·refine jK h rfl (.inr ⟨x.1.length,_,Nat.le_refl _,rfl,?_⟩);rw[List.getElem?_append_right (Nat.le_refl _),Nat.sub_self];rfl
theorem nJ{LA:List (List XC)}{l:List oO}{q:List pZ}(hq:oX LA l q)(ps:List (List Int)):∀i,kZ (o7 LA l q ps i).1 (o7 LA l q ps i).2 (jX q ps i)
 | 0=>⟨rfl,fun i hi=>absurd hi (Nat.not_lt_zero _)⟩
 | i + 1=>by
   rw[o7,jX];split
   ·rename_i h;exact E8 (nJ hq ps i) (hq.2 i h).2.2.2.2 _ _
   ·exact nJ hq ps i
theorem Li{l:List sC}{n:Nat}(h:∀f∈l,f.c.iF n=true):∀c∈fl i4 l,c.iF n=true:=fun c hc=>by
 obtain⟨f,hf,hc⟩:=List.mem_flatMap.1 hc;simp only[i4,List.mem_cons,List.not_mem_nil,or_false]at hc
 rcases hc with rfl|rfl
 ·rfl
 ·exact h f hf
theorem i7{L:List (List XC)}{l:List sC}{fs:List Fa}(h:kZ L l fs):∀c∈fl i4 l,c.iF L.length=true:=Li fun f hf=>by
 obtain⟨i,hi,rfl⟩:=List.mem_iff_getElem.1 hf;have:=(h.2 i (by rw[<-h.1];exact hi)).2;rw[List.getD_eq_getElem?_getD,List.getElem?_eq_getElem hi,Option.getD_some]at this
 rcases this with⟨_,e|⟨k,e⟩⟩|⟨k,fl,_,e,h3⟩
 ·rw[e];rfl
 ·rw[e];rfl
 ·rw[e];have:=(List.getElem?_eq_some_iff.1 h3).1;simp only[XC.iF,Nat.blt_eq];exact this
theorem D0{kind at_ burst:Int}{co cm:XC}{n:Nat}(h1:co.ok n)(h2:cm.ok n):(XV.agg (ek kind at_ burst co cm)).br n:=fun x hx=>by
 simp only[ek,List.mem_cons,List.not_mem_nil,or_false]at hx
 rcases hx with rfl|rfl|rfl|rfl|rfl
 ·trivial
 ·trivial
 ·trivial
 ·exact h1
 ·exact h2
structure GV(LA:List (List XC))(g:Nat)(s:pZ)(co cm:XC)(a b:Nat):Prop where
 co:da LA g co (il .u16 s.odd) s.odd.length
 cm:da LA g cm (il .u8 s.mask) s.mask.length
 ok:p5 s
 few:s.odd.length<=30
 a:1<=a/\a<=30000
 b:1<=b/\b<=30000
theorem qf{LA:List (List XC)}{g:Nat}{s:pZ}{co cm:XC}{a b:Nat}(h:GV LA g s co cm a b)(hk:s.kind%8<5\/s.kind%8=7){f:Fa}(hf:fF s a b=f){x:XC}(hx:(if s.kind%8<5 then .nils else cm)=x){HS:ah}(hg:HS[g]? = some (.late LA))(hbd:Nat.blt HS.length Mem.bound=true) :
 aA.Sound prog ⟨38,[.agg (ek s.kind s.at_ s.burst co cm),.one (.int .i64 (a:Nat)),.one (.int .i64 (b:Nat))],HS,.agg [.bool f.lost,x],HS,[]⟩:=by
 subst hf hx;obtain⟨c0,h0,rfl⟩:=h.co.back 0 (nth [g]) rfl;obtain⟨d0,k0,rfl⟩:=h.cm.back 0 (nth [g]) rfl
 have hod:∀p,0<=s.odd.getD p 0/\s.odd.getD p 0<65536:=fun p=>by
  rw[List.getD_eq_getElem?_getD]
  cases e:s.odd[p]? with
  | none=>show(0:Int)<=0/\(0:Int)<65536;omega
  | some z=>exact h.ok.odd z (List.mem_of_getElem? e)
 unfold fF
 rcases hk with hk|hk
 ·rw[if_pos hk,if_pos hk];exact fV [g] (BP s.kind s.at_ s.burst c0 d0 h0 k0 h.ok.kind hk a b h.a h.b) (by simp) (.flat hg .nil) (.flat .nil) (.cons (D0 (h0.ok (Nat.lt_succ_self 0)) (k0.ok (Nat.lt_succ_self 0))) (.flat (.flat .nil))) (.cons rfl (.flat (.flat .nil))) (Fu trivial) rfl hbd rfl
 ·have hk5:¬s.kind%8<5:=by omega
  rw[if_neg hk5,if_pos hk,if_neg hk5];exact fV [g] (EY s.kind s.at_ s.burst c0 d0 h0 k0 h.ok.kind hk a b h.a h.b) (by simp) (.flat hg .nil) (.flat .nil) (.cons (D0 (h0.ok (Nat.lt_succ_self 0)) (k0.ok (Nat.lt_succ_self 0))) (.flat (.flat .nil))) (.cons rfl (.flat (.flat .nil))) (Fu (k0.ok (Nat.lt_succ_self 0))) rfl hbd rfl
theorem HV{LA:List (List XC)}{g:Nat}{s:pZ}{co cm:XC}{a b:Nat}(h:GV LA g s co cm a b)(hk:s.kind%8=5\/s.kind%8=6){m:List Int}(hm:(fF s a b).mask=m){n:Nat}(hn:a+b=n){HS:ah}(hg:HS[g]? = some (.late LA)){N:Nat}(hN:HS.length=N){HS':ah}(hh:HS++[.cells (il .u8 m) 5 false false]=HS')(hbd:Nat.blt HS'.length Mem.bound=true) :
 aA.Sound prog ⟨38,[.agg (ek s.kind s.at_ s.burst co cm),.one (.int .i64 (a:Nat)),.one (.int .i64 (b:Nat))],HS,.agg [.bool false,.slice N 0 n (.exact n)],HS',[g]⟩:=by
 subst hm hN hn;obtain⟨c0,h0,rfl⟩:=h.co.back 0 (nth [g]) rfl;obtain⟨d0,k0,rfl⟩:=h.cm.back 0 (nth [g]) rfl
 have hod:∀p,0<=s.odd.getD p 0/\s.odd.getD p 0<65536:=fun p=>by
  rw[List.getD_eq_getElem?_getD]
  cases e:s.odd[p]? with
  | none=>show(0:Int)<=0/\(0:Int)<65536;omega
  | some z=>exact h.ok.odd z (List.mem_of_getElem? e)
 have hk5:¬s.kind%8<5:=by omega
 have hk7:¬s.kind%8=7:=by omega
 have e:bC HS [g] [.late LA,.cells (il .u8 (fF s a b).mask) 5 false false]=HS':=by simp only[bC];rw[aC hg];exact hh
 unfold fF at e;rw[if_neg hk5,if_neg hk7]at e
 by_cases h5:s.kind%8=5
 ·rw[if_pos h5]at e;exact bp [g] [g] 1 (EW s.kind s.at_ s.burst c0 d0 h0 k0 h.ok.kind h5 h.ok.at_ h.ok.burst a b h.a h.b) (by simp) (.flat hg .nil) (.flat .nil) (.flat (.flat .nil)) rfl (.cons (D0 (h0.ok (Nat.lt_succ_self 0)) (k0.ok (Nat.lt_succ_self 0))) (.flat (.flat .nil))) (.cons rfl (.flat (.flat .nil))) (Fu (show 1<2 by omega)) rfl (.flat (.flat .nil)) rfl rfl e hbd (.inl rfl)
 ·rw[if_neg h5]at e;exact bp [g] [g] 1 (EX s.kind s.at_ s.burst c0 d0 h0 k0 h.ok.kind (by omega) h.ok.at_ hod h.few a b h.a h.b) (by simp) (.flat hg .nil) (.flat .nil) (.flat (.flat .nil)) rfl (.cons (D0 (h0.ok (Nat.lt_succ_self 0)) (k0.ok (Nat.lt_succ_self 0))) (.flat (.flat .nil))) (.cons rfl (.flat (.flat .nil))) (Fu (show 1<2 by omega)) rfl (.flat (.flat .nil)) rfl rfl e hbd (.inl rfl)
end Go.Proofs.YthdciapjllppjaaGreat
