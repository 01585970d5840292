/-
  A part of the proof: OutsMain.
-/
import Derived.Test.YtagpkhindehcbaaGreatKcY
import Derived.Test.YtagpkhindehcbaaGreatKcZA
set_option maxRecDepth 10000
set_option maxHeartbeats 8000000
set_option linter.unusedVariables false
set_option linter.unusedSectionVars false
set_option linter.unusedSimpArgs false
namespace Go.Xm
variable [az]
variable {P:Program} {ops:Array Oper} {nt nI:Nat} {al:bn} {hs:ak} {o:Oper} {l:List Oper} {L:List aI} {K:List Ab→bn→ak→Prop} {d:Nat}
theorem zO (n:Nat):ff [.nils] n=List.replicate n .nils:=by
 unfold ff
 apply List.ext_getElem?
 intro i
 by_cases h:i<n
 · simp [h,Nat.mod_one]
 · simp [h]
theorem OR {t e:TypeId} {a b:Operand} {kl kc:IntKind} {x:Int} {n:Nat} {N:Nat} {hs':ak}(hx:x=(n:Nat)) (hk:SK P ops nt L l ((d,.one (.slice N 0 n (.exact n)))::al) hs' fun bs=>K (⟨true,.none,[N]⟩::bs)) (ho:o.op = .makeSlice t a b:=by exact rfl) (hu:bh P t (.slice e):=by infer_instance) (hz:bC P e [.nils]:=by infer_instance) (hI:TI P e 1:=by infer_instance) (hw:aw ops (rg al) o=some true:=by exact rfl) (hd:o.dst=some d:=by exact rfl) (hlt:Nat.blt d nt=true:=by exact rfl) (ha:ai (rg al) a = .one (.int kl x):=by exact rfl) (hb:ai (rg al) b = .one (.int kc x):=by exact rfl) (hn:n≤2000000000:=by omega) (hN:hs.length=N:=by exact nL) (hbd:Nat.blt N Mem.bound=true:=by exact rfl) (hh:hs++[.cells (List.replicate n .nils) e false false]=hs':=by exact nA):SK P ops nt L (o::l) al hs K:=by
 subst hN hh hx
 refine SK.lift hd hlt (fun _=>?_) hk
 intro m hm
 obtain⟨m',h1,h2,h3⟩:=hm.push (.cells (List.replicate n .nils) e false false) (by simpa [Nat.blt_eq]using hbd)
 refine⟨m',?_,h2,h3⟩
 unfold jS
 rw [hw]
 refine cQ (by rw [ho];rfl) (by rw [ho];rfl) (by rw [ho];rfl) ?_
 rw [ho]
 obtain⟨ti,hti,hs1,hby⟩:=hI.get
 have hbb:(ti.bytes:Int)*(n:Nat)≤281474976710656:=by
  have:(ti.bytes:Int)*(n:Nat)≤65536*(n:Nat):=Int.mul_le_mul_of_nonneg_right (by omega) (by omega)
  omega
 simp only [cw,iv,eC,hu.out,ha,hb,hti,hz.out,hs1,Int.toNat_natCast,Nat.mul_one,zO,h1,hm.n]
 rw [if_pos ⟨by omega,by omega,by omega,hbb,by simp⟩]
end Go.Xm
namespace Go.Proofs.YtagpkhindehcbaaGreat
open Go.Xm
variable [az]
theorem vk {f:FuncId} {args0 args:List XV} {v v':XV} {news news':ak} {ob oc:aj} [dc ob] [dc oc] (n:Nat) (hn:news.length=n) (hc:bt Tryz.prog f args0 (gM++[ob,oc]) v (gM++ob::oc::news)) {HS:ak} {K i j:Nat}(hS:(HS.drop K).take 13=fU K) (hi:HS[i]? = some ob) (hj:HS[j]? = some oc) (hd:(nS K [i,j]).Nodup) (ha:eT 15 args0) (e1:dE (nth (nS K [i,j])) args0 args) (hv:v.cc (15+n)) (e2:v.au (nth (nS K [i,j]++List.range' HS.length n))=v')
 (hnk:bE (15+n) news) (hr:dO (nth (nS K [i,j]++List.range' HS.length n)) news news') (hro:eg [] news=true) {HS':ak}(hh:HS++news'=HS') (hbd:Nat.blt HS'.length Mem.bound=true):aI.Sound Tryz.prog ⟨f,args,HS,v',HS',nS K [i,j]⟩:=by
 have e0:∀ q,q<13→nth (nS K [i,j]) q=K+q:=yR K [i,j]
 have e0':∀ q,q<13→nth (nS K [i,j]++List.range' HS.length n) q=K+q:=yR K (i::j::List.range' HS.length n)
 have hln:(gM++ob::oc::news).length=15+n:=by rw [List.length_append];show 13+(news.length+1+1)=_;omega
 refine b8 (os:=fU K++ob::oc::news') (nS K [i,j]) (nS K [i,j]) n hc hd (B9 hS e0 (.flat hi (.flat hj .nil))) (px (l:=[ob,oc]) (by show 13≤15;omega) (.flat (.flat .nil))) (by rw [hln];exact px (l:=ob::oc::news) (by omega) (.flat (.flat hnk))) (by rw [hln];rfl) ha e1 (by rw [hln];exact hv) e2 (wU e0' (.flat (.flat hr))) ?_ rfl ?_ hbd (.inl rfl)
 · refine xb _ _ _ rfl ?_
   simp only [eg,Bool.and_eq_true]
   exact⟨by cases ob.live <;> simp,by cases oc.live <;> simp,hro⟩
 · have g:∀ q,q<13→HS[K+q]? = (fU K)[q]?:=fun q hq=>by rw [←hS,List.getElem?_take_of_lt hq,List.getElem?_drop]
   have g0:HS[K]? = some (bR (K+1) (K+5) (K+9)):=g 0 (by decide)
   simp only [bN,fU,List.cons_append,List.nil_append]
   rw [aG g0,aG (g 1 (by decide)),aG (g 2 (by decide)),aG (g 3 (by decide)),aG (g 4 (by decide)),aG (g 5 (by decide)),aG (g 6 (by decide)),aG (g 7 (by decide)),aG (g 8 (by decide)),aG (g 9 (by decide)),aG (g 10 (by decide)),aG (g 11 (by decide)),aG (g 12 (by decide)),aG hi,aG hj]
   exact hh
theorem te {h:Hd} {p:Ph} {first:Int} {l:List Ol}(hT:BG h p first l) {OUT:aj} [dc OUT] {evs:List (List Ev)}(hE:xV OUT evs) {c:XC} {j:Nat}(hc:ed c j 0 evs.length) {e:Int}(he:fD evs first l (jJ h p) = .inl e) {n:Nat}(hn:l.length=n) {HS:ak} {K i:Nat}(hS:(HS.drop K).take 13=fU K) (hi:HS[i]? = some (cK 56 (fl gz l))) (hj:HS[j]? = some OUT) (hd:(nS K [i,j]).Nodup) {HS':ak}(hh:HS++[.dead]=HS') (hbd:Nat.blt HS'.length Mem.bound=true) :
 aI.Sound Tryz.prog ⟨15,[.one (.ptr K 0),.agg (iz h),.agg (jh p),.one (.int .i64 first),.one (kC i n 397),.one c],HS,.tup [.one .nils,.one (.int .i64 e)],HS',nS K [i,j]⟩:=by
 subst hn
 obtain⟨c0,hc0,hcr⟩:=hc.ya 14 (nth (nS K [i,j])) rfl
 have hcon:=ve hT hE hc0
 rw [he]at hcon
 exact vk 1 rfl hcon hS hi hj hd (.cons (by show 0<15;omega) (.flat (.flat (.flat (.cons (gO (Nat.le_of_ble_eq_true rfl)) (.cons (hc0.ok (by omega)) .nil)))))) (.cons rfl (.flat (.flat (.flat (.cons (d_ ..) (.cons (congrArg XV.one hcr) .nil)))))) (XV.gX rfl _) rfl (.flat .nil) (.flat .nil) rfl hh hbd
theorem FP {h:Hd} {p:Ph} {first:Int} {l:List Ol}(hT:BG h p first l) {OUT:aj} [dc OUT] {evs:List (List Ev)}(hE:xV OUT evs) {c:XC} {j:Nat}(hc:ed c j 0 evs.length) {r:List Mb}(he:fD evs first l (jJ h p) = .inr r) {n:Nat}(hn:l.length=n) {HS:ak} {K i:Nat}(hS:(HS.drop K).take 13=fU K) (hi:HS[i]? = some (cK 56 (fl gz l))) (hj:HS[j]? = some OUT) (hd:(nS K [i,j]).Nodup) {N:Nat}(hN:HS.length=N) {HS':ak}(hh:HS++[cK 53 (fl mC r)]=HS') (hbd:Nat.blt HS'.length Mem.bound=true) :
 aI.Sound Tryz.prog ⟨15,[.one (.ptr K 0),.agg (iz h),.agg (jh p),.one (.int .i64 first),.one (kC i n 397),.one c],HS,.tup [.one (kC N r.length 391),.one (.int .i64 0)],HS',nS K [i,j]⟩:=by
 subst hn hN
 obtain⟨c0,hc0,hcr⟩:=hc.ya 14 (nth (nS K [i,j])) rfl
 have hcon:=ve hT hE hc0
 rw [he]at hcon
 refine vk 1 rfl hcon hS hi hj hd (.cons (by show 0<15;omega) (.flat (.flat (.flat (.cons (gO (Nat.le_of_ble_eq_true rfl)) (.cons (hc0.ok (by omega)) .nil)))))) (.cons rfl (.flat (.flat (.flat (.cons (d_ ..) (.cons (congrArg XV.one hcr) .nil)))))) (Gx (bp (Nat.le_of_ble_eq_true rfl)) trivial) ?_ (.flat .nil) (.flat .nil) ?_ hh hbd
 · simp only [FQ,XV.au,List.map_cons,List.map_nil,X1.au,aq];rfl
 · show eg [] [cK 53 (fl mC r)]=true
   cases fl mC r <;> rfl
theorem yk {v:Nat→Int × Int}(hv:∀ k,bu (v k)):rC Tryz.prog 49 (.agg (vt v)) (.agg (vt v))=some true:=by
 obtain⟨r,h1,h2⟩:=Lj hv hv
 rw [h1,h2.2 fun _ _=>rfl]
theorem H6 {v w:Nat→Int × Int}(h:∀ k,k<4→w k=v k):vt w=vt v:=by
 unfold vt
 rw [h 0 (by omega),h 1 (by omega),h 2 (by omega),h 3 (by omega)]
theorem Jw (m:Mb) (h:Nat→Bool) {k:Nat}(hk:k<6):(eO m h)[391+k]? = some (.bool (h k)):=by
 unfold eO
 rw [List.getElem?_append_right (by rw [aF];omega),aF,Nat.add_sub_cancel_left]
 exact wP h hk rfl
theorem Ch (m:Mb) (h:Nat→Bool) {i:Nat}(hi:i<384):(eO m h)[7+i]? = some (.int .i64 (m.lev i)):=by
 unfold eO
 rw [List.getElem?_append_left (by rw [aF];omega)]
 exact wY m hi
abbrev pL (n:Nat):aj := .cells (List.replicate n .nils) 106 false false
instance Ll (n:Nat):dc (pL n):=gW (by simp [XC.shut])
theorem vy (n m:Nat):(pL n).cc m:=by
 intro c hc
 rw [List.eq_of_mem_replicate hc];trivial
theorem tG (n:Nat) (τ : Nat→Nat):(pL n).au τ = pL n:=by simp [pL,aj.au,XC.au,List.map_replicate]
theorem Dh:uZ []:=⟨fun j hj=>absurd hj (Nat.not_lt_zero _),fun j hj=>absurd hj (Nat.not_lt_zero _),Nat.zero_le _⟩
theorem vw (n:Nat):xV (pL n) (List.replicate n []):=by
 have hg:∀ j,(List.replicate n ([]:List Ev)).getD j [] = []:=fun j=>by
  rw [List.getD_eq_getElem?_getD,List.getElem?_replicate];split <;> rfl
 refine⟨fun _=>⟨_,_,_,_,rfl,fun j hj=>⟨.nils,?_,rfl,hg j⟩⟩,fun j _=>by rw [hg j];exact Dh,fun m _=>vy n m,fun τl _=>tG n _⟩
 rw [List.length_replicate]at hj
 rw [List.getElem?_replicate,if_pos hj]
theorem rU (n:Nat):xV (pL n) []:=⟨fun h=>absurd h (Nat.lt_irrefl 0),fun j hj=>absurd hj (Nat.not_lt_zero _),fun m _=>vy n m,fun τl _=>tG n _⟩
structure Key (X:Prop):Prop where
 out:X
theorem share {X G:Prop}(main:Key X→G) (hole:X):G:=main ⟨hole⟩
abbrev GC (o0:aj) (G:Hd) (P:Ph) (L:List Mb) (opn:Bool) (a b:List Int) (outs:List Ol) (r:ak):ak:=o0 :: .dead :: .cells (fl mC L) 53 opn false :: .cells (iz G) 26 false false :: .cells (jh P) 28 false false::bR 6 10 14::ay 7 8 9 cM::aX cM::aZ cM::aY cM::ay 11 12 13 cZ::aX cZ::aZ cZ::aY cZ::ay 15 16 17 cP::aX cP::aZ cP::aY cP::cK 5 (il .u8 a)::cK 5 (il .u8 b)::cK 56 (fl gz outs)::r
theorem ra {h : Hd} {p:Ph}(hh:rK h) (hp:o5 p) {f:Int}(hf:0≤f∧f≤255) {l:List Sm}(hl:∀ j,j<l.length→ka (l.getD j default)) {o0:aj}(ho:wo o0 qA l) {c:XC}(hc:ed c 0 0 l.length) (hn:l.length≤9223372036854775807) :
 bt Tryz.prog 4 [.agg (gi h p f c)] [o0] (.one (.bool true)) [o0]:=by
 have hfo:=ho.flat
 obtain⟨hT,h9⟩:=AO (h:=h) hp hf hl
 obtain⟨G,hG⟩:∃ G,four h=G:=⟨_,rfl⟩
 obtain⟨P,hP⟩:∃ P,pD p=P:=⟨_,rfl⟩
 obtain⟨F,hF⟩:∃ F,e_ h f=F:=⟨_,rfl⟩
 obtain⟨L,hL⟩:∃ L,jo h p f l=L:=⟨_,rfl⟩
 obtain⟨cap,hcap⟩:∃ x,Fl l.length=x:=⟨_,rfl⟩
 obtain⟨opn,hopn⟩:∃ x,DE l.length=x:=⟨_,rfl⟩
 rw [hG,hP,hF,hL]at hT
 rw [hL]at h9
 have hm:=hT.many
 have hro:wo (.cells (fl mC L) 53 opn false) mC L:=⟨fun _=>⟨_,_,_,rfl⟩,inferInstance⟩
 obtain⟨n,hln⟩:∃ n,L.length=n:=⟨_,rfl⟩
 rw [hln]at h9 hm
 cases hr:w7 G P L F with
 | inl e=>
   have he:=JC hr
   refine cO Tryz.func4 ?_
   repeat' (first
    |(refine qz ?_;first
     |refine cl ?_ (hi:=by exact x9 rfl)
     |refine fy ?_ (hle:=by first|rw [oM]|rw [bM])
     |refine cl ?_ (hi:=by exact Cb hh hp hf hl ho hc hn hG hP hF hL hcap hopn hln rfl nL nA rfl)
     |refine p7 (zs:=iz ⟨0,0,false,fun _=>0,fun _=>0⟩) (hz:=xR) ?_
     |refine p7 (zs:=jh ⟨0,false,false,0⟩) (hz:=BD) ?_
     |refine i9 (cs:=iz G) ?_ (hs1:=by rw [bM]) (hs2:=by rw [bM])
     |refine i9 (cs:=jh P) ?_
     |refine cl ?_ (hi:=by exact Gw nL (by simp only [fU,List.cons_append,List.nil_append];exact rfl) rfl)
     |refine cl ?_ (hi:=by exact JE hT hro hr hln rfl rfl (by decide) rfl))
    |refine zz ?_|refine zx (fun _=>?_) (fun _=>?_)|fail)
   show aH _ _ _ _ _ _ _ _;refine kV [0] ?_
   rfl
 | inr ab =>
   obtain⟨a,b⟩:=ab
   have hB:=IJ hT hr
   obtain⟨q,B,t,y,hTk,ht,hy,hbk,hend⟩:=hB.out n hm (by omega)
   rw [hln,if_neg (Nat.lt_irrefl n)]at hend
   have hlo:t.out.length=n:=hbk.len
   have hO:E1 L F (lW G P) t.out:=⟨by rw [hlo,hln],fun i hi=>by
    obtain⟨o,ho1,ho2,ho3⟩:=hbk.outs i (by omega)
    have e:t.out.getD i default=o:=by rw [List.getD_eq_getElem?_getD,ho1];rfl
    rw [e]
    exact⟨ho2,ho3⟩⟩
   have hX:fk L F (lW G P) L.length = .inr y:=by rw [hln];exact hy
   have hz:(n:Int)=(n:Nat):=rfl
   refine cO Tryz.func4 ?_
   repeat' (first
    |(refine qz ?_;first
     |refine cl ?_ (hi:=by exact x9 rfl)
     |refine fy ?_ (hle:=by first|rw [oM]|rw [bM])
     |refine cl ?_ (hi:=by exact Cb hh hp hf hl ho hc hn hG hP hF hL hcap hopn hln rfl nL nA rfl)
     |refine p7 (zs:=iz ⟨0,0,false,fun _=>0,fun _=>0⟩) (hz:=xR) ?_
     |refine p7 (zs:=jh ⟨0,false,false,0⟩) (hz:=BD) ?_
     |refine i9 (cs:=iz G) ?_ (hs1:=by rw [bM]) (hs2:=by rw [bM])
     |refine i9 (cs:=jh P) ?_
     |refine cl ?_ (hi:=by exact Gw nL (by simp only [fU,List.cons_append,List.nil_append];exact rfl) rfl)
     |refine cl ?_ (hi:=by exact JF hT hro hr hln rfl rfl (by decide) nL (by simp only [fU,List.cons_append,List.nil_append];exact rfl) rfl)
     |refine cl ?_ (hi:=by exact HE hTk ht hend hz rfl rfl rfl (by decide) nL (by simp only [fU,List.cons_append,List.nil_append];exact rfl) rfl))
    |refine zz ?_|refine zx (fun _=>?_) (fun _=>?_)|fail)
   refine WX.dp (σ:=Nat) (fun i=>[(3,.one (.ptr 3 0)),(4,.one (.ptr 4 0)),(5,.one (.int .i64 F)),(6,.one (.slice 2 0 n cap)),(7,.one (.ptr 5 0)),(11,.one (kC 20 t.out.length 397)),(67,.one (kC 20 t.out.length 397)),(68,.one (.int .i64 (t.out.length:Nat))),(13,.one (.int .i64 (manyN t.out i:Nat))),(69,.one (.int .i64 (i:Nat)))]) (fun _=>GC o0 G P L opn a b t.out []) (fun i=>i≤n) (fun i=>n-i) 0 (Nat.zero_le _) (fun s _=>kS) (bm [0,1,2,3,4,5,6,7,8,9,10,11,12,13,14,15,16,17,18,19,20]) ?_
   intro i hi ih
   by_cases hlt:i<n
   · obtain ⟨hoo, hhas⟩:=hO.at_ i (by omega)
     obtain⟨M,hM⟩:∃ M,L.getD i default=M:=⟨_,rfl⟩
     obtain⟨o,ho'⟩:∃ o,t.out.getD i default=o:=⟨_,rfl⟩
     rw [hM,ho']at hoo
     rw [ho']at hhas
     have c1:(gz (t.out.getD i default))[0]? = some (.int .u8 M.kind):=by rw [ho',←hoo.kind];exact ep _ _
     have c2:(gz (t.out.getD i default))[1]? = some (.int .i64 M.qp):=by rw [ho',←hoo.qp];exact congrArg (·[1]?) (dj _ _)
     have c3:((gz (t.out.getD i default)).drop 2).take 4=vt M.v:=by
      rw [ho',←H6 hoo.v]
      show((eO o.1 o.2).drop 2).take 4=_
      rw [dj];rfl
     have hMt:∀ k,bu (M.v k):=by rw [←hM];exact(pK hT (by omega)).v
     have heq:=yk hMt
     have d1:(mC (L.getD i default))[0]? = some (.int .u8 M.kind):=by rw [hM];rfl
     have d2:(mC (L.getD i default))[1]? = some (.int .i64 M.qp):=by rw [hM];rfl
     have d3:((mC (L.getD i default)).drop 2).take 4=vt M.v:=by rw [hM];rfl
     have c4:∀ e,M.edge=e→(gz (t.out.getD i default))[6]? = some (.bool e):=fun e he=>by rw [ho',←he,←hoo.edge];exact congrArg (·[6]?) (dj _ _)
     have d4:∀ e,M.edge=e→(mC (L.getD i default))[6]? = some (.bool e):=fun e he=>by rw [hM,←he];rfl
     have hsm:∀ k,k<6→M.edge=false→o.2 k=iD M k 64:=fun k hk he=>by
      have:=DH hT hO hX (i:=i) (by omega) (by rw [hM];exact he) hk
      rw [hM,ho']at this
      exact this
     have hal:∀ {HS:ak} {b:Bool},alone M=b→Nat.blt HS.length Mem.bound=true→aI.Sound Tryz.prog ⟨13,[.agg (mC (L.getD i default))],HS,.one (.bool b),HS,[]⟩:=fun ha hb=>by rw [hM];exact nD ha hb
     have hmN:=qk t.out i
     apply share
     case main=>
      intro key2
      cases hed:M.edge
      all_goals
       have c4':=c4 _ hed
       have d4':=d4 _ hed
       repeat' (first
        |(refine qz ?_;first
         |refine pI (enc:=gz) (j:=i) ?_
         |refine pI (enc:=mC) (j:=i) ?_
         |refine p7 (zs:=eO kQ o3) (hz:=uF) ?_
         |refine p7 (zs:=mC kQ) (hz:=jy) ?_
         |refine i9 (cs:=gz (t.out.getD i default)) ?_
         |refine i9 (cs:=mC (L.getD i default)) ?_
         |refine ld (hc:=c1) ?_
         |refine ld (hc:=c2) ?_
         |refine ld (hc:=c4') ?_
         |refine ld (hc:=d1) ?_
         |refine ld (hc:=d2) ?_
         |refine ld (hc:=d4') ?_
         |refine rS (cs:=vt M.v) ?_ (hle:=by first|(show _≤(eO _ _).length;rw [b7];decide)|(rw [aF];decide)) (hc:=c3)
         |refine rS (cs:=vt M.v) ?_ (hle:=by rw [aF];decide) (hc:=d3)
         |refine OU heq ?_)
        |refine zz ?_|refine zx (fun _=>?_) (fun _=>?_)|fail)
       refine WX.dp (σ:=Nat) (fun k=>[(3,.one (.ptr 3 0)),(4,.one (.ptr 4 0)),(5,.one (.int .i64 F)),(6,.one (.slice 2 0 n cap)),(7,.one (.ptr 5 0)),(11,.one (kC 20 t.out.length 397)),(67,.one (kC 20 t.out.length 397)),(68,.one (.int .i64 (t.out.length:Nat))),(69,.one (.int .i64 (i:Nat))),(15,.one (.ptr 21 0)),(16,.one (.ptr 22 0)),(13,.one (.int .i64 (manyN t.out i+fQ o.2 k:Nat))),(108,.one (.int .i64 (k:Nat)))]) (fun _=>GC o0 G P L opn a b t.out [.cells (gz (t.out.getD i default)) 56 false false,.cells (mC (L.getD i default)) 53 false false]) (fun k=>k≤6) (fun k=>6-k) 0 (Nat.zero_le _) (fun s _=>kS) (bm [0,1,2,3,4,5,6,7,8,9,10,11,12,13,14,15,16,17,18,19,20,21,22]) key2.out
     case hole =>
      intro k hk ih2
      have hcN:=sv o.2 k
      by_cases hk6:k<6
      · have c5 : ∀ b,o.2 k=b→(gz (t.out.getD i default))[391+k]? = some (.bool b):=fun b hb=>by rw [ho',←hb];exact Jw _ _ hk6
        have d5:((mC (L.getD i default)).drop (7+k*64)).take 64=ti .i64 64 (aA M k):=by
         rw [hM,Gj M (by omega) (by omega)]
         exact n_ fun j _=>by show M.lev (7+k*64-7+j)=M.lev (k*64+j);rw [Nat.add_sub_cancel_left]
        apply share
        case main=>
         intro key3
         cases hhb:o.2 k
         all_goals
          have c5':=c5 _ hhb
          have hcs:manyN t.out i+fQ o.2 (k+1)=manyN t.out i+fQ o.2 k+(if o.2 k=true then 1 else 0):=by rw [fQ,Nat.add_assoc]
          rw [hhb]at hcs
          repeat' (first
           |(refine qz ?_;first
            |refine ld (hc:=c5') ?_
            |refine rS (cs:=ti .i64 64 (aA M k)) ?_ (hle:=by rw [aF];omega) (hc:=d5))
           |refine zz ?_|refine zx (fun _=>?_) (fun _=>?_)|fail)
          refine WX.dp (σ:=Nat) (fun j=>[(3,.one (.ptr 3 0)),(4,.one (.ptr 4 0)),(5,.one (.int .i64 F)),(6,.one (.slice 2 0 n cap)),(7,.one (.ptr 5 0)),(11,.one (kC 20 t.out.length 397)),(67,.one (kC 20 t.out.length 397)),(68,.one (.int .i64 (t.out.length:Nat))),(69,.one (.int .i64 (i:Nat))),(15,.one (.ptr 21 0)),(16,.one (.ptr 22 0)),(13,.one (.int .i64 (manyN t.out i+fQ o.2 (k+1):Nat))),(108,.one (.int .i64 (k:Nat))),(17,.one (.int .i64 (k:Nat))),(18,.one (.bool (iD M k j))),(120,.agg (ti .i64 64 (aA M k))),(121,.one (.int .i64 (j:Nat)))]) (fun _=>GC o0 G P L opn a b t.out [.cells (gz (t.out.getD i default)) 56 false false,.cells (mC (L.getD i default)) 53 false false]) (fun j=>j≤64) (fun j=>64-j) 0 (Nat.zero_le _) (fun s _=>kS) (bm [0,1,2,3,4,5,6,7,8,9,10,11,12,13,14,15,16,17,18,19,20,21,22] (reg:=by(repeat' (first|exact af.nil|refine af.flat (by rw [hcs];rfl) ?_|refine af.flat rfl ?_|refine af.cons rfl ?_|refine af.sl rfl (by assumption) rfl ?_|refine af.du rfl rfl (by first|rfl|omega|(simp;done)|(simp;omega)) ?_));first|done|fail)) key3.out
        case hole =>
         intro j hj ih3
         by_cases hj64:j<64
         · have c7 : (gz (t.out.getD i default))[7+k*64+j]? = some (.int .i64 (o.1.lev (k*64+j))):=by rw [ho',Nat.add_assoc];exact Ch _ _ (by omega)
           have c8:(gz (t.out.getD i default))[7+k*64]? = some (.int .i64 (o.1.lev (k*64))):=by rw [ho'];exact Ch _ _ (by omega)
           have hsn:iD M k (j+1)=(iD M k j || (decide (0<j∨alone M=false) && decide (aA M k j≠0))):=rfl
           by_cases hj0:0<j
           · have hlv:o.1.lev (k*64+j)=0:=by rw [hoo.lev,if_neg (by omega)]
             obtain⟨bl,hbl⟩:∃ b,alone M=b:=⟨_,rfl⟩
             obtain⟨sj,hsj⟩:∃ b,iD M k j=b:=⟨_,rfl⟩
             rw [hsj]at hsn ⊢
             clear hmN hcN
             by_cases hz:aA M k j=0
             · have hz':aA M k (j:Int).toNat=0:=hz
               have hsn2:iD M k (j+1)=sj:=by rw [hsn,decide_eq_true (.inl hj0),decide_eq_false (fun h=>h hz)];cases sj <;> rfl
               cases sj
               all_goals
                repeat' (first
                 |(refine qz ?_;first
                  |refine Dx (n:=64) ?_
                  |refine ld (hc:=c7) ?_
                  |refine ld (hc:=c8) ?_
                  |refine fy ?_ (hle:=by rw [aF])
                  |refine cl ?_ (hi:=by exact hal hbl rfl))
                 |refine zz ?_|refine zx (fun _=>?_) (fun _=>?_)|fail)
                refine ih3 (j+1) _ _ _ (bm [0,1,2,3,4,5,6,7,8,9,10,11,12,13,14,15,16,17,18,19,20,21,22] (reg:=by(repeat' (first|exact af.nil|refine af.flat (by rw [hsn2];rfl) ?_|refine af.flat rfl ?_|refine af.cons rfl ?_|refine af.sl rfl (by assumption) rfl ?_|refine af.du rfl rfl (by first|rfl|omega|(simp;done)|(simp;omega)) ?_));first|done|fail)) (by omega) (by omega)
             · have hz':¬aA M k (j:Int).toNat=0:=hz
               have hsn2:iD M k (j+1)=true:=by rw [hsn,decide_eq_true (.inl hj0),decide_eq_true hz];cases sj <;> rfl
               cases sj
               all_goals
                repeat' (first
                 |(refine qz ?_;first
                  |refine Dx (n:=64) ?_
                  |refine ld (hc:=c7) ?_
                  |refine ld (hc:=c8) ?_
                  |refine fy ?_ (hle:=by rw [aF])
                  |refine cl ?_ (hi:=by exact hal hbl rfl))
                 |refine zz ?_|refine zx (fun _=>?_) (fun _=>?_)|fail)
                refine ih3 (j+1) _ _ _ (bm [0,1,2,3,4,5,6,7,8,9,10,11,12,13,14,15,16,17,18,19,20,21,22] (reg:=by(repeat' (first|exact af.nil|refine af.flat (by rw [hsn2];rfl) ?_|refine af.flat rfl ?_|refine af.cons rfl ?_|refine af.sl rfl (by assumption) rfl ?_|refine af.du rfl rfl (by first|rfl|omega|(simp;done)|(simp;omega)) ?_));first|done|fail)) (by omega) (by omega)
           · obtain rfl:j=0:=by omega
             have hs0:iD M k 0=false:=rfl
             rw [hs0]at hsn ⊢
             clear hmN hcN
             cases hbl:alone M with
             | false=>
               have hlv:o.1.lev (k*64)=0:=by rw [hoo.lev,if_neg (by rw [hbl];simp)]
               rw [hbl]at hsn
               by_cases hz:aA M k 0=0
               · have hz':aA M k ((0:Nat):Int).toNat=0:=hz
                 have hsn2:iD M k (0+1)=false:=by rw [hsn];simp [hz]
                 repeat' (first
                  |(refine qz ?_;first
                   |refine Dx (n:=64) ?_
                   |refine ld (hc:=c8) ?_
                   |refine fy ?_ (hle:=by rw [aF])
                   |refine cl ?_ (hi:=by exact hal hbl rfl))
                  |refine zz ?_|refine zx (fun _=>?_) (fun _=>?_)|refine br (by first|exact ag.nil|exact ag.one _|exact ag.lK (by repeat' (first|exact True.intro|refine And.intro ?_ ?_|exact Compat.ne rfl|exact Compat.refl _))) ⟨by kernel_rfl,?_⟩|refine br (by first|exact ag.nil|exact ag.one _|exact ag.lK (by repeat' (first|exact True.intro|refine And.intro ?_ ?_|exact Compat.ne rfl|exact Compat.refl _))) ?_|fail)
                 refine ih3 (0+1) _ _ _ (bm [0,1,2,3,4,5,6,7,8,9,10,11,12,13,14,15,16,17,18,19,20,21,22] (reg:=by(repeat' (first|exact af.nil|refine af.flat (by rw [hsn2];rfl) ?_|refine af.flat rfl ?_|refine af.cons rfl ?_|refine af.sl rfl (by assumption) rfl ?_|refine af.du rfl rfl (by first|rfl|omega|(simp;done)|(simp;omega)) ?_));first|done|fail)) (by omega) (by omega)
               · have hz':¬aA M k ((0:Nat):Int).toNat=0:=hz
                 have hsn2:iD M k (0+1)=true:=by rw [hsn];simp [hz]
                 repeat' (first
                  |(refine qz ?_;first
                   |refine Dx (n:=64) ?_
                   |refine ld (hc:=c8) ?_
                   |refine fy ?_ (hle:=by rw [aF])
                   |refine cl ?_ (hi:=by exact hal hbl rfl))
                  |refine zz ?_|refine zx (fun _=>?_) (fun _=>?_)|refine br (by first|exact ag.nil|exact ag.one _|exact ag.lK (by repeat' (first|exact True.intro|refine And.intro ?_ ?_|exact Compat.ne rfl|exact Compat.refl _))) ⟨by kernel_rfl,?_⟩|refine br (by first|exact ag.nil|exact ag.one _|exact ag.lK (by repeat' (first|exact True.intro|refine And.intro ?_ ?_|exact Compat.ne rfl|exact Compat.refl _))) ?_|fail)
                 refine ih3 (0+1) _ _ _ (bm [0,1,2,3,4,5,6,7,8,9,10,11,12,13,14,15,16,17,18,19,20,21,22] (reg:=by(repeat' (first|exact af.nil|refine af.flat (by rw [hsn2];rfl) ?_|refine af.flat rfl ?_|refine af.cons rfl ?_|refine af.sl rfl (by assumption) rfl ?_|refine af.du rfl rfl (by first|rfl|omega|(simp;done)|(simp;omega)) ?_));first|done|fail)) (by omega) (by omega)
             | true=>
               have hlv:o.1.lev (k*64)=aA M k 0:=by rw [hoo.lev,if_pos ⟨hbl,by omega,by omega⟩];rfl
               have hlv':o.1.lev (k*64)=aA M k ((0:Nat):Int).toNat:=hlv
               have hsn2:iD M k (0+1)=false:=by rw [hsn,hbl];simp
               by_cases hz:aA M k 0=0
               · repeat' (first
                  |(refine qz ?_;first
                   |refine Dx (n:=64) ?_
                   |refine ld (hc:=c8) ?_
                   |refine fy ?_ (hle:=by rw [aF])
                   |refine cl ?_ (hi:=by exact hal hbl rfl))
                  |refine zz ?_|refine zx (fun _=>?_) (fun _=>?_)|refine br (by first|exact ag.nil|exact ag.one _|exact ag.lK (by repeat' (first|exact True.intro|refine And.intro ?_ ?_|exact Compat.ne rfl|exact Compat.refl _))) ⟨by kernel_rfl,?_⟩|refine br (by first|exact ag.nil|exact ag.one _|exact ag.lK (by repeat' (first|exact True.intro|refine And.intro ?_ ?_|exact Compat.ne rfl|exact Compat.refl _))) ?_|fail)
                 refine ih3 (0+1) _ _ _ (bm [0,1,2,3,4,5,6,7,8,9,10,11,12,13,14,15,16,17,18,19,20,21,22] (reg:=by(repeat' (first|exact af.nil|refine af.flat (by rw [hsn2];rfl) ?_|refine af.flat rfl ?_|refine af.cons rfl ?_|refine af.sl rfl (by assumption) rfl ?_|refine af.du rfl rfl (by first|rfl|omega|(simp;done)|(simp;omega)) ?_));first|done|fail)) (by omega) (by omega)
               · repeat' (first
                  |(refine qz ?_;first
                   |refine Dx (n:=64) ?_
                   |refine ld (hc:=c8) ?_
                   |refine fy ?_ (hle:=by rw [aF])
                   |refine cl ?_ (hi:=by exact hal hbl rfl))
                  |refine zz ?_|refine zx (fun _=>?_) (fun _=>?_)|refine br (by first|exact ag.nil|exact ag.one _|exact ag.lK (by repeat' (first|exact True.intro|refine And.intro ?_ ?_|exact Compat.ne rfl|exact Compat.refl _))) ⟨by kernel_rfl,?_⟩|refine br (by first|exact ag.nil|exact ag.one _|exact ag.lK (by repeat' (first|exact True.intro|refine And.intro ?_ ?_|exact Compat.ne rfl|exact Compat.refl _))) ?_|fail)
                 refine ih3 (0+1) _ _ _ (bm [0,1,2,3,4,5,6,7,8,9,10,11,12,13,14,15,16,17,18,19,20,21,22] (reg:=by(repeat' (first|exact af.nil|refine af.flat (by rw [hsn2];rfl) ?_|refine af.flat rfl ?_|refine af.cons rfl ?_|refine af.sl rfl (by assumption) rfl ?_|refine af.du rfl rfl (by first|rfl|omega|(simp;done)|(simp;omega)) ?_));first|done|fail)) (by omega) (by omega)
         · obtain rfl:j=64:=by omega
           cases hed:M.edge with
           | true=>
             have d4':=d4 _ hed
             repeat' (first
              |(refine qz ?_;first
               |refine ld (hc:=d4') ?_)
              |refine zz ?_|refine zx (fun _=>?_) (fun _=>?_)|fail)
             refine ih2 (k+1) _ _ _ (bm [0,1,2,3,4,5,6,7,8,9,10,11,12,13,14,15,16,17,18,19,20,21,22]) (by omega) (by omega)
           | false=>
             have d4':=d4 _ hed
             have hss:=hsm k hk6 hed
             obtain⟨b,hb⟩:∃ b,o.2 k=b:=⟨_,rfl⟩
             have c5':=c5 _ hb
             rw [hb]at hss
             rw [←hss]
             cases b
             all_goals
              repeat' (first
               |(refine qz ?_;first
                |refine ld (hc:=c5') ?_
                |refine ld (hc:=d4') ?_)
               |refine zz ?_|refine zx (fun _=>?_) (fun _=>?_)|fail)
              refine ih2 (k+1) _ _ _ (bm [0,1,2,3,4,5,6,7,8,9,10,11,12,13,14,15,16,17,18,19,20,21,22]) (by omega) (by omega)
      · obtain rfl:k=6:=by omega
        have hmn:manyN t.out (i+1)=manyN t.out i+fQ o.2 6:=by rw [manyN,ho']
        repeat' (first|refine zz ?_|refine zx (fun _=>?_) (fun _=>?_)|fail)
        refine ih (i+1) _ _ _ (bm [0,1,2,3,4,5,6,7,8,9,10,11,12,13,14,15,16,17,18,19,20] (reg:=by(repeat' (first|exact af.nil|refine af.flat (by rw [hmn];rfl) ?_|refine af.flat rfl ?_|refine af.cons rfl ?_|refine af.sl rfl (by assumption) rfl ?_|refine af.du rfl rfl (by first|rfl|omega|(simp;done)|(simp;omega)) ?_));first|done|fail)) (by omega) (by omega)
   · obtain rfl:i=n:=by omega
     have hmf:tA t.out=manyN t.out i:=by unfold tA;rw [hlo]
     have hm6:=qk t.out i
     have hFA:BG G P F t.out:=⟨hT.hd,hT.ph,hT.pos,by omega,by have:=hT.all;rw [hln]at this;rw [hlo];exact this,fun j hj q=>by
      obtain⟨h1,_⟩:=hO.at_ j (by omega)
      rw [h1.lev]
      have:=(pK hT (k:=j) (by omega)).lev q
      split <;> omega⟩
     obtain⟨e1,he1,he10⟩:=Dl (evs:=List.replicate (manyN t.out i+1) []) (first:=F) (l:=t.out) (S0:=jJ G P) (by rw [List.length_replicate];omega)
     have hsl:ed (.slice 21 0 (manyN t.out i+1) (.exact (manyN t.out i+1))) 21 0 (List.replicate (manyN t.out i+1) ([]:List Ev)).length:=by rw [List.length_replicate];exact ed.mk (Nat.le_refl _)
     obtain⟨ha1,ha2⟩:=AE hT hO hX
     rw [hmf]at ha1 ha2
     by_cases hm0:manyN t.out i=0
     · obtain⟨r2,hr2⟩:=ha2 hm0
       repeat' (first
        |(refine qz ?_;first
         |refine cl ?_ (hi:=by exact Cc (by omega) rfl hmf rfl rfl)
         |refine OR (n:=manyN t.out i+1) rfl ?_
         |refine fy ?_ (hle:=by rw [bM])
         |refine cl ?_ (hi:=by exact te hFA (vw _) hsl he1 rfl rfl rfl rfl (by decide) nA rfl)
         |refine cl ?_ (hi:=by exact FP (j:=21) hFA (rU (manyN t.out i+1)) ed.nil hr2 rfl rfl rfl rfl (by decide) nL nA rfl))
        |refine zz ?_|refine zx (fun _=>?_) (fun _=>?_)|fail)
       show aH _ _ _ _ _ _ _ _;refine kV [0] ?_
       rfl
     · have hr2:=ha1 (by omega)
       repeat' (first
        |(refine qz ?_;first
         |refine cl ?_ (hi:=by exact Cc (by omega) rfl hmf rfl rfl)
         |refine OR (n:=manyN t.out i+1) rfl ?_
         |refine fy ?_ (hle:=by rw [bM])
         |refine cl ?_ (hi:=by exact te hFA (vw _) hsl he1 rfl rfl rfl rfl (by decide) nA rfl)
         |refine cl ?_ (hi:=by exact te (j:=21) hFA (rU (manyN t.out i+1)) ed.nil hr2 rfl rfl rfl rfl (by decide) nA rfl))
        |refine zz ?_|refine zx (fun _=>?_) (fun _=>?_)|fail)
       show aH _ _ _ _ _ _ _ _;refine kV [0] ?_
       rfl
end Go.Proofs.YtagpkhindehcbaaGreat
