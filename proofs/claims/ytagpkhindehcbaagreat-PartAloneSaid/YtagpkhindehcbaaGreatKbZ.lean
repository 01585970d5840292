/-
  A part of the proof: AtK, Bytes, Awake.
-/
import Derived.Test.YtagpkhindehcbaaGreatKbF
import Derived.Test.YtagpkhindehcbaaGreatKbI
import Derived.Test.YtagpkhindehcbaaGreatKbY
set_option linter.unusedVariables false
set_option linter.unusedSectionVars false
set_option linter.unusedSimpArgs false
namespace Go.Proofs.YtagpkhindehcbaaGreat
open Go.Xm
variable [aC]
abbrev ff (K:Nat):aq:=[cc (K+1) (K+5) (K+9),ay (K+2) (K+3) (K+4) cM,bg cM,bj cM,bh cM,ay (K+6) (K+7) (K+8) cZ,bg cZ,bj cZ,bh cZ,ay (K+10) (K+11) (K+12) cP,bg cP,bj cP,bh cP]
abbrev tt (K:Nat) (r:List Nat):List Nat:=K::(K+1)::(K+2)::(K+3)::(K+4)::(K+5)::(K+6)::(K+7)::(K+8)::(K+9)::(K+10)::(K+11)::(K+12)::r
theorem D8 (K:Nat) (r:List Nat):∀ j,j<13→nth (tt K r) j=K+j:=fun j hj=>by
 match j,hj with
 | 0,_=>rfl
 | 1,_=>rfl
 | 2,_=>rfl
 | 3,_=>rfl
 | 4,_=>rfl
 | 5,_=>rfl
 | 6,_=>rfl
 | 7,_=>rfl
 | 8,_=>rfl
 | 9,_=>rfl
 | 10,_=>rfl
 | 11,_=>rfl
 | 12,_=>rfl
theorem GL {HS:aq} {K:Nat}(hS:(HS.drop K).take 13=ff K) {τ : Nat→Nat}(h:∀ j,j<13 → τ j=K+j) {ls:List Nat} {l:aq}(hl:ae τ HS ls l):ae τ HS (tt K ls) (iL++l):=by
 have g:∀ j,j<13→HS[K+j]? = (ff K)[j]?:=fun j hj=>by rw [←hS,List.getElem?_take_of_lt hj,List.getElem?_drop]
 have g0:HS[K]? = some (cc (K+1) (K+5) (K+9)):=g 0 (by decide)
 have h1:=h 1 (by decide)
 have h2:=h 2 (by decide)
 have h3:=h 3 (by decide)
 have h4:=h 4 (by decide)
 have h5:=h 5 (by decide)
 have h6:=h 6 (by decide)
 have h7:=h 7 (by decide)
 have h8:=h 8 (by decide)
 have h9:=h 9 (by decide)
 have h10:=h 10 (by decide)
 have h11:=h 11 (by decide)
 have h12:=h 12 (by decide)
 refine .cons ?_ (.cons ?_ (.flat (g 2 (by decide)) (.flat (g 3 (by decide)) (.flat (g 4 (by decide)) (.cons ?_ (.flat (g 6 (by decide)) (.flat (g 7 (by decide)) (.flat (g 8 (by decide)) (.cons ?_ (.flat (g 10 (by decide)) (.flat (g 11 (by decide)) (.flat (g 12 (by decide)) hl))))))))))))
 · rw [g0]
   simp only [ak.aw,List.map_cons,List.map_nil,XC.aw,h1,h5,h9]
 · rw [g 1 (by decide)]
   simp only [ak.aw,List.map_cons,List.map_nil,XC.aw,h2,h3,h4];rfl
 · rw [g 5 (by decide)]
   simp only [ak.aw,List.map_cons,List.map_nil,XC.aw,h6,h7,h8];rfl
 · rw [g 9 (by decide)]
   simp only [ak.aw,List.map_cons,List.map_nil,XC.aw,h10,h11,h12];rfl
theorem Ag {K:Nat} {τ : Nat→Nat}(h:∀ j,j<13 → τ j=K+j) {l l':aq}(hl:dR τ l l'):dR τ (iL++l) (ff K++l'):=by
 have h1:=h 1 (by decide)
 have h2:=h 2 (by decide)
 have h3:=h 3 (by decide)
 have h4:=h 4 (by decide)
 have h5:=h 5 (by decide)
 have h6:=h 6 (by decide)
 have h7:=h 7 (by decide)
 have h8:=h 8 (by decide)
 have h9:=h 9 (by decide)
 have h10:=h 10 (by decide)
 have h11:=h 11 (by decide)
 have h12:=h 12 (by decide)
 refine .cons ?_ (.cons ?_ (.flat (.flat (.flat (.cons ?_ (.flat (.flat (.flat (.cons ?_ (.flat (.flat (.flat hl))))))))))))
 · simp only [ak.aw,List.map_cons,List.map_nil,XC.aw,h1,h5,h9]
 · simp only [ak.aw,List.map_cons,List.map_nil,XC.aw,h2,h3,h4]
 · simp only [ak.aw,List.map_cons,List.map_nil,XC.aw,h6,h7,h8]
 · simp only [ak.aw,List.map_cons,List.map_nil,XC.aw,h10,h11,h12]
theorem DI {HS:aq} {K i:Nat}(hS:(HS.drop K).take 13=ff K) {ob:ak}(hi:HS[i]? = some ob) {os:aq}:bM HS (tt K [i]) (ff K++ob::os)=HS++os:=by
 have g:∀ j,j<13→HS[K+j]? = (ff K)[j]?:=fun j hj=>by rw [←hS,List.getElem?_take_of_lt hj,List.getElem?_drop]
 have g0:HS[K]? = some (cc (K+1) (K+5) (K+9)):=g 0 (by decide)
 simp only [bM,ff,List.cons_append,List.nil_append]
 rw [aK g0,aK (g 1 (by decide)),aK (g 2 (by decide)),aK (g 3 (by decide)),aK (g 4 (by decide)),aK (g 5 (by decide)),aK (g 6 (by decide)),aK (g 7 (by decide)),aK (g 8 (by decide)),aK (g 9 (by decide)),aK (g 10 (by decide)),aK (g 11 (by decide)),aK (g 12 (by decide)),aK hi]
theorem Ay:∀(h1 l l':aq),eI h1 h1=true→eI l l'=true→eI (h1++l) (h1++l')=true
 | [],l,l',_,h=>h
 | o::h1,l,l',h,h2=>by
   simp only [eI,Bool.and_eq_true,List.cons_append]at h ⊢
   exact⟨h.1,Ay h1 l l' h.2 h2⟩
theorem pg {f:FuncId} {args0 args:List XV} {v v':XV} {news news':aq} {ob:ak} [dT ob] (n:Nat) (hn:news.length=n) (hc:bq Tryz.prog f args0 (iL++[ob]) v (iL++ob::news)) {HS:aq} {K i:Nat}(hS:(HS.drop K).take 13=ff K) (hi:HS[i]? = some ob) (hd:(tt K [i]).Nodup) (ha:fz 14 args0) (e1:dQ (nth (tt K [i])) args0 args) (hv:v.cB (14+n)) (e2:v.aw (nth (tt K [i]++List.range' HS.length n))=v')
 (hnk:dL (14+n) news) (hr:dR (nth (tt K [i]++List.range' HS.length n)) news news') (hro:eI [] news=true) {HS':aq}(hh:HS++news'=HS') (hbd:Nat.blt HS'.length Mem.bound=true):aG.Sound Tryz.prog ⟨f,args,HS,v',HS',tt K [i]⟩:=by
 have e0:∀ j,j<13→nth (tt K [i]) j=K+j:=D8 K [i]
 have e0':∀ j,j<13→nth (tt K [i]++List.range' HS.length n) j=K+j:=D8 K (i::List.range' HS.length n)
 have hln:(iL++ob::news).length=14+n:=by rw [List.length_append];show 13+(news.length+1)=_;omega
 refine cj (os:=ff K++ob::news') (tt K [i]) (tt K [i]) n hc hd (GL hS e0 (.flat hi .nil)) (rO (l:=[ob]) (Nat.le_succ 13) (.flat .nil)) (by rw [hln];exact rO (l:=ob::news) (by omega) (.flat hnk)) (by rw [hln];rfl) ha e1 (by rw [hln];exact hv) e2 (Ag e0' (.flat hr)) ?_ rfl (by rw [DI hS hi];exact hh) hbd (.inl rfl)
 refine Ay _ _ _ rfl ?_
 simp only [eI,Bool.and_eq_true]
 exact⟨by cases ob.live <;> simp,hro⟩
theorem yV {HS:aq} {N:Nat}(hN:HS.length=N) {HS':aq}(hh:HS++ff N=HS') (hbd:Nat.blt HS'.length Mem.bound=true) :
 aG.Sound Tryz.prog ⟨10,[],HS,.one (.ptr N 0),HS',[]⟩:=by
 subst hN
 have e:List.range' HS.length 13=tt HS.length []:=rfl
 have h:=Ag (K:=HS.length) (τ:=nth (tt HS.length [])) (D8 _ []) (l:=[]) (l':=[]) .nil
 refine cj (os:=ff HS.length) [] [] 13 GY (by simp) .nil .nil (rO (l:=[]) (Nat.le_refl _) .nil) rfl .nil .nil (by show 0<13;omega) rfl (by rw [List.nil_append,e];exact h) rfl rfl hh hbd (.inl rfl)
noncomputable def sw (h:Hd) (p:Ph) (l:List Mb) (first:Int):Int ⊕ (List Int × List Int):=
 match gw l first (sE h p) l.length with
 | .inl e => .inl e
 | .inr x=>if 30000<(gJ (wr (x.B++[true])) (wr (x.B++[true])).length).1.length∨30000<(gJ (wr (x.w++[true])) (wr (x.w++[true])).length).1.length then .inl 6 else .inr ((gJ (wr (x.B++[true])) (wr (x.B++[true])).length).1,(gJ (wr (x.w++[true])) (wr (x.w++[true])).length).1)
theorem vd {h:Hd} {p:Ph} {l:List Mb} {first:Int}(hT:iJ h p l first) {cap:rE} {ob:ak}(ho:v_ ob mC l) {e:Int}(hp:sw h p l first = .inl e) {n:Nat}(hln:l.length=n) {HS:aq} {K i:Nat}(hS:(HS.drop K).take 13=ff K) (hi:HS[i]? = some ob) (hd:(tt K [i]).Nodup) (hbd:Nat.blt HS.length Mem.bound=true) :
 aG.Sound Tryz.prog ⟨11,[.one (.ptr K 0),.agg (gC h),.agg (iC p),.one (.int .i64 first),.one (.slice i 0 n cap)],HS,.tup [.one .nils,.one .nils,.one (.int .i64 e)],HS,tt K [i]⟩:=by
 subst hln
 have hfo:=ho.flat
 have hc:bq Tryz.prog 11 [.one (.ptr 0 0),.agg (gC h),.agg (iC p),.one (.int .i64 first),.one (.slice 13 0 l.length cap)] (iL++[ob]) (.tup [.one .nils,.one .nils,.one (.int .i64 e)]) (iL++ob::[]):=by
  unfold sw at hp
  split at hp
  · rename_i e' he
    cases hp
    exact Di hT ho he
  · rename_i x hx
    split at hp
    · rename_i hl
      cases hp
      exact Dg hT ho hx rfl rfl hl
    · cases hp
 exact pg 0 rfl hc hS hi hd (.cons (by show 0<14;omega) (.flat (.flat (.flat (.cons (by show 13<14;omega) .nil))))) (.cons rfl (.flat (.flat (.flat (.cons rfl .nil))))) (XV.ie rfl _) rfl .nil .nil rfl (List.append_nil HS) hbd
theorem rp {h:Hd} {p:Ph} {l:List Mb} {first:Int}(hT:iJ h p l first) {cap:rE} {ob:ak}(ho:v_ ob mC l) {a b:List Int}(hp:sw h p l first = .inr (a,b)) {n:Nat}(hln:l.length=n) {HS:aq} {K i:Nat}(hS:(HS.drop K).take 13=ff K) (hi:HS[i]? = some ob) (hd:(tt K [i]).Nodup) {N:Nat}(hN:HS.length=N) {HS':aq}(hh:HS++[c8 5 (il .u8 a),c8 5 (il .u8 b)]=HS') (hbd:Nat.blt HS'.length Mem.bound=true) :
 aG.Sound Tryz.prog ⟨11,[.one (.ptr K 0),.agg (gC h),.agg (iC p),.one (.int .i64 first),.one (.slice i 0 n cap)],HS,.tup [.one (mc N a.length 1),.one (mc (N+1) b.length 1),.one (.int .i64 0)],HS',tt K [i]⟩:=by
 subst hln hN
 have hfo:=ho.flat
 have hc:bq Tryz.prog 11 [.one (.ptr 0 0),.agg (gC h),.agg (iC p),.one (.int .i64 first),.one (.slice 13 0 l.length cap)] (iL++[ob]) (.tup [.one (mc 14 a.length 1),.one (mc 15 b.length 1),.one (.int .i64 0)]) (iL++ob::[c8 5 (il .u8 a),c8 5 (il .u8 b)]):=by
  unfold sw at hp
  split at hp
  · cases hp
  · rename_i x hx
    split at hp
    · cases hp
    · rename_i hl
      cases hp
      exact Gg hT ho hx rfl rfl (by omega) (by omega)
 refine pg 2 rfl hc hS hi hd (.cons (by show 0<14;omega) (.flat (.flat (.flat (.cons (by show 13<14;omega) .nil))))) (.cons rfl (.flat (.flat (.flat (.cons rfl .nil))))) ?_ ?_ (.flat (.flat .nil)) (.flat (.flat .nil)) ?_ hh hbd
 · intro x hx
   simp only [List.mem_cons,List.not_mem_nil,or_false]at hx
   rcases hx with rfl|rfl|rfl
   · exact ca (by omega)
   · exact ca (by omega)
   · trivial
 · simp only [XV.aw,List.map_cons,List.map_nil,X1.aw,au];rfl
 · cases il .u8 a <;> cases il .u8 b <;> rfl
theorem E9 {h:Hd} {p:Ph} {a q:List Int} {B:List Bool} {first:Int} {n:Nat}(hT:o8 h p a q B first n) {x:TA}(hx:lA B first n ⟨sR h p,(0,false),[]⟩=x) {e:Int}(he:yC B x.r=e) (he0:e≠0) {z:Int}(hz:z=(n:Nat)) {k:Nat}(hk:a.length=k) {HS:aq} {K i:Nat}(hS:(HS.drop K).take 13=ff K) (hi:HS[i]? = some (c8 5 (il .u8 a))) (hd:(tt K [i]).Nodup) (hbd:Nat.blt HS.length Mem.bound=true) :
 aG.Sound Tryz.prog ⟨12,[.one (.ptr K 0),.agg (gC h),.agg (iC p),.one (.int .i64 first),.one (.int .i64 z),.one (mc i k 1)],HS,.tup [.one .nils,.one (.int .i64 e)],HS,tt K [i]⟩:=by
 subst hz hk
 exact pg 0 rfl (Cf hT hx he he0) hS hi hd (.cons (by show 0<14;omega) (.flat (.flat (.flat (.flat (.cons (iv (by omega)) .nil)))))) (.cons rfl (.flat (.flat (.flat (.flat (.cons (eA ..) .nil)))))) (XV.ie rfl _) rfl .nil .nil rfl (List.append_nil HS) hbd
theorem E_ {h:Hd} {p:Ph} {a q:List Int} {B:List Bool} {first:Int} {n:Nat}(hT:o8 h p a q B first n) {x:TA}(hx:lA B first n ⟨sR h p,(0,false),[]⟩=x) (he:yC B x.r=0) {z:Int}(hz:z=(n:Nat)) {k:Nat}(hk:a.length=k) {HS:aq} {K i:Nat}(hS:(HS.drop K).take 13=ff K) (hi:HS[i]? = some (c8 5 (il .u8 a))) (hd:(tt K [i]).Nodup) {N:Nat}(hN:HS.length=N) {HS':aq}(hh:HS++[c8 56 (fl tJ x.out)]=HS') (hbd:Nat.blt HS'.length Mem.bound=true) :
 aG.Sound Tryz.prog ⟨12,[.one (.ptr K 0),.agg (gC h),.agg (iC p),.one (.int .i64 first),.one (.int .i64 z),.one (mc i k 1)],HS,.tup [.one (mc N x.out.length 397),.one (.int .i64 0)],HS',tt K [i]⟩:=by
 subst hz hk hN
 refine pg 1 rfl (E8 hT hx he) hS hi hd (.cons (by show 0<14;omega) (.flat (.flat (.flat (.flat (.cons (iv (by omega)) .nil)))))) (.cons rfl (.flat (.flat (.flat (.flat (.cons (eA ..) .nil)))))) (GZ (ca (by omega)) trivial) ?_ (.flat .nil) (.flat .nil) ?_ hh hbd
 · simp only [XV.aw,List.map_cons,List.map_nil,X1.aw,au];rfl
 · cases fl tJ x.out <;> rfl
theorem B1 (h:Hd) (p:Ph) (f:Int) (c:XC) (τ : Nat→Nat):(fj h p f c).map (·.aw τ)=fj h p f (c.aw τ):=by
 unfold fj
 rw [List.map_append]
 have e1:(gC h).map (·.aw τ)=gC h:=eG (h_ h) τ
 rw [e1]
 rfl
theorem sQ (h:Hd) (p:Ph) (f:Int) {c:XC} {n:Nat}(hc:c.ok n):∀ x∈fj h p f c,x.ok n:=fun x hx=>by
 unfold fj at hx
 rcases List.mem_append.1 hx with hx|hx
 · exact XC.bO (List.all_eq_true.1 (h_ h) x hx) n
 · simp only [iC,List.cons_append,List.nil_append,List.mem_cons,List.not_mem_nil,or_false]at hx
   rcases hx with rfl|rfl|rfl|rfl|rfl|rfl
   · trivial
   · trivial
   · trivial
   · trivial
   · trivial
   · exact hc
theorem pr {h:Hd} {p:Ph}(hh1:oh h) (hp:my p) {f:Int}(hf:0≤f∧f≤255) {l:List Sm}(hl:∀ j,j<l.length→i7 (l.getD j default)) {ob:ak}(ho:v_ ob oy l) {c:XC} {i:Nat}(hc:gl c i 0 l.length) (hn:l.length≤9223372036854775807) {G:Hd}(hG:four h=G) {P:Ph}(hP:oc p=P) {F:Int}(hF:dZ h f=F) {L:List Mb}(hL:ib h p f l=L) {cap:rE}(hcap:Bh l.length=cap) {opn:Bool}(hopn:yY l.length=opn) {k:Nat}(hk:L.length=k)
 {HS:aq}(hi:HS[i]? = some ob) {N:Nat}(hN:HS.length=N) {HS':aq}(hh:HS++[.cells (fl mC L) 53 opn false]=HS') (hbd:Nat.blt HS'.length Mem.bound=true) :
 aG.Sound Tryz.prog ⟨9,[.agg (fj h p f c)],HS,.tup [.agg (gC G),.agg (iC P),.one (.int .i64 F),.one (.slice N 0 k cap)],HS',[i]⟩:=by
 subst hk hopn hcap hL hF hP hG hN
 have hfo:=ho.flat
 obtain⟨c0,hc0,hcr⟩:=hc.Ko 0 (nth [i]) rfl
 refine cj (os:=[ob,.cells (fl mC (ib h p f l)) 53 (yY l.length) false]) [i] [i] 1 (D4 hh1 hp hf l hl ob ho c0 hc0 hn) (by simp) (.flat hi .nil) (.flat .nil) (.flat (.flat .nil)) rfl (.cons ?_ .nil) (.cons ?_ .nil) (pq _ _ _ _ 1 _ (show 1<2 by omega)) ?_ (.flat (.flat .nil)) ?_ rfl ?_ hbd (.inl rfl)
 · exact sQ h p f (hc0.ok (by show 0<1;omega))
 · show XV.agg ((fj h p f c0).map (·.aw (nth [i])))=_
   rw [B1,hcr]
 · rw [nM];rfl
 · simp only [eI,Bool.and_eq_true]
   exact⟨by cases ob.live <;> simp,by simp [ak.live,ak.own]⟩
 · simp only [bM];rw [aK hi];exact hh
end Go.Proofs.YtagpkhindehcbaaGreat
namespace Go.Xm
variable [aC]
variable {P:Program} {ops:Array Oper} {nt nI:Nat} {al:bm} {hs:aq} {o:Oper} {l:List Oper} {L:List aG} {K:List Ab→bm→aq→Prop} {d:Nat}
theorem aE.bytes {O:cY}(hw:aj ops (rg al) o=some true) {s t:TypeId} {x:Operand}(ho:o.op = .convert s t x) {e:TypeId}(hs1:P.underlying s=some (.slice e)) (he:P.underlying e=some (.int .u8)) (hd:P.underlying t=some .string) {i off len:Nat} {cap:rE}(hx:ag (rg al) x = .one (.slice i off len cap)) {vs:List XC} {et:TypeId} {opn ro:Bool}(hi:hs[i]? = some (.cells vs et opn ro)) (hfit:off+len≤vs.length) {ns:List Int}(hb:nr ((vs.drop off).take len)=some ns) :
 aE O P ops al hs o (.one (.str (nw ns))) hs ⟨false,some i,[]⟩:=by
 intro m hm
 refine⟨m,?_,hm,fun _ _=>rfl⟩
 unfold jr
 rw [hw]
 obtain⟨f,hf1,hf2⟩:∃ f,fm P (ag (rg al)) o.op=some (i,f)∧∀ vs' e' o' r',f (.cells vs' e' o' r')=if off+len≤vs'.length then(nr ((vs'.drop off).take len)).map fun ns=>XV.one (.str (nw ns))else .none:=by
  rw [ho]
  simp only [fm,hs1,hd,hx,he]
  exact⟨_,rfl,fun _ _ _ _=>rfl⟩
 refine ql (by rw [ho];simp only [bk,j0,hs1,hd,hx]) (by rw [ho];simp only [og,hx]) hf1 ?_
 rw [hm.at hi,hf2,if_pos hfit,hb]
 rfl
theorem uH:∀ a:List Int,nr (il .u8 a)=some a
 | []=>rfl
 | z::a=>by
   show(nr (il .u8 a)).map (z :: ·)=_
   rw [uH a];rfl
theorem K7 {s t e:TypeId} {x:Operand} {i:Nat} {a:List Int}(hne:a.length≠0) (hk:SK P ops nt L l ((d,.one (.str (nw a)))::al) hs fun bs=>K (⟨false,some i,[]⟩::bs)) (ho:o.op = .convert s t x:=by exact rfl) (hu:aY P s (.slice e):=by infer_instance) (he:aY P e (.int .u8):=by infer_instance) (ht:aY P t .string:=by infer_instance) (hw:aj ops (rg al) o=some true:=by exact rfl) (hd:o.dst=some d:=by exact rfl) (hlt:Nat.blt d nt=true:=by exact rfl)
 (hx:ag (rg al) x = .one (mc i a.length 1):=by exact rfl) {et:TypeId}(hi:hs[i]? = some (c8 et (il .u8 a)):=by exact rfl):SK P ops nt L (o::l) al hs K:=by
 have hil:(il .u8 a).length=a.length:=ed _ _
 have h1:c8 et (il .u8 a) = .cells (il .u8 a) et true false:=iu (fun h=>hne (by rw [←hil,h];rfl))
 have h2:mc i a.length 1 = .slice i 0 a.length (.toEnd 1):=if_neg hne
 refine SK.lift hd hlt (fun _=>aE.bytes hw ho hu.out he.out ht.out (by rw [hx,h2]) (hi.trans (congrArg some h1)) (by omega) (ns:=a) ?_) hk
 rw [List.drop_zero,←hil,List.take_length]
 exact uH a
theorem Md {t t':TypeId} {a b:Operand} {x:List UInt8}(hk:SK P ops nt L l ((d,.one (.bool false))::al) hs fun bs=>K (quiet::bs)) (ho:o.op = .binOp .neq t a b t':=by exact rfl) (hu:aY P t .string:=by infer_instance) (hw:aj ops (rg al) o=some true:=by exact rfl) (hd:o.dst=some d:=by exact rfl) (hlt:Nat.blt d nt=true:=by exact rfl)
 (ha:ag (rg al) a = .one (.str x):=by exact rfl) (hb:ag (rg al) b = .one (.str x):=by exact rfl):SK P ops nt L (o::l) al hs K:=
 SK.lift hd hlt (fun _=>aE.pure hw (by rw [ho];simp [bk,ha,hb,qm,HU])) hk
end Go.Xm
namespace Go.Proofs.YtagpkhindehcbaaGreat
open Go.Xm
def pD:tA:=⟨8,[],.one (.bool true)⟩
theorem EA:((ny sq Tryz.prog 100000 60).call pD.f pD.args Mem.empty).map (·.1)=some pD.v:=by kernel_rfl
variable [aC]
theorem A9:bq Tryz.prog 8 [] [] (.one (.bool true)) []:=jJ (jN (r:=pD) (KK (gT _) mixed EA (by kernel_rfl)))
theorem rL {HS:aq}(hb:Nat.blt HS.length Mem.bound=true):aG.Sound Tryz.prog ⟨8,[],HS,.one (.bool true),HS,[]⟩:=
 az A9 rfl rfl hb
end Go.Proofs.YtagpkhindehcbaaGreat
