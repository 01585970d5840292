/-
  A part of the proof: TakeAG, InvA, InvB, InvC, InvD, InvE, InvF, TakeG, EqA.
-/
import Derived.Test.YtagpkhindehcbaaGreatKeF
import Derived.Test.YtagpkhindehcbaaGreatKeG
import Derived.Test.YtagpkhindehcbaaGreatKeN
import Derived.Test.YtagpkhindehcbaaGreatKeP
import Derived.Test.YtagpkhindehcbaaGreatKeW
import Derived.Test.YtagpkhindehcbaaGreatKeY
set_option maxRecDepth 10000
set_option maxHeartbeats 8000000
set_option linter.unusedVariables false
set_option linter.unusedSectionVars false
set_option linter.unusedSimpArgs false
namespace Go.Proofs.YtagpkhindehcbaaGreat
open Go.Xm
variable [ax]
theorem JY(ob:ak)(e:TypeId)(cs:List XC):ee [ob] [ob,cR e cs]=true:=pU [ob] [] [cR e cs] (lg _) (by cases cs<;>rfl)
theorem oV{l:List Int}{ob:ak}(ho:RO ob .u8 l){c:XC}{i:Nat}(hc:dj c i 0 l.length)(hl:dc l)(hn:l.length<=100000){res:Option (List Int)}(hres:i_ l l.length [] 0 0=res){e:Int}(he:(if res.isSome then 0 else 15)=e){HS:aj}(hi:HS[i]? = some ob){N:Nat}(hN:HS.length=N){HS':aj}(hh:HS++[cR 5 (il .u8 (res.getD []))]=HS')(hb:Nat.blt HS'.length Mem.bound=true) :
 aG.Sound Tryz.prog ⟨60,[.one c],HS,.tup [.one (gJ N (res.getD []).length 1),.one (.int .i64 e)],HS',[i]⟩:=by
 subst hN he
 have hfo:=ho.flat
 obtain⟨c0,h0,hcr⟩:=hc.qn 0 (nth [i]) rfl
 exact bT (os:=[ob,cR 5 (il .u8 (res.getD []))]) [i] [i] 1 (zi ho h0 hl hn res hres) (by simp) (.flat hi .nil) (.flat .nil) (.flat (.flat .nil)) rfl (.cons (h0.ok Nat.one_pos) .nil) (.cons (congrArg XV.one hcr) .nil) (Gh (ba (Nat.le_of_ble_eq_true rfl)) trivial) (by simp only[XV.ay,List.map_cons,List.map_nil,X1.ay,aC];rfl) (.flat (.flat .nil)) (JY ..) rfl (by simp only[bK];rw[aF hi];exact hh) hb (.inl rfl)
def kj(a:List Int):Int ⊕ (List Int×List Bool):=
 match i_ a a.length [] 0 0 with
 | none => .inl 15
 | some q=>if(cE q).2=true then .inr (q,(List.range (cE q).1).map (jD q))else .inl 4
theorem vE{a:List Int}(ha:dc a)(hn:a.length<=30000){q:List Int}{B:List Bool}(h:kj a = .inr (q,B)):i_ a a.length [] 0 0=some q/\cE q=(B.length,true)/\B.length<=8*q.length/\c_ q B:=by
 unfold kj at h
 split at h
 ·cases h
 ·rename_i q' hq
  split at h
  ·rename_i hs
   have e1:=(Prod.mk.inj (Sum.inr.inj h)).1
   have e2:=(Prod.mk.inj (Sum.inr.inj h)).2
   subst e1
   have hB:B.length=(cE q').1:=by rw[<-e2];simp
   have hl:=oU _ _ _ _ q' hq
   simp only[List.length_nil,Nat.zero_add]at hl
   have hle:(cE q').1<=8*q'.length:=by
    unfold cE
    split
    ·exact Nat.zero_le _
    ·dsimp only;omega
   refine⟨hq,Prod.ext hB.symm hs,by omega,⟨by omega,mO ha _ _ _ _ q' (fun p=>by simp) hq,fun j hj=>?_,by omega⟩⟩
   rw[<-e2,List.getD_eq_getElem?_getD,List.getElem?_map,List.getElem?_range (by omega)]
   rfl
  ·cases h
theorem k9{a:List Int}{e:Int}(h:kj a = .inl e):e≠0/\((i_ a a.length [] 0 0=none/\e=15)\/∃q z,i_ a a.length [] 0 0=some q/\cE q=(z,false)/\e=4):=by
 unfold kj at h
 split at h
 ·rename_i hq
  cases h
  exact⟨by decide,.inl ⟨hq,rfl⟩⟩
 ·rename_i q hq
  split at h
  ·cases h
  ·rename_i hs
   cases h
   exact⟨by decide,.inr ⟨q,_,hq,Prod.ext rfl (by cases hh:(cE q).2 with|true=>exact absurd hh hs|false=>rfl),rfl⟩⟩
theorem Gi{l:List Int}{ob:ak}(ho:RO ob .u8 l){c:XC}(hc:dj c 0 0 l.length)(hl:dc l)(hn:l.length<=30000){e:Int}(h:kj l = .inl e) :
 bh Tryz.prog 32 [.one c] [ob] (.tup [.one .nilp,.one (.int .i64 e)]) [ob]:=by
 have hfo:=ho.flat
 obtain⟨h0,h|⟨q,z,h2,h3,h⟩⟩:=k9 h
 ·obtain⟨h2,rfl⟩:=h
  refine cO Tryz.func32 ?_
  repeat' (first
   |(refine qz ?_;first
    |refine cl ?_ (hi:=by exact oV ho hc hl (by omega) h2 (e:=15) rfl rfl nL nA rfl))
   |refine zz ?_|refine zx (fun _=>?_) (fun _=>?_)|fail)
  show aB _ _ _ _ _ _ _ _;refine kV [0] ?_
  rfl
 ·subst h
  have hq:=mO hl _ _ _ _ q (fun p=>by simp) h2
  have hq2:=oU _ _ _ _ q h2
  refine cO Tryz.func32 ?_
  repeat' (first
   |(refine qz ?_;first
    |refine cl ?_ (hi:=by exact oV ho hc hl (by omega) h2 (e:=0) rfl rfl nL nA rfl)
    |refine cl ?_ (hi:=by exact BQ (L:=q) hq (by simp at hq2;omega) h3 rfl rfl rfl))
   |refine zz ?_|refine zx (fun _=>?_) (fun _=>?_)|fail)
  show aB _ _ _ _ _ _ _ _;refine kV [0] ?_
  rfl
theorem Ju{l:List Int}{ob:ak}(ho:RO ob .u8 l){c:XC}(hc:dj c 0 0 l.length)(hl:dc l)(hn:l.length<=30000){q:List Int}(h2:i_ l l.length [] 0 0=some q){B:List Bool}(h3:cE q=(B.length,true))(hB:B.length<=8*q.length) :
 bh Tryz.prog 32 [.one c] [ob] (.tup [.one (.ptr 1 0),.one (.int .i64 0)]) [ob,bp 2 q B 0 false,aK q]:=by
 have hfo:=ho.flat
 refine cO Tryz.func32 ?_
 have hq:=mO hl _ _ _ _ q (fun p=>by simp) h2
 have hq2:=oU _ _ _ _ q h2
 simp only[List.length_nil,Nat.zero_add]at hq2
 repeat' (first
  |(refine qz ?_;first
   |refine cl ?_ (hi:=by exact oV ho hc hl (by omega) h2 (e:=0) rfl rfl nL nA rfl)
   |refine cl ?_ (hi:=by exact BQ (L:=q) hq (by omega) h3 rfl rfl rfl)
   |refine cl ?_ (hi:=by exact MP (L:=q) (B:=B) hB (by omega) rfl rfl rfl nL nA rfl))
  |refine zz ?_|refine zx (fun _=>?_) (fun _=>?_)|fail)
 show aB _ _ _ _ _ _ _ _;refine kV [0,2,3] ?_
 rfl
theorem x_{l:List Int}{ob:ak}(ho:RO ob .u8 l){c:XC}{i:Nat}(hc:dj c i 0 l.length)(hl:dc l)(hn:l.length<=30000){e:Int}(h:kj l = .inl e){HS:aj}(hi:HS[i]? = some ob)(hb:Nat.blt HS.length Mem.bound=true) :
 aG.Sound Tryz.prog ⟨32,[.one c],HS,.tup [.one .nilp,.one (.int .i64 e)],HS,[i]⟩:=by
 have hfo:=ho.flat
 obtain⟨c0,h0,hcr⟩:=hc.qn 0 (nth [i]) rfl
 exact bT (os:=[ob]) [i] [i] 0 (Gi ho h0 hl hn h) (by simp) (.flat hi .nil) (.flat .nil) (.flat .nil) rfl (.cons (h0.ok Nat.one_pos) .nil) (.cons (congrArg XV.one hcr) .nil) (XV.eZ rfl _) rfl (.flat .nil) (lg _) rfl (by simp only[bK];rw[aF hi,List.append_nil]) hb (.inl rfl)
theorem J0(ob o1 o2:ak)(h:ee [] [o1,o2]=true):ee [ob] [ob,o1,o2]=true:=pU [ob] [] [o1,o2] (lg _) h
theorem vF{l:List Int}{ob:ak}(ho:RO ob .u8 l){c:XC}{i:Nat}(hc:dj c i 0 l.length)(hl:dc l)(hn:l.length<=30000){q:List Int}(h2:i_ l l.length [] 0 0=some q){B:List Bool}(h3:cE q=(B.length,true))(hB:B.length<=8*q.length){HS:aj}(hi:HS[i]? = some ob){N:Nat}(hN:HS.length=N){HS':aj}(hh:HS++[bp (N+1) q B 0 false,aK q]=HS')(hb:Nat.blt HS'.length Mem.bound=true) :
 aG.Sound Tryz.prog ⟨32,[.one c],HS,.tup [.one (.ptr N 0),.one (.int .i64 0)],HS',[i]⟩:=by
 subst hN
 have hfo:=ho.flat
 obtain⟨c0,h0,hcr⟩:=hc.qn 0 (nth [i]) rfl
 refine bT (os:=[ob,bp (HS.length+1) q B 0 false,aK q]) [i] [i] 2 (Ju ho h0 hl hn h2 h3 hB) (by simp) (.flat hi .nil) (.flat .nil) (.flat (.cons ?_ (.flat .nil))) rfl (.cons (h0.ok Nat.one_pos) .nil) (.cons (congrArg XV.one hcr) .nil) ?_ rfl (.flat (.cons rfl (.flat .nil))) (J0 _ _ _ rfl) rfl (by simp only[bK];rw[aF hi];exact hh) hb (.inl rfl)
 ·simp[ak.ca,XC.ok]
 ·exact Gh (by show 1<3;omega) trivial
theorem GZ{ob:ak}{c:XC}{h:Hd}{p:Ph}{a q:List Int}{B:List Bool}{first:Int}{n:Nat}(hT:lW h p a q B first n)(ho:RO ob .u8 a)(hc:dj c 13 0 a.length){x:TA}(hx:fF B first n ⟨dS h p,(0,false),[]⟩=x)(he:kC B x.r=0) :
 bh Tryz.prog 12 [.one (.ptr 0 0),.agg (f_ h),.agg (hU p),.one (.int .i64 first),.one (.int .i64 (n:Nat)),.one c] [bO 1 5 9,aw 2 3 4 cM,aR cM,aT cM,aS cM,aw 6 7 8 cZ,aR cZ,aT cZ,aS cZ,aw 10 11 12 cP,aR cP,aT cP,aS cP,ob] (.tup [.one (gJ 14 x.out.length 397),.one (.int .i64 0)]) [bO 1 5 9,aw 2 3 4 cM,aR cM,aT cM,aS cM,aw 6 7 8 cZ,aR cZ,aT cZ,aS cZ,aw 10 11 12 cP,aR cP,aT cP,aS cP,ob,cR 56 (fl gV x.out)]:=by
 have hfo:=ho.flat
 have h1:=hT.hd.dims.c0
 have h2:=hT.hd.dims.c1
 have h3:=hT.hd.dims.r0
 have h4:=hT.hd.dims.r1
 have hf:=hT.pos
 have hm:=hT.many
 have ha:=hT.all
 have hcr:1<=h.cols*h.rows/\h.cols*h.rows<=64:=jf hT.hd.dims
 refine cO Tryz.func12 ?_
 repeat' (first
  |(refine qz ?_;first
   |refine fC ?_ (hle:=by rw[bt])
   |refine cl ?_ (hi:=by exact kW hT.hd rfl)
   |refine cl ?_ (hi:=by exact k_ hT.ph rfl)
   |refine cl ?_ (hi:=by exact vF ho hc hT.byt hT.len hT.esc hT.size hT.fits rfl nL nA rfl)
   |refine cl ?_ (hi:=by exact mJ hT.hd rfl nL nA rfl))
  |refine zz ?_|refine zx (fun _=>?_) (fun _=>?_)|fail)
 refine WX.c7 rfl ?_
 refine WX.dA (σ:=TA) (fun s=>[(3,.one (.int .i64 first)),(4,.one (.int .i64 (n:Nat))),(14,.one (.ptr 14 0)),(16,.one (.ptr 16 0)),(17,iv 23 s.out.length 397),(18,.one (.int .i64 (s.out.length:Nat)))]) (fun s=>[bO 1 5 9,aw 2 3 4 cM,aR cM,aT cM,aS cM,aw 6 7 8 cZ,aR cZ,aT cZ,aS cZ,aw 10 11 12 cP,aR cP,aT cP,aS cP,ob,bp 15 q B s.r.1 s.r.2,aK q,HE s.S 16,cq 18 s.S.cols s.S.rows,.map (a_ s.S.M),HF s.S 16,.map (ag s.S.A),.map (ag s.S.B),.map (ag s.S.C),cR 56 (fl gV s.out)]) (AA B first n h.cols h.rows x) (fun s=>n-s.out.length) ⟨dS h p,(0,false),[]⟩ ⟨Nat.zero_le _,hx,rfl,rfl,tc,by have:=hT.ph.qp;show -1000000<=p.qp/\p.qp<=1000000;omega⟩ (fun s _=>lS) (cG [0,1,2,3,4,5,6,7,8,9,10,11,12,13,16,17,18,19,20,21,22,23,24,25]) ?_
 intro s hs ih
 have hle:=hs.le
 have hn36:n<=64:=by omega
 have hlen:s.out.length<=64:=by omega
 by_cases hlt:s.out.length<n
 ·obtain⟨b,hr⟩:∃b,s.r.2=b:=⟨_,rfl⟩
  cases b with
  | false=>
    have xS:gq s.S.cols s.S.rows:=by rw[hs.cols,hs.rows];exact hT.hd.dims
    have hmb:0<=first+(s.out.length:Nat)/\first+(s.out.length:Nat)<s.S.cols*s.S.rows:=by rw[hs.cols,hs.rows];omega
    obtain⟨y,hy⟩:∃y,bY s.S B (first+(s.out.length:Nat)) s.r=y:=⟨_,rfl⟩
    repeat' (first
     |(refine qz ?_;first
      |refine cl ?_ (hi:=by exact lf hr rfl rfl (by decide) rfl)
      |refine cl ?_ (hi:=by exact E_ hT.bits (S:=s.S) (r:=s.r) xS hs.tiny hmb hs.qp hy (i:=14) (k:=15) (N:=16) rfl rfl rfl rfl (by decide) nA rfl)
      |refine oP (enc:=gV) (a:=(y.1.m,y.2)) ?_
      |refine ub (enc:=gV) ?_)
     |refine zz ?_|refine zx (fun _=>?_) (fun _=>?_)|fail)
    have e0:iU B first s=⟨y.1.S,y.1.r,s.out++[(y.1.m,y.2)]⟩:=by unfold iU;rw[hy]
    have hnx:=v_ hs hlt hr
    rw[e0]at hnx
    refine ih ⟨y.1.S,y.1.r,s.out++[(y.1.m,y.2)]⟩ _ _ _ (cG [0,1,2,3,4,5,6,7,8,9,10,11,12,13,14,15,16,17,18,19,20,21,22,25] (obj:=by(repeat' (first|exact ae.nil|refine ae.flat (by rw[List.length_append];rfl) ?_|refine ae.flat rfl ?_|refine ae.cons rfl ?_|refine ae.dead rfl ?_|refine ae.cons (by simp only[ak.ay,List.map_cons,List.map_nil,XC.ay,aC];exact rfl) ?_));first|done|fail) (reg:=by(repeat' (first|exact ah.nil|refine ah.flat (by rw[List.length_append];rfl) ?_|refine ah.flat rfl ?_|refine ah.cons rfl ?_|refine ah.sl rfl (by assumption) rfl ?_|refine ah.fM rfl rfl (by first|rfl|omega|(simp;done)|(simp;omega)) ?_));first|done|fail)) hnx (by show n-(s.out++[(y.1.m,y.2)]).length<n-s.out.length;rw[List.length_append];show n-(s.out.length+1)<_;omega)
  | true=>
    obtain rfl:=n9 hs (.inr hr)
    repeat' (first
     |(refine qz ?_;first
      |refine cl ?_ (hi:=by exact lf hr rfl rfl (by decide) rfl)
      |refine cl ?_ (hi:=by exact n5 he rfl rfl (by decide) rfl))
     |refine zz ?_|refine zx (fun _=>?_) (fun _=>?_)|fail)
    show aB _ _ _ _ _ _ _ _;refine kV [0,1,2,3,4,5,6,7,8,9,10,11,12,13,23] ?_
    simp only[XV.ay,List.map_cons,List.map_nil,X1.ay,aC];rfl
 ·obtain rfl:=n9 hs (.inl (by omega))
  repeat' (first
   |(refine qz ?_;first
    |refine cl ?_ (hi:=by exact n5 he rfl rfl (by decide) rfl))
   |refine zz ?_|refine zx (fun _=>?_) (fun _=>?_)|fail)
  show aB _ _ _ _ _ _ _ _;refine kV [0,1,2,3,4,5,6,7,8,9,10,11,12,13,23] ?_
  simp only[XV.ay,List.map_cons,List.map_nil,X1.ay,aC];rfl
theorem DJ{ob:ak}{c:XC}{h:Hd}{p:Ph}{a q:List Int}{B:List Bool}{first:Int}{n:Nat}(hT:lW h p a q B first n)(ho:RO ob .u8 a)(hc:dj c 13 0 a.length){x:TA}(hx:fF B first n ⟨dS h p,(0,false),[]⟩=x){e:Int}(he:kC B x.r=e)(he0:e≠0) :
 bh Tryz.prog 12 [.one (.ptr 0 0),.agg (f_ h),.agg (hU p),.one (.int .i64 first),.one (.int .i64 (n:Nat)),.one c] [bO 1 5 9,aw 2 3 4 cM,aR cM,aT cM,aS cM,aw 6 7 8 cZ,aR cZ,aT cZ,aS cZ,aw 10 11 12 cP,aR cP,aT cP,aS cP,ob] (.tup [.one .nils,.one (.int .i64 e)]) [bO 1 5 9,aw 2 3 4 cM,aR cM,aT cM,aS cM,aw 6 7 8 cZ,aR cZ,aT cZ,aS cZ,aw 10 11 12 cP,aR cP,aT cP,aS cP,ob]:=by
 have hfo:=ho.flat
 have h1:=hT.hd.dims.c0
 have h2:=hT.hd.dims.c1
 have h3:=hT.hd.dims.r0
 have h4:=hT.hd.dims.r1
 have hf:=hT.pos
 have hm:=hT.many
 have ha:=hT.all
 have hcr:1<=h.cols*h.rows/\h.cols*h.rows<=64:=jf hT.hd.dims
 refine cO Tryz.func12 ?_
 repeat' (first
  |(refine qz ?_;first
   |refine fC ?_ (hle:=by rw[bt])
   |refine cl ?_ (hi:=by exact kW hT.hd rfl)
   |refine cl ?_ (hi:=by exact k_ hT.ph rfl)
   |refine cl ?_ (hi:=by exact vF ho hc hT.byt hT.len hT.esc hT.size hT.fits rfl nL nA rfl)
   |refine cl ?_ (hi:=by exact mJ hT.hd rfl nL nA rfl))
  |refine zz ?_|refine zx (fun _=>?_) (fun _=>?_)|fail)
 refine WX.c7 rfl ?_
 refine WX.dA (σ:=TA) (fun s=>[(3,.one (.int .i64 first)),(4,.one (.int .i64 (n:Nat))),(14,.one (.ptr 14 0)),(16,.one (.ptr 16 0)),(17,iv 23 s.out.length 397),(18,.one (.int .i64 (s.out.length:Nat)))]) (fun s=>[bO 1 5 9,aw 2 3 4 cM,aR cM,aT cM,aS cM,aw 6 7 8 cZ,aR cZ,aT cZ,aS cZ,aw 10 11 12 cP,aR cP,aT cP,aS cP,ob,bp 15 q B s.r.1 s.r.2,aK q,HE s.S 16,cq 18 s.S.cols s.S.rows,.map (a_ s.S.M),HF s.S 16,.map (ag s.S.A),.map (ag s.S.B),.map (ag s.S.C),cR 56 (fl gV s.out)]) (AA B first n h.cols h.rows x) (fun s=>n-s.out.length) ⟨dS h p,(0,false),[]⟩ ⟨Nat.zero_le _,hx,rfl,rfl,tc,by have:=hT.ph.qp;show -1000000<=p.qp/\p.qp<=1000000;omega⟩ (fun s _=>lS) (cG [0,1,2,3,4,5,6,7,8,9,10,11,12,13,16,17,18,19,20,21,22,23,24,25]) ?_
 intro s hs ih
 have hle:=hs.le
 have hn36:n<=64:=by omega
 have hlen:s.out.length<=64:=by omega
 by_cases hlt:s.out.length<n
 ·obtain⟨b,hr⟩:∃b,s.r.2=b:=⟨_,rfl⟩
  cases b with
  | false=>
    have xS:gq s.S.cols s.S.rows:=by rw[hs.cols,hs.rows];exact hT.hd.dims
    have hmb:0<=first+(s.out.length:Nat)/\first+(s.out.length:Nat)<s.S.cols*s.S.rows:=by rw[hs.cols,hs.rows];omega
    obtain⟨y,hy⟩:∃y,bY s.S B (first+(s.out.length:Nat)) s.r=y:=⟨_,rfl⟩
    repeat' (first
     |(refine qz ?_;first
      |refine cl ?_ (hi:=by exact lf hr rfl rfl (by decide) rfl)
      |refine cl ?_ (hi:=by exact E_ hT.bits (S:=s.S) (r:=s.r) xS hs.tiny hmb hs.qp hy (i:=14) (k:=15) (N:=16) rfl rfl rfl rfl (by decide) nA rfl)
      |refine oP (enc:=gV) (a:=(y.1.m,y.2)) ?_
      |refine ub (enc:=gV) ?_)
     |refine zz ?_|refine zx (fun _=>?_) (fun _=>?_)|fail)
    have e0:iU B first s=⟨y.1.S,y.1.r,s.out++[(y.1.m,y.2)]⟩:=by unfold iU;rw[hy]
    have hnx:=v_ hs hlt hr
    rw[e0]at hnx
    refine ih ⟨y.1.S,y.1.r,s.out++[(y.1.m,y.2)]⟩ _ _ _ (cG [0,1,2,3,4,5,6,7,8,9,10,11,12,13,14,15,16,17,18,19,20,21,22,25] (obj:=by(repeat' (first|exact ae.nil|refine ae.flat (by rw[List.length_append];rfl) ?_|refine ae.flat rfl ?_|refine ae.cons rfl ?_|refine ae.dead rfl ?_|refine ae.cons (by simp only[ak.ay,List.map_cons,List.map_nil,XC.ay,aC];exact rfl) ?_));first|done|fail) (reg:=by(repeat' (first|exact ah.nil|refine ah.flat (by rw[List.length_append];rfl) ?_|refine ah.flat rfl ?_|refine ah.cons rfl ?_|refine ah.sl rfl (by assumption) rfl ?_|refine ah.fM rfl rfl (by first|rfl|omega|(simp;done)|(simp;omega)) ?_));first|done|fail)) hnx (by show n-(s.out++[(y.1.m,y.2)]).length<n-s.out.length;rw[List.length_append];show n-(s.out.length+1)<_;omega)
  | true=>
    obtain rfl:=n9 hs (.inr hr)
    repeat' (first
     |(refine qz ?_;first
      |refine cl ?_ (hi:=by exact lf hr rfl rfl (by decide) rfl)
      |refine cl ?_ (hi:=by exact n5 he rfl rfl (by decide) rfl))
     |refine zz ?_|refine zx (fun _=>?_) (fun _=>?_)|fail)
    show aB _ _ _ _ _ _ _ _;refine kV [0,1,2,3,4,5,6,7,8,9,10,11,12,13] ?_
    rfl
 ·obtain rfl:=n9 hs (.inl (by omega))
  repeat' (first
   |(refine qz ?_;first
    |refine cl ?_ (hi:=by exact n5 he rfl rfl (by decide) rfl))
   |refine zz ?_|refine zx (fun _=>?_) (fun _=>?_)|fail)
  show aB _ _ _ _ _ _ _ _;refine kV [0,1,2,3,4,5,6,7,8,9,10,11,12,13] ?_
  rfl
theorem B1{ob:ak}{c:XC}{h:Hd}{p:Ph}(hd:qk h)(hp:tW p){a:List Int}(ho:RO ob .u8 a)(hc:dj c 13 0 a.length)(hl:dc a)(hn:a.length<=30000){first:Int}{n:Nat}(hf:0<=first)(hm:1<=n)(ha:first+(n:Nat)<=h.cols*h.rows){e:Int}(he:kj a = .inl e) :
 bh Tryz.prog 12 [.one (.ptr 0 0),.agg (f_ h),.agg (hU p),.one (.int .i64 first),.one (.int .i64 (n:Nat)),.one c] (dZ++[ob]) (.tup [.one .nils,.one (.int .i64 e)]) (dZ++[ob]):=by
 have hfo:=ho.flat
 have he0:=(k9 he).1
 have h1:=hd.dims.c0
 have h2:=hd.dims.c1
 have h3:=hd.dims.r0
 have h4:=hd.dims.r1
 have hcr:1<=h.cols*h.rows/\h.cols*h.rows<=64:=jf hd.dims
 refine cO Tryz.func12 ?_
 repeat' (first
  |(refine qz ?_;first
   |refine fC ?_ (hle:=by rw[bt])
   |refine cl ?_ (hi:=by exact kW hd rfl)
   |refine cl ?_ (hi:=by exact k_ hp rfl)
   |refine cl ?_ (hi:=by exact x_ ho hc hl hn he rfl rfl))
  |refine zz ?_|refine zx (fun _=>?_) (fun _=>?_)|fail)
 show aB _ _ _ _ _ _ _ _;refine kV [0,1,2,3,4,5,6,7,8,9,10,11,12,13] ?_
 rfl
end Go.Proofs.YtagpkhindehcbaaGreat
namespace Go.Proofs.YtagpkhindehcbaaGreat
open Go.Xm
variable [ax]
structure xd(B:List Bool)(r r':Nat×Bool)(s:List Bool):Prop where
 a:r.2=false
 b:r'.2=false
 n:r'.1=r.1+s.length
 e:B.take r'.1=B.take r.1++s
 l:r'.1<=B.length
theorem xd.trans{B:List Bool}{r r' r2:Nat×Bool}{s t:List Bool}(h:xd B r r' s)(g:xd B r' r2 t):xd B r r2 (s++t):=
 ⟨h.a,g.b,by rw[g.n,h.n,List.length_append,Nat.add_assoc],by rw[g.e,h.e,List.append_assoc],g.l⟩
theorem xd.none{B:List Bool}{r:Nat×Bool}(h:r.2=false)(hl:r.1<=B.length):xd B r r []:=⟨h,h,rfl,(List.append_nil _).symm,hl⟩
theorem lX{B:List Bool}{r:Nat×Bool}(h:(bd B r).2=false):xd B r (bd B r) [cp B r]:=by
 obtain⟨p,e⟩:=r
 unfold bd at h ⊢
 by_cases he:e=true
 ·subst he;rw[if_pos rfl]at h;cases h
 ·have he':e=false:=by cases e<;>simp at he ⊢
  subst he'
  rw[if_neg Bool.false_ne_true]at h ⊢
  by_cases hp:p<B.length
  ·rw[if_pos hp]
   refine⟨rfl,rfl,rfl,?_,hp⟩
   show B.take (p+1)=B.take p++[!false&&B.getD p false]
   rw[List.take_add_one,List.getElem?_eq_getElem hp,List.getD_eq_getElem?_getD,List.getElem?_eq_getElem hp]
   rfl
  ·dsimp only at h
   rw[if_neg hp]at h
   cases h
theorem fy{B:List Bool}{r:Nat×Bool}(h:r.2=true):(bd B r).2=true:=by unfold bd;rw[if_pos h];exact h
theorem H4(b:Bool):0<=b2 b/\b2 b<=1:=by cases b<;>decide
theorem CL(b:Bool)(x:Int):decide ((2*x+b2 b)%2=1)=b:=by
 cases b with
 | true=>exact decide_eq_true (by show(2*x+1)%2=1;omega)
 | false=>exact decide_eq_false (by show¬(2*x+0)%2=1;omega)
theorem pW{B:List Bool}:∀(k:Nat) (x:Int) (r:Nat×Bool),r.2=true->(kp B k x r).2.2=true
 | 0,x,r,h=>rfl
 | k+1,x,r,h=>by
   rw[kp,if_pos (.inl (fy (fy h)))]
theorem yp{B:List Bool}:∀(k:Nat) (x:Int) (r:Nat×Bool) (v:Int) (r':Nat×Bool),0<=x->kp B k x r=(v,r')->r'.2=false->∃j,0<j/\xd B r r' (jH (v+1) j)/\(v+1)/2^j=x/\v<=8190/\0<=v+1
 | 0,x,r,v,r',hx,h,he=>by
   cases h;cases he
 | k + 1,x,r,v,r',hx,h,he=>by
   rw[kp]at h
   have hb:=H4 (cp B r)
   split at h
   ·cases h;cases he
   ·rename_i hn
    have hn2:(bd B (bd B r)).2=false:=by
     cases hh:(bd B (bd B r)).2 with
     | false=>rfl
     | true=>exact absurd (.inl hh) hn
    have hn8:2*x+b2 (cp B r)-1<=8190:=by
     have:=fun q=>hn (.inr q)
     omega
    have a2:=lX hn2
    have a1:=lX (B:=B) (r:=r) a2.a
    have a3:=a1.trans a2
    split at h
    ·rename_i hm
     obtain⟨j,h0,h1,h2,h3,h4⟩:=yp k _ _ v r' (by omega) h he
     refine⟨j+1,Nat.succ_pos _,?_,?_,h3,h4⟩
     ·rw[jH,h2,CL,decide_eq_true h0]
      rw[hm]at a3
      exact a3.trans h1
     ·rw[Int.pow_succ,<-Int.ediv_ediv_of_nonneg (Int.le_of_lt (Int.pow_pos (by decide))),h2]
      omega
    ·rename_i hm
     cases h
     have hm':cp B (bd B r)=false:=by
      cases hh:cp B (bd B r)with
      | false=>rfl
      | true=>exact absurd hh hm
     refine⟨1,Nat.one_pos,?_,by omega,hn8,by omega⟩
     have e1:jH (2*x+b2 (cp B r)-1+1) 1 = [cp B r]++[cp B (bd B r)]:=by
      rw[Int.sub_add_cancel,jH,hm']
      show decide ((2*x+b2 (cp B r))/2^0%2=1)::decide (0<0)::jH _ 0=_
      have e0:(2*x+b2 (cp B r))/2^0=2*x+b2 (cp B r):=by rw[Int.pow_zero,Int.ediv_one]
      rw[e0,CL]
      rfl
     rw[e1]
     exact a3
theorem rY{B:List Bool}{r:Nat×Bool}{v:Int}{r':Nat×Bool}(h:br B r=(v,r'))(he:r'.2=false):xd B r r' (bP v)/\0<=v/\v<=8190:=by
 unfold br at h
 split at h
 ·rename_i hb
  cases h
  have a1:=lX he
  rw[hb]at a1
  exact⟨a1,by decide,by decide⟩
 ·rename_i hb
  obtain⟨j,h0,h1,h2,h3,h4⟩:=yp 13 1 (bd B r) v r' (by decide) h he
  have a1:=lX (B:=B) (r:=r) h1.a
  have hb':cp B r=false:=by
   cases hh:cp B r with
   | false=>rfl
   | true=>exact absurd hh hb
  rw[hb']at a1
  have hp:(0:Int)<2^j:=Int.pow_pos (by decide)
  have q1:(2:Int)^j<=v+1:=by
   have:=Int.ediv_mul_le (v+1) (Int.ne_of_gt hp)
   rw[h2,Int.one_mul]at this
   exact this
  have q2:v+1<2^j*2:=by
   have:=Int.lt_ediv_add_one_mul_self (v+1) hp
   rw[h2]at this
   omega
  have q3:(2:Int)<=2^j:=by
   obtain⟨i,rfl⟩:∃i,j=i+1:=⟨j-1,by omega⟩
   have:(0:Int)<2^i:=Int.pow_pos (by decide)
   rw[Int.pow_succ]
   omega
  have hl:bitLen (v+1).toNat=j+1:=by
   have n1:2^j<=(v+1).toNat:=by
    have:((2^j:Nat):Int)<=((v+1).toNat:Int):=by rw[Int.natCast_pow,Int.toNat_of_nonneg h4];exact q1
    omega
   have n2:(v+1).toNat<2^(j+1):=by
    have:((v+1).toNat:Int)<((2^(j+1):Nat):Int):=by rw[Int.natCast_pow,Int.toNat_of_nonneg h4,Int.pow_succ];exact q2
    omega
   unfold bitLen
   have hne:(v+1).toNat≠0:=by omega
   rw[if_neg hne,(Nat.log2_eq_iff hne).2 ⟨n1,n2⟩]
  refine⟨?_,by omega,h3⟩
  unfold bP
  rw[if_neg (by omega),hl,Nat.add_sub_cancel]
  exact a1.trans h1
theorem yi{B:List Bool}:∀(n:Nat) (x:Int) (r:Nat×Bool) (v:Int) (r':Nat×Bool),iB B n x r=(v,r')->r'.2=false->r.1<=B.length->xd B r r' (ed v n)/\v/2^n=x
 | 0,x,r,v,r',h,he,hl=>by
   cases h
   exact⟨xd.none he hl,by rw[Int.pow_zero,Int.ediv_one]⟩
 | n + 1,x,r,v,r',h,he,hl=>by
   have hb:=H4 (cp B r)
   have hne:(bd B r).2=false:=by
    cases hh:(bd B r).2 with
    | false=>rfl
    | true=>
      have:∀(k:Nat) (x:Int) (r:Nat×Bool),r.2=true->(iB B k x r).2.2=true:=fun k=>by
       induction k with
       | zero=>intro x r h;exact h
       | succ k ih=>intro x r h;exact ih _ _ (fy h)
      have h2:=this n (2*x+b2 (cp B r)) _ hh
      have h3:iB B n (2*x+b2 (cp B r)) (bd B r)=(v,r'):=h
      rw[h3]at h2
      rw[he]at h2;cases h2
   have a1:=lX hne
   obtain⟨h1,h2⟩:=yi n (2*x+b2 (cp B r)) (bd B r) v r' h he a1.l
   refine⟨?_,?_⟩
   ·rw[ed,h2,CL]
    exact a1.trans h1
   ·rw[Int.pow_succ,<-Int.ediv_ediv_of_nonneg (Int.le_of_lt (Int.pow_pos (by decide))),h2]
    omega
theorem uL{B:List Bool}{n:Nat}{r:Nat×Bool}{v:Int}{r':Nat×Bool}(h:bH B n r=(v,r'))(he:r'.2=false)(hl:r.1<=B.length):xd B r r' (ed v n):=by
 unfold bH at h
 obtain⟨v0,r0,hq⟩:∃v0 r0,iB B n 0 r=(v0,r0):=⟨_,_,rfl⟩
 rw[hq]at h
 cases h
 have he':r0.2=false:=he
 dsimp only
 rw[he',if_neg Bool.false_ne_true]
 exact(yi n 0 r v0 r0 hq he' hl).1
def ways(C:Cd):Nat->Int->List (List Bool×Int)
 | 0,_=>[]
 | k+1,x=>[false,true].flatMap fun b=>
   let t:=C.T.getD (x.toNat*2+(b2 b%2^1).toNat) 0
   if t=0 then []else if t<0 then [([b],-1-t)]else(ways C k t).map fun p=>(b::p.1,p.2)
theorem AR{C:Cd}{B:List Bool}:∀(k:Nat) (x:Int) (r:Nat×Bool) (v:Int) (r':Nat×Bool),qJ C B k x r=(v,r')->r'.2=false->∃s,(s,v)∈ways C k x/\xd B r r' s
 | 0,x,r,v,r',h,he=>by cases h;cases he
 | k + 1,x,r,v,r',h,he=>by
   rw[qJ]at h
   obtain⟨b,hb⟩:∃b,cp B r=b:=⟨_,rfl⟩
   obtain⟨t,ht⟩:∃t,C.T.getD (x.toNat*2+(b2 b%2^1).toNat) 0=t:=⟨_,rfl⟩
   rw[hb,ht]at h
   have hmem:∀q,q∈(if t=0 then []else if t<0 then [([b],-1-t)]else(ways C k t).map fun p=>(b::p.1,p.2))->q∈ways C (k+1) x:=fun q hq=>by
    rw[ways]
    refine List.mem_flatMap.2 ⟨b,by cases b<;>simp,?_⟩
    dsimp only
    rw[ht];exact hq
   split at h
   ·cases h;cases he
   ·rename_i hn
    have hne:(bd B r).2=false:=by
     cases hh:(bd B r).2 with
     | false=>rfl
     | true=>exact absurd (.inl hh) hn
    have ht0:t≠0:=fun q=>hn (.inr q)
    have a1:=lX hne
    rw[hb]at a1
    split at h
    ·rename_i hneg
     cases h
     exact⟨[b],hmem _ (by rw[if_neg ht0,if_pos hneg];exact List.mem_singleton.2 rfl),a1⟩
    ·rename_i hneg
     obtain⟨s,h1,h2⟩:=AR k t (bd B r) v r' h he
     exact⟨b::s,hmem _ (by rw[if_neg ht0,if_neg hneg];exact List.mem_map.2 ⟨_,h1,rfl⟩),a1.trans h2⟩
def zY(C:Cd):Bool:=(ways C (C.T.length/2) 0).all fun p=>p.1==cV C p.2.toNat&&decide (0<=p.2/\p.2<C.S.length)
theorem LH:zY cM=true:=by decide +kernel
theorem LJ:zY cZ=true:=by decide +kernel
theorem LI:zY cP=true:=by decide +kernel
theorem zg{C:Cd}(hC:zY C=true){B:List Bool}{r:Nat×Bool}{v:Int}{r':Nat×Bool}(h:kO C B r=(v,r'))(he:r'.2=false):xd B r r' (cV C v.toNat)/\0<=v/\v<C.S.length:=by
 obtain⟨s,h1,h2⟩:=AR _ _ _ _ _ h he
 have:=List.all_eq_true.1 hC _ h1
 rw[Bool.and_eq_true]at this
 have e:s=cV C v.toNat:=eq_of_beq this.1
 rw[<-e]
 exact⟨h2,of_decide_eq_true this.2⟩
theorem xF{n k:Nat}(h1:2^k<=n)(h2:n<2^(k+1)):bitLen n=k+1:=by
 have hp:0<2^k:=Nat.two_pow_pos k
 unfold bitLen
 rw[if_neg (by omega),(Nat.log2_eq_iff (by omega)).2 ⟨h1,h2⟩]
theorem Nt{B:List Bool}{r:Nat×Bool}{v:Int}{r':Nat×Bool}(h:eI B r=(v,r'))(he:r'.2=false):xd B r r' (b6 v):=by
 obtain⟨z,r1,hz⟩:∃z r1,kO cZ B r=(z,r1):=⟨_,_,rfl⟩
 obtain⟨m,r2,hm⟩:∃m r2,bH B z.toNat r1=(m,r2):=⟨_,_,rfl⟩
 have e1:cH B r=z.toNat:=by unfold cH;rw[hz]
 have e2:lI B r=(m,r2):=by unfold lI;rw[e1,hz];exact hm
 have hrng:=iM B z.toNat r1
 rw[hm]at hrng
 have hrng:0<=m/\m<2^z.toNat:=hrng
 unfold eI at h
 rw[e1,e2]at h
 dsimp only at h
 have hr2:r2.2=false:=by
  split at h
  ·cases h
   split at he
   ·cases he
   ·exact he
  ·cases h;exact he
 have hr1:r1.2=false:=by
  cases hh:r1.2 with
  | false=>rfl
  | true=>
    have:∀(k:Nat) (x:Int) (r:Nat×Bool),r.2=true->(iB B k x r).2.2=true:=fun k=>by
     induction k with
     | zero=>intro x r h;exact h
     | succ k ih=>intro x r h;exact ih _ _ (fy h)
    have h2:=this z.toNat 0 r1 hh
    have h3:(bH B z.toNat r1).2.2=true:=h2
    rw[hm]at h3
    rw[hr2]at h3;cases h3
 obtain⟨a1,z0,z1⟩:=zg LJ hz hr1
 have a2:=uL hm hr2 a1.l
 have a3:=a1.trans a2
 obtain⟨k,hk⟩:∃k,z.toNat=k:=⟨_,rfl⟩
 rw[hk]at h a3 hrng
 have hpk:(0:Int)<2^k:=Int.pow_pos (by decide)
 split at h
 ·rename_i hc
  obtain⟨i,rfl⟩:∃i,k=i+1:=⟨k-1,by omega⟩
  rw[Nat.add_sub_cancel,Int.one_mul]at hc
  have hpi:(0:Int)<2^i:=Int.pow_pos (by decide)
  have hps:(2:Int)^(i+1)=2^i*2:=Int.pow_succ ..
  rw[Int.one_mul,hps]at h
  have hv:v=m-(2^i*2-1):=(congrArg Prod.fst h).symm
  have hr':r'=r2:=by
   have:=congrArg Prod.snd h
   dsimp only at this
   rw[<-this]at he ⊢
   split at he
   ·cases he
   ·rename_i hq;rw[if_neg hq]
  have hd:bJ v=i+1:=by
   unfold bJ
   have e3:max v (-v) = -v:=by omega
   rw[e3]
   refine xF ?_ ?_
   ·have:((2^i:Nat):Int)<=((-v).toNat:Int):=by rw[Int.natCast_pow,Int.toNat_of_nonneg (by omega)];show(2:Int)^i <= -v;omega
    omega
   ·have:((-v).toNat:Int)<((2^(i+1):Nat):Int):=by rw[Int.natCast_pow,Int.toNat_of_nonneg (by omega),show((2:Nat):Int)^(i+1)=2^i*2 from hps];omega
    omega
  unfold b6
  rw[hd,if_pos (by omega),Int.one_mul,hps,show v+(2^i*2-1)=m by omega,hr']
  exact a3
 ·rename_i hc
  have hv:=(Prod.mk.inj h).1
  have hr':=(Prod.mk.inj h).2
  subst hv hr'
  have hd:bJ m=k:=by
   unfold bJ
   have e3:max m (-m)=m:=by omega
   rw[e3]
   cases k with
   | zero=>
     rw[Int.pow_zero]at hrng
     have:m.toNat=0:=by omega
     rw[this];rfl
   | succ i=>
     rw[Nat.add_sub_cancel,Int.one_mul]at hc
     have hpi:(0:Int)<2^i:=Int.pow_pos (by decide)
     have hps:(2:Int)^(i+1)=2^i*2:=Int.pow_succ ..
     refine xF ?_ ?_
     ·have:((2^i:Nat):Int)<=(m.toNat:Int):=by rw[Int.natCast_pow,Int.toNat_of_nonneg hrng.1];show(2:Int)^i<=m;omega
      omega
     ·have:(m.toNat:Int)<((2^(i+1):Nat):Int):=by rw[Int.natCast_pow,Int.toNat_of_nonneg hrng.1];exact hrng.2
      omega
  unfold b6
  rw[hd,if_neg (by omega)]
  exact a3
theorem q8{w:Int}(h:0<=w):aV (bB w)=w:=by
 unfold aV bB
 split<;>split<;>omega
theorem Fj{B:List Bool}{e:Int×Int}{r:Nat×Bool}{v:Int×Int}{r':Nat×Bool}(h:oz B e r=(v,r'))(he:r'.2=false):xd B r r' (cS v e)/\dH v=true:=by
 unfold oz at h
 split at h
 ·cases h;cases he
 ·rename_i hn
  cases h
  obtain⟨x,r1,h1⟩:∃x r1,br B r=(x,r1):=⟨_,_,rfl⟩
  obtain⟨y,r2,h2⟩:∃y r2,br B r1=(y,r2):=⟨_,_,rfl⟩
  have eR:tf B r=r2:=by unfold tf;rw[h1,h2]
  have eX:wv B r=bB x:=by unfold wv;rw[h1]
  have eY:wx B r=bB y:=by unfold wx;rw[h1,h2]
  rw[eR]at he ⊢
  have hr1:r1.2=false:=by
   cases hh:r1.2 with
   | false=>rfl
   | true=>
     have:(br B r1).2.2=true:=by
      unfold br cp
      rw[hh]
      exact pW _ _ _ (fy hh)
     rw[h2]at this
     rw[he]at this;cases this
  obtain⟨a1,x0,x1⟩:=rY h1 hr1
  obtain⟨a2,y0,y1⟩:=rY h2 he
  unfold jS at hn
  rw[eX,eY]at hn
  have hr:dH (zX B e r)=true:=by
   cases hh:dH (zX B e r)with
   | true=>rfl
   | false=>exact absurd (.inr (.inr (.inr (.inr (.inr hh))))) hn
  refine⟨?_,hr⟩
  have b1 : -32<=bB x/\bB x<=31:=by
   have q1:=fun q=>hn (.inr (.inl q))
   have q2:=fun q=>hn (.inr (.inr (.inl q)))
   omega
  have b2 : -32<=bB y/\bB y<=31:=by
   have q1:=fun q=>hn (.inr (.inr (.inr (.inl q))))
   have q2:=fun q=>hn (.inr (.inr (.inr (.inr (.inl q)))))
   omega
  have w:∀(e z:Int),-32<=z/\z<=31->ct (ct (e+z)-e)=z:=fun e z hz=>by unfold ct;omega
  unfold cS zX
  dsimp only
  rw[eX,eY,w _ _ b1,w _ _ b2,q8 x0,q8 y0]
  exact a1.trans a2
end Go.Proofs.YtagpkhindehcbaaGreat
namespace Go.Proofs.YtagpkhindehcbaaGreat
open Go.Xm
variable [ax]
theorem Dz{B:List Bool}{r:Nat×Bool}(h:r.2=true):(br B r).2.2=true:=by
 unfold br cp
 rw[h]
 exact pW _ _ _ (fy h)
theorem LR{n m:Int}(hn:0<=n)(hm:0<=m):IE (u0 n m)=bP n++bP m:=by
 have e1:2*(n/2)+(if decide (n%2=1)=true then 1 else 0)=n:=by
  by_cases h:n%2=1
  ·rw[if_pos (decide_eq_true h)];omega
  ·rw[if_neg (by rw[decide_eq_false h];decide)];omega
 unfold IE u0
 dsimp only
 rw[e1,q8 (by omega),Int.add_sub_cancel]
theorem xH{B : List Bool}:∀(k:Nat) (r:Nat×Bool) (acc:List Ev) (l:List Ev) (r':Nat×Bool),mL B k r acc=(l,r')->r'.2=false->∃m,l=acc++m/\0<m.length/\m.length<=k/\xd B r r' (dO m)/\(∀j,j<m.length->lT (m.getD j default))/\∀j,j<m.length->(m.getD j default).2.2=decide (j+1=m.length)
 | 0,r,acc,l,r',h,he=>by cases h;cases he
 | k + 1, r, acc,l,r',h,he=>by
   obtain⟨v,r1,h1⟩:∃v r1,br B r=(v,r1):=⟨_,_,rfl⟩
   obtain⟨w,r2,h2⟩:∃w r2,br B r1=(w,r2):=⟨_,_,rfl⟩
   rw[mL,h1]at h
   dsimp only at h
   rw[h2]at h
   dsimp only at h
   split at h
   ·cases h;cases he
   ·rename_i hn
    have hr2:r2.2=false:=by
     cases hh:r2.2 with
     | false=>rfl
     | true=>exact absurd (.inl hh) hn
    have hok:lT (u0 v w):=qL (by cases hh:iG (u0 v w)with|true=>rfl|false=>exact absurd (.inr hh) hn)
    have hr1:r1.2=false:=by
     cases hh:r1.2 with
     | false=>rfl
     | true=>
       have:=Dz (B:=B) hh
       rw[h2]at this
       rw[hr2]at this;cases this
    obtain⟨a1,v0,_⟩:=rY h1 hr1
    obtain⟨a2,w0,_⟩:=rY h2 hr2
    have a3:=a1.trans a2
    rw[<-LR v0 w0]at a3
    split at h
    ·rename_i hlast
     cases h
     refine⟨[u0 v w],rfl,Nat.one_pos,by simp,?_,fun j hj=>?_,fun j hj=>?_⟩
     ·have e:dO [u0 v w]=IE (u0 v w):=by simp[dO]
      rw[e];exact a3
     ·have:j=0:=by simpa using hj
      subst this;exact hok
     ·have:j=0:=by simpa using hj
      subst this;exact hlast
    ·rename_i hlast
     obtain⟨m,e1,e2,e3,e4,e5,e6⟩:=xH k r2 _ l r' h he
     refine⟨u0 v w::m,by rw[e1,List.append_assoc];rfl,Nat.succ_pos _,Nat.succ_le_succ e3,?_,fun j hj=>?_,fun j hj=>?_⟩
     ·exact a3.trans e4
     ·cases j with
      | zero=>exact hok
      | succ j=>exact e5 j (Nat.lt_of_succ_lt_succ hj)
     ·cases j with
      | zero=>
        have hf:(u0 v w).2.2=false:=by
         cases hh:(u0 v w).2.2 with
         | false=>rfl
         | true=>exact absurd hh hlast
        show(u0 v w).2.2=decide (0+1=m.length+1)
        rw[hf,decide_eq_false (by omega)]
      | succ j=>
        show(m.getD j default).2.2=decide (j+1+1=m.length+1)
        rw[e6 j (Nat.lt_of_succ_lt_succ hj)]
        exact decide_eq_decide.2 ⟨fun h=>by omega,fun h=>by omega⟩
theorem LB{B:List Bool}{r:Nat×Bool}{l:List Ev}{r':Nat×Bool}(h:jE B r=(l,r'))(he:r'.2=false):xd B r r' (dO l)/\jC l:=by
 obtain⟨m,e1,e2,e3,e4,e5,e6⟩:=xH 64 r [] l r' h he
 rw[List.nil_append]at e1
 subst e1
 exact⟨e4,⟨⟨e2,e3⟩,e5,e6⟩⟩
theorem Ie{B:List Bool}:∀(k:Nat) (acc:List (List Ev)) (r:Nat×Bool) (E:List (List Ev)) (r':Nat×Bool),ry B k (acc,r)=(E,r')->r'.2=false->r.1<=B.length->∃F,E=acc++F/\F.length=k/\xd B r r' (F.flatMap dO)/\∀e∈F,jC e
 | 0,acc,r,E,r',h,he,hl=>by
   cases h
   exact⟨[],(List.append_nil _).symm,rfl,xd.none he hl,fun e he=>by cases he⟩
 | k + 1,acc,r,E,r',h,he,hl=>by
   obtain⟨l,r1,h1⟩:∃l r1,jE B r=(l,r1):=⟨_,_,rfl⟩
   rw[ry]at h
   dsimp only at h
   rw[h1]at h
   dsimp only at h
   split at h
   ·rename_i ht
    cases h
    rw[ht]at he;cases he
   ·rename_i ht
    have hr1:r1.2=false:=by
     cases hh:r1.2 with
     | false=>rfl
     | true=>exact absurd hh ht
    obtain⟨a1,ok1⟩:=LB h1 hr1
    obtain⟨F,e1,e2,e3,e4⟩:=Ie k _ r1 E r' h he a1.l
    refine⟨l::F,by rw[e1,List.append_assoc];rfl,by rw[List.length_cons,e2],?_,fun e he=>?_⟩
    ·rw[List.flatMap_cons];exact a1.trans e3
    ·rcases List.mem_cons.1 he with rfl|he
     ·exact ok1
     ·exact e4 e he
theorem Ig{x y:Int}(hx:0<=x/\x<256)(hy:0<=y/\y<256)(h:∀j,j<8->decide (x/2^(7-j)%2=1)=decide (y/2^(7-j)%2=1)):x=y:=by
 have g:∀j,j<8->x/2^(7-j)%2=y/2^(7-j)%2:=fun j hj=>by
  have:=decide_eq_decide.1 (h j hj)
  omega
 have g0:=g 0 (by decide)
 have g1:=g 1 (by decide)
 have g2:=g 2 (by decide)
 have g3:=g 3 (by decide)
 have g4:=g 4 (by decide)
 have g5:=g 5 (by decide)
 have g6:=g 6 (by decide)
 have g7:=g 7 (by decide)
 simp only[Nat.sub_self,Nat.reduceSub,Int.reducePow,Int.pow_zero,Int.ediv_one]at g0 g1 g2 g3 g4 g5 g6 g7
 omega
theorem Nr:∀x:Fin 256,x.val≠0->tz 8 (x.val:Int)<8/\(x.val:Int)/2^tz 8 (x.val:Int)%2=1/\∀k:Fin 8,k.val<tz 8 (x.val:Int)->(x.val:Int)/2^k.val%2=0:=by decide +kernel
theorem K3{q:List Int}{B:List Bool}(hq:dc q)(hs:cE q=(B.length,true))(hB:∀j,j<B.length->jD q j=B.getD j false):wr (B++[true])=q:=by
 unfold cE at hs
 split at hs
 ·exact absurd (congrArg Prod.snd hs) Bool.false_ne_true
 ·rename_i hne
  have hL:=congrArg Prod.fst hs
  dsimp only at hL
  obtain⟨x,hx⟩:∃x:Fin 256,q.getD (q.length-1) 0=(x.val:Int):=⟨⟨(q.getD (q.length-1) 0).toNat,by have:=hq (q.length-1);omega⟩,by have:=hq (q.length-1);simp only[];omega⟩
  rw[hx]at hL hne
  obtain⟨t1,t2,t3⟩:=Nr x (by omega)
  have hpos:0<q.length:=by
   refine Nat.pos_of_ne_zero fun h0=>?_
   rw[List.length_eq_zero_iff.1 h0]at hx
   exact hne (by simpa using hx.symm)
  have hwl:(wr (B++[true])).length=q.length:=by rw[fP,List.length_append,List.length_singleton];omega
  refine List.ext_getElem hwl fun p hp1 hp2=>?_
  have e1:(wr (B++[true])).getD p 0=(wr (B++[true]))[p]:=by rw[List.getD_eq_getElem?_getD,List.getElem?_eq_getElem hp1];rfl
  have e2:q.getD p 0=q[p]:=by rw[List.getD_eq_getElem?_getD,List.getElem?_eq_getElem hp2];rfl
  rw[<-e1,<-e2]
  refine Ig (gm _ p) (hq p) fun j hj=>?_
  have w1:=DR (B++[true]) (8*p+j)
  unfold jD at w1
  rw[show(8*p+j)/8=p by omega,show(8*p+j)%8=j by omega]at w1
  rw[w1]
  by_cases h1:8*p+j<B.length
  ·have w2:=hB _ h1
   unfold jD at w2
   rw[show(8*p+j)/8=p by omega,show(8*p+j)%8=j by omega]at w2
   rw[w2,List.getD_eq_getElem?_getD,List.getElem?_append_left h1,<-List.getD_eq_getElem?_getD]
  ·have hpl:p=q.length-1:=by omega
   subst hpl
   rw[hx]
   by_cases h2:8*(q.length-1)+j=B.length
   ·rw[h2,List.getD_eq_getElem?_getD,List.getElem?_append_right (Nat.le_refl _),Nat.sub_self]
    have e3:7-j=tz 8 (x.val:Int):=by omega
    rw[e3,decide_eq_true t2];rfl
   ·rw[List.getD_eq_getElem?_getD,List.getElem?_eq_none (by rw[List.length_append,List.length_singleton];omega)]
    have:=t3 ⟨7-j,by omega⟩ (by show 7-j<_;omega)
    have e4:(x.val:Int)/2^(7-j)%2=0:=this
    rw[e4];rfl
theorem uY{x:List Int}:∀(k:Nat) (out:List Int) (z:Int) (i:Nat) (q:List Int),i_ x k out z i=some q->k+i=x.length->0<=z->z<=2->∃t,q=out++t/\nM z t=x.drop i
 | 0,out,z,i,q,h,hk,h0,h2=>by
   cases h
   exact⟨[],(List.append_nil _).symm,by rw[List.drop_of_length_le (by omega)];rfl⟩
 | k + 1, out,z,i,q,h,hk,h0,h2=>by
   have hi:i<x.length:=by omega
   have hd:x.drop i=x.getD i 0::x.drop (i+1):=by
    rw[List.drop_eq_getElem_cons hi,List.getD_eq_getElem?_getD,List.getElem?_eq_getElem hi];rfl
   rw[i_]at h
   split at h
   ·cases h
   ·rename_i hn1
    split at h
    ·rename_i hz
     split at h
     ·cases h
     ·rename_i hn2
      obtain⟨t,e1,e2⟩:=uY k out 0 (i+1) q h (by omega) (Int.le_refl _) (by decide)
      have hi1:i+1<x.length:=by
       refine Nat.lt_of_le_of_ne hi fun e=>hn2 (.inl e)
      have hd1:x.drop (i+1)=x.getD (i+1) 0::x.drop (i+1+1):=by
       rw[List.drop_eq_getElem_cons hi1,List.getD_eq_getElem?_getD,List.getElem?_eq_getElem hi1];rfl
      have h3:x.getD (i+1) 0<=3:=by
       have:=fun q=>hn2 (.inr q)
       omega
      refine⟨t,e1,?_⟩
      cases t with
      | nil=>
        rw[hd1]at e2
        cases e2
      | cons b t=>
        rw[nM,if_neg (by omega),hd1]at e2
        have b1:b=x.getD (i+1) 0:=(List.cons.inj e2).1
        have b2:=(List.cons.inj e2).2
        rw[nM,if_pos ⟨by omega,by omega⟩,hd,hz.2,hd1,<-b1,<-b2]
    ·rename_i hz
     obtain⟨t,e1,e2⟩:=uY k _ (if x.getD i 0=0 then z+1 else 0) (i+1) q h (by omega) (by split<;>omega) (by
      split
      ·rename_i hc
       have:z≠2:=fun e=>hn1 ⟨e,by omega⟩
       omega
      ·decide)
     refine⟨x.getD i 0::t,by rw[e1,List.append_assoc];rfl,?_⟩
     rw[nM,if_neg (fun hc=>?_),e2,hd]
     have hz2:z=2:=by omega
     have h3:¬x.getD i 0<3:=fun q=>hn1 ⟨hz2,q⟩
     exact hz ⟨hz2,by omega⟩
theorem Es{x q:List Int}(h:i_ x x.length [] 0 0=some q):(gT q q.length).1=x:=by
 obtain⟨t,e1,e2⟩:=uY x.length [] 0 0 q h rfl (Int.le_refl _) (by decide)
 rw[List.nil_append]at e1
 subst e1
 rw[uW,e2,List.drop_zero]
end Go.Proofs.YtagpkhindehcbaaGreat
namespace Go.Proofs.YtagpkhindehcbaaGreat
open Go.Xm
variable [ax]
theorem kN{B X:List Bool}{r':Nat×Bool}{s:List Bool}(h:xd B (X.length,false) r' s)(hp:X <+: B):X++s <+: B/\r'=((X++s).length,false):=by
 have e:B.take r'.1=X++s:=by rw[h.e];congr 1;exact(List.prefix_iff_eq_take.1 hp).symm
 exact⟨by rw[<-e];exact List.take_prefix _ _,Prod.ext (by rw[h.n,List.length_append]) h.b⟩
theorem iI{b:Bool}(h:b=true->False):b=false:=by cases b with|false=>rfl|true=>exact absurd rfl h
theorem tL{B:List Bool}:∀(k:Nat) (x:Int) (r:Nat×Bool),r.2=true->(iB B k x r).2.2=true
 | 0,_,_,h=>h
 | k+1,x,r,h=>tL k _ _ (fy h)
theorem nD{B:List Bool}{n:Nat}{r:Nat×Bool}(h:r.2=true):(bH B n r).2.2=true:=tL n 0 r h
theorem CW{C:Cd}{B:List Bool}:∀(k:Nat) (x:Int) (r:Nat×Bool),r.2=true->(qJ C B k x r).2.2=true
 | 0,_,_,_=>rfl
 | k+1,x,r,h=>by rw[qJ,if_pos (.inl (fy h))]
theorem sI{C:Cd}{B:List Bool}{r:Nat×Bool}(h:r.2=true):(kO C B r).2.2=true:=CW _ _ _ h
theorem He{B:List Bool}{r:Nat×Bool}(h:r.2=true):(eI B r).2.2=true:=by
 have h1:(lI B r).2.2=true:=nD (sI h)
 unfold eI
 split
 ·dsimp only
  split
  ·rfl
  ·exact h1
 ·exact h1
theorem yJ{B:List Bool}{e:Int×Int}{r:Nat×Bool}(h:r.2=true):(oz B e r).2.2=true:=by
 have h1:(tf B r).2=true:=by
  unfold tf br cp
  have:(if(!r.2&&B.getD r.1 false)=true then((0:Int),bd B r)else kp B 13 1 (bd B r)).2.2=true:=by
   rw[h];exact pW _ _ _ (fy h)
  rw[this]
  exact pW _ _ _ (fy this)
 unfold oz
 rw[if_pos (.inl h1)]
theorem Kr{a v:Int}(hv:0<=v/\v<4)(h:1<=a+n8 v/\a+n8 v<=31):dt a (a+n8 v)=(v,true):=by
 have:v=0\/v=1\/v=2\/v=3:=by omega
 rcases this with rfl|rfl|rfl|rfl
 ·rw[show n8 0 = -2 from rfl]at h ⊢
  unfold dt
  rw[if_neg (by omega)]
  repeat' split
  all_goals first|rfl|(exfalso;omega)
 ·rw[show n8 1 = -1 from rfl]at h ⊢
  unfold dt
  rw[if_neg (by omega)]
  repeat' split
  all_goals first|rfl|(exfalso;omega)
 ·rw[show n8 2=1 from rfl]at h ⊢
  unfold dt
  rw[if_neg (by omega)]
  repeat' split
  all_goals first|rfl|(exfalso;omega)
 ·rw[show n8 3=2 from rfl]at h ⊢
  unfold dt
  rw[if_neg (by omega)]
  repeat' split
  all_goals first|rfl|(exfalso;omega)
structure HL(S:bm)(X B:List Bool)(m:Mb)(z:f9):Prop where
 pre:X++aA S m <+: B
 r:z.r=((X++aA S m).length,false)
 kind:0<=m.kind/\m.kind<=4
 alo:S.inter=false->alone m=true
 st:m.kind=4->(dt S.qp m.qp).2=true
 qp:m.kind≠4->m.qp=S.qp
theorem va{S R:bm}(hR:Rel S R){X B:List Bool}(hp:X <+: B){z:f9}(hz:eP R B (X.length,false)=z)(he:z.r.2=false){m:Mb}(hk:m.kind=z.m.kind)(hq:m.qp=z.m.qp):HL S X B m z:=by
 obtain⟨K,r1,h1⟩:∃K r1,jx R B (X.length,false)=(K,r1):=⟨_,_,rfl⟩
 obtain⟨Q,r2,h2⟩:∃Q r2,CB R B (K,r1)=(Q,r2):=⟨_,_,rfl⟩
 have ez:z=⟨{lC with kind:=K,qp:=Q},{R with qp:=Q},r2⟩:=by
  rw[<-hz];unfold eP;rw[h1,h2]
 subst ez
 have hk:m.kind=K:=hk
 have hq:m.qp=Q:=hq
 have he:r2.2=false:=he
 subst hk hq
 unfold CB at h2
 dsimp only at h2
 have hr1:r1.2=false:=iI fun ht=>by
  split at h2
  ·have hb:(bH B 2 r1).2.2=true:=nD ht
   split at h2
   ·rw[<-(Prod.mk.inj h2).2]at he;cases he
   ·rw[<-(Prod.mk.inj h2).2,hb]at he;cases he
  ·rw[<-(Prod.mk.inj h2).2,ht]at he;cases he
 have hkind:∃s,X++s <+: B/\r1=((X++s).length,false)/\(0<=m.kind/\m.kind<=4)/\(S.inter=false->alone m=true)/\(if S.inter=true then cV cM m.kind.toNat else [decide (m.kind=4)])=s:=by
  unfold jx at h1
  rw[hR.inter]at h1
  by_cases hi:S.inter=true
  ·rw[if_pos hi]at h1
   obtain⟨a1,k0,k1⟩:=zg LH h1 hr1
   obtain⟨b1,b2⟩:=kN a1 hp
   have k1:m.kind<5:=k1
   exact⟨_,b1,b2,⟨k0,by omega⟩,fun h=>(by rw[hi]at h;cases h),if_pos hi⟩
  ·rw[if_neg hi]at h1
   have e1:=congrArg Prod.fst h1
   have e2:=congrArg Prod.snd h1
   dsimp only at e1 e2
   rw[<-e2]at hr1
   obtain⟨b1,b2⟩:=kN (lX hr1) hp
   refine⟨_,b1,by rw[<-e2];exact b2,?_,fun _=>?_,?_⟩
   ·rw[<-e1];split<;>omega
   ·refine decide_eq_true ?_
    rw[<-e1];split<;>simp
   ·rw[if_neg hi,<-e1]
    cases cp B (X.length,false)<;>rfl
 obtain⟨s,p1,p2,k0,al,es⟩:=hkind
 by_cases h4:m.kind=4
 ·rw[if_pos h4]at h2
  obtain⟨v,r3,h3⟩:∃v r3,bH B 2 r1=(v,r3):=⟨_,_,rfl⟩
  have hv:=iM B 2 r1
  rw[h3]at h2 hv
  have hv:0<=v/\v<4:=hv
  dsimp only at h2
  split at h2
  ·rw[<-(Prod.mk.inj h2).2]at he;cases he
  ·rename_i hn
   have q1:=(Prod.mk.inj h2).1
   have q2:=(Prod.mk.inj h2).2
   subst q2
   rw[hR.qp]at q1 hn
   have hst:=Kr (a:=S.qp) hv (by omega)
   rw[q1]at hst
   have a2:=uL h3 he (by rw[p2];exact p1.length_le)
   rw[p2]at a2
   obtain⟨b1,b2⟩:=kN a2 p1
   have ek:aA S m=s++ed v 2:=by unfold aA;rw[es,if_pos h4,hst]
   refine⟨by rw[ek,<-List.append_assoc];exact b1,by rw[ek,<-List.append_assoc];exact b2,k0,al,fun _=>by rw[hst],fun h=>absurd h4 h⟩
 ·rw[if_neg h4]at h2
  have q1:=(Prod.mk.inj h2).1
  have q2:=(Prod.mk.inj h2).2
  subst q2
  have ek:aA S m=s:=by unfold aA;rw[es,if_neg h4,List.append_nil]
  refine⟨by rw[ek];exact p1,by rw[ek];exact p2,k0,al,fun h=>absurd h h4,fun _=>by rw[<-q1,hR.qp]⟩
theorem ur{x:bm×List Bool}{z:f9}(hR:Rel x.1 z.S){B:List Bool}(hp:x.2 <+: B)(hz:z.r=(x.2.length,false)){mb:Int}{k:Nat}(he:(rk B mb z k).r.2=false){m:Mb}(hv:m.v k=(rk B mb z k).m.v k):(au m mb x k).2 <+: B/\dH (m.v k)=true/\(rk B mb z k).r=((au m mb x k).2.length,false)/\Rel (au m mb x k).1 (rk B mb z k).S:=by
 obtain⟨v,r1,h1⟩:∃v r1,oz B (b_ z.S.M z.S.cols z.S.rows mb k) z.r=(v,r1):=⟨_,_,rfl⟩
 have e:rk B mb z k=⟨{z.m with v:=ku z.m.v k v},{z.S with M:=aW z.S.M z.S.cols mb k v},r1⟩:=by unfold rk;rw[h1]
 rw[e]at he hv ⊢
 have hv:m.v k=v:=by rw[hv];exact if_pos rfl
 subst hv
 obtain⟨a1,hr⟩:=Fj h1 he
 rw[hz]at a1
 obtain⟨b1,b2⟩:=kN a1 hp
 rw[hR.cols,hR.rows,p9 hR.M]at b1 b2
 exact⟨b1,hr,b2,EY hR mb k (m.v k)⟩
theorem jQ{B:List Bool}{mb:Int}{z:f9}{k:Nat}(h:z.r.2=true):(rk B mb z k).r.2=true:=yJ h
structure Oi(S:bm)(X B:List Bool)(m:Mb)(mb:Int)(z:f9):Prop where
 pre:(bE S X m mb).2 <+: B
 r:z.r=((bE S X m mb).2.length,false)
 vecs:∀k,k<4->oy m k
 edge:alone m=false->m.edge=false
theorem AK{S R:bm}(hR:Rel S R){X B:List Bool}(hp:X <+: B){mb:Int}{z1 z:f9}(hz1:eP R B (X.length,false)=z1)(hz:cm B mb z1=z)(he:z.r.2=false){m:Mb}(hk:m.kind=z1.m.kind)(hq:m.qp=z1.m.qp)(h0:m.kind≠0)(hv:∀k,k<4->m.v k=z.m.v k)(hed:m.edge=z.m.edge):HL S X B m z1/\Oi S X B m mb z:=by
 have he1:z1.r.2=false:=iI fun ht=>by
  unfold cm at hz
  split at hz
  ·rw[<-hz]at he
   rw[yJ ht]at he;cases he
  ·split at hz
   ·rw[<-hz]at he
    rw[jQ (jQ (jQ (jQ ht)))]at he;cases he
   ·rw[<-hz]at he
    rw[fy ht]at he;cases he
 have hh:=va hR hp hz1 he1 hk hq
 have hS1:z1.S = {R with qp:=m.qp}:=by
  rw[hq,<-hz1];rfl
 have hm1:z1.m = {lC with kind:=m.kind,qp:=m.qp}:=by
  rw[hk,hq,<-hz1];rfl
 refine⟨hh,?_⟩
 unfold cm at hz
 rw[<-hk]at hz
 by_cases h1:m.kind=1
 ·rw[if_pos h1]at hz
  obtain⟨v,r1,h2⟩:∃v r1,oz B (b_ z1.S.M z1.S.cols z1.S.rows mb 0) z1.r=(v,r1):=⟨_,_,rfl⟩
  rw[h2]at hz
  subst hz
  have he:r1.2=false:=he
  have hv:∀k,k<4->m.v k=v:=hv
  obtain⟨a1,hr⟩:=Fj h2 he
  rw[hh.r]at a1
  obtain⟨b1,b2⟩:=kN a1 hh.pre
  have e:b_ z1.S.M z1.S.cols z1.S.rows mb 0=b_ S.M S.cols S.rows mb 0:=by
   rw[hS1]
   show b_ R.M R.cols R.rows mb 0=_
   rw[hR.cols,hR.rows,p9 hR.M]
  rw[e,<-hv 0 (by decide)]at b1 b2
  have eH:bE S X m mb=(aY (au m mb (S,X++aA S m) 0).1 mb m.v,(au m mb (S,X++aA S m) 0).2):=by unfold bE;rw[if_neg h0,if_pos h1]
  refine⟨by rw[eH];exact b1,by rw[eH];exact b2,fun k hk4=>⟨by rw[hv k hk4];exact hr,fun _=>by rw[hv k hk4,hv 0 (by decide)],fun h=>absurd h1 h⟩,fun _=>?_⟩
  rw[hed,hm1];rfl
 ·rw [if_neg h1]at hz
  by_cases h2:m.kind=2
  ·rw[if_pos h2]at hz
   have i0:Rel (S,X++aA S m).1 z1.S:=by
    rw[hS1]
    exact⟨hR.inter,hh.qp (by omega),hR.cols,hR.rows,hR.M,hR.a,hR.b,hR.c⟩
   obtain⟨z2,e2⟩:∃z2,rk B mb z1 0=z2:=⟨_,rfl⟩
   obtain⟨z3,e3⟩:∃z3,rk B mb z2 1=z3:=⟨_,rfl⟩
   obtain⟨z4,e4⟩:∃z4,rk B mb z3 2=z4:=⟨_,rfl⟩
   rw[e2,e3,e4]at hz
   have n4:z4.r.2=false:=iI fun ht=>by rw[<-hz,jQ ht]at he;cases he
   have n3:z3.r.2=false:=iI fun ht=>by rw[<-e4,jQ ht]at n4;cases n4
   have n2:z2.r.2=false:=iI fun ht=>by rw[<-e3,jQ ht]at n3;cases n3
   have w:∀{z z':f9} {k j:Nat},rk B mb z k=z'->j≠k->z'.m.v j=z.m.v j:=fun h hj=>by rw[<-h];exact if_neg hj
   have v0:m.v 0=(rk B mb z1 0).m.v 0:=by rw[hv 0 (by decide),w hz (by decide),w e4 (by decide),w e3 (by decide),e2]
   have v1:m.v 1=(rk B mb z2 1).m.v 1:=by rw[hv 1 (by decide),w hz (by decide),w e4 (by decide),e3]
   have v2:m.v 2=(rk B mb z3 2).m.v 2:=by rw[hv 2 (by decide),w hz (by decide),e4]
   have v3:m.v 3=(rk B mb z4 3).m.v 3:=by rw[hv 3 (by decide),hz]
   have s0:=ur (mb:=mb) (k:=0) i0 hh.pre hh.r (by rw[e2];exact n2) v0
   rw[e2]at s0
   have s1:=ur (mb:=mb) (k:=1) s0.2.2.2 s0.1 s0.2.2.1 (by rw[e3];exact n3) v1
   rw[e3]at s1
   have s2:=ur (mb:=mb) (k:=2) s1.2.2.2 s1.1 s1.2.2.1 (by rw[e4];exact n4) v2
   rw[e4]at s2
   have s3:=ur (mb:=mb) (k:=3) s2.2.2.2 s2.1 s2.2.2.1 (by rw[hz];exact he) v3
   rw[hz]at s3
   have eH:(bE S X m mb).2=(au m mb (au m mb (au m mb (au m mb (S,X++aA S m) 0) 1) 2) 3).2:=by unfold bE;rw[if_neg h0,if_neg h1,if_pos h2]
   refine⟨by rw[eH];exact s3.1,by rw[eH];exact s3.2.2.1,fun k hk4=>⟨?_,fun h=>absurd h2 h,fun _ h=>absurd h2 h⟩,fun _=>?_⟩
   ·match k,hk4 with
    | 0,_=>exact s0.2.1
    | 1,_=>exact s1.2.1
    | 2,_=>exact s2.2.1
    | 3,_=>exact s3.2.1
   ·have we:∀{z z':f9} {k:Nat},rk B mb z k=z'->z'.m.edge=z.m.edge:=fun h=>by rw[<-h];rfl
    rw[hed,we hz,we e4,we e3,we e2,hm1];rfl
  ·rw[if_neg h2]at hz
   subst hz
   have he:(bd B z1.r).2=false:=he
   have hed:m.edge=cp B z1.r:=hed
   rw[hh.r]at he
   obtain⟨b1,b2⟩:=kN (lX he) hh.pre
   rw[<-hh.r,<-hed]at b1 b2
   have eH:(bE S X m mb).2=(X++aA S m)++[m.edge]:=by unfold bE;rw[if_neg h0,if_neg h1,if_neg h2]
   have h34:m.kind=3\/m.kind=4:=by have:=hh.kind;omega
   have hvz:∀k,k<4->m.v k=(0,0):=fun k hk4=>by
    rw[hv k hk4]
    show z1.m.v k=(0,0)
    rw[hm1];rfl
   refine⟨by rw[eH];exact b1,by rw[eH];exact b2,fun k hk4=>⟨by rw[hvz k hk4];rfl,fun _=>by rw[hvz k hk4,hvz 0 (by decide)],fun _ _=>hvz k hk4⟩,fun h=>?_⟩
   rw[show alone m=true from decide_eq_true h34]at h;cases h
theorem oZ{B:List Bool}{mb:Int}{z:f9}{k:Nat}(h:z.r.2=true):(ot B mb z k).r.2=true:=by
 unfold ot
 dsimp only
 split
 ·rfl
 ·exact He h
theorem AX{B:List Bool}{mb:Int}{z:f9}{k:Nat}:∀n,k<n->(cY B mb z n).m.lev (k*64)=oW B mb (cY B mb z k) k
 | 0,h=>absurd h (Nat.not_lt_zero _)
 | n + 1,h=>by
   show cn (cY B mb z n).m.lev (n*64) _ (k*64)=_
   unfold cn
   by_cases hkn:k=n
   ·subst hkn;rw[if_pos rfl]
   ·rw[if_neg (by omega)]
    exact AX n (by omega)
theorem IP{m:Mb}{mb:Int}(ha:alone m=true)(hg:jJ m){x0:oC}{z:f9}(hz:oJ x0.S x0.B m z){B:List Bool}(hp:x0.B <+: B):∀k,k<=6->(∀j,j<k->m.lev (j*64)=oW B mb (cY B mb z j) j)->(cY B mb z k).r.2=false->∀x,fH m mb x0 k=some x->x.B <+: B:=by
 intro k
 induction k with
 | zero=>intro _ _ _ x hx;cases hx;exact hp
 | succ k ih=>
   intro hk hl he x hx
   obtain⟨y,r,hy,hr,rfl⟩:=gy hx
   have eB:(cz m mb k y (nB m y.S mb k r)).B=y.B++b6 (aL m k 0-(aZ y.S mb k m.qp).2):=if_pos ha
   have he0:(cY B mb z k).r.2=false:=iI fun ht=>by
    have:(cY B mb z (k+1)).r.2=true:=oZ ht
    rw[this]at he;cases he
   have hyp:=ih (by omega) (fun j hj=>hl j (by omega)) he0 y hy
   have h:=sM ha hg hz k (by omega) y hy hyp
   have hlk:=hl k (by omega)
   obtain⟨w,hw⟩:∃w,cY B mb z k=w:=⟨_,rfl⟩
   rw[hw]at h he0 hlk
   have he:(ot B mb w k).r.2=false:=by rw[<-hw];exact he
   unfold ot at he
   dsimp only at he
   have hnb:¬sL B mb w k:=fun hb=>by rw[if_pos hb]at he;cases he
   rw[if_neg hnb]at he
   obtain⟨d,r1,hd⟩:∃d r1,eI B w.r=(d,r1):=⟨_,_,rfl⟩
   rw[hd]at he
   have a1:=Nt hd he
   rw[h.r]at a1
   obtain⟨b1,_⟩:=kN a1 hyp
   rw[eB]
   have e0:aL m k 0=m.lev (k*64):=by unfold aL;rw[Nat.add_zero]
   have ev:m.lev (k*64)=(aZ y.S mb k m.qp).2+d:=by
    rw[hlk]
    unfold oW
    rw[if_neg hnb]
    unfold AY
    rw[hd,h.qp,B5 h.rel]
   rw[e0,ev,show(aZ y.S mb k m.qp).2+d-(aZ y.S mb k m.qp).2=d by omega]
   exact b1
theorem C4{B:List Bool}{mb:Int}{x:f9}{k:Nat}:0<=oW B mb x k/\oW B mb x k<=127:=by
 unfold oW
 by_cases h:sL B mb x k
 ·rw[if_pos h];decide
 ·rw[if_neg h];unfold sL at h;omega
theorem Mh:∀(a a':Fin 16) (c c':Fin 4),(∀j:Fin 6,kd (a.val:Int) (c.val:Int) j.val=kd (a'.val:Int) (c'.val:Int) j.val)->a=a'/\c=c':=by decide +kernel
theorem Kz{S R : bm}(hR:Rel S R)(hT:cg S.M){m:Mb}(hg:jJ m){mb:Int}(hf:lp S m){X bw B:List Bool}(hp:X <+: B){S':bm}{X' bw':List Bool}(hput:hZ S X bw m mb=some (S',X',bw')){x:f9}{has:Nat->Bool}(hx:bY R B mb (X.length,false)=(x,has))(he:x.r.2=false)(ho:xB m x.m)(hh:∀k,k<6->has k=decide (0<(tZ S X m mb k).length)):X' <+: B:=by
 obtain⟨z1,hz1⟩:∃z1,eP R B (X.length,false)=z1:=⟨_,rfl⟩
 unfold bY at hx
 rw[hz1]at hx
 unfold KC at hx
 unfold hZ at hput
 by_cases h0:m.kind=0
 ·rw [if_pos h0]at hput
  have e2:=(Prod.mk.inj (Prod.mk.inj (Option.some.inj hput)).2).1
  have hk1 : z1.m.kind=0:=by
   split at hx
   ·assumption
   ·rename_i hn
    exfalso
    have hkx:x.m.kind=z1.m.kind:=by
     have e1:=congrArg (fun q=>q.1.m.kind) hx
     have w1:∀y:f9,(b8 B mb y).m.kind=y.m.kind:=fun y=>by
      unfold b8
      split
      ·have:∀k,(cY B mb y k).m.kind=y.m.kind:=fun k=>by
        induction k with
        | zero=>rfl
        | succ k ih=>exact ih
       exact this 6
      ·rfl
     have w2:∀y:f9,(cm B mb y).m.kind=y.m.kind:=fun y=>by
      unfold cm
      split
      ·rfl
      ·split<;>rfl
     rw[<-e1]
     show(b8 B mb (bG mb (cm B mb z1))).m.kind=_
     rw[w1]
     exact w2 z1
    rw[ho.kind,h0]at hkx
    exact hn hkx.symm
  rw[if_pos hk1]at hx
  have e1:bG mb z1=x:=congrArg Prod.fst hx
  have hm:x.m=z1.m:=by rw[<-e1];rfl
  have hh:=va (m:=m) hR hp hz1 (by rw[<-e1]at he;exact he) (by rw[<-hm];exact ho.kind.symm) (by rw[<-hm];exact ho.qp.symm)
  rw[<-e2]
  exact hh.pre
 ·rw [if_neg h0]at hput
  obtain⟨y,hy,e⟩:=Option.map_eq_some_iff.1 hput
  have e2:=(Prod.mk.inj (Prod.mk.inj e).2).1
  obtain⟨z,hz⟩:∃z,cm B mb z1=z:=⟨_,rfl⟩
  obtain⟨w,hw⟩:∃w,b8 B mb (bG mb z)=w:=⟨_,rfl⟩
  have hk1:z1.m.kind≠0:=fun hc=>by
   rw[if_pos hc]at hx
   have e1:bG mb z1=x:=congrArg Prod.fst hx
   have:x.m.kind=0:=by rw[<-e1];exact hc
   rw[ho.kind]at this
   exact h0 this
  rw[if_neg hk1,hz,hw]at hx
  obtain⟨pt,r1,h1⟩:∃p r1,kO cP B w.r=(p,r1):=⟨_,_,rfl⟩
  obtain⟨cl,r2,h2⟩:∃c r2,bH B 2 r1=(c,r2):=⟨_,_,rfl⟩
  unfold wo at hx
  rw[h1]at hx
  dsimp only at hx
  rw[h2]at hx
  have ex:=congrArg Prod.fst hx
  have eh:=congrArg Prod.snd hx
  dsimp only at ex eh
  have hr2:r2.2=false:=by rw[<-ex]at he;exact he
  have hr1:r1.2=false:=iI fun ht=>by
   have:=nD (B:=B) (n:=2) ht
   rw[h2]at this
   rw[this]at hr2;cases hr2
  have hwe:w.r.2=false:=iI fun ht=>by
   have:=sI (C:=cP) (B:=B) ht
   rw[h1]at this
   rw[this]at hr1;cases hr1
  have hze:z.r.2=false:=iI fun ht=>by
   have : w.r.2=true:=by
    rw[<-hw]
    unfold b8
    split
    ·have:∀k,(cY B mb (bG mb z) k).r.2=true:=fun k=>by
      induction k with
      | zero=>exact ht
      | succ k ih=>exact oZ ih
     exact this 6
    ·exact ht
   rw[this]at hwe;cases hwe
  have hxm:x.m=w.m:=by rw[<-ex]
  have wk:w.m.kind=z.m.kind/\w.m.qp=z.m.qp/\w.m.v=z.m.v/\w.m.edge=z.m.edge:=by
   rw[<-hw]
   unfold b8
   split
   ·have:∀k,(cY B mb (bG mb z) k).m.kind=z.m.kind/\(cY B mb (bG mb z) k).m.qp=z.m.qp/\(cY B mb (bG mb z) k).m.v=z.m.v/\(cY B mb (bG mb z) k).m.edge=z.m.edge:=fun k=>by
     induction k with
     | zero=>exact⟨rfl,rfl,rfl,rfl⟩
     | succ k ih=>exact ih
    exact this 6
   ·exact⟨rfl,rfl,rfl,rfl⟩
  have zk:z.m.kind=z1.m.kind/\z.m.qp=z1.m.qp:=by
   rw[<-hz]
   unfold cm
   split
   ·exact⟨rfl,rfl⟩
   ·split<;>exact⟨rfl,rfl⟩
  obtain⟨b1,b2⟩:=AK (m:=m) hR hp hz1 hz hze (by rw[<-zk.1,<-wk.1,<-hxm];exact ho.kind.symm) (by rw[<-zk.2,<-wk.2.1,<-hxm];exact ho.qp.symm) h0 (fun k hk=>by rw[<-wk.2.2.1,<-hxm];exact(ho.v k hk).symm) (by rw[<-wk.2.2.2,<-hxm];exact ho.edge.symm)
  have hho:=A_ (mb:=mb) hR hT hg.ok hf h0 b2.pre
  rw[hz1,hz]at hho
  have hev:∀k,tZ S X m mb k=y.ev k:=fun k=>by unfold tZ;rw[if_neg h0,hy]
  have hyB:y.B <+: B/\w.r=(y.B.length,false):=by
   have eal:alone z.m=alone m:=by unfold alone;rw[<-wk.1,<-hxm,ho.kind]
   have eal2:alone (bG mb z).m=alone m:=eal
   unfold b8 at hw
   rw[eal2]at hw
   by_cases ha:alone m=true
   ·rw[if_pos ha]at hw
    have hl:∀j,j<6->m.lev (j*64)=oW B mb (cY B mb (bG mb z) j) j:=fun j hj=>by
     have q1:=ho.lev (j*64)
     rw[if_pos ⟨ha,by omega,by omega⟩,hxm,<-hw,AX 6 hj]at q1
     exact q1.symm
    have q:=IP ha hg (x0:=⟨(bE S X m mb).1,(bE S X m mb).2,0,0,fun _=>[]⟩) hho b2.pre 6 (Nat.le_refl _) hl (by rw[hw];exact hwe) y hy
    have q2:=sM ha hg (x0:=⟨(bE S X m mb).1,(bE S X m mb).2,0,0,fun _=>[]⟩) hho 6 (Nat.le_refl _) y hy q
    rw[hw]at q2
    exact⟨q,q2.r⟩
   ·rw[if_neg ha]at hw
    have hs:=uN (by simpa using ha) 6 y hy
    have hs2:y.B=(bE S X m mb).2:=hs.2
    rw[hs2,<-hw]
    exact⟨b2.pre,b2.r⟩
  rw[hyB.2]at h1
  obtain⟨a1,p0,p1⟩:=zg LI h1 hr1
  have p1:pt<16:=p1
  obtain⟨c1,c2⟩:=kN a1 hyB.1
  have hcl:=iM B 2 r1
  rw[h2]at hcl
  have hcl:0<=cl/\cl<4:=hcl
  have a2:=uL h2 hr2 (by rw[c2];exact c1.length_le)
  rw[c2]at a2
  obtain⟨d1,d2⟩:=kN a2 c1
  obtain⟨hho2,_⟩:=EB 6 (Nat.le_refl _) y hy
  have hinj:=Mh ⟨y.pat.toNat,by have:=hho2.pat;omega⟩ ⟨pt.toNat,by omega⟩ ⟨y.col.toNat,by have:=hho2.col;omega⟩ ⟨cl.toNat,by omega⟩ (fun j=>by
   have e1:((y.pat.toNat:Nat):Int)=y.pat:=by have:=hho2.pat;omega
   have e2:((y.col.toNat:Nat):Int)=y.col:=by have:=hho2.col;omega
   have e3:((pt.toNat:Nat):Int)=pt:=by omega
   have e4:((cl.toNat:Nat):Int)=cl:=by omega
   show kd ((y.pat.toNat:Nat):Int) ((y.col.toNat:Nat):Int) j.val=kd ((pt.toNat:Nat):Int) ((cl.toNat:Nat):Int) j.val
   rw[e1,e2,e3,e4,hho2.has j.val j.isLt,<-hev,<-hh j.val j.isLt,<-eh])
  have i1:y.pat.toNat=pt.toNat:=congrArg Fin.val hinj.1
  have i2:y.col.toNat=cl.toNat:=congrArg Fin.val hinj.2
  have i3:y.col=cl:=by have:=hho2.col;omega
  rw[<-e2]
  unfold fg
  rw[i1,i3]
  exact d1
end Go.Proofs.YtagpkhindehcbaaGreat
namespace Go.Proofs.YtagpkhindehcbaaGreat
open Go.Xm
variable [ax]
theorem H9:∀(l:List Ev) (a:Int) (g f:Nat->Int),(∀e∈l,lT e)->0<=a->bk l a g=some f->∀j:Nat,(j:Int)<a->f j=g j
 | [],a,g,f,_,_,h,j,hj=>by cases h;rfl
 | e :: l,a,g,f,hok,ha,h,j,hj=>by
   have he:=(hok e (List.mem_cons_self ..)).run
   rw[bk]at h
   split at h
   ·cases h
   ·rw[H9 l _ _ f (fun x hx=>hok x (List.mem_cons_of_mem _ hx)) (by omega) h j (by omega)]
    unfold cn
    rw[if_neg (by omega)]
theorem zF{f:Nat->Int}:∀(n i:Nat) (run:Int),(∀j,i<=j->j<i+n->f j=0)->eF f n i run = []
 | 0,_,_,_=>rfl
 | n+1,i,run,h=>by
   rw[eF,if_pos (h i (Nat.le_refl _) (by omega))]
   exact zF n (i+1) _ fun j h1 h2=>h j (by omega) (by omega)
theorem vW{f:Nat->Int}:∀(d i n:Nat) (run:Int),(∀j,i<=j->j<i+d->f j=0)->eF f (d+n) i run=eF f n (i+d) (run+(d:Nat))
 | 0,i,n,run,_=>by rw[Nat.zero_add,Nat.add_zero];congr 1;omega
 | d+1,i,n,run,h=>by
   rw[show d+1+n=(d+n)+1 by omega,eF,if_pos (h i (Nat.le_refl _) (by omega)),vW d (i+1) n (run+1) fun j h1 h2=>h j (by omega) (by omega)]
   rw[show i+1+d=i+(d+1) by omega,show run+1+((d:Nat):Int)=run+((d+1:Nat):Int) by omega]
theorem Em:∀(l:List Ev) (i:Nat) (g f:Nat->Int),(∀e∈l,lT e)->i<=64->(∀j,i<=j->g j=0)->bk l (i:Nat) g=some f->eF f (64-i) i 0=l.map fun e=>(e.1,e.2.1,false)
 | [],i,g,f,_,hi,hg,h=>by
   cases h
   exact zF _ _ _ fun j h1 _=>hg j h1
 | e :: l,i,g,f,hok,hi,hg,h=>by
   have he:=hok e (List.mem_cons_self ..)
   have hr:=he.run
   have hokl:∀x∈l,lT x:=fun x hx=>hok x (List.mem_cons_of_mem _ hx)
   rw[bk]at h
   split at h
   ·cases h
   ·rename_i h63
    obtain⟨d,hd⟩:∃d:Nat,e.1=(d:Nat):=⟨e.1.toNat,by omega⟩
    have e1:((i:Nat):Int)+e.1+1=((i+d+1:Nat):Int):=by omega
    have e2:(((i:Nat):Int)+e.1).toNat=i+d:=by omega
    rw[e1,e2]at h
    have hlow:=H9 l _ _ f hokl (by omega) h
    have hz:∀j,i<=j->j<i+d->f j=0:=fun j h1 h2=>by
     rw[hlow j (by omega)]
     unfold cn
     rw[if_neg (by omega)]
     exact hg j h1
    have hp:f (i+d)=e.2.1:=by
     rw[hlow (i+d) (by omega)]
     unfold cn
     rw[if_pos rfl]
    have hs:=vW (f:=f) d i (64-(i+d)) 0 hz
    rw[show d+(64-(i+d))=64-i by omega]at hs
    rw[hs,show 64-(i+d)=(64-(i+d+1))+1 by omega,eF,if_neg (by rw[hp];exact he.nz)]
    have ih:=Em l (i+d+1) _ f hokl (by omega) (fun j hj=>by
     unfold cn
     rw[if_neg (by omega)]
     exact hg j (by omega)) h
    rw[ih,hp,Int.zero_add,<-hd]
    rfl
theorem ve:∀(l:List Ev),(∀j,j<l.length->(l.getD j default).2.2=decide (j+1=l.length))->iQ (l.map fun e=>(e.1,e.2.1,false))=l
 | [],_=>rfl
 | [e],h=>by
   have h0:e.2.2=true:=h 0 Nat.one_pos
   show [((e.1,e.2.1,true):Ev)] = [e]
   rw[<-h0]
 | e :: e2::l,h=>by
   have h0:e.2.2=decide (0+1=(e::e2::l).length):=h 0 (Nat.succ_pos _)
   rw[decide_eq_false (by simp)]at h0
   have ih:=ve (e2::l) fun j hj=>by
    have h1:((e2::l).getD j default).2.2=decide (j+1+1=(e2::l).length+1):=h (j+1) (Nat.succ_lt_succ hj)
    rw[h1]
    exact decide_eq_decide.2 ⟨fun h=>by omega,fun h=>by omega⟩
   show(e.1,e.2.1,false)::iQ ((e2::l).map fun e=>(e.1,e.2.1,false))=_
   rw[ih,<-h0]
theorem LV{l:List Ev}(h:jC l):∀e∈l,lT e:=fun e he=>by
 obtain⟨j,hj,rfl⟩:=List.mem_iff_getElem.1 he
 have:=h.ok j hj
 rw[List.getD_eq_getElem?_getD,List.getElem?_eq_getElem hj]at this
 exact this
theorem FH{l:List Ev}(h:jC l){st:Nat}(hst:st<=1){f:Nat->Int}(hf:iX l (st:Nat)=some f):dV f st=l:=by
 rw[AF]at hf
 unfold dV
 rw[Em l st _ f (LV h) (by omega) (fun _ _=>rfl) hf]
 exact ve l h.last
theorem pn{f g:Nat->Int}:∀(n i:Nat) (run:Int),(∀j,i<=j->j<i+n->f j=g j)->eF f n i run=eF g n i run
 | 0,_,_,_=>rfl
 | n+1,i,run,h=>by
   rw[eF,eF,h i (Nat.le_refl _) (by omega),pn n (i+1) _ fun j h1 h2=>h j (by omega) (by omega),pn n (i+1) _ fun j h1 h2=>h j (by omega) (by omega)]
theorem q7{f g:Nat->Int}{st:Nat}(h:∀j,st<=j->j<64->f j=g j):dV f st=dV g st:=by
 unfold dV
 rw[pn _ _ _ fun j h1 h2=>h j h1 (by omega)]
theorem Gz(st:Nat):dV (fun _=>0) st = []:=by
 unfold dV
 rw[zF _ _ _ fun _ _ _=>rfl]
 rfl
theorem r5{o:Int}(h:o=0\/o=1\/o=2)(f:Nat->Int){j:Nat}(hj:j<64):c9 o f (oD o j).toNat=f j:=zR h f 64 (Nat.le_refl _) j hj
theorem EO{o:Int}(h:o=0\/o=1\/o=2){j:Nat}(hj:j<64)(h1:1<=j):(oD o j).toNat≠0:=fun e=>by
 have h2:=kS h hj
 have h3:=BC h
 have:=EN h hj (show 0<64 by decide) (by omega)
 omega
structure Qd(S:bm)(m:Mb)(mb:Int)(k:Nat)(first:Int)(ev:List Ev)(R:bm):Prop where
 rest:∃r,fU m S mb k=some r/\nB m S mb k r=ev
 rng:∀i,i<64 -> -2047<=aL m k i/\aL m k i<=2047
 first:alone m=true->aL m k 0=first
 rel:kL (if alone m=true then bu S mb k ⟨aL m k,m.qp⟩else S) R
theorem II{S R:bm}(hR:kL S R){mb:Int}{k:Nat}{m0:Mb}{rest:Nat->Int}{R':bm}{m1:Mb}(hF:hJ R mb k m0 rest=some (R',m1))(hm:alone m0=false->m0.edge=false)(hfi:alone m0=true->0<=m0.lev (k*64)/\m0.lev (k*64)<=127)(hr:∀i,-2047<=rest i/\rest i<=2047){m:Mb}(hmk:m.kind=m0.kind)(hmq:m.qp=m0.qp)(hme:m.edge=m0.edge)(hml:∀i,i<64->aL m k i=m1.lev (k*64+i)) :
 Qd S m mb k (m0.lev (k*64)) (dV rest (if alone m=true then 1 else 0)) R':=by
 have ha:alone m=alone m0:=by unfold alone;rw[hmk]
 have hset:∀(l:Nat->Int) (i:Nat),i<64->(dD m0 k l).lev (k*64+i)=l i:=fun l i hi=>by
  show(if k*64<=k*64+i/\k*64+i<k*64+64 then l (k*64+i-k*64)else m0.lev (k*64+i))=l i
  rw[if_pos (by omega),Nat.add_sub_cancel_left]
 obtain⟨od,hod⟩:∃od,dC m.edge (aZ S mb k m.qp).1=od:=⟨_,rfl⟩
 have hor:=eQ m.edge (aZ S mb k m.qp).1
 rw[hod]at hor
 have hod2:dC m0.edge (aZ R mb k m0.qp).1=od:=by rw[<-hme,<-hmq,yD hR];exact hod
 have hst:∀i,i<64 -> -2047<=c9 od rest i/\c9 od rest i<=2047:=fun i hi=>by
  obtain⟨j,hj,he⟩:=EP hor hi
  have:=r5 hor rest hj
  rw[he,Int.toNat_natCast]at this
  rw[this];exact hr j
 unfold hJ at hF
 cases hal:alone m with
 | false=>
   rw[<-ha,hal,if_neg (by decide)]at hF
   have e1:=(Prod.mk.inj (Option.some.inj hF)).1
   have e2:=(Prod.mk.inj (Option.some.inj hF)).2
   subst e1 e2
   have hl:∀i,i<64->aL m k i=c9 0 rest i:=fun i hi=>by rw[hml i hi,hset _ i hi]
   have hz:od=0:=by rw[<-hod,hme,hm (ha▸hal)];rfl
   rw[hz]at hst hor hod
   refine⟨⟨aL m k,by unfold fU;rw[hal,if_neg (by decide)],?_⟩,fun i hi=>by rw[hl i hi];exact hst i hi,fun h=>(by rw[hal]at h;cases h),by rw[hal,if_neg (by decide)];exact hR⟩
   unfold nB
   rw[hal,if_neg (by decide),hod]
   refine q7 fun j _ hj=>?_
   unfold h_
   have:=kS hor hj
   rw[hl _ (by omega),r5 hor rest hj]
 | true =>
   rw[<-ha,hal,if_pos rfl]at hF
   have hfi:=hfi (ha▸hal)
   rw[hod2]at hF
   cases hed:m0.edge with
   | false=>
     rw[hed,if_neg (by decide)]at hF
     have e1:=(Prod.mk.inj (Option.some.inj hF)).1
     have e2:=(Prod.mk.inj (Option.some.inj hF)).2
     subst e1 e2
     have hl:∀i,i<64->aL m k i=cn (c9 od rest) 0 (m0.lev (k*64)) i:=fun i hi=>by rw[hml i hi,hset _ i hi]
     refine⟨⟨cn (aL m k) 0 0,by unfold fU;rw[hal,if_pos rfl,hme,hed,if_neg (by decide)];rfl,?_⟩,fun i hi=>?_,fun _=>by rw[hl 0 (by decide)];exact if_pos rfl,?_⟩
     ·unfold nB
      rw[hal,if_pos rfl,hod]
      refine q7 fun j h1 hj=>?_
      unfold h_
      have:=kS hor hj
      have hp:=EO hor hj h1
      unfold cn
      rw[if_neg hp,hl _ (by omega)]
      unfold cn
      rw[if_neg hp,r5 hor rest hj]
     ·rw[hl i hi]
      unfold cn
      split
      ·omega
      ·exact hst i hi
     ·rw[hal,if_pos rfl,hmq]
      exact p6 hR mb k (EF fun i hi=>(hl i hi).symm)
   | true =>
     rw[hed,if_pos rfl]at hF
     cases hmo:kh (c9 od rest) (cu R mb k m0.qp)with
     | none=>rw[hmo]at hF;cases hF
     | some l1=>
       rw[hmo]at hF
       have e1:=(Prod.mk.inj (Option.some.inj hF)).1
       have e2:=(Prod.mk.inj (Option.some.inj hF)).2
       subst e1 e2
       obtain⟨E,hE⟩:∃E,cu S mb k m.qp=E:=⟨_,rfl⟩
       have hE2:cu R mb k m0.qp=E:=by rw[<-hmq,wh hR];exact hE
       have hE0:E 0=0:=by rw[<-hE];exact wi _ _ _ _
       rw[hE2]at hmo
       unfold kh at hmo
       split at hmo
       ·cases hmo
       ·rename_i hnb
        cases hmo
        have hb:∀i,i<64 -> -2047<=c9 od rest i+E i/\c9 od rest i+E i<=2047:=fun i hi=>by
         have h1:¬c9 od rest i+E i < -2047:=fun q=>hnb ⟨i,hi,.inl q⟩
         have h2:¬2047<c9 od rest i+E i:=fun q=>hnb ⟨i,hi,.inr q⟩
         omega
        have hl:∀i,i<64->aL m k i=cn (fun i=>c9 od rest i+E i) 0 (m0.lev (k*64)) i:=fun i hi=>by rw[hml i hi,hset _ i hi]
        have hle:ov (aL m k) E=some fun i=>aL m k i-E i:=by
         refine if_neg fun⟨i,hi,hbad⟩=>?_
         unfold l4 at hbad
         rw[hl i hi]at hbad
         unfold cn at hbad
         have:=hst i hi
         by_cases h0:i=0
         ·subst h0
          rw[if_pos rfl,hE0]at hbad
          omega
         ·rw[if_neg h0]at hbad
          dsimp only at hbad
          omega
        refine⟨⟨cn (fun i=>aL m k i-E i) 0 0,by unfold fU;rw[hal,if_pos rfl,hme,hed,if_pos rfl,hE,hle];rfl,?_⟩,fun i hi=>?_,fun _=>by rw[hl 0 (by decide)];exact if_pos rfl,?_⟩
        ·unfold nB
         rw[hal,if_pos rfl,hod]
         refine q7 fun j h1 hj=>?_
         unfold h_
         have:=kS hor hj
         have hp:=EO hor hj h1
         unfold cn
         rw[if_neg hp]
         dsimp only
         rw[hl _ (by omega)]
         unfold cn
         rw[if_neg hp]
         dsimp only
         rw[r5 hor rest hj]
         omega
        ·rw[hl i hi]
         unfold cn
         split
         ·omega
         ·exact hb i hi
        ·rw[hal,if_pos rfl,hmq]
         exact p6 hR mb k (EF fun i hi=>(hl i hi).symm)
end Go.Proofs.YtagpkhindehcbaaGreat
namespace Go.Proofs.YtagpkhindehcbaaGreat
open Go.Xm
variable [ax]
theorem C5{E:List (List Ev)}{mb:Int}{has:Nat->Bool}{x y:FK}{k:Nat}(h:fK E mb has x k = .inr y):∃rest,hJ x.1 mb k x.2.1 rest=some (y.1,y.2.1)/\y.2.2=x.2.2+(if has k=true then 1 else 0)/\if has k=true then x.2.2<E.length/\iX (E.getD x.2.2 []) (eJ x.2.1)=some rest else rest=fun _=>0:=by
 unfold fK at h
 have hr:∀{u:Nat} {rest:Nat->Int},FY mb x k u rest = .inr y->hJ x.1 mb k x.2.1 rest=some (y.1,y.2.1)/\y.2.2=u:=fun {u rest} h=>by
  unfold FY at h
  cases hf:hJ x.1 mb k x.2.1 rest with
  | none=>rw[hf]at h;cases h
  | some z=>rw[hf]at h;cases h;exact⟨rfl,rfl⟩
 by_cases hh:has k=true
 ·rw [if_pos hh]at h
  split at h
  ·cases h
  ·rename_i hu
   cases hb:iX (E.getD x.2.2 []) (eJ x.2.1)with
   | none=>rw[hb]at h;cases h
   | some rest=>
     rw[hb]at h
     obtain⟨a,b⟩:=hr h
     exact⟨rest,a,by rw[b,if_pos hh],by rw[if_pos hh];exact⟨by omega,rfl⟩⟩
 ·rw[if_neg hh]at h
  obtain⟨a,b⟩:=hr h
  exact⟨fun _=>0,a,by rw[b,if_neg hh];rfl,by rw[if_neg hh]⟩
theorem u6{S:bm}{mb:Int}{k:Nat}{m:Mb}{rest:Nat->Int}{y:bm×Mb}(h:hJ S mb k m rest=some y):∃l,y.2=dD m k l:=by
 unfold hJ at h
 split at h
 ·obtain⟨l,_,h2⟩:=Option.map_eq_some_iff.1 h
  exact⟨_,by rw[<-h2]⟩
 ·cases h;exact⟨_,rfl⟩
structure Kept(m m':Mb)(k:Nat):Prop where
 kind:m'.kind=m.kind
 qp:m'.qp=m.qp
 edge:m'.edge=m.edge
 v:m'.v=m.v
 lo:∀i,i<k*64->m'.lev i=m.lev i
theorem qN{E:List (List Ev)}{mb:Int}{has:Nat->Bool}{x0:FK}{k:Nat}{y:FK}(h:ij E mb has x0 (k+1) = .inr y):∃x,ij E mb has x0 k = .inr x/\fK E mb has x k = .inr y:=by
 rw[ij]at h
 cases hx:ij E mb has x0 k with
 | inl e=>rw[hx]at h;cases h
 | inr x=>rw[hx]at h;exact⟨x,rfl,h⟩
theorem pN{E:List (List Ev)}{mb:Int}{has:Nat->Bool}{x0:FK}{k:Nat}{x:FK}(hx:ij E mb has x0 k = .inr x):∀n,k<=n->∀y,ij E mb has x0 n = .inr y->Kept x.2.1 y.2.1 k:=by
 intro n hn
 induction hn with
 | refl=>intro y hy;rw[hx]at hy;cases hy;exact⟨rfl,rfl,rfl,rfl,fun _ _=>rfl⟩
 | @step n hn ih=>
   intro y hy
   obtain⟨w,hw,hK⟩:=qN hy
   have q:=ih w hw
   obtain⟨rest,hF,_,_⟩:=C5 hK
   obtain⟨l,hl⟩:=u6 hF
   have hl:y.2.1=dD w.2.1 n l:=hl
   rw[hl]
   have hn:k<=n:=hn
   refine⟨q.kind,q.qp,q.edge,q.v,fun i hi=>?_⟩
   have h64:k*64<=n*64:=Nat.mul_le_mul_right 64 hn
   show(if n*64<=i/\i<n*64+64 then l (i-n*64)else w.2.1.lev i)=_
   rw[if_neg (by omega)]
   exact q.lo i hi
theorem zl{E:List (List Ev)}{mb:Int}{has:Nat->Bool}{x0:FK}:∀k x,ij E mb has x0 k = .inr x->∀i,k*64<=i->x.2.1.lev i=x0.2.1.lev i
 | 0,x,h=>by cases h;exact fun _ _=>rfl
 | k+1,x,h=>by
   obtain⟨w,hw,hK⟩:=qN h
   obtain⟨rest,hF,_,_⟩:=C5 hK
   obtain⟨l,hl⟩:=u6 hF
   have hl:x.2.1=dD w.2.1 k l:=hl
   intro i hi
   rw[hl]
   show(if k*64<=i/\i<k*64+64 then l (i-k*64)else w.2.1.lev i)=_
   rw[if_neg (by omega)]
   exact zl k w hw i (by omega)
def u3(E:List (List Ev))(u:Nat)(has:Nat->Bool)(j:Nat):List Ev:=if has j=true then E.getD (u+iN has j) []else []
structure Oh(E:List (List Ev))(u:Nat)(has:Nat->Bool)(m m0:Mb)(k:Nat)(x:oC)(y:FK):Prop where
 rel:kL x.S y.1
 uu:y.2.2=u+iN has k
 use:∀j,j<k->has j=true->u+iN has j<E.length
 ev:∀j,j<k->x.ev j=u3 E u has j
 rng:∀i,i<k*64 -> -2047<=m.lev i/\m.lev i<=2047
 first:alone m=true->∀j,j<k->m.lev (j*64)=m0.lev (j*64)
theorem Ia{E:List (List Ev)}(hE:∀e∈E,jC e){mb:Int}{has:Nat->Bool}{R0:bm}{m0:Mb}{u:Nat}{y6:FK}(h6:ij E mb has (R0,m0,u) 6 = .inr y6)(hm:alone m0=false->m0.edge=false)(hfi:alone m0=true->∀k,k<6->0<=m0.lev (k*64)/\m0.lev (k*64)<=127){x0:oC}(hR:kL x0.S R0) :
 ∀k,k<=6->∀y,ij E mb has (R0,m0,u) k = .inr y->∃x,fH y6.2.1 mb x0 k=some x/\Oh E u has y6.2.1 m0 k x y:=by
 intro k
 induction k with
 | zero=>
   intro _ y hy
   cases hy
   exact⟨x0,rfl,hR,rfl,fun j hj=>absurd hj (Nat.not_lt_zero _),fun j hj=>absurd hj (Nat.not_lt_zero _),fun i hi=>absurd hi (by omega),fun _ j hj=>absurd hj (Nat.not_lt_zero _)⟩
 | succ k ih=>
   intro hk y hy
   obtain⟨w,hw,hK⟩:=qN hy
   obtain⟨x,hx,hB⟩:=ih (by omega) w hw
   obtain⟨rest,hF,hu,hrest⟩:=C5 hK
   have k0:Kept m0 w.2.1 0:=pN (x0:=(R0,m0,u)) (k:=0) rfl k (Nat.zero_le _) w hw
   have k6:Kept w.2.1 y6.2.1 k:=pN hw 6 (by omega) y6 h6
   have k7:Kept y.2.1 y6.2.1 (k+1):=pN hy 6 hk y6 h6
   have hal:alone w.2.1=alone m0:=by unfold alone;rw[k0.kind]
   have hal6:alone y6.2.1=alone m0:=by unfold alone;rw[k6.kind,k0.kind]
   have hw0:w.2.1.lev (k*64)=m0.lev (k*64):=zl k w hw _ (Nat.le_refl _)
   have hst:eJ w.2.1=((if alone y6.2.1=true then 1 else 0:Nat):Int):=by rw[q9,hal,hal6]
   have hrr:(∀i,-2047<=rest i/\rest i<=2047)/\dV rest (if alone y6.2.1=true then 1 else 0)=u3 E u has k:=by
    unfold u3
    by_cases hh:has k=true
    ·rw[if_pos hh]at hrest ⊢
     obtain⟨hlt,hb⟩:=hrest
     have hok:jC (E.getD w.2.2 []):=hE _ (by rw[List.getD_eq_getElem?_getD,List.getElem?_eq_getElem hlt];exact List.getElem_mem hlt)
     have hl:=xD hok.ok hb
     rw[hst]at hb
     have hs1:(if alone y6.2.1=true then 1 else 0:Nat)<=1:=by split<;>omega
     rw[<-hB.uu]
     exact⟨hl,FH hok hs1 hb⟩
    ·rw[if_neg hh]at hrest ⊢
     subst hrest
     exact⟨fun i=>by show -2047<=(0:Int)/\(0:Int)<=2047;omega,Gz _⟩
   have hin:=II hB.rel hF (m:=y6.2.1) (fun h=>by rw[k0.edge];exact hm (hal▸h)) (fun h=>by rw[hw0];exact hfi (hal▸h) k (by omega)) hrr.1 k6.kind k6.qp k6.edge (fun i hi=>by unfold aL;exact k7.lo _ (by omega))
   rw[hrr.2]at hin
   obtain⟨r,hr,hev⟩:=hin.rest
   refine⟨cz y6.2.1 mb k x (nB y6.2.1 x.S mb k r),by rw[fH,hx];show Option.map _ (fU y6.2.1 x.S mb k)=_;rw[hr];rfl,hin.rel,by rw[hu,hB.uu,iN,Nat.add_assoc],fun j hj hh=>?_,fun j hj=>?_,fun i hi=>?_,fun ha j hj=>?_⟩
   ·by_cases hjk:j<k
    ·exact hB.use j hjk hh
    ·obtain rfl:j=k:=by omega
     rw[if_pos hh]at hrest
     rw[<-hB.uu];exact hrest.1
   ·show(if j=k then nB y6.2.1 x.S mb k r else x.ev j)=_
    by_cases hjk:j=k
    ·rw[if_pos hjk,hjk,hev]
    ·rw[if_neg hjk];exact hB.ev j (by omega)
   ·by_cases hik:i<k*64
    ·exact hB.rng i hik
    ·have:=hin.rng (i-k*64) (by omega)
     unfold aL at this
     rw[show k*64+(i-k*64)=i by omega]at this
     exact this
   ·by_cases hjk:j<k
    ·exact hB.first ha j hjk
    ·obtain rfl:j=k:=by omega
     have:=hin.first ha
     unfold aL at this
     rw[Nat.add_zero,hw0]at this
     exact this
theorem ID{E:List (List Ev)}{u:Nat}{has:Nat->Bool}(hE:∀e∈E,jC e):∀k,(∀j,j<k->has j=true->u+iN has j<E.length)->IC (u3 E u has) k=(E.drop u).take (iN has k)
 | 0,_=>rfl
 | k + 1,h=>by
   rw[IC,ID hE k fun j hj=>h j (by omega),iN]
   by_cases hh:has k=true
   ·have hlt:=h k (by omega) hh
    have e1:u3 E u has k=E[u+iN has k]:=by
     unfold u3
     rw[if_pos hh,List.getD_eq_getElem?_getD,List.getElem?_eq_getElem hlt];rfl
    have hok:=hE _ (List.getElem_mem hlt)
    rw[e1,if_pos hok.len.1,if_pos hh,List.take_add_one,List.getElem?_drop,List.getElem?_eq_getElem hlt]
    rfl
   ·have e1:u3 E u has k = []:=by unfold u3;rw[if_neg hh]
    rw[e1,if_neg (by decide),if_neg hh,List.append_nil,Nat.add_zero]
theorem F4{S:bm}{m:Mb}(hf:lp S m):dB m S.inter S.qp=0:=by
 have hk:=hf.kind
 unfold dB
 rw[if_neg (fun h=>by
  rcases h with h|⟨h1,h2⟩
  ·omega
  ·rw[hf.alo h1]at h2;cases h2),if_neg (fun⟨h1,h2⟩=>by rw[hf.edge h2]at h1;cases h1),if_neg (fun⟨h1,h2⟩=>by rw[hf.st h1]at h2;cases h2),if_neg (fun⟨h1,h2⟩=>h2 (hf.qp h1))]
 have hv:gN m=0:=if_pos ⟨hf.vecs 0 (by decide),hf.vecs 1 (by decide),hf.vecs 2 (by decide),hf.vecs 3 (by decide)⟩
 rw[hv,if_neg (by simp)]
 exact if_pos hf.lev
end Go.Proofs.YtagpkhindehcbaaGreat
namespace Go.Proofs.YtagpkhindehcbaaGreat
open Go.Xm
variable [ax]
def lH(B:List Bool)(first:Int)(x0:TA):Nat->TA
 | 0=>x0
 | k+1=>iU B first (lH B first x0 k)
theorem v9{B:List Bool}{first:Int}:∀(n:Nat) (x:TA),(fF B first n x).r.2=false->fF B first n x=lH B first x n/\∀i,i<=n->(lH B first x i).r.2=false
 | 0,x,h=>⟨rfl,fun i hi=>by have e:i=0:=(by omega);subst e;exact h⟩
 | n + 1,x,h=>by
   have hx:x.r.2=false:=by
    cases hh:x.r.2 with
    | false=>rfl
    | true=>
      rw[fF,if_pos hh]at h
      rw[h]at hh;cases hh
   rw[fF,if_neg (by rw[hx];decide)]at h ⊢
   obtain⟨h1,h2⟩:=v9 n (iU B first x) h
   have hsh:∀k,lH B first (iU B first x) k=lH B first x (k+1):=fun k=>by
    induction k with
    | zero=>rfl
    | succ k ih=>show iU B first _=iU B first _;rw[ih]
   refine⟨by rw[h1,hsh],fun i hi=>?_⟩
   cases i with
   | zero=>exact hx
   | succ i=>rw[<-hsh];exact h2 i (by omega)
theorem se{B:List Bool}{first:Int}{x0:TA}(h0:x0.out = []):∀n,(lH B first x0 n).out.length=n/\∀i,i<n->(lH B first x0 n).out.getD i default=((bY (lH B first x0 i).S B (first+(i:Nat)) (lH B first x0 i).r).1.m,(bY (lH B first x0 i).S B (first+(i:Nat)) (lH B first x0 i).r).2)
 | 0=>⟨by show x0.out.length=0;rw[h0];rfl,fun i hi=>absurd hi (Nat.not_lt_zero _)⟩
 | n + 1=>by
   obtain⟨h1,h2⟩:=se h0 n
   refine⟨by show((lH B first x0 n).out++[_]).length=_;rw[List.length_append,h1];rfl,fun i hi=>?_⟩
   show((lH B first x0 n).out++[((bY (lH B first x0 n).S B (first+((lH B first x0 n).out.length:Nat)) (lH B first x0 n).r).1.m,_)]).getD i default=_
   by_cases hin:i<n
   ·rw[List.getD_eq_getElem?_getD,List.getElem?_append_left (by omega),<-List.getD_eq_getElem?_getD]
    exact h2 i hin
   ·obtain rfl:i=n:=by omega
    rw[List.getD_eq_getElem?_getD,List.getElem?_append_right (by omega),h1,Nat.sub_self]
    rfl
theorem qM{E:List (List Ev)}{first:Int}{l:List Ol}{S0:bm}{i:Nat}{y:FA}(h:nN E first l S0 (i+1) = .inr y):∃x z,nN E first l S0 i = .inr x/\ij E (first+(i:Nat)) (l.getD i default).2 (x.S,(l.getD i default).1,x.u) 6 = .inr z/\y=⟨z.1,x.out++[z.2.1],z.2.2⟩:=by
 rw[nN]at h
 cases hx:nN E first l S0 i with
 | inl e=>rw[hx]at h;cases h
 | inr x=>
   rw[hx]at h
   dsimp only at h
   cases hz:ij E (first+(i:Nat)) (l.getD i default).2 (x.S,(l.getD i default).1,x.u) 6 with
   | inl e=>rw[hz]at h;cases h
   | inr z=>rw[hz]at h;cases h;exact⟨x,z,rfl,hz,rfl⟩
theorem rF{E:List (List Ev)}{first:Int}{l:List Ol}{S0:bm}:∀n x,nN E first l S0 n = .inr x->x.out.length=n
 | 0,x,h=>by cases h;rfl
 | n+1,y,h=>by
   obtain⟨x,z,hx,_,rfl⟩:=qM h
   show(x.out++[_]).length=_
   rw[List.length_append,rF n x hx];rfl
theorem L7{E:List (List Ev)}{first:Int}{l:List Ol}{S0:bm}{i:Nat}{y:FA}(hy:nN E first l S0 (i+1) = .inr y):∀n,i<n->∀w,nN E first l S0 n = .inr w->w.out.getD i default=y.out.getD i default:=by
 intro n hn
 induction hn with
 | refl=>intro w hw;rw[hy]at hw;cases hw;rfl
 | @step n hn ih=>
   intro w hw
   have hn:i+1<=n:=hn
   obtain⟨x,z,hx,_,rfl⟩:=qM hw
   have hl:=rF n x hx
   show(x.out++[_]).getD i default=_
   rw[List.getD_eq_getElem?_getD,List.getElem?_append_left (by omega),<-List.getD_eq_getElem?_getD]
   exact ih x hx
theorem zQ{S:bm}{B:List Bool}{mb:Int}{r:Nat×Bool}{x:f9}{has:Nat->Bool}(h:bY S B mb r=(x,has)):(alone x.m=true->∀k,k<6->0<=x.m.lev (k*64)/\x.m.lev (k*64)<=127)/\(∀i,¬(alone x.m=true/\i%64=0/\i<384)->x.m.lev i=0)/\(x.m.kind=0->has=pR/\x.m.v=(fun _=>(0,0))/\x.m.edge=false):=by
 obtain⟨z1,hz1⟩:∃z1,eP S B r=z1:=⟨_,rfl⟩
 have hl1:∀i,z1.m.lev i=0:=fun i=>by rw[<-hz1];rfl
 unfold bY at h
 rw[hz1]at h
 unfold KC at h
 split at h
 ·rename_i h0
  have e1:bG mb z1=x:=congrArg Prod.fst h
  have e2:pR=has:=congrArg Prod.snd h
  have em:x.m=z1.m:=by rw[<-e1];rfl
  rw[em]
  exact⟨fun _ k _=>by rw[hl1];decide,fun i _=>hl1 i,fun _=>⟨e2.symm,by rw[<-hz1];rfl,by rw[<-hz1];rfl⟩⟩
 ·rename_i h0
  obtain⟨z,hz⟩:∃z,bG mb (cm B mb z1)=z:=⟨_,rfl⟩
  rw[hz]at h
  have hzl:∀i,z.m.lev i=0:=fun i=>by
   rw[<-hz]
   show(cm B mb z1).m.lev i=0
   unfold cm
   split
   ·exact hl1 i
   ·split
    ·exact hl1 i
    ·exact hl1 i
  have hzk:z.m.kind≠0:=by
   rw[<-hz]
   show(cm B mb z1).m.kind≠0
   unfold cm
   split
   ·exact h0
   ·split
    ·exact h0
    ·exact h0
  have e1:x.m=(b8 B mb z).m:=by
   have:=congrArg (fun q=>q.1.m) h
   exact this.symm
  have hrun:∀k,k<=6->(cY B mb z k).m.kind=z.m.kind/\∀i,((i%64=0/\i<64*k)->0<=(cY B mb z k).m.lev i/\(cY B mb z k).m.lev i<=127)/\(¬(i%64=0/\i<64*k)->(cY B mb z k).m.lev i=0):=by
   intro k
   induction k with
   | zero=>exact fun _=>⟨rfl,fun i=>⟨fun h=>absurd h.2 (by omega),fun _=>hzl i⟩⟩
   | succ k ih=>
     intro hk
     obtain⟨i1,i2⟩:=ih (by omega)
     refine⟨i1,fun i=>?_⟩
     show(_->0<=cn (cY B mb z k).m.lev (k*64) (oW B mb (cY B mb z k) k) i/\cn (cY B mb z k).m.lev (k*64) (oW B mb (cY B mb z k) k) i<=127)/\(_->cn (cY B mb z k).m.lev (k*64) (oW B mb (cY B mb z k) k) i=0)
     have hf := @C4 _ B mb (cY B mb z k) k
     unfold cn
     by_cases hi:i=k*64
     ·rw[if_pos hi]
      exact⟨fun _=>hf,fun h=>absurd ⟨by omega,by omega⟩ h⟩
     ·rw[if_neg hi]
      exact⟨fun h=>(i2 i).1 ⟨h.1,by omega⟩,fun h=>(i2 i).2 fun g=>h ⟨g.1,by omega⟩⟩
  rw[e1]
  unfold b8
  have hk6:=hrun 6 (Nat.le_refl _)
  split
  ·rename_i ha
   have ha6:alone (cY B mb z 6).m=true:=by unfold alone;rw[hk6.1];exact ha
   refine⟨fun _ k hk=>(hk6.2 (k*64)).1 ⟨by omega,by omega⟩,fun i hi=>(hk6.2 i).2 fun g=>hi ⟨ha6,g.1,by omega⟩,fun hc=>?_⟩
   rw[hk6.1]at hc
   exact absurd hc hzk
  ·exact⟨fun _ k _=>by rw[hzl];decide,fun i _=>hzl i,fun hc=>absurd hc hzk⟩
def Canon(m:Mb):Prop:=(∀i,384<=i->m.lev i=0)/\∀k,4<=k->m.v k=if m.kind=1 then m.v 0 else(0,0)
theorem Ii{m o:Mb}(hm:Canon m)(ho:Canon o)(h:uE m o):o=m:=by
 have e1:o.v=m.v:=by
  funext k
  by_cases hk:k<4
  ·exact h.v k hk
  ·rw[hm.2 k (by omega),ho.2 k (by omega),h.kind,h.v 0 (by decide)]
 have e2:o.lev=m.lev:=by
  funext i
  by_cases hi:i<384
  ·exact h.lev i hi
  ·rw[hm.1 i (by omega),ho.1 i (by omega)]
 obtain⟨a1,a2,a3,a4,a5⟩:=m
 obtain⟨b1,b2,b3,b4,b5⟩:=o
 have h1:b1=a1:=h.kind
 have h2:b2=a2:=h.qp
 have h3:b4=a4:=h.edge
 have h4:b3=a3:=e1
 have h5:b5=a5:=e2
 subst h1 h2 h3 h4 h5
 rfl
theorem Nl{S:bm}{B:List Bool}{mb:Int}{r:Nat×Bool}{x:f9}{has:Nat->Bool}(h:bY S B mb r=(x,has)):∀k,4<=k->x.m.v k=if x.m.kind=1 then x.m.v 0 else(0,0):=by
 obtain⟨z1,hz1⟩:∃z1,eP S B r=z1:=⟨_,rfl⟩
 have hv1:z1.m.v=fun _=>(0,0):=by rw[<-hz1];rfl
 unfold bY at h
 rw[hz1]at h
 unfold KC at h
 intro k hk
 split at h
 ·have e1:bG mb z1=x:=congrArg Prod.fst h
  have em:x.m=z1.m:=by rw[<-e1];rfl
  rw[em,hv1]
  split<;>rfl
 ·obtain⟨z,hz⟩:∃z,cm B mb z1=z:=⟨_,rfl⟩
  rw[hz]at h
  have hzv:z.m.v k=if z.m.kind=1 then z.m.v 0 else(0,0):=by
   rw[<-hz]
   unfold cm
   by_cases h1:z1.m.kind=1
   ·rw[if_pos h1]
    exact(if_pos h1).symm
   ·rw[if_neg h1]
    by_cases h2:z1.m.kind=2
    ·rw[if_pos h2]
     refine Eq.trans ?_ (if_neg (show¬z1.m.kind=1 from h1)).symm
     show ku (ku (ku (ku z1.m.v 0 _) 1 _) 2 _) 3 _ k=(0,0)
     unfold ku
     rw[if_neg (by omega),if_neg (by omega),if_neg (by omega),if_neg (by omega),hv1]
    ·rw[if_neg h2]
     refine Eq.trans ?_ (if_neg (show¬z1.m.kind=1 from h1)).symm
     show z1.m.v k=(0,0)
     rw[hv1]
  have e1:x.m=(b8 B mb (bG mb z)).m:=(congrArg (fun q=>q.1.m) h).symm
  have e2:(b8 B mb (bG mb z)).m.v=z.m.v/\(b8 B mb (bG mb z)).m.kind=z.m.kind:=by
   unfold b8
   split
   ·have:∀k,(cY B mb (bG mb z) k).m.v=z.m.v/\(cY B mb (bG mb z) k).m.kind=z.m.kind:=fun k=>by
     induction k with
     | zero=>exact⟨rfl,rfl⟩
     | succ k ih=>exact ih
    exact this 6
   ·exact⟨rfl,rfl⟩
  rw[e1,e2.1,e2.2]
  exact hzv
structure Lr(S:bm)(m:Mb):Prop where
 kind:0<=m.kind/\m.kind<=4
 alo:S.inter=false->alone m=true
 st:m.kind=4->(dt S.qp m.qp).2=true
 qp:m.kind≠4->m.qp=S.qp
 vecs:∀k,k<4->oy m k
 edge:alone m=false->m.edge=false
theorem G5{S R:bm}(hR:Rel S R){X B:List Bool}(hp:X <+: B){mb:Int}{x:f9}{has:Nat->Bool}(hx:bY R B mb (X.length,false)=(x,has))(he:x.r.2=false){m:Mb}(hk:m.kind=x.m.kind)(hq:m.qp=x.m.qp)(hv:m.v=x.m.v)(hed:m.edge=x.m.edge):Lr S m:=by
 obtain⟨z1,hz1⟩:∃z1,eP R B (X.length,false)=z1:=⟨_,rfl⟩
 have hm0:=(zQ hx).2.2
 unfold bY at hx
 rw[hz1]at hx
 unfold KC at hx
 split at hx
 ·rename_i hk1
  have e1:bG mb z1=x:=congrArg Prod.fst hx
  have hm:x.m=z1.m:=by rw[<-e1];rfl
  have hh:=va (m:=m) hR hp hz1 (by rw[<-e1]at he;exact he) (by rw[<-hm];exact hk) (by rw[<-hm];exact hq)
  have h0:x.m.kind=0:=by rw[hm];exact hk1
  obtain⟨_,v0,ed0⟩:=hm0 h0
  have hvz:∀k,m.v k=(0,0):=fun k=>by rw[hv,v0]
  exact⟨hh.kind,hh.alo,hh.st,hh.qp,fun k hk4=>⟨by rw[hvz];rfl,fun _=>by rw[hvz,hvz],fun _ _=>hvz k⟩,fun _=>by rw[hed];exact ed0⟩
 ·rename_i hk1
  obtain⟨z,hz⟩:∃z,cm B mb z1=z:=⟨_,rfl⟩
  obtain⟨w,hw⟩:∃w,b8 B mb (bG mb z)=w:=⟨_,rfl⟩
  rw[hz,hw]at hx
  obtain⟨pt,r1,h1⟩:∃p r1,kO cP B w.r=(p,r1):=⟨_,_,rfl⟩
  unfold wo at hx
  rw[h1]at hx
  dsimp only at hx
  have ex:=congrArg Prod.fst hx
  dsimp only at ex
  have hr2:(bH B 2 r1).2.2=false:=by rw[<-ex]at he;exact he
  have hr1:r1.2=false:=iI fun ht=>by
   have:=nD (B:=B) (n:=2) ht
   rw[this]at hr2;cases hr2
  have hwe:w.r.2=false:=iI fun ht=>by
   have:=sI (C:=cP) (B:=B) ht
   rw[h1]at this
   rw[this]at hr1;cases hr1
  have hze:z.r.2=false:=iI fun ht=>by
   have : w.r.2=true:=by
    rw[<-hw]
    unfold b8
    split
    ·have:∀k,(cY B mb (bG mb z) k).r.2=true:=fun k=>by
      induction k with
      | zero=>exact ht
      | succ k ih=>exact oZ ih
     exact this 6
    ·exact ht
   rw[this]at hwe;cases hwe
  have hxm:x.m=w.m:=by rw[<-ex]
  have wk:w.m.kind=z.m.kind/\w.m.qp=z.m.qp/\w.m.v=z.m.v/\w.m.edge=z.m.edge:=by
   rw[<-hw]
   unfold b8
   split
   ·have:∀k,(cY B mb (bG mb z) k).m.kind=z.m.kind/\(cY B mb (bG mb z) k).m.qp=z.m.qp/\(cY B mb (bG mb z) k).m.v=z.m.v/\(cY B mb (bG mb z) k).m.edge=z.m.edge:=fun k=>by
     induction k with
     | zero=>exact⟨rfl,rfl,rfl,rfl⟩
     | succ k ih=>exact ih
    exact this 6
   ·exact⟨rfl,rfl,rfl,rfl⟩
  have zk:z.m.kind=z1.m.kind/\z.m.qp=z1.m.qp:=by
   rw[<-hz]
   unfold cm
   split
   ·exact⟨rfl,rfl⟩
   ·split<;>exact⟨rfl,rfl⟩
  have hkz:m.kind=z1.m.kind:=by rw[hk,hxm,wk.1,zk.1]
  obtain⟨b1,b2⟩:=AK (m:=m) hR hp hz1 hz hze hkz (by rw[hq,hxm,wk.2.1,zk.2]) (by rw[hkz];exact hk1) (fun k _=>by rw[hv,hxm,wk.2.2.1]) (by rw[hed,hxm,wk.2.2.2])
  exact⟨b1.kind,b1.alo,b1.st,b1.qp,b2.vecs,b2.edge⟩
structure HH(Ba:List Bool)(first:Int)(h:Hd)(p:Ph)(m:List Mb)(E:List (List Ev))(t:TA)(i:Nat)(X:PS)(R:FA):Prop where
 run:gd m first (qW h p) i = .inr X
 inv:y4 p.inter h.cols h.rows i X
 rel:Rel X.S t.S
 frel:kL X.S R.S
 r:t.r=(X.B.length,false)
 pre:X.B <+: Ba
 w:X.w=(E.take R.u).flatMap dO
 mok:∀j,j<i->iL (m.getD j default)/\Canon (m.getD j default)
theorem HZ{h:Hd}{p:Ph}{first:Int}{Ba:List Bool}{m:List Mb}{E:List (List Ev)}(hE:∀e∈E,jC e){t:TA}{i:Nat}{X:PS}{R:FA}(hI:HH Ba first h p m E t i X R)(hmb:t.out.length=i){x:f9}{has:Nat->Bool}(hx:bY t.S Ba (first+(i:Nat)) t.r=(x,has))(he:x.r.2=false){z:FK}(hz:ij E (first+(i:Nat)) has (R.S,x.m,R.u) 6 = .inr z)(hm:m.getD i default=z.2.1) :
 ∃X',HH Ba first h p m E (iU Ba first t) (i+1) X' ⟨z.1,R.out++[z.2.1],z.2.2⟩:=by
 obtain⟨M,hM⟩:∃M,z.2.1=M:=⟨_,rfl⟩
 have hxr:bY t.S Ba (first+(i:Nat)) (X.B.length,false)=(x,has):=by rw[<-hI.r];exact hx
 have hT:=hI.inv.st.tiny
 have k0:Kept x.m M 0:=by rw[<-hM];exact pN (x0:=(R.S,x.m,R.u)) (k:=0) rfl 6 (by decide) z hz
 have hal:alone M=alone x.m:=by unfold alone;rw[k0.kind]
 obtain⟨f1,f2,f3⟩:=zQ hxr
 have hF:=G5 hI.rel hI.pre hxr he (m:=M) k0.kind k0.qp k0.v k0.edge
 have hRT:cg t.S.M/\(-1000000<=t.S.qp/\t.S.qp<=1000000):=⟨fun k v hv=>hT k v (by rw[<-hI.rel.M];exact hv),by rw[hI.rel.qp];exact hI.inv.qp⟩
 have hv:∀k,bz (M.v k):=fun k=>by
  have:=(Ra (B:=Ba) (r:=(X.B.length,false)) (mb:=first+(i:Nat)) hRT.1 hRT.2).v k
  rw[hxr]at this
  rw[k0.v];exact this
 have hqp : -1000000<=M.qp/\M.qp<=1000000:=by
  by_cases h4:M.kind=4
  ·have:=(yw (hF.st h4)).2
   omega
  ·rw[hF.qp h4];exact hI.inv.qp
 obtain⟨x0,hx0⟩:∃x0:oC,(⟨(bE X.S X.B M (first+(i:Nat))).1,(bE X.S X.B M (first+(i:Nat))).2,0,0,fun _=>[]⟩:oC)=x0:=⟨_,rfl⟩
 have hfr:kL x0.S R.S:=by rw[<-hx0];exact F8 hI.frel X.B M _
 obtain⟨y,hy,hB⟩:=Ia hE hz (fun h=>by rw[<-k0.edge];exact hF.edge (hal.trans h)) (fun h k hk=>f1 h k hk) (x0:=x0) hfr 6 (Nat.le_refl _) z hz
 rw[hM]at hy hB
 have hlev:∀j,j<384 -> -2047<=M.lev j/\M.lev j<=2047:=fun j hj=>hB.rng j hj
 have hhi:∀j,384<=j->M.lev j=0:=fun j hj=>by
  have:=zl 6 z hz j hj
  rw[hM]at this
  rw[this]
  exact f2 j (by omega)
 have hfirst:alone M=true->∀k,k<6->M.lev (k*64)=x.m.lev (k*64):=fun ha k hk=>hB.first ha k hk
 have hmok:iL M:=⟨by have:=hF.kind;omega,hqp,hv,fun j=>by
  by_cases hj:j<384
  ·have:=hlev j hj;omega
  ·rw[hhi j (by omega)];decide⟩
 have hzero:M.kind=0->(∀j,j<384->M.lev j=0)/\z.1=R.S/\∀j,has j=false:=fun h0=>by
  have hx0k:x.m.kind=0:=by rw[<-k0.kind];exact h0
  obtain⟨hn,_,hed⟩:=f3 hx0k
  have hax:alone x.m=false:=by unfold alone;rw[hx0k];rfl
  have hl0:∀j,j<384->x.m.lev j=0:=fun j hj=>f2 j (fun g=>by rw[hax]at g;cases g.1)
  have hnj:∀j,has j=false:=fun j=>by rw[hn];rfl
  obtain⟨o',e1,e2⟩:=FZ (evs:=E) (m:=x.m) (o:=x.m) (mb:=first+(i:Nat)) (R0:=R.S) (has:=has) (fun j _=>hnj j) (u:=R.u) rfl rfl rfl hax hl0 6 (Nat.le_refl _)
  rw[hz]at e1
  cases e1
  refine⟨fun j hj=>?_,rfl,hnj⟩
  rw[<-hM,e2.lo j (by omega)]
  exact hl0 j hj
 have hfit:lp X.S M:=⟨hF.kind,hF.alo,hF.edge,hF.st,hF.qp,hF.vecs,fun j hj=>⟨fun h0=>(hzero h0).1 j hj,hlev j hj,fun h64 ha=>by
  have hjk:j=j/64*64:=by omega
  rw[hjk,hfirst ha (j/64) (by omega)]
  exact f1 (hal▸ha) (j/64) (by omega)⟩⟩
 have hg:=rH hmok hfit
 have hc:=F4 hfit
 have hout:xB M x.m:=⟨k0.kind.symm,k0.qp.symm,fun k _=>by rw[k0.v],k0.edge.symm,fun j=>by
  by_cases hj:alone M=true/\j%64=0/\j<384
  ·rw[if_pos hj]
   have hjk:j=j/64*64:=by omega
   rw[hjk,hfirst hj.1 (j/64) (by omega)]
  ·rw[if_neg hj]
   exact f2 j (fun g=>hj ⟨hal.trans g.1,g.2⟩)⟩
 have hput : ∃S' X' w',hZ X.S X.B X.w M (first+(i:Nat))=some (S',X',w')/\kL S' z.1/\w'=(E.take z.2.2).flatMap dO/\∀k,k<6->has k=decide (0<(tZ X.S X.B M (first+(i:Nat)) k).length):=by
  unfold hZ
  by_cases h0:M.kind=0
  ·obtain⟨_,q2,q3⟩:=hzero h0
   have hc0:z.2.2=R.u:=by
    rw[hB.uu]
    have:∀k,iN has k=0:=fun k=>by
     induction k with
     | zero=>rfl
     | succ k ih=>rw[iN,ih,q3 k];rfl
    rw[this,Nat.add_zero]
   rw[if_pos h0]
   refine⟨_,_,_,rfl,by rw[q2];exact m_ hI.frel _ _,by rw[hc0];exact hI.w,fun k _=>?_⟩
   rw[q3 k]
   unfold tZ
   rw[if_pos h0];rfl
  ·rw [if_neg h0,hx0,hy]
   refine⟨_,_,_,rfl,hB.rel,?_,fun k hk=>?_⟩
   ·show dk X.w y 6=_
    have hevs:IC y.ev 6=IC (u3 E R.u has) 6:=by
     have:∀k,k<=6->IC y.ev k=IC (u3 E R.u has) k:=fun k=>by
      induction k with
      | zero=>exact fun _=>rfl
      | succ k ih=>intro hk;rw[IC,IC,ih (by omega),hB.ev k (by omega)]
     exact this 6 (Nat.le_refl _)
    rw[NU,hevs,ID hE 6 (fun j hj=>hB.use j hj),hI.w,<-List.flatMap_append,<-List.take_add,<-hB.uu]
   ·have e1:tZ X.S X.B M (first+(i:Nat)) k=y.ev k:=by unfold tZ;rw[if_neg h0,hx0,hy]
    rw[e1,hB.ev k hk]
    unfold u3
    cases hh:has k with
    | true=>
      have hlt:=hB.use k hk hh
      rw[if_pos rfl,List.getD_eq_getElem?_getD,List.getElem?_eq_getElem hlt]
      exact(decide_eq_true (hE _ (List.getElem_mem hlt)).len.1).symm
    | false=>rfl
 obtain⟨S',X',w',hput,hfr',hw',hhas⟩:=hput
 have hpre:=Kz hI.rel hT hg hfit hI.pre hput hxr he hout hhas
 obtain⟨b1,b2,_,_⟩:=yC hI.rel hT hg hfit hput hpre
 rw[hxr]at b1 b2
 have hstep:kn first i (m.getD i lC) X = .inr ⟨S',X',w'⟩:=by
  have e:m.getD i lC=M:=by rw[<-hM];exact hm
  rw[e]
  unfold kn
  rw[if_neg (by rw[hc];simp),hput]
 have hmM:m.getD i default=M:=hm.trans hM
 refine⟨⟨S',X',w'⟩,?_,mZ hI.inv hmok (first:=first) (k:=i) ?_,?_,hfr',?_,hpre,hw',fun j hj=>?_⟩
 ·rw[gd,hI.run];exact hstep
 ·rw[<-hmM];exact hstep
 ·show Rel S' (bY t.S Ba (first+(t.out.length:Nat)) t.r).1.S
  rw[hmb,hx];exact b2
 ·show(bY t.S Ba (first+(t.out.length:Nat)) t.r).1.r=_
  rw[hmb,hx];exact b1
 ·by_cases hji:j<i
  ·exact hI.mok j hji
  ·obtain rfl:j=i:=by omega
   rw[hmM];exact⟨hmok,hhi,fun k hk=>by rw[k0.kind,k0.v];exact Nl hxr k hk⟩
theorem Lx{h : Hd}{p:Ph}(ho:qk h)(hp:tW p){first:Int}{n:Nat}{Ba:List Bool}{t:TA}(ht:fF Ba first n ⟨dS h p,(0,false),[]⟩=t)(he:kC Ba t.r=0){B:List Bool}{E:List (List Ev)}{r2:Nat×Bool}(hb:ry B (vq t.out) ([],(0,false))=(E,r2))(he2:kC B r2=0){m:List Mb}(hm:g_ E first t.out (dS h p) = .inr m) :
 m.length=n/\(∀j,j<n->iL (m.getD j default)/\Canon (m.getD j default))/\∃X,gd m first (qW h p) n = .inr X/\X.B=Ba/\X.w=B:=by
 have hend:∀{B:List Bool} {r:Nat×Bool},kC B r=0->r.2=false/\B.length<=r.1:=fun {B r} h=>by
  unfold kC at h
  split at h
  ·cases h
  ·rename_i h1
   split at h
   ·cases h
   ·exact⟨by cases hh:r.2 with|false=>rfl|true=>exact absurd hh h1,by omega⟩
 obtain⟨q1,q2⟩:=hend he
 obtain⟨q3,q4⟩:=hend he2
 obtain⟨F,e1,e2,e3,hE⟩:=Ie _ _ _ _ _ hb q3 (Nat.zero_le _)
 rw[List.nil_append]at e1
 subst e1
 obtain⟨i1,i2⟩:=v9 n _ (by rw[ht];exact q1)
 rw[ht]at i1
 obtain⟨o1,o2⟩:=se (B:=Ba) (first:=first) (x0:=⟨dS h p,(0,false),[]⟩) rfl n
 rw[<-i1]at o1 o2
 unfold g_ at hm
 rw[o1]at hm
 cases hall:nN E first t.out (dS h p) n with
 | inl e=>rw[hall]at hm;cases hm
 | inr W =>
   rw[hall]at hm
   dsimp only at hm
   split at hm
   ·cases hm
   ·rename_i hu
    have hmW:=Sum.inr.inj hm
    have hlen:=rF n W hall
    have key:∀i,i<=n->∀R,nN E first t.out (dS h p) i = .inr R->∃X,HH Ba first h p m E (lH Ba first ⟨dS h p,(0,false),[]⟩ i) i X R:=by
     intro i
     induction i with
     | zero=>
       intro _ R hR
       cases hR
       exact⟨qW h p,rfl,BB ho hp,rel_refl _,⟨rfl,rfl,fun _=>rfl,fun _=>rfl,fun _=>rfl⟩,rfl,List.nil_prefix,rfl,fun j hj=>absurd hj (Nat.not_lt_zero _)⟩
     | succ i ih=>
       intro hi Y hY
       obtain⟨R,z,hR,hz,rfl⟩:=qM hY
       obtain⟨X,hI⟩:=ih (by omega) R hR
       have hol:=(se (B:=Ba) (first:=first) (x0:=⟨dS h p,(0,false),[]⟩) rfl i).1
       obtain⟨x,has,hx⟩:∃x has,bY (lH Ba first ⟨dS h p,(0,false),[]⟩ i).S Ba (first+(i:Nat)) (lH Ba first ⟨dS h p,(0,false),[]⟩ i).r=(x,has):=⟨_,_,rfl⟩
       have hoi:=o2 i (by omega)
       rw[hx]at hoi
       rw[hoi]at hz
       have hne:=i2 (i+1) hi
       have hxe:x.r.2=false:=by
        have e:(lH Ba first ⟨dS h p,(0,false),[]⟩ (i+1)).r=x.r:=by
         show(bY _ Ba (first+((lH Ba first ⟨dS h p,(0,false),[]⟩ i).out.length:Nat)) _).1.r=x.r
         rw[hol,hx]
        rw[e]at hne;exact hne
       refine HZ hE hI hol hx hxe hz ?_
       have:=L7 hY n (by omega) W hall
       rw[<-hmW,this]
       show(R.out++[z.2.1]).getD i default=_
       have hl:=rF i R hR
       rw[List.getD_eq_getElem?_getD,List.getElem?_append_right (by omega),hl,Nat.sub_self]
       rfl
    obtain⟨X,hI⟩:=key n (Nat.le_refl _) W hall
    rw[<-i1]at hI
    refine⟨by rw[<-hmW];exact hlen,hI.mok,X,hI.run,?_,?_⟩
    ·have:Ba.length<=X.B.length:=by have:=hI.r;rw[this]at q2;exact q2
     exact hI.pre.eq_of_length (Nat.le_antisymm hI.pre.length_le this)
    ·rw[hI.w,List.take_of_length_le (by omega)]
     have e4:=e3.e
     rw[List.take_of_length_le q4]at e4
     exact e4.symm
theorem JN{h:Hd}{p:Ph}(ho:qk h)(hp:tW p){first:Int}(hf:0<=first){n:Nat}(h1:1<=n)(h16:n<=16)(hall:first+(n:Nat)<=h.cols*h.rows){a qa:List Int}{Ba:List Bool}(hT:lW h p a qa Ba first n){t:TA}(ht:fF Ba first n ⟨dS h p,(0,false),[]⟩=t)(he:kC Ba t.r=0){b q:List Int}{B:List Bool}(hbl:b.length<=30000)(hesc:i_ b b.length [] 0 0=some q)(hsz:cE q=(B.length,true))(hB:c_ q B){m:List Mb}(hm:yB B first t.out (dS h p) = .inr m) :
 gu h p m first/\m.length=n/\(∀j,j<n->Canon (m.getD j default))/\pf h p m first = .inr (a,b):=by
 unfold yB at hm
 obtain⟨E,r2,hb⟩:∃E r2,ry B (vq t.out) ([],(0,false))=(E,r2):=⟨_,_,rfl⟩
 rw[hb]at hm
 dsimp only at hm
 split at hm
 ·cases hm
 ·rename_i he2
  have he2:kC B r2=0:=Decidable.byContradiction fun g=>he2 g
  obtain⟨m1,m2,X,m3,m4,m5⟩:=Lx ho hp ht he hb he2 hm
  have hP:gu h p m first:=⟨ho,hp,fun x hx=>by
   obtain⟨j,hj,rfl⟩:=List.mem_iff_getElem.1 hx
   have:=(m2 j (by omega)).1
   rw[List.getD_eq_getElem?_getD,List.getElem?_eq_getElem hj]at this
   exact this,hf,by omega,by omega,by rw[m1];exact hall⟩
  refine⟨hP,m1,fun j hj=>(m2 j hj).2,?_⟩
  have ea:=Es hT.esc
  have eb:=Es hesc
  have wa:=K3 hT.bits.byte hT.size hT.bits.bit
  have wb:=K3 hB.byte hsz hB.bit
  unfold pf
  rw[m1,m3]
  dsimp only
  rw[m4,m5,wa,wb,ea,eb,if_neg (by have:=hT.len;omega)]
end Go.Proofs.YtagpkhindehcbaaGreat
namespace Go.Proofs.YtagpkhindehcbaaGreat
open Go.Xm
variable [ax]
theorem yA{h:Hd}{p:Ph}{a q:List Int}{B:List Bool}{first:Int}{n:Nat}(hT:lW h p a q B first n){ob:ak}(ho:RO ob .u8 a){c:XC}{i:Nat}(hc:dj c i 0 a.length){x:TA}(hx:fF B first n ⟨dS h p,(0,false),[]⟩=x)(he:kC B x.r=0){z:Int}(hz:z=(n:Nat)){HS:aj}{K:Nat}(hS:(HS.drop K).take 13=eU K)(hi:HS[i]? = some ob)(hd:(lA K [i]).Nodup){N:Nat}(hN:HS.length=N){HS':aj}(hh:HS++[cR 56 (fl gV x.out)]=HS')(hbd:Nat.blt HS'.length Mem.bound=true) :
 aG.Sound Tryz.prog ⟨12,[.one (.ptr K 0),.agg (f_ h),.agg (hU p),.one (.int .i64 first),.one (.int .i64 z),.one c],HS,.tup [.one (gJ N x.out.length 397),.one (.int .i64 0)],HS',lA K [i]⟩:=by
 subst hz hN
 have hfo:=ho.flat
 obtain⟨c0,h0,hcr⟩:=hc.qn 13 (nth (lA K [i])) rfl
 refine o9 1 rfl (GZ hT ho h0 hx he) hS hi hd (.cons (by show 0<14;omega) (.flat (.flat (.flat (.flat (.cons (h0.ok (by decide)) .nil)))))) (.cons rfl (.flat (.flat (.flat (.flat (.cons (congrArg XV.one hcr) .nil)))))) (Gh (ba (by omega)) trivial) ?_ (.flat .nil) (.flat .nil) ?_ hh hbd
 ·simp only[XV.ay,List.map_cons,List.map_nil,X1.ay,aC];rfl
 ·cases fl gV x.out<;>rfl
theorem G4{h:Hd}{p:Ph}{a q:List Int}{B:List Bool}{first:Int}{n:Nat}(hT:lW h p a q B first n){ob:ak}(ho:RO ob .u8 a){c:XC}{i:Nat}(hc:dj c i 0 a.length){x:TA}(hx:fF B first n ⟨dS h p,(0,false),[]⟩=x){e:Int}(he:kC B x.r=e)(he0:e≠0){z:Int}(hz:z=(n:Nat)){HS:aj}{K:Nat}(hS:(HS.drop K).take 13=eU K)(hi:HS[i]? = some ob)(hd:(lA K [i]).Nodup)(hbd:Nat.blt HS.length Mem.bound=true) :
 aG.Sound Tryz.prog ⟨12,[.one (.ptr K 0),.agg (f_ h),.agg (hU p),.one (.int .i64 first),.one (.int .i64 z),.one c],HS,.tup [.one .nils,.one (.int .i64 e)],HS,lA K [i]⟩:=by
 subst hz
 have hfo:=ho.flat
 obtain⟨c0,h0,hcr⟩:=hc.qn 13 (nth (lA K [i])) rfl
 exact o9 0 rfl (DJ hT ho h0 hx he he0) hS hi hd (.cons (by show 0<14;omega) (.flat (.flat (.flat (.flat (.cons (h0.ok (by decide)) .nil)))))) (.cons rfl (.flat (.flat (.flat (.flat (.cons (congrArg XV.one hcr) .nil)))))) (XV.eZ rfl _) rfl .nil .nil rfl (List.append_nil HS) hbd
theorem G3{ob:ak}{h:Hd}{p:Ph}(hd0:qk h)(hp:tW p){a:List Int}(ho:RO ob .u8 a){c:XC}{i:Nat}(hc:dj c i 0 a.length)(hl:dc a)(hn:a.length<=30000){first:Int}{n:Nat}(hf:0<=first)(hm:1<=n)(ha:first+(n:Nat)<=h.cols*h.rows){e:Int}(he:kj a = .inl e){z:Int}(hz:z=(n:Nat)){HS:aj}{K:Nat}(hS:(HS.drop K).take 13=eU K)(hi:HS[i]? = some ob)(hd:(lA K [i]).Nodup)(hbd:Nat.blt HS.length Mem.bound=true) :
 aG.Sound Tryz.prog ⟨12,[.one (.ptr K 0),.agg (f_ h),.agg (hU p),.one (.int .i64 first),.one (.int .i64 z),.one c],HS,.tup [.one .nils,.one (.int .i64 e)],HS,lA K [i]⟩:=by
 subst hz
 have hfo:=ho.flat
 obtain⟨c0,h0,hcr⟩:=hc.qn 13 (nth (lA K [i])) rfl
 exact o9 0 rfl (B1 hd0 hp ho h0 hl hn hf hm ha he) hS hi hd (.cons (by show 0<14;omega) (.flat (.flat (.flat (.flat (.cons (h0.ok (by decide)) .nil)))))) (.cons rfl (.flat (.flat (.flat (.flat (.cons (congrArg XV.one hcr) .nil)))))) (XV.eZ rfl _) rfl .nil .nil rfl (List.append_nil HS) hbd
abbrev Ln(obA obB:ak)(h:Hd)(p:Ph)(l:List Ol)(q:List Int)(B:List Bool)(E:List (List Ev))(r:Nat×Bool)(x:aj):aj:=bO 1 5 9::aw 2 3 4 cM::aR cM::aT cM::aS cM::aw 6 7 8 cZ::aR cZ::aT cZ::aS cZ::aw 10 11 12 cP::aR cP::aT cP::aS cP::obA::obB :: .cells (f_ h) 26 false false :: .cells (hU p) 28 false false::cR 56 (fl gV l)::bp 19 q B r.1 r.2::aK q::lU 21 E::fE E 0::fE E 1::fE E 2::fE E 3::fE E 4::fE E 5::fE E 6::fE E 7::fE E 8::fE E 9::fE E 10::fE E 11::fE E 12::fE E 13::fE E 14::fE E 15::fE E 16::fE E 17::fE E 18::fE E 19::fE E 20::fE E 21::fE E 22::fE E 23::fE E 24::fE E 25::fE E 26::fE E 27::fE E 28::fE E 29::fE E 30::fE E 31::fE E 32::fE E 33::fE E 34::fE E 35::fE E 36::fE E 37::fE E 38::fE E 39::fE E 40::fE E 41::fE E 42::fE E 43::fE E 44::fE E 45::fE E 46::fE E 47::fE E 48::fE E 49::fE E 50::fE E 51::fE E 52::fE E 53::x
theorem PM{obA obB:ak}{h:Hd}{p:Ph}{l:List Ol}{q:List Int}{B:List Bool}{E:List (List Ev)}{r:Nat×Bool}{x:aj}{u:Nat}(hu:u<54):(Ln obA obB h p l q B E r x)[21+u]? = some (fE E u):=by
 have e:Ln obA obB h p l q B E r x=(Ln obA obB h p l q B E r []).take 21++((List.range 54).map (fE E)++x):=rfl
 rw[e,List.getElem?_append_right (by show 21<=21+u;omega),show 21+u-((Ln obA obB h p l q B E r []).take 21).length=u by show 21+u-21=u;omega,List.getElem?_append_left (by rw[List.length_map,List.length_range];exact hu),List.getElem?_map,List.getElem?_range hu]
 rfl
theorem AZ{h:Hd}{p:Ph}{first:Int}{l:List Ol}(hT:Au h p first l){E:List (List Ev)}(hE:∀e∈E,mF e)(h54:E.length<=54){R:Int ⊕ List Mb}(hR:g_ E first l (dS h p)=R){v:XV}(hv:B0 75 R=v){o:ak}(ho:jF R=o){n m:Nat}(hn:l.length=n)(hm:E.length=m){obA obB:ak}[cL obA][cL obB]{q:List Int}{B:List Bool}{r:Nat×Bool} :
 aG.Sound Tryz.prog ⟨15,[.one (.ptr 0 0),.agg (f_ h),.agg (hU p),.one (.int .i64 first),.one (gJ 17 n 397),.one (gJ 20 m 1)],Ln obA obB h p l q B E r [],v,Ln obA obB h p l q B E r [o],xw⟩:=by
 subst hn hm hv ho hR
 have hF:=fun j=>IN E j
 have hc:=F0 hT hE h54
 generalize g_ E first l (dS h p)=R at hc
 have hvia:ae (nth xw) (Ln obA obB h p l q B E r []) xw (dZ++(cR 56 (fl gV l)::lU 15 E::((List.range 54).map (fE E)++[]))):=zo (K:=0) rfl (fun j hj=>vA 0 _ j hj) (.flat rfl (.cons (by
  rw[vJ (b':=21) fun j hj=>by have:=B7 (r:=[]) (j:=j) (by omega);rw[List.append_nil]at this;exact this];rfl) (ux hF .nil (List.range 54) fun j hj => .inl (PM (List.mem_range.1 hj)))))
 have hren:dq (nth (xw++[75])) (dZ++(cR 56 (fl gV l)::lU 15 E::((List.range 54).map (fE E)++[jF R]))) (eU 0++(cR 56 (fl gV l)::lU 21 E::((List.range 54).map (fE E)++[jF R]))):=uf (K:=0) (fun j hj=>vA 0 _ j hj) (.flat (.cons (vJ fun j hj=>B7 (by omega)) (EZ hF (.flat .nil) (List.range 54))))
 have hnd:xw.Nodup:=by decide +kernel
 have hok1:bl 69 (dZ++(cR 56 (fl gV l)::lU 15 E::((List.range 54).map (fE E)++[]))):=nF (l:=cR 56 (fl gV l)::lU 15 E::((List.range 54).map (fE E)++[])) (by show 13<=69;omega) (.flat (.cons (uj (by show _<=69;omega)) (Dn hF .nil (List.range 54))))
 have hok2:bl 70 (dZ++(cR 56 (fl gV l)::lU 15 E::((List.range 54).map (fE E)++[jF R]))):=nF (l:=cR 56 (fl gV l)::lU 15 E::((List.range 54).map (fE E)++[jF R])) (by show 13<=70;omega) (.flat (.cons (uj (by show _<=70;omega)) (Dn hF (.flat .nil) (List.range 54))))
 have hput:bK (Ln obA obB h p l q B E r []) xw (eU 0++(cR 56 (fl gV l)::lU 21 E::((List.range 54).map (fE E)++[jF R])))=Ln obA obB h p l q B E r [jF R]:=by kernel_rfl
 have hro:ee (ou l (lU 15 E) (fE E) []) (ou l (lU 15 E) (fE E) [jF R])=true:=by
  refine pU (ou l (lU 15 E) (fE E) []) [] [jF R] (lg _) ?_
  cases R with
  | inl e=>rfl
  | inr l=>
    show ee [] [cR 53 (fl mC l)]=true
    cases fl mC l<;>rfl
 refine bT (os:=eU 0++(cR 56 (fl gV l)::lU 21 E::((List.range 54).map (fE E)++[jF R]))) xw xw 1 hc hnd hvia hok1 hok2 rfl (.cons (by show 0<69;omega) (.flat (.flat (.flat (.cons (ju (Nat.le_of_ble_eq_true rfl)) (.cons (ju (Nat.le_of_ble_eq_true rfl)) .nil)))))) (.cons rfl (.flat (.flat (.flat (.cons (eG ..) (.cons (eG ..) .nil)))))) ?_ ?_ hren hro rfl hput rfl (.inl rfl)
 ·cases R with
  | inl e=>exact XV.eZ rfl _
  | inr l=>exact Gh (ba (Nat.le_of_ble_eq_true rfl)) trivial
 ·cases R with
  | inl e=>rfl
  | inr l=>simp only[Et,B0,XV.ay,List.map_cons,List.map_nil,X1.ay,aC];rfl
theorem DK{obA obB:ak}{cA cB:XC}{h:Hd}{p:Ph}{a b qa:List Int}{Ba:List Bool}{first:Int}{n:Nat}(hT:lW h p a qa Ba first n)(hoA:RO obA .u8 a)(hcA:dj cA 13 0 a.length)(hoB:RO obB .u8 b)(hcB:dj cB 14 0 b.length){x:TA}(hx:fF Ba first n ⟨dS h p,(0,false),[]⟩=x)(he:kC Ba x.r=0)(hF:Au h p first x.out)(h9:x.out.length<=9)(hb:dc b)(hbl:b.length<=30000){q:List Int}{B:List Bool}(hesc:i_ b b.length [] 0 0=some q)(hsz:cE q=(B.length,true))(hfit:B.length<=8*q.length)(hB:c_ q B){R:Int ⊕ List Mb}(hR:yB B first x.out (dS h p)=R) :
 bh Tryz.prog 17 [.one (.ptr 0 0),.agg (f_ h),.agg (hU p),.one (.int .i64 first),.one (.int .i64 (n:Nat)),.one cA,.one cB] (dZ++[obA,obB]) (B0 15 R) (dZ++[obA,obB,jF R]):=by
 have hfA:=hoA.flat
 have hfB:=hoB.flat
 obtain⟨N,hmf⟩:∃N,vq x.out=N:=⟨_,rfl⟩
 have hN:N<=54:=by have:=vr x.out x.out.length;rw[<-hmf];unfold vq;omega
 unfold yB at hR
 rw[hmf]at hR
 obtain⟨X,hX⟩:∃X,ry B N ([],(0,false))=X:=⟨_,rfl⟩
 rw[hX]at hR
 dsimp only at hR
 refine cO Tryz.func17 ?_
 repeat' (first
  |(refine qz ?_;first
   |refine fC ?_ (hle:=by rw[bt])
   |refine cl ?_ (hi:=by exact yA hT hoA hcA hx he rfl rfl rfl (by decide) nL (by simp only[dZ,List.cons_append,List.nil_append];exact rfl) rfl)
   |refine cl ?_ (hi:=by exact vF hoB hcB hb hbl hesc hsz hfit rfl nL nA rfl)
   |refine cl ?_ (hi:=by exact Mz (by omega) rfl hmf rfl rfl))
  |refine zz ?_|refine zx (fun _=>?_) (fun _=>?_)|fail)
 refine WX.c7 rfl ?_
 refine WX.BL 54 rfl ?_
 refine WX.dA (σ:=List (List Ev)×(Nat×Bool)) (fun s=>[(0,.one (.ptr 0 0)),(3,.one (.int .i64 first)),(8,.one (.ptr 15 0)),(9,.one (.ptr 16 0)),(16,.one (gJ 17 x.out.length 397)),(18,.one (.ptr 18 0)),(43,.one (.int .i64 (N:Nat))),(19,iv 20 s.1.length 1),(44,.one (.int .i64 (s.1.length:Nat)))]) (fun s=>Ln obA obB h p x.out q B s.1 s.2 []) (Qe B N X) (fun s=>N-s.1.length) ([],(0,false)) ⟨Nat.zero_le _,hX,fun e he=>by cases he⟩ (fun s hs=>by have hle:=hs.le;exact(lS (objs:=by repeat' (first|exact bl.nil|refine bl.cons (uj (by show 21+_<=75;omega)) ?_|refine bl.flat ?_|refine bl.cons (by first|(simp[ak.ca,XC.ok,ba];done)|simp[ak.ca,XC.ok,ba, *]) ?_)))) (cG (0::1::2::3::4::5::6::7::8::9::10::11::12::13::14::15::16::17::18::19::20::21::22::23::24::25::26::27::28::29::30::31::32::33::34::35::36::37::38::39::40::41::42::43::44::45::46::47::48::49::50::51::52::53::54::55::56::57::58::59::60::61::62::63::64::65::66::67::68::69::70::71::72::73::74::[])) ?_
 intro s hs ih
 have hle:=hs.le
 have hrun:=hs.run
 by_cases hlt:s.1.length<N
 ·obtain⟨l,p',e',hq⟩:∃l p' e',jE B (s.2.1,s.2.2)=(l,p',e'):=⟨_,_,_,rfl⟩
  obtain⟨k,hk⟩:∃k,N-s.1.length=k+1:=⟨N-s.1.length-1,by omega⟩
  have hq':jE B s.2=(l,p',e'):=hq
  rw[hk,ry,hq']at hrun
  dsimp only at hrun
  have hl1:(s.1++[l]).length=s.1.length+1:=by rw[List.length_append];rfl
  have hin:mF l:=by have:=H_ B (s.2.1,s.2.2);rw[hq]at this;exact this
  cases e' with
  | true=>
    rw[if_pos rfl]at hrun
    rw[<-hrun]at hR
    have e3:kC B (p',true)=3:=rfl
    rw[e3,if_pos (by decide)]at hR
    subst hR
    repeat' (first
     |(refine qz ?_;first
      |refine cl ?_ (hi:=by exact AL hB hq rfl rfl (by decide) nL nA rfl)
      |refine Se (mY _ _) ?_
      |refine cl ?_ (hi:=by exact lf rfl rfl rfl (by decide) rfl))
     |refine zz ?_|refine zx (fun _=>?_) (fun _=>?_)|fail)
    show aB _ _ _ _ _ _ _ _;refine kV [0,1,2,3,4,5,6,7,8,9,10,11,12,13,14,20] ?_
    rfl
  | false=>
    rw[if_neg Bool.false_ne_true]at hrun
    repeat' (first
     |(refine qz ?_;first
      |refine cl ?_ (hi:=by exact AL hB hq rfl rfl (by decide) nL nA rfl)
      |refine Se (mY _ _) ?_
      |refine cl ?_ (hi:=by exact lf rfl rfl rfl (by decide) rfl))
     |refine zz ?_|refine zx (fun _=>?_) (fun _=>?_)|fail)
    refine ih (s.1++[l],(p',false)) _ _ _ (cG (DN s.1.length) (nd := .inl (No (by omega))) (obj:=by
     iterate 20 (first|refine ae.flat rfl ?_|refine ae.cons rfl ?_)
     refine ae.cons ?_ (ux (fun j=>IN _ j) .nil (List.range 54) (L5 rfl rfl))
     rw[Gm (N:=75) (fun j hj=>by rw[Ff _ (by omega),if_neg (by omega)]) (by rw[Ff _ (by omega),if_pos rfl])]
     rfl) (reg:=by
     repeat' (first|exact ah.nil|refine ah.flat (by rw[hl1];rfl) ?_|refine ah.flat rfl ?_|refine ah.cons (by rw[eG,hl1];rfl) ?_|refine ah.cons rfl ?_|refine ah.fM rfl rfl (by rfl) ?_)
     first|done|fail)) ⟨by dsimp only;omega,by dsimp only;rw[hl1,show N-(s.1.length+1)=k by omega];exact hrun,fun e he=>by
      rcases List.mem_append.1 he with he|he
      ·exact hs.ins e he
      ·rw[List.mem_singleton.1 he];exact hin⟩ (by dsimp only;omega)
 ·have h0:N-s.1.length=0:=by omega
  rw[h0]at hrun
  have hrun:s=X:=hrun
  subst hrun
  obtain⟨z,hz⟩:∃z,kC B s.2=z:=⟨_,rfl⟩
  rw[hz]at hR
  by_cases hz0:z=0
  ·rw [if_neg (by omega)]at hR
   subst hz0
   cases R with
   | inl e=>
     repeat' (first
      |(refine qz ?_;first
       |refine fC ?_ (hle:=by rw[bt])
       |refine cl ?_ (hi:=by exact n5 hz rfl rfl (by decide) rfl)
       |refine cl ?_ (hi:=by exact AZ hF hs.ins (by omega) hR rfl rfl rfl rfl))
      |refine zz ?_|refine zx (fun _=>?_) (fun _=>?_)|fail)
     show aB _ _ _ _ _ _ _ _;refine kV [0,1,2,3,4,5,6,7,8,9,10,11,12,13,14,75] ?_
     rfl
   | inr r=>
     repeat' (first
      |(refine qz ?_;first
       |refine fC ?_ (hle:=by rw[bt])
       |refine cl ?_ (hi:=by exact n5 hz rfl rfl (by decide) rfl)
       |refine cl ?_ (hi:=by exact AZ hF hs.ins (by omega) hR rfl rfl rfl rfl))
      |refine zz ?_|refine zx (fun _=>?_) (fun _=>?_)|fail)
     show aB _ _ _ _ _ _ _ _;refine kV [0,1,2,3,4,5,6,7,8,9,10,11,12,13,14,75] ?_
     simp only[B0,XV.ay,List.map_cons,List.map_nil,X1.ay,aC];rfl
  ·rw[if_pos hz0]at hR
   subst hR
   repeat' (first
    |(refine qz ?_;first
     |refine cl ?_ (hi:=by exact n5 hz rfl rfl (by decide) rfl))
    |refine zz ?_|refine zx (fun _=>?_) (fun _=>?_)|fail)
   show aB _ _ _ _ _ _ _ _;refine kV [0,1,2,3,4,5,6,7,8,9,10,11,12,13,14,20] ?_
   rfl
noncomputable def m9(h:Hd)(p:Ph)(first:Int)(n:Nat)(a b:List Int):Int ⊕ List Mb:=
 match kj a with
 | .inl e => .inl e
 | .inr x=>if kC x.2 (fF x.2 first n ⟨dS h p,(0,false),[]⟩).r≠0 then .inl (kC x.2 (fF x.2 first n ⟨dS h p,(0,false),[]⟩).r)else match kj b with
   | .inl e => .inl e
   | .inr y=>yB y.2 first (fF x.2 first n ⟨dS h p,(0,false),[]⟩).out (dS h p)
structure lr(h:Hd)(p:Ph)(first:Int)(n:Nat)(a b:List Int):Prop where
 hd:qk h
 ph:tW p
 pos:0<=first
 many:1<=n
 few:n<=9
 all:first+(n:Nat)<=h.cols*h.rows
 bya:dc a
 lea:a.length<=30000
 byb:dc b
 leb:b.length<=30000
theorem lr.ta{h:Hd}{p:Ph}{first:Int}{n:Nat}{a b:List Int}(hI:lr h p first n a b){q:List Int}{B:List Bool}(ho:kj a = .inr (q,B)):lW h p a q B first n:=by
 obtain⟨o1,o2,o3,o4⟩:=vE hI.bya hI.lea ho
 exact⟨hI.hd,hI.ph,hI.bya,hI.lea,o1,o2,o3,o4,hI.pos,hI.many,hI.all⟩
theorem FU{B:List Bool}{r:Nat×Bool}(h:kC B r=0):r.2=false:=by
 unfold kC at h
 split at h
 ·cases h
 ·rename_i h1
  cases hh:r.2 with
  | false=>rfl
  | true=>exact absurd hh h1
theorem Kt{h:Hd}{p:Ph}{first:Int}{n:Nat}{a b:List Int}(hI:lr h p first n a b){B:List Bool}{t:TA}(ht:fF B first n ⟨dS h p,(0,false),[]⟩=t)(he:kC B t.r=0):Au h p first t.out/\t.out.length=n:=by
 obtain⟨i1,i2⟩:=v9 n _ (by rw[ht];exact FU he)
 rw[ht]at i1
 obtain⟨o1,o2⟩:=se (B:=B) (first:=first) (x0:=⟨dS h p,(0,false),[]⟩) rfl n
 rw[<-i1]at o1 o2
 have hm:=hI.many
 refine⟨⟨hI.hd,hI.ph,hI.pos,by omega,by rw[o1];exact hI.all,fun j hj i=>?_⟩,o1⟩
 rw[o2 j (by omega)]
 dsimp only
 obtain⟨x,has,hx⟩:∃x has,bY (lH B first ⟨dS h p,(0,false),[]⟩ j).S B (first+(j:Nat)) (lH B first ⟨dS h p,(0,false),[]⟩ j).r=(x,has):=⟨_,_,rfl⟩
 rw[hx]
 obtain⟨f1,f2,_⟩:=zQ hx
 by_cases hc:alone x.m=true/\i%64=0/\i<384
 ·have:=f1 hc.1 (i/64) (by omega)
  rw[show i/64*64=i by omega]at this
  show -1000000<=x.m.lev i/\x.m.lev i<=1000000
  omega
 ·show -1000000<=x.m.lev i/\x.m.lev i<=1000000
  rw[f2 i hc];decide
theorem yz{obA obB:ak}{cA cB:XC}{h:Hd}{p:Ph}{first:Int}{n:Nat}{a b:List Int}(hI:lr h p first n a b)(hoA:RO obA .u8 a)(hcA:dj cA 13 0 a.length)(hoB:RO obB .u8 b)(hcB:dj cB 14 0 b.length){R:Int ⊕ List Mb}(hR:m9 h p first n a b=R) :
 bh Tryz.prog 17 [.one (.ptr 0 0),.agg (f_ h),.agg (hU p),.one (.int .i64 first),.one (.int .i64 (n:Nat)),.one cA,.one cB] (dZ++[obA,obB]) (B0 15 R) (dZ++[obA,obB,jF R]):=by
 have hfA:=hoA.flat
 have hfB:=hoB.flat
 have hn9:=hI.few
 unfold m9 at hR
 cases hA:kj a with
 | inl e=>
   rw[hA]at hR
   subst hR
   have he0:=(k9 hA).1
   refine cO Tryz.func17 ?_
   repeat' (first
    |(refine qz ?_;first
     |refine fC ?_ (hle:=by rw[bt])
     |refine cl ?_ (hi:=by exact G3 hI.hd hI.ph hoA hcA hI.bya hI.lea hI.pos hI.many hI.all hA rfl rfl rfl (by decide) rfl))
    |refine zz ?_|refine zx (fun _=>?_) (fun _=>?_)|fail)
   show aB _ _ _ _ _ _ _ _;refine kV [0,1,2,3,4,5,6,7,8,9,10,11,12,13,14,15] ?_
   rfl
 | inr x =>
   obtain⟨qa,Ba⟩:=x
   rw[hA]at hR
   dsimp only at hR
   have hT:=hI.ta hA
   obtain⟨t,ht⟩:∃t,fF Ba first n ⟨dS h p,(0,false),[]⟩=t:=⟨_,rfl⟩
   rw[ht]at hR
   obtain⟨e,he⟩:∃e,kC Ba t.r=e:=⟨_,rfl⟩
   rw[he]at hR
   by_cases he0:e=0
   ·rw [if_neg (fun g=>g he0)]at hR
    subst he0
    cases hB:kj b with
    | inl e=>
      rw[hB]at hR
      subst hR
      have he1:=(k9 hB).1
      refine cO Tryz.func17 ?_
      repeat' (first
       |(refine qz ?_;first
        |refine fC ?_ (hle:=by rw[bt])
        |refine cl ?_ (hi:=by exact yA hT hoA hcA ht he rfl rfl rfl (by decide) nL (by simp only[dZ,List.cons_append,List.nil_append];exact rfl) rfl)
        |refine cl ?_ (hi:=by exact x_ hoB hcB hI.byb hI.leb hB rfl rfl))
       |refine zz ?_|refine zx (fun _=>?_) (fun _=>?_)|fail)
      show aB _ _ _ _ _ _ _ _;refine kV [0,1,2,3,4,5,6,7,8,9,10,11,12,13,14,15] ?_
      rfl
    | inr y=>
      obtain⟨qb,Bb⟩:=y
      rw[hB]at hR
      obtain⟨o1,o2,o3,o4⟩:=vE hI.byb hI.leb hB
      obtain⟨f1,f2⟩:=Kt hI ht he
      exact DK hT hoA hcA hoB hcB ht he f1 (by omega) hI.byb hI.leb o1 o2 o3 o4 hR
   ·rw[if_pos he0]at hR
    subst hR
    refine cO Tryz.func17 ?_
    repeat' (first
     |(refine qz ?_;first
      |refine fC ?_ (hle:=by rw[bt])
      |refine cl ?_ (hi:=by exact G4 hT hoA hcA ht he he0 rfl rfl rfl (by decide) rfl))
     |refine zz ?_|refine zx (fun _=>?_) (fun _=>?_)|fail)
    show aB _ _ _ _ _ _ _ _;refine kV [0,1,2,3,4,5,6,7,8,9,10,11,12,13,14,15] ?_
    rfl
theorem s_{h : Hd}{p:Ph}{first:Int}{n:Nat}{a b:List Int}{e:Int}(hR:m9 h p first n a b = .inl e):e≠0:=by
 unfold m9 at hR
 cases hA:kj a with
 | inl e'=>rw[hA]at hR;cases hR;exact(k9 hA).1
 | inr x =>
   rw[hA]at hR
   dsimp only at hR
   split at hR
   ·rename_i hne;cases hR;exact hne
   ·cases hB : kj b with
    | inl e'=>rw[hB]at hR;cases hR;exact(k9 hB).1
    | inr y =>
      rw[hB]at hR
      unfold yB at hR
      dsimp only at hR
      split at hR
      ·rename_i hne;cases hR;exact hne
      ·unfold g_ at hR
       split at hR
       ·rename_i e' hf
        cases hR
        have fK_ne:∀{E:List (List Ev)} {mb:Int} {has:Nat->Bool} {x:FK} {k:Nat} {e:Int},fK E mb has x k = .inl e->e≠0:=fun {E mb has x k e} h=>by
         have hr:∀{u rest},FY mb x k u rest = .inl e->e≠0:=fun h=>by
          unfold FY at h
          split at h
          ·cases h;decide
          ·cases h
         unfold fK at h
         split at h
         ·split at h
          ·cases h;decide
          ·split at h
           ·cases h;decide
           ·exact hr h
         ·exact hr h
        have fB_ne:∀{E:List (List Ev)} {mb:Int} {has:Nat->Bool} {x:FK} {e:Int}(k:Nat),ij E mb has x k = .inl e->e≠0:=fun {E mb has x e} k=>by
         induction k with
         | zero=>intro h;cases h
         | succ k ih=>
           intro h
           rw[ij]at h
           split at h
           ·rename_i e2 h2;cases h;exact ih h2
           ·exact fK_ne h
        have fA_ne:∀{E:List (List Ev)} {l:List Ol} {S0:bm} {e:Int}(k:Nat),nN E first l S0 k = .inl e->e≠0:=fun {E l S0 e} k=>by
         induction k with
         | zero=>intro h;cases h
         | succ k ih=>
           intro h
           rw[nN]at h
           split at h
           ·rename_i e2 h2;cases h;exact ih h2
           ·split at h
            ·rename_i e2 h2;cases h;exact fB_ne 6 h2
            ·cases h
        exact fA_ne _ hf
       ·split at hR
        ·cases hR;decide
        ·cases hR
theorem Ky{h:Hd}{p:Ph}{first:Int}{n:Nat}{a b:List Int}(hI:lr h p first n a b){m:List Mb}(hR:m9 h p first n a b = .inr m):gu h p m first/\m.length=n/\(∀j,j<n->Canon (m.getD j default))/\pf h p m first = .inr (a,b):=by
 unfold m9 at hR
 cases hA:kj a with
 | inl e'=>rw[hA]at hR;cases hR
 | inr x=>
   obtain⟨qa,Ba⟩:=x
   rw[hA]at hR
   dsimp only at hR
   split at hR
   ·cases hR
   ·rename_i he
    have he:kC Ba (fF Ba first n ⟨dS h p,(0,false),[]⟩).r=0:=Decidable.byContradiction fun g=>he g
    cases hB:kj b with
    | inl e'=>rw[hB]at hR;cases hR
    | inr y=>
      obtain⟨qb,Bb⟩:=y
      rw[hB]at hR
      obtain⟨o1,o2,o3,o4⟩:=vE hI.byb hI.leb hB
      exact JN hI.hd hI.ph hI.pos hI.many (by have:=hI.few;omega) hI.all (hI.ta hA) rfl he hI.leb o1 o2 o4 hR
end Go.Proofs.YtagpkhindehcbaaGreat
namespace Go.Xm
variable [ax]
variable {P:Program} {ops:Array Oper} {nt nI:Nat} {al:bn} {hs:aj} {o:Oper} {l:List Oper} {L:List aG} {K:List Ab->bn->aj->Prop} {d:Nat}
theorem Cj{t:TypeId}{xs ys:List XC}(h:P.eqGuardType P.depth t=false):sq P t (.agg xs) (.agg ys)=bZ P 40 t (.agg xs) (.agg ys):=by
 show(if P.eqGuardType P.depth t then none else _)=_
 rw[h];rfl
theorem Sc{t t':TypeId}{a b:Operand}{xs ys:List XC}{r:Bool}(hr:sq P t (.agg xs) (.agg ys)=some r)(hk:SK P ops nt L l ((d,.one (.bool r))::al) hs fun bs=>K (quiet::bs))(ho:o.op = .binOp .eql t a b t':=by exact rfl)(hw:av ops (rg al) o=some true:=by exact rfl)(hd:o.dst=some d:=by exact rfl)(hlt:Nat.blt d nt=true:=by exact rfl)(ha:ai (rg al) a = .agg xs:=by exact rfl)(hb:ai (rg al) b = .agg ys:=by exact rfl):SK P ops nt L (o::l) al hs K:=
 SK.lift hd hlt (fun _=>aH.pure hw (by rw[ho];simp only[bg,ha,hb,sk,hr,Option.map_some])) hk
theorem NA{e:TypeId}{n:Nat}{eq:TypeId->X1->X1->Option Bool}{xs ys:List XC}{R:Nat->Prop}:∀k i,(∀j,i<=j->j<i+k->∃a b r,iD P e xs (j*n)=some a/\iD P e ys (j*n)=some b/\eq e a b=some r/\(r=true↔R j))->∃r,jz P eq e n xs ys i k=some r/\(r=true↔∀j,i<=j->j<i+k->R j)
 | 0,i,_=>⟨true,rfl,fun _ j h1 h2=>absurd h2 (by omega),fun _=>rfl⟩
 | k + 1,i,h=>by
   obtain⟨a,b,r,h1,h2,h3,h4⟩:=h i (Nat.le_refl _) (by omega)
   rw[jz,h1,h2]
   dsimp only
   rw[h3]
   cases r with
   | true=>
     obtain⟨r2,g1,g2⟩:=NA k (i+1) (fun j h5 h6=>h j (by omega) (by omega))
     refine⟨r2,g1,fun hr j h5 h6=>?_,fun hr=>g2.2 fun j h5 h6=>hr j (by omega) (by omega)⟩
     by_cases hji:j=i
     ·subst hji;exact h4.1 rfl
     ·exact g2.1 hr j (by omega) (by omega)
   | false=>exact⟨false,rfl,fun hr=>(by cases hr),fun hr=>absurd (h4.2 (hr i (Nat.le_refl _) (by omega))) (by decide)⟩
theorem qf{e:TypeId}{u:TypeDesc}(hu:P.underlying e=some u)(hn:gg P e=some false){cs:List XC}{i:Nat}{c:XC}(hc:cs[i]? = some c):iD P e cs i=some (.one c):=by
 unfold iD
 rw[hn,hc]
theorem QB{t e:TypeId}{kk:IntKind}{n:Nat}(ht:P.underlying t=some (.array n e))(he:P.underlying e=some (.int kk))(hs:cx P e=some 1){d:Nat}(f g:Nat->Int):∃r,bZ P (d+2) t (.agg (ti kk n f)) (.agg (ti kk n g))=some r/\(r=true↔∀j,j<n->f j=g j):=by
 have hn:gg P e=some false:=by unfold gg;rw[he]
 obtain⟨r,h1,h2⟩:=NA (P:=P) (e:=e) (n:=1) (eq:=bZ P (d+1)) (xs:=ti kk n f) (ys:=ti kk n g) (R:=fun j=>f j=g j) n 0 (fun j _ hj=>by
  refine⟨.one (.int kk (f j)),.one (.int kk (g j)),f j==g j,?_,?_,?_,beq_iff_eq⟩
  ·exact qf he hn (by rw[Nat.mul_one];exact fz (by omega))
  ·exact qf he hn (by rw[Nat.mul_one];exact fz (by omega))
  ·rw[bZ,he]
   simp[wN])
 refine⟨r,?_,h2.trans ⟨fun h j hj=>h j (Nat.zero_le _) (by omega),fun h j _ hj=>h j (by omega)⟩⟩
 rw[bZ,ht]
 dsimp only
 rw[hs]
 exact h1
theorem Fb{kk:IntKind}{N n i:Nat}{f:Nat->Int}(h:i+n<=N):((ti kk N f).drop i).take n=ti kk n fun j=>f (i+j):=by
 apply List.ext_getElem?
 intro j
 by_cases hj:j<n
 ·rw[List.getElem?_take_of_lt hj,List.getElem?_drop,fz (by omega),fz hj]
 ·rw[List.getElem?_eq_none (by rw[List.length_take];omega),List.getElem?_eq_none (by rw[aD];omega)]
theorem OI{t u e:TypeId}{kk:IntKind}{m n N:Nat}(hN:N=m*n)(ht:P.underlying t=some (.array m u))(hu:P.underlying u=some (.array n e))(he:P.underlying e=some (.int kk))(hs:cx P e=some 1)(hsu:cx P u=some n){d:Nat}(f g:Nat->Int):∃r,bZ P (d+3) t (.agg (ti kk N f)) (.agg (ti kk N g))=some r/\(r=true↔∀j,j<N->f j=g j):=by
 subst hN
 have hn:gg P u=some true:=by unfold gg;rw[hu]
 have hin:∀j,j<m->j*n+n<=m*n:=fun j hj=>by
  have:=Nat.mul_le_mul_right n (show j+1<=m from hj)
  rw[Nat.add_mul,Nat.one_mul]at this
  exact this
 obtain⟨r,h1,h2⟩:=NA (P:=P) (e:=u) (n:=n) (eq:=bZ P (d+2)) (xs:=ti kk (m*n) f) (ys:=ti kk (m*n) g) (R:=fun k=>∀j,j<n->f (k*n+j)=g (k*n+j)) m 0 (fun j _ hj=>by
  obtain⟨r,g1,g2⟩:=QB (d:=d) hu he hs (fun i=>f (j*n+i)) (fun i=>g (j*n+i))
  refine⟨_,_,r,?_,?_,g1,g2⟩
  ·unfold iD;rw[hn];dsimp only;rw[hsu];dsimp only;rw[Fb (hin j (by omega))]
  ·unfold iD;rw[hn];dsimp only;rw[hsu];dsimp only;rw[Fb (hin j (by omega))])
 refine⟨r,?_,h2.trans ⟨fun h j hj=>?_,fun h k _ hk j hj=>h _ (by have:=hin k (by omega);omega)⟩⟩
 ·rw[bZ,ht]
  dsimp only
  rw[hsu]
  exact h1
 ·by_cases h0:n=0
  ·subst h0;omega
  ·have e1:j/n*n+j%n=j:=by rw[Nat.mul_comm];exact Nat.div_add_mod j n
   have h3:=h (j/n) (Nat.zero_le _) (by rw[Nat.zero_add];exact(Nat.div_lt_iff_lt_mul (by omega)).2 hj) (j%n) (Nat.mod_lt _ (by omega))
   rw[e1]at h3
   exact h3
end Go.Xm
namespace Go.Proofs.YtagpkhindehcbaaGreat
open Go.Xm
variable [ax]
theorem OH(f g:Nat->Int):∃r,sq Tryz.prog 51 (.agg (ti .i64 384 f)) (.agg (ti .i64 384 g))=some r/\(r=true↔∀j,j<384->f j=g j):=by
 obtain⟨r,h1,h2⟩:=OI (P:=Tryz.prog) (d:=37) (N:=384) (m:=6) (n:=64) rfl Tryz.underlying51 Tryz.underlying50 Tryz.underlying3 (by kernel_rfl) (by kernel_rfl) f g
 refine⟨r,?_,h2⟩
 rw[Cj (by kernel_rfl)]
 exact h1
theorem OJ{v w:Nat->Int×Int}(hv:∀k,bz (v k))(hw:∀k,bz (w k)):∃r,sq Tryz.prog 49 (.agg (vt v)) (.agg (vt w))=some r/\(r=true↔∀k,k<4->w k=v k):=by
 have hun:Tryz.prog.underlying 47=some (.complex .f64):=by kernel_rfl
 have hn:gg Tryz.prog 47=some false:=by unfold gg;rw[hun]
 have hget:∀(v:Nat->Int×Int) (j:Nat),j<4->(vt v)[j*1]? = some (cy (v j)):=fun v j hj=>by
  match j,hj with
  | 0,_=>rfl
  | 1,_=>rfl
  | 2,_=>rfl
  | 3,_=>rfl
 obtain⟨r,h1,h2⟩:=NA (P:=Tryz.prog) (e:=47) (n:=1) (eq:=bZ Tryz.prog 39) (xs:=vt v) (ys:=vt w) (R:=fun j=>w j=v j) 4 0 (fun j _ hj=>by
  refine⟨_,_,decide ((v j).1=(w j).1)&&decide ((v j).2=(w j).2),qf hun hn (hget v j (by omega)),qf hun hn (hget w j (by omega)),?_,?_⟩
  ·rw[bZ,hun]
   have a1:=tD (hv j).1 (hw j).1
   have a2:=tD (hv j).2 (hw j).2
   simp only[cy,wN,if_true,Op.floatEq,a1,a2]
  ·rw[Bool.and_eq_true,decide_eq_true_iff,decide_eq_true_iff]
   exact⟨fun h=>Prod.ext h.1.symm h.2.symm,fun h=>by rw[h];exact⟨rfl,rfl⟩⟩)
 refine⟨r,?_,h2.trans ⟨fun h k hk=>h k (Nat.zero_le _) (by omega),fun h k _ hk=>h k (by omega)⟩⟩
 rw[Cj (by kernel_rfl),bZ,show Tryz.prog.underlying 49=some (.array 4 47)from Tryz.underlying49]
 dsimp only
 rw[show cx Tryz.prog 47=some 1 by kernel_rfl]
 exact h1
end Go.Proofs.YtagpkhindehcbaaGreat
