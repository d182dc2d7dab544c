import Derived.Test.YtldmjbgplgoedaaGreatDoorRp12
set_option linter.all false
namespace Go.Proofs.YtldmjbgplgoedaaGreatDoor
open Go.RowKit
section
variable {P:Program} {E:EN} {K:KT} {G:GT} {w0 w w':World} {c0 c c':Cx} {N:Nat} {st:ASt} {a:Act} {mem mem':List AB} {ops:Array Oper}
theorem uj:∀ {σ:List Nat} {l:List AB} {x:Nat},x∈dU (su σ l)->x∈σ
 |[],_,x,h=>by simp[su,dU]at h
 |_::_,[],x,h=>by simp[su,dU]at h
 |j::σ,b::l,x,h=>by
  unfold su dU at h;rcases List.mem_cons.1 h with rfl | h
  .exact List.mem_cons_self ..
  .exact List.mem_cons_of_mem _ (uj h)
theorem cM:∀ {l:List (Nat × AB)} {x:Nat × AB},x∈l->x.1∈dU l
 |y::l,x,h=>by
  unfold dU;rcases List.mem_cons.1 h with rfl | h
  .exact List.mem_cons_self ..
  .exact List.mem_cons_of_mem _ (cM h)
structure WD (P:Program) (E:EN) (N:Nat) (ops:Array Oper) (rs:List (Nat × Bool)) (hs:List HR) (S:Nat->ASt):Prop where
 len:hs.length=ops.size
 at_:∀(i:Nat) (o:Oper),ops[i]? = some o->∃h,hs[i]? = some h/\HdD P E N ops rs o h/\h.st=S i/\S (i+1)=(S i).app o.dst h.e
 pair:∀i k,i<ops.size->k<ops.size->oX ops i k=true
 edge:∀i o,i<ops.size->ops[i]? = some o->∀e∈o.after,Region.binds .any e=true->e.on<i
 apart:∀(i k:Nat) (a b:HR),i<k->hs[i]? = some a->hs[k]? = some b->di a b\/dH ops 12 k i=true\/Tol P E ops hs (λn=>(S n).mem) i k a
 ps:∀h∈hs,bC h.e.ps
 up:∀h∈hs,∀j∈dU h.e.up,j<h.st.mem.length
theorem kJ {e:Eff} (h:noE e=true):e.up=[]/\e.nw=[]:=by
 unfold noE at h
 split at h
 .rename_i h1 h2;exact⟨h1,h2⟩
 .cases h
theorem yw {x y:AV} {qs:List Prop} {v:Value} (h:xX x y=some qs) (hq:bC qs) (hv:x.is K c v):y.is K c v:=by
 unfold xX at h
 split at h
 .rename_i j κ a b o n j' κ' a' b' o' n'
  split at h
  .rename_i hb;simp only[both_iff]at hb;obtain⟨⟨h1,h2⟩,h3,h4⟩:=hb;cases beq_iff'.1 h1;cases beq_iff'.1 h2;cases h;obtain⟨e1,e2,-⟩:=hq;subst e1;subst e2;obtain⟨id,m,q1,q2,q3,q4,q5⟩:=is_D.1 hv;exact is_D.2 ⟨id,m,q1,q2,Nat.le_trans (ble_iff.1 h3) q3,Nat.le_trans q4 (ble_iff.1 h4),q5⟩
  .cases h
 .cases h
theorem HZ {x y:AT} {qs:List Prop} {v:Value} (h:LQ x y=some qs) (hq:bC qs) (hv:x.is K c v):y.is K c v:=by
 unfold LQ at h
 split at h
 .exact yw h hq hv
 .cases h
def Aff (hs:List HR) (k j:Nat):Prop:=∃h,hs[k]? = some h/\(j∈dU h.e.up\/(h.st.mem.length<=j/\j<h.st.mem.length+h.e.nw.length))
theorem S9 (st:ASt) (d:Option Tmp) (e:Eff):(st.app d e).tm=P6 st.tm d e.y:=yf _ _ _ _
theorem rJ (st:ASt) (d:Option Tmp) (e:Eff):(st.app d e).mem=fI e.up st.mem++e.nw:=sr _ _ _ _
theorem fx (st:ASt) (d:Option Tmp) (e:Eff):(st.app d e).mem.length=st.mem.length+e.nw.length:=by rw[rJ,List.length_append,bo]
variable {rs:List (Nat × Bool)} {hs:List HR} {S:Nat->ASt}
theorem WD.hr (W:WD P E N ops rs hs S) {i:Nat} (hi:i<ops.size):∃h,hs[i]? = some h/\HdD P E N ops rs ops[i] h/\h.st=S i/\S (i+1)=(S i).app (ops[i]).dst h.e:=W.at_ i _ (Array.getElem?_eq_getElem hi)
theorem WD.mono (W:WD P E N ops rs hs S):∀ {n i:Nat},i<=n->n<=ops.size->(S i).mem.length<=(S n).mem.length
 |0,i,h,_=>by rw[show i=0 by omega];exact Nat.le_refl _
 |n+1,i,h,hn=>by
  by_cases e:i=n+1
  .subst e;exact Nat.le_refl _
  .obtain⟨x,-,-,-,g4⟩:=W.hr (show n<ops.size by omega)
   rw[g4,fx];exact Nat.le_trans (W.mono (show i<=n by omega) ac) ac
theorem getElem?_app_up {st:ASt} {d:Option Tmp} {e:Eff} {j:Nat} (hj:j<st.mem.length) (hu:j∉dU e.up):(st.app d e).mem[j]? = st.mem[j]?:=by rw[rJ,List.getElem?_append_left (by rw[bo];exact hj),bp _ _ _ λx hx e'=>hu (by rw[<-e'];exact cM hx)]
theorem WD.still (W:WD P E N ops rs hs S) {j:Nat}:∀ {n i:Nat},i<=n->n<=ops.size->j<(S i).mem.length->(∀k,i<=k->k<n->¬ Aff hs k j)->(S n).mem[j]? = (S i).mem[j]?
 |0,i,h,_,_,_=>by rw[show i=0 by omega]
 |n+1,i,h,hn,hj,hk=>by
  by_cases e:i=n+1
  .rw[e]
  .obtain⟨x,g1,-,g3,g4⟩:=W.hr (show n<ops.size by omega)
   rw[g4,getElem?_app_up (Nat.lt_of_lt_of_le hj (W.mono ac ac)) λhu=>hk n ac ac ⟨x,g1,.inl hu⟩];exact W.still ac ac hj λk h1 h2=>hk k h1 ac
def DI (K:KT) (w0:World) (c0:Cx) (N:Nat) (ops:Array Oper) (hs:List HR) (S:Nat->ASt) (listed:Array Bool) (a:Act) (w:World):Prop :=
 a.tmps.size=N/\a.defers=c0.D/\∃c mem,AM K w0 c0 c mem w/\mem.length=(S ops.size).mem.length /\
  (∀(k:Nat) (o:Oper) (h:HR) (d:Nat),ops[k]? = some o->hs[k]? = some h->listed.getD k false=true->o.dst=some d->h.e.y.is K c (a.tmps.getD d undef)) /\
  (∀t,(∀(k:Nat) (o:Oper),ops[k]? = some o->listed.getD k false=true->o.dst≠some t)->((S 0).tm.get t).is K c (a.tmps.getD t undef)) /\
  (∀(k:Nat) (h:HR),hs[k]? = some h->listed.getD k false=false->∀j,h.st.mem.length<=j->j<h.st.mem.length+h.e.nw.length->c.ρ j=none) /\
  (∀i,i<=ops.size->∀j,j<(S i).mem.length->(∀k,k<ops.size->Aff hs k j->(listed.getD k false=true↔k<i))->mem[j]? = (S i).mem[j]?)
theorem NM {rs:List (Nat × Bool)} {d:Option Tmp} {e:Eff}:(EY rs d e).up=e.up/\(EY rs d e).nw=e.nw/\(bC (EY rs d e).ps->bC e.ps/\∀(c:Cx) (v:Value),e.y.is K c v->(EY rs d e).y.is K c v):=by
 unfold EY
 split
 .exact⟨rfl,rfl,λh=>⟨h,λ_ _ h=>h⟩⟩
 .exact⟨rfl,rfl,λh=>⟨h,λ_ _ h=>h⟩⟩
 .split
  .rename_i b x hb hy;refine⟨rfl,rfl,λh=>⟨h.2,λc v hv=>?_⟩⟩;have hx:x=b:=h.1;rw[hy]at hv;obtain⟨rfl,-⟩:=is_B.1 (show AV.is K c (.nB true true x) v from hv);rw[hx];exact(show AV.is K c (ofB b) _ from by cases b<;>exact is_B.2 ⟨rfl,by simp,by simp⟩)
  .exact⟨rfl,rfl,λh=>⟨h,λ_ _ h=>h⟩⟩
theorem pH:∀ {t:T} {ps:List Prop} {m:List AB} {y:AT},nA t=some (ps,m,y)->bC ps->t.sat λo=>o=.val m y
 |.vc p t,ps,m,y,h,hp=>by
  unfold nA at h
  split at h
  .rename_i ps' r hr;cases h;exact⟨hp.1,pH hr hp.2⟩
  .cases h
 |.done o,ps,m,y,h,hp=>by
  unfold nA at h
  split at h
  .rename_i e;cases e
  .rename_i e;cases e;cases h;rfl
  .cases h
 |.br ..,_,_,_,h,_=>by simp[nA]at h
 |.all ..,_,_,_,h,_=>by simp[nA]at h
 |.loop ..,_,_,_,h,_=>by simp[nA]at h
 |.fail,_,_,_,h,_=>by simp[nA]at h
theorem TH {o:Oper} {tm:T3} (hAR:AR K N c tm a) (hin:gIn N ops o=true):(gOn ops o tm=.on->Region.wanted o (yielded ops a.tmps)=true)/\(gOn ops o tm=.off->Region.wanted o (yielded ops a.tmps)=false):=by
 unfold gOn
 split
 .rename_i hgd;exact⟨λ_=>by simp[Region.wanted,hgd],λh=>by cases h⟩
 .rename_i j want hgd
  split
  .rename_i t hj
   split
   .rename_i f t' x hst;have hv:=hAR.is_ t;rw[hst]at hv;obtain⟨hb,b1,b2⟩:=is_B.1 (show AV.is K c (.nB f t' x) _ from hv)
    have htN:t<N:=by unfold gIn at hin;rw[hgd]at hin;simp only[hj]at hin;exact blt_iff.1 hin
    have hy:=uh hj hAR.sz htN hb
    have hw:Region.wanted o (yielded ops a.tmps)=(x==want):=by simp only[Region.wanted,hgd,hy];cases x<;>cases want<;>rfl
    rw[hw];cases f<;>cases t'<;>cases want<;>cases x<;>simp at b1 b2 ⊢
   .rename_i hst;have hv:=hAR.is_ t;rw[hst]at hv;exact⟨λh=>(by cases h),λ_=>by simp[Region.wanted,hgd,uA hj hv]⟩
   .exact⟨λh=>(by cases h),λh=>(by cases h)⟩
  .exact⟨λh=>(by cases h),λh=>(by cases h)⟩
theorem qA {r:Rs} {l:List Nat} {x:Nat} (h:x∈l):x∈cO l r:=blkRs_mem.2 (.inl h)
theorem dJ:∀(f i:Nat) (l:List Nat) (x:Nat),x∈l->x∈dM mem f i l
 |0,_,_,_,h=>h
 |f+1,i,l,x,h=>by
  unfold dM
  split
  .split
   .exact dJ f (i+1) _ x (qA h)
   .exact dJ f (i+1) l x h
  .exact h
theorem dq:∀(f i:Nat) (l:List Nat),(∀j∈dM mem f i l,∃b,be mem j=some b/\be mem' j=some b)->dM mem' f i l=dM mem f i l
 |0,_,_,_=>rfl
 |f+1,i,l,h=>by
  unfold dM at h ⊢
  cases hq:l[i]? with
  |none=>rfl
  |some j =>
   rw[hq]at h;simp only at h ⊢
   have hj:∃b,be mem j=some b/\be mem' j=some b:=by
    cases hm:be mem j with
    |none=>rw[hm]at h;have:=h j (dJ f (i+1) l j (List.mem_of_getElem? hq));rw[hm]at this;exact this
    |some b =>
     rw[hm]at h
     cases b with
     |run ty rs=>have:=h j (dJ f (i+1) _ j (qA (List.mem_of_getElem? hq)));rw[hm]at this;exact this
     |_=>have:=h j (dJ f (i+1) l j (List.mem_of_getElem? hq));rw[hm]at this;exact this
   obtain⟨b,h1,h2⟩:=hj;rw[h1]at h ⊢;rw[h2]
   cases b with
   |run ty rs=>exact dq f (i+1) _ h
   |dyn=>exact dq f (i+1) l h
   |dead=>exact dq f (i+1) l h
theorem lU:∀ {l:List Nat},(∀j∈l,be mem' j=be mem j)->pick mem' l=pick mem l
 |[],_=>rfl
 |x::l,h=>by unfold pick;rw[h x (List.mem_cons_self ..),lU λj hj=>h j (List.mem_cons_of_mem _ hj)]
theorem iv {l:List Nat}:∀ {m:List Nat},(∀j∈m,be mem' j=be mem j)->gS mem' l m=gS mem l m
 |[],_=>rfl
 |x::m,h=>by unfold gS;rw[h x (List.mem_cons_self ..),iv λj hj=>h j (List.mem_cons_of_mem _ hj)]
theorem rL {args:List AT} {ca:Can} (h:lA args mem=some ca) (ha:Agr ca.σ mem mem'):lA args mem'=some ca:=by
 unfold lA at h ⊢
 split at h
 .rename_i hb;rw[both_iff,both_iff]at hb;have hc:=iH hb.2.2;cases h;simp only[Agr]at ha
  have hag:∀j∈aY args mem,∃b,be mem j=some b/\be mem' j=some b:=λj hj=>by obtain⟨b,q1,-⟩:=hc j hj;exact⟨b,q1,ha j hj b q1⟩
  have heq:∀j∈aY args mem,be mem' j=be mem j:=λj hj=>by obtain⟨b,q1,q2⟩:=hag j hj;rw[q1,q2]
  have hr:aY args mem'=aY args mem:=dq _ _ _ hag;rw[hr,iv heq,lU heq,both_iff.2 ⟨hb.1,both_iff.2 hb.2⟩]
 .cases h
theorem kU:∀(l:List (Nat × AB)) (m m':List AB) (j:Nat),j<m.length->j<m'.length->j∈dU l->(fI l m)[j]? = (fI l m')[j]?
 |[],_,_,_,_,_,h=>by simp[dU]at h
 |x::l,m,m',j,h1,h2,h=>by
  unfold fI
  by_cases hl:j∈dU l
  .exact kU l _ _ j (by rw[List.length_set];exact h1) (by rw[List.length_set];exact h2) hl
  .have hj:x.1=j:=by
    unfold dU at h;rcases List.mem_cons.1 h with e | e
    .exact e.symm
    .exact absurd e hl
   rw[bp _ _ _ λy hy e=>hl (by rw[<-e];exact cM hy),bp _ _ _ λy hy e=>hl (by rw[<-e];exact cM hy),hj,List.getElem?_set_self h1,List.getElem?_set_self h2]
theorem Bh {x y:AV} {v v0:Value} {c c':Cx} (h:zW x y=true) (e:wdV y=wdV x) (h0:x.is K c v0) (h1:y.is K c' v):x.is K c' v:=by
 unfold zW at h
 split at h
 .have:=dD h;subst this;have e:=Lf.i.inj e;subst e;obtain⟨-,a1,a2,-⟩:=is_I.1 h0;obtain⟨b1,-,-,b4⟩:=is_I.1 h1;exact is_I.2 ⟨b1,a1,a2,b4⟩
 .have e:=Lf.b.inj e;subst e;obtain⟨-,a1,a2⟩:=is_B.1 h0;obtain⟨b1,-,-⟩:=is_B.1 h1;exact is_B.2 ⟨b1,a1,a2⟩
 .have:=beq_iff'.1 h;subst this;obtain⟨e1,e2⟩:=Lf.l.inj e;subst e1;subst e2;obtain⟨_,_,-,a1,a2,-⟩:=is_R.1 h0;obtain⟨A,m,b1,-,-,b4⟩:=is_R.1 h1;exact is_R.2 ⟨A,m,b1,a1,a2,b4⟩
 .cases h
theorem mo:∀ {r s:Rs},lK r s=true->eX s=eX r->aV r=aV s/\∀(i:Nat) (x:AV),(aq r)[i]? = some x->∃y,(aq s)[i]? = some y/\zW x y=true/\wdV y=wdV x
 |[],[],_,_=>⟨rfl,λi x h=>by simp[aq]at h⟩
 |[],_::_,h,_=>by cases h
 |_::_,[],h,_=>by cases h
 |a::r,b::s,h,e=>by
  obtain⟨h1,h2⟩:=both_iff.1 h
  have key:∃_:eX s=eX r,bi a=bi b/\∀(i:Nat) (x:AV),(az a)[i]? = some x->∃y,(az b)[i]? = some y/\zW x y=true/\wdV y=wdV x:=by
   cases a with
   |c a =>
    cases b with
    |c b =>
     have e:wdV b::eX s=wdV a::eX r:=e;refine⟨(List.cons.inj e).2,rfl,λi x hx=>?_⟩;rcases i with _ | i
     .have hx:a=x:=by simpa[az]using hx
      subst hx;exact⟨b,rfl,h1,(List.cons.inj e).1⟩
     .simp[az]at hx
    |a=>cases h1
   |a n k lo hi f =>
    cases b with
    |c b=>cases h1
    |a n' k' lo' hi' f' =>
     obtain⟨g1,g2⟩:=both_iff.1 h1;cases beq_iff'.1 g1;have e:Lf.f f'::eX s=Lf.f f::eX r:=e;have ef:=Lf.f.inj (List.cons.inj e).1;subst ef;refine⟨(List.cons.inj e).2,rfl,λi x hx=>?_⟩;simp only[az,List.getElem?_map]at hx ⊢
     cases hr:(List.range n)[i]? with
     |none=>rw[hr]at hx;cases hx
     |some j =>
      rw[hr]at hx;have hx:AV.nI k lo hi (f' j)=x:=by simpa using hx
      subst hx;exact⟨_,rfl,g2,rfl⟩
  obtain⟨e2,k1,k2⟩:=key;obtain⟨i1,i2⟩:=mo h2 e2;refine⟨by rw[aV,aV,k1,i1],λi x hx=>?_⟩
  rw[aq]at hx ⊢
  by_cases hi:i<(az a).length
  .rw[List.getElem?_append_left hi]at hx;obtain⟨y,q⟩:=k2 i x hx;exact⟨y,by rw[List.getElem?_append_left (by rw[aB]at hi ⊢;omega)];exact q.1,q.2⟩
  .rw[List.getElem?_append_right ac]at hx;obtain⟨y,q⟩:=i2 _ x hx;refine⟨y,?_,q.2⟩;rw[List.getElem?_append_right (by rw[aB]at hi ⊢;omega)]
   rw[aB]at q ⊢;rw[<-k1];exact q.1
theorem xI {r s:Rs} {c c':Cx} {vs vs0:List Value} (h:lK r s=true) (e:eX s=eX r) (h0:RsOk K c r vs0) (h1:RsOk K c' s vs):RsOk K c' r vs:=by
 obtain⟨k1,k2⟩:=mo h e;refine⟨by rw[h1.1,k1],λi x v hx hv=>?_⟩
 obtain⟨y,q1,q2,q3⟩:=k2 i x hx;have hl:=h0.1
 have hi:i<vs0.length:=by have:=(List.getElem?_eq_some_iff.1 hx).1;rw[aF]at this;omega
 exact Bh q2 q3 (h0.2 i x _ hx (List.getElem?_eq_getElem hi)) (h1.2 i y v q1 hv)
theorem AM.lessD {mem mem':List AB} {c:Cx} {w:World} (h:AM K w0 c0 c mem w) (hl:mem'.length=mem.length) (hb:∀(j:Nat) (b':AB),mem'[j]? = some b'->∃b,mem[j]? = some b/\∀id,c.ρ j=some id->abOk K c w id b->(fQ b'=true->fQ b=true)/\abOk K c w id b'):AM K w0 c0 c mem' w:=by
 refine⟨h.os,h.tape,h.output,h.size,h.frame,h.le,λj id e=>?_,λi j id x y e1 e2 g1 g2 l1 l2=>?_,h.new,h.newF,λj id ab e1 e2=>?_,h.fr⟩
 .rw[hl];exact h.dom j id e
 .obtain⟨x',q1,q2⟩:=hb i x g1;obtain⟨y',r1,r2⟩:=hb j y g2;exact h.nd i j id x' y' e1 e2 q1 r1 ((q2 id e1 (h.kn i id x' e1 q1)).1 l1) ((r2 id e2 (h.kn j id y' e2 r1)).1 l2)
 .obtain⟨b,q1,q2⟩:=hb j ab e2;exact(q2 id e1 (h.kn j id b e1 q1)).2
theorem EU {M:List AB} {j:Nat} {b:AB} {r r':Rs} (h:Nq M j b=some (r,r')):be M j=some (.run 100 r)/\b=.run 100 r'/\lK r r'=true:=by
 unfold Nq at h
 split at h
 .rename_i ty r1 ty' r2 hm
  split at h
  .rename_i hb;obtain⟨h1,h2⟩:=both_iff.1 hb;obtain⟨h3,h4⟩:=both_iff.1 h1;cases beq_iff'.1 h3;cases beq_iff'.1 h4;simp only[Option.some.injEq,Prod.mk.injEq]at h;obtain⟨rfl,rfl⟩:=h;exact⟨hm,rfl,h2⟩
  .cases h
 .cases h
theorem kc {M:List AB}:∀ {up:List (Nat × AB)},∀j∈dU (mr M up).2,j∈dU up
 |[],j,h=>h
 |x::l,j,h=>by
  unfold mr at h;dsimp only at h
  split at h
  .exact List.mem_cons_of_mem _ (kc (up:=l) j h)
  .rcases List.mem_cons.1 h with h | h
   .exact List.mem_cons.2 (.inl h)
   .exact List.mem_cons_of_mem _ (kc (up:=l) j h)
theorem tQ:∀ {l:List Prop},bC l->∀p∈l,p
 |_::_,h,p,hp=>by
  rcases List.mem_cons.1 hp with e | e
  .rw[e];exact h.1
  .exact tQ h.2 p e
theorem jX {M:List AB}:∀(up:List (Nat × AB)) (m:List AB) (j:Nat),(dU up).Nodup->(∀q∈(mr M up).1,q) ->
 (fI (mr M up).2 m)[j]? = (fI up m)[j]?\/(j∈dU up/\(fI (mr M up).2 m)[j]? = m[j]?/\∃r r',be M j=some (.run 100 r)/\(fI up m)[j]? = some (.run 100 r')/\lK r r'=true/\eX r'=eX r)
 |[],_,_,_,_=>.inl rfl
 |x::l,m,j,hn,hq=>by
  have hn':x.1∉dU l/\(dU l).Nodup:=List.nodup_cons.1 hn;unfold mr at hq ⊢;dsimp only at hq ⊢
  split at hq
  .rename_i r r' hc;dsimp only;obtain⟨c1,c2,c3⟩:=EU hc;have hw:eX r'=eX r:=hq _ (List.mem_cons_self ..);have hq':=λq h=>hq q (List.mem_cons_of_mem _ h)
   conv=>arg 1;rhs;unfold fI
   by_cases hj:j=x.1
   .subst hj;have a1:(fI (mr M l).2 m)[x.1]? = m[x.1]?:=bp _ _ _ λy hy e=>hn'.1 (by have:=kc (M:=M) (up:=l) y.1 (cM hy);rw[e]at this;exact this)
    have a2:(fI l (m.set x.1 x.2))[x.1]? = (m.set x.1 x.2)[x.1]?:=bp _ _ _ λy hy e=>hn'.1 (by rw[<-e];exact cM hy)
    by_cases hl:x.1<m.length
    .refine .inr ⟨List.mem_cons_self ..,a1,r,r',c1,?_,c3,hw⟩;show(fI l (m.set x.1 x.2))[x.1]? = _;rw[a2,List.getElem?_set_self hl,c2]
    .refine .inl ?_;rw[a1,a2,List.getElem?_eq_none ac,List.getElem?_eq_none (by rw[List.length_set];omega)]
   .have a2:(fI l (m.set x.1 x.2))[j]? = (fI l m)[j]?:=by
     by_cases hjl:j∈dU l
     .by_cases hlt:j<m.length
      .exact kU l _ _ j (by rw[List.length_set];exact hlt) hlt hjl
      .rw[List.getElem?_eq_none (by rw[bo,List.length_set];omega),List.getElem?_eq_none (by rw[bo];omega)]
     .rw[bp _ _ _ λy hy e=>hjl (by rw[<-e];exact cM hy),bp _ _ _ λy hy e=>hjl (by rw[<-e];exact cM hy),List.getElem?_set_ne (λe=>hj e.symm)]
    rcases jX l m j hn'.2 hq' with h | ⟨h1,h2,r1,r2,h3,h4,h5⟩
    .exact .inl (by rw[h,a2])
    .exact .inr ⟨List.mem_cons_of_mem _ h1,h2,r1,r2,h3,by show(fI l (m.set x.1 x.2))[j]? = _;rw[a2];exact h4,h5⟩
  .dsimp only;unfold fI;rcases jX l (m.set x.1 x.2) j hn'.2 hq with h | ⟨h1,h2,r1,r2,h3,h4,h5⟩
   .exact .inl h
   .refine .inr ⟨List.mem_cons_of_mem _ h1,?_,r1,r2,h3,h4,h5⟩;rw[h2,List.getElem?_set_ne (λe=>hn'.1 (by rw[e];exact h1))]
theorem FM {M:List AB} {e:Eff} (h:bC (pQ M e).ps):bC e.ps:=by
 unfold pQ at h
 split at h
 .exact(allP_app.1 h).1
 .exact h
theorem F9 {M:List AB} {e:Eff}:(pQ M e).nw=e.nw:=by
 unfold pQ
 split<;>rfl
theorem HJ {M:List AB} {e:Eff} {c:Cx} {m:List AB} {w w':World} {p:Nat} {v:Value} (hm:AM K w0 c0 c m w) (h:EOk K w0 c0 c m p e v w') (hps:bC (pQ M e).ps) (hag:∀j∈dU e.up,∀b,be M j=some b->m[j]? = some b/\j<p):EOk K w0 c0 c m p (pQ M e) v w':=by
 unfold pQ at hps ⊢
 split at hps
 .rename_i hn;dsimp only at hps ⊢;obtain⟨c',k1,k2,k3,k4⟩:=h;refine⟨c',k1,k2,k3.lessD (by rw[iq,iq,bo,bo]) λj b' hb=>?_,k4⟩
  rw[dt]at hb;rw[dt];rw[bo]at hb ⊢
  by_cases hnw:p<=j/\j<p+e.nw.length/\j<m.length
  .rw[if_pos hnw]at hb ⊢;exact⟨b',hb,λid _ hx=>⟨λe=>e,hx⟩⟩
  .rw[if_neg hnw]at hb ⊢;rcases jX (M:=M) e.up m j (nodupN_iff.1 hn) (tQ (allP_app.1 hps).2)with g | ⟨g0,g1,r,r',g2,g3,g4,g5⟩
   .rw[g]at hb;exact⟨b',hb,λid _ hx=>⟨λe=>e,hx⟩⟩
   .obtain⟨a1,a2⟩:=hag j g0 _ g2;rw[g1,a1]at hb;cases hb;refine⟨_,g3,λid hid hx=>⟨λ_=>rfl,?_⟩⟩;rw[k2 j (.inl a2)]at hid;obtain⟨-,cs0,-,q0⟩:=hm.kn j id _ hid a1;obtain⟨q1,cs,q2,q3⟩:=hx;exact⟨q1,cs,q2,xI g4 g5 q0 q3⟩
 .exact h
theorem WD.slot (W:WD P E N ops rs hs S) {v:Value} {t:Nat}:∀(i:Nat),i<=ops.size->(∀(k:Nat) (o:Oper) (h:HR),k<i->ops[k]? = some o->hs[k]? = some h->o.dst=some t->h.e.y.is K c v)->((∀(k:Nat) (o:Oper),k<i->ops[k]? = some o->o.dst≠some t)->((S 0).tm.get t).is K c v)->((S i).tm.get t).is K c v
 |0,_,_,h2=>h2 λk _ hk=>ac
 |i+1,hi,h1,h2=>by
  obtain⟨x,g1,-,-,g4⟩:=W.hr (show i<ops.size by omega)
  have ho:=Array.getElem?_eq_getElem (show i<ops.size by omega)
  have ih:=λq=>W.slot (v:=v) (t:=t) i ac (λk o h hk e1 e2 e3=>h1 k o h ac e1 e2 e3) q;rw[g4,S9]
  cases hq:(ops[i]).dst with
  |none =>
   refine ih λhn=>h2 λk o hk e=>?_
   by_cases hki:k=i
   .subst hki;rw[ho]at e;cases e;rw[hq];simp
   .exact hn k o ac e
  |some d =>
   show(((S i).tm.set d x.e.y).get t).is K c v;rw[T3.get_set]
   split
   .rename_i e;exact h1 i _ _ ac ho g1 (by rw[hq,e.1])
   .rename_i e
    by_cases hdt:d=t
    .subst hdt
     have:(S i).tm.get d=.tA:=by unfold T3.get;rw[blt_no.2 ac]
     rw[this];trivial
    .refine ih λhn=>h2 λk o hk e=>?_
     by_cases hki:k=i
     .subst hki;rw[ho]at e;cases e;rw[hq];intro e;cases e;exact hdt rfl
     .exact hn k o ac e
set_option maxHeartbeats 1000000 in
theorem DI.step (hE:EOK P E) (hG:GOk E.K E.G c0) (W:WD P E N ops rs hs S) {listed:Array Bool} (hclosed:∀j oj,ops[j]? = some oj->listed.getD j false=true->∀e∈oj.after,Region.binds .any e=true->listed.getD e.on false=true)
 {i:Nat} {oi:Oper} (hoi:ops[i]? = some oi) (hun:listed.getD i true=false) (hall:∀e∈oi.after,Region.binds .any e=true->listed.getD e.on false=true) (h:DI E.K w0 c0 N ops hs S listed a w) {Q:Exit->Act->World->Prop} {Kn:Act->World->Prop}
 (hK:∀a w,DI E.K w0 c0 N ops hs S (listed.setIfInBounds i true) a w->Kn a w):wpOp P ops Q i Kn a w:=by
 obtain⟨hN,hdf,c,mem,hm,hml,F1,F2,F3,F4⟩:=h;have hi:i<ops.size:=(Array.getElem?_eq_some_iff.1 hoi).1;obtain⟨x,hx,hxd,hxs,hxn⟩:=W.at_ i oi hoi;have hunf:listed.getD i false=false:=getD_both hun;have hset_ne:∀k,k≠i->(listed.setIfInBounds i true).getD k false=listed.getD k false:=λk hk=>getD_set_ne false (Ne.symm hk);have hset_own:(listed.setIfInBounds i true).getD i false=true:=jO hun;have hkn:∀ {k:Nat} {o:Oper},ops[k]? = some o->k<ops.size:=λh=>(Array.getElem?_eq_some_iff.1 h).1
 have hopd:∀t∈oi.looksAt ops,((S i).tm.get t).is E.K c (a.tmps.getD t undef):=λt ht=>by
  have hcon:(oi.looksAt ops).contains t=true:=by simpa using ht
  refine W.slot i ac (λk o h hk e1 e2 e3=>?_) λhno=>F2 t λk o e1 e2 e3=>?_
  .have hp:=W.pair i k hi ac;unfold oX at hp
   have hik:Nat.beq i k=false:=by
    cases hq:Nat.beq i k
    .rfl
    .have:=beq_iff'.1 hq;omega
   simp only[hoi,e1,e3,hik,Bool.and_eq_true,Bool.or_eq_true,Bool.not_eq_true']at hp;rcases hp.2 with h4 | h4
   .rw[hcon]at h4;cases h4
   .rw[if_pos (blt_iff.2 hk)]at h4;exact F1 k o h t e1 e2 (gG hclosed hoi hall h4) e3
  .have hki:k≠i:=λe=>by subst e;rw[hunf]at e2;cases e2
   rcases Nat.lt_or_ge k i with hlt | hge
   .exact hno k o hlt e1 e3
   .have hp:=W.pair i k hi (hkn e1);unfold oX at hp
    have hik:Nat.beq i k=false:=by
     cases hq:Nat.beq i k
     .rfl
     .have:=beq_iff'.1 hq;omega
    simp only[hoi,e1,e3,hik,Bool.and_eq_true,Bool.or_eq_true,Bool.not_eq_true']at hp;rcases hp.2 with h4 | h4
    .rw[hcon]at h4;cases h4
    .rw[if_neg (by rw[blt_iff];omega)]at h4
     have:=bQ hclosed _ _ _ h4 e2;rw[hunf]at this;cases this
 have hAR:AR E.K N c (iT (S i).tm (oi.looksAt ops)) a:=⟨hN,hdf.trans hm.le.D.symm,t8 hopd⟩
 have others:(¬ ∃k,i<k/\k<ops.size/\listed.getD k false=true/\Tol P E ops hs (λn=>(S n).mem) i k x)->∀j,j∈x.all->j<(S i).mem.length->∀k,k<ops.size->Aff hs k j->(listed.getD k false=true↔k<i):=λhnt j hj hjl k hk haf=>by
  obtain⟨y,hy,haf⟩:=haf;rcases Nat.lt_trichotomy k i with hlt | heq | hgt
  .refine⟨λ_=>hlt,λ_=>?_⟩;rcases W.apart k i y x hlt hy hx with hap | hrc | htl
   .rcases haf with haf | haf
    .exact absurd haf (hap.ab j hj)
    .exact absurd haf (hap.nw j hj)
   .exact gG hclosed hoi hall hrc
   .obtain⟨n1,n2⟩:=kJ htl.no;rw[n1,n2]at haf;rcases haf with haf | haf
    .cases haf
    .simp only[List.length_nil]at haf;omega
  .subst heq;rw[hunf]
   simp
  .refine⟨λhl=>?_,λh=>ac⟩;rcases W.apart i k x y hgt hx hy with hap | hrc | htl
   rotate_left 2
   .exact absurd ⟨k,hgt,hk,hl,htl⟩ hnt
   .rcases haf with haf | haf
    .exact absurd haf (hap.ba j hj)
    .obtain⟨y',hy',-,hys,-⟩:=W.hr hk;rw[hy]at hy';cases hy';have:=W.mono (show i<=k by omega) ac
     rw[hys]at haf;omega
   .have:=bQ hclosed _ _ _ hrc hl;rw[hunf]at this;cases this
 have hagr:(¬ ∃k,i<k/\k<ops.size/\listed.getD k false=true/\Tol P E ops hs (λn=>(S n).mem) i k x)->∀l,(∀j∈l,j∈x.all)->Agr l (S i).mem mem:=λhnt l hl j hj b hb=>by have hjl:=cu hb;rw[aP]at hb ⊢;rw[F4 i ac j hjl (others hnt j (hl j hj) hjl)];exact hb
 have hroom:af2 c mem (S i).mem.length x.e.nw.length:=λk hk=>by
  have h1:=W.mono (show i+1<=ops.size by omega) (Nat.le_refl _)
  rw[hxn,fx]at h1;exact⟨ac,F3 i x hx hunf _ (by rw[hxs];omega) (by rw[hxs];omega)⟩
 have hps:bC x.e.ps:=W.ps x (List.mem_of_getElem? hx)
 have leave:∀(v:Value) (w':World),EOk E.K w0 c0 c mem (S i).mem.length x.e v w'->Kn (a.put oi.dst v) w':=λv w' ⟨c',hle,hρ,hm',hv⟩=>by
  refine hK _ _ ⟨by rw[Cz];exact hN,by cases oi.dst<;>exact hdf,c',_,hm',by rw[iq,bo];exact hml,λk o h d e1 e2 e3 e4=>?_,λt ht=>?_,λk h e1 e2 j hj1 hj2=>?_,λi' hi' j hj hlk=>?_⟩
  .by_cases hki:k=i
   .subst hki;rw[hoi]at e1;cases e1;rw[hx]at e2;cases e2;have hdok:=hxd.1;have hdN:d<N:=by rw[e4]at hdok;exact blt_iff.1 hdok
    have:(a.put oi.dst v).tmps.getD d undef=v:=by
     rw[e4];simp only[Act.put];rw[Array.getD_eq_getD_getElem?,Array.getElem?_setIfInBounds_self_of_lt (by rw[hN];exact hdN)]
     rfl
    rw[this];exact hv
   .rw[hset_ne k hki]at e3
    rw[gX a v λy hy e=>by
     subst e;have hp:=W.pair i k hi (hkn e1);unfold oX at hp
     have hik:Nat.beq i k=false:=by
      cases hq:Nat.beq i k
      .rfl
      .exact absurd (beq_iff'.1 hq).symm hki
     simp only[hoi,e1,e4,hik,hy,Bool.and_eq_true,Bool.not_eq_true']at hp;have:=hp.1;rw[Nat.beq_refl y]at this;cases this]
    exact AT.mono hle (F1 k o h d e1 e2 e3 e4)
  .have hne:oi.dst≠some t:=ht i oi hoi hset_own;rw[gX a v λx hx e=>hne (by rw[hx,e])]
   exact AT.mono hle (F2 t λk o e1 e2=>ht k o e1 (by
    by_cases hki:k=i
    .subst hki;exact hset_own
    .rw[hset_ne k hki];exact e2))
  .by_cases hki:k=i
   .subst hki;rw[hset_own]at e2;cases e2
   .rw[hset_ne k hki]at e2;have hk:k<ops.size:=by rw[<-W.len];exact(List.getElem?_eq_some_iff.1 e1).1
    obtain⟨y',hy',-,hys,hyn⟩:=W.hr hk;rw[e1]at hy';cases hy';rw[hρ j ?_]
    .exact F3 k h e1 e2 j hj1 hj2
    .rw[hys]at hj1 hj2;rcases Nat.lt_or_gt_of_ne hki with hlt | hgt
     .have h1:=W.mono (show k+1<=i by omega) ac
      rw[hyn,fx]at h1;omega
     .have h1:=W.mono (show i+1<=k by omega) ac
      rw[hxn,fx]at h1;omega
  .
   have hjM:j<mem.length:=by rw[hml];exact Nat.lt_of_lt_of_le hj (W.mono hi' (Nat.le_refl _))
   by_cases haf:Aff hs i j
   .have hii:i<i':=(hlk i hi haf).1 hset_own
    have hbet:∀k,i+1<=k->k<i'->¬ Aff hs k j:=λk h1 h2 hk=>by
     have hkl:=(hlk k ac hk).2 h2;rw[hset_ne k ac]at hkl;obtain⟨y,hy,hky⟩:=hk;obtain⟨x',hx',hjx⟩:=haf;rw[hx]at hx';cases hx';rcases W.apart i k x y ac hx hy with hap | hrc | htl
     rotate_left 2
     .obtain⟨n1,n2⟩:=kJ htl.no;rw[n1,n2]at hjx;rcases hjx with hjx | hjx
      .cases hjx
      .simp only[List.length_nil]at hjx;omega
     .obtain⟨y',hy',-,hys,-⟩:=W.hr (show k<ops.size by omega)
      rw[hy]at hy';cases hy';have hm1:=W.mono (show i+1<=k by omega) ac
      rw[hxn,fx]at hm1;have inA:∀z∈dU y.e.up,z∈y.all:=λz hz=>List.mem_append_right _ hz;rcases hjx with hjx | hjx
      .rcases hky with hky | hky
       .exact hap.ab j (inA j hky) hjx
       .rw[hys]at hky;have:=W.up x (List.mem_of_getElem? hx) j hjx;rw[hxs]at this;omega
      .rcases hky with hky | hky
       .exact hap.nw j (inA j hky) hjx
       .rw[hys]at hky;rw[hxs]at hjx;omega
     .have:=bQ hclosed _ _ _ hrc hkl;rw[hunf]at this;cases this
    have hj1:j<(S (i+1)).mem.length:=by
     obtain⟨x',hx',hjx⟩:=haf;rw[hx]at hx';cases hx';rw[hxn,fx];rcases hjx with hjx | hjx
     .have:=W.up x (List.mem_of_getElem? hx) j hjx;rw[hxs]at this;omega
     .rw[hxs]at hjx;omega
    rw[W.still (show i+1<=i' by omega) hi' hj1 hbet,hxn,rJ]
    obtain⟨x',hx',hjx⟩:=haf;rw[hx]at hx';cases hx';rw[hxn,fx]at hj1
    by_cases hnw:(S i).mem.length<=j
    .rw[dt,bo,if_pos ⟨hnw,ac,hjM⟩,List.getElem?_append_right (by rw[bo];exact hnw),bo]
    .have hju:j∈dU x.e.up:=by
      rcases hjx with h | h
      .exact h
      .rw[hxs]at h;omega
     rw[dt,if_neg ac,List.getElem?_append_left (by rw[bo];omega)]
     exact kU _ _ _ j hjM ac hju
   .have hnu:¬ ((S i).mem.length<=j/\j<(S i).mem.length+x.e.nw.length):=λe=>haf ⟨x,hx,.inr (by rw[hxs];exact e)⟩
    rw[dt,if_neg (λe=>hnu ⟨e.1,e.2.1⟩),bp _ _ _ λy hy e=>haf ⟨x,hx,.inl (by rw[<-e];exact cM hy)⟩]
    refine F4 i' hi' j hj λk hk hka=>?_;have hki:k≠i:=λe=>haf (e ▸ hka);rw[<-hset_ne k hki];exact hlk k hk hka
 unfold wpOp;simp only[hoi];rw[<-hxs]at hAR;obtain⟨won,woff⟩:=TH (ops:=ops) hAR hxd.2.1;rcases hxd.2.2 with ⟨hon,e,hev,hee⟩ | ⟨hoff,hee,htc⟩
 .rw[if_pos (won hon)];obtain⟨r1,r2,r3⟩:=NM (rs:=rs) (d:=oi.dst) (e:=e);rw[hee]at hps;obtain⟨hpe,hye⟩:=r3 hps;have fin:∀(v:Value) (w':World),EOk E.K w0 c0 c mem (S i).mem.length e v w'->Kn (a.put oi.dst v) w':=λv w' ⟨c',k1,k2,k3,k4⟩=>leave v w' ⟨c',k1,by rw[hee,r2];exact k2,by rw[hee,r1,r2];exact k3,by rw[hee];exact hye c' v k4⟩
  have hroom:af2 c mem (S i).mem.length e.nw.length:=by rw[hee,r2]at hroom;exact hroom
  by_cases hnt:∃k,i<k/\k<ops.size/\listed.getD k false=true/\Tol P E ops hs (λn=>(S n).mem) i k x
  .
   obtain⟨k,hik,hkz,hkl,htl⟩:=hnt;obtain⟨n1,n2⟩:=kJ htl.no;obtain⟨o',qs,ho',hte,hqs⟩:=htl.res;rw[hoi]at ho';cases ho';have low:∀j∈x.tc,j<(S i).mem.length:=λj hj=>by rw[<-hxs];exact htl.low j hj
   have inA:∀j∈x.tc,j∈x.all:=λj hj=>List.mem_append_left _ hj
   have hag:Agr x.tc (S (k+1)).mem mem:=λj hj b hb=>by
    have hjl:=low j hj;rw[aP]at hb ⊢;rw[F4 (k+1) ac j (Nat.lt_of_lt_of_le hjl (W.mono (show i<=k+1 by omega) ac)) λk' hk' haf=>?_]
    .exact hb
    obtain⟨y,hy,haf⟩:=haf;obtain⟨y',hy',-,hys,-⟩:=W.hr hk';rw[hy]at hy';cases hy';rcases Nat.lt_trichotomy k' i with hlt | heq | hgt
    .refine⟨λ_=>ac,λ_=>?_⟩;rcases W.apart k' i y x hlt hy hx with hap | hrc | ht2
     .rcases haf with haf | haf
      .exact absurd haf (hap.ab j (inA j hj))
      .exact absurd haf (hap.nw j (inA j hj))
     .exact gG hclosed hoi hall hrc
     .obtain⟨m1,m2⟩:=kJ ht2.no;rw[m1,m2]at haf;rcases haf with haf | haf
      .cases haf
      .simp only[List.length_nil]at haf;omega
    .subst heq;rw[hx]at hy;cases hy;rw[n1,n2]at haf;rcases haf with haf | haf
     .cases haf
     .simp only[List.length_nil]at haf;omega
    .have hne:di x y->False:=λhap=>by
      rcases haf with haf | haf
      .exact hap.ba j (inA j hj) haf
      .rw[hys]at haf;have:=W.mono (show i<=k' by omega) ac
       omega
     rcases Nat.lt_trichotomy k' k with h1 | h1 | h1
     .exact absurd (htl.btw k' y hgt h1 hy) hne
     .subst h1;exact⟨λ_=>ac,λ_=>hkl⟩
     .rcases htl.oth k' y h1 hy with hap | hrc
      .exact absurd hap hne
      .refine⟨λhl=>?_,λh=>ac⟩;have:=bQ hclosed _ _ _ hrc hl;rw[hunf]at this;cases this
   unfold ZD at hte
   split at hte
   .cases hte
   rename_i hcn
   split at hte
   .rename_i e' he'
    split at hte
    .rename_i hno
     split at hte
     .rename_i q2 hsy;cases hte;rw[allP_app]at hqs;obtain⟨p1,p2⟩:=kJ hno
      have htc:ku E.G (iT x.st.tm (oi.looksAt ops)) oi.op=x.tc:=by
       unfold evD at hev;rw[hcn]at hev;dsimp only at hev
       split at hev
       .simp only[Option.some.injEq,Prod.mk.injEq]at hev;exact hev.2
       .cases hev
      refine .inl (c9 (gD (hG.le hm.le) hm hAR oi (gF (by rw[htc];exact hag) he') (by rw[p2];exact λk hk=>by simp at hk) hqs.1) λv w' ⟨c',k1,k2,k3,k4⟩=>leave v w' ⟨c',k1,λm _=>k2 m ?_,?_,HZ hsy hqs.2 k4⟩)
      .rw[p2];simp only[List.length_nil];omega
      .rw[p1,p2]at k3;rw[n1,n2];exact k3
     .cases hte
    .cases hte
   .cases hte
  have hagr:=hagr hnt;unfold evD at hev
  split at hev
  .rename_i f args hc
   split at hev
   .rename_i ca hca
    split at hev
    .rename_i t ht
     split at hev
     .rename_i ps m y hsp
      split at hev
      .rename_i hl;have hl:=ble_iff.1 hl;simp only[Option.some.injEq,Prod.mk.injEq]at hev;obtain⟨rfl,htc⟩:=hev;rw[hxs]at hca hpe hc fin hroom;have hca':lA args mem=some ca:=rL hca (hagr _ λj hj=>List.mem_append_left _ (by rw[<-htc];exact hj))
       rw[hxs]at hAR;obtain⟨g1,g2⟩:=mm hE (hG.le hm.le) hm hAR oi hc hca' ht (pH hsp (FM hpe));refine .inl (c9 g2 λv w' ⟨m',y',k1,c',k2,k3⟩=>?_);cases k1;refine fin v w' (HJ hm (AM.back hE.hK hm g1 hl k2 k3 ?_) hpe λj hj=>?_)
       .have:(jz ca.σ (S i).mem.length ps m y).nw.length=m.length-ca.σ.length:=by simp only[jz,ce,List.length_drop]
        rw[<-this];rw[F9]at hroom;exact hroom
       .have hj':=uj hj;have hb':=λb (hb:be (S i).mem j=some b)=>(hagr ca.σ (λj hj=>List.mem_append_left _ (by rw[<-htc];exact hj))) j hj' b hb
        exact λb hb=>⟨by rw[<-aP];exact hb' b hb,cu hb⟩
      .cases hev
     .cases hev
    .cases hev
   .cases hev
  .split at hev
   .rename_i e' he';simp only[Option.some.injEq,Prod.mk.injEq]at hev;obtain⟨rfl,htc⟩:=hev;rw[hxs]at he' htc hAR;have:=gF (hagr _ λj hj=>List.mem_append_left _ (by rw[<-htc];exact hj)) he'
    exact .inl (c9 (gD (hG.le hm.le) hm hAR oi this hroom hpe) λv w' k=>fin v w' k)
   .cases hev
 .rw[if_neg (by rw[woff hoff];simp)]
  exact leave undef w (by rw[hee];exact⟨c,Cx.le_refl _,λ_ _=>rfl,hm,[],rfl,rfl,λ_ _ _ e=>by simp at e⟩)
theorem xf (hE:EOK P E) (hG:GOk E.K E.G c0) (W:WD P E N ops rs hs S) {Q:Exit->Act->World->Prop} (hQ:∀a w,Rel E.K w0 c0 N (S ops.size) a w->Q .normal a w) :
 ∀(f:Nat) (l:List Nat) (listed:Array Bool) (a:Act) (w:World),l.length=f->(∀k∈l,k<ops.size/\listed.getD k true=false)->(∀k,k<ops.size->k∈l\/listed.getD k false=true)->l.Nodup ->
  (∀j oj,ops[j]? = some oj->listed.getD j false=true->∀e∈oj.after,Region.binds .any e=true->listed.getD e.on false=true) ->
  DI E.K w0 c0 N ops hs S listed a w->wpAny P .any ops Q f listed a w:=by
 intro f
 induction f with
 |zero =>
  intro l listed a w hl _ hcov _ _ hDL;have:l=[]:=List.eq_nil_of_length_eq_zero hl;subst this;have hdone:∀k,k<ops.size->listed.getD k false=true:=λk hk=>(hcov k hk).elim (λh=>by cases h) id
  refine⟨?_,hQ a w ?_⟩
  .cases hq:Region.ready .any ops listed with
   |nil=>rfl
   |cons j r =>
    have hj:j∈Region.ready .any ops listed:=by rw[hq];exact List.mem_cons_self ..
    obtain⟨hjun,oj,hoj,-⟩:=mem_ready.1 hj;have:=hdone j (Array.getElem?_eq_some_iff.1 hoj).1;rw[getD_both hjun]at this;cases this
  obtain⟨hN,hdf,c,mem,hm,hml,F1,F2,F3,F4⟩:=hDL
  have hmem:mem=(S ops.size).mem:=by
   apply List.ext_getElem?
   intro j
   by_cases hj:j<(S ops.size).mem.length
   .exact F4 ops.size (Nat.le_refl _) j hj λk hk _=>⟨λ_=>hk,λ_=>hdone k hk⟩
   .rw[List.getElem?_eq_none ac,List.getElem?_eq_none ac]
  subst hmem;exact⟨c,hm,hN,hdf.trans hm.le.D.symm,λt=>W.slot ops.size (Nat.le_refl _) (λk o h hk e1 e2 e3=>F1 k o h t e1 e2 (hdone k hk) e3) λhno=>F2 t λk o e1 _=>hno k o (Array.getElem?_eq_some_iff.1 e1).1 e1⟩
 |succ f ih =>
  intro l listed a w hl hhd hcov hnd hclosed hDL
  obtain⟨i0,hi0⟩:∃i,i∈l:=by
   cases l with
   |nil=>simp at hl
   |cons i l=>exact⟨i,List.mem_cons_self ..⟩
  have hready:∀j∈Region.ready .any ops listed,j∈l:=by
   intro j hj;obtain⟨hjun,oj,hoj,hallj⟩:=mem_ready.1 hj;rcases hcov j (Array.getElem?_eq_some_iff.1 hoj).1 with h | h
   .exact h
   .rw[getD_both hjun]at h;cases h
  have hne:Region.ready .any ops listed≠[]:=by
   obtain⟨i,hi,hmin⟩:=xG i0 hi0;have hin:=(hhd i hi).1;have hoi:ops[i]? = some (ops[i]'(ac)):=Array.getElem?_eq_getElem ac
   have:i∈Region.ready .any ops listed:=mem_ready.2 ⟨(hhd i hi).2,_,hoi,λe he hb=>by
    have hlt:=W.edge i _ hin hoi e he hb;rcases hcov e.on ac with h | h
    .have:=hmin _ h;omega
    .exact h⟩
   exact λh=>by rw[h]at this;cases this
  refine⟨λh=>absurd h hne,λj hj=>?_⟩;have hjl:=hready j hj;obtain⟨hjun,oj,hoj,hallj⟩:=mem_ready.1 hj;refine DI.step hE hG W hclosed hoj hjun hallj hDL λa' w' hDL'=>?_;refine ih (l.erase j) _ a' w' (by rw[List.length_erase_of_mem hjl];omega) (λk hk=>?_) (λk hk=>?_) (hnd.erase j) (λm om hom hm e he hb=>?_) hDL'
  .have hkl:=List.mem_of_mem_erase hk
   have hne:j≠k:=λe=>by subst e;exact(hnd.not_mem_erase) hk
   exact⟨(hhd k hkl).1,by rw[getD_set_ne true hne];exact(hhd k hkl).2⟩
  .rcases hcov k hk with h | h
   .by_cases hkj:j=k
    .subst hkj;exact .inr (jO hjun)
    .exact .inl ((List.mem_erase_of_ne (Ne.symm hkj)).2 h)
   .exact .inr (getD_set_true h)
  .by_cases hmj:j=m
   .subst hmj;rw[hoj]at hom;cases hom;exact getD_set_true (hallj e he hb)
   .rw[getD_set_ne false hmj]at hm;exact getD_set_true (hclosed m om hom hm e he hb)
theorem yJ:∀ {l:List HR},bC (QW l)->∀h∈l,bC h.e.ps
 |[],_,h,hh=>by simp at hh
 |x::l,hp,h,hh=>by
  unfold QW at hp;rw[allP_app]at hp;rcases List.mem_cons.1 hh with rfl | hh
  .exact hp.1
  .exact yJ hp.2 h hh
theorem rq:∀ {l:List (Nat × Bool)} {st s:ASt} {ps:List Prop},Qi ops st l=(ps,s)->bC ps->Rel K w0 c0 N st a w->Rel K w0 c0 N s a w
 |[],st,s,ps,h,_,hr=>by cases h;exact hr
 |(t,b)::l,st,s,ps,h,hp,hr=>by
  unfold Qi at h
  split at h
  .rename_i x hd hst
   split at h
   rename_i ps' s' hq;cases h;have hx:x=b:=hp.1;obtain⟨c,hm,hr⟩:=hr;have hv:=hr.is_ t;rw[hst]at hv;obtain⟨hb,-⟩:=is_B.1 (show AV.is K c (.nB true true x) _ from hv);refine rq hq hp.2 ⟨c,hm,hr.set (?_:AV.is K c (ofB b) _)⟩;rw[hb,hx];exact yV b
  .exact rq h hp hr
theorem ub (hE:EOK P E) (hG:GOk E.K E.G c0) (mix:P.follows .mixedOrders=true) (hB:Bu ops=true) {id:Nat} {Q:Lv->Prop} {Qc:Exit->Act->World->Prop} (hr:Rel E.K w0 c0 N st a w) (hQ:∀st' a' w',Q (.norm st')->Rel E.K w0 c0 N st' a' w'->Qc .normal a' w')
 {rs:List (Nat × Bool)} {ps:List Prop} {s fin:ASt} {hs:List HR} {S:Nat->ASt} (hrs:Qi ops st rs=(ps,s)) (h1:bC ps) (h2:bC (QW hs)) (h3:Q (.norm fin)) (s1:S 0=s) (s2:S ops.size=fin) (s3:hs.length=ops.size)
 (s4:∀(i:Nat) (o:Oper),ops.toList[i]? = some o->∃h,hs[i]? = some h/\HdD P E N ops rs o h/\h.st=S i/\S (i+1)=(S i).app o.dst h.e) (t1:∀a∈hs,∀j∈dU a.e.up,j<a.st.mem.length) (t2:∀(i k:Nat) (a b:HR),i<k->hs[i]? = some a->hs[k]? = some b->di a b\/dH ops 12 k i=true\/Tol P E ops hs (λn=>(S n).mem) i k a):(Code.region id ops true).wp P Qc a w:=by
 unfold Bu at hB;simp only[Bool.and_eq_true]at hB
 have W:WD P E N ops rs hs S:=⟨s3,λi o e=>s4 i o (by rw[Array.getElem?_toList];exact e),λi k hi hk=>List.all_eq_true.1 (List.all_eq_true.1 hB.1 i (List.mem_range.2 hi)) k (List.mem_range.2 hk),λi o hi ho e he hb=>by
  have:=List.all_eq_true.1 hB.2 i (List.mem_range.2 hi);rw[ho]at this;have:=List.all_eq_true.1 this e (by simpa using he)
  rw[hb]at this;exact blt_iff.1 (by simpa using this),t2,yJ h2,t1⟩
 obtain⟨c,hm,hrr⟩:=rq hrs h1 hr;have hlen0:=W.mono (Nat.zero_le _) (Nat.le_refl ops.size);rw[s1]at hlen0;have hd:AM E.K w0 c0 c s.mem ({ w with drawn:=w.drawn+1 }:World):=hm.keep ⟨rfl,rfl,rfl,Nat.le_refl _,λ_ _ _=>rfl⟩
 obtain⟨g1,g2⟩:=hd.grow (List.replicate ((S ops.size).mem.length-s.mem.length) .dead);have hrep:∀k,(Array.replicate ops.size false).getD k false=false:=λk=>by rw[getD_replicate_false]
 refine wp_region_any mix ?_;refine xf hE hG W (λa w hrel=>hQ _ _ _ h3 (by rw[<-s2];exact hrel)) ops.size (List.range ops.size) (Array.replicate ops.size false) a { w with drawn:=w.drawn+1 } (by simp) (λk hk=>?_) (λk hk=>.inl (List.mem_range.2 hk)) List.nodup_range (λj oj _ hl=>by rw[hrep]at hl;cases hl) ?_
 .have hk':=List.mem_range.1 hk;refine⟨hk',?_⟩;rw[Array.getD_eq_getD_getElem?,Array.getElem?_replicate,if_pos ac];rfl
 .refine⟨hrr.sz,hrr.df.trans g1.le.D,c,_,g1,by simp;omega,λk o h d _ _ e3=>(by rw[hrep]at e3;cases e3),λt _=>by rw[s1];exact hrr.is_ t,λk h e1 _ j j1 j2=>?_,λi hi j hj hlk=>?_⟩
  .have hk:k<ops.size:=by rw[<-W.len];exact(List.getElem?_eq_some_iff.1 e1).1
   obtain⟨y,hy,-,hys,-⟩:=W.hr hk;rw[e1]at hy;cases hy;have:=W.mono (Nat.zero_le k) ac;rw[s1]at this;rw[hys]at j1;have:=g2 (j-s.mem.length)
   rwa [show s.mem.length+(j-s.mem.length)=j by omega]at this
  .have hno:∀k,0<=k->k<i->¬ Aff hs k j:=λk _ h2 hk=>by have:=(hlk k ac hk).2 h2;rw[hrep]at this;cases this
   have hj0:j<s.mem.length:=by
    rcases Nat.lt_or_ge j s.mem.length with h | h
    .exact h
    .
     exfalso
     have:∀n,n<=i->j>=(S n).mem.length:=λn=>by
      induction n with
      |zero=>intro _;rw[s1];exact h
      |succ n ihn =>
       intro hn;have h1:=ihn ac;obtain⟨y,hy,-,hys,hyn⟩:=W.hr (show n<ops.size by omega)
       rw[hyn,fx];rcases Nat.lt_or_ge j ((S n).mem.length+y.e.nw.length)with h2 | h2
       .exact absurd ⟨y,hy,.inr (by rw[hys];omega)⟩ (hno n ac ac)
       .exact h2
     have:=this i (Nat.le_refl _);omega
   rw[List.getElem?_append_left hj0,W.still (Nat.zero_le i) hi (by rw[s1];exact hj0) hno,s1]
theorem FF (hE:EOK P E) (hG:GOk E.K E.G c0) (mix:P.follows .mixedOrders=true) (hB:Bu ops=true) {id:Nat} {Q:Lv->Prop} {Qc:Exit->Act->World->Prop} (hr:Rel E.K w0 c0 N st a w) (hQ:∀st' a' w',Q (.norm st')->Rel E.K w0 c0 N st' a' w'->Qc .normal a' w'):∀(f:Nat) (rs:List (Nat × Bool)),(xS P E N ops st f rs).sat Q->(Code.region id ops true).wp P Qc a w:=by
 intro f
 induction f with
 |zero=>intro rs h;exact h.elim
 |succ f ih =>
  intro rs h;unfold xS at h
  split at h
  rename_i ps s hrs
  split at h
  .rename_i hs fin hw
   split at h
   .rename_i hc;rw[bh,bh]at h;obtain⟨h1,h2,h3⟩:=h;obtain⟨S,s1,s2,s3,s4⟩:=nk _ _ hw;rw[Array.length_toList]at s2;have s3:hs.length=ops.size:=s3.trans Array.length_toList;exact ub hE hG mix hB hr hQ hrs h1 h2 h3 s1 s2 s3 s4 (tD hc) λi k a b hik ha hb=>(tZ hc i k a b hik ha hb).imp_right λh=>.inl (by simpa using h)
   .split at h
    rotate_left
    .exact h.elim
    rename_i qs hc;rw[bh,bh,bh]at h;obtain⟨h1,h2,h4,h3⟩:=h;obtain⟨S,s1,s2,s3,s4⟩:=nk _ _ hw;rw[Array.length_toList]at s2;have s3:hs.length=ops.size:=s3.trans Array.length_toList
    obtain⟨t1,t2⟩:=ph (M:=λn=>(S n).mem) (λk hk=>by
     unfold abV
     by_cases hk1:k+1<hs.length
     .obtain⟨y,hy,-,hys,-⟩:=s4 (k+1) _ (by rw[Array.getElem?_toList];exact Array.getElem?_eq_getElem ac)
      rw[hy,<-hys]
     .rw[List.getElem?_eq_none ac,<-s2];show(S ops.size).mem=(S (k+1)).mem;rw[show k+1=ops.size by omega]) (List.drop_zero) hc h4
    exact ub hE hG mix hB hr hQ hrs h1 h2 h3 s1 s2 s3 s4 t1 λi k a b hik ha hb=>t2 i k a b (Nat.zero_le _) hik ha hb
  .rename_i t x hw
   cases x with
   |true=>exact ih _ (h.1 rfl)
   |false=>exact ih _ (h.2 rfl)
  .exact h.elim
theorem vb (hE:EOK P E) (hG:GOk E.K E.G c0) (mix:P.follows .mixedOrders=true) {id:Nat} {Q:Lv->Prop} {Qc:Exit->Act->World->Prop} (h:(ss P E N ops st).sat Q) (hr:Rel E.K w0 c0 N st a w) (hQ:∀st' a' w',Q (.norm st')->Rel E.K w0 c0 N st' a' w'->Qc .normal a' w'):(Code.region id ops true).wp P Qc a w:=by
 unfold ss at h
 split at h
 .rename_i hB;exact FF hE hG mix hB hr hQ _ _ h
 .exact h.elim
end
end Go.Proofs.YtldmjbgplgoedaaGreatDoor
