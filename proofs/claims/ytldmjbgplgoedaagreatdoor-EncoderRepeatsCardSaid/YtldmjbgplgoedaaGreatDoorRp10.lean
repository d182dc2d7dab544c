import Derived.Test.YtldmjbgplgoedaaGreatDoorRp09
set_option linter.all false
namespace Go.Proofs.YtldmjbgplgoedaaGreatDoor
open Go.RowKit
def YQ (f:Nat->Nat) (x:AV):AV:=match x with
 |.nP j o=>.nP (f j) o
 |.nS j o n c=>.nS (f j) o n c
 |.nD j κ a b o n=>.nD (f j) κ a b o n
 |.nX j κ d i=>.nX (f j) κ d i
 |.nY j o l a b e=>.nY (f j) o l a b e
 |.nF g js=>.nF g (js.map f)
 |x=>x
def qg (f:Nat->Nat):Rs->Rs
 |[]=>[]
 |x::l=>match x with
  |.c y=>.c (YQ f y)::qg f l
  |.a n k lo hi g=>.a n k lo hi g::qg f l
def Z9 (f:Nat->Nat) (x:AS):AS:=match x with
 |.sO x=>.sO (YQ f x)
 |.sA r=>.sA (qg f r)
def QM (f:Nat->Nat):List AS->List AS
 |[]=>[]
 |x::l=>Z9 f x::QM f l
def abC (f:Nat->Nat) (x:AT):AT:=match x with
 |.tX s=>.tX (Z9 f s)
 |.tT l=>.tT (QM f l)
 |.tF g a b=>.tF g (QM f a) (QM f b)
 |.tA=>.tA
def vt (f:Nat->Nat):List AT->List AT
 |[]=>[]
 |x::l=>abC f x::vt f l
def ag6 (f:Nat->Nat) (b:AB):AB:=match b with
 |.run ty rs=>.run ty (qg f rs)
 |b=>b
def eC (f:Nat->Nat):List AB->List AB
 |[]=>[]
 |x::l=>ag6 f x::eC f l
def Px:AV->Bool
 |.nP ..=>false
 |.nS ..=>false
 |.nD ..=>false
 |.nX ..=>false
 |.nY ..=>false
 |.nF ..=>false
 |_=>true
def cj:Rs->Bool
 |[]=>true
 |x::l=>match x with
  |.c y=>aJ (Px y) (cj l)
  |.a ..=>cj l
def jf (K:KT):Prop:=∀κ,cj (aK K κ).rs=true
def zD:KT->Bool
 |[]=>true
 |d::K=>aJ (cj d.rs) (zD K)
theorem t9:∀ {K:KT},zD K=true->jf K
 |[],_,κ=>by unfold aK;rfl
 |d::K,h,κ=>by
  unfold zD at h;rw[both_iff]at h
  cases κ with
  |zero=>exact h.1
  |succ κ=>exact t9 (K:=K) h.2 κ
def iS:AV->List Nat
 |.nP j _=>[j]
 |.nS j _ _ _=>[j]
 |.nD j _ _ _ _ _=>[j]
 |.nX j _ _ _=>[j]
 |.nY j _ _ _ _ _=>[j]
 |.nF _ js=>js
 |_=>[]
def AG:List Nat->Nat->Bool
 |[],_=>false
 |x::l,n=>match Nat.beq x n with
  |true=>true
  |false=>AG l n
def abL (l:List Nat) (n:Nat):List Nat:=match AG l n with
 |true=>l
 |false=>l++[n]
def afX (l:List Nat):List Nat->List Nat
 |[]=>l
 |x::m=>afX (abL l x) m
def cO (l:List Nat):Rs->List Nat
 |[]=>l
 |x::r=>match x with
  |.c y=>cO (afX l (iS y)) r
  |.a ..=>cO l r
def ya (l:List Nat) (x:AS):List Nat:=match x with
 |.sO x=>afX l (iS x)
 |.sA r=>cO l r
def tL (l:List Nat):List AS->List Nat
 |[]=>l
 |x::m=>tL (ya l x) m
def ll (l:List Nat) (x:AT):List Nat:=match x with
 |.tX s=>ya l s
 |.tT m=>tL l m
 |.tF _ a b=>tL (tL l a) b
 |.tA=>l
def du (l:List Nat):List AT->List Nat
 |[]=>l
 |x::m=>du (ll l x) m
def dM (mem:List AB):Nat->Nat->List Nat->List Nat
 |0,_,l=>l
 |f+1,i,l=>match l[i]? with
  |some j=>match be mem j with
   |some (.run _ rs)=>dM mem f (i+1) (cO l rs)
   |_=>dM mem f (i+1) l
  |none=>l
def wM:List Nat->Nat->Nat
 |[],_=>0
 |x::l,n=>match Nat.beq x n with
  |true=>0
  |false=>wM l n+1
def fT (n:Nat):List Nat->Bool
 |[]=>true
 |x::l=>aJ (Nat.blt x n) (fT n l)
def kj (l:List Nat):List Nat->Bool
 |[]=>true
 |x::m=>aJ (AG l x) (kj l m)
def kX:List Nat->Bool
 |[]=>true
 |x::l=>aJ (match AG l x with
  |true=>false
  |false=>true) (kX l)
def gS (mem:List AB) (l:List Nat):List Nat->Bool
 |[]=>true
 |j::m=>aJ (match be mem j with
  |some (.run _ rs)=>kj l (cO [] rs)
  |some (.dyn _ _ _ _ _ _ _)=>true
  |_=>false) (gS mem l m)
def aY (args:List AT) (mem:List AB):List Nat:=dM mem 64 0 (du [] args)
def pick (mem:List AB):List Nat->List AB
 |[]=>[]
 |j::l=>match be mem j with
  |some b=>b::pick mem l
  |none=>.dead::pick mem l
structure Can where
 σ:List Nat
 args:List AT
 mem:List AB
def lA (args:List AT) (mem:List AB):Option Can:=match aJ (kX (aY args mem)) (aJ (kj (aY args mem) (du [] args)) (gS mem (aY args mem) (aY args mem)))with
 |true=>some ⟨aY args mem,vt (wM (aY args mem)) args,eC (wM (aY args mem)) (pick mem (aY args mem))⟩
 |false=>none
def dA (σ:List Nat) (p:Nat) (i:Nat):Nat:=match σ[i]? with
 |some j=>j
 |none=>p+(i-σ.length)
def su:List Nat->List AB->List (Nat × AB)
 |j::l,b::m=>(j,b)::su l m
 |_,_=>[]
def jz (σ:List Nat) (p:Nat) (ps:List Prop) (m:List AB) (y:AT):Eff:=⟨ps,su σ (eC (dA σ p) (m.take σ.length)),eC (dA σ p) (m.drop σ.length),abC (dA σ p) y⟩
section
variable {P:Program} {K:KT} {w0 w w':World} {c0 c c' d:Cx} {mem mem':List AB}
theorem hasN_iff:∀ {l:List Nat} {n:Nat},AG l n=true↔n∈l
 |[],n=>by simp[AG]
 |x::l,n=>by
  unfold AG;rw[List.mem_cons]
  split
  .rename_i h;have:=beq_iff'.1 h;simp[this]
  .rename_i h;rw[hasN_iff (l:=l)];have hx:n≠x:=λe=>by rw[beq_iff'.2 e.symm]at h;cases h
   simp[hx]
theorem subN_iff {l:List Nat}:∀ {m:List Nat},kj l m=true↔∀x∈m,x∈l
 |[]=>by simp[kj]
 |x::m=>by unfold kj;rw[both_iff,hasN_iff,subN_iff (m:=m)];simp
theorem nodupN_iff:∀ {l:List Nat},kX l=true↔l.Nodup
 |[]=>by simp[kX]
 |x::l=>by unfold kX;rw[both_iff,nodupN_iff (l:=l),List.nodup_cons];have:=hasN_iff (l:=l) (n:=x);cases h:AG l x<;>simp_all
theorem B8 {l:List Nat} {n x:Nat}:x∈abL l n↔x∈l\/x=n:=by
 unfold abL
 split
 .rename_i h;have:=hasN_iff.1 h;exact⟨.inl,λe=>e.elim id λe=>by rw[e];exact this⟩
 .rw[List.mem_append,List.mem_singleton]
theorem bK:∀ {m l:List Nat} {x:Nat},x∈afX l m↔x∈l\/x∈m
 |[],l,x=>by simp[afX]
 |y::m,l,x=>by unfold afX;rw[bK (m:=m),B8,List.mem_cons,or_assoc]
theorem blkRs_mem:∀ {r:Rs} {l:List Nat} {x:Nat},x∈cO l r↔x∈l\/x∈cO [] r
 |[],l,x=>by simp[cO]
 |.c y::r,l,x=>by
  unfold cO;simp only;rw[blkRs_mem (r:=r),blkRs_mem (r:=r) (l:=afX [] (iS y)),bK,bK]
  simp[or_assoc]
 |.a n k lo hi f::r,l,x=>by unfold cO;exact blkRs_mem (r:=r)
structure Ren (S:Nat->Prop) (f:Nat->Nat) (c d:Cx):Prop where
 ρ:∀j id,S j->c.ρ j=some id->d.ρ (f j)=some id
 F:∀b x,c.F b=some x->d.F b=some x
 sz:∀j id,S j->c.ρ j=some id->d.sz id=c.sz id
theorem fE:∀ {rs:Rs} {ls:List Lf},cj rs=true->cj (ax rs ls)=true
 |[],_,_=>rfl
 |.c y::r,ls,h=>by
  unfold cj at h;rw[both_iff]at h;unfold ax;simp only
  split
  .unfold cj;rw[both_iff];refine⟨?_,fE h.2⟩;have h1:=h.1;cases y<;>first|rfl | cases h1
  .unfold cj;rw[both_iff];exact⟨h.1,fE h.2⟩
 |.a n k lo hi f::r,ls,h=>by unfold ax;unfold cj at h ⊢;exact fE h
theorem fj:∀ {rs:Rs} {i:Nat} {x:AV},cj rs=true->(aq rs)[i]? = some x->Px x=true
 |[],_,_,_,h=>by simp[aq]at h
 |.c y::r,0,x,h,hx=>by
  unfold cj at h;rw[both_iff]at h
  simp[aq,az]at hx
  subst hx;exact h.1
 |.c y::r,i+1,x,h,hx=>by unfold cj at h;rw[both_iff]at h;simp only[aq,az,List.singleton_append,List.getElem?_cons_succ]at hx;exact fj h.2 hx
 |.a n k lo hi f::r,i,x,h,hx=>by
  unfold cj at h;rw[aq]at hx
  by_cases hi:i<(az (.a n k lo hi f)).length
  .rw[List.getElem?_append_left hi]at hx;simp only[az,List.getElem?_map]at hx
   cases hq:(List.range n)[i]? with
   |none=>rw[hq]at hx;cases hx
   |some q=>rw[hq]at hx;cases hx;rfl
  .rw[List.getElem?_append_right ac]at hx;exact fj h hx
theorem n5 (hK:jf K) (hF:∀b x,c.F b=some x->d.F b=some x):∀(n:Nat) {x:AV} {v:Value},Px x=true->isD K c n x v->isD K d n x v:=by
 intro n
 induction n with
 |zero =>
  intro x v hx h;cases x<;>first|exact h | cases hx | skip
  .obtain⟨A,m,h1,h2,h3,h4,h5,h6,h7⟩:=h;exact⟨A,m,h1,h2,h3,h4,h5,h6,λa e hm=>by obtain⟨e',ty,cs,g1,g2,g3,g4⟩:=h7 a e hm;exact⟨e',ty,cs,g1,hF _ _ g2,g3,g4⟩⟩
  .obtain⟨id,e,ty,cs,h1,h2,h3,h4⟩:=h;exact h4.elim
  .obtain⟨h1,h2⟩:=h;obtain⟨y,hy⟩:=Option.isSome_iff_exists.1 h2;exact⟨h1,by rw[hF _ _ hy];rfl⟩
 |succ n ih =>
  have rs:∀ {κ:Nat} {ls:List Lf} {vs:List Value},rsF (isD K c n) (ax (aK K κ).rs ls) vs->rsF (isD K d n) (ax (aK K κ).rs ls) vs:=λ{κ ls vs} h=>⟨h.1,λi x v hx hv=>ih (fj (fE (hK κ)) hx) (h.2 i x v hx hv)⟩;intro x v hx h;cases x<;>first|exact h | cases hx | skip
  .obtain⟨A,m,h1,h2,h3,h4,h5,h6,h7⟩:=h;exact⟨A,m,h1,h2,h3,h4,h5,h6,λa e hm=>by obtain⟨e',ty,cs,g1,g2,g3,g4⟩:=h7 a e hm;exact⟨e',ty,cs,g1,hF _ _ g2,g3,λi hi=>rs (g4 i hi)⟩⟩
  .obtain⟨id,e,ty,cs,h1,h2,h3,h4⟩:=h;exact⟨id,e,ty,cs,h1,hF _ _ h2,h3,rs h4⟩
  .obtain⟨h1,h2⟩:=h;obtain⟨y,hy⟩:=Option.isSome_iff_exists.1 h2;exact⟨h1,by rw[hF _ _ hy];rfl⟩
theorem RsOk.flat (hK:jf K) (hF:∀b x,c.F b=some x->d.F b=some x) {κ:Nat} {ls:List Lf} {vs:List Value} (h:RsOk K c (ax (aK K κ).rs ls) vs):RsOk K d (ax (aK K κ).rs ls) vs:=⟨h.1,λi x v hx hv=>by obtain⟨n,hn⟩:=h.2 i x v hx hv;exact⟨n,n5 hK hF n (fj (fE (hK κ)) hx) hn⟩⟩
theorem xU (hK:jf K) {S:Nat->Prop} {f:Nat->Nat} (hr:Ren S f c d) {x:AV} {v:Value} (hS:∀j∈iS x,S j) (h:x.is K c v):(YQ f x).is K d v:=by
 cases x with
 |nP j o=>obtain⟨id,h1,h2⟩:=is_P.1 h;exact is_P.2 ⟨id,hr.ρ _ _ (hS j (by simp[iS])) h1,h2⟩
 |nS j o n m=>obtain⟨id,h1,h2⟩:=is_S.1 h;exact is_S.2 ⟨id,hr.ρ _ _ (hS j (by simp[iS])) h1,h2⟩
 |nD j κ a b o n=>obtain⟨id,m,h1,h2,h3,h4,h5,h6,h7⟩:=is_D.1 h;exact is_D.2 ⟨id,m,hr.ρ _ _ (hS j (by simp[iS])) h1,h2,h3,h4,h5,h6,by rw[hr.sz _ _ (hS j (by simp[iS])) h1];exact h7⟩
 |nX j κ e i=>obtain⟨id,h1,h2⟩:=is_X.1 h;exact is_X.2 ⟨id,hr.ρ _ _ (hS j (by simp[iS])) h1,h2⟩
 |nY j o n a b e=>obtain⟨id,h1,h2⟩:=is_Y.1 h;exact is_Y.2 ⟨id,hr.ρ _ _ (hS j (by simp[iS])) h1,h2⟩
 |nF g js =>
  obtain⟨us,h1,h2,h3⟩:=is_F.1 h;refine is_F.2 ⟨us,h1,by simp[h2],λi j e=>?_⟩
  rw[List.getElem?_map]at e
  cases hq:js[i]? with
  |none=>rw[hq]at e;cases e
  |some j' =>rw[hq]at e;cases e;obtain⟨id,g1,g2⟩:=h3 i j' hq;exact⟨id,hr.ρ _ _ (hS j' (List.mem_of_getElem? hq)) g1,g2⟩
 |_ =>obtain⟨n,hn⟩:=h;exact⟨n,n5 hK hr.F n rfl hn⟩
theorem HS (f:Nat->Nat):∀r:Rs,aq (qg f r)=(aq r).map (YQ f)
 |[]=>rfl
 |.c y::r=>by simp only[qg,aq,az,List.singleton_append,List.map_cons,HS f r]
 |.a n k lo hi g::r=>by simp only[qg,aq,az,List.map_append,HS f r,List.map_map];rfl
theorem nL:∀ {r:Rs} {i:Nat} {x:AV},(aq r)[i]? = some x->∀j∈iS x,j∈cO [] r
 |[],_,_,h,_,_=>by simp[aq]at h
 |.c y::r,0,x,h,j,hj=>by
  simp[aq,az]at h
  subst h;unfold cO;simp only;rw[blkRs_mem,bK];exact .inl (.inr hj)
 |.c y::r,i+1,x,h,j,hj=>by simp only[aq,az,List.singleton_append,List.getElem?_cons_succ]at h;unfold cO;simp only;rw[blkRs_mem];exact .inr (nL h j hj)
 |.a n k lo hi f::r,i,x,h,j,hj=>by
  unfold cO;simp only;rw[aq]at h
  by_cases hi:i<(az (.a n k lo hi f)).length
  .rw[List.getElem?_append_left hi]at h;simp only[az,List.getElem?_map]at h
   cases hq:(List.range n)[i]? with
   |none=>rw[hq]at h;cases h
   |some q=>rw[hq]at h;cases h;simp[iS]at hj
  .rw[List.getElem?_append_right ac]at h;exact nL h j hj
theorem tS (hK:jf K) {S:Nat->Prop} {f:Nat->Nat} (hr:Ren S f c d) {r:Rs} {vs:List Value} (hS:∀j∈cO [] r,S j) (h:RsOk K c r vs):RsOk K d (qg f r) vs:=by
 refine⟨by rw[h.1,<-aF,<-aF,HS,List.length_map],λi x v hx hv=>?_⟩
 rw[HS,List.getElem?_map]at hx
 cases hq:(aq r)[i]? with
 |none=>rw[hq]at hx;cases hx
 |some y =>rw[hq]at hx;cases hx;exact xU hK hr (λj hj=>hS j (nL hq j hj)) (h.2 i y v hq hv)
theorem xy (hK:jf K) {S:Nat->Prop} {f:Nat->Nat} (hr:Ren S f c d) {x:AS} {v:Value} (hS:∀j∈ya [] x,S j) (h:x.is K c v):(Z9 f x).is K d v:=by
 cases x with
 |sO x=>exact xU hK hr (λj hj=>hS j (by unfold ya;rw[bK];exact .inr hj)) h
 |sA r=>obtain⟨vs,e,h⟩:=h;exact⟨vs,e,tS hK hr hS h⟩
theorem tk {x:AS} {l:List Nat} {j:Nat}:j∈ya l x↔j∈l\/j∈ya [] x:=by
 cases x with
 |sO x=>unfold ya;rw[bK,bK];simp
 |sA r=>exact blkRs_mem
theorem blkL_mem:∀ {m:List AS} {l:List Nat} {j:Nat},j∈tL l m↔j∈l\/j∈tL [] m
 |[],l,j=>by simp[tL]
 |x::m,l,j=>by unfold tL;rw[blkL_mem (m:=m),blkL_mem (m:=m) (l:=ya [] x),tk,or_assoc]
theorem mY (hK:jf K) {S:Nat->Prop} {f:Nat->Nat} (hr:Ren S f c d):∀ {l:List AS} {vs:List Value},(∀j∈tL [] l,S j)->allIs K c l vs->allIs K d (QM f l) vs
 |[],vs,_,h=>⟨h.1,λi s v hs=>by simp[QM]at hs⟩
 |x::l,[],_,h=>by have:=h.1;simp at this
 |x::l,v::vs,hS,h=>by rw[allIs_cons]at h;unfold tL at hS;refine allIs_cons.2 ⟨xy hK hr (λj hj=>hS j (blkL_mem.2 (.inl hj))) h.1,mY hK hr (λj hj=>hS j (blkL_mem.2 (.inr hj))) h.2⟩
theorem wZ (hK:jf K) {S:Nat->Prop} {f:Nat->Nat} (hr:Ren S f c d) {x:AT} {v:Value} (hS:∀j∈ll [] x,S j) (h:x.is K c v):(abC f x).is K d v:=by
 cases x with
 |tX s=>exact xy hK hr hS h
 |tT l=>obtain⟨vs,e,h⟩:=h;exact⟨vs,e,mY hK hr hS h⟩
 |tF g a b =>obtain⟨vs,us,e,h1,h2⟩:=h;unfold ll at hS;exact⟨vs,us,e,mY hK hr (λj hj=>hS j (blkL_mem.2 (.inl hj))) h1,mY hK hr (λj hj=>hS j (blkL_mem.2 (.inr hj))) h2⟩
 |tA=>trivial
theorem ii {x:AT} {l:List Nat} {j:Nat}:j∈ll l x↔j∈l\/j∈ll [] x:=by
 cases x with
 |tX s=>exact tk
 |tT m=>exact blkL_mem
 |tF g a b=>unfold ll;rw[blkL_mem,blkL_mem (l:=l),blkL_mem (l:=tL [] a),or_assoc]
 |tA=>unfold ll;simp
theorem blkTs_mem:∀ {m:List AT} {l:List Nat} {j:Nat},j∈du l m↔j∈l\/j∈du [] m
 |[],l,j=>by simp[du]
 |x::m,l,j=>by unfold du;rw[blkTs_mem (m:=m),blkTs_mem (m:=m) (l:=ll [] x),ii,or_assoc]
theorem ip (hK:jf K) {S:Nat->Prop} {f:Nat->Nat} (hr:Ren S f c d):∀ {l:List AT} {vs:List Value},(∀j∈du [] l,S j)->allAt K c l vs->allAt K d (vt f l) vs
 |[],vs,_,h=>⟨h.1,λi s v hs=>by simp[vt]at hs⟩
 |x::l,[],_,h=>by have:=h.1;simp at this
 |x::l,v::vs,hS,h=>by rw[allAt_cons]at h;unfold du at hS;exact allAt_cons.2 ⟨wZ hK hr (λj hj=>hS j (blkTs_mem.2 (.inl hj))) h.1,ip hK hr (λj hj=>hS j (blkTs_mem.2 (.inr hj))) h.2⟩
end
end Go.Proofs.YtldmjbgplgoedaaGreatDoor
namespace Go.Proofs.YtldmjbgplgoedaaGreatDoor
open Go.RowKit
section
variable {P:Program} {K:KT} {w0 w w':World} {c0 c c' d:Cx} {mem mem':List AB}
def Def (c:Cx) (l:List Nat):Prop:=∀j∈l,∃id,c.ρ j=some id
theorem sP {x:AV} {v:Value} (h:x.is K c v):Def c (iS x):=λj hj=>by
 cases x<;>simp only[iS,List.mem_singleton,List.not_mem_nil]at hj
 case nP=>subst hj;obtain⟨id,h1,-⟩:=is_P.1 h;exact⟨id,h1⟩
 case nS=>subst hj;obtain⟨id,h1,-⟩:=is_S.1 h;exact⟨id,h1⟩
 case nD=>subst hj;obtain⟨id,m,h1,-⟩:=is_D.1 h;exact⟨id,h1⟩
 case nX=>subst hj;obtain⟨id,h1,-⟩:=is_X.1 h;exact⟨id,h1⟩
 case nY=>subst hj;obtain⟨id,h1,-⟩:=is_Y.1 h;exact⟨id,h1⟩
 case nF =>obtain⟨us,-,-,h3⟩:=is_F.1 h;obtain⟨i,hi⟩:=List.getElem?_of_mem hj;obtain⟨id,g,-⟩:=h3 i j hi;exact⟨id,g⟩
theorem io:∀ {r:Rs} {vs:List Value},RsOk K c r vs->Def c (cO [] r)
 |[],_,_=>λj hj=>by simp[cO]at hj
 |.c y::r,vs,h=>λj hj=>by
  unfold cO at hj;simp only at hj;obtain⟨h1,h2⟩:=h.split1;rw[blkRs_mem,bK]at hj;rcases hj with (hj | hj) | hj
  .simp at hj
  .obtain⟨v,-,hv⟩:=RsOk.one_iff.1 h1;exact sP hv j hj
  .exact io h2 j hj
 |.a n k lo hi f::r,vs,h=>λj hj=>io h.split1.2 j (by unfold cO at hj;exact hj)
theorem tp {x:AS} {v:Value} (h:x.is K c v):Def c (ya [] x):=λj hj=>by
 cases x with
 |sO x=>unfold ya at hj;rw[bK]at hj;exact sP h j (hj.elim (λe=>by simp at e) id)
 |sA r=>obtain⟨vs,-,h⟩:=h;exact io h j hj
theorem jQ:∀ {l:List AS} {vs:List Value},allIs K c l vs->Def c (tL [] l)
 |[],_,_=>λj hj=>by simp[tL]at hj
 |x::l,[],h=>by have:=h.1;simp at this
 |x::l,v::vs,h=>λj hj=>by rw[allIs_cons]at h;unfold tL at hj;rw[blkL_mem]at hj;exact hj.elim (tp h.1 j) (jQ h.2 j)
theorem BJ {x:AT} {v:Value} (h:x.is K c v):Def c (ll [] x):=λj hj=>by
 cases x with
 |tX s=>exact tp h j hj
 |tT l=>obtain⟨vs,-,h⟩:=h;exact jQ h j hj
 |tF g a b =>obtain⟨vs,us,-,h1,h2⟩:=h;unfold ll at hj;rw[blkL_mem]at hj;exact hj.elim (jQ h1 j) (jQ h2 j)
 |tA=>unfold ll at hj;simp at hj
theorem fF:∀ {l:List AT} {vs:List Value},allAt K c l vs->Def c (du [] l)
 |[],_,_=>λj hj=>by simp[du]at hj
 |x::l,[],h=>by have:=h.1;simp at this
 |x::l,v::vs,h=>λj hj=>by rw[allAt_cons]at h;unfold du at hj;rw[blkTs_mem]at hj;exact hj.elim (BJ h.1 j) (fF h.2 j)
theorem cX (h:AM K w0 c0 c mem w):∀(f i:Nat) (l:List Nat),Def c l->Def c (dM mem f i l)
 |0,_,_,hl=>hl
 |f+1,i,l,hl=>by
  unfold dM
  split
  .rename_i j hj
   split
   .rename_i ty rs hm;refine cX h f (i+1) _ λx hx=>?_;rw[blkRs_mem]at hx;rcases hx with hx | hx
    .exact hl x hx
    .obtain⟨id,hid⟩:=hl j (List.mem_of_getElem? hj);rw[aP]at hm;obtain⟨-,cs,-,h3⟩:=h.kn j id _ hid hm;exact io h3 x hx
   .exact cX h f (i+1) l hl
  .exact hl
theorem nl:∀ {l:List Nat} {n:Nat},n∈l->l[wM l n]? = some n
 |[],n,h=>by simp at h
 |x::l,n,h=>by
  unfold wM
  split
  .rename_i e;rw[beq_iff'.1 e];rfl
  .rename_i e;have hx:x≠n:=λe'=>by rw[beq_iff'.2 e']at e;cases e
   rw[List.getElem?_cons_succ];exact nl ((List.mem_cons.1 h).resolve_left (Ne.symm hx))
theorem jF:∀ {l:List Nat} {i j:Nat},l[i]? = some j->(pick mem l)[i]? = some (match be mem j with
 |some b=>b
 |none=>.dead)
 |[],i,j,h=>by simp at h
 |x::l,0,j,h=>by simp only[List.getElem?_cons_zero,Option.some.injEq]at h;subst h;unfold pick;cases be mem x<;>rfl
 |x::l,i+1,j,h=>by unfold pick;simp only[List.getElem?_cons_succ]at h;have:=jF (l:=l) h;cases be mem x<;>(simp only[List.getElem?_cons_succ];exact this)
theorem np:∀(l:List Nat),(pick mem l).length=l.length
 |[]=>rfl
 |x::l=>by unfold pick;cases be mem x<;>simp[np l]
theorem dk (f:Nat->Nat):∀(l:List AB) (i:Nat),(eC f l)[i]? = (l[i]?).map (ag6 f)
 |[],i=>by simp[eC]
 |x::l,0=>rfl
 |x::l,i+1=>by simp only[eC,List.getElem?_cons_succ];exact dk f l i
theorem ce (f:Nat->Nat):∀(l:List AB),(eC f l).length=l.length
 |[]=>rfl
 |x::l=>by simp[eC,ce f l]
theorem nh (f:Nat->Nat) (b:AB):fQ (ag6 f b)=fQ b:=by cases b<;>rfl
theorem iH:∀ {m:List Nat} {l:List Nat},gS mem l m=true->∀j∈m,∃b,be mem j=some b/\fQ b=true/\∀ty rs,b=.run ty rs->∀x∈cO [] rs,x∈l
 |[],_,_,j,hj=>by simp at hj
 |x::m,l,h,j,hj=>by
  unfold gS at h;rw[both_iff]at h;rcases List.mem_cons.1 hj with rfl | hj
  .have h1:=h.1
   split at h1
   .rename_i ty rs hm;exact⟨_,hm,rfl,λty' rs' e=>by cases e;exact subN_iff.1 h1⟩
   .rename_i hm;exact⟨_,hm,rfl,λty' rs' e=>by cases e⟩
   .cases h1
  .exact iH h.2 j hj
def Cx.into (c:Cx) (σ:List Nat) (D:List Deferred:=[]):Cx:=⟨λi=>match σ[i]? with
 |some j=>c.ρ j
 |none=>none,c.F,c.sz,D⟩
theorem cr {σ:List Nat} {D:List Deferred} {i id:Nat} (h:(c.into σ D).ρ i=some id):∃j,σ[i]? = some j/\c.ρ j=some id:=by
 simp only[Cx.into]at h
 split at h
 .rename_i j hj;exact⟨j,hj,h⟩
 .cases h
structure xF (c:Cx) (mem:List AB) (C:Can):Prop where
 nd:C.σ.Nodup
 df:Def c C.σ
 lv:∀j∈C.σ,∃b,be mem j=some b/\fQ b=true
theorem abOk.ren (hK:jf K) {S:Nat->Prop} {f:Nat->Nat} (hr:Ren S f c d) {id j:Nat} {ab:AB} (hj:S j) (hj2:c.ρ j=some id) (hF:d.F id=c.F id) (hS:∀ty rs,ab=.run ty rs->∀x∈cO [] rs,S x) (h:abOk K c w id ab):abOk K d w id (ag6 f ab):=by
 cases ab with
 |run ty rs =>obtain⟨h1,cs,h2,h3⟩:=h;exact⟨hF.trans h1,cs,h2,tS hK hr (hS ty rs rfl) h3⟩
 |dyn ty κ a b n g fz =>obtain⟨h1,h2,cs,h3,h3',h4,h5,h6⟩:=h;exact⟨h1,h2,cs,h3,by rw[hr.sz _ _ hj hj2];exact h3',h4,λe he=>(h5 e he).flat hK hr.F,hF.trans h6⟩
 |dead=>trivial
theorem AM.into (hK:jf K) (h:AM K w0 c0 c mem w) {args:List AT} {vs:List Value} {C:Can} (hC:lA args mem=some C) (ha:allAt K c args vs):xF c mem C/\AM K w (c.into C.σ) (c.into C.σ) C.mem w/\allAt K (c.into C.σ) C.args vs:=by
 unfold lA at hC
 split at hC
 .rename_i hb;rw[both_iff,both_iff]at hb;obtain⟨b1,b2,b3⟩:=hb;have b1:=nodupN_iff.1 b1;have b2:=subN_iff.1 b2;have b3:=iH b3;cases hC;have hdef:Def c (aY args mem):=cX h _ _ _ (fF ha);have hren:Ren (λj=>j∈aY args mem) (wM (aY args mem)) c (c.into (aY args mem)):=⟨λj id hj e=>by simp only[Cx.into,nl hj];exact e,λ_ _ e=>e,λ_ _ _ _=>rfl⟩
  refine⟨⟨b1,hdef,λj hj=>?_⟩,⟨rfl,rfl,rfl,Nat.le_refl _,λ_ _ _=>rfl,Cx.le_refl _,λi id e=>?_,λi i' id x y e1 e2 g1 g2 l1 l2=>?_,λi id e=>.inl ⟨i,e⟩,λb e=>.inl e,λi id ab e1 e2=>?_,h.fr⟩,ip hK hren b2 ha⟩
  .obtain⟨b,q1,q2,-⟩:=b3 j hj;exact⟨b,q1,q2⟩
  .obtain⟨j,hj,hid⟩:=cr e;exact⟨by simp only[ce,np];exact(List.getElem?_eq_some_iff.1 hj).1,(h.dom j id hid).2⟩
  .obtain⟨j,hj,hid⟩:=cr e1;obtain⟨j',hj',hid'⟩:=cr e2
   have hjj:j=j':=by obtain⟨b,q1,q2,-⟩:=b3 j (List.mem_of_getElem? hj);obtain⟨b',q1',q2',-⟩:=b3 j' (List.mem_of_getElem? hj');rw[aP]at q1 q1';exact h.nd j j' id b b' hid hid' q1 q1' q2 q2'
   subst hjj;have h1:=(List.getElem?_eq_some_iff.1 hj).1;exact(List.getElem?_inj h1 b1).1 (hj.trans hj'.symm)
  .obtain⟨j,hj,hid⟩:=cr e1;simp only[dk]at e2;rw[jF hj]at e2;obtain⟨b,q1,q2,q3⟩:=b3 j (List.mem_of_getElem? hj);rw[q1]at e2;cases e2;rw[aP]at q1;exact(h.kn j id b hid q1).ren hK hren (List.mem_of_getElem? hj) hid rfl q3
 .cases hC
theorem dt:∀(l:List AB) (p:Nat) (m:List AB) (j:Nat),(AU p l m)[j]? = if p<=j/\j<p+l.length/\j<m.length then l[j-p]? else m[j]?
 |[],p,m,j=>by unfold AU;rw[if_neg (by simp;omega)]
 |b::l,p,m,j=>by
  unfold AU;rw[dt l (p+1),List.length_set,List.length_cons]
  by_cases h:p+1<=j/\j<p+1+l.length/\j<m.length
  .rw[if_pos h,if_pos ac,show j-p=(j-(p+1))+1 by omega,List.getElem?_cons_succ]
  .rw[if_neg h]
   by_cases hp:p=j
   .subst hp;rw[List.getElem?_set_self']
    by_cases hl:p<m.length
    .rw[if_pos ac,Nat.sub_self,List.getElem?_eq_getElem hl];rfl
    .rw[if_neg ac,List.getElem?_eq_none ac];rfl
   .rw[List.getElem?_set_ne hp,if_neg ac]
theorem bp:∀(l:List (Nat × AB)) (m:List AB) (j:Nat),(∀x∈l,x.1≠j)->(fI l m)[j]? = m[j]?
 |[],_,_,_=>rfl
 |x::l,m,j,h=>by unfold fI;rw[bp l _ j λy hy=>h y (List.mem_cons_of_mem _ hy),List.getElem?_set_ne (h x (List.mem_cons_self ..))]
theorem bo:∀(l:List (Nat × AB)) (m:List AB),(fI l m).length=m.length
 |[],_=>rfl
 |x::l,m=>by unfold fI;rw[bo l,List.length_set]
theorem iq:∀(l:List AB) (p:Nat) (m:List AB),(AU p l m).length=m.length
 |[],_,_=>rfl
 |x::l,p,m=>by unfold AU;rw[iq l,List.length_set]
theorem ij:∀ {σ:List Nat} {l:List AB} {x:Nat × AB},x∈su σ l->x.1∈σ
 |[],_,_,h=>by simp[su]at h
 |_::_,[],_,h=>by simp[su]at h
 |j::σ,b::l,x,h=>by
  unfold su at h;rcases List.mem_cons.1 h with rfl | h
  .exact List.mem_cons_self ..
  .exact List.mem_cons_of_mem _ (ij h)
theorem uf:∀ {σ:List Nat} {l:List AB} {m:List AB} {i j:Nat} {b:AB},σ.Nodup->σ[i]? = some j->l[i]? = some b->j<m.length->(fI (su σ l) m)[j]? = some b
 |[],_,_,i,j,b,_,h,_,_=>by simp at h
 |_::_,[],_,i,j,b,_,_,h,_=>by simp at h
 |k::σ,b0::l,m,0,j,b,hn,h1,h2,hj=>by simp only[List.getElem?_cons_zero,Option.some.injEq]at h1 h2;subst h1 h2;rw[List.nodup_cons]at hn;unfold su fI;rw[bp _ _ _ λx hx=>λe=>hn.1 (by rw[<-e];exact ij hx),List.getElem?_set_self hj]
 |k::σ,b0::l,m,i+1,j,b,hn,h1,h2,hj=>by rw[List.nodup_cons]at hn;unfold su fI;exact uf hn.2 (by simpa using h1) (by simpa using h2) (by rw[List.length_set];exact hj)
open Classical in
noncomputable def Cx.back (c c':Cx) (σ:List Nat) (p k:Nat):Cx:=⟨λj=>if p<=j/\j<p+k then c'.ρ (σ.length+(j-p))else c.ρ j,c'.F,λid=>if ∃i,c'.ρ i=some id then c'.sz id else c.sz id,c.D⟩
theorem AM.back (hK:jf K) (h:AM K w0 c0 c mem w) {C:Can} (hC:xF c mem C) {m:List AB} {y:AT} {v:Value} {p:Nat} {ps:List Prop} (hlen:C.σ.length<=m.length) (g:AM K w (c.into C.σ) c' m w') (hy:y.is K c' v) (hr:af2 c mem p (m.length-C.σ.length)):EOk K w0 c0 c mem p (jz C.σ p ps m y) v w':=by
 obtain⟨σ,cargs,cmem⟩:=C;obtain⟨hnd,hdf,hlv⟩:=hC;simp only at hnd hdf hlv hlen g hr
 have hσp:∀j∈σ,¬ (p<=j/\j<p+(m.length-σ.length)):=λj hj hp=>by
  obtain⟨id,hid⟩:=hdf j hj;have:=(hr (j-p) ac).2;rw[show p+(j-p)=j by omega,hid]at this
  cases this
 have hin:∀ {i j id:Nat},σ[i]? = some j->c.ρ j=some id->c'.ρ i=some id:=λ{i j id} h1 h2=>g.le.ρ i id (by simp only[Cx.into,h1];exact h2)
 have hold:∀ {i id:Nat},i<σ.length->c'.ρ i=some id->∃j,σ[i]? = some j/\c.ρ j=some id:=λ{i id} h1 h2=>by obtain⟨id',hid⟩:=hdf _ (List.getElem_mem h1);have:=hin (List.getElem?_eq_getElem h1) hid;rw[h2]at this;cases this;exact⟨_,List.getElem?_eq_getElem h1,hid⟩
 have alias:∀ {j id:Nat} {b:AB},c.ρ j=some id->mem[j]? = some b->fQ b=true->j∉σ->∀i,(c.into σ).ρ i≠some id:=λ{j id b} h1 h2 h3 h4 i e=>by obtain⟨j',q1,q2⟩:=cr e;have hm:=List.mem_of_getElem? q1;obtain⟨b',r1,r2⟩:=hlv j' hm;rw[aP]at r1;have:=h.nd j j' id b b' h1 q2 h2 r1 h3 r2;exact h4 (this ▸ hm)
 have hsz:∀ {j id:Nat},c.ρ j=some id->(c.back c' σ p (m.length-σ.length)).sz id=c.sz id:=λ{j id} h1=>by
  simp only[Cx.back]
  split
  .rename_i hi;obtain⟨i,hi⟩:=hi;rcases g.new i id hi with ⟨i',e⟩ | e
   .exact g.le.sz i' id e
   .have:=(h.dom j id h1).2;omega
  .rfl
 have hρ:∀ {j id:Nat},c.ρ j=some id->(c.back c' σ p (m.length-σ.length)).ρ j=some id:=λ{j id} h1=>by
  simp only[Cx.back];rw[if_neg]
  .exact h1
  .intro hp;have:=(hr (j-p) ac).2;rw[show p+(j-p)=j by omega,h1]at this
   cases this
 have hle:c.le (c.back c' σ p (m.length-σ.length)):=⟨λj id e=>hρ e,λb x e=>g.le.F b x e,λj id e=>hsz e,rfl⟩
 have hren:Ren (λ_=>True) (dA σ p) c' (c.back c' σ p (m.length-σ.length)):=⟨λi id _ e=>by
  unfold dA
  split
  .rename_i j hj;obtain⟨j',q1,q2⟩:=hold (List.getElem?_eq_some_iff.1 hj).1 e;rw[hj]at q1;cases q1;exact hρ q2
  .rename_i hj;have hi:σ.length<=i:=List.getElem?_eq_none_iff.1 hj;have him:=(g.dom i id e).1;simp only[Cx.back];rw[if_pos ⟨ac,ac⟩,show σ.length+(p+(i-σ.length)-p)=i by omega]
   exact e,λ_ _ e=>e,λi id _ e=>by
  simp only[Cx.back];rw[if_pos ⟨i,e⟩]⟩
 refine⟨c.back c' σ p (m.length-σ.length),hle,λi hi=>?_,?_,wZ hK hren (λ_ _=>trivial) hy⟩
 .simp only[Cx.back,jz,ce,List.length_drop]at hi ⊢;rw[if_neg ac]
 have cases_:∀ {j id:Nat} {b:AB},(c.back c' σ p (m.length-σ.length)).ρ j=some id->(AU p (eC (dA σ p) (m.drop σ.length)) (fI (su σ (eC (dA σ p) (m.take σ.length))) mem))[j]? = some b ->
  (∃i b0,c'.ρ i=some id/\m[i]? = some b0/\b=ag6 (dA σ p) b0/\j=dA σ p i/\i<m.length)\/(j∉σ/\c.ρ j=some id/\mem[j]? = some b):=λ{j id b} h1 h2=>by
  rw[dt,bo,ce,List.length_drop]at h2;simp only[Cx.back]at h1
  by_cases hp:p<=j/\j<p+(m.length-σ.length)
  .have hjm:=(hr (j-p) ac).1;rw[if_pos hp]at h1;rw[if_pos ⟨hp.1,hp.2,ac⟩,dk,List.getElem?_drop]at h2
   cases hq:m[σ.length+(j-p)]? with
   |none=>rw[hq]at h2;cases h2
   |some b0 =>rw[hq]at h2;cases h2;refine .inl ⟨_,b0,h1,hq,rfl,?_,(List.getElem?_eq_some_iff.1 hq).1⟩;unfold dA;rw[List.getElem?_eq_none ac];simp only;omega
  .rw[if_neg hp]at h1;rw[if_neg ac]at h2
   by_cases hj:j∈σ
   .obtain⟨i,hi⟩:=List.getElem?_of_mem hj;have hil:=(List.getElem?_eq_some_iff.1 hi).1
    have hbi:(eC (dA σ p) (m.take σ.length))[i]? = some (ag6 (dA σ p) (m[i]'(ac))):=by rw[dk,List.getElem?_take,if_pos hil,List.getElem?_eq_getElem ac];rfl
    have hjm:=(h.dom j id h1).1;rw[uf hnd hi hbi hjm]at h2;cases h2;refine .inl ⟨i,_,hin hi h1,List.getElem?_eq_getElem ac,rfl,?_,ac⟩;unfold dA;rw[hi]
   .rw[bp _ _ _ λx hx=>λe=>hj (by rw[<-e];exact ij hx)]at h2
    exact .inr ⟨hj,h1,h2⟩
 have inj:∀ {i i':Nat},i<m.length->i'<m.length->dA σ p i=dA σ p i'->i=i'\/¬ (∃id,c'.ρ i=some id)\/¬ (∃id,c'.ρ i'=some id):=λ{i i'} h1 h2 e=>by
  by_cases e1:i<σ.length<;>by_cases e2:i'<σ.length
  .unfold dA at e;rw[List.getElem?_eq_getElem e1,List.getElem?_eq_getElem e2]at e;simp only at e;exact .inl ((List.getElem?_inj e1 hnd).1 (by rw[List.getElem?_eq_getElem e1,List.getElem?_eq_getElem e2,e]))
  .unfold dA at e;rw[List.getElem?_eq_getElem e1,List.getElem?_eq_none ac]at e;simp only at e;exact absurd ⟨ac,ac⟩ (hσp _ (List.getElem_mem e1))
  .unfold dA at e;rw[List.getElem?_eq_none ac,List.getElem?_eq_getElem e2]at e;simp only at e;exact absurd ⟨ac,ac⟩ (hσp _ (List.getElem_mem e2))
  .unfold dA at e;rw[List.getElem?_eq_none ac,List.getElem?_eq_none ac]at e;simp only at e;exact .inl ac
 show AM K w0 c0 _ (AU p (eC (dA σ p) (m.drop σ.length)) (fI (su σ (eC (dA σ p) (m.take σ.length))) mem)) w';refine⟨g.os.trans h.os,g.tape.trans h.tape,g.output.trans h.output,Nat.le_trans h.size g.size,λb hb h1=>?_,Cx.le_trans h.le hle,λj id e=>?_,λi j id x y e1 e2 g1 g2 l1 l2=>?_,λj id e=>?_,λb e=>?_,λj id ab e1 e2=>?_,g.fr⟩
 .rw[g.frame b (Nat.lt_of_lt_of_le hb h.size) λi e=>?_,h.frame b hb h1];obtain⟨j',q1,q2⟩:=cr e;rcases h.new j' b q2 with ⟨i0,e0⟩ | e0
  .exact h1 i0 e0
  .omega
 .rw[iq,bo];simp only[Cx.back]at e
  split at e
  .rename_i hp;exact⟨by have:=(hr (j-p) ac).1;omega,(g.dom _ id e).2⟩
  .exact⟨(h.dom j id e).1,Nat.lt_of_lt_of_le (h.dom j id e).2 g.size⟩
 .rcases cases_ e1 g1 with ⟨i1,b1,q1,q2,rfl,q3,q4⟩ | ⟨q1,q2,q3⟩<;>rcases cases_ e2 g2 with ⟨i2,b2,r1,r2,rfl,r3,r4⟩ | ⟨r1,r2,r3⟩
  .rw[nh]at l1 l2;rw[q3,r3,g.nd i1 i2 id b1 b2 q1 r1 q2 r2 l1 l2]
  .rcases g.new i1 id q1 with ⟨i',e⟩ | e
   .exact absurd e (alias r2 r3 l2 r1 i')
   .have:=(h.dom j id r2).2;omega
  .rcases g.new i2 id r1 with ⟨i',e⟩ | e
   .exact absurd e (alias q2 q3 l1 q1 i')
   .have:=(h.dom i id q2).2;omega
  .exact h.nd i j id x y q2 r2 q3 r3 l1 l2
 .simp only[Cx.back]at e
  split at e
  .rcases g.new _ id e with ⟨i',e'⟩ | e'
   .obtain⟨j',-,q2⟩:=cr e';exact h.new j' id q2
   .exact .inr (Nat.le_trans h.size e')
  .exact h.new j id e
 .rcases g.newF b e with e | ⟨i,e⟩ | e
  .exact h.newF b e
  .obtain⟨j',-,q2⟩:=cr e;rcases h.new j' b q2 with q | q
   .exact .inr (.inl q)
   .exact .inr (.inr q)
  .exact .inr (.inr (Nat.le_trans h.size e))
 .rcases cases_ e1 e2 with ⟨i1,b1,q1,q2,rfl,q3,q4⟩ | ⟨q1,q2,q3⟩
  .exact(g.kn i1 id b1 q1 q2).ren hK hren trivial q1 rfl (λ_ _ _ _ _=>trivial)
  .cases hl:fQ ab with
   |false=>cases ab<;>first|trivial | cases hl
   |true =>
    have hal:=alias q2 q3 hl q1;have hlt:=(h.dom j id q2).2;refine(h.kn j id ab q2 q3).step hle q2 ?_ (g.frame id hlt hal);show c'.F id=c.F id
    cases hF:c.F id with
    |some x=>exact g.le.F id x hF
    |none =>
     cases hF':c'.F id with
     |none=>rfl
     |some x =>
      rcases g.newF id (by rw[hF'];rfl)with e | ⟨i,e⟩ | e
      .have e:(c.F id).isSome=true:=e;rw[hF]at e;cases e
      .exact absurd e (hal i)
      .omega
end
end Go.Proofs.YtldmjbgplgoedaaGreatDoor
