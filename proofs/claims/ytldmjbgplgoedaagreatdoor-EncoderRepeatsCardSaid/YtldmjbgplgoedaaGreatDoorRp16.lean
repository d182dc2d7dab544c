import Derived.Test.YtldmjbgplgoedaaGreatDoorRp15
set_option linter.all false
namespace Go.Proofs.YtldmjbgplgoedaaGreatDoor
open Go.RowKit
theorem bx {x:Lf} {l:List Lf}:at_ (x::l) 0=x:=rfl
theorem bE {x:Lf} {l:List Lf} {n:Nat}:at_ (x::l) (n+1)=at_ l n:=rfl
theorem Z_i {z:Int}:(Lf.i z).Z=z:=rfl
theorem X_b {z:Bool}:(Lf.b z).X=z:=rfl
theorem F_f {g:Nat->Int}:(Lf.f g).F=g:=rfl
theorem O_s {o n:Nat}:(Lf.s o n).O=o:=rfl
theorem N_s {o n:Nat}:(Lf.s o n).N=n:=rfl
theorem N_l {n:Nat} {g:Nat->List Lf}:(Lf.l n g).N=n:=rfl
theorem G_l {n:Nat} {g:Nat->List Lf}:(Lf.l n g).G=g:=rfl
abbrev g0:Nat->List Lf:=λ_=>[]
abbrev z0:Nat->Int:=λ_=>0
abbrev Ag (I:List Lf->Prop) (μ:List Lf->Nat) (l l':List Lf):Prop:=I l'/\μ l'<μ l
def bRs (p:AV->Prop):Rs->Prop
 |[]=>True
 |x::l=>match x with
  |.c y=>p y/\bRs p l
  |.a n _ lo hi f=>(∀i,i<n->lo<=f i/\f i<=hi)/\bRs p l
def bV (K:KT):Nat->AV->Prop
 |0,x=>match x with
  |.nI _ lo hi z=>lo<=z/\z<=hi
  |.nB f t x=>(x=false->f=true)/\(x=true->t=true)
  |.nR _ a b n _=>a<=n/\n<=b
  |.nD _ _ a b _ n=>a<=n/\n<=b
  |.nY _ _ _ a b e=>a<=e/\e<=b
  |_=>True
 |d+1,x=>match x with
  |.nI _ lo hi z=>lo<=z/\z<=hi
  |.nB f t x=>(x=false->f=true)/\(x=true->t=true)
  |.nR κ a b n g=>a<=n/\n<=b/\∀i,i<n->bRs (bV K d) (ax (aK K κ).rs (g i))
  |.nQ κ _ ls=>bRs (bV K d) (ax (aK K κ).rs ls)
  |.nD _ _ a b _ n=>a<=n/\n<=b
  |.nY _ _ _ a b e=>a<=e/\e<=b
  |_=>True
def bS (K:KT) (d:Nat):AS->Prop
 |.sO x=>bV K d x
 |.sA rs=>bRs (bV K d) rs
def bL (K:KT) (d:Nat):List AS->Prop
 |[]=>True
 |x::l=>bS K d x/\bL K d l
def bT (K:KT) (d:Nat):AT->Prop
 |.tX s=>bS K d s
 |.tF _ a b=>bL K d a/\bL K d b
 |_=>True
def bTs (K:KT) (d:Nat):List AT->Prop
 |[]=>True
 |x::l=>bT K d x/\bTs K d l
def bB (K:KT) (d:Nat):AB->Prop
 |.run _ rs=>bRs (bV K d) rs
 |.dyn _ κ a b n g _=>a<=n/\n<=b/\∀e,e<n->bRs (bV K d) (ax (aK K κ).rs (g e))
 |.dead=>True
def bBs (K:KT) (d:Nat):List AB->Prop
 |[]=>True
 |x::l=>bB K d x/\bBs K d l
section
variable {P:Program} {K:KT} {G:GT} {M:List (TypeId × Nat)} {w0 w:World} {c0 c:Cx} {mem:List AB}
theorem kL {p:AV->Prop} (hp:∀(x:AV) (v:Value),x.is K c v->p x):∀ {rs:Rs} {vs:List Value},RsOk K c rs vs->bRs p rs
 |[],vs,h=>trivial
 |x::l,vs,h=>by
  have hl:(aq (x::l)).length=vs.length:=by rw[aF,h.1]
  have htail:RsOk K c l (vs.drop (bi x)):=⟨by rw[List.length_drop,h.1,aV];omega,λi y v hy hv=>by
   rw[List.getElem?_drop]at hv;refine h.2 (bi x+i) y v ?_ hv;rw[aq,List.getElem?_append_right (by rw[aB];omega),aB]
   rw[show bi x+i-bi x=i by omega]
   exact hy⟩
  have at_:∀(i:Nat) (y:AV),(az x)[i]? = some y->∃v,y.is K c v:=λi y hy=>by
   have hi:=(List.getElem?_eq_some_iff.1 hy).1;have hlt:i<vs.length:=by rw[<-hl,aq,List.length_append];omega
   exact⟨_,h.2 i y _ (by rw[aq,List.getElem?_append_left hi];exact hy) (List.getElem?_eq_getElem hlt)⟩
  cases x with
  |c y =>obtain⟨v,hv⟩:=at_ 0 y rfl;exact⟨hp y v hv,kL hp htail⟩
  |a n k lo hi f =>
   refine⟨λi hin=>?_,kL hp htail⟩;obtain⟨v,hv⟩:=at_ i (.nI k lo hi (f i)) (by simp only[az,List.getElem?_map,List.getElem?_range hin];rfl)
   exact⟨(is_I.1 hv).2.1,(is_I.1 hv).2.2.1⟩
theorem vP:∀(d:Nat) {x:AV} {v:Value},x.is K c v->bV K d x
 |0,x,v,h=>by
  cases x with
  |nI k lo hi z=>exact⟨(is_I.1 h).2.1,(is_I.1 h).2.2.1⟩
  |nB f t x=>exact(is_B.1 h).2
  |nR κ a b n g=>obtain⟨A,m,h1,h2,h3,h4⟩:=is_R.1 h;exact⟨h2,h3⟩
  |nD j κ a b o n=>obtain⟨id,m,h1,h2,h3,h4,h5⟩:=is_D.1 h;exact⟨h3,h4⟩
  |nY j o n a b e=>obtain⟨id,h1,h2,h3,h4⟩:=is_Y.1 h;exact⟨h3,h4⟩
  |_=>trivial
 |d+1,x,v,h=>by
  cases x with
  |nI k lo hi z=>exact⟨(is_I.1 h).2.1,(is_I.1 h).2.2.1⟩
  |nB f t x=>exact(is_B.1 h).2
  |nR κ a b n g =>
   obtain⟨A,m,h1,h2,h3,h4,h5,h6,h7⟩:=is_R.1 h;refine⟨h2,h3,λi hi=>?_⟩
   cases A with
   |none=>have:=h6 rfl;omega
   |some ad =>obtain⟨e,ty,cs,g1,g2,g3,g4⟩:=h7 ad rfl ac;exact kL (λy v hy=>vP d hy) (g4 i hi)
  |nQ κ o ls =>obtain⟨id,e,ty,cs,h1,h2,h3,h4⟩:=is_Q.1 h;exact kL (λy v hy=>vP d hy) h4
  |nD j κ a b o n=>obtain⟨id,m,h1,h2,h3,h4,h5⟩:=is_D.1 h;exact⟨h3,h4⟩
  |nY j o n a b e=>obtain⟨id,h1,h2,h3,h4⟩:=is_Y.1 h;exact⟨h3,h4⟩
  |_=>trivial
theorem T7 {d:Nat} {x:AS} {v:Value} (h:x.is K c v):bS K d x:=by
 cases x with
 |sO x=>exact vP d h
 |sA rs=>obtain⟨vs,-,h⟩:=h;exact kL (λy v hy=>vP d hy) h
theorem ON {d:Nat}:∀ {l:List AS} {vs:List Value},allIs K c l vs->bL K d l
 |[],_,_=>trivial
 |_::_,[],h=>by have:=h.1;simp at this
 |x::l,v::vs,h=>by rw[allIs_cons]at h;exact⟨T7 h.1,ON h.2⟩
theorem kx {d:Nat}:∀ {l:List AT} {vs:List Value},allAt K c l vs->bTs K d l
 |[],_,_=>trivial
 |_::_,[],h=>by have:=h.1;simp at this
 |x::l,v::vs,h=>by
  rw[allAt_cons]at h;refine⟨?_,kx h.2⟩
  cases x with
  |tX s=>exact T7 h.1
  |tF f a b=>obtain⟨vs,us,-,h1,h2⟩:=h.1;exact⟨ON h1,ON h2⟩
  |_=>trivial
theorem sT {d:Nat}:∀ {l:List AB},(∀(i:Nat) (b:AB),l[i]? = some b->∃id,abOk K c w id b)->bBs K d l
 |[],_=>trivial
 |x::l,h=>by
  refine⟨?_,sT λi b e=>h (i+1) b (by simpa using e)⟩
  obtain⟨id,h0⟩:=h 0 x rfl
  cases x with
  |run ty rs=>obtain⟨-,cs,-,h1⟩:=h0;exact kL (λy v hy=>vP d hy) h1
  |dyn ty κ a b n g fz =>obtain⟨h1,h2,cs,-,-,-,h3,-⟩:=h0;exact⟨h1,h2,λe he=>kL (λy v hy=>vP d hy) (h3 e he)⟩
  |dead=>trivial
theorem jH:∀(n i j:Nat),i<=j->j<i+n->j∈l6 i n
 |0,i,j,h1,h2=>ac
 |n+1,i,j,h1,h2=>by
  unfold l6
  by_cases h:j=i
  .subst h;exact List.mem_cons_self ..
  .exact List.mem_cons_of_mem _ (jH n (i+1) j ac ac)
end
end Go.Proofs.YtldmjbgplgoedaaGreatDoor
namespace Go.Proofs.YtldmjbgplgoedaaGreatDoor
open Go.RowKit
def eV (K:KT) (x y:AV):Prop:=match x,y with
 |.nR κ a b n g,.nR κ' a' b' n' g'=>κ=κ'/\a=a'/\b=b'/\n=n'/\∀i,i<n->ax (aK K κ).rs (g i)=ax (aK K κ).rs (g' i)
 |x,y=>x=y
def eRs (K:KT):Rs->Rs->Prop
 |[],s=>s=[]
 |x::l,s=>match x,s with
  |.c x,.c y::m=>eV K x y/\eRs K l m
  |.a n k lo hi f,.a n' k' lo' hi' f'::m=>n=n'/\k=k'/\lo=lo'/\hi=hi'/\(∀i,i<n->f i=f' i)/\eRs K l m
  |_,_=>False
def eB (K:KT) (x y:AB):Prop:=match x,y with
 |.run ty r,.run ty' s=>ty=ty'/\eRs K r s
 |.dyn ty κ a b n g fz,.dyn ty' κ' a' b' n' g' fz'=>ty=ty'/\κ=κ'/\a=a'/\b=b'/\n=n'/\fz=fz'/\∀i,i<n->ax (aK K κ).rs (g i)=ax (aK K κ).rs (g' i)
 |x,y=>x=y
def eBs (K:KT):List AB->List AB->Prop
 |[],s=>s=[]
 |x::l,s=>match s with
  |y::m=>eB K x y/\eBs K l m
  |[]=>False
def eS (K:KT) (x y:AS):Prop:=match x,y with
 |.sO x,.sO y=>eV K x y
 |.sA r,.sA s=>eRs K r s
 |x,y=>x=y
def eSs (K:KT):List AS->List AS->Prop
 |[],s=>s=[]
 |x::l,s=>match s with
  |y::m=>eS K x y/\eSs K l m
  |[]=>False
def eT (K:KT) (x y:AT):Prop:=match x,y with
 |.tX x,.tX y=>eS K x y
 |.tT l,.tT m=>eSs K l m
 |x,y=>x=y
section
variable {P:Program} {K:KT} {G:GT} {M:List (TypeId × Nat)} {w0 w:World} {c0 c:Cx} {mem mem':List AB}
theorem dC (x:AV):eV K x x:=by cases x<;>simp[eV]
theorem mz:∀r:Rs,eRs K r r
 |[]=>rfl
 |.c x::l=>⟨dC x,mz l⟩
 |.a n k lo hi f::l=>⟨rfl,rfl,rfl,rfl,λ_ _=>rfl,mz l⟩
theorem LA (x:AB):eB K x x:=by
 cases x with
 |run ty r=>exact⟨rfl,mz r⟩
 |dyn ty κ a b n g fz=>exact⟨rfl,rfl,rfl,rfl,rfl,rfl,λ_ _=>rfl⟩
 |dead=>rfl
theorem TL {x y:AV} {v:Value} (e:eV K x y) (h:x.is K c v):y.is K c v:=by
 unfold eV at e
 split at e
 .obtain⟨rfl,rfl,rfl,rfl,e⟩:=e;obtain⟨A,m,h1,h2,h3,h4,h5,h6,h7⟩:=is_R.1 h
  exact is_R.2 ⟨A,m,h1,h2,h3,h4,h5,h6,λad q hm=>by obtain⟨e',ty,cs,g1,g2,g3,g4⟩:=h7 ad q hm;exact⟨e',ty,cs,g1,g2,g3,λi hi=>by rw[<-e i hi];exact g4 i hi⟩⟩
 .rw[<-e];exact h
theorem RsOk.uncons {x:Run} {l:Rs} {vs:List Value} (h:RsOk K c (x::l) vs):RsOk K c [x] (vs.take (bi x))/\RsOk K c l (vs.drop (bi x)):=by
 have hl:=h.1;simp only[aV]at hl;refine⟨⟨by simp only[aV,List.length_take];omega,λi y v hy hv=>?_⟩,⟨by rw[List.length_drop,hl];omega,λi y v hy hv=>?_⟩⟩
 .simp only[aq,List.append_nil]at hy;have hi:=(List.getElem?_eq_some_iff.1 hy).1;rw[aB]at hi;rw[List.getElem?_take,if_pos hi]at hv;exact h.2 i y v (by rw[aq,List.getElem?_append_left (by rw[aB];exact hi)];exact hy) hv
 .rw[List.getElem?_drop]at hv;refine h.2 (bi x+i) y v ?_ hv;rw[aq,List.getElem?_append_right (by rw[aB];omega),aB,show bi x+i-bi x=i by omega]
  exact hy
theorem tR:∀ {r s:Rs} {vs:List Value},eRs K r s->RsOk K c r vs->RsOk K c s vs
 |[],s,vs,e,h=>by have e:s=[]:=e;subst e;exact h
 |x::l,s,vs,e,h=>by
  obtain⟨h1,h2⟩:=h.uncons;unfold eRs at e
  split at e
  .rename_i x y m;have hv:vs=vs.take 1++vs.drop 1:=(List.take_append_drop 1 vs).symm;rw[hv];refine RsOk.append (rs:=[.c y]) ?_ (tR e.2 h2);have hl:(vs.take 1).length=1:=h1.1;obtain⟨v,hv1⟩:=List.length_eq_one_iff.1 hl;have h1':RsOk K c [.c x] (vs.take 1):=h1;rw[hv1]at h1' ⊢;exact RsOk.one (TL e.1 (h1'.2 0 x v rfl rfl))
  .rename_i n k lo hi f n' k' lo' hi' f' m;obtain⟨rfl,rfl,rfl,rfl,e1,e2⟩:=e;have hv:vs=vs.take n++vs.drop n:=(List.take_append_drop n vs).symm;rw[hv];refine RsOk.append (rs:=[.a n k lo hi f']) ?_ (tR e2 h2);have h1':RsOk K c [.a n k lo hi f] (vs.take n):=h1;refine RsOk.ints (by have:=h1'.1;simpa[aV,bi]using this) λi hin=>?_
   have hl:(vs.take n).length=n:=by have:=h1'.1;simpa[aV,bi]using this
   have hget:=List.getElem?_eq_getElem (l:=vs.take n) (i:=i) ac;have:=h1'.2 i (.nI k lo hi (f i)) _ (by simp only[aq,az,List.append_nil,List.getElem?_map,List.getElem?_range hin];rfl) hget
   obtain⟨q1,q2⟩:=is_I.1 this;rw[hget,q1,<-e1 i hin];exact⟨rfl,q2⟩
  .exact e.elim
theorem XR {x y:AB} {id:Nat} (e:eB K x y) (h:abOk K c w id x):abOk K c w id y/\fQ y=fQ x:=by
 unfold eB at e
 split at e
 .obtain⟨rfl,e⟩:=e;obtain⟨h1,cs,h2,h3⟩:=h;exact⟨⟨h1,cs,h2,tR e h3⟩,rfl⟩
 .obtain⟨rfl,rfl,rfl,rfl,rfl,rfl,e⟩:=e;obtain⟨h1,h2,cs,h3,h4,h5,h6,h7⟩:=h;exact⟨⟨h1,h2,cs,h3,h4,h5,λi hi=>by rw[<-e i hi];exact h6 i hi,h7⟩,rfl⟩
 .rw[<-e];exact⟨h,rfl⟩
theorem xa:∀ {l m:List AB},eBs K l m->m.length=l.length
 |[],m,e=>by have e:m=[]:=e;rw[e]
 |x::l,[],e=>e.elim
 |x::l,y::m,e=>by rw[List.length_cons,List.length_cons,xa e.2]
theorem Kp:∀ {l m:List AB},eBs K l m->∀(i:Nat) (y:AB),m[i]? = some y->∃x,l[i]? = some x/\eB K x y
 |[],m,e,i,y,h=>by have e:m=[]:=e;subst e;simp at h
 |x::l,[],e,i,y,h=>e.elim
 |x::l,z::m,e,0,y,h=>by simp only[List.getElem?_cons_zero,Option.some.injEq]at h;subst h;exact⟨x,rfl,e.1⟩
 |x::l,z::m,e,i+1,y,h=>by simp only[List.getElem?_cons_succ]at h ⊢;exact Kp e.2 i y h
theorem AM.ext (h:AM K w0 c0 c mem w) (e:eBs K mem mem'):AM K w0 c0 c mem' w:=h.less (xa e) λj b' hb=>by obtain⟨b,h1,h2⟩:=Kp e j b' hb;exact⟨b,h1,λid hi=>⟨λhl=>by rw[<-(XR h2 hi).2];exact hl,(XR h2 hi).1⟩⟩
theorem WO {x y:AS} {v:Value} (e:eS K x y) (h:x.is K c v):y.is K c v:=by
 unfold eS at e
 split at e
 .exact TL e h
 .obtain⟨vs,h1,h2⟩:=h;exact⟨vs,h1,tR e h2⟩
 .rw[<-e];exact h
theorem Jv:∀ {l m:List AS} {vs:List Value},eSs K l m->allIs K c l vs->allIs K c m vs
 |[],m,vs,e,h=>by have e:m=[]:=e;subst e;exact h
 |x::l,[],vs,e,h=>e.elim
 |x::l,y::m,[],e,h=>by have:=h.1;simp at this
 |x::l,y::m,v::vs,e,h=>by rw[allIs_cons]at h ⊢;exact⟨WO e.1 h.1,Jv e.2 h.2⟩
def up (K:KT) (Q:Lv->Prop):Lv->Prop:=λo=>match o with
 |.val m y=>∃m' y',eBs K m m'/\eT K y y'/\Q (.val m' y')
 |o=>Q o
end
end Go.Proofs.YtldmjbgplgoedaaGreatDoor
namespace Go.Proofs.YtldmjbgplgoedaaGreatDoor
open Go.RowKit
structure Wy where
 sk:List AS
 msk:List AB:=[]
def tr (sk:List AS) (y:AT):Option Mt:=match y with
 |.tX x=>match sk with
  |[s]=>kO s x
  |_=>none
 |.tT l=>match sk with
  |[_]=>none
  |sk=>gn sk l
 |_=>none
def lY:List Wy->Nat->AT->List AB->Option Mt
 |[],_,_,_=>none
 |w::l,i,y,m=>match wm (tr w.sk y) (dv w.msk m)with
  |some (ps,ls)=>some (ps,.i (Int.ofNat i)::ls)
  |none=>lY l (Nat.add i 1) y m
def VG (ws:List Wy) (t:T):T:=t.bind λo=>match o with
 |.val m y=>match lY ws 0 y m with
  |some (ps,ls)=>vcs ps (.done (.again ls))
  |none=>.fail
 |_=>.fail
def onA (R:List Lf->Prop):Lv->Prop:=λo=>match o with
 |.again l=>R l
 |_=>False
def uu (w:Wy) (l:List Lf):Lv:=.val (an w.msk (tls (nlL w.sk) l)) (wg (cF w.sk l))
def agV (K:KT) (x:AV) (l l':Lf):Prop:=match x with
 |.nI ..=>l.Z=l'.Z
 |.nB ..=>l.X=l'.X
 |.nD ..=>l.O=l'.O/\l.N=l'.N
 |.nX ..=>l.N=l'.N
 |.nR κ _ _ _ _=>l.N=l'.N/\∀i,i<l.N->ax (aK K κ).rs (l.G i)=ax (aK K κ).rs (l'.G i)
 |.nQ ..=>l.G 0=l'.G 0
 |.nY ..=>l.N=l'.N
 |_=>True
def mL (K:KT):Rs->List Lf->List Lf->Prop
 |[],_,_=>True
 |x::r,l,l'=>match x with
  |.c y=>match eU y with
   |true=>agV K y (hd l) (hd l')/\mL K r (tl l) (tl l')
   |false=>mL K r l l'
  |.a n _ _ _ _=>(∀i,i<n->(hd l).F i=(hd l').F i)/\mL K r (tl l) (tl l')
def agS (K:KT) (x:AS) (l l':List Lf):Prop:=match x with
 |.sO x=>match eU x with
  |true=>agV K x (hd l) (hd l')
  |false=>True
 |.sA r=>mL K r l l'
def agL (K:KT):List AS->List Lf->List Lf->Prop
 |[],_,_=>True
 |x::r,l,l'=>agS K x l l'/\agL K r (tls (nlS x) l) (tls (nlS x) l')
def agB (K:KT) (x:AB) (l l':List Lf):Prop:=match x with
 |.run _ r=>mL K r l l'
 |.dyn _ κ _ _ _ _ _=>(hd l).N=(hd l').N/\∀i,i<(hd l).N->ax (aK K κ).rs ((hd l).G i)=ax (aK K κ).rs ((hd l').G i)
 |.dead=>True
def lV (K:KT):List AB->List Lf->List Lf->Prop
 |[],_,_=>True
 |x::r,l,l'=>agB K x l l'/\lV K r (tls (nlB x) l) (tls (nlB x) l')
def agW (K:KT) (w:Wy) (l l':List Lf):Prop:=agL K w.sk l l'/\lV K w.msk (tls (nlL w.sk) l) (tls (nlL w.sk) l')
section
variable {P:Program} {K:KT} {G:GT} {M:List (TypeId × Nat)} {w0 w:World} {c0 c:Cx} {mem mem':List AB}
theorem Tv {x:AV} {l l':Lf} (h:agV K x l l'):eV K (j5 x l) (j5 x l'):=by
 cases x with
 |nI k lo hi z=>have h:l.Z=l'.Z:=h;simp only[j5,h];exact dC _
 |nB f t x=>have h:l.X=l'.X:=h;simp only[j5,h];exact dC _
 |nD j κ a b o n=>obtain⟨h1,h2⟩:=h;simp only[j5,h1,h2];exact dC _
 |nX j κ d i=>have h:l.N=l'.N:=h;simp only[j5,h];exact dC _
 |nR κ a b n g=>exact⟨rfl,rfl,rfl,h.1,h.2⟩
 |nQ κ d ls=>have h:l.G 0=l'.G 0:=h;simp only[j5,h];exact dC _
 |nY j o n a b e=>have h:l.N=l'.N:=h;simp only[j5,h];exact dC _
 |_=>exact dC _
theorem qN:∀ {r:Rs} {l l':List Lf},mL K r l l'->eRs K (ax r l) (ax r l')
 |[],_,_,_=>rfl
 |.c y::r,l,l',h=>by
  unfold mL at h;unfold ax;simp only at h ⊢
  split
  .rename_i e;rw[e]at h;exact⟨Tv h.1,qN h.2⟩
  .rename_i e;rw[e]at h;exact⟨dC _,qN h⟩
 |.a n k lo hi f::r,l,l',h=>⟨rfl,rfl,rfl,rfl,h.1,qN h.2⟩
theorem RU {x:AS} {l l':List Lf} (h:agS K x l l'):eS K (kv x l) (kv x l'):=by
 cases x with
 |sO x =>
  unfold agS at h;unfold kv gM;simp only at h ⊢
  cases e:eU x with
  |true=>rw[e]at h;exact Tv h
  |false=>exact dC _
 |sA r=>exact qN h
theorem Wg:∀ {s:List AS} {l l':List Lf},agL K s l l'->eSs K (cF s l) (cF s l')
 |[],_,_,_=>rfl
 |_::_,_,_,h=>⟨RU h.1,Wg h.2⟩
theorem abX {x:AB} {l l':List Lf} (h:agB K x l l'):eB K (cH x l) (cH x l'):=by
 cases x with
 |run ty r=>exact⟨rfl,qN h⟩
 |dyn ty κ a b n g fz=>exact⟨rfl,rfl,rfl,rfl,h.1,rfl,h.2⟩
 |dead=>exact LA _
theorem Lk:∀ {s:List AB} {l l':List Lf},lV K s l l'->eBs K (an s l) (an s l')
 |[],_,_,_=>rfl
 |_::_,_,_,h=>⟨abX h.1,Lk h.2⟩
theorem F6 {s:List AS} {l:List Lf} (h:∀x,s≠[x]):wg (cF s l)=.tT (cF s l):=by
 match s,h with
 |[],_=>rfl
 |[x],h=>exact absurd rfl (h x)
 |x::y::r,_=>rfl
theorem zS {s:List AS} {y:AT} {ps:List Prop} {ls:List Lf} {v:Value} (h:tr s y=some (ps,ls)) (hp:bC ps) (hy:y.is K c v):ls.length=nlL s/\∀(ex l':List Lf),agL K s (ls++ex) l'->(wg (cF s l')).is K c v:=by
 unfold tr at h
 split at h
 .rename_i x
  split at h
  .rename_i s;refine⟨by rw[fS h];simp[nlL],λex l' ha=>?_⟩
   have h1:=kq (K:=K) (c:=c) h hp (v:=v) hy ex;show(kv s l').is K c v;exact WO (RU ha.1) h1
  .cases h
 .rename_i l
  split at h
  .cases h
  .rename_i hs;obtain⟨vs,h1,h2⟩:=hy;refine⟨dT h,λex l' ha=>?_⟩;rw[F6 (λx e=>hs x e)];exact⟨vs,h1,Jv (Wg ha) (iG h hp h2 ex)⟩
 .cases h
theorem Ax {ws:List Wy}:∀ {n:Nat} {y:AT} {m:List AB} {ps:List Prop} {ls:List Lf},lY ws n y m=some (ps,ls)->bC ps->∃i w,(hd ls).Z=Int.ofNat (n+i)/\ws[i]? = some w/\∃p a q b,tr w.sk y=some (p,a)/\dv w.msk m=some (q,b)/\bC p/\bC q/\tl ls=a++b:=by
 induction ws with
 |nil=>intro n y m ps ls h;cases h
 |cons w l ih =>
  intro n y m ps ls h hp;unfold lY at h
  split at h
  .rename_i e;cases h;obtain⟨p,a,q,b,h1,h2,rfl,rfl⟩:=aW e;rw[aM]at hp;exact⟨0,w,rfl,rfl,p,a,q,b,h1,h2,hp.1,hp.2,rfl⟩
  .obtain⟨i,w',h1,h2,h3⟩:=ih h hp;refine⟨i+1,w',?_,by simpa using h2,h3⟩
   rw[h1];show Int.ofNat (n+1+i)=Int.ofNat (n+(i+1))
   congr 1
   omega
def upW (K:KT) (ws:List Wy) (Q:Lv->Prop):List Lf->Prop:=λl=>∃i w l',(hd l).Z=Int.ofNat i/\ws[i]? = some w/\agW K w (tl l) l'/\Q (uu w l')
theorem jL {ws:List Wy} {t:T} {Q:Lv->Prop} (h:(VG ws t).sat (onA (upW K ws Q))):t.sat λo=>match o with
 |.val m y=>∃ps ls,lY ws 0 y m=some (ps,ls)/\bC ps/\upW K ws Q ls
 |_=>False:=by
 unfold VG at h;rw[T.sat_bind]at h;refine T.sat_mono (λo ho=>?_) h
 cases o with
 |val m y =>
  simp only at ho ⊢
  split at ho
  .rename_i ps ls e;rw[bh]at ho;exact⟨ps,ls,e,ho.1,ho.2⟩
  .exact ho.elim
 |_=>exact ho.elim
theorem uc {ws:List Wy} {Q:Lv->Prop} {m:List AB} {y:AT} {v:Value} {ps:List Prop} {ls:List Lf} (h:lY ws 0 y m=some (ps,ls)) (hp:bC ps) (hu:upW K ws Q ls) (hm:AM K w0 c0 c m w) (hy:y.is K c v):∃m' y',Q (.val m' y')/\AM K w0 c0 c m' w/\y'.is K c v:=by
 obtain⟨i,w1,h1,h2,p,a,q,b,h3,h4,hp1,hq1,e⟩:=Ax h hp;obtain⟨i',w2,l',g1,g2,⟨g3,g4⟩,g5⟩:=hu
 have:i'=i:=by rw[h1]at g1;have:=Int.ofNat.inj g1;omega
 subst this;rw[h2]at g2;cases g2;obtain⟨k1,k2⟩:=zS (K:=K) (c:=c) h3 hp1 hy;rw[e]at g3 g4;refine⟨_,_,g5,?_,k2 b l' g3⟩;rw[bv _ k1]at g4;have:=hm.less (mem':=an w1.msk b) (by rw[bF,FH h4]) λj b' hb=>fZ (K:=K) (c:=c) (w:=w) h4 hq1 [] j b' (by rw[List.append_nil];exact hb)
 exact this.ext (Lk g4)
theorem xO {tb:List CT} {FT:List FI} (hT:TOk P K G tb FT) (n:Nat) {fi:FI} (hc:aS P fi.f) (hf:P.funcs[fi.f]? = some fi.fn) {args:List AT} {mem:List AB} {out:List Lf->T} (d:Nat) (ws:List Wy)
 (hr:∀ls,kj (aY (au args ls) (an mem (tls (aG args) ls))) (l6 0 mem.length)=true)
 (h:∀(ls:List Lf) (Q:Lv->Prop),bTs K d (au args ls)->bBs K d (an mem (tls (aG args) ls))->(out ls).sat Q->(VG ws (gR P ⟨K,G,M,inl P K G M tb FT n⟩ fi (au args ls) (an mem (tls (aG args) ls)))).sat (onA (upW K ws Q))):cV K P G ⟨fi.f,args,mem,out⟩:=by
 refine⟨hc,λls c w vs Q g1 g2 g3 g4=>?_⟩
 have b2:bBs K d (an mem (tls (aG args) ls)):=sT (c:=c) (w:=w) λi b e=>by
  have hi:i<mem.length:=by have:=(List.getElem?_eq_some_iff.1 e).1;rw[bF]at this;exact this
  have hd:Def c (aY (au args ls) (an mem (tls (aG args) ls))):=cX g2 _ _ _ (fF g3);obtain⟨id,hid⟩:=hd i (subN_iff.1 (hr ls) i (jH _ 0 i ac ac));exact⟨id,g2.kn i id b hid e⟩
 refine(jW (E:=⟨K,G,M,inl P K G M tb FT n⟩) ⟨hT.hK,hT.hG,zG hT n⟩ hT.mix hf (jL (h ls Q (kx g3) b2 g4)) g1.1 g1.2 g2 g3).mono λe w' ⟨v,he,m,y,hQ,c',k2,k3⟩=>?_;obtain⟨ps,l,e1,e2,e3⟩:=hQ;obtain⟨m',y',q1,q2,q3⟩:=uc e1 e2 e3 k2 k3;exact⟨v,he,m',y',q1,c',q2,q3⟩
def CS (f:FuncId) (args:List AT) (mem:List AB) (y:Wy) (Pr:List Lf->Prop) (W:List Lf->List Lf):CT:=⟨f,args,mem,λls=>.vc (Pr ls) (.done (uu y (W ls)))⟩
def CS0 (f:FuncId) (args:List AT) (mem:List AB) (y:Wy) (W:List Lf->List Lf):CT:=⟨f,args,mem,λls=>.done (uu y (W ls))⟩
def CB (f:FuncId) (args:List AT) (mem:List AB) (B:List Lf->Bool) (y1:Wy) (P1:List Lf->Prop) (W1:List Lf->List Lf) (y2:Wy) (P2:List Lf->Prop) (W2:List Lf->List Lf):CT:=⟨f,args,mem,λls=>.br (B ls) (.vc (P1 ls) (.done (uu y1 (W1 ls)))) (.vc (P2 ls) (.done (uu y2 (W2 ls))))⟩
theorem Oz {y:Wy} {Q:Lv->Prop} {l l':List Lf} (h:(hd l).Z=0) (ha:agW K y (tl l) l') (hQ:Q (uu y l')) {ws:List Wy}:upW K (y::ws) Q l:=⟨0,y,l',h,rfl,ha,hQ⟩
theorem aeL {y z:Wy} {Q:Lv->Prop} {l l':List Lf} (h:(hd l).Z=1) (ha:agW K y (tl l) l') (hQ:Q (uu y l')) {ws:List Wy}:upW K (z::y::ws) Q l:=⟨1,y,l',h,rfl,ha,hQ⟩
theorem dg {t:T} {R R':List Lf->Prop} (h:∀l,R l->R' l) (ht:t.sat (onA R)):t.sat (onA R'):=T.sat_mono (λo ho=>by
 cases o with
 |again l=>exact h l ho
 |_=>exact ho) ht
structure Sa (t:T) (R:List Lf->Prop):Prop where
 out:t.sat (onA R)
theorem Ti {tb:List CT} {FT:List FI} (hT:TOk P K G tb FT) (n:Nat) {fi:FI} (hc:aS P fi.f) (hf:P.funcs[fi.f]? = some fi.fn) {args:List AT} {mem:List AB} {y:Wy} {Pr:List Lf->Prop} {W:List Lf->List Lf} (d:Nat)
 (hr:∀ls,kj (aY (au args ls) (an mem (tls (aG args) ls))) (l6 0 mem.length)=true)
 (h:∀(ls:List Lf),bTs K d (au args ls)->bBs K d (an mem (tls (aG args) ls))->Pr ls->Sa (VG [y] (gR P ⟨K,G,M,inl P K G M tb FT n⟩ fi (au args ls) (an mem (tls (aG args) ls)))) (λl=>(hd l).Z=0/\agW K y (tl l) (W ls))):cV K P G (CS fi.f args mem y Pr W) :=
 xO hT n hc hf d [y] hr λls Q b1 b2 ⟨hP,hQ⟩=>dg (λl ⟨h1,h2⟩=>Oz h1 h2 hQ) (h ls b1 b2 hP).out
theorem Q4 {tb:List CT} {FT:List FI} (hT:TOk P K G tb FT) (n:Nat) {fi:FI} (hc:aS P fi.f) (hf:P.funcs[fi.f]? = some fi.fn) {args:List AT} {mem:List AB} {y:Wy} {W:List Lf->List Lf} (d:Nat)
 (hr:∀ls,kj (aY (au args ls) (an mem (tls (aG args) ls))) (l6 0 mem.length)=true)
 (h:∀(ls:List Lf),bTs K d (au args ls)->bBs K d (an mem (tls (aG args) ls))->Sa (VG [y] (gR P ⟨K,G,M,inl P K G M tb FT n⟩ fi (au args ls) (an mem (tls (aG args) ls)))) (λl=>(hd l).Z=0/\agW K y (tl l) (W ls))):cV K P G (CS0 fi.f args mem y W) :=
 xO hT n hc hf d [y] hr λls Q b1 b2 hQ=>dg (λl ⟨h1,h2⟩=>Oz h1 h2 hQ) (h ls b1 b2).out
theorem abz {tb:List CT} {FT:List FI} (hT:TOk P K G tb FT) (n:Nat) {fi:FI} (hc:aS P fi.f) (hf:P.funcs[fi.f]? = some fi.fn) {args:List AT} {mem:List AB} {B:List Lf->Bool} {y1:Wy} {P1:List Lf->Prop} {W1:List Lf->List Lf} {y2:Wy} {P2:List Lf->Prop} {W2:List Lf->List Lf} (d:Nat)
 (hr:∀ls,kj (aY (au args ls) (an mem (tls (aG args) ls))) (l6 0 mem.length)=true)
 (h:∀(ls:List Lf),bTs K d (au args ls)->bBs K d (an mem (tls (aG args) ls))->(B ls=true->P1 ls)->(B ls=false->P2 ls)->Sa (VG [y1,y2] (gR P ⟨K,G,M,inl P K G M tb FT n⟩ fi (au args ls) (an mem (tls (aG args) ls)))) (λl=>(B ls=true/\(hd l).Z=0/\agW K y1 (tl l) (W1 ls))\/(B ls=false/\(hd l).Z=1/\agW K y2 (tl l) (W2 ls)))):cV K P G (CB fi.f args mem B y1 P1 W1 y2 P2 W2) :=
 xO hT n hc hf d [y1,y2] hr λls Q b1 b2 hQ=>dg (λl hl=>by
  rcases hl with ⟨hB,h1,h2⟩ | ⟨hB,h1,h2⟩
  .exact Oz h1 h2 (hQ.1 hB).2
  .exact aeL h1 h2 (hQ.2 hB).2) (h ls b1 b2 (λe=>(hQ.1 e).1) (λe=>(hQ.2 e).1)).out
inductive Ev:T->Lv->Prop
 |done {o:Lv}:Ev (.done o) o
 |brT {b:Bool} {t e:T} {o:Lv} (h:b=true) (ht:Ev t o):Ev (.br b t e) o
 |brF {b:Bool} {t e:T} {o:Lv} (h:b=false) (ht:Ev e o):Ev (.br b t e) o
 |vc {p:Prop} {t:T} {o:Lv} (ht:Ev t o):Ev (.vc p t) o
 |again {s l:List Lf} {st:List Lf->T} {k:Lv->T} {o:Lv} (h:Ev (st s) (.again l)) (ht:Ev (.loop l st k) o):Ev (.loop s st k) o
 |out {s:List Lf} {st:List Lf->T} {k:Lv->T} {o o':Lv} (h:Ev (st s) o') (hn:∀l,o'≠.again l) (ht:Ev (k o') o):Ev (.loop s st k) o
 |joinA {t:T} {k:Lv->T} {l:List Lf} {o:Lv} (h:Ev t (.again l)) (ht:Ev (k (.again l)) o):Ev (.join t k) o
 |joinO {t:T} {k:Lv->T} {o o':Lv} (h:Ev t o') (hn:∀l,o'≠.again l) (ht:Ev (k o') o):Ev (.join t k) o
theorem Ev.det {t:T} {o:Lv} (h:Ev t o):∀ {o':Lv},Ev t o'->o=o':=by
 induction h with
 |done=>intro o' h';cases h';rfl
 |brT e _ ih =>
  intro o' h'
  cases h' with
  |brT _ g=>exact ih g
  |brF e' _=>rw[e]at e';cases e'
 |brF e _ ih =>
  intro o' h'
  cases h' with
  |brT e' _=>rw[e]at e';cases e'
  |brF _ g=>exact ih g
 |vc _ ih =>
  intro o' h'
  cases h' with
  |vc g=>exact ih g
 |again _ _ ih1 ih2 =>
  intro o' h'
  cases h' with
  |again g1 g2=>have:=ih1 g1;cases this;exact ih2 g2
  |out g1 g2 g3=>exact absurd (ih1 g1).symm (g2 _)
 |out _ hn _ ih1 ih2 =>
  intro o' h'
  cases h' with
  |again g1 g2=>exact absurd (ih1 g1) (hn _)
  |out g1 g2 g3=>have:=ih1 g1;subst this;exact ih2 g3
 |joinA _ _ ih1 ih2 =>
  intro o' h'
  cases h' with
  |joinA g1 g2=>have:=ih1 g1;cases this;exact ih2 g2
  |joinO g1 g2 g3=>exact absurd (ih1 g1).symm (g2 _)
 |joinO _ hn _ ih1 ih2 =>
  intro o' h'
  cases h' with
  |joinA g1 g2=>exact absurd (ih1 g1) (hn _)
  |joinO g1 g2 g3=>have:=ih1 g1;subst this;exact ih2 g3
def T.sat1:T->(Lv->Prop)->Prop
 |.done o,Q=>Q o
 |.br b t e,Q=>(b=true->t.sat1 Q)/\(b=false->e.sat1 Q)
 |.vc p t,Q=>p/\t.sat1 Q
 |.all _ _,_=>False
 |.loop s st k,Q=>∃(I:List Lf->Prop) (μ:List Lf->Nat),I s/\∀l,I l->(st l).sat1 λo=>match o with
  |.again l'=>I l'/\μ l'<μ l
  |o=>(k o).sat1 Q
 |.join t k,Q=>∃J:List Lf->Prop,(t.sat1 λo=>match o with
  |.again l=>J l
  |o=>(k o).sat1 Q)/\∀l,J l->(k (.again l)).sat1 Q
 |.fail,_=>False
structure Sa1 (t:T) (R:List Lf->Prop):Prop where
 out:t.sat1 (onA R)
theorem T.sat1_ev:∀ {t:T} {Q:Lv->Prop},t.sat1 Q->t.sat λo=>Ev t o/\Q o:=by
 intro t
 induction t with
 |done o=>intro Q h;exact⟨.done,h⟩
 |br b t e ih1 ih2 =>intro Q h;exact⟨λe=>T.sat_mono (λo ho=>⟨.brT e ho.1,ho.2⟩) (ih1 (h.1 e)),λe=>T.sat_mono (λo ho=>⟨.brF e ho.1,ho.2⟩) (ih2 (h.2 e))⟩
 |vc p t ih=>intro Q h;exact⟨h.1,T.sat_mono (λo ho=>⟨.vc ho.1,ho.2⟩) (ih h.2)⟩
 |all p t ih=>intro Q h;exact h.elim
 |loop s st k ih1 ih2 =>
  intro Q h;obtain⟨I,μ,h1,h2⟩:=h;refine⟨λl=>I l/\∀o,Ev (.loop l st k) o->Ev (.loop s st k) o,μ,⟨h1,λ_ e=>e⟩,λl hl=>?_⟩;refine T.sat_mono (λo ho=>?_) (ih1 l (h2 l hl.1));obtain⟨he,hq⟩:=ho
  cases o with
  |again l'=>exact⟨⟨hq.1,λo e=>hl.2 o (.again he e)⟩,hq.2⟩
  |_=>exact T.sat_mono (λo ho=>⟨hl.2 o (.out he (λl e=>by cases e) ho.1),ho.2⟩) (ih2 _ hq)
 |join t k ih1 ih2 =>
  intro Q h;unfold T.sat1 at h;obtain⟨J,h1,h2⟩:=h;unfold T.sat;refine⟨λl=>J l/\Ev t (.again l),T.sat_mono (λo ho=>?_) (ih1 h1),λl hl=>T.sat_mono (λo ho=>⟨.joinA hl.2 ho.1,ho.2⟩) (ih2 _ (h2 l hl.1))⟩;obtain⟨he,hq⟩:=ho
  cases o with
  |again l=>exact⟨hq,he⟩
  |_=>exact T.sat_mono (λo ho=>⟨.joinO he (λl e=>by cases e) ho.1,ho.2⟩) (ih2 _ hq)
 |fail=>intro Q h;exact h.elim
open Classical in
noncomputable def evW (t:T):List Lf:=if h:∃l,Ev t (.again l)then h.choose else[]
theorem T.sat1_W {t:T} {R:List Lf->Prop} (h:t.sat1 (onA R)):t.sat (onA λl=>l=evW t/\R l):=by
 refine T.sat_mono (λo ho=>?_) (T.sat1_ev h);obtain⟨he,hr⟩:=ho
 cases o with
 |again l =>refine⟨?_,hr⟩;have hx:∃l,Ev t (.again l):=⟨l,he⟩;unfold evW;rw[dif_pos hx];have:=Ev.det he hx.choose_spec;cases this;rfl
 |_=>exact hr
theorem DN:∀ {t:T} {Q:Lv->Prop},t.sat1 Q->∃o,Ev t o/\Q o:=by
 intro t
 induction t with
 |done o=>intro Q h;exact⟨o,.done,h⟩
 |br b t e ih1 ih2 =>
  intro Q h
  cases hb:b with
  |true=>obtain⟨o,h1,h2⟩:=ih1 (h.1 hb);exact⟨o,.brT rfl h1,h2⟩
  |false=>obtain⟨o,h1,h2⟩:=ih2 (h.2 hb);exact⟨o,.brF rfl h1,h2⟩
 |vc p t ih=>intro Q h;obtain⟨o,h1,h2⟩:=ih h.2;exact⟨o,.vc h1,h2⟩
 |all p t ih=>intro Q h;exact h.elim
 |loop s st k ih1 ih2 =>
  intro Q h;obtain⟨I,μ,h1,h2⟩:=h
  have key:∀n l,I l->μ l<n->∃o,Ev (.loop l st k) o/\Q o:=by
   intro n
   induction n with
   |zero=>intro l _ hn;omega
   |succ n ihn =>
    intro l hl hn;obtain⟨o,e1,e2⟩:=ih1 l (h2 l hl)
    cases o with
    |again l'=>obtain⟨o,g1,g2⟩:=ihn l' e2.1 (by have:=e2.2;omega);exact⟨o,.again e1 g1,g2⟩
    |_=>obtain⟨o,g1,g2⟩:=ih2 _ e2;exact⟨o,.out e1 (λl e=>by cases e) g1,g2⟩
  exact key (μ s+1) s h1 (Nat.lt_succ_self _)
 |join t k ih1 ih2 =>
  intro Q h;unfold T.sat1 at h;obtain⟨J,h1,h2⟩:=h;obtain⟨o,e1,e2⟩:=ih1 h1
  cases o with
  |again l=>obtain⟨o,g1,g2⟩:=ih2 _ (h2 l e2);exact⟨o,.joinA e1 g1,g2⟩
  |_=>obtain⟨o,g1,g2⟩:=ih2 _ e2;exact⟨o,.joinO e1 (λl e=>by cases e) g1,g2⟩
 |fail=>intro Q h;exact h.elim
theorem Jk {t:T} {R:List Lf->Prop} (h:t.sat1 (onA R)):R (evW t):=by
 obtain⟨o,h1,h2⟩:=DN h
 cases o with
 |again l =>have hx:∃l,Ev t (.again l):=⟨l,h1⟩;unfold evW;rw[dif_pos hx];have:=Ev.det h1 hx.choose_spec;cases this;exact h2
 |_=>exact h2.elim
theorem tE (x:AV) (l:Lf):agV K x l l:=by cases x<;>first|rfl | trivial | exact⟨rfl,rfl⟩ | exact⟨rfl,λ_ _=>rfl⟩
theorem fM:∀(r:Rs) (l:List Lf),mL K r l l
 |[],_=>trivial
 |.c y::r,l=>by
  unfold mL;simp only
  split
  .exact⟨tE _ _,fM _ _⟩
  .exact fM _ _
 |.a n k lo hi f::r,l=>⟨λ_ _=>rfl,fM _ _⟩
theorem iE:∀(s:List AS) (l:List Lf),agL K s l l
 |[],_=>trivial
 |x::s,l=>⟨by
  cases x with
  |sO x=>unfold agS;simp only;split;exact tE _ _;trivial
  |sA r=>exact fM _ _,iE s _⟩
theorem bI:∀(s:List AB) (l:List Lf),lV K s l l
 |[],_=>trivial
 |x::s,l=>⟨by
  cases x with
  |run ty r=>exact fM _ _
  |dyn ty κ a b n g fz=>exact⟨rfl,λ_ _=>rfl⟩
  |dead=>trivial,bI s _⟩
theorem aad {tb:List CT} {FT:List FI} (hT:TOk P K G tb FT) (n:Nat) {fi:FI} (hc:aS P fi.f) (hf:P.funcs[fi.f]? = some fi.fn) {args:List AT} {mem:List AB} {y:Wy} {Pr:List Lf->Prop} (d:Nat)
 (hr:∀ls,kj (aY (au args ls) (an mem (tls (aG args) ls))) (l6 0 mem.length)=true)
 (h:∀(ls:List Lf),bTs K d (au args ls)->bBs K d (an mem (tls (aG args) ls))->Pr ls->Sa1 (VG [y] (gR P ⟨K,G,M,inl P K G M tb FT n⟩ fi (au args ls) (an mem (tls (aG args) ls)))) (λl=>(hd l).Z=0)):cV K P G (CS fi.f args mem y Pr λls=>tl (evW (VG [y] (gR P ⟨K,G,M,inl P K G M tb FT n⟩ fi (au args ls) (an mem (tls (aG args) ls)))))) :=
 Ti hT n hc hf d hr λls b1 b2 hP=>⟨dg (λl ⟨h1,h2⟩=>⟨h2,by rw[h1];exact⟨iE _ _,bI _ _⟩⟩) (T.sat1_W (h ls b1 b2 hP).out)⟩
end
theorem Wj {F:(List Lf->Prop)->(List Lf->Nat)->List Lf->Prop} {s:List Lf} (n:Nat) (S:Nat->List Lf) (c:List Lf->Int) (hc:∀i,i<=n->c (S i)=i) (h0:s=S 0)
 (h:∀(I:List Lf->Prop) (μ:List Lf->Nat),(∀i l',i<n->l'=S (i+1)->Ag I μ (S i) l')->∀i,i<=n->F I μ (S i)):∃(I:List Lf->Prop) (μ:List Lf->Nat),I s/\∀l,I l->F I μ l:=by
 refine⟨λl=>∃i,i<=n/\l=S i,λl=>n-(c l).toNat,⟨0,Nat.zero_le _,h0⟩,?_⟩;rintro _ ⟨i,hi,rfl⟩;refine h _ _ (λi l' hin e=>⟨⟨i+1,hin,e⟩,?_⟩) i hi;subst e;show n-(c (S (i+1))).toNat<n-(c (S i)).toNat;have e1:=hc (i+1) ac;have e2:=hc i ac;omega
abbrev BR (b:Bool) (p q:Prop):Prop:=(b=true->p)/\(b=false->q)
end Go.Proofs.YtldmjbgplgoedaaGreatDoor
