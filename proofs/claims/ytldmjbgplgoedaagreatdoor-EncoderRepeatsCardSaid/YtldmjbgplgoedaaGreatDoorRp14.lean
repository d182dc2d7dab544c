import Derived.Test.YtldmjbgplgoedaaGreatDoorRp13
set_option linter.all false
namespace Go.Proofs.YtldmjbgplgoedaaGreatDoor
open Go.RowKit
abbrev Mt:=List Prop × List Lf
def mt0:Option (List Lf)->Option Mt
 |some l=>some ([],l)
 |none=>none
def lI (x y:AV):Option Mt:=match x,y with
 |.nI k lo hi _,.nI k' a b z=>match aJ (ik k k') (aJ (ile lo b) (ile a hi))with
  |true=>some (pfx (ile lo a) (lo<=z) (pfx (ile b hi) (z<=hi) []),[.i z])
  |false=>none
 |.nB f t _,.nB f' t' z=>match bor (aJ f f') (aJ t t')with
  |true=>some (pfx (imp f' f) (z=true) (pfx (imp t' t) (z=false) []),[.b z])
  |false=>none
 |.nR κ a b _ _,.nR κ' a' b' n g=>match aJ (Nat.beq κ κ') (aJ (Nat.ble a b') (Nat.ble a' b))with
  |true=>some (pfx (Nat.ble a a') (a<=n) (pfx (Nat.ble b' b) (n<=b) []),[.l n g])
  |false=>none
 |.nP j o,.nP j' o'=>match aJ (Nat.beq j j') (Nat.beq o o')with
  |true=>some ([],[])
  |false=>none
 |.nS j o n c,.nS j' o' n' c'=>match aJ (aJ (Nat.beq j j') (Nat.beq o o')) (aJ (Nat.beq n n') (Nat.beq c c'))with
  |true=>some ([],[])
  |false=>none
 |.nD j κ a b _ _,.nD j' κ' a' b' o n=>match aJ (aJ (Nat.beq j j') (Nat.beq κ κ')) (aJ (Nat.ble a b') (Nat.ble a' b))with
  |true=>some (pfx (Nat.ble a a') (a<=n) (pfx (Nat.ble b' b) (n<=b) []),[.s o n])
  |false=>none
 |.nX j κ d _,.nX j' κ' d' i=>match aJ (Nat.beq j j') (aJ (Nat.beq κ κ') (Nat.beq d d'))with
  |true=>some ([],[.s 0 i])
  |false=>none
 |.nQ κ d _,.nQ κ' d' ls=>match aJ (Nat.beq κ κ') (Nat.beq d d')with
  |true=>some ([],[.l 1 λ_=>ls])
  |false=>none
 |.nG g o,.nG g' o'=>match aJ (Nat.beq g g') (Nat.beq o o')with
  |true=>some ([],[])
  |false=>none
 |x,y=>mt0 (ml x y)
def wm:Option Mt->Option Mt->Option Mt
 |some (ps,a),y=>match y with
  |some (qs,b)=>some (ps++qs,a++b)
  |none=>none
 |none,_=>none
def dz:Rs->Rs->Option Mt
 |[],_=>some ([],[])
 |x::s,rs=>match x with
  |.c x=>wm (lI x (lT rs 0)) (dz s (bc rs 1))
  |.a n k lo hi _=>match uS rs n with
   |some A=>match ik k A.k with
    |true=>wm (some (pfx (aJ (ile lo A.lo) (ile A.hi hi)) (∀i,i<n->lo<=A.f i/\A.f i<=hi) [],[.f A.f])) (dz s (bc rs n))
    |false=>none
   |none=>none
def kO (s x:AS):Option Mt:=match s,x with
 |.sO a,.sO b=>lI a b
 |.sA a,.sA b=>match Nat.beq (aV a) (aV b)with
  |true=>dz a b
  |false=>none
 |_,_=>none
def nlV (x:AV):Nat:=match eU x with
 |true=>1
 |false=>0
def iD:Rs->Nat
 |[]=>0
 |x::l=>match x with
  |.c y=>Nat.add (nlV y) (iD l)
  |.a ..=>Nat.add 1 (iD l)
def nlS:AS->Nat
 |.sO x=>nlV x
 |.sA r=>iD r
def gM (x:AV) (ls:List Lf):AV:=match eU x with
 |true=>j5 x (hd ls)
 |false=>x
def kv (x:AS) (ls:List Lf):AS:=match x with
 |.sO x=>.sO (gM x ls)
 |.sA r=>.sA (ax r ls)
def tls:Nat->List Lf->List Lf
 |0,l=>l
 |n+1,l=>tls n (tl l)
def cF:List AS->List Lf->List AS
 |[],_=>[]
 |x::l,ls=>kv x ls::cF l (tls (nlS x) ls)
def nlL:List AS->Nat
 |[]=>0
 |x::l=>Nat.add (nlS x) (nlL l)
def gn:List AS->List AS->Option Mt
 |[],l=>match l with
  |[]=>some ([],[])
  |_::_=>none
 |x::s,l=>match l with
  |[]=>none
  |y::l=>wm (kO x y) (gn s l)
def nlT:AT->Nat
 |.tX s=>nlS s
 |.tF _ a b=>Nat.add (nlL a) (nlL b)
 |_=>0
def tg (x:AT) (ls:List Lf):AT:=match x with
 |.tX s=>.tX (kv s ls)
 |.tF f a b=>.tF f (cF a ls) (cF b (tls (nlL a) ls))
 |_=>.tA
def lJ (s x:AT):Option Mt:=match s,x with
 |.tX a,.tX b=>kO a b
 |.tF f a b,.tF f' a' b'=>match Nat.beq f f' with
  |true=>wm (gn a a') (gn b b')
  |false=>none
 |.tA,_=>some ([],[])
 |_,_=>none
def nlB:AB->Nat
 |.run _ rs=>iD rs
 |.dyn ..=>1
 |.dead=>0
def cH (b:AB) (ls:List Lf):AB:=match b with
 |.run ty rs=>.run ty (ax rs ls)
 |.dyn ty κ x y _ _ fz=>.dyn ty κ x y (hd ls).N (hd ls).G fz
 |.dead=>.dead
def BX (a b:Bool):Bool:=match a with
 |true=>b
 |false=>match b with
  |true=>false
  |false=>true
def oY (s b:AB):Option Mt:=match s,b with
 |.run ty a,.run ty' b=>match aJ (Nat.beq ty ty') (Nat.beq (aV a) (aV b))with
  |true=>dz a b
  |false=>none
 |.dyn ty κ x y _ _ fz,.dyn ty' κ' x' y' n g fz'=>match aJ (aJ (Nat.beq ty ty') (Nat.beq κ κ')) (BX fz fz')with
  |true=>some (pfx (Nat.ble x x') (x<=n) (pfx (Nat.ble y' y) (n<=y) []),[.l n g])
  |false=>none
 |.dead,_=>some ([],[])
 |_,_=>none
def tK:List (Nat × AT)->List Lf->T3->T3
 |[],_,t=>t
 |x::l,ls,t=>tK l (tls (nlT x.2) ls) (t.set x.1 (tg x.2 ls))
def an:List AB->List Lf->List AB
 |[],_=>[]
 |b::l,ls=>cH b ls::an l (tls (nlB b) ls)
def aa8:List (Nat × AT)->Nat
 |[]=>0
 |x::l=>Nat.add (nlT x.2) (aa8 l)
def gU:List (Nat × AT)->List AT->Option Mt
 |[],l=>match l with
  |[]=>some ([],[])
  |_::_=>none
 |x::s,l=>match l with
  |[]=>none
  |y::l=>wm (lJ x.2 y) (gU s l)
def dv:List AB->List AB->Option Mt
 |[],l=>match l with
  |[]=>some ([],[])
  |_::_=>none
 |x::s,l=>match l with
  |[]=>none
  |y::l=>wm (oY x y) (dv s l)
structure LH where
 sl:List (Nat × AT)
 mem:List AB
 mv:List Nat:=[]
def LH.st (h:LH) (ls:List Lf):ASt:=⟨tK h.sl ls T3.no,an h.mem (tls (aa8 h.sl) ls)⟩
def Eh (tm:T3):List (Nat × AT)->List AT
 |[]=>[]
 |x::l=>tm.get x.1::Eh tm l
def l6:Nat->Nat->List Nat
 |_,0=>[]
 |i,n+1=>i::l6 (i+1) n
def DX:Nat->Nat->List Nat->Bool
 |_,0,_=>true
 |i,n+1,l=>match l with
  |x::l=>aJ (Nat.beq x i) (DX (i+1) n l)
  |[]=>false
def mQ (mem:List AB) (l:List Nat):List Nat->Bool
 |[]=>true
 |j::m=>aJ (match be mem j with
  |some (.run _ rs)=>kj l (cO [] rs)
  |some _=>true
  |none=>false) (mQ mem l m)
def mvF (j p:Nat) (x:Nat):Nat:=match Nat.beq x j with
 |true=>p
 |false=>x
def mvB (j:Nat) (args:List AT) (mem:List AB):List AT × List AB:=match be mem j with
 |some (.dyn ty κ a b n g false)=>(vt (mvF j mem.length) args,eC (mvF j mem.length) (((mem++[AB.dead]).set j .dead).set mem.length (.dyn ty κ a b n g false)))
 |_=>(args,mem)
def mvBs:List Nat->List AT->List AB->List AT × List AB
 |[],args,mem=>(args,mem)
 |j::l,args,mem=>match mvB j args mem with
  |(args,mem)=>mvBs l args mem
def rebase (L0:Nat) (args:List AT) (mem:List AB):Option (List AT × List AB) :=
 match dM mem 64 0 (du (l6 0 L0) args)with
 |σ=>match aJ (kX σ) (aJ (DX 0 L0 σ) (aJ (kj σ (du [] args)) (mQ mem σ σ)))with
  |true=>some (vt (wM σ) args,eC (wM σ) (pick mem σ))
  |false=>none
def rebaseM (mv:List Nat) (L0:Nat) (args:List AT) (mem:List AB):Option (List AT × List AB):=match mvBs mv args mem with
 |(args,mem)=>rebase L0 args mem
def LH.of (L0:Nat) (h:LH) (st:ASt):Option Mt:=match rebaseM h.mv L0 (Eh st.tm h.sl) st.mem with
 |some (args,mem)=>wm (gU h.sl args) (dv h.mem mem)
 |none=>none
inductive LS where
 |unroll (n:Nat)
 |head (h:LH)
 |heads (hs:List LH)
 |sel (t:Nat) (l:List (Int × LH))
def iW (L0:Nat):List LH->Nat->ASt->Option Mt
 |[],_,_=>none
 |h::l,i,st=>match h.of L0 st with
  |some (ps,ls)=>some (ps,.i (Int.ofNat i)::ls)
  |none=>iW L0 l (Nat.add i 1) st
def EL (f:LH->T):List LH->Nat->List Lf->T
 |[],_,_=>.fail
 |h::l,i,ls=>.br (decide ((hd ls).Z=Int.ofNat i)) (f h) (EL f l (Nat.add i 1) ls)
def JV:Code->Option Nat
 |.region id _ _=>some id
 |.seq a b=>match JV a with
  |some k=>some k
  |none=>JV b
 |.cond _ a b=>match JV a with
  |some k=>some k
  |none=>JV b
 |.block _ c=>JV c
 |.loop c=>JV c
 |.scope c=>JV c
 |_=>none
def zn:List (Nat × LS)->Nat->LS
 |[],_=>.unroll 70
 |(u,r)::l,t=>match Nat.beq u t with
  |true=>r
  |false=>zn l t
def ae8 (l:List (Nat × LS)) (c:Code):LS:=match JV c with
 |some k=>zn l k
 |none=>.unroll 70
def U1:List (Int × LH)->Int->LS
 |[],_=>.unroll 0
 |x::l,z=>match ieq x.1 z with
  |true=>.head x.2
  |false=>U1 l z
def LS.at (s:LS) (st:ASt):LS:=match s with
 |.sel t l=>match st.get t with
  |.tX (.sO (.nI _ a b _))=>match ieq a b with
   |true=>U1 l a
   |false=>.unroll 0
  |_=>.unroll 0
 |s=>s
def oq (body:ASt->T):Nat->ASt->T
 |0,_=>.fail
 |n+1,st=>(body st).onNorm (oq body n)
def UB (q:Operand) (x:Bool) (st:ASt):ASt:=match q with
 |.tmp t=>⟨st.tm.set t (.tX (.sO (ofB x))),st.mem⟩
 |_=>st
structure FX where
 N:Nat
 L0:Nat
 ls:List (Nat × LS)
def qk (X:FX) (st:ASt) (key:Nat) (t:T):T:=match (zn X.ls key).at st with
 |.unroll _=>t
 |.head h=>.join (t.bind λo=>match o with
  |.norm s=>match h.of X.L0 s with
   |some (ps,ls)=>vcs ps (.done (.again ls))
   |none=>.fail
  |.again _=>.fail
  |o=>.done o) λo=>match o with
  |.again ls=>.done (.norm (h.st ls))
  |o=>.done o
 |.heads hs=>.join (t.bind λo=>match o with
  |.norm s=>match iW X.L0 hs 0 s with
   |some (ps,ls)=>vcs ps (.done (.again ls))
   |none=>.fail
  |.again _=>.fail
  |o=>.done o) λo=>match o with
  |.again ls=>EL (λh=>.done (.norm (h.st (tl ls)))) hs 0 ls
  |o=>.done o
 |.sel _ _=>t
def M6 (q:Operand):Nat:=match q with
 |.tmp t=>Nat.add 10000 t
 |_=>10000
def bk (P:Program) (E:EN) (X:FX):Code->ASt->T
 |.skip,st=>.done (.norm st)
 |.label _,st=>.done (.norm st)
 |.region id ops d,st=>qk X st (Nat.add 20000 id) (match d with
  |false=>tB P E X.N ops ops.toList st
  |true=>ss P E X.N ops st)
 |.seq a b,st=>(bk P E X a st).onNorm (bk P E X b)
 |.cond c a b,st=>match evg E.G st.tm c with
  |.tX (.sO (.nB f t x))=>match f,t with
   |false,_=>bk P E X a (UB c true st)
   |true,false=>bk P E X b (UB c false st)
   |true,true=>qk X st (M6 c) (.br x (bk P E X a (UB c true st)) (bk P E X b (UB c false st)))
  |_=>.fail
 |.block id c,st=>qk X st (Nat.add 30000 id) ((bk P E X c st).bind λo=>match o with
  |.exit i s=>match Nat.beq i id with
   |true=>.done (.norm s)
   |false=>.done (.exit i s)
  |o=>.done o)
 |.loop c,st=>match (ae8 X.ls c).at st with
  |.unroll n=>oq (bk P E X c) n st
  |.head h=>match h.of X.L0 st with
   |some (ps0,ls0)=>vcs ps0 (.loop ls0 (λls=>(bk P E X c (h.st ls)).bind λo=>match o with
    |.norm s=>match h.of X.L0 s with
     |some (ps,ls')=>vcs ps (.done (.again ls'))
     |none=>.fail
    |.again _=>.fail
    |o=>.done o) (λo=>.done o))
   |none=>.fail
  |.heads hs=>match iW X.L0 hs 0 st with
   |some (ps0,ls0)=>vcs ps0 (.loop ls0 (λls=>EL (λh=>(bk P E X c (h.st (tl ls))).bind λo=>match o with
    |.norm s=>match iW X.L0 hs 0 s with
     |some (ps,ls')=>vcs ps (.done (.again ls'))
     |none=>.fail
    |.again _=>.fail
    |o=>.done o) hs 0 ls) (λo=>.done o))
   |none=>.fail
  |.sel _ _=>.fail
 |.exit id,st=>.done (.exit id st)
 |.scope c,st=>bk P E X c st
 |.ret,st=>.done (.ret st)
 |_,_=>.fail
section
variable {P:Program} {E:EN} {K:KT} {w0 w w':World} {c0 c c':Cx} {N:Nat} {st:ASt} {a:Act} {mem mem':List AB} {X:FX}
theorem kC (p:Nat->Prop) (h:∃n,p n):∃n,p n/\∀k,p k->n<=k:=by
 obtain⟨n,hn⟩:=h
 induction n using Nat.strongRecOn with
 |_ n ih =>
  by_cases hk:∃k,k<n/\p k
  .obtain⟨k,h1,h2⟩:=hk;exact ih k h1 h2
  .exact⟨n,hn,λk hp=>Nat.le_of_not_lt λhl=>hk ⟨k,hl,hp⟩⟩
theorem yO {Y:Type} (I:Y->Act->World->Prop) (m:Y->Nat) {c:Code} {Q:Exit->Act->World->Prop} {a:Act} {w:World} (x0:Y) (h0:I x0 a w)
 (round:∀x a w,I x a w->c.wp P (Exit.then (λa' w'=>∃y,I y a' w'/\m y<m x) Q) a w):(Code.loop c).wp P Q a w:=by
 let p:Act->World->Nat->Prop:=λa w n=>∃x,I x a w/\m x=n
 have hp:∀ {a:Act} {w:World},(∃x,I x a w)->∃n,p a w n:=λ⟨x,h⟩=>⟨_,x,h,rfl⟩
 let μ:Act->World->Nat:=λa w=>@dite _ (∃n,p a w n) (Classical.propDecidable _) (λh=>(kC _ h).choose) λ_=>0
 have hμ:∀ {a:Act} {w:World},(∃x,I x a w)->p a w (μ a w)/\∀k,p a w k->μ a w<=k:=λ{a w} h=>by have e:μ a w=(kC _ (hp h)).choose:=dif_pos (hp h);rw[e];exact(kC _ (hp h)).choose_spec
 refine wp_loop (λa w=>∃x,I x a w) μ ⟨x0,h0⟩ λa w hI=>?_;obtain⟨⟨x,hx,e⟩,-⟩:=hμ hI;refine wp_mono (round x a w hx) λe' a' w' h=>?_
 cases e' with
 |normal =>obtain⟨y,hy,hl⟩:=h;refine⟨⟨y,hy⟩,Nat.lt_of_le_of_lt ((hμ ⟨y,hy⟩).2 _ ⟨y,hy,rfl⟩) ?_⟩;rw[<-e];exact hl
 |_=>exact h
theorem aM:∀ {l m:List Prop},bC (l++m)↔bC l/\bC m
 |[],m=>by simp[bC]
 |p::l,m=>by simp only[List.cons_append,bC,aM (l:=l),and_assoc]
theorem bY {b:Bool} {p:Prop} {l:List Prop}:bC (pfx b p l)↔(b=true\/p)/\bC l:=by cases b<;>simp[pfx,bC]
theorem aW {x y:Option Mt} {ps:List Prop} {ls:List Lf} (h:wm x y=some (ps,ls)):∃p a q b,x=some (p,a)/\y=some (q,b)/\ps=p++q/\ls=a++b:=by
 unfold wm at h
 split at h
 .split at h
  .cases h;exact⟨_,_,_,_,rfl,rfl,rfl,rfl⟩
  .cases h
 .cases h
theorem iV {x y:AV} {ps:List Prop} {ls:List Lf} (h:lI x y=some (ps,ls)):ls.length=nlV x:=by
 have one:∀ {x y:AV} {ls:List Lf},ml x y=some ls->ls.length=nlV x:=λ{x y ls} h=>by
  unfold ml at h
  split at h<;>try (cases h;done)
  all_goals first
   |(cases h;rfl)
   |(split at h<;>first|(cases h;done) | (cases h;rfl))
 unfold lI at h
 split at h<;>first
  |(cases h;rfl)
  |(split at h<;>first|(cases h;done) | (cases h;rfl))
  |skip
 unfold mt0 at h
 split at h
 .rename_i e;cases h;exact one e
 .cases h
theorem pS {x y:AV} {ps:List Prop} {ls:List Lf} {v:Value} (h:lI x y=some (ps,ls)) (hp:bC ps) (hy:y.is K c v):∀ex,(gM x (ls++ex)).is K c v:=by
 unfold lI at h
 split at h
 .rename_i k lo hi _ k' a b z
  split at h
  .rename_i e;cases h;have:=dD (both_iff.1 e).1;subst this;rw[bY,bY]at hp;obtain⟨h1,h2,h3,h4⟩:=is_I.1 hy;refine λex=>is_I.2 ⟨h1,?_,?_,h4⟩
   .rcases hp.1 with e | e
    .have:=ile_iff.1 e;simp only[List.cons_append,hd,Lf.Z];omega
    .exact e
   .rcases hp.2.1 with e | e
    .have:=ile_iff.1 e;simp only[List.cons_append,hd,Lf.Z];omega
    .exact e
  .cases h
 .rename_i f t _ f' t' z
  split at h
  .cases h;rw[bY,bY]at hp;obtain⟨h1,h2,h3⟩:=is_B.1 hy;refine λex=>is_B.2 ⟨h1,λq=>?_,λq=>?_⟩
   .have q:z=false:=q;rcases hp.1 with e | e
    .exact imp_iff.1 e (h2 q)
    .rw[q]at e;cases e
   .have q:z=true:=q;rcases hp.2.1 with e | e
    .exact imp_iff.1 e (h3 q)
    .rw[q]at e;cases e
  .cases h
 .rename_i κ a b _ _ κ' a' b' n g
  split at h
  .rename_i e;cases h;have:=beq_iff'.1 (both_iff.1 e).1;subst this;rw[bY,bY]at hp;obtain⟨A,m,h1,h2,h3,h4⟩:=is_R.1 hy;refine λex=>is_R.2 ⟨A,m,h1,?_,?_,h4⟩
   .rcases hp.1 with e | e
    .have:=ble_iff.1 e;simp only[List.cons_append,hd,Lf.N];omega
    .exact e
   .rcases hp.2.1 with e | e
    .have:=ble_iff.1 e;simp only[List.cons_append,hd,Lf.N];omega
    .exact e
  .cases h
 .split at h
  .rename_i e;rw[both_iff]at e;cases h;obtain⟨id,h1,h2⟩:=is_P.1 hy;exact λex=>is_P.2 ⟨id,by rw[beq_iff'.1 e.1];exact h1,by rw[beq_iff'.1 e.2];exact h2⟩
  .cases h
 .split at h
  .rename_i e;rw[both_iff,both_iff,both_iff]at e;cases h;obtain⟨id,h1,h2⟩:=is_S.1 hy;exact λex=>is_S.2 ⟨id,by rw[beq_iff'.1 e.1.1];exact h1,by rw[beq_iff'.1 e.1.2,beq_iff'.1 e.2.1,beq_iff'.1 e.2.2];exact h2⟩
  .cases h
 .rename_i j κ a b _ _ j' κ' a' b' o n
  split at h
  .rename_i e;rw[both_iff,both_iff]at e;cases h;obtain⟨⟨e1,e2⟩,-⟩:=e;have e1:=beq_iff'.1 e1;have e2:=beq_iff'.1 e2;subst e1 e2;rw[bY,bY]at hp;obtain⟨id,m,h1,h2,h3,h4,h5⟩:=is_D.1 hy;refine λex=>is_D.2 ⟨id,m,h1,h2,?_,?_,h5⟩
   .rcases hp.1 with e | e
    .have:=ble_iff.1 e;simp only[List.cons_append,List.nil_append,hd,Lf.N];omega
    .exact e
   .rcases hp.2.1 with e | e
    .have:=ble_iff.1 e;simp only[List.cons_append,List.nil_append,hd,Lf.N];omega
    .exact e
  .cases h
 .rename_i j κ d _ j' κ' d' i
  split at h
  .rename_i e;rw[both_iff,both_iff]at e;cases h;obtain⟨id,h1,h2⟩:=is_X.1 hy;have e1:=beq_iff'.1 e.1;have e2:=beq_iff'.1 e.2.1;have e3:=beq_iff'.1 e.2.2;subst e1 e2 e3;exact λex=>is_X.2 ⟨id,h1,h2⟩
  .cases h
 .rename_i κ d _ κ' d' l
  split at h
  .rename_i e;rw[both_iff]at e;cases h;have e1:=beq_iff'.1 e.1;have e2:=beq_iff'.1 e.2;subst e1 e2;exact λex=>hy
  .cases h
 .rename_i g o g' o'
  split at h
  .rename_i e;rw[both_iff]at e;cases h;have e1:=beq_iff'.1 e.1;have e2:=beq_iff'.1 e.2;subst e1 e2;exact λex=>hy
  .cases h
 .unfold mt0 at h
  split at h
  .rename_i e;cases h;rcases oQ e hy with ⟨q1,l,rfl,q2⟩ | ⟨q1,rfl,q2⟩
   .exact λex=>by unfold gM;rw[q1];exact q2
   .exact λex=>by unfold gM;rw[q1];exact q2
  .cases h
theorem mI {x:AV} {s:Rs} {ls:List Lf}:ax (.c x::s) ls=.c (gM x ls)::ax s (tls (nlV x) ls):=by
 conv=>lhs;unfold ax
 unfold gM nlV;cases h:eU x<;>simp only[h]<;>rfl
theorem bv {l:List Lf} {n:Nat} (m:List Lf) (h:l.length=n):tls n (l++m)=m:=by
 subst h
 induction l with
 |nil=>rfl
 |cons x l ih=>exact ih
theorem dX:∀ {s rs:Rs} {ps:List Prop} {ls:List Lf},dz s rs=some (ps,ls)->ls.length=iD s
 |[],rs,ps,ls,h=>by cases h;rfl
 |.c x::s,rs,ps,ls,h=>by unfold dz at h;simp only at h;obtain⟨p,a,q,b,h1,h2,-,rfl⟩:=aW h;rw[List.length_append,iV h1,dX h2];rfl
 |.a n k lo hi f::s,rs,ps,ls,h=>by
  unfold dz at h;simp only at h
  split at h
  .split at h
   .obtain⟨p,a,q,b,h1,h2,-,rfl⟩:=aW h;cases h1;rw[List.length_append,dX h2];rfl
   .cases h
  .cases h
theorem gc:∀(s rs:Rs) (ps:List Prop) (ls:List Lf) (vs:List Value),dz s rs=some (ps,ls)->bC ps->RsOk K c rs vs->aV s=aV rs->∀ex,RsOk K c (ax s (ls++ex)) vs
 |[],rs,ps,ls,vs,h,hp,hr,hl=>by
  cases h;have:vs=[]:=List.eq_nil_of_length_eq_zero (by rw[hr.1,<-hl];rfl)
  subst this;exact λex=>RsOk.nil
 |.c x::s,rs,ps,ls,vs,h,hp,hr,hl=>by
  unfold dz at h;simp only at h;simp only[aV,bi]at hl;obtain⟨p,a,q,b,h1,h2,rfl,rfl⟩:=aW h;rw[aM]at hp;have hlt:0<vs.length:=by rw[hr.1];omega
  have hv:=List.getElem?_eq_getElem hlt;have g2:=gc s (bc rs 1) q b (vs.drop 1) h2 hp.2 (hr.drop 1) (by rw[bt];omega)
  have hvs:vs=vs[0]::vs.drop 1:=by
   conv=>lhs;rw[<-List.take_append_drop 1 vs]
   rw[List.take_one,List.head?_eq_getElem?,hv];rfl
  have q2:=pS h1 hp.1 (hr.get hv);refine λex=>?_;rw[mI,List.append_assoc,bv _ (iV h1),hvs];exact(RsOk.one (q2 _)).append (g2 ex)
 |.a n k lo hi f::s,rs,ps,ls,vs,h,hp,hr,hl=>by
  unfold dz at h;simp only at h;simp only[aV,bi]at hl
  split at h
  .rename_i A h1
   split at h
   .rename_i e;obtain⟨p,a,q,b,h1',h2,rfl,rfl⟩:=aW h;cases h1';rw[aM,bY]at hp;have:=dD e;subst this;obtain⟨q1,q2⟩:=dc h1 hr;have g2:=gc s (bc rs n) q b (vs.drop n) h2 hp.2 (hr.drop n) (by rw[bt];omega)
    refine λex=>?_;unfold ax;simp only[List.cons_append,List.nil_append,hd,tl,Lf.F];rw[<-List.take_append_drop n vs];refine RsOk.append (rs:=[_]) (RsOk.ints (by rw[List.length_take];omega) λi hi=>?_) (g2 ex)
    obtain⟨r1,r2,r3,r4⟩:=q2 i hi;rw[List.getElem?_take,if_pos hi];rcases hp.1.1 with e | e
    .rw[both_iff]at e;have e2:=ile_iff.1 e.1;have e3:=ile_iff.1 e.2;exact⟨r1,ac,ac,r4⟩
    .exact⟨r1,(e i hi).1,(e i hi).2,r4⟩
   .cases h
  .cases h
theorem fS {s x:AS} {ps:List Prop} {ls:List Lf} (h:kO s x=some (ps,ls)):ls.length=nlS s:=by
 unfold kO at h
 split at h
 .exact iV h
 .split at h
  .exact dX h
  .cases h
 .cases h
theorem kq {s x:AS} {ps:List Prop} {ls:List Lf} {v:Value} (h:kO s x=some (ps,ls)) (hp:bC ps) (hx:x.is K c v):∀ex,(kv s (ls++ex)).is K c v:=by
 unfold kO at h
 split at h
 .exact pS h hp hx
 .split at h
  .rename_i e;obtain⟨vs,rfl,hv⟩:=hx;have q2:=gc _ _ _ _ vs h hp hv (beq_iff'.1 e);exact λex=>⟨vs,rfl,q2 ex⟩
  .cases h
 .cases h
theorem dT:∀ {s l:List AS} {ps:List Prop} {ls:List Lf},gn s l=some (ps,ls)->ls.length=nlL s
 |[],l,ps,ls,h=>by
  unfold gn at h
  split at h
  .cases h;rfl
  .cases h
 |x::s,l,ps,ls,h=>by
  unfold gn at h
  split at h
  .cases h
  .obtain⟨p,a,q,b,h1,h2,-,rfl⟩:=aW h;rw[List.length_append,fS h1,dT h2];rfl
theorem iG:∀ {s l:List AS} {ps:List Prop} {ls:List Lf} {vs:List Value},gn s l=some (ps,ls)->bC ps->allIs K c l vs->∀ex,allIs K c (cF s (ls++ex)) vs
 |[],l,ps,ls,vs,h,hp,hx=>by
  unfold gn at h
  split at h
  .cases h;exact λex=>hx
  .cases h
 |x::s,l,ps,ls,vs,h,hp,hx=>by
  unfold gn at h
  split at h
  .cases h
  .obtain⟨p,a,q,b,h1,h2,rfl,rfl⟩:=aW h;rw[aM]at hp
   cases vs with
   |nil=>have:=hx.1;simp at this
   |cons v vs =>rw[allIs_cons]at hx;refine λex=>?_;unfold cF;rw[List.append_assoc,bv _ (fS h1)];exact allIs_cons.2 ⟨kq h1 hp.1 hx.1 _,iG h2 hp.2 hx.2 ex⟩
theorem f8 {s x:AT} {ps:List Prop} {ls:List Lf} (h:lJ s x=some (ps,ls)):ls.length=nlT s:=by
 unfold lJ at h
 split at h
 .exact fS h
 .split at h
  .obtain⟨p,a,q,b,h1,h2,-,rfl⟩:=aW h;rw[List.length_append,dT h1,dT h2];rfl
  .cases h
 .cases h;rfl
 .cases h
theorem qL {s x:AT} {ps:List Prop} {ls:List Lf} {v:Value} (h:lJ s x=some (ps,ls)) (hp:bC ps) (hx:x.is K c v):∀ex,(tg s (ls++ex)).is K c v:=by
 unfold lJ at h
 split at h
 .exact kq h hp hx
 .split at h
  .rename_i e;obtain⟨p,a,q,b,h1,h2,rfl,rfl⟩:=aW h;rw[aM]at hp;obtain⟨vs,us,rfl,h3,h4⟩:=hx;refine λex=>?_;have:=beq_iff'.1 e;subst this;unfold tg;rw[List.append_assoc];simp only;rw[bv _ (dT h1)];exact⟨vs,us,rfl,iG h1 hp.1 h3 _,iG h2 hp.2 h4 ex⟩
  .cases h
 .cases h;exact λex=>trivial
 .cases h
theorem Du {a b:Bool} (h:BX a b=true):a=b:=by cases a<;>cases b<;>first|rfl | cases h
theorem uM {s b:AB} {ps:List Prop} {ls:List Lf} (h:oY s b=some (ps,ls)):ls.length=nlB s:=by
 unfold oY at h
 split at h
 .split at h
  .exact dX h
  .cases h
 .split at h
  .cases h;rfl
  .cases h
 .cases h;rfl
 .cases h
theorem yq {s b:AB} {ps:List Prop} {ls:List Lf} {id:Nat} (h:oY s b=some (ps,ls)) (hp:bC ps) (hb:abOk K c w id b):(fQ s=true->fQ b=true)/\∀ex,abOk K c w id (cH s (ls++ex))/\fQ (cH s (ls++ex))=fQ s:=by
 unfold oY at h
 split at h
 .split at h
  .rename_i e;rw[both_iff]at e;have e1:=beq_iff'.1 e.1;subst e1;obtain⟨h1,cs,h2,h3⟩:=hb;have q2:=gc _ _ _ _ _ h hp h3 (beq_iff'.1 e.2);exact⟨λ_=>rfl,λex=>⟨⟨h1,cs,h2,q2 ex⟩,rfl⟩⟩
  .cases h
 .rename_i ty κ x y _ _ fz ty' κ' x' y' n g fz'
  split at h
  .rename_i e;cases h;rw[both_iff,both_iff]at e;obtain⟨⟨e1,e2⟩,e3⟩:=e;have e1:=beq_iff'.1 e1;have e2:=beq_iff'.1 e2;have e3:=Du e3;subst e1 e2 e3;rw[bY,bY]at hp;obtain⟨h1,h2,h3⟩:=hb;refine⟨λ_=>rfl,λex=>⟨⟨?_,?_,h3⟩,rfl⟩⟩
   .rcases hp.1 with e | e
    .have:=ble_iff.1 e;simp only[List.cons_append,hd,Lf.N];omega
    .exact e
   .rcases hp.2.1 with e | e
    .have:=ble_iff.1 e;simp only[List.cons_append,hd,Lf.N];omega
    .exact e
  .cases h
 .cases h;exact⟨(λh=>by cases h),λex=>⟨trivial,rfl⟩⟩
 .cases h
theorem jU:∀ {s:List (Nat × AT)} {l:List AT} {ps:List Prop} {ls:List Lf},gU s l=some (ps,ls)->ls.length=aa8 s
 |[],l,ps,ls,h=>by
  unfold gU at h
  split at h
  .cases h;rfl
  .cases h
 |x::s,l,ps,ls,h=>by
  unfold gU at h
  split at h
  .cases h
  .obtain⟨p,a,q,b,h1,h2,-,rfl⟩:=aW h;rw[List.length_append,f8 h1,jU h2];rfl
def ud (a:Act):List (Nat × AT)->List Value
 |[]=>[]
 |x::l=>a.tmps.getD x.1 undef::ud a l
theorem afM:∀ {s:List (Nat × AT)} {l:List AT} {ps:List Prop} {ls:List Lf},gU s l=some (ps,ls)->bC ps->allAt K c l (ud a s)->∀ex (tm:T3),(∀u,(tm.get u).is K c (a.tmps.getD u undef))->∀u,((tK s (ls++ex) tm).get u).is K c (a.tmps.getD u undef)
 |[],l,ps,ls,h,hp,hx,ex,tm,ht,u=>ht u
 |x::s,l,ps,ls,h,hp,hx,ex,tm,ht,u=>by
  unfold gU at h
  split at h
  .cases h
  .obtain⟨p,a,q,b,h1,h2,rfl,rfl⟩:=aW h;rw[aM]at hp;rw[ud,allAt_cons]at hx;have q2:=qL h1 hp.1 hx.1;unfold tK;rw[List.append_assoc,bv _ (f8 h1)];refine afM h2 hp.2 hx.2 ex _ (λu=>?_) u;rw[T3.get_set]
   split
   .rename_i e;rw[<-e.1];exact q2 _
   .exact ht u
theorem tV {tm:T3} (h:∀u,(tm.get u).is K c (a.tmps.getD u undef)):∀s:List (Nat × AT),allAt K c (Eh tm s) (ud a s)
 |[]=>⟨rfl,λ_ _ _ e=>by simp[Eh]at e⟩
 |x::s=>allAt_cons.2 ⟨h x.1,tV h s⟩
theorem FH:∀ {s l:List AB} {ps:List Prop} {ls:List Lf},dv s l=some (ps,ls)->s.length=l.length
 |[],l,ps,ls,h=>by
  unfold dv at h
  split at h
  .rfl
  .cases h
 |x::s,l,ps,ls,h=>by
  unfold dv at h
  split at h
  .cases h
  .obtain⟨p,a,q,b,h1,h2,-,rfl⟩:=aW h;rw[List.length_cons,List.length_cons,FH h2]
theorem fZ:∀ {s l:List AB} {ps:List Prop} {ls:List Lf},dv s l=some (ps,ls)->bC ps->∀ex (i:Nat) (b':AB),(an s (ls++ex))[i]? = some b'->∃b,l[i]? = some b/\∀id,abOk K c w id b->(fQ b'=true->fQ b=true)/\abOk K c w id b'
 |[],l,ps,ls,h,hp,ex,i,b',hb=>by simp[an]at hb
 |x::s,l,ps,ls,h,hp,ex,i,b',hb=>by
  unfold dv at h
  split at h
  .cases h
  .rename_i y l;obtain⟨p,a,q,b,h1,h2,rfl,rfl⟩:=aW h;rw[aM]at hp;unfold an at hb;rw[List.append_assoc,bv _ (uM h1)]at hb
   cases i with
   |zero =>simp only[List.getElem?_cons_zero,Option.some.injEq]at hb;subst hb;refine⟨y,rfl,λid hy=>?_⟩;obtain⟨q2,q3⟩:=yq h1 hp.1 hy;obtain⟨g1,g2⟩:=q3 (b++ex);exact⟨λe=>q2 (by rw[<-g2];exact e),g1⟩
   |succ i =>simp only[List.getElem?_cons_succ]at hb;obtain⟨b,g1,g2⟩:=fZ h2 hp.2 ex i b' hb;exact⟨b,by simpa using g1,g2⟩
theorem bF:∀(s:List AB) (ls:List Lf),(an s ls).length=s.length
 |[],_=>rfl
 |b::l,ls=>by unfold an;rw[List.length_cons,bF l,List.length_cons]
theorem oU:∀(n i k:Nat),k<n->(l6 i n)[k]? = some (i+k)
 |0,_,_,h=>ac
 |n+1,i,0,_=>rfl
 |n+1,i,k+1,h=>by
  unfold l6;rw[List.getElem?_cons_succ,oU n (i+1) k ac]
  congr 1
  omega
theorem qF:∀ {i n:Nat} {l:List Nat},DX i n l=true->∀k,k<n->l[k]? = some (i+k)
 |_,0,_,_,k,h=>ac
 |i,n+1,[],h,_,_=>by cases h
 |i,n+1,x::l,h,k,hk=>by
  unfold DX at h;rw[both_iff]at h;have:=beq_iff'.1 h.1;subst this
  cases k with
  |zero=>rfl
  |succ k =>
   rw[List.getElem?_cons_succ,qF h.2 k ac]
   congr 1
   omega
theorem mn:∀ {m:List Nat} {l:List Nat},mQ mem l m=true->∀j∈m,∃b,be mem j=some b/\∀ty rs,b=.run ty rs->∀x∈cO [] rs,x∈l
 |[],_,_,j,hj=>by simp at hj
 |k::m,l,h,j,hj=>by
  unfold mQ at h;rw[both_iff]at h;rcases List.mem_cons.1 hj with rfl | hj
  .have h1:=h.1
   split at h1
   .rename_i ty rs hm;exact⟨_,hm,λty' rs' e=>by cases e;exact subN_iff.1 h1⟩
   .rename_i b hn hm
    exact⟨b,hm,λty' rs' e=>absurd (e ▸ hm) (by intro e';exact hn ty' rs' e)⟩
   .cases h1
  .exact mn h.2 j hj
theorem AM.rebase (hK:jf K) (h:AM K w0 c0 c mem w) {L0:Nat} (hL:∀j id,c0.ρ j=some id->j<L0) {args args':List AT} {vs:List Value} (hr:rebase L0 args mem=some (args',mem')) (ha:allAt K c args vs):∃c',AM K w0 c0 c' mem' w/\allAt K c' args' vs:=by
 unfold Go.Proofs.YtldmjbgplgoedaaGreatDoor.rebase at hr;simp only at hr
 split at hr
 .rename_i hb;rw[both_iff,both_iff,both_iff]at hb;obtain⟨b1,b2,b3,b4⟩:=hb;have b1:=nodupN_iff.1 b1;have b2:=qF b2;have b3:=subN_iff.1 b3;have b4:=mn b4;generalize hσ:dM mem 64 0 (du (l6 0 L0) args)=σ at hr b1 b2 b3 b4;cases hr;have hren:Ren (λj=>j∈σ) (wM σ) c (c.into σ c.D):=⟨λj id hj e=>by simp only[Cx.into,nl hj];exact e,λ_ _ e=>e,λ_ _ _ _=>rfl⟩
  refine⟨c.into σ c.D,⟨h.os,h.tape,h.output,h.size,h.frame,⟨λj id e=>?_,λb x e=>h.le.F b x e,λj id e=>h.le.sz j id e,h.le.D⟩,λi id e=>?_,λi i' id x y e1 e2 g1 g2 l1 l2=>?_,λi id e=>?_,h.newF,λi id ab e1 e2=>?_,h.fr⟩,ip hK hren b3 ha⟩
  .have:=b2 j (hL j id e);rw[Nat.zero_add]at this;simp only[Cx.into,this];exact h.le.ρ j id e
  .obtain⟨j,hj,hid⟩:=cr e;exact⟨by simp only[ce,np];exact(List.getElem?_eq_some_iff.1 hj).1,(h.dom j id hid).2⟩
  .obtain⟨j,hj,hid⟩:=cr e1;obtain⟨j',hj',hid'⟩:=cr e2
   have at_:∀ {i j:Nat} {x:AB},σ[i]? = some j->(eC (wM σ) (pick mem σ))[i]? = some x->∃b,mem[j]? = some b/\x=ag6 (wM σ) b:=λ{i j x} q1 q2=>by obtain⟨b,r1,-⟩:=b4 j (List.mem_of_getElem? q1);rw[dk,jF q1,r1]at q2;cases q2;exact⟨b,by rw[<-aP];exact r1,rfl⟩
   obtain⟨b,r1,rfl⟩:=at_ hj g1;obtain⟨b',r2,rfl⟩:=at_ hj' g2;rw[nh]at l1 l2;have:=h.nd j j' id b b' hid hid' r1 r2 l1 l2;subst this;have h1:=(List.getElem?_eq_some_iff.1 hj).1;exact(List.getElem?_inj h1 b1).1 (hj.trans hj'.symm)
  .obtain⟨j,hj,hid⟩:=cr e;exact h.new j id hid
  .obtain⟨j,hj,hid⟩:=cr e1;simp only[dk]at e2;rw[jF hj]at e2;obtain⟨b,q1,q3⟩:=b4 j (List.mem_of_getElem? hj);rw[q1]at e2;cases e2;rw[aP]at q1;exact(h.kn j id b hid q1).ren hK hren (List.mem_of_getElem? hj) hid rfl q3
 .cases hr
theorem allAt.mono {c d:Cx} (hcd:c.le d) {l:List AT} {vs:List Value} (h:allAt K c l vs):allAt K d l vs:=⟨h.1,λi s v h1 h2=>AT.mono hcd (h.2 i s v h1 h2)⟩
theorem AM.same (h:AM K w0 c0 c mem w) (hl:mem.length<=mem'.length) (he:∀j id,c.ρ j=some id->mem'[j]? = mem[j]?):AM K w0 c0 c mem' w :=⟨h.os,h.tape,h.output,h.size,h.frame,h.le,λj id e=>⟨Nat.lt_of_lt_of_le (h.dom j id e).1 hl,(h.dom j id e).2⟩,λi j id x y e1 e2 g1 g2=>h.nd i j id x y e1 e2 (by rw[<-he i id e1];exact g1) (by rw[<-he j id e2];exact g2),h.new,h.newF,λj id ab e1 e2=>h.kn j id ab e1 (by rw[<-he j id e1];exact e2),h.fr⟩
theorem AM.renSelf (hK:jf K) (h:AM K w0 c0 c mem w) {f:Nat->Nat} (hr:Ren (λ_=>True) f c c):AM K w0 c0 c (eC f mem) w:=by
 have at_:∀ {i:Nat} {x:AB},(eC f mem)[i]? = some x->∃b,mem[i]? = some b/\x=ag6 f b:=λ{i x} e=>by
  rw[dk]at e
  cases hb:mem[i]? with
  |none=>rw[hb]at e;cases e
  |some b=>rw[hb]at e;cases e;exact⟨b,rfl,rfl⟩
 refine⟨h.os,h.tape,h.output,h.size,h.frame,h.le,λj id e=>⟨by rw[ce];exact(h.dom j id e).1,(h.dom j id e).2⟩,λi j id x y e1 e2 g1 g2 l1 l2=>?_,h.new,h.newF,λj id ab e1 e2=>?_,h.fr⟩
 .obtain⟨b,r1,rfl⟩:=at_ g1;obtain⟨b',r2,rfl⟩:=at_ g2;rw[nh]at l1 l2;exact h.nd i j id b b' e1 e2 r1 r2 l1 l2
 .obtain⟨b,r1,rfl⟩:=at_ e2;exact(h.kn j id b e1 r1).ren hK hr (j:=j) trivial e1 rfl λ_ _ _ _ _=>trivial
theorem D6 (j p:Nat):mvF j p j=p:=by unfold mvF;rw[Nat.beq_refl]
theorem Jm {j p x:Nat} (h:x≠j):mvF j p x=x:=by
 unfold mvF
 split
 .rename_i e;exact absurd (beq_iff'.1 e) h
 .rfl
theorem AM.mvB (hK:jf K) (h:AM K w0 c0 c mem w) {args:List AT} {vs:List Value} (ha:allAt K c args vs) (j:Nat):∃c',AM K w0 c0 c' (Go.Proofs.YtldmjbgplgoedaaGreatDoor.mvB j args mem).2 w/\allAt K c' (Go.Proofs.YtldmjbgplgoedaaGreatDoor.mvB j args mem).1 vs:=by
 unfold Go.Proofs.YtldmjbgplgoedaaGreatDoor.mvB
 split
 .rename_i ty κ a b n g hm;rw[aP]at hm;have hjl:=(List.getElem?_eq_some_iff.1 hm).1;obtain⟨g1,g2⟩:=h.grow [.dead];have hn:c.ρ mem.length=none:=g2 0
  cases hj:c.ρ j with
  |some id =>
   have hle:c.le (c.at_ mem.length id (c.sz id)):=Cx.le_put _ _ hn λ_ _=>rfl;have hm':(mem++[AB.dead])[j]? = some (.dyn ty κ a b n g false):=by rw[List.getElem?_append_left hjl];exact hm
   have hA:=g1.move (S:=PP) hj hm' rfl (by simp) hn (Keep.refl PP w) (λb e=>e.elim) (ab':=.dyn ty κ a b n g false) ((h.kn j id _ hj hm).step hle hj rfl rfl)
   have hre:Ren (λ_=>True) (mvF j mem.length) (c.at_ mem.length id (c.sz id)) (c.at_ mem.length id (c.sz id)):=⟨λx id' _ e=>by
    by_cases hx:x=j
    .subst hx;rw[D6];rw[hle.ρ x id hj]at e;cases e;exact Cx.at_self _ _ _ _
    .rw[Jm hx];exact e,λ_ _ e=>e,λ_ _ _ _=>rfl⟩
   exact⟨_,hA.renSelf hK hre,ip hK hre (λ_ _=>trivial) (allAt.mono hle ha)⟩
  |none =>
   have hre:Ren (λ_=>True) (mvF j mem.length) c c:=⟨λx id' _ e=>by
    rw[Jm λhx=>by subst hx;rw[hj]at e;cases e]
    exact e,λ_ _ e=>e,λ_ _ _ _=>rfl⟩
   refine⟨c,AM.renSelf hK (AM.same g1 (by simp) λx id e=>?_) hre,ip hK hre (λ_ _=>trivial) ha⟩
   have q1:mem.length≠x:=λhx=>by rw[<-hx,hn]at e;cases e
   have q2:j≠x:=λhx=>by rw[<-hx,hj]at e;cases e
   rw[List.getElem?_set_ne q1,List.getElem?_set_ne q2]
 .exact⟨c,h,ha⟩
theorem AM.mvBs (hK:jf K):∀ {l:List Nat} {args:List AT} {mem:List AB} {c:Cx} {vs:List Value},AM K w0 c0 c mem w->allAt K c args vs->∃c',AM K w0 c0 c' (Go.Proofs.YtldmjbgplgoedaaGreatDoor.mvBs l args mem).2 w/\allAt K c' (Go.Proofs.YtldmjbgplgoedaaGreatDoor.mvBs l args mem).1 vs
 |[],args,mem,c,vs,h,ha=>⟨c,h,ha⟩
 |j::l,args,mem,c,vs,h,ha=>by obtain⟨c',h1,h2⟩:=h.mvB hK ha j;exact AM.mvBs hK (l:=l) h1 h2
theorem AM.rebaseM (hK:jf K) (h:AM K w0 c0 c mem w) {mv:List Nat} {L0:Nat} (hL:∀j id,c0.ρ j=some id->j<L0) {args args':List AT} {vs:List Value} (hr:rebaseM mv L0 args mem=some (args',mem')) (ha:allAt K c args vs):∃c',AM K w0 c0 c' mem' w/\allAt K c' args' vs:=by obtain⟨c1,h1,h2⟩:=AM.mvBs hK (l:=mv) h ha;exact h1.rebase hK hL hr h2
theorem AM.less (h:AM K w0 c0 c mem w) (hl:mem'.length=mem.length) (hb:∀(j:Nat) (b':AB),mem'[j]? = some b'->∃b,mem[j]? = some b/\∀id,abOk K c w id b->(fQ b'=true->fQ b=true)/\abOk K c w id b'):AM K w0 c0 c mem' w:=by
 refine⟨h.os,h.tape,h.output,h.size,h.frame,h.le,λj id e=>?_,λi j id x y e1 e2 g1 g2 l1 l2=>?_,h.new,h.newF,λj id ab e1 e2=>?_,h.fr⟩
 .rw[hl];exact h.dom j id e
 .obtain⟨x',q1,q2⟩:=hb i x g1;obtain⟨y',r1,r2⟩:=hb j y g2;exact h.nd i j id x' y' e1 e2 q1 r1 ((q2 id (h.kn i id x' e1 q1)).1 l1) ((r2 id (h.kn j id y' e2 r1)).1 l2)
 .obtain⟨b,q1,q2⟩:=hb j ab e2;exact(q2 id (h.kn j id b e1 q1)).2
theorem LH.of_rel (hK:jf K) {L0:Nat} (hL:∀j id,c0.ρ j=some id->j<L0) {h:LH} {ps:List Prop} {ls:List Lf} (hh:h.of L0 st=some (ps,ls)) (hp:bC ps) (hr:Rel K w0 c0 N st a w):Rel K w0 c0 N (h.st ls) a w:=by
 obtain⟨c,hm,hr⟩:=hr;unfold LH.of at hh
 split at hh
 .rename_i args mem' hreb;obtain⟨p,x,q,y,h1,h2,rfl,rfl⟩:=aW hh;rw[aM]at hp;obtain⟨c',hm',ha⟩:=hm.rebaseM hK hL hreb (tV hr.is_ h.sl);refine⟨c',?_,hr.sz,hr.df.trans (hm.le.D.trans hm'.le.D.symm),?_⟩
  .unfold LH.st;simp only;rw[bv _ (jU h1)];refine hm'.less (by rw[bF,FH h2]) λj b' e=>?_
   have:=fZ (K:=K) (c:=c') (w:=w) h2 hp.2 [] j b' (by rw[List.append_nil];exact e)
   exact this
  .unfold LH.st;exact afM h1 hp.1 ha y T3.no λu=>by rw[T3.get_no];trivial
 .cases hh
theorem uF {q:Operand} (hr:Rel K w0 c0 N st a w) {x:Bool} (hx:a.eval q=.bool x):Rel K w0 c0 N (UB q x st) a w:=by
 obtain⟨c,hm,hr⟩:=hr
 cases q with
 |tmp s =>refine⟨c,hm,hr.set ?_⟩;have:a.tmps.getD s undef=.bool x:=hx;rw[this];exact yV x
 |const v=>exact⟨c,hm,hr⟩
 |global g=>exact⟨c,hm,hr⟩
 |func g=>exact⟨c,hm,hr⟩
def LvQ (K:KT) (w0:World) (c0:Cx) (N:Nat) (Q:Lv->Prop) (Qc:Exit->Act->World->Prop):Prop:=∀o,Q o->match o with
 |.norm st=>∀a w,Rel K w0 c0 N st a w->Qc .normal a w
 |.ret st=>∀a w,Rel K w0 c0 N st a w->Qc .ret a w
 |.exit i st=>∀a w,Rel K w0 c0 N st a w->Qc (.exit i) a w
 |_=>True
structure XOk (P:Program) (E:EN) (c0:Cx) (X:FX):Prop where
 hE:EOK P E
 hG:GOk E.K E.G c0
 mix:P.follows .mixedOrders=true
 hL:∀j id,c0.ρ j=some id->j<X.L0
theorem dW (hK:jf K) {L0:Nat} (hL:∀j id,c0.ρ j=some id->j<L0) (hr:Rel K w0 c0 N st a w):∀ {hs:List LH} {k:Nat} {ps:List Prop} {ls:List Lf},iW L0 hs k st=some (ps,ls)->bC ps->∃i h,hs[i]? = some h/\(hd ls).Z=Int.ofNat (k+i)/\Rel K w0 c0 N (h.st (tl ls)) a w
 |[],k,ps,ls,hh,hp=>by cases hh
 |h::l,k,ps,ls,hh,hp=>by
  unfold iW at hh
  split at hh
  .rename_i he;cases hh;exact⟨0,h,rfl,rfl,LH.of_rel hK hL he hp hr⟩
  .obtain⟨i,h',h1,h2,h3⟩:=dW hK hL hr hh hp;refine⟨i+1,h',h1,?_,h3⟩;rw[h2];show Int.ofNat (k+1+i)=Int.ofNat (k+(i+1));rw[show k+1+i=k+(i+1) by omega]
theorem j8 {f:LH->T} {ls:List Lf} {Q:Lv->Prop}:∀ {hs:List LH} {k i:Nat} {h:LH},(EL f hs k ls).sat Q->hs[i]? = some h->(hd ls).Z=Int.ofNat (k+i)->(f h).sat Q
 |[],k,i,h,hq,hi,hz=>by simp at hi
 |g::l,k,0,h,hq,hi,hz=>by simp only[List.getElem?_cons_zero,Option.some.injEq]at hi;subst hi;exact hq.1 (decide_eq_true hz)
 |g::l,k,i+1,h,hq,hi,hz=>by
  simp only[List.getElem?_cons_succ]at hi;refine j8 (hq.2 (decide_eq_false λe=>?_)) hi (by rw[hz];show Int.ofNat (k+(i+1))=Int.ofNat (k+1+i);rw[show k+(i+1)=k+1+i by omega])
  rw[hz]at e;have:k+(i+1)=k:=Int.ofNat.inj e;omega
theorem fW (hX:XOk P E c0 X) {st:ASt} {key:Nat} {t:T} {Q:Lv->Prop} {Qc:Exit->Act->World->Prop} (h:(qk X st key t).sat Q) (hQ:LvQ E.K w0 c0 X.N Q Qc):∃Q1,t.sat Q1/\LvQ E.K w0 c0 X.N Q1 Qc:=by
 unfold qk at h
 split at h
 .exact⟨Q,h,hQ⟩
 .rename_i hd_ _;unfold T.sat at h;obtain⟨J,h1,h2⟩:=h;rw[T.sat_bind]at h1;refine⟨_,h1,λo ho=>?_⟩
  cases o with
  |norm s =>
   intro a w hr;simp only at ho
   split at ho
   .rename_i ps ls he;rw[bh]at ho;exact hQ _ (h2 ls ho.2) a w (LH.of_rel hX.hE.hK hX.hL he ho.1 hr)
   .exact ho.elim
  |ret s=>exact hQ _ ho
  |exit i s=>exact hQ _ ho
  |_=>trivial
 .rename_i hs _;unfold T.sat at h;obtain⟨J,h1,h2⟩:=h;rw[T.sat_bind]at h1;refine⟨_,h1,λo ho=>?_⟩
  cases o with
  |norm s =>
   intro a w hr;simp only at ho
   split at ho
   .rename_i ps ls he;rw[bh]at ho;obtain⟨i,h,k1,k2,k3⟩:=dW hX.hE.hK hX.hL hr he ho.1;exact hQ _ (j8 (h2 ls ho.2) k1 k2) a w k3
   .exact ho.elim
  |ret s=>exact hQ _ ho
  |exit i s=>exact hQ _ ho
  |_=>trivial
 .exact⟨Q,h,hQ⟩
theorem jd (hX:XOk P E c0 X):∀(cd:Code) {st:ASt} {a:Act} {w:World} {Q:Lv->Prop} {Qc:Exit->Act->World->Prop},(bk P E X cd st).sat Q->Rel E.K w0 c0 X.N st a w->LvQ E.K w0 c0 X.N Q Qc->cd.wp P Qc a w:=by
 intro cd
 induction cd with
 |skip=>intro st a w Q Qc h hr hQ;exact wp_skip (hQ _ h a w hr)
 |label l=>intro st a w Q Qc h hr hQ;exact wp_label (hQ _ h a w hr)
 |region id ops d =>
  intro st a w Q Qc h hr hQ;unfold bk at h;obtain⟨Q,h,hQ⟩:=fW hX h hQ
  cases d with
  |false=>exact wp_region_list (qy hX.hE hX.hG _ h hr λst' a' w' h1 h2=>hQ _ h1 a' w' h2)
  |true=>exact vb hX.hE hX.hG hX.mix h hr λst' a' w' h1 h2=>hQ _ h1 a' w' h2
 |seq x y ihx ihy =>
  intro st a w Q Qc h hr hQ;unfold bk T.onNorm at h;rw[T.sat_bind]at h;refine wp_seq (ihx h hr λo ho=>?_)
  cases o with
  |norm s=>exact λa w hr=>ihy ho hr hQ
  |ret s=>exact hQ _ ho
  |exit i s=>exact hQ _ ho
  |_=>trivial
 |cond q x y ihx ihy =>
  intro st a w Q Qc h hr hQ;unfold bk at h;have hv:(evg E.G st.tm q).is E.K _ (a.eval q):=l5 (hX.hG.le hr.choose_spec.1.le) hr.choose_spec.2 q
  split at h
  .rename_i f t b e;rw[e]at hv;obtain⟨hb,b1,b2⟩:=is_B.1 hv;refine wp_cond_split hb (λhbt=>?_) λhbf=>?_
   .subst hbt;have ht:=b2 rfl;subst ht;have hs:=uF hr hb
    cases f with
    |false=>exact ihx h hs hQ
    |true =>obtain⟨Q,h,hQ⟩:=fW hX h hQ;exact ihx (h.1 rfl) hs hQ
   .subst hbf;have hf:=b1 rfl;subst hf;have hs:=uF hr hb
    cases t with
    |false=>exact ihy h hs hQ
    |true =>obtain⟨Q,h,hQ⟩:=fW hX h hQ;exact ihy (h.2 rfl) hs hQ
  .exact h.elim
 |block id x ih =>
  intro st a w Q Qc h hr hQ;unfold bk at h;obtain⟨Q,h,hQ⟩:=fW hX h hQ;rw[T.sat_bind]at h;refine wp_block (ih h hr λo ho=>?_)
  cases o with
  |norm s=>exact λa w hr=>hQ _ ho a w hr
  |ret s=>exact λa w hr=>hQ _ ho a w hr
  |exit i s =>
   intro a w hr;simp only[Exit.inBlock];simp only at ho
   split at ho
   .rename_i e;have e:=beq_iff'.1 e;rw[if_pos e];exact hQ _ ho a w hr
   .rename_i e;rw[if_neg λq=>by rw[q,Nat.beq_refl]at e;cases e]
    exact hQ _ ho a w hr
  |_=>trivial
 |loop x ih =>
  intro st a w Q Qc h hr hQ;unfold bk at h
  split at h
  .rename_i n _;refine yO (λ(y:Nat × ASt) a w=>Rel E.K w0 c0 X.N y.2 a w/\(oq (bk P E X x) y.1 y.2).sat Q) (λy=>y.1) (n,st) ⟨hr,h⟩ λy a w ⟨hrel,hy⟩=>?_;obtain⟨k,s⟩:=y
   cases k with
   |zero=>exact hy.elim
   |succ k =>
    simp only[oq,T.onNorm]at hy;rw[T.sat_bind]at hy;refine ih hy hrel λo ho=>?_
    cases o with
    |norm s'=>exact λa w hr=>⟨(k,s'),⟨hr,ho⟩,Nat.lt_succ_self k⟩
    |ret s'=>exact hQ _ ho
    |exit i s'=>exact hQ _ ho
    |_=>trivial
  .rename_i hd_ _
   split at h
   .rename_i ps0 ls0 h0;rw[bh]at h;obtain⟨hp0,I,μ,i0,i1⟩:=h;refine yO (λ(y:List Lf) a w=>Rel E.K w0 c0 X.N (hd_.st y) a w/\I y) μ ls0 ⟨LH.of_rel hX.hE.hK hX.hL h0 hp0 hr,i0⟩ λy a w ⟨hrel,hy⟩=>?_;have:=i1 y hy;rw[T.sat_bind]at this;refine ih this hrel λo ho=>?_
    cases o with
    |norm s' =>
     intro a w hr;simp only at ho
     split at ho
     .rename_i ps ls' h1;rw[bh]at ho;exact⟨ls',⟨LH.of_rel hX.hE.hK hX.hL h1 ho.1 hr,ho.2.1⟩,ho.2.2⟩
     .exact ho.elim
    |ret s'=>exact hQ _ ho
    |exit i s'=>exact hQ _ ho
    |_=>trivial
   .exact h.elim
  .rename_i hs _
   split at h
   .rename_i ps0 ls0 h0;rw[bh]at h;obtain⟨hp0,I,μ,i0,i1⟩:=h;obtain⟨n0,g0,q1,q2,q3⟩:=dW hX.hE.hK hX.hL hr h0 hp0;refine yO (λ(y:List Lf) a w=>(∃i h,hs[i]? = some h/\(hd y).Z=Int.ofNat (0+i)/\Rel E.K w0 c0 X.N (h.st (tl y)) a w)/\I y) μ ls0 ⟨⟨n0,g0,q1,q2,q3⟩,i0⟩ λy a w ⟨⟨i,g,k1,k2,hrel⟩,hy⟩=>?_;have:=j8 (i1 y hy) k1 k2;rw[T.sat_bind]at this;refine ih this hrel λo ho=>?_
    cases o with
    |norm s' =>
     intro a w hr;simp only at ho
     split at ho
     .rename_i ps ls' h1;rw[bh]at ho;exact⟨ls',⟨dW hX.hE.hK hX.hL hr h1 ho.1,ho.2.1⟩,ho.2.2⟩
     .exact ho.elim
    |ret s'=>exact hQ _ ho
    |exit i s'=>exact hQ _ ho
    |_=>trivial
   .exact h.elim
  .exact h.elim
 |exit id=>intro st a w Q Qc h hr hQ;exact wp_exit (hQ _ h a w hr)
 |scope x ih=>intro st a w Q Qc h hr hQ;exact wp_scope_straight (ih h hr hQ)
 |ret=>intro st a w Q Qc h hr hQ;exact wp_ret (hQ _ h a w hr)
 |_ =>intro st a w Q Qc h;exact h.elim
end
end Go.Proofs.YtldmjbgplgoedaaGreatDoor
