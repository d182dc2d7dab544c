import Derived.Test.YtldmjbgplgoedaaGreatDoorRp06
import Derived.Deep.AppendSrc
set_option linter.all false
namespace Go.Proofs.YtldmjbgplgoedaaGreatDoor
open Go.RowKit
def wt (d:KD):Nat->Rs->Option (List (List Lf))
 |0,_=>some []
 |n+1,rs=>match qP d.rs (hY rs d.m),wt d n (bc rs d.m)with
  |some a,some l=>some (a::l)
  |_,_=>none
def AP:List (List Lf)->Nat->List Lf
 |[],_=>[]
 |x::l,n=>match n with
  |0=>x
  |n+1=>AP l n
def gOf (l:List (List Lf)):Nat->List Lf:=match l with
 |[x]=>λ_=>x
 |l=>AP l
structure Sr where
 ps:List Prop
 a:Nat
 b:Nat
 n:Nat
 g:Nat->List Lf
def M1 (K:KT) (mem:List AB) (κ:Nat) (x:AT):Option Sr:=match Nat.blt 0 (aK K κ).m,x with
 |true,.tX (.sO x)=>match x with
  |.nR κ' a b n g=>match Nat.beq κ κ' with
   |true=>some ⟨[],a,b,n,g⟩
   |false=>none
  |.nD j κ' a b o n=>match be mem j with
   |some (.dyn _ κ'' _ _ n' g _)=>match aJ (Nat.beq κ κ') (Nat.beq κ κ'')with
    |true=>some ⟨[o+n<=n'],a,b,n,λi=>g (i+o)⟩
    |false=>none
   |_=>none
  |.nS j o n _=>match be mem j with
   |some (.run _ rs)=>match Nat.ble (Nat.add o (Nat.mul n (aK K κ).m)) (aV rs),wt (aK K κ) n (bc rs o)with
    |true,some l=>some ⟨[],n,n,n,gOf l⟩
    |_,_=>none
   |_=>none
  |.nK v=>match W9 v with
   |true=>some ⟨[],0,0,0,λ_=>[]⟩
   |false=>none
  |_=>none
 |_,_=>none
def pfx (b:Bool) (p:Prop) (l:List Prop):List Prop:=match b with
 |true=>l
 |false=>p::l
theorem jw {b:Bool} {p:Prop} {l:List Prop} (h:bC (pfx b p l)) (hb:b=true->p):p/\bC l:=by
 unfold pfx at h
 split at h
 .exact⟨hb rfl,h⟩
 .exact h
def bor (a b:Bool):Bool:=match a with
 |true=>true
 |false=>b
theorem bor_iff {a b:Bool}:bor a b=true↔a=true\/b=true:=by cases a<;>simp[bor]
def kR (K:KT) (P:Program) (M:List (TypeId × Nat)) (t:TypeId) (x y:AT) (sm:Bool) (p:Nat):Option Eff:=match x,y,Wx P t with
 |.tX (.sO (.nI _ a b n)),.tX (.sO (.nI _ a' b' n')),some (e,m,bytes)=>match afQ P e,aJ (aJ (ile b' 1048576) (aJ (Nat.ble bytes 65536) (Nat.blt 0 m))) (match afQ P e with
  |some zr=>Nat.beq (aV zr) m
  |none=>false)with
  |some zr,true=>match F8 M e with
   |some κ=>match Nat.beq m (aK K κ).m,qP (aK K κ).rs zr with
    |true,some ls=>some ⟨pfx (ile 0 a) (0<=n) (pfx (bor sm (ile b a')) (n<=n') []),[],[.dyn e κ a.toNat b.toNat n.toNat (λ_=>ls) false],.tX (.sO (.nD p κ a.toNat b.toNat 0 n.toNat))⟩
    |_,_=>none
   |none=>match aJ (ile 0 a) (aJ (ieq a b) (aJ (ieq a a') (ieq a' b')))with
    |true=>some ⟨[],[],[.run e (B9 a.toNat zr)],.tX (.sO (.nS p 0 a.toNat a.toNat))⟩
    |false=>none
  |_,_=>none
 |_,_,_=>none
def bX (K:KT) (P:Program) (M:List (TypeId × Nat)) (t:TypeId) (n:Nat) (l:List (Nat × AT)) (p:Nat):Option Eff:=match slT P t with
 |some (e,m)=>match afQ P e,aJ (aJ (Nat.ble (Nat.mul n m) 65536) (Nat.blt 0 m)) (match afQ P e with
  |some zr=>Nat.beq (aV zr) m
  |none=>false)with
  |some zr,true=>match yE (λi=>some (i*m,m)) (B9 n zr) l with
   |some qs=>match F8 M e with
    |some κ=>match Nat.beq m (aK K κ).m,wt (aK K κ) n qs with
     |true,some ls=>some ⟨[],[],[.dyn e κ n n n (gOf ls) false],.tX (.sO (.nD p κ n n 0 n))⟩
     |_,_=>none
    |none=>some ⟨[],[],[.run e qs],.tX (.sO (.nS p 0 n n))⟩
   |none=>none
  |_,_=>none
 |none=>none
def sX (d:Int × Int × Nat):Option AT->Option (Int × Int × Nat × Prop)
 |none=>some (d.1,d.2.1,d.2.2,True)
 |some (.tX (.sO (.nI _ a b z)))=>some (a,b,z.toNat,0<=z)
 |_=>none
def YS (hi:Option AT) (h2:Int) (a:Nat):Bool:=match hi with
 |none=>true
 |some _=>ile h2 (Int.ofNat a)
def is0:Option AT->Bool
 |none=>true
 |some (.tX (.sO (.nI _ a b _)))=>aJ (ieq a 0) (ieq b 0)
 |_=>false
def ni (K:KT) (P:Program) (t:TypeId) (x:AT) (lo hi mx:Option AT):Option (List Prop × AT):=match x,mx with
 |.tX (.sO x),none=>match x with
  |.nR κ a b n g=>match slT P t,sX (0,0,0) lo,sX (Int.ofNat a,Int.ofNat b,n) hi with
   |some (_,sz),some (l1,l2,l,lp),some (h1,h2,h,hp)=>match Nat.beq sz (aK K κ).m with
    |true=>some (pfx (ile 0 l1) lp (pfx (ile 0 h1) hp (pfx (ile l2 h1) (l<=h) (pfx (YS hi h2 a) (h<=n) []))),.tX (.sO (.nR κ (Int.toNat (Int.sub h1 l2)) (Int.toNat (Int.sub h2 l1)) (h-l) (λi=>g (i+l)))))
    |false=>none
   |_,_,_=>none
  |.nD j κ a b o n=>match slT P t,sX (0,0,0) lo,sX (Int.ofNat a,Int.ofNat b,n) hi with
   |some (_,sz),some (l1,l2,l,lp),some (h1,h2,h,hp)=>match Nat.beq sz (aK K κ).m with
    |true=>some (pfx (ile 0 l1) lp (pfx (ile 0 h1) hp (pfx (ile l2 h1) (l<=h) (pfx (YS hi h2 a) (h<=n) (pfx (ile l2 0) (l<n) [])))),.tX (.sO (.nD j κ (Int.toNat (Int.sub h1 l2)) (Int.toNat (Int.sub h2 l1)) (o+l) (h-l))))
    |false=>none
   |_,_,_=>none
  |.nS j o n c=>match slT P t,sX (0,0,0) lo,sX (Int.ofNat n,Int.ofNat n,n) hi with
   |some (_,sz),some (l1,l2,_,_),some (h1,h2,_,_)=>match aJ (ile 0 l1) (aJ (ieq l1 l2) (aJ (ieq h1 h2) (aJ (ile l1 h1) (ile h1 (Int.ofNat n)))))with
    |true=>match Nat.beq c l1.toNat with
     |true=>some ([],.tX (.sO (.nS j o (Nat.sub h1.toNat l1.toNat) 0)))
     |false=>some ([],.tX (.sO (.nS j (Nat.add o (Nat.mul l1.toNat sz)) (Nat.sub h1.toNat l1.toNat) (Nat.sub c l1.toNat))))
    |false=>none
   |_,_,_=>none
  |.nP j o=>match arT P t with
   |some (n,sz)=>match sX (0,0,0) lo,sX (Int.ofNat n,Int.ofNat n,n) hi with
    |some (l1,l2,_,_),some (h1,h2,_,_)=>match aJ (Nat.ble n 1048576) (aJ (ile 0 l1) (aJ (ieq l1 l2) (aJ (ieq h1 h2) (aJ (ile l1 h1) (ile h1 (Int.ofNat n))))))with
     |true=>match Nat.beq n l1.toNat with
      |true=>some ([],.tX (.sO (.nS j o (Nat.sub h1.toNat l1.toNat) 0)))
      |false=>some ([],.tX (.sO (.nS j (Nat.add o (Nat.mul l1.toNat sz)) (Nat.sub h1.toNat l1.toNat) (Nat.sub n l1.toNat))))
     |false=>none
    |_,_=>none
   |none=>none
  |_=>none
 |.tX (.sO (.nR κ _ _ _ _)),some mx=>match slT P t,hi with
  |some (_,sz),some hi=>match aJ (Nat.beq sz (aK K κ).m) (aJ (is0 lo) (aJ (is0 (some hi)) (is0 (some mx))))with
   |true=>some ([],.tX (.sO .nE))
   |false=>none
  |_,_=>none
 |_,_=>none
def aE {α:Type} (n:Nat) (g h:Nat->α):Nat->α:=λi=>if i<n then g i else h (i-n)
def Ld (P:Program) (t:TypeId):Bool:=match P.underlying t with
 |some (.int .i64)=>true
 |_=>false
def mV (P:Program) (t tx:TypeId) (x y:AT):Option Eff:=match Wx P t,Ld P tx,x,y with
 |some _,true,.tX (.sO (.nD j κ a b o n)),.tX (.sO (.nI .i64 _ _ z))=>some ⟨[z=0],[],[],.tX (.sO (.nD j κ a b o n))⟩
 |_,_,_,_=>none
def cz (K:KT) (P:Program) (M:List (TypeId × Nat)) (t tx:TypeId) (x y:AT) (mem:List AB) (p:Nat):Option Eff:=match Wx P t,slT P tx with
 |some (e,m,bytes),some _=>match afQ P e,F8 M e with
  |some zr,some κ=>match M1 K mem κ y,aJ (Nat.beq (aK K κ).m m) (aJ (Nat.beq (aV zr) m) (Nat.ble bytes 65536))with
   |some s,true=>match x with
    |.tX (.sO x)=>match x with
     |.nD j κ' a b o n=>match be mem j with
      |some (.dyn ty κ'' _ _ n' g fz)=>match aJ (aJ (Nat.beq κ κ') (aJ (Nat.beq κ κ'') (Nat.beq ty e))) (Nat.ble (Nat.add b s.b) 1073741824),fz with
       |true,false=>some ⟨s.ps++[o=0,n=n'],[(j,.dead)],[.dyn e κ (Nat.add a s.a) (Nat.add b s.b) (n+s.n) (aE n g s.g) false],.tX (.sO (.nD p κ (Nat.add a s.a) (Nat.add b s.b) 0 (n+s.n)))⟩
       |_,_=>none
      |_=>none
     |.nK v=>match aJ (W9 v) (Nat.ble s.b 1073741824)with
      |true=>some ⟨s.ps++pfx (Nat.ble 1 s.a) (0<s.n) [],[],[.dyn e κ s.a s.b s.n s.g false],.tX (.sO (.nD p κ s.a s.b 0 s.n))⟩
      |false=>none
     |.nE=>match Nat.ble s.b 1073741824 with
      |true=>some ⟨s.ps++pfx (Nat.ble 1 s.a) (0<s.n) [],[],[.dyn e κ s.a s.b s.n s.g false],.tX (.sO (.nD p κ s.a s.b 0 s.n))⟩
      |false=>none
     |_=>none
    |_=>none
   |_,_=>none
  |_,_=>none
 |_,_=>mV P t tx x y
def jD {α:Type} (o k:Nat) (h g:Nat->α):Nat->α:=λi=>if o<=i/\i<o+k then h (i-o)else g i
def fk (K:KT) (P:Program) (t:TypeId) (x y:AT) (mem:List AB):Option Eff:=match slT P t,x with
 |some (_,m),.tX (.sO (.nD j κ a b o n))=>match be mem j,M1 K mem κ y with
  |some (.dyn ty κ' a' b' n' g fz),some s=>match aJ (Nat.beq κ κ') (aJ (Nat.beq (aK K κ).m 1) (Nat.beq m 1)),fz with
   |true,false=>some ⟨s.ps++[o+n<=n'],[(j,.dyn ty κ' a' b' n' (jD o (min s.n n) s.g g) false)],[],.tX (.sO (mkI .i64 (Int.ofNat (Qq s.a a)) (Int.ofNat (Qq s.b b)) ((min s.n n:Nat):Int)))⟩
   |_,_=>none
  |_,_=>none
 |_,_=>none
section
variable {P:Program} {K:KT} {w0 w w':World} {c0 c c':Cx} {mem mem':List AB}
theorem allP_app:∀ {a b:List Prop},bC (a++b)↔bC a/\bC b
 |[],b=>⟨λh=>⟨trivial,h⟩,λh=>h.2⟩
 |p::a,b=>by simp only[List.cons_append,bC,allP_app (a:=a),and_assoc]
def Elts (K:KT) (c:Cx) (κ n:Nat) (g:Nat->List Lf) (cs:List Value):Prop:=∀e,e<n->RsOk K c (ax (aK K κ).rs (g e)) ((cs.drop (e*(aK K κ).m)).take (aK K κ).m)
theorem Elts.one {κ n:Nat} {g:Nat->List Lf} {cs:List Value} (h:Elts K c κ n g cs) (hs:0<(aK K κ).m) (hl:cs.length=n*(aK K κ).m):∀u∈cs,u.oneCell'=true:=λu hu=>by
 obtain⟨i,hi⟩:=List.getElem?_of_mem hu;have hlt:=(List.getElem?_eq_some_iff.1 hi).1;refine(h (i / (aK K κ).m) (Nat.div_lt_of_lt_mul (by rw[Nat.mul_comm,<-hl];exact hlt))).cells u (List.mem_of_getElem? (i:=i % (aK K κ).m) ?_)
 rw[List.getElem?_take,if_pos (Nat.mod_lt _ hs),List.getElem?_drop,Nat.mul_comm,Nat.div_add_mod];exact hi
theorem m7 {L:List Value} {a n m e:Nat} (he:e<n):(((L.drop a).take (n*m)).drop (e*m)).take m=(L.drop (a+e*m)).take m:=by have:=eI (m:=m) he;rw[List.drop_take,List.take_take,List.drop_drop,Nat.min_eq_left ac]
theorem KN (l:List (List Lf)) (i:Nat) (hi:i<l.length):gOf l i=AP l i:=by
 unfold gOf
 split
 .rename_i x;have:i=0:=by simpa using hi
  subst this;rfl
 .rfl
theorem mA {κ:Nat}:∀(n:Nat) (r:Rs) (l:List (List Lf)) (vs:List Value),wt (aK K κ) n r=some l->RsOk K c r vs->l.length=n/\Elts K c κ n (AP l) vs
 |0,_,l,_,h,_=>by cases h;exact⟨rfl,λe he=>ac⟩
 |n+1,r,l,vs,h,hv=>by
  unfold wt at h
  split at h
  .rename_i a l' h1 h2;cases h;obtain⟨g1,g2⟩:=mA n _ _ (vs.drop (aK K κ).m) h2 (hv.drop _);refine⟨by simp[g1],λe he=>?_⟩
   cases e with
   |zero =>rw[Nat.zero_mul,List.drop_zero];exact kp h1 (hv.take _)
   |succ e =>
    have:=g2 e ac
    rwa [List.drop_drop,Nat.add_comm,<-Nat.succ_mul]at this
  .cases h
theorem jZ {κ:Nat} {x:AT} {v:Value} {s:Sr} (h:AM K w0 c0 c mem w) (hx:x.is K c v) (hs:M1 K mem κ x=some s) (hp:bC s.ps) :
 0<(aK K κ).m/\∃A m,v=.slice A s.n m/\s.a<=s.n/\s.n<=s.b/\s.n<=m/\m<=maxLen/\∃cs:List Value,cs.length=s.n*(aK K κ).m/\Elts K c κ s.n s.g cs/\(A=none->s.n=0) /\
  ∀a,A=some a->∀(j:Nat) (u:Value),cs[j]? = some u->w.cell? (a.add j)=some u:=by
 unfold M1 at hs
 split at hs
 .rename_i x hm0;have hm0:=blt_iff.1 hm0;refine⟨hm0,?_⟩
  have blk:∀ {id off n:Nat} {ty:TypeId} {bs:Array Value} {j:Nat} {u:Value},BlkF w id ty bs->((bs.toList.drop off).take n)[j]? = some u->w.cell? ⟨id,off+j,none⟩=some u:=λ{id off n ty bs j u} k1 hu=>by
   rw[List.getElem?_take]at hu
   split at hu
   .rw[List.getElem?_drop]at hu;rw[k1.cell]
    simpa using hu
   .cases hu
  split at hs
  .rename_i κ' a b n g
   split at hs
   .rename_i hk;have hk:=beq_iff'.1 hk;subst hk;cases hs;obtain⟨A,m,rfl,q1,q2,q3,q4,q5,q6⟩:=is_R.1 hx
    cases A with
    |none =>have:=q5 rfl;have hn:n=0:=ac;subst hn;exact⟨none,m,rfl,q1,q2,q3,q4,[],by simp,λe he=>by simp only at he;omega,λ_=>rfl,λa ha=>by cases ha⟩
    |some ad =>
     rcases Nat.eq_zero_or_pos m with hm0 | hm0
     .have hn:n=0:=ac;subst hn;exact⟨some ad,m,rfl,q1,q2,q3,q4,[],by simp,λe he=>by simp only at he;omega,λ_=>rfl,λa ha j u hu=>by simp at hu⟩
     obtain⟨el,ty,bs,f1,f2,f3,f4⟩:=q6 ad rfl hm0;have hN:el+n*(aK K κ).m<=bs.size:=Nat.le_trans (Nat.add_le_add_left (Nat.mul_le_mul_right _ ac) _) f3;refine⟨some ad,m,rfl,q1,q2,q3,q4,(bs.toList.drop el).take (n*(aK K κ).m),by rw[List.length_take,List.length_drop,Array.length_toList];simp only;omega,λe he=>?_,λe=>(by cases e),λa ha=>?_⟩
     .rw[m7 he];exact f4 e he
     .cases ha;intro j u hu;rw[f1,Addr.add_mid];exact blk (h.fr _ _ _ f2) hu
   .cases hs
  .rename_i j κ' a b o n;rw[aP]at hs
   split at hs
   .rename_i ty κ'' a2 b2 n' g fz hb
    split at hs
    .rename_i hk;rw[both_iff]at hk;have hk1:=beq_iff'.1 hk.1;have hk2:=beq_iff'.1 hk.2;subst hk1 hk2;cases hs;have hon:o+n<=n':=hp.1;obtain⟨id,m,hj,rfl,q1,q2,q3,q4,-⟩:=is_D.1 hx;obtain⟨-,-,bs,f1,-,f2,f3,-⟩:=h.kn j id _ hj hb;have hN:(o+n)*(aK K κ).m<=bs.size:=Nat.le_trans (Nat.mul_le_mul_right _ hon) f2;rw[Nat.add_mul]at hN;refine⟨_,m,rfl,q1,q2,q3,q4,(bs.toList.drop (o*(aK K κ).m)).take (n*(aK K κ).m),by rw[List.length_take,List.length_drop,Array.length_toList];simp only;omega,λe he=>?_,λe=>(by cases e),λa ha=>?_⟩
     .have he:e<n:=he;rw[m7 he,<-Nat.add_mul,Nat.add_comm o e];exact f3 (e+o) ac
     .cases ha;intro j u hu;rw[Addr.add_mid];exact blk f1.F hu
    .cases hs
   .cases hs
  .rename_i j o n cap;rw[aP]at hs
   split at hs
   .rename_i ty rs hb
    split at hs
    .rename_i l e1 e2;have e1:o+n*(aK K κ).m<=aV rs:=ble_iff.1 e1;cases hs;obtain⟨id,hj,rfl,h1,h2⟩:=is_S.1 hx;obtain⟨-,bs,k1,k2⟩:=h.kn j id _ hj hb;have hl:=k2.1;obtain⟨g1,g2⟩:=mA n _ _ _ e2 (k2.drop o);refine⟨_,_,rfl,Nat.le_refl _,Nat.le_refl _,h1,h2,(bs.toList.drop o).take (n*(aK K κ).m),by rw[List.length_take,List.length_drop];simp only;omega,λe he=>?_,λe=>(by cases e),λa ha=>?_⟩
     .have he:e<n:=he;rw[m7 he,<-List.drop_drop];have:=g2 e he;rw[<-KN l e ac]at this;exact this
     .cases ha;intro j u hu;rw[Addr.add_mid];exact blk k1.F hu
    .cases hs
   .cases hs
  .split at hs
   .rename_i e;have e:=dG e;subst e;cases hs;obtain⟨rfl,-⟩:=is_K.1 hx;exact⟨none,0,rfl,Nat.le_refl _,Nat.le_refl _,Nat.le_refl _,Nat.zero_le _,[],by simp,λe he=>by simp only at he;omega,λ_=>rfl,λa ha=>by cases ha⟩
   .cases hs
  .cases hs
 .cases hs
theorem rx {p κ a b n:Nat} {g:Nat->List Lf} {cs:Array Value} {ty:TypeId} (h:AM K w0 c0 c mem w) (hn:c.ρ p=none) (h1:a<=n) (h2:n<=b) (h3:n*(aK K κ).m<=cs.size) (h4:∀e,e<n->RsOk K c (ax (aK K κ).rs (g e)) (elt cs (aK K κ).m e)):abOk K (c.at_ p w.heap.size cs.size) (w.alloc (.cells cs ty)) w.heap.size (.dyn ty κ a b n g false) :=⟨h1,h2,cs,Blk.new _ _ _,(Cx.at_sz _ _ _ _).symm,h3,λe he=>(h4 e he).mono (h.le_new _ hn),h.F_new⟩
theorem so {M:List (TypeId × Nat)} {t:TypeId} {x y:AT} {u v:Value} {sm:Bool} {p:Nat} {e:Eff} (h:AM K w0 c0 c mem w) (hx:x.is K c u) (hy:y.is K c v) (hsm:sm=true->u=v) (he:kR K P M t x y sm p=some e) (hr:af2 c mem p e.nw.length) (hp:bC e.ps) :
 ∃q w',(Instr.makeSlice t u v).run P w=.ok q w'/\EOk K w0 c0 c mem p e q w':=by
 have hmx:maxLen=9223372036854775807:=afH;unfold kR at he
 split at he
 .rename_i k1 a b n k2 a' b' n' et m bytes hi;obtain⟨rfl,n1,n2,-⟩:=is_I.1 hx;obtain⟨rfl,p1,p2,-⟩:=is_I.1 hy;obtain⟨hu,i,hie,his,hib⟩:=n6 hi
  split at he
  .rename_i zr hz hb;rw[both_iff,both_iff,both_iff,hz]at hb;obtain⟨hb,hb4⟩:=hb;have hb4:Nat.beq (aV zr) m=true:=hb4;have hb4:=beq_iff'.1 hb4;have g1:=ile_iff.1 hb.1;have g2:=ble_iff.1 hb.2.1;have g3:=blt_iff.1 hb.2.2;obtain⟨i',z,hi',hzz,hzr⟩:=fC hz;rw[hie]at hi';cases hi'
   have run:0<=n->n<=n'->z.cells.size=m->(Instr.makeSlice t (.int k1 n) (.int k2 n')).run P w=.ok (.slice (some ⟨w.heap.size,0,none⟩) n.toNat n'.toNat) (w.alloc (.cells (madeCells z.cells (n'.toNat*m)) et)):=λh0 h1 hzs=>by
    have hb:(i.bytes:Int)*n'<=281474976710656:=by have:(i.bytes:Int)*n'<=65536*1048576:=Int.mul_le_mul ac ac ac ac;omega
    have hrun:=run_make (P:=P) w t et i z hu hie hzz k1 k2 n n' ac ac hb ac
    rwa [his]at hrun
   have hn:=λ(h0:0<e.nw.length)=>(hr 0 h0).2;have hzs:z.cells.size=m:=by have:=(hzr K c).1;rw[Array.length_toList]at this;omega
   split at he
   .rename_i κ hκ
    split at he
    .rename_i ls q1 q2;have q1:=beq_iff'.1 q1;cases he;obtain⟨r1,hp2⟩:=jw hp (λe=>by have:=ile_iff.1 e;omega)
     obtain⟨r2,-⟩:=jw hp2 (λe=>by
      rcases bor_iff.1 e with e | e
      .have:=hsm e;cases this;exact Int.le_refl _
      .have:=ile_iff.1 e;omega)
     have hn:=hn (by simp)
     refine⟨_,_,run r1 r2 hzs,EOk.made h hr (rx h hn ac ac (by rw[size_madeCells,<-q1];exact Nat.mul_le_mul_right _ ac) λe he=>?_) (is_D.2 ⟨w.heap.size,n'.toNat,Cx.at_self _ _ _ _,by simp,ac,ac,ac,ac,by rw[Cx.at_sz,size_madeCells,Nat.zero_add,q1];exact Nat.le_refl _⟩)⟩
     rw[<-q1,<-hzs,CI ac ac];exact kp q2 (hzr K c)
    .cases he
   .split at he
    .rename_i q;rw[both_iff,both_iff,both_iff]at q;have e1:=ile_iff.1 q.1;have e2:=ieq_iff.1 q.2.1;have e3:=ieq_iff.1 q.2.2.1;have e4:=ieq_iff.1 q.2.2.2;cases he;have hna:n=a:=ac;have hn':n'=a:=ac;have hn:=hn (by simp)
     have hab:=nZ (ty:=et) (N:=0) h hn (jn (hzr K c) ac a.toNat);rw[Array.toArray_toList,hzs]at hab;have hrun:=run ac ac hzs;rw[hna,hn']at hrun;rw[hna,hn'];exact⟨_,_,hrun,EOk.made h hr hab (is_S.2 ⟨_,Cx.at_self _ _ _ _,rfl,Nat.le_refl _,ac⟩)⟩
    .cases he
  .cases he
 .cases he
theorem p9 {place:Nat->Option (Nat × Nat)}:∀ {vs:List (Nat × Value)} {cs ds:Array Value},Instr.fill place cs vs=some ds->ds.size=cs.size
 |[],cs,ds,h=>by cases h;rfl
 |(i,v)::vs,cs,ds,h=>by
  rw[Instr.fill]at h
  cases hp:place i with
  |none=>rw[hp]at h;cases h
  |some x =>
   obtain⟨o,n⟩:=x;rw[hp]at h;simp only at h
   split at h
   .cases h
   .have:=p9 h;rw[this,<-Array.foldl_toList,Array.toList_zipIdx,gK,bj]
theorem iR {M:List (TypeId × Nat)} {t:TypeId} {n:Nat} {l:List (Nat × AT)} {vs:Array (Nat × Value)} {p:Nat} {e:Eff} (h:AM K w0 c0 c mem w) (hl:zx K c l vs.toList) (he:bX K P M t n l p=some e) (hr:af2 c mem p e.nw.length) :
 ∃q w',(Instr.buildSlice t n vs).run P w=.ok q w'/\EOk K w0 c0 c mem p e q w':=by
 unfold bX at he
 split at he
 .rename_i et m hs;obtain⟨hu,hsz⟩:=dl hs
  split at he
  .rename_i zr hz hb;rw[both_iff,both_iff,hz]at hb;obtain⟨⟨g2,g3⟩,g1⟩:=hb;have g1:Nat.beq (aV zr) m=true:=g1;have g1:=beq_iff'.1 g1;have g2:n*m<=65536:=ble_iff.1 g2;have g3:=blt_iff.1 g3;obtain⟨i,z,hi,hzz,hzr⟩:=fC hz;have hzs:z.cells.size=m:=by have:=(hzr K c).1;rw[Array.length_toList]at this;omega
   have hmr:=jn (hzr K c) ac n;rw[hzs]at hmr;have hmx:maxLen=9223372036854775807:=afH;have hnm:n<=n*m:=Nat.le_mul_of_pos_right n g3
   split at he
   .rename_i qs hq;obtain⟨ds,d1,d2⟩:=nr (K:=K) (c:=c) l vs.toList _ _ hl hmr hq
    have hds:ds.size=n*m:=by have:=p9 d1;rw[this,size_madeCells]
    have hrun:(Instr.buildSlice t n vs).run P w=.ok (.slice (some ⟨w.heap.size,0,none⟩) n n) (w.alloc (.cells ds et)):=by
     have h24:¬ (n*m > 2 ^ 24):=ac;have hi':i.size=m:=by rw[hi]at hsz;simpa using hsz
     by_cases h0:n*m=0
     .rw[h0]at d1;have e0:madeCells z.cells 0=#[]:=by simp[madeCells,Array.range_zero']
      rw[e0]at d1
      simp[Instr.buildSlice,run_underlying hu,gT hsz,h0,newRow,Array.range_zero',d1]
     .exact run_buildSlice w t et n vs ds i z hu hi hzz (by rw[hi'];exact h24) (by rw[hi'];exact h0) (by rw[hi'];exact d1)
    have hn:=λ(h0:0<e.nw.length)=>(hr 0 h0).2
    split at he
    .rename_i κ hκ
     split at he
     .rename_i ls q1 q2;have q1:=beq_iff'.1 q1;cases he;have hn:=hn (by simp)
      obtain⟨k1,k2⟩:=mA n _ _ _ q2 d2;exact⟨_,_,hrun,EOk.made h hr (rx h hn (Nat.le_refl _) (Nat.le_refl _) (by rw[hds,q1];exact Nat.le_refl _) λe he=>by rw[KN _ _ ac];exact k2 e he) (is_D.2 ⟨_,_,Cx.at_self _ _ _ _,by simp,Nat.le_refl _,Nat.le_refl _,Nat.le_refl _,ac,by rw[Cx.at_sz,hds,q1,Nat.zero_add];exact Nat.le_refl _⟩)⟩
     .cases he
    .cases he;have hn:=hn (by simp)
     have hab:=nZ (ty:=et) (N:=0) h hn d2;rw[Array.toArray_toList]at hab;exact⟨_,_,hrun,EOk.made h hr hab (is_S.2 ⟨_,Cx.at_self _ _ _ _,rfl,Nat.le_refl _,ac⟩)⟩
   .cases he
  .cases he
 .cases he
theorem dj {b:Bool} {n cap:Nat} {u v m:Option Value} {zl zh zm:Option Int} (hl:(u=none/\zl=none)\/∃k z,u=some (.int k z)/\zl=some z) (hh:(v=none/\zh=none)\/∃k z,v=some (.int k z)/\zh=some z)
 (hm:(m=none/\zm=none)\/∃k z,m=some (.int k z)/\zm=some z) (hmh:zm.isSome=true->zh.isSome=true)
 (b0:0<=zl.getD 0) (b1:zl.getD 0<=zh.getD n) (b2:zh.getD n<=zm.getD cap) (b3:zm.getD cap<=cap) :
 (Instr.sliceBounds b n cap u v m).run P w=.ok ((zl.getD 0).toNat,(zh.getD n).toNat,(zm.getD cap).toNat) w:=by
 have sb:∀(k:IntKind) (z:Int) (y:Nat) (code),0<=z->z<=(y:Int)->(Instr.sliceBound (.int k z) y code).run P w=.ok z.toNat w:=λk z y code h1 h2=>by have:0<=z/\z<=(y:Int):=⟨h1,h2⟩;simp only[Instr.sliceBound,asIntOf,Sem.run_bind,Sem.run_pure,Result.andThen_ok,if_pos this]
 unfold Instr.sliceBounds;rcases hm with ⟨rfl,rfl⟩ | ⟨km,m,rfl,rfl⟩
 .rcases hh with ⟨rfl,rfl⟩ | ⟨kh,h,rfl,rfl⟩<;>rcases hl with ⟨rfl,rfl⟩ | ⟨kl,l,rfl,rfl⟩<;>simp only[Option.getD_some,Option.getD_none]at b0 b1 b2 b3 ⊢
  .simp
  .simp[sb kl l n _ b0 ac]
  .simp[sb kh h cap _ ac ac]
  .simp[sb kh h cap _ ac ac,sb kl l h.toNat _ b0 ac]
 .rcases hh with ⟨rfl,rfl⟩ | ⟨kh,h,rfl,rfl⟩
  .simp at hmh
  .rcases hl with ⟨rfl,rfl⟩ | ⟨kl,l,rfl,rfl⟩<;>simp only[Option.getD_some,Option.getD_none]at b0 b1 b2 b3 ⊢
   .simp[sb km m cap _ ac ac,sb kh h m.toNat _ ac ac]
   .simp[sb km m cap _ ac ac,sb kh h m.toNat _ ac ac,sb kl l h.toNat _ b0 ac]
theorem cR {t e:TypeId} {sz:Nat} (hu:P.underlying t=some (.slice e)) (hs:(P.info? e).map (·.size)=some sz) {a:Option Addr} {n cap:Nat} {u v m:Option Value} {l h q:Nat} (hb:(Instr.sliceBounds true n cap u v m).run P w=.ok (l,h,q) w) :
 (Instr.sliceAt t (.slice a n cap) u v m).run P w=.ok (.slice (if q=l then a else a.map (·.add (l*sz))) (h-l) (q-l)) w:=by
 unfold Instr.sliceAt;rw[Sem.run_bind,run_underlying hu w];show(Instr.slice t (.slice a n cap) u v m).run P w=_;simp only[Instr.slice,Sem.run_bind,run_underlying hu,Result.andThen_ok,hb,gT hs,Sem.run_pure]
theorem nJ {t e:TypeId} {n sz:Nat} (hu:P.underlying t=some (.array n e)) (hs:(P.info? e).map (·.size)=some sz) {a:Addr} {u v m:Option Value} {l h q:Nat} (hb:(Instr.sliceBounds false n n u v m).run P w=.ok (l,h,q) w) :
 (Instr.sliceAt t (.pointer (some a)) u v m).run P w=.ok (.slice (some (if q=l then a else a.add (l*sz))) (h-l) (q-l)) w:=by
 unfold Instr.sliceAt;simp only[Instr.sureAddr,Sem.run_bind,run_underlying hu,Result.andThen_ok,hb,gT hs,Sem.run_pure]
theorem i5 {d:Int × Int × Nat} {x:Option AT} {u:Option Value} {b:Int × Int × Nat × Prop} (hx:x.isSome=u.isSome) (hi:∀y v,x=some y->u=some v->y.is K c v) (h:sX d x=some b) (hp:b.2.2.2) :
 ∃z:Option Int,((u=none/\z=none)\/∃k n,u=some (.int k n)/\z=some n)/\((x=none/\z=none/\b.1=d.1/\b.2.1=d.2.1/\b.2.2.1=d.2.2)\/(x.isSome=true/\∃n,z=some n/\b.1<=n/\n<=b.2.1/\(b.2.2.1:Int)=n/\0<=n)):=by
 unfold sX at h
 split at h
 .cases h
  cases u with
  |none=>exact⟨none,.inl ⟨rfl,rfl⟩,.inl ⟨rfl,rfl,rfl,rfl,rfl⟩⟩
  |some v=>cases hx
 .rename_i k a b' z;cases h
  cases u with
  |none=>cases hx
  |some v =>obtain⟨rfl,h1,h2,-⟩:=is_I.1 (hi _ _ rfl rfl);have hp:0<=z:=hp;exact⟨some z,.inr ⟨k,z,rfl,rfl⟩,.inr ⟨rfl,z,rfl,h1,h2,Int.toNat_of_nonneg hp,hp⟩⟩
 .cases h
theorem i6 {d:Int × Int × Nat} {x:Option AT} {u:Option Value} {b:Int × Int × Nat × Prop} (hx:x.isSome=u.isSome) (hi:∀y v,x=some y->u=some v->y.is K c v) (h:sX d x=some b) (h0:ile 0 b.1=true):b.2.2.2:=by
 unfold sX at h
 split at h
 .cases h;trivial
 .rename_i k a b' z;cases h
  cases u with
  |none=>cases hx
  |some v =>obtain⟨rfl,h1,h2,-⟩:=is_I.1 (hi _ _ rfl rfl);have:=ile_iff.1 h0;show 0<=z;simp only at this;omega
 .cases h
theorem w7 {x:Option AT} {u:Option Value} (h:is0 x=true) (e:x.isSome=u.isSome) (hi:∀y v,x=some y->u=some v->y.is K c v):(u=none/\x=none)\/∃k,u=some (.int k 0):=by
 unfold is0 at h
 split at h
 .cases u
  .exact .inl ⟨rfl,rfl⟩
  .cases e
 .rename_i k a b z
  cases u with
  |none=>cases e
  |some v =>obtain⟨rfl,h1,h2,-⟩:=is_I.1 (show(AV.nI k a b z).is K c v from hi _ _ rfl rfl);obtain⟨e1,e2⟩:=both_iff.1 h;have e1:=ieq_iff.1 e1;have e2:=ieq_iff.1 e2;exact .inr ⟨k,by rw[show z=0 by omega]⟩
 .cases h
theorem qf {t:TypeId} {x y:AT} {lo hi mx:Option AT} {v:Value} {lv hv mv:Option Value} {ps:List Prop} (hx:x.is K c v) (e1:lo.isSome=lv.isSome) (e2:hi.isSome=hv.isSome) (e3:mx.isSome=mv.isSome)
 (i1:∀y v,lo=some y->lv=some v->y.is K c v) (i2:∀y v,hi=some y->hv=some v->y.is K c v) (i3:∀y v,mx=some y->mv=some v->y.is K c v) (h:ni K P t x lo hi mx=some (ps,y)) (hp:bC ps) :
 ∃u,(Instr.sliceAt t v lv hv mv).run P w=.ok u w/\y.is K c u:=by
 have hmx:maxLen=9223372036854775807:=afH;unfold ni at h
 split at h
 .rename_i x;have hmv:mv=none:=by cases mv<;>simp at e3;rfl
  subst hmv
  have gen:∀ {n cap a b:Nat} {l1 l2 h1 h2:Int} {l q:Nat} {lp hpp:Prop} {ps':List Prop},a<=n->n<=b->n<=cap->sX (0,0,0) lo=some (l1,l2,l,lp)->sX (Int.ofNat a,Int.ofNat b,n) hi=some (h1,h2,q,hpp) ->
   bC (pfx (ile 0 l1) lp (pfx (ile 0 h1) hpp (pfx (ile l2 h1) (l<=q) (pfx (YS hi h2 a) (q<=n) ps')))) ->
   (Instr.sliceBounds true n cap lv hv none).run P w=.ok (l,q,cap) w/\l<=q/\q<=n/\Int.toNat (Int.sub h1 l2)<=q-l/\q-l<=Int.toNat (Int.sub h2 l1)/\(l:Int)<=l2/\l1<=(l:Int)/\h1<=(q:Int)/\(q:Int)<=h2/\bC ps':=λ{n cap a b l1 l2 h1 h2 l q lp hpp ps'} ha hb hc hl hh hp=>by
   obtain⟨p1,hp⟩:=jw hp (λe=>i6 e1 i1 hl e);obtain⟨p2,hp⟩:=jw hp (λe=>i6 e2 i2 hh e);obtain⟨zl,o1,o2⟩:=i5 e1 i1 hl p1;obtain⟨zh,o3,o4⟩:=i5 e2 i2 hh p2
   have hlb:l1<=(l:Int)/\(l:Int)<=l2/\zl.getD 0=l:=by
    rcases o2 with ⟨-,rfl,q1,q2,q3⟩ | ⟨-,n',rfl,q1,q2,q3,q4⟩
    .simp only at q1 q2 q3;simp only[Option.getD_none];omega
    .simp only at q1 q2 q3;simp only[Option.getD_some];omega
   have hhb:h1<=(q:Int)/\(q:Int)<=h2/\zh.getD n=q:=by
    rcases o4 with ⟨-,rfl,q1,q2,q3⟩ | ⟨-,n',rfl,q1,q2,q3,q4⟩
    .simp only[Int.ofNat_eq_natCast]at q1 q2 q3;simp only[Option.getD_none];omega
    .simp only at q1 q2 q3;simp only[Option.getD_some];omega
   obtain⟨p3,hp⟩:=jw hp (λe=>by have:=ile_iff.1 e;omega)
   obtain⟨p4,p5⟩:=jw hp (λe=>by
    rcases o4 with ⟨r,rfl,q1,q2,q3⟩ | ⟨r,n',rfl,q1,q2,q3,q4⟩
    .simp only at q3;omega
    .cases hi with
     |none=>cases r
     |some y =>have:=ile_iff.1 (show ile h2 (Int.ofNat a)=true from e);simp only[Int.ofNat_eq_natCast]at this;omega)
   have hbd:=dj (P:=P) (w:=w) (b:=true) (n:=n) (cap:=cap) o1 o3 (m:=none) (zm:=none) (.inl ⟨rfl,rfl⟩) (by simp) ac ac (by simp only[Option.getD_none];omega) (by simp)
   rw[hlb.2.2,hhb.2.2]at hbd;simp only[Option.getD_none,Int.toNat_natCast]at hbd;have s1:Int.sub h1 l2=h1-l2:=rfl;have s2:Int.sub h2 l1=h2-l1:=rfl;exact⟨hbd,p3,p4,ac,ac,hlb.2.1,hlb.1,hhb.1,hhb.2.1,p5⟩
  split at h
  .rename_i κ a b n g;obtain⟨A,cap,rfl,g1,g2,g3,g4,g5,g6⟩:=is_R.1 hx
   split at h
   .rename_i e sz l1 l2 l lp h1 h2 q hpp hs hl hh;obtain⟨hu,hsz⟩:=dl hs
    split at h
    .rename_i hm1;have hm1:=beq_iff'.1 hm1;cases h;obtain⟨hb,b1,b2,b3,b4,-⟩:=gen g1 g2 g3 hl hh hp;refine⟨_,cR hu hsz hb,is_R.2 ⟨_,_,rfl,b3,b4,ac,ac,λhn=>?_,λad had hm0=>?_⟩⟩
     .split at hn
      .omega
      .cases A with
       |none=>have:=g5 rfl;omega
       |some ad=>cases hn
     .cases A with
      |none=>split at had<;>cases had
      |some ad0 =>
       obtain⟨el,ty,cs,f1,f2,f3,f4⟩:=g6 ad0 rfl ac
       split at had
       .cases had;exact⟨el,ty,cs,f1,f2,Nat.le_trans (Nat.add_le_add_left (Nat.mul_le_mul_right _ ac) _) f3,λi hi=>ac⟩
       .simp only[Option.map_some,Option.some.injEq]at had;subst had;refine⟨el+l*(aK K κ).m,ty,cs,?_,?_,?_,λi hi=>?_⟩
        .rw[f1,Addr.add_mid,hm1]
        .rw[f1,Addr.add_mid];exact f2
        .have:=Nat.mul_le_mul_right (aK K κ).m (show l+(cap-l)<=cap by omega)
         rw[Nat.add_mul]at this;omega
        .have:=f4 (i+l) ac
         rwa [show el+(i+l)*(aK K κ).m=el+l*(aK K κ).m+i*(aK K κ).m by rw[Nat.add_mul];omega]at this
    .cases h
   .cases h
  .rename_i j κ a b o n;obtain⟨id,cap,hj,rfl,g1,g2,g3,g4,g5⟩:=is_D.1 hx
   split at h
   .rename_i e sz l1 l2 l lp h1 h2 q hpp hs hl hh;obtain⟨hu,hsz⟩:=dl hs
    split at h
    .rename_i hm1;have hm1:=beq_iff'.1 hm1;cases h;obtain⟨hb,b1,b2,b3,b4,b5,b6,b7,b8,b9⟩:=gen g1 g2 g3 hl hh hp
     obtain⟨b9,-⟩:=(show l<n\/l2<=0 from by
      unfold pfx at b9
      split at b9
      .rename_i e;exact .inr (ile_iff.1 e)
      .exact .inl b9.1) |>λh=>(⟨h,trivial⟩:(l<n\/l2<=0)/\True)
     have hr:=cR (a:=some ⟨id,o*(aK K κ).m,none⟩) hu hsz hb
     by_cases hc:cap=l
     .have hl0:l=0:=ac;rw[if_pos hc]at hr;exact⟨_,hr,is_D.2 ⟨id,_,hj,by rw[hl0,Nat.add_zero],b3,b4,ac,ac,Nat.le_trans (Nat.mul_le_mul_right _ ac) g5⟩⟩
     .rw[if_neg hc,Option.map_some,Addr.add_mid]at hr;exact⟨_,hr,is_D.2 ⟨id,_,hj,by rw[hm1,Nat.add_mul],b3,b4,ac,ac,Nat.le_trans (Nat.mul_le_mul_right _ ac) g5⟩⟩
    .cases h
   .cases h
  .rename_i j o n cap;obtain⟨id,hj,rfl,g1,g2⟩:=is_S.1 hx
   split at h
   .rename_i e sz l1 l2 l lp h1 h2 q hpp hs hl hh;obtain⟨hu,hsz⟩:=dl hs
    split at h
    .rename_i hb;simp only[both_iff]at hb;obtain⟨c1,c2,c3,c4,c5⟩:=hb;have r1:lp:=i6 e1 i1 hl c1;have r2:hpp:=i6 e2 i2 hh (ile_iff.2 (by have:=ile_iff.1 c1;have:=ile_iff.1 c4;simp only;omega))
     have c6:=ile_iff.1 c5
     have hps:bC (pfx (ile 0 l1) lp (pfx (ile 0 h1) hpp (pfx (ile l2 h1) (l<=q) (pfx (YS hi h2 n) (q<=n) [])))):=by
      obtain⟨zl,o1,o2⟩:=i5 e1 i1 hl r1;obtain⟨zh,o3,o4⟩:=i5 e2 i2 hh r2;have c1:=ile_iff.1 c1;have c2:=ieq_iff.1 c2;have c3:=ieq_iff.1 c3;have c4:=ile_iff.1 c4
      have hlb:l1<=(l:Int)/\(l:Int)<=l2:=by rcases o2 with ⟨-,rfl,q1,q2,q3⟩ | ⟨-,n',rfl,q1,q2,q3,q4⟩<;>simp only at q1 q2 q3<;>omega
      have hhb:h1<=(q:Int)/\(q:Int)<=h2:=by rcases o4 with ⟨-,rfl,q1,q2,q3⟩ | ⟨-,n',rfl,q1,q2,q3,q4⟩<;>simp only[Int.ofNat_eq_natCast]at q1 q2 q3<;>omega
      have all:∀ {b:Bool} {p:Prop} {l:List Prop},p->bC l->bC (pfx b p l):=λ{b p l} hp hl=>by unfold pfx;cases b<;>first|exact hl | exact⟨hp,hl⟩
      simp only[Int.ofNat_eq_natCast]at c6;exact all r1 (all r2 (all ac (all ac trivial)))
     obtain⟨hbd,b1,b2,b3,b4,b5,b6,b7,b8,-⟩:=gen (Nat.le_refl n) (Nat.le_refl n) g1 hl hh hps;have c1:=ile_iff.1 c1;have c2:=ieq_iff.1 c2;have c3:=ieq_iff.1 c3;have c4:=ile_iff.1 c4;simp only[Int.ofNat_eq_natCast]at c6;have hl1:l=l1.toNat:=ac;have hq1:q=h1.toNat:=ac;have hr:=cR (a:=some ⟨id,o,none⟩) hu hsz hbd;rw[hl1,hq1]at hr
     split at h
     .rename_i hc;have hc:=beq_iff'.1 hc;cases h;rw[if_pos hc]at hr;exact⟨_,hr,is_S.2 ⟨id,hj,by rw[show cap-l1.toNat=0 by omega];rfl,by show h1.toNat-l1.toNat<=0;omega,ac⟩⟩
     .rename_i hc;have hc:cap≠l1.toNat:=λe=>by rw[beq_iff'.2 e]at hc;cases hc
      cases h;rw[if_neg hc,Option.map_some,Addr.add_mid]at hr;exact⟨_,hr,is_S.2 ⟨id,hj,rfl,by show h1.toNat-l1.toNat<=cap-l1.toNat;omega,by show cap-l1.toNat<=_;omega⟩⟩
    .cases h
   .cases h
  .rename_i j o;obtain⟨id,hj,rfl⟩:=is_P.1 hx
   split at h
   .rename_i n sz hs;obtain⟨e,hu,hsz⟩:=gC hs
    split at h
    .rename_i l1 l2 l lp h1 h2 q hpp hl hh
     split at h
     .rename_i hb;simp only[both_iff]at hb;obtain⟨c0',c1,c2,c3,c4,c5⟩:=hb;have r1:lp:=i6 e1 i1 hl c1;have r2:hpp:=i6 e2 i2 hh (ile_iff.2 (by have:=ile_iff.1 c1;have:=ile_iff.1 c4;simp only;omega))
      have c0':=ble_iff.1 c0';have c1:=ile_iff.1 c1;have c2:=ieq_iff.1 c2;have c3:=ieq_iff.1 c3;have c4:=ile_iff.1 c4;have c5:h1<=(n:Int):=ile_iff.1 c5;obtain⟨zl,o1,o2⟩:=i5 e1 i1 hl r1;obtain⟨zh,o3,o4⟩:=i5 e2 i2 hh r2
      have hzl:zl.getD 0=l1:=by rcases o2 with ⟨-,rfl,q1,q2,q3⟩ | ⟨-,n',rfl,q1,q2,q3,q4⟩<;>simp only at q1 q2 q3<;>simp only[Option.getD_none,Option.getD_some]<;>omega
      have hzh:zh.getD (n:Int)=h1:=by rcases o4 with ⟨-,rfl,q1,q2,q3⟩ | ⟨-,n',rfl,q1,q2,q3,q4⟩<;>simp only[Int.ofNat_eq_natCast]at q1 q2 q3<;>simp only[Option.getD_none,Option.getD_some]<;>omega
      have hb:=dj (P:=P) (w:=w) (b:=false) (n:=n) (cap:=n) o1 o3 (m:=none) (zm:=none) (.inl ⟨rfl,rfl⟩) (by simp) ac ac (by simp only[Option.getD_none];omega) (by simp)
      simp only[Option.getD_none,hzl,hzh,Int.toNat_natCast]at hb;have hr:=nJ (a:=⟨id,o,none⟩) hu hsz hb
      split at h
      .rename_i hc;have hc:=beq_iff'.1 hc;cases h;rw[if_pos hc]at hr;exact⟨_,hr,is_S.2 ⟨id,hj,by rw[show n-l1.toNat=0 by omega];rfl,by show h1.toNat-l1.toNat<=0;omega,ac⟩⟩
      .rename_i hc;have hc:n≠l1.toNat:=λe=>by rw[beq_iff'.2 e]at hc;cases hc
       cases h;rw[if_neg hc,Addr.add_mid]at hr;exact⟨_,hr,is_S.2 ⟨id,hj,rfl,by show h1.toNat-l1.toNat<=n-l1.toNat;omega,by show n-l1.toNat<=_;omega⟩⟩
     .cases h
    .cases h
   .cases h
  .cases h
 .rename_i κ a b n g mx
  split at h
  .rename_i e sz hi hs;obtain⟨hu,hsz⟩:=dl hs
   split at h
   .rename_i hc;obtain⟨-,c1,c2,c3⟩:=(show _/\_/\_/\_ by simpa only[both_iff]using hc)
    cases h;obtain⟨A,cap,rfl,g1,g2,g3,g4,g5,g6⟩:=is_R.1 hx
    have ol:∃zl:Option Int,((lv=none/\zl=none)\/∃k z,lv=some (.int k z)/\zl=some z)/\zl.getD 0=0:=by
     rcases w7 c1 e1 i1 with ⟨h,-⟩ | ⟨k,h⟩
     .exact⟨none,.inl ⟨h,rfl⟩,rfl⟩
     .exact⟨some 0,.inr ⟨k,0,h,rfl⟩,rfl⟩
    obtain⟨zl,ol,oz⟩:=ol;rcases w7 c2 e2 i2 with ⟨-,h⟩ | ⟨kh,hh⟩
    .cases h
    rcases w7 c3 e3 i3 with ⟨-,h⟩ | ⟨km,hm⟩
    .cases h
    have hb:=dj (P:=P) (w:=w) (b:=true) (n:=n) (cap:=cap) ol (zh:=some 0) (.inr ⟨kh,0,hh,rfl⟩) (zm:=some 0) (.inr ⟨km,0,hm,rfl⟩) (λ_=>rfl) (by rw[oz];exact Int.le_refl _) (by rw[oz];exact Int.le_refl _) (Int.le_refl _) (Int.natCast_nonneg _)
    rw[oz]at hb;exact⟨_,cR hu hsz hb,is_E.2 ⟨_,rfl⟩⟩
   .cases h
  .cases h
 .cases h
end
end Go.Proofs.YtldmjbgplgoedaaGreatDoor
