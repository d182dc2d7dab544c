import Derived.Test.YtldmjbgplgoedaaGreatDoorRp02
set_option linter.all false
namespace Go.Proofs.YtldmjbgplgoedaaGreatDoor
open Go.RowKit
def lT:Rs->Nat->AV
 |[],_=>.nU
 |x::l,i=>match x with
  |.c y=>match i with
   |0=>y
   |i+1=>lT l i
  |.a n k lo hi f=>match Nat.blt i n with
   |true=>.nI k lo hi (f i)
   |false=>lT l (i-n)
def bc:Rs->Nat->Rs
 |[],_=>[]
 |x::l,n=>match n with
  |0=>x::l
  |n+1=>match x with
   |.c _=>bc l n
   |.a m k lo hi f=>match Nat.ble m (n+1)with
    |true=>bc l (n+1-m)
    |false=>.a (m-(n+1)) k lo hi (λi=>f (i+(n+1)))::l
def hY:Rs->Nat->Rs
 |[],_=>[]
 |x::l,n=>match n with
  |0=>[]
  |n+1=>match x with
   |.c y=>.c y::hY l n
   |.a m k lo hi f=>match Nat.ble m (n+1)with
    |true=>.a m k lo hi f::hY l (n+1-m)
    |false=>[.a (n+1) k lo hi f]
def QK:Rs->Rs->Rs
 |[],b=>b
 |x::a,b=>x::QK a b
def Df (rs:Rs) (o:Nat) (ys:Rs):Rs:=QK (hY rs o) (QK ys (bc rs (Nat.add o (aV ys))))
theorem mt:∀a b:Rs,QK a b=a++b
 |[],_=>rfl
 |x::a,b=>by rw[QK,mt a,List.cons_append]
theorem fO:∀a b:Rs,aq (a++b)=aq a++aq b
 |[],_=>rfl
 |x::a,b=>by rw[List.cons_append,aq,aq,fO a,List.append_assoc]
theorem vq (n m:Nat) (h:m<=n) {α:Type} (f:Nat->α):((List.range n).map f).drop m=(List.range (n-m)).map λi=>f (i+m):=by
 apply List.ext_getElem?
 intro i;rw[List.getElem?_drop,List.getElem?_map,List.getElem?_map]
 by_cases hi:m+i<n
 .rw[List.getElem?_range hi,List.getElem?_range ac];simp only[Option.map_some,Option.some.injEq];rw[Nat.add_comm]
 .rw[List.getElem?_eq_none (by simp;omega),List.getElem?_eq_none (by simp;omega)]
  rfl
theorem vW (n m:Nat) (h:m<=n) {α:Type} (f:Nat->α):((List.range n).map f).take m=(List.range m).map f:=by rw[<-List.map_take,List.take_range,Nat.min_eq_left h]
theorem dY:∀(l:Rs) (n:Nat),aq (bc l n)=(aq l).drop n
 |[],n=>by cases n<;>simp[bc,aq]
 |x::l,0=>by simp[bc]
 |.c y::l,n+1=>by unfold bc;simp only[aq,az,List.singleton_append,List.drop_succ_cons];exact dY l n
 |.a m k lo hi f::l,n+1=>by
  unfold bc;simp only;have hl:(az (.a m k lo hi f)).length=m:=aB _
  split
  .rename_i h;have h:=ble_iff.1 h;have e:(az (.a m k lo hi f)).drop (n+1)=[]:=List.drop_of_length_le (by rw[hl];exact h)
   rw[dY l,aq,List.drop_append,hl,e,List.nil_append]
  .rename_i h;have h:=ble_no.1 h;rw[aq,aq,List.drop_append,hl,show n+1-m=0 by omega,List.drop_zero]
   congr 1
   exact(vq m (n+1) ac (λi=>AV.nI k lo hi (f i))).symm
theorem ej:∀(l:Rs) (n:Nat),aq (hY l n)=(aq l).take n
 |[],n=>by cases n<;>simp[hY,aq]
 |x::l,0=>by simp[hY,aq]
 |.c y::l,n+1=>by unfold hY;simp only[aq,az,List.singleton_append,List.take_succ_cons];rw[ej l n]
 |.a m k lo hi f::l,n+1=>by
  unfold hY;simp only;have hl:(az (.a m k lo hi f)).length=m:=aB _
  split
  .rename_i h;have h:=ble_iff.1 h;have e:(az (.a m k lo hi f)).take (n+1)=az (.a m k lo hi f):=List.take_of_length_le (by rw[hl];exact h)
   rw[aq,aq,ej l,List.take_append,hl,e]
  .rename_i h;have h:=ble_no.1 h;simp only[aq,List.append_nil];rw[List.take_append_of_le_length ac];exact(vW m (n+1) ac (λi=>AV.nI k lo hi (f i))).symm
theorem sy:∀(l:Rs) (i:Nat) (x:AV),(aq l)[i]? = some x->lT l i=x
 |[],i,x,h=>by simp[aq]at h
 |.c y::l,0,x,h=>by simp[aq,az]at h;exact h
 |.c y::l,i+1,x,h=>by simp only[aq,az,List.singleton_append,List.getElem?_cons_succ]at h;exact sy l i x h
 |.a n k lo hi f::l,i,x,h=>by
  unfold lT;simp only;have hl:(az (.a n k lo hi f)).length=n:=aB _
  split
  .rename_i hi;have hi:=blt_iff.1 hi;rw[aq,List.getElem?_append_left ac]at h;simp only[az,List.getElem?_map,List.getElem?_range hi,Option.map_some,Option.some.injEq]at h;exact h
  .rename_i hi;have hi:=blt_no.1 hi;rw[aq,List.getElem?_append_right ac,hl]at h;exact sy l _ x h
theorem EX (a b:Rs):aV (a++b)=aV a+aV b:=by rw[<-aF,fO,List.length_append,aF,aF]
theorem bt (l:Rs) (n:Nat):aV (bc l n)=aV l-n:=by rw[<-aF,dY,List.length_drop,aF]
theorem zQ (l:Rs) (n:Nat):aV (hY l n)=min n (aV l):=by rw[<-aF,ej,List.length_take,aF]
def zAt:Rs->Nat->Int
 |[],_=>0
 |x::l,i=>match x with
  |.c y=>match i with
   |0=>match y with
    |.nI _ _ _ z=>z
    |_=>0
   |i+1=>zAt l i
  |.a n _ _ _ f=>match Nat.blt i n with
   |true=>f i
   |false=>zAt l (i-n)
structure Arr where
 k:IntKind
 lo:Int
 hi:Int
 f:Nat->Int
def Cp (k:IntKind) (lo hi:Int):Option (IntKind × Int × Int)->Option (IntKind × Int × Int)
 |some (k',a,b)=>match ik k k' with
  |true=>some (k,lj lo a,fc hi b)
  |false=>none
 |none=>none
def EM:Rs->Nat->Option (IntKind × Int × Int)
 |[],_=>none
 |x::l,n=>match x with
  |.c y=>match y with
   |.nI k lo hi _=>match n with
    |0=>none
    |1=>some (k,lo,hi)
    |n+1=>Cp k lo hi (EM l n)
   |_=>none
  |.a m k lo hi _=>match Nat.blt m n with
   |false=>some (k,lo,hi)
   |true=>Cp k lo hi (EM l (n-m))
def uS (l:Rs) (n:Nat):Option Arr:=match l with
 |.a m k lo hi f::l'=>match Nat.ble n m with
  |true=>some ⟨k,lo,hi,f⟩
  |false=>match EM (.a m k lo hi f::l') n with
   |some (k2,a,b)=>some ⟨k2,a,b,zAt (.a m k lo hi f::l')⟩
   |none=>none
 |l=>match EM l n with
  |some (k,a,b)=>some ⟨k,a,b,zAt l⟩
  |none=>none
section
variable {K:KT} {c:Cx}
theorem RsOk.drop {rs:Rs} {vs:List Value} (h:RsOk K c rs vs) (n:Nat):RsOk K c (bc rs n) (vs.drop n):=⟨by rw[List.length_drop,bt,h.1],λi x v hx hv=>by rw[dY,List.getElem?_drop]at hx;rw[List.getElem?_drop]at hv;exact h.2 _ x v hx hv⟩
theorem RsOk.take {rs:Rs} {vs:List Value} (h:RsOk K c rs vs) (n:Nat):RsOk K c (hY rs n) (vs.take n):=⟨by rw[List.length_take,zQ,h.1],λi x v hx hv=>by
 rw[ej,List.getElem?_take]at hx;rw[List.getElem?_take]at hv
 split at hx
 .rename_i hi;rw[if_pos hi]at hv;exact h.2 _ x v hx hv
 .cases hx⟩
theorem RsOk.get {rs:Rs} {vs:List Value} (h:RsOk K c rs vs) {i:Nat} {v:Value} (hv:vs[i]? = some v):(lT rs i).is K c v:=by
 have hi:=(List.getElem?_eq_some_iff.1 hv).1;have hl:i<(aq rs).length:=by rw[aF,<-h.1];exact hi
 have:=List.getElem?_eq_getElem hl;rw[sy _ _ _ this];exact h.2 i _ v this hv
theorem RsOk.put {rs ys:Rs} {vs us:List Value} {o:Nat} (h:RsOk K c rs vs) (hy:RsOk K c ys us) (ho:o+us.length<=vs.length):RsOk K c (Df rs o ys) (vs.take o++(us++vs.drop (o+us.length))):=by
 unfold Df;rw[mt,mt];have e:Nat.add o (aV ys)=o+us.length:=by rw[hy.1];rfl
 rw[e];exact(h.take o).append (hy.append (h.drop _))
theorem nj:∀(l:Rs) (i:Nat) (k:IntKind) (lo hi z:Int),(aq l)[i]? = some (.nI k lo hi z)->zAt l i=z
 |[],i,k,lo,hi,z,h=>by simp[aq]at h
 |.c y::l,0,k,lo,hi,z,h=>by simp[aq,az]at h;subst h;rfl
 |.c y::l,i+1,k,lo,hi,z,h=>by simp only[aq,az,List.singleton_append,List.getElem?_cons_succ]at h;exact nj l i k lo hi z h
 |.a n k' a b f::l,i,k,lo,hi,z,h=>by
  unfold zAt;simp only;have hl:(az (.a n k' a b f)).length=n:=aB _
  split
  .rename_i hi;have hi:=blt_iff.1 hi;rw[aq,List.getElem?_append_left ac]at h;simp only[az,List.getElem?_map,List.getElem?_range hi,Option.map_some,Option.some.injEq,AV.nI.injEq]at h;exact h.2.2.2
  .rename_i hi2;have hi2:=blt_no.1 hi2;rw[aq,List.getElem?_append_right ac,hl]at h;exact nj l _ k lo hi z h
theorem mh {k k':IntKind} {lo hi a b:Int} {o:Option (IntKind × Int × Int)} (h:Cp k lo hi o=some (k',a,b)):k'=k/\∃a' b',o=some (k,a',b')/\a=min lo a'/\b=max hi b':=by
 unfold Cp at h
 split at h
 .rename_i k2 a' b'
  split at h
  .rename_i e;have:=dD e;subst this;simp only[Option.some.injEq,Prod.mk.injEq]at h;obtain⟨rfl,rfl,rfl⟩:=h;exact⟨rfl,a',b',rfl,cD _ _,co _ _⟩
  .cases h
 .cases h
theorem ki:∀(l:Rs) (n:Nat) {k:IntKind} {a b:Int},EM l n=some (k,a,b)->n<=(aq l).length/\∀i,i<n->∃lo hi z,(aq l)[i]? = some (.nI k lo hi z)/\a<=lo/\hi<=b
 |[],n,k,a,b,h=>by simp[EM]at h
 |.c y::l,n,k,a,b,h=>by
  unfold EM at h;simp only at h
  split at h
  .rename_i k' lo hi z
   split at h
   .cases h
   .simp only[Option.some.injEq,Prod.mk.injEq]at h;obtain⟨rfl,rfl,rfl⟩:=h;refine⟨by simp[aq,az],λi hi=>?_⟩
    have:i=0:=ac;subst this;exact⟨_,_,_,rfl,Int.le_refl _,Int.le_refl _⟩
   .rename_i n' hn;obtain⟨rfl,a',b',h1,rfl,rfl⟩:=mh h;obtain⟨g1,g2⟩:=ki l n' h1;refine⟨by simp[aq,az];omega,λi hi=>?_⟩
    cases i with
    |zero=>exact⟨_,_,_,rfl,ac,ac⟩
    |succ i =>obtain⟨x,y,z,e1,e2,e3⟩:=g2 i ac;exact⟨x,y,z,by simpa[aq,az]using e1,ac,ac⟩
  .cases h
 |.a m k' lo hi f::l,n,k,a,b,h=>by
  unfold EM at h;simp only at h;have hl:(az (.a m k' lo hi f)).length=m:=aB _
  split at h
  .rename_i hm;have hm:=blt_no.1 hm;simp only[Option.some.injEq,Prod.mk.injEq]at h;obtain⟨rfl,rfl,rfl⟩:=h;refine⟨by rw[aq,List.length_append,hl];omega,λi hin=>⟨_,_,f i,?_,Int.le_refl _,Int.le_refl _⟩⟩
   rw[aq,List.getElem?_append_left ac];simp only[az,List.getElem?_map,List.getElem?_range (by omega:i<m),Option.map_some]
  .rename_i hm;have hm:=blt_iff.1 hm;obtain⟨rfl,a',b',h1,rfl,rfl⟩:=mh h;obtain⟨g1,g2⟩:=ki l (n-m) h1;refine⟨by rw[aq,List.length_append,hl];omega,λi hi'=>?_⟩
   by_cases him:i<m
   .refine⟨lo,hi,f i,?_,ac,ac⟩;rw[aq,List.getElem?_append_left ac];simp only[az,List.getElem?_map,List.getElem?_range him,Option.map_some]
   .obtain⟨x,y,z,e1,e2,e3⟩:=g2 (i-m) ac;exact⟨x,y,z,by rw[aq,List.getElem?_append_right ac,hl];exact e1,ac,ac⟩
theorem dc {l:Rs} {n:Nat} {A:Arr} {vs:List Value} (h:uS l n=some A) (hv:RsOk K c l vs):n<=vs.length/\∀i,i<n->vs[i]? = some (.int A.k (A.f i))/\A.lo<=A.f i/\A.f i<=A.hi/\inR A.k (A.f i):=by
 have gen:∀ {l:Rs} {k:IntKind} {a b:Int},RsOk K c l vs->EM l n=some (k,a,b)->n<=vs.length/\∀i,i<n->vs[i]? = some (.int k (zAt l i))/\a<=zAt l i/\zAt l i<=b/\inR k (zAt l i):=λ{l k a b} hv hb=>by
  obtain⟨g1,g2⟩:=ki l n hb;rw[aF,<-hv.1]at g1;refine⟨g1,λi hi=>?_⟩;obtain⟨lo,hi',z,e1,e2,e3⟩:=g2 i hi;have e4:=List.getElem?_eq_getElem (show i<vs.length by omega)
  obtain⟨q1,q2,q3,q4⟩:=is_I.1 (hv.2 i _ _ e1 e4);rw[nj _ _ _ _ _ _ e1,e4,q1];exact⟨rfl,ac,ac,q4⟩
 unfold uS at h
 split at h
 .rename_i m k lo hi f l'
  split at h
  .rename_i hm;have hm:=ble_iff.1 hm;cases h;have hl:(az (.a m k lo hi f)).length=m:=aB _;have hlen:n<=vs.length:=by rw[hv.1,aV];simp only[bi];omega
   refine⟨hlen,λi hin=>?_⟩;have e4:=List.getElem?_eq_getElem (show i<vs.length by omega)
   have e1:(aq (.a m k lo hi f::l'))[i]? = some (.nI k lo hi (f i)):=by rw[aq,List.getElem?_append_left ac];simp only[az,List.getElem?_map,List.getElem?_range (by omega:i<m),Option.map_some]
   obtain⟨q1,q2,q3,q4⟩:=is_I.1 (hv.2 i _ _ e1 e4);rw[e4,q1];exact⟨rfl,q2,q3,q4⟩
  .split at h
   .rename_i k2 a b hb;cases h;exact gen hv hb
   .cases h
 .split at h
  .rename_i k a b hb;cases h;exact gen hv hb
  .cases h
end
end Go.Proofs.YtldmjbgplgoedaaGreatDoor
namespace Go.Proofs.YtldmjbgplgoedaaGreatDoor
open Go.RowKit
section
variable {P:Program} {K:KT} {w0 w w':World} {c0 c c':Cx} {mem mem':List AB}
theorem AM.F_lt (h:AM K w0 c0 c mem w) {b:Nat} (hb:(c.F b).isSome=true):b<w.heap.size:=by obtain⟨⟨ty,cs⟩,e⟩:=Option.isSome_iff_exists.1 hb;exact(h.fr b ty cs e).lt
theorem AM.F_new (h:AM K w0 c0 c mem w):c.F w.heap.size=none:=by
 cases hq:c.F w.heap.size with
 |none=>rfl
 |some x=>have:=h.F_lt (b:=w.heap.size) (by rw[hq];rfl);omega
theorem abOk.step {id:Nat} {ab:AB} (h:abOk K c w id ab) (hle:c.le c') {j:Nat} (hj:c.ρ j=some id) (hF:c'.F id=c.F id) (hb:w'.heap[id]? = w.heap[id]?):abOk K c' w' id ab:=by
 cases ab with
 |run ty rs =>obtain⟨h1,cs,h2,h3⟩:=h;exact⟨hF.trans h1,cs,hb.trans h2,h3.mono hle⟩
 |dyn ty κ a b n g fz =>obtain⟨h1,h2,cs,h3,h3',h4,h5,h6⟩:=h;exact⟨h1,h2,cs,hb.trans h3,by rw[hle.sz _ _ hj];exact h3',h4,λe he=>(h5 e he).mono hle,hF.trans h6⟩
 |dead=>trivial
theorem AM.upd {S:Nat->Prop} (h:AM K w0 c0 c mem w) (k:Keep S w w') (hS:∀b,S b->(∃j,c.ρ j=some b)\/w.heap.size<=b) (hle:c.le c')
 (dom:∀j id,c'.ρ j=some id->j<mem'.length/\id<w'.heap.size) (nd:∀i j id x y,c'.ρ i=some id->c'.ρ j=some id->mem'[i]? = some x->mem'[j]? = some y->fQ x=true->fQ y=true->i=j) (new:∀j id,c'.ρ j=some id->(∃i,c.ρ i=some id)\/w.heap.size<=id)
 (newF:∀b,(c'.F b).isSome=true->(c.F b).isSome=true\/(∃i,c.ρ i=some b)\/w.heap.size<=b) (kn:∀(j id:Nat) (ab:AB),c'.ρ j=some id->mem'[j]? = some ab->abOk K c' w' id ab) (fr:∀b ty cs,c'.F b=some (ty,cs)->BlkF w' b ty cs):AM K w0 c0 c' mem' w' where
 os:=k.os.trans h.os
 tape:=k.tape.trans h.tape
 output:=k.output.trans h.output
 size:=Nat.le_trans h.size k.size
 frame:=λb hb h1=>by
  rw[k.block b (Nat.lt_of_lt_of_le hb h.size) λhs=>?_,h.frame b hb h1];rcases hS b hs with ⟨j,h3⟩ | h3
  .rcases h.new j b h3 with ⟨i,h4⟩ | h4
   .exact h1 i h4
   .omega
  .have:=h.size;omega
 le:=Cx.le_trans h.le hle
 dom:=dom
 nd:=nd
 new:=λj id hi=>by
  rcases new j id hi with ⟨i,h1⟩ | h1
  .exact h.new i id h1
  .exact .inr (Nat.le_trans h.size h1)
 newF:=λb hb=>by
  rcases newF b hb with h1 | ⟨i,h1⟩ | h1
  .exact h.newF b h1
  .rcases h.new i b h1 with h2 | h2
   .exact .inr (.inl h2)
   .exact .inr (.inr h2)
  .exact .inr (.inr (Nat.le_trans h.size h1))
 kn:=kn
 fr:=fr
theorem AM.keep (h:AM K w0 c0 c mem w) (k:Keep PP w w'):AM K w0 c0 c mem w' :=h.upd k (λ_ e=>e.elim) (Cx.le_refl _) (λj id e=>⟨(h.dom j id e).1,Nat.lt_of_lt_of_le (h.dom j id e).2 k.size⟩) h.nd (λj _ e=>.inl ⟨j,e⟩) (λ_ e=>.inl e) (λj id ab h1 h2=>(h.kn j id ab h1 h2).step (Cx.le_refl _) h1 rfl (k.block id (h.dom j id h1).2 λe=>e)) λb ty cs e=>(h.fr b ty cs e).step (k.block b (h.F_lt (by rw[e];rfl)) λe=>e)
def Cx.at_ (c:Cx) (j id N:Nat):Cx:=⟨λi=>match Nat.beq i j with
 |true=>some id
 |false=>c.ρ i,c.F,λb=>if b=id then N else c.sz b,c.D⟩
theorem Cx.at_sz (c:Cx) (j id N:Nat):(c.at_ j id N).sz id=N:=if_pos rfl
theorem Cx.at_self (c:Cx) (j id N:Nat):(c.at_ j id N).ρ j=some id:=by have:Nat.beq j j=true:=Nat.beq_refl j;simp only[Cx.at_,this]
theorem Cx.at_ne (c:Cx) {j i:Nat} (id N:Nat) (h:i≠j):(c.at_ j id N).ρ i=c.ρ i:=by
 have:Nat.beq i j=false:=by
  cases hb:Nat.beq i j
  .rfl
  .exact absurd (Nat.eq_of_beq_eq_true hb) h
 simp only[Cx.at_,this]
theorem Cx.le_put {c:Cx} {j:Nat} (id N:Nat) (h:c.ρ j=none) (hN:∀i,c.ρ i=some id->N=c.sz id):c.le (c.at_ j id N):=⟨λi id' e=>by
 by_cases hi:i=j
 .subst hi;rw[h]at e;cases e
 .rw[Cx.at_ne c id N hi];exact e,λ_ _ h=>h,λi id' e=>by
 show(if id'=id then N else c.sz id')=_
 split
 .rename_i e2;subst e2;exact hN i e
 .rfl,rfl⟩
theorem Cx.at_or {j id N i b:Nat} (e:(c.at_ j id N).ρ i=some b):(i=j/\b=id)\/(i≠j/\c.ρ i=some b):=by
 by_cases hi:i=j
 .subst hi;rw[Cx.at_self]at e;cases e;exact .inl ⟨rfl,rfl⟩
 .rw[Cx.at_ne c _ _ hi]at e;exact .inr ⟨hi,e⟩
theorem AM.le_new (h:AM K w0 c0 c mem w) {p:Nat} (N:Nat) (hn:c.ρ p=none):c.le (c.at_ p w.heap.size N):=Cx.le_put _ _ hn λi e=>by have:=(h.dom i _ e).2;omega
theorem AM.grow (h:AM K w0 c0 c mem w) (l:List AB):AM K w0 c0 c (mem++l) w/\∀i,c.ρ (mem.length+i)=none:=by
 refine⟨⟨h.os,h.tape,h.output,h.size,h.frame,h.le,λj id e=>⟨by have:=(h.dom j id e).1;simp;omega,(h.dom j id e).2⟩,λi j id x y e1 e2 g1 g2=>?_,h.new,h.newF,λj id ab' h1 h2=>?_,h.fr⟩,λi=>?_⟩
 .rw[List.getElem?_append_left (h.dom i id e1).1]at g1;rw[List.getElem?_append_left (h.dom j id e2).1]at g2;exact h.nd i j id x y e1 e2 g1 g2
 .rw[List.getElem?_append_left (h.dom j id h1).1]at h2;exact h.kn j id ab' h1 h2
 .cases hq:c.ρ (mem.length+i)with
  |none=>rfl
  |some id=>have:=(h.dom _ _ hq).1;omega
theorem ci {l:List AB} {p i:Nat} {a b:AB} (h:(l.set p a)[i]? = some b):(i=p/\b=a)\/(i≠p/\l[i]? = some b):=by
 by_cases e:p=i
 .subst e;rw[List.getElem?_set_self']at h
  cases hq:l[p]? with
  |none=>rw[hq]at h;cases h
  |some x=>rw[hq]at h;cases h;exact .inl ⟨rfl,rfl⟩
 .rw[List.getElem?_set_ne e]at h;exact .inr ⟨λe'=>e e'.symm,h⟩
theorem AM.allocAt (h:AM K w0 c0 c mem w) {p N:Nat} {ab:AB} {cs:Array Value} {ty:TypeId} (hp:p<mem.length) (hn:c.ρ p=none) (hab:abOk K (c.at_ p w.heap.size N) (w.alloc (.cells cs ty)) w.heap.size ab):AM K w0 c0 (c.at_ p w.heap.size N) (mem.set p ab) (w.alloc (.cells cs ty)):=by
 have k:Keep PP w (w.alloc (.cells cs ty)):=(Keep.refl _ _).alloc _;have hsz:w.heap.size<(w.alloc (.cells cs ty)).heap.size:=(Blk.new w ty cs).lt;refine h.upd k (λ_ e=>e.elim) (h.le_new N hn) (λi id e=>?_) (λi j id x y e1 e2 g1 g2 l1 l2=>?_) (λi id e=>?_) (λ_ e=>.inl e) (λi id ab' h1 h2=>?_) λb ty cs e=>(h.fr b ty cs e).step (k.block b (h.F_lt (by rw[show c.F b=some _ from e];rfl)) λe=>e)
 .rw[List.length_set];rcases Cx.at_or e with ⟨rfl,rfl⟩ | ⟨-,e⟩
  .exact⟨hp,hsz⟩
  .exact⟨(h.dom i id e).1,Nat.lt_of_lt_of_le (h.dom i id e).2 k.size⟩
 .rcases Cx.at_or e1 with ⟨q1,q2⟩ | ⟨q1,e1⟩<;>rcases Cx.at_or e2 with ⟨q3,q4⟩ | ⟨q3,e2⟩
  .omega
  .have:=(h.dom _ _ e2).2;omega
  .have:=(h.dom _ _ e1).2;omega
  .rcases ci g1 with ⟨r1,-⟩ | ⟨-,g1⟩
   .exact absurd r1 q1
   rcases ci g2 with ⟨r1,-⟩ | ⟨-,g2⟩
   .exact absurd r1 q3
   exact h.nd i j id x y e1 e2 g1 g2 l1 l2
 .rcases Cx.at_or e with ⟨-,q⟩ | ⟨-,e⟩
  .exact .inr (Nat.le_of_eq q.symm)
  .exact .inl ⟨i,e⟩
 .rcases Cx.at_or h1 with ⟨rfl,rfl⟩ | ⟨hne,e1⟩
  .rcases ci h2 with ⟨-,rfl⟩ | ⟨q,-⟩
   .exact hab
   .exact absurd rfl q
  .rcases ci h2 with ⟨q,-⟩ | ⟨-,h2⟩
   .exact absurd q hne
   exact(h.kn i id ab' e1 h2).step (h.le_new N hn) e1 rfl (k.block id (h.dom i id e1).2 λe=>e)
theorem AM.kill (h:AM K w0 c0 c mem w) (j:Nat):AM K w0 c0 c (mem.set j .dead) w :=
 h.upd (Keep.refl PP w) (λ_ e=>e.elim) (Cx.le_refl _) (λi id e=>by rw[List.length_set];exact h.dom i id e) (λi i' id x y e1 e2 g1 g2 l1 l2=>by
  rcases ci g1 with ⟨-,r⟩ | ⟨-,g1⟩
  .rw[r]at l1;cases l1
  rcases ci g2 with ⟨-,r⟩ | ⟨-,g2⟩
  .rw[r]at l2;cases l2
  exact h.nd i i' id x y e1 e2 g1 g2 l1 l2) (λi _ e=>.inl ⟨i,e⟩) (λ_ e=>.inl e) (λi id ab h1 h2=>by
  rcases ci h2 with ⟨-,r⟩ | ⟨-,h2⟩
  .rw[r];trivial
  .exact h.kn i id ab h1 h2) h.fr
theorem AM.storeAt (h:AM K w0 c0 c mem w) {j id:Nat} {ab ab':AB} {S:Nat->Prop} (hj:c.ρ j=some id) (hm:mem[j]? = some ab) (hl:fQ ab=true) (k:Keep S w w') (hS:∀b,S b->b=id/\c.F id=none) (hab:abOk K c w' id ab'):AM K w0 c0 c (mem.set j ab') w':=by
 refine h.upd k (λb e=>.inl ⟨j,by rw[(hS b e).1];exact hj⟩) (Cx.le_refl _) (λi id e=>by rw[List.length_set];exact⟨(h.dom i id e).1,Nat.lt_of_lt_of_le (h.dom i id e).2 k.size⟩) (λi i' id' x y e1 e2 g1 g2 l1 l2=>?_) (λi _ e=>.inl ⟨i,e⟩) (λ_ e=>.inl e) (λi id' ab2 h1 h2=>?_) (λb ty cs e=>(h.fr b ty cs e).step (k.block b (h.F_lt (by rw[e];rfl)) λhs=>?_))
 .rcases ci g1 with ⟨r1,r2⟩ | ⟨r1,k1⟩<;>rcases ci g2 with ⟨r3,r4⟩ | ⟨r3,k2⟩
  .omega
  .subst r1;rw[hj]at e1;cases e1;exact h.nd i i' id ab y hj e2 hm k2 hl l2
  .subst r3;rw[hj]at e2;cases e2;exact h.nd i i' id x ab e1 hj k1 hm l1 hl
  .exact h.nd i i' id' x y e1 e2 k1 k2 l1 l2
 .rcases ci h2 with ⟨rfl,rfl⟩ | ⟨hne,h2⟩
  .rw[hj]at h1;cases h1;exact hab
  .cases hl2:fQ ab2 with
   |false=>cases ab2<;>first|trivial | cases hl2
   |true =>refine(h.kn i id' ab2 h1 h2).step (Cx.le_refl _) h1 rfl (k.block id' (h.dom i id' h1).2 λhs=>?_);have e:=(hS id' hs).1;subst e;exact hne (h.nd i j id' ab2 ab h1 hj h2 hm hl2 hl)
 .have e2:=hS b hs;rw[e2.1,e2.2]at e;cases e
def Cx.frz (c:Cx) (id:Nat) (x:TypeId × Array Value):Cx:=⟨c.ρ,λb=>match Nat.beq b id with
 |true=>some x
 |false=>c.F b,c.sz,c.D⟩
theorem Cx.frz_self (c:Cx) (id:Nat) (x:TypeId × Array Value):(c.frz id x).F id=some x:=by have:Nat.beq id id=true:=Nat.beq_refl id;simp only[Cx.frz,this]
theorem Cx.frz_ne (c:Cx) {id b:Nat} (x:TypeId × Array Value) (h:b≠id):(c.frz id x).F b=c.F b:=by
 have:Nat.beq b id=false:=by
  cases hb:Nat.beq b id
  .rfl
  .exact absurd (Nat.eq_of_beq_eq_true hb) h
 simp only[Cx.frz,this]
theorem Cx.le_frz {c:Cx} {id:Nat} {x:TypeId × Array Value} (h:c.F id=none):c.le (c.frz id x):=⟨λ_ _ e=>e,λb y e=>by
 by_cases hb:b=id
 .subst hb;rw[h]at e;cases e
 .rw[Cx.frz_ne c x hb];exact e,λ_ _ _=>rfl,rfl⟩
theorem AM.freeze (h:AM K w0 c0 c mem w) {j id:Nat} {ty:TypeId} {κ a b n:Nat} {g:Nat->List Lf} (hj:c.ρ j=some id) (hm:mem[j]? = some (.dyn ty κ a b n g false)):∃x,c.F id=none/\AM K w0 c0 (c.frz id x) (mem.set j (.dyn ty κ a b n g true)) w:=by
 obtain⟨h1,h2,cs,h3,h3',h4,h5,h6⟩:=h.kn j id _ hj hm;have h6:c.F id=none:=h6;refine⟨(ty,cs),h6,?_⟩;have hle:=Cx.le_frz (x:=(ty,cs)) h6;refine h.upd (Keep.refl PP w) (λ_ e=>e.elim) hle (λi id e=>by rw[List.length_set];exact h.dom i id e) (λi i' id' x y e1 e2 g1 g2 l1 l2=>?_) (λi _ e=>.inl ⟨i,e⟩) (λb e=>?_) (λi id' ab2 e1 e2=>?_) λb ty' cs' e=>?_
 .rcases ci g1 with ⟨r1,r2⟩ | ⟨r1,k1⟩<;>rcases ci g2 with ⟨r3,r4⟩ | ⟨r3,k2⟩
  .omega
  .subst r1;exact h.nd i i' id' _ y e1 e2 hm k2 rfl l2
  .subst r3;exact h.nd i i' id' x _ e1 e2 k1 hm l1 rfl
  .exact h.nd i i' id' x y e1 e2 k1 k2 l1 l2
 .by_cases hb:b=id
  .subst hb;exact .inr (.inl ⟨j,hj⟩)
  .rw[Cx.frz_ne c _ hb]at e;exact .inl e
 .rcases ci e2 with ⟨rfl,rfl⟩ | ⟨hne,e2⟩
  .have e1:c.ρ i=some id':=e1;rw[hj]at e1;cases e1;exact⟨h1,h2,cs,h3,h3',h4,λe he=>(h5 e he).mono hle,Cx.frz_self c id _⟩
  .cases hl2:fQ ab2 with
   |false=>cases ab2<;>first|trivial | cases hl2
   |true =>refine(h.kn i id' ab2 e1 e2).step hle (j:=i) e1 (Cx.frz_ne c _ λe=>?_) rfl;subst e;exact hne (h.nd i j id' ab2 _ e1 hj e2 hm hl2 rfl)
 .by_cases hb:b=id
  .subst hb;rw[Cx.frz_self]at e;cases e;exact h3.F
  .rw[Cx.frz_ne c _ hb]at e;exact h.fr b ty' cs' e
theorem AM.move (h:AM K w0 c0 c mem w) {j id p:Nat} {ab:AB} {S:Nat->Prop} (hj:c.ρ j=some id) (hjp:mem[j]? = some ab) (hl:fQ ab=true) (hp:p<mem.length) (hn:c.ρ p=none) (k:Keep S w w') (hS:∀b,S b->b=id/\c.F id=none) {ab':AB} (hab:abOk K (c.at_ p id (c.sz id)) w' id ab'):AM K w0 c0 (c.at_ p id (c.sz id)) ((mem.set j .dead).set p ab') w':=by
 have hpj:j≠p:=λe=>by subst e;rw[hj]at hn;cases hn
 refine h.upd k (λb e=>.inl ⟨j,by rw[(hS b e).1];exact hj⟩) (Cx.le_put _ _ hn λ_ _=>rfl) (λi id' e=>?_) (λi i' id' x y e1 e2 g1 g2 l1 l2=>?_) (λi id' e=>?_) (λ_ e=>.inl e) (λi id' ab2 h1 h2=>?_) (λb ty cs e=>(h.fr b ty cs e).step (k.block b (h.F_lt (by rw[show c.F b=some _ from e];rfl)) λhs=>?_))
 .rw[List.length_set,List.length_set];rcases Cx.at_or e with ⟨rfl,rfl⟩ | ⟨-,e⟩
  .exact⟨hp,Nat.lt_of_lt_of_le (h.dom j _ hj).2 k.size⟩
  .exact⟨(h.dom i id' e).1,Nat.lt_of_lt_of_le (h.dom i id' e).2 k.size⟩
 .have old:∀ {i:Nat} {x:AB},i≠p->((mem.set j .dead).set p ab')[i]? = some x->fQ x=true->i≠j/\mem[i]? = some x:=λ{i x} hi g l=>by
   rcases ci g with ⟨r,-⟩ | ⟨-,g⟩
   .exact absurd r hi
   rcases ci g with ⟨-,r⟩ | ⟨r,g⟩
   .rw[r]at l;cases l
   .exact⟨r,g⟩
  rcases Cx.at_or e1 with ⟨q1,q2⟩ | ⟨q1,k1⟩<;>rcases Cx.at_or e2 with ⟨q3,q4⟩ | ⟨q3,k2⟩
  .omega
  .subst q2;obtain⟨r1,r2⟩:=old q3 g2 l2;exact absurd (h.nd i' j id' y ab k2 hj r2 hjp l2 hl) r1
  .subst q4;obtain⟨r1,r2⟩:=old q1 g1 l1;exact absurd (h.nd i j id' x ab k1 hj r2 hjp l1 hl) r1
  .exact h.nd i i' id' x y k1 k2 (old q1 g1 l1).2 (old q3 g2 l2).2 l1 l2
 .rcases Cx.at_or e with ⟨-,rfl⟩ | ⟨-,e⟩
  .exact .inl ⟨j,hj⟩
  .exact .inl ⟨i,e⟩
 .rcases Cx.at_or h1 with ⟨rfl,rfl⟩ | ⟨hne,e1⟩
  .rcases ci h2 with ⟨-,rfl⟩ | ⟨q,-⟩
   .exact hab
   .exact absurd rfl q
  .rcases ci h2 with ⟨q,-⟩ | ⟨-,h2⟩
   .exact absurd q hne
   rcases ci h2 with ⟨-,rfl⟩ | ⟨hij,h2⟩
   .trivial
   cases hl2:fQ ab2 with
   |false=>cases ab2<;>first|trivial | cases hl2
   |true =>refine(h.kn i id' ab2 e1 h2).step (Cx.le_put _ _ hn λ_ _=>rfl) e1 rfl (k.block id' (h.dom i id' e1).2 λhs=>?_);have e:=(hS id' hs).1;subst e;exact hij (h.nd i j id' ab2 ab e1 hj h2 hjp hl2 hl)
 .have e2:=hS b hs;have e:c.F b=some _:=e;rw[e2.1,e2.2]at e;cases e
theorem eI {e p m:Nat} (h:e<p):e*m+m<=p*m:=by
 have:(e+1)*m<=p*m:=Nat.mul_le_mul_right m h
 rwa [Nat.add_mul,Nat.one_mul]at this
theorem iM {cs:Array Value} {m e i:Nat}:(elt cs m e)[i]? = if i<m then cs[e*m+i]? else none:=by
 rw[List.getElem?_take]
 split
 .rw[List.getElem?_drop,Array.getElem?_toList]
 .rfl
theorem rU {cs:Array Value} {o m e:Nat} {vs:List Value} (hn:o+vs.length<=cs.size) (h:e*m+m<=o\/o+vs.length<=e*m):elt (laid cs o vs) m e=elt cs m e:=by
 apply List.ext_getElem?
 intro i;rw[iM,iM]
 by_cases hi:i<m
 .rw[if_pos hi,if_pos hi,bM _ _ _ _ hn]
  split
  .rfl
  .rename_i g;rw[if_neg ac]
 .rw[if_neg hi,if_neg hi]
theorem JJ {cs:Array Value} {e0 n m e:Nat} {vs:List Value} (hn:e0*m+vs.length<=cs.size) (hv:vs.length=n*m) (h1:e0<=e) (h2:e<e0+n):elt (laid cs (e0*m) vs) m e=(vs.drop ((e-e0)*m)).take m:=by
 have q1:e0*m+(e-e0)*m=e*m:=by rw[<-Nat.add_mul];congr 1;omega
 have q2:=eI (m:=m) (show e-e0<n by omega)
 apply List.ext_getElem?
 intro i;rw[iM,List.getElem?_take]
 by_cases hi:i<m
 .rw[if_pos hi,if_pos hi,bM _ _ _ _ hn,if_neg ac,if_pos ac,List.getElem?_drop]
  congr 1
  omega
 .rw[if_neg hi,if_neg hi]
theorem E9 {cs:Array Value} {m e d N:Nat} {vs:List Value} (hs:N*m<=cs.size) (he:e<N) (h:d+vs.length<=m):elt (laid cs (e*m+d) vs) m e=(laid (elt cs m e).toArray d vs).toList:=by
 have q:=eI (m:=m) he;have hl:(elt cs m e).toArray.size=m:=by rw[List.size_toArray,List.length_take,List.length_drop,Array.length_toList];omega
 have hE:∀i:Nat,(elt cs m e).toArray[i]? = if i<m then cs[e*m+i]? else none:=λi=>by rw[List.getElem?_toArray,iM]
 apply List.ext_getElem?
 intro i;rw[iM,Array.getElem?_toList,bM _ _ (elt cs m e).toArray _ ac,hE]
 by_cases hi:i<m
 .rw[if_pos hi,bM _ _ _ _ ac,if_pos hi]
  by_cases h1:i<d
  .rw[if_pos h1,if_pos ac]
  .rw[if_neg h1,if_neg ac]
   by_cases h2:i<d+vs.length
   .rw[if_pos h2,if_pos ac]
    congr 1
    omega
   .rw[if_neg h2,if_neg ac]
 .rw[if_neg hi,if_neg ac,if_neg ac,if_neg hi]
end
end Go.Proofs.YtldmjbgplgoedaaGreatDoor
