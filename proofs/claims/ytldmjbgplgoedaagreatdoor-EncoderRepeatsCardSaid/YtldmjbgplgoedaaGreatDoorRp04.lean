import Derived.Test.YtldmjbgplgoedaaGreatDoorRp03
set_option linter.all false
namespace Go.Proofs.YtldmjbgplgoedaaGreatDoor
open Go.RowKit
def aci (P:Program) (s:TypeId) (f:Nat):Option Nat:=match P.underlying s with
 |some (.struct fs)=>match fs[f]? with
  |some fd=>match P.info? fd.type with
   |some i=>match i.size with
    |0=>none
    |_+1=>some fd.offset
   |none=>none
  |none=>none
 |_=>none
def pX (P:Program) (t:TypeId):Option (Option Nat):=match P.underlying t,P.info? t with
 |some (.struct _),some i=>some (some i.size)
 |some (.array _ _),some i=>some (some i.size)
 |some _,some i=>match i.size with
  |1=>some none
  |_=>none
 |_,_=>none
def slT (P:Program) (t:TypeId):Option (TypeId × Nat):=match P.underlying t with
 |some (.slice e)=>match P.info? e with
  |some i=>some (e,i.size)
  |none=>none
 |_=>none
def arT (P:Program) (t:TypeId):Option (Nat × Nat):=match P.underlying t with
 |some (.array n e)=>match P.info? e with
  |some i=>some (n,i.size)
  |none=>none
 |_=>none
def Q2 (P:Program) (t:TypeId):Option IntKind:=match P.underlying t with
 |some (.int k)=>some k
 |_=>none
def be:List AB->Nat->Option AB
 |[],_=>none
 |b::l,n=>match n with
  |0=>some b
  |n+1=>be l n
theorem aP:∀(l:List AB) (n:Nat),be l n=l[n]?
 |[],n=>by simp[be]
 |b::l,0=>rfl
 |b::l,n+1=>by rw[be];simp only[List.getElem?_cons_succ];exact aP l n
abbrev GT:=List (Nat × Rs)
def iQ:GT->Nat->Option Rs
 |[],_=>none
 |(u,r)::l,t=>match Nat.beq u t with
  |true=>some r
  |false=>iQ l t
def GOk (K:KT) (G:GT) (c:Cx):Prop:=∀g rs,iQ G g=some rs->∃ty cs,c.F g=some (ty,cs)/\RsOk K c rs cs.toList
theorem GOk.le {K:KT} {G:GT} {c c':Cx} (h:GOk K G c) (hl:c.le c'):GOk K G c':=λg rs e=>by obtain⟨ty,cs,h1,h2⟩:=h g rs e;exact⟨ty,cs,hl.F _ _ h1,h2.mono hl⟩
def bAt:List Bool->Nat->Bool
 |[],_=>false
 |x::l,n=>match n with
  |0=>x
  |n+1=>bAt l n
def kB:Rs->Nat->Option (List Bool)
 |_,0=>some []
 |l,n+1=>match l with
  |.c (.nB _ _ x)::l=>match kB l n with
   |some bs=>some (x::bs)
   |none=>none
  |_=>none
def ZJ (e:Nat) (x:Bool):List Bool->Nat->Rs
 |[],_=>[]
 |y::l,k=>.c (.nB true true (bif Nat.beq e k then x else y))::ZJ e x l (Nat.add k 1)
theorem ig {K:KT} {c:Cx}:∀ {n:Nat} {l:Rs} {bs:List Bool} {vs:List Value},kB l n=some bs->RsOk K c l vs->bs.length=n/\n<=vs.length/\∀i,i<n->vs[i]? = some (.bool (bAt bs i))
 |0,l,bs,vs,h,hv=>by
  have:bs=[]:=by cases l<;>· unfold kB at h;cases h;rfl
  subst this;exact⟨rfl,Nat.zero_le _,λi hi=>absurd hi (Nat.not_lt_zero i)⟩
 |n+1,l,bs,vs,h,hv=>by
  unfold kB at h
  split at h
  .rename_i f t x l
   split at h
   .rename_i bs' h';cases h;have hl:=hv.1;simp only[aV,bi]at hl
    cases vs with
    |nil=>simp at hl;omega
    |cons v vs =>
     have h0:v=.bool x:=(is_B.1 (hv.2 0 (.nB f t x) v rfl rfl)).1;have hr:RsOk K c l vs:=⟨by simp at hl;omega,λi y u h1 h2=>hv.2 (i+1) y u (by simpa[aq,az]using h1) (by simpa using h2)⟩
     obtain⟨g1,g2,g3⟩:=ig h' hr;refine⟨by simp[g1],by simp;omega,λi hi=>?_⟩
     cases i with
     |zero=>rw[h0];rfl
     |succ i=>simpa[bAt]using g3 i ac
   .cases h
  .cases h
theorem yg {K:KT} {c:Cx} {e:Nat} {x:Bool}:∀ {l:List Bool} {k:Nat} {vs:List Value},vs.length=l.length->(∀i,i<l.length->vs[i]? = some (.bool (bif Nat.beq e (k+i)then x else bAt l i)))->RsOk K c (ZJ e x l k) vs
 |[],k,vs,hl,_=>by
  cases vs with
  |nil=>exact RsOk.nil
  |cons v vs=>simp at hl
 |y::l,k,[],hl,_=>by simp at hl
 |y::l,k,v::vs,hl,h=>by
  have h0:=h 0 (by simp)
  have h0:v=.bool (bif Nat.beq e k then x else y):=by simpa[bAt]using h0
  have:=RsOk.append (RsOk.one (K:=K) (c:=c) (x:=.nB true true (bif Nat.beq e k then x else y)) (v:=v) (is_B.2 ⟨h0,λ_=>rfl,λ_=>rfl⟩)) (yg (K:=K) (c:=c) (e:=e) (x:=x) (l:=l) (k:=k+1) (vs:=vs) (by simpa using hl) λi hi=>by
   have:=h (i+1) (by simp;omega)
   rw[show k+1+i=k+(i+1) by omega]
   simpa[bAt]using this)
  exact this
def ct (K:KT) (G:GT) (mem:List AB) (x:AV):Option (List Prop × Rs):=match x with
 |.nP j o=>match be mem j with
  |some (.run _ rs)=>match Nat.ble o (aV rs)with
   |true=>some ([],bc rs o)
   |false=>none
  |_=>none
 |.nX j κ d i=>match be mem j with
  |some (.dyn _ κ' _ _ n g _)=>match aJ (Nat.beq κ κ') (aJ (Nat.beq (aV (aK K κ).rs) (aK K κ).m) (Nat.ble d (aK K κ).m))with
   |true=>some ([i<n],bc (ax (aK K κ).rs (g i)) d)
   |false=>none
  |_=>none
 |.nQ κ d ls=>match aJ (Nat.beq (aV (aK K κ).rs) (aK K κ).m) (Nat.ble d (aK K κ).m)with
  |true=>some ([],bc (ax (aK K κ).rs ls) d)
  |false=>none
 |.nY j o len _ b e=>match be mem j with
  |some (.run _ rs)=>match aJ (Nat.ble o (aV rs)) (Nat.blt b len),uS (bc rs o) len with
   |true,some A=>some ([],[.a (len-b) A.k A.lo A.hi (λi=>A.f (i+e))])
   |true,none=>match kB (bc rs o) len with
    |some bs=>some ([],[.c (.nB true true (bAt bs e))])
    |none=>none
   |_,_=>none
  |_=>none
 |.nG g o=>match iQ G g with
  |some rs=>match Nat.ble o (aV rs)with
   |true=>some ([],bc rs o)
   |false=>none
  |none=>none
 |_=>none
def bC:List Prop->Prop
 |[]=>True
 |p::l=>p/\bC l
theorem dR:∀(rs:Rs) (ls:List Lf),aV (ax rs ls)=aV rs
 |[],_=>rfl
 |.c y::r,ls=>by
  unfold ax;simp only
  split
  .simp only[aV,bi,dR r]
  .simp only[aV,bi,dR r]
 |.a n k lo hi f::r,ls=>by unfold ax;simp only[aV,bi,dR r]
section
variable {P:Program} {K:KT} {G:GT} {w0 w w':World} {c0 c c':Cx} {mem mem':List AB}
theorem uT {s:TypeId} {f d:Nat} (h:aci P s f=some d) (id o:Nat):(Instr.fieldAt s (.pointer (some ⟨id,o,none⟩)) f).run P w=.ok (.pointer (some ⟨id,o+d,none⟩)) w:=by
 unfold aci at h
 split at h
 .rename_i fs hu
  split at h
  .rename_i fd hf
   split at h
   .rename_i i hi
    split at h
    .cases h
    .rename_i n hn;simp only[Option.some.injEq]at h;subst h;have hz:¬ i.size=0:=ac
     simp[Instr.fieldAt,run_underlying hu,hf,Instr.sureAddr,fieldPlace,sizeOf,typeInfo,hi,hz,Addr.add_mid]
   .cases h
  .cases h
 .cases h
theorem jE {t:TypeId} {n:Nat} (h:pX P t=some (some n)):∃d,P.underlying t=some d/\d.isRow=true/\(P.info? t).map (·.size)=some n:=by
 unfold pX at h
 split at h
 .rename_i hu hi;simp only[Option.some.injEq]at h;exact⟨_,hu,rfl,by rw[hi];simp[h]⟩
 .rename_i hu hi;simp only[Option.some.injEq]at h;exact⟨_,hu,rfl,by rw[hi];simp[h]⟩
 .split at h<;>simp at h
 .cases h
theorem mP {t:TypeId} (h:pX P t=some none):∃d,P.underlying t=some d/\d.isRow=false/\(P.info? t).map (·.size)=some 1:=by
 unfold pX at h
 split at h
 .simp at h
 .simp at h
 .rename_i d i hn1 hn2 hu hi'
  split at h
  .rename_i hs;refine⟨d,hu,?_,by rw[hi'];simp[hs]⟩
   cases d<;>first|rfl | exact(hn1 _ rfl).elim | exact(hn2 _ _ rfl).elim
  .cases h
 .cases h
theorem dl {t e:TypeId} {m:Nat} (h:slT P t=some (e,m)):P.underlying t=some (.slice e)/\(P.info? e).map (·.size)=some m:=by
 unfold slT at h
 split at h
 .rename_i e' hu
  split at h
  .rename_i i hi;simp only[Option.some.injEq,Prod.mk.injEq]at h;obtain⟨rfl,rfl⟩:=h;exact⟨hu,by rw[hi];rfl⟩
  .cases h
 .cases h
theorem gC {t:TypeId} {n sz:Nat} (h:arT P t=some (n,sz)):∃e,P.underlying t=some (.array n e)/\(P.info? e).map (·.size)=some sz:=by
 unfold arT at h
 split at h
 .rename_i n' e hu
  split at h
  .rename_i i hi;simp only[Option.some.injEq,Prod.mk.injEq]at h;obtain⟨rfl,rfl⟩:=h;exact⟨e,hu,by rw[hi];rfl⟩
  .cases h
 .cases h
theorem gT {e:TypeId} {n:Nat} (h:(P.info? e).map (·.size)=some n):(sizeOf e).run P w=.ok n w:=by
 cases hq:P.info? e with
 |none=>simp[hq]at h
 |some i =>
  have:i.size=n:=by simpa[hq]using h
  simp[sizeOf,typeInfo,hq,this]
theorem qe {α:Type} {l:List α} {n:Nat} (h:l.length<=n):l.take n=l:=List.take_of_length_le h
theorem lP (hG:GOk K G c) (h:AM K w0 c0 c mem w) {x:AV} {v:Value} {rs:Rs} {ps:List Prop} (hx:x.is K c v) (hr:ct K G mem x=some (ps,rs)) (hp:bC ps) :
 ∃id o cs ty,v=.pointer (some ⟨id,o,none⟩)/\BlkF w id ty cs/\o+aV rs<=cs.size/\RsOk K c rs ((cs.toList.drop o).take (aV rs)):=by
 have elm:∀ {id e d κ:Nat} {ty:TypeId} {cs:Array Value} {rs:Rs},BlkF w id ty cs->e+(aK K κ).m<=cs.size->RsOk K c rs (elo cs (aK K κ).m e)->aV rs=(aK K κ).m->d<=(aK K κ).m->∃id' o cs' ty',(Value.pointer (some ⟨id,e+d,none⟩))=.pointer (some ⟨id',o,none⟩)/\BlkF w id' ty' cs'/\o+aV (bc rs d)<=cs'.size/\RsOk K c (bc rs d) ((cs'.toList.drop o).take (aV (bc rs d))):=λ{id e d κ ty cs rs} h1 h2 h3 h4 h5=>by
  refine⟨id,_,cs,ty,rfl,h1,by rw[bt];omega,?_⟩
  have:=h3.drop d;rw[List.drop_take,List.drop_drop]at this;rw[bt,h4];exact this
 cases x with
 |nP j o =>
  obtain⟨id,hj,rfl⟩:=is_P.1 hx;simp only[ct,aP]at hr
  split at hr
  .rename_i ty rs0 hb
   split at hr
   .rename_i ho;have ho:=ble_iff.1 ho;cases hr;obtain⟨-,cs,h1,h2⟩:=h.kn j id _ hj hb;have h3:=h2.1;rw[Array.length_toList]at h3;refine⟨id,o,cs,_,rfl,h1.F,by rw[bt];omega,?_⟩
    rw[qe (by rw[List.length_drop,bt,Array.length_toList];omega)]
    exact h2.drop o
   .cases hr
  .cases hr
 |nX j κ d i =>
  obtain⟨id,hj,rfl⟩:=is_X.1 hx;simp only[ct,aP]at hr
  split at hr
  .rename_i ty κ' a b n g fz hb
   split at hr
   .rename_i hk;rw[both_iff,both_iff]at hk;obtain⟨k1,k2,k3⟩:=hk;have k1:=beq_iff'.1 k1;subst k1;cases hr;obtain⟨q1,q2,cs,h1,-,h2,h3,h4⟩:=h.kn j id _ hj hb;have hin:i<n:=hp.1;have:=eI (m:=(aK K κ).m) hin;exact elm h1.F ac (h3 i hin) (by rw[dR];exact beq_iff'.1 k2) (ble_iff.1 k3)
   .cases hr
  .cases hr
 |nQ κ d ls =>
  obtain⟨id,e,ty,cs,rfl,h1,h2,h3⟩:=is_Q.1 hx;simp only[ct]at hr
  split at hr
  .rename_i hk;rw[both_iff]at hk;cases hr;exact elm (h.fr _ _ _ h1) h2 h3 (by rw[dR];exact beq_iff'.1 hk.1) (ble_iff.1 hk.2)
  .cases hr
 |nY j o len a b e =>
  obtain⟨id,hj,rfl,y1,y2⟩:=is_Y.1 hx;simp only[ct,aP]at hr
  split at hr
  .rename_i ty rs0 hb
   split at hr
   .rename_i A ho hA;rw[both_iff]at ho;have ho1:=ble_iff.1 ho.1;have ho2:=blt_iff.1 ho.2;cases hr;obtain⟨-,cs,h1,h2⟩:=h.kn j id _ hj hb;have h3:=h2.1;rw[Array.length_toList]at h3;obtain⟨q1,q2⟩:=dc hA (h2.drop o);rw[List.length_drop,Array.length_toList]at q1;have hl:aV [Run.a (len-b) A.k A.lo A.hi λi=>A.f (i+e)]=len-b:=rfl;refine⟨id,o+e,cs,_,rfl,h1.F,by rw[hl];omega,?_⟩
    rw[hl];refine RsOk.ints (by rw[List.length_take,List.length_drop,Array.length_toList];omega) λi hi=>?_
    obtain⟨r1,r2⟩:=q2 (i+e) ac;rw[List.getElem?_drop]at r1;rw[List.getElem?_take,if_pos hi,List.getElem?_drop,show o+e+i=o+(i+e) by omega]
    exact⟨r1,r2⟩
   .rename_i ho _
    split at hr
    .rename_i bs hbs;rw[both_iff]at ho;have ho1:=ble_iff.1 ho.1;have ho2:=blt_iff.1 ho.2;cases hr;obtain⟨-,cs,h1,h2⟩:=h.kn j id _ hj hb;obtain⟨q0,q1,q2⟩:=ig hbs (h2.drop o);rw[List.length_drop,Array.length_toList]at q1;have q3:=q2 e ac;rw[List.getElem?_drop]at q3;have hl:aV [Run.c (AV.nB true true (bAt bs e))]=1:=rfl;refine⟨id,o+e,cs,_,rfl,h1.F,by rw[hl];omega,?_⟩
     rw[hl]
     have ht:(cs.toList.drop (o+e)).take 1=[.bool (bAt bs e)]:=by
      have hlt:o+e<cs.toList.length:=by rw[Array.length_toList];omega
      rw[List.drop_eq_getElem_cons hlt,List.take_succ_cons,List.take_zero];rw[List.getElem?_eq_getElem hlt]at q3;rw[Option.some.inj q3]
     rw[ht];exact RsOk.one (is_B.2 ⟨rfl,λ_=>rfl,λ_=>rfl⟩)
    .cases hr
   .cases hr
  .cases hr
 |nG g o =>
  obtain⟨rfl,-⟩:=is_G.1 hx;simp only[ct]at hr
  split at hr
  .rename_i rs0 hg
   split at hr
   .rename_i ho;have ho:=ble_iff.1 ho;cases hr;obtain⟨ty,cs,h1,h2⟩:=hG g rs0 hg;have h3:=h2.1;rw[Array.length_toList]at h3;refine⟨g,o,cs,ty,rfl,h.fr _ _ _ h1,by rw[bt];omega,?_⟩
    rw[qe (by rw[List.length_drop,bt,Array.length_toList];omega)]
    exact h2.drop o
   .cases hr
  .cases hr
 |_=>cases hr
theorem sg {t:TypeId} {id o:Nat} {ty:TypeId} {cs:Array Value} {u:Value} (ha:pX P t=some none) (hb:BlkF w id ty cs) (hc:cs[o]? = some u):(Instr.loadAt t (.pointer (some ⟨id,o,none⟩))).run P w=.ok u w:=by obtain⟨d,hu,hd,-⟩:=mP ha;simp only[Instr.loadAt,Instr.sureAddr,Sem.run_bind,Sem.run_pure,Result.andThen_ok,kT ((hb.cell o).trans hc) hu hd]
theorem rj {t:TypeId} {id o n:Nat} {ty:TypeId} {cs:Array Value} (ha:pX P t=some (some n)) (hb:BlkF w id ty cs) (hn:o+n<=cs.size):(Instr.loadAt t (.pointer (some ⟨id,o,none⟩))).run P w=.ok (.agg ((cs.toList.drop o).take n).toArray) w:=by
 obtain⟨d,hu,hd,hsz⟩:=jE ha;refine run_loadAt_mid (P:=P) w id o t _ d (λi u hu=>?_) hu hd (by rw[hsz,List.length_take,List.length_drop,Array.length_toList];congr 1;omega)
 rw[hb.cell];rw[List.getElem?_take]at hu
 split at hu
 .rw[List.getElem?_drop]at hu
  simpa using hu
 .cases hu
def fA (K:KT) (P:Program) (G:GT) (t:TypeId) (x:AT) (mem:List AB):Option (List Prop × AT):=match x with
 |.tX (.sO x)=>match ct K G mem x,pX P t with
  |some (ps,rs),some none=>match Nat.ble 1 (aV rs)with
   |true=>some (ps,.tX (.sO (lT rs 0)))
   |false=>none
  |some (ps,rs),some (some n)=>match Nat.ble n (aV rs)with
   |true=>some (ps,.tX (.sA (hY rs n)))
   |false=>none
  |_,_=>none
 |_=>none
theorem jS (hG:GOk K G c) {t:TypeId} {x y:AT} {v:Value} {ps:List Prop} (h:AM K w0 c0 c mem w) (hx:x.is K c v) (hy:fA K P G t x mem=some (ps,y)) (hp:bC ps):∃u,(Instr.loadAt t v).run P w=.ok u w/\y.is K c u:=by
 unfold fA at hy
 split at hy
 .rename_i x
  split at hy
  .rename_i ps' rs hr ha
   split at hy
   .rename_i hl;have hl:=ble_iff.1 hl;cases hy;obtain⟨id,o,cs,ty,rfl,h1,h2,h3⟩:=lP hG h hx hr hp;have hlt:o<cs.size:=ac;have hc:cs[o]? = some cs[o]:=Array.getElem?_eq_getElem hlt;refine⟨cs[o],sg ha h1 hc,h3.get ?_⟩;rw[List.getElem?_take,if_pos ac,List.getElem?_drop,Nat.add_zero,Array.getElem?_toList];exact hc
   .cases hy
  .rename_i ps' rs n hr ha
   split at hy
   .rename_i hl;have hl:=ble_iff.1 hl;cases hy;obtain⟨id,o,cs,ty,rfl,h1,h2,h3⟩:=lP hG h hx hr hp;refine⟨_,rj ha h1 ac,_,rfl,?_⟩;have:=h3.take n
    rwa [List.take_take,Nat.min_eq_left hl]at this
   .cases hy
  .cases hy
 .cases hy
def PE (x y:Value):Bool:=match x,y with
 |.slice none n m,.slice none n' m'=>aJ (Nat.beq n n') (Nat.beq m m')
 |.pointer none,.pointer none=>true
 |.func (.func f) a b,.func (.func f') a' b'=>match a.toList,b.toList,a'.toList,b'.toList with
  |[],[],[],[]=>Nat.beq f f'
  |_,_,_,_=>false
 |_,_=>false
theorem dG {x y:Value} (h:PE x y=true):x=y:=by
 unfold PE at h
 split at h
 .rw[both_iff]at h;rw[beq_iff'.1 h.1,beq_iff'.1 h.2]
 .rfl
 .rename_i f a b f' a' b'
  split at h
  .rename_i e1 e2 e3 e4;rw[beq_iff'.1 h,Array.toList_inj.1 (e1.trans e3.symm),Array.toList_inj.1 (e2.trans e4.symm)]
  .cases h
 .cases h
def imp (a b:Bool):Bool:=match a with
 |true=>b
 |false=>true
theorem imp_iff {a b:Bool}:imp a b=true↔(a=true->b=true):=by cases a<;>simp[imp]
def ml (x y:AV):Option (List Lf):=match x,y with
 |.nI k lo hi _,.nI k' a b z=>match aJ (ik k k') (aJ (ile lo a) (ile b hi))with
  |true=>some [.i z]
  |false=>none
 |.nB f t _,.nB f' t' z=>match aJ (imp f' f) (imp t' t)with
  |true=>some [.b z]
  |false=>none
 |.nR κ a b _ _,.nR κ' a' b' n g=>match aJ (Nat.beq κ κ') (aJ (Nat.ble a a') (Nat.ble b' b))with
  |true=>some [.l n g]
  |false=>none
 |.nR _ a _ _ _,.nK v=>match a,PE (.slice none 0 0) v with
  |0,true=>some [.l 0 λ_=>[]]
  |_,_=>none
 |.nK u,.nK v=>match PE u v with
  |true=>some []
  |false=>none
 |.nE,.nE=>some []
 |.nU,.nF _ _=>none
 |.nU,_=>some []
 |_,_=>none
def iX:Rs->Rs->Option (List Lf)
 |[],_=>some []
 |x::s,rs=>match x with
  |.c x=>match ml x (lT rs 0),iX s (bc rs 1)with
   |some a,some l=>some (a++l)
   |_,_=>none
  |.a n k lo hi _=>match uS rs n,iX s (bc rs n)with
   |some A,some l=>match aJ (ik k A.k) (aJ (ile lo A.lo) (ile A.hi hi))with
    |true=>some (.f A.f::l)
    |false=>none
   |_,_=>none
def qP (s rs:Rs):Option (List Lf):=match Nat.beq (aV s) (aV rs)with
 |true=>iX s rs
 |false=>none
theorem ym {κ m:Nat} {g:Nat->List Lf} {q:Rs->List Value->Prop} (hm:m=0):isRow K c q κ 0 m g none:=⟨λ_=>hm,λa e=>by cases e⟩
theorem oQ {x y:AV} {ls:List Lf} {v:Value} (h:ml x y=some ls) (hy:y.is K c v):(eU x=true/\∃l,ls=[l]/\(j5 x l).is K c v)\/(eU x=false/\ls=[]/\x.is K c v):=by
 unfold ml at h
 split at h
 .rename_i k lo hi _ k' a b z
  split at h
  .rename_i e;rw[both_iff,both_iff]at e;cases h;obtain⟨e1,e2,e3⟩:=e;have:=dD e1;subst this;have e2:=ile_iff.1 e2;have e3:=ile_iff.1 e3;obtain⟨h1,h2,h3,h4⟩:=is_I.1 hy;exact .inl ⟨rfl,_,rfl,is_I.2 ⟨h1,by simp only[Lf.Z];omega,by simp only[Lf.Z];omega,h4⟩⟩
  .cases h
 .rename_i f t _ f' t' z
  split at h
  .rename_i e;rw[both_iff,imp_iff,imp_iff]at e;cases h;obtain⟨h1,h2,h3⟩:=is_B.1 hy;exact .inl ⟨rfl,_,rfl,is_B.2 ⟨h1,λq=>e.1 (h2 q),λq=>e.2 (h3 q)⟩⟩
  .cases h
 .rename_i κ a b _ _ κ' a' b' n g
  split at h
  .rename_i e;rw[both_iff,both_iff]at e;cases h;obtain⟨e1,e2,e3⟩:=e;have:=beq_iff'.1 e1;subst this;have e2:=ble_iff.1 e2;have e3:=ble_iff.1 e3;obtain⟨A,m,h1,h2,h3,h4⟩:=is_R.1 hy;exact .inl ⟨rfl,_,rfl,is_R.2 ⟨A,m,h1,by simp only[Lf.N];omega,by simp only[Lf.N];omega,h4⟩⟩
  .cases h
 .rename_i κ a b _ _ v'
  split at h
  .rename_i e;cases h;have:=dG e;subst this;obtain⟨rfl,-⟩:=is_K.1 hy;exact .inl ⟨rfl,_,rfl,is_R.2 ⟨none,0,rfl,Nat.le_refl _,Nat.zero_le _,Nat.le_refl _,Nat.zero_le _,ym rfl⟩⟩
  .cases h
 .rename_i u v'
  split at h
  .rename_i e;cases h;have:=dG e;subst this;exact .inr ⟨rfl,rfl,hy⟩
  .cases h
 .cases h;exact .inr ⟨rfl,rfl,hy⟩
 .cases h
 .cases h;exact .inr ⟨rfl,rfl,is_U.2 (AV.one hy)⟩
 .cases h
theorem i7:∀(s rs:Rs) (ls:List Lf) (vs:List Value),iX s rs=some ls->RsOk K c rs vs->aV s=aV rs->RsOk K c (ax s ls) vs/\∀ex,ax s (ls++ex)=ax s ls
 |[],rs,ls,vs,h,hr,hl=>by
  cases h;have:vs=[]:=List.eq_nil_of_length_eq_zero (by rw[hr.1,<-hl];rfl)
  subst this;exact⟨RsOk.nil,λex=>rfl⟩
 |.c x::s,rs,ls,vs,h,hr,hl=>by
  unfold iX at h;simp only at h;simp only[aV,bi]at hl
  split at h
  .rename_i a l h1 h2;cases h;have hlt:0<vs.length:=by rw[hr.1];omega
   have hv:=List.getElem?_eq_getElem hlt;obtain⟨g1,g2⟩:=i7 s (bc rs 1) l (vs.drop 1) h2 (hr.drop 1) (by rw[bt];omega)
   have hvs:vs=vs[0]::vs.drop 1:=by
    conv=>lhs;rw[<-List.take_append_drop 1 vs]
    rw[List.take_one,List.head?_eq_getElem?,hv];rfl
   rcases oQ h1 (hr.get hv)with ⟨q1,lf,rfl,q2⟩ | ⟨q1,rfl,q2⟩
   .refine⟨?_,λex=>?_⟩
    .unfold ax;simp only[q1,List.cons_append,List.nil_append,hd,tl];rw[hvs];exact(RsOk.one q2).append g1
    .unfold ax;simp only[q1,List.cons_append,List.nil_append,hd,tl,g2]
   .refine⟨?_,λex=>?_⟩
    .unfold ax;simp only[q1,List.nil_append];rw[hvs];exact(RsOk.one q2).append g1
    .unfold ax;simp only[q1,List.nil_append,g2]
  .cases h
 |.a n k lo hi f::s,rs,ls,vs,h,hr,hl=>by
  unfold iX at h;simp only at h;simp only[aV,bi]at hl
  split at h
  .rename_i A l h1 h2
   split at h
   .rename_i e;rw[both_iff,both_iff]at e;cases h;obtain⟨e1,e2,e3⟩:=e;have:=dD e1;subst this;have e2:=ile_iff.1 e2;have e3:=ile_iff.1 e3;obtain⟨q1,q2⟩:=dc h1 hr;obtain⟨g1,g2⟩:=i7 s (bc rs n) l (vs.drop n) h2 (hr.drop n) (by rw[bt];omega)
    refine⟨?_,λex=>?_⟩
    .unfold ax;simp only[hd,tl,Lf.F];rw[<-List.take_append_drop n vs];refine RsOk.append (rs:=[_]) (RsOk.ints (by rw[List.length_take];omega) λi hi=>?_) g1
     obtain⟨r1,r2,r3,r4⟩:=q2 i hi;rw[List.getElem?_take,if_pos hi];exact⟨r1,ac,ac,r4⟩
    .unfold ax;simp only[List.cons_append,hd,tl,g2]
   .cases h
  .cases h
theorem kp {s rs:Rs} {ls:List Lf} {vs:List Value} (h:qP s rs=some ls) (hr:RsOk K c rs vs):RsOk K c (ax s ls) vs:=by
 unfold qP at h
 split at h
 .rename_i e;exact(i7 s rs ls vs h hr (beq_iff'.1 e)).1
 .cases h
theorem kS (cs:Array Value) (o:Nat) (vs:List Value) (h:o+vs.length<=cs.size):(laid cs o vs).toList=cs.toList.take o++(vs++cs.toList.drop (o+vs.length)):=by
 apply List.ext_getElem?
 intro i;rw[Array.getElem?_toList,bM _ _ _ _ h];have hlt:(cs.toList.take o).length=o:=by rw[List.length_take,Array.length_toList];omega
 by_cases h1:i<o
 .rw[if_pos h1,List.getElem?_append_left ac,List.getElem?_take,if_pos h1]
  simp
 .rw[if_neg h1,List.getElem?_append_right ac,hlt]
  by_cases h2:i<o+vs.length
  .rw[if_pos h2,List.getElem?_append_left ac]
  .rw[if_neg h2,List.getElem?_append_right ac,List.getElem?_drop];rw[show o+vs.length+(i-o-vs.length)=i by omega]
   simp
theorem jP {t:TypeId} {id o:Nat} {ty:TypeId} {cs:Array Value} {v:Value} {vs:List Value} (hb:Blk w id ty cs) (hn:o+vs.length<=cs.size) (hv:v.cells=vs.toArray) (h1:∀u∈vs,u.oneCell'=true) (hi:(P.info? t).map (·.size)=some vs.length) :
 (Instr.storeAt t (.pointer (some ⟨id,o,none⟩)) v).run P w=.ok () (w.setCells id o vs):=by
 have ht:=hb.there o vs.length hn;have hst:=run_storeCells_cells (P:=P) id o vs 0 w (λj hj=>by simpa using(ht j hj).1) (λj hj=>by simpa using(ht j hj).2) h1
 cases hq:P.info? t with
 |none=>simp[hq]at hi
 |some i =>
  have hs:i.size=vs.length:=by simpa[hq]using hi
  simp only[Nat.add_zero]at hst
  simp[Instr.storeAt,Instr.sureAddr,storeVar,sizeOf,typeInfo,hq,hv,hs,hst]
def upd {α:Type} (g:Nat->α) (i:Nat) (x:α):Nat->α:=λe=>if e=i then x else g e
def oH:AS->Rs
 |.sO x=>[.c x]
 |.sA rs=>rs
def YB (g:Option Nat) (s:AS):Bool:=match g,s with
 |none,.sO _=>true
 |some n,.sA ys=>Nat.beq (aV ys) n
 |_,_=>false
def qT (f:Nat->Int) (e n:Nat) (g:Nat->Int):Nat->Int:=λx=>if e<=x/\x<e+n then g (x-e)else f x
def O4 (f:Nat->Int) (e n:Nat) (g:Nat->Int):Nat->Int:=match Nat.beq n 1 with
 |true=>upd f e (g 0)
 |false=>qT f e n g
theorem Dy (f:Nat->Int) (e n:Nat) (g:Nat->Int):O4 f e n g=qT f e n g:=by
 unfold O4
 split
 .rename_i h;have h:=beq_iff'.1 h;subst h
  funext i
  unfold upd qT
  by_cases hie:i=e
  .subst hie;rw[if_pos rfl,if_pos ac,Nat.sub_self]
  .rw[if_neg hie,if_neg ac]
 .rfl
def cL (K:KT) (P:Program) (t:TypeId) (x v:AT) (mem:List AB):Option (List Prop × Nat × AB):=match x,v,pX P t with
 |.tX (.sO (.nP j o)),.tX s,some g=>match be mem j,YB g s with
  |some (.run ty rs),true=>match Nat.ble (Nat.add o (aV (oH s))) (aV rs)with
   |true=>some ([],j,.run ty (Df rs o (oH s)))
   |false=>none
  |_,_=>none
 |.tX (.sO (.nX j κ d i)),.tX s,some g=>match be mem j,YB g s with
  |some (.dyn ty κ' a b n h fz),true=>match aJ (Nat.beq κ κ') (aJ (Nat.beq (aV (aK K κ).rs) (aK K κ).m) (Nat.ble (Nat.add d (aV (oH s))) (aK K κ).m)),fz,qP (aK K κ).rs (Df (ax (aK K κ).rs (h i)) d (oH s))with
   |true,false,some ls=>some ([i<n],j,.dyn ty κ' a b n (upd h i ls) false)
   |_,_,_=>none
  |_,_=>none
 |.tX (.sO (.nY j o len _ b e)),.tX s,some g=>match be mem j,YB g s,uS (oH s) (aV (oH s))with
  |some (.run ty rs),true,some B=>match aJ (Nat.ble (Nat.add o len) (aV rs)) (Nat.ble (Nat.add b (aV (oH s))) len),uS (bc rs o) len with
   |true,some A=>match ik A.k B.k with
    |true=>some ([],j,.run ty (Df rs o [.a len A.k (lj A.lo B.lo) (fc A.hi B.hi) (O4 A.f e (aV (oH s)) B.f)]))
    |false=>none
   |_,_=>none
  |some (.run ty rs),true,none=>match s with
   |.sO (.nB _ _ x)=>match aJ (Nat.ble (Nat.add o len) (aV rs)) (Nat.blt b len),kB (bc rs o) len with
    |true,some bs=>some ([],j,.run ty (Df rs o (ZJ e x bs 0)))
    |_,_=>none
   |_=>none
  |_,_,_=>none
 |_,_,_=>none
theorem qj {v:Value} (h:v.oneCell'=true):v.cells=[v].toArray:=by cases v<;>first|rfl | cases h
theorem mB {t:TypeId} {g:Option Nat} {s:AS} {v:Value} (ha:pX P t=some g) (hf:YB g s=true) (hs:s.is K c v):∃vs,v.cells=vs.toArray/\RsOk K c (oH s) vs/\(P.info? t).map (·.size)=some vs.length:=by
 cases s with
 |sO x =>
  cases g with
  |some n=>cases hf
  |none =>obtain⟨_,_,_,hsz⟩:=mP ha;have hs:x.is K c v:=hs;exact⟨[v],qj (AV.one hs),RsOk.one hs,hsz⟩
 |sA rs =>
  cases g with
  |none=>cases hf
  |some n =>obtain⟨_,_,_,hsz⟩:=jE ha;obtain⟨vs,rfl,hvs⟩:=hs;exact⟨vs,rfl,hvs,by rw[hsz,hvs.1,beq_iff'.1 hf]⟩
theorem vu {rs new:Rs} {cs:Array Value} {o e len:Nat} {vs:List Value} (g2:RsOk K c rs cs.toList) (hn:o+e+vs.length<=cs.size) (h1:o+len<=cs.size) (h2:e+vs.length<=len) (hnew:RsOk K c new (((laid cs (o+e) vs).toList.drop o).take len)):RsOk K c (Df rs o new) (laid cs (o+e) vs).toList:=by
 have hput:=g2.put (o:=o) hnew (by rw[List.length_take,List.length_drop,Array.length_toList,Array.length_toList,bj];omega)
 have elen:(((laid cs (o+e) vs).toList.drop o).take len).length=len:=by rw[List.length_take,List.length_drop,Array.length_toList,bj];omega
 rw[elen]at hput
 have:cs.toList.take o++(((laid cs (o+e) vs).toList.drop o).take len++cs.toList.drop (o+len))=(laid cs (o+e) vs).toList:=by
  apply List.ext_getElem?
  intro i;have tl1:(cs.toList.take o).length=o:=by rw[List.length_take,Array.length_toList];omega
  by_cases i1:i<o
  .rw[List.getElem?_append_left ac,List.getElem?_take,if_pos i1,Array.getElem?_toList,Array.getElem?_toList,bM _ _ _ _ hn,if_pos ac]
  .rw[List.getElem?_append_right ac,tl1]
   by_cases i2:i<o+len
   .rw[List.getElem?_append_left ac,List.getElem?_take,if_pos ac,List.getElem?_drop,show o+(i-o)=i by omega]
   .rw[List.getElem?_append_right ac,elen,List.getElem?_drop,Array.getElem?_toList,Array.getElem?_toList,bM _ _ _ _ hn,if_neg ac,if_neg ac]
    congr 1
    omega
 rw[this]at hput;exact hput
theorem pC {t:TypeId} {x y:AT} {u v:Value} {ps:List Prop} {j:Nat} {ab:AB} (h:AM K w0 c0 c mem w) (hx:x.is K c u) (hy:y.is K c v) (hm:cL K P t x y mem=some (ps,j,ab)) (hp:bC ps):∃w',(Instr.storeAt t u v).run P w=.ok () w'/\AM K w0 c0 c (mem.set j ab) w':=by
 unfold cL at hm
 split at hm
 .rename_i j o s g ha;obtain⟨id,hj,rfl⟩:=is_P.1 hx;rw[aP]at hm
  split at hm
  .rename_i ty rs hb hf
   split at hm
   .rename_i e;have e:o+aV (oH s)<=aV rs:=ble_iff.1 e;cases hm;obtain⟨vs,h1,h2,h3⟩:=mB ha hf hy;obtain⟨hF,cs,g1,g2⟩:=h.kn j id _ hj hb;have hl:=g2.1;rw[Array.length_toList]at hl;have hn:o+vs.length<=cs.size:=by rw[h2.1];omega
    refine⟨_,jP (P:=P) g1 hn h1 h2.cells h3,h.storeAt hj hb rfl (Keep.setCells w id o vs) (λb e=>⟨e,hF⟩) ⟨hF,_,g1.setCells id vs o,?_⟩⟩;rw[kS _ _ _ hn];exact g2.put h2 (by rw[Array.length_toList];omega)
   .cases hm
  .cases hm
 .rename_i j κ d i s g ha;obtain⟨id,hj,rfl⟩:=is_X.1 hx;rw[aP]at hm
  split at hm
  .rename_i ty κ' a b n g' fz hb hf
   split at hm
   .rename_i ls e em;rw[both_iff,both_iff]at e;obtain⟨k1,k2,k3⟩:=e;have k1:=beq_iff'.1 k1;subst k1;have k2:=beq_iff'.1 k2;have k3:d+aV (oH s)<=(aK K κ).m:=ble_iff.1 k3;cases hm;have hin:i<n:=hp.1;obtain⟨vs,h1,h2,h3⟩:=mB ha hf hy;obtain⟨q1,q2,cs,g1,g1',g2,g3,g4⟩:=h.kn j id _ hj hb;have g4:c.F id=none:=g4;have hmN:=eI (m:=(aK K κ).m) hin;have hvl:vs.length=aV (oH s):=h2.1;have hn:i*(aK K κ).m+d+vs.length<=cs.size:=ac;refine⟨_,jP (P:=P) g1 hn h1 h2.cells h3,h.storeAt hj hb rfl (Keep.setCells w id _ vs) (λb e=>⟨e,g4⟩) ⟨q1,q2,_,g1.setCells id vs _,by rw[bj];exact g1',by rw[bj];exact g2,λe he=>?_,g4⟩⟩
    unfold upd
    by_cases hei:e=i
    .subst hei;rw[if_pos rfl,E9 g2 hin ac];have hl:(elt cs (aK K κ).m e).length=(aK K κ).m:=by rw[(g3 e hin).1,dR];exact k2
     refine kp em ?_;rw[kS _ _ _ (by rw[List.size_toArray,hl];omega)]
     exact(g3 e hin).put h2 (by rw[hl];omega)
    .rw[if_neg hei,rU ac]
     .exact g3 e he
     .rcases Nat.lt_or_ge e i with h1 | h1
      .have:=eI (m:=(aK K κ).m) h1
       left;omega
      .have:=eI (m:=(aK K κ).m) (show i<e by omega)
       right;omega
   .cases hm
  .cases hm
 .rename_i j o len al b e s g ha;obtain⟨id,hj,rfl,y1,y2⟩:=is_Y.1 hx;rw[aP]at hm
  split at hm
  .rename_i ty rs B hb hf hB
   split at hm
   .rename_i A ho hA;rw[both_iff]at ho;have ho1:o+len<=aV rs:=ble_iff.1 ho.1;have ho2:b+aV (oH s)<=len:=ble_iff.1 ho.2
    split at hm
    .rename_i hk;have hk:=dD hk;cases hm;obtain⟨vs,h1,h2,h3⟩:=mB ha hf hy;obtain⟨hF,cs,g1,g2⟩:=h.kn j id _ hj hb;have hl:=g2.1;rw[Array.length_toList]at hl;have hvl:=h2.1;have hn:o+e+vs.length<=cs.size:=ac;obtain⟨q1,q2⟩:=dc hA (g2.drop o);obtain⟨p1,p2⟩:=dc hB h2;refine⟨_,jP (P:=P) g1 hn h1 h2.cells h3,h.storeAt hj hb rfl (Keep.setCells w id _ vs) (λb e=>⟨e,hF⟩) ⟨hF,_,g1.setCells id vs _,?_⟩⟩
     have key:∀F:Nat->Int,(∀i,i<len->F i=qT A.f e (aV (oH s)) B.f i)->RsOk K c (Df rs o [.a len A.k (lj A.lo B.lo) (fc A.hi B.hi) F]) (laid cs (o+e) vs).toList:=λF hFe=>by
      have hnew:RsOk K c [.a len A.k (lj A.lo B.lo) (fc A.hi B.hi) F] (((laid cs (o+e) vs).toList.drop o).take len):=by
       refine RsOk.ints (by rw[List.length_take,List.length_drop,Array.length_toList,bj];omega) λi hi=>?_
       have e1:lj A.lo B.lo=min A.lo B.lo:=cD _ _;have e2:fc A.hi B.hi=max A.hi B.hi:=co _ _;rw[List.getElem?_take,if_pos hi,List.getElem?_drop,Array.getElem?_toList,bM _ _ _ _ hn,hFe i hi,e1,e2];unfold qT
       by_cases h4:e<=i/\i<e+aV (oH s)
       .rw[if_pos h4,if_neg ac,if_pos ac,show o+i-(o+e)=i-e by omega,hk]
        obtain⟨r1,r2,r3,r4⟩:=p2 (i-e) ac;exact⟨r1,ac,ac,r4⟩
       .rw[if_neg h4];obtain⟨r1,r2,r3,r4⟩:=q2 i hi;rw[List.getElem?_drop,Array.getElem?_toList]at r1
        have:(if o+i<o+e then cs[o+i]? else if o+i<o+e+vs.length then vs[o+i-(o+e)]? else cs[o+i]?)=cs[o+i]?:=by
         split
         .rfl
         .rw[if_neg ac]
        exact⟨this.trans r1,ac,ac,r4⟩
      have hput:=g2.put (o:=o) hnew (by rw[List.length_take,List.length_drop,Array.length_toList,Array.length_toList,bj];omega)
      have elen:(((laid cs (o+e) vs).toList.drop o).take len).length=len:=by rw[List.length_take,List.length_drop,Array.length_toList,bj];omega
      rw[elen]at hput
      have:cs.toList.take o++(((laid cs (o+e) vs).toList.drop o).take len++cs.toList.drop (o+len))=(laid cs (o+e) vs).toList:=by
       apply List.ext_getElem?
       intro i;have tl1:(cs.toList.take o).length=o:=by rw[List.length_take,Array.length_toList];omega
       by_cases i1:i<o
       .rw[List.getElem?_append_left ac,List.getElem?_take,if_pos i1,Array.getElem?_toList,Array.getElem?_toList,bM _ _ _ _ hn,if_pos ac]
       .rw[List.getElem?_append_right ac,tl1]
        by_cases i2:i<o+len
        .rw[List.getElem?_append_left ac,List.getElem?_take,if_pos ac,List.getElem?_drop,show o+(i-o)=i by omega]
        .rw[List.getElem?_append_right ac,elen,List.getElem?_drop,Array.getElem?_toList,Array.getElem?_toList,bM _ _ _ _ hn,if_neg ac,if_neg ac]
         congr 1
         omega
      rw[this]at hput;exact hput
     exact key _ λi _=>by rw[Dy]
    .cases hm
   .cases hm
  .rename_i ty rs hb hf hB
   split at hm
   .rename_i f0 t0 x0
    split at hm
    .rename_i bs ho hbs;rw[both_iff]at ho;have ho1:o+len<=aV rs:=ble_iff.1 ho.1;have ho2:=blt_iff.1 ho.2;cases hm;obtain⟨vs,h1,h2,h3⟩:=mB ha hf hy;obtain⟨hF,cs,g1,g2⟩:=h.kn j id _ hj hb;have hl:=g2.1;rw[Array.length_toList]at hl;have hvl:vs.length=1:=h2.1;obtain⟨v1,rfl⟩:=List.length_eq_one_iff.1 hvl;have hv1:v1=.bool x0:=(is_B.1 (h2.2 0 (.nB f0 t0 x0) v1 rfl rfl)).1;have hn:o+e+[v1].length<=cs.size:=by simp;omega
     obtain⟨q0,q1,q2⟩:=ig hbs (g2.drop o);refine⟨_,jP (P:=P) g1 hn h1 h2.cells h3,h.storeAt hj hb rfl (Keep.setCells w id _ [v1]) (λb e=>⟨e,hF⟩) ⟨hF,_,g1.setCells id [v1] _,?_⟩⟩;refine vu g2 hn (len:=len) ac (by simp;omega) (yg (by rw[List.length_take,List.length_drop,Array.length_toList,bj];omega) λi hi=>?_)
     rw[List.getElem?_take,if_pos ac,List.getElem?_drop,Array.getElem?_toList,bM _ _ _ _ hn,Nat.zero_add]
     by_cases hie:i=e
     .subst hie;rw[if_neg ac,if_pos (by simp),Nat.sub_self,Nat.beq_refl]
      simp[hv1]
     .have r1:=q2 i ac;rw[List.getElem?_drop,Array.getElem?_toList]at r1
      have hne:Nat.beq e i=false:=by rw[<-Bool.not_eq_true,beq_iff'];exact λq=>hie q.symm
      rw[hne]
      have:(if o+i<o+e then cs[o+i]? else if o+i<o+e+[v1].length then[v1][o+i-(o+e)]? else cs[o+i]?)=cs[o+i]?:=by
       split
       .rfl
       .rw[if_neg (by simp;omega)]
      rw[this,r1];rfl
    .cases hm
   .cases hm
  .cases hm
 .cases hm
end
end Go.Proofs.YtldmjbgplgoedaaGreatDoor
