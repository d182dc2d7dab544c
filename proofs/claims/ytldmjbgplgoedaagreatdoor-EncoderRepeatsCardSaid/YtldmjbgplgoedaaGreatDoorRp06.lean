import Derived.Test.YtldmjbgplgoedaaGreatDoorRp05
set_option linter.all false
namespace Go.Proofs.YtldmjbgplgoedaaGreatDoor
open Go.RowKit
structure Eff where
 ps:List Prop
 up:List (Nat × AB)
 nw:List AB
 y:AT
def fI:List (Nat × AB)->List AB->List AB
 |[],m=>m
 |x::l,m=>fI l (m.set x.1 x.2)
def AU:Nat->List AB->List AB->List AB
 |_,[],m=>m
 |p,b::l,m=>AU (p+1) l (m.set p b)
section
variable {P:Program} {K:KT} {w0 w w':World} {c0 c c':Cx} {mem mem':List AB}
def EOk (K:KT) (w0:World) (c0 c:Cx) (mem:List AB) (p:Nat) (e:Eff) (v:Value) (w':World):Prop:=∃c',c.le c'/\(∀i,i<p\/p+e.nw.length<=i->c'.ρ i=c.ρ i)/\AM K w0 c0 c' (AU p e.nw (fI e.up mem)) w'/\e.y.is K c' v
def af2 (c:Cx) (mem:List AB) (p n:Nat):Prop:=∀k,k<n->p+k<mem.length/\c.ρ (p+k)=none
theorem EOk.quiet {v:Value} {p:Nat} {ps:List Prop} {y:AT} (h:AM K w0 c0 c mem w) (hy:y.is K c v):EOk K w0 c0 c mem p ⟨ps,[],[],y⟩ v w:=⟨c,Cx.le_refl _,λ_ _=>rfl,h,hy⟩
theorem EOk.made {v:Value} {p N:Nat} {ps:List Prop} {y:AT} {ab:AB} {cs:Array Value} {ty:TypeId} (h:AM K w0 c0 c mem w) (hr:af2 c mem p 1) (hab:abOk K (c.at_ p w.heap.size N) (w.alloc (.cells cs ty)) w.heap.size ab) (hy:y.is K (c.at_ p w.heap.size N) v):EOk K w0 c0 c mem p ⟨ps,[],[ab],y⟩ v (w.alloc (.cells cs ty)):=by obtain⟨h1,h2⟩:=hr 0 ac;exact⟨_,h.le_new N h2,λi hi=>Cx.at_ne c _ _ (λe=>by subst e;simp only[List.length_singleton]at hi;omega),h.allocAt h1 h2 hab,hy⟩
theorem nZ {rs:Rs} {ty:TypeId} {vs:List Value} {p N:Nat} (h:AM K w0 c0 c mem w) (hn:c.ρ p=none) (hv:RsOk K c rs vs):abOk K (c.at_ p w.heap.size N) (w.alloc (.cells vs.toArray ty)) w.heap.size (.run ty rs) :=⟨h.F_new,vs.toArray,Blk.new _ _ _,by simpa using hv.mono (h.le_new N hn)⟩
def M5:Value->Option AV
 |.int k n=>match ile (low k) n,ile n (top k)with
  |true,true=>some (.nI k n n n)
  |_,_=>none
 |.bool x=>match x with
  |true=>some (.nB false true true)
  |false=>some (.nB true false false)
 |.pointer none=>some (.nK (.pointer none))
 |.slice none 0 0=>some (.nK (.slice none 0 0))
 |.string s=>some (.nK (.string s))
 |.map none=>some (.nK (.map none))
 |.nilFunc=>some (.nK .nilFunc)
 |.nilIface=>some (.nK .nilIface)
 |_=>none
def w9 (x:AV) (r:Rs):Rs:=match x,r with
 |.nI k n m _,.a l k' lo hi _::r'=>match aJ (ik k k') (aJ (ieq n m) (aJ (ieq n lo) (ieq lo hi)))with
  |true=>.a (l+1) k n n (λ_=>n)::r'
  |false=>.c x::r
 |.nI k n m _,.c (.nI k' lo hi _)::r'=>match aJ (ik k k') (aJ (ieq n m) (aJ (ieq n lo) (ieq lo hi)))with
  |true=>.a 2 k n n (λ_=>n)::r'
  |false=>.c x::r
 |x,r=>.c x::r
def ui:List Value->Option Rs
 |[]=>some []
 |v::l=>match M5 v,ui l with
  |some x,some r=>some (w9 x r)
  |_,_=>none
theorem FD {v:Value} {x:AV} (h:M5 v=some x):x.is K c v:=by
 unfold M5 at h
 split at h
 .split at h
  .rename_i h1 h2;cases h;exact is_I.2 ⟨rfl,Int.le_refl _,Int.le_refl _,ile_iff.1 h1,ile_iff.1 h2⟩
  .cases h
 .rename_i x;cases x<;>(cases h;exact is_B.2 ⟨rfl,by simp,by simp⟩)
 all_goals first|(cases h;exact is_K.2 ⟨rfl,rfl⟩) | cases h
theorem zd {x:AV} {r:Rs} {vs:List Value} (h:RsOk K c (.c x::r) vs):RsOk K c (w9 x r) vs:=by
 have cut:∀(a b:Rs),RsOk K c (a++b) vs->RsOk K c a (vs.take (aV a))/\RsOk K c b (vs.drop (aV a)):=λa b h=>by
  have hl:=h.1;rw[EX]at hl;refine⟨⟨by rw[List.length_take];omega,λi x v hx hv=>h.2 i x v ?_ ?_⟩,⟨by rw[List.length_drop];omega,λi x v hx hv=>h.2 (aV a+i) x v ?_ ?_⟩⟩
  .rw[fO,List.getElem?_append_left (List.getElem?_eq_some_iff.1 hx).1];exact hx
  .rw[List.getElem?_take]at hv
   split at hv
   .exact hv
   .cases hv
  .rw[fO,List.getElem?_append_right (by rw[aF];omega),aF,Nat.add_sub_cancel_left];exact hx
  .rw[List.getElem?_drop]at hv;exact hv
 have paste:∀(a b:Rs),RsOk K c a (vs.take (aV a))->RsOk K c b (vs.drop (aV a))->RsOk K c (a++b) vs:=λa b h1 h2=>by
  have:=h1.append h2
  rwa [List.take_append_drop]at this
 unfold w9
 split
 .rename_i k n m z l k' lo hi f r'
  split
  .rename_i e;rw[both_iff,both_iff,both_iff]at e;obtain⟨e1,e2,e3,e4⟩:=e;have e1:=dD e1;have e2:=ieq_iff.1 e2;have e3:=ieq_iff.1 e3;have e4:=ieq_iff.1 e4;subst e1 e2 e3 e4;obtain⟨h1,h2⟩:=cut [.c (.nI k n n z),.a l k n n f] r' h;have hl:aV [Run.c (.nI k n n z),.a l k n n f]=l+1:=by simp only[aV,bi];omega
   rw[hl]at h1 h2;clear e4;refine paste [_] r' ?_ h2;show RsOk K c [Run.a (l+1) k n n λ_=>n] (vs.take (l+1));refine RsOk.ints (by rw[h1.1];exact hl) λi hi=>?_
   have hlt:i<(vs.take (l+1)).length:=by rw[h1.1,hl];exact hi
   have e5:=List.getElem?_eq_getElem hlt
   have hx:∃z',(aq [Run.c (.nI k n n z),.a l k n n f])[i]? = some (.nI k n n z'):=by
    cases i with
    |zero=>exact⟨z,rfl⟩
    |succ i =>refine⟨f i,?_⟩;simp only[aq,az,List.singleton_append,List.getElem?_cons_succ,List.append_nil,List.getElem?_map];rw[List.getElem?_range ac];rfl
   obtain⟨z',hx⟩:=hx;obtain⟨q1,q2,q3,q4⟩:=is_I.1 (h1.2 i _ _ hx e5);have:z'=n:=ac;subst this;rw[e5,q1];exact⟨rfl,Int.le_refl _,Int.le_refl _,q4⟩
  .exact h
 .rename_i k n m z k' lo hi z' r'
  split
  .rename_i e;rw[both_iff,both_iff,both_iff]at e;obtain⟨e1,e2,e3,e4⟩:=e;have e1:=dD e1;have e2:=ieq_iff.1 e2;have e3:=ieq_iff.1 e3;have e4:=ieq_iff.1 e4;subst e1 e2 e3 e4;obtain⟨h1,h2⟩:=cut [.c (.nI k n n z),.c (.nI k n n z')] r' h;have h1:RsOk K c _ (vs.take 2):=h1;clear e4;refine paste [_] r' ?_ h2;show RsOk K c [Run.a 2 k n n λ_=>n] (vs.take 2);refine RsOk.ints h1.1 λi hi=>?_;have hlt:i<(vs.take 2).length:=by rw[h1.1];exact hi
   have e5:=List.getElem?_eq_getElem hlt
   have hx:∃u,(aq [Run.c (.nI k n n z),.c (.nI k n n z')])[i]? = some (.nI k n n u):=by
    rcases i with _ | _ | i
    .exact⟨z,rfl⟩
    .exact⟨z',rfl⟩
    .omega
   obtain⟨u,hx⟩:=hx;obtain⟨q1,q2,q3,q4⟩:=is_I.1 (h1.2 i _ _ hx e5);have:u=n:=ac;subst this;rw[e5,q1];exact⟨rfl,Int.le_refl _,Int.le_refl _,q4⟩
  .exact h
 .exact h
theorem o7:∀ {l:List Value} {r:Rs},ui l=some r->RsOk K c r l
 |[],r,h=>by cases h;exact RsOk.nil
 |v::l,r,h=>by
  unfold ui at h
  split at h
  .rename_i x r' h1 h2;cases h;exact zd ((RsOk.one (FD (K:=K) (c:=c) h1)).append (o7 h2))
  .cases h
def afQ (P:Program) (t:TypeId):Option Rs:=match P.info? t with
 |some i=>match i.zero with
  |some v=>ui v.cells.toList
  |none=>none
 |none=>none
theorem fC {t:TypeId} {r:Rs} (h:afQ P t=some r):∃i v,P.info? t=some i/\i.zero=some v/\∀(K:KT) (c:Cx),RsOk K c r v.cells.toList:=by
 unfold afQ at h
 split at h
 .rename_i i hi
  split at h
  .rename_i v hv;exact⟨i,v,hi,hv,λK c=>o7 h⟩
  .cases h
 .cases h
theorem wY {s:AS} {v:Value} (h:s.is K c v):RsOk K c (oH s) v.cells.toList:=by
 cases s with
 |sO x =>have h:x.is K c v:=h;rw[qj (AV.one h)];exact RsOk.one h
 |sA rs=>obtain⟨vs,rfl,h⟩:=h;exact h
theorem allIs_cons {s:AS} {l:List AS} {v:Value} {vs:List Value}:allIs K c (s::l) (v::vs)↔s.is K c v/\allIs K c l vs:=by
 constructor
 .rintro⟨h1,h2⟩;exact⟨h2 0 _ _ rfl rfl,by simpa using h1,λi s v h3 h4=>h2 (i+1) s v (by simpa using h3) (by simpa using h4)⟩
 .rintro⟨h1,h2,h3⟩;refine⟨by simp[h2],λi s v h4 h5=>?_⟩
  cases i with
  |zero=>simp only[List.getElem?_cons_zero,Option.some.injEq]at h4 h5;subst h4 h5;exact h1
  |succ i=>exact h3 i s v (by simpa using h4) (by simpa using h5)
def Jj (P:Program) (t:TypeId):Option (Nat->Option (Nat × Nat)):=match P.underlying t with
 |some (.array _ e)=>match P.info? e with
  |some i=>some λk=>some (k*i.size,i.size)
  |none=>none
 |some (.struct fs)=>match fs.toList.mapM (λf=>(P.info? f.type).map λi=>(f.offset,i.size))with
  |some l=>some λk=>l.toArray[k]?
  |none=>none
 |_=>none
def tP:List AS->Option (List Nat)
 |[]=>some []
 |x::l=>match x,tP l with
  |.sO (.nP j o),some js=>match Nat.beq o 0 with
   |true=>some (j::js)
   |false=>none
  |_,_=>none
theorem pc:∀ {l:List AS} {js:List Nat} {vs:List Value},tP l=some js->allIs K c l vs->vs.length=js.length/\∀(i j:Nat),js[i]? = some j->∃id,c.ρ j=some id/\vs[i]? = some (.pointer (some ⟨id,0,none⟩))
 |[],js,vs,h,hv=>by cases h;exact⟨hv.1.symm,λi j e=>by simp at e⟩
 |x::l,js,[],h,hv=>by have:=hv.1;simp at this
 |x::l,js,v::vs,h,hv=>by
  rw[allIs_cons]at hv;unfold tP at h
  split at h
  .rename_i j o js' hl
   split at h
   .rename_i ho;cases h;have ho:=beq_iff'.1 ho;subst ho;obtain⟨id,g1,g2⟩:=is_P.1 hv.1;obtain⟨k1,k2⟩:=pc hl hv.2;refine⟨by simp[k1],λi j' e=>?_⟩
    cases i with
    |zero=>simp only[List.getElem?_cons_zero,Option.some.injEq]at e;subst e;exact⟨id,g1,by rw[g2];rfl⟩
    |succ i=>exact k2 i j' (by simpa using e)
   .cases h
  .cases h
def MQ (x:AT):Option Rs:=match x with
 |.tX s=>some (oH s)
 |.tF f [] cs=>match cs with
  |[]=>some [.c (.nK (.func (.func f) #[] #[]))]
  |_=>match tP cs with
   |some js=>some [.c (.nF f js)]
   |none=>none
 |_=>none
def yE (place:Nat->Option (Nat × Nat)):Rs->List (Nat × AT)->Option Rs
 |ps,[]=>some ps
 |ps,x::r=>match place x.1,MQ x.2 with
  |some (o,n),some ys=>match aJ (Nat.beq (aV ys) n) (Nat.ble (Nat.add o n) (aV ps))with
   |true=>yE place (Df ps o ys) r
   |_=>none
  |_,_=>none
def zx (K:KT) (c:Cx) (l:List (Nat × AT)) (vs:List (Nat × Value)):Prop:=l.length=vs.length/\∀(i:Nat) (x:Nat × AT) (v:Nat × Value),l[i]? = some x->vs[i]? = some v->x.1=v.1/\x.2.is K c v.2
theorem gK:∀(l:List Value) (s o:Nat) (cs:Array Value),(l.zipIdx s).foldl (λcs (x:Value × Nat)=>cs.setIfInBounds (o+x.2) x.1) cs=laid cs (o+s) l
 |[],_,_,_=>rfl
 |x::l,s,o,cs=>by rw[List.zipIdx_cons,List.foldl_cons,gK l (s+1) o,laid];rfl
theorem BE {x:AT} {v:Value} {ys:Rs} (h:MQ x=some ys) (hx:x.is K c v):RsOk K c ys v.cells.toList:=by
 unfold MQ at h
 split at h
 .cases h;exact wY hx
 .rename_i f cs;obtain⟨us,ts,rfl,g1,g2⟩:=hx;have q1:us=[]:=List.eq_nil_of_length_eq_zero (by simpa using g1.1.symm)
  subst q1
  split at h
  .have q2:ts=[]:=List.eq_nil_of_length_eq_zero (by simpa using g2.1.symm)
   subst q2;cases h;exact RsOk.one (is_K.2 ⟨rfl,rfl⟩)
  .split at h
   .rename_i js e3;cases h;obtain⟨k1,k2⟩:=pc e3 g2;exact RsOk.one (is_F.2 ⟨ts,rfl,k1,k2⟩)
   .cases h
 .cases h
theorem nr {place:Nat->Option (Nat × Nat)}:∀(l:List (Nat × AT)) (vs:List (Nat × Value)) (ps:Rs) (cs:Array Value) {qs:Rs},zx K c l vs->RsOk K c ps cs.toList->yE place ps l=some qs->∃ds,Instr.fill place cs vs=some ds/\RsOk K c qs ds.toList
 |[],vs,ps,cs,qs,hl,ho,h=>by
  have:vs=[]:=List.eq_nil_of_length_eq_zero (by rw[<-hl.1];rfl)
  subst this;cases h;exact⟨cs,rfl,ho⟩
 |(i,x)::l,[],ps,cs,qs,hl,_,_=>by have:=hl.1;simp at this
 |(i,x)::l,(i',v)::vs,ps,cs,qs,hl,ho,h=>by
  obtain⟨hlen,hi⟩:=hl;obtain⟨h1,h2⟩:=hi 0 _ _ rfl rfl;simp only at h1 h2;subst h1;have hrest:zx K c l vs:=⟨by simpa using hlen,λj x v q1 q2=>hi (j+1) x v (by simpa using q1) (by simpa using q2)⟩
  have hlc:=ho.1;rw[Array.length_toList]at hlc;unfold yE at h;simp only at h
  split at h
  .rename_i o n ys hp hx
   split at h
   .rename_i e;rw[both_iff]at e;have e1:=beq_iff'.1 e.1;have e2:o+n<=aV ps:=ble_iff.1 e.2;have hy:=BE hx h2;have hyl:=hy.1;rw[Array.length_toList]at hyl;have hsz:v.cells.size=n:=ac;have hput:=RsOk.put (o:=o) ho hy (by rw[Array.length_toList,Array.length_toList];omega)
    rw[Array.length_toList,hsz]at hput;have hlay:=kS cs o v.cells.toList (by rw[Array.length_toList];omega)
    rw[Array.length_toList,hsz]at hlay;rw[<-hlay]at hput;obtain⟨ds,q1,q2⟩:=nr l vs _ _ hrest hput h;refine⟨ds,?_,q2⟩;rw[Instr.fill,hp];simp only[hsz,ne_eq,not_true_eq_false,decide_false,Bool.false_or];rw[if_neg (by simp;omega)]
    have hf:(v.cells.zipIdx.foldl (λcs (x:Value × Nat)=>cs.setIfInBounds (o+x.2) x.1) cs)=laid cs o v.cells.toList:=by rw[<-Array.foldl_toList,Array.toList_zipIdx,gK v.cells.toList 0 o,Nat.add_zero]
    exact(congrArg (λcs=>Instr.fill place cs vs) hf).trans q1
   .cases h
  .cases h
def mw (P:Program) (t:TypeId) (l:List (Nat × AT)):Option AT:=match afQ P t,Jj P t with
 |some ps,some place=>match yE place ps l with
  |some qs=>some (.tX (.sA qs))
  |none=>none
 |_,_=>none
theorem pi {t:TypeId} {l:List (Nat × AT)} {vs:Array (Nat × Value)} {y:AT} (hl:zx K c l vs.toList) (h:mw P t l=some y):∃r,(Instr.build t vs).run P w=.ok r w/\y.is K c r:=by
 unfold mw at h
 split at h
 .rename_i ps place hz hp
  split at h
  .rename_i qs hq;cases h;obtain⟨it,v,hit,hzz,hc⟩:=fC hz;obtain⟨ds,g1,g2⟩:=nr (K:=K) (c:=c) l vs.toList ps v.cells hl (hc K c) hq;refine⟨.agg ds,run_build w t vs _ ?_,ds.toList,rfl,g2⟩;unfold Program.built;unfold Jj at hp
   split at hp
   .rename_i n e hu
    split at hp
    .rename_i ie hie;simp only[Option.some.injEq]at hp;subst hp;simp only[hit,hu,hzz,hie];exact g1
    .cases hp
   .rename_i fs hu
    split at hp
    .rename_i pl hpl;simp only[Option.some.injEq]at hp;subst hp;simp only[hit,hu,hzz,hpl];exact g1
    .cases hp
   .cases hp
  .cases h
 .cases h
def jI (P:Program) (t:TypeId) (p:Nat):Option Eff:=match afQ P t with
 |some r=>some ⟨[],[],[.run t r],.tX (.sO (.nP p 0))⟩
 |none=>none
theorem qI {t:TypeId} {p:Nat} {e:Eff} (h:AM K w0 c0 c mem w) (he:jI P t p=some e) (hr:af2 c mem p e.nw.length):∃v w',(Instr.alloc t true (.tuple #[])).run P w=.ok v w'/\EOk K w0 c0 c mem p e v w':=by
 unfold jI at he
 split at he
 .rename_i r hz;cases he;obtain⟨i,z,hi,hzz,hc⟩:=fC hz;have hn:=(hr 0 (by simp)).2
  have hab:=nZ (ty:=t) (N:=0) h hn (hc K c);rw[Array.toArray_toList]at hab;refine⟨.pointer (some ⟨w.heap.size,0,none⟩),_,?_,EOk.made h hr hab (is_P.2 ⟨_,Cx.at_self _ _ _ _,rfl⟩)⟩;simp only[Instr.alloc,Sem.run_bind,show(zeroValue t).run P w=.ok z w by simp[zeroValue,typeInfo,hi,hzz],Result.andThen_ok]
  simp[newVar,newRow]
 .cases he
def ur (t:TypeId) (x:AT) (p:Nat):Option Eff:=match x with
 |.tX s=>some ⟨[],[],[.run t (oH s)],.tX (.sO (.nP p 0))⟩
 |_=>none
theorem vf {t:TypeId} {x:AT} {u:Value} {p:Nat} {e:Eff} (h:AM K w0 c0 c mem w) (hx:x.is K c u) (he:ur t x p=some e) (hr:af2 c mem p e.nw.length):∃v w',(Instr.box t u).run P w=.ok v w'/\EOk K w0 c0 c mem p e v w':=by
 unfold ur at he
 split at he
 .rename_i s;cases he;have hn:=(hr 0 (by simp)).2
  have hab:=nZ (ty:=t) (N:=0) h hn (wY hx);rw[Array.toArray_toList]at hab;refine⟨.pointer (some ⟨w.heap.size,0,none⟩),_,?_,EOk.made h hr hab (is_P.2 ⟨_,Cx.at_self _ _ _ _,rfl⟩)⟩
  simp[Instr.box,newVar,newRow]
 .cases he
def Yz:Nat->Rs->Rs
 |0,_=>[]
 |n+1,rs=>QK rs (Yz n rs)
def B9 (n:Nat) (rs:Rs):Rs:=match rs with
 |[.c (.nI k lo hi z)]=>[.a n k lo hi λ_=>z]
 |rs=>Yz n rs
theorem cP (z:Array Value) (n i:Nat) (hz:0<z.size) (hi:i<n):(madeCells z n)[i]? = z[i % z.size]?:=by have hlt:=Nat.mod_lt i hz;simp only[madeCells,Array.getElem?_map,Array.getElem?_range,hi,if_true,Option.map_some];rw[Array.getElem?_eq_getElem hlt,getElem!_pos z (i % z.size) hlt]
theorem CI {z:Array Value} {n e:Nat} (hz:0<z.size) (he:e<n):elt (madeCells z (n*z.size)) z.size e=z.toList:=by
 have:=eI (m:=z.size) he
 apply List.ext_getElem?
 intro i;rw[iM,Array.getElem?_toList]
 by_cases hi:i<z.size
 .rw[if_pos hi,cP z _ _ hz ac,Nat.add_comm,Nat.add_mul_mod_self_right,Nat.mod_eq_of_lt hi]
 .rw[if_neg hi,Array.getElem?_eq_none ac]
theorem jn {z:Array Value} {rs:Rs} (h:RsOk K c rs z.toList) (hz:0<z.size):∀(n:Nat),RsOk K c (B9 n rs) (madeCells z (n*z.size)).toList:=by
 have hl:=h.1;rw[Array.length_toList]at hl
 have succ:∀n,(madeCells z ((n+1)*z.size)).toList=z.toList++(madeCells z (n*z.size)).toList:=λn=>by
  apply List.ext_getElem?
  intro i;have e1:(n+1)*z.size=n*z.size+z.size:=Nat.succ_mul _ _;rw[Array.getElem?_toList]
  by_cases hi:i<(n+1)*z.size
  .rw[cP z _ i hz hi]
   by_cases h2:i<z.size
   .rw[Nat.mod_eq_of_lt h2,List.getElem?_append_left (by simpa using h2),Array.getElem?_toList]
   .rw[List.getElem?_append_right (by simp;omega),Array.getElem?_toList,Array.length_toList,cP z _ _ hz ac]
    congr 1
    exact Nat.mod_eq_sub_mod ac
  .rw[Array.getElem?_eq_none (by rw[size_madeCells];omega),List.getElem?_append_right (by simp;omega),Array.getElem?_toList,Array.getElem?_eq_none (by rw[size_madeCells,Array.length_toList];omega)]
 have gen:∀n,RsOk K c (Yz n rs) (madeCells z (n*z.size)).toList:=λn=>by
  induction n with
  |zero =>
   rw[Nat.zero_mul];have:(madeCells z 0).toList=[]:=List.eq_nil_of_length_eq_zero (by rw[Array.length_toList,size_madeCells])
   rw[this];exact RsOk.nil
  |succ n ih =>rw[succ,Yz,mt];exact h.append ih
 intro n;unfold B9
 split
 .rename_i k lo hi q;have hsz:z.size=1:=hl;have h0:=h.get (i:=0) (List.getElem?_eq_getElem (by rw[Array.length_toList];omega))
  obtain⟨q1,q2,q3,q4⟩:=is_I.1 h0;rw[hsz,Nat.mul_one];refine RsOk.ints (by rw[Array.length_toList,size_madeCells]) λi hi'=>?_
  rw[Array.getElem?_toList,cP z n i hz hi',hsz,Nat.mod_one];rw[Array.getElem_toList]at q1;rw[Array.getElem?_eq_getElem ac,q1];exact⟨rfl,q2,q3,q4⟩
 .exact gen n
def F8:List (TypeId × Nat)->TypeId->Option Nat
 |[],_=>none
 |(u,r)::l,t=>match Nat.beq u t with
  |true=>some r
  |false=>F8 l t
def Wx (P:Program) (t:TypeId):Option (TypeId × Nat × Nat):=match P.underlying t with
 |some (.slice e)=>match P.info? e with
  |some i=>some (e,i.size,i.bytes)
  |none=>none
 |_=>none
theorem n6 {t e:TypeId} {m b:Nat} (h:Wx P t=some (e,m,b)):P.underlying t=some (.slice e)/\∃i,P.info? e=some i/\i.size=m/\i.bytes=b:=by
 unfold Wx at h
 split at h
 .rename_i e' hu
  split at h
  .rename_i i hi;simp only[Option.some.injEq,Prod.mk.injEq]at h;obtain⟨rfl,rfl,rfl⟩:=h;exact⟨hu,i,hi,rfl,rfl⟩
  .cases h
 .cases h
end
end Go.Proofs.YtldmjbgplgoedaaGreatDoor
