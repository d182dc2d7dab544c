import Derived.Test.YtldmjbgplgoedaaGreatDoorRp08
import Derived.Scope
set_option linter.all false
namespace Go.Proofs.YtldmjbgplgoedaaGreatDoor
open Go.RowKit
def evg (G:GT) (tm:T3) (x:Operand):AT:=match x with
 |.tmp t=>tm.get t
 |.const v=>ofK v
 |.global g=>match iQ G g with
  |some _=>.tX (.sO (.nG g 0))
  |none=>.tX (.sO (.nK (.pointer (some ⟨g,0,none⟩))))
 |.func f=>.tF f [] []
def asL:List AT->Option (List AS)
 |[]=>some []
 |x::l=>match x,asL l with
  |.tX s,some r=>some (s::r)
  |_,_=>none
def Za (b:Bool) (x y:AV):Option AV:=match x,y with
 |.nI k lo hi z,.nI k' lo' hi' z'=>match ik k k' with
  |true=>some (mkI k (lj lo lo') (fc hi hi') (bif b then z else z'))
  |false=>none
 |.nB f t z,.nB f' t' z'=>some (mkB (bor f f') (bor t t') (bif b then z else z'))
 |.nK x,.nK y=>match PE x y with
  |true=>some (.nK x)
  |false=>none
 |.nP j o,.nP j' o'=>match aJ (Nat.beq j j') (Nat.beq o o')with
  |true=>some (.nP j o)
  |false=>none
 |_,_=>none
def Ay (b:Bool):Rs->Rs->Option Rs
 |[],l=>match l with
  |[]=>some []
  |_::_=>none
 |x::l,m=>match m with
  |[]=>none
  |y::m=>match x,y,Ay b l m with
   |.c x,.c y,some r=>match Za b x y with
    |some z=>some (.c z::r)
    |none=>none
   |.a n k lo hi f,.a n' k' lo' hi' f',some r=>match aJ (Nat.beq n n') (ik k k')with
    |true=>some (.a n k (lj lo lo') (fc hi hi') (λi=>bif b then f i else f' i)::r)
    |false=>none
   |_,_,_=>none
def abF (b:Bool) (x y:AT):Option AT:=match x,y with
 |.tX (.sO x),.tX (.sO y)=>match Za b x y with
  |some z=>some (.tX (.sO z))
  |none=>none
 |.tX (.sA x),.tX (.sA y)=>match Ay b x y with
  |some z=>some (.tX (.sA z))
  |none=>none
 |.tA,.tA=>some .tA
 |_,_=>none
def adK (op:BinOp) (k k':IntKind) (a b c d x y:Int):Option (List Prop × AV):=match op with
 |.quo | .rem=>match ile 1 d,qH op k k' a b 1 d x y with
  |true,some z=>some ([1<=y],z)
  |_,_=>none
 |.shl | .shr=>match qH op k k' a b (fc c 0) (lj d 63) x y with
  |some z=>some ([0<=y,y<=63],z)
  |none=>none
 |_=>none
def aa1 (op:BinOp) (k k':IntKind) (a b c d x y:Int):Option (List Prop × AV):=match qH op k k' a b c d x y with
 |some z=>some ([],z)
 |none=>adK op k k' a b c d x y
def aam (x:AV):Option Bool:=match x with
 |.nP _ _ | .nX _ _ _ _ | .nQ _ _ _ | .nY _ _ _ _ _ _ | .nG _ _=>some false
 |.nK (.pointer none)=>some true
 |.nK (.pointer (some _))=>some false
 |_=>none
def adG (x:AV):Option Bool:=match x with
 |.nS _ _ _ _ | .nD _ _ _ _ _ _=>some false
 |.nR _ lo _ _ _=>match lo with
  |0=>none
  |_=>some false
 |.nK v=>match W9 v with
  |true=>some true
  |false=>none
 |_=>none
def KG:AV->Bool
 |.nK (.pointer none)=>true
 |_=>false
def Jf:AV->Bool
 |.nK v=>W9 v
 |_=>false
def zw (P:Program) (t:TypeId) (x y:AV):Option Bool:=match P.underlying t with
 |some (.pointer _)=>match KG y with
  |true=>aam x
  |false=>none
 |some (.slice _)=>match Jf y with
  |true=>adG x
  |false=>none
 |_=>none
def ofB (b:Bool):AV:=match b with
 |true=>.nB false true true
 |false=>.nB true false false
def ue (P:Program) (t:TypeId) (x y:AS):Option AV:=match x,y with
 |.sA a,.sA b=>PJ P t a b
 |.sO (.nB f t' x),.sO (.nB g u y)=>match P.underlying t with
  |some .bool=>match eqV (.nB f t' x) (.nB g u y)with
   |some e=>some (mk3 e)
   |none=>none
  |_=>none
 |.sO x,.sO y=>match zw P t x y with
  |some b=>some (ofB b)
  |none=>none
 |_,_=>none
def Zi (x:AV):AV:=match x with
 |.nB f t x=>mkB t f (!x)
 |_=>.nU
def Ot (x y:Operand):Bool:=match x,y with
 |.tmp s,.tmp t=>Nat.beq s t
 |.const (.int k n),.const (.int k' n')=>aJ (ik k k') (ieq n n')
 |_,_=>false
def qt (y:AT):Option Eff:=some ⟨[],[],[],y⟩
def qo (y:Option AT):Option Eff:=match y with
 |some y=>some ⟨[],[],[],y⟩
 |none=>none
def qp (y:Option (List Prop × AT)):Option Eff:=match y with
 |some (ps,y)=>some ⟨ps,[],[],y⟩
 |none=>none
def j6 (K:KT) (P:Program) (G:GT) (M:List (TypeId × Nat)) (tm:T3) (mem:List AB) (p:Nat) (op:Op):Option Eff:=match op with
 |.move x=>qt (evg G tm x)
 |.assign x=>qt (evg G tm x)
 |.pick c x y=>match evg G tm c with
  |.tX (.sO (.nB f t b))=>match f,t with
   |false,_=>qt (evg G tm x)
   |true,false=>qt (evg G tm y)
   |true,true=>qo (abF b (evg G tm x) (evg G tm y))
  |_=>none
 |.build t l=>qo (mw P t (l.toList.map λx=>(x.1,evg G tm x.2)))
 |.load t x=>qp (fA K P G t (evg G tm x) mem)
 |.nilCheck x=>match evg G tm x with
  |.tX (.sO y)=>match aam y with
   |some false=>qt (.tX (.sO y))
   |_=>none
  |.tF f a b=>qt (.tF f a b)
  |_=>none
 |.binOp op t x y _=>match evg G tm x,evg G tm y with
  |.tX (.sO (.nI k a b u)),.tX (.sO (.nI k' c d v))=>match aa1 op k k' a b c d u v with
   |some (ps,z)=>some ⟨ps,[],[],.tX (.sO z)⟩
   |none=>none
  |.tX x,.tX y=>match op with
   |.eql=>match ue P t x y with
    |some z=>qt (.tX (.sO z))
    |none=>none
   |.neq=>match ue P t x y with
    |some z=>qt (.tX (.sO (Zi z)))
    |none=>none
   |_=>none
  |_,_=>none
 |.unOp op _ x=>match op,evg G tm x with
  |.neg,.tX (.sO (.nI k a b z))=>qt (.tX (.sO (A2 k (Int.neg b) (Int.neg a) (-z))))
  |.not,.tX (.sO (.nB f t z))=>qt (.tX (.sO (mkB t f (!z))))
  |_,_=>none
 |.convert src dst x=>match evg G tm x,P.underlying src,Q2 P dst with
  |.tX (.sO (.nI _ a b z)),some _,some k=>qt (.tX (.sO (A2 k a b z)))
  |_,_,_=>none
 |.makeFunc (.func f) first cap=>match asL (first.toList.map (evg G tm)),asL (cap.toList.map (evg G tm))with
  |some l,some m=>qt (.tF f l m)
  |_,_=>none
 |.slice t x lo hi mx=>qp (ni K P t (evg G tm x) (lo.map (evg G tm)) (hi.map (evg G tm)) (mx.map (evg G tm)))
 |.fieldAddr s x f=>qo (fg P s (evg G tm x) f)
 |.field s x f=>qo (oB P s (evg G tm x) f)
 |.indexAddr t x i=>qp (fH K P t (evg G tm x) (evg G tm i))
 |.index t x i=>qp (ov P t (evg G tm x) (evg G tm i))
 |.extract x i=>qo (iZ (evg G tm x) i)
 |.makeInterface t x=>match evg G tm x,P.underlying t with
  |.tX (.sA []),some (.struct _)=>qt (.tX (.sO (.nK (.iface t (.agg #[])))))
  |_,_=>none
 |.alloc t=>jI P t p
 |.box t x=>ur t (evg G tm x) p
 |.buildSlice t n l=>bX K P M t n (l.toList.map λx=>(x.1,evg G tm x.2)) p
 |.store t x y=>match cL K P t (evg G tm x) (evg G tm y) mem with
  |some (ps,j,ab)=>some ⟨ps,[(j,ab)],[],.tA⟩
  |none=>none
 |.makeSlice t x y=>kR K P M t (evg G tm x) (evg G tm y) (Ot x y) p
 |.call ⟨.builtin b,args,ts⟩=>match b with
  |.len=>match args.toList.map (evg G tm),ts.toList with
   |[x],[t]=>qo (yT P t x)
   |_,_=>none
  |.max=>qo (fV fc max (args.toList.map (evg G tm)))
  |.min=>qo (fV lj min (args.toList.map (evg G tm)))
  |.append=>match args.toList.map (evg G tm),ts.toList with
   |[x,y],[t,u]=>cz K P M t u x y mem p
   |_,_=>none
  |.copy=>match args.toList.map (evg G tm),ts.toList with
   |[x,y],[t,_]=>fk K P t x y mem
   |_,_=>none
  |_=>none
 |_=>none
section
variable {P:Program} {K:KT} {G:GT} {w0 w w':World} {c0 c c':Cx} {mem mem':List AB} {N:Nat} {tm:T3} {a:Act} {M:List (TypeId × Nat)}
theorem l5 (hG:GOk K G c) (h:AR K N c tm a) (x:Operand):(evg G tm x).is K c (a.eval x):=by
 cases x with
 |global g =>
  simp only[evg]
  split
  .rename_i rs hg;obtain⟨ty,cs,h1,-⟩:=hG g rs hg;exact is_G.2 ⟨by simp[Act.eval],by rw[h1];rfl⟩
  .exact is_K.2 ⟨rfl,rfl⟩
 |tmp t=>exact h.is_ t
 |const v=>exact TD K c v
 |func f=>exact⟨[],[],rfl,⟨rfl,λ_ _ _ h=>by simp at h⟩,⟨rfl,λ_ _ _ h=>by simp at h⟩⟩
theorem ut (hG:GOk K G c) (h:AR K N c tm a) (l:List Operand):allAt K c (l.map (evg G tm)) (l.map a.eval):=by
 refine⟨by simp,λi x v hx hv=>?_⟩
 rw[List.getElem?_map]at hx hv
 cases hq:l[i]? with
 |none=>rw[hq]at hx;cases hx
 |some o =>rw[hq]at hx hv;cases hx;cases hv;exact l5 hG h o
theorem Ai (hG:GOk K G c) (h:AR K N c tm a) (l:Array (Nat × Operand)):zx K c (l.toList.map λx=>(x.1,evg G tm x.2)) (l.map λx=>(x.1,a.eval x.2)).toList:=by
 refine⟨by simp,λi x v hx hv=>?_⟩
 rw[List.getElem?_map]at hx;rw[Array.toList_map,List.getElem?_map]at hv
 cases hq:l.toList[i]? with
 |none=>rw[hq]at hx;cases hx
 |some o =>rw[hq]at hx hv;cases hx;cases hv;exact⟨rfl,l5 hG h _⟩
theorem zU:∀ {l:List AT} {vs:List Value} {r:List AS},asL l=some r->allAt K c l vs->allIs K c r vs
 |[],vs,r,h,ha=>by
  cases h;have:vs=[]:=List.eq_nil_of_length_eq_zero (by rw[<-ha.1];rfl)
  subst this;exact⟨rfl,λ_ _ _ h=>by simp at h⟩
 |x::l,[],_,_,ha=>by have:=ha.1;simp at this
 |x::l,v::vs,r,h,ha=>by
  unfold asL at h;rw[allAt_cons]at ha
  split at h
  .rename_i s r' hr;cases h;exact allIs_cons.2 ⟨ha.1,zU hr ha.2⟩
  .cases h
theorem sj {b:Bool} {x y z:AV} {v:Value} (h:Za b x y=some z) (hx:b=true->x.is K c v) (hy:b=false->y.is K c v):z.is K c v:=by
 unfold Za at h
 split at h
 .rename_i k lo hi z1 k' lo' hi' z2
  split at h
  .rename_i e;have e:=dD e;subst e;cases h;have e1:lj lo lo'=min lo lo':=cD _ _;have e2:fc hi hi'=max hi hi':=co _ _
   cases b with
   |true =>obtain⟨rfl,h1,h2,h3⟩:=is_I.1 (hx rfl);exact jp (by simp only[cond_true];omega) (by simp only[cond_true];omega) h3
   |false =>obtain⟨rfl,h1,h2,h3⟩:=is_I.1 (hy rfl);exact jp (by simp only[cond_false];omega) (by simp only[cond_false];omega) h3
  .cases h
 .rename_i f t z1 f' t' z2;cases h
  cases b with
  |true =>obtain⟨rfl,h1,h2⟩:=is_B.1 (hx rfl);exact jv (λe=>bor_iff.2 (.inl (h1 e))) (λe=>bor_iff.2 (.inl (h2 e)))
  |false =>obtain⟨rfl,h1,h2⟩:=is_B.1 (hy rfl);exact jv (λe=>bor_iff.2 (.inr (h1 e))) (λe=>bor_iff.2 (.inr (h2 e)))
 .split at h
  .rename_i e;have e:=dG e;subst e;cases h
   cases b with
   |true=>exact hx rfl
   |false=>exact hy rfl
  .cases h
 .split at h
  .rename_i e;rw[both_iff]at e;have e1:=beq_iff'.1 e.1;have e2:=beq_iff'.1 e.2;subst e1 e2;cases h
   cases b with
   |true=>exact hx rfl
   |false=>exact hy rfl
  .cases h
 .cases h
theorem RsOk.cons_iff {x:Run} {l:Rs} {vs:List Value}:RsOk K c (x::l) vs↔RsOk K c [x] (vs.take (bi x))/\RsOk K c l (vs.drop (bi x)):=⟨λh=>h.split1,λh=>by
 have:=h.1.append h.2
 rwa [List.take_append_drop]at this⟩
theorem RsOk.one_iff {x:AV} {vs:List Value}:RsOk K c [.c x] vs↔∃v,vs=[v]/\x.is K c v:=⟨λh=>by
 have hl:=h.1
 match vs,hl with
 |[v],_=>exact⟨v,rfl,h.get (i:=0) rfl⟩,λ⟨v,e,h⟩=>by rw[e];exact RsOk.one h⟩
theorem RsOk.arr_iff {n:Nat} {k:IntKind} {lo hi:Int} {f:Nat->Int} {vs:List Value}:RsOk K c [.a n k lo hi f] vs↔vs.length=n/\∀i,i<n->vs[i]? = some (.int k (f i))/\lo<=f i/\f i<=hi/\inR k (f i):=⟨λh=>⟨h.1,(dc (A:=⟨k,lo,hi,f⟩) (n:=n) (by unfold uS;simp only[ble_iff.2 (Nat.le_refl n)]) h).2⟩,λh=>RsOk.ints h.1 h.2⟩
theorem jR {b:Bool}:∀ {l m r:Rs} {vs:List Value},Ay b l m=some r->(b=true->RsOk K c l vs)->(b=false->RsOk K c m vs)->RsOk K c r vs
 |[],[],r,vs,h,hx,hy=>by
  cases h
  cases b with
  |true=>exact hx rfl
  |false=>exact hy rfl
 |[],_::_,r,vs,h,_,_=>by cases h
 |_::_,[],r,vs,h,_,_=>by simp[Ay]at h
 |x::l,y::m,r,vs,h,hx,hy=>by
  unfold Ay at h;simp only at h
  split at h
  .rename_i x y r' hr
   split at h
   .rename_i z hz;cases h;rw[RsOk.cons_iff];refine⟨?_,jR hr (λe=>(RsOk.cons_iff.1 (hx e)).2) (λe=>(RsOk.cons_iff.1 (hy e)).2)⟩
    cases b with
    |true =>obtain⟨v,e,h1⟩:=RsOk.one_iff.1 (RsOk.cons_iff.1 (hx rfl)).1;exact RsOk.one_iff.2 ⟨v,e,sj hz (λ_=>h1) (λe=>by cases e)⟩
    |false =>obtain⟨v,e,h1⟩:=RsOk.one_iff.1 (RsOk.cons_iff.1 (hy rfl)).1;exact RsOk.one_iff.2 ⟨v,e,sj hz (λe=>by cases e) (λ_=>h1)⟩
   .cases h
  .rename_i n k lo hi f n' k' lo' hi' f' r' hr
   split at h
   .rename_i e;rw[both_iff]at e;have e1:=beq_iff'.1 e.1;have e2:=dD e.2;subst e1 e2;cases h;rw[RsOk.cons_iff];refine⟨?_,jR hr (λe=>(RsOk.cons_iff.1 (hx e)).2) (λe=>(RsOk.cons_iff.1 (hy e)).2)⟩;have e1:lj lo lo'=min lo lo':=cD _ _;have e2:fc hi hi'=max hi hi':=co _ _
    cases b with
    |true =>obtain⟨q1,q2⟩:=RsOk.arr_iff.1 (RsOk.cons_iff.1 (hx rfl)).1;exact RsOk.arr_iff.2 ⟨q1,λi hi'=>by obtain⟨r1,r2,r3,r4⟩:=q2 i hi';exact⟨r1,by simp only[cond_true];omega,by simp only[cond_true];omega,r4⟩⟩
    |false =>obtain⟨q1,q2⟩:=RsOk.arr_iff.1 (RsOk.cons_iff.1 (hy rfl)).1;exact RsOk.arr_iff.2 ⟨q1,λi hi'=>by obtain⟨r1,r2,r3,r4⟩:=q2 i hi';exact⟨r1,by simp only[cond_false];omega,by simp only[cond_false];omega,r4⟩⟩
   .cases h
  .cases h
theorem z6 {b:Bool} {x y z:AT} {v:Value} (h:abF b x y=some z) (hx:b=true->x.is K c v) (hy:b=false->y.is K c v):z.is K c v:=by
 unfold abF at h
 split at h
 .split at h
  .rename_i hz;cases h;exact sj hz hx hy
  .cases h
 .split at h
  .rename_i r hz;cases h
   cases b with
   |true=>obtain⟨vs,e,h1⟩:=hx rfl;exact⟨vs,e,jR hz (λ_=>h1) (λe=>by cases e)⟩
   |false=>obtain⟨vs,e,h1⟩:=hy rfl;exact⟨vs,e,jR hz (λe=>by cases e) (λ_=>h1)⟩
  .cases h
 .cases h;trivial
 .cases h
theorem D5 {op:BinOp} {t:TypeId} {k k':IntKind} {la ha lb hb x y:Int} {r:AV} {ps:List Prop} (h:aa1 op k k' la ha lb hb x y=some (ps,r)) (h1:la<=x) (h2:x<=ha) (h3:lb<=y) (h4:y<=hb) (hx:inR k x) (hy:inR k' y) (hp:bC ps) (w:World) :
 ∃v,(binOp op t (.int k x) (.int k' y)).run P w=.ok v w/\r.is K c v:=by
 unfold aa1 at h
 split at h
 .rename_i z hz;cases h;exact dS hz h1 h2 h3 h4 hx hy w
 .unfold adK at h
  split at h
  .split at h
   .rename_i z _ hz;cases h;exact dS hz h1 h2 hp.1 h4 hx hy w
   .cases h
  .split at h
   .rename_i z _ hz;cases h;exact dS hz h1 h2 hp.1 h4 hx hy w
   .cases h
  .split at h
   .rename_i z hz;cases h;exact dS hz h1 h2 (by rw[co];have:=hp.1;omega) (by rw[cD];have:=hp.2.1;omega) hx hy w
   .cases h
  .split at h
   .rename_i z hz;cases h;exact dS hz h1 h2 (by rw[co];have:=hp.1;omega) (by rw[cD];have:=hp.2.1;omega) hx hy w
   .cases h
  .cases h
end
end Go.Proofs.YtldmjbgplgoedaaGreatDoor
namespace Go.Proofs.YtldmjbgplgoedaaGreatDoor
open Go.RowKit
section
variable {P:Program} {K:KT} {G:GT} {w0 w w':World} {c0 c c':Cx} {mem mem':List AB} {N:Nat} {tm:T3} {a:Act} {M:List (TypeId × Nat)}
theorem yV (b:Bool):(ofB b).is K c (.bool b):=by cases b<;>exact is_B.2 ⟨rfl,by simp,by simp⟩
theorem AK {t:TypeId} {x y:AV} {u v:Value} {b:Bool} (p q:Operand) (hx:x.is K c u) (hy:y.is K c v) (h:zw P t x y=some b) :
 (Op.equal t u v).run P w=.ok b w/\(eqGuard .eql t p q u v).run P w=.ok () w/\(eqGuard .neq t p q u v).run P w=.ok () w/\binOp .eql t u v=(do pure (.bool (<-Op.equal t u v)))/\binOp .neq t u v=(do pure (.bool (!(<-Op.equal t u v)))):=by
 unfold zw at h
 split at h
 .rename_i e hu
  split at h
  .rename_i hn
   have key:∀ad,(Op.equal t (.pointer ad) (.pointer none)).run P w=.ok ad.isNone w:=λad=>by rw[Op.equal,show Op.maxDepth=9999+1 from rfl,Op.equalIn,Sem.run_bind,run_underlying hu];cases ad<;>rfl
   have hv:v=.pointer none:=by
    cases y<;>simp only[KG,Bool.false_eq_true]at hn;rename_i z;obtain⟨hz,-⟩:=is_K.1 hy;subst hz
    split at hn
    .rename_i e;cases e;rfl
    .cases hn
   subst hv
   have hu2:∃ad,u=.pointer ad/\b=ad.isNone:=by
    cases x<;>simp only[aam,reduceCtorEq]at h
    case nP j o=>obtain⟨id,-,e⟩:=is_P.1 hx;cases h;exact⟨_,e,rfl⟩
    case nX j κ d i=>obtain⟨id,-,e⟩:=is_X.1 hx;cases h;exact⟨_,e,rfl⟩
    case nQ κ d ls=>obtain⟨id,_,_,_,e,-⟩:=is_Q.1 hx;cases h;exact⟨_,e,rfl⟩
    case nY j o n a b e=>obtain⟨id,-,e,-⟩:=is_Y.1 hx;cases h;exact⟨_,e,rfl⟩
    case nG g o=>obtain⟨e,-⟩:=is_G.1 hx;cases h;exact⟨_,e,rfl⟩
    case nK z =>
     obtain⟨hz,-⟩:=is_K.1 hx
     split at h<;>first|(rename_i e;cases e;done) | skip
     all_goals first|(rename_i e;cases e;cases h;exact⟨_,hz,rfl⟩) | cases h
   obtain⟨ad,rfl,rfl⟩:=hu2;exact⟨key ad,rfl,rfl,rfl,rfl⟩
  .cases h
 .rename_i e hu
  split at h
  .rename_i hn
   have key:∀A n m,(Op.equal t (.slice A n m) (.slice none 0 0)).run P w=.ok A.isNone w:=λA n m=>by rw[Op.equal,show Op.maxDepth=9999+1 from rfl,Op.equalIn,Sem.run_bind,run_underlying hu];cases A<;>rfl
   have hv:v=.slice none 0 0:=by cases y<;>simp only[Jf,Bool.false_eq_true]at hn;obtain⟨hz,-⟩:=is_K.1 hy;subst hz;exact(dG hn).symm
   subst hv
   have hu2:∃A n m,u=.slice A n m/\b=A.isNone:=by
    cases x<;>simp only[adG,reduceCtorEq]at h
    case nS=>obtain⟨id,-,e,-⟩:=is_S.1 hx;cases h;exact⟨_,_,_,e,rfl⟩
    case nD=>obtain⟨id,m,-,e,-⟩:=is_D.1 hx;cases h;exact⟨_,_,_,e,rfl⟩
    case nR κ lo hi n g =>
     obtain⟨A,m,e,h1,h2,h3,h4,h5,h6⟩:=is_R.1 hx
     split at h
     .cases h
     .rename_i hlo;cases h;refine⟨_,_,_,e,?_⟩
      cases A with
      |none=>have:=h5 rfl;exact absurd (show lo=0 by omega) hlo
      |some A=>rfl
    case nK z =>
     obtain⟨hz,-⟩:=is_K.1 hx
     split at h
     .rename_i e;have e:=dG e;cases h;exact⟨_,_,_,hz.trans e.symm,rfl⟩
     .cases h
   obtain⟨A,n,m,rfl,rfl⟩:=hu2;exact⟨key A n m,rfl,rfl,rfl,rfl⟩
  .cases h
 .cases h
theorem lO {t:TypeId} {x y:AS} {u v:Value} {z:AV} (a b:Operand) (hx:x.is K c u) (hy:y.is K c v) (h:ue P t x y=some z) :
 ∃r:Bool,(Op.equal t u v).run P w=.ok r w/\z.is K c (.bool r)/\(eqGuard .eql t a b u v).run P w=.ok () w/\(eqGuard .neq t a b u v).run P w=.ok () w/\binOp .eql t u v=(do pure (.bool (<-Op.equal t u v)))/\binOp .neq t u v=(do pure (.bool (!(<-Op.equal t u v)))):=by
 unfold ue at h
 split at h
 .obtain⟨r,h1,h2,h3,h4,xs,ys,rfl,rfl⟩:=zJ a b hx hy h;exact⟨r,h1,h2,h3,h4,rfl,rfl⟩
 .rename_i f t' x g u' y
  split at h
  .rename_i hu
   split at h
   .rename_i e he;cases h;have hxx:(AV.nB f t' x).is K c u:=hx;have hyy:(AV.nB g u' y).is K c v:=hy;obtain⟨rfl,p1,p2⟩:=is_B.1 hxx;obtain⟨rfl,q1,q2⟩:=is_B.1 hyy;refine⟨x==y,?_,ag5 (J8 (k:=none) (show wl none (.bool x)from trivial) (show wl none (.bool y)from trivial) hxx hyy he) ?_,rfl,rfl,rfl,rfl⟩
    .rw[Op.equal,show Op.maxDepth=9999+1 from rfl,Op.equalIn,Sem.run_bind,run_underlying hu];rfl
    .rw[beq_iff_eq];exact⟨λe=>by rw[e],λe=>by cases e;rfl⟩
   .cases h
  .cases h
 .split at h
  .rename_i hb;cases h;obtain⟨h1,h2⟩:=AK (w:=w) a b hx hy hb;exact⟨_,h1,yV _,h2⟩
  .cases h
 .cases h
theorem Ou {t:TypeId} {u v:Value} {r:Bool} (h:binOp .eql t u v=(do pure (.bool (<-Op.equal t u v)))) (hr:(Op.equal t u v).run P w=.ok r w):(binOp .eql t u v).run P w=.ok (.bool r) w:=by rw[h];simp only[Sem.run_bind,hr,Result.andThen_ok,Sem.run_pure]
theorem OK {t:TypeId} {u v:Value} {r:Bool} (h:binOp .neq t u v=(do pure (.bool (!(<-Op.equal t u v))))) (hr:(Op.equal t u v).run P w=.ok r w):(binOp .neq t u v).run P w=.ok (.bool (!r)) w:=by rw[h];simp only[Sem.run_bind,hr,Result.andThen_ok,Sem.run_pure]
theorem MH {z:AV} {b:Bool} (h:z.is K c (.bool b)):(Zi z).is K c (.bool (!b)):=by
 unfold Zi
 split
 .obtain⟨e,h1,h2⟩:=is_B.1 h;cases e;exact jv (λe=>h2 (by simpa using e)) (λe=>h1 (by simpa using e))
 .exact is_U.2 rfl
theorem adx {α:Type} {l:Array α} {x:α} (h:l.toList=[x]):l=#[x]:=by
 apply Array.toList_inj.1
 rw[h]
theorem iP {lo:Option Operand} (hG:GOk K G c) (h:AR K N c tm a):(lo.map (evg G tm)).isSome=(lo.map a.eval).isSome/\∀y v,lo.map (evg G tm)=some y->lo.map a.eval=some v->y.is K c v:=by
 cases lo with
 |none=>exact⟨rfl,λ_ _ e=>by cases e⟩
 |some o=>exact⟨rfl,λy v e1 e2=>by cases e1;cases e2;exact l5 hG h o⟩
theorem JZ {l:List Operand} {x y:AT} (e:l.map (evg G tm)=[x,y]):∃o o',l=[o,o']/\x=evg G tm o/\y=evg G tm o':=by
 match l,e with
 |[o,o'],e=>simp only[List.map_cons,List.map_nil,List.cons.injEq,and_true]at e;exact⟨o,o',rfl,e.1.symm,e.2.symm⟩
theorem Y6 {α:Type} {l:Array α} {x y:α} (h:l.toList=[x,y]):l=#[x,y]:=by
 apply Array.toList_inj.1
 rw[h]
theorem CY {x y:Operand} (h:Ot x y=true):a.eval x=a.eval y:=by
 unfold Ot at h
 split at h
 .rw[beq_iff'.1 h]
 .rw[both_iff]at h;rw[dD h.1,ieq_iff.1 h.2]
 .cases h
set_option maxHeartbeats 2000000 in
theorem gD (hG:GOk K G c) (hm:AM K w0 c0 c mem w) (hr:AR K N c tm a) (o:Oper) {p:Nat} {e:Eff} (h:j6 K P G M tm mem p o.op=some e) (hroom:af2 c mem p e.nw.length) (hp:bC e.ps):dy P o a w (λv w'=>EOk K w0 c0 c mem p e v w'):=by
 obtain⟨dst,op,ty,pos,after,guard⟩:=o;simp only at h;have ev:=l5 (K:=K) hG hr
 have quiet:∀(s:Sem Value) (y:AT),(∃v,s.run P w=.ok v w/\y.is K c v)->execOp a.eval ⟨dst,op,ty,pos,after,guard⟩=(do pure (Next.value (<-s)))->e=⟨e.ps,[],[],y⟩->dy P ⟨dst,op,ty,pos,after,guard⟩ a w (λv w'=>EOk K w0 c0 c mem p e v w'):=λs y ⟨v,h1,h2⟩ he hee=>by unfold dy;rw[he];simp only[Sem.run_bind,h1,Result.andThen_ok,Sem.run_pure];rw[hee];exact EOk.quiet hm h2
 have noisy:∀(s:Sem Value),(∃v w',s.run P w=.ok v w'/\EOk K w0 c0 c mem p e v w')->execOp a.eval ⟨dst,op,ty,pos,after,guard⟩=(do pure (Next.value (<-s)))->dy P ⟨dst,op,ty,pos,after,guard⟩ a w (λv w'=>EOk K w0 c0 c mem p e v w'):=λs ⟨v,w',h1,h2⟩ he=>by unfold dy;rw[he];simp only[Sem.run_bind,h1,Result.andThen_ok,Sem.run_pure];exact h2
 have qo_:∀ {y:Option AT},qo y=some e->∃z,y=some z/\e=⟨e.ps,[],[],z⟩:=λ{y} h=>by
  unfold qo at h
  split at h
  .cases h;exact⟨_,rfl,rfl⟩
  .cases h
 have qp_:∀ {y:Option (List Prop × AT)},qp y=some e->∃z,y=some (e.ps,z)/\e=⟨e.ps,[],[],z⟩:=λ{y} h=>by
  unfold qp at h
  split at h
  .cases h;exact⟨_,rfl,rfl⟩
  .cases h
 cases op<;>simp only[j6]at h<;>try (cases h;done)
 case move x=>cases h;exact quiet (pure (a.eval x)) _ ⟨_,rfl,ev x⟩ rfl rfl
 case assign x=>cases h;exact quiet (pure (a.eval x)) _ ⟨_,rfl,ev x⟩ rfl rfl
 case makeInterface t x =>
  have hx:=ev x
  split at h
  .rename_i fs e hu;cases h;rw[e]at hx;obtain⟨vs,hv,h1⟩:=hx;have:vs=[]:=List.eq_nil_of_length_eq_zero h1.1;subst this;exact quiet (Instr.makeInterface t (a.eval x)) (.tX (.sO (.nK (.iface t (.agg #[]))))) ⟨.iface t (.agg #[]),by rw[hv];simp[Instr.makeInterface,run_underlying hu],show AV.is K c (.nK (.iface t (.agg #[]))) _ from is_K.2 ⟨rfl,rfl⟩⟩ rfl rfl
  .cases h
 case pick q x y' =>
  have hq:=ev q
  split at h
  .rename_i f t b e';rw[e']at hq;obtain⟨hb,h1,h2⟩:=is_B.1 hq
   have fin:∀y,(if b=true then y.is K c (a.eval x)else y.is K c (a.eval y'))->e=⟨e.ps,[],[],y⟩->dy P ⟨dst,.pick q x y',ty,pos,after,guard⟩ a w (λv w'=>EOk K w0 c0 c mem p e v w'):=λy hy hee=>by
    have g1:(execOp a.eval ⟨dst,.pick q x y',ty,pos,after,guard⟩).run P w=.ok (.value (if b=true then a.eval x else a.eval y')) w:=by cases b<;>simp only[execOp,hb,asBool,Sem.run_bind,Sem.run_pure,Result.andThen_ok,if_true,Bool.false_eq_true,if_false]
    unfold dy;rw[g1,hee];refine EOk.quiet hm ?_;cases b<;>simpa using hy
   split at h
   .have:b=true:=by cases b with
     |true=>rfl
     |false=>have:=h1 rfl;cases this
    subst this;cases h;exact fin _ (by rw[if_pos rfl];exact ev x) rfl
   .have:b=false:=by cases b with
     |false=>rfl
     |true=>have:=h2 rfl;cases this
    subst this;cases h;exact fin _ (by rw[if_neg (by simp)];exact ev y') rfl
   .obtain⟨z,hz,hee⟩:=qo_ h;refine fin z ?_ hee
    cases b with
    |true=>rw[if_pos rfl];exact z6 hz (λ_=>ev x) (λe=>by cases e)
    |false=>rw[if_neg (by simp)];exact z6 hz (λe=>by cases e) (λ_=>ev y')
  .cases h
 case build t l=>obtain⟨z,hz,hee⟩:=qo_ h;exact quiet (Instr.build t (l.map λx=>(x.1,a.eval x.2))) z (pi (Ai hG hr l) hz) rfl hee
 case load t x=>obtain⟨z,hz,hee⟩:=qp_ h;exact quiet (Instr.loadAt t (a.eval x)) z (jS hG hm (ev x) hz hp) rfl hee
 case nilCheck x =>
  have hx:=ev x
  split at h
  .rename_i y e';rw[e']at hx;have hx:y.is K c (a.eval x):=hx
   split at h
   .rename_i hn;cases h
    have:∃ad,a.eval x=.pointer (some ad):=by
     cases y with
     |nP j o=>obtain⟨id,-,e⟩:=is_P.1 hx;exact⟨_,e⟩
     |nX j κ d i=>obtain⟨id,-,e⟩:=is_X.1 hx;exact⟨_,e⟩
     |nQ κ d ls=>obtain⟨id,_,_,_,e,-⟩:=is_Q.1 hx;exact⟨_,e⟩
     |nY j o n a b e=>obtain⟨id,-,e,-⟩:=is_Y.1 hx;exact⟨_,e⟩
     |nG g o=>obtain⟨e,-⟩:=is_G.1 hx;exact⟨_,e⟩
     |nK z =>
      obtain⟨hz,-⟩:=is_K.1 hx
      cases z with
      |pointer ad =>
       cases ad with
       |none=>cases hn
       |some ad=>exact⟨ad,hz⟩
      |_=>cases hn
     |_=>cases hn
    obtain⟨ad,had⟩:=this;unfold dy;have:(execOp a.eval ⟨dst,.nilCheck x,ty,pos,after,guard⟩).run P w=.ok (.value (.pointer (some ad))) w:=by simp only[execOp,had,Sem.run_pure]
    rw[this];exact EOk.quiet hm (by rw[<-had];exact hx)
   .cases h
  .rename_i f l m e';rw[e']at hx;obtain⟨vs,us,hv,h1,h2⟩:=hx;cases h;unfold dy;have:(execOp a.eval ⟨dst,.nilCheck x,ty,pos,after,guard⟩).run P w=.ok (.value (.func (.func f) vs.toArray us.toArray)) w:=by simp only[execOp,hv,Sem.run_pure]
   rw[this];exact EOk.quiet hm ⟨vs,us,rfl,h1,h2⟩
  .cases h
 case binOp op t x y' t2 =>
  have hx:=ev x;have hy:=ev y'
  have go:∀(u v:Value) (y:AT),a.eval x=u->a.eval y'=v->(∃r,(eqGuard op t x y' u v).run P w=.ok () w/\(binOp op t u v).run P w=.ok r w/\y.is K c r)->e=⟨e.ps,[],[],y⟩->dy P ⟨dst,.binOp op t x y' t2,ty,pos,after,guard⟩ a w (λv w'=>EOk K w0 c0 c mem p e v w'):=λu v y e1 e2 ⟨r,r1,r2,r3⟩ hee =>quiet (do eqGuard op t x y' (a.eval x) (a.eval y');binOp op t (a.eval x) (a.eval y')) y ⟨r,by simp only[e1,e2,Sem.run_bind,r1,Result.andThen_ok,r2],r3⟩ rfl hee
  split at h
  .rename_i k la ha u k' lb hb v e1 e2;rw[e1]at hx;rw[e2]at hy;obtain⟨v1,a1,a2,a3⟩:=is_I.1 hx;obtain⟨v2,b1,b2,b3⟩:=is_I.1 hy
   split at h
   .rename_i ps z hz;cases h;obtain⟨r,r1,r2⟩:=D5 (P:=P) (K:=K) (c:=c) (t:=t) hz a1 a2 b1 b2 a3 b3 hp w;exact go _ _ (.tX (.sO z)) v1 v2 ⟨r,by cases op<;>rfl,r1,r2⟩ rfl
   .cases h
  .rename_i s r hn e1 e2;rw[e1]at hx;rw[e2]at hy
   split at h
   .split at h
    .rename_i z hz;cases h;obtain⟨q,q1,q2,q3,q4,q5,q6⟩:=lO (w:=w) x y' hx hy hz;exact go _ _ (.tX (.sO z)) rfl rfl ⟨.bool q,q3,Ou q5 q1,q2⟩ rfl
    .cases h
   .split at h
    .rename_i z hz;cases h;obtain⟨q,q1,q2,q3,q4,q5,q6⟩:=lO (w:=w) x y' hx hy hz;exact go _ _ (.tX (.sO (Zi z))) rfl rfl ⟨.bool (!q),q4,OK q6 q1,MH q2⟩ rfl
    .cases h
   .cases h
  .cases h
 case unOp op t x =>
  have hx:=ev x
  split at h
  .rename_i k la hb z e';rw[e']at hx;obtain⟨hz,a1,a2,a3⟩:=is_I.1 hx;cases h;refine quiet (Op.unary .neg (a.eval x)) (.tX (.sO (A2 k (Int.neg hb) (Int.neg la) (-z)))) ⟨.int k (k.wrap (-z)),?_,iY (by show -hb<=-z;omega) (by show -z<=-la;omega)⟩ rfl rfl
   rw[hz];show Result.ok (Value.int k (k.wrap (0-z))) w=_;rw[Int.zero_sub]
  .rename_i f t' z e';rw[e']at hx;obtain⟨hb,h1,h2⟩:=is_B.1 hx;cases h;refine quiet (Op.unary .not (a.eval x)) (.tX (.sO (mkB t' f (!z)))) ⟨.bool (!z),?_,jv (λe=>h2 (by simpa using e)) (λe=>h1 (by simpa using e))⟩ rfl rfl
   rw[hb];rfl
  .cases h
 case convert src d x =>
  have hx:=ev x
  split at h
  .rename_i k0 la hb z ds k e' hs hk;rw[e']at hx;obtain⟨hz,a1,a2,a3⟩:=is_I.1 hx
   have hd:P.underlying d=some (.int k):=by
    unfold Q2 at hk
    split at hk
    .rename_i hd;cases hk;exact hd
    .cases hk
   cases h;refine quiet (convert src d (a.eval x)) (.tX (.sO (A2 k la hb z))) ⟨.int k (k.wrap z),?_,iY a1 a2⟩ rfl rfl;rw[hz]
   simp[convert,run_underlying hs,run_underlying hd,Conv.intToInt]
  .cases h
 case makeFunc fn first cap =>
  cases fn<;>simp only at h<;>try (cases h;done)
  rename_i f
  split at h
  .rename_i l m hl hm';cases h;have h1:=zU hl (ut hG hr first.toList)
   have h2:=zU hm' (ut hG hr cap.toList);refine quiet (Instr.makeFunc (.func f) (first.map a.eval) (cap.map a.eval)) (.tF f l m) ⟨.func (.func f) (first.map a.eval) (cap.map a.eval),?_,_,_,?_,h1,h2⟩ rfl rfl
   .rfl
   .congr 1<;>(apply Array.toList_inj.1;simp)
  .cases h
 case slice t x lo hi mx =>obtain⟨z,hz,hee⟩:=qp_ h;obtain⟨l1,l2⟩:=iP (K:=K) (lo:=lo) hG hr;obtain⟨h1,h2⟩:=iP (K:=K) (lo:=hi) hG hr;obtain⟨m1,m2⟩:=iP (K:=K) (lo:=mx) hG hr;exact quiet (Instr.sliceAt t (a.eval x) (lo.map a.eval) (hi.map a.eval) (mx.map a.eval)) z (qf (ev x) l1 h1 m1 l2 h2 m2 hz hp) rfl hee
 case fieldAddr s x f=>obtain⟨z,hz,hee⟩:=qo_ h;exact quiet (Instr.fieldAt s (a.eval x) f) z (jy (ev x) hz) rfl hee
 case field s x f=>obtain⟨z,hz,hee⟩:=qo_ h;exact quiet (Instr.field s (a.eval x) f) z (pD (ev x) hz) rfl hee
 case indexAddr t x i=>obtain⟨z,hz,hee⟩:=qp_ h;exact quiet (Instr.indexAt t (a.eval x) (a.eval i)) z (jC (ev x) (ev i) hz hp) rfl hee
 case index t x i=>obtain⟨z,hz,hee⟩:=qp_ h;exact quiet (Instr.index t (a.eval x) (a.eval i)) z (oO (ev x) (ev i) hz hp) rfl hee
 case extract x i=>obtain⟨z,hz,hee⟩:=qo_ h;exact quiet (Instr.extract (a.eval x) i) z (afy (ev x) hz) rfl hee
 case alloc t=>exact noisy (Instr.alloc t true (.tuple #[])) (qI hm h hroom) rfl
 case box t x=>exact noisy (Instr.box t (a.eval x)) (vf hm (ev x) h hroom) rfl
 case buildSlice t n l=>exact noisy (Instr.buildSlice t n (l.map λx=>(x.1,a.eval x.2))) (iR hm (Ai hG hr l) h hroom) rfl
 case makeSlice t x y=>exact noisy (Instr.makeSlice t (a.eval x) (a.eval y)) (so hm (ev x) (ev y) CY h hroom hp) rfl
 case store t x y =>
  split at h
  .rename_i ps j ab hs;cases h;obtain⟨w',h1,h2⟩:=pC (P:=P) hm (ev x) (ev y) hs hp;unfold dy;simp only[execOp,Sem.run_bind,h1,Result.andThen_ok,Sem.run_pure];exact⟨c,Cx.le_refl _,λ_ _=>rfl,h2,trivial⟩
  .cases h
 case call q =>
  obtain⟨callee,args,ts⟩:=q;have hl:=ut (K:=K) hG hr args.toList
  have earr:args.map a.eval=(args.toList.map a.eval).toArray:=by
   apply Array.toList_inj.1
   simp
  cases callee with
  |invoke r m=>cases h
  |value f=>cases h
  |builtin b =>
   have bq:∀(s:Sem Value) (y:AT),(∀cs,builtin b ts ty cs (args.map a.eval)=(do pure (Next.value (<-s))))->(∃r,s.run P w=.ok r w/\y.is K c r)->e=⟨e.ps,[],[],y⟩->dy P ⟨dst,.call ⟨.builtin b,args,ts⟩,ty,pos,after,guard⟩ a w (λv w'=>EOk K w0 c0 c mem p e v w'):=λs y he ⟨r,r1,r2⟩ hee=>by unfold dy;simp only[execOp,resolve,Sem.run_bind,Sem.run_pure,Result.andThen_ok,invoke,he,r1];rw[hee];exact EOk.quiet hm r2
   have bn:∀(s:Sem Value),(∀cs,builtin b ts ty cs (args.map a.eval)=(do pure (Next.value (<-s))))->(∃r w',s.run P w=.ok r w'/\EOk K w0 c0 c mem p e r w')->dy P ⟨dst,.call ⟨.builtin b,args,ts⟩,ty,pos,after,guard⟩ a w (λv w'=>EOk K w0 c0 c mem p e v w'):=λs he ⟨r,w',r1,r2⟩=>by unfold dy;simp only[execOp,resolve,Sem.run_bind,Sem.run_pure,Result.andThen_ok,invoke,he,r1];exact r2
   cases b<;>simp only at h<;>try (cases h;done)
   case len =>
    split at h
    .rename_i x t hx hts;obtain⟨z,hz,hee⟩:=qo_ h
     have:∃o,args.toList=[o]/\x=evg G tm o:=by
      match hq:args.toList,hx with
      |[o],e=>simp only[List.map_cons,List.map_nil,List.cons.injEq,and_true]at e;exact⟨o,rfl,e.symm⟩
     obtain⟨o,ho,rfl⟩:=this;obtain rfl:=adx ho;obtain rfl:=adx hts;exact bq (Builtin.len_ #[t] ty #[a.eval o]) z (λ_=>by rw[show Array.map a.eval #[o]=#[a.eval o] by simp];rfl) (vI (ev o) hz) hee
    .cases h
   case max=>obtain⟨z,hz,hee⟩:=qo_ h;exact bq (Builtin.max_ ts ty (args.map a.eval)) z (λ_=>rfl) (by rw[earr];exact vr hl hz) hee
   case min=>obtain⟨z,hz,hee⟩:=qo_ h;exact bq (Builtin.min_ ts ty (args.map a.eval)) z (λ_=>rfl) (by rw[earr];exact vM hl hz) hee
   case append =>
    split at h
    .rename_i x y t u hx hts;obtain⟨o,o',ho,rfl,rfl⟩:=JZ hx;obtain rfl:=Y6 ho;obtain rfl:=Y6 hts;exact bn (Builtin.append_ #[t,u] ty #[a.eval o,a.eval o']) (λ_=>by rw[show Array.map a.eval #[o,o']=#[a.eval o,a.eval o'] by simp];rfl) (ny (P:=P) (ty:=ty) hm (ev o) (ev o') h hroom hp)
    .cases h
   case copy =>
    split at h
    .rename_i x y t u hx hts;obtain⟨o,o',ho,rfl,rfl⟩:=JZ hx;obtain rfl:=Y6 ho;obtain rfl:=Y6 hts;exact bn (Builtin.copy_ #[t,u] ty #[a.eval o,a.eval o']) (λ_=>by rw[show Array.map a.eval #[o,o']=#[a.eval o,a.eval o'] by simp];rfl) (sC (P:=P) (t2:=u) (ty:=ty) hm (ev o) (ev o') h hp)
    .cases h
end
end Go.Proofs.YtldmjbgplgoedaaGreatDoor
