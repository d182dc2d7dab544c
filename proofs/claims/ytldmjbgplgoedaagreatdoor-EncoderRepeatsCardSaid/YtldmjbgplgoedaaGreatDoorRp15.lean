import Derived.Test.YtldmjbgplgoedaaGreatDoorRp14
set_option linter.all false
namespace Go.Proofs.YtldmjbgplgoedaaGreatDoor
open Go.RowKit
structure FR (α:Type) where
 ps:List Prop
 mem:List AB
 x:α
def frV (s x:AV) (mem:List AB):FR AV:=match s,x with
 |.nR ..,.nD j κ a b o n=>match be mem j with
  |some (.dyn ty κ' a' b' n' g _)=>match Nat.beq κ κ' with
   |true=>⟨[Nat.add o n<=n'],mem.set j (.dyn ty κ' a' b' n' g true),.nR κ a b n λi=>g (Nat.add o i)⟩
   |false=>⟨[],mem,x⟩
  |_=>⟨[],mem,x⟩
 |_,x=>⟨[],mem,x⟩
def H8:Rs->Rs->List AB->FR Rs
 |[],_,mem=>⟨[],mem,[]⟩
 |r::l,rs,mem=>match r with
  |.c s=>match frV s (lT rs 0) mem with
   |⟨ps,m,x⟩=>match H8 l (bc rs 1) m with
    |⟨qs,m',rs'⟩=>⟨ps++qs,m',.c x::rs'⟩
  |.a n _ _ _ _=>match H8 l (bc rs n) mem with
   |⟨qs,m',rs'⟩=>⟨qs,m',hY rs n++rs'⟩
def acg:AV->Bool
 |.nR ..=>true
 |_=>false
def aaK:Rs->Bool
 |[]=>false
 |r::l=>match r with
  |.c x=>match acg x with
   |true=>true
   |false=>aaK l
  |.a ..=>aaK l
def frS (s x:AS) (mem:List AB):FR AS:=match s,x with
 |.sO s,.sO x=>match frV s x mem with
  |⟨ps,m,y⟩=>⟨ps,m,.sO y⟩
 |.sA s,.sA rs=>match aJ (aaK s) (Nat.beq (aV s) (aV rs))with
  |true=>match H8 s rs mem with
   |⟨ps,m,y⟩=>⟨ps,m,.sA y⟩
  |false=>⟨[],mem,.sA rs⟩
 |_,x=>⟨[],mem,x⟩
def Qn:List AS->List AS->List AB->FR (List AS)
 |s::l,y,mem=>match y with
  |[]=>⟨[],mem,[]⟩
  |x::xs=>match frS s x mem with
   |⟨ps,m,y⟩=>match Qn l xs m with
    |⟨qs,m',ys⟩=>⟨ps++qs,m',y::ys⟩
 |[],xs,mem=>⟨[],mem,xs⟩
def frT (s x:AT) (mem:List AB):FR AT:=match s,x with
 |.tX s,.tX x=>match frS s x mem with
  |⟨ps,m,y⟩=>⟨ps,m,.tX y⟩
 |.tT l,.tT xs=>match Qn l xs mem with
  |⟨ps,m,y⟩=>⟨ps,m,.tT y⟩
 |_,x=>⟨[],mem,x⟩
def Xl:List AT->List AT->List AB->FR (List AT)
 |s::l,y,mem=>match y with
  |[]=>⟨[],mem,[]⟩
  |x::xs=>match frT s x mem with
   |⟨ps,m,y⟩=>match Xl l xs m with
    |⟨qs,m',ys⟩=>⟨ps++qs,m',y::ys⟩
 |[],xs,mem=>⟨[],mem,xs⟩
section
variable {K:KT} {w0 w w':World} {c0 c c':Cx} {mem mem':List AB}
def FrOk {α:Type} (K:KT) (w0:World) (c0 c:Cx) (w:World) (n:Nat) (p:Cx->α->Prop) (r:FR α):Prop:=bC r.ps->∃c',c.le c'/\AM K w0 c0 c' r.mem w/\r.mem.length=n/\p c' r.x
theorem FrOk.no {α:Type} {p:Cx->α->Prop} {x:α} (h:AM K w0 c0 c mem w) (hx:p c x):FrOk K w0 c0 c w mem.length p ⟨[],mem,x⟩:=λ_=>⟨c,Cx.le_refl c,h,rfl,hx⟩
theorem Jl {s x:AV} {v:Value} (h:AM K w0 c0 c mem w) (hx:x.is K c v):FrOk K w0 c0 c w mem.length (λc x=>x.is K c v) (frV s x mem):=by
 unfold frV
 split
 .rename_i j κ a b o n
  split
  .rename_i ty κ' a' b' n' g fz hm
   split
   .rename_i e;have e:=beq_iff'.1 e;subst e;intro hp;have hp:o+n<=n':=hp.1;rw[aP]at hm;obtain⟨id,m,h1,rfl,h3,h4,h5,h6,h7⟩:=is_D.1 hx
    have fin:∀c',c.le c'->AM K w0 c0 c' (mem.set j (.dyn ty κ a' b' n' g true)) w->∃c',c.le c'/\AM K w0 c0 c' (mem.set j (.dyn ty κ a' b' n' g true)) w/\(mem.set j (.dyn ty κ a' b' n' g true)).length=mem.length/\(AV.nR κ a b n λi=>g (Nat.add o i)).is K c' (.slice (some ⟨id,o*(aK K κ).m,none⟩) n m):=λc' hle hA=>by
     refine⟨c',hle,hA,by rw[List.length_set],is_R.2 ⟨_,m,rfl,h3,h4,h5,h6,(λe=>by cases e),λad e _=>?_⟩⟩
     cases e;have hlt:j<mem.length:=(List.getElem?_eq_some_iff.1 hm).1;obtain⟨k1,k2,cs,k3,k4,k5,k6,k7⟩:=hA.kn j id _ (hle.ρ j id h1) (List.getElem?_set_self hlt);refine⟨o*(aK K κ).m,ty,cs,rfl,k7,?_,λi hi=>?_⟩
     .rw[k4,hle.sz j id h1,<-Nat.add_mul];exact h7
     .have:=k6 (o+i) ac
      rwa [elt,Nat.add_mul]at this
    cases fz with
    |true =>
     refine fin c (Cx.le_refl c) ?_
     have:mem.set j (.dyn ty κ a' b' n' g true)=mem:=by
      apply List.ext_getElem?
      intro i
      by_cases hij:j=i
      .subst hij;rw[List.getElem?_set_self (List.getElem?_eq_some_iff.1 hm).1,hm]
      .rw[List.getElem?_set_ne hij]
     rw[this];exact h
    |false =>obtain⟨y,hy,hA⟩:=h.freeze h1 hm;exact fin _ (Cx.le_frz hy) hA
   .exact FrOk.no h hx
  .exact FrOk.no h hx
 .exact FrOk.no h hx
theorem rD:∀ {s rs:Rs} {vs:List Value} {mem:List AB} {c:Cx},AM K w0 c0 c mem w->RsOk K c rs vs->aV s=aV rs->FrOk K w0 c0 c w mem.length (λc x=>RsOk K c x vs) (H8 s rs mem)
 |[],rs,vs,mem,c,h,hr,hl=>by
  have:vs=[]:=List.eq_nil_of_length_eq_zero (by rw[hr.1,<-hl];rfl)
  subst this;exact FrOk.no h RsOk.nil
 |.c s::l,rs,vs,mem,c,h,hr,hl=>by
  unfold H8;simp only;simp only[aV,bi]at hl;have hlt:0<vs.length:=by rw[hr.1];omega
  have hv:=List.getElem?_eq_getElem hlt
  have hvs:vs=vs[0]::vs.drop 1:=by
   conv=>lhs;rw[<-List.take_append_drop 1 vs]
   rw[List.take_one,List.head?_eq_getElem?,hv];rfl
  have h1:=Jl (s:=s) h (hr.get hv);generalize frV s (lT rs 0) mem=r at h1;obtain⟨ps,m,x⟩:=r;simp only;intro hp;generalize hq:H8 l (bc rs 1) m=q at hp;obtain⟨qs,m',rs'⟩:=q;simp only[aM]at hp ⊢;obtain⟨c1,k1,k2,k3,k4⟩:=h1 hp.1;have h2:=rD (s:=l) (rs:=bc rs 1) k2 ((hr.drop 1).mono k1) (by rw[bt];omega)
  rw[hq]at h2;obtain⟨c2,g1,g2,g3,g4⟩:=h2 hp.2;simp only at k3;refine⟨c2,Cx.le_trans k1 g1,g2,g3.trans k3,?_⟩;rw[hvs];exact(RsOk.one (AV.mono g1 k4)).append g4
 |.a n k lo hi f::l,rs,vs,mem,c,h,hr,hl=>by
  unfold H8;simp only;simp only[aV,bi]at hl;intro hp;generalize hq:H8 l (bc rs n) mem=q at hp;obtain⟨qs,m',rs'⟩:=q;simp only at hp ⊢;have h2:=rD (s:=l) (rs:=bc rs n) h (hr.drop n) (by rw[bt];omega)
  rw[hq]at h2;obtain⟨c2,g1,g2,g3,g4⟩:=h2 hp;refine⟨c2,g1,g2,g3,?_⟩;have:vs=vs.take n++vs.drop n:=(List.take_append_drop n vs).symm;rw[this];exact((hr.take n).mono g1).append g4
theorem Ll {s x:AS} {v:Value} (h:AM K w0 c0 c mem w) (hx:x.is K c v):FrOk K w0 c0 c w mem.length (λc x=>x.is K c v) (frS s x mem):=by
 unfold frS
 split
 .rename_i s x;have h1:=Jl (s:=s) h hx;generalize frV s x mem=r at h1;obtain⟨ps,m,y⟩:=r;exact h1
 .rename_i s rs
  split
  .rename_i e;rw[both_iff]at e;obtain⟨vs,rfl,hv⟩:=hx;have h1:=rD (s:=s) h hv (beq_iff'.1 e.2);generalize H8 s rs mem=r at h1;obtain⟨ps,m,y⟩:=r;intro hp;obtain⟨c',k1,k2,k3,k4⟩:=h1 hp;exact⟨c',k1,k2,k3,vs,rfl,k4⟩
  .exact FrOk.no h hx
 .exact FrOk.no h hx
theorem yF:∀ {s l:List AS} {vs:List Value} {mem:List AB} {c:Cx},AM K w0 c0 c mem w->allIs K c l vs->FrOk K w0 c0 c w mem.length (λc x=>allIs K c x vs) (Qn s l mem)
 |[],l,vs,mem,c,h,hl=>FrOk.no h hl
 |s::t,[],vs,mem,c,h,hl=>FrOk.no h hl
 |s::t,x::l,[],mem,c,h,hl=>by have:=hl.1;simp at this
 |s::t,x::l,v::vs,mem,c,h,hl=>by rw[allIs_cons]at hl;unfold Qn;simp only;have h1:=Ll (s:=s) h hl.1;generalize frS s x mem=r at h1;obtain⟨ps,m,y⟩:=r;simp only;intro hp;generalize hq:Qn t l m=q at hp;obtain⟨qs,m',ys⟩:=q;simp only[aM]at hp ⊢;obtain⟨c1,k1,k2,k3,k4⟩:=h1 hp.1;have h2:=yF (s:=t) k2 (hl.2.mono k1);rw[hq]at h2;obtain⟨c2,g1,g2,g3,g4⟩:=h2 hp.2;simp only at k3;exact⟨c2,Cx.le_trans k1 g1,g2,g3.trans k3,allIs_cons.2 ⟨AS.mono g1 k4,g4⟩⟩
theorem xC {s x:AT} {v:Value} (h:AM K w0 c0 c mem w) (hx:x.is K c v):FrOk K w0 c0 c w mem.length (λc x=>x.is K c v) (frT s x mem):=by
 unfold frT
 split
 .rename_i s x;have h1:=Ll (s:=s) h hx;generalize frS s x mem=r at h1;obtain⟨ps,m,y⟩:=r;exact h1
 .rename_i l xs;obtain⟨vs,rfl,hv⟩:=hx;have h1:=yF (s:=l) h hv;generalize Qn l xs mem=r at h1;obtain⟨ps,m,y⟩:=r;intro hp;obtain⟨c',k1,k2,k3,k4⟩:=h1 hp;exact⟨c',k1,k2,k3,vs,rfl,k4⟩
 .exact FrOk.no h hx
theorem zy:∀ {s l:List AT} {vs:List Value} {mem:List AB} {c:Cx},AM K w0 c0 c mem w->allAt K c l vs->FrOk K w0 c0 c w mem.length (λc x=>allAt K c x vs) (Xl s l mem)
 |[],l,vs,mem,c,h,hl=>FrOk.no h hl
 |s::t,[],vs,mem,c,h,hl=>FrOk.no h hl
 |s::t,x::l,[],mem,c,h,hl=>by have:=hl.1;simp at this
 |s::t,x::l,v::vs,mem,c,h,hl=>by rw[allAt_cons]at hl;unfold Xl;simp only;have h1:=xC (s:=s) h hl.1;generalize frT s x mem=r at h1;obtain⟨ps,m,y⟩:=r;simp only;intro hp;generalize hq:Xl t l m=q at hp;obtain⟨qs,m',ys⟩:=q;simp only[aM]at hp ⊢;obtain⟨c1,k1,k2,k3,k4⟩:=h1 hp.1;have h2:=zy (s:=t) k2 (hl.2.mono k1);rw[hq]at h2;obtain⟨c2,g1,g2,g3,g4⟩:=h2 hp.2;simp only at k3;exact⟨c2,Cx.le_trans k1 g1,g2,g3.trans k3,allAt_cons.2 ⟨AT.mono g1 k4,g4⟩⟩
end
end Go.Proofs.YtldmjbgplgoedaaGreatDoor
namespace Go.Proofs.YtldmjbgplgoedaaGreatDoor
open Go.RowKit
def mK:Nat->List AT->T3->T3
 |_,[],t=>t
 |n,x::l,t=>mK (n+1) l (t.set n x)
def mp (K:KT) (P:Program) (G:GT):List ResultVar->ASt->Option (List Prop × List AS)
 |[],_=>some ([],[])
 |.tmp t::l,st=>match st.get t,mp K P G l st with
  |.tX s,some (ps,r)=>some (ps,s::r)
  |.tF f [] [],some (ps,r)=>some (ps,.sO (.nK (.func (.func f) #[] #[]))::r)
  |_,_=>none
 |.cell p ty::l,st=>match fA K P G ty (st.get p) st.mem,mp K P G l st with
  |some (ps,.tX s),some (qs,r)=>some (ps++qs,s::r)
  |_,_=>none
def wg:List AS->AT
 |[s]=>.tX s
 |l=>.tT l
structure FI where
 f:FuncId
 fn:Func
 ls:List (Nat × LS)
 res:AT:=.tA
 mv:List Nat:=[]
def Lp (P:Program) (E:EN) (rv:List ResultVar) (res:AT) (mv:List Nat) (L0:Nat) (st:ASt):T:=match mp E.K P E.G rv st with
 |some (ps,r)=>match frT res (wg r) st.mem with
  |⟨qs,mem,y⟩=>match rebaseM mv L0 [y] mem with
   |some ([y],mem)=>vcs (ps++qs) (.done (.val mem y))
   |_=>.fail
 |none=>.fail
def gR (P:Program) (E:EN) (fi:FI) (args:List AT) (mem:List AB):T:=match fi.fn.body with
 |some cd=>match Nat.ble args.length fi.fn.ntmps with
  |true=>(bk P E ⟨fi.fn.ntmps,mem.length,fi.ls⟩ cd ⟨mK 0 args T3.no,mem⟩).bind λo=>match o with
   |.norm st=>Lp P E fi.fn.results.toList fi.res fi.mv mem.length st
   |.ret st=>Lp P E fi.fn.results.toList fi.res fi.mv mem.length st
   |_=>.fail
  |false=>.fail
 |none=>.fail
structure CT where
 f:FuncId
 args:List AT
 mem:List AB
 out:List Lf->T
def aG:List AT->Nat
 |[]=>0
 |x::l=>Nat.add (nlT x) (aG l)
def au:List AT->List Lf->List AT
 |[],_=>[]
 |x::l,ls=>tg x ls::au l (tls (nlT x) ls)
def fD:List AT->List AT->Option Mt
 |[],l=>match l with
  |[]=>some ([],[])
  |_::_=>none
 |x::s,l=>match l with
  |[]=>none
  |y::l=>wm (lJ x y) (fD s l)
def CT.app (t:CT) (args:List AT) (mem:List AB):Option T:=match wm (fD t.args args) (dv t.mem mem)with
 |some (ps,ls)=>some (vcs ps (t.out ls))
 |none=>none
def CT.appF (t:CT) (args:List AT) (mem:List AB):Option T:=match Xl t.args args mem with
 |⟨ps,m1,args⟩=>match lA args m1 with
  |some ca=>match t.app ca.args ca.mem with
   |some r=>some (vcs ps (r.bind λr=>match r with
    |.val m y=>match Nat.ble ca.σ.length m.length with
     |true=>match jz ca.σ m1.length [] m y with
      |e=>.done (.val (fI e.up m1++e.nw) e.y)
     |false=>.fail
    |_=>.fail))
   |none=>none
  |none=>none
def va:List CT->FuncId->List AT->List AB->Option T
 |[],_,_,_=>none
 |t::l,f,args,mem=>match Nat.beq t.f f with
  |false=>va l f args mem
  |true=>match t.app args mem with
   |some r=>some r
   |none=>match t.appF args mem with
    |some r=>some r
    |none=>va l f args mem
def DD:List FI->FuncId->Option FI
 |[],_=>none
 |x::l,f=>match Nat.beq x.f f with
  |true=>some x
  |false=>DD l f
def inl (P:Program) (K:KT) (G:GT) (M:List (TypeId × Nat)) (tb:List CT) (FT:List FI):Nat->Cl
 |0=>va tb
 |n+1=>λf args mem=>match va tb f args mem with
  |some t=>some t
  |none=>match DD FT f with
   |some fi=>some (gR P ⟨K,G,M,inl P K G M tb FT n⟩ fi args mem)
   |none=>none
section
variable {P:Program} {E:EN} {K:KT} {G:GT} {M:List (TypeId × Nat)} {w0 w w':World} {c0 c c':Cx} {N:Nat} {st:ASt} {a:Act} {mem:List AB}
theorem jV:∀(l:List AT) (n:Nat) (t:T3) (u:Nat),(mK n l t).get u=.tA\/(∃x,n<=u/\l[u-n]? = some x/\(mK n l t).get u=x)\/(mK n l t).get u=t.get u
 |[],n,t,u=>.inr (.inr rfl)
 |x::l,n,t,u=>by
  unfold mK;rcases jV l (n+1) (t.set n x) u with h | ⟨y,h1,h2,h3⟩ | h
  .exact .inl h
  .exact .inr (.inl ⟨y,ac,by rw[show u-n=(u-(n+1))+1 by omega];simpa using h2,h3⟩)
  .rw[h,T3.get_set]
   split
   .rename_i e;exact .inr (.inl ⟨x,ac,by rw[show u-n=0 by omega];rfl,rfl⟩)
   .exact .inr (.inr rfl)
theorem lC {t:TypeId} {v u:Value} (h:(Instr.loadAt t v).run P w=.ok u w):(do loadVar t (<-asAddr v):Sem Value).run P w=.ok u w:=by
 cases v with
 |pointer a =>
  cases a with
  |some a=>exact h
  |none=>simp[Instr.loadAt,Instr.sureAddr,Go.stuck]at h
 |_=>simp[Instr.loadAt,Instr.sureAddr,Go.stuck]at h
theorem dK (hG:GOk K G c) (hm:AM K w0 c0 c st.mem w) (hr:AR K N c st.tm a):∀(l:List ResultVar) {ps:List Prop} {r:List AS},mp K P G l st=some (ps,r)->bC ps->∃vs:List Value,(l.mapM (m:=Sem) fun
 |.tmp t=>pure (a.tmps.getD t undef)
 |.cell p t=>do loadVar t (<-asAddr (a.tmps.getD p undef))).run P w=.ok vs w/\allIs K c r vs
 |[],ps,r,h,hp=>by cases h;exact⟨[],by simp,rfl,λ_ _ _ h=>by simp at h⟩
 |.tmp t::l,ps,r,h,hp=>by
  unfold mp at h;have hi:=hr.is_ t
  split at h
  .rename_i s ps' r' e hl;have e':st.tm.get t=_:=e;rw[e']at hi;cases h;obtain⟨vs,h1,h2⟩:=dK hG hm hr l hl hp;refine⟨a.tmps.getD t undef::vs,?_,allIs_cons.2 ⟨hi,h2⟩⟩;simp only[List.mapM_cons,Sem.run_bind,Sem.run_pure,Result.andThen_ok,h1]
  .rename_i f ps' r' e hl;have e':st.tm.get t=_:=e;rw[e']at hi;cases h;obtain⟨us,ts,hv,g1,g2⟩:=hi;have q1:us=[]:=List.eq_nil_of_length_eq_zero (by simpa using g1.1.symm)
   have q2:ts=[]:=List.eq_nil_of_length_eq_zero (by simpa using g2.1.symm)
   subst q1 q2;obtain⟨vs,h1,h2⟩:=dK hG hm hr l hl hp;refine⟨a.tmps.getD t undef::vs,?_,allIs_cons.2 ⟨is_K.2 ⟨hv,rfl⟩,h2⟩⟩;rw[List.mapM_cons];simp only[Sem.run_bind,Sem.run_pure,Result.andThen,h1]
  .cases h
 |.cell p ty::l,ps,r,h,hp=>by
  unfold mp at h
  split at h
  .rename_i ps' s qs r' e hl;cases h;rw[aM]at hp;obtain⟨u,h1,h2⟩:=jS (P:=P) hG hm (hr.is_ p) e hp.1;obtain⟨vs,g1,g2⟩:=dK hG hm hr l hl hp.2;have h1:=lC h1;refine⟨u::vs,?_,allIs_cons.2 ⟨h2,g2⟩⟩;simp only[List.mapM_cons,Sem.run_bind,Sem.run_pure]at h1 ⊢;rw[h1];simp only[Result.andThen_ok];rw[g1];simp only[Result.andThen_ok]
  .cases h
theorem zV {r:List AS} {vs:List Value} (h:allIs K c r vs):(wg r).is K c (if h:vs.toArray.size=1 then vs.toArray[0] else .tuple vs.toArray):=by
 have hl:=h.1
 match r,vs,h with
 |[],[],h=>exact⟨[],rfl,h⟩
 |[s],[v],h=>exact h.2 0 s v rfl rfl
 |s::s'::r,v::v'::vs,h=>exact⟨v::v'::vs,by simp,h⟩
 |[],_::_,_=>simp at hl
 |[_],[],_=>simp at hl
 |[_],_::_::_,_=>simp at hl
 |_::_::_,[],_=>simp at hl
 |_::_::_,[_],_=>simp at hl
theorem jW (hE:EOK P E) (mix:P.follows .mixedOrders=true) {fi:FI} (hf:P.funcs[fi.f]? = some fi.fn) {args:List AT} {Q:Lv->Prop} (h:(gR P E fi args mem).sat Q) (hG:GOk E.K E.G c) (hD:c.D=[]) (hm:AM E.K w c c mem w) {vs:List Value} (hv:allAt E.K c args vs) :
 Calls P fi.f vs.toArray w λe w'=>∃v,e=.returned v/\∃m y,Q (.val m y)/\∃c',AM E.K w c c' m w'/\y.is E.K c' v:=by
 unfold gR at h
 split at h
 .rename_i cd hb
  split at h
  .rename_i hl;have hl:=ble_iff.1 hl;rw[T.sat_bind]at h;have hX:XOk P E c ⟨fi.fn.ntmps,mem.length,fi.ls⟩:=⟨hE,hG,mix,λj id e=>(hm.dom j id e).1⟩;have hsz:vs.toArray.size=args.length:=by simp[hv.1]
   have fin:∀(s:ASt) (a:Act) (w':World),(Lp P E fi.fn.results.toList fi.res fi.mv mem.length s).sat Q->Rel E.K w c fi.fn.ntmps s a w'->a.defers=[]/\∃v,(results fi.fn a.tmps).run P w'=.ok v w'/\∃v',Ending.returned v=.returned v'/\∃m y,Q (.val m y)/\∃c',AM E.K w c c' m w'/\y.is E.K c' v':=λs a w' h ⟨c',h2,h3⟩=>by
    unfold Lp at h
    split at h
    .rename_i ps r g1
     split at h
     rename_i qs mem1 y1 hfr
     split at h
     .rename_i y mem2 hreb;rw[bh,aM]at h;obtain⟨⟨p1,p2⟩,hQ⟩:=h;obtain⟨us,k1,k2⟩:=dK (hG.le h2.le) h2 h3 _ g1 p1
      have k1':(fi.fn.results.mapM (m:=Sem) fun
       |.tmp t=>pure (a.tmps.getD t undef)
       |.cell p t=>do loadVar t (<-asAddr (a.tmps.getD p undef))).run P w'=.ok us.toArray w':=by
       rw[Array.mapM_eq_mapM_toList];rw[map_eq_pure_bind,Sem.run_bind,k1];simp only[Result.andThen_ok,Sem.run_pure]
      have hvv:(results fi.fn a.tmps).run P w'=.ok (if h:us.toArray.size=1 then us.toArray[0] else .tuple us.toArray) w':=by
       unfold results;simp only[Sem.run_bind,Sem.run_pure]
       erw [k1']
       rfl
      have hft:=xC (s:=fi.res) h2 (zV k2);rw[hfr]at hft;obtain⟨c1,f1,f2,f3,f4⟩:=hft p2;obtain⟨c2,r1,r2⟩:=f2.rebaseM hE.hK (λj id e=>(hm.dom j id e).1) hreb (vs:=[_]) (allAt_cons.2 ⟨f4,rfl,λ_ _ _ e=>by simp at e⟩)
      exact⟨h3.df.trans (h2.le.D.trans hD),_,hvv,_,rfl,mem2,y,hQ,c2,r1,(allAt_cons.1 r2).1⟩
     .exact h.elim
    .exact h.elim
   refine calls_of_wp hf hb (jd hX cd h (st:=⟨mK 0 args T3.no,mem⟩) ⟨c,hm,?_⟩ ?_)
   .refine⟨by simp only[Array.size_append,Array.size_replicate];omega,hD.symm,λt=>?_⟩
    rcases jV args 0 T3.no t with e | ⟨x,-,e1,e2⟩ | e
    .rw[e];trivial
    .rw[e2];rw[Nat.sub_zero]at e1;have hlt:t<args.length:=(List.getElem?_eq_some_iff.1 e1).1;have hlt':t<vs.length:=by rw[<-hv.1];exact hlt
     have hvt:=List.getElem?_eq_getElem hlt'
     have:(vs.toArray++Array.replicate (fi.fn.ntmps-vs.toArray.size) undef).getD t undef=vs[t]:=by
      rw[Array.getD_eq_getD_getElem?,Array.getElem?_append_left (by simpa using hlt')]
      simp[hlt']
     show x.is E.K c (Array.getD _ t undef);rw[this];exact hv.2 t x _ e1 hvt
    .rw[e,T3.get_no];trivial
   .intro o ho
    cases o with
    |norm s=>exact λa w' hr=>fin s a w' ho hr
    |ret s=>exact λa w' hr=>fin s a w' ho hr
    |exit i s=>exact ho.elim
    |_=>trivial
  .exact h.elim
 .exact h.elim
theorem kZ:∀ {s l:List AT} {ps:List Prop} {ls:List Lf},fD s l=some (ps,ls)->ls.length=aG s
 |[],l,ps,ls,h=>by
  unfold fD at h
  split at h
  .cases h;rfl
  .cases h
 |x::s,l,ps,ls,h=>by
  unfold fD at h
  split at h
  .cases h
  .obtain⟨p,a,q,b,h1,h2,-,rfl⟩:=aW h;rw[List.length_append,f8 h1,kZ h2];rfl
theorem l7:∀ {s l:List AT} {ps:List Prop} {ls:List Lf} {vs:List Value},fD s l=some (ps,ls)->bC ps->allAt K c l vs->∀ex,allAt K c (au s (ls++ex)) vs
 |[],l,ps,ls,vs,h,hp,hx=>by
  unfold fD at h
  split at h
  .cases h;exact λex=>hx
  .cases h
 |x::s,l,ps,ls,vs,h,hp,hx=>by
  unfold fD at h
  split at h
  .cases h
  .obtain⟨p,a,q,b,h1,h2,rfl,rfl⟩:=aW h;rw[aM]at hp
   cases vs with
   |nil=>have:=hx.1;simp at this
   |cons v vs =>rw[allAt_cons]at hx;refine λex=>?_;unfold au;rw[List.append_assoc,bv _ (f8 h1)];exact allAt_cons.2 ⟨qL h1 hp.1 hx.1 _,l7 h2 hp.2 hx.2 ex⟩
structure cV (K:KT) (P:Program) (G:GT) (t:CT):Prop where
 call:aS P t.f
 ok:∀(ls:List Lf) (c:Cx) (w:World) (vs:List Value) (Q:Lv->Prop),GOk K G c/\c.D=[]->AM K w c c (an t.mem (tls (aG t.args) ls)) w->allAt K c (au t.args ls) vs->(t.out ls).sat Q -> Calls P t.f vs.toArray w λe w'=>∃v,e=.returned v/\∃m y,Q (.val m y)/\∃c',AM K w c c' m w'/\y.is K c' v
theorem CT.app_ok {t:CT} (ht:cV K P G t) {args:List AT} {r:T} (h:t.app args mem=some r) {vs:List Value} {Q:Lv->Prop} (hG:GOk K G c/\c.D=[]) (hm:AM K w c c mem w) (hv:allAt K c args vs) (hQ:r.sat Q) :
 Calls P t.f vs.toArray w λe w'=>∃v,e=.returned v/\∃m y,Q (.val m y)/\∃c',AM K w c c' m w'/\y.is K c' v:=by
 unfold CT.app at h
 split at h
 .rename_i ps ls e;cases h;rw[bh]at hQ;obtain⟨p,x,q,y,h1,h2,rfl,rfl⟩:=aW e;rw[aM]at hQ;refine ht.ok (x++y) c w vs Q hG ?_ (l7 h1 hQ.1.1 hv y) hQ.2;rw[bv _ (kZ h1)];refine hm.less (by rw[bF,FH h2]) λj b' e=>?_
  have:=fZ (K:=K) (c:=c) (w:=w) h2 hQ.1.2 [] j b' (by rw[List.append_nil];exact e)
  exact this
 .cases h
theorem CT.appF_ok (hE:EOK P E) {t:CT} (ht:cV E.K P E.G t) {args:List AT} {r:T} (h:t.appF args mem=some r) {vs:List Value} {Q:Lv->Prop} (hG:GOk E.K E.G c) (hm:AM E.K w c c mem w) (hv:allAt E.K c args vs) (hQ:r.sat Q) :
 Calls P t.f vs.toArray w λe w'=>∃v,e=.returned v/\∃m y,Q (.val m y)/\∃c',AM E.K w c c' m w'/\y.is E.K c' v:=by
 unfold CT.appF at h
 split at h
 rename_i ps m1 args1 hfr
 split at h
 .rename_i ca hca
  split at h
  .rename_i r' hr';cases h;rw[bh,T.sat_bind]at hQ;have hft:=zy (s:=t.args) hm hv;rw[hfr]at hft;obtain⟨c1,f1,f2,f3,f4⟩:=hft hQ.1;simp only at f2 f3 f4;obtain⟨h1,h2,h3⟩:=f2.into hE.hK hca f4;refine(CT.app_ok ht hr' ⟨GOk.into hE (hG.le f1) (d:=c1.into ca.σ) λ_ _ e=>e,rfl⟩ h2 h3 hQ.2).mono λe w' ⟨v,he,m,y,k1,c',k2,k3⟩=>⟨v,he,?_⟩;simp only at k1
   split at k1
   .rename_i hl;have hl:=ble_iff.1 hl
    obtain⟨c2,g1,g2,g3⟩:=EOk.seq f2 (e:=jz ca.σ m1.length [] m y) (w':=w') (v:=v) (λg1 g2=>by
     have hlen:(jz ca.σ m1.length [] m y).nw.length=m.length-ca.σ.length:=by simp only[jz,ce,List.length_drop]
     rw[hlen]at g1 g2 ⊢;refine AM.back hE.hK g1 ⟨h1.nd,h1.df,λj hj=>?_⟩ hl k2 k3 g2;obtain⟨b,q1,q2⟩:=h1.lv j hj;refine⟨b,?_,q2⟩;rw[aP]at q1 ⊢;rw[List.getElem?_append_left (List.getElem?_eq_some_iff.1 q1).1]
     exact q1) (λx hx=>by
     obtain⟨b,q1,-⟩:=h1.lv x.1 (ij hx);exact cu q1)
    exact⟨_,_,k1,c2,g2,g3⟩
   .exact k1.elim
  .cases h
 .cases h
def Zj (K:KT) (P:Program) (G:GT):List CT->Prop
 |[]=>True
 |t::l=>cV K P G t/\Zj K P G l
theorem jN (hK:jf K) (hG:∀g rs,iQ G g=some rs->cj rs=true):∀ {tb:List CT},Zj K P G tb->acm K P G (va tb)
 |[],_,f,args,mem,t,h=>by cases h
 |x::l,ht,f,args,mem,t,h=>by
  unfold va at h
  split at h
  .exact jN hK hG ht.2 f args mem t h
  .rename_i e;have e:=beq_iff'.1 e;subst e
   split at h
   .rename_i r hr;cases h;exact⟨ht.1.call,λc w vs Q g1 g2 g3 g4=>CT.app_ok ht.1 hr g1 g2 g3 g4⟩
   .split at h
    .rename_i r hr;cases h;exact⟨ht.1.call,λc w vs Q g1 g2 g3 g4=>CT.appF_ok (E:=⟨K,G,[],λ_ _ _=>none⟩) ⟨hK,hG,λ_ _ _ _ e=>by cases e⟩ ht.1 hr g1.1 g2 g3 g4⟩
    .exact jN hK hG ht.2 _ args mem t h
def Qx (P:Program):List FI->Prop
 |[]=>True
 |x::l=>(aS P x.f/\P.funcs[x.f]? = some x.fn)/\Qx P l
theorem tt:∀ {l:List FI} {f:FuncId} {fi:FI},Qx P l->DD l f=some fi->fi.f=f/\aS P fi.f/\P.funcs[fi.f]? = some fi.fn
 |[],f,fi,_,h=>by cases h
 |x::l,f,fi,hF,h=>by
  unfold DD at h
  split at h
  .rename_i e;cases h;exact⟨beq_iff'.1 e,hF.1⟩
  .exact tt hF.2 h
structure TOk (P:Program) (K:KT) (G:GT) (tb:List CT) (FT:List FI):Prop where
 hK:jf K
 hG:∀g rs,iQ G g=some rs->cj rs=true
 mix:P.follows .mixedOrders=true
 tb:Zj K P G tb
 ft:Qx P FT
theorem zG {tb:List CT} {FT:List FI} (hT:TOk P K G tb FT):∀n,acm K P G (inl P K G M tb FT n)
 |0=>jN hT.hK hT.hG hT.tb
 |n+1=>λf args mem t h=>by
  unfold inl at h
  split at h
  .rename_i r hr;cases h;exact jN hT.hK hT.hG hT.tb f args mem _ hr
  .split at h
   .rename_i fi hfi;cases h;obtain⟨rfl,h2,h3⟩:=tt hT.ft hfi;exact⟨h2,λc w vs Q g1 g2 g3 g4=>jW (E:=⟨K,G,M,inl P K G M tb FT n⟩) ⟨hT.hK,hT.hG,zG hT n⟩ hT.mix h3 g4 g1.1 g1.2 g2 g3⟩
   .cases h
end
end Go.Proofs.YtldmjbgplgoedaaGreatDoor
