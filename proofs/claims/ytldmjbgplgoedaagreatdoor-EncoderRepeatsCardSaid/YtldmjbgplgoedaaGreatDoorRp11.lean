import Derived.Test.YtldmjbgplgoedaaGreatDoorRp10
set_option linter.all false
namespace Go.Proofs.YtldmjbgplgoedaaGreatDoor
open Go.RowKit
inductive Lv where
 |norm (st:ASt)
 |ret (st:ASt)
 |exit (i:Nat) (st:ASt)
 |again (ls:List Lf)
 |val (m:List AB) (y:AT)
inductive T where
 |done (o:Lv)
 |br (b:Bool) (t e:T)
 |vc (p:Prop) (t:T)
 |all (p:List Lf->Prop) (t:List Lf->T)
 |loop (s:List Lf) (step:List Lf->T) (k:Lv->T)
 |join (t:T) (k:Lv->T)
 |fail
def T.bind:T->(Lv->T)->T
 |.done o,f=>f o
 |.br b t e,f=>.br b (t.bind f) (e.bind f)
 |.vc p t,f=>.vc p (t.bind f)
 |.all p t,f=>.all p λl=>(t l).bind f
 |.loop s st k,f=>.loop s st λo=>(k o).bind f
 |.join t k,f=>.join t λo=>(k o).bind f
 |.fail,_=>.fail
def T.sat:T->(Lv->Prop)->Prop
 |.done o,Q=>Q o
 |.br b t e,Q=>(b=true->t.sat Q)/\(b=false->e.sat Q)
 |.vc p t,Q=>p/\t.sat Q
 |.all p t,Q=>∀l,p l->(t l).sat Q
 |.loop s st k,Q=>∃(I:List Lf->Prop) (μ:List Lf->Nat),I s/\∀l,I l->(st l).sat λo=>match o with
  |.again l'=>I l'/\μ l'<μ l
  |o=>(k o).sat Q
 |.join t k,Q=>∃J:List Lf->Prop,(t.sat λo=>match o with
  |.again l=>J l
  |o=>(k o).sat Q)/\∀l,J l->(k (.again l)).sat Q
 |.fail,_=>False
theorem T.sat_mono:∀ {t:T} {Q R:Lv->Prop},(∀o,Q o->R o)->t.sat Q->t.sat R:=by
 intro t
 induction t with
 |done o=>intro Q R h g;exact h _ g
 |br b t e ih1 ih2=>intro Q R h g;exact⟨λe=>ih1 h (g.1 e),λe=>ih2 h (g.2 e)⟩
 |vc p t ih=>intro Q R h g;exact⟨g.1,ih h g.2⟩
 |all p t ih=>intro Q R h g;exact λl hl=>ih l h (g l hl)
 |loop s st k ih1 ih2 =>
  intro Q R h g;obtain⟨I,μ,h1,h2⟩:=g;refine⟨I,μ,h1,λl hl=>ih1 l (λo ho=>?_) (h2 l hl)⟩
  cases o with
  |again l'=>exact ho
  |_=>exact ih2 _ h ho
 |join t k ih1 ih2 =>
  intro Q R h g;unfold T.sat at g ⊢;obtain⟨J,h1,h2⟩:=g;refine⟨J,ih1 (λo ho=>?_) h1,λl hl=>ih2 _ h (h2 l hl)⟩
  cases o with
  |again l'=>exact ho
  |_=>exact ih2 _ h ho
 |fail=>intro Q R h g;exact g
theorem T.sat_bind:∀ {t:T} {f:Lv->T} {Q:Lv->Prop},(t.bind f).sat Q↔t.sat λo=>(f o).sat Q:=by
 intro t
 induction t with
 |done o=>intro f Q;exact Iff.rfl
 |br b t e ih1 ih2=>intro f Q;simp only[T.bind,T.sat,ih1,ih2]
 |vc p t ih=>intro f Q;simp only[T.bind,T.sat,ih]
 |all p t ih=>intro f Q;simp only[T.bind,T.sat,ih]
 |loop s st k ih1 ih2 =>
  intro f Q;simp only[T.bind,T.sat]
  constructor
  .rintro⟨I,μ,h1,h2⟩;refine⟨I,μ,h1,λl hl=>T.sat_mono (λo ho=>?_) (h2 l hl)⟩
   cases o with
   |again l'=>exact ho
   |_=>exact(ih2 _).1 ho
  .rintro⟨I,μ,h1,h2⟩;refine⟨I,μ,h1,λl hl=>T.sat_mono (λo ho=>?_) (h2 l hl)⟩
   cases o with
   |again l'=>exact ho
   |_=>exact(ih2 _).2 ho
 |join t k ih1 ih2 =>
  intro f Q;simp only[T.bind,T.sat]
  constructor
  .rintro⟨J,h1,h2⟩;refine⟨J,T.sat_mono (λo ho=>?_) h1,λl hl=>(ih2 _).1 (h2 l hl)⟩
   cases o with
   |again l'=>exact ho
   |_=>exact(ih2 _).1 ho
  .rintro⟨J,h1,h2⟩;refine⟨J,T.sat_mono (λo ho=>?_) h1,λl hl=>(ih2 _).2 (h2 l hl)⟩
   cases o with
   |again l'=>exact ho
   |_=>exact(ih2 _).2 ho
 |fail=>intro f Q;exact Iff.rfl
def vcs:List Prop->T->T
 |[],t=>t
 |p::l,t=>.vc p (vcs l t)
theorem bh:∀ {l:List Prop} {t:T} {Q:Lv->Prop},(vcs l t).sat Q↔bC l/\t.sat Q
 |[],t,Q=>by simp[vcs,bC]
 |p::l,t,Q=>by simp only[vcs,T.sat,bh (l:=l),bC,and_assoc]
abbrev Cl:=FuncId->List AT->List AB->Option T
def wX:List Nat->List AT
 |[]=>[]
 |j::l=>.tX (.sO (.nP j 0))::wX l
def nt (P:Program) (t:TypeId) (name:String):Option FuncId:=match P.info? t,P.underlying t with
 |some i,some (.struct _)=>match i.methods.find? (·.name==name)with
  |some m=>match m.path.toList,m.func with
   |[],some (f,false)=>some f
   |_,_=>none
  |none=>none
 |_,_=>none
def tXs:List AS->List AT
 |[]=>[]
 |s::l=>.tX s::tXs l
def oL (P:Program) (G:GT) (tm:T3) (op:Op):Option (FuncId × List AT):=match op with
 |.call ⟨.value f,args,_⟩=>match evg G tm f with
  |.tF g a b=>some (g,tXs a++(args.toList.map (evg G tm)++tXs b))
  |.tX (.sO (.nK (.func (.func g) a b)))=>match a.toList,b.toList with
   |[],[]=>some (g,args.toList.map (evg G tm))
   |_,_=>none
  |.tX (.sO (.nF g js))=>some (g,args.toList.map (evg G tm)++wX js)
  |_=>none
 |.call ⟨.invoke f m,args,_⟩=>match evg G tm f with
  |.tX (.sO (.nK (.iface t (.agg a))))=>match a.toList,nt P t m with
   |[],some g=>some (g,.tX (.sA [])::args.toList.map (evg G tm))
   |_,_=>none
  |_=>none
 |_=>none
structure EN where
 K:KT
 G:GT
 M:List (TypeId × Nat)
 C:Cl
def ASt.app (st:ASt) (d:Option Tmp) (e:Eff):ASt:=st.put d (fI e.up st.mem++e.nw) e.y
def kf (P:Program) (E:EN) (st:ASt) (o:Oper):T:=match oL P E.G st.tm o.op with
 |some (f,args)=>match lA args st.mem with
  |some ca=>match E.C f ca.args ca.mem with
   |some t=>t.bind λr=>match r with
    |.val m y=>match Nat.ble ca.σ.length m.length with
     |true=>.done (.norm (st.app o.dst (jz ca.σ st.mem.length [] m y)))
     |false=>.fail
    |_=>.fail
   |none=>.fail
  |none=>.fail
 |none=>match j6 E.K P E.G E.M st.tm st.mem st.mem.length o.op with
  |some e=>vcs e.ps (.done (.norm (st.app o.dst e)))
  |none=>.fail
def okD (N:Nat) (d:Option Tmp):Bool:=match d with
 |some d=>Nat.blt d N
 |none=>true
def sD (ops:Array Oper) (j:Nat):Option Tmp:=match ops[j]? with
 |some o=>o.dst
 |none=>none
def ow (P:Program) (E:EN) (N:Nat) (ops:Array Oper) (o:Oper) (st:ASt):T:=match okD N o.dst with
 |false=>.fail
 |true=>match o.guard with
  |none=>kf P E st o
  |some (j,want)=>match sD ops j with
   |none=>.fail
   |some t=>match Nat.blt t N,st.get t with
    |true,.tX (.sO (.nB f t' x))=>match f,t' with
     |true,false=>match want with
      |true=>.done (.norm (st.put o.dst st.mem (.tT [])))
      |false=>kf P E st o
     |false,_=>match want with
      |true=>kf P E st o
      |false=>.done (.norm (st.put o.dst st.mem (.tT [])))
     |true,true=>match want with
      |true=>.br x (kf P E ⟨st.tm.set t (.tX (.sO (.nB false true true))),st.mem⟩ o) (.done (.norm (ASt.put ⟨st.tm.set t (.tX (.sO (.nB true false false))),st.mem⟩ o.dst st.mem (.tT []))))
      |false=>.br x (.done (.norm (ASt.put ⟨st.tm.set t (.tX (.sO (.nB false true true))),st.mem⟩ o.dst st.mem (.tT [])))) (kf P E ⟨st.tm.set t (.tX (.sO (.nB true false false))),st.mem⟩ o)
    |true,.tT []=>.done (.norm (st.put o.dst st.mem (.tT [])))
    |_,_=>.fail
def T.onNorm (t:T) (f:ASt->T):T:=t.bind λr=>match r with
 |.norm st=>f st
 |r=>.done r
def tB (P:Program) (E:EN) (N:Nat) (ops:Array Oper):List Oper->ASt->T
 |[],st=>.done (.norm st)
 |o::r,st=>(ow P E N ops o st).onNorm (tB P E N ops r)
section
variable {P:Program} {E:EN} {K:KT} {w0 w w':World} {c0 c c':Cx} {N:Nat} {st:ASt} {a:Act}
theorem AN:∀ {l:List AS} {vs:List Value},allIs K c l vs->allAt K c (tXs l) vs
 |[],vs,h=>⟨h.1,λ_ _ _ h=>by simp[tXs]at h⟩
 |s::l,[],h=>by have:=h.1;simp at this
 |s::l,v::vs,h=>by rw[allIs_cons]at h;exact allAt_cons.2 ⟨h.1,AN h.2⟩
theorem dr:∀ {l m:List AT} {vs us:List Value},allAt K c l vs->allAt K c m us->allAt K c (l++m) (vs++us)
 |[],m,vs,us,h,h'=>by
  have:vs=[]:=List.eq_nil_of_length_eq_zero (by rw[<-h.1];rfl)
  subst this;exact h'
 |x::l,m,[],us,h,h'=>by have:=h.1;simp at this
 |x::l,m,v::vs,us,h,h'=>by rw[allAt_cons]at h;exact allAt_cons.2 ⟨h.1,dr h.2 h'⟩
def aS (P:Program) (f:FuncId):Prop:=∀args w,(callFunc f args).run P w=.ok (.enter f args) w
def acm (K:KT) (P:Program) (G:GT) (C:Cl):Prop:=∀f args mem t,C f args mem=some t->aS P f/\∀(c:Cx) (w:World) (vs:List Value) (Q:Lv->Prop),GOk K G c/\c.D=[]->AM K w c c mem w->allAt K c args vs->t.sat Q -> Calls P f vs.toArray w λe w'=>∃v,e=.returned v/\∃m y,Q (.val m y)/\∃c',AM K w c c' m w'/\y.is K c' v
structure EOK (P:Program) (E:EN):Prop where
 hK:jf E.K
 hG:∀g rs,iQ E.G g=some rs->cj rs=true
 hC:acm E.K P E.G E.C
theorem tO:∀ {js:List Nat} {us:List Value},us.length=js.length->(∀(i j:Nat),js[i]? = some j->∃id,c.ρ j=some id/\us[i]? = some (.pointer (some ⟨id,0,none⟩)))->allAt K c (wX js) us
 |[],[],_,_=>⟨rfl,λ_ _ _ e=>by simp[wX]at e⟩
 |[],_::_,h,_=>by simp at h
 |_::_,[],h,_=>by simp at h
 |j::js,u::us,h,hj=>by obtain⟨id,g1,g2⟩:=hj 0 j rfl;simp only[List.getElem?_cons_zero,Option.some.injEq]at g2;exact allAt_cons.2 ⟨is_P.2 ⟨id,g1,g2⟩,tO (by simpa using h) λi j' e=>hj (i+1) j' (by simpa using e)⟩
theorem sx {t:TypeId} {name:String} {f:FuncId} {v:Value} (h:nt P t name=some f):(method ((P.types.size+Made.depth)) t v name).run P w=.ok (f,v) w:=by
 unfold nt at h
 split at h
 .rename_i i fs hi hu
  split at h
  .rename_i m hm
   split at h
   .rename_i f' hp hf;cases h
    have hn:P.types.size+Made.depth=(P.types.size+Made.depth-1)+1:=by have:0<Made.depth:=afH;omega
    rw[hn];unfold method
    simp[typeInfo,hi,hm,hp,hf,follow,receiverAt,run_underlying hu,Place.get]
   .cases h
  .cases h
 .cases h
theorem adc (x:Value) (xs:Array Value):(#[x]++xs)[0]? = some x/\(#[x]++xs).extract 1 (#[x]++xs).size=xs:=by
 obtain⟨l⟩:=xs
 simp
theorem uO {t:TypeId} {m:String} {g:FuncId} (hm:nt P t m=some g) (xs:Array Value):(invoke (.fn (.method m) #[]) (#[.iface t (.agg #[])]++xs)).run P w=(callFunc g (#[.agg #[]]++xs)).run P w:=by unfold invoke;simp only[(adc _ _).1,(adc _ _).2,callMethod,Sem.run_bind];have hp:(program:Sem Program).run P w=.ok P w:=rfl;rw[hp];simp only[Result.andThen_ok];rw[sx hm];rfl
theorem GOk.into (hE:EOK P E) (hG:GOk E.K E.G c) {d:Cx} (hF:∀b x,c.F b=some x->d.F b=some x):GOk E.K E.G d:=λg rs e=>by obtain⟨ty,cs,g1,g2⟩:=hG g rs e;refine⟨ty,cs,hF _ _ g1,g2.1,λi x v hx hv=>?_⟩;obtain⟨n,hn⟩:=g2.2 i x v hx hv;exact⟨n,n5 hE.hK hF n (fj (hE.hG g rs e) hx) hn⟩
theorem mm (hE:EOK P E) (hG:GOk E.K E.G c) {mem:List AB} (hm:AM E.K w0 c0 c mem w) {tm:T3} (hr:AR E.K N c tm a) (o:Oper) {f:FuncId} {args:List AT} (h:oL P E.G tm o.op=some (f,args)) {ca:Can} (hca:lA args mem=some ca) {t:T} (ht:E.C f ca.args ca.mem=some t) {Q:Lv->Prop} (hQ:t.sat Q) :
 xF c mem ca/\dy P o a w (λv w'=>∃m y,Q (.val m y)/\∃c',AM E.K w (c.into ca.σ) c' m w'/\y.is E.K c' v):=by
 obtain⟨k1,k2⟩:=hE.hC f _ _ t ht;obtain⟨dst,op,ty,pos,after,guard⟩:=o;simp only at h;have ev:=l5 (K:=E.K) hG hr
 have fin:∀xs:List Value,allAt E.K c args xs->(execOp a.eval ⟨dst,op,ty,pos,after,guard⟩).run P w=.ok (.enter f xs.toArray) w->xF c mem ca/\dy P ⟨dst,op,ty,pos,after,guard⟩ a w (λv w'=>∃m y,Q (.val m y)/\∃c',AM E.K w (c.into ca.σ) c' m w'/\y.is E.K c' v):=λxs hx hrun=>by obtain⟨h1,h2,h3⟩:=hm.into hE.hK hca hx;refine⟨h1,?_⟩;unfold dy;rw[hrun];exact(k2 (c.into ca.σ) w xs Q ⟨hG.into hE λ_ _ e=>e,rfl⟩ h2 h3 hQ).mono λe w' he=>he
 cases op<;>simp only[oL]at h<;>try (cases h;done)
 rename_i q;obtain⟨callee,args',ts⟩:=q;have hl:=ut (K:=E.K) hG hr args'.toList
 have earr:args'.map a.eval=(args'.toList.map a.eval).toArray:=by
  apply Array.toList_inj.1
  simp
 cases callee with
 |builtin b=>cases h
 |invoke r m =>
  have hf:=ev r;simp only at h
  split at h
  .rename_i t' l e;rw[e]at hf;obtain⟨hv,-⟩:=is_K.1 hf
   split at h
   .rename_i g e1 hm';have q1:l=#[]:=Array.toList_inj.1 (by rw[e1])
    subst q1;cases h;have hxs:allAt E.K c (.tX (.sA [])::args'.toList.map (evg E.G tm)) (.agg #[]::args'.toList.map a.eval):=allAt_cons.2 ⟨⟨[],rfl,RsOk.nil⟩,hl⟩;refine fin _ hxs ?_;have h1:=k1 (Value.agg #[]::args'.toList.map a.eval).toArray w
    have e4 : #[Value.agg #[]]++args'.map a.eval=(Value.agg #[]::args'.toList.map a.eval).toArray:=by
     rw[earr]
     simp
    simp only[execOp,resolve,Sem.run_bind,Sem.run_pure,Result.andThen_ok,hv];rw[uO hm',e4];exact h1
   .cases h
  .cases h
 |value fo =>
  have hf:=ev fo
  have go:∀(g:FuncId) (vs us:List Value) (xs:List AT),a.eval fo=.func (.func g) vs.toArray us.toArray->allAt E.K c xs (vs++(args'.toList.map a.eval++us))->some (g,xs)=some (f,args)->xF c mem ca/\dy P ⟨dst,.call ⟨.value fo,args',ts⟩,ty,pos,after,guard⟩ a w (λv w'=>∃m y,Q (.val m y)/\∃c',AM E.K w (c.into ca.σ) c' m w'/\y.is E.K c' v):=λg vs us xs e1 e2 e3=>by
   cases e3;refine fin _ e2 ?_;have:=k1 (vs++(args'.toList.map a.eval++us)).toArray w
   have e4:vs.toArray++args'.map a.eval++us.toArray=(vs++(args'.toList.map a.eval++us)).toArray:=by
    rw[earr]
    simp
   simp only[execOp,resolve,e1,Deferred.ofValue,Sem.run_bind,Sem.run_pure,Result.andThen_ok,invoke,e4];exact this
  simp only at h
  split at h
  .rename_i g l m e;rw[e]at hf;obtain⟨vs,us,e1,h1,h2⟩:=hf;exact go g vs us _ e1 (dr (AN h1) (dr hl (AN h2))) h
  .rename_i g l m e;rw[e]at hf;obtain⟨hv,-⟩:=is_K.1 hf
   split at h
   .rename_i e1 e2;have q1:l=#[]:=Array.toList_inj.1 (by rw[e1])
    have q2:m=#[]:=Array.toList_inj.1 (by rw[e2])
    subst q1 q2;exact go g [] [] _ hv (by simpa using hl) h
   .cases h
  .rename_i g js e;rw[e]at hf;obtain⟨us,hv,hlen,hj⟩:=is_F.1 hf;have hall:allAt E.K c (args'.toList.map (evg E.G tm)++wX js) (args'.toList.map a.eval++us):=dr hl (tO hlen hj);exact go g [] us _ hv hall h
  .cases h
def Rel (K:KT) (w0:World) (c0:Cx) (N:Nat) (st:ASt) (a:Act) (w:World):Prop:=∃c,AM K w0 c0 c st.mem w/\AR K N c st.tm a
theorem AR.set {tm:T3} {t:Nat} {y:AT} (h:AR K N c tm a) (hy:y.is K c (a.tmps.getD t undef)):AR K N c (tm.set t y) a:=⟨h.sz,h.df,λu=>by
 rw[T3.get_set]
 split
 .rename_i e;rw[<-e.1];exact hy
 .exact h.is_ u⟩
def P6 (tm:T3) (d:Option Tmp) (y:AT):T3:=match d with
 |some d=>tm.set d y
 |none=>tm
theorem yf (st:ASt) (d:Option Tmp) (m:List AB) (y:AT):(st.put d m y).tm=P6 st.tm d y:=by cases d<;>rfl
theorem sr (st:ASt) (d:Option Tmp) (m:List AB) (y:AT):(st.put d m y).mem=m:=by cases d<;>rfl
theorem AR.put {tm:T3} {d:Option Tmp} {y:AT} {v:Value} (h:AR K N c tm a) (hd:okD N d=true) (hy:y.is K c v):AR K N c (P6 tm d y) (a.put d v):=by
 cases d with
 |none=>exact⟨h.sz,h.df,h.is_⟩
 |some d =>
  have hd:d<N:=blt_iff.1 hd;refine⟨by simp[Act.put,h.sz],h.df,λt=>?_⟩
  show((tm.set d y).get t).is K c _;rw[T3.get_set]
  by_cases e:d=t
  .subst e
   have hv:(a.put (some d) v).tmps.getD d undef=v:=by
    simp only[Act.put];rw[Array.getD_eq_getD_getElem?,Array.getElem?_setIfInBounds_self_of_lt (by rw[h.sz];exact hd)]
    rfl
   rw[hv]
   split
   .exact hy
   .rename_i hn
    have:tm.get d=.tA:=by unfold T3.get;rw[blt_no.2 ac]
    rw[this];trivial
  .rw[if_neg (λh=>e h.1)];have hv:(a.put (some d) v).tmps.getD t undef=a.tmps.getD t undef:=gX a v λx hx=>by cases hx;exact e
   rw[hv];exact h.is_ t
theorem Db (nw mem:List AB):AU mem.length nw (mem++List.replicate nw.length .dead)=mem++nw:=by
 apply List.ext_getElem?
 intro j;rw[dt]
 by_cases h:mem.length<=j/\j<mem.length+nw.length/\j<(mem++List.replicate nw.length AB.dead).length
 .rw[if_pos h,List.getElem?_append_right h.1]
 .rw[if_neg h];rw[List.length_append,List.length_replicate]at h
  by_cases h1:j<mem.length
  .rw[List.getElem?_append_left h1,List.getElem?_append_left h1]
  .rw[List.getElem?_eq_none (by simp;omega),List.getElem?_eq_none (by simp;omega)]
theorem uo:∀(l:List (Nat × AB)) (m d:List AB),(∀x∈l,x.1<m.length)->fI l (m++d)=fI l m++d
 |[],_,_,_=>rfl
 |x::l,m,d,h=>by unfold fI;rw[List.set_append_left _ _ (h x (List.mem_cons_self ..))];exact uo l _ d λy hy=>by rw[List.length_set];exact h y (List.mem_cons_of_mem _ hy)
theorem EOk.seq {mem:List AB} {e:Eff} {v:Value} (hm:AM K w0 c0 c mem w) (h:AM K w0 c0 c (mem++List.replicate e.nw.length .dead) w->af2 c (mem++List.replicate e.nw.length .dead) mem.length e.nw.length->EOk K w0 c0 c (mem++List.replicate e.nw.length .dead) mem.length e v w') (hu:∀x∈e.up,x.1<mem.length):∃c',c.le c'/\AM K w0 c0 c' (fI e.up mem++e.nw) w'/\e.y.is K c' v:=by
 obtain⟨g1,g2⟩:=hm.grow (List.replicate e.nw.length .dead);obtain⟨c',k1,-,k2,k3⟩:=h g1 λk hk=>⟨by simp;omega,g2 k⟩
 refine⟨c',k1,?_,k3⟩;rw[uo _ _ _ hu,show mem.length=(fI e.up mem).length by rw[bo],Db]at k2
 exact k2
theorem yB {st:ASt} {d:Option Tmp} {e:Eff} {v:Value} (hd:okD N d=true) (hr:AR K N c st.tm a) (h:∃c',c.le c'/\AM K w0 c0 c' (fI e.up st.mem++e.nw) w'/\e.y.is K c' v):Rel K w0 c0 N (st.app d e) (a.put d v) w':=by
 obtain⟨c',h1,h2,h3⟩:=h;refine⟨c',?_,?_⟩
 .show AM K w0 c0 c' (st.put d _ e.y).mem w';rw[sr];exact h2
 .show AR K N c' (st.put d _ e.y).tm _;rw[yf];exact(hr.mono h1).put (d:=d) hd h3
end
end Go.Proofs.YtldmjbgplgoedaaGreatDoor
namespace Go.Proofs.YtldmjbgplgoedaaGreatDoor
open Go.RowKit
section
variable {P:Program} {E:EN} {K:KT} {G:GT} {w0 w w':World} {c0 c c':Cx} {N:Nat} {st:ASt} {a:Act} {M:List (TypeId × Nat)} {tm:T3} {mem mem':List AB}
theorem cu {j:Nat} {b:AB} (h:be mem j=some b):j<mem.length:=by rw[aP]at h;exact(List.getElem?_eq_some_iff.1 h).1
theorem rX {t:TypeId} {x y:AT} {ps:List Prop} {j:Nat} {ab:AB} (h:cL K P t x y mem=some (ps,j,ab)):j<mem.length:=by
 unfold cL at h
 split at h
 .split at h
  .rename_i hm _
   split at h
   .cases h;exact cu hm
   .cases h
  .cases h
 .split at h
  .rename_i hm _
   split at h
   .cases h;exact cu hm
   .cases h
  .cases h
 .split at h
  .rename_i hm _ _
   split at h
   .split at h
    .cases h;exact cu hm
    .cases h
   .cases h
  .rename_i hm _ _
   split at h
   .split at h
    .cases h;exact cu hm
    .cases h
   .cases h
  .cases h
 .cases h
theorem qz {t tx:TypeId} {x y:AT} {p:Nat} {e:Eff} (h:cz K P M t tx x y mem p=some e):∀x∈e.up,x.1<mem.length:=by
 unfold cz at h
 split at h
 .split at h
  .split at h
   .split at h
    .split at h
     .split at h
      .rename_i hm
       split at h
       .cases h;intro x hx;rw[List.mem_singleton]at hx;subst hx;exact cu hm
       .cases h
      .cases h
     .split at h
      .cases h;intro x hx;simp at hx
      .cases h
     .split at h
      .cases h;intro x hx;simp at hx
      .cases h
     .cases h
    .cases h
   .cases h
  .cases h
 .unfold mV at h
  split at h
  .cases h;intro x hx;simp at hx
  .cases h
theorem uU {t:TypeId} {x y:AT} {e:Eff} (h:fk K P t x y mem=some e):∀x∈e.up,x.1<mem.length:=by
 unfold fk at h
 split at h
 .split at h
  .rename_i hm _
   split at h
   .cases h;intro x hx;rw[List.mem_singleton]at hx;subst hx;exact cu hm
   .cases h
  .cases h
 .cases h
theorem vw {t:TypeId} {x y:AT} {s:Bool} {p:Nat} {e:Eff} (h:kR K P M t x y s p=some e):e.up=[]:=by
 unfold kR at h
 split at h
 .split at h
  .split at h
   .split at h
    .cases h;rfl
    .cases h
   .split at h
    .cases h;rfl
    .cases h
  .cases h
 .cases h
theorem jx {t:TypeId} {n:Nat} {l:List (Nat × AT)} {p:Nat} {e:Eff} (h:bX K P M t n l p=some e):e.up=[]:=by
 unfold bX at h
 split at h
 .split at h
  .split at h
   .split at h
    .split at h
     .cases h;rfl
     .cases h
    .cases h;rfl
   .cases h
  .cases h
 .cases h
theorem EV {p:Nat} {op:Op} {e:Eff} (h:j6 K P G M tm mem p op=some e):∀x∈e.up,x.1<mem.length:=by
 have no:e.up=[]->∀x∈e.up,x.1<mem.length:=λe' x hx=>by rw[e']at hx;simp at hx
 have qo_:∀ {y:Option AT},qo y=some e->e.up=[]:=λ{y} h=>by
  unfold qo at h
  split at h
  .cases h;rfl
  .cases h
 have qp_:∀ {y:Option (List Prop × AT)},qp y=some e->e.up=[]:=λ{y} h=>by
  unfold qp at h
  split at h
  .cases h;rfl
  .cases h
 have qt_:∀ {y:AT},qt y=some e->e.up=[]:=λ{y} h=>by cases h;rfl
 cases op<;>simp only[j6]at h<;>try (cases h;done)
 case move x=>exact no (qt_ h)
 case assign x=>exact no (qt_ h)
 case pick q x y =>
  split at h
  .split at h
   .exact no (qt_ h)
   .exact no (qt_ h)
   .exact no (qo_ h)
  .cases h
 case build=>exact no (qo_ h)
 case load=>exact no (qp_ h)
 case nilCheck x =>
  split at h
  .split at h
   .exact no (qt_ h)
   .cases h
  .exact no (qt_ h)
  .cases h
 case binOp =>
  split at h
  .split at h
   .cases h;exact no rfl
   .cases h
  .split at h
   .split at h
    .exact no (qt_ h)
    .cases h
   .split at h
    .exact no (qt_ h)
    .cases h
   .cases h
  .cases h
 case unOp =>
  split at h
  .exact no (qt_ h)
  .exact no (qt_ h)
  .cases h
 case convert =>
  split at h
  .exact no (qt_ h)
  .cases h
 case makeFunc fn first cap =>
  cases fn<;>simp only at h<;>try (cases h;done)
  split at h
  .exact no (qt_ h)
  .cases h
 case slice=>exact no (qp_ h)
 case fieldAddr=>exact no (qo_ h)
 case field=>exact no (qo_ h)
 case indexAddr=>exact no (qp_ h)
 case index=>exact no (qp_ h)
 case extract=>exact no (qo_ h)
 case makeInterface =>
  split at h
  .exact no (qt_ h)
  .cases h
 case alloc t =>
  unfold jI at h
  split at h
  .cases h;exact no rfl
  .cases h
 case box t x =>
  unfold ur at h
  split at h
  .cases h;exact no rfl
  .cases h
 case buildSlice=>exact no (jx h)
 case store t x y =>
  split at h
  .rename_i hs;cases h;intro x hx;rw[List.mem_singleton]at hx;subst hx;exact rX hs
  .cases h
 case makeSlice=>exact no (vw h)
 case call q =>
  obtain⟨callee,args,ts⟩:=q
  cases callee with
  |invoke r m=>cases h
  |value f=>cases h
  |builtin b =>
   cases b<;>simp only at h<;>try (cases h;done)
   case len =>
    split at h
    .exact no (qo_ h)
    .cases h
   case max=>exact no (qo_ h)
   case min=>exact no (qo_ h)
   case append =>
    split at h
    .exact qz h
    .cases h
   case copy =>
    split at h
    .exact uU h
    .cases h
def ku (G:GT) (tm:T3) (op:Op):List Nat:=match op with
 |.load _ x=>ll [] (evg G tm x)
 |.store _ x _=>ll [] (evg G tm x)
 |.call ⟨.builtin b,args,_⟩=>match b with
  |.append=>du [] (args.toList.map (evg G tm))
  |.copy=>du [] (args.toList.map (evg G tm))
  |_=>[]
 |_=>[]
def Agr (l:List Nat) (mem mem':List AB):Prop:=∀j∈l,∀b,be mem j=some b->be mem' j=some b
theorem mD {x:AV} {r:List Prop × Rs} (ha:Agr (iS x) mem mem') (h:ct K G mem x=some r):ct K G mem' x=some r:=by
 cases x with
 |nP j o =>
  simp only[ct]at h ⊢
  split at h
  .rename_i hm;rw[ha j (by simp[iS]) _ hm];exact h
  .cases h
 |nX j κ d i =>
  simp only[ct]at h ⊢
  split at h
  .rename_i hm;rw[ha j (by simp[iS]) _ hm];exact h
  .cases h
 |nY j o l a b e =>
  simp only[ct]at h ⊢
  split at h
  .rename_i hm;rw[ha j (by simp[iS]) _ hm];exact h
  .cases h
 |_=>exact h
theorem Ja {x:AV} {j:Nat} (h:j∈iS x):j∈ll [] (.tX (.sO x)):=by unfold ll ya;rw[bK];exact .inr h
theorem og {t:TypeId} {x:AT} {r:List Prop × AT} (ha:Agr (ll [] x) mem mem') (h:fA K P G t x mem=some r):fA K P G t x mem'=some r:=by
 unfold fA at h ⊢
 split at h
 .rename_i x
  cases hq:ct K G mem x with
  |none=>rw[hq]at h;cases h
  |some q =>rw[hq]at h;simp only[mD (λj hj=>ha j (Ja hj)) hq];exact h
 .cases h
theorem lz {t:TypeId} {x y:AT} {r:List Prop × Nat × AB} (ha:Agr (ll [] x) mem mem') (h:cL K P t x y mem=some r):cL K P t x y mem'=some r:=by
 unfold cL at h ⊢
 split at h
 .split at h
  .rename_i hm hf;rw[ha _ (Ja (by simp[iS])) _ hm,hf]
   exact h
  .cases h
 .split at h
  .rename_i hm hf;rw[ha _ (Ja (by simp[iS])) _ hm,hf]
   exact h
  .cases h
 .split at h
  .rename_i hm hf hB;rw[ha _ (Ja (by simp[iS])) _ hm,hf,hB]
   exact h
  .rename_i hm hf hB;rw[ha _ (Ja (by simp[iS])) _ hm,hf,hB]
   exact h
  .cases h
 .cases h
theorem mc {κ:Nat} {x:AT} {r:Sr} (ha:Agr (ll [] x) mem mem') (h:M1 K mem κ x=some r):M1 K mem' κ x=some r:=by
 unfold M1 at h ⊢
 split at h
 .rename_i hk
  try simp only[hk]
  split at h
  .exact h
  .split at h
   .rename_i hm;rw[ha _ (Ja (by simp[iS])) _ hm]
    exact h
   .cases h
  .split at h
   .rename_i hm;rw[ha _ (Ja (by simp[iS])) _ hm]
    exact h
   .cases h
  .exact h
  .cases h
 .cases h
theorem lc {t tx:TypeId} {x y:AT} {p:Nat} {e:Eff} (hx:Agr (ll [] x) mem mem') (hy:Agr (ll [] y) mem mem') (h:cz K P M t tx x y mem p=some e):cz K P M t tx x y mem' p=some e:=by
 unfold cz at h ⊢
 split at h
 .rename_i h1 h2
  try simp only[h1,h2]
  split at h
  .rename_i h3 h4
   try simp only[h3,h4]
   split at h
   .rename_i h5 h6;simp only[mc hy h5,h6]
    split at h
    .split at h
     .split at h
      .rename_i hm;rw[hx _ (Ja (by simp[iS])) _ hm]
       exact h
      .cases h
     .exact h
     .exact h
     .cases h
    .cases h
   .cases h
  .cases h
 .exact h
theorem mG {t:TypeId} {x y:AT} {e:Eff} (hx:Agr (ll [] x) mem mem') (hy:Agr (ll [] y) mem mem') (h:fk K P t x y mem=some e):fk K P t x y mem'=some e:=by
 unfold fk at h ⊢
 split at h
 .rename_i h1
  try simp only[h1]
  split at h
  .rename_i hm hs;simp only[hx _ (Ja (by simp[iS])) _ hm,mc hy hs]
   exact h
  .cases h
 .cases h
theorem gF {p:Nat} {op:Op} {e:Eff} (ha:Agr (ku G tm op) mem mem') (h:j6 K P G M tm mem p op=some e):j6 K P G M tm mem' p op=some e:=by
 cases op<;>(try simp only[j6]at h ⊢)<;>try exact h
 case makeFunc fn _ _=>cases fn<;>exact h
 case load t x =>
  cases hq:fA K P G t (evg G tm x) mem with
  |none=>rw[hq]at h;cases h
  |some q=>rw[hq]at h;rw[og ha hq];exact h
 case store t x y =>
  cases hq:cL K P t (evg G tm x) (evg G tm y) mem with
  |none=>rw[hq]at h;cases h
  |some q=>rw[hq]at h;rw[lz ha hq];exact h
 case call q =>
  obtain⟨callee,args,ts⟩:=q
  cases callee with
  |invoke r m=>exact h
  |value f=>exact h
  |builtin b =>
   cases b<;>simp only at h ⊢<;>try exact h
   case append =>
    split at h
    .rename_i x y t u hx hts;simp only[ku,hx]at ha
     try simp only[hx,hts]
     exact lc (λj hj=>ha j (by simp only[du];rw[ii];exact .inl hj)) (λj hj=>ha j (by simp only[du];rw[ii];exact .inr hj)) h
    .cases h
   case copy =>
    split at h
    .rename_i x y t u hx hts;simp only[ku,hx]at ha
     try simp only[hx,hts]
     exact mG (λj hj=>ha j (by simp only[du];rw[ii];exact .inl hj)) (λj hj=>ha j (by simp only[du];rw[ii];exact .inr hj)) h
    .cases h
theorem uh {ops:Array Oper} {j t:Nat} {b:Bool} (hj:sD ops j=some t) (hs:a.tmps.size=N) (ht:t<N) (hv:a.tmps.getD t undef=.bool b):yielded ops a.tmps j=some b:=by
 have e1:(ops[j]?).bind (·.dst)=some t:=by
  unfold sD at hj
  cases ho:ops[j]? with
  |none=>rw[ho]at hj;cases hj
  |some o'=>rw[ho]at hj;exact hj
 have e2:a.tmps[t]? = some (.bool b):=by
  rw[Array.getD_eq_getD_getElem?]at hv;have hlt:t<a.tmps.size:=by rw[hs];exact ht
  rw[Array.getElem?_eq_getElem hlt]at hv ⊢;exact congrArg some hv
 unfold yielded;rw[e1];simp only[Option.bind_some,e2]
theorem uA {ops:Array Oper} {j t:Nat} (hj:sD ops j=some t) (hv:(AT.tT []).is K c (a.tmps.getD t undef)):yielded ops a.tmps j=none:=by
 obtain⟨vs,h1,h2⟩:=hv;unfold sD at hj
 split at hj
 .rename_i o ho;unfold yielded;rw[ho];simp only[Option.bind_some,hj];rw[Array.getD_eq_getD_getElem?]at h1
  cases hq:a.tmps[t]? with
  |none=>rfl
  |some v =>rw[hq]at h1;simp only[Option.getD_some]at h1;rw[h1]
 .cases hj
theorem fq (hE:EOK P E) (hG0:GOk E.K E.G c0) {ops:Array Oper} {o:Oper} {Q:Lv->Prop} (hd:okD N o.dst=true) (h:(kf P E st o).sat Q) (hr:Rel E.K w0 c0 N st a w) {Qc:Exit->Act->World->Prop} {rest:List Oper} (hQ:∀st' a' w',Q (.norm st')->Rel E.K w0 c0 N st' a' w'->wpList P ops Qc rest a' w') :
 o.wp P a w (wpList P ops Qc rest) Qc:=by
 obtain⟨c,hm,hr⟩:=hr;have hG:=hG0.le hm.le;unfold kf at h
 split at h
 .rename_i f args hc
  split at h
  .rename_i ca hca
   split at h
   .rename_i t ht;rw[T.sat_bind]at h;obtain⟨h1,h2⟩:=mm hE hG hm hr o hc hca ht h;refine c9 h2 λv w' ⟨m,y,k1,c',k2,k3⟩=>?_;simp only at k1
    split at k1
    .rename_i hl;have hl:=ble_iff.1 hl;refine hQ _ _ _ k1 (yB hd hr (EOk.seq hm (λg1 g2=>?_) λx hx=>?_))
     .have hlen:(jz ca.σ st.mem.length [] m y).nw.length=m.length-ca.σ.length:=by simp only[jz,ce,List.length_drop]
      rw[hlen]at g1 g2 ⊢;refine AM.back hE.hK g1 ⟨h1.nd,h1.df,λj hj=>?_⟩ hl k2 k3 g2;obtain⟨b,q1,q2⟩:=h1.lv j hj;refine⟨b,?_,q2⟩;rw[aP]at q1 ⊢;rw[List.getElem?_append_left (List.getElem?_eq_some_iff.1 q1).1];exact q1
     .obtain⟨b,q1,-⟩:=h1.lv x.1 (ij hx);exact cu q1
    .exact k1.elim
   .exact h.elim
  .exact h.elim
 .split at h
  .rename_i e he;rw[bh]at h;obtain⟨g1,g2⟩:=hm.grow (List.replicate e.nw.length .dead)
   have he':j6 E.K P E.G E.M st.tm (st.mem++List.replicate e.nw.length .dead) st.mem.length o.op=some e:=gF (λj _ b hb=>by rw[aP]at hb ⊢;rw[List.getElem?_append_left (List.getElem?_eq_some_iff.1 hb).1];exact hb) he
   have hgv:=gD hG g1 hr o he' (λk hk=>⟨by simp;omega,g2 k⟩) h.1
   exact c9 hgv λv w' k=>hQ _ _ _ h.2 (yB hd hr (EOk.seq hm (λ_ _=>k) (EV he)))
  .exact h.elim
theorem lQ (hE:EOK P E) (hG0:GOk E.K E.G c0) {ops:Array Oper} {o:Oper} {Q:Lv->Prop} (h:(ow P E N ops o st).sat Q) (hr:Rel E.K w0 c0 N st a w) {Qc:Exit->Act->World->Prop} {rest:List Oper} (hQ:∀st' a' w',Q (.norm st')->Rel E.K w0 c0 N st' a' w'->wpList P ops Qc rest a' w') :
 wpList P ops Qc (o::rest) a w:=by
 unfold ow at h
 split at h
 .exact h.elim
 rename_i hd;unfold wpList
 have off:∀st',Q (.norm (st'.put o.dst st'.mem (.tT [])))->Rel E.K w0 c0 N st' a w->wpList P ops Qc rest (a.put o.dst undef) w:=λst' h1 ⟨c,h2,h3⟩=>by
  refine hQ _ _ _ h1 ⟨c,?_,?_⟩
  .rw[sr];exact h2
  .rw[yf];exact h3.put (d:=o.dst) (y:=.tT []) (v:=undef) hd ⟨[],rfl,rfl,λ_ _ _ e=>by simp at e⟩
 split at h
 .rename_i hgd;rw[if_pos (by simp[Region.wanted,hgd])]
  exact .inl (fq hE hG0 hd h hr hQ)
 .rename_i j want hgd
  split at h
  .exact h.elim
  rename_i t hj
  split at h
  .rename_i f t' x htN hst;have htN:=blt_iff.1 htN;obtain⟨c,hm,hr2⟩:=hr;have hv:=hr2.is_ t;have hst':st.tm.get t=_:=hst;rw[hst']at hv;obtain⟨hb,b1,b2⟩:=is_B.1 (show AV.is E.K c (.nB f t' x) _ from hv);have hy:=uh hj hr2.sz htN hb
   have hw:Region.wanted o (yielded ops a.tmps)=(x==want):=by simp only[Region.wanted,hgd,hy];cases x<;>cases want<;>rfl
   have setT:x=true->Rel E.K w0 c0 N ⟨st.tm.set t (.tX (.sO (.nB false true true))),st.mem⟩ a w:=λe=>⟨c,hm,hr2.set (by rw[hb,e];exact is_B.2 ⟨rfl,by simp,by simp⟩)⟩
   have setF:x=false->Rel E.K w0 c0 N ⟨st.tm.set t (.tX (.sO (.nB true false false))),st.mem⟩ a w:=λe=>⟨c,hm,hr2.set (by rw[hb,e];exact is_B.2 ⟨rfl,by simp,by simp⟩)⟩
   have hrel:Rel E.K w0 c0 N st a w:=⟨c,hm,hr2⟩
   split at h
   .have hx:x=false:=by cases x with
     |false=>rfl
     |true=>have:=b2 rfl;cases this
    subst hx
    split at h
    .rw[if_neg (by rw[hw];decide)]
     exact off st h hrel
    .rw[if_pos (by rw[hw];rfl)]
     exact .inl (fq hE hG0 hd h hrel hQ)
   .have hx:x=true:=by cases x with
     |true=>rfl
     |false=>have:=b1 rfl;cases this
    subst hx
    split at h
    .rw[if_pos (by rw[hw];rfl)]
     exact .inl (fq hE hG0 hd h hrel hQ)
    .rw[if_neg (by rw[hw];decide)]
     exact off st h hrel
   .split at h
    .cases x with
     |true =>
      rw[if_pos (by rw[hw];rfl)]
      exact .inl (fq hE hG0 hd (h.1 rfl) (setT rfl) hQ)
     |false =>
      rw[if_neg (by rw[hw];decide)]
      exact off _ (h.2 rfl) (setF rfl)
    .cases x with
     |true =>
      rw[if_neg (by rw[hw];decide)]
      exact off _ (h.1 rfl) (setT rfl)
     |false =>
      rw[if_pos (by rw[hw];rfl)]
      exact .inl (fq hE hG0 hd (h.2 rfl) (setF rfl) hQ)
  .rename_i htN hst;obtain⟨c,hm,hr2⟩:=hr;have hv:=hr2.is_ t;have hst':st.tm.get t=_:=hst;rw[hst']at hv;have hy:=uA hj hv;rw[if_neg (by simp[Region.wanted,hgd,hy])]
   exact off st h ⟨c,hm,hr2⟩
  .exact h.elim
theorem qy (hE:EOK P E) (hG0:GOk E.K E.G c0) {ops:Array Oper} {Qc:Exit->Act->World->Prop}:∀(l:List Oper) {st:ASt} {a:Act} {w:World} {Q:Lv->Prop},(tB P E N ops l st).sat Q->Rel E.K w0 c0 N st a w->(∀st' a' w',Q (.norm st')->Rel E.K w0 c0 N st' a' w'->Qc .normal a' w')->wpList P ops Qc l a w
 |[],st,a,w,Q,h,hr,hQ=>hQ _ _ _ h hr
 |o::r,st,a,w,Q,h,hr,hQ=>by unfold tB T.onNorm at h;rw[T.sat_bind]at h;exact lQ hE hG0 h hr λst' a' w' h1 h2=>qy hE hG0 r h1 h2 hQ
end
end Go.Proofs.YtldmjbgplgoedaaGreatDoor
