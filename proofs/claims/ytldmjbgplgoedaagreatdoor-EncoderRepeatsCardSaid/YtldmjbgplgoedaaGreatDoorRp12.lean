import Derived.Test.YtldmjbgplgoedaaGreatDoorRp11
set_option linter.all false
namespace Go.Proofs.YtldmjbgplgoedaaGreatDoor
open Go.RowKit
def iT (tm:T3):List Nat->T3
 |[]=>T3.no
 |t::l=>(iT tm l).set t (tm.get t)
def dH (ops:Array Oper):Nat->Nat->Nat->Bool
 |0,_,_=>false
 |f+1,j,i=>match ops[j]? with
  |some o=>o.after.toList.any λe=>Region.binds .any e&&(Nat.beq e.on i||dH ops f e.on i)
  |none=>false
def oX (ops:Array Oper) (i k:Nat):Bool:=match ops[i]?,ops[k]? with
 |some oi,some ok=>match ok.dst with
  |none=>true
  |some d=>match Nat.beq i k with
   |true=>true
   |false=>(match oi.dst with
    |some d'=>!(Nat.beq d d')
    |none=>true)&&(!((oi.looksAt ops).contains d)||(if Nat.blt k i then dH ops 12 i k else dH ops 12 k i))
 |_,_=>false
def gIn (N:Nat) (ops:Array Oper) (o:Oper):Bool:=match o.guard with
 |none=>true
 |some (j,_)=>match sD ops j with
  |some t=>Nat.blt t N
  |none=>false
inductive GD where
 |on
 |off
 |dep (t:Nat) (x:Bool)
 |bad
def gOn (ops:Array Oper) (o:Oper) (tm:T3):GD:=match o.guard with
 |none=>.on
 |some (j,want)=>match sD ops j with
  |some t=>match tm.get t with
   |.tX (.sO (.nB f t' x))=>match f,t' with
    |false,_=>match want with
     |true=>.on
     |false=>.off
    |true,false=>match want with
     |true=>.off
     |false=>.on
    |true,true=>.dep t x
   |.tT []=>.off
   |_=>.bad
  |none=>.bad
def UR:List (Nat × Bool)->Nat->Option Bool
 |[],_=>none
 |(u,r)::l,t=>match Nat.beq u t with
  |true=>some r
  |false=>UR l t
def EY (rs:List (Nat × Bool)) (d:Option Tmp) (e:Eff):Eff:=match d,rs with
 |_,[]=>e
 |none,_=>e
 |some t,rs=>match UR rs t,e.y with
  |some b,.tX (.sO (.nB true true x))=>⟨(x=b)::e.ps,e.up,e.nw,.tX (.sO (ofB b))⟩
  |_,_=>e
def nA:T->Option (List Prop × List AB × AT)
 |.vc p t=>match nA t with
  |some (ps,r)=>some (p::ps,r)
  |none=>none
 |.done (.val m y)=>some ([],m,y)
 |_=>none
structure HR where
 st:ASt
 e:Eff
 tc:List Nat
def dU:List (Nat × AB)->List Nat
 |[]=>[]
 |x::l=>x.1::dU l
def zW (x y:AV):Bool:=match x,y with
 |.nI k _ _ _,.nI k' _ _ _=>ik k k'
 |.nB _ _ _,.nB _ _ _=>true
 |.nR κ _ _ _ _,.nR κ' _ _ _ _=>Nat.beq κ κ'
 |_,_=>false
def lK:Rs->Rs->Bool
 |[],s=>match s with
  |[]=>true
  |_::_=>false
 |x::r,s=>match s with
  |[]=>false
  |y::s=>aJ (match x,y with
   |.c x,.c y=>zW x y
   |.a n k _ _ _,.a n' k' _ _ _=>aJ (Nat.beq n n') (ik k k')
   |_,_=>false) (lK r s)
def wdV:AV->Lf
 |.nI _ _ _ z=>Lf.i z
 |.nB _ _ b=>Lf.b b
 |.nR _ _ _ n g=>Lf.l n g
 |_=>Lf.i 0
def eX:Rs->List Lf
 |[]=>[]
 |x::r=>match x with
  |.c y=>wdV y::eX r
  |.a _ _ _ _ f=>Lf.f f::eX r
def Nq (mem:List AB) (j:Nat) (b:AB):Option (Rs × Rs):=match be mem j,b with
 |some (.run ty r),.run ty' r'=>match aJ (aJ (Nat.beq ty 100) (Nat.beq ty' 100)) (lK r r')with
  |true=>some (r,r')
  |false=>none
 |_,_=>none
def mr (mem:List AB):List (Nat × AB)->List Prop × List (Nat × AB)
 |[]=>([],[])
 |x::l=>match mr mem l with
  |(qs,up)=>match Nq mem x.1 x.2 with
   |some (r,r')=>((eX r'=eX r)::qs,up)
   |none=>(qs,x::up)
def pQ (mem:List AB) (e:Eff):Eff:=match kX (dU e.up)with
 |true=>match mr mem e.up with
  |(qs,up)=>⟨e.ps++qs,up,e.nw,e.y⟩
 |false=>e
def evD (P:Program) (E:EN) (tm:T3) (mem:List AB) (o:Oper):Option (Eff × List Nat):=match oL P E.G tm o.op with
 |some (f,args)=>match lA args mem with
  |some ca=>match E.C f ca.args ca.mem with
   |some t=>match nA t with
    |some (ps,m,y)=>match Nat.ble ca.σ.length m.length with
     |true=>some (pQ mem (jz ca.σ mem.length ps m y),ca.σ)
     |false=>none
    |none=>none
   |none=>none
  |none=>none
 |none=>match j6 E.K P E.G E.M tm mem mem.length o.op with
  |some e=>some (e,ku E.G tm o.op)
  |none=>none
inductive DW where
 |ok (hs:List HR) (fin:ASt)
 |split (t:Nat) (x:Bool)
 |bad
def uZ (P:Program) (E:EN) (N:Nat) (ops:Array Oper) (rs:List (Nat × Bool)):List Oper->ASt->DW
 |[],st=>.ok [] st
 |o::r,st=>match aJ (okD N o.dst) (gIn N ops o)with
  |false=>.bad
  |true=>match gOn ops o (iT st.tm (o.looksAt ops))with
   |.on=>match evD P E (iT st.tm (o.looksAt ops)) st.mem o with
    |some (e,tc)=>match uZ P E N ops rs r (st.app o.dst (EY rs o.dst e))with
     |.ok hs fin=>.ok (⟨st,EY rs o.dst e,tc⟩::hs) fin
     |x=>x
    |none=>.bad
   |.off=>match uZ P E N ops rs r (st.app o.dst ⟨[],[],[],.tT []⟩)with
    |.ok hs fin=>.ok (⟨st,⟨[],[],[],.tT []⟩,[]⟩::hs) fin
    |x=>x
   |.dep t x=>.split t x
   |.bad=>.bad
def afK (a:List Nat):List Nat->Bool
 |[]=>false
 |x::l=>bor (AG a x) (afK a l)
def Ql (p n:Nat):List Nat->Bool
 |[]=>false
 |x::l=>bor (aJ (Nat.ble p x) (Nat.blt x (Nat.add p n))) (Ql p n l)
def HR.all (h:HR):List Nat:=h.tc++dU h.e.up
def FE (a b:HR):Bool:=bor (afK (dU a.e.up) b.all) (bor (afK (dU b.e.up) a.all) (Ql a.st.mem.length a.e.nw.length b.all))
def nv (ops:Array Oper) (i:Nat) (a:HR):Nat->List HR->Bool
 |_,[]=>true
 |k,b::l=>aJ (match FE a b with
  |true=>dH ops 12 k i
  |false=>true) (nv ops i a (k+1) l)
def vV (ops:Array Oper):Nat->List HR->Bool
 |_,[]=>true
 |i,a::l=>aJ (aJ (fT a.st.mem.length (dU a.e.up)) (nv ops i a (i+1) l)) (vV ops (i+1) l)
def xX (x y:AV):Option (List Prop):=match x,y with
 |.nD j κ a b o n,.nD j' κ' a' b' o' n'=>match aJ (aJ (Nat.beq j j') (Nat.beq κ κ')) (aJ (Nat.ble a' a) (Nat.ble b b'))with
  |true=>some [o=o',n=n']
  |false=>none
 |_,_=>none
def LQ (x y:AT):Option (List Prop):=match x,y with
 |.tX (.sO x),.tX (.sO y)=>xX x y
 |_,_=>none
def sv (ops:Array Oper) (i:Nat) (a:HR):Nat->List HR->List Nat
 |_,[]=>[]
 |k,b::l=>match FE a b with
  |true=>match dH ops 12 k i with
   |true=>sv ops i a (k+1) l
   |false=>k::sv ops i a (k+1) l
  |false=>sv ops i a (k+1) l
def nW (a:HR) (k:Nat):Nat->List HR->Bool
 |_,[]=>true
 |n,b::l=>match Nat.blt n k with
  |true=>match FE a b with
   |true=>false
   |false=>nW a k (n+1) l
  |false=>true
def abV (hs:List HR) (fin:ASt) (k:Nat):ASt:=match hs[k]? with
 |some h=>h.st
 |none=>fin
def noE (e:Eff):Bool:=match e.up,e.nw with
 |[],[]=>true
 |_,_=>false
def ZD (P:Program) (E:EN) (tm:T3) (mem:List AB) (o:Oper) (y:AT):Option (List Prop):=match oL P E.G tm o.op with
 |some _=>none
 |none=>match j6 E.K P E.G E.M tm mem mem.length o.op with
  |some e=>match noE e with
   |true=>match LQ e.y y with
    |some qs=>some (e.ps++qs)
    |none=>none
   |false=>none
  |none=>none
def aeG (P:Program) (E:EN) (ops:Array Oper) (hs:List HR) (fin:ASt) (i:Nat) (a:HR) (k:Nat) (l:List HR):Option (List Prop):=match ops[i]? with
 |none=>none
 |some o=>match aJ (noE a.e) (aJ (fT a.st.mem.length a.tc) (nW a k (i+1) l))with
  |true=>ZD P E (iT a.st.tm (o.looksAt ops)) (abV hs fin (k+1)).mem o a.e.y
  |false=>none
def mq (P:Program) (E:EN) (ops:Array Oper) (hs:List HR) (fin:ASt):Nat->List HR->Option (List Prop)
 |_,[]=>some []
 |i,a::l=>match fT a.st.mem.length (dU a.e.up)with
  |true=>match sv ops i a (i+1) l with
   |[]=>mq P E ops hs fin (i+1) l
   |[k]=>match aeG P E ops hs fin i a k l with
    |some qs=>match mq P E ops hs fin (i+1) l with
     |some ps=>some (qs++ps)
     |none=>none
    |none=>none
   |_=>none
  |false=>none
def Bu (ops:Array Oper):Bool :=
 let hd:=List.range ops.size
 (hd.all λi=>hd.all λk=>oX ops i k)&&(hd.all λi=>match ops[i]? with
  |some o=>o.after.toList.all λe=>!Region.binds .any e||Nat.blt e.on i
  |none=>false)
def QW:List HR->List Prop
 |[]=>[]
 |h::l=>h.e.ps++QW l
def aak (d:Nat):List Oper->Bool
 |[]=>false
 |o::l=>match o.dst with
  |some t=>bor (Nat.beq t d) (aak d l)
  |none=>aak d l
def Qi (ops:Array Oper) (st:ASt):List (Nat × Bool)->List Prop × ASt
 |[]=>([],st)
 |(t,b)::l=>match aak t ops.toList,st.tm.get t with
  |false,.tX (.sO (.nB true true x))=>match Qi ops ⟨st.tm.set t (.tX (.sO (ofB b))),st.mem⟩ l with
   |(ps,s)=>((x=b)::ps,s)
  |_,_=>Qi ops st l
def xS (P:Program) (E:EN) (N:Nat) (ops:Array Oper) (st:ASt):Nat->List (Nat × Bool)->T
 |0,_=>.fail
 |f+1,rs=>match Qi ops st rs with
  |(ps,s)=>match uZ P E N ops rs ops.toList s with
   |.ok hs fin=>match vV ops 0 hs with
    |true=>vcs ps (vcs (QW hs) (.done (.norm fin)))
    |false=>match mq P E ops hs fin 0 hs with
     |some qs=>vcs ps (vcs (QW hs) (vcs qs (.done (.norm fin))))
     |none=>.fail
   |.split t x=>.br x (xS P E N ops st f ((t,true)::rs)) (xS P E N ops st f ((t,false)::rs))
   |.bad=>.fail
def ss (P:Program) (E:EN) (N:Nat) (ops:Array Oper) (st:ASt):T:=match Bu ops with
 |true=>xS P E N ops st 8 []
 |false=>.fail
section
variable {P:Program} {E:EN} {K:KT} {G:GT} {w0 w w':World} {c0 c c':Cx} {N:Nat} {st:ASt} {a:Act} {mem mem':List AB} {ops:Array Oper}
theorem t8 {tm:T3}:∀ {l:List Nat},(∀t∈l,(tm.get t).is K c (a.tmps.getD t undef))->∀u,((iT tm l).get u).is K c (a.tmps.getD u undef)
 |[],_,u=>by rw[iT,T3.get_no];trivial
 |t::l,h,u=>by
  rw[iT,T3.get_set]
  split
  .rename_i e;rw[<-e.1];exact h t (List.mem_cons_self ..)
  .exact t8 (λt ht=>h t (List.mem_cons_of_mem _ ht)) u
theorem bQ {listed:Array Bool} (hclosed:∀j oj,ops[j]? = some oj->listed.getD j false=true->∀e∈oj.after,Region.binds .any e=true->listed.getD e.on false=true):∀(f j i:Nat),dH ops f j i=true->listed.getD j false=true->listed.getD i false=true
 |0,_,_,h,_=>by cases h
 |f+1,j,i,h,hj=>by
  unfold dH at h
  split at h
  .rename_i o ho;obtain⟨e,he,h2⟩:=List.any_eq_true.1 h;simp only[Bool.and_eq_true,Bool.or_eq_true]at h2;have hl:=hclosed j o ho hj e (by simpa using he) h2.1
   rcases h2.2 with h3 | h3
   .rw[<-beq_iff'.1 h3];exact hl
   .exact bQ hclosed f _ i h3 hl
  .cases h
theorem gG {listed:Array Bool} (hclosed:∀j oj,ops[j]? = some oj->listed.getD j false=true->∀e∈oj.after,Region.binds .any e=true->listed.getD e.on false=true) {f j i:Nat} {oj:Oper} (hj:ops[j]? = some oj) (hall:∀e∈oj.after,Region.binds .any e=true->listed.getD e.on false=true) (h:dH ops f j i=true):listed.getD i false=true:=by
 cases f with
 |zero=>cases h
 |succ f =>
  unfold dH at h;rw[hj]at h;obtain⟨e,he,h2⟩:=List.any_eq_true.1 h;simp only[Bool.and_eq_true,Bool.or_eq_true]at h2;have hl:=hall e (by simpa using he) h2.1
  rcases h2.2 with h3 | h3
  .rw[<-beq_iff'.1 h3];exact hl
  .exact bQ hclosed f _ i h3 hl
theorem xG {l:List Nat} (i:Nat):i∈l->∃i,i∈l/\∀j∈l,i<=j:=by
 induction i using Nat.strongRecOn with
 |_ i ih =>
  intro hi
  by_cases hq:∃j,j∈l/\j<i
  .obtain⟨j,hj,hlt⟩:=hq;exact ih j hlt hj
  .exact⟨i,hi,λj hj=>Nat.le_of_not_lt λhlt=>hq ⟨j,hj,hlt⟩⟩
def HdD (P:Program) (E:EN) (N:Nat) (ops:Array Oper) (rs:List (Nat × Bool)) (o:Oper) (h:HR):Prop:=okD N o.dst=true/\gIn N ops o=true /\ ((gOn ops o (iT h.st.tm (o.looksAt ops))=.on/\∃e,evD P E (iT h.st.tm (o.looksAt ops)) h.st.mem o=some (e,h.tc)/\h.e=EY rs o.dst e)\/(gOn ops o (iT h.st.tm (o.looksAt ops))=.off/\h.e=⟨[],[],[],.tT []⟩/\h.tc=[]))
theorem nk {rs:List (Nat × Bool)}:∀(L:List Oper) (st:ASt) {hs:List HR} {fin:ASt},uZ P E N ops rs L st=.ok hs fin->∃S:Nat->ASt,S 0=st/\S L.length=fin/\hs.length=L.length/\∀(i:Nat) (o:Oper),L[i]? = some o->∃h,hs[i]? = some h/\HdD P E N ops rs o h/\h.st=S i/\S (i+1)=(S i).app o.dst h.e
 |[],st,hs,fin,h=>by cases h;exact⟨λ_=>st,rfl,rfl,rfl,λi o e=>by simp at e⟩
 |o::r,st,hs,fin,h=>by
  unfold uZ at h
  split at h
  .cases h
  rename_i hb;rw[both_iff]at hb
  have key:∀(x:HR),x.st=st->HdD P E N ops rs o x->(∃hs',uZ P E N ops rs r (st.app o.dst x.e)=.ok hs' fin/\hs=x::hs')->∃S:Nat->ASt,S 0=st/\S (o::r).length=fin/\hs.length=(o::r).length/\∀(i:Nat) (o':Oper),(o::r)[i]? = some o'->∃h,hs[i]? = some h/\HdD P E N ops rs o' h/\h.st=S i/\S (i+1)=(S i).app o'.dst h.e:=λx hx hd ⟨hs',h1,h2⟩=>by
   obtain⟨S,s1,s2,s3,s4⟩:=nk r _ h1
   refine⟨λi=>match i with
    |0=>st
    |i+1=>S i,rfl,s2,by rw[h2];simp[s3],λi o' e=>?_⟩
   cases i with
   |zero =>simp only[List.getElem?_cons_zero,Option.some.injEq]at e;subst e;exact⟨x,by rw[h2];rfl,hd,hx,by show S 0=_;rw[s1]⟩
   |succ i =>
    obtain⟨h,g1,g2,g3,g4⟩:=s4 i o' (by simpa using e)
    exact⟨h,by rw[h2];exact g1,g2,g3,g4⟩
  split at h
  .rename_i hon
   split at h
   .rename_i e tc hev
    split at h
    .rename_i hs' fin' hw;cases h;exact key ⟨st,EY rs o.dst e,tc⟩ rfl ⟨hb.1,hb.2,.inl ⟨hon,e,hev,rfl⟩⟩ ⟨hs',hw,rfl⟩
    .rename_i hno;exact absurd h (hno _ _)
   .cases h
  .rename_i hoff
   split at h
   .rename_i hs' fin' hw;cases h;exact key ⟨st,⟨[],[],[],.tT []⟩,[]⟩ rfl ⟨hb.1,hb.2,.inr ⟨hoff,rfl,rfl⟩⟩ ⟨hs',hw,rfl⟩
   .rename_i hno;exact absurd h (hno _ _)
  .cases h
  .cases h
theorem mS {a:List Nat}:∀ {l:List Nat},afK a l=false->∀x∈l,x∉a
 |[],_,x,hx=>by simp at hx
 |y::l,h,x,hx=>by
  unfold afK at h
  have h1:AG a y=false/\afK a l=false:=by cases hq:AG a y<;>simp_all [bor]
  rcases List.mem_cons.1 hx with rfl | hx
  .intro e;rw[hasN_iff.2 e]at h1;cases h1.1
  .exact mS h1.2 x hx
theorem wI {p n:Nat}:∀ {l:List Nat},Ql p n l=false->∀x∈l,¬ (p<=x/\x<p+n)
 |[],_,x,hx=>by simp at hx
 |y::l,h,x,hx=>by
  unfold Ql at h
  have h1:aJ (Nat.ble p y) (Nat.blt y (Nat.add p n))=false/\Ql p n l=false:=by cases hq:aJ (Nat.ble p y) (Nat.blt y (Nat.add p n))<;>simp_all [bor]
  rcases List.mem_cons.1 hx with rfl | hx
  .intro e;have h2:=h1.1;rw[show Nat.add p n=p+n from rfl,both_iff.2 ⟨ble_iff.2 e.1,blt_iff.2 e.2⟩]at h2;cases h2
  .exact wI h1.2 x hx
structure di (a b:HR):Prop where
 ab:∀x∈b.all,x∉dU a.e.up
 ba:∀x∈a.all,x∉dU b.e.up
 nw:∀x∈b.all,¬ (a.st.mem.length<=x/\x<a.st.mem.length+a.e.nw.length)
theorem si {a b:HR} (h:FE a b=false):di a b:=by
 unfold FE at h
 have h1:afK (dU a.e.up) b.all=false/\afK (dU b.e.up) a.all=false/\Ql a.st.mem.length a.e.nw.length b.all=false:=by cases h1:afK (dU a.e.up) b.all<;>cases h2:afK (dU b.e.up) a.all<;>simp_all [bor]
 exact⟨mS h1.1,mS h1.2.1,wI h1.2.2⟩
theorem mg {i:Nat} {a:HR}:∀ {k:Nat} {l:List HR},nv ops i a k l=true->∀(n:Nat) (b:HR),l[n]? = some b->di a b\/dH ops 12 (k+n) i=true
 |_,[],_,n,b,h=>by simp at h
 |k,x::l,h,n,b,hb=>by
  unfold nv at h;rw[both_iff]at h
  cases n with
  |zero =>
   simp only[List.getElem?_cons_zero,Option.some.injEq]at hb;subst hb
   cases hc:FE a x with
   |true=>rw[hc]at h;exact .inr h.1
   |false=>exact .inl (si hc)
  |succ n =>
   have:=mg h.2 n b (by simpa using hb)
   rwa [show k+1+n=k+(n+1) by omega]at this
theorem tZ:∀ {s:Nat} {l:List HR},vV ops s l=true->∀(i k:Nat) (a b:HR),i<k->l[i]? = some a->l[k]? = some b->di a b\/dH ops 12 (s+k) (s+i)=true
 |_,[],_,i,k,a,b,_,h,_=>by simp at h
 |s,x::l,h,i,k,a,b,hik,h1,h2=>by
  unfold vV at h;rw[both_iff]at h
  cases k with
  |zero=>omega
  |succ k =>
   cases i with
   |zero =>
    simp only[List.getElem?_cons_zero,Option.some.injEq]at h1;subst h1;have:=mg (both_iff.1 h.1).2 k b (by simpa using h2)
    rwa [show s+1+k=s+(k+1) by omega]at this
   |succ i =>
    have:=tZ h.2 i k a b ac (by simpa using h1) (by simpa using h2)
    rwa [show s+1+k=s+(k+1) by omega,show s+1+i=s+(i+1) by omega]at this
theorem ez {n:Nat}:∀ {l:List Nat},fT n l=true->∀x∈l,x<n
 |[],_,x,hx=>by simp at hx
 |y::l,h,x,hx=>by
  unfold fT at h;rw[both_iff]at h;rcases List.mem_cons.1 hx with rfl | hx
  .exact blt_iff.1 h.1
  .exact ez h.2 x hx
theorem tD:∀ {s:Nat} {l:List HR},vV ops s l=true->∀a∈l,∀j∈dU a.e.up,j<a.st.mem.length
 |_,[],_,a,ha,_,_=>by simp at ha
 |s,x::l,h,a,ha,j,hj=>by
  unfold vV at h;rw[both_iff,both_iff]at h;rcases List.mem_cons.1 ha with rfl | ha
  .exact ez h.1.1 j hj
  .exact tD h.2 a ha j hj
structure Tol (P:Program) (E:EN) (ops:Array Oper) (hs:List HR) (M:Nat->List AB) (i k:Nat) (a:HR):Prop where
 no:noE a.e=true
 low:∀j∈a.tc,j<a.st.mem.length
 btw:∀(k':Nat) (b:HR),i<k'->k'<k->hs[k']? = some b->di a b
 oth:∀(k':Nat) (b:HR),k<k'->hs[k']? = some b->di a b\/dH ops 12 k' i=true
 res:∃o qs,ops[i]? = some o/\ZD P E (iT a.st.tm (o.looksAt ops)) (M (k+1)) o a.e.y=some qs/\bC qs
theorem tU {i:Nat} {a:HR}:∀ {k:Nat} {l:List HR} (n:Nat) (b:HR),l[n]? = some b->di a b\/dH ops 12 (k+n) i=true\/k+n∈sv ops i a k l
 |_,[],n,b,h=>by simp at h
 |k,x::l,n,b,hb=>by
  unfold sv
  cases n with
  |zero =>
   simp only[List.getElem?_cons_zero,Option.some.injEq]at hb;subst hb
   cases hc:FE a x with
   |true =>
    cases hr:dH ops 12 k i with
    |true=>exact .inr (.inl rfl)
    |false=>exact .inr (.inr (List.mem_cons_self ..))
   |false=>exact .inl (si hc)
  |succ n =>
   have:=tU (i:=i) (a:=a) (k:=k+1) n b (by simpa using hb)
   rw[show k+1+n=k+(n+1) by omega]at this
   rcases this with h | h | h
   .exact .inl h
   .exact .inr (.inl h)
   .refine .inr (.inr ?_)
    cases FE a x with
    |true =>
     cases dH ops 12 k i with
     |true=>exact h
     |false=>exact List.mem_cons_of_mem _ h
    |false=>exact h
theorem mj {a:HR} {k:Nat}:∀ {n:Nat} {l:List HR},nW a k n l=true->∀(m:Nat) (b:HR),n+m<k->l[m]? = some b->di a b
 |_,[],_,m,b,_,h=>by simp at h
 |n,x::l,h,m,b,hk,hb=>by
  unfold nW at h;rw[blt_iff.2 (show n<k by omega)]at h
  dsimp only at h
  cases hc:FE a x with
  |true=>rw[hc]at h;cases h
  |false =>
   rw[hc]at h;dsimp only at h
   cases m with
   |zero =>simp only[List.getElem?_cons_zero,Option.some.injEq]at hb;subst hb;exact si hc
   |succ m=>exact mj h m b ac (by simpa using hb)
theorem ph {fin:ASt} {M:Nat->List AB} {hs:List HR} (hM:∀k,k<hs.length->(abV hs fin (k+1)).mem=M (k+1)):∀ {s:Nat} {l:List HR} {qs:List Prop},hs.drop s=l->mq P E ops hs fin s l=some qs->bC qs->(∀a∈l,∀j∈dU a.e.up,j<a.st.mem.length)/\∀(i k:Nat) (a b:HR),s<=i->i<k->hs[i]? = some a->hs[k]? = some b->di a b\/dH ops 12 k i=true\/Tol P E ops hs M i k a
 |s,[],qs,hd,_,_=>by
  refine⟨λa ha=>by simp at ha,λi k a b hi _ h1 _=>?_⟩
  have:=(List.getElem?_eq_some_iff.1 h1).1;have h2:=congrArg List.length hd;rw[List.length_drop]at h2;simp only[List.length_nil]at h2;omega
 |s,x::l,qs,hd,h,hp=>by
  have hat:∀n,hs[s+n]? = (x::l)[n]?:=λn=>by rw[<-hd,List.getElem?_drop]
  have hd':hs.drop (s+1)=l:=by
   have:hs.drop (s+1)=(hs.drop s).drop 1:=by rw[List.drop_drop]
   rw[this,hd];rfl
  unfold mq at h
  split at h
  .rename_i hu
   have key:(∀(k:Nat) (b:HR),s<k->hs[k]? = some b->di x b\/dH ops 12 k s=true\/Tol P E ops hs M s k x)->(∃ps,mq P E ops hs fin (s+1) l=some ps/\bC ps)->(∀a∈x::l,∀j∈dU a.e.up,j<a.st.mem.length)/\∀(i k:Nat) (a b:HR),s<=i->i<k->hs[i]? = some a->hs[k]? = some b->di a b\/dH ops 12 k i=true\/Tol P E ops hs M i k a:=λh1 ⟨ps,h2,h3⟩=>by
    obtain⟨i1,i2⟩:=ph hM hd' h2 h3;refine⟨λa ha=>?_,λi k a b hi hik ha hb=>?_⟩
    .rcases List.mem_cons.1 ha with rfl | ha
     .exact ez hu
     .exact i1 a ha
    .by_cases e:i=s
     .subst e;have:=hat 0;rw[Nat.add_zero,ha]at this;cases this;exact h1 k b hik hb
     .exact i2 i k a b ac hik ha hb
   have base:∀(k:Nat) (b:HR),s<k->hs[k]? = some b->di x b\/dH ops 12 k s=true\/k∈sv ops s x (s+1) l:=λk b hk hb=>by
    have hq:=hat (k-s);rw[show s+(k-s)=k by omega,hb,show k-s=(k-s-1)+1 by omega,List.getElem?_cons_succ]at hq
    have:=tU (ops:=ops) (i:=s) (a:=x) (k:=s+1) (k-s-1) b hq.symm
    rwa [show s+1+(k-s-1)=k by omega]at this
   split at h
   .rename_i hb;refine key (λk b hk hkb=>?_) ⟨_,h,hp⟩;have:=base k b hk hkb;rw[hb]at this;rcases this with h1 | h1 | h1
    .exact .inl h1
    .exact .inr (.inl h1)
    .cases h1
   .rename_i k0 hb
    split at h
    .rename_i q0 ht
     split at h
     .rename_i p0 hr;cases h;rw[allP_app]at hp;refine key (λk b hk hkb=>?_) ⟨_,hr,hp.2⟩;have hbs:=base k b hk hkb;rw[hb]at hbs;rcases hbs with h1 | h1 | h1
      .exact .inl h1
      .exact .inr (.inl h1)
      .simp only[List.mem_singleton]at h1;subst h1;refine .inr (.inr ?_);unfold aeG at ht
       split at ht
       .cases ht
       rename_i o ho
       split at ht
       .rename_i hc;rw[both_iff,both_iff]at hc;obtain⟨c1,c2,c3⟩:=hc;refine⟨c1,ez c2,λk' b' g1 g2 g3=>?_,λk' b' g1 g2=>?_,o,_,ho,by rw[<-hM k (List.getElem?_eq_some_iff.1 hkb).1];exact ht,hp.1⟩
        .have hq:=hat (k' - s);rw[show s+(k' - s)=k' by omega,g3,show k' - s=(k' - s-1)+1 by omega,List.getElem?_cons_succ]at hq
         exact mj c3 (k' - s-1) b' ac hq.symm
        .have:=base k' b' ac g2;rw[hb]at this;rcases this with g | g | g
         .exact .inl g
         .exact .inr g
         .simp only[List.mem_singleton]at g;omega
       .cases ht
     .cases h
    .cases h
   .cases h
  .cases h
end
end Go.Proofs.YtldmjbgplgoedaaGreatDoor
