import Derived.Test.YtldmjbgplgoedaaGreatDoorProg
import Derived.Deep.QuietTactic
import Derived.BigQuiet
import Derived.StillTailTactics
set_option linter.all false
namespace Go.Proofs.YtldmjbgplgoedaaGreatDoor
section
variable {P:Program} {ops:Array Oper}
def wU:Op->Bool
 |.move _ | .assign _ | .pick .. | .build .. | .load .. | .nilCheck _ | .binOp .. | .unOp .. | .convert .. | .makeInterface .. | .slice .. | .fieldAddr .. | .field .. | .indexAddr .. | .index .. | .lookup .. | .extract .. | .makeFunc ..=>true
 |.call c=>match c.callee with
  |.builtin b=>match b with
   |.len | .cap | .min | .max=>true
   |_=>false
  |_=>false
 |_=>false
def dy (P:Program) (o:Oper) (a:Act) (w:World) (X:Value->World->Prop):Prop :=
 match (execOp a.eval o).run P w with
 |.ok (.value v) w'=>X v w'
 |.ok .skip w'=>X undef w'
 |.ok (.enter f args) w'=>Calls P f args w' λe w''=>∃v,e=.returned v/\X v w''
 |_=>False
theorem c9 {o:Oper} {a:Act} {w:World} {X:Value->World->Prop} {K:Act->World->Prop} {Q:Exit->Act->World->Prop} (h:dy P o a w X) (hK:∀v w',X v w'->K (a.put o.dst v) w'):o.wp P a w K Q:=by
 unfold dy at h;unfold Oper.wp;generalize (execOp a.eval o).run P w=r at *
 cases r with
 |ok n w' =>
  cases n<;>simp only[Oper.upon]at h ⊢
  case value v=>exact hK _ _ h
  case skip=>exact hK _ _ h
  case enter f args =>refine h.mono ?_;rintro e w'' ⟨v,rfl,hX⟩;exact hK _ _ hX
 |halt x w'=>exact h.elim
def I6 (ops:Array Oper) (o:Oper) (a:Act):List Value:=(o.looksAt ops).map λt=>a.tmps.getD t undef
def oU (o:Oper) (a:Act):Value:=match o.dst with
 |some d=>a.tmps.getD d undef
 |none=>undef
structure Calm where
 R:Nat->World->World->Prop
 G:Nat->World->Prop
 eff:List Nat
 T:Nat->List Value->Value->World->Prop
 anc:Nat->List Nat
 own:Nat->Value->Nat->Prop
variable (c:Calm)
def Calm.on (ops:Array Oper) (k:Nat) (o:Oper) (a:Act):Prop:=c.eff.contains k=true/\Region.wanted o (yielded ops a.tmps)=true
def Calm.Fact (ops:Array Oper) (k:Nat) (a:Act) (w:World):Prop:=∀o,ops[k]? = some o->c.on ops k o a->c.T k (I6 ops o a) (oU o a) w/\∀b,c.own k (oU o a) b->b<w.heap.size
def Calm.Apart (ops:Array Oper) (k k':Nat) (a:Act):Prop:=∀o o',ops[k]? = some o->ops[k']? = some o'->c.on ops k o a->c.on ops k' o' a->∀b,c.own k (oU o a) b->¬ c.own k' (oU o' a) b
def Calm.DF (ops:Array Oper) (listed:Array Bool) (a:Act) (w:World):Prop :=(∀k,listed.getD k false=true->c.Fact ops k a w)/\∀k k',listed.getD k false=true->listed.getD k' false=true->k≠k'->c.Apart ops k k' a
def Calm.New (ops:Array Oper) (listed:Array Bool) (i:Nat) (o:Oper) (a:Act) (v:Value) (w:World):Prop :=(o.dst=none->v=undef)/\c.T i (I6 ops o a) v w/\(∀b,c.own i v b->b<w.heap.size)/\∀k ok,listed.getD k false=true->ops[k]? = some ok->c.on ops k ok a->∀b,c.own i v b->¬ c.own k (oU ok a) b
def Calm.Cls:World->Prop:=λw=>∃n,n<=c.eff.length/\c.G n w
def Calm.Sub:Type:={w // c.Cls w}
def Calm.at_ (x:c.Sub):World:=x.1
def Calm.Quiet (P:Program) (o:Oper) (a:Act) (v:Value):Prop:=∀w,c.Cls w->o.quietAt P a (λw=>∃x:c.Sub,w=c.at_ x) w v
def Calm.V (P:Program) (ops:Array Oper) (listed:Array Bool) (i:Nat) (o:Oper) (a:Act) (v:Value):Prop :=
 if Region.wanted o (yielded ops a.tmps)=true then
  if c.eff.contains i=true then ∃w,c.DF ops listed a w/\c.New ops listed i o a v w
  else c.Quiet P o a v
 else v=undef
def Calm.B (ops:Array Oper) (hd:List Nat) (N:Nat):Bool :=
 decide c.eff.Nodup&&c.eff.all (hd.contains ·)&&decide hd.Nodup &&
 hd.all λk=>match ops[k]? with
  |some ok =>
   (if c.eff.contains k then
    (match ok.dst with | some d=>decide (d<N)&&!(ok.looksAt ops).contains d | none=>true) &&
    hd.all λi=>i==k||Region.waitsFor .any ops k i||match ops[i]? with
     |some oi=>(match oi.dst with | some d=>!(ok.looksAt ops).contains d&&ok.dst !=some d | none=>true)
     |none=>true
    else wU ok.op) &&
   ((c.anc k).all λm=>Region.waitsFor .any ops k m||hd.any λj=>Region.waitsFor .any ops k j&&(c.anc j).contains m) &&
   (decide (c.anc k).Nodup&&(c.anc k).all (c.eff.contains ·))
  |none=>false
variable {c} {hd:List Nat} {N i:Nat} {listed:Array Bool}
theorem Calm.B_at (hB:c.B ops hd N=true) {k:Nat} (hk:k∈hd):∃ok,ops[k]? = some ok /\
 (c.eff.contains k=true->(∀d,ok.dst=some d->d<N/\d∉ok.looksAt ops) /\
  ∀i oi,i∈hd->i≠k->Region.waitsFor .any ops k i=false->ops[i]? = some oi->∀di,oi.dst=some di->di∉ok.looksAt ops/\ok.dst≠some di) /\
 (c.eff.contains k=false->wU ok.op=true) /\
 ∀m∈c.anc k,Region.waitsFor .any ops k m=true\/∃j,j∈hd/\Region.waitsFor .any ops k j=true/\m∈c.anc j:=by
 simp only[Calm.B,Bool.and_eq_true]at hB;have h:=List.all_eq_true.1 hB.2 k hk
 cases ho:ops[k]? with
 |none=>simp[ho]at h
 |some ok =>
  simp only[ho,Bool.and_eq_true]at h;obtain⟨⟨h1,h2⟩,-⟩:=h;refine⟨ok,rfl,λhe=>?_,λhe=>?_,λm hm=>?_⟩
  .simp only[he,if_true,Bool.and_eq_true]at h1;obtain⟨hd',hall⟩:=h1;refine⟨λd hdst=>?_,λi oi hin hik hw hoi di hdi=>?_⟩
   .simp only[hdst,Bool.and_eq_true,decide_eq_true_eq]at hd';exact⟨hd'.1,by simpa using hd'.2⟩
   .have:=List.all_eq_true.1 hall i hin;simp only[Bool.or_eq_true,beq_iff_eq,hik,hw,false_or,Bool.false_eq_true,hoi,hdi,Bool.and_eq_true]at this;exact⟨by simpa using this.1,by simpa using this.2⟩
  .simpa only[he,Bool.false_eq_true,if_false]using h1
  .have:=List.all_eq_true.1 h2 m hm;simp only[Bool.or_eq_true]at this;rcases this with h | h
   .exact .inl h
   .obtain⟨j,hj,h⟩:=List.any_eq_true.1 h;simp only[Bool.and_eq_true]at h;exact .inr ⟨j,hj,h.1,by simpa using h.2⟩
theorem Cz (a:Act) (d:Option Tmp) (v:Value):(a.put d v).tmps.size=a.tmps.size:=by cases d<;>simp[Act.put]
theorem gX (a:Act) {d:Option Tmp} (v:Value) {t:Tmp} (h:∀x,d=some x->x≠t):(a.put d v).tmps.getD t undef=a.tmps.getD t undef:=by
 cases d with
 |none=>rfl
 |some x=>simp[Act.put,Array.getElem?_setIfInBounds_ne (h x rfl)]
theorem jO (hun:listed.getD i true=false):(listed.setIfInBounds i true).getD i false=true:=by
 have:i<listed.size:=by
  rcases Nat.lt_or_ge i listed.size with h' | h'
  .exact h'
  .simp[Array.getElem?_eq_none h']at hun
 simp[this]
structure Calm.Inv (c:Calm) (ops:Array Oper) (hd:List Nat) (listed:Array Bool):Prop where
 size:listed.size=ops.size
 closed:∀j oj,ops[j]? = some oj->listed.getD j false=true->∀e∈oj.after,Region.binds .any e=true->listed.getD e.on false=true
 head:∀k,listed.getD k false=true->k∈hd
 anc:∀m,listed.getD m false=true->∀k∈c.anc m,listed.getD k false=true
theorem Calm.anc_ready (hB:c.B ops hd N=true) (inv:c.Inv ops hd listed) (hin:i∈hd) {oi:Oper} (hoi:ops[i]? = some oi) (hall:∀e∈oi.after,Region.binds .any e=true->listed.getD e.on false=true):∀k∈c.anc i,listed.getD k false=true:=by
 intro k hk;obtain⟨o',ho',_,_,h3⟩:=Calm.B_at hB hin
 have hdone:∀m,Region.waitsFor .any ops i m=true->listed.getD m false=true:=λm hm=>by obtain⟨o2,ho2,e,he,hb,hon⟩:=Region.waitsFor_spec hm;have:o2=oi:=Option.some.inj (ho2.symm.trans hoi);subst this;rw[<-hon];exact hall e he hb
 rcases h3 k hk with h | ⟨j,hj,hw,hm⟩
 .exact hdone k h
 .exact inv.anc j (hdone j hw) k hm
theorem Calm.Inv.set (hB:c.B ops hd N=true) (inv:c.Inv ops hd listed) (hin:i∈hd) {oi:Oper} (hoi:ops[i]? = some oi) (hall:∀e∈oi.after,Region.binds .any e=true->listed.getD e.on false=true):c.Inv ops hd (listed.setIfInBounds i true):=by
 refine⟨by simp[inv.size],λj oj hj hl e he hb=>?_,λk hk=>?_,λm hm k hk=>?_⟩
 .by_cases hij:i=j
  .subst hij;have:oj=oi:=Option.some.inj (hj.symm.trans hoi);subst this;exact getD_set_true (hall e he hb)
  .rw[getD_set_ne false hij]at hl;exact getD_set_true (inv.closed j oj hj hl e he hb)
 .by_cases hik:i=k
  .subst hik;exact hin
  .rw[getD_set_ne false hik]at hk;exact inv.head k hk
 .by_cases him:i=m
  .subst him;exact getD_set_true (Calm.anc_ready hB inv hin hoi hall k hk)
  .rw[getD_set_ne false him]at hm;exact getD_set_true (inv.anc m hm k hk)
section put
variable {j:Nat} {oi oj:Oper} {a:Act} {v:Value}
end put
section moves
variable {L:Array Bool->Act->Prop} {j:Nat} {oj:Oper}
structure Rest (listed:Array Bool) (seen l:List Nat):Prop where
 done:∀k∈seen,listed.getD k false=true
 not:∀k∈l,listed.getD k true=false
 nodup:l.Nodup
theorem Rest.step {seen l:List Nat} (h:Rest listed seen (i::l)):Rest (listed.setIfInBounds i true) (i::seen) l:=by
 have hn:=List.nodup_cons.1 h.nodup;refine⟨λk hk=>?_,λk hk=>?_,hn.2⟩
 .rcases List.mem_cons.1 hk with rfl | hk
  .exact jO (h.not _ (List.mem_cons_self ..))
  .exact getD_set_true (h.done k hk)
 .rw[getD_set_ne true (λe:i=k=>hn.1 (by rw[e];exact hk))]
  exact h.not k (List.mem_cons_of_mem _ hk)
theorem Rest.take {seen l:List Nat} (h:Rest listed seen l) (hj:j∈l):Rest (listed.setIfInBounds j true) (j::seen) (l.erase j):=by
 refine⟨λk hk=>?_,λk hk=>?_,h.nodup.erase j⟩
 .rcases List.mem_cons.1 hk with rfl | hk
  .exact jO (h.not _ hj)
  .exact getD_set_true (h.done k hk)
 .have hkl:=List.mem_of_mem_erase hk
  have hne:j≠k:=λe=>by subst e;exact(List.Nodup.mem_erase_iff h.nodup).1 hk |>.1 rfl
  rw[getD_set_ne true hne];exact h.not k hkl
end moves
section steps
variable {L:Array Bool->Act->Prop} {o:Oper} {rest:List (Nat × Oper)} {k:Nat} {a:Act}
end steps
end
end Go.Proofs.YtldmjbgplgoedaaGreatDoor
