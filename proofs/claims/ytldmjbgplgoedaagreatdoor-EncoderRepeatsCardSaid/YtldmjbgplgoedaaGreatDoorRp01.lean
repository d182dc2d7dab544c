import Derived.Test.YtldmjbgplgoedaaGreatDoorProg
import Derived.WalkKit
import Derived.WalkSpells
import Derived.WalkLawsBesides
import Derived.Lib.Hide
import Derived.Deep.QuietTactic
import Derived.BigQuiet
import Derived.Deep.AppendLies
import Derived.Maps.AppendAt
import Derived.Deep.Draws
import Derived.Deep.RegionHeld3
import Derived.Deep.DrawnRows
import Derived.Deep.LoopGhost
import Derived.Deep.DeepCutAuto
import Derived.Deep.DeepFit
import Derived.StillTailTactics
import Derived.Deep.MidRow
import Derived.Deep.OwnRows
import Derived.Maps.RangeWalk
import Derived.Laws.IdiomCopy
import Derived.Great.BuildSlice
set_option linter.all false
namespace Go.Proofs.YtldmjbgplgoedaaGreatDoor
theorem ac {p:Prop} (h:p:=by omega):p:=h
theorem afH {p:Prop} (h:p:=by decide):p:=h
theorem ao {p:Prop} (h:p:=by first|omega | trivial | rfl):p:=h
theorem ah:True:=trivial
theorem af {α:Sort _} {a b:α} (h:a=b:=by kernel_rfl):a=b:=h
open Go.RowKit
structure Keep (S:Nat->Prop) (w w':World):Prop where
 os:w'.os=w.os
 tape:w'.tape=w.tape
 output:w'.output=w.output
 size:w.heap.size<=w'.heap.size
 block:∀k,k<w.heap.size->¬ S k->w'.heap[k]? = w.heap[k]?
def PP:Nat->Prop:=λ_=>False
def one (g:Nat):Nat->Prop:=λk=>k=g
section
variable {S S':Nat->Prop} {a w w':World}
theorem Keep.refl (S:Nat->Prop) (w:World):Keep S w w:=⟨rfl,rfl,rfl,Nat.le_refl _,λ_ _ _=>rfl⟩
theorem Keep.trans (h:Keep S a w) (k:Keep S w w'):Keep S a w' :=⟨k.os.trans h.os,k.tape.trans h.tape,k.output.trans h.output,Nat.le_trans h.size k.size,λi hi hs=>(k.block i (Nat.lt_of_lt_of_le hi h.size) hs).trans (h.block i hi hs)⟩
theorem Keep.weakLocal (h:Keep S w w') (hS:∀k,S k->S' k\/w.heap.size<=k):Keep S' w w' :=⟨h.os,h.tape,h.output,h.size,λk hk hn=>h.block k hk (λe=>by rcases hS k e with e | e;exact hn e;omega)⟩
theorem Keep.then (h:Keep S a w) (k:Keep S' w w') (hS:∀k,S' k->S k\/a.heap.size<=k):Keep S a w' :=⟨k.os.trans h.os,k.tape.trans h.tape,k.output.trans h.output,Nat.le_trans h.size k.size,λi hi hs=>(k.block i (Nat.lt_of_lt_of_le hi h.size) (λe=>by rcases hS i e with e | e;exact hs e;omega)).trans (h.block i hi hs)⟩
theorem Keep.drew (h:Keep S a w):Keep S a w.drew:=⟨h.os,h.tape,h.output,h.size,h.block⟩
theorem Keep.alloc (h:Keep S a w) (o:Obj):Keep S a (w.alloc o) :=h.trans ⟨rfl,rfl,rfl,by simp,λk hk _=>Below.heap_alloc _ _ _ hk⟩
end
structure Row (w:World) (S:Nat->Prop) (size:Nat) (A:Option Addr) (n c:Nat) (xs:List Value):Prop where
 len:xs.length=n*size
 le:n<=c
 cap:c<=maxLen
 at_:0<n->∃b o,A=some ⟨b,o,none⟩/\¬ S b/\∀j u,xs[j]? = some u->w.cell? ⟨b,o+j,none⟩=some u
def Blk (w:World) (g:Nat) (t:TypeId) (cs:Array Value):Prop:=w.heap[g]? = some (.cells cs t (0,0))
section
variable {w w':World} {g:Nat} {t:TypeId} {cs:Array Value} {S:Nat->Prop}
theorem Blk.lt (h:Blk w g t cs):g<w.heap.size:=by
 rcases Nat.lt_or_ge g w.heap.size with hlt | hge
 .exact hlt
 .unfold Blk at h;rw[Array.getElem?_eq_none hge]at h;cases h
theorem Blk.cell (h:Blk w g t cs) (i:Nat):w.cell? ⟨g,i,none⟩=cs[i]?:=cell_of_row w g i cs t (0,0) h
theorem Blk.frozen (h:Blk w g t cs) (i:Nat):w.frozen? ⟨g,i,none⟩=false:=by
 unfold Blk at h
 simp[World.frozen?,h]
theorem Blk.new (w:World) (t:TypeId) (cs:Array Value):Blk (w.alloc (.cells cs t)) w.heap.size t cs:=heap_alloc_new w _
theorem Blk.alloc (h:Blk w g t cs) (o:Obj):Blk (w.alloc o) g t cs:=(Below.heap_alloc w o g h.lt).trans h
theorem Blk.set_ (h:Blk w g t cs) (i:Nat) (u:Value):Blk (w.setCell ⟨g,i,none⟩ u) g t (cs.setIfInBounds i u):=by
 unfold Blk at h ⊢
 simp[World.setCell,Array.getElem?_modify,h]
theorem Blk.keep (h:Blk w g t cs) (k:Keep S w w') (hg:¬ S g):Blk w' g t cs:=(k.block g h.lt hg).trans h
end
theorem jq (b:Nat):∀(vs:List Value) (o:Nat) (w:World) (k:Nat),k≠b->(w.setCells b o vs).heap[k]? = w.heap[k]?
 |[],_,_,_,_=>rfl
 |v::r,o,w,k,h=>by rw[World.setCells,jq b r (o+1) _ k h,Below.heap_setCell _ _ _ _ h]
theorem iB (b:Nat):∀(vs:List Value) (o:Nat) (w:World),(w.setCells b o vs).heap.size=w.heap.size
 |[],_,_=>rfl
 |v::r,o,w=>by rw[World.setCells,iB b r];simp[World.setCell]
theorem cT (b:Nat):∀(vs:List Value) (o:Nat) (w:World),(w.setCells b o vs).os=w.os/\(w.setCells b o vs).tape=w.tape/\(w.setCells b o vs).output=w.output
 |[],_,_=>⟨rfl,rfl,rfl⟩
 |v::r,o,w=>by rw[World.setCells];exact cT b r (o+1) _
theorem Keep.setCells (w:World) (b o:Nat) (vs:List Value):Keep (one b) w (w.setCells b o vs) :=⟨(cT b vs o w).1,(cT b vs o w).2.1,(cT b vs o w).2.2,by rw[iB];exact Nat.le_refl _,λk _ hn=>jq b vs o w k hn⟩
def laid (cs:Array Value):Nat->List Value->Array Value
 |_,[]=>cs
 |o,v::r=>laid (cs.setIfInBounds o v) (o+1) r
theorem Blk.setCells {t:TypeId} (g:Nat):∀(vs:List Value) (o:Nat) (w:World) (cs:Array Value),Blk w g t cs->Blk (w.setCells g o vs) g t (laid cs o vs)
 |[],_,_,_,h=>h
 |v::r,o,w,cs,h=>by rw[World.setCells,laid];exact Blk.setCells g r (o+1) _ _ (h.set_ o v)
theorem bj:∀(vs:List Value) (o:Nat) (cs:Array Value),(laid cs o vs).size=cs.size
 |[],_,_=>rfl
 |v::r,o,cs=>by rw[laid,bj r];simp
theorem bM:∀(vs:List Value) (o:Nat) (cs:Array Value) (j:Nat),o+vs.length<=cs.size->(laid cs o vs)[j]? = if j<o then cs[j]? else if j<o+vs.length then vs[j-o]? else cs[j]?
 |[],o,cs,j,_=>by
  rw[laid]
  split
  .rfl
  .split
   .simp at *;omega
   .rfl
 |v::r,o,cs,j,h=>by
  simp only[List.length_cons]at h;rw[laid,bM r (o+1) _ j (by simp;omega)]
  by_cases h1:j<o
  .rw[if_pos (by omega),if_pos h1,Array.getElem?_setIfInBounds_ne (by omega)]
  .by_cases h2:j=o
   .subst h2;rw[if_pos (by omega),if_neg h1,if_pos (by simp)]
    rw[Array.getElem?_setIfInBounds_self_of_lt (by omega)]
    simp
   .rw[if_neg (by omega),if_neg h1]
    by_cases h3:j<o+1+r.length
    .rw[if_pos h3,if_pos (by simp;omega)]
     rw[show j-o=(j-(o+1))+1 by omega,List.getElem?_cons_succ]
    .rw[if_neg h3,if_neg (by simp;omega),Array.getElem?_setIfInBounds_ne (by omega)]
theorem Blk.there {w:World} {g:Nat} {t:TypeId} {cs:Array Value} (h:Blk w g t cs) (o n:Nat) (hn:o+n<=cs.size):w.there g o n:=λj hj=>by rw[h.cell,h.frozen];exact⟨by simp;omega,rfl⟩
section
variable {P:Program} {fn:Func} {tmps:Array Value} {w:World}
theorem kT {b o:Nat} {ty:TypeId} {v:Value} {d:TypeDesc} (hc:w.cell? ⟨b,o,none⟩=some v) (hu:P.underlying ty=some d) (hd:d.isRow=false):(loadVar ty ⟨b,o,none⟩).run P w=.ok v w:=by
 have hagg:(isAgg ty).run P w=.ok false w:=by unfold isAgg;rw[Sem.run_bind,run_underlying hu w];cases d<;>simp_all
 simp[loadVar,hagg,go_sem,hc]
end
end Go.Proofs.YtldmjbgplgoedaaGreatDoor
namespace Go.Proofs.YtldmjbgplgoedaaGreatDoor
section
variable {P:Program} {ops:Array Oper}
def dy (P:Program) (o:Oper) (a:Act) (w:World) (X:Value->World->Prop):Prop :=
 match (execOp a.eval o).run P w with
 |.ok (.value v) w'=>X v w'
 |.ok .skip w'=>X undef w'
 |.ok (.enter f args) w'=>Calls P f args w' λe w''=>∃v,e=.returned v/\X v w''
 |_=>False
theorem c9 {o:Oper} {a:Act} {w:World} {X:Value->World->Prop} {K:Act->World->Prop} {Q:Exit->Act->World->Prop} (h:dy P o a w X) (hK:∀v w',X v w'->K (a.put o.dst v) w'):o.wp P a w K Q:=by
 unfold dy at h;unfold Oper.wp;generalize (execOp a.eval o).run P w=r at *
 cases r with
 |ok n w' =>
  cases n<;>simp only[Oper.upon]at h ⊢
  case value v=>exact hK _ _ h
  case skip=>exact hK _ _ h
  case enter f args =>refine h.mono ?_;rintro e w'' ⟨v,rfl,hX⟩;exact hK _ _ hX
 |halt x w'=>exact h.elim
variable {hd:List Nat} {N i:Nat} {listed:Array Bool}
theorem Cz (a:Act) (d:Option Tmp) (v:Value):(a.put d v).tmps.size=a.tmps.size:=by cases d<;>simp[Act.put]
theorem gX (a:Act) {d:Option Tmp} (v:Value) {t:Tmp} (h:∀x,d=some x->x≠t):(a.put d v).tmps.getD t undef=a.tmps.getD t undef:=by
 cases d with
 |none=>rfl
 |some x=>simp[Act.put,Array.getElem?_setIfInBounds_ne (h x rfl)]
theorem jO (hun:listed.getD i true=false):(listed.setIfInBounds i true).getD i false=true:=by
 have:i<listed.size:=by
  rcases Nat.lt_or_ge i listed.size with h' | h'
  .exact h'
  .simp[Array.getElem?_eq_none h']at hun
 simp[this]
section put
variable {j:Nat} {oi oj:Oper} {a:Act} {v:Value}
end put
section moves
variable {L:Array Bool->Act->Prop} {j:Nat} {oj:Oper}
end moves
section steps
variable {L:Array Bool->Act->Prop} {o:Oper} {rest:List (Nat × Oper)} {k:Nat} {a:Act}
end steps
end
end Go.Proofs.YtldmjbgplgoedaaGreatDoor
namespace Go.Proofs.YtldmjbgplgoedaaGreatDoor
open Go.RowKit
theorem Keep.own {S:Nat->Prop} {a w w':World} {b:Nat} (h:Keep S a w) (k:Keep (one b) w w') (hb:a.heap.size<=b):Keep S a w':=h.then k λx e=>by cases e;exact .inr hb
theorem two {w w1:World} {t0 t1:TypeId} {c0 c1:Array Value} (k:Keep PP ((w.alloc (.cells c0 t0)).alloc (.cells c1 t1)) w1) :
 Blk w1 w.heap.size t0 c0/\Blk w1 (w.heap.size+1) t1 c1/\Keep PP w w1:=by
 refine⟨?_,?_,((Keep.refl _ _).alloc _).alloc _ |>.trans k⟩
 .exact((Blk.new w t0 c0).alloc _).keep k (λe=>e)
 .have:=(Blk.new (w.alloc (.cells c0 t0)) t1 c1).keep k (λe=>e)
  simpa using this
end Go.Proofs.YtldmjbgplgoedaaGreatDoor
namespace Go.Proofs.YtldmjbgplgoedaaGreatDoor
open Go.RowKit
inductive Lf where
 |i (z:Int)
 |b (x:Bool)
 |f (g:Nat->Int)
 |s (o n:Nat)
 |l (n:Nat) (g:Nat->List Lf)
def Lf.Z:Lf->Int
 |.i z=>z
 |_=>0
def Lf.X:Lf->Bool
 |.b x=>x
 |_=>false
def Lf.F:Lf->Nat->Int
 |.f g=>g
 |_=>λ_=>0
def Lf.O:Lf->Nat
 |.s o _=>o
 |_=>0
def Lf.N:Lf->Nat
 |.s _ n=>n
 |.l n _=>n
 |_=>0
def Lf.G:Lf->Nat->List Lf
 |.l _ g=>g
 |_=>λ_=>[]
def hd:List Lf->Lf
 |[]=>.i 0
 |x::_=>x
def tl:List Lf->List Lf
 |[]=>[]
 |_::l=>l
def at_:List Lf->Nat->Lf
 |l,0=>hd l
 |l,n+1=>at_ (tl l) n
instance:CoeFun (List Lf) λ_=>Nat->Lf:=⟨at_⟩
abbrev ae:=List Lf
inductive AV where
 |nI (k:IntKind) (lo hi z:Int)
 |nB (f t x:Bool)
 |nP (j o:Nat)
 |nS (j o n c:Nat)
 |nD (j κ nlo nhi o n:Nat)
 |nX (j κ d i:Nat)
 |nR (κ nlo nhi n:Nat) (g:Nat->List Lf)
 |nQ (κ d:Nat) (ls:List Lf)
 |nY (j o len elo ehi e:Nat)
 |nG (g o:Nat)
 |nK (x:Value)
 |nF (f:FuncId) (js:List Nat)
 |nU
 |nE
inductive Run where
 |c (x:AV)
 |a (n:Nat) (k:IntKind) (lo hi:Int) (f:Nat->Int)
abbrev Rs:=List Run
def bi:Run->Nat
 |.c _=>1
 |.a n _ _ _ _=>n
def aV:Rs->Nat
 |[]=>0
 |x::l=>bi x+aV l
def az:Run->List AV
 |.c x=>[x]
 |.a n k lo hi f=>(List.range n).map λi=>.nI k lo hi (f i)
def aq:Rs->List AV
 |[]=>[]
 |x::l=>az x++aq l
theorem aB (x:Run):(az x).length=bi x:=by cases x<;>simp[az,bi]
theorem aF:∀l:Rs,(aq l).length=aV l
 |[]=>rfl
 |x::l=>by rw[aq,aV,List.length_append,aB,aF l]
def j5 (x:AV) (l:Lf):AV:=match x with
 |.nI k lo hi _=>.nI k lo hi l.Z
 |.nB f t _=>.nB f t l.X
 |.nD j κ a b _ _=>.nD j κ a b l.O l.N
 |.nX j κ d _=>.nX j κ d l.N
 |.nR κ a b _ _=>.nR κ a b l.N l.G
 |.nQ κ d _=>.nQ κ d (l.G 0)
 |.nY j o n a b _=>.nY j o n a b l.N
 |x=>x
def eU:AV->Bool
 |.nI ..=>true
 |.nB ..=>true
 |.nD ..=>true
 |.nX ..=>true
 |.nR ..=>true
 |.nQ ..=>true
 |.nY ..=>true
 |_=>false
def ax:Rs->List Lf->Rs
 |[],_=>[]
 |x::r,ls=>match x with
  |.c y=>match eU y with
   |true=>.c (j5 y (hd ls))::ax r (tl ls)
   |false=>.c y::ax r ls
  |.a n k lo hi _=>.a n k lo hi (hd ls).F::ax r (tl ls)
theorem blt_iff {a b:Nat}:Nat.blt a b=true↔a<b:=⟨λh=>Nat.le_of_ble_eq_true h,λh=>Nat.ble_eq_true_of_le h⟩
theorem ble_iff {a b:Nat}:Nat.ble a b=true↔a<=b:=⟨Nat.le_of_ble_eq_true,Nat.ble_eq_true_of_le⟩
theorem beq_iff' {a b:Nat}:Nat.beq a b=true↔a=b:=Nat.beq_eq ▸ Iff.rfl
theorem blt_no {a b:Nat}:Nat.blt a b=false↔b<=a:=by rw[<-Bool.not_eq_true,blt_iff];omega
theorem ble_no {a b:Nat}:Nat.ble a b=false↔b<a:=by rw[<-Bool.not_eq_true,ble_iff];omega
def ile:Int->Int->Bool
 |.ofNat m,.ofNat n=>Nat.ble m n
 |.ofNat _,.negSucc _=>false
 |.negSucc _,.ofNat _=>true
 |.negSucc m,.negSucc n=>Nat.ble n m
theorem ile_iff {a b:Int}:ile a b=true↔a<=b:=by cases a<;>cases b<;>simp only[ile,ble_iff,Bool.false_eq_true,true_iff,false_iff,Int.ofNat_eq_natCast]<;>omega
theorem ile_no {a b:Int}:ile a b=false↔b<a:=by rw[<-Bool.not_eq_true,ile_iff];omega
def lj (a b:Int):Int:=match ile a b with
 |true=>a
 |false=>b
def fc (a b:Int):Int:=match ile a b with
 |true=>b
 |false=>a
theorem cD (a b:Int):lj a b=min a b:=by
 unfold lj;cases h:ile a b
 .have:=ile_no.1 h;simp only;omega
 .have:=ile_iff.1 h;simp only;omega
theorem co (a b:Int):fc a b=max a b:=by
 unfold fc;cases h:ile a b
 .have:=ile_no.1 h;simp only;omega
 .have:=ile_iff.1 h;simp only;omega
def Qq (a b:Nat):Nat:=match Nat.ble a b with
 |true=>a
 |false=>b
theorem xz (a b:Nat):Qq a b=min a b:=by
 unfold Qq;cases h:Nat.ble a b
 .have:=ble_no.1 h;simp only;omega
 .have:=ble_iff.1 h;simp only;omega
def ieq (a b:Int):Bool:=match a,b with
 |.ofNat m,.ofNat n=>Nat.beq m n
 |.negSucc m,.negSucc n=>Nat.beq m n
 |_,_=>false
theorem ieq_iff {a b:Int}:ieq a b=true↔a=b:=by cases a<;>cases b<;>simp only[ieq,Nat.beq_eq,Bool.false_eq_true,false_iff,Int.ofNat_eq_natCast]<;>omega
def aJ (a b:Bool):Bool:=match a with
 |true=>b
 |false=>false
theorem both_iff {a b:Bool}:aJ a b=true↔a=true/\b=true:=by cases a<;>simp[aJ]
def low:IntKind->Int
 |.i8=>-128 | .i16=>-32768 | .i32=>-2147483648 | .i64=>-9223372036854775808 | _=>0
def top:IntKind->Int
 |.i8=>127 | .i16=>32767 | .i32=>2147483647 | .i64=>9223372036854775807 | .u8=>255 | .u16=>65535 | .u32=>4294967295 | .u64=>18446744073709551615
def inR (k:IntKind) (z:Int):Prop:=low k<=z/\z<=top k
theorem bH {k:IntKind} {x:Int} (h:inR k x):k.wrap x=x:=by cases k<;>simp only[inR,low,top]at h<;>simp only[IntKind.wrap,IntKind.bits,IntKind.signed,Bool.true_and,Bool.false_and,Bool.false_eq_true,if_false,decide_eq_true_eq,Nat.reduceSub,Int.reducePow,ge_iff_le]<;>(try split)<;>omega
theorem t7 (k:IntKind) (x:Int):inR k (k.wrap x):=by cases k<;>simp only[inR,low,top]<;>simp only[IntKind.wrap,IntKind.bits,IntKind.signed,Bool.true_and,Bool.false_and,Bool.false_eq_true,if_false,decide_eq_true_eq,Nat.reduceSub,Int.reducePow,ge_iff_le]<;>(try split)<;>omega
def ik (k k':IntKind):Bool:=match k,k' with
 |.i8,.i8 | .i16,.i16 | .i32,.i32 | .i64,.i64 | .u8,.u8 | .u16,.u16 | .u32,.u32 | .u64,.u64=>true
 |_,_=>false
theorem dD {k k':IntKind} (h:ik k k'=true):k=k':=by cases k<;>cases k'<;>first|rfl | cases h
structure KD where
 m:Nat
 rs:Rs
abbrev KT:=List KD
def aK:KT->Nat->KD
 |[],_=>⟨0,[]⟩
 |d::l,n=>match n with
  |0=>d
  |n+1=>aK l n
structure Cx where
 ρ:Nat->Option Nat
 F:Nat->Option (TypeId × Array Value)
 sz:Nat->Nat
 D:List Deferred
structure Cx.le (c d:Cx):Prop where
 ρ:∀j id,c.ρ j=some id->d.ρ j=some id
 F:∀b x,c.F b=some x->d.F b=some x
 sz:∀j id,c.ρ j=some id->d.sz id=c.sz id
 D:d.D=c.D
theorem Cx.le_refl (c:Cx):c.le c:=⟨λ_ _ h=>h,λ_ _ h=>h,λ_ _ _=>rfl,rfl⟩
theorem Cx.le_trans {a b c:Cx} (h:a.le b) (g:b.le c):a.le c:=⟨λj id e=>g.ρ j id (h.ρ j id e),λj id e=>g.F j id (h.F j id e),λj id e=>(g.sz j id (h.ρ j id e)).trans (h.sz j id e),g.D.trans h.D⟩
abbrev elt (cs:Array Value) (m e:Nat):List Value:=(cs.toList.drop (e*m)).take m
abbrev elo (cs:Array Value) (m o:Nat):List Value:=(cs.toList.drop o).take m
def rsF (p:AV->Value->Prop) (rs:Rs) (vs:List Value):Prop:=vs.length=aV rs/\∀(i:Nat) (x:AV) (v:Value),(aq rs)[i]? = some x->vs[i]? = some v->p x v
def isRow (K:KT) (c:Cx) (q:Rs->List Value->Prop) (κ n m:Nat) (g:Nat->List Lf) (A:Option Addr):Prop:=(A=none->m=0)/\∀a,A=some a->0<m->∃o ty cs,a=⟨a.block,o,none⟩/\c.F a.block=some (ty,cs)/\o+m*(aK K κ).m<=cs.size/\∀i,i<n->q (ax (aK K κ).rs (g i)) (elo cs (aK K κ).m (o+i*(aK K κ).m))
def isB (K:KT) (c:Cx) (q:Rs->List Value->Prop):AV->Value->Prop
 |.nI k lo hi z,v=>v=.int k z/\lo<=z/\z<=hi/\inR k z
 |.nB f t x,v=>v=.bool x/\(x=false->f=true)/\(x=true->t=true)
 |.nP j o,v=>∃id,c.ρ j=some id/\v=.pointer (some ⟨id,o,none⟩)
 |.nS j o n m,v=>∃id,c.ρ j=some id/\v=.slice (some ⟨id,o,none⟩) n m/\n<=m/\m<=maxLen
 |.nD j κ a b o n,v=>∃id m,c.ρ j=some id/\v=.slice (some ⟨id,o*(aK K κ).m,none⟩) n m/\a<=n/\n<=b/\n<=m/\m<=maxLen/\(o+m)*(aK K κ).m<=c.sz id
 |.nX j κ d i,v=>∃id,c.ρ j=some id/\v=.pointer (some ⟨id,i*(aK K κ).m+d,none⟩)
 |.nR κ a b n g,v=>∃A m,v=.slice A n m/\a<=n/\n<=b/\n<=m/\m<=maxLen/\isRow K c q κ n m g A
 |.nQ κ d ls,v=>∃id o ty cs,v=.pointer (some ⟨id,o+d,none⟩)/\c.F id=some (ty,cs)/\o+(aK K κ).m<=cs.size/\q (ax (aK K κ).rs ls) (elo cs (aK K κ).m o)
 |.nY j o _ a b e,v=>∃id,c.ρ j=some id/\v=.pointer (some ⟨id,o+e,none⟩)/\a<=e/\e<=b
 |.nG g o,v=>v=.pointer (some ⟨g,o,none⟩)/\(c.F g).isSome=true
 |.nK x,v=>v=x/\Value.oneCell' x=true
 |.nF f js,v=>∃us:List Value,v=.func (.func f) #[] us.toArray/\us.length=js.length/\∀(i j:Nat),js[i]? = some j->∃id,c.ρ j=some id/\us[i]? = some (.pointer (some ⟨id,0,none⟩))
 |.nU,v=>Value.oneCell' v=true
 |.nE,v=>∃A,v=.slice A 0 0
def isD (K:KT) (c:Cx):Nat->AV->Value->Prop
 |0=>isB K c λ_ _=>False
 |d+1=>isB K c (rsF (isD K c d))
theorem isB.mono {K:KT} {c c':Cx} (hc:c.le c') {q q':Rs->List Value->Prop} (h:∀rs vs,q rs vs->q' rs vs) {x:AV} {v:Value} (hx:isB K c q x v):isB K c' q' x v:=by
 cases x with
 |nP j o=>obtain⟨id,h1,h2⟩:=hx;exact⟨id,hc.ρ _ _ h1,h2⟩
 |nS j o n m=>obtain⟨id,h1,h2⟩:=hx;exact⟨id,hc.ρ _ _ h1,h2⟩
 |nD j κ a b o n=>obtain⟨id,m,h1,h2,h3,h4,h5,h6,h7⟩:=hx;exact⟨id,m,hc.ρ _ _ h1,h2,h3,h4,h5,h6,by rw[hc.sz _ _ h1];exact h7⟩
 |nX j κ d i=>obtain⟨id,h1,h2⟩:=hx;exact⟨id,hc.ρ _ _ h1,h2⟩
 |nY j o n a b e=>obtain⟨id,h1,h2⟩:=hx;exact⟨id,hc.ρ _ _ h1,h2⟩
 |nR κ a b n g =>obtain⟨A,m,h1,h2,h3,h4,h5,h6,h7⟩:=hx;exact⟨A,m,h1,h2,h3,h4,h5,h6,λa e hm=>by obtain⟨e',ty,cs,g1,g2,g3,g4⟩:=h7 a e hm;exact⟨e',ty,cs,g1,hc.F _ _ g2,g3,λi hi=>h _ _ (g4 i hi)⟩⟩
 |nQ κ d ls=>obtain⟨id,e,ty,cs,h1,h2,h3,h4⟩:=hx;exact⟨id,e,ty,cs,h1,hc.F _ _ h2,h3,h _ _ h4⟩
 |nG g o =>obtain⟨h1,h2⟩:=hx;obtain⟨y,hy⟩:=Option.isSome_iff_exists.1 h2;exact⟨h1,by rw[hc.F _ _ hy];rfl⟩
 |nF f js=>obtain⟨us,h1,h2,h3⟩:=hx;exact⟨us,h1,h2,λi j e=>by obtain⟨id,g1,g2⟩:=h3 i j e;exact⟨id,hc.ρ _ _ g1,g2⟩⟩
 |_=>exact hx
theorem rsF.mono {p p':AV->Value->Prop} (h:∀x v,p x v->p' x v) {rs:Rs} {vs:List Value} (hr:rsF p rs vs):rsF p' rs vs:=⟨hr.1,λi x v e1 e2=>h _ _ (hr.2 i x v e1 e2)⟩
theorem isD.mono {K:KT} {c c':Cx} (hc:c.le c'):∀(d:Nat) {x:AV} {v:Value},isD K c d x v->isD K c' d x v
 |0,_,_,h=>isB.mono hc (λ_ _ e=>e) h
 |d+1,_,_,h=>isB.mono hc (λ_ _ e=>e.mono λ_ _=>isD.mono hc d) h
theorem isD.succ {K:KT} {c:Cx}:∀(d:Nat) {x:AV} {v:Value},isD K c d x v->isD K c (d+1) x v
 |0,_,_,h=>isB.mono (Cx.le_refl c) (λ_ _ e=>e.elim) h
 |d+1,_,_,h=>isB.mono (Cx.le_refl c) (λ_ _ e=>e.mono λ_ _=>isD.succ d) h
theorem isD.le {K:KT} {c:Cx} {d:Nat}:∀ {e:Nat} {x:AV} {v:Value},d<=e->isD K c d x v->isD K c e x v
 |0,x,v,h,hx=>by have:d=0:=ac;subst this;exact hx
 |e+1,x,v,h,hx=>by
  by_cases hd:d=e+1
  .subst hd;exact hx
  .exact isD.succ e (isD.le ac hx)
def AV.is (K:KT) (c:Cx) (x:AV) (v:Value):Prop:=∃d,isD K c d x v
def RsOk (K:KT) (c:Cx):Rs->List Value->Prop:=rsF (AV.is K c)
theorem AV.mono {K:KT} {c d:Cx} (hcd:c.le d) {x:AV} {v:Value} (h:x.is K c v):x.is K d v:=h.imp λe=>isD.mono hcd e
theorem RsOk.mono {K:KT} {c d:Cx} (hcd:c.le d) {rs:Rs} {vs:List Value} (h:RsOk K c rs vs):RsOk K d rs vs:=rsF.mono (λ_ _=>AV.mono hcd) h
theorem xK {p:Nat->Nat->Prop} (hm:∀i d e,d<=e->p i d->p i e):∀n,(∀i,i<n->∃d,p i d)->∃d,∀i,i<n->p i d
 |0,_=>⟨0,λi hi=>absurd hi (Nat.not_lt_zero i)⟩
 |n+1,h=>by
  obtain⟨d,hd⟩:=xK hm n λi hi=>h i ac;obtain⟨e,he⟩:=h n ac;refine⟨max d e,λi hi=>?_⟩
  by_cases hin:i=n
  .subst hin;exact hm _ _ _ ac he
  .exact hm _ _ _ ac (hd i ac)
theorem RsOk.depth {K:KT} {c:Cx} {rs:Rs} {vs:List Value} (h:RsOk K c rs vs):∃d,rsF (isD K c d) rs vs:=by
 have:=xK (p:=λi d=>∀x v,(aq rs)[i]? = some x->vs[i]? = some v->isD K c d x v) (λi d e hde hp x v e1 e2=>isD.le hde (hp x v e1 e2)) vs.length λi hi=>by
  by_cases hr:i<(aq rs).length
  .obtain⟨d,hd⟩:=h.2 i _ _ (List.getElem?_eq_getElem hr) (List.getElem?_eq_getElem hi);refine⟨d,λx v e1 e2=>?_⟩;rw[List.getElem?_eq_getElem hr]at e1;rw[List.getElem?_eq_getElem hi]at e2;cases e1;cases e2;exact hd
  .exact⟨0,λx v e1 _=>by rw[List.getElem?_eq_none ac]at e1;cases e1⟩
 obtain⟨d,hd⟩:=this;exact⟨d,h.1,λi x v e1 e2=>hd i (List.getElem?_eq_some_iff.1 e2).1 x v e1 e2⟩
theorem isB.depth {K:KT} {c:Cx} {x:AV} {v:Value} (h:isB K c (RsOk K c) x v):x.is K c v:=by
 cases x with
 |nR κ a b n g =>
  obtain⟨A,m,h1,h2,h3,h4,h5,h6,h7⟩:=h
  cases A with
  |none=>exact⟨0,none,m,h1,h2,h3,h4,h5,h6,λa e=>by cases e⟩
  |some ad =>
   rcases Nat.eq_zero_or_pos m with hm | hm
   .exact⟨0,some ad,m,h1,h2,h3,h4,h5,h6,λa e h0=>ac⟩
   obtain⟨e',ty,cs,g1,g2,g3,g4⟩:=h7 ad rfl hm;obtain⟨d,hd⟩:=xK (p:=λi d=>rsF (isD K c d) (ax (aK K κ).rs (g i)) (elo cs (aK K κ).m (e'+i*(aK K κ).m))) (λi d e hde hp=>hp.mono λ_ _=>isD.le hde) n λi hi=>(g4 i hi).depth;exact⟨d+1,some ad,m,h1,h2,h3,h4,h5,h6,λa e _=>by cases e;exact⟨e',ty,cs,g1,g2,g3,hd⟩⟩
 |nQ κ d ls =>obtain⟨id,e,ty,cs,h1,h2,h3,h4⟩:=h;obtain⟨D,hD⟩:=RsOk.depth h4;exact⟨D+1,id,e,ty,cs,h1,h2,h3,hD⟩
 |_=>exact⟨0,h⟩
theorem AV.is_iff {K:KT} {c:Cx} {x:AV} {v:Value}:x.is K c v↔isB K c (RsOk K c) x v:=by
 refine⟨λ⟨d,h⟩=>?_,isB.depth⟩
 cases d with
 |zero=>exact isB.mono (Cx.le_refl c) (λ_ _ e=>e.elim) h
 |succ d=>exact isB.mono (Cx.le_refl c) (λ_ _ e=>e.mono λ_ _ h=>⟨d,h⟩) h
section
variable {K:KT} {c:Cx} {v:Value}
theorem is_I {k:IntKind} {lo hi z:Int}:(AV.nI k lo hi z).is K c v↔v=.int k z/\lo<=z/\z<=hi/\inR k z:=AV.is_iff
theorem is_B {f t x:Bool}:(AV.nB f t x).is K c v↔v=.bool x/\(x=false->f=true)/\(x=true->t=true):=AV.is_iff
theorem is_P {j o:Nat}:(AV.nP j o).is K c v↔∃id,c.ρ j=some id/\v=.pointer (some ⟨id,o,none⟩):=AV.is_iff
theorem is_S {j o n m:Nat}:(AV.nS j o n m).is K c v↔∃id,c.ρ j=some id/\v=.slice (some ⟨id,o,none⟩) n m/\n<=m/\m<=maxLen:=AV.is_iff
theorem is_D {j κ a b o n:Nat}:(AV.nD j κ a b o n).is K c v↔∃id m,c.ρ j=some id/\v=.slice (some ⟨id,o*(aK K κ).m,none⟩) n m/\a<=n/\n<=b/\n<=m/\m<=maxLen/\(o+m)*(aK K κ).m<=c.sz id:=AV.is_iff
theorem is_X {j κ d i:Nat}:(AV.nX j κ d i).is K c v↔∃id,c.ρ j=some id/\v=.pointer (some ⟨id,i*(aK K κ).m+d,none⟩):=AV.is_iff
theorem is_Y {j o n a b e:Nat}:(AV.nY j o n a b e).is K c v↔∃id,c.ρ j=some id/\v=.pointer (some ⟨id,o+e,none⟩)/\a<=e/\e<=b:=AV.is_iff
theorem is_R {κ a b n:Nat} {g:Nat->List Lf}:(AV.nR κ a b n g).is K c v↔∃A m,v=.slice A n m/\a<=n/\n<=b/\n<=m/\m<=maxLen/\isRow K c (RsOk K c) κ n m g A:=AV.is_iff
theorem is_Q {κ d:Nat} {ls:List Lf}:(AV.nQ κ d ls).is K c v↔∃id o ty cs,v=.pointer (some ⟨id,o+d,none⟩)/\c.F id=some (ty,cs)/\o+(aK K κ).m<=cs.size/\RsOk K c (ax (aK K κ).rs ls) (elo cs (aK K κ).m o):=AV.is_iff
theorem is_G {g o:Nat}:(AV.nG g o).is K c v↔v=.pointer (some ⟨g,o,none⟩)/\(c.F g).isSome=true:=AV.is_iff
theorem is_K {x:Value}:(AV.nK x).is K c v↔v=x/\Value.oneCell' x=true:=AV.is_iff
theorem is_F {f:FuncId} {js:List Nat}:(AV.nF f js).is K c v↔∃us:List Value,v=.func (.func f) #[] us.toArray/\us.length=js.length/\∀(i j:Nat),js[i]? = some j->∃id,c.ρ j=some id/\us[i]? = some (.pointer (some ⟨id,0,none⟩)):=AV.is_iff
theorem is_U:AV.nU.is K c v↔Value.oneCell' v=true:=AV.is_iff
theorem is_E:AV.nE.is K c v↔∃A,v=.slice A 0 0:=AV.is_iff
theorem AV.one {x:AV} (h:x.is K c v):v.oneCell'=true:=by
 have h:=AV.is_iff.1 h
 cases x with
 |nI k lo hi z=>obtain⟨rfl,-⟩:=h;rfl
 |nB f t x=>obtain⟨rfl,-⟩:=h;rfl
 |nP j o=>obtain⟨id,-,rfl⟩:=h;rfl
 |nS j o n m=>obtain⟨id,-,rfl,-⟩:=h;rfl
 |nD j κ a b o n=>obtain⟨id,m,-,rfl,-⟩:=h;rfl
 |nX j κ d i=>obtain⟨id,-,rfl⟩:=h;rfl
 |nY j o n a b e=>obtain⟨id,-,rfl,-⟩:=h;rfl
 |nR κ a b n g=>obtain⟨A,m,rfl,-⟩:=h;rfl
 |nQ κ d ls=>obtain⟨id,e,ty,cs,rfl,-⟩:=h;rfl
 |nG g o=>obtain⟨rfl,-⟩:=h;rfl
 |nK x=>obtain⟨rfl,h⟩:=h;exact h
 |nF f js=>obtain⟨us,rfl,-⟩:=h;rfl
 |nU=>exact h
 |nE=>obtain⟨A,rfl⟩:=h;rfl
end
section
variable {K:KT} {c:Cx}
theorem RsOk.cells {rs:Rs} {vs:List Value} (h:RsOk K c rs vs):∀v∈vs,v.oneCell'=true:=λv hv=>by
 obtain⟨i,hi⟩:=List.getElem?_of_mem hv;have hl:=(List.getElem?_eq_some_iff.1 hi).1;have:i<(aq rs).length:=by rw[aF,<-h.1];exact hl
 exact AV.one (h.2 i _ v (List.getElem?_eq_getElem this) hi)
theorem RsOk.nil:RsOk K c [] []:=⟨rfl,λi x v hx=>(by simp[aq]at hx)⟩
theorem RsOk.append {rs rs':Rs} {vs vs':List Value} (h:RsOk K c rs vs) (h':RsOk K c rs' vs'):RsOk K c (rs++rs') (vs++vs'):=by
 have hc:∀a b:Rs,aq (a++b)=aq a++aq b:=λa b=>by
  induction a with
  |nil=>rfl
  |cons x a ih=>simp only[List.cons_append,aq,ih,List.append_assoc]
 have hl:(aq rs).length=vs.length:=by rw[aF,h.1]
 refine⟨by rw[List.length_append,h.1,h'.1,<-aF,<-aF,<-aF,hc,List.length_append],λi x v hx hv=>?_⟩
 rw[hc]at hx
 by_cases hi:i<vs.length
 .rw[List.getElem?_append_left ac]at hx hv;exact h.2 i x v hx hv
 .rw[List.getElem?_append_right ac]at hx hv;rw[hl]at hx;exact h'.2 _ x v hx hv
theorem RsOk.one {x:AV} {v:Value} (h:x.is K c v):RsOk K c [.c x] [v]:=⟨rfl,λi y u hy hu=>(by
 cases i with
 |zero =>simp only[aq,az,List.singleton_append,List.getElem?_cons_zero,Option.some.injEq]at hy hu;subst hy hu;exact h
 |succ i=>simp at hu)⟩
theorem RsOk.ints {n:Nat} {k:IntKind} {lo hi:Int} {f:Nat->Int} {vs:List Value} (hl:vs.length=n) (h:∀i,i<n->vs[i]? = some (.int k (f i))/\lo<=f i/\f i<=hi/\inR k (f i)):RsOk K c [.a n k lo hi f] vs:=⟨by rw[hl];rfl,λi x v hx hv=>by
 have hi:=(List.getElem?_eq_some_iff.1 hv).1;simp only[aq,az,List.append_nil,List.getElem?_map,List.getElem?_range (by omega:i<n),Option.map_some,Option.some.injEq]at hx
 subst hx;obtain⟨h1,h2⟩:=h i ac;rw[h1]at hv;cases hv;exact is_I.2 ⟨rfl,h2⟩⟩
end
inductive AS where
 |sO (x:AV)
 |sA (rs:Rs)
def AS.is (K:KT) (c:Cx):AS->Value->Prop
 |.sO x,v=>x.is K c v
 |.sA rs,v=>∃vs,v=.agg (List.toArray vs)/\RsOk K c rs vs
inductive AT where
 |tX (s:AS)
 |tT (l:List AS)
 |tF (f:FuncId) (first cap:List AS)
 |tA
def allIs (K:KT) (c:Cx) (l:List AS) (vs:List Value):Prop:=l.length=vs.length/\∀(i:Nat) (s:AS) (v:Value),l[i]? = some s->vs[i]? = some v->s.is K c v
def AT.is (K:KT) (c:Cx):AT->Value->Prop
 |.tX s,v=>s.is K c v
 |.tT l,v=>∃vs,v=.tuple (List.toArray vs)/\allIs K c l vs
 |.tF f l m,v=>∃vs us,v=.func (.func f) (List.toArray vs) (List.toArray us)/\allIs K c l vs/\allIs K c m us
 |.tA,_=>True
theorem AS.mono {K:KT} {c d:Cx} (hcd:c.le d) {x:AS} {v:Value} (h:x.is K c v):x.is K d v:=by
 cases x with
 |sO x=>exact AV.mono hcd h
 |sA rs=>obtain⟨vs,h1,h2⟩:=h;exact⟨vs,h1,h2.mono hcd⟩
theorem allIs.mono {K:KT} {c d:Cx} (hcd:c.le d) {l:List AS} {vs:List Value} (h:allIs K c l vs):allIs K d l vs:=⟨h.1,λi s v h1 h2=>AS.mono hcd (h.2 i s v h1 h2)⟩
theorem AT.mono {K:KT} {c d:Cx} (hcd:c.le d) {x:AT} {v:Value} (h:x.is K c v):x.is K d v:=by
 cases x with
 |tX s=>exact AS.mono hcd h
 |tT l=>obtain⟨vs,h1,h2⟩:=h;exact⟨vs,h1,h2.mono hcd⟩
 |tF f l m=>obtain⟨vs,us,h1,h2,h3⟩:=h;exact⟨vs,us,h1,h2.mono hcd,h3.mono hcd⟩
 |tA=>trivial
structure R8 (α:Type) where
 a0:α
 a1:α
 a2:α
 a3:α
 a4:α
 a5:α
 a6:α
 a7:α
def R8.get {α:Type} (t:R8 α) (n:Nat):α:=match n with
 |0=>t.a0
 |1=>t.a1
 |2=>t.a2
 |3=>t.a3
 |4=>t.a4
 |5=>t.a5
 |6=>t.a6
 |_=>t.a7
def R8.set {α:Type} (t:R8 α) (n:Nat) (v:α):R8 α:=match t with
 |⟨a0,a1,a2,a3,a4,a5,a6,a7⟩=>match n with
  |0=>⟨v,a1,a2,a3,a4,a5,a6,a7⟩
  |1=>⟨a0,v,a2,a3,a4,a5,a6,a7⟩
  |2=>⟨a0,a1,v,a3,a4,a5,a6,a7⟩
  |3=>⟨a0,a1,a2,v,a4,a5,a6,a7⟩
  |4=>⟨a0,a1,a2,a3,v,a5,a6,a7⟩
  |5=>⟨a0,a1,a2,a3,a4,v,a6,a7⟩
  |6=>⟨a0,a1,a2,a3,a4,a5,v,a7⟩
  |_=>⟨a0,a1,a2,a3,a4,a5,a6,v⟩
theorem R8.get_set {α:Type} (t:R8 α) (v:α) (n m:Nat) (hn:n<8) (hm:m<8):(t.set n v).get m=if n=m then v else t.get m:=by rcases n with _ | _ | _ | _ | _ | _ | _ | _ | n<;>first|omega | (rcases m with _ | _ | _ | _ | _ | _ | _ | _ | m<;>first|omega | rfl)
def R8.all {α:Type} (x:α):R8 α:=⟨x,x,x,x,x,x,x,x⟩
abbrev T3:=R8 (R8 (R8 AT))
def T3.get (t:T3) (n:Nat):AT:=match Nat.blt n 512 with
 |true=>R8.get (R8.get (R8.get t (Nat.div n 64)) (Nat.mod (Nat.div n 8) 8)) (Nat.mod n 8)
 |false=>.tA
def T3.set (t:T3) (n:Nat) (v:AT):T3:=match Nat.blt n 512 with
 |true=>R8.set t (Nat.div n 64) (R8.set (R8.get t (Nat.div n 64)) (Nat.mod (Nat.div n 8) 8) (R8.set (R8.get (R8.get t (Nat.div n 64)) (Nat.mod (Nat.div n 8) 8)) (Nat.mod n 8) v))
 |false=>t
def T3.no:T3:=R8.all (R8.all (R8.all .tA))
theorem T3.get_set (t:T3) (n m:Nat) (v:AT):(t.set n v).get m=if n=m/\n<512 then v else t.get m:=by
 unfold T3.set T3.get;cases hn:Nat.blt n 512
 .have:=blt_no.1 hn;rw[if_neg ac]
 .have hn:=blt_iff.1 hn;cases hm:Nat.blt m 512
  .have:=blt_no.1 hm;rw[if_neg ac]
  .have hm:=blt_iff.1 hm;simp only;have e1:n / 64<8:=ac;have e2:m / 64<8:=ac;have a1:Nat.div n 64=n / 64:=rfl;have a2:Nat.div m 64=m / 64:=rfl;have a3:Nat.mod (Nat.div n 8) 8=n / 8 % 8:=rfl;have a4:Nat.mod (Nat.div m 8) 8=m / 8 % 8:=rfl;have a5:Nat.mod n 8=n % 8:=rfl;have a6:Nat.mod m 8=m % 8:=rfl;rw[a1,a2,a3,a4,a5,a6,R8.get_set _ _ _ _ e1 e2]
   by_cases h1:n / 64=m / 64
   .rw[if_pos h1,R8.get_set _ _ _ _ ac ac]
    by_cases h2:n / 8 % 8=m / 8 % 8
    .rw[if_pos h2,R8.get_set _ _ _ _ ac ac]
     by_cases h3:n % 8=m % 8
     .rw[if_pos h3,if_pos ⟨ac,hn⟩]
     .rw[if_neg h3,if_neg ac,h1,h2]
    .rw[if_neg h2,if_neg ac,h1]
   .rw[if_neg h1,if_neg ac]
theorem R8.get_all {α:Type} (x:α) (n:Nat):(R8.all x).get n=x:=by
 unfold R8.get R8.all
 split<;>rfl
theorem T3.get_no (n:Nat):T3.no.get n=.tA:=by
 unfold T3.get T3.no
 split
 .rw[R8.get_all,R8.get_all,R8.get_all]
 .rfl
inductive AB where
 |run (ty:TypeId) (rs:Rs)
 |dyn (ty:TypeId) (κ nlo nhi n:Nat) (g:Nat->List Lf) (fz:Bool)
 |dead
structure ASt where
 tm:T3
 mem:List AB
def ASt.get (st:ASt) (t:Nat):AT:=st.tm.get t
def ofK:Value->AT
 |.int k n=>match ile (low k) n,ile n (top k)with
  |true,true=>.tX (.sO (.nI k n n n))
  |_,_=>.tA
 |.bool x=>match x with
  |true=>.tX (.sO (.nB false true true))
  |false=>.tX (.sO (.nB true false false))
 |.agg cs=>match cs.toList with
  |[]=>.tX (.sA [])
  |_=>.tA
 |.tuple _=>.tA
 |v=>.tX (.sO (.nK v))
def ASt.put (st:ASt) (d:Option Tmp) (mem:List AB) (x:AT):ASt:=match d with
 |some d=>⟨st.tm.set d x,mem⟩
 |none=>⟨st.tm,mem⟩
def abOk (K:KT) (c:Cx) (w:World) (id:Nat):AB->Prop
 |.run ty rs=>c.F id=none/\∃cs,Blk w id ty cs/\RsOk K c rs cs.toList
 |.dyn ty κ a b n g fz=>a<=n/\n<=b/\∃cs,Blk w id ty cs/\cs.size=c.sz id/\n*(aK K κ).m<=cs.size/\(∀e,e<n->RsOk K c (ax (aK K κ).rs (g e)) (elt cs (aK K κ).m e))/\c.F id=match fz with
  |true=>some (ty,cs)
  |false=>none
 |.dead=>True
def fQ:AB->Bool
 |.dead=>false
 |_=>true
def BlkF (w:World) (g:Nat) (t:TypeId) (cs:Array Value):Prop:=∃fz,w.heap[g]? = some (.cells cs t fz)
theorem Blk.F {w:World} {g:Nat} {t:TypeId} {cs:Array Value} (h:Blk w g t cs):BlkF w g t cs:=⟨_,h⟩
theorem BlkF.lt {w:World} {g:Nat} {t:TypeId} {cs:Array Value} (h:BlkF w g t cs):g<w.heap.size:=by obtain⟨fz,h⟩:=h;exact(Array.getElem?_eq_some_iff.1 h).1
theorem BlkF.cell {w:World} {g:Nat} {t:TypeId} {cs:Array Value} (h:BlkF w g t cs) (i:Nat):w.cell? ⟨g,i,none⟩=cs[i]?:=by obtain⟨fz,h⟩:=h;exact cell_of_row w g i cs t fz h
theorem BlkF.step {w w':World} {g:Nat} {t:TypeId} {cs:Array Value} (h:BlkF w g t cs) (e:w'.heap[g]? = w.heap[g]?):BlkF w' g t cs:=h.imp λ_ q=>e.trans q
structure AM (K:KT) (w0:World) (c0 c:Cx) (mem:List AB) (w:World):Prop where
 os:w.os=w0.os
 tape:w.tape=w0.tape
 output:w.output=w0.output
 size:w0.heap.size<=w.heap.size
 frame:∀b,b<w0.heap.size->(∀j,c0.ρ j≠some b)->w.heap[b]? = w0.heap[b]?
 le:c0.le c
 dom:∀j id,c.ρ j=some id->j<mem.length/\id<w.heap.size
 nd:∀i j id x y,c.ρ i=some id->c.ρ j=some id->mem[i]? = some x->mem[j]? = some y->fQ x=true->fQ y=true->i=j
 new:∀j id,c.ρ j=some id->(∃i,c0.ρ i=some id)\/w0.heap.size<=id
 newF:∀b,(c.F b).isSome=true->(c0.F b).isSome=true\/(∃i,c0.ρ i=some b)\/w0.heap.size<=b
 kn:∀(j id:Nat) (ab:AB),c.ρ j=some id->mem[j]? = some ab->abOk K c w id ab
 fr:∀b ty cs,c.F b=some (ty,cs)->BlkF w b ty cs
structure AR (K:KT) (N:Nat) (c:Cx) (tm:T3) (a:Act):Prop where
 sz:a.tmps.size=N
 df:a.defers=c.D
 is_:∀t,(tm.get t).is K c (a.tmps.getD t undef)
theorem AR.mono {K:KT} {N:Nat} {c d:Cx} (hcd:c.le d) {tm:T3} {a:Act} (h:AR K N c tm a):AR K N d tm a:=⟨h.sz,h.df.trans hcd.D.symm,λt=>AT.mono hcd (h.is_ t)⟩
theorem TD (K:KT) (c:Cx) (v:Value):(ofK v).is K c v:=by
 cases v with
 |int k n =>
  simp only[ofK]
  split
  .rename_i h1 h2;exact is_I.2 ⟨rfl,Int.le_refl _,Int.le_refl _,ile_iff.1 h1,ile_iff.1 h2⟩
  .trivial
 |bool x=>cases x<;>exact is_B.2 ⟨rfl,by simp,by simp⟩
 |agg cs =>
  simp only[ofK]
  split
  .rename_i h1;have:cs=#[]:=Array.toList_inj.1 (by rw[h1])
   subst this;exact⟨[],rfl,RsOk.nil⟩
  .trivial
 |tuple vs=>trivial
 |_=>exact is_K.2 ⟨rfl,rfl⟩
end Go.Proofs.YtldmjbgplgoedaaGreatDoor
