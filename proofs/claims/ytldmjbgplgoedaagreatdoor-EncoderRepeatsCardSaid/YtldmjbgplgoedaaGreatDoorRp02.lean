import Derived.Test.YtldmjbgplgoedaaGreatDoorRp01
import Derived.Laws.BitsLemmas
set_option linter.all false
namespace Go.Proofs.YtldmjbgplgoedaaGreatDoor
open Go.RowKit
def mkI (k:IntKind) (lo hi z:Int):AV:=match ieq lo hi with
 |true=>.nI k lo lo lo
 |false=>.nI k lo hi z
def mkB (f t x:Bool):AV:=match f,t with
 |true,false=>.nB true false false
 |false,true=>.nB false true true
 |f,t=>.nB f t x
theorem jp {K:KT} {c:Cx} {k:IntKind} {lo hi z:Int} (h1:lo<=z) (h2:z<=hi) (h3:inR k z):(mkI k lo hi z).is K c (.int k z):=by
 unfold mkI
 split
 .rename_i e;have e:=ieq_iff.1 e;have:z=lo:=ac;subst this;exact is_I.2 ⟨rfl,Int.le_refl _,Int.le_refl _,h3⟩
 .exact is_I.2 ⟨rfl,h1,h2,h3⟩
theorem jv {K:KT} {c:Cx} {f t x:Bool} (h1:x=false->f=true) (h2:x=true->t=true):(mkB f t x).is K c (.bool x):=by cases f<;>cases t<;>cases x<;>simp at h1 h2<;>exact is_B.2 ⟨rfl,by simp,by simp⟩
def A2 (k:IntKind) (lo hi z:Int):AV:=match ile (low k) lo,ile hi (top k)with
 |true,true=>mkI k lo hi z
 |_,_=>match k with
  |.i8 | .i16 | .i32 | .i64=>.nI k (low k) (top k) (k.wrap z)
  |_=>match ile (Int.neg (Int.add (top k) 1)) lo,ile hi (-1)with
   |true,true=>mkI k (Int.add lo (Int.add (top k) 1)) (Int.add hi (Int.add (top k) 1)) (z+(top k+1))
   |_,_=>.nI k 0 (top k) (k.wrap z)
theorem iY {K:KT} {c:Cx} {k:IntKind} {lo hi z:Int} (h1:lo<=z) (h2:z<=hi):(A2 k lo hi z).is K c (.int k (k.wrap z)):=by
 unfold A2
 split
 .rename_i e1 e2;have e1:=ile_iff.1 e1;have e2:=ile_iff.1 e2;rw[bH ⟨ac,ac⟩];exact jp h1 h2 ⟨ac,ac⟩
 .have hr:=t7 k z
  have uns:∀(m:Int),top k+1=m->low k=0->0<m->k.wrap z=z % m->AV.is K c (match ile (Int.neg (Int.add (top k) 1)) lo,ile hi (-1)with
   |true,true=>mkI k (Int.add lo (Int.add (top k) 1)) (Int.add hi (Int.add (top k) 1)) (z+(top k+1))
   |_,_=>.nI k 0 (top k) (k.wrap z)) (.int k (k.wrap z)):=λm hm hl h0 hw=>by
   have e1:Int.add (top k) 1=m:=hm;rw[e1]
   split
   .rename_i g1 g2;have g1:=ile_iff.1 g1;have g2:=ile_iff.1 g2;have g1 : -m<=lo:=g1
    have e2:z % m=z+m:=by rw[<-Int.add_emod_right,Int.emod_eq_of_lt ac ac]
    rw[hw,e2]at hr ⊢;rw[hm];exact jp (by show lo+m<=z+m;omega) (by show z+m<=hi+m;omega) hr
   .obtain⟨r1,r2⟩:=hr;exact is_I.2 ⟨rfl,by rw[hl]at r1;exact r1,r2,r1,r2⟩
  cases k
  case u8=>exact uns 256 rfl rfl ac (IntKind.wrap_u8 _)
  case u16=>exact uns 65536 rfl rfl ac (by simp only[IntKind.wrap,IntKind.bits,IntKind.signed,Bool.false_and,Bool.false_eq_true,if_false];rfl)
  case u32=>exact uns 4294967296 rfl rfl ac (IntKind.wrap_u32 _)
  case u64=>exact uns 18446744073709551616 rfl rfl ac (by simp only[IntKind.wrap,IntKind.bits,IntKind.signed,Bool.false_and,Bool.false_eq_true,if_false];rfl)
  all_goals exact is_I.2 ⟨rfl,hr.1,hr.2,hr⟩
def Xd (a b c d:Int):Int × Int:=match ile 0 a,ile 0 c with
 |true,true=>(Int.mul a c,Int.mul b d)
 |_,_=>(lj (lj (Int.mul a c) (Int.mul a d)) (lj (Int.mul b c) (Int.mul b d)),fc (fc (Int.mul a c) (Int.mul a d)) (fc (Int.mul b c) (Int.mul b d)))
theorem gY {c y a b:Int} (h1:a<=y) (h2:y<=b):min (c*a) (c*b)<=c*y/\c*y<=max (c*a) (c*b):=by
 rcases Int.le_total 0 c with h | h
 .have:=Int.mul_le_mul_of_nonneg_left h1 h;have:=Int.mul_le_mul_of_nonneg_left h2 h;omega
 .have:=Int.mul_le_mul_of_nonpos_left h h1;have:=Int.mul_le_mul_of_nonpos_left h h2;omega
theorem xJ {a b c d x y:Int} (h1:a<=x) (h2:x<=b) (h3:c<=y) (h4:y<=d):(Xd a b c d).1<=x*y/\x*y<=(Xd a b c d).2:=by
 unfold Xd
 split
 .rename_i e1 e2;have e1:=ile_iff.1 e1;have e2:=ile_iff.1 e2;exact⟨Int.mul_le_mul h1 h3 e2 ac,Int.mul_le_mul h2 h4 ac ac⟩
 .have g1:=gY (c:=y) h1 h2;have g2:=gY (c:=a) h3 h4;have g3:=gY (c:=b) h3 h4;rw[Int.mul_comm y x,Int.mul_comm y a,Int.mul_comm y b]at g1;simp only[cD,co];have e1:Int.mul a c=a*c:=rfl;have e2:Int.mul a d=a*d:=rfl;have e3:Int.mul b c=b*c:=rfl;have e4:Int.mul b d=b*d:=rfl;rw[e1,e2,e3,e4];omega
def Zq (a b c d:Int):Int × Int:=(match ile 0 a with
 |true=>Int.tdiv a d
 |false=>Int.tdiv a c,match ile 0 b with
 |true=>Int.tdiv b c
 |false=>Int.tdiv b d)
theorem jM {x y y':Int} (hx:0<=x) (hy:0<y) (h:y<=y'):x.tdiv y'<=x.tdiv y:=by
 rw[Int.tdiv_eq_ediv_of_nonneg hx,Int.tdiv_eq_ediv_of_nonneg hx,Int.le_ediv_iff_mul_le hy];have h1:=Int.ediv_mul_le x (show y'≠0 by omega)
 have h2:0<=x / y':=Int.ediv_nonneg hx ac;have h3:=Int.mul_le_mul_of_nonneg_left h h2;omega
theorem iF {x x' y:Int} (hy:0<y) (h:x<=x'):x.tdiv y<=x'.tdiv y:=Int.tdiv_le_tdiv hy h
theorem uB {x y y':Int} (hx:x<=0) (hy:0<y) (h:y<=y'):x.tdiv y<=x.tdiv y':=by have:=jM (x:=-x) ac hy h;rw[Int.neg_tdiv,Int.neg_tdiv]at this;omega
theorem Nj {a b c d x y:Int} (h1:a<=x) (h2:x<=b) (h3:c<=y) (h4:y<=d) (hc:1<=c):(Zq a b c d).1<=x.tdiv y/\x.tdiv y<=(Zq a b c d).2:=by
 unfold Zq
 constructor
 .simp only
  split
  .rename_i e;have e:=ile_iff.1 e;exact Int.le_trans (jM e ac h4) (iF ac h1)
  .rename_i e;have e:=ile_no.1 e;exact Int.le_trans (uB ac ac h3) (iF ac h1)
 .simp only
  split
  .rename_i e;have e:=ile_iff.1 e;exact Int.le_trans (iF ac h2) (jM e ac h3)
  .rename_i e;have e:=ile_no.1 e;exact Int.le_trans (iF ac h2) (uB ac ac h4)
theorem ns {x y:Int} (hx:0<=x) (hy:0<y):x % y<=x:=by
 have h1:=Int.emod_add_mul_ediv x y;have h2:=Int.mul_nonneg (show 0<=y by omega) (Int.ediv_nonneg hx (show 0<=y by omega))
 omega
def XW (a b c d:Int):Int × Int:=match ile 0 a,ile (Int.add b 1) c with
 |true,true=>(a,b)
 |_,_=>match ieq a b,ieq c d with
  |true,true=>(Int.tmod a c,Int.tmod a c)
  |_,_=>(match ile 0 a with
   |true=>0
   |false=>fc a (Int.sub 1 d),match ile b 0 with
   |true=>0
   |false=>lj b (Int.sub d 1))
theorem N6 {a b c d x y:Int} (h1:a<=x) (h2:x<=b) (h3:c<=y) (h4:y<=d) (hc:1<=c):(XW a b c d).1<=x.tmod y/\x.tmod y<=(XW a b c d).2:=by
 unfold XW;have pos:∀x:Int,0<=x->x.tmod y=x % y:=λx hx=>Int.tmod_eq_emod_of_nonneg hx
 have bnd:∀x:Int,0<=x->0<=x.tmod y/\x.tmod y<=x/\x.tmod y<=y-1:=λx hx=>by
  rw[pos x hx];have:=Int.emod_nonneg x (show y≠0 by omega)
  have:=Int.emod_lt_of_pos x (show 0<y by omega)
  have:=ns (y:=y) hx ac;omega
 split
 .rename_i e1 e2;have e1:=ile_iff.1 e1;have e2:=ile_iff.1 e2;have e2:b+1<=c:=e2;rw[pos x ac,Int.emod_eq_of_lt ac ac];exact⟨h1,h2⟩
 .split
  .rename_i e1 e2;have e1:=ieq_iff.1 e1;have e2:=ieq_iff.1 e2;have:x=a:=ac;have:y=c:=ac;subst x;subst y;exact⟨Int.le_refl _,Int.le_refl _⟩
  .have key:(0<=x->0<=x.tmod y/\x.tmod y<=x/\x.tmod y<=y-1)/\(x<=0->x.tmod y<=0/\x<=x.tmod y/\1-y<=x.tmod y):=⟨bnd x,λhx=>by have h:=bnd (-x) ac;rw[Int.neg_tmod]at h;omega⟩
   have q1:fc a (Int.sub 1 d)=max a (1-d):=co _ _;have q2:lj b (Int.sub d 1)=min b (d-1):=cD _ _;simp only
   constructor
   .split
    .rename_i e;have e:=ile_iff.1 e;exact(key.1 ac).1
    .rename_i e;have e:=ile_no.1 e;rcases Int.le_total 0 x with hx | hx
     .have:=key.1 hx;omega
     .have:=key.2 hx;omega
   .split
    .rename_i e;have e:=ile_iff.1 e;exact(key.2 ac).1
    .rename_i e;have e:=ile_no.1 e;rcases Int.le_total 0 x with hx | hx
     .have:=key.1 hx;omega
     .have:=key.2 hx;omega
def pw (n:Int):Int:=Int.ofNat (Nat.pow 2 n.toNat)
theorem rA (n:Int):pw n=(2:Int) ^ n.toNat:=by
 unfold pw;show((2 ^ n.toNat:Nat):Int)=_
 simp
theorem pZ (n:Int):1<=pw n:=by
 rw[rA];have:=Nat.one_le_two_pow (n:=n.toNat);have h:((2 ^ n.toNat:Nat):Int)=2 ^ n.toNat:=by simp
 omega
theorem mM {m n:Int} (h:m<=n):pw m<=pw n:=by
 rw[rA,rA];have:=Nat.pow_le_pow_right (show 0<2 by decide) (show m.toNat<=n.toNat by omega)
 have h1:((2 ^ n.toNat:Nat):Int)=2 ^ n.toNat:=by simp
 have h2:((2 ^ m.toNat:Nat):Int)=2 ^ m.toNat:=by simp
 omega
def Y7 (a b c d:Int):Int × Int:=(match ile 0 a with
 |true=>Int.ediv a (pw d)
 |false=>Int.ediv a (pw c),match ile 0 b with
 |true=>Int.ediv b (pw c)
 |false=>Int.ediv b (pw d))
theorem eo {x y y':Int} (hx:0<=x) (hy:0<y) (h:y<=y'):x / y'<=x / y:=by
 have:=jM hx hy h
 rwa [Int.tdiv_eq_ediv_of_nonneg hx,Int.tdiv_eq_ediv_of_nonneg hx]at this
theorem dV {x y y':Int} (hx:x<=0) (hy:0<y) (h:y<=y'):x / y<=x / y':=by
 rw[Int.le_ediv_iff_mul_le ac];have h1:=Int.ediv_mul_le x (show y≠0 by omega)
 have h2:x / y<=0:=by
  have:=Int.ediv_le_ediv hy hx
  rwa [Int.zero_ediv]at this
 have h3:=Int.mul_le_mul_of_nonpos_left h2 h;omega
theorem OH {a b c d x y:Int} (h1:a<=x) (h2:x<=b) (h3:c<=y) (h4:y<=d):(Y7 a b c d).1<=x / pw y/\x / pw y<=(Y7 a b c d).2:=by
 have p1:=pZ c;have p2:=pZ y;have p3:=pZ d;have m1:=mM h3;have m2:=mM h4;have e:∀u v:Int,Int.ediv u v=u / v:=λ_ _=>rfl;unfold Y7;simp only[e]
 constructor
 .split
  .rename_i g;have g:=ile_iff.1 g;exact Int.le_trans (eo g ac m2) (Int.ediv_le_ediv ac h1)
  .rename_i g;have g:=ile_no.1 g;exact Int.le_trans (dV ac ac m1) (Int.ediv_le_ediv ac h1)
 .split
  .rename_i g;have g:=ile_iff.1 g;exact Int.le_trans (Int.ediv_le_ediv ac h2) (eo g ac m1)
  .rename_i g;have g:=ile_no.1 g;exact Int.le_trans (Int.ediv_le_ediv ac h2) (dV ac ac m2)
def aI (op:BinOp) (k:IntKind) (x y:Int):Int :=
 let a:=BitVec.ofInt k.bits x
 let b:=BitVec.ofInt k.bits y
 k.wrap (match op with
  |.and=>a &&& b
  |.or=>a ||| b
  |.xor=>a ^^^ b
  |.andNot=>a &&& ~~~b
  |_=>0:BitVec k.bits).toNat
def jY (h:Int):Int:=Int.sub (Int.ofNat (Nat.pow 2 (Nat.add (Nat.log2 h.toNat) 1))) 1
def aaF (op:BinOp) (k:IntKind) (a b c d x y:Int):AV:=match ieq a b,ieq c d with
 |true,true=>A2 k (aI op k a c) (aI op k a c) (aI op k a c)
 |_,_=>match op,ile 0 a,ile 0 c with
  |.and,true,true=>.nI k 0 (lj b d) (aI .and k x y)
  |.and,_,true=>.nI k 0 d (aI .and k x y)
  |.or,true,true=>match ile (jY (fc b d)) (top k)with
   |true=>.nI k 0 (jY (fc b d)) (aI .or k x y)
   |false=>.nI k (low k) (top k) (aI .or k x y)
  |.xor,true,true=>match ile (jY (fc b d)) (top k)with
   |true=>.nI k 0 (jY (fc b d)) (aI .xor k x y)
   |false=>.nI k (low k) (top k) (aI .xor k x y)
  |op,_,_=>.nI k (low k) (top k) (aI op k x y)
theorem bO {k:IntKind} {x:Int} (h0:0<=x) (h:inR k x):((BitVec.ofInt k.bits x).toNat:Int)=x:=by
 rw[BitVec.toNat_ofInt]
 have hb:x<(2 ^ k.bits:Nat):=by obtain⟨-,h⟩:=h;cases k<;>simp only[top]at h<;>simp only[IntKind.bits]<;>omega
 rw[Int.emod_eq_of_lt h0 hb];omega
theorem tW {k:IntKind} {n:Nat} {x:Int} (h:(n:Int)<=x) (hx:inR k x):k.wrap n=n:=by
 refine bH ⟨?_,by have:=hx.2;omega⟩
 cases k<;>simp only[low]<;>omega
theorem nx {x h:Int} (_:0<=x) (hx:x<=h):x.toNat<2 ^ (Nat.log2 h.toNat+1):=by have:=Nat.lt_log2_self (n:=h.toNat);omega
theorem MD {K:KT} {cx:Cx} {op:BinOp} {k:IntKind} {a b c d x y:Int} (h1:a<=x) (h2:x<=b) (h3:c<=y) (h4:y<=d) (hx:inR k x) (hy:inR k y):(aaF op k a b c d x y).is K cx (.int k (aI op k x y)):=by
 have hr:∀z,inR k (k.wrap z):=t7 k;have full:(AV.nI k (low k) (top k) (aI op k x y)).is K cx (.int k (aI op k x y)):=is_I.2 ⟨rfl,(hr _).1,(hr _).2,hr _⟩
 have msk:∀(n:Nat),n<2 ^ (Nat.log2 (fc b d).toNat+1)->aI op k x y=k.wrap n->(match ile (jY (fc b d)) (top k)with
  |true=>AV.nI k 0 (jY (fc b d)) (aI op k x y)
  |false=>.nI k (low k) (top k) (aI op k x y)).is K cx (.int k (aI op k x y)):=λn hn e=>by
  split
  .rename_i g;have g:=ile_iff.1 g;have em:jY (fc b d)=((2 ^ (Nat.log2 (fc b d).toNat+1):Nat):Int)-1:=rfl;have hl:low k<=0:=by cases k<;>simp[low]
   have hw:k.wrap n=n:=bH ⟨ac,ac⟩;rw[e,hw];exact is_I.2 ⟨rfl,ac,ac,ac,ac⟩
  .exact full
 unfold aaF
 split
 .rename_i e1 e2;have e1:=ieq_iff.1 e1;have e2:=ieq_iff.1 e2;have:x=a:=ac;have:y=c:=ac;subst x;subst y;have:=iY (K:=K) (c:=cx) (k:=k) (z:=aI op k a c) (Int.le_refl (aI op k a c)) (Int.le_refl _)
  rwa [bH (x:=aI op k a c) (hr _)]at this
 .split
  .rename_i e1 e2;have e1:=ile_iff.1 e1;have e2:=ile_iff.1 e2
   have hle:∀z:Int,0<=z->inR k z->((BitVec.ofInt k.bits x &&& BitVec.ofInt k.bits y).toNat:Int)<=z->(0:Int)<=aI .and k x y/\aI .and k x y<=z:=λz _ hr hl=>by have:aI .and k x y=k.wrap (BitVec.ofInt k.bits x &&& BitVec.ofInt k.bits y).toNat:=rfl;rw[this,tW hl hr];omega
   have ha:(BitVec.ofInt k.bits x &&& BitVec.ofInt k.bits y).toNat<=(BitVec.ofInt k.bits x).toNat:=by rw[BitVec.toNat_and];exact Nat.and_le_left
   have hb:(BitVec.ofInt k.bits x &&& BitVec.ofInt k.bits y).toNat<=(BitVec.ofInt k.bits y).toNat:=by rw[BitVec.toNat_and];exact Nat.and_le_right
   have g1:=bO ac hx;have g2:=bO ac hy;have r1:=hle x ac hx ac;have r2:=hle y ac hy ac;rw[cD];exact is_I.2 ⟨rfl,r1.1,ac,hr _⟩
  .rename_i e2 _;have e2:=ile_iff.1 e2;have hb:(BitVec.ofInt k.bits x &&& BitVec.ofInt k.bits y).toNat<=(BitVec.ofInt k.bits y).toNat:=by rw[BitVec.toNat_and];exact Nat.and_le_right
   have g2:=bO ac hy;have:aI .and k x y=k.wrap (BitVec.ofInt k.bits x &&& BitVec.ofInt k.bits y).toNat:=rfl;have e:aI .and k x y=((BitVec.ofInt k.bits x &&& BitVec.ofInt k.bits y).toNat:Int):=by rw[this,tW (x:=y) ac hy]
   exact is_I.2 ⟨rfl,ac,ac,hr _⟩
  .rename_i e1 e2;have e1:=ile_iff.1 e1;have e2:=ile_iff.1 e2;refine msk (BitVec.ofInt k.bits x ||| BitVec.ofInt k.bits y).toNat ?_ rfl;have g1:=bO ac hx;have g2:=bO ac hy;rw[BitVec.toNat_or];have hm:fc b d=max b d:=co b d;exact Nat.or_lt_two_pow (by have:=nx (x:=x) (h:=fc b d) ac ac;omega) (by have:=nx (x:=y) (h:=fc b d) ac ac;omega)
  .rename_i e1 e2;have e1:=ile_iff.1 e1;have e2:=ile_iff.1 e2;refine msk (BitVec.ofInt k.bits x ^^^ BitVec.ofInt k.bits y).toNat ?_ rfl;have g1:=bO ac hx;have g2:=bO ac hy;rw[BitVec.toNat_xor];have hm:fc b d=max b d:=co b d;exact Nat.xor_lt_two_pow (by have:=nx (x:=x) (h:=fc b d) ac ac;omega) (by have:=nx (x:=y) (h:=fc b d) ac ac;omega)
  .exact full
def pr (k:IntKind) (p:Int × Int) (z:Int):AV:=match p with
 |(a,b)=>A2 k a b z
def oy (op:BinOp) (k:IntKind) (a b c d x y:Int):Option AV:=match op with
 |.add=>some (A2 k (Int.add a c) (Int.add b d) (x+y))
 |.sub=>some (A2 k (Int.sub a d) (Int.sub b c) (x-y))
 |.mul=>some (pr k (Xd a b c d) (x*y))
 |.quo=>match ile 1 c with
  |true=>some (pr k (Zq a b c d) (x.tdiv y))
  |false=>none
 |.rem=>match ile 1 c with
  |true=>some (pr k (XW a b c d) (x.tmod y))
  |false=>none
 |.eql=>some (mkB (match ieq a b,ieq c d,ieq a c with
  |true,true,true=>false
  |_,_,_=>true) (match ile a d,ile c b with
  |true,true=>true
  |_,_=>false) (x==y))
 |.neq=>some (mkB (match ile a d,ile c b with
  |true,true=>true
  |_,_=>false) (match ieq a b,ieq c d,ieq a c with
  |true,true,true=>false
  |_,_,_=>true) (x !=y))
 |.lss=>some (mkB (ile c b) (ile (Int.add a 1) d) (decide (x<y)))
 |.leq=>some (mkB (ile (Int.add c 1) b) (ile a d) (decide (x<=y)))
 |.gtr=>some (mkB (ile a d) (ile (Int.add c 1) b) (decide (y<x)))
 |.geq=>some (mkB (ile (Int.add a 1) d) (ile c b) (decide (y<=x)))
 |.shl | .shr=>none
 |op=>some (aaF op k a b c d x y)
def qH (op:BinOp) (k k':IntKind) (a b c d x y:Int):Option AV:=match op with
 |.shl=>match ile 0 c,ile d 63 with
  |true,true=>some (pr k (Xd a b (pw c) (pw d)) (x*pw y))
  |_,_=>none
 |.shr=>match ile 0 c,ile d 63 with
  |true,true=>some (pr k (Y7 a b c d) (x / pw y))
  |_,_=>none
 |op=>match ik k k' with
  |true=>oy op k a b c d x y
  |false=>none
theorem Ok (k:IntKind) (x:Int) (y:Int) (_:y<=64):k.wrap (x*2 ^ min y.toNat k.bits)=k.wrap (x*2 ^ y.toNat):=by
 by_cases hb:y.toNat<=k.bits
 .rw[Nat.min_eq_left hb]
 .have hb':k.bits<=y.toNat:=ac;rw[Nat.min_eq_right hb'];obtain⟨d,hd⟩:=Nat.le.dest hb';rw[<-hd,Int.pow_add,<-Int.mul_assoc];have e1:(x*2 ^ k.bits) % (2 ^ k.bits:Int)=0:=Int.mul_emod_left _ _;have e2:(x*2 ^ k.bits*2 ^ d) % (2 ^ k.bits:Int)=0:=by rw[Int.mul_right_comm];exact Int.mul_emod_left _ _
  unfold IntKind.wrap;simp only[e1,e2]
theorem PU (k:IntKind) (x:Int) (y:Int) (hx:inR k x):x.fdiv (2 ^ min y.toNat k.bits)=x.fdiv (2 ^ y.toNat):=by
 by_cases hb:y.toNat<=k.bits
 .rw[Nat.min_eq_left hb]
 .have hb':k.bits<=y.toNat:=ac;rw[Nat.min_eq_right hb']
  have h0:(2:Int) ^ k.bits<=2 ^ y.toNat:=by
   have:=Nat.pow_le_pow_right (show 0<2 by decide) hb'
   exact_mod_cast this
  have hp:(0:Int)<2 ^ k.bits:=by have:=Nat.pow_pos (n:=k.bits) (show 0<2 by decide);exact_mod_cast this
  have hx' : -(2 ^ k.bits:Int)<=x/\x<2 ^ k.bits:=by cases k<;>simp only[inR,low,top]at hx<;>simp only[IntKind.bits]<;>constructor<;>omega
  rw[Int.fdiv_eq_ediv_of_nonneg _ ac,Int.fdiv_eq_ediv_of_nonneg _ ac]
  by_cases hs:0<=x
  .rw[Int.ediv_eq_zero_of_lt hs hx'.2,Int.ediv_eq_zero_of_lt hs ac]
  .have e:∀m:Int,0<m->-m<=x->x / m=-1:=λm hm hx=>by
    have h1:x / m<0:=Int.ediv_neg_of_neg_of_pos ac hm
    have h2 : -1<=x / m:=by rw[Int.le_ediv_iff_mul_le hm];omega
    omega
   rw[e _ hp hx'.1,e _ ac ac]
theorem T4 {k:IntKind} {x y:Int} (hx:inR k x):inR k (x / pw y):=by
 have p:=pZ y;have hl:low k<=0:=by cases k<;>simp[low]
 have ht:0<=top k:=by cases k<;>simp[top]
 rcases Int.le_total 0 x with h | h
 .have h1:=Int.ediv_nonneg h (show 0<=pw y by omega)
  have h2:=eo h (show(0:Int)<1 by omega) p
  rw[Int.ediv_one]at h2;exact⟨ac,by have:=hx.2;omega⟩
 .have h2:=dV h (show(0:Int)<1 by omega) p
  rw[Int.ediv_one]at h2
  have h1:x / pw y<=0:=by
   have:=Int.ediv_le_ediv (show 0<pw y by omega) h
   rwa [Int.zero_ediv]at this
  exact⟨by have:=hx.1;omega,ac⟩
theorem Od {k:IntKind} {x y:Int} (hx:inR k x):inR k (x.tmod y):=by
 have hl:low k<=0:=by cases k<;>simp[low]
 have ht:0<=top k:=by cases k<;>simp[top]
 have b:∀x:Int,0<=x->0<=x.tmod y/\x.tmod y<=x:=λx hx=>by
  rw[Int.tmod_eq_emod_of_nonneg hx]
  by_cases h0:y=0
  .subst h0;rw[Int.emod_zero];omega
  .have:=Int.emod_nonneg x h0;rcases Int.lt_or_gt_of_ne h0 with h1 | h1
   .have:=ns (y:=-y) hx ac;rw[Int.emod_neg]at this;omega
   .have:=ns (y:=y) hx h1;omega
 rcases Int.le_total 0 x with h | h
 .have:=b x h;exact⟨ac,by have:=hx.2;omega⟩
 .have h':=b (-x) ac;rw[Int.neg_tmod]at h';exact⟨by have:=hx.1;omega,ac⟩
theorem As {K:KT} {cx:Cx} {k:IntKind} {p:Int × Int} {z:Int} (h:p.1<=z/\z<=p.2):(pr k p z).is K cx (.int k (k.wrap z)):=iY h.1 h.2
theorem rV {P:Program} {K:KT} {cx:Cx} {op:BinOp} {t:TypeId} {k:IntKind} {a b c d x y:Int} {r:AV} (h:oy op k a b c d x y=some r) (h1:a<=x) (h2:x<=b) (h3:c<=y) (h4:y<=d) (hx:inR k x) (hy:inR k y) (w:World) :
 ∃v,(binOp op t (.int k x) (.int k y)).run P w=.ok v w/\r.is K cx v:=by
 have bb:∀(f g:Bool) (p:Prop) [Decidable p],(p->g=true)->(¬ p->f=true)->(mkB f g (decide p)).is K cx (.bool (decide p)):=λf g p _ hp hn=>jv (λe=>hn (of_decide_eq_false e)) (λe=>hp (of_decide_eq_true e));cases op<;>simp only[oy]at h
 case shl=>cases h
 case shr=>cases h
 case quo =>
  split at h
  .rename_i g;have g:=ile_iff.1 g;cases h;have h2':¬ y=0:=ac;exact⟨_,by simp only[binOp,ne_eq,not_true_eq_false,if_false,Op.intDiv,if_neg h2',Sem.run_pure],As (Nj h1 h2 h3 h4 g)⟩
  .cases h
 case rem =>
  split at h
  .rename_i g;have g:=ile_iff.1 g;cases h;have h2':¬ y=0:=ac;have:=As (K:=K) (cx:=cx) (k:=k) (N6 h1 h2 h3 h4 g);rw[bH (Od hx)]at this;exact⟨_,by simp only[binOp,ne_eq,not_true_eq_false,if_false,Op.intDiv,if_neg h2',Sem.run_pure],this⟩
  .cases h
 case add =>cases h;exact⟨_,by simp only[binOp,ne_eq,not_true_eq_false,if_false,Op.intArith,Sem.run_pure],iY (by show a+c<=x+y;omega) (by show x+y<=b+d;omega)⟩
 case sub =>cases h;exact⟨_,by simp only[binOp,ne_eq,not_true_eq_false,if_false,Op.intArith,Sem.run_pure],iY (by show a-d<=x-y;omega) (by show x-y<=b-c;omega)⟩
 case mul =>cases h;exact⟨_,by simp only[binOp,ne_eq,not_true_eq_false,if_false,Op.intArith,Sem.run_pure],As (xJ h1 h2 h3 h4)⟩
 case and | or | xor | andNot =>cases h;exact⟨_,by simp only[binOp,ne_eq,not_true_eq_false,if_false,Op.intBits,Sem.run_pure];rfl,MD h1 h2 h3 h4 hx hy⟩
 case eql =>
  cases h;refine⟨.bool (x==y),by simp only[binOp,ne_eq,not_true_eq_false,if_false,Op.intCmp,Sem.run_pure],?_⟩
  refine jv (λe=>?_) (λe=>?_)
  .have e:x≠y:=by simpa using e
   split
   .rename_i g1 g2 g3;have:=ieq_iff.1 g1;have:=ieq_iff.1 g2;have:=ieq_iff.1 g3;omega
   .rfl
  .have e:x=y:=by simpa using e
   rw[ile_iff.2 (by omega:a<=d),ile_iff.2 (by omega:c<=b)]
 case neq =>
  cases h;refine⟨.bool (x !=y),by simp only[binOp,ne_eq,not_true_eq_false,if_false,Op.intCmp,Sem.run_pure],?_⟩
  refine jv (λe=>?_) (λe=>?_)
  .have e:x=y:=by simpa using e
   rw[ile_iff.2 (by omega:a<=d),ile_iff.2 (by omega:c<=b)]
  .have e:x≠y:=by simpa using e
   split
   .rename_i g1 g2 g3;have:=ieq_iff.1 g1;have:=ieq_iff.1 g2;have:=ieq_iff.1 g3;omega
   .rfl
 case lss =>cases h;exact⟨.bool (decide (x<y)),by simp only[binOp,ne_eq,not_true_eq_false,if_false,Op.intCmp,Sem.run_pure],bb _ _ _ (λh=>ile_iff.2 (by show a+1<=d;omega)) (λh=>ile_iff.2 ac)⟩
 case leq =>cases h;exact⟨.bool (decide (x<=y)),by simp only[binOp,ne_eq,not_true_eq_false,if_false,Op.intCmp,Sem.run_pure],bb _ _ _ (λh=>ile_iff.2 ac) (λh=>ile_iff.2 (by show c+1<=b;omega))⟩
 case gtr =>cases h;exact⟨.bool (decide (y<x)),by simp only[binOp,ne_eq,not_true_eq_false,if_false,Op.intCmp,Sem.run_pure],bb _ _ _ (λh=>ile_iff.2 (by show c+1<=b;omega)) (λh=>ile_iff.2 ac)⟩
 case geq =>cases h;exact⟨.bool (decide (y<=x)),by simp only[binOp,ne_eq,not_true_eq_false,if_false,Op.intCmp,Sem.run_pure],bb _ _ _ (λh=>ile_iff.2 ac) (λh=>ile_iff.2 (by show a+1<=d;omega))⟩
theorem dS {P:Program} {K:KT} {cx:Cx} {op:BinOp} {t:TypeId} {k k':IntKind} {a b c d x y:Int} {r:AV} (h:qH op k k' a b c d x y=some r) (h1:a<=x) (h2:x<=b) (h3:c<=y) (h4:y<=d) (hx:inR k x) (hy:inR k' y) (w:World) :
 ∃v,(binOp op t (.int k x) (.int k' y)).run P w=.ok v w/\r.is K cx v:=by
 have rest:∀(op':BinOp),(if ik k k'=true then oy op' k a b c d x y else none)=some r->∃v,(binOp op' t (.int k x) (.int k' y)).run P w=.ok v w/\r.is K cx v:=by
  intro op' h'
  cases he:ik k k' with
  |false=>rw[he]at h';simp at h'
  |true =>rw[he,if_pos rfl]at h';have he:=dD he;subst he;exact rV h' h1 h2 h3 h4 hx hy w
 cases op<;>simp only[qH]at h
 case shl =>
  split at h
  .rename_i g1 g2;have g1:=ile_iff.1 g1;have g2:=ile_iff.1 g2;cases h;have h1':¬ y<0:=ac;refine⟨.int k (k.wrap (x*pw y)),?_,As (xJ h1 h2 (mM h3) (mM h4))⟩;simp only[binOp,Op.shift,if_neg h1',Sem.run_pure,Ok k x y ac,rA]
  .cases h
 case shr =>
  split at h
  .rename_i g1 g2;have g1:=ile_iff.1 g1;have g2:=ile_iff.1 g2;cases h;have h1':¬ y<0:=ac;have:=As (K:=K) (cx:=cx) (k:=k) (OH h1 h2 h3 h4);rw[bH (T4 hx)]at this;refine⟨.int k (x / pw y),?_,this⟩;simp only[binOp,Op.shift,if_neg h1',Sem.run_pure,PU k x y hx];rw[Int.fdiv_eq_ediv_of_nonneg _ (by rw[<-rA];have:=pZ y;omega),rA]
  .cases h
 all_goals refine rest _ ?_;rw[<-h];cases ik k k'<;>rfl
end Go.Proofs.YtldmjbgplgoedaaGreatDoor
