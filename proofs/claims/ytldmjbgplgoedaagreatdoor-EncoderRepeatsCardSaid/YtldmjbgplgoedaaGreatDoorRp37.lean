import Derived.Test.YtldmjbgplgoedaaGreatDoorRp36
set_option linter.all false
namespace Go.Proofs.YtldmjbgplgoedaaGreatDoor
noncomputable section
open Go.RowKit U
def aax (J:ae):ae:=[.i ((Nat.gcd (J 0).Z.toNat (J 1).Z.toNat:Nat):Int)]
abbrev OU:SP:=mkS ⟨[.sO (.nI .u64 0 18446744073709551615 0)],[]⟩ 228 Tryz.f228 [tXO (.nI .u64 0 18446744073709551615 0),tXO (.nI .u64 0 18446744073709551615 0)] [] [(1,.head ⟨[(0,tXO (.nI .u64 0 18446744073709551615 0)),(1,tXO (.nI .u64 0 18446744073709551615 0))],[],[]⟩)]
theorem Dp J R:TR OU J R (∃(I0:ae->Prop) (μ0:ae->Nat),I0 [.i (J 0).Z,.i (J 1).Z]/\∀l0,I0 l0-> BR ((l0 1).Z !=0) ((1<=(l0 1).Z)/\Ag I0 μ0 l0 [.i (l0 1).Z,.i (Int.tmod (l0 0).Z (l0 1).Z)]) (R [.i 0,.i (l0 0).Z])):=af
theorem Rk:PF0 OU aax:=λJ b1 b2=>⟨by
 rw[Dp];obtain⟨⟨h0,-⟩,⟨h1,-⟩,-⟩:=b1;have h0:0<=(J 0).Z:=h0;have h1:0<=(J 1).Z:=h1;refine⟨λl=>∃a b:Nat,l=[.i (a:Int),.i (b:Int)]/\Nat.gcd a b=Nat.gcd (J 0).Z.toNat (J 1).Z.toNat,λl=>(l 1).Z.toNat,⟨(J 0).Z.toNat,(J 1).Z.toNat,by rw[Int.toNat_of_nonneg h0,Int.toNat_of_nonneg h1],rfl⟩,?_⟩
 rintro l ⟨a,b,rfl,hg⟩;refine⟨λh=>?_,λh=>?_⟩
 .have h:((b:Int)!=0)=true:=h;have hb:b≠0:=λe=>by subst e;cases h
  refine⟨show(1:Int)<=(b:Int) by omega,⟨b,a % b,rfl,by rw[<-hg,Nat.gcd_comm b,<-Nat.gcd_rec,Nat.gcd_comm]⟩,?_⟩
  show(Int.tmod (a:Int) (b:Int)).toNat<(b:Int).toNat;rw[show Int.tmod (a:Int) (b:Int)=((a % b:Nat):Int)from rfl,Int.toNat_natCast,Int.toNat_natCast];exact Nat.mod_lt _ ac
 .have h:((b:Int)!=0)=false:=h
  have hb:b=0:=by
   rcases Nat.eq_zero_or_pos b with e | e
   .exact e
   .have:((b:Int)!=0)=true:=by rw[bne_iff_ne];omega
    rw[this]at h;cases h
  subst hb;refine⟨rfl,⟨?_,ah⟩,ah⟩;show(a:Int)=((Nat.gcd _ _:Nat):Int);rw[<-hg,Nat.gcd_zero_right]⟩
abbrev acT:CT:=C0 OU aax
theorem Rf:CO acT:=CX0 (TX trivial ah) Rk
def aav (J:ae):ae:=[.i ((J 0).Z.natAbs:Int)]
abbrev NY:SP:=mkS ⟨[.sO (.nI .u64 0 18446744073709551615 0)],[]⟩ 229 Tryz.f229 [gp] [] []
theorem Ep J R:TR NY J R (((decide ((J 0).Z<0))->R [.i 0,.i (IntKind.wrap .u64 (-(IntKind.wrap .u64 (J 0).Z)))])/\((decide ((J 0).Z<0))=false-> R [.i 0,.i (IntKind.wrap .u64 (J 0).Z)])):=af
theorem Xk:PF0 NY aav:=λJ b1 b2=>⟨by
 rw[Ep];obtain⟨⟨h0,h1⟩,-⟩:=b1;refine⟨λh=>?_,λh=>?_⟩
 .have h:=of_decide_eq_true h;refine⟨rfl,⟨?_,ah⟩,ah⟩;show IntKind.wrap .u64 (-(IntKind.wrap .u64 (J 0).Z))=((J 0).Z.natAbs:Int);have h0 : -9223372036854775808<=(J 0).Z:=h0;have h1:(J 0).Z<=9223372036854775807:=h1;generalize (J 0).Z=z at *
  simp[IntKind.wrap,IntKind.bits,IntKind.signed]
  omega
 .have h:=of_decide_eq_false h;refine⟨rfl,⟨?_,ah⟩,ah⟩;show IntKind.wrap .u64 (J 0).Z=((J 0).Z.natAbs:Int);have h1:(J 0).Z<=9223372036854775807:=h1;generalize (J 0).Z=z at *
  simp[IntKind.wrap,IntKind.bits,IntKind.signed]
  omega⟩
abbrev ad6:CT:=C0 NY aav
theorem QZ:CO ad6:=CX0 (TX trivial ah) Xk
def rvB (n d:Int):Bool:=decide (1<=d/\-9223372036854775808<n/\Nat.gcd n.natAbs d.toNat=1)
def QI (J:ae):ae:=[.b (rvB (J 0).Z (J 1).Z)]
abbrev FG:SP:=mkS ⟨[bm],[]⟩ 153 Tryz.f153 [.tX (.sA YI)] [] [] [ad6,acT]
theorem G6 J R:TR FG J R (((decide (1<=(J 1).Z))->((decide ((-9223372036854775808)<(J 0).Z))->((decide (1<=(J 1).Z))=true)/\((decide ((-9223372036854775808)<(J 0).Z))=true)/\let x0:ae:=[.i (J 0).Z];let x1:ae:=aav x0;let x2:ae:=[.i (x1 0).Z,.i (IntKind.wrap .u64 (J 1).Z)];let x3:ae:=aax x2;R [.i 0,.b ((x3 0).Z==1)])/\((decide ((-9223372036854775808)<(J 0).Z))=false->((decide (1<=(J 1).Z))=true)/\((decide ((-9223372036854775808)<(J 0).Z))=false)/\R [.i 0,.b false]))/\((decide (1<=(J 1).Z))=false-> ((decide (1<=(J 1).Z))=false)/\R [.i 0,.b false])):=af
theorem Um:PF0 FG QI:=λJ b1 b2=>⟨by
 rw[G6];dsimp only;obtain⟨⟨h0,h1,-⟩,-⟩:=b1;have h0 : -9223372036854775808<=(J 0).Z/\(J 0).Z<=9223372036854775807:=h0;have h1 : -9223372036854775808<=(J 1).Z/\(J 1).Z<=9223372036854775807:=h1;have key:∀b:Bool,b=rvB (J 0).Z (J 1).Z->(hd [.i 0,.b b]).Z=0/\agW KX FG.Y (tl [.i 0,.b b]) (QI J):=λb e=>⟨rfl,⟨e,ah⟩,ah⟩;refine⟨λh=>⟨λh'=>⟨h,h',key _ ?_⟩,λh'=>⟨h,h',key _ ?_⟩⟩,λh=>⟨h,key _ ?_⟩⟩
 .have h:=of_decide_eq_true h;have h':=of_decide_eq_true h';show(((Nat.gcd ((J 0).Z.natAbs:Int).toNat (IntKind.wrap .u64 (J 1).Z).toNat:Nat):Int)==1)=_;rw[bH (k:=.u64) (x:=(J 1).Z) ⟨show(0:Int)<=_ by omega,show _<=(18446744073709551615:Int) by omega⟩,Int.toNat_natCast]
  unfold rvB;rw[Bool.eq_iff_iff,beq_iff_eq,decide_eq_true_eq];omega
 .have h':=of_decide_eq_false h';unfold rvB;exact(decide_eq_false λe=>h' e.2.1).symm
 .have h:=of_decide_eq_false h;unfold rvB;exact(decide_eq_false λe=>h e.1).symm⟩
abbrev ac2:CT:=C0 FG QI
theorem Uw:CO ac2:=CX0 (TX ⟨QZ,Rf,ah⟩ ah) Um
structure VS (W H n d:Int) (il:Bool) (br bf:Int) (x y:Nat->Int):Prop where
 hW:16<=W/\W<=64/\W % 16=0
 hH:16<=H/\H<=64/\H % 16=0
 hil:il=true->H % 32=0
 hrate:rvB n d=true
 hnum:1<=n/\n<=1048576/\d<=65536
 hbr:1<=br/\br<=16777216
 hbf:1<=bf/\bf<=8388608
 room:3*d*br+32*n<=2*n*bf
 hx:vmP x
 hy:vmP y
instance (W H n d:Int) (il:Bool) (br bf:Int) (x y:Nat->Int):Decidable (VS W H n d il br bf x y) :=decidable_of_iff ((16<=W/\W<=64/\W % 16=0)/\(16<=H/\H<=64/\H % 16=0)/\(il=true->H % 32=0)/\rvB n d=true/\(1<=n/\n<=1048576/\d<=65536)/\(1<=br/\br<=16777216)/\(1<=bf/\bf<=8388608)/\3*d*br+32*n<=2*n*bf/\vmP x/\vmP y) ⟨λ⟨a,b,c,d,e,f,g,h,i,j⟩=>⟨a,b,c,d,e,f,g,h,i,j⟩,λ⟨a,b,c,d,e,f,g,h,i,j⟩=>⟨a,b,c,d,e,f,g,h,i,j⟩⟩
def vsB (J:ae) (o:Nat):Bool:=decide (VS (J o).Z (J (o+1)).Z (J (o+2)).Z (J (o+3)).Z (J (o+4)).X (J (o+5)).Z (J (o+6)).Z (J (o+7)).F (J (o+8)).F)
def IT (J:ae):ae:=[.b (vsB J 0)]
abbrev yS:SP:=mkS ⟨[bm],[]⟩ 81 Tryz.f81 [.tX (.sA Zf)] [] [] [ac2,aeH,Oq] [(aw 152 Tryz.f152)]
theorem BQ J R:TR yS J R (((decide (16<=(J 0).Z))->((decide ((J 0).Z<=64))->((!((Int.tmod (J 0).Z 16)==0))->R [.i 0,.b false])/\((!((Int.tmod (J 0).Z 16)==0))=false->((decide (16<=(J 1).Z))->((decide ((J 1).Z<=64))->((!((Int.tmod (J 1).Z 16)==0))->R [.i 0,.b false])/\((!((Int.tmod (J 1).Z 16)==0))=false->((J 4).X->(((Int.tmod (J 1).Z 32)!=0)->R [.i 0,.b false])/\(((Int.tmod (J 1).Z 32)!=0)=false->let x0:ae:=[.i (J 2).Z,.i (J 3).Z];let x1:ae:=QI x0;((!(x1 0).X)->R [.i 0,.b false])/\((!(x1 0).X)=false->((decide ((J 2).Z<1))->R [.i 0,.b false])/\((decide ((J 2).Z<1))=false->((decide (1048576<(J 2).Z))->R [.i 0,.b false])/\((decide (1048576<(J 2).Z))=false->((decide (65536<(J 3).Z))->R [.i 0,.b false])/\((decide (65536<(J 3).Z))=false->((decide ((J 5).Z<1))->R [.i 0,.b false])/\((decide ((J 5).Z<1))=false->((decide (16777216<(J 5).Z))->R [.i 0,.b false])/\((decide (16777216<(J 5).Z))=false->((decide ((J 6).Z<1))->R [.i 0,.b false])/\((decide ((J 6).Z<1))=false->((decide (8388608<(J 6).Z))->R [.i 0,.b false])/\((decide (8388608<(J 6).Z))=false->((decide ((IntKind.wrap .i64 ((IntKind.wrap .i64 (2*(J 2).Z))*(J 6).Z))<(IntKind.wrap .i64 ((IntKind.wrap .i64 ((IntKind.wrap .i64 (3*(J 3).Z))*(J 5).Z))+(IntKind.wrap .i64 (32*(J 2).Z))))))->R [.i 0,.b false])/\((decide ((IntKind.wrap .i64 ((IntKind.wrap .i64 (2*(J 2).Z))*(J 6).Z))<(IntKind.wrap .i64 ((IntKind.wrap .i64 ((IntKind.wrap .i64 (3*(J 3).Z))*(J 5).Z))+(IntKind.wrap .i64 (32*(J 2).Z))))))=false->let x2:ae:=[.f (J 7).F];let x3:ae:=Cq x2;((x3 0).X->let x4:ae:=[.f (J 8).F];let x5:ae:=Cq x4;R [.i 0,.b (x5 0).X])/\((x3 0).X=false->R [.i 0,.b false]))))))))))))/\((J 4).X=false->let x0:ae:=[.i (J 2).Z,.i (J 3).Z];let x1:ae:=QI x0;((!(x1 0).X)->R [.i 0,.b false])/\((!(x1 0).X)=false->((decide ((J 2).Z<1))->R [.i 0,.b false])/\((decide ((J 2).Z<1))=false->((decide (1048576<(J 2).Z))->R [.i 0,.b false])/\((decide (1048576<(J 2).Z))=false->((decide (65536<(J 3).Z))->R [.i 0,.b false])/\((decide (65536<(J 3).Z))=false->((decide ((J 5).Z<1))->R [.i 0,.b false])/\((decide ((J 5).Z<1))=false->((decide (16777216<(J 5).Z))->R [.i 0,.b false])/\((decide (16777216<(J 5).Z))=false->((decide ((J 6).Z<1))->R [.i 0,.b false])/\((decide ((J 6).Z<1))=false->((decide (8388608<(J 6).Z))->R [.i 0,.b false])/\((decide (8388608<(J 6).Z))=false->((decide ((IntKind.wrap .i64 ((IntKind.wrap .i64 (2*(J 2).Z))*(J 6).Z))<(IntKind.wrap .i64 ((IntKind.wrap .i64 ((IntKind.wrap .i64 (3*(J 3).Z))*(J 5).Z))+(IntKind.wrap .i64 (32*(J 2).Z))))))->R [.i 0,.b false])/\((decide ((IntKind.wrap .i64 ((IntKind.wrap .i64 (2*(J 2).Z))*(J 6).Z))<(IntKind.wrap .i64 ((IntKind.wrap .i64 ((IntKind.wrap .i64 (3*(J 3).Z))*(J 5).Z))+(IntKind.wrap .i64 (32*(J 2).Z))))))=false->let x2:ae:=[.f (J 7).F];let x3:ae:=Cq x2;((x3 0).X->let x4:ae:=[.f (J 8).F];let x5:ae:=Cq x4;R [.i 0,.b (x5 0).X])/\((x3 0).X=false->R [.i 0,.b false])))))))))))))/\((decide ((J 1).Z<=64))=false->R [.i 0,.b false]))/\((decide (16<=(J 1).Z))=false->R [.i 0,.b false])))/\((decide ((J 0).Z<=64))=false->R [.i 0,.b false]))/\((decide (16<=(J 0).Z))=false-> R [.i 0,.b false])):=af
theorem i9 {x:Int} (h:0<=x) (n:Int):Int.tmod x n=x % n:=Int.tmod_eq_emod_of_nonneg h
theorem M7 {n bf d br:Int} (h1:1<=n) (h2:n<=1048576) (h3:1<=bf) (h4:bf<=8388608) (h5:1<=d) (h6:d<=65536) (h7:1<=br) (h8:br<=16777216):(0<=2*n*bf/\2*n*bf<=17592186044416)/\0<=3*d*br/\3*d*br<=3298534883328:=by have a:2*n*bf<=2*1048576*8388608:=Int.mul_le_mul ac h4 ac ac;have b:3*d*br<=3*65536*16777216:=Int.mul_le_mul ac h8 ac ac;have c:0<=2*n*bf:=Int.mul_nonneg ac ac;have e:0<=3*d*br:=Int.mul_nonneg ac ac;omega
theorem QC {n d:Int} (h:rvB n d=true):1<=d:=(of_decide_eq_true h).1
theorem fJ {n bf d br:Int} {b:Bool} (h1:1<=n) (h2:n<=1048576) (h3:1<=bf) (h4:bf<=8388608) (h5:1<=d) (h6:d<=65536) (h7:1<=br) (h8:br<=16777216) (h:decide ((IntKind.wrap .i64 ((IntKind.wrap .i64 (2*n))*bf))<(IntKind.wrap .i64 ((IntKind.wrap .i64 ((IntKind.wrap .i64 (3*d))*br))+(IntKind.wrap .i64 (32*n)))))=b):decide (2*n*bf<3*d*br+32*n)=b:=by obtain⟨⟨a,b⟩,c,e⟩:=M7 h1 h2 h3 h4 h5 h6 h7 h8;rw[aX (x:=2*n) ac ac,aX (x:=3*d) ac ac,aX (x:=32*n) ac ac,aX (x:=2*n*bf) ac ac,aX (x:=3*d*br) ac ac,aX ac ac]at h;exact h
theorem RJ:PF0 yS IT:=λJ b1 b2=>⟨by
 rw[BQ];dsimp only;have key:∀b:Bool,b=decide (VS (J 0).Z (J 1).Z (J 2).Z (J 3).Z (J 4).X (J 5).Z (J 6).Z (J 7).F (J 8).F)->(hd [.i 0,.b b]).Z=0/\agW KX yS.Y (tl [.i 0,.b b]) (IT J):=λb e=>⟨rfl,⟨e,ah⟩,ah⟩;have keyF:(VS (J 0).Z (J 1).Z (J 2).Z (J 3).Z (J 4).X (J 5).Z (J 6).Z (J 7).F (J 8).F->False)->(hd [.i 0,.b false]).Z=0/\agW KX yS.Y (tl [.i 0,.b false]) (IT J):=λh=>key _ (decide_eq_false h).symm;have q1:((QI [.i (J 2).Z,.i (J 3).Z]) 0).X=rvB (J 2).Z (J 3).Z:=rfl;have q2:((Cq [.f (J 7).F]) 0).X=decide (vmP (J 7).F):=rfl;have q3:((Cq [.f (J 8).F]) 0).X=decide (vmP (J 8).F):=rfl;rw[q1,q2,q3];clear q1 q2 q3;generalize (J 0).Z=W at *;generalize (J 1).Z=H at *;generalize (J 2).Z=n at *;generalize (J 3).Z=d at *;generalize (J 5).Z=br at *;generalize (J 6).Z=bf at *;generalize (J 4).X=il at *;generalize (J 7).F=x at *;generalize (J 8).F=y at *;clear b1 b2;refine⟨λa1=>?_,λa1=>keyF λv=>of_decide_eq_false a1 v.hW.1⟩;have a1:=of_decide_eq_true a1;refine⟨λa2=>?_,λa2=>keyF λv=>of_decide_eq_false a2 v.hW.2.1⟩;have a2:=of_decide_eq_true a2;rw[i9 (x:=W) ac];refine⟨λa=>keyF λv=>?_,λa3=>?_⟩
 .rw[v.hW.2.2]at a;cases a
 have a3:W % 16=0:=by simpa using a3
 refine⟨λa4=>?_,λa=>keyF λv=>of_decide_eq_false a v.hH.1⟩;have a4:=of_decide_eq_true a4;refine⟨λa5=>?_,λa=>keyF λv=>of_decide_eq_false a v.hH.2.1⟩;have a5:=of_decide_eq_true a5;rw[i9 (x:=H) ac,i9 (x:=H) ac];refine⟨λa=>keyF λv=>?_,λa6=>?_⟩
 .rw[v.hH.2.2]at a;cases a
 have a6:H % 16=0:=by simpa using a6
 refine⟨λi=>⟨λa=>keyF λv=>?_,λa7=>?_⟩,λi=>?_⟩
 .rw[v.hil i]at a;cases a
 .have a7:il=true->H % 32=0:=λ_=>by simpa using a7
  refine⟨λa=>keyF λv=>?_,λa8=>?_⟩
  .rw[v.hrate]at a;cases a
  have a8:rvB n d=true:=by simpa using a8
  have d1:=QC a8;refine⟨λa=>keyF λv=>by have:=of_decide_eq_true a;have:=v.hnum;omega,λa9=>?_⟩
  have a9:=of_decide_eq_false a9;refine⟨λa=>keyF λv=>by have:=of_decide_eq_true a;have:=v.hnum;omega,λa10=>?_⟩
  have a10:=of_decide_eq_false a10;refine⟨λa=>keyF λv=>by have:=of_decide_eq_true a;have:=v.hnum;omega,λa11=>?_⟩
  have a11:=of_decide_eq_false a11;refine⟨λa=>keyF λv=>by have:=of_decide_eq_true a;have:=v.hbr;omega,λa12=>?_⟩
  have a12:=of_decide_eq_false a12;refine⟨λa=>keyF λv=>by have:=of_decide_eq_true a;have:=v.hbr;omega,λa13=>?_⟩
  have a13:=of_decide_eq_false a13;refine⟨λa=>keyF λv=>by have:=of_decide_eq_true a;have:=v.hbf;omega,λa14=>?_⟩
  have a14:=of_decide_eq_false a14;refine⟨λa=>keyF λv=>by have:=of_decide_eq_true a;have:=v.hbf;omega,λa15=>?_⟩
  have a15:=of_decide_eq_false a15;refine⟨λa=>keyF λv=>?_,λa16=>?_⟩
  .have a:=of_decide_eq_true (fJ ac ac ac ac ac ac ac ac a);have:=v.room;omega
  have a16:=of_decide_eq_false (fJ ac ac ac ac ac ac ac ac a16);refine⟨λa17=>key _ ?_,λa=>keyF λv=>of_decide_eq_false a v.hx⟩;have a17:=of_decide_eq_true a17;exact decide_eq_decide.2 ⟨λhy=>⟨⟨a1,a2,a3⟩,⟨a4,a5,a6⟩,a7,a8,⟨ac,ac,ac⟩,⟨ac,ac⟩,⟨ac,ac⟩,ac,a17,hy⟩,λv=>v.hy⟩
 .have a7:il=true->H % 32=0:=λh=>by rw[i]at h;cases h
  refine⟨λa=>keyF λv=>?_,λa8=>?_⟩
  .rw[v.hrate]at a;cases a
  have a8:rvB n d=true:=by simpa using a8
  have d1:=QC a8;refine⟨λa=>keyF λv=>by have:=of_decide_eq_true a;have:=v.hnum;omega,λa9=>?_⟩
  have a9:=of_decide_eq_false a9;refine⟨λa=>keyF λv=>by have:=of_decide_eq_true a;have:=v.hnum;omega,λa10=>?_⟩
  have a10:=of_decide_eq_false a10;refine⟨λa=>keyF λv=>by have:=of_decide_eq_true a;have:=v.hnum;omega,λa11=>?_⟩
  have a11:=of_decide_eq_false a11;refine⟨λa=>keyF λv=>by have:=of_decide_eq_true a;have:=v.hbr;omega,λa12=>?_⟩
  have a12:=of_decide_eq_false a12;refine⟨λa=>keyF λv=>by have:=of_decide_eq_true a;have:=v.hbr;omega,λa13=>?_⟩
  have a13:=of_decide_eq_false a13;refine⟨λa=>keyF λv=>by have:=of_decide_eq_true a;have:=v.hbf;omega,λa14=>?_⟩
  have a14:=of_decide_eq_false a14;refine⟨λa=>keyF λv=>by have:=of_decide_eq_true a;have:=v.hbf;omega,λa15=>?_⟩
  have a15:=of_decide_eq_false a15;refine⟨λa=>keyF λv=>?_,λa16=>?_⟩
  .have a:=of_decide_eq_true (fJ ac ac ac ac ac ac ac ac a);have:=v.room;omega
  have a16:=of_decide_eq_false (fJ ac ac ac ac ac ac ac ac a16);refine⟨λa17=>key _ ?_,λa=>keyF λv=>of_decide_eq_false a v.hx⟩;have a17:=of_decide_eq_true a17;exact decide_eq_decide.2 ⟨λhy=>⟨⟨a1,a2,a3⟩,⟨a4,a5,a6⟩,a7,a8,⟨ac,ac,ac⟩,⟨ac,ac⟩,⟨ac,ac⟩,ac,a17,hy⟩,λv=>v.hy⟩⟩
abbrev YE:CT:=C0 yS IT
theorem xw:CO YE:=CX0 (TX ⟨Uw,W8,lW,ah⟩ (FK ah)) RJ
end
end Go.Proofs.YtldmjbgplgoedaaGreatDoor
namespace Go.Proofs.YtldmjbgplgoedaaGreatDoor
noncomputable section
open Go.RowKit U
def cvB (J:ae) (o:Nat):Bool:=decide ((0<=(J (o+2)).Z/\(J (o+2)).Z<=1023)/\(1<=(J o).Z/\(J o).Z<=3)/\1<=(J (o+1)).Z/\(J (o+1)).Z<=3)
def SK (J:ae):ae:=[.b (cvB J 0)]
abbrev FZ:SP:=mkS ⟨[bm],[]⟩ 82 Tryz.f82 [.tX (.sA ac6)] [] []
theorem GK J R:TR FZ J R (BR (decide (0<=(J 2).Z)) (BR (decide ((J 2).Z<=1023)) (BR (decide (1<=(J 0).Z)) (BR (decide ((J 0).Z<=3)) (BR (decide (1<=(J 1).Z)) (R [.i 0,.b (decide ((J 1).Z<=3))]) (R [.i 0,.b false])) (R [.i 0,.b false])) (R [.i 0,.b false])) (R [.i 0,.b false])) (R [.i 0,.b false])):=af
theorem XL:PF0 FZ SK:=λJ b1 b2=>⟨by rw[GK];have key:∀b:Bool,b=cvB J 0->(hd [.i 0,.b b]).Z=0/\agW KX FZ.Y (tl [.i 0,.b b]) (SK J):=λb e=>⟨rfl,⟨e,ah⟩,ah⟩;have keyF:=λh=>key false (decide_eq_false h).symm;clear b1 b2;refine⟨λa1=>⟨λa2=>⟨λa3=>⟨λa4=>⟨λa5=>key _ ?_,λa=>keyF λv=>of_decide_eq_false a v.2.2.1⟩,λa=>keyF λv=>of_decide_eq_false a v.2.1.2⟩,λa=>keyF λv=>of_decide_eq_false a v.2.1.1⟩,λa=>keyF λv=>of_decide_eq_false a v.1.2⟩,λa=>keyF λv=>of_decide_eq_false a v.1.1⟩;exact decide_eq_decide.2 ⟨λh=>⟨⟨of_decide_eq_true a1,of_decide_eq_true a2⟩,⟨of_decide_eq_true a3,of_decide_eq_true a4⟩,of_decide_eq_true a5,h⟩,λv=>v.2.2.2⟩⟩
abbrev aet:CT:=C0 FZ SK
theorem U4:CO aet:=CX0 (TX trivial ah) XL
def pvB (J:ae) (o p:Nat):Bool:=vsB J o&&(cvB J p&&((J (o+4)).X||((J (p+1)).Z==3&&((J (p+3)).X&&!(J (p+4)).X))))
def JL (J:ae):ae:=[.b (pvB J 0 9)]
abbrev GP:SP:=mkS ⟨[bm],[]⟩ 31 Tryz.f31 [.tX (.sA Zf),.tX (.sA ac6)] [] [] [YE,aet]
theorem Ct J R:TR GP J R (let x0:ae:=[.i (J 0).Z,.i (J 1).Z,.i (J 2).Z,.i (J 3).Z,.b (J 4).X,.i (J 5).Z,.i (J 6).Z,.f (J 7).F,.f (J 8).F];let x1:ae:=IT x0;((!(x1 0).X)->R [.i 0,.b false])/\((!(x1 0).X)=false->let x2:ae:=[.i (J 9).Z,.i (J 10).Z,.i (J 11).Z,.b (J 12).X,.b (J 13).X,.b (J 14).X];let x3:ae:=SK x2;((!(x3 0).X)->R [.i 0,.b false])/\((!(x3 0).X)=false->((J 4).X->R [.i 0,.b true])/\((J 4).X=false->(((J 10).Z==3)->((J 12).X->R [.i 0,.b (!(J 13).X)])/\((J 12).X=false->R [.i 0,.b false]))/\(((J 10).Z==3)=false-> R [.i 0,.b false]))))):=af
theorem Ru:PF0 GP JL:=λJ b1 b2=>⟨by rw[Ct];dsimp only;have key:∀b:Bool,b=(vsB J 0&&(cvB J 9&&((J 4).X||((J 10).Z==3&&((J 12).X&&!(J 13).X)))))->(hd [.i 0,.b b]).Z=0/\agW KX GP.Y (tl [.i 0,.b b]) (JL J):=λb e=>⟨rfl,⟨e,ah⟩,ah⟩;have e1:((IT [.i (J 0).Z,.i (J 1).Z,.i (J 2).Z,.i (J 3).Z,.b (J 4).X,.i (J 5).Z,.i (J 6).Z,.f (J 7).F,.f (J 8).F]) 0).X=vsB J 0:=af;have e2:((SK [.i (J 9).Z,.i (J 10).Z,.i (J 11).Z,.b (J 12).X,.b (J 13).X,.b (J 14).X]) 0).X=cvB J 9:=af;rw[e1,e2];clear e1 e2 b1 b2;generalize vsB J 0=a at *;generalize cvB J 9=b at *;generalize (J 4).X=c at *;generalize ((J 10).Z==3)=d at *;generalize (J 12).X=e at *;cases a<;>cases b<;>cases c<;>cases d<;>cases e<;>(refine⟨λh=>?_,λh=>?_⟩<;>first|(cases h;done) | exact key _ rfl | (refine⟨λh=>?_,λh=>?_⟩<;>first|(cases h;done) | exact key _ rfl | (refine⟨λh=>?_,λh=>?_⟩<;>first|(cases h;done) | exact key _ rfl | (refine⟨λh=>?_,λh=>?_⟩<;>first|(cases h;done) | exact key _ rfl | (refine⟨λh=>?_,λh=>?_⟩<;>first|(cases h;done) | exact key _ rfl)))))⟩
abbrev Ze:CT:=C0 GP JL
theorem z8:CO Ze:=CX0 (TX ⟨xw,U4,ah⟩ ah) Ru
theorem pvK (J:ae):((JL (cw J 0 15 k3)) 0).X=pvB J 0 9:=af
def ftB (J:ae) (o p q:Nat):Bool:=pvB J o p&&!((J q).X&&(J (p+1)).Z==3)
def Oc (J:ae):ae:=[.b (ftB J 0 9 15)]
abbrev Bk:SP:=mkS ⟨[bm],[]⟩ 156 Tryz.f156 [.tX (.sA Zf),.tX (.sA ac6),aN] [] [] [Ze]
theorem BG J R:TR Bk J R (let x0:ae:=(cw J 0 15 k3);let x1:ae:=JL x0;((x1 0).X->((J 15).X->R [.i 0,.b (!((J 10).Z==3))])/\((J 15).X=false->R [.i 0,.b true]))/\((x1 0).X=false-> R [.i 0,.b false])):=af
theorem SJ:PF0 Bk Oc:=λJ b1 b2=>⟨by rw[BG];dsimp only;have key:∀b:Bool,b=(pvB J 0 9&&!((J 15).X&&(J 10).Z==3))->(hd [.i 0,.b b]).Z=0/\agW KX Bk.Y (tl [.i 0,.b b]) (Oc J):=λb e=>⟨rfl,⟨e,ah⟩,ah⟩;rw[pvK];clear b1 b2;generalize pvB J 0 9=a at *;generalize (J 15).X=c at *;generalize ((J 10).Z==3)=d at *;cases a<;>cases c<;>cases d<;>(refine⟨λh=>?_,λh=>?_⟩<;>first|(cases h;done) | exact key _ rfl | (refine⟨λh=>?_,λh=>?_⟩<;>first|(cases h;done) | exact key _ rfl))⟩
abbrev Yr:CT:=C0 Bk Oc
theorem xR:CO Yr:=CX0 (TX ⟨z8,ah⟩ ah) SJ
def rwZ (J:ae) (o p:Nat):Int:=bif pvB J o p then(bif (J (p+1)).Z==3 then Int.tdiv (J (o+1)).Z 16 else Int.tdiv (Int.tdiv (J (o+1)).Z 2) 16)else 0
def GY (J:ae):ae:=[.i (rwZ J 0 9)]
abbrev DU:SP:=mkS ⟨[aD 0 4],[]⟩ 33 Tryz.f33 [.tX (.sA Zf),.tX (.sA ac6)] [] [] [Ze] [(aw 83 Tryz.f83)]
theorem BN J R:TR DU J R (let x0:ae:=(cw J 0 15 k3);let x1:ae:=JL x0;((!(x1 0).X)->R [.i 0,.i 0])/\((!(x1 0).X)=false->(((J 10).Z==3)->(0<=(Int.tdiv (J 1).Z 16))/\((Int.tdiv (J 1).Z 16)<=4)/\R [.i 0,.i (Int.tdiv (J 1).Z 16)])/\(((J 10).Z==3)=false-> (0<=(Int.tdiv (Int.tdiv (J 1).Z 2) 16))/\((Int.tdiv (Int.tdiv (J 1).Z 2) 16)<=4)/\R [.i 0,.i (Int.tdiv (Int.tdiv (J 1).Z 2) 16)]))):=af
theorem Lz {J:ae} {o p:Nat} (h:pvB J o p=true):VS (J o).Z (J (o+1)).Z (J (o+2)).Z (J (o+3)).Z (J (o+4)).X (J (o+5)).Z (J (o+6)).Z (J (o+7)).F (J (o+8)).F:=of_decide_eq_true (Bool.and_eq_true_iff.1 h).1
theorem Uo:PF0 DU GY:=λJ b1 b2=>⟨by
 rw[BN];dsimp only;have key:∀b:Int,b=(bif pvB J 0 9 then(bif (J 10).Z==3 then Int.tdiv (J 1).Z 16 else Int.tdiv (Int.tdiv (J 1).Z 2) 16)else 0)->(hd [.i 0,.i b]).Z=0/\agW KX DU.Y (tl [.i 0,.i b]) (GY J):=λb e=>⟨rfl,⟨e,ah⟩,ah⟩
 rw[pvK];clear b1 b2;refine⟨λh=>key _ ?_,λh=>?_⟩
 .have h:pvB J 0 9=false:=by simpa using h
  rw[h];rfl
 .have h:pvB J 0 9=true:=by simpa using h
  have v:16<=(J 1).Z/\(J 1).Z<=64/\(J 1).Z % 16=0:=(Lz h).hH;rw[h]at key;generalize (J 1).Z=H at *;rw[Int.tdiv_eq_ediv_of_nonneg (a:=H) (b:=16) ac,Int.tdiv_eq_ediv_of_nonneg (a:=H) (b:=2) ac,Int.tdiv_eq_ediv_of_nonneg (a:=H / 2) (b:=16) ac]at *;refine⟨λh'=>⟨ac,ac,key _ (by rw[h'];rfl)⟩,λh'=>⟨ac,ac,key _ (by rw[h'];rfl)⟩⟩⟩
abbrev Yh:CT:=C0 DU GY
theorem xp:CO Yh:=CX0 (TX ⟨z8,ah⟩ (FK ah)) Uo
end
end Go.Proofs.YtldmjbgplgoedaaGreatDoor
namespace Go.Proofs.YtldmjbgplgoedaaGreatDoor
noncomputable section
open Go.RowKit U
def K8 (B:Nat->Int) (n:Nat):Nat->ae:=ch (gV B n 1 1) (n+1)
theorem L6 {n:Nat}:(128:Int) / pw ((n % 8:Nat):Int)=2 ^ (7-n % 8):=by rw[rA,Int.toNat_natCast];have:n % 8<8:=Nat.mod_lt _ afH;rcases(show n % 8=0\/n % 8=1\/n % 8=2\/n % 8=3\/n % 8=4\/n % 8=5\/n % 8=6\/n % 8=7 by omega)with e | e | e | e | e | e | e | e<;>rw[e]<;>rfl
theorem PK {g:Nat->ae} {n N:Nat} (h:Packed g (aR g) n N):∀i,i<n / 8+1->(at_ (upd (jD 0 (min N (n / 8+1)) g λ_=>[.i 0]) (n / 8) [.i (aI .or .u8 (at_ (jD 0 (min N (n / 8+1)) g (λ_=>[.i 0]) (n / 8)) 0).Z (128 / pw ((n % 8:Nat):Int)))] i) 0).Z=jj (gV (aR g) n 1 1) (n+1) i:=by
 have hB:Bit (gV (aR g) n 1 1):=fP (bw g)
 have hn:gV (aR g) n 1 1 n=1:=by
  unfold gV;rw[if_neg ac,show n+1-1-n=0 by omega]
  rfl
 have hx:(128:Int) / pw ((n % 8:Nat):Int)=gV (aR g) n 1 1 n*2 ^ (7-n % 8):=by rw[L6,hn,Int.one_mul]
 have hp:Packed g (gV (aR g) n 1 1) n N:=h.agree λp hp=>by unfold gV;rw[if_pos hp]
 have hN:=h.1;intro i hi
 by_cases e8:n % 8=0
 .have q:=(hp.more hB e8 hx).2 i ac
  have hk:∀j,j<n / 8+1->jD 0 (min N (n / 8+1)) g (λ_=>[.i 0]) j=aE N g (λ_=>[.i 0]) j:=λj hj=>by
   unfold jD aE
   by_cases h1:j<N
   .rw[if_pos ac,if_pos h1,Nat.sub_zero]
   .rw[if_neg ac,if_neg h1]
  rw[<-q];unfold upd;rw[hk _ ac]
  by_cases h2:i=n / 8
  .rw[if_pos h2,if_pos h2]
  .rw[if_neg h2,if_neg h2,hk i hi]
 .have q:=(hp.add hB e8 hx).2 i ac
  have hk:∀j,j<n / 8+1->jD 0 (min N (n / 8+1)) g (λ_=>[.i 0]) j=g j:=λj hj=>by unfold jD;rw[if_pos ac,Nat.sub_zero]
  rw[<-q];unfold upd;rw[hk _ ac]
  by_cases h2:i=n / 8
  .rw[if_pos h2,if_pos h2]
  .rw[if_neg h2,if_neg h2,hk i hi]
def KH (J:ae):Prop:=WrP J 0 0
def wi (J:ae):ae:=[.l ((J 1).Z.toNat / 8+1) (K8 (aR (J 2).G) (J 1).Z.toNat)]
abbrev Do:SP:=mkS ⟨[.sO (.nR 0 1 1048576 0 g0)],[.run 349 Qh,.dyn 5 0 0 1000000 0 g0 false]⟩ 184 Tryz.f184 [tXO (.nP 0 0)] [.run 349 Qh,.dyn 5 0 0 1000000 0 g0 false] []
theorem EP J R:TR Do J R ((((J 0).O+(J 0).N)<=(J 2).N)/\((0+((Int.tdiv (J 1).Z 8)+1).toNat)<=((Int.tdiv (J 1).Z 8)+1).toNat)/\((Int.tdiv (J 1).Z 8)<((((Int.tdiv (J 1).Z 8)+1).toNat:Nat):Int))/\((0+(Int.tdiv (J 1).Z 8).toNat)<((Int.tdiv (J 1).Z 8)+1).toNat)/\((Int.tdiv (J 1).Z 8)<((((Int.tdiv (J 1).Z 8)+1).toNat:Nat):Int))/\((0+(Int.tdiv (J 1).Z 8).toNat)<((Int.tdiv (J 1).Z 8)+1).toNat)/\((0+((Int.tdiv (J 1).Z 8)+1).toNat)<=((Int.tdiv (J 1).Z 8)+1).toNat)/\let k0:=jD 0 (min (J 0).N ((Int.tdiv (J 1).Z 8)+1).toNat) (λi0=>(J 2).G (i0+(J 0).O)) (λ_=>[.i 0]);R (ak [.i 0,.l ((Int.tdiv (J 1).Z 8)+1).toNat (λi1=>(upd k0 (0+(Int.tdiv (J 1).Z 8).toNat) [.i (aI .or .u8 ((k0 (0+(Int.tdiv (J 1).Z 8).toNat)) 0).Z (128 / (pw (Int.tmod (J 1).Z 8))))]) (0+i1))] (cw J 0 3 269))):=af
theorem Ty:PFk Do [true,true] [] KH wi:=λJ b1 b2 ⟨p1,p2,p3,p4⟩=>⟨by
 rw[EP];dsimp only;obtain⟨⟨-,⟨h0,-⟩,-⟩,-⟩:=b2;have h0:0<=(J 1).Z:=h0;obtain⟨n,hn⟩:=Int.eq_ofNat_of_zero_le h0;have hn':(J 1).Z.toNat=n:=by rw[hn];rfl
 have p3:Packed (J 2).G (aR (J 2).G) n (J 2).N:=by rw[<-hn'];exact p3
 have p2:(J 0).N=(J 2).N:=p2;have p1:(J 0).O=0:=p1;have e1:Int.tdiv (J 1).Z 8=((n / 8:Nat):Int):=by rw[hn];rfl
 have e2:Int.tmod (J 1).Z 8=((n % 8:Nat):Int):=by rw[hn];rfl
 have e3:(Int.tdiv (J 1).Z 8+1).toNat=n / 8+1:=by rw[e1];omega
 have e4:(Int.tdiv (J 1).Z 8).toNat=n / 8:=by rw[e1];rfl
 have q:=PK p3;refine⟨by rw[p1,p2];omega,ac,ac,ac,ac,ac,ac,rfl,⟨⟨?_,λi hi=>?_⟩,ah⟩,?_⟩
 .show(Int.tdiv (J 1).Z 8+1).toNat=(J 1).Z.toNat / 8+1;rw[e3,hn']
 .have hi:i<(Int.tdiv (J 1).Z 8+1).toNat:=hi;rw[e3]at hi;have q:=q i hi
  have q':(at_ (upd (jD 0 (min (J 0).N ((Int.tdiv (J 1).Z 8)+1).toNat) (λi0=>(J 2).G (i0+(J 0).O)) (λ_=>[.i 0])) (0+(Int.tdiv (J 1).Z 8).toNat) [.i (aI .or .u8 (at_ ((jD 0 (min (J 0).N ((Int.tdiv (J 1).Z 8)+1).toNat) (λi0=>(J 2).G (i0+(J 0).O)) (λ_=>[.i 0])) (0+(Int.tdiv (J 1).Z 8).toNat)) 0).Z (128 / (pw (Int.tmod (J 1).Z 8))))] (0+i)) 0).Z=jj (gV (aR (J 2).G) (J 1).Z.toNat 1 1) ((J 1).Z.toNat+1) i:=by rw[hn',<-q,e3,e4,e2,p1,p2,Nat.zero_add,Nat.zero_add];rfl
  exact kmp (congrArg (λz=>[Run.c (AV.nI .u8 0 255 z)]) q')
 .exact⟨ay af,⟨rfl,λ_ _=>rfl⟩,ah⟩⟩
abbrev afx:List AB:=[]
abbrev RP:CT:=Ck Do [true,true] afx KH wi
theorem ug:CO RP:=CXk Do (TX trivial ah) Ty
end
end Go.Proofs.YtldmjbgplgoedaaGreatDoor
namespace Go.Proofs.YtldmjbgplgoedaaGreatDoor
noncomputable section
open Go.RowKit U
structure StB (st:ae):Prop where
 v0:VB st 2
 v1:VB st 4
 D:∀i,i<3->-4095<=(st 1).F i/\(st 1).F i<=4095
structure MbB (m:ae):Prop where
 V:∀j,j<8->-63<=(m (5+j)).Z/\(m (5+j)).Z<=63
 L:∀i,i<384->-4095<=(m 21).F i/\(m 21).F i<=4095
 d:(m 14).Z=0
theorem ab6 {K:ae} (h:MpB K):StB (mpS K):=by
 have a:=(sd (d:=0) (p:=(((mpL K) 2).Z,((mpL K) 3).Z)) h.V afH h.p0).1;have b:=(sd (d:=1) (p:=(((mpL K) 4).Z,((mpL K) 5).Z)) h.V afH h.p1).1;have c:=Eg (k2:=((mpL K) 12).Z==2) (cd:=bAt (coB (mpL K) 12)) h.L h.D 6 afH;have z:(-63:Int)<=0/\(0:Int)<=63:=z63;refine⟨?_,?_,?_⟩
 .show(-63<=(bif (K 10).Z !=2 then(0:Int)else(bif ((mpL K) 12).Z !=2 then((mpL K) 2).Z else(cC (mpL K) 12).2.1))/\(bif (K 10).Z !=2 then(0:Int)else(bif ((mpL K) 12).Z !=2 then((mpL K) 2).Z else(cC (mpL K) 12).2.1))<=63)/\(-63<=(bif (K 10).Z !=2 then(0:Int)else(bif ((mpL K) 12).Z !=2 then((mpL K) 3).Z else(cC (mpL K) 12).2.2))/\(bif (K 10).Z !=2 then(0:Int)else(bif ((mpL K) 12).Z !=2 then((mpL K) 3).Z else(cC (mpL K) 12).2.2))<=63)
  cases(K 10).Z !=2
  .cases((mpL K) 12).Z !=2
   .exact a
   .exact h.p0
  .exact⟨z,z⟩
 .show(-63<=(bif (K 10).Z !=2 then(0:Int)else(bif ((mpL K) 12).Z !=2 then((mpL K) 4).Z else(jG (mpL K) 12).2.1))/\(bif (K 10).Z !=2 then(0:Int)else(bif ((mpL K) 12).Z !=2 then((mpL K) 4).Z else(jG (mpL K) 12).2.1))<=63)/\(-63<=(bif (K 10).Z !=2 then(0:Int)else(bif ((mpL K) 12).Z !=2 then((mpL K) 5).Z else(jG (mpL K) 12).2.2))/\(bif (K 10).Z !=2 then(0:Int)else(bif ((mpL K) 12).Z !=2 then((mpL K) 5).Z else(jG (mpL K) 12).2.2))<=63)
  cases(K 10).Z !=2
  .cases((mpL K) 12).Z !=2
   .exact b
   .exact h.p1
  .exact⟨z,z⟩
 .intro i hi;show -4095<=(bif (K 10).Z !=1 then(λ_=>(0:Int))else(leG (mpL K) 12 6).2) i/\(bif (K 10).Z !=1 then(λ_=>(0:Int))else(leG (mpL K) 12 6).2) i<=4095
  cases(K 10).Z !=1
  .exact c i hi
  .exact⟨show(-4095:Int)<=0 by decide,show(0:Int)<=4095 by decide⟩
def slK (c st m:ae):ae:=ak [.i (c 0).Z,.i (c 1).Z,.b (c 2).X,.b (c 3).X,.i (st 0).Z,.f (st 1).F,.i (st 2).Z,.i (st 3).Z,.i (st 4).Z,.i (st 5).Z] (cw m 0 22 k0)
def slX (c:ae) (q:Int) (G:Nat->ae):Nat->Cd × ae
 |0=>([(q,5)],[.i q,.f (λ_=>0),.i 0,.i 0,.i 0,.i 0])
 |k+1=>((slX c q G k).1++qY (mpL (slK c (slX c q G k).2 (G k))),mpS (slK c (slX c q G k).2 (G k)))
theorem aaT {c st m:ae} (hs:StB st) (hm:MbB m):MpB (slK c st m):=⟨lt8 (kmp (hm.V 0 afH)) (kmp (hm.V 1 afH)) (kmp (hm.V 2 afH)) (kmp (hm.V 3 afH)) (kmp (hm.V 4 afH)) (kmp (hm.V 5 afH)) (kmp (hm.V 6 afH)) (kmp (hm.V 7 afH)),kmp hs.v0,kmp hs.v1,kmp hs.D,kmp hm.L,kmp hm.d⟩
theorem SX {c:ae} {q:Int} {G:Nat->ae} {N:Nat} (hm:∀k,k<N->MbB (G k)):∀k,k<=N->StB (slX c q G k).2/\cdN (slX c q G k).1<=5+24600*k
 |0,_=>⟨⟨⟨z63,z63⟩,⟨z63,z63⟩,λ_ _=>⟨show(-4095:Int)<=0 by decide,show(0:Int)<=4095 by decide⟩⟩,Nat.le_refl _⟩
 |k+1,h=>by obtain⟨i1,i2⟩:=SX hm k ac;have b:=aaT (c:=c) i1 (hm k ac);refine⟨ab6 b,?_⟩;show cdN ((slX c q G k).1++qY (mpL (slK c (slX c q G k).2 (G k))))<=_;rw[aC];have:=aeZ b;omega
def slC (J:ae):ae:=[.i (J 9).Z,.i (J 10).Z,.b (J 4).X,.b (J 15).X]
def slY (J:ae) (k:Nat):Cd × ae:=slX (slC J) (J 17).Z (J 18).G k
def XV (J:ae):Prop:=ftB J 0 9 15=true/\(J 16).Z<rwZ J 0 9/\((J 18).N:Int)=Int.tdiv (J 0).Z 16/\∀k,k<(J 18).N->QF (slK (slC J) (slY J k).2 ((J 18).G k))
def pyL (c:Cd):ae:=[.l ((0+cdN c) / 8+1) (K8 (cdB (λ_=>0) 0 c) (0+cdN c))]
def pyB (c:Cd):ae:=bif Nat.ble (cdN c) 98405 then pyL c else[.l 1 λ_=>[.i 128]]
theorem Q5 {c:Cd} (h:cdN c<=98405):pyB c=pyL c:=Bm (ble_iff.2 h) _ _
def I8 (J:ae):ae:=[.i (1+(J 16).Z),.l ((pyB (slY J (J 18).N).1) 0).N ((pyB (slY J (J 18).N).1) 0).G,.i 0]
theorem ng:Bit (λ_=>0):=λ_=>.inl rfl
theorem RD {a K r:ae} {c:Cd} (hr:mpW a=r) (hw:WrH (wx a 32 33 34) 0 (λ_=>0) 0 c) (e1:mpS a=mpS K) (e2:qY (mpL a)=qY (mpL K)):r=mpS K++.i 0::wrC (λ_=>0) 0 (c++qY (mpL K)):=by rw[<-hr];show mpS a++.i 0::wrA (wx a 32 33 34) 0 (qY (mpL a))=_;rw[hw.add ng,e1,e2]
theorem Km {B B':Nat->Int} {n:Nat} (h:∀p,p<n->B p=B' p):K8 B n=K8 B' n:=by
 unfold K8 ch
 funext i
 rw[cU λp hp=>?_];unfold gV
 by_cases e:p<n
 .rw[if_pos e,if_pos e,h p e]
 .rw[if_neg e,if_neg e]
theorem OB {a r:ae} {c:Cd} (hr:wi a=r) (h1:(a 1).Z=((0+cdN c:Nat):Int)) (h2:(a 2).G=ch (cdB (λ_=>0) 0 c) (0+cdN c)):r=pyL c:=by rw[<-hr];unfold wi pyL;rw[h1,h2,ap,Km λp hp=>dO (d8 ng) hp]
def slH (J:ae) (i:Nat) (w:ae):ae:=[.i (J 16).Z,.l (J 18).N (J 18).G,.i (((J 18).N:Nat):Int),.i (i:Int),.i 0,.s (w 0).O (w 0).N,.i (w 1).Z,.i (J 9).Z,.i (J 10).Z,.b (J 4).X,.b (J 15).X,.i (at_ (slY J i).2 0).Z,.f (at_ (slY J i).2 1).F,.i (at_ (slY J i).2 2).Z,.i (at_ (slY J i).2 3).Z,.i (at_ (slY J i).2 4).Z,.i (at_ (slY J i).2 5).Z,.l (w 2).N (w 2).G]
abbrev Ms:SP:=mkS ⟨[.sA O9,aD 0 0],[]⟩ 102 Tryz.f102 [.tX (.sA acr),.tX (.sA ack),aN,aj 0 3,aj 1 31,tXO (.nR 6 1 4 0 g0)] [] [(9,.head ⟨[(3,aj 0 3),(12,tXO (.nP 0 0)),(14,tXO (.nP 1 0)),(16,tXO (.nP 2 0)),(17,tXO (.nP 3 0)),(69,tXO (.nR 6 1 4 0 g0)),(70,aj 1 4),(71,aj 0 4)],[.run 50 Y3,.run 349 Y2,.run 96 VC,.run 189 acS,.dyn 5 0 0 1000000 0 g0 false],[]⟩)] [Yr,Yh,yc,vL,mpC,RP] [(aw 181 Tryz.f181),(aw 91 Tryz.f91),(aw 98 Tryz.f98)]
theorem FW J R:TR Ms J R (let x0:ae:=(cw J 0 16 80411642602057);let x1:ae:=Oc x0;((!(x1 0).X)->False)/\((!(x1 0).X)=false->let x2:ae:=(cw J 0 15 k3);let x3:ae:=GY x2;((decide ((x3 0).Z<=(J 16).Z))->False)/\((decide ((x3 0).Z<=(J 16).Z))=false->(((((J 18).N:Nat):Int)!=(Int.tdiv (J 0).Z 16))->False)/\(((((J 18).N:Nat):Int)!=(Int.tdiv (J 0).Z 16))=false->let x4:ae:=[.i (J 17).Z,.i 5,.i 0];((Jd x4)->(iy x4)/\let x5:ae:=iw x4;False)/\((Jd x4)=false->(g8 x4)/\let x5:ae:=fK x4;∃(I0:ae->Prop) (μ0:ae->Nat),I0 [.i (J 16).Z,.l (J 18).N (J 18).G,.i (((J 18).N:Nat):Int),.i 0,.i 0,.s (x5 1).O (x5 1).N,.i (x5 2).Z,.i (J 9).Z,.i (J 10).Z,.b (J 4).X,.b (J 15).X,.i (J 17).Z,.f (λi0=>0),.i 0,.i 0,.i 0,.i 0,.l (x5 3).N (x5 3).G]/\∀l0,I0 l0->((decide ((l0 3).Z<(l0 2).Z))->((l0 3).Z<(((l0 1).N:Nat):Int))/\let x6:ae:=(ak (cw l0 7 10 153457801) (ak (cw ((l0 1).G (l0 3).Z.toNat) 0 22 k0) [.s (l0 5).O (l0 5).N,.i (l0 6).Z,.l (l0 17).N (l0 17).G]));(mpP x6)/\let x7:ae:=mpW x6;(((l0 3).Z+1)<=4)/\Ag I0 μ0 l0 (ak (cw l0 0 3 97) (ak [.i ((l0 3).Z+1),.i (l0 4).Z,.s (x7 7).O (x7 7).N,.i (x7 8).Z] (ak (cw l0 7 4 1161) (ak (cw x7 0 6 37465) [.l (x7 9).N (x7 9).G])))))/\((decide ((l0 3).Z<(l0 2).Z))=false-> let x8:ae:=[.s (l0 5).O (l0 5).N,.i (l0 6).Z,.l (l0 17).N (l0 17).G];(KH x8)/\let x9:ae:=wi x8;R [.i 0,.i (1+(l0 0).Z),.l (x9 0).N (x9 0).G,.i 0])))))):=af
theorem RQ:PF1 Ms XV I8:=λJ b1 b2 ⟨p1,p2,p3,p4⟩=>⟨by
 rw[FW];dsimp only
 have hm:∀k,k<(J 18).N->MbB ((J 18).G k):=λk hk=>by obtain⟨-,-,-,-,-,⟨-,-,hm⟩,-⟩:=b1;obtain⟨-,-,-,-,-,v0,v1,v2,v3,v4,v5,v6,v7,-,d,-,-,-,-,-,-,L,-⟩:=hm k hk;exact⟨lt8 v0 v1 v2 v3 v4 v5 v6 v7,L,Int.le_antisymm d.2 d.1⟩
 have hN:(J 18).N<=4:=by obtain⟨-,-,-,-,-,⟨-,hN,-⟩,-⟩:=b1;exact hN
 have hq:1<=(J 17).Z/\(J 17).Z<=31:=by obtain⟨-,-,-,-,⟨h,h'⟩,-⟩:=b1;exact⟨h,h'⟩
 clear b1 b2;have e1:((Oc (cw J 0 16 80411642602057)) 0).X=ftB J 0 9 15:=af;have e2:((GY (cw J 0 15 k3)) 0).Z=rwZ J 0 9:=af;rw[e1,e2,p1];refine⟨λh=>(by cases h),λ_=>⟨λh=>absurd (of_decide_eq_true h) ac,λ_=>⟨λh=>?_,λ_=>⟨λh=>?_,λ_=>⟨?_,?_⟩⟩⟩⟩⟩
 .rw[p3,bne_self_eq_false]at h;cases h
 .cases(show decide ((5:Int)=0)=true from h)
 .show(J 17).Z / pw 5=0;exact Int.ediv_eq_zero_of_lt ac (show(J 17).Z<32 by omega)
 .have hb:=SX (c:=slC J) (q:=(J 17).Z) hm;refine bG (X:=Unit) (J 18).N 3 (λ_ _=>True) (λi _=>slH J i (wrC (λ_=>0) 0 (slY J i).1)) (λ_ _ _=>rfl) () af trivial λI μ hA i _ l hi _ hl=>?_;have hw:WrH (wrC (λ_=>0) 0 (slY J i).1) 0 (λ_=>0) 0 (slY J i).1:=WrH.of ng af;have hn:cdN (slY J i).1<=5+24600*i:=(hb i hi).2;refine⟨λh=>?_,λh=>?_⟩
  .have h:=of_decide_eq_true h;have h3:(l 3).Z=i:=by rw[hl];rfl
   have h2:(l 2).Z=(J 18).N:=by rw[hl];rfl
   have h1:(l 1).N=(J 18).N:=by rw[hl];rfl
   have hi':i<(J 18).N:=ac;have hi4:i<4:=ac;refine⟨ac,?_⟩;clear h h3 h2 h1;subst hl;have hf:=p4 i hi';have hP:WrP (wx (ak [] (wrC (λ_=>0) 0 (slY J i).1)) 0 1 2) 0 40000:=(WrH.of (n:=0) (c:=(slY J i).1) ng af).toP ng ac;refine aU (λhmp=>?_) ⟨kmp hf,kmp hP⟩;generalize hr:mpW _=r;have hr:=RD (K:=slK (slC J) (slY J i).2 ((J 18).G i)) hr (WrH.of (c:=(slY J i).1) ng af) af af;subst hr;exact⟨show(i:Int)+1<=4 by omega,hA i () () _ _ hi' trivial rfl af⟩
  .have h:=of_decide_eq_false h;have h3:(l 3).Z=i:=by rw[hl];rfl
   have h2:(l 2).Z=(J 18).N:=by rw[hl];rfl
   have hi':i=(J 18).N:=ac;clear h h3 h2;subst hl;subst hi';have hB:cdN (slY J (J 18).N).1+0<=8000000:=ac;have hP:WrP (wx (ak [] (wrC (λ_=>0) 0 (slY J (J 18).N).1)) 0 1 2) 0 0:=(WrH.of (n:=0) (c:=(slY J (J 18).N).1) ng af).toP ng ac;refine aU (λ_=>?_) (kmp hP);generalize hr:wi _=r;have hr:=OB (c:=(slY J (J 18).N).1) hr af af;subst hr;rw[show I8 J=[.i (1+(J 16).Z),.l ((pyL (slY J (J 18).N).1) 0).N ((pyL (slY J (J 18).N).1) 0).G,.i 0] by unfold I8;rw[Q5 ac]]
   exact⟨rfl,⟨ay af,(by show(_:Int)=_;kernel_rfl),ah⟩,ah⟩⟩
abbrev ad7:CT:=C1 Ms XV I8
theorem Wr:CO ad7:=CX1 (TX ⟨xR,xp,gx,putN_ct,ZL,ug,ah⟩ (FK (FK (FK ah)))) RQ
end
end Go.Proofs.YtldmjbgplgoedaaGreatDoor
