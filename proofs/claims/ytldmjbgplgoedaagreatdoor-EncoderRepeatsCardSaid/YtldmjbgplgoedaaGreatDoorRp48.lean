import Derived.Test.YtldmjbgplgoedaaGreatDoorRp47
set_option linter.all false
namespace Go.Proofs.YtldmjbgplgoedaaGreatDoor
noncomputable section
open Go.RowKit U
def aaf (J:ae):ae:=[.i ((Nat.gcd (J 0).Z.toNat (J 1).Z.toNat:Nat):Int)]
abbrev O7:SP:=mkS ⟨[.sO (.nI .u64 0 18446744073709551615 0)],[]⟩ 205 Tryz.f205 [tXO (.nI .u64 0 18446744073709551615 0),tXO (.nI .u64 0 18446744073709551615 0)] [] [(1,.head ⟨[(0,tXO (.nI .u64 0 18446744073709551615 0)),(1,tXO (.nI .u64 0 18446744073709551615 0))],[],[]⟩)]
theorem FP J R:TR O7 J R (∃(I0:ae->Prop) (μ0:ae->Nat),I0 [.i (J 0).Z,.i (J 1).Z]/\∀l0,I0 l0-> BR ((l0 1).Z !=0) ((1<=(l0 1).Z)/\Ag I0 μ0 l0 [.i (l0 1).Z,.i (Int.tmod (l0 0).Z (l0 1).Z)]) (R [.i 0,.i (l0 0).Z])):=af
theorem Rc:PF0 O7 aaf:=λJ b1 b2=>⟨by
 rw[FP];obtain⟨⟨h0,-⟩,⟨h1,-⟩,-⟩:=b1;have h0:0<=(J 0).Z:=h0;have h1:0<=(J 1).Z:=h1;refine⟨λl=>∃a b:Nat,l=[.i (a:Int),.i (b:Int)]/\Nat.gcd a b=Nat.gcd (J 0).Z.toNat (J 1).Z.toNat,λl=>(l 1).Z.toNat,⟨(J 0).Z.toNat,(J 1).Z.toNat,by rw[Int.toNat_of_nonneg h0,Int.toNat_of_nonneg h1],rfl⟩,?_⟩
 rintro l ⟨a,b,rfl,hg⟩;refine⟨λh=>?_,λh=>?_⟩
 .have h:((b:Int)!=0)=true:=h;have hb:b≠0:=λe=>by subst e;cases h
  refine⟨show(1:Int)<=(b:Int) by omega,⟨b,a % b,rfl,by rw[<-hg,Nat.gcd_comm b,<-Nat.gcd_rec,Nat.gcd_comm]⟩,?_⟩
  show(Int.tmod (a:Int) (b:Int)).toNat<(b:Int).toNat;rw[show Int.tmod (a:Int) (b:Int)=((a % b:Nat):Int)from rfl,Int.toNat_natCast,Int.toNat_natCast];exact Nat.mod_lt _ ac
 .have h:((b:Int)!=0)=false:=h
  have hb:b=0:=by
   rcases Nat.eq_zero_or_pos b with e | e
   .exact e
   .have:((b:Int)!=0)=true:=by rw[bne_iff_ne];omega
    rw[this]at h;cases h
  subst hb;refine⟨rfl,⟨?_,ah⟩,ah⟩;show(a:Int)=((Nat.gcd _ _:Nat):Int);rw[<-hg,Nat.gcd_zero_right]⟩
abbrev aek:CT:=C0 O7 aaf
theorem Uq:CO aek:=CX0 (TX trivial ah) Rc
def ZP (J:ae):ae:=[.i ((J 0).Z.natAbs:Int)]
abbrev LP:SP:=mkS ⟨[.sO (.nI .u64 0 18446744073709551615 0)],[]⟩ 206 Tryz.f206 [gp] [] []
theorem BS J R:TR LP J R (((decide ((J 0).Z<0))->R [.i 0,.i (IntKind.wrap .u64 ((IntKind.wrap .u64 (IntKind.wrap .i64 (-(IntKind.wrap .i64 ((J 0).Z+1)))))+1))])/\((decide ((J 0).Z<0))=false-> R [.i 0,.i (IntKind.wrap .u64 (J 0).Z)])):=af
theorem So:PF0 LP ZP:=λJ b1 b2=>⟨by
 rw[BS];obtain⟨⟨h0,h1⟩,-⟩:=b1;refine⟨λh=>?_,λh=>?_⟩
 .have h:=of_decide_eq_true h;refine⟨rfl,⟨?_,ah⟩,ah⟩;show IntKind.wrap .u64 ((IntKind.wrap .u64 (IntKind.wrap .i64 (-(IntKind.wrap .i64 ((J 0).Z+1)))))+1)=((J 0).Z.natAbs:Int);have h0 : -9223372036854775808<=(J 0).Z:=h0;have h1:(J 0).Z<=9223372036854775807:=h1;generalize (J 0).Z=z at *;rw[aX (x:=z+1) ac ac,aX (x:=-(z+1)) ac ac]
  simp[IntKind.wrap,IntKind.bits,IntKind.signed]
  omega
 .have h:=of_decide_eq_false h;refine⟨rfl,⟨?_,ah⟩,ah⟩;show IntKind.wrap .u64 (J 0).Z=((J 0).Z.natAbs:Int);have h1:(J 0).Z<=9223372036854775807:=h1;generalize (J 0).Z=z at *
  simp[IntKind.wrap,IntKind.bits,IntKind.signed]
  omega⟩
abbrev ac7:CT:=C0 LP ZP
theorem UW:CO ac7:=CX0 (TX trivial ah) So
def V1 (J:ae):ae:=[.b (rvB (J 0).Z (J 1).Z)]
abbrev Gb:SP:=mkS ⟨[bm],[]⟩ 119 Tryz.f119 [.tX (.sA YI)] [] [] [ac7,aek]
theorem EJ J R:TR Gb J R (BR (decide (1<=(J 1).Z)) (BR (decide ((-9223372036854775807)<=(J 0).Z)) (((decide (1<=(J 1).Z))=true)/\((decide ((-9223372036854775807)<=(J 0).Z))=true)/\LET ([.i (J 0).Z]) λx0=>LET (ZP x0) λx1=>LET ([.i (x1 0).Z,.i (IntKind.wrap .u64 (J 1).Z)]) λx2=>LET (aaf x2) λx3=>R [.i 0,.b ((x3 0).Z==1)]) (((decide (1<=(J 1).Z))=true)/\((decide ((-9223372036854775807)<=(J 0).Z))=false)/\R [.i 0,.b false])) (((decide (1<=(J 1).Z))=false)/\R [.i 0,.b false])):=af
theorem Xu:PF0 Gb V1:=λJ b1 b2=>⟨by
 rw[EJ];obtain⟨⟨h0,h1,-⟩,-⟩:=b1;have h0 : -9223372036854775808<=(J 0).Z/\(J 0).Z<=9223372036854775807:=h0;have h1 : -9223372036854775808<=(J 1).Z/\(J 1).Z<=9223372036854775807:=h1;have key:∀b:Bool,b=rvB (J 0).Z (J 1).Z->(hd [.i 0,.b b]).Z=0/\agW KX Gb.Y (tl [.i 0,.b b]) (V1 J):=λb e=>⟨rfl,⟨e,ah⟩,ah⟩;refine⟨λh=>⟨λh'=>⟨h,h',aH rfl (aH rfl (aH rfl (aH rfl (key _ ?_))))⟩,λh'=>⟨h,h',key _ ?_⟩⟩,λh=>⟨h,key _ ?_⟩⟩
 .have h:=of_decide_eq_true h;have h':=of_decide_eq_true h';show(((Nat.gcd ((J 0).Z.natAbs:Int).toNat (IntKind.wrap .u64 (J 1).Z).toNat:Nat):Int)==1)=_;rw[bH (k:=.u64) (x:=(J 1).Z) ⟨show(0:Int)<=_ by omega,show _<=(18446744073709551615:Int) by omega⟩,Int.toNat_natCast]
  unfold rvB;rw[Bool.eq_iff_iff,beq_iff_eq,decide_eq_true_eq];omega
 .have h':=of_decide_eq_false h';unfold rvB;exact(decide_eq_false λe=>h' (by have:=e.2.1;omega)).symm
 .have h:=of_decide_eq_false h;unfold rvB;exact(decide_eq_false λe=>h e.1).symm⟩
abbrev adp:CT:=C0 Gb V1
theorem Wl:CO adp:=CX0 (TX ⟨UW,Uq,ah⟩ ah) Xu
def Qk (J:ae):ae:=[.b (decide (vmP (J 0).F))]
abbrev Mg:SP:=mkS ⟨[bm],[]⟩ 111 Tryz.f111 [.tX (.sA [r4])] [] [(2,.head ⟨[(1,tXO (.nP 0 0)),(3,aj 0 1048576)],[.run 24 [r4]],[]⟩)]
theorem FC J R:TR Mg J R (∃(I0:ae->Prop) (μ0:ae->Nat),I0 [.i 0,.f (J 0).F]/\∀l0,I0 l0-> BR (decide ((l0 0).Z<64)) ((0<=(l0 0).Z)/\((l0 0).Z<64)/\BR (decide (((l0 1).F (0+((l0 0).Z.toNat*1)))<8)) (R [.i 0,.b false]) ((((l0 0).Z+1)<=1048576)/\Ag I0 μ0 l0 [.i ((l0 0).Z+1),.f (l0 1).F])) (R [.i 0,.b true])):=af
theorem WV:PF0 Mg Qk:=λJ b1 b2=>⟨by
 rw[FC];refine bG (X:=Unit) 64 0 (λi _=>∀k,k<i->8<=(J 0).F k) (λi _=>[.i (i:Int),.f (J 0).F]) (λ_ _ _=>rfl) () rfl (λk hk=>absurd hk (Nat.not_lt_zero k)) λI μ hA i _ l hi hx hl=>?_;subst hl;refine⟨λh=>?_,λh=>?_⟩
 .have h:(i:Int)<64:=of_decide_eq_true h;refine⟨Int.natCast_nonneg i,h,λh2=>?_,λh2=>?_⟩
  .have h2:(J 0).F (0+(i:Int).toNat*1)<8:=of_decide_eq_true h2;rw[Int.toNat_natCast,Nat.mul_one,Nat.zero_add]at h2;refine⟨rfl,⟨(decide_eq_false λv=>?_).symm,ah⟩,ah⟩;have:=v i ac;omega
  .have h2:¬ (J 0).F (0+(i:Int).toNat*1)<8:=of_decide_eq_false h2;rw[Int.toNat_natCast,Nat.mul_one,Nat.zero_add]at h2;have hi':(i:Int)+1<=1048576:=ac;refine⟨hi',hA i () () _ _ ac (λk hk=>?_) rfl rfl⟩
   by_cases e:k=i
   .subst e;omega
   .exact hx k ac
 .have h:¬ (i:Int)<64:=of_decide_eq_false h;exact⟨rfl,⟨(decide_eq_true λk hk=>hx k ac).symm,ah⟩,ah⟩⟩
abbrev adg:CT:=C0 Mg Qk
theorem Wc:CO adg:=CX0 (TX trivial ah) WV
def VM (J:ae):ae:=[.b (vsB J 0)]
abbrev wS:SP:=mkS ⟨[bm],[]⟩ 54 Tryz.f54 [.tX (.sA Zf)] [] [] [adp,adg]
theorem IB J R:TR wS J R (((decide ((J 0).Z<16))->R [.i 0,.b false])/\((decide ((J 0).Z<16))=false->((decide (64<(J 0).Z))->R [.i 0,.b false])/\((decide (64<(J 0).Z))=false->(((Int.tmod (J 0).Z 16)!=0)->R [.i 0,.b false])/\(((Int.tmod (J 0).Z 16)!=0)=false->((decide ((J 1).Z<16))->R [.i 0,.b false])/\((decide ((J 1).Z<16))=false->((decide (64<(J 1).Z))->R [.i 0,.b false])/\((decide (64<(J 1).Z))=false->(((Int.tmod (J 1).Z 16)!=0)->R [.i 0,.b false])/\(((Int.tmod (J 1).Z 16)!=0)=false->((J 4).X->(((Int.tmod (J 1).Z 32)!=0)->R [.i 0,.b false])/\(((Int.tmod (J 1).Z 32)!=0)=false->LET ([.i (J 2).Z,.i (J 3).Z]) λx0=>LET (V1 x0) λx1=>((!(x1 0).X)->R [.i 0,.b false])/\((!(x1 0).X)=false->((decide ((J 2).Z<1))->R [.i 0,.b false])/\((decide ((J 2).Z<1))=false->((decide (1048576<(J 2).Z))->R [.i 0,.b false])/\((decide (1048576<(J 2).Z))=false->((decide (65536<(J 3).Z))->R [.i 0,.b false])/\((decide (65536<(J 3).Z))=false->((decide ((J 5).Z<1))->R [.i 0,.b false])/\((decide ((J 5).Z<1))=false->((decide (16777216<(J 5).Z))->R [.i 0,.b false])/\((decide (16777216<(J 5).Z))=false->((decide ((J 6).Z<1))->R [.i 0,.b false])/\((decide ((J 6).Z<1))=false->((decide (8388608<(J 6).Z))->R [.i 0,.b false])/\((decide (8388608<(J 6).Z))=false->((decide ((IntKind.wrap .i64 ((IntKind.wrap .i64 (2*(J 2).Z))*(J 6).Z))<(IntKind.wrap .i64 ((IntKind.wrap .i64 ((IntKind.wrap .i64 (3*(J 3).Z))*(J 5).Z))+(IntKind.wrap .i64 (32*(J 2).Z))))))->R [.i 0,.b false])/\((decide ((IntKind.wrap .i64 ((IntKind.wrap .i64 (2*(J 2).Z))*(J 6).Z))<(IntKind.wrap .i64 ((IntKind.wrap .i64 ((IntKind.wrap .i64 (3*(J 3).Z))*(J 5).Z))+(IntKind.wrap .i64 (32*(J 2).Z))))))=false->LET ([.f (J 7).F]) λx2=>LET (Qk x2) λx3=>((x3 0).X->LET ([.f (J 8).F]) λx4=>LET (Qk x4) λx5=>R [.i 0,.b (x5 0).X])/\((x3 0).X=false->R [.i 0,.b false]))))))))))))/\((J 4).X=false->LET ([.i (J 2).Z,.i (J 3).Z]) λx0=>LET (V1 x0) λx1=>((!(x1 0).X)->R [.i 0,.b false])/\((!(x1 0).X)=false->((decide ((J 2).Z<1))->R [.i 0,.b false])/\((decide ((J 2).Z<1))=false->((decide (1048576<(J 2).Z))->R [.i 0,.b false])/\((decide (1048576<(J 2).Z))=false->((decide (65536<(J 3).Z))->R [.i 0,.b false])/\((decide (65536<(J 3).Z))=false->((decide ((J 5).Z<1))->R [.i 0,.b false])/\((decide ((J 5).Z<1))=false->((decide (16777216<(J 5).Z))->R [.i 0,.b false])/\((decide (16777216<(J 5).Z))=false->((decide ((J 6).Z<1))->R [.i 0,.b false])/\((decide ((J 6).Z<1))=false->((decide (8388608<(J 6).Z))->R [.i 0,.b false])/\((decide (8388608<(J 6).Z))=false->((decide ((IntKind.wrap .i64 ((IntKind.wrap .i64 (2*(J 2).Z))*(J 6).Z))<(IntKind.wrap .i64 ((IntKind.wrap .i64 ((IntKind.wrap .i64 (3*(J 3).Z))*(J 5).Z))+(IntKind.wrap .i64 (32*(J 2).Z))))))->R [.i 0,.b false])/\((decide ((IntKind.wrap .i64 ((IntKind.wrap .i64 (2*(J 2).Z))*(J 6).Z))<(IntKind.wrap .i64 ((IntKind.wrap .i64 ((IntKind.wrap .i64 (3*(J 3).Z))*(J 5).Z))+(IntKind.wrap .i64 (32*(J 2).Z))))))=false->LET ([.f (J 7).F]) λx2=>LET (Qk x2) λx3=>((x3 0).X->LET ([.f (J 8).F]) λx4=>LET (Qk x4) λx5=>R [.i 0,.b (x5 0).X])/\((x3 0).X=false-> R [.i 0,.b false])))))))))))))))))):=af
theorem Q9:PF0 wS VM:=λJ b1 b2=>⟨by
 rw[IB];have key:∀b:Bool,b=decide (VS (J 0).Z (J 1).Z (J 2).Z (J 3).Z (J 4).X (J 5).Z (J 6).Z (J 7).F (J 8).F)->(hd [.i 0,.b b]).Z=0/\agW KX wS.Y (tl [.i 0,.b b]) (VM J):=λb e=>⟨rfl,⟨e,ah⟩,ah⟩;have keyF:(VS (J 0).Z (J 1).Z (J 2).Z (J 3).Z (J 4).X (J 5).Z (J 6).Z (J 7).F (J 8).F->False)->(hd [.i 0,.b false]).Z=0/\agW KX wS.Y (tl [.i 0,.b false]) (VM J):=λh=>key _ (decide_eq_false h).symm;generalize (J 0).Z=W at *;generalize (J 1).Z=H at *;generalize (J 2).Z=n at *;generalize (J 3).Z=d at *;generalize (J 5).Z=br at *;generalize (J 6).Z=bf at *;generalize (J 4).X=il at *;generalize (J 7).F=x at *;generalize (J 8).F=y at *;clear b1 b2;refine⟨λa1=>keyF λv=>by have:=of_decide_eq_true a1;have:=v.hW;omega,λa1=>?_⟩
 have a1:=of_decide_eq_false a1;refine⟨λa2=>keyF λv=>by have:=of_decide_eq_true a2;have:=v.hW;omega,λa2=>?_⟩
 have a2:=of_decide_eq_false a2;rw[i9 (x:=W) ac];refine⟨λa=>keyF λv=>?_,λa3=>?_⟩
 .rw[v.hW.2.2]at a;cases a
 have a3:W % 16=0:=by simpa using a3
 refine⟨λa4=>keyF λv=>by have:=of_decide_eq_true a4;have:=v.hH;omega,λa4=>?_⟩
 have a4:=of_decide_eq_false a4;refine⟨λa5=>keyF λv=>by have:=of_decide_eq_true a5;have:=v.hH;omega,λa5=>?_⟩
 have a5:=of_decide_eq_false a5;rw[i9 (x:=H) ac,i9 (x:=H) ac];refine⟨λa=>keyF λv=>?_,λa6=>?_⟩
 .rw[v.hH.2.2]at a;cases a
 have a6:H % 16=0:=by simpa using a6
 refine⟨λi=>⟨λa=>keyF λv=>?_,λa7=>?_⟩,λi=>?_⟩
 .rw[v.hil i]at a;cases a
 .have a7:il=true->H % 32=0:=λ_=>by simpa using a7
  refine aH rfl (aH (w:=[.b (rvB n d)]) rfl ⟨λa=>keyF λv=>?_,λa8=>?_⟩)
  .have a:(!(rvB n d))=true:=a;rw[v.hrate]at a;cases a
  have a8:rvB n d=true:=by simpa using(show(!(rvB n d))=false from a8)
  have d1:=QC a8;refine⟨λa=>keyF λv=>by have:=of_decide_eq_true a;have:=v.hnum;omega,λa9=>?_⟩
  have a9:=of_decide_eq_false a9;refine⟨λa=>keyF λv=>by have:=of_decide_eq_true a;have:=v.hnum;omega,λa10=>?_⟩
  have a10:=of_decide_eq_false a10;refine⟨λa=>keyF λv=>by have:=of_decide_eq_true a;have:=v.hnum;omega,λa11=>?_⟩
  have a11:=of_decide_eq_false a11;refine⟨λa=>keyF λv=>by have:=of_decide_eq_true a;have:=v.hbr;omega,λa12=>?_⟩
  have a12:=of_decide_eq_false a12;refine⟨λa=>keyF λv=>by have:=of_decide_eq_true a;have:=v.hbr;omega,λa13=>?_⟩
  have a13:=of_decide_eq_false a13;refine⟨λa=>keyF λv=>by have:=of_decide_eq_true a;have:=v.hbf;omega,λa14=>?_⟩
  have a14:=of_decide_eq_false a14;refine⟨λa=>keyF λv=>by have:=of_decide_eq_true a;have:=v.hbf;omega,λa15=>?_⟩
  have a15:=of_decide_eq_false a15;refine⟨λa=>keyF λv=>?_,λa16=>?_⟩
  .have a:=of_decide_eq_true (fJ ac ac ac ac ac ac ac ac a);have:=v.room;omega
  have a16:=of_decide_eq_false (fJ ac ac ac ac ac ac ac ac a16);refine aH rfl (aH (w:=[.b (decide (vmP x))]) rfl ⟨λa17=>aH rfl (aH (w:=[.b (decide (vmP y))]) rfl (key _ ?_)),λa=>keyF λv=>of_decide_eq_false a v.hx⟩);have a17:vmP x:=of_decide_eq_true a17;exact decide_eq_decide.2 ⟨λhy=>⟨⟨ac,ac,a3⟩,⟨ac,ac,a6⟩,a7,a8,⟨ac,ac,ac⟩,⟨ac,ac⟩,⟨ac,ac⟩,ac,a17,hy⟩,λv=>v.hy⟩
 .have a7:il=true->H % 32=0:=λh=>by rw[i]at h;cases h
  refine aH rfl (aH (w:=[.b (rvB n d)]) rfl ⟨λa=>keyF λv=>?_,λa8=>?_⟩)
  .have a:(!(rvB n d))=true:=a;rw[v.hrate]at a;cases a
  have a8:rvB n d=true:=by simpa using(show(!(rvB n d))=false from a8)
  have d1:=QC a8;refine⟨λa=>keyF λv=>by have:=of_decide_eq_true a;have:=v.hnum;omega,λa9=>?_⟩
  have a9:=of_decide_eq_false a9;refine⟨λa=>keyF λv=>by have:=of_decide_eq_true a;have:=v.hnum;omega,λa10=>?_⟩
  have a10:=of_decide_eq_false a10;refine⟨λa=>keyF λv=>by have:=of_decide_eq_true a;have:=v.hnum;omega,λa11=>?_⟩
  have a11:=of_decide_eq_false a11;refine⟨λa=>keyF λv=>by have:=of_decide_eq_true a;have:=v.hbr;omega,λa12=>?_⟩
  have a12:=of_decide_eq_false a12;refine⟨λa=>keyF λv=>by have:=of_decide_eq_true a;have:=v.hbr;omega,λa13=>?_⟩
  have a13:=of_decide_eq_false a13;refine⟨λa=>keyF λv=>by have:=of_decide_eq_true a;have:=v.hbf;omega,λa14=>?_⟩
  have a14:=of_decide_eq_false a14;refine⟨λa=>keyF λv=>by have:=of_decide_eq_true a;have:=v.hbf;omega,λa15=>?_⟩
  have a15:=of_decide_eq_false a15;refine⟨λa=>keyF λv=>?_,λa16=>?_⟩
  .have a:=of_decide_eq_true (fJ ac ac ac ac ac ac ac ac a);have:=v.room;omega
  have a16:=of_decide_eq_false (fJ ac ac ac ac ac ac ac ac a16);refine aH rfl (aH (w:=[.b (decide (vmP x))]) rfl ⟨λa17=>aH rfl (aH (w:=[.b (decide (vmP y))]) rfl (key _ ?_)),λa=>keyF λv=>of_decide_eq_false a v.hx⟩);have a17:vmP x:=of_decide_eq_true a17;exact decide_eq_decide.2 ⟨λhy=>⟨⟨ac,ac,a3⟩,⟨ac,ac,a6⟩,a7,a8,⟨ac,ac,ac⟩,⟨ac,ac⟩,⟨ac,ac⟩,ac,a17,hy⟩,λv=>v.hy⟩⟩
abbrev ac9:CT:=C0 wS VM
theorem W3:CO ac9:=CX0 (TX ⟨Wl,Wc,ah⟩ ah) Q9
end
end Go.Proofs.YtldmjbgplgoedaaGreatDoor
namespace Go.Proofs.YtldmjbgplgoedaaGreatDoor
noncomputable section
open Go.RowKit U
def Yd (J:ae):ae:=[.b (fmB (J 0).Z (J 1).Z (J 2).N (J 3).N (J 4).N)]
abbrev Ce:SP:=mkS ⟨[bm],[]⟩ 51 Tryz.f51 [.tX (.sA we)] [] []
theorem FV J R:TR Ce J R (((decide ((J 0).Z<2))->R [.i 0,.b false])/\((decide ((J 0).Z<2))=false->((decide (64<(J 0).Z))->R [.i 0,.b false])/\((decide (64<(J 0).Z))=false->(((Int.tmod (J 0).Z 2)!=0)->R [.i 0,.b false])/\(((Int.tmod (J 0).Z 2)!=0)=false->((decide ((J 1).Z<2))->R [.i 0,.b false])/\((decide ((J 1).Z<2))=false->((decide (64<(J 1).Z))->R [.i 0,.b false])/\((decide (64<(J 1).Z))=false->(((Int.tmod (J 1).Z 2)!=0)->R [.i 0,.b false])/\(((Int.tmod (J 1).Z 2)!=0)=false->(((((J 2).N:Nat):Int)==(IntKind.wrap .i64 ((J 0).Z*(J 1).Z)))->(((((J 3).N:Nat):Int)==(IntKind.wrap .i64 ((Int.tdiv (J 0).Z 2)*(Int.tdiv (J 1).Z 2))))->R [.i 0,.b ((((J 4).N:Nat):Int)==(IntKind.wrap .i64 ((Int.tdiv (J 0).Z 2)*(Int.tdiv (J 1).Z 2))))])/\(((((J 3).N:Nat):Int)==(IntKind.wrap .i64 ((Int.tdiv (J 0).Z 2)*(Int.tdiv (J 1).Z 2))))=false->R [.i 0,.b false]))/\(((((J 2).N:Nat):Int)==(IntKind.wrap .i64 ((J 0).Z*(J 1).Z)))=false-> R [.i 0,.b false])))))))):=af
theorem V2:PF0 Ce Yd:=λJ _ _=>⟨by
 rw[FV];have key:∀b:Bool,b=fmB (J 0).Z (J 1).Z (J 2).N (J 3).N (J 4).N->(hd [.i 0,.b b]).Z=0/\agW KX Ce.Y (tl [.i 0,.b b]) (Yd J):=λb e=>⟨rfl,⟨e,ah⟩,ah⟩;generalize (J 0).Z=W at *;generalize (J 1).Z=H at *;generalize (J 2).N=a at *;generalize (J 3).N=b at *;generalize (J 4).N=c at *;refine⟨λh1=>key _ (decide_eq_false λv=>by have:=ai h1;omega).symm,λh1=>⟨λh2=>key _ (decide_eq_false λv=>by have:=ai h2;omega).symm,λh2=>?_⟩⟩
 have h1:=aQ h1;have h2:=aQ h2;rw[ln (x:=W) ac];refine⟨λh3=>key _ (decide_eq_false λv=>?_).symm,λh3=>?_⟩
 .rw[v.2.2.1]at h3;cases h3
 have h3:W % 2=0:=by simpa using h3
 refine⟨λh4=>key _ (decide_eq_false λv=>by have:=ai h4;omega).symm,λh4=>⟨λh5=>key _ (decide_eq_false λv=>by have:=ai h5;omega).symm,λh5=>?_⟩⟩
 have h4:=aQ h4;have h5:=aQ h5;rw[ln (x:=H) ac];refine⟨λh6=>key _ (decide_eq_false λv=>?_).symm,λh6=>?_⟩
 .rw[v.2.2.2.2.2.1]at h6;cases h6
 have h6:H % 2=0:=by simpa using h6
 have m1:=fB (x:=W) (y:=H) ac ac ac ac;have m2:=fB (x:=W / 2) (y:=H / 2) ac ac ac ac;rw[jg ac,jg ac,aX ac ac,aX ac ac];have h1:2<=W:=ac;have h2:W<=64:=ac;have h4:2<=H:=ac;have h5:H<=64:=ac;refine⟨λh7=>⟨λh8=>?_,λh8=>?_⟩,λh7=>?_⟩
 .refine key _ ?_;unfold fmB
  by_cases hc:(c:Int)=W / 2*(H / 2)
  .rw[decide_eq_true ⟨h1,h2,h3,h4,h5,h6,dL h7,dL h8,hc⟩];simp[hc]
  .rw[decide_eq_false λe=>hc e.2.2.2.2.2.2.2.2];simp[hc]
 .exact key _ (decide_eq_false λe=>dn h8 e.2.2.2.2.2.2.2.1).symm
 .exact key _ (decide_eq_false λe=>dn h7 e.2.2.2.2.2.2.1).symm⟩
abbrev aeh:CT:=C0 Ce Yd
theorem TF:CO aeh:=CX0 (TX trivial ah) V2
def Yv (J:ae):ae:=[.b (szB J (J 5).Z (J 6).Z)]
abbrev C3:SP:=mkS ⟨[bm],[]⟩ 39 Tryz.f39 [.tX (.sA we),gp,gp] [] [] [aeh]
theorem GM J R:TR C3 J R (LET ((cw J 0 5 18697)) λx0=>LET (Yd x0) λx1=>BR ((x1 0).X) (BR ((J 0).Z==(J 5).Z) (R [.i 0,.b ((J 1).Z==(J 6).Z)]) (R [.i 0,.b false])) (R [.i 0,.b false])):=af
theorem WB:PF0 C3 Yv:=λJ _ _=>⟨by
 rw[GM];have fin:∀ {x:Bool},x=szB J (J 5).Z (J 6).Z->(hd [Lf.i 0,.b x]).Z=0/\agW KX C3.Y (tl [Lf.i 0,.b x]) (Yv J):=λh=>⟨rfl,⟨h,ah⟩,ah⟩;refine aH rfl (aH (w:=[.b (fmB (J 0).Z (J 1).Z (J 2).N (J 3).N (J 4).N)]) af ⟨λh=>⟨λh0=>fin ?_,λh0=>fin ?_⟩,λh=>fin ?_⟩)
 .unfold szB;have h:fmB (J 0).Z (J 1).Z (J 2).N (J 3).N (J 4).N=true:=h;rw[h,h0];rfl
 .unfold szB;have h:fmB (J 0).Z (J 1).Z (J 2).N (J 3).N (J 4).N=true:=h;rw[h,h0];rfl
 .unfold szB;have h:fmB (J 0).Z (J 1).Z (J 2).N (J 3).N (J 4).N=false:=h;rw[h];rfl⟩
abbrev acC:CT:=C0 C3 Yv
theorem Xv:CO acC:=CX0 (TX ⟨TF,ah⟩ ah) WB
def XZ (J:ae):ae:=[.b (prB (J 0).N (J 1).N (cel (J 1).G))]
abbrev HW:SP:=mkS ⟨[bm],[]⟩ 62 Tryz.f62 [tXO (.nR 5 0 6 0 g0),tXO (.nR 1 0 9223372036854775807 0 g0),.tX (.sA oI)] [] [(5,.head ⟨[(1,tXO (.nR 1 0 9223372036854775807 0 g0)),(7,aj 0 6),(8,aj 0 1048576)],[],[]⟩)]
theorem C8 J R:TR HW J R (((decide ((((J 0).N:Nat):Int)<1))->R [.i 0,.b false])/\((decide ((((J 0).N:Nat):Int)<1))=false->((J 2).X->(((((J 1).N:Nat):Int)!=(((J 0).N:Nat):Int))->R [.i 0,.b false])/\(((((J 1).N:Nat):Int)!=(((J 0).N:Nat):Int))=false->∃(I0:ae->Prop) (μ0:ae->Nat),I0 [.l (J 1).N (J 1).G,.i (((J 0).N:Nat):Int),.i 0]/\∀l0,I0 l0->((decide ((l0 2).Z<(l0 1).Z))->((l0 2).Z<(((l0 0).N:Nat):Int))/\((decide ((((l0 0).G (l0 2).Z.toNat) 0).Z<1))->R [.i 0,.b false])/\((decide ((((l0 0).G (l0 2).Z.toNat) 0).Z<1))=false->((l0 2).Z<(((l0 0).N:Nat):Int))/\((decide (3<(((l0 0).G (l0 2).Z.toNat) 0).Z))->R [.i 0,.b false])/\((decide (3<(((l0 0).G (l0 2).Z.toNat) 0).Z))=false->(((l0 2).Z+1)<=1048576)/\Ag I0 μ0 l0 [.l (l0 0).N (l0 0).G,.i (l0 1).Z,.i ((l0 2).Z+1)])))/\((decide ((l0 2).Z<(l0 1).Z))=false->(0<(((l0 0).N:Nat):Int))/\(((((l0 0).G 0) 0).Z==1)->(0<=((l0 1).Z-1))/\(((l0 1).Z-1)<(((l0 0).N:Nat):Int))/\R [.i 0,.b ((((l0 0).G ((l0 1).Z-1).toNat) 0).Z !=3)])/\(((((l0 0).G 0) 0).Z==1)=false->R [.i 0,.b false]))))/\((J 2).X=false->(((((J 1).N:Nat):Int)!=(((J 0).N:Nat):Int))->R [.i 0,.b false])/\(((((J 1).N:Nat):Int)!=(((J 0).N:Nat):Int))=false->∃(I0:ae->Prop) (μ0:ae->Nat),I0 [.l (J 1).N (J 1).G,.i (((J 0).N:Nat):Int),.i 0]/\∀l0,I0 l0->((decide ((l0 2).Z<(l0 1).Z))->((l0 2).Z<(((l0 0).N:Nat):Int))/\((decide ((((l0 0).G (l0 2).Z.toNat) 0).Z<1))->R [.i 0,.b false])/\((decide ((((l0 0).G (l0 2).Z.toNat) 0).Z<1))=false->((l0 2).Z<(((l0 0).N:Nat):Int))/\((decide (3<(((l0 0).G (l0 2).Z.toNat) 0).Z))->R [.i 0,.b false])/\((decide (3<(((l0 0).G (l0 2).Z.toNat) 0).Z))=false->(((l0 2).Z+1)<=1048576)/\Ag I0 μ0 l0 [.l (l0 0).N (l0 0).G,.i (l0 1).Z,.i ((l0 2).Z+1)])))/\((decide ((l0 2).Z<(l0 1).Z))=false->(0<(((l0 0).N:Nat):Int))/\(((((l0 0).G 0) 0).Z==1)->(0<=((l0 1).Z-1))/\(((l0 1).Z-1)<(((l0 0).N:Nat):Int))/\R [.i 0,.b ((((l0 0).G ((l0 1).Z-1).toNat) 0).Z !=3)])/\(((((l0 0).G 0) 0).Z==1)=false-> R [.i 0,.b false])))))):=af
theorem R1:PF0 HW XZ:=λJ b1 _=>⟨by
 rw[C8];obtain⟨⟨-,h6,-⟩,-⟩:=b1;have h6:(J 0).N<=6:=h6;have fin:∀ {x:Bool},x=prB (J 0).N (J 1).N (cel (J 1).G)->(hd [Lf.i 0,.b x]).Z=0/\agW KX HW.Y (tl [Lf.i 0,.b x]) (XZ J):=λh=>⟨rfl,⟨h,ah⟩,ah⟩;refine⟨λh=>fin (decide_eq_false λk=>by have:=of_decide_eq_true h;have:=k.1;omega).symm,λh=>?_⟩
 have h:=of_decide_eq_false h;have n1:1<=(J 0).N:=ac;refine⟨λ_=>?_,λ_=>?_⟩
 .refine⟨λh=>fin (decide_eq_false λk=>?_).symm,λhn=>?_⟩
  .have h:(((((J 1).N:Nat):Int)!=(((J 0).N:Nat):Int))=true):=h;have e:=k.2.1;rw[e]at h
   simp at h
  have hn:(J 1).N=(J 0).N:=by
   have:(((J 1).N:Nat):Int)=(((J 0).N:Nat):Int):=by simpa using hn
   omega
  refine bG (X:=Unit) (J 0).N 2 (λi _=>∀k,k<i->1<=cel (J 1).G k/\cel (J 1).G k<=3) (λi _=>[.l (J 1).N (J 1).G,.i (((J 0).N:Nat):Int),.i (i:Int)]) (λ_ _ _=>rfl) () rfl (λk hk=>absurd hk (Nat.not_lt_zero k)) λI μ hA i _ l hi hx hl=>?_;subst hl;refine⟨λh=>?_,λh=>?_⟩
  .have h:(i:Int)<(((J 0).N:Nat):Int):=of_decide_eq_true h;have hb:(i:Int)<(((J 1).N:Nat):Int):=ac;refine⟨hb,λh2=>fin (decide_eq_false λk=>?_).symm,λh2=>⟨hb,λh3=>fin (decide_eq_false λk=>?_).symm,λh3=>?_⟩⟩
   .have h2:cel (J 1).G i<1:=of_decide_eq_true h2;have:=k.2.2.1 i ac;omega
   .have h3:3<cel (J 1).G i:=of_decide_eq_true h3;have:=k.2.2.1 i ac;omega
   .have h2:¬ cel (J 1).G i<1:=of_decide_eq_false h2;have h3:¬ 3<cel (J 1).G i:=of_decide_eq_false h3;have hi':(i:Int)+1<=1048576:=ac;refine⟨hi',hA i () () _ _ ac (λk hk=>?_) rfl rfl⟩
    by_cases e:k=i
    .subst e;omega
    .exact hx k ac
  .have h:¬ (i:Int)<(((J 0).N:Nat):Int):=of_decide_eq_false h;have hi:i=(J 0).N:=ac;subst hi;have a0:(0:Int)<(((J 1).N:Nat):Int):=ac;have a1:(0:Int)<=(((J 0).N:Nat):Int)-1:=ac;have a2:(((J 0).N:Nat):Int)-1<(((J 1).N:Nat):Int):=ac;have eN:((((J 0).N:Nat):Int)-1).toNat=(J 0).N-1:=ac;refine⟨a0,λq=>⟨a1,a2,fin ?_⟩,λq=>fin ?_⟩
   .have q:cel (J 1).G 0=1:=eq_of_beq q;show(cel (J 1).G ((((J 0).N:Nat):Int)-1).toNat !=3)=prB _ _ _;rw[eN]
    by_cases e:cel (J 1).G ((J 0).N-1)=3
    .rw[e];exact(decide_eq_false λk=>k.2.2.2.2 e).symm
    .rw[show(cel (J 1).G ((J 0).N-1)!=3)=true by simpa using e]
     exact(decide_eq_true ⟨n1,hn,hx,q,e⟩).symm
   .have q:¬ cel (J 1).G 0=1:=ne_of_beq_false q;exact(decide_eq_false λk=>q k.2.2.2.1).symm
 .refine⟨λh=>fin (decide_eq_false λk=>?_).symm,λhn=>?_⟩
  .have h:(((((J 1).N:Nat):Int)!=(((J 0).N:Nat):Int))=true):=h;have e:=k.2.1;rw[e]at h
   simp at h
  have hn:(J 1).N=(J 0).N:=by
   have:(((J 1).N:Nat):Int)=(((J 0).N:Nat):Int):=by simpa using hn
   omega
  refine bG (X:=Unit) (J 0).N 2 (λi _=>∀k,k<i->1<=cel (J 1).G k/\cel (J 1).G k<=3) (λi _=>[.l (J 1).N (J 1).G,.i (((J 0).N:Nat):Int),.i (i:Int)]) (λ_ _ _=>rfl) () rfl (λk hk=>absurd hk (Nat.not_lt_zero k)) λI μ hA i _ l hi hx hl=>?_;subst hl;refine⟨λh=>?_,λh=>?_⟩
  .have h:(i:Int)<(((J 0).N:Nat):Int):=of_decide_eq_true h;have hb:(i:Int)<(((J 1).N:Nat):Int):=ac;refine⟨hb,λh2=>fin (decide_eq_false λk=>?_).symm,λh2=>⟨hb,λh3=>fin (decide_eq_false λk=>?_).symm,λh3=>?_⟩⟩
   .have h2:cel (J 1).G i<1:=of_decide_eq_true h2;have:=k.2.2.1 i ac;omega
   .have h3:3<cel (J 1).G i:=of_decide_eq_true h3;have:=k.2.2.1 i ac;omega
   .have h2:¬ cel (J 1).G i<1:=of_decide_eq_false h2;have h3:¬ 3<cel (J 1).G i:=of_decide_eq_false h3;have hi':(i:Int)+1<=1048576:=ac;refine⟨hi',hA i () () _ _ ac (λk hk=>?_) rfl rfl⟩
    by_cases e:k=i
    .subst e;omega
    .exact hx k ac
  .have h:¬ (i:Int)<(((J 0).N:Nat):Int):=of_decide_eq_false h;have hi:i=(J 0).N:=ac;subst hi;have a0:(0:Int)<(((J 1).N:Nat):Int):=ac;have a1:(0:Int)<=(((J 0).N:Nat):Int)-1:=ac;have a2:(((J 0).N:Nat):Int)-1<(((J 1).N:Nat):Int):=ac;have eN:((((J 0).N:Nat):Int)-1).toNat=(J 0).N-1:=ac;refine⟨a0,λq=>⟨a1,a2,fin ?_⟩,λq=>fin ?_⟩
   .have q:cel (J 1).G 0=1:=eq_of_beq q;show(cel (J 1).G ((((J 0).N:Nat):Int)-1).toNat !=3)=prB _ _ _;rw[eN]
    by_cases e:cel (J 1).G ((J 0).N-1)=3
    .rw[e];exact(decide_eq_false λk=>k.2.2.2.2 e).symm
    .rw[show(cel (J 1).G ((J 0).N-1)!=3)=true by simpa using e]
     exact(decide_eq_true ⟨n1,hn,hx,q,e⟩).symm
   .have q:¬ cel (J 1).G 0=1:=ne_of_beq_false q;exact(decide_eq_false λk=>q k.2.2.2.1).symm⟩
abbrev ac4:CT:=C0 HW XZ
theorem Ro:CO ac4:=CX0 (TX trivial ah) R1
def YH (J:ae):ae:=[.b (jJ J)]
abbrev Ef:SP:=mkS ⟨[bm],[]⟩ 21 Tryz.f21 [.tX (.sA Zf),tXO (.nR 5 0 6 0 g0),tXO (.nR 1 0 9223372036854775807 0 g0),.tX (.sA oI),gp] [] [(4,.head ⟨[(1,tXO (.nR 5 0 6 0 g0)),(5,tXO (.nP 0 0)),(8,tXO (.nP 1 0)),(11,aj 0 1048576)],[.run 26 Zf,.run 60 oI],[]⟩)] [ac9,ac4,acC]
theorem Ed J R:TR Ef J R (LET ((cw J 0 9 56926793)) λx0=>LET (VM x0) λx1=>((!(x1 0).X)->R [.i 0,.b false])/\((!(x1 0).X)=false->((decide ((J 14).Z<1))->R [.i 0,.b false])/\((decide ((J 14).Z<1))=false->((decide (31<(J 14).Z))->R [.i 0,.b false])/\((decide (31<(J 14).Z))=false->LET ((cw J 9 5 9380)) λx2=>LET (XZ x2) λx3=>((!(x3 0).X)->R [.i 0,.b false])/\((!(x3 0).X)=false->∃(I0:ae->Prop) (μ0:ae->Nat),I0 (ak [.l (J 9).N (J 9).G,.i 0] (ak (cw J 0 9 56926793) (cw J 11 3 146)))/\∀l0,I0 l0->((decide ((l0 1).Z<(((l0 0).N:Nat):Int)))->((l0 1).Z<(((l0 0).N:Nat):Int))/\LET ((ak (cw ((l0 0).G (l0 1).Z.toNat) 0 5 18697) [.i (l0 2).Z,.i (l0 3).Z])) λx4=>LET (Yv x4) λx5=>((!(x5 0).X)->R [.i 0,.b false])/\((!(x5 0).X)=false->(((l0 1).Z+1)<=1048576)/\Ag I0 μ0 l0 (ak [.l (l0 0).N (l0 0).G,.i ((l0 1).Z+1)] (cw l0 2 12 19652715081))))/\((decide ((l0 1).Z<(((l0 0).N:Nat):Int)))=false->((l0 6).X->R [.i 0,.b true])/\((l0 6).X=false->((!(l0 11).X)->R [.i 0,.b (l0 13).X])/\((!(l0 11).X)=false-> R [.i 0,.b false])))))))):=af
theorem acp {J:ae} (hv:vsB J 0=true) (hp:prB (J 9).N (J 10).N (cel (J 10).G)=true) (hq:1<=(J 14).Z/\(J 14).Z<=31) (hs:∀i,i<(J 9).N->szB ((J 9).G i) (J 0).Z (J 1).Z=true):jJ J=((J 4).X||(!(J 11).X&&(J 13).X)):=by unfold jJ ecB;rw[hv,hp,decide_eq_true hq,decide_eq_true hs,Bool.and_true,Bool.and_true,Bool.true_and,Bool.true_and]
def afc (J:ae) (i:Nat):ae:=[.l (J 9).N (J 9).G,.i (i:Int),.i (J 0).Z,.i (J 1).Z,.i (J 2).Z,.i (J 3).Z,.b (J 4).X,.i (J 5).Z,.i (J 6).Z,.f (J 7).F,.f (J 8).F,.b (J 11).X,.b (J 12).X,.b (J 13).X]
theorem UD:PF0 Ef YH:=λJ b1 _=>⟨by
 rw[Ed];obtain⟨-,⟨-,h6,-⟩,-⟩:=b1;have h6:(J 9).N<=6:=h6;have fin:∀ {x:Bool},x=jJ J->(hd [Lf.i 0,.b x]).Z=0/\agW KX Ef.Y (tl [Lf.i 0,.b x]) (YH J):=λh=>⟨rfl,⟨h,ah⟩,ah⟩;refine aH rfl (aH (w:=[.b (vsB J 0)]) af ⟨λh=>fin ?_,λhv=>⟨λh=>fin ?_,λq1=>⟨λh=>fin ?_,λq2=>aH rfl (aH (w:=[.b (prB (J 9).N (J 10).N (cel (J 10).G))]) af ⟨λh=>fin ?_,λhp=>?_⟩)⟩⟩⟩)
 .have h:vsB J 0=false:=by simpa using(show(!vsB J 0)=true from h)
  unfold jJ ecB;rw[h];rfl
 .have h:=of_decide_eq_true h;unfold jJ;rw[decide_eq_false (λk=>by have:=k.1;omega),Bool.and_false]
 .have h:=of_decide_eq_true h;unfold jJ;rw[decide_eq_false (λk=>by have:=k.2;omega),Bool.and_false]
 .have h:prB (J 9).N (J 10).N (cel (J 10).G)=false:=by simpa using(show(!prB (J 9).N (J 10).N (cel (J 10).G))=true from h)
  unfold jJ ecB;rw[h,Bool.false_and,Bool.and_false,Bool.false_and]
 have hv:vsB J 0=true:=by simpa using(show(!vsB J 0)=false from hv)
 have hp:prB (J 9).N (J 10).N (cel (J 10).G)=true:=by simpa using(show(!prB (J 9).N (J 10).N (cel (J 10).G))=false from hp)
 have q1:=of_decide_eq_false q1;have q2:=of_decide_eq_false q2;have hq:1<=(J 14).Z/\(J 14).Z<=31:=ac;refine bG (X:=Unit) (J 9).N 1 (λi _=>∀k,k<i->szB ((J 9).G k) (J 0).Z (J 1).Z=true) (λi _=>afc J i) (λ_ _ _=>rfl) () rfl (λk hk=>absurd hk (Nat.not_lt_zero k)) λI μ hA i _ l hi hx hl=>?_;subst hl;refine⟨λh=>?_,λh=>?_⟩
 .have h:(i:Int)<(((J 9).N:Nat):Int):=of_decide_eq_true h;refine⟨h,aH rfl (aH (w:=[.b (szB ((J 9).G i) (J 0).Z (J 1).Z)]) af ⟨λh2=>fin ?_,λh2=>?_⟩)⟩
  .have h2:szB ((J 9).G i) (J 0).Z (J 1).Z=false:=by simpa using(show(!szB ((J 9).G i) (J 0).Z (J 1).Z)=true from h2)
   unfold jJ ecB;rw[decide_eq_false (p:=∀k,k<(J 9).N->szB ((J 9).G k) (J 0).Z (J 1).Z=true) (λk=>by rw[k i ac]at h2;cases h2),Bool.and_false,Bool.and_false,Bool.and_false,Bool.false_and]
  .have h2:szB ((J 9).G i) (J 0).Z (J 1).Z=true:=by simpa using(show(!szB ((J 9).G i) (J 0).Z (J 1).Z)=false from h2)
   have hi':(i:Int)+1<=1048576:=ac;refine⟨hi',hA i () () _ _ ac (λk hk=>?_) rfl af⟩
   by_cases e:k=i
   .subst e;exact h2
   .exact hx k ac
 .have h:¬ (i:Int)<(((J 9).N:Nat):Int):=of_decide_eq_false h;have e:=acp hv hp hq λk hk=>hx k ac;refine⟨λh1=>fin ?_,λh1=>⟨λh2=>fin ?_,λh2=>fin ?_⟩⟩
  .have h1:(J 4).X=true:=h1;rw[e,h1,Bool.true_or]
  .have h1:(J 4).X=false:=h1;have h2:(J 11).X=false:=by simpa using(show(!(J 11).X)=true from h2)
   rw[e,h1,h2];rfl
  .have h1:(J 4).X=false:=h1;have h2:(J 11).X=true:=by simpa using(show(!(J 11).X)=false from h2)
   rw[e,h1,h2];rfl⟩
abbrev ab1:CT:=C0 Ef YH
theorem Je:CO ab1:=CX0 (TX ⟨W3,Ro,Xv,ah⟩ ah) UD
end
end Go.Proofs.YtldmjbgplgoedaaGreatDoor
