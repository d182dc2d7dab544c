import Derived.Test.YtldmjbgplgoedaaGreatDoorRp42
set_option linter.all false
namespace Go.Proofs.YtldmjbgplgoedaaGreatDoor
noncomputable section
open Go.RowKit U
def stI (m:ae):ae:=cw m 0 22 k9
def stR (S:Nat->ae):Nat->Nat × (Nat->ae)
 |0=>(0,λ_=>[])
 |k+1=>match k with
  |0=>(((eJ (stI (S 0))) 0).N,λi=>((eJ (stI (S 0))) 2).G (i+((eJ (stI (S 0))) 0).O))
  |j+1=>((stR S (j+1)).1+((eJ (stI (S (j+1)))) 0).N,aE (stR S (j+1)).1 (stR S (j+1)).2 λi=>((eJ (stI (S (j+1)))) 2).G (i+((eJ (stI (S (j+1)))) 0).O))
theorem vB {S:Nat->ae}:∀k,(stR S (k+1)).1=(stR S k).1+((eJ (stI (S k))) 0).N
 |0=>(Nat.zero_add _).symm
 |_+1=>rfl
theorem uD {S:Nat->ae} {k:Nat}:∀d,(stR S k).1<=(stR S (k+d)).1
 |0=>Nat.le_refl _
 |d+1=>by
  refine Nat.le_trans (uD d) ?_;rw[show k+(d+1)=(k+d)+1 by omega,vB]
  omega
def szZ (S:Nat->ae):Nat->Int
 |0=>0
 |k+1=>szZ S k+(((((eJ (stI (S k))) 0).N:Nat):Int)+((S k) 21).Z)
def pcZ (S:Nat->ae):Nat->Int
 |0=>0
 |k+1=>bif ((S k) 0).Z==3 then pcZ S k+1 else pcZ S k
theorem xD {S:Nat->ae}:∀k,0<=pcZ S k/\pcZ S k<=(k:Int)
 |0=>⟨Int.le_refl _,Int.le_refl _⟩
 |k+1=>by
  have:=xD (S:=S) k;show 0<=(bif ((S k) 0).Z==3 then pcZ S k+1 else pcZ S k)/\(bif ((S k) 0).Z==3 then pcZ S k+1 else pcZ S k)<=_
  cases((S k) 0).Z==3
  .show 0<=pcZ S k/\pcZ S k<=_;omega
  .show 0<=pcZ S k+1/\pcZ S k+1<=_;omega
theorem JT {S:Nat->ae}:∀ {k:Nat},(∀i,i<k->((S i) 21).Z=0)->szZ S k=(((stR S k).1:Nat):Int)
 |0,_=>rfl
 |k+1,h=>by rw[vB];show szZ S k+(_+_)=_;rw[JT λi hi=>h i ac,h k ac];omega
structure ZV (J:ae):Prop where
 ok:∀i,i<(J 0).N->Qa ((J 0).G i)
 pad:∀i,i<(J 0).N->(((J 0).G i) 21).Z=0
 sz:(stR (J 0).G (J 0).N).1<=1048576
def stX (J:ae) (k:Nat):Nat × (Nat->ae):=stR (J 0).G k
def abU (J:ae):ae:=[.l (stX J (J 0).N).1 (λi=>(stX J (J 0).N).2 (0+i)),.i 0]
def ZC (J:ae) (k:Nat) (p:Int):ae:=[.i 1,.l (J 0).N (J 0).G,.s 0 (stX J k).1,.i p,.i (szZ (J 0).G k),.i (((J 0).N:Nat):Int),.i (k:Int),.l (stX J k).1 (stX J k).2]
def stH (J:ae) (k:Nat):ae:=ZC J k (pcZ (J 0).G k)
abbrev PN:SP:=mkS ⟨[.sO (.nR 0 0 1048576 0 g0),aD 0 0],[]⟩ 61 Tryz.f61 [tXO (.nR 7 1 256 0 g0)] [] [(4,.heads [⟨[(0,tXO (.nR 7 1 256 0 g0)),(4,tXO (.nK (.slice none 0 0))),(5,aj 0 256),(6,aj 0 1048576),(11,aj 1 256),(12,aj 0 0)],[],[]⟩,⟨[(0,tXO (.nR 7 1 256 0 g0)),(4,tXO (.nD 0 0 5 1048576 0 0)),(5,aj 0 256),(6,aj 0 1048576),(11,aj 1 256),(12,aj 1 256)],[.dyn 5 0 5 1048576 0 g0 false],[]⟩])] [aea]
theorem HU J R:TR PN J R (∃(I0:ae->Prop) (μ0:ae->Nat),I0 [.i 0,.l (J 0).N (J 0).G,.i 0,.i 0,.i (((J 0).N:Nat):Int),.i 0]/\∀l0,I0 l0-> BR (decide ((l0 0).Z=0)) (LET ((cw ((l0 1).G (l0 5).Z.toNat) 0 22 k9)) λx0=>(QO x0)/\LET (eJ x0) λx1=>BR ((((l0 1).G (l0 5).Z.toNat) 0).Z==3) (BR (decide (((l0 3).Z+((((x1 0).N:Nat):Int)+(((l0 1).G (l0 5).Z.toNat) 21).Z))<=1048576)) ((((x1 0).O+(x1 0).N)<=(x1 2).N)/\((((l0 1).G (l0 5).Z.toNat) 21).Z=0)/\(((l0 2).Z+1)<=256)/\(((l0 3).Z+((((x1 0).N:Nat):Int)+(((l0 1).G (l0 5).Z.toNat) 21).Z))<=1048576)/\Ag I0 μ0 l0 [.i 1,.l (l0 1).N (l0 1).G,.s 0 (x1 0).N,.i ((l0 2).Z+1),.i ((l0 3).Z+((((x1 0).N:Nat):Int)+(((l0 1).G (l0 5).Z.toNat) 21).Z)),.i (l0 4).Z,.i 1,.l (x1 0).N (λi0=>(x1 2).G (i0+(x1 0).O))]) (False)) (BR (decide (((l0 3).Z+((((x1 0).N:Nat):Int)+(((l0 1).G (l0 5).Z.toNat) 21).Z))<=1048576)) ((((x1 0).O+(x1 0).N)<=(x1 2).N)/\((((l0 1).G (l0 5).Z.toNat) 21).Z=0)/\(((l0 3).Z+((((x1 0).N:Nat):Int)+(((l0 1).G (l0 5).Z.toNat) 21).Z))<=1048576)/\Ag I0 μ0 l0 [.i 1,.l (l0 1).N (l0 1).G,.s 0 (x1 0).N,.i (l0 2).Z,.i ((l0 3).Z+((((x1 0).N:Nat):Int)+(((l0 1).G (l0 5).Z.toNat) 21).Z)),.i (l0 4).Z,.i 1,.l (x1 0).N (λi0=>(x1 2).G (i0+(x1 0).O))]) (False))) (BR (decide ((l0 0).Z=1)) (BR (decide ((l0 6).Z<(l0 5).Z)) (((l0 6).Z<(((l0 1).N:Nat):Int))/\LET ((cw ((l0 1).G (l0 6).Z.toNat) 0 22 k9)) λx2=>(QO x2)/\LET (eJ x2) λx3=>((l0 6).Z<(((l0 1).N:Nat):Int))/\BR ((((l0 1).G (l0 6).Z.toNat) 0).Z==3) (((l0 6).Z<(((l0 1).N:Nat):Int))/\BR (decide (((l0 4).Z+((((x3 0).N:Nat):Int)+(((l0 1).G (l0 6).Z.toNat) 21).Z))<=1048576)) ((((x3 0).O+(x3 0).N)<=(x3 2).N)/\((l0 2).O=0)/\((l0 2).N=(l0 7).N)/\((l0 6).Z<(((l0 1).N:Nat):Int))/\((((l0 1).G (l0 6).Z.toNat) 21).Z=0)/\(((l0 2).N+(x3 0).N)<=1048576)/\(((l0 3).Z+1)<=256)/\(((l0 4).Z+((((x3 0).N:Nat):Int)+(((l0 1).G (l0 6).Z.toNat) 21).Z))<=1048576)/\(((l0 6).Z+1)<=256)/\(((l0 2).N+(x3 0).N)<=1048576)/\Ag I0 μ0 l0 [.i 1,.l (l0 1).N (l0 1).G,.s 0 ((l0 2).N+(x3 0).N),.i ((l0 3).Z+1),.i ((l0 4).Z+((((x3 0).N:Nat):Int)+(((l0 1).G (l0 6).Z.toNat) 21).Z)),.i (l0 5).Z,.i ((l0 6).Z+1),.l ((l0 2).N+(x3 0).N) (aE (l0 2).N (l0 7).G (λi0=>(x3 2).G (i0+(x3 0).O)))]) ((((l0 3).Z+1)<=256)/\(((l0 4).Z+((((x3 0).N:Nat):Int)+(((l0 1).G (l0 6).Z.toNat) 21).Z))<=1048576)/\(((l0 6).Z+1)<=256)/\Ag I0 μ0 l0 [.i 1,.l (l0 1).N (l0 1).G,.s (l0 2).O (l0 2).N,.i ((l0 3).Z+1),.i ((l0 4).Z+((((x3 0).N:Nat):Int)+(((l0 1).G (l0 6).Z.toNat) 21).Z)),.i (l0 5).Z,.i ((l0 6).Z+1),.l (l0 7).N (l0 7).G])) (((l0 6).Z<(((l0 1).N:Nat):Int))/\BR (decide (((l0 4).Z+((((x3 0).N:Nat):Int)+(((l0 1).G (l0 6).Z.toNat) 21).Z))<=1048576)) ((((x3 0).O+(x3 0).N)<=(x3 2).N)/\((l0 2).O=0)/\((l0 2).N=(l0 7).N)/\((l0 6).Z<(((l0 1).N:Nat):Int))/\((((l0 1).G (l0 6).Z.toNat) 21).Z=0)/\(((l0 2).N+(x3 0).N)<=1048576)/\(((l0 4).Z+((((x3 0).N:Nat):Int)+(((l0 1).G (l0 6).Z.toNat) 21).Z))<=1048576)/\(((l0 6).Z+1)<=256)/\(((l0 2).N+(x3 0).N)<=1048576)/\Ag I0 μ0 l0 [.i 1,.l (l0 1).N (l0 1).G,.s 0 ((l0 2).N+(x3 0).N),.i (l0 3).Z,.i ((l0 4).Z+((((x3 0).N:Nat):Int)+(((l0 1).G (l0 6).Z.toNat) 21).Z)),.i (l0 5).Z,.i ((l0 6).Z+1),.l ((l0 2).N+(x3 0).N) (aE (l0 2).N (l0 7).G (λi0=>(x3 2).G (i0+(x3 0).O)))]) ((((l0 4).Z+((((x3 0).N:Nat):Int)+(((l0 1).G (l0 6).Z.toNat) 21).Z))<=1048576)/\(((l0 6).Z+1)<=256)/\Ag I0 μ0 l0 (ak [.i 1] (ak (cw l0 1 3 108) [.i ((l0 4).Z+((((x3 0).N:Nat):Int)+(((l0 1).G (l0 6).Z.toNat) 21).Z)),.i (l0 5).Z,.i ((l0 6).Z+1),.l (l0 7).N (l0 7).G]))))) ((((l0 2).O+(l0 2).N)<=(l0 7).N)/\R [.i 0,.l (l0 2).N (λi0=>(l0 7).G ((l0 2).O+i0)),.i 0])) (False))):=af
theorem WC:PF1 PN ZV abU:=λJ b1 _ hp=>⟨by
 rw[HU];obtain⟨⟨n1,n2,-⟩,-⟩:=b1;have n1:1<=(J 0).N:=n1;have n2:(J 0).N<=256:=n2
 have hz:∀k,k<=(J 0).N->szZ (J 0).G k=(((stX J k).1:Nat):Int)/\(stX J k).1<=1048576:=λk hk=>by
  refine⟨JT λi hi=>hp.pad i ac,?_⟩;have:=uD (S:=(J 0).G) (k:=k) ((J 0).N-k);rw[show k+((J 0).N-k)=(J 0).N by omega]at this
  exact Nat.le_trans this hp.sz
 have hI:∀k,k<(J 0).N->QO (stI ((J 0).G k)):=λk hk=>by have h:=hp.ok k hk;have h0:=hp.pad k hk;refine⟨kmp h,?_⟩;have:0<=(((J 0).G k) 21).Z/\(((J 0).G k) 21).Z<=1048576:=ac;exact kmp this
 have pt:∀k,((((J 0).G k) 0).Z==3)->stH J (k+1)=ZC J (k+1) (pcZ (J 0).G k+1):=λk e=>by unfold stH;rw[show pcZ (J 0).G (k+1)=pcZ (J 0).G k+1 from Bm e _ _]
 have pf:∀k,((((J 0).G k) 0).Z==3)=false->stH J (k+1)=ZC J (k+1) (pcZ (J 0).G k):=λk e=>by unfold stH;rw[show pcZ (J 0).G (k+1)=pcZ (J 0).G k from A8 e _ _]
 have hm:∀k,k<(J 0).N->(stX J k).1+((eJ (stI ((J 0).G k))) 0).N=(stX J (k+1)).1:=λk _=>(vB k).symm;refine⟨λl=>l=[.i 0,.l (J 0).N (J 0).G,.i 0,.i 0,.i (((J 0).N:Nat):Int),.i 0]\/∃k,1<=k/\k<=(J 0).N/\l=stH J k,λl=>bif (l 0).Z==0 then(J 0).N+1 else(J 0).N-(l 6).Z.toNat,.inl rfl,λl hl=>?_⟩
 rcases hl with hl | ⟨k,k1,k2,hl⟩
 .subst hl;obtain⟨z1,z2⟩:=hz 1 n1
  have z3:szZ (J 0).G (0+1)<=1048576:=by show szZ (J 0).G 1<=_;omega
  have ms:(J 0).N-1<(J 0).N+1:=ac;have i0:=hI 0 n1;have a1:(0:Int)+1<=256:=afH;have p0:=hp.pad 0 n1;have o0:((eJ (stI ((J 0).G 0))) 0).O+((eJ (stI ((J 0).G 0))) 0).N<=((eJ (stI ((J 0).G 0))) 2).N:=W7 i0;refine⟨λ_=>aH (w:=stI ((J 0).G 0)) af ⟨i0,aH rfl ⟨λe=>⟨λ_=>?_,λh=>?_⟩,λe=>⟨λ_=>?_,λh=>?_⟩⟩⟩,λh=>(by cases(show decide ((0:Int)=0)=false from h))⟩
  .refine⟨o0,p0,a1,kmp z3,.inr ⟨1,Nat.le_refl _,n1,?_⟩,kmp ms⟩;rw[pt 0 (kmp e)]
   kernel_rfl
  .have h:decide (szZ (J 0).G (0+1)<=1048576)=false:=kmp h;exact absurd z3 (of_decide_eq_false h)
  .refine⟨o0,p0,kmp z3,.inr ⟨1,Nat.le_refl _,n1,?_⟩,kmp ms⟩;rw[pf 0 (kmp e)]
   kernel_rfl
  .have h:decide (szZ (J 0).G (0+1)<=1048576)=false:=kmp h;exact absurd z3 (of_decide_eq_false h)
 .subst hl;refine⟨λh=>(by cases(show decide ((1:Int)=0)=true from h)),λ_=>⟨λ_=>⟨λh=>?_,λh=>?_⟩,λh=>(by cases(show decide ((1:Int)=1)=false from h))⟩⟩
  .have h:decide ((k:Int)<(((J 0).N:Nat):Int))=true:=kmp h;have h:=of_decide_eq_true h;have hk:k<(J 0).N:=ac;obtain⟨z1,z2⟩:=hz (k+1) hk;have z3:szZ (J 0).G (k+1)<=1048576:=ac;have z4:(stX J k).1+((eJ (stI ((J 0).G k))) 0).N<=1048576:=by rw[hm k hk];exact z2
   have ms:(J 0).N-((k:Int)+1).toNat<(J 0).N-((k:Int)).toNat:=ac;have ik:=hI k hk
   have a1:pcZ (J 0).G k+1<=256:=by have:=(xD (S:=(J 0).G) k).2;omega
   have a2:(k:Int)+1<=256:=ac;have p0:=hp.pad k hk;have o0:((eJ (stI ((J 0).G k))) 0).O+((eJ (stI ((J 0).G k))) 0).N<=((eJ (stI ((J 0).G k))) 2).N:=W7 ik;obtain⟨j,rfl⟩:∃j,k=j+1:=⟨k-1,ac⟩;refine⟨kmp h,aH (w:=stI ((J 0).G (j+1))) af ⟨ik,aH rfl ⟨kmp h,λe=>⟨kmp h,λ_=>?_,λh=>?_⟩,λe=>⟨kmp h,λ_=>?_,λh=>?_⟩⟩⟩⟩
   .refine⟨o0,af,af,kmp h,kmp p0,kmp z4,kmp a1,kmp z3,kmp a2,kmp z4,.inr ⟨j+1+1,ac,hk,?_⟩,kmp ms⟩;rw[pt (j+1) (kmp e)]
    kernel_rfl
   .have h:decide (szZ (J 0).G (j+1+1)<=1048576)=false:=kmp h;exact absurd z3 (of_decide_eq_false h)
   .refine⟨o0,af,af,kmp h,kmp p0,kmp z4,kmp z3,kmp a2,kmp z4,.inr ⟨j+1+1,ac,hk,?_⟩,kmp ms⟩;rw[pf (j+1) (kmp e)]
    kernel_rfl
   .have h:decide (szZ (J 0).G (j+1+1)<=1048576)=false:=kmp h;exact absurd z3 (of_decide_eq_false h)
  .have h:decide ((k:Int)<(((J 0).N:Nat):Int))=false:=kmp h;have h:=of_decide_eq_false h;have hk:k=(J 0).N:=ac;subst hk;obtain⟨z1,z2⟩:=hz (J 0).N (Nat.le_refl _);have q1:=(xD (S:=(J 0).G) (J 0).N).2;refine⟨kmp (Nat.le_of_eq (Nat.zero_add (stX J (J 0).N).1)),aT rfl af⟩⟩
abbrev aew:CT:=C1 PN ZV abU
theorem Wo:CO aew:=CX1 (TX ⟨Uk,ah⟩ ah) WC
end
end Go.Proofs.YtldmjbgplgoedaaGreatDoor
namespace Go.Proofs.YtldmjbgplgoedaaGreatDoor
noncomputable section
open Go.RowKit U
def K9 (J:ae):ae:=ak [.i (J 27).Z,.i (J 28).Z,.i (J 29).Z,.i (J 30).Z,.b (J 31).X,.i (J 32).Z,.i (J 33).Z,.f (J 34).F,.f (J 35).F] (ak (cw J 0 27 1379637198970593686922313) [.i (J 39).Z])
def aba (p:ae):ae:=[.i 3,.i 0,.i 0,.i 0,.i 0,.b false,.i 0,.i 0,.f (λ_=>0),.f (λ_=>0),.b false,.b false,.i 0,.i (p 0).Z,.i (p 1).Z,.i (p 2).Z,.b (p 3).X,.b (p 4).X,.b (p 5).X,.l 0 (λ_=>[]),.l (p 6).N (p 6).G,.i 0]
def oC (J:ae):ae:=pM (K9 J)
def aeM (J:ae):Nat->ae:=aE (J 42).N (J 55).G λ_=>aba (oC J)
structure uC (J:ae):Prop where
 pic:wa (K9 J)
 O:(J 42).O=0
 N:(J 42).N=(J 55).N
 r:(J 42).N+1<=40
def oJ (J:ae):ae:=ak [.i ((oC J) 7).Z,.i ((oC J) 8).Z,.l ((oC J) 9).N ((oC J) 9).G,.l ((oC J) 10).N ((oC J) 10).G,.l ((oC J) 11).N ((oC J) 11).G] (ak (cw J 27 15 k23) (ak [.s 0 ((J 42).N+1)] (ak (cw J 43 12 13491390541) [.l (J 56).N (J 56).G,.l ((J 42).N+1) (aeM J)])))
abbrev LO:SP:=mkS ⟨[.sA sFF],[.run 136 qL7,.dead,.dyn 31 5 1 6 0 g0 false,.dyn 76 7 1 40 0 g0 false]⟩ 128 Tryz.f128 [tXO (.nP 0 0),.tX (.sA ack),aN,.tX (.sA sFF),.tX (.sA ZO)] [.run 136 qL8,.dyn 76 7 1 40 0 g0 false,.dyn 31 5 1 6 0 g0 false] [] [aaA] [] (.tX (.sA sFF)) [1]
theorem H9 J R:TR LO J R (LET ((ak (cw J 27 9 56926793) (ak (cw J 0 27 1379637198970593686922313) [.i (J 39).Z]))) λx0=>(wa x0)/\LET (pM x0) λx1=>(1<=1)/\((J 42).O=0)/\((J 42).N=(J 55).N)/\(((J 42).N+1)<=40)/\(((J 42).N+1)<=40)/\R (ak (ak [.i 0] (cw x1 7 5 18697)) (ak (cw J 27 15 k23) (ak [.s 0 ((J 42).N+1)] (ak (cw J 43 12 13491390541) [.l (J 56).N (J 56).G,.l ((J 42).N+1) (aE (J 42).N (J 55).G (λi1=>(ak [.i 3,.i 0,.i 0,.i 0,.i 0,.b false,.i 0,.i 0,.f (λ_=>0),.f (λi0=>0),.b false,.b false,.i 0] (ak (cw x1 0 6 74825) [.l 0 (λ_=>[]),.l (x1 6).N (x1 6).G,.i 0]))))]))))):=af
theorem UM:PF1 LO uC oJ:=λJ _ _ hp=>⟨by rw[H9];exact aH rfl ⟨kmp hp.pic,aH rfl ⟨afH,hp.O,hp.N,hp.r,hp.r,aT rfl af⟩⟩⟩
abbrev acN:CT:=C1 LO uC oJ
theorem Rd:CO acN:=CX1 (TX ⟨agU,ah⟩ ah) UM
end
end Go.Proofs.YtldmjbgplgoedaaGreatDoor
namespace Go.Proofs.YtldmjbgplgoedaaGreatDoor
noncomputable section
open Go.RowKit U
theorem SV (c:Cd):(1<=((pyB c) 0).N/\((pyB c) 0).N<=12301)/\PC [.l ((pyB c) 0).N ((pyB c) 0).G]/\∀i,i<((pyB c) 0).N->0<=cel ((pyB c) 0).G i:=by
 unfold pyB;cases h:Nat.ble (cdN c) 98405
 .refine⟨⟨Nat.le_refl 1,show 1<=12301 by decide⟩,?_,λi _=>?_⟩
  .show(128:Int)≠0
   decide
  .show(0:Int)<=128
   decide
 .have h:=ble_iff.1 h;refine⟨⟨?_,?_⟩,mZ c,λi _=>pW c i⟩
  .show 1<=(0+cdN c) / 8+1;omega
  .show(0+cdN c) / 8+1<=12301;omega
theorem Wu {c:ae} {k:Nat} (hk:k<=3):A6 (piU c k)/\((piU c k) 1).N<=12301:=by obtain⟨⟨h1,h2⟩,h3,h4⟩:=SV (slY (C6 (piA k (piC c k)) (roN (piA k (piC c k)))) ((C6 (piA k (piC c k)) (roN (piA k (piC c k)))) 18).N).1;have e0:((piU c k) 0).Z=1+(k:Int):=af;have h5:((pyB (slY (C6 (piA k (piC c k)) (roN (piA k (piC c k)))) ((C6 (piA k (piC c k)) (roN (piA k (piC c k)))) 18).N).1) 0).N<=32768:=ac;exact⟨⟨⟨ac,ac⟩,⟨kmp h1,kmp h5⟩,kmp h3,kmp h4⟩,kmp h2⟩
theorem Lw {J:ae} (h:wa J):Fm (pM J) 7 (J 0).Z (rHt (J 10).Z (J 1).Z)/\(((pM J) 6).N=piN J/\16*(piN J:Int)=rHt (J 10).Z (J 1).Z/\piN J<=4)/\∀i,i<piN J->A6 (((pM J) 6).G i)/\((((pM J) 6).G i) 1).N<=12301:=by
 have hi:=AO h;have hi':Mw (piI J):=⟨kmp hi.ft,kmp hi.src,kmp hi.refs⟩;obtain⟨-,q1,q2⟩:=xE hi';have q1:CdF (cn (piI J)) 0 (J 0).Z (J 1).Z:=q1;have q2:Fm (cn (piI J)) 70 (J 0).Z (rHt (J 10).Z (J 1).Z):=q2;obtain⟨i1,i2⟩:=xm q1 q2 (piN J);obtain⟨r1,r2,r3⟩:=zX hi.ft;have hN:(piN J:Int)=rwZ J 0 9:=by unfold piN;omega
 refine⟨kmp i2,⟨af,ac,ac⟩,λi hn=>?_⟩
 have e:((pM J) 6).G i=piU (cn (piI J)) i:=by have:((pM J) 6).G i=piG (cn (piI J)) (piN J-1) (0+i):=af;rw[this,Nat.zero_add,Kq ac]
 rw[e];exact Wu ac
def icN (m:ae):Nat:=((eJ (stI m)) 0).N
theorem SS {m:ae} (h:(m 0).Z=1):icN m<=298:=by
 have e:eJ (stI m)=ibF (stI m):=by unfold eJ;rw[show((stI m) 0).Z=1 from h];rfl
 have e2:ibH (stI m)=A3 [.i ((stI m) 1).Z,.i ((stI m) 2).Z,.i ((stI m) 3).Z,.i ((stI m) 4).Z,.b ((stI m) 5).X,.i ((stI m) 6).Z,.i ((stI m) 7).Z,.f ((stI m) 8).F,.f ((stI m) 9).F]:=by unfold ibH;rw[show((stI m) 0).Z=1 from h];rfl
 unfold icN;rw[e];show ze [.i ((ibH (stI m)) 0).Z,.l ((ibH (stI m)) 1).N ((ibH (stI m)) 1).G]<=298;rw[e2];generalize ([.i ((stI m) 1).Z,.i ((stI m) 2).Z,.i ((stI m) 3).Z,.i ((stI m) 4).Z,.b ((stI m) 5).X,.i ((stI m) 6).Z,.i ((stI m) 7).Z,.f ((stI m) 8).F,.f ((stI m) 9).F]:ae)=s;have a:=kG (J:=[.i ((A3 s) 0).Z,.l ((A3 s) 1).N ((A3 s) 1).G]) λi _=>pW (Ku s) i;have b:=abg (J:=s);refine Nat.le_trans a ?_;show 4+2*((A3 s) 1).N<=298;omega
theorem RA {m:ae} (h:(m 0).Z=2):icN m<=12:=by
 have e:eJ (stI m)=ibF (stI m):=by unfold eJ;rw[show((stI m) 0).Z=2 from h];rfl
 have e2:ibH (stI m)=Le [.b ((stI m) 10).X,.b ((stI m) 11).X,.i ((stI m) 12).Z]:=by unfold ibH;rw[show((stI m) 0).Z=2 from h];rfl
 unfold icN;rw[e];show ze [.i ((ibH (stI m)) 0).Z,.l ((ibH (stI m)) 1).N ((ibH (stI m)) 1).G]<=12;rw[e2];generalize ([.b ((stI m) 10).X,.b ((stI m) 11).X,.i ((stI m) 12).Z]:ae)=s;have a:=kG (J:=[.i ((Le s) 0).Z,.l ((Le s) 1).N ((Le s) 1).G]) λi _=>pW (pgC s) i;exact kmp a
theorem UP {m:ae} (h:(m 0).Z=3) (hu:∀i,i<(m 20).N->A6 ((m 20).G i)/\(((m 20).G i) 1).N<=12301):icN m<=10+(m 20).N*24606:=by
 have e:eJ (stI m)=Lj (ibA (stI m)):=by unfold eJ;rw[show((stI m) 0).Z=3 from h];rfl
 have e2:ibH (stI m)=rn [.i ((stI m) 13).Z,.i ((stI m) 14).Z,.i ((stI m) 15).Z,.b ((stI m) 16).X,.b ((stI m) 17).X,.b ((stI m) 18).X]:=by unfold ibH;rw[show((stI m) 0).Z=3 from h];rfl
 have hF:((ibF (stI m)) 2).N<=10:=by show ze [.i ((ibH (stI m)) 0).Z,.l ((ibH (stI m)) 1).N ((ibH (stI m)) 1).G]<=10;rw[e2];generalize ([.i ((stI m) 13).Z,.i ((stI m) 14).Z,.i ((stI m) 15).Z,.b ((stI m) 16).X,.b ((stI m) 17).X,.b ((stI m) 18).X]:ae)=s;have a:=kG (J:=[.i ((rn s) 0).Z,.l ((rn s) 1).N ((rn s) 1).G]) λi _=>pW (phC s 3) i;have b:=SC (J:=s);refine Nat.le_trans a ?_;show 4+2*((rn s) 1).N<=10;omega
 have:=Ae (N:=((ibF (stI m)) 2).N) (g:=((ibF (stI m)) 2).G) (S:=(m 20).G) (L:=12301) hu;unfold icN;rw[e];show(apQ ((ibF (stI m)) 2).N ((ibF (stI m)) 2).G (m 20).G (m 20).N).1<=_;omega
def ItS (N:Nat) (G:Nat->ae) (n c:Nat):Prop:=N<=n/\(∀i,i<N->Qa (G i)/\((G i) 21).Z=0)/\(stR G N).1<=c
theorem ld {G G':Nat->ae}:∀ {N:Nat},(∀i,i<N->G i=G' i)->(stR G N).1=(stR G' N).1
 |0,_=>rfl
 |N+1,h=>by rw[vB,vB,ld λi hi=>h i ac,h N ac]
theorem ItS.add {N:Nat} {G:Nat->ae} {n c d:Nat} {m:ae} (h:ItS N G n c) (h1:Qa m) (h0:(m 21).Z=0) (hd:icN m<=d):ItS (N+1) (aE N G λ_=>m) (n+1) (c+d):=by
 obtain⟨a,b,e⟩:=h;have g1:∀i,i<N->aE N G (λ_=>m) i=G i:=λi hi=>if_pos hi;have g2:aE N G (λ_=>m) N=m:=if_neg (Nat.lt_irrefl _);refine⟨ac,λi hi=>?_,?_⟩
 .by_cases k:i<N
  .rw[g1 i k];exact b i k
  .have:i=N:=ac;subst this;rw[g2];exact⟨h1,h0⟩
 .rw[vB,g2,ld g1];have:icN m=((eJ (stI m)) 0).N:=rfl;omega
end
end Go.Proofs.YtldmjbgplgoedaaGreatDoor
namespace Go.Proofs.YtldmjbgplgoedaaGreatDoor
open Go.RowKit U
theorem zq {J:ae} {o:Nat} {w h:Int} (e:(J o).Z=0\/Fm J o w h):kP J o w h=true:=by
 unfold kP;rcases e with e | ⟨e1,e2,e3⟩
 .rw[e];rfl
 .rw[e1,e2,e3];simp
theorem kK {b:Bool} {x y:Int} (hb:b=false) (hy:y=0):(bif b then x else y)=0:=by rw[hb];exact hy
theorem abw {J:ae} (ft:ftB J 0 9 15=true) (m1:(J 21).Z=0\/Fm J 21 (J 0).Z (J 1).Z) (m2:(J 26).Z=0\/Fm J 26 (J 0).Z (J 1).Z) (m3:(J 31).Z=0\/Fm J 31 (J 0).Z ((J 1).Z / 2)) (n1:(J 9).Z≠1->(J 21).Z≠0) (n2:(J 9).Z=3->(J 26).Z≠0) (n3:(J 9).Z=2->(J 15).X->(J 31).Z≠0):dcZ (qR J)=0:=by
 have g:=(jr ft).1.h
 have m3':kP J 31 (J 0).Z (Int.tdiv (J 1).Z 2)=true:=by rw[Int.tdiv_eq_ediv_of_nonneg ac];exact zq m3
 have a:(!ftB J 0 9 15)=false:=by rw[ft];rfl
 have b1:(!kP J 21 (J 0).Z (J 1).Z)=false:=by rw[zq m1];rfl
 have b2:(!kP J 26 (J 0).Z (J 1).Z)=false:=by rw[zq m2];rfl
 have b3:(!kP J 31 (J 0).Z (Int.tdiv (J 1).Z 2))=false:=by rw[m3'];rfl
 have c1:((J 9).Z !=1&&(J 21).Z==0)=false:=by
  by_cases e:(J 9).Z=1
  .rw[e];rfl
  .rw[show((J 21).Z==0)=false by simpa using n1 e,Bool.and_false]
 have c2:((J 9).Z==3&&(J 26).Z==0)=false:=by
  by_cases e:(J 9).Z=3
  .rw[show((J 26).Z==0)=false by simpa using n2 e,Bool.and_false]
  .rw[show((J 9).Z==3)=false by simpa using e];rfl
 have c3:((J 9).Z==2&&((J 15).X&&(J 31).Z==0))=false:=by
  by_cases e:(J 9).Z=2
  .cases s:(J 15).X
   .rw[Bool.false_and,Bool.and_false]
   .rw[show((J 31).Z==0)=false by simpa using n3 e s,Bool.and_false,Bool.and_false]
  .rw[show((J 9).Z==2)=false by simpa using e];rfl
 unfold dcZ;exact kK (kmp a) (kK (kmp b1) (kK (kmp b2) (kK (kmp b3) (kK (kmp c1) (kK (kmp c2) (kK (kmp c3) rfl))))))
structure PcA (J:ae):Prop where
 vs:vsB J 27=true
 cv:cvB J 0=true
 opt:(J 31).X=true\/((J 1).Z=3/\(J 3).X=true/\(J 4).X=false)
 sec:(J 6).X->(J 1).Z≠3
 src:Fm J 7 (J 27).Z (rHt (J 1).Z (J 28).Z)
 m1:(J 12).Z=0\/Fm J 12 (J 27).Z (J 28).Z
 m2:(J 17).Z=0\/Fm J 17 (J 27).Z (J 28).Z
 m3:(J 22).Z=0\/Fm J 22 (J 27).Z ((J 28).Z / 2)
 n1:(J 0).Z≠1->(J 12).Z≠0
 n2:(J 0).Z=3->(J 17).Z≠0
 n3:(J 0).Z=2->(J 6).X->(J 22).Z≠0
theorem uw {J:ae} (h:PcA J):wa (K9 J)/\ftB (K9 J) 0 9 15=true:=by
 have o:((J 31).X||((J 1).Z==3&&((J 3).X&&!(J 4).X)))=true:=by
  rcases h.opt with e | ⟨e1,e2,e3⟩
  .rw[e];rfl
  .rw[e1,e2,e3];cases(J 31).X<;>rfl
 have s:(!((J 6).X&&(J 1).Z==3))=true:=by
  cases e:(J 6).X
  .rfl
  .rw[show((J 1).Z==3)=false by simpa using h.sec e];rfl
 have f:(vsB J 27&&(cvB J 0&&((J 31).X||((J 1).Z==3&&((J 3).X&&!(J 4).X))))&&!((J 6).X&&(J 1).Z==3))=true:=by rw[h.vs,h.cv,o,s];rfl
 have ft:ftB (K9 J) 0 9 15=true:=kmp f;refine⟨⟨?_,abw ft (kmp h.m1) (kmp h.m2) (kmp h.m3) (kmp h.n1) (kmp h.n2) (kmp h.n3)⟩,ft⟩;rw[(zX ft).1];exact kmp h.src
theorem xY {J:ae} (h:PcA J) (hp:uC J) {n c:Nat} (hi:ItS (J 55).N (J 55).G n c):Fm (oJ J) 0 (J 27).Z (rHt (J 1).Z (J 28).Z)/\ItS ((oJ J) 34).N ((oJ J) 34).G (n+1) (c+(10+(rHt (J 1).Z (J 28).Z / 16).toNat*24606)):=by
 obtain⟨hpic,hft⟩:=uw h;obtain⟨o1,⟨o2,o3,o4⟩,o5⟩:=Lw hpic;have o1:Fm (oC J) 7 (J 27).Z (rHt (J 1).Z (J 28).Z):=o1;have o2:((oC J) 6).N=piN (K9 J):=o2;have o3:16*(piN (K9 J):Int)=rHt (J 1).Z (J 28).Z:=o3;have o5:∀i,i<piN (K9 J)->A6 (((oC J) 6).G i)/\((((oC J) 6).G i) 1).N<=12301:=o5;rw[<-o2]at o4 o5;have e:(rHt (J 1).Z (J 28).Z / 16).toNat=((oC J) 6).N:=by rw[o2];omega
 refine⟨kmp o1,?_⟩;have cv:=h.cv;unfold cvB at cv;obtain⟨v1,v2,v3⟩:=of_decide_eq_true cv;have ok:Qa (aba (oC J)):=.inr (.inr ⟨af,kmp (⟨v2,v3,v1⟩:(1<=(J 0).Z/\(J 0).Z<=3)/\(1<=(J 1).Z/\(J 1).Z<=3)/\0<=(J 2).Z/\(J 2).Z<=1023),af,kmp o4,kmp (λi hh=>(o5 i hh).1:∀i,i<((oC J) 6).N->A6 (((oC J) 6).G i))⟩);have ic:=UP (m:=aba (oC J)) af (kmp o5);have:=hi.add ok af ic;rw[e];have hN:=hp.N;unfold ItS at this ⊢;rw[<-hN]at this;exact kmp this
end Go.Proofs.YtldmjbgplgoedaaGreatDoor
