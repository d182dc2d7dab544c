import Derived.Test.YtldmjbgplgoedaaGreatDoorRp32
set_option linter.all false
namespace Go.Proofs.YtldmjbgplgoedaaGreatDoor
noncomputable section
open Go.RowKit U
def O0 (J:ae):ae:=[.i (J 0).Z,.f (bif (J 6).Z !=1 then λ_=>0 else(J 1).F),.i (bif (J 6).Z !=2 then 0 else(J 2).Z),.i (bif (J 6).Z !=2 then 0 else(J 3).Z),.i (bif (J 6).Z !=2 then 0 else(J 4).Z),.i (bif (J 6).Z !=2 then 0 else(J 5).Z)]
abbrev Mx:SP:=mkS ⟨[.sA acS],[]⟩ 238 Tryz.f238 [.tX (.sA acS),aj 0 2] [] []
theorem Dq J R:TR Mx J R (BR ((J 6).Z !=1) (BR ((J 6).Z !=2) (R [.i 0,.i (J 0).Z,.f (λ_=>0),.i 0,.i 0,.i 0,.i 0]) (R (ak [.i 0,.i (J 0).Z,.f (λ_=>0)] (cw J 2 4 585)))) (BR ((J 6).Z !=2) (R [.i 0,.i (J 0).Z,.f (J 1).F,.i 0,.i 0,.i 0,.i 0]) (R (ak [.i 0] (cw J 0 6 37465))))):=af
theorem Vd:PF0 Mx O0:=λJ b1 b2=>⟨by
 rw[Dq];unfold O0;refine br_ (λq=>br_ (λq1=>?_) λq1=>?_) λq=>br_ (λq1=>?_) λq1=>?_
 .rw[q,q1];exact aT rfl rfl
 .rw[q,q1];exact aT rfl rfl
 .rw[q,q1];exact aT rfl rfl
 .rw[q,q1];exact aT rfl rfl⟩
abbrev Wd:CT:=C0 Mx O0
theorem tf:CO Wd:=CX0 (TX trivial ah) Vd
def acW (J:ae) (o:Nat):Prop:=((J (o+1)).X=false/\(J (o+2)).X=false/\(J (o+3)).X=false)/\(∀j,j<8->(J (o+5+j)).Z=0)/\∀i,i<4->(J (o+13)).F i=0
def MbS (J:ae) (o:Nat):Prop:=acW J o/\(J (o+4)).X=false/\(∀n,n<6->bAt (coB J o) n=false)/\∀i,i<384->(J (o+21)).F i=0
def MbI (J:ae) (o:Nat):Prop:=acW J o/\∀n,n<6->bAt (coB J o) n=true
def Oo (J:ae):Prop:=((J 4).Z=0->MbS J 4/\yo J)/\((J 4).Z=1->MbI J 4/\oR J)/\((J 4).Z=2->sq J)
def abM (_:ae):ae:=[.b true]
abbrev Pt:List AT:=[.tX (.sA VC),.tX (.sA sMA)]
abbrev YM:List AB:=[]
abbrev YJ:Wy:=⟨[.sO (.nB false true false)],[]⟩
abbrev ach:CT:=CS 163 Pt YM YJ Oo abM
theorem Be (J:ae) (R:ae->Prop):apR y4 (au Pt J) (an YM (tls (aG Pt) J)) YJ R=(((J 4).Z<=0)/\((J 5).X=false)/\((J 6).X=false)/\((J 7).X=false)/\((J 8).X=false)/\(0<=(J 9).Z)/\((J 9).Z<=0)/\(0<=(J 10).Z)/\((J 10).Z<=0)/\(0<=(J 11).Z)/\((J 11).Z<=0)/\(0<=(J 12).Z)/\((J 12).Z<=0)/\(0<=(J 13).Z)/\((J 13).Z<=0)/\(0<=(J 14).Z)/\((J 14).Z<=0)/\(0<=(J 15).Z)/\((J 15).Z<=0)/\(0<=(J 16).Z)/\((J 16).Z<=0)/\(∀i,i<4->0<=(J 17).F i/\(J 17).F i<=0)/\((J 19).X=false)/\((J 20).X=false)/\((J 21).X=false)/\((J 22).X=false)/\((J 23).X=false)/\((J 24).X=false)/\(∀i,i<384->0<=(J 25).F i/\(J 25).F i<=0)/\let afrmS3768:ae:=(cw J 0 26 k15);(yo afrmS3768)/\let rfrmS3768:ae:=HY afrmS3768;R [.i 0,.b (rfrmS3768 0).X]):=af
theorem Bw (J:ae) (R:ae->Prop):apR zB (au Pt J) (an YM (tls (aG Pt) J)) YJ R=((1<=(J 4).Z)/\((J 4).Z<=1)/\((J 5).X=false)/\((J 6).X=false)/\((J 7).X=false)/\(0<=(J 9).Z)/\((J 9).Z<=0)/\(0<=(J 10).Z)/\((J 10).Z<=0)/\(0<=(J 11).Z)/\((J 11).Z<=0)/\(0<=(J 12).Z)/\((J 12).Z<=0)/\(0<=(J 13).Z)/\((J 13).Z<=0)/\(0<=(J 14).Z)/\((J 14).Z<=0)/\(0<=(J 15).Z)/\((J 15).Z<=0)/\(0<=(J 16).Z)/\((J 16).Z<=0)/\(∀i,i<4->0<=(J 17).F i/\(J 17).F i<=0)/\((J 19).X=true)/\((J 20).X=true)/\((J 21).X=true)/\((J 22).X=true)/\((J 23).X=true)/\((J 24).X=true)/\let afrmI3768:ae:=(cw J 0 26 k15);(oR afrmI3768)/\let rfrmI3768:ae:=ye afrmI3768;R [.i 0,.b (rfrmI3768 0).X]):=af
theorem EW (J:ae) (R:ae->Prop):apR wT (au Pt J) (an YM (tls (aG Pt) J)) YJ R=((2<=(J 4).Z)/\let afrmP3768:ae:=(cw J 0 26 k15);(sq afrmP3768)/\let rfrmP3768:ae:=Ch afrmP3768;R [.i 0,.b (rfrmP3768 0).X]):=af
theorem JS:cV KX Tryz.prog GX ach:=lH frmS_ct.call λJ b1 hp=>by
 obtain⟨p0,p1,p2⟩:=hp;have k:0<=(J 4).Z/\(J 4).Z<=2:=b1.2.1.1;rcases(show(J 4).Z=0\/(J 4).Z=1\/(J 4).Z=2 by omega)with e | e | e
 .obtain⟨⟨⟨⟨h1,h2,h3⟩,hV,hs⟩,h4,hc,hL⟩,hf⟩:=p0 e;refine⟨y4,frmS_ct,rfl,bD ?_⟩;rw[Be];have v0:=hV 0 afH;have v1:=hV 1 afH;have v2:=hV 2 afH;have v3:=hV 3 afH;have v4:=hV 4 afH;have v5:=hV 5 afH;have v6:=hV 6 afH;have v7:=hV 7 afH;exact⟨ac,h1,h2,h3,h4,Int.le_of_eq v0.symm,Int.le_of_eq v0,Int.le_of_eq v1.symm,Int.le_of_eq v1,Int.le_of_eq v2.symm,Int.le_of_eq v2,Int.le_of_eq v3.symm,Int.le_of_eq v3,Int.le_of_eq v4.symm,Int.le_of_eq v4,Int.le_of_eq v5.symm,Int.le_of_eq v5,Int.le_of_eq v6.symm,Int.le_of_eq v6,Int.le_of_eq v7.symm,Int.le_of_eq v7,λi hi=>⟨Int.le_of_eq (hs i hi).symm,Int.le_of_eq (hs i hi)⟩,hc 0 afH,hc 1 afH,hc 2 afH,hc 3 afH,hc 4 afH,hc 5 afH,λi hi=>⟨Int.le_of_eq (hL i hi).symm,Int.le_of_eq (hL i hi)⟩,kmp hf,aT rfl rfl⟩
 .obtain⟨⟨⟨⟨h1,h2,h3⟩,hV,hs⟩,hc⟩,hf⟩:=p1 e;refine⟨zB,rg,rfl,bD ?_⟩;rw[Bw];have v0:=hV 0 afH;have v1:=hV 1 afH;have v2:=hV 2 afH;have v3:=hV 3 afH;have v4:=hV 4 afH;have v5:=hV 5 afH;have v6:=hV 6 afH;have v7:=hV 7 afH;exact⟨ac,ac,h1,h2,h3,Int.le_of_eq v0.symm,Int.le_of_eq v0,Int.le_of_eq v1.symm,Int.le_of_eq v1,Int.le_of_eq v2.symm,Int.le_of_eq v2,Int.le_of_eq v3.symm,Int.le_of_eq v3,Int.le_of_eq v4.symm,Int.le_of_eq v4,Int.le_of_eq v5.symm,Int.le_of_eq v5,Int.le_of_eq v6.symm,Int.le_of_eq v6,Int.le_of_eq v7.symm,Int.le_of_eq v7,λi hi=>⟨Int.le_of_eq (hs i hi).symm,Int.le_of_eq (hs i hi)⟩,hc 0 afH,hc 1 afH,hc 2 afH,hc 3 afH,hc 4 afH,hc 5 afH,kmp hf,aT rfl rfl⟩
 .refine⟨wT,rB,rfl,bD ?_⟩;rw[EW];exact⟨ac,kmp (p2 e),aT rfl rfl⟩
def mpL (J:ae):ae:=ak [.i (J 4).Z,.f (J 5).F,.i (J 6).Z,.i (J 7).Z,.i (J 8).Z,.i (J 9).Z,.i (J 0).Z,.i (J 1).Z,.b (J 2).X,.b (J 3).X,.i 0,.i 0] (cw J 10 22 k0)
def qY (J:ae):Cd:=ee J 12++gk J 12++fR J 12++lD J 12++(leG J 12 6).1
def mpS (J:ae):ae:=let a:=mpL J;O0 ([.i (J 4).Z,.f (leG a 12 6).2]++(pdV a 12++[.i (J 10).Z]))
def QF (J:ae):Prop:=Oo (ak [.i (J 0).Z,.i (J 1).Z,.b (J 2).X,.b (J 3).X] (cw J 10 22 k0))
theorem gz {l:ae} {n:Nat} {B:Nat->Int} {a b:Cd} (hB:Bit B) (h:l=wrC B n a):wrA l 0 b=wrC B n (a++b):=by subst h;exact rK hB rfl
theorem MW {J:ae} {o:Nat}:cdN (ee J o)<=31:=by
 have h:=Vh (J:=J) (o:=o);unfold ee
 cases(J 6).Z==1 with
 |true=>exact Nat.zero_le _
 |false=>exact nH h.1 ac
theorem Cr {J:ae} {o:Nat} (h:(J (o+14)).Z=0):cdN (fR J o)<=32:=by
 unfold fR;rw[h]
 cases hlZ J o with
 |false=>exact Nat.zero_le _
 |true =>
  show cdN (_++cdS 0)<=32;rw[aC];have:=jB (v:=0) afH afH
  have h2:cdN (bif (J 8).X&&(J 7).Z==3 then cdF (J (o+4)).X else[])<=1:=by
   cases(J 8).X&&(J 7).Z==3
   .exact Nat.zero_le _
   .exact Nat.le_refl _
  omega
theorem GO {J:ae} {o:Nat}:cdN (lD J o)<=6:=by
 unfold lD
 cases(J o).Z !=2 with
 |true=>exact Nat.zero_le _
 |false =>
  cases hlZ J o with
  |false=>exact Nat.zero_le _
  |true =>show cdN (A7 (coB J o))<=6;rw[I7];exact Nat.le_refl _
theorem Ob {J:ae} {o:Nat} (hV:V63 J o) (h0:(-63<=(J 2).Z/\(J 2).Z<=63)/\(-63<=(J 3).Z/\(J 3).Z<=63)) (h1:(-63<=(J 4).Z/\(J 4).Z<=63)/\(-63<=(J 5).Z/\(J 5).Z<=63)):cdN (gk J o)<=253:=by
 unfold gk
 cases(J o).Z !=2 with
 |true=>exact Nat.zero_le _
 |false =>
  have a:=KY (J:=J) (o:=o);have b:cdN (cC J o).1<=126:=(sd (p:=((J 2).Z,(J 3).Z)) hV (show 0<2 by decide) h0).2
  have c:cdN (jG J o).1<=126:=(sd (p:=((J 4).Z,(J 5).Z)) hV (show 1<2 by decide) h1).2
  show cdN (cJ J o++(cC J o).1++(jG J o).1)<=253;rw[aC,aC];omega
structure MpB (J:ae):Prop where
 V:V63 (mpL J) 12
 p0:(-63<=((mpL J) 2).Z/\((mpL J) 2).Z<=63)/\(-63<=((mpL J) 3).Z/\((mpL J) 3).Z<=63)
 p1:(-63<=((mpL J) 4).Z/\((mpL J) 4).Z<=63)/\(-63<=((mpL J) 5).Z/\((mpL J) 5).Z<=63)
 D:∀i,i<3->-4095<=((mpL J) 1).F i/\((mpL J) 1).F i<=4095
 L:∀i,i<384->-4095<=((mpL J) 33).F i/\((mpL J) 33).F i<=4095
 d:((mpL J) 26).Z=0
theorem aaH {J:ae} (h:MpB J):cdN (leG (mpL J) 12 6).1<=24180:=NO h.L h.D 6 afH
theorem aeZ {J:ae} (h:MpB J):cdN (qY (mpL J))<=24600:=by have a:=MW (J:=mpL J) (o:=12);have b:=Ob h.V h.p0 h.p1;have c:=Cr (J:=mpL J) (o:=12) h.d;have d:=GO (J:=mpL J) (o:=12);have e:=aaH h;unfold qY;rw[aC,aC,aC,aC];omega
def mpP (J:ae):Prop:=QF J/\WrP (wx J 32 33 34) 0 40000
def mpW (J:ae):ae:=mpS J++.i 0::wrA (wx J 32 33 34) 0 (qY (mpL J))
abbrev abm:SP:=mkS ⟨[.sA acS,aD 0 0],[.run 349 nu,.dead,.dyn 5 0 0 1000000 0 g0 false]⟩ 183 Tryz.f183 [tXO (.nP 0 0),.tX (.sA VC),.tX (.sA acS),.tX (.sA sMA)] [.run 349 Qh,.dyn 5 0 0 1000000 0 g0 false] [(7,.unroll 70)] [ach,kdC,acv,chC,coC,leC,Wd] [(aw 232 Tryz.f232),(aw 299 Tryz.f299),(aw 164 Tryz.f164),(aw 300 Tryz.f300)] (.tT [.sA acS,aD 0 0]) [1]
theorem LN J R:TR abm J R (let x0:ae:=(ak (cw J 0 4 1161) (cw J 10 22 k0));(Oo x0)/\let x1:ae:=abM x0;let x2:ae:=(ak (ak (cw J 4 6 37465) (ak (cw J 0 4 1161) [.s (J 32).O (J 32).N,.i (J 33).Z])) (ak (cw J 10 22 k0) [.l (J 34).N (J 34).G]));(kdP x2)/\let x3:ae:=kdW x2;let x4:ae:=(ak (ak (cw J 4 6 37465) (ak (cw J 0 4 1161) [.s (x3 0).O (x3 0).N,.i (x3 1).Z])) (ak (cw J 10 22 k0) [.l (x3 2).N (x3 2).G]));(Zp x4)/\let x5:ae:=Cy x4;let x6:ae:=(ak (cw x5 0 12 14263030361) (ak (cw J 10 22 k0) [.l (x5 12).N (x5 12).G]));(chP x6)/\let x7:ae:=chW x6;let x8:ae:=(ak (ak (cw x5 0 10 304386649) [.s (x7 0).O (x7 0).N,.i (x7 1).Z]) (ak (cw J 10 22 k0) [.l (x7 2).N (x7 2).G]));(coP x8)/\let x9:ae:=coW x8;let x10:ae:=(ak (ak (cw x5 0 10 304386649) [.s (x9 0).O (x9 0).N,.i (x9 1).Z]) (ak (cw J 10 22 k0) [.l (x9 2).N (x9 2).G]));(leP x10)/\let x11:ae:=leW x10;let x12:ae:=(ak (cw x11 0 6 37465) [.i (J 10).Z]);let x13:ae:=O0 x12;R (ak [.i 0] (ak (cw x13 0 6 37465) (ak [.i 0] (cw x11 10 3 269))))):=af
theorem abP:PF1 abm mpP mpW:=λJ b1 b2 hp=>⟨by
 rw[LN]
 have hb:MpB J:=by
  obtain⟨-,-,⟨-,D,p0,p1,p2,p3,-⟩,⟨-,-,-,-,-,v0,v1,v2,v3,v4,v5,v6,v7,-,d,-,-,-,-,-,-,L,-⟩,-⟩:=b1;refine⟨λj hj=>?_,⟨p0,p1⟩,⟨p2,p3⟩,D,L,Int.le_antisymm d.2 d.1⟩
  match j,hj with
  |0,_=>exact v0
  |1,_=>exact v1
  |2,_=>exact v2
  |3,_=>exact v3
  |4,_=>exact v4
  |5,_=>exact v5
  |6,_=>exact v6
  |7,_=>exact v7
  |j+8,h=>omega
 clear b1 b2;obtain⟨hf,hp⟩:=hp;have hr:=hp.2.2.2;have hr:(J 33).Z+40000<=8000000:=hr;have hB:=bw (J 34).G;have kN:=MW (J:=mpL J) (o:=12);have pN:=Ob hb.V hb.p0 hb.p1;have cN:=Cr (J:=mpL J) (o:=12) hb.d;have oN:=GO (J:=mpL J) (o:=12);have hW:mpW J=mpS J++.i 0::wrC (aR (J 34).G) (J 33).Z.toNat (qY (mpL J)):=rfl;rw[hW];dsimp only;refine⟨hf,kmp (hp.less (show 31<=40000 by decide)),?_⟩
 generalize hr:kdW _=r;have hr:r=wrC (aR (J 34).G) (J 33).Z.toNat (ee (mpL J) 12):=by rw[<-hr];kernel_rfl
 subst hr;have hn:(J 33).Z.toNat+40000<=8000000:=ac
 revert hB
 generalize aR (J 34).G=B;intro hB;generalize (J 33).Z.toNat=n at *;have n1:=aC (ee (mpL J) 12) (gk (mpL J) 12);refine⟨(WrH.of (B:=B) (n:=n) (c:=ee (mpL J) 12) hB af).toP hB ac,?_⟩;generalize hr:Cy _=r
 have hr:r=.i (J 4).Z::.f (J 5).F::(pdV (mpL J) 12++(cw (mpL J) 6 4 1161++wrC B n (ee (mpL J) 12++gk (mpL J) 12))):=by
  rw[<-hr];unfold Cy;rw[gz (B:=B) (n:=n) (a:=ee (mpL J) 12) hB]
  .kernel_rfl
  .kernel_rfl
 subst hr;have n2:=aC (ee (mpL J) 12++gk (mpL J) 12) (fR (mpL J) 12);refine⟨(WrH.of (B:=B) (n:=n) (c:=ee (mpL J) 12++gk (mpL J) 12) hB af).toP hB ac,?_⟩;generalize hr:chW _=r
 have hr:r=wrC B n (ee (mpL J) 12++gk (mpL J) 12++fR (mpL J) 12):=by
  rw[<-hr];unfold chW;rw[gz (B:=B) (n:=n) (a:=ee (mpL J) 12++gk (mpL J) 12) hB]
  .kernel_rfl
  .kernel_rfl
 subst hr;have n3:=aC (ee (mpL J) 12++gk (mpL J) 12++fR (mpL J) 12) (lD (mpL J) 12);refine⟨(WrH.of (B:=B) (n:=n) (c:=ee (mpL J) 12++gk (mpL J) 12++fR (mpL J) 12) hB af).toP hB ac,?_⟩;generalize hr:coW _=r
 have hr:r=wrC B n (ee (mpL J) 12++gk (mpL J) 12++fR (mpL J) 12++lD (mpL J) 12):=by
  rw[<-hr];unfold coW;rw[gz (B:=B) (n:=n) (a:=ee (mpL J) 12++gk (mpL J) 12++fR (mpL J) 12) hB]
  .kernel_rfl
  .kernel_rfl
 subst hr;refine⟨(WrH.of (B:=B) (n:=n) (c:=ee (mpL J) 12++gk (mpL J) 12++fR (mpL J) 12++lD (mpL J) 12) hB af).toP hB ac,?_⟩;generalize hr:leW _=r
 have hr:r=[.i (J 4).Z,.f (leG (mpL J) 12 6).2]++(pdV (mpL J) 12++(cw (mpL J) 6 4 1161++wrC B n (ee (mpL J) 12++gk (mpL J) 12++fR (mpL J) 12++lD (mpL J) 12++(leG (mpL J) 12 6).1))):=by
  rw[<-hr];unfold leW;rw[gz (B:=B) (n:=n) (a:=ee (mpL J) 12++gk (mpL J) 12++fR (mpL J) 12++lD (mpL J) 12) hB]
  .kernel_rfl
  .kernel_rfl
 subst hr;exact aT rfl af⟩
abbrev mpC:CT:=C1 abm mpP mpW
theorem ZL:CO mpC:=CX1 (TX ⟨JS,ZR,IR,S1,Lx,P0,tf,ah⟩ (FK (FK (FK (FK ah))))) abP
def NG (J:ae):Prop:=oR (ak [.i (J 0).Z,.i (J 1).Z,.b (J 2).X,.b (J 3).X] (cw J 10 22 k0))
def GL (J:ae):ae:=mpS J++.i 0::wrC (λ_=>0) 0 (qY (mpL J))
abbrev z7:SP:=mkS ⟨[.sA acS,aD 0 0],[.run 349 Qh,.dyn 5 0 0 1000000 0 g0 false]⟩ 183 Tryz.f183 [tXO (.nP 0 0),.tX (.sA [r33,r8,r0,r0]),.tX (.sA acS),.tX (.sA sMI)] [.run 349 ad3] [(7,.unroll 70)] [zB,Ny,X8,ady,coC,leC,Wd] [(aw 232 Tryz.f232),(aw 299 Tryz.f299),(aw 164 Tryz.f164),(aw 300 Tryz.f300),(aw 269 Tryz.f269),(aw 331 Tryz.f331),(aw 182 Tryz.f182),(aw 270 Tryz.f270),(aw 303 Tryz.f303),(aw 332 Tryz.f332),(aw 305 Tryz.f305),(aw 333 Tryz.f333),(aw 249 Tryz.f249),(aw 334 Tryz.f334),(aw 361 Tryz.f361)]
theorem zk J R:TR z7 J R (let x0:ae:=(ak (cw J 0 4 1161) (cw J 10 22 k0));(oR x0)/\let x1:ae:=ye x0;let x2:ae:=(ak (ak (cw J 4 6 37465) (ak (cw J 0 4 1161) [.i (J 32).Z])) (cw J 10 22 k0));(abH x2)/\let x3:ae:=XT x2;let x4:ae:=(ak (ak (cw J 4 6 37465) (ak (cw J 0 4 1161) [.s (x3 0).O (x3 0).N,.i (x3 1).Z])) (ak (cw J 10 22 k0) [.l (x3 2).N (x3 2).G]));(coP x4)/\let x5:ae:=coW x4;let x6:ae:=(ak (ak (cw J 4 6 37465) (ak (cw J 0 4 1161) [.s (x5 0).O (x5 0).N,.i (x5 1).Z])) (ak (cw J 10 22 k0) [.l (x5 2).N (x5 2).G]));(leP x6)/\let x7:ae:=leW x6;let x8:ae:=(ak (cw x7 0 6 37465) [.i (J 10).Z]);let x9:ae:=O0 x8;R (ak [.i 0] (ak (cw x9 0 6 37465) (ak [.i 0] (cw x7 10 3 269))))):=af
theorem OF:PF1 z7 NG GL:=λJ b1 b2 hp=>⟨by
 rw[zk]
 have hk:(J 10).Z=1/\(J 0).Z=1:=by obtain⟨-,⟨t,-⟩,-,⟨k,-⟩,-⟩:=b1;exact⟨Int.le_antisymm k.2 k.1,Int.le_antisymm t.2 t.1⟩
 have hb:MpB J:=by
  obtain⟨-,-,⟨-,D,p0,p1,p2,p3,-⟩,⟨-,-,-,-,-,v0,v1,v2,v3,v4,v5,v6,v7,-,d,-,-,-,-,-,-,L,-⟩,-⟩:=b1;have w:∀ {z:Int},0<=z/\z<=0->-63<=z/\z<=63:=λh=>ac;refine⟨λj hj=>?_,⟨p0,p1⟩,⟨p2,p3⟩,D,L,Int.le_antisymm d.2 d.1⟩
  match j,hj with
  |0,_=>exact w v0
  |1,_=>exact w v1
  |2,_=>exact w v2
  |3,_=>exact w v3
  |4,_=>exact w v4
  |5,_=>exact w v5
  |6,_=>exact w v6
  |7,_=>exact w v7
  |j+8,h=>omega
 clear b1 b2;obtain⟨hk,ht⟩:=hk;have cN:=Cr (J:=mpL J) (o:=12) hb.d;have oN:=GO (J:=mpL J) (o:=12)
 have eK:ee (mpL J) 12=[]:=by
  show(bif (J 0).Z==1 then _ else _)=_
  rw[ht];rfl
 have eP:gk (mpL J) 12=[]:=by
  show(bif (J 10).Z !=2 then _ else _)=_
  rw[hk];rfl
 have eV:pdV (mpL J) 12=[.i (J 6).Z,.i (J 7).Z,.i (J 8).Z,.i (J 9).Z]:=by have e:((mpL J) 12).Z=1:=hk;unfold pdV;rw[e];rfl
 have eM:qY (mpL J)=fR (mpL J) 12++lD (mpL J) 12++(leG (mpL J) 12 6).1:=by unfold qY;rw[eK,eP];rfl
 have hB:=d9;have hn:0+40000<=8000000:=afH;unfold GL mpS;dsimp only;rw[eM,eV];refine⟨hp,ah,?_⟩;generalize hr:XT _=r;have hr:r=wrC (λ_=>0) 0 (fR (mpL J) 12):=by rw[<-hr];kernel_rfl
 subst hr;have n3:=aC (fR (mpL J) 12) (lD (mpL J) 12);refine⟨(WrH.of (B:=λ_=>0) (n:=0) (c:=fR (mpL J) 12) hB af).toP hB ac,?_⟩;generalize hr:coW _=r
 have hr:r=wrC (λ_=>0) 0 (fR (mpL J) 12++lD (mpL J) 12):=by
  rw[<-hr];unfold coW;rw[gz (B:=λ_=>0) (n:=0) (a:=fR (mpL J) 12) hB]
  .kernel_rfl
  .kernel_rfl
 subst hr;refine⟨(WrH.of (B:=λ_=>0) (n:=0) (c:=fR (mpL J) 12++lD (mpL J) 12) hB af).toP hB ac,?_⟩;generalize hr:leW _=r
 have hr:r=[.i (J 4).Z,.f (leG (mpL J) 12 6).2]++([.i (J 6).Z,.i (J 7).Z,.i (J 8).Z,.i (J 9).Z]++(cw (mpL J) 6 4 1161++wrC (λ_=>0) 0 (fR (mpL J) 12++lD (mpL J) 12++(leG (mpL J) 12 6).1))):=by
  rw[<-hr];unfold leW;rw[gz (B:=λ_=>0) (n:=0) (a:=fR (mpL J) 12++lD (mpL J) 12) hB]
  .kernel_rfl
  .kernel_rfl
 subst hr;exact aT rfl af⟩
abbrev Pz:CT:=C1 z7 NG GL
theorem mpNI_ct:CO Pz:=CX1 (TX ⟨rg,md,xn,WK,Lx,P0,tf,ah⟩ (FK (FK (FK (FK (FK (FK (FK (FK (FK (FK (FK (FK (FK (FK (FK ah)))))))))))))))) OF
def NH (J:ae):Prop:=QF J
def Es (J:ae):ae:=mpS J++.i 0::wrC (λ_=>0) 0 (qY (mpL J))
abbrev yy:SP:=mkS ⟨[.sA acS,aD 0 0],[.run 349 Qh,.dyn 5 0 0 1000000 0 g0 false]⟩ 183 Tryz.f183 [tXO (.nP 0 0),.tX (.sA [am 2 3,r8,r0,r0]),.tX (.sA acS),.tX (.sA sMA)] [.run 349 ad3] [(7,.unroll 70)] [ach,ad2,acv,chC,coC,leC,Wd] [(aw 232 Tryz.f232),(aw 299 Tryz.f299),(aw 164 Tryz.f164),(aw 300 Tryz.f300)]
theorem zL J R:TR yy J R (let x0:ae:=(ak (cw J 0 4 1161) (cw J 10 22 k0));(Oo x0)/\let x1:ae:=abM x0;let x2:ae:=(ak (ak (cw J 4 6 37465) (ak (cw J 0 4 1161) [.i (J 32).Z])) (cw J 10 22 k0));(Z3 x2)/\let x3:ae:=Y5 x2;let x4:ae:=(ak (ak (cw J 4 6 37465) (ak (cw J 0 4 1161) [.s (x3 0).O (x3 0).N,.i (x3 1).Z])) (ak (cw J 10 22 k0) [.l (x3 2).N (x3 2).G]));(Zp x4)/\let x5:ae:=Cy x4;let x6:ae:=(ak (cw x5 0 12 14263030361) (ak (cw J 10 22 k0) [.l (x5 12).N (x5 12).G]));(chP x6)/\let x7:ae:=chW x6;let x8:ae:=(ak (ak (cw x5 0 10 304386649) [.s (x7 0).O (x7 0).N,.i (x7 1).Z]) (ak (cw J 10 22 k0) [.l (x7 2).N (x7 2).G]));(coP x8)/\let x9:ae:=coW x8;let x10:ae:=(ak (ak (cw x5 0 10 304386649) [.s (x9 0).O (x9 0).N,.i (x9 1).Z]) (ak (cw J 10 22 k0) [.l (x9 2).N (x9 2).G]));(leP x10)/\let x11:ae:=leW x10;let x12:ae:=(ak (cw x11 0 6 37465) [.i (J 10).Z]);let x13:ae:=O0 x12;R (ak [.i 0] (ak (cw x13 0 6 37465) (ak [.i 0] (cw x11 10 3 269))))):=af
theorem MZ:PF1 yy NH Es:=λJ b1 b2 hp=>⟨by
 rw[zL]
 have ht:2<=(J 0).Z:=by obtain⟨-,⟨t,-⟩,-⟩:=b1;exact t.1
 have hb:MpB J:=by
  obtain⟨-,-,⟨-,D,p0,p1,p2,p3,-⟩,⟨-,-,-,-,-,v0,v1,v2,v3,v4,v5,v6,v7,-,d,-,-,-,-,-,-,L,-⟩,-⟩:=b1;refine⟨λj hj=>?_,⟨p0,p1⟩,⟨p2,p3⟩,D,L,Int.le_antisymm d.2 d.1⟩
  match j,hj with
  |0,_=>exact v0
  |1,_=>exact v1
  |2,_=>exact v2
  |3,_=>exact v3
  |4,_=>exact v4
  |5,_=>exact v5
  |6,_=>exact v6
  |7,_=>exact v7
  |j+8,h=>omega
 clear b1 b2;have kN:=MW (J:=mpL J) (o:=12);have pN:=Ob hb.V hb.p0 hb.p1;have cN:=Cr (J:=mpL J) (o:=12) hb.d;have oN:=GO (J:=mpL J) (o:=12)
 have eK:ee (mpL J) 12=cdU (kdZ (mpL J) 12):=by
  show(bif (J 0).Z==1 then _ else _)=_
  rw[show((J 0).Z==1)=false by simp;omega]
  rfl
 have hB:=d9;have hn:0+40000<=8000000:=afH;unfold Es mpS;dsimp only;refine⟨hp,ah,?_⟩;generalize hr:Y5 _=r;have hr:r=wrC (λ_=>0) 0 (ee (mpL J) 12):=by rw[<-hr,eK];kernel_rfl
 subst hr;have n1:=aC (ee (mpL J) 12) (gk (mpL J) 12);refine⟨(WrH.of (B:=λ_=>0) (n:=0) (c:=ee (mpL J) 12) hB af).toP hB ac,?_⟩;generalize hr:Cy _=r
 have hr:r=.i (J 4).Z::.f (J 5).F::(pdV (mpL J) 12++(cw (mpL J) 6 4 1161++wrC (λ_=>0) 0 (ee (mpL J) 12++gk (mpL J) 12))):=by
  rw[<-hr];unfold Cy;rw[gz (B:=λ_=>0) (n:=0) (a:=ee (mpL J) 12) hB]
  .kernel_rfl
  .kernel_rfl
 subst hr;have n2:=aC (ee (mpL J) 12++gk (mpL J) 12) (fR (mpL J) 12);refine⟨(WrH.of (B:=λ_=>0) (n:=0) (c:=ee (mpL J) 12++gk (mpL J) 12) hB af).toP hB ac,?_⟩;generalize hr:chW _=r
 have hr:r=wrC (λ_=>0) 0 (ee (mpL J) 12++gk (mpL J) 12++fR (mpL J) 12):=by
  rw[<-hr];unfold chW;rw[gz (B:=λ_=>0) (n:=0) (a:=ee (mpL J) 12++gk (mpL J) 12) hB]
  .kernel_rfl
  .kernel_rfl
 subst hr;have n3:=aC (ee (mpL J) 12++gk (mpL J) 12++fR (mpL J) 12) (lD (mpL J) 12);refine⟨(WrH.of (B:=λ_=>0) (n:=0) (c:=ee (mpL J) 12++gk (mpL J) 12++fR (mpL J) 12) hB af).toP hB ac,?_⟩;generalize hr:coW _=r
 have hr:r=wrC (λ_=>0) 0 (ee (mpL J) 12++gk (mpL J) 12++fR (mpL J) 12++lD (mpL J) 12):=by
  rw[<-hr];unfold coW;rw[gz (B:=λ_=>0) (n:=0) (a:=ee (mpL J) 12++gk (mpL J) 12++fR (mpL J) 12) hB]
  .kernel_rfl
  .kernel_rfl
 subst hr;refine⟨(WrH.of (B:=λ_=>0) (n:=0) (c:=ee (mpL J) 12++gk (mpL J) 12++fR (mpL J) 12++lD (mpL J) 12) hB af).toP hB ac,?_⟩;generalize hr:leW _=r
 have hr:r=[.i (J 4).Z,.f (leG (mpL J) 12 6).2]++(pdV (mpL J) 12++(cw (mpL J) 6 4 1161++wrC (λ_=>0) 0 (ee (mpL J) 12++gk (mpL J) 12++fR (mpL J) 12++lD (mpL J) 12++(leG (mpL J) 12 6).1))):=by
  rw[<-hr];unfold leW;rw[gz (B:=λ_=>0) (n:=0) (a:=ee (mpL J) 12++gk (mpL J) 12++fR (mpL J) 12++lD (mpL J) 12) hB]
  .kernel_rfl
  .kernel_rfl
 subst hr;exact aT rfl af⟩
abbrev Lu:CT:=C1 yy NH Es
theorem NK:CO Lu:=CX1 (TX ⟨JS,UO,IR,S1,Lx,P0,tf,ah⟩ (FK (FK (FK (FK ah))))) MZ
end
end Go.Proofs.YtldmjbgplgoedaaGreatDoor
