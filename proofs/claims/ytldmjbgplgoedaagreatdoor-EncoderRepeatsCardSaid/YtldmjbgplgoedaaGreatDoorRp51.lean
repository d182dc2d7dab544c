import Derived.Test.YtldmjbgplgoedaaGreatDoorRp49
import Derived.Test.YtldmjbgplgoedaaGreatDoorRp50
set_option linter.all false
namespace Go.Proofs.YtldmjbgplgoedaaGreatDoor
noncomputable section
open Go.RowKit U
theorem aan (k:Nat):fwF (λ_=>0) k=0:=by
 unfold fwF fwR oG
 simp
theorem aeN {s:Int} (h:0<s):qzF 0 s=0:=by unfold qzF lvF;rw[if_neg ac,Int.zero_emod,if_neg ac,Int.zero_ediv]
theorem aaG (i:Nat):ivF (λ_=>0) i=0:=by
 have c:clZ 0=0:=afH;unfold ivF ivR oG;simp only[c,Int.mul_zero,Int.add_zero]
 decide
theorem RH {cd:Nat->Bool} {fd:Bool} {r:Nat->Nat->Int} (h:∀n,n<6->∀k,r n k=0):∀n,n<=6->∀c i,adF cd fd r (λ_ _=>128) n c i=128
 |0,_,_,_=>rfl
 |n+1,hn,c,i=>by
  have ih:=RH (cd:=cd) (fd:=fd) h n ac;unfold adF
  split
  .unfold rpZ jK
   split
   .show min (max (adF cd fd r (λ_ _=>128) n c _+r n _) 0) 255=128;rw[ih,h n ac]
    decide
   .exact ih c i
  .exact ih c i
def awA:ae:=[.i 16,.i 16,.i 25,.i 1,.b false,.i 100000,.i 100000,.f (λ_=>16),.f (λ_=>16),.i 1,.i 3,.i 0,.b true,.b false,.b false,.b false,.i 16,.i 16,.l 256 (λ_=>[.i 128]),.l 64 (λ_=>[.i 128]),.l 64 (λ_=>[.i 128]),.i 0,.i 0,.l 0 (λ_=>[]),.l 0 (λ_=>[]),.l 0 (λ_=>[]),.i 0,.i 0,.l 0 (λ_=>[]),.l 0 (λ_=>[]),.l 0 (λ_=>[]),.i 0,.i 0,.l 0 (λ_=>[]),.l 0 (λ_=>[]),.l 0 (λ_=>[]),.i 8]
theorem acJ:wa awA:=⟨⟨af,af,af⟩,af⟩
theorem afA:piN awA=1:=af
def awR:ae:=piA 0 (piC (cn (piI awA)) 0)
theorem K5:sa awR:=sh acJ (k:=0) (by rw[afA];decide)
theorem afC:roN awR=1:=af
def awK:ae:=roK awR 0
theorem aeW:gZ awK=cw (qE (iz awK (vD (BW awK)))) 0 29 k8:=by
 obtain⟨m,h1,h2,-⟩:=o9 K5 (k:=0) (by rw[afC];decide) (pk K5 0 (Nat.zero_le _))
 have e:(awK 21).Z=1:=af
 cases h2 with
 |intra=>exact h1
 |skip h _=>exact absurd e h
 |inter m h _=>exact absurd e h
def awT:ae:=PS (BW awK)
theorem afj:∀n,n<6->alX awT (alD awT) n=λ_=>0:=lt6 (funext λk=>af) (funext λk=>af) (funext λk=>af) (funext λk=>af) (funext λk=>af) (funext λk=>af)
theorem WS:∀b:Bool,∀k,unF b k<64:=λb k=>by
 rcases Nat.lt_or_ge k 64 with h | h
 .revert k;cases b<;>decide
 .cases b
  .show unzL.getD k 0<64;rw[List.getD_eq_getElem?_getD,List.getElem?_eq_none (by exact h)];decide
  .show unaL.getD k 0<64;rw[List.getD_eq_getElem?_getD,List.getElem?_eq_none (by exact h)];decide
theorem ZM {n p:Nat} (hn:n<6) (hp:p<64):alV awT (alD awT) (p+n*64)=0:=by have e1:(p+n*64) / 64=n:=ac;have e2:(p+n*64) % 64=p:=ac;have eM:(awT 10).F=λ_=>16:=af;have eq:(awT 30).Z=8:=af;unfold alV lvL;rw[e1,e2,afj n hn,aan,eM,eq];refine aeN ?_;have:=(IU (w:=16) (q:=8) (k:=(scF (awT 29).X p).toNat) afH afH afH afH (Kt hp)).1;exact Int.lt_of_lt_of_le afH this
theorem ae3 {al:Bool} {m:Nat->Int} {q:Int}:∀n,n<6->∀k,adR (alV awT (alD awT)) al m q n k=0:=λn hn k=>by
 unfold adR;rw[show(λk=>alV awT (alD awT) (unF al k+n*64)*stF (m k) q k)=λ_=>0 from funext λk=>by rw[ZM hn (WS al k),Int.zero_mul]]
 exact aaG k
def awF (c i:Nat):Int:=rcF (bAt [true,true,true,true,true,true]) (alD awT) (alV awT (alD awT)) false (λ_=>16) 8 (λ_ _=>128) c i
theorem afD (c i:Nat):awF c i=128:=RH (λn hn k=>ae3 n hn k) 6 (Nat.le_refl _) c i
def awE:ae:=cw (qE (iz awK (vD (BW awK)))) 0 29 k8
def awS:ae:=JC (roM awR 0 (li (roR awR 0 awE (roS awR 0).2)) (roS awR 0).2)
theorem aeY:pM awA=ak [.i 1,.i 3,.i 0,.b true,.b false,.b false,.l 1 ((pM awA) 6).G] (ak (cZ (JC (roM awR 0 (li (roR awR 0 (gZ awK) (roS awR 0).2)) (roS awR 0).2))) [.i 0]):=af
theorem abk {g:Nat->ae} {c w i:Nat} (hw:0<w) (hi:i<w*w):cel (rz (jK g (rz (awF c)) 0 w w w)) i=128:=by
 show jK g (rz (awF c)) 0 w w w i=128;unfold jK;rw[if_pos ⟨Nat.zero_le _,by rw[Nat.sub_zero];exact Nat.div_lt_of_lt_mul hi,Nat.mod_lt _ hw⟩]
 exact afD c _
theorem T0:pM awA=ak [.i 1,.i 3,.i 0,.b true,.b false,.b false,.l 1 ((pM awA) 6).G] (ak (cZ awS) [.i 0]):=by have:=aeY;rw[aeW]at this;exact this
end
end Go.Proofs.YtldmjbgplgoedaaGreatDoor
namespace Go.Proofs.YtldmjbgplgoedaaGreatDoor
noncomputable section
open Go.RowKit U
def Zr (_:ae):ae:=[.b true]
abbrev Md:SP:=mkS ⟨[.sO (.nB false true false)],[]⟩ 12 Tryz.f12 [] [] [] [adJ,acY,aaA,adt]
theorem DS J R:TR Md J R (LET ([.i 16,.i 16,.i 128,.i 128,.i 128]) λx0=>LET (akD x0) λx1=>LET ([]) λx2=>LET (acu x2) λx3=>LET ((ak (cw x3 0 9 56926793) (ak [.i 1,.i 3,.i 0,.b true,.b false,.b false,.b false] (ak (cw x1 0 5 18697) [.i 0,.i 0,.l 0 (λ_=>[]),.l 0 (λ_=>[]),.l 0 (λ_=>[]),.i 0,.i 0,.l 0 (λ_=>[]),.l 0 (λ_=>[]),.l 0 (λ_=>[]),.i 0,.i 0,.l 0 (λ_=>[]),.l 0 (λ_=>[]),.l 0 (λ_=>[]),.i 8])))) λx4=>(wa x4)/\LET (pM x4) λx5=>BR ((((x5 6).N:Nat):Int)==1) (LET ((ak (cw x1 0 5 18697) (cw x5 7 5 18697))) λx6=>(aaO x6)/\LET (aa5 x6) λx7=>R [.i 0,.b (x7 0).X]) (False)):=af
theorem UJ:PF0 Md Zr:=λJ _ _=>⟨by
 rw[DS];refine aH rfl (aH rfl (aH rfl (aH rfl (aH (w:=awA) af ⟨acJ,aH T0 ⟨λ_=>aH rfl ⟨⟨af,af,⟨af,λi hi=>?_⟩,⟨af,λi hi=>?_⟩,⟨af,λi hi=>?_⟩⟩,aH rfl ⟨rfl,⟨rfl,ah⟩,ah⟩⟩,λh=>?_⟩⟩))))
 .have hi:i<16*16:=kmp hi;exact kmp (abk (g:=(at_ (roS awR 0).2 2).G) (c:=0) (w:=16) afH hi).symm
 .have hi:i<8*8:=kmp hi;exact kmp (abk (g:=(at_ (roS awR 0).2 3).G) (c:=1) (w:=8) afH hi).symm
 .have hi:i<8*8:=kmp hi;exact kmp (abk (g:=(at_ (roS awR 0).2 4).G) (c:=2) (w:=8) afH hi).symm
 .have h:true=false:=kmp h;cases h⟩
abbrev aaV:CT:=C0 Md Zr
theorem Jh:CO aaV:=CX0 (TX ⟨RE,Uj,agU,VA,ah⟩ ah) UJ
end
end Go.Proofs.YtldmjbgplgoedaaGreatDoor
namespace Go.Proofs.YtldmjbgplgoedaaGreatDoor
noncomputable section
open Go.RowKit U
def ajU (_:ae):ae:=[.b true]
def rpA (J r:ae):ae:=[.i (J 0).Z,.i (J 1).Z,.i (J 2).Z,.i (J 3).Z,.b (J 4).X,.i (J 5).Z,.i (J 6).Z,.f (J 7).F,.f (J 8).F,.l (r 1).N (r 1).G,.l (J 10).N (J 10).G,.b (J 11).X,.b (J 12).X,.b (J 13).X,.i (J 14).Z]
def bnV (J:ae):Int:=max (bnZ (J 7).F (J 14).Z) (bnZ (J 8).F (J 14).Z)
theorem aiz {J:ae} (hE:jJ J=true) (m1:∀i,i<64->(J 7).F i<=255) (m2:∀i,i<64->(J 8).F i<=255) (hf:∀i,i<(J 9).N->RwB ((J 9).G i) 0):EnB J (bnV J):=by
 obtain⟨h1,h2⟩:=Bool.and_eq_true_iff.1 (show(ecB J&&decide (1<=(J 14).Z/\(J 14).Z<=31))=true from hE);have v:=aay (abi h1).vs;have q:=of_decide_eq_true h2;have x:∀i,i<64->8<=(J 7).F i:=v.hx;have y:∀i,i<64->8<=(J 8).F i:=v.hy;refine⟨q.1,q.2,λi hi=>⟨x i hi,m1 i hi⟩,λi hi=>⟨y i hi,m2 i hi⟩,λi hi=>?_,λi hi=>?_,hf⟩
 .have:=ag1 (m:=(J 7).F) (q:=(J 14).Z) hi;unfold bnV;omega
 .have:=ag1 (m:=(J 8).F) (q:=(J 14).Z) hi;unfold bnV;omega
theorem EnB.pos {J:ae} {B:Int} (h:EnB J B):0<=B:=by have a:=h.b1 0 afH;have b:=agk (λi hi=>(h.m1 i hi).1) h.q1 (i:=0);have c:0<=bdF (J 7).F (J 14).Z 0:=Int.ediv_nonneg ac afH;omega
theorem agf {B:Int} {f s:ae} {W H:Int} (h:FrN B f 0 s 0) (hs:Fm s 0 W H):Fm f 0 W H:=by obtain⟨f1,e0,e1⟩:=hs;refine⟨?_,h.w.trans e0,h.h.trans e1⟩;rw[h.w,h.h,h.n2,h.n3,h.n4];exact f1
theorem ai1 {J r:ae} {B:Int} (hE:jJ J=true) (hN:(r 1).N=(J 9).N) (hr:∀j,j<(J 9).N->FrN B ((r 1).G j) 0 ((J 9).G j) 0):jJ (rpA J r)=true:=by
 obtain⟨h1,h2⟩:=Bool.and_eq_true_iff.1 (show(ecB J&&decide (1<=(J 14).Z/\(J 14).Z<=31))=true from hE);obtain⟨a1,h3⟩:=Bool.and_eq_true_iff.1 h1;obtain⟨a2,h4⟩:=Bool.and_eq_true_iff.1 h3;obtain⟨a3,a4⟩:=Bool.and_eq_true_iff.1 h4;have a4:=of_decide_eq_true a4
 have b2:prB ((rpA J r) 9).N ((rpA J r) 10).N (cel ((rpA J r) 10).G)=true:=by show prB (r 1).N (J 10).N (cel (J 10).G)=true;rw[hN];exact a2
 have b4:∀i,i<((rpA J r) 9).N->szB (((rpA J r) 9).G i) ((rpA J r) 0).Z ((rpA J r) 1).Z=true:=λi hi=>by
  have hi:i<(J 9).N:=by rw[<-hN];exact hi
  exact szB_fm.2 (agf (hr i hi) (szB_fm.1 (a4 i hi)))
 unfold jJ ecB;rw[b2,decide_eq_true b4];have c1:vsB (rpA J r) 0=true:=kmp a1;have c3:(((rpA J r) 4).X||(!((rpA J r) 11).X&&((rpA J r) 13).X))=true:=a3;have c2:decide (1<=((rpA J r) 14).Z/\((rpA J r) 14).Z<=31)=true:=h2;rw[c1,c3,c2];rfl
abbrev ahm:SP:=mkS ⟨[.sO (.nB false true false)],[]⟩ 7 Tryz.f7 [.tX (.sA ada)] [] [(11,.head ⟨[(1,tXO (.nP 0 0)),(4,tXO (.nR 5 0 6 0 g0)),(10,tXO (.nR 5 0 6 0 g0)),(12,aj 0 1048576)],[.run 62 ada],[]⟩)] [adz,ab1,aaV,aaW,akF,akd,akG] [(aw 20 Tryz.f20)]
theorem ala:TOk Tryz.prog KX GX ahm.b ahm.t:=TX ⟨Ut,Je,Jh,Ls,ahd,agK,ahf,ah⟩ (FK ah)
theorem agw J R:TR ahm J R (LET ([.l (J 9).N (J 9).G]) λx0=>LET (Y1 x0) λx1=>((!(x1 0).X)->LET ([]) λx2=>LET (Zr x2) λx3=>R [.i 0,.b (x3 0).X])/\((!(x1 0).X)=false->LET ((cw J 0 15 5657065726537)) λx4=>LET (YH x4) λx5=>((!(x5 0).X)->LET ([]) λx2=>LET (Zr x2) λx3=>R [.i 0,.b (x3 0).X])/\((!(x5 0).X)=false->LET ((cw J 0 15 5657065726537)) λx6=>(Zo x6)/\LET (uk x6) λx7=>LET ((cw J 0 15 5657065726537)) λx6=>(Zo x6)/\LET (uk x6) λx7=>(((x7 2).Z !=0)->False)/\(((x7 2).Z !=0)=false->(((x7 2).Z !=0)->False)/\(((x7 2).Z !=0)=false->LET ([.l (x7 0).N (x7 0).G,.l (x7 0).N (x7 0).G]) λx8=>(ajt x8)/\LET (aj4 x8) λx9=>LET ((ak (cw J 0 9 56926793) (ak [.l (x7 1).N (x7 1).G] (cw J 10 5 5268)))) λx10=>(Zo x10)/\LET (uk x10) λx11=>(((x11 2).Z !=0)->False)/\(((x11 2).Z !=0)=false->(((((x11 1).N:Nat):Int)!=(((x7 1).N:Nat):Int))->False)/\(((((x11 1).N:Nat):Int)!=(((x7 1).N:Nat):Int))=false->∃(I0:ae->Prop) (μ0:ae->Nat),I0 (ak [.l (x7 1).N (x7 1).G,.l (x11 1).N (x11 1).G,.i 0] (cw J 0 15 5657065726537))/\∀l0,I0 l0->((decide ((l0 2).Z<(((l0 0).N:Nat):Int)))->((l0 2).Z<(((l0 0).N:Nat):Int))/\((l0 2).Z<(((l0 1).N:Nat):Int))/\(2<=(((l0 0).G (l0 2).Z.toNat) 0).Z)/\((((l0 0).G (l0 2).Z.toNat) 0).Z<=64)/\(2<=(((l0 0).G (l0 2).Z.toNat) 1).Z)/\((((l0 0).G (l0 2).Z.toNat) 1).Z<=64)/\(1<=(((l0 0).G (l0 2).Z.toNat) 2).N)/\((((l0 0).G (l0 2).Z.toNat) 2).N<=4096)/\(1<=(((l0 0).G (l0 2).Z.toNat) 3).N)/\((((l0 0).G (l0 2).Z.toNat) 3).N<=1024)/\(1<=(((l0 0).G (l0 2).Z.toNat) 4).N)/\((((l0 0).G (l0 2).Z.toNat) 4).N<=1024)/\(2<=(((l0 1).G (l0 2).Z.toNat) 0).Z)/\((((l0 1).G (l0 2).Z.toNat) 0).Z<=64)/\(2<=(((l0 1).G (l0 2).Z.toNat) 1).Z)/\((((l0 1).G (l0 2).Z.toNat) 1).Z<=64)/\(1<=(((l0 1).G (l0 2).Z.toNat) 2).N)/\((((l0 1).G (l0 2).Z.toNat) 2).N<=4096)/\(1<=(((l0 1).G (l0 2).Z.toNat) 3).N)/\((((l0 1).G (l0 2).Z.toNat) 3).N<=1024)/\(1<=(((l0 1).G (l0 2).Z.toNat) 4).N)/\((((l0 1).G (l0 2).Z.toNat) 4).N<=1024)/\LET ((ak (cw ((l0 0).G (l0 2).Z.toNat) 0 5 18697) (cw ((l0 1).G (l0 2).Z.toNat) 0 5 18697))) λx12=>(aje x12)/\LET (ajC x12) λx13=>(1<=(l0 17).Z)/\((l0 17).Z<=31)/\LET ((ak (cw l0 3 9 56926793) [.i (l0 17).Z])) λx14=>(ajs x14)/\LET (ajy x14) λx15=>((decide ((x15 0).Z<(x13 0).Z))->False)/\((decide ((x15 0).Z<(x13 0).Z))=false->(((l0 2).Z+1)<=1048576)/\Ag I0 μ0 l0 (ak [.l (l0 0).N (l0 0).G,.l (l0 1).N (l0 1).G,.i ((l0 2).Z+1)] (cw l0 3 15 5657065726537))))/\((decide ((l0 2).Z<(((l0 0).N:Nat):Int)))=false-> LET ([]) λx2=>LET (Zr x2) λx3=>R [.i 0,.b (x3 0).X])))))))):=af
theorem ajo:∀J,bTs KX 2 (au ahm.A J)->bBs KX 2 (an ahm.M (tls (aG ahm.A) J))->Sa (TS ahm J) (λl=>(hd l).Z=0/\agW KX ahm.Y (tl l) (ajU J)):=λJ b1 _=>⟨by
 rw[agw];obtain⟨⟨-,-,-,-,-,-,-,c7,c8,⟨-,h9,hf⟩,-⟩,-⟩:=b1;have h9:(J 9).N<=4:=h9;have c7:∀i,i<64->0<=(J 7).F i/\(J 7).F i<=255:=c7;have c8:∀i,i<64->0<=(J 8).F i/\(J 8).F i<=255:=c8
 have hf:∀i,i<(J 9).N->RwB ((J 9).G i) 0:=λi hi=>by obtain⟨-,-,⟨-,-,y⟩,⟨-,-,u⟩,⟨-,-,v⟩,-⟩:=hf i hi;exact⟨λj hj=>(y j hj).1,λj hj=>(u j hj).1,λj hj=>(v j hj).1⟩
 obtain⟨L,hL⟩:∃L,L=cw J 0 15 5657065726537:=⟨_,rfl⟩;have l9:(L 9).N=(J 9).N:=by rw[hL];rfl
 have awk:LET [] λa=>LET (Zr a) λr=>(hd [Lf.i 0,.b (r 0).X]).Z=0/\agW KX ahm.Y (tl [Lf.i 0,.b (r 0).X]) (ajU J):=aH rfl (aH rfl (afl rfl));obtain⟨q1,q2,-,q4⟩:=(aaY L (by rw[l9];omega)).out
 refine aH rfl (aH rfl ⟨λ_=>awk,λ_=>aH hL.symm (aH (w:=[.b (jJ L)]) rfl ⟨λ_=>awk,λg=>?_⟩)⟩);have g:jJ L=true:=by simpa using(show(!(jJ L))=false from g)
 rw[g]at q1 q2;have q1:((uk L) 2).Z=0:=q1;have q2:((uk L) 1).N=(L 9).N:=q2;have hB:EnB L (bnV L):=aiz g (by rw[hL];exact λi hi=>(c7 i hi).2) (by rw[hL];exact λi hi=>(c8 i hi).2) (by rw[hL];exact hf)
 have hr:=q4 g (bnV L) hB;refine aH hL.symm ⟨ah,aH rfl (aH hL.symm ⟨ah,aH rfl ⟨λh=>?_,λ_=>⟨λh=>?_,λ_=>?_⟩⟩⟩)⟩
 .rw[q1]at h;cases h
 .rw[q1]at h;cases h
 have hA:=ai1 g q2 hr;have eA:rpA L (uk L)=rpA J (uk L):=by rw[hL];kernel_rfl
 have n2:((rpA L (uk L)) 9).N=(L 9).N:=q2;obtain⟨p1,p2,-,p4⟩:=(aaY (rpA L (uk L)) (by rw[n2,l9];omega)).out
 rw[hA]at p1 p2;have p1:((uk (rpA L (uk L))) 2).Z=0:=p1;have p2:((uk (rpA L (uk L))) 1).N=((uk L) 1).N:=p2;have hB2:EnB (rpA L (uk L)) (bnV L):=aiz hA (by rw[hL];exact λi hi=>(c7 i hi).2) (by rw[hL];exact λi hi=>(c8 i hi).2) λi hi=>(hr i (by rw[<-n2];exact hi)).by_
 have hs:=p4 hA (bnV L) hB2;refine aH rfl ⟨⟨rfl,rfl⟩,aH rfl (aH eA.symm ⟨ah,aH rfl ⟨λh=>?_,λ_=>⟨λh=>?_,λ_=>?_⟩⟩⟩)⟩
 .rw[p1]at h;cases h
 .rw[p2]at h;simp at h
 have hE:=abi (Bool.and_eq_true_iff.1 (show(ecB L&&decide (1<=(L 14).Z/\(L 14).Z<=31))=true from g)).1;have hq:1<=(J 14).Z/\(J 14).Z<=31:=⟨kmp hB.q1 (by rw[hL];kernel_rfl),kmp hB.q2 (by rw[hL];kernel_rfl)⟩
 have hvs:vsB J 0=true:=kmp hE.vs (by rw[hL];kernel_rfl)
 have hb:bnV L=bnV J:=by rw[hL];kernel_rfl
 have n1:((uk L) 1).N<=4:=by rw[q2,l9];exact h9
 generalize hr1:uk L=r at *;generalize hr2:uk (rpA L r)=s at *;refine Wj (r 1).N (λi=>ak [.l (r 1).N (r 1).G,.l (s 1).N (s 1).G,.i i] (cw J 0 15 5657065726537)) (λl=>(l 2).Z) (λi _=>rfl) (by rfl) λI μ hI i hi=>⟨λh=>?_,λh=>awk⟩
 have h:(i:Int)<(((r 1).N:Nat):Int):=of_decide_eq_true (kmp h);have h2:(i:Int)<(((s 1).N:Nat):Int):=by rw[p2];exact h
 have hi9:i<(L 9).N:=by rw[<-q2];omega
 have f1:=agf (hr i hi9) (hE.fr i hi9);have k2:FrN (bnV L) ((s 1).G i) 0 ((r 1).G i) 0:=hs i (by rw[n2];exact hi9)
 have f2:=agf k2 f1;obtain⟨⟨u0,u1⟩,⟨u2,u3⟩,⟨u4,u5⟩,⟨u6,u7⟩,u8,u9⟩:=tj f1.1;obtain⟨⟨v0,v1⟩,⟨v2,v3⟩,⟨v4,v5⟩,⟨v6,v7⟩,v8,v9⟩:=tj f2.1;have hd:aje [.i (((r 1).G i) 0).Z,.i (((r 1).G i) 1).Z,.l (((r 1).G i) 2).N (((r 1).G i) 2).G,.l (((r 1).G i) 3).N (((r 1).G i) 3).G,.l (((r 1).G i) 4).N (((r 1).G i) 4).G,.i (((s 1).G i) 0).Z,.i (((s 1).G i) 1).Z,.l (((s 1).G i) 2).N (((s 1).G i) 2).G,.l (((s 1).G i) 3).N (((s 1).G i) 3).G,.l (((s 1).G i) 4).N (((s 1).G i) 4).G]:=⟨f1.1,k2.w,k2.h,k2.n2,k2.n3,k2.n4⟩;have B0:=hB.pos
 have sw:∀ {n:Nat} {f g:Nat->ae},Nr (bnV L) n f g->∀i,i<n->-(bnV L)<=cel g i-cel f i/\cel g i-cel f i<=bnV L:=λh i hi=>by have:=(h i hi).1;omega
 have d0:uY (((r 1).G i) 2).G (((s 1).G i) 2).G (((r 1).G i) 2).N<=bnV L:=(adW B0 (sw k2.a)).2;have d1:uY (((r 1).G i) 3).G (((s 1).G i) 3).G (((r 1).G i) 3).N<=bnV L:=(adW B0 (sw k2.b)).2;have d2:uY (((r 1).G i) 4).G (((s 1).G i) 4).G (((r 1).G i) 4).N<=bnV L:=(adW B0 (sw k2.c)).2
 have hle:max (max (uY (((r 1).G i) 2).G (((s 1).G i) 2).G (((r 1).G i) 2).N) (uY (((r 1).G i) 3).G (((s 1).G i) 3).G (((r 1).G i) 3).N)) (uY (((r 1).G i) 4).G (((s 1).G i) 4).G (((r 1).G i) 4).N)<=bnV J:=by rw[<-hb];omega
 have i3:(i:Int)+1<=1048576:=ac;refine⟨kmp h,kmp h2,kmp u0,kmp u1,kmp u2,kmp u3,kmp u4,kmp u5,kmp u6,kmp u7,kmp u8,kmp u9,kmp v0,kmp v1,kmp v2,kmp v3,kmp v4,kmp v5,kmp v6,kmp v7,kmp v8,kmp v9,aH rfl ⟨kmp hd,aH rfl ⟨kmp hq.1,kmp hq.2,aH rfl ⟨kmp hvs,aH rfl ⟨λk=>?_,λ_=>⟨kmp i3,hI i _ ac af⟩⟩⟩⟩⟩⟩;have k:=of_decide_eq_true k;have k:bnV J<max (max (uY (((r 1).G i) 2).G (((s 1).G i) 2).G (((r 1).G i) 2).N) (uY (((r 1).G i) 3).G (((s 1).G i) 3).G (((r 1).G i) 3).N)) (uY (((r 1).G i) 4).G (((s 1).G i) 4).G (((r 1).G i) 4).N):=kmp k;omega⟩
abbrev akW:CT:=CS0 7 ahm.A ahm.M ahm.Y ajU
theorem rpe_ct:cV KX Tryz.prog GX akW:=Q4 (M:=MX) (tb:=ahm.b) (FT:=ahm.t) ala 8 (fi:=ahm.i) (args:=ahm.A) (mem:=ahm.M) (y:=ahm.Y) (W:=ajU) (λ_ _=>af) af 2 (λ_=>af) λJ b1 b2=>by have h:=ajo J b1 b2;unfold TS ahm at h;exact h
def akq (J:ae):Prop:=4<(J 9).N\/¬ ∀i,i<(J 9).N->lg1 ((J 9).G i)
def akC (_:ae):ae:=[.b true]
abbrev ahu:SP:=mkS ⟨[.sO (.nB false true false)],[]⟩ 7 Tryz.f7 [.tX (.sA [r5,r5,r5,r5,r0,r5,r5,r4,r4,.c (.nR 16 0 9223372036854775807 0 g0),.c (.nR 1 0 9223372036854775807 0 g0),r0,r0,r0,r5])] [] [] [ad9,ab1,aaV,aaW,akF,akd,akG] [(aw 20 Tryz.f20)]
theorem agE J R:TR ahu J R (((decide (4<(((J 9).N:Nat):Int)))->LET ([]) λx0=>LET (Zr x0) λx1=>R [.i 0,.b (x1 0).X])/\((decide (4<(((J 9).N:Nat):Int)))=false->((J 9).N<=6)/\LET ([.l (J 9).N (J 9).G]) λx2=>LET (Ya x2) λx3=>((!(x3 0).X)->LET ([]) λx0=>LET (Zr x0) λx1=>R [.i 0,.b (x1 0).X])/\((!(x3 0).X)=false-> False))):=af
theorem aiX:PF1 ahu akq akC:=λJ _ _ hp=>⟨by
 rw[agE];refine⟨λ_=>aH rfl (aH rfl (afl rfl)),λh=>?_⟩;have h:¬ (4:Int)<(((J 9).N:Nat):Int):=of_decide_eq_false h;refine⟨ac,aH rfl (aH (w:=[.b (lgB [.l (J 9).N (J 9).G])]) rfl ⟨λ_=>aH rfl (aH rfl (afl rfl)),λg=>?_⟩)⟩;have g:lgB [.l (J 9).N (J 9).G]=true:=by simpa using(show(!lgB [.l (J 9).N (J 9).G])=false from g)
 have g:=of_decide_eq_true g;rcases hp with hp | hp
 .omega
 .exact hp g⟩
abbrev akU:CT:=C1 ahu akq akC
theorem rpx_ct:CO akU:=CX1 (TX ⟨Sl,Je,Jh,Ls,ahd,agK,ahf,ah⟩ (FK ah)) aiX
end
end Go.Proofs.YtldmjbgplgoedaaGreatDoor
