import Derived.Test.YtldmjbgplgoedaaGreatDoorRp40
set_option linter.all false
namespace Go.Proofs.YtldmjbgplgoedaaGreatDoor
noncomputable section
open Go.RowKit U
def qR (J:ae):ae:=ak (cw J 0 15 k3) (ak (cw J 21 15 k4) [.b (J 15).X])
theorem sM {J:ae} {o:Nat} {w h:Int} (e:kP J o w h=true) (n:(J o).Z≠0):Fm J o w h:=by
 have e:((J o).Z==0||(fmB (J o).Z (J (o+1)).Z (J (o+2)).N (J (o+3)).N (J (o+4)).N&&((J o).Z==w&&(J (o+1)).Z==h)))=true:=e;rw[show((J o).Z==0)=false by simpa using n,Bool.false_or]at e
 simp only[Bool.and_eq_true,beq_iff_eq]at e;exact⟨e.1,e.2.1,e.2.2⟩
theorem rm {b:Bool} {x y:Int} (h:(bif b then x else y)=0) (hx:x≠0):b=false/\y=0:=by
 cases b with
 |true=>exact absurd h hx
 |false=>exact⟨rfl,h⟩
theorem Sj {J:ae} (h:dcZ (qR J)=0):ftB J 0 9 15=true/\lG J 21 (J 0).Z (J 1).Z (J 9).Z (J 10).Z (J 15).X/\((J 21).Z≠0->Fm J 21 (J 0).Z (J 1).Z):=by
 unfold dcZ at h;obtain⟨h1,h⟩:=rm h afH;obtain⟨h2,h⟩:=rm h afH;obtain⟨h3,h⟩:=rm h afH;obtain⟨h4,h⟩:=rm h afH;obtain⟨h5,h⟩:=rm h afH;obtain⟨h6,h⟩:=rm h afH;obtain⟨h7,-⟩:=rm h afH
 have f:ftB J 0 9 15=true:=by
  have:(!ftB J 0 9 15)=false:=kmp h1
  simpa using this
 have m1:kP J 21 (J 0).Z (J 1).Z=true:=by
  have:(!kP J 21 (J 0).Z (J 1).Z)=false:=kmp h2
  simpa using this
 have m2:kP J 26 (J 0).Z (J 1).Z=true:=by
  have:(!kP J 26 (J 0).Z (J 1).Z)=false:=kmp h3
  simpa using this
 have m3:kP J 31 (J 0).Z (Int.tdiv (J 1).Z 2)=true:=by
  have:(!kP J 31 (J 0).Z (Int.tdiv (J 1).Z 2))=false:=kmp h4
  simpa using this
 have h5:((J 9).Z !=1&&(J 21).Z==0)=false:=kmp h5;have h6:((J 9).Z==3&&(J 26).Z==0)=false:=kmp h6;have h7:((J 9).Z==2&&((J 15).X&&(J 31).Z==0))=false:=kmp h7;have g:=(jr f).1.h;rw[Int.tdiv_eq_ediv_of_nonneg ac]at m3;refine⟨f,⟨λt=>sM m1 λz=>?_,λt=>sM m2 λz=>?_,λt s=>sM m3 λz=>?_⟩,sM m1⟩
 .rw[show((J 9).Z !=1)=true by simpa using t,show((J 21).Z==0)=true by simpa using z]at h5
  cases h5
 .rw[show((J 9).Z==3)=true by simpa using t,show((J 26).Z==0)=true by simpa using z]at h6
  cases h6
 .rw[show((J 9).Z==2)=true by simpa using t,s,show((J 31).Z==0)=true by simpa using z]at h7
  cases h7
theorem zX {J:ae} (h:ftB J 0 9 15=true):16*rwZ J 0 9=rHt (J 10).Z (J 1).Z/\1<=rwZ J 0 9/\rwZ J 0 9<=4:=by
 have g:=(jr h).1;have gh:=jh g;have hh:=g.h;have hp:pvB J 0 9=true:=(Bool.and_eq_true_iff.1 h).1;unfold rwZ;rw[hp];show 16*(bif (J 10).Z==3 then Int.tdiv (J 1).Z 16 else Int.tdiv (Int.tdiv (J 1).Z 2) 16)=_/\1<=(bif (J 10).Z==3 then Int.tdiv (J 1).Z 16 else Int.tdiv (Int.tdiv (J 1).Z 2) 16)/\(bif (J 10).Z==3 then Int.tdiv (J 1).Z 16 else Int.tdiv (Int.tdiv (J 1).Z 2) 16)<=4
 rw[Int.tdiv_eq_ediv_of_nonneg (a:=(J 1).Z) (b:=16) ac,Int.tdiv_eq_ediv_of_nonneg (a:=(J 1).Z) (b:=2) ac,Int.tdiv_eq_ediv_of_nonneg (a:=(J 1).Z / 2) (b:=16) ac]
 by_cases e:(J 10).Z=3
 .rw[z9 e]at gh ⊢;rw[show((J 10).Z==3)=true by simpa using e]
  show 16*((J 1).Z / 16)=_/\1<=(J 1).Z / 16/\(J 1).Z / 16<=4;omega
 .rw[zt e]at gh ⊢;rw[show((J 10).Z==3)=false by simpa using e]
  show 16*((J 1).Z / 2 / 16)=_/\1<=(J 1).Z / 2 / 16/\(J 1).Z / 2 / 16<=4;omega
def wa (J:ae):Prop:=Fm J 16 (J 0).Z (16*rwZ J 0 9)/\dcZ (qR J)=0
theorem AO {J:ae} (h:wa J):Mw J:=by obtain⟨f,r,-⟩:=Sj h.2;have s:=h.1;rw[(zX f).1]at s;exact⟨f,s,r⟩
theorem Oa {J:ae} (h:wa J):Y0 (qR J):=by
 obtain⟨f,-,p⟩:=Sj h.2;have g:=(jr f).1;have gw:=g.w;have gh:=g.h;intro _;have e1:((deC (qR J)) 0).Z=(J 0).Z:=af
 have e2:Tj (deC (qR J))=rHt (J 10).Z (J 1).Z:=by
  have:Tj (deC (qR J))=(bif (J 10).Z==3 then(J 1).Z else Int.tdiv (J 1).Z 2):=af
  rw[this,Int.tdiv_eq_ediv_of_nonneg ac];rfl
 have gr:=jh g;refine⟨λ_=>⟨?_,?_⟩,λn=>?_⟩
 .show((deC (qR J)) 0).Z % 2=0;rw[e1];omega
 .show Tj (deC (qR J)) % 2=0;rw[e2];omega
 .have n:(J 21).Z≠0:=kmp n;have q:=p n;obtain⟨a,b,c,d,e⟩:=ql q.1
  have k:∀s st,(J 10).Z=st->st≠3->dp (cnF (deC (qR J)) s):=λs st e ne=>by
   have i32:=g.i32 (g.cx.1 (e ▸ ne));obtain⟨q1,q2,q3⟩:=q;refine⟨kmp q1,?_⟩
   have:(J 22).Z % 4=0:=by have q3:(J 22).Z=(J 1).Z:=q3;omega
   exact kmp this
  exact⟨⟨kmp a,kmp b,kmp c,kmp d,kmp e⟩,λe=>k 0 1 (kmp e) afH,λe=>k 1 2 (kmp e) afH⟩
def Ym (c:ae) (o:Nat):ae:=[.i (c o).Z,.i (c (o+1)).Z,.l (c (o+2)).N (c (o+2)).G,.l (c (o+3)).N (c (o+3)).G,.l (c (o+4)).N (c (o+4)).G]
def zfr (c:ae) (o:Nat):ae:=[.f (zAt [.c (.nI .i64 2 64 (c o).Z),.c (.nI .i64 2 64 (c (o+1)).Z),.c (.nR 0 1 4096 (c (o+2)).N (c (o+2)).G),.c (.nR 0 1 1024 (c (o+3)).N (c (o+3)).G),.c (.nR 0 1 1024 (c (o+4)).N (c (o+4)).G)]),.l (c (o+2)).N (c (o+2)).G,.l (c (o+3)).N (c (o+3)).G,.l (c (o+4)).N (c (o+4)).G]
def piA (k:Nat) (c:ae):ae:=ak [.i (k:Int)] (ak (cw c 0 70 k6) (Ym c 70))
def piC (c:ae):Nat->ae
 |0=>c
 |k+1=>ak (cw c 0 70 k6) (Ym (JR (piA k (piC c k))) 72)
def piR (c:ae) (k:Nat):ae:=JR (piA k (piC c k))
def piU (c:ae) (k:Nat):ae:=[.i ((piR c k) 0).Z,.l ((piR c k) 1).N ((piR c k) 1).G]
def piG (c:ae):Nat->Nat->ae
 |0=>λ_=>piU c 0
 |k+1=>aE (k+1) (piG c k) λ_=>piU c (k+1)
theorem Kq {c:ae}:∀ {n k:Nat},k<=n->piG c n k=piU c k
 |0,k,h=>by have:k=0:=ac;subst this;rfl
 |n+1,k,h=>by
  show aE (n+1) (piG c n) (λ_=>piU c (n+1)) k=_;unfold aE
  by_cases e:k<n+1
  .rw[if_pos e];exact Kq ac
  .rw[if_neg e];have:k=n+1:=ac;rw[this]
theorem xm {c:ae} {W h:Int} {H:Int} (hc:CdF c 0 W H) (hf:Fm c 70 W h):∀k,CdF (piC c k) 0 W H/\Fm (piC c k) 70 W h
 |0=>⟨hc,hf⟩
 |k+1=>by
  obtain⟨i1,i2,i3,i4⟩:=xm hc hf k;refine⟨kmp hc,?_⟩;obtain⟨⟨a0,a1⟩,a2,a3,a4⟩:=Pu (piA k (piC c k)) (roN (piA k (piC c k)));have b0:(at_ (roS (piA k (piC c k)) (roN (piA k (piC c k)))).2 0).Z=((piC c k) 70).Z:=kmp a0;have b1:(at_ (roS (piA k (piC c k)) (roN (piA k (piC c k)))).2 1).Z=((piC c k) 71).Z:=kmp a1;have b2:(at_ (roS (piA k (piC c k)) (roN (piA k (piC c k)))).2 2).N=((piC c k) 72).N:=kmp a2;have b3:(at_ (roS (piA k (piC c k)) (roN (piA k (piC c k)))).2 3).N=((piC c k) 73).N:=kmp a3;have b4:(at_ (roS (piA k (piC c k)) (roN (piA k (piC c k)))).2 4).N=((piC c k) 74).N:=kmp a4
  have z:Fm (roS (piA k (piC c k)) (roN (piA k (piC c k)))).2 0 W h:=by refine⟨?_,b0.trans i3,b1.trans i4⟩;show fmB (at_ (roS (piA k (piC c k)) (roN (piA k (piC c k)))).2 0).Z (at_ (roS (piA k (piC c k)) (roN (piA k (piC c k)))).2 1).Z (at_ (roS (piA k (piC c k)) (roN (piA k (piC c k)))).2 2).N (at_ (roS (piA k (piC c k)) (roN (piA k (piC c k)))).2 3).N (at_ (roS (piA k (piC c k)) (roN (piA k (piC c k)))).2 4).N=true;rw[b0,b1,b2,b3,b4];exact i2
  exact kmp z
def piN (J:ae):Nat:=(rwZ J 0 9).toNat
def piI (J:ae):ae:=ak (cw J 0 15 k3) (ak [.b (J 15).X] (ak (cw J 16 20 k7) [.i (J 36).Z]))
def pM (J:ae):ae:=ak [.i (J 9).Z,.i (J 10).Z,.i (J 11).Z,.b (J 12).X,.b (J 13).X,.b (J 14).X,.l (piN J) (λi=>piG (cn (piI J)) (piN J-1) (0+i))] (ak (Ym (piC (cn (piI J)) (piN J)) 70) [.i 0])
theorem sh {J:ae} (h:wa J) {k:Nat} (hk:k<piN J):sa (piA k (piC (cn (piI J)) k)):=by
 have hi:=AO h;have hi':Mw (piI J):=⟨kmp hi.ft,kmp hi.src,kmp hi.refs⟩;obtain⟨-,q1,q2⟩:=xE hi';obtain⟨i1,i2⟩:=xm q1 q2 k;obtain⟨r1,r2,r3⟩:=zX hi.ft;obtain⟨w0,w1,a,b,c,d,hw⟩:=TO (piI J)
 have hx:∀k,∃X,piC (cn (piI J)) k=ak (cw (nwB (piI J) w0 w1 a b c d) 0 70 k6) X:=λk=>by
  rw[hw]
  cases k with
  |zero=>exact⟨Ym (nwB (piI J) w0 w1 a b c d) 70,by show nwB (piI J) w0 w1 a b c d=_;kernel_rfl⟩
  |succ k=>exact⟨_,rfl⟩
 obtain⟨X,hX⟩:=hx k;have g:=(jr hi.ft).1;have gh:=jh g;have hk':(k:Int)<rwZ J 0 9:=by unfold piN at hk;omega
 have hk2:0<=(k:Int)/\(k:Int)<rHt (J 10).Z (J 1).Z / 16:=ac;refine Nm (W:=(J 0).Z) (H:=(J 1).Z) (kmp i1) ?_ ?_ ?_ ?_ ?_
 .rw[hX];kernel_rfl
 .rw[hX];exact kmp hi.ft
 .rw[hX]at i2 ⊢;exact kmp i2
 .rw[hX];exact kmp hk2
 .rw[hX];exact kmp hk'
def aeq (J:ae):ae:=ak [.b (J 15).X,.i (J 36).Z,.b false] (ak (cw J 0 15 k3) (ak (cw J 16 20 k7) [.f (λ_=>0),.b false,.b false,.b false,.f (λ_=>0),.i 0]))
def ace (J:ae):ae:=ak [.i 0,.i (rwZ J 0 9),.i 0,.i (J 9).Z,.i (J 10).Z,.i (J 11).Z,.b (J 12).X,.b (J 13).X,.b (J 14).X,.f (λ_=>0),.i 0] (ak (cw (cn (piI J)) 0 70 k6) (zfr (cn (piI J)) 70))
def acy (J:ae) (k:Nat):ae:=ak [.i 1,.i (rwZ J 0 9),.i ((k:Int)+1),.i (J 9).Z,.i (J 10).Z,.i (J 11).Z,.b (J 12).X,.b (J 13).X,.b (J 14).X,.s 0 (k+1),.f (λ_=>0),.i 0] (ak (cw (cn (piI J)) 0 70 k6) (ak (zfr (piR (cn (piI J)) k) 72) [.l (k+1) (piG (cn (piI J)) k)]))
set_option maxRecDepth 100000 in
theorem afu:Zt Tryz.prog 30 3:=⟨λ_ _=>af,λus w h=>by
 obtain⟨p,q,r,rfl⟩:∃p q r,us=[p,q,r]:=by
  match us,h with
  |[p,q,r],_=>exact⟨p,q,r,rfl⟩
 refine(callsD_of_wpS Tryz.func30 rfl (R:=λe u' w'=>e=.returned (.tuple #[])/\u'=.returning/\w'=w) λc₀ cs hu=>?_).mono λe u' w' ⟨h1,h2,h3⟩=>⟨⟨_,h1⟩,h2,h3⟩
 apply wpS_seq
 apply wpS_region
 simp[wpOpsS,go_sem,recoverD,hu,Tryz.ntmps30,Exit.thenS]
 refine wpS_cond (t:=false) (by simp[Act.eval,Array.replicate]) ?_
 simp only[Bool.false_eq_true,if_false];refine wpS_of_wp (wp_skip ?_);cases c₀
 simp_all [bodyPostS,results,Tryz.results30]⟩
abbrev Wi:List AT:=[.tX (.sA acr),.tX (.sA ack),aN,.tX (.sA sFF),.tX (.sA ZO),aj 1 31]
abbrev Zl:List AB:=[]
abbrev YF:Wy:=⟨[.sA YP,.sA sFF,aD 0 0],[]⟩
noncomputable abbrev SQ:FI:=⟨10,Tryz.f10,[(13,.heads [⟨[(12,tXO (.nP 0 0)),(13,tXO (.nP 1 0)),(14,tXO (.nP 2 0)),(19,tXO (.nP 3 0)),(77,aj 0 4),(78,aj 0 0)],[.run 41 aeD,.run 31 ad5,.run 42 [r9],.run 100 qL3],[]⟩,⟨[(12,tXO (.nP 0 0)),(13,tXO (.nP 1 0)),(14,tXO (.nP 2 0)),(19,tXO (.nP 3 0)),(77,aj 0 4),(78,aj 1 4)],[.run 41 [r8,r8,r15,r0,r0,r0,r17,.c (.nD 4 4 1 4 0 0)],.run 31 ad5,.run 42 [r9],.run 100 qL3,.dyn 50 4 1 4 0 g0 false],[]⟩]),(20002,.head ⟨[(2,aN),(5,aj 1 31),(6,tXO (.nP 0 0)),(7,tXO (.nP 1 0)),(9,tXO (.nP 2 0)),(10,tXO (.nP 3 0)),(12,tXO (.nP 4 0)),(13,tXO (.nP 5 0)),(14,tXO (.nP 6 0)),(38,aN)],[.run 26 acr,.run 28 ack,.run 31 sFF,.run 33 ZO,.run 41 [r32,r6,r6,r6,r17,r17],.run 31 ad5,.run 42 [r9]],[]⟩)],.tT [.sA YP,.sA sFF,aD 0 0],[]⟩
abbrev N3:List CT:=[Ze,Yh,qV,adh,adl,acP]
noncomputable abbrev LF:List FI:=[(aw 30 Tryz.f30),(aw 32 Tryz.f32),(aw 34 Tryz.f34)]
theorem afk:TOk Tryz.prog KX GX N3 LF:=TX ⟨z8,xp,dd,Ra,TU,S7,ah⟩ (FK (FK (FK ah)))
def aaN (J:ae):T:=VG [YF] (pj Tryz.prog ⟨KX,GX,MX,inl Tryz.prog KX GX MX N3 LF 8⟩ 30 3 SQ (au Wi J) (an Zl (tls (aG Wi) J)))
theorem EG (J:ae) (R:ae->Prop):(aaN J).sat (onA R)=(∃J0:ae->Prop,(let x0:ae:=(cw J 0 15 k3);let x1:ae:=JL x0;((!(x1 0).X)->J0 (ak [.b (J 15).X,.i (J 36).Z,.b true] (ak (cw J 0 15 k3) (ak (cw J 16 20 k7) [.f (λ_=>0),.b false,.b false,.b false,.f (λ_=>0),.i 0]))))/\((!(x1 0).X)=false->((J 15).X->(((J 10).Z==3)->J0 (ak [.b (J 15).X,.i (J 36).Z,.b true] (ak (cw J 0 15 k3) (ak (cw J 16 20 k7) [.f (λ_=>0),.b false,.b false,.b false,.f (λ_=>0),.i 0]))))/\(((J 10).Z==3)=false->J0 (ak [.b (J 15).X,.i (J 36).Z,.b false] (ak (cw J 0 15 k3) (ak (cw J 16 20 k7) [.f (λ_=>0),.b false,.b false,.b false,.f (λ_=>0),.i 0])))))/\((J 15).X=false->J0 (ak [.b (J 15).X,.i (J 36).Z,.b false] (ak (cw J 0 15 k3) (ak (cw J 16 20 k7) [.f (λ_=>0),.b false,.b false,.b false,.f (λ_=>0),.i 0]))))))/\∀j0,J0 j0->((j0 2).X->False)/\((j0 2).X=false->let x2:ae:=(cw j0 3 15 k3);let x3:ae:=GY x2;let x4:ae:=(cw j0 18 5 18697);(cI x4)/\let x5:ae:=gL x4;(((j0 18).Z==(j0 3).Z)->((!((j0 19).Z==(16*(x3 0).Z)))->False)/\((!((j0 19).Z==(16*(x3 0).Z)))=false->let x6:ae:=(ak (cw j0 3 15 k3) (ak (cw j0 23 15 k4) [.b (j0 0).X]));(Y0 x6)/\let x7:ae:=J7 x6;(((x7 6).Z !=0)->False)/\(((x7 6).Z !=0)=false->let x8:ae:=(ak (cw j0 3 15 k3) (ak [.b (j0 0).X] (ak (cw j0 18 20 k7) [.i (j0 1).Z])));(abI x8)/\let x9:ae:=cn x8;∃(I1:ae->Prop) (μ1:ae->Nat),I1 (ak (ak [.i 0,.i (x3 0).Z,.i 0] (ak (cw j0 12 6 74825) [.f (j0 42).F,.i (j0 43).Z])) (ak (cw x9 0 70 k6) (ak [.f (zAt [.c (.nI .i64 2 64 (x9 70).Z),.c (.nI .i64 2 64 (x9 71).Z),.c (.nR 0 1 4096 (x9 72).N (x9 72).G),.c (.nR 0 1 1024 (x9 73).N (x9 73).G),.c (.nR 0 1 1024 (x9 74).N (x9 74).G)])] (cw x9 72 3 292))))/\∀l1,I1 l1->((decide ((l1 0).Z=0))->((decide ((l1 2).Z<(l1 1).Z))->let x10:ae:=(ak [.i (l1 2).Z] (ak (cw l1 11 70 k6) (ak [.i ((l1 81).F 0),.i ((l1 81).F (0+1))] (cw l1 82 3 292))));(sa x10)/\let x11:ae:=JR x10;(1<=1)/\Ag I1 μ1 l1 (ak (ak [.i 1,.i (l1 1).Z,.i 1] (ak (cw l1 3 6 74825) [.s 0 1,.f (l1 9).F,.i (l1 10).Z])) (ak (cw x11 2 70 k6) (ak [.f (zAt [.c (.nI .i64 2 64 (x11 72).Z),.c (.nI .i64 2 64 (x11 73).Z),.c (.nR 0 1 4096 (x11 74).N (x11 74).G),.c (.nR 0 1 1024 (x11 75).N (x11 75).G),.c (.nR 0 1 1024 (x11 76).N (x11 76).G)])] (ak (cw x11 74 3 292) [.l 1 (λi0=>[.i (x11 0).Z,.l (x11 1).N (x11 1).G])])))))/\((decide ((l1 2).Z<(l1 1).Z))=false->False))/\((decide ((l1 0).Z=0))=false->((decide ((l1 0).Z=1))->((decide ((l1 2).Z<(l1 1).Z))->((l1 2).Z<=3)/\let x12:ae:=(ak [.i (l1 2).Z] (ak (cw l1 12 70 k6) (ak [.i ((l1 82).F 0),.i ((l1 82).F (0+1))] (cw l1 83 3 292))));(sa x12)/\let x13:ae:=JR x12;(1<=1)/\((l1 9).O=0)/\((l1 9).N=(l1 86).N)/\(((l1 2).Z+1)<=4)/\(((l1 9).N+1)<=4)/\(((l1 9).N+1)<=4)/\Ag I1 μ1 l1 (ak (ak [.i 1,.i (l1 1).Z,.i ((l1 2).Z+1)] (ak (cw l1 3 6 74825) [.s 0 ((l1 9).N+1),.f (l1 10).F,.i (l1 11).Z])) (ak (cw x13 2 70 k6) (ak [.f (zAt [.c (.nI .i64 2 64 (x13 72).Z),.c (.nI .i64 2 64 (x13 73).Z),.c (.nR 0 1 4096 (x13 74).N (x13 74).G),.c (.nR 0 1 1024 (x13 75).N (x13 75).G),.c (.nR 0 1 1024 (x13 76).N (x13 76).G)])] (ak (cw x13 74 3 292) [.l ((l1 9).N+1) (aE (l1 9).N (l1 86).G (λi0=>[.i (x13 0).Z,.l (x13 1).N (x13 1).G]))])))))/\((decide ((l1 2).Z<(l1 1).Z))=false->(((l1 9).O+(l1 9).N)<=(l1 86).N)/\R (ak [.i 0] (ak (cw l1 3 6 74825) (ak [.l (l1 9).N (λi0=>(l1 86).G ((l1 9).O+i0)),.i ((l1 82).F 0),.i ((l1 82).F (0+1))] (ak (cw l1 83 3 292) [.i 0]))))))/\((decide ((l1 0).Z=1))=false->False)))))/\(((j0 18).Z==(j0 3).Z)=false-> False))):=af
theorem Sw:Pf1 aaN Wi Zl YF wa pM:=λJ _ _ hp=>⟨by
 rw[EG];dsimp only;have hi:=AO hp;have hft:ftB J 0 9 15=true:=hi.ft;obtain⟨f1,f2⟩:=Bool.and_eq_true_iff.1 hft;obtain⟨r1,r2,r3⟩:=zX hft;have hN:(piN J:Int)=rwZ J 0 9:=by unfold piN;omega
 have ep:((JL (cw J 0 15 k3)) 0).X=pvB J 0 9:=af;rw[ep,f1];refine⟨λl=>l=aeq J,⟨λh=>(by cases h),λ_=>⟨λs=>⟨λe=>?_,λ_=>?_⟩,λs=>?_⟩⟩,λj hj=>?_⟩
 .have f2:(!((J 15).X&&(J 10).Z==3))=true:=f2;rw[s,e]at f2;cases f2
 .show(_:ae)=_
  kernel_rfl
 .show(_:ae)=_
  kernel_rfl
 subst hj;have e0:((GY (cw (aeq J) 3 15 k3)) 0).Z=rwZ J 0 9:=af;rw[e0];obtain⟨s1,s2,s3⟩:=hp.1;have s2:(J 16).Z=(J 0).Z:=s2;have s3:(J 17).Z=16*rwZ J 0 9:=s3;refine⟨λh=>?_,λ_=>⟨kmp s1,λ_=>⟨λh=>?_,λ_=>⟨kmp (Oa hp),λh=>?_,λ_=>⟨?_,?_⟩⟩⟩,λh=>?_⟩⟩
 .have h:false=true:=kmp h;cases h
 .have h:(!((J 17).Z==16*rwZ J 0 9))=true:=kmp h;rw[s3]at h
  simp at h
 .have q:((J7 (qR J)) 6).Z=0:=by
   have d:dcZ (deA (qR J))=0:=kmp hp.2;rw[show J7 (qR J)=ak (cZ (sN (deC (qR J)))) [.l (rwZ (qR J) 0 9).toNat (λ_=>[.b false]),.i 0] from A8 (by rw[d];rfl) _ _]
   rfl
  have h:(((J7 (qR J)) 6).Z !=0)=true:=kmp h;rw[q]at h;cases h
 .have hi':Mw (piI J):=⟨kmp hi.ft,kmp hi.src,kmp hi.refs⟩;exact kmp (xE hi').1
 .refine⟨λl=>l=ace J\/∃k,k+1<=piN J/\l=acy J k,λl=>bif (l 0).Z==0 then piN J+1 else piN J-(l 2).Z.toNat,.inl af,λl hl=>?_⟩
  rcases hl with hl | ⟨k,hk,hl⟩
  .subst hl;refine⟨λ_=>⟨λ_=>⟨kmp (sh hp (k:=0) ac),afH,.inr ⟨0,ac,af⟩,?_⟩,λh=>?_⟩,λh=>?_⟩
   .show piN J-1<piN J+1;omega
   .have h:decide ((0:Int)<rwZ J 0 9)=false:=kmp h;exact absurd (of_decide_eq_false h) ac
   .have h:decide ((0:Int)=0)=false:=kmp h;cases h
  .subst hl;refine⟨λh=>?_,λ_=>⟨λ_=>⟨λh=>?_,λh=>?_⟩,λh=>?_⟩⟩
   .have h:decide ((1:Int)=0)=true:=kmp h;cases h
   .have h:decide ((k:Int)+1<rwZ J 0 9)=true:=kmp h;have h:=of_decide_eq_true h;have hk':k+1<piN J:=ac;have c3:(k:Int)+1<=3:=ac;have c4:(k:Int)+1+1<=4:=ac;have c5:k+1+1<=4:=ac;refine⟨kmp c3,kmp (sh hp hk'),afH,af,af,kmp c4,kmp c5,kmp c5,.inr ⟨k+1,ac,af⟩,?_⟩;show piN J-((k:Int)+1+1).toNat<piN J-((k:Int)+1).toNat;omega
   .have h:decide ((k:Int)+1<rwZ J 0 9)=false:=kmp h;have h:=of_decide_eq_false h;have hk':piN J=k+1:=ac;have e0:0+(k+1)<=k+1:=ac;refine⟨kmp e0,rfl,?_⟩;unfold pM;rw[hk'];exact⟨⟨ay af,ay af,(by show(_:Int)=_;kernel_rfl),ah⟩,ah⟩
   .have h:decide ((1:Int)=1)=false:=kmp h;cases h
 .have h:((J 16).Z==(J 0).Z)=false:=kmp h;rw[s2]at h
  simp at h⟩
abbrev aaA:CT:=CS 10 Wi Zl YF wa pM
theorem agU:cV KX Tryz.prog GX aaA:=IL (M:=MX) (tb:=N3) (FT:=LF) afk 8 afu (fi:=SQ) (args:=Wi) (mem:=Zl) (y:=YF) (Pr:=wa) (W:=pM) (λ_ _=>af) af 1 (λ_=>af) λJ b1 b2 b3=>by have h:=Sw J b1 b2 b3;unfold aaN at h;exact h
end
end Go.Proofs.YtldmjbgplgoedaaGreatDoor
namespace Go.Proofs.YtldmjbgplgoedaaGreatDoor
noncomputable section
open Go.RowKit U
def Qp (J:ae):ae:=[.i (bif (J 1).Z==0 then(J 0).Z+1 else 0)]
abbrev OO:SP:=mkS ⟨[aD 0 4],[]⟩ 343 Tryz.f343 [aj 0 3,tXO (.nI .u8 0 255 0)] [] []
theorem afI J R:TR OO J R (BR ((J 1).Z==0) (R [.i 0,.i ((J 0).Z+1)]) (R [.i 0,.i 0])):=af
theorem T8:PF0 OO Qp:=λJ b1 b2=>⟨by rw[afI];exact⟨λh=>⟨rfl,⟨(Bm h _ _).symm,ah⟩,ah⟩,λh=>⟨rfl,⟨(A8 h _ _).symm,ah⟩,ah⟩⟩⟩
abbrev adB:CT:=C0 OO Qp
theorem WH:CO adB:=CX0 (TX trivial ah) T8
def es (g:Nat->Int):Nat->Int × List Int
 |0=>(0,[])
 |i+1=>if(es g i).1=2/\g i<4 then(bif g i==0 then 1 else 0,(es g i).2++[3,g i])else(bif g i==0 then(es g i).1+1 else 0,(es g i).2++[g i])
theorem LM {g:Nat->Int}:∀ {i:Nat},(∀j,j<i->0<=g j)->(0<=(es g i).1/\(es g i).1<=2)/\i<=(es g i).2.length/\(es g i).2.length<=2*i
 |0,_=>⟨⟨Int.le_refl 0,show(0:Int)<=2 by decide⟩,Nat.le_refl _,Nat.le_refl _⟩
 |i+1,h=>by
  obtain⟨h1,h2,h3⟩:=LM (i:=i) λj hj=>h j ac;have hi:=h i ac;unfold es
  split
  .rename_i e;simp only[List.length_append,List.length_cons,List.length_nil];cases g i==0<;>simp only[cond_true,cond_false]<;>omega
  .rename_i e;simp only[List.length_append,List.length_cons,List.length_nil];cases e0:g i==0
   .simp only[cond_false];omega
   .have:=eq_of_beq e0;simp only[cond_true];omega
theorem Bg {L:List Int} {y:Int} {j:Nat} (h:j<L.length):(L++[y]).getD j 0=L.getD j 0:=by simp only[List.getD_eq_getElem?_getD];rw[List.getElem?_append_left h]
theorem yZ {L:List Int} {y:Int}:(L++[y]).getD L.length 0=y:=by simp
def EsG (G:Nat->ae) (L:List Int):Prop:=∀j,j<L.length->cel G j=L.getD j 0
theorem EsG.add {G:Nat->ae} {L:List Int} (h:EsG G L) (y:Int):EsG (aE L.length G λ_=>[.i y]) (L++[y]):=λj hj=>by
 rw[List.length_append,List.length_singleton]at hj
 by_cases e:j<L.length
 .rw[Bg e,<-h j e];show(at_ (if j<L.length then G j else[.i y]) 0).Z=_
  rw[if_pos e]
 .have:j=L.length:=ac;subst this;rw[yZ];show(at_ (if L.length<L.length then G L.length else[.i y]) 0).Z=_
  rw[if_neg (Nat.lt_irrefl _)];rfl
def Pm (J:ae):List Int:=(es (cel (J 0).G) (J 0).N).2
def PC (J:ae):Prop:=cel (J 0).G ((J 0).N-1)≠0
def abn (J:ae):ae:=[.l (Pm J).length (rz λj=>(Pm J).getD j 0),.i 0]
def Qo (J:ae) (i:Nat) (G:Nat->ae):ae:=[.i 1,.s 0 (es (cel (J 0).G) i).2.length,.i (es (cel (J 0).G) i).1,.l (J 0).N (J 0).G,.i (((J 0).N:Nat):Int),.i (i:Int),.l (es (cel (J 0).G) i).2.length G]
abbrev ahR:SP:=mkS ⟨[.sO (.nR 0 1 65536 0 g0),aD 0 0],[]⟩ 289 Tryz.f289 [tXO (.nR 0 1 32768 0 g0)] [] [(6,.heads [⟨[(4,.tX (.sO .nE)),(5,aj 0 0),(12,tXO (.nR 0 1 32768 0 g0)),(13,aj 1 32768),(14,aj 0 0)],[],[]⟩,⟨[(4,tXO (.nD 0 0 1 65536 0 0)),(5,aj 0 2),(12,tXO (.nR 0 1 32768 0 g0)),(13,aj 1 32768),(14,aj 1 32768)],[.dyn 5 0 1 65536 0 g0 false],[]⟩])] [adB] [(aw 342 Tryz.f342)]
theorem HG J R:TR ahR J R ((((((J 0).N:Nat):Int)-1)<(((J 0).N:Nat):Int))/\(((((J 0).G ((((J 0).N:Nat):Int)-1).toNat) 0).Z==0)->False)/\(((((J 0).G ((((J 0).N:Nat):Int)-1).toNat) 0).Z==0)=false->∃(I0:ae->Prop) (μ0:ae->Nat),I0 [.i 0,.i 0,.l (J 0).N (J 0).G,.i (((J 0).N:Nat):Int),.i 0]/\∀l0,I0 l0->((decide ((l0 0).Z=0))->(1<=1)/\let x0:ae:=[.i (l0 1).Z,.i (((l0 2).G (l0 4).Z.toNat) 0).Z];let x1:ae:=Qp x0;((x1 0).Z<=2)/\Ag I0 μ0 l0 [.i 1,.s 0 1,.i (x1 0).Z,.l (l0 2).N (l0 2).G,.i (l0 3).Z,.i 1,.l 1 (λi0=>[.i (((l0 2).G (l0 4).Z.toNat) 0).Z])])/\((decide ((l0 0).Z=0))=false->((decide ((l0 0).Z=1))->((decide ((l0 5).Z<(l0 4).Z))->((l0 5).Z<(((l0 3).N:Nat):Int))/\(((l0 2).Z==2)->((decide ((((l0 3).G (l0 5).Z.toNat) 0).Z<4))->(1<=1)/\((l0 1).O=0)/\((l0 1).N=(l0 6).N)/\(1<=1)/\(0=0)/\(((l0 1).N+1)=((l0 1).N+1))/\let x2:ae:=[.i 0,.i (((l0 3).G (l0 5).Z.toNat) 0).Z];let x3:ae:=Qp x2;((((l0 1).N+1)+1)<=65536)/\((x3 0).Z<=2)/\(((l0 5).Z+1)<=32768)/\((((l0 1).N+1)+1)<=65536)/\Ag I0 μ0 l0 [.i 1,.s 0 (((l0 1).N+1)+1),.i (x3 0).Z,.l (l0 3).N (l0 3).G,.i (l0 4).Z,.i ((l0 5).Z+1),.l (((l0 1).N+1)+1) (aE ((l0 1).N+1) (aE (l0 1).N (l0 6).G (λi0=>[.i 3])) (λi0=>[.i (((l0 3).G (l0 5).Z.toNat) 0).Z]))])/\((decide ((((l0 3).G (l0 5).Z.toNat) 0).Z<4))=false->(1<=1)/\((l0 1).O=0)/\((l0 1).N=(l0 6).N)/\let x4:ae:=[.i (l0 2).Z,.i (((l0 3).G (l0 5).Z.toNat) 0).Z];let x5:ae:=Qp x4;(((l0 1).N+1)<=65536)/\((x5 0).Z<=2)/\(((l0 5).Z+1)<=32768)/\(((l0 1).N+1)<=65536)/\Ag I0 μ0 l0 [.i 1,.s 0 ((l0 1).N+1),.i (x5 0).Z,.l (l0 3).N (l0 3).G,.i (l0 4).Z,.i ((l0 5).Z+1),.l ((l0 1).N+1) (aE (l0 1).N (l0 6).G (λi0=>[.i (((l0 3).G (l0 5).Z.toNat) 0).Z]))]))/\(((l0 2).Z==2)=false->(1<=1)/\((l0 1).O=0)/\((l0 1).N=(l0 6).N)/\let x4:ae:=[.i (l0 2).Z,.i (((l0 3).G (l0 5).Z.toNat) 0).Z];let x5:ae:=Qp x4;(((l0 1).N+1)<=65536)/\((x5 0).Z<=2)/\(((l0 5).Z+1)<=32768)/\(((l0 1).N+1)<=65536)/\Ag I0 μ0 l0 [.i 1,.s 0 ((l0 1).N+1),.i (x5 0).Z,.l (l0 3).N (l0 3).G,.i (l0 4).Z,.i ((l0 5).Z+1),.l ((l0 1).N+1) (aE (l0 1).N (l0 6).G (λi0=>[.i (((l0 3).G (l0 5).Z.toNat) 0).Z]))]))/\((decide ((l0 5).Z<(l0 4).Z))=false->(((l0 1).O+(l0 1).N)<=(l0 6).N)/\R [.i 0,.l (l0 1).N (λi0=>(l0 6).G ((l0 1).O+i0)),.i 0]))/\((decide ((l0 0).Z=1))=false-> False)))):=af
theorem KZ {J:ae} {i m:Nat} {z:Int} {G:Nat->ae} (e1:(es (cel (J 0).G) (i+1)).2.length=m) (e2:(es (cel (J 0).G) (i+1)).1=z):[.i 1,.s 0 m,.i z,.l (J 0).N (J 0).G,.i (((J 0).N:Nat):Int),.i ((i:Int)+1),.l m G]=Qo J (i+1) G:=by unfold Qo;rw[e1,e2];rfl
theorem Sx:PF1 ahR PC abn:=λJ b1 b2 hp=>⟨by
 rw[HG];dsimp only;obtain⟨⟨n1,n2,hc⟩,-⟩:=b1;have n1:1<=(J 0).N:=n1;have n2:(J 0).N<=32768:=n2;have hc:∀i,i<(J 0).N->0<=cel (J 0).G i/\cel (J 0).G i<=255:=λi hi=>(hc i hi).1;clear b2;have hz:((((J 0).N:Nat):Int)-1).toNat=(J 0).N-1:=ac;have hok:∀i,i<=(J 0).N->_:=λi hi=>LM (g:=cel (J 0).G) (i:=i) λj hj=>(hc j ac).1;refine⟨ac,λh=>?_,λ_=>⟨λl=>l=[.i 0,.i 0,.l (J 0).N (J 0).G,.i (((J 0).N:Nat):Int),.i 0]\/∃i G,1<=i/\i<=(J 0).N/\EsG G (es (cel (J 0).G) i).2/\l=Qo J i G,λl=>bif (l 0).Z==0 then(J 0).N+1 else(J 0).N-(l 5).Z.toNat,.inl rfl,λl hl=>?_⟩⟩
 .rw[hz]at h;exact absurd (eq_of_beq h) hp
 rcases hl with hl | ⟨i,G,i1,i2,hG,hl⟩
 .subst hl;obtain⟨k1,k2,k3⟩:=hok 1 n1;refine⟨λ_=>⟨afH,kmp k1.2,.inr ⟨1,λ_=>[.i (cel (J 0).G 0)],Nat.le_refl _,n1,λj hj=>?_,by show(_:ae)=_;kernel_rfl⟩,?_⟩,λh=>?_⟩
  .have hj:j<1:=kmp hj;have:j=0:=ac;subst this;show(_:Int)=_
   kernel_rfl
  .show(J 0).N-1<(J 0).N+1;omega
  .cases(show decide ((0:Int)=0)=false from h)
 .subst hl;refine⟨λh=>?_,λ_=>⟨λ_=>⟨λh=>?_,λh=>?_⟩,λh=>?_⟩⟩
  .cases(show decide ((1:Int)=0)=true from h)
  .have h:decide ((i:Int)<(((J 0).N:Nat):Int))=true:=kmp h;have h:=of_decide_eq_true h;have hi:i<(J 0).N:=ac;obtain⟨k1,k2,k3⟩:=hok i i2;obtain⟨q1,q2,q3⟩:=hok (i+1) hi;have ms:(J 0).N-((i:Int)+1).toNat<(J 0).N-((i:Int)).toNat:=ac;have hi3:(i:Int)+1<=32768:=ac;have gi:∀ {a:Prop},(cel (J 0).G i<4->a)->(decide ((((J 0).G i) 0).Z<4)->a):=λf e=>f (of_decide_eq_true e)
   have no:¬ ((es (cel (J 0).G) i).1=2/\cel (J 0).G i<4)->(es (cel (J 0).G) (i+1)).2.length=(es (cel (J 0).G) i).2.length+1/\(es (cel (J 0).G) (i+1)).1=(bif cel (J 0).G i==0 then(es (cel (J 0).G) i).1+1 else 0)/\EsG (aE (es (cel (J 0).G) i).2.length G λ_=>[.i (cel (J 0).G i)]) (es (cel (J 0).G) (i+1)).2:=λn=>by
    have e:es (cel (J 0).G) (i+1)=(bif cel (J 0).G i==0 then(es (cel (J 0).G) i).1+1 else 0,(es (cel (J 0).G) i).2++[cel (J 0).G i]):=if_neg n
    rw[e];exact⟨List.length_append,rfl,hG.add _⟩
   have step:¬ ((es (cel (J 0).G) i).1=2/\cel (J 0).G i<4)->∀(I:ae->Prop) (μ:ae->Nat),(∀i' G',1<=i'->i'<=(J 0).N->EsG G' (es (cel (J 0).G) i').2->I (Qo J i' G'))->(es (cel (J 0).G) i).2.length+1<=65536/\(bif cel (J 0).G i==0 then(es (cel (J 0).G) i).1+1 else 0)<=2/\I [.i 1,.s 0 ((es (cel (J 0).G) i).2.length+1),.i (bif cel (J 0).G i==0 then(es (cel (J 0).G) i).1+1 else 0),.l (J 0).N (J 0).G,.i (((J 0).N:Nat):Int),.i ((i:Int)+1),.l ((es (cel (J 0).G) i).2.length+1) (aE (es (cel (J 0).G) i).2.length G λ_=>[.i (cel (J 0).G i)])]:=λn I μ hI=>by obtain⟨e1,e2,e3⟩:=no n;rw[KZ e1 e2,<-e1,<-e2];exact⟨ac,q1.2,hI _ _ ac hi e3⟩
   refine⟨kmp h,λz=>⟨λc=>?_,λc=>?_⟩,λz=>?_⟩
   .have z:(es (cel (J 0).G) i).1=2:=eq_of_beq (kmp z);have c:cel (J 0).G i<4:=of_decide_eq_true (kmp c);have e:es (cel (J 0).G) (i+1)=(bif cel (J 0).G i==0 then 1 else 0,(es (cel (J 0).G) i).2++[3,cel (J 0).G i]):=if_pos ⟨z,c⟩
    have eL:(es (cel (J 0).G) i).2++[3,cel (J 0).G i]=((es (cel (J 0).G) i).2++[3])++[cel (J 0).G i]:=by simp
    have e1:(es (cel (J 0).G) (i+1)).2.length=(es (cel (J 0).G) i).2.length+1+1:=by rw[e];simp
    have e2:(es (cel (J 0).G) (i+1)).1=(bif cel (J 0).G i==0 then 1 else 0):=by rw[e]
    have e3:EsG (aE ((es (cel (J 0).G) i).2.length+1) (aE (es (cel (J 0).G) i).2.length G λ_=>[.i 3]) λ_=>[.i (cel (J 0).G i)]) (es (cel (J 0).G) (i+1)).2:=by rw[e,eL];have:=(hG.add 3).add (cel (J 0).G i);rw[List.length_append]at this;exact this
    have l2:(es (cel (J 0).G) i).2.length+1+1<=65536:=ac;have z2:(bif cel (J 0).G i==0 then(1:Int)else 0)<=2:=by rw[<-e2];exact q1.2
    refine⟨afH,rfl,rfl,afH,rfl,rfl,kmp l2,kmp z2,kmp hi3,kmp l2,.inr ⟨i+1,_,ac,hi,e3,?_⟩,kmp ms⟩;have:=KZ (G:=aE ((es (cel (J 0).G) i).2.length+1) (aE (es (cel (J 0).G) i).2.length G λ_=>[.i 3]) λ_=>[.i (cel (J 0).G i)]) e1 e2;rw[<-this];show(_:ae)=_
    kernel_rfl
   .have c:¬ cel (J 0).G i<4:=of_decide_eq_false (kmp c);obtain⟨s1,s2,s3⟩:=step (λk=>c k.2) (λl=>l=[.i 0,.i 0,.l (J 0).N (J 0).G,.i (((J 0).N:Nat):Int),.i 0]\/∃i G,1<=i/\i<=(J 0).N/\EsG G (es (cel (J 0).G) i).2/\l=Qo J i G) (λ_=>0) λi' G' h1 h2 h3=>.inr ⟨i',G',h1,h2,h3,rfl⟩;exact⟨afH,rfl,rfl,kmp s1,kmp s2,kmp hi3,kmp s1,kmp s3,kmp ms⟩
   .have z:¬ (es (cel (J 0).G) i).1=2:=ne_of_beq_false (kmp z);obtain⟨s1,s2,s3⟩:=step (λk=>z k.1) (λl=>l=[.i 0,.i 0,.l (J 0).N (J 0).G,.i (((J 0).N:Nat):Int),.i 0]\/∃i G,1<=i/\i<=(J 0).N/\EsG G (es (cel (J 0).G) i).2/\l=Qo J i G) (λ_=>0) λi' G' h1 h2 h3=>.inr ⟨i',G',h1,h2,h3,rfl⟩;exact⟨afH,rfl,rfl,kmp s1,kmp s2,kmp hi3,kmp s1,kmp s3,kmp ms⟩
  .have h:decide ((i:Int)<(((J 0).N:Nat):Int))=false:=kmp h;have h:=of_decide_eq_false h;have hi:i=(J 0).N:=ac;subst hi;refine⟨kmp (Nat.le_of_eq (Nat.zero_add (es (cel (J 0).G) (J 0).N).2.length)),rfl,⟨aL rfl λj hj=>?_,(by show(_:Int)=_;kernel_rfl),ah⟩,ah⟩
   show cel G (0+j)=_;rw[Nat.zero_add];exact hG j hj
  .cases(show decide ((1:Int)=1)=false from h)⟩
abbrev adY:CT:=C1 ahR PC abn
theorem UC:CO adY:=CX1 (TX ⟨WH,ah⟩ (FK ah)) Sx
end
end Go.Proofs.YtldmjbgplgoedaaGreatDoor
namespace Go.Proofs.YtldmjbgplgoedaaGreatDoor
noncomputable section
open Go.RowKit U
theorem pP {l:ae} {o:Nat} {c:Cd} (h:pre 3 (tls o l)=wrC z0 0 c):WrH l o z0 0 c:=WrH.of ng h
theorem VE {a:ae} {c:Cd} {v:Int} {w:Nat} (h:WrH a 2 z0 0 c) (e0:(a 0).Z=v) (e1:(a 1).Z=(w:Int)) (hv:v / pw (w:Int)=0) (hm:cdN c+w<=8000000):jA a/\jc a=.i 0::wrC z0 0 (c++[(v,w)]):=by unfold jA jc;rw[e0,e1,Int.toNat_natCast,h.add ng];exact⟨⟨hv,h.toP ng ac⟩,rfl⟩
def fU (b:Bool):Int:=bif b then 1 else 0
theorem iJ (b:Bool):fU b / pw (1:Nat)=0:=by cases b<;>rfl
def yU (J:ae):Prop:=(J 0).Z / pw (J 1).Z=0
def vo (J:ae):ae:=.i 0::wrC z0 0 [((J 0).Z,(J 1).Z.toNat)]
abbrev NJ:List AT:=[tXO (.nP 0 0),tXO (.nI .u32 0 4294967295 0),aj 1 32]
abbrev V6:List AB:=[.run 349 ad3]
abbrev PL:Wy:=⟨[aD 0 0],[.run 349 Qh,.dyn 5 0 0 1000000 0 g0 false]⟩
abbrev Aj:CT:=CS 182 NJ V6 PL yU vo
theorem xe (J:ae) (R:ae->Prop):apR vL (au NJ J) (an V6 (tls (aG NJ) J)) PL R=(let aputN84791:ae:=[.i (J 0).Z,.i (J 1).Z,.i (J 2).Z];((Jd aputN84791)->
 (iy aputN84791)/\let rputN84791:ae:=iw aputN84791;False) /\
((Jd aputN84791)=false -> (g8 aputN84791)/\let rputN84791:ae:=fK aputN84791;R [.i 0,.i (rputN84791 0).Z,.s (rputN84791 1).O (rputN84791 1).N,.i (rputN84791 2).Z,.l (rputN84791 3).N (rputN84791 3).G])):=af
theorem nq:cV KX Tryz.prog GX Aj:=lH putN_ct.call λJ b1 hp=>by obtain⟨-,-,⟨w1,-⟩,-⟩:=b1;have w1:1<=(J 1).Z:=w1;refine⟨vL,putN_ct,rfl,bD (R:=λl=>(hd l).Z=0/\agW KX PL (tl l) (vo J)) ?_⟩;rw[xe];refine⟨λh=>?_,λ_=>⟨hp,aT rfl af⟩⟩;have h:decide ((J 1).Z=0)=true:=kmp h;have:=of_decide_eq_true h;omega
def JD (J:ae):Prop:=WrP J 1 1
def BA (J:ae):ae:=wrA J 1 [(fU (J 0).X,1)]
abbrev Oh:SP:=mkS ⟨[],[.run 349 nu,.dead,.dyn 5 0 0 1000000 0 g0 false]⟩ 285 Tryz.f285 [tXO (.nP 0 0),aN] [.run 349 Qh,.dyn 5 0 0 1000000 0 g0 false] [] [yc] [] (.tT []) [1]
theorem Ei J R:TR Oh J R (((J 0).X->let x0:ae:=(ak [.i 1,.i 1] (cw J 1 3 269));(jA x0)/\let x1:ae:=jc x0;R (ak [.i 0] (cw x1 1 3 269)))/\((J 0).X=false-> let x2:ae:=(ak [.i 0,.i 1] (cw J 1 3 269));(jA x2)/\let x3:ae:=jc x2;R (ak [.i 0] (cw x3 1 3 269)))):=af
theorem Tq:PF1 Oh JD BA:=λJ _ _ hp=>⟨by
 rw[Ei];dsimp only;unfold BA;refine⟨λh=>⟨⟨iJ true,kmp hp⟩,?_⟩,λh=>⟨⟨iJ false,kmp hp⟩,?_⟩⟩
 .rw[h];exact aT rfl af
 .rw[h];exact aT rfl af⟩
abbrev YW:CT:=C1 Oh JD BA
theorem zN:CO YW:=CX1 (TX ⟨gx,ah⟩ ah) Tq
def G3 (J:ae):ae:=wrC z0 0 [(fU (J 0).X,1)]
abbrev xr:SP:=mkS ⟨[],[.run 349 Qh,.dyn 5 0 0 1000000 0 g0 false]⟩ 285 Tryz.f285 [tXO (.nP 0 0),aN] [.run 349 ad3] [] [yc,Aj]
theorem xL J R:TR xr J R (((J 0).X->let x0:ae:=[.i 1,.i 1,.i (J 1).Z];(yU x0)/\let x1:ae:=vo x0;R (ak [.i 0] (cw x1 1 3 269)))/\((J 0).X=false-> let x2:ae:=[.i 0,.i 1,.i (J 1).Z];(yU x2)/\let x3:ae:=vo x2;R (ak [.i 0] (cw x3 1 3 269)))):=af
theorem MO:PF0 xr G3:=λJ _ _=>⟨by
 rw[xL];dsimp only;unfold G3;refine⟨λh=>⟨iJ true,?_⟩,λh=>⟨iJ false,?_⟩⟩
 .rw[h];exact aT rfl af
 .rw[h];exact aT rfl af⟩
abbrev Bl:CT:=C0 xr G3
theorem rI:CO Bl:=CX0 (TX ⟨gx,nq,ah⟩ ah) MO
theorem Xf {a:ae} {c:Cd} {b:Bool} (h:WrH a 1 z0 0 c) (e0:(a 0).X=b) (hm:cdN c+1<=8000000):JD a/\BA a=wrC z0 0 (c++[(fU b,1)]):=by unfold JD BA;rw[e0,h.add ng];exact⟨h.toP ng ac,rfl⟩
theorem Xm {a:ae} {c:Cd} (h:WrH a 0 z0 0 c) (hm:cdN c<=8000000):KH a/\wi a=pyL c:=by refine⟨h.toP ng ac,?_⟩;unfold wi pyL;rw[h.Z,ap];have:aR (a 2).G=aR (a 2).G:=rfl;rw[Km (B:=aR (a 2).G) (B':=cdB z0 0 c) λp hp=>n8 (d8 ng) h.P hp]
theorem yp {B:Nat->Int} (hB:Bit B) {n:Nat}:cel (K8 B n) (n / 8)≠0:=λh=>by
 have q:=dO (B:=gV B n 1 1) (fP hB) (n:=n+1) (p:=n) ac;have e:aR (ch (gV B n 1 1) (n+1)) n=cel (K8 B n) (n / 8) / 2 ^ (7-n % 8) % 2:=rfl;rw[e,h,Int.zero_ediv]at q
 have:gV B n 1 1 n=1:=by
  unfold gV;rw[if_neg ac,show n+1-1-n=0 by omega]
  rfl
 rw[this]at q;cases q
theorem mZ (c:Cd):PC (pyL c):=by show cel (K8 (cdB z0 0 c) (0+cdN c)) ((0+cdN c) / 8+1-1)≠0;rw[Nat.add_sub_cancel];exact yp (d8 ng)
def acK (t:Int) (E:List Int):List Int:=[0,0,1,t]++E
def QA (J:ae):Prop:=PC [.l (J 1).N (J 1).G]
def aaM (J:ae):List Int:=acK (J 0).Z (Pm [.l (J 1).N (J 1).G])
def ze (J:ae):Nat:=4+(Pm [.l (J 1).N (J 1).G]).length
def KL (J:ae):ae:=[.s 0 (ze J),.i 0,.l (ze J) (rz λj=>(aaM J).getD j 0)]
abbrev PY:SP:=mkS ⟨[.sO (.nD 0 0 5 65540 0 0),aD 0 0],[.dyn 5 0 5 65540 0 g0 false]⟩ 211 Tryz.f211 [.tX (.sA [am 1 255,.c (.nR 0 1 32768 0 g0)])] [] [] [adY] [] (.tA)
theorem Cj J R:TR PY J R (let x0:ae:=[.l (J 1).N (J 1).G];(PC x0)/\let x1:ae:=abn x0;(0=0)/\(4=4)/\R [.i 0,.s 0 (4+(x1 0).N),.i 0,.l (4+(x1 0).N) (aE 4 (AP [[.i 0],[.i 0],[.i 1],[.i (J 0).Z]]) (x1 0).G)]):=af
theorem RS:PF1 PY QA KL:=λJ _ _ hp=>⟨by
 rw[Cj];dsimp only;refine⟨hp,rfl,rfl,rfl,⟨⟨rfl,rfl⟩,(by show(_:Int)=_;kernel_rfl),ah⟩,pI rfl λj hj=>?_,ah⟩
 have hj:j<4+(Pm [.l (J 1).N (J 1).G]).length:=hj;show cel (aE 4 (AP [[.i 0],[.i 0],[.i 1],[.i (J 0).Z]]) (rz λj=>(Pm [.l (J 1).N (J 1).G]).getD j 0)) j=(aaM J).getD j 0;unfold aaM acK
 by_cases h4:j<4
 .rcases(show j=0\/j=1\/j=2\/j=3 by omega)with rfl | rfl | rfl | rfl<;>rfl
 .obtain⟨k,rfl⟩:∃k,j=k+4:=⟨j-4,ac⟩;show(at_ (if k+4<4 then AP [[.i 0],[.i 0],[.i 1],[.i (J 0).Z]] (k+4)else rz (λj=>(Pm [.l (J 1).N (J 1).G]).getD j 0) (k+4-4)) 0).Z=_
  rw[if_neg h4,Nat.add_sub_cancel];rfl⟩
abbrev acz:CT:=C1 PY QA KL
theorem IZ:CO acz:=CX1 (TX ⟨UC,ah⟩ ah) RS
theorem kG {J:ae} (h:∀i,i<(J 1).N->0<=cel (J 1).G i):ze J<=4+2*(J 1).N:=by have:=(LM (g:=cel (J 1).G) (i:=(J 1).N) h).2.2;show 4+(es (cel (J 1).G) (J 1).N).2.length<=_;omega
end
end Go.Proofs.YtldmjbgplgoedaaGreatDoor
