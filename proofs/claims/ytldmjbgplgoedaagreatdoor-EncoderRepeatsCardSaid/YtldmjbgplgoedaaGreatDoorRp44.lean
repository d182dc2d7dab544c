import Derived.Test.YtldmjbgplgoedaaGreatDoorRp43
set_option linter.all false
namespace Go.Proofs.YtldmjbgplgoedaaGreatDoor
noncomputable section
open Go.RowKit U
def adS (J:ae):Nat:=(J 0).Z.toNat
def kg (J:ae):Int:=(((J 30).G (adS J)) 0).Z
def eE (J:ae):ae:=cZ ((J 29).G (adS J))
def adM (J:ae) (st:Int) (sec:Bool):ae:=[.i (kg J),.i st,.i ((J 0).Z-(J 43).Z),.b (J 27).X,.b false,.b (J 26).X,.b sec]
def pL (J:ae) (st:Int) (f:ae):ae:=ak (adM J st false) (ak (cZ f) (cw J 1 45 k24))
def Qg (J:ae) (st:Int) (f r:ae):ae:=ak (adM J st true) (ak (cZ f) (ak [.i (J 1).Z,.i (J 2).Z,.l (J 3).N (J 3).G,.l (J 4).N (J 4).G,.l (J 5).N (J 5).G,.i (J 6).Z,.i (J 7).Z,.l (J 8).N (J 8).G,.l (J 9).N (J 9).G,.l (J 10).N (J 10).G] (ak (cw r 0 33 k28) [.l (r 34).N (r 34).G,.l (r 33).N (r 33).G])))
def vU (J:ae) (p:Int):ae:=dP (ak (eE J) [.i p])
def zu (J:ae) (p:Int):ae:=oJ (pL J (1+p) (vU J p))
def Jz (J:ae) (p:Int):ae:=oJ (Qg J (2-p) (vU J (1-p)) (zu J p))
def N5 (J:ae) (p:Int):ae:=bif p==0 then ak (cZ (zu J p)) (cZ (Jz J p))else ak (cZ (Jz J p)) (cZ (zu J p))
def Mp (J:ae) (p:Int):ae:=ak (cZ (rM (N5 J p))) (cw (Jz J p) 5 30 k19)
def rp (J:ae):ae:=bif (J 25).X then(bif (J 27).X then Mp J 0 else Mp J 1)else cw (oJ (pL J 3 (eE J))) 0 35 k14
structure BP (J:ae) (p:Int):Prop where
 a:dp (ak (eE J) [.i p])
 b:dp (ak (eE J) [.i (1-p)])
 c:uC (pL J (1+p) (vU J p))
 d:uC (Qg J (2-p) (vU J (1-p)) (zu J p))
 e:wk (N5 J p)
structure Rm (J:ae):Prop where
 n:(J 0).Z<(((J 29).N:Nat):Int)/\(J 30).N=(J 29).N
 ty:1<=kg J/\kg J<=3
 od:0<=(J 0).Z-(J 43).Z
 F:(2<=((eE J) 0).Z/\((eE J) 0).Z<=64)/\(2<=((eE J) 1).Z/\((eE J) 1).Z<=64)/\(1<=((eE J) 2).N/\((eE J) 2).N<=4096)/\(1<=((eE J) 3).N/\((eE J) 3).N<=1024)/\(1<=((eE J) 4).N/\((eE J) 4).N<=1024)
 one:(J 25).X=false->uC (pL J 3 (eE J))
 two:(J 25).X->BP J (bif (J 27).X then 0 else 1)
abbrev My:SP:=mkS ⟨[.sA sFF],[.run 136 qL7,.dead,.dyn 31 5 1 6 0 g0 false,.dyn 76 7 1 40 0 g0 false]⟩ 60 Tryz.f60 [tXO (.nP 0 0),aj 0 5,.tX (.sA ZO)] [.run 136 qL8,.dyn 76 7 1 40 0 g0 false,.dyn 31 5 1 6 0 g0 false] [] [acN,qX,aa7] [(aw 93 Tryz.f93)] (.tX (.sA sFF)) [1]
theorem BV J R:TR My J R (((J 0).Z<(((J 30).N:Nat):Int))/\((!(J 25).X)->((J 0).Z<(((J 29).N:Nat):Int))/\(1<=(((J 30).G (J 0).Z.toNat) 0).Z)/\((((J 30).G (J 0).Z.toNat) 0).Z<=3)/\(0<=((J 0).Z-(J 43).Z))/\(2<=(((J 29).G (J 0).Z.toNat) 0).Z)/\((((J 29).G (J 0).Z.toNat) 0).Z<=64)/\(2<=(((J 29).G (J 0).Z.toNat) 1).Z)/\((((J 29).G (J 0).Z.toNat) 1).Z<=64)/\(1<=(((J 29).G (J 0).Z.toNat) 2).N)/\((((J 29).G (J 0).Z.toNat) 2).N<=4096)/\(1<=(((J 29).G (J 0).Z.toNat) 3).N)/\((((J 29).G (J 0).Z.toNat) 3).N<=1024)/\(1<=(((J 29).G (J 0).Z.toNat) 4).N)/\((((J 29).G (J 0).Z.toNat) 4).N<=1024)/\LET ((ak (ak [.i (((J 30).G (J 0).Z.toNat) 0).Z,.i 3,.i ((J 0).Z-(J 43).Z),.b (J 27).X,.b false,.b (J 26).X,.b false] (cw ((J 29).G (J 0).Z.toNat) 0 5 18697)) (cw J 1 45 k24))) λx0=>(uC x0)/\LET (oJ x0) λx1=>R (ak [.i 0] (cw x1 0 35 k14)))/\((!(J 25).X)=false->((!(J 27).X)->((J 0).Z<(((J 29).N:Nat):Int))/\(2<=(((J 29).G (J 0).Z.toNat) 0).Z)/\((((J 29).G (J 0).Z.toNat) 0).Z<=64)/\(2<=(((J 29).G (J 0).Z.toNat) 1).Z)/\((((J 29).G (J 0).Z.toNat) 1).Z<=64)/\(1<=(((J 29).G (J 0).Z.toNat) 2).N)/\((((J 29).G (J 0).Z.toNat) 2).N<=4096)/\(1<=(((J 29).G (J 0).Z.toNat) 3).N)/\((((J 29).G (J 0).Z.toNat) 3).N<=1024)/\(1<=(((J 29).G (J 0).Z.toNat) 4).N)/\((((J 29).G (J 0).Z.toNat) 4).N<=1024)/\LET ((ak (cw ((J 29).G (J 0).Z.toNat) 0 5 18697) [.i 1])) λx2=>(dp x2)/\LET (dP x2) λx3=>(1<=(((J 30).G (J 0).Z.toNat) 0).Z)/\((((J 30).G (J 0).Z.toNat) 0).Z<=3)/\(0<=((J 0).Z-(J 43).Z))/\LET ((ak (ak [.i (((J 30).G (J 0).Z.toNat) 0).Z,.i 2,.i ((J 0).Z-(J 43).Z),.b (J 27).X,.b false,.b (J 26).X,.b false] (cw x3 0 5 18697)) (cw J 1 45 k24))) λx4=>(uC x4)/\LET (oJ x4) λx5=>((J 0).Z<(((x5 18).N:Nat):Int))/\(2<=(((x5 18).G (J 0).Z.toNat) 0).Z)/\((((x5 18).G (J 0).Z.toNat) 0).Z<=64)/\(2<=(((x5 18).G (J 0).Z.toNat) 1).Z)/\((((x5 18).G (J 0).Z.toNat) 1).Z<=64)/\(1<=(((x5 18).G (J 0).Z.toNat) 2).N)/\((((x5 18).G (J 0).Z.toNat) 2).N<=4096)/\(1<=(((x5 18).G (J 0).Z.toNat) 3).N)/\((((x5 18).G (J 0).Z.toNat) 3).N<=1024)/\(1<=(((x5 18).G (J 0).Z.toNat) 4).N)/\((((x5 18).G (J 0).Z.toNat) 4).N<=1024)/\LET ((ak (cw ((x5 18).G (J 0).Z.toNat) 0 5 18697) [.i 0])) λx6=>(dp x6)/\LET (dP x6) λx7=>(1<=(((J 30).G (J 0).Z.toNat) 0).Z)/\((((J 30).G (J 0).Z.toNat) 0).Z<=3)/\(0<=((J 0).Z-(J 43).Z))/\LET ((ak (ak [.i (((J 30).G (J 0).Z.toNat) 0).Z,.i 1,.i ((J 0).Z-(J 43).Z),.b (J 27).X,.b false,.b (J 26).X,.b true] (ak (cw x7 0 5 18697) (cw J 1 10 612681993))) (ak (cw x5 0 33 k28) [.l (x5 34).N (x5 34).G,.l (x5 33).N (x5 33).G]))) λx8=>(uC x8)/\LET (oJ x8) λx9=>LET ((ak (cw x9 0 5 18697) (cw x5 0 5 18697))) λx10=>(wk x10)/\LET (rM x10) λx11=>R (ak (ak [.i 0] (cw x11 0 5 18697)) (cw x9 5 30 k19)))/\((!(J 27).X)=false-> ((J 0).Z<(((J 29).N:Nat):Int))/\(2<=(((J 29).G (J 0).Z.toNat) 0).Z)/\((((J 29).G (J 0).Z.toNat) 0).Z<=64)/\(2<=(((J 29).G (J 0).Z.toNat) 1).Z)/\((((J 29).G (J 0).Z.toNat) 1).Z<=64)/\(1<=(((J 29).G (J 0).Z.toNat) 2).N)/\((((J 29).G (J 0).Z.toNat) 2).N<=4096)/\(1<=(((J 29).G (J 0).Z.toNat) 3).N)/\((((J 29).G (J 0).Z.toNat) 3).N<=1024)/\(1<=(((J 29).G (J 0).Z.toNat) 4).N)/\((((J 29).G (J 0).Z.toNat) 4).N<=1024)/\LET ((ak (cw ((J 29).G (J 0).Z.toNat) 0 5 18697) [.i 0])) λx12=>(dp x12)/\LET (dP x12) λx13=>(1<=(((J 30).G (J 0).Z.toNat) 0).Z)/\((((J 30).G (J 0).Z.toNat) 0).Z<=3)/\(0<=((J 0).Z-(J 43).Z))/\LET ((ak (ak [.i (((J 30).G (J 0).Z.toNat) 0).Z,.i 1,.i ((J 0).Z-(J 43).Z),.b (J 27).X,.b false,.b (J 26).X,.b false] (cw x13 0 5 18697)) (cw J 1 45 k24))) λx14=>(uC x14)/\LET (oJ x14) λx15=>((J 0).Z<(((x15 18).N:Nat):Int))/\(2<=(((x15 18).G (J 0).Z.toNat) 0).Z)/\((((x15 18).G (J 0).Z.toNat) 0).Z<=64)/\(2<=(((x15 18).G (J 0).Z.toNat) 1).Z)/\((((x15 18).G (J 0).Z.toNat) 1).Z<=64)/\(1<=(((x15 18).G (J 0).Z.toNat) 2).N)/\((((x15 18).G (J 0).Z.toNat) 2).N<=4096)/\(1<=(((x15 18).G (J 0).Z.toNat) 3).N)/\((((x15 18).G (J 0).Z.toNat) 3).N<=1024)/\(1<=(((x15 18).G (J 0).Z.toNat) 4).N)/\((((x15 18).G (J 0).Z.toNat) 4).N<=1024)/\LET ((ak (cw ((x15 18).G (J 0).Z.toNat) 0 5 18697) [.i 1])) λx16=>(dp x16)/\LET (dP x16) λx17=>(1<=(((J 30).G (J 0).Z.toNat) 0).Z)/\((((J 30).G (J 0).Z.toNat) 0).Z<=3)/\(0<=((J 0).Z-(J 43).Z))/\LET ((ak (ak [.i (((J 30).G (J 0).Z.toNat) 0).Z,.i 2,.i ((J 0).Z-(J 43).Z),.b (J 27).X,.b false,.b (J 26).X,.b true] (ak (cw x17 0 5 18697) (cw J 1 10 612681993))) (ak (cw x15 0 33 k28) [.l (x15 34).N (x15 34).G,.l (x15 33).N (x15 33).G]))) λx18=>(uC x18)/\LET (oJ x18) λx19=>LET ((ak (cw x15 0 5 18697) (cw x19 0 5 18697))) λx20=>(wk x20)/\LET (rM x20) λx21=>R (ak (ak [.i 0] (cw x21 0 5 18697)) (cw x19 5 30 k19))))):=af
theorem Uy:PF1 My Rm rp:=λJ _ _ hp=>⟨by
 rw[BV];obtain⟨n1,n2⟩:=hp.n;have n2':(J 0).Z<(((J 30).N:Nat):Int):=by rw[n2];exact n1
 obtain⟨t1,t2⟩:=hp.ty;obtain⟨⟨f0,f0'⟩,⟨f1,f1'⟩,⟨f2,f2'⟩,⟨f3,f3'⟩,f4,f4'⟩:=hp.F;have od:=hp.od;refine⟨n2',λh=>?_,λh=>⟨λh2=>?_,λh2=>?_⟩⟩
 .have h:(J 25).X=false:=by simpa using h
  rw[show rp J=cw (oJ (pL J 3 (eE J))) 0 35 k14 from A8 h _ _];exact⟨n1,t1,t2,od,f0,f0',f1,f1',f2,f2',f3,f3',f4,f4',aH rfl ⟨kmp (hp.one h),aH rfl (aT rfl af)⟩⟩
 .have h:(J 25).X=true:=by simpa using h
  have h2:(J 27).X=false:=by simpa using h2
  have q:=hp.two h;rw[h2]at q;obtain⟨a,b,c,d,e⟩:=(q:BP J 1);rw[show rp J=Mp J 1 by unfold rp;rw[h,h2];rfl]
  exact⟨n1,f0,f0',f1,f1',f2,f2',f3,f3',f4,f4',aH rfl ⟨kmp a,aH rfl ⟨t1,t2,od,aH rfl ⟨kmp c,aH rfl ⟨kmp n1,kmp f0,kmp f0',kmp f1,kmp f1',kmp f2,kmp f2',kmp f3,kmp f3',kmp f4,kmp f4',aH rfl ⟨kmp b,aH rfl ⟨t1,t2,od,aH rfl ⟨kmp d,aH rfl (aH rfl ⟨kmp e,aH rfl (aT rfl af)⟩)⟩⟩⟩⟩⟩⟩⟩⟩
 .have h:(J 25).X=true:=by simpa using h
  have h2:(J 27).X=true:=by simpa using h2
  have q:=hp.two h;rw[h2]at q;obtain⟨a,b,c,d,e⟩:=(q:BP J 0);rw[show rp J=Mp J 0 by unfold rp;rw[h,h2];rfl]
  exact⟨n1,f0,f0',f1,f1',f2,f2',f3,f3',f4,f4',aH rfl ⟨kmp a,aH rfl ⟨t1,t2,od,aH rfl ⟨kmp c,aH rfl ⟨kmp n1,kmp f0,kmp f0',kmp f1,kmp f1',kmp f2,kmp f2',kmp f3,kmp f3',kmp f4,kmp f4',aH rfl ⟨kmp b,aH rfl ⟨t1,t2,od,aH rfl ⟨kmp d,aH rfl (aH rfl ⟨kmp e,aH rfl (aT rfl af)⟩)⟩⟩⟩⟩⟩⟩⟩⟩⟩
abbrev aej:CT:=C1 My Rm rp
theorem Ri:CO aej:=CX1 (TX ⟨Rd,dh,Lm,ah⟩ (FK ah)) Uy
end
end Go.Proofs.YtldmjbgplgoedaaGreatDoor
namespace Go.Proofs.YtldmjbgplgoedaaGreatDoor
noncomputable section
open Go.RowKit U
structure MfA (J:ae) (k c:Nat):Prop where
 vs:vsB J 16=true
 opt:(J 20).X=true\/((J 25).X=false/\(J 27).X=true)
 n:0<=(J 0).Z/\(J 0).Z<(((J 29).N:Nat):Int)/\(J 30).N=(J 29).N
 fr:Fm (eE J) 0 (J 16).Z (J 17).Z
 ty:1<=kg J/\kg J<=3
 od:0<=(J 0).Z-(J 43).Z/\(J 0).Z-(J 43).Z<=1023
 it:(J 31).O=0/\(J 31).N=(J 44).N
 its:ItS (J 44).N (J 44).G k c
 k:k+2<=40
 r1:(J 1).Z=0\/Fm J 1 (J 16).Z (J 17).Z
 r2:(J 6).Z=0\/Fm J 6 (J 16).Z (J 17).Z
 r3:(J 11).Z=0
 n1:kg J≠1->(J 1).Z≠0
 n2:kg J=3->(J 6).Z≠0
def mfO (J f:ae) (m:Nat) (g:Nat->ae):ae:=ak (cZ f) (ak (cw J 16 15 k23) (ak [.s 0 m] (ak (cw J 32 12 13491390541) [.l (J 45).N (J 45).G,.l m g])))
theorem aay {J:ae} {o:Nat} (h:vsB J o=true):VS (J o).Z (J (o+1)).Z (J (o+2)).Z (J (o+3)).Z (J (o+4)).X (J (o+5)).Z (J (o+6)).Z (J (o+7)).F (J (o+8)).F:=of_decide_eq_true h
theorem tj {W H:Int} {a b c:Nat} (h:fmB W H a b c=true):(2<=W/\W<=64)/\(2<=H/\H<=64)/\(1<=a/\a<=4096)/\(1<=b/\b<=1024)/\1<=c/\c<=1024:=by
 obtain⟨p1,p2,p3,p4,p5⟩:=ql h;obtain⟨w,k,rfl,rfl,l1,l2,l3,l4,rfl,rfl,rfl⟩:=dN h;have q:w*k<=32*32:=Nat.mul_le_mul l2 l4;have e:2*w*(2*k)=4*(w*k):=by rw[Nat.mul_mul_mul_comm]
 rw[e]at p3 ⊢;omega
theorem Ml {A:ae} {W H:Int} (h:fmB (A 0).Z (A 1).Z (A 2).N (A 3).N (A 4).N=true) (h0:(A 0).Z=W) (h1:(A 1).Z=H) (hH:H<=32):Fm (rM A) 0 W (2*H):=by
 obtain⟨w,k,e1,e2,l1,l2,l3,l4,-,-,-⟩:=dN h;rw[h0]at e1;rw[h1]at e2;show fmB (((A 0).Z.toNat:Nat):Int) ((2*(A 1).Z.toNat:Nat):Int) ((A 0).Z.toNat*(2*(A 1).Z.toNat)) ((A 0).Z.toNat / 2*(A 1).Z.toNat) ((A 0).Z.toNat / 2*(A 1).Z.toNat)=true/\(((A 0).Z.toNat:Nat):Int)=W/\((2*(A 1).Z.toNat:Nat):Int)=2*H;rw[h0,h1];subst e1 e2;rw[Int.toNat_natCast,Int.toNat_natCast,show 2*w / 2=w by omega]
 exact⟨wP l1 l2 ac ac,rfl,ac⟩
theorem KI {A:ae} {W H:Int} (h1:Fm A 0 W H) (h2:Fm A 5 W H) (hH:H<=32):wk A/\Fm (rM A) 0 W (2*H):=by
 obtain⟨a,a0,a1⟩:=h1;obtain⟨b,b0,b1⟩:=h2;have a0:(A 0).Z=W:=a0;have a1:(A 1).Z=H:=a1;have b0:(A 5).Z=W:=b0;have b1:(A 6).Z=H:=b1;refine⟨⟨a,kmp b,by rw[a0,b0],by rw[a1,b1],by rw[a1];exact hH⟩,?_⟩
 exact Ml a a0 a1 hH
theorem ag3 {J:ae} {k c:Nat} (h:MfA J k c):Rm J/\∃f m g,rp J=mfO J f m g/\Fm f 0 (J 16).Z (J 17).Z/\ItS m g (k+2) (c+98444):=by
 have v:=aay h.vs;obtain⟨w1,w2,w3⟩:=v.hW;obtain⟨h1,h2,h3⟩:=v.hH;have w1:16<=(J 16).Z:=w1;have w2:(J 16).Z<=64:=w2;have h1:16<=(J 17).Z:=h1;have h2:(J 17).Z<=64:=h2;obtain⟨nn,n1,n2⟩:=h.n;obtain⟨t1,t2⟩:=h.ty;obtain⟨d1,d2⟩:=h.od;obtain⟨i1,i2⟩:=h.it;have hk:=h.k;obtain⟨kN,-,-⟩:=h.its;have cv:∀st:Int,1<=st->st<=3->decide ((0<=(J 0).Z-(J 43).Z/\(J 0).Z-(J 43).Z<=1023)/\(1<=kg J/\kg J<=3)/\1<=st/\st<=3)=true:=λst a b=>decide_eq_true ⟨⟨d1,d2⟩,⟨t1,t2⟩,a,b⟩;obtain⟨ff,e0,e1⟩:=h.fr;have hF:(2<=((eE J) 0).Z/\((eE J) 0).Z<=64)/\(2<=((eE J) 1).Z/\((eE J) 1).Z<=64)/\(1<=((eE J) 2).N/\((eE J) 2).N<=4096)/\(1<=((eE J) 3).N/\((eE J) 3).N<=1024)/\(1<=((eE J) 4).N/\((eE J) 4).N<=1024):=tj ff
 have one:(J 25).X=false->PcA (pL J 3 (eE J)):=λhf=>⟨kmp h.vs,kmp (cv 3 afH afH),by
  rcases h.opt with o | ⟨-,o⟩
  .exact .inl (kmp o)
  .exact .inr ⟨af,kmp o,af⟩,λe=>(by cases(show false=true from e)),kmp h.fr,kmp h.r1,kmp h.r2,.inl (kmp h.r3),kmp h.n1,kmp h.n2,λ_ e=>(by cases(show false=true from e))⟩
 have pone:(J 25).X=false->uC (pL J 3 (eE J)):=λhf=>⟨(uw (one hf)).1,kmp i1,kmp i2,by have:(J 31).N+1<=40:=ac;exact kmp this⟩
 have two:(J 25).X->∀p:Int,p=0\/p=1->BP J p/\∃f m g,Mp J p=mfO J f m g/\Fm f 0 (J 16).Z (J 17).Z/\ItS m g (k+2) (c+98444):=λhf p hp=>by
  have il:(J 20).X=true:=by
   rcases h.opt with o | ⟨o,-⟩
   .exact o
   .rw[hf]at o;cases o
  have h32:(J 17).Z % 32=0:=v.hil il;have hfr:∀q,Fm (ak (eE J) [.i q]) 0 (J 16).Z (J 17).Z:=λq=>kmp h.fr
  have hfie:∀q,dp (ak (eE J) [.i q])/\Fm (vU J q) 0 (J 16).Z ((J 17).Z / 2):=λq=>by refine⟨⟨(hfr q).1,?_⟩,zI (hfr q) ac⟩;have:=(hfr q).2.2;have:((ak (eE J) [.i q]) 1).Z=(J 17).Z:=this;rw[this];omega
  have hst:1<=1+p/\1+p<=3/\1+p≠3/\1<=2-p/\2-p<=3/\2-p≠3:=ac;obtain⟨s1,s2,s3,s4,s5,s6⟩:=hst;have ht1:rHt (1+p) (J 17).Z=(J 17).Z / 2:=zt s3;have ht2:rHt (2-p) (J 17).Z=(J 17).Z / 2:=zt s6
  have pa:PcA (pL J (1+p) (vU J p)):=⟨kmp h.vs,kmp (cv (1+p) s1 s2),.inl (kmp il),λe=>(by cases(show false=true from e)),by have q:=(hfie p).2;rw[<-ht1]at q;exact kmp q,kmp h.r1,kmp h.r2,.inl (kmp h.r3),kmp h.n1,kmp h.n2,λ_ e=>(by cases(show false=true from e))⟩
  have ma:uC (pL J (1+p) (vU J p)):=⟨(uw pa).1,kmp i1,kmp i2,by have:(J 31).N+1<=40:=ac;exact kmp this⟩
  have oa:=xY pa ma (n:=k) (c:=c) (kmp h.its);obtain⟨fa,ia⟩:=oa;have fa:Fm (zu J p) 0 (J 16).Z (rHt (1+p) (J 17).Z):=fa;rw[ht1]at fa;have e16:rHt ((pL J (1+p) (vU J p)) 1).Z ((pL J (1+p) (vU J p)) 28).Z=(J 17).Z / 2:=ht1;rw[e16]at ia
  have fz:((zu J p) 0).Z≠0:=by have:((zu J p) 0).Z=(J 16).Z:=fa.2.1;rw[this];omega
  have pb:PcA (Qg J (2-p) (vU J (1-p)) (zu J p)):=⟨kmp h.vs,kmp (cv (2-p) s4 s5),.inl (kmp il),λ_=>kmp s6,by have q:=(hfie (1-p)).2;rw[<-ht2]at q;exact kmp q,kmp h.r1,kmp h.r2,.inr (kmp fa),kmp h.n1,kmp h.n2,λ_ _=>kmp fz⟩
  have mb:uC (Qg J (2-p) (vU J (1-p)) (zu J p)):=⟨(uw pb).1,af,af,by have:(J 31).N+1+1<=40:=ac;exact kmp this⟩
  obtain⟨fb,ib⟩:=xY pb mb (n:=k+1) (c:=c+(10+((J 17).Z / 2 / 16).toNat*24606)) (kmp ia);have fb:Fm (Jz J p) 0 (J 16).Z (rHt (2-p) (J 17).Z):=fb;rw[ht2]at fb;have e17:rHt ((Qg J (2-p) (vU J (1-p)) (zu J p)) 1).Z ((Qg J (2-p) (vU J (1-p)) (zu J p)) 28).Z=(J 17).Z / 2:=ht2;rw[e17]at ib
  have ib:ItS ((Jz J p) 34).N ((Jz J p) 34).G (k+2) (c+98444):=by obtain⟨b1,b2,b3⟩:=ib;exact⟨b1,b2,Nat.le_trans b3 ac⟩
  have wu:wk (N5 J p)/\Fm (rM (N5 J p)) 0 (J 16).Z (2*((J 17).Z / 2)):=by
   rcases hp with rfl | rfl
   .exact KI (A:=N5 J 0) (kmp fa) (kmp fb) ac
   .exact KI (A:=N5 J 1) (kmp fb) (kmp fa) ac
  refine⟨⟨(hfie p).1,(hfie (1-p)).1,ma,mb,wu.1⟩,rM (N5 J p),((Jz J p) 34).N,((Jz J p) 34).G,af,?_,ib⟩;have:=wu.2;rw[show 2*((J 17).Z / 2)=(J 17).Z by omega]at this
  exact this
 refine⟨⟨⟨n1,n2⟩,⟨t1,t2⟩,d1,hF,pone,λhf=>(two hf _ (by cases(J 27).X;exact .inr rfl;exact .inl rfl)).1⟩,?_⟩
 cases hf:(J 25).X
 .obtain⟨fa,ia⟩:=xY (one hf) (pone hf) (n:=k) (c:=c) (kmp h.its);refine⟨oJ (pL J 3 (eE J)),((oJ (pL J 3 (eE J))) 34).N,((oJ (pL J 3 (eE J))) 34).G,?_,kmp fa,?_⟩
  .rw[show rp J=cw (oJ (pL J 3 (eE J))) 0 35 k14 from A8 hf _ _]
   kernel_rfl
  .obtain⟨b1,b2,b3⟩:=ia;have e:(rHt ((pL J 3 (eE J)) 1).Z ((pL J 3 (eE J)) 28).Z / 16).toNat=((J 17).Z / 16).toNat:=af;rw[e]at b3;exact⟨ac,b2,ac⟩
 .cases ht:(J 27).X
  .rw[show rp J=Mp J 1 by unfold rp;rw[hf,ht];rfl]
   exact(two hf 1 (.inr rfl)).2
  .rw[show rp J=Mp J 0 by unfold rp;rw[hf,ht];rfl]
   exact(two hf 0 (.inl rfl)).2
end
end Go.Proofs.YtldmjbgplgoedaaGreatDoor
namespace Go.Proofs.YtldmjbgplgoedaaGreatDoor
noncomputable section
open Go.RowKit U
def szB (f:ae) (W H:Int):Bool:=fmB (f 0).Z (f 1).Z (f 2).N (f 3).N (f 4).N&&((f 0).Z==W&&(f 1).Z==H)
theorem szB_fm {f:ae} {W H:Int}:szB f W H=true↔Fm f 0 W H:=by unfold szB Fm;simp only[Bool.and_eq_true,beq_iff_eq]
def acx (J:ae):ae:=[.b (szB J (J 5).Z (J 6).Z)]
abbrev P8:SP:=mkS ⟨[bm],[]⟩ 34 Tryz.f34 [.tX (.sA we),gp,gp] [] [] [fmC]
theorem EZ J R:TR P8 J R (LET ((cw J 0 5 18697)) λx0=>LET (fmW x0) λx1=>BR ((x1 0).X) (BR ((J 0).Z==(J 5).Z) (R [.i 0,.b ((J 1).Z==(J 6).Z)]) (R [.i 0,.b false])) (R [.i 0,.b false])):=af
theorem U5:PF0 P8 acx:=λJ _ _=>⟨by
 rw[EZ];refine aH rfl (aH (w:=[.b (fmB (J 0).Z (J 1).Z (J 2).N (J 3).N (J 4).N)]) af ⟨λh=>⟨λh0=>⟨rfl,⟨?_,ah⟩,ah⟩,λh0=>⟨rfl,⟨?_,ah⟩,ah⟩⟩,λh=>⟨rfl,⟨?_,ah⟩,ah⟩⟩)
 .show _=szB J (J 5).Z (J 6).Z;unfold szB;have h:fmB (J 0).Z (J 1).Z (J 2).N (J 3).N (J 4).N=true:=h;rw[h,h0];rfl
 .show _=szB J (J 5).Z (J 6).Z;unfold szB;have h:fmB (J 0).Z (J 1).Z (J 2).N (J 3).N (J 4).N=true:=h;rw[h,h0];rfl
 .show _=szB J (J 5).Z (J 6).Z;unfold szB;have h:fmB (J 0).Z (J 1).Z (J 2).N (J 3).N (J 4).N=false:=h;rw[h];rfl⟩
abbrev aaR:CT:=C0 P8 acx
theorem IV:CO aaR:=CX0 (TX ⟨TM,ah⟩ ah) U5
def ixZ (p:Nat->Bool):Nat->Nat->Int
 |0,_=>-1
 |k+1,i=>bif p i then(i:Int)else ixZ p k (i+1)
theorem yv {p:Nat->Bool}:∀ {k i:Nat},ixZ p k i<0↔∀j,i<=j->j<i+k->p j=false
 |0,i=>⟨λ_ j h1 h2=>absurd h1 ac,λ_=>show(-1:Int)<0 by decide⟩
 |k+1,i=>by
  show(bif p i then(i:Int)else ixZ p k (i+1))<0↔_
  cases h:p i
  .show ixZ p k (i+1)<0↔_;rw[yv (k:=k)];refine⟨λq j h1 h2=>?_,λq j h1 h2=>q j ac ac⟩
   by_cases e:j=i
   .rw[e];exact h
   .exact q j ac ac
  .show(i:Int)<0↔_;refine⟨λq=>absurd q ac,λq=>?_⟩;rw[q i (Nat.le_refl _) ac]at h;cases h
def wj (J:ae) (i:Nat):Bool:=!szB ((J 0).G i) (J 1).Z (J 2).Z
def Y9 (_:ae):Prop:=True
def Yf (J:ae):ae:=[.i (ixZ (wj J) (J 0).N 0)]
def ixS (J:ae) (i:Nat):ae:=[.l (J 0).N (J 0).G,.i (((J 0).N:Nat):Int),.i (i:Int),.i (J 1).Z,.i (J 2).Z,.i (J 3).Z,.i (J 4).Z,.b (J 5).X,.i (J 6).Z,.i (J 7).Z,.f (J 8).F,.f (J 9).F]
abbrev BD:SP:=mkS ⟨[aD (-1) 5],[.run 26 Zf]⟩ 207 Tryz.f207 [tXO (.nR 5 0 6 0 g0),.tF 127 [] [.sO (.nP 0 0)]] [.run 26 Zf] [(2,.head ⟨[(0,tXO (.nR 5 0 6 0 g0)),(1,.tF 127 [] [.sO (.nP 0 0)]),(7,aj 0 6),(8,aj 0 1048576)],[.run 26 Zf],[]⟩)] [aaR] [(aw 127 Tryz.f127)]
theorem EA J R:TR BD J R (∃(I0:ae->Prop) (μ0:ae->Nat),I0 (ak [.l (J 0).N (J 0).G,.i (((J 0).N:Nat):Int),.i 0] (cw J 1 9 56926793))/\∀l0,I0 l0-> BR (decide ((l0 2).Z<(l0 1).Z)) (((l0 2).Z<(((l0 0).N:Nat):Int))/\LET ((ak (cw ((l0 0).G (l0 2).Z.toNat) 0 5 18697) [.i (l0 3).Z,.i (l0 4).Z])) λx0=>LET (acx x0) λx1=>BR (!(x1 0).X) (((l0 2).Z<=5)/\R (ak [.i 0] (cw l0 2 10 455414345))) ((((l0 2).Z+1)<=1048576)/\Ag I0 μ0 l0 (ak [.l (l0 0).N (l0 0).G,.i (l0 1).Z,.i ((l0 2).Z+1)] (cw l0 3 9 56926793)))) (R (ak [.i 0,.i (-1)] (cw l0 3 9 56926793)))):=af
theorem Q7:PFk BD [true] [] Y9 Yf:=λJ b1 _ _=>⟨by
 rw[EA];obtain⟨⟨-,hN,-⟩,-⟩:=b1;have hN:(J 0).N<=6:=hN;refine bG (X:=Unit) (J 0).N 2 (λi _=>ixZ (wj J) ((J 0).N-i) i=ixZ (wj J) (J 0).N 0) (λi _=>ixS J i) (λ_ _ _=>rfl) () af rfl λI μ hA i _ l hi hz hl=>?_;subst hl;refine⟨λh=>?_,λh=>?_⟩
 .have h:decide ((i:Int)<(((J 0).N:Nat):Int))=true:=kmp h;have h:=of_decide_eq_true h;have hi:i<(J 0).N:=ac;have a5:(i:Int)<=5:=ac;have a6:(i:Int)+1<=1048576:=ac;rw[show(J 0).N-i=((J 0).N-(i+1))+1 by omega]at hz
  have hz:(bif wj J i then(i:Int)else ixZ (wj J) ((J 0).N-(i+1)) (i+1))=ixZ (wj J) (J 0).N 0:=hz
  refine⟨kmp h,aH rfl (aH (w:=[.b (szB ((J 0).G i) (J 1).Z (J 2).Z)]) af ⟨λe=>?_,λe=>?_⟩)⟩
  .have e:wj J i=true:=e;rw[e]at hz;refine⟨kmp a5,rfl,⟨?_,ah⟩,ay af,ah⟩;show(i:Int)=_;exact hz
  .have e:wj J i=false:=e;rw[e]at hz;exact⟨kmp a6,hA i () () _ _ hi hz rfl af⟩
 .have h:decide ((i:Int)<(((J 0).N:Nat):Int))=false:=kmp h;have h:=of_decide_eq_false h;rw[show(J 0).N-i=0 by omega]at hz
  refine⟨rfl,⟨?_,ah⟩,ay af,ah⟩;show(-1:Int)=_;exact hz⟩
abbrev afF:List AB:=[]
abbrev adw:CT:=Ck BD [true] afF Y9 Yf
theorem Ry:CO adw:=CXk BD (TX ⟨IV,ah⟩ (FK ah)) Q7
def prB (n m:Nat) (t:Nat->Int):Bool:=decide (1<=n/\m=n/\(∀i,i<n->1<=t i/\t i<=3)/\t 0=1/\t (n-1)≠3)
def aaz (J:ae):ae:=[.b (prB (J 0).N (J 1).N (cel (J 1).G))]
def prS (J:ae) (i:Nat):ae:=[.l (J 1).N (J 1).G,.i (((J 0).N:Nat):Int),.l (J 1).N (J 1).G,.i (((J 1).N:Nat):Int),.i (i:Int)]
abbrev NC:SP:=mkS ⟨[bm],[]⟩ 125 Tryz.f125 [tXO (.nR 5 0 6 0 g0),tXO (.nR 1 0 9223372036854775807 0 g0),aN] [] [(20002,.head ⟨[(1,tXO (.nR 1 0 9223372036854775807 0 g0)),(7,aj 0 6),(30,aN)],[],[]⟩),(5,.head ⟨[(1,tXO (.nR 1 0 9223372036854775807 0 g0)),(7,aj 0 6),(31,tXO (.nR 1 0 9223372036854775807 0 g0)),(32,aj 0 9223372036854775807),(33,aj 0 1048576)],[],[]⟩)]
theorem Cn J R:TR NC J R (∃J0:ae->Prop,(((decide ((((J 0).N:Nat):Int)<1))->J0 [.l (J 1).N (J 1).G,.i (((J 0).N:Nat):Int),.b true])/\((decide ((((J 0).N:Nat):Int)<1))=false->((J 2).X->J0 [.l (J 1).N (J 1).G,.i (((J 0).N:Nat):Int),.b ((((J 1).N:Nat):Int)!=(((J 0).N:Nat):Int))])/\((J 2).X=false->J0 [.l (J 1).N (J 1).G,.i (((J 0).N:Nat):Int),.b ((((J 1).N:Nat):Int)!=(((J 0).N:Nat):Int))])))/\∀j0,J0 j0->((j0 2).X->R [.i 0,.b false])/\((j0 2).X=false->∃(I1:ae->Prop) (μ1:ae->Nat),I1 [.l (j0 0).N (j0 0).G,.i (j0 1).Z,.l (j0 0).N (j0 0).G,.i (((j0 0).N:Nat):Int),.i 0]/\∀l1,I1 l1->((decide ((l1 4).Z<(l1 3).Z))->((l1 4).Z<(((l1 2).N:Nat):Int))/\((decide ((((l1 2).G (l1 4).Z.toNat) 0).Z<1))->R [.i 0,.b false])/\((decide ((((l1 2).G (l1 4).Z.toNat) 0).Z<1))=false->((decide (3<(((l1 2).G (l1 4).Z.toNat) 0).Z))->R [.i 0,.b false])/\((decide (3<(((l1 2).G (l1 4).Z.toNat) 0).Z))=false->(((l1 4).Z+1)<=1048576)/\Ag I1 μ1 l1 (ak (cw l1 0 4 780) [.i ((l1 4).Z+1)]))))/\((decide ((l1 4).Z<(l1 3).Z))=false->(0<(((l1 0).N:Nat):Int))/\(((((l1 0).G 0) 0).Z==1)->(0<=((l1 1).Z-1))/\(((l1 1).Z-1)<(((l1 0).N:Nat):Int))/\R [.i 0,.b ((((l1 0).G ((l1 1).Z-1).toNat) 0).Z !=3)])/\(((((l1 0).G 0) 0).Z==1)=false-> R [.i 0,.b false])))):=af
theorem Xr:PF0 NC aaz:=λJ b1 _=>⟨by
 rw[Cn];obtain⟨⟨-,hN,-⟩,-⟩:=b1;have hN:(J 0).N<=6:=hN;refine⟨λl=>∃f,l=[.l (J 1).N (J 1).G,.i (((J 0).N:Nat):Int),.b f]/\(f=true->¬ (1<=(J 0).N/\(J 1).N=(J 0).N))/\(f=false->1<=(J 0).N/\(J 1).N=(J 0).N),⟨λh=>⟨true,rfl,λ_ k=>?_,λk=>(by cases k)⟩,λh=>?_⟩,λj hj=>?_⟩
 .have:=of_decide_eq_true h;omega
 .have h:=of_decide_eq_false h
  have key:∃f,[.l (J 1).N (J 1).G,.i (((J 0).N:Nat):Int),.b ((((J 1).N:Nat):Int)!=(((J 0).N:Nat):Int))]=[Lf.l (J 1).N (J 1).G,.i (((J 0).N:Nat):Int),.b f]/\(f=true->¬ (1<=(J 0).N/\(J 1).N=(J 0).N))/\(f=false->1<=(J 0).N/\(J 1).N=(J 0).N):=⟨_,rfl,(λe k=>by
   rw[k.2,bne_self_eq_false]at e
   cases e),(λe=>by
   have:(((J 1).N:Nat):Int)=(((J 0).N:Nat):Int):=by simpa using e
   omega)⟩
  exact⟨λ_=>key,λ_=>key⟩
 obtain⟨f,rfl,f1,f2⟩:=hj;refine⟨λh=>⟨rfl,⟨?_,ah⟩,ah⟩,λh=>?_⟩
 .have h:=f1 h;show false=prB _ _ _;exact(decide_eq_false λk=>h ⟨k.1,k.2.1⟩).symm
 obtain⟨n1,n2⟩:=f2 h;refine bG (X:=Unit) (J 1).N 4 (λi _=>∀j,j<i->1<=cel (J 1).G j/\cel (J 1).G j<=3) (λi _=>prS J i) (λ_ _ _=>rfl) () af (λj hj=>absurd hj (Nat.not_lt_zero j)) λI μ hA i _ l hi hz hl=>?_;subst hl;refine⟨λh=>?_,λh=>?_⟩
 .have h:decide ((i:Int)<(((J 1).N:Nat):Int))=true:=kmp h;have h:=of_decide_eq_true h;have hi:i<(J 1).N:=ac;have a6:(i:Int)+1<=1048576:=ac;refine⟨kmp h,λq=>⟨rfl,⟨?_,ah⟩,ah⟩,λq=>⟨λq3=>⟨rfl,⟨?_,ah⟩,ah⟩,λq3=>⟨kmp a6,hA i () () _ _ hi ?_ rfl af⟩⟩⟩
  .have q:cel (J 1).G i<1:=of_decide_eq_true (kmp q);exact(decide_eq_false λk=>absurd (k.2.2.1 i ac).1 ac).symm
  .have q3:3<cel (J 1).G i:=of_decide_eq_true (kmp q3);exact(decide_eq_false λk=>absurd (k.2.2.1 i ac).2 ac).symm
  .have q:¬ cel (J 1).G i<1:=of_decide_eq_false (kmp q);have q3:¬ 3<cel (J 1).G i:=of_decide_eq_false (kmp q3);intro j hj
   by_cases e:j=i
   .subst e;omega
   .exact hz j ac
 .have h:decide ((i:Int)<(((J 1).N:Nat):Int))=false:=kmp h;have h:=of_decide_eq_false h;have hi:i=(J 1).N:=ac;subst hi;have a0:(0:Int)<(((J 1).N:Nat):Int):=ac;have a1:(0:Int)<=(((J 0).N:Nat):Int)-1:=ac;have a2:(((J 0).N:Nat):Int)-1<(((J 1).N:Nat):Int):=ac;have eN:((((J 0).N:Nat):Int)-1).toNat=(J 0).N-1:=ac;refine⟨kmp a0,λq=>⟨kmp a1,kmp a2,rfl,⟨?_,ah⟩,ah⟩,λq=>⟨rfl,⟨?_,ah⟩,ah⟩⟩
  .have q:cel (J 1).G 0=1:=eq_of_beq (kmp q);show(cel (J 1).G ((((J 0).N:Nat):Int)-1).toNat !=3)=prB _ _ _;rw[eN]
   by_cases e:cel (J 1).G ((J 0).N-1)=3
   .rw[e];exact(decide_eq_false λk=>k.2.2.2.2 e).symm
   .rw[show(cel (J 1).G ((J 0).N-1)!=3)=true by simpa using e]
    exact(decide_eq_true ⟨n1,n2,λi hi=>hz i ac,q,e⟩).symm
  .have q:¬ cel (J 1).G 0=1:=ne_of_beq_false (kmp q);exact(decide_eq_false λk=>q k.2.2.2.1).symm⟩
abbrev aeJ:CT:=C0 NC aaz
theorem VJ:CO aeJ:=CX0 (TX trivial ah) Xr
def ecB (J:ae):Bool:=vsB J 0&&(prB (J 9).N (J 10).N (cel (J 10).G)&&(((J 4).X||(!(J 11).X&&(J 13).X))&&decide (∀i,i<(J 9).N->szB ((J 9).G i) (J 0).Z (J 1).Z=true)))
def XY (J:ae):ae:=[.b (ecB J)]
theorem Tl {J:ae}:(!(decide (0<=ixZ (wj (.l (J 9).N (J 9).G::.i (J 0).Z::.i (J 1).Z::[])) (J 9).N 0)))=decide (∀i,i<(J 9).N->szB ((J 9).G i) (J 0).Z (J 1).Z=true):=by
 have key:=yv (p:=wj (.l (J 9).N (J 9).G::.i (J 0).Z::.i (J 1).Z::[])) (k:=(J 9).N) (i:=0);have pq:∀j,wj (.l (J 9).N (J 9).G::.i (J 0).Z::.i (J 1).Z::[]) j=!szB ((J 9).G j) (J 0).Z (J 1).Z:=λ_=>rfl
 by_cases e:∀i,i<(J 9).N->szB ((J 9).G i) (J 0).Z (J 1).Z=true
 .rw[decide_eq_true e];have:=key.2 λj _ h=>by rw[pq,e j ac];rfl
  rw[decide_eq_false ac];rfl
 .rw[decide_eq_false e]
  have:¬ ixZ (wj (.l (J 9).N (J 9).G::.i (J 0).Z::.i (J 1).Z::[])) (J 9).N 0<0:=λq=>e λi hi=>by
   have:=key.1 q i ac ac;rw[pq]at this
   simpa using this
  rw[decide_eq_true ac];rfl
abbrev II:SP:=mkS ⟨[bm],[]⟩ 57 Tryz.f57 [.tX (.sA Zf),tXO (.nR 5 0 6 0 g0),tXO (.nR 1 0 9223372036854775807 0 g0),.tX (.sA oI)] [] [] [YE,aeJ,aaR,adw] [(aw 127 Tryz.f127),(aw 126 Tryz.f126)]
theorem B7 J R:TR II J R (LET ((cw J 0 9 56926793)) λx0=>LET (IT x0) λx1=>((!(x1 0).X)->R [.i 0,.b false])/\((!(x1 0).X)=false->LET ((cw J 9 3 164)) λx2=>LET (aaz x2) λx3=>((!(x3 0).X)->R [.i 0,.b false])/\((!(x3 0).X)=false->((!(J 4).X)->((J 11).X->R [.i 0,.b false])/\((J 11).X=false->((!(J 13).X)->R [.i 0,.b false])/\((!(J 13).X)=false->LET ((ak [.l (J 9).N (J 9).G] (cw J 0 9 56926793))) λx4=>(Y9 x4)/\LET (Yf x4) λx5=>R [.i 0,.b (!(decide (0<=(x5 0).Z)))])))/\((!(J 4).X)=false-> LET ((ak [.l (J 9).N (J 9).G] (cw J 0 9 56926793))) λx4=>(Y9 x4)/\LET (Yf x4) λx5=>R [.i 0,.b (!(decide (0<=(x5 0).Z)))])))):=af
theorem T5:PF0 II XY:=λJ _ _=>⟨by
 rw[B7];have fin:∀ {x:Bool},x=ecB J->(hd [Lf.i 0,.b x]).Z=0/\agW KX II.Y (tl [Lf.i 0,.b x]) (XY J):=λh=>⟨rfl,⟨h,ah⟩,ah⟩;refine aH rfl (aH (w:=[.b (vsB J 0)]) af ⟨λh=>fin ?_,λh=>aH rfl (aH (w:=[.b (prB (J 9).N (J 10).N (cel (J 10).G))]) af ⟨λh1=>fin ?_,λh1=>⟨λh2=>⟨λh3=>fin ?_,λh3=>⟨λh4=>fin ?_,λh4=>aH rfl ⟨ah,aH rfl ?_⟩⟩⟩,λh2=>aH rfl ⟨ah,aH rfl ?_⟩⟩⟩)⟩)
 .have h:vsB J 0=false:=by simpa using(show(!vsB J 0)=true from h)
  unfold ecB;rw[h];rfl
 .have h:vsB J 0=true:=by simpa using(show(!vsB J 0)=false from h)
  have h1:prB (J 9).N (J 10).N (cel (J 10).G)=false:=by simpa using(show(!prB (J 9).N (J 10).N (cel (J 10).G))=true from h1)
  unfold ecB;rw[h,h1];rfl
 .have h:vsB J 0=true:=by simpa using(show(!vsB J 0)=false from h)
  have h1:prB (J 9).N (J 10).N (cel (J 10).G)=true:=by simpa using(show(!prB (J 9).N (J 10).N (cel (J 10).G))=false from h1)
  have h2:(J 4).X=false:=by simpa using h2
  unfold ecB;rw[h,h1,h2,h3];rfl
 .have h:vsB J 0=true:=by simpa using(show(!vsB J 0)=false from h)
  have h1:prB (J 9).N (J 10).N (cel (J 10).G)=true:=by simpa using(show(!prB (J 9).N (J 10).N (cel (J 10).G))=false from h1)
  have h2:(J 4).X=false:=by simpa using h2
  have h4:(J 13).X=false:=by simpa using h4
  unfold ecB;rw[h,h1,h2,h3,h4];rfl
 .have h:vsB J 0=true:=by simpa using(show(!vsB J 0)=false from h)
  have h1:prB (J 9).N (J 10).N (cel (J 10).G)=true:=by simpa using(show(!prB (J 9).N (J 10).N (cel (J 10).G))=false from h1)
  have h2:(J 4).X=false:=by simpa using h2
  have h4:(J 13).X=true:=by simpa using h4
  refine fin ?_;unfold ecB;rw[h,h1,h2,h3,h4,<-Tl];rfl
 .have h:vsB J 0=true:=by simpa using(show(!vsB J 0)=false from h)
  have h1:prB (J 9).N (J 10).N (cel (J 10).G)=true:=by simpa using(show(!prB (J 9).N (J 10).N (cel (J 10).G))=false from h1)
  have h2:(J 4).X=true:=by simpa using h2
  refine fin ?_;unfold ecB;rw[h,h1,h2,<-Tl];rfl⟩
abbrev aee:CT:=C0 II XY
theorem U8:CO aee:=CX0 (TX ⟨xw,VJ,IV,Ry,ah⟩ (FK (FK ah))) T5
end
end Go.Proofs.YtldmjbgplgoedaaGreatDoor
