import Derived.Test.YtldmjbgplgoedaaGreatDoorRp41
import Derived.Test.YtldmjbgplgoedaaGreatDoorRp45
import Derived.Test.YtldmjbgplgoedaaGreatDoorRp44
set_option linter.all false
namespace Go.Proofs.YtldmjbgplgoedaaGreatDoor
noncomputable section
open Go.RowKit U
structure PiB (J:ae) (B:Int):Prop where
 q1:1<=(J 36).Z
 q2:(J 36).Z<=31
 m1:∀i,i<64->8<=(J 7).F i/\(J 7).F i<=255
 m2:∀i,i<64->8<=(J 8).F i/\(J 8).F i<=255
 b1:∀i,i<64->bdF (J 7).F (J 36).Z i<=B
 b2:∀i,i<64->bdF (J 8).F (J 36).Z i<=B
 s:RwB J 16
 r0:RwB J 21
 r1:RwB J 26
 r2:RwB J 31
theorem ahl {J:ae} {B:Int} (h:PiB J B) (k:Nat):RoB (piA k (piC (cn (piI J)) k)) B/\((piA k (piC (cn (piI J)) k)) 21).Z=(J 16).Z/\((piA k (piC (cn (piI J)) k)) 23).G=(J 18).G/\((piA k (piC (cn (piI J)) k)) 24).G=(J 19).G/\((piA k (piC (cn (piI J)) k)) 25).G=(J 20).G:=by
 obtain⟨w0,w1,a,b,c,d,hw⟩:=TO (piI J)
 have hx:∀k,∃X,piC (cn (piI J)) k=ak (cw (nwB (piI J) w0 w1 a b c d) 0 70 k6) X:=λk=>by
  rw[hw]
  cases k with
  |zero=>exact⟨Ym (nwB (piI J) w0 w1 a b c d) 70,by show nwB (piI J) w0 w1 a b c d=_;kernel_rfl⟩
  |succ k=>exact⟨_,rfl⟩
 obtain⟨X,hX⟩:=hx k;rw[hX];refine⟨⟨?_,kmp h.q1,kmp h.q2,kmp h.m1,kmp h.m2,kmp h.b1,kmp h.b2,kmp h.s,kmp h.r0,kmp h.r1,kmp h.r2⟩,af,af,af,af⟩;exact kmp (Int.natCast_nonneg k)
def PiE (B:Int) (W S k:Nat) (f s:Nat->ae):Prop:=∀i,i / W / S<k->Ne B (cel f i) (cel s i)
theorem PiE.step {B:Int} {W S k n:Nat} {f f' s:Nat->ae} (h:PiE B W S k f s) (hS:0<S) (hn:0<n) (hW:W=S*n) (hr:RoE B W S k n f' s f):PiE B W S (k+1) f' s:=λi hi=>by
 obtain⟨a,b⟩:=hr i
 by_cases e:i / W / S=k
 .refine a ⟨e,?_⟩;have:0<W:=by rw[hW];exact Nat.mul_pos hS hn
  have:=Nat.mod_lt i this;exact Nat.div_lt_of_lt_mul (by rw[<-hW];exact this)
 .rw[b λq=>e q.1];exact h i ac
theorem afZ {J:ae} {B:Int} (h:PiB J B) (hp:wa J):∀k,k<=piN J->PiE B (J 16).Z.toNat 16 k ((piC (cn (piI J)) k) 72).G (J 18).G/\PiE B ((J 16).Z.toNat / 2) 8 k ((piC (cn (piI J)) k) 73).G (J 19).G/\PiE B ((J 16).Z.toNat / 2) 8 k ((piC (cn (piI J)) k) 74).G (J 20).G
 |0,_=>⟨λi hi=>absurd hi (Nat.not_lt_zero _),λi hi=>absurd hi (Nat.not_lt_zero _),λi hi=>absurd hi (Nat.not_lt_zero _)⟩
 |k+1,hk=>by obtain⟨i0,i1,i2⟩:=afZ h hp k ac;obtain⟨hb,eW,g0,g1,g2⟩:=ahl h k;have hr:=sh hp (k:=k) ac;obtain⟨n1,n2,-,n4⟩:=Ao hr;have w:=hr.w;have e:=agN hb hr _ (Nat.le_refl _);rw[eW]at w n4;rw[eW,g0,g1,g2]at e;have y:((piA k (piC (cn (piI J)) k)) 0).Z.toNat=k:=af;rw[y]at e;obtain⟨e0,e1,e2⟩:=e;have c0:RoE B (J 16).Z.toNat 16 k (roN (piA k (piC (cn (piI J)) k))) ((piC (cn (piI J)) (k+1)) 72).G (J 18).G ((piC (cn (piI J)) k) 72).G:=kmp e0;have c1:RoE B ((J 16).Z.toNat / 2) 8 k (roN (piA k (piC (cn (piI J)) k))) ((piC (cn (piI J)) (k+1)) 73).G (J 19).G ((piC (cn (piI J)) k) 73).G:=kmp e1;have c2:RoE B ((J 16).Z.toNat / 2) 8 k (roN (piA k (piC (cn (piI J)) k))) ((piC (cn (piI J)) (k+1)) 74).G (J 20).G ((piC (cn (piI J)) k) 74).G:=kmp e2;exact⟨i0.step afH ac ac c0,i1.step afH ac ac c1,i2.step afH ac ac c2⟩
def Nr (B:Int) (n:Nat) (f s:Nat->ae):Prop:=∀i,i<n->Ne B (cel f i) (cel s i)
theorem afP {W S k n i:Nat} (hi:i<n) (hn:n=W*(S*k)):i / W / S<k:=by refine Nat.div_lt_of_lt_mul (Nat.div_lt_of_lt_mul ?_);rw[<-hn];exact hi
theorem ah1 {J:ae} {B:Int} (h:PiB J B) (hp:wa J):Nr B (J 18).N ((pM J) 9).G (J 18).G/\Nr B (J 19).N ((pM J) 10).G (J 19).G/\Nr B (J 20).N ((pM J) 11).G (J 20).G:=by
 obtain⟨a,b,c⟩:=afZ h hp _ (Nat.le_refl _);obtain⟨f,s2,s3⟩:=hp.1;have f:fmB (J 16).Z (J 17).Z (J 18).N (J 19).N (J 20).N=true:=f;have s3:(J 17).Z=16*rwZ J 0 9:=s3;obtain⟨f1,-,-,f2,-,-,f3,f4,f5⟩:=of_decide_eq_true f;obtain⟨-,r2,r3⟩:=zX (AO hp).ft;have hN:(piN J:Int)=rwZ J 0 9:=by unfold piN;omega
 generalize hn:piN J=n at *;generalize hW:(J 16).Z.toNat=W at *;have eW:(J 16).Z=W:=ac;have e16:(J 17).Z=((16*n:Nat):Int):=ac;have e8:(J 17).Z / 2=((8*n:Nat):Int):=ac;rw[eW,e16]at f3;rw[eW,e8]at f4 f5;have p0:((piC (cn (piI J)) n) 72).G=((pM J) 9).G:=by rw[<-hn];kernel_rfl
 have p1:((piC (cn (piI J)) n) 73).G=((pM J) 10).G:=by rw[<-hn];kernel_rfl
 have p2:((piC (cn (piI J)) n) 74).G=((pM J) 11).G:=by rw[<-hn];kernel_rfl
 rw[p0]at a;rw[p1]at b;rw[p2]at c;exact⟨λi hi=>a i (afP hi (Int.ofNat.inj f3)),λi hi=>b i (afP hi (Int.ofNat.inj f4)),λi hi=>c i (afP hi (Int.ofNat.inj f5))⟩
end
end Go.Proofs.YtldmjbgplgoedaaGreatDoor
namespace Go.Proofs.YtldmjbgplgoedaaGreatDoor
open Go.RowKit U
structure FrN (B:Int) (f:ae) (o:Nat) (s:ae) (p:Nat):Prop where
 w:(f o).Z=(s p).Z
 h:(f (o+1)).Z=(s (p+1)).Z
 n2:(f (o+2)).N=(s (p+2)).N
 n3:(f (o+3)).N=(s (p+3)).N
 n4:(f (o+4)).N=(s (p+4)).N
 a:Nr B (s (p+2)).N (f (o+2)).G (s (p+2)).G
 b:Nr B (s (p+3)).N (f (o+3)).G (s (p+3)).G
 c:Nr B (s (p+4)).N (f (o+4)).G (s (p+4)).G
theorem FrN.by_ {B:Int} {f s:ae} {o p:Nat} (h:FrN B f o s p):RwB f o :=⟨λi hi=>(h.a i (by rw[<-h.n2];exact hi)).2,λi hi=>(h.b i (by rw[<-h.n3];exact hi)).2,λi hi=>(h.c i (by rw[<-h.n4];exact hi)).2⟩
theorem akk {a b:ae} {o p:Nat} {W H:Int} (h1:Fm a o W H) (h2:Fm b p W H):(a (o+2)).N=(b (p+2)).N/\(a (o+3)).N=(b (p+3)).N/\(a (o+4)).N=(b (p+4)).N:=by obtain⟨f,a0,a1⟩:=h1;obtain⟨g,b0,b1⟩:=h2;obtain⟨-,-,-,-,-,-,f1,f2,f3⟩:=of_decide_eq_true f;obtain⟨-,-,-,-,-,-,g1,g2,g3⟩:=of_decide_eq_true g;rw[a0,a1]at f1 f2 f3;rw[b0,b1]at g1 g2 g3;exact⟨Int.ofNat.inj (f1.trans g1.symm),Int.ofNat.inj (f2.trans g2.symm),Int.ofNat.inj (f3.trans g3.symm)⟩
theorem afW {J:ae} {B:Int} (h:PiB J B) (hp:wa J):FrN B (pM J) 7 J 16:=by obtain⟨a,b,c⟩:=ah1 h hp;have o:=(Lw hp).1;have i:=hp.1;rw[(zX (AO hp).ft).1]at i;obtain⟨n2,n3,n4⟩:=akk o i;exact⟨o.2.1.trans i.2.1.symm,o.2.2.trans i.2.2.symm,n2,n3,n4,a,b,c⟩
theorem agl {B:Int} {w h:Nat} {f0 f1 s:Nat->ae} (hw:0<w) (h0:Nr B (w*h) f0 (rz (A1 s (0*w) (2*w) w))) (h1:Nr B (w*h) f1 (rz (A1 s (1*w) (2*w) w))):Nr B (w*(2*h)) (rz (U7 f0 f1 w)) s:=λi hi=>by
 have hr:i / w<2*h:=Nat.div_lt_of_lt_mul hi;have hm:=Nat.mod_lt i hw;have e:=Nat.div_add_mod i w;rw[jm];unfold U7
 have hj:i / w / 2*w+i % w<w*h:=by have:(i / w / 2+1)*w<=h*w:=Nat.mul_le_mul_right _ ac;rw[Nat.add_mul,Nat.one_mul,Nat.mul_comm h]at this;omega
 have hd:(i / w / 2*w+i % w) / w=i / w / 2/\(i / w / 2*w+i % w) % w=i % w:=by rw[Nat.mul_comm _ w];exact dm hm
 have key:∀p,i / w % 2=p->A1 s (p*w) (2*w) w (i / w / 2*w+i % w)=cel s i:=λp hp=>by
  unfold A1;rw[hd.1,hd.2]
  congr 1
  have:i / w / 2*(2*w)+p*w=w*(i / w):=by
   have q:i / w / 2*(2*w)+p*w=(2*(i / w / 2)+p)*w:=by rw[Nat.add_mul,Nat.mul_comm 2 w,<-Nat.mul_assoc,Nat.mul_comm 2,Nat.mul_right_comm]
   rw[q,Nat.mul_comm]
   congr 1
   omega
  omega
 split
 .rename_i q;have k:=h0 _ hj;rw[jm,key 0 q]at k;exact k
 .rename_i q;have k:=h1 _ hj;rw[jm,key 1 ac]at k;exact k
theorem ahM {B:Int} {A s:ae} (hs:FrB s) (h4:(s 1).Z % 4=0) (h0:FrN B A 0 (dP [s 0,s 1,s 2,s 3,s 4,.i 0]) 0) (h1:FrN B A 5 (dP [s 0,s 1,s 2,s 3,s 4,.i 1]) 0):FrN B (rM A) 0 s 0:=by
 obtain⟨a1,a2,a3,a4,a5,a6,a7⟩:=hs.sz;generalize hW:(s 0).Z.toNat=W;generalize hH:(s 1).Z.toNat / 2=H;have eW:(s 0).Z=W:=ac;have eH:(s 1).Z=(2*H:Nat):=ac
 have n2:(s 2).N=W*(2*H):=by
  have:((s 2).N:Int)=((W*(2*H):Nat):Int):=by rw[a5,eW,eH];rfl
  exact Int.ofNat.inj this
 have q:∀n:Nat,(n:Int)=(s 0).Z / 2*((s 1).Z / 2)->n=W / 2*H/\H=2*(H / 2):=λn hn=>by
  refine⟨?_,ac⟩
  have:(n:Int)=((W / 2*H:Nat):Int):=by
   rw[hn,eW,eH,show((2*H:Nat):Int) / 2=(H:Int) by omega]
   rfl
  exact Int.ofNat.inj this
 obtain⟨n3,eh⟩:=q _ a6;obtain⟨n4,-⟩:=q _ a7
 have e:∀p:Nat,dP [s 0,s 1,s 2,s 3,s 4,.i (p:Int)]=[.i W,.i H,.l (W*H) (rz (A1 (s 2).G (p*W) (2*W) W)),.l (W / 2*(H / 2)) (rz (A1 (s 3).G (p*(W / 2)) W (W / 2))),.l (W / 2*(H / 2)) (rz (A1 (s 4).G (p*(W / 2)) W (W / 2))),.i 0]:=λp=>by rw[<-hW,<-hH];rfl
 have e0:=e 0;have e1:=e 1;rw[show(((0:Nat):Nat):Int)=0 from rfl]at e0;rw[show(((1:Nat):Nat):Int)=1 from rfl]at e1;rw[e0]at h0;rw[e1]at h1;have w2:W=2*(W / 2):=ac;have f0:(A 0).Z=W:=h0.w;have f1:(A 1).Z=H:=h0.h
 have ew:rM A=[.i W,.i (2*H:Nat),.l (W*(2*H)) (rz (U7 (A 2).G (A 7).G W)),.l (W / 2*H) (rz (U7 (A 3).G (A 8).G (W / 2))),.l (W / 2*H) (rz (U7 (A 4).G (A 9).G (W / 2))),.i 0]:=by unfold rM;rw[f0,f1,Int.toNat_natCast,Int.toNat_natCast]
 rw[ew];refine⟨eW.symm,eH.symm,n2.symm,n3.symm,n4.symm,?_,?_,?_⟩
 .show Nr B (s 2).N (rz (U7 (A 2).G (A 7).G W)) (s 2).G;rw[n2];exact agl ac h0.a h1.a
 .show Nr B (s 3).N (rz (U7 (A 3).G (A 8).G (W / 2))) (s 3).G;rw[n3,eh];have k0:=h0.b;have k1:=h1.b;refine agl ac ?_ ?_
  .rw[<-w2];exact k0
  .rw[<-w2];exact k1
 .show Nr B (s 4).N (rz (U7 (A 4).G (A 9).G (W / 2))) (s 4).G;rw[n4,eh];have k0:=h0.c;have k1:=h1.c;refine agl ac ?_ ?_
  .rw[<-w2];exact k0
  .rw[<-w2];exact k1
structure MfB (J:ae) (B:Int):Prop where
 q1:1<=(J 28).Z
 q2:(J 28).Z<=31
 m1:∀i,i<64->8<=(J 23).F i/\(J 23).F i<=255
 m2:∀i,i<64->8<=(J 24).F i/\(J 24).F i<=255
 b1:∀i,i<64->bdF (J 23).F (J 28).Z i<=B
 b2:∀i,i<64->bdF (J 24).F (J 28).Z i<=B
 s:RwB (eE J) 0
 r0:RwB J 1
 r1:RwB J 6
 r2:RwB J 11
theorem akn {J:ae} {B:Int} (h:MfB J B) (hp:uC (pL J 3 (eE J))):FrN B (cw (oJ (pL J 3 (eE J))) 0 35 k14) 0 (eE J) 0:=by have k:=afW (J:=K9 (pL J 3 (eE J))) (B:=B) ⟨kmp h.q1,kmp h.q2,kmp h.m1,kmp h.m2,kmp h.b1,kmp h.b2,kmp h.s,kmp h.r0,kmp h.r1,kmp h.r2⟩ hp.pic;exact⟨kmp k.w,kmp k.h,kmp k.n2,kmp k.n3,kmp k.n4,kmp k.a,kmp k.b,kmp k.c⟩
theorem akA {J:ae} {B:Int} (h:MfB J B) (p:Int) (hp01:p=0\/p=1) (hp:BP J p):FrN B (zu J p) 0 (vU J p) 0/\FrN B (Jz J p) 0 (vU J (1-p)) 0:=by
 have hs:∀q:Int,0<=q/\q<=1->dp (ak (eE J) [.i q])->RwB (vU J q) 0:=λq hq hf=>(af6 (f:=ak (eE J) [.i q]) ⟨hf.1,kmp h.s⟩ hf.2 (kmp hq)).2;have s1:=hs p ac hp.a;have s2:=hs (1-p) ac hp.b
 have k:FrN B (zu J p) 0 (vU J p) 0:=by have k:=afW (J:=K9 (pL J (1+p) (vU J p))) (B:=B) ⟨kmp h.q1,kmp h.q2,kmp h.m1,kmp h.m2,kmp h.b1,kmp h.b2,kmp s1,kmp h.r0,kmp h.r1,kmp h.r2⟩ hp.c.pic;exact⟨kmp k.w,kmp k.h,kmp k.n2,kmp k.n3,kmp k.n4,kmp k.a,kmp k.b,kmp k.c⟩
 refine⟨k,?_⟩;have rb:=k.by_;have k:=afW (J:=K9 (Qg J (2-p) (vU J (1-p)) (zu J p))) (B:=B) ⟨kmp h.q1,kmp h.q2,kmp h.m1,kmp h.m2,kmp h.b1,kmp h.b2,kmp s2,kmp h.r0,kmp h.r1,kmp rb⟩ hp.d.pic;exact⟨kmp k.w,kmp k.h,kmp k.n2,kmp k.n3,kmp k.n4,kmp k.a,kmp k.b,kmp k.c⟩
theorem ahP {J:ae} {B:Int} (h:MfB J B) (hp:Rm J):FrN B (rp J) 0 (eE J) 0:=by
 cases e:(J 25).X
 .rw[show rp J=cw (oJ (pL J 3 (eE J))) 0 35 k14 from A8 e _ _];exact akn h (hp.one e)
 .have q:=hp.two e
  have key:∀p:Int,p=0\/p=1->BP J p->rp J=Mp J p->FrN B (rp J) 0 (eE J) 0:=λp hp hq hw=>by
   obtain⟨k1,k2⟩:=akA h p hp hq;have fb:FrB (eE J):=⟨kmp hq.a.1,h.s⟩;have h4:((eE J) 1).Z % 4=0:=kmp hq.a.2
   have z:FrN B (N5 J p) 0 (dP [(eE J) 0,(eE J) 1,(eE J) 2,(eE J) 3,(eE J) 4,.i 0]) 0/\FrN B (N5 J p) 5 (dP [(eE J) 0,(eE J) 1,(eE J) 2,(eE J) 3,(eE J) 4,.i 1]) 0:=by
    rcases hp with e | e
    .subst e;exact⟨⟨kmp k1.w,kmp k1.h,kmp k1.n2,kmp k1.n3,kmp k1.n4,kmp k1.a,kmp k1.b,kmp k1.c⟩,⟨kmp k2.w,kmp k2.h,kmp k2.n2,kmp k2.n3,kmp k2.n4,kmp k2.a,kmp k2.b,kmp k2.c⟩⟩
    .subst e;exact⟨⟨kmp k2.w,kmp k2.h,kmp k2.n2,kmp k2.n3,kmp k2.n4,kmp k2.a,kmp k2.b,kmp k2.c⟩,⟨kmp k1.w,kmp k1.h,kmp k1.n2,kmp k1.n3,kmp k1.n4,kmp k1.a,kmp k1.b,kmp k1.c⟩⟩
   have k:=ahM fb h4 z.1 z.2;rw[hw];exact⟨kmp k.w,kmp k.h,kmp k.n2,kmp k.n3,kmp k.n4,kmp k.a,kmp k.b,kmp k.c⟩
  cases e2:(J 27).X
  .rw[e2]at q;exact key 1 (.inr rfl) q (by unfold rp;rw[e,e2];rfl)
  .rw[e2]at q;exact key 0 (.inl rfl) q (by unfold rp;rw[e,e2];rfl)
end Go.Proofs.YtldmjbgplgoedaaGreatDoor
namespace Go.Proofs.YtldmjbgplgoedaaGreatDoor
noncomputable section
open Go.RowKit U
def tyZ (J:ae) (j:Nat):Int:=(((J 10).G j) 0).Z
structure EcA (J:ae):Prop where
 vs:vsB J 0=true
 opt:(J 4).X=true\/((J 11).X=false/\(J 13).X=true)
 N:(J 10).N=(J 9).N/\1<=(J 9).N
 ty:∀i,i<(J 9).N->1<=tyZ J i/\tyZ J i<=3
 t0:tyZ J 0=1
 tN:tyZ J ((J 9).N-1)≠3
 fr:∀i,i<(J 9).N->Fm ((J 9).G i) 0 (J 0).Z (J 1).Z
theorem abi {J:ae} (h:ecB J=true):EcA J:=by unfold ecB at h;simp only[Bool.and_eq_true,Bool.or_eq_true,Bool.not_eq_true',decide_eq_true_eq]at h;obtain⟨h1,h2,h3,h4⟩:=h;obtain⟨p1,p2,p3,p4,p5⟩:=of_decide_eq_true h2;exact⟨h1,h3,⟨p2,p1⟩,p3,p4,p5,λi hi=>szB_fm.1 (h4 i hi)⟩
def pO (l:ae) (o:Nat):ae:=cw l o 30 700138760936544545724998217
def cK (M:ae):ae:=ak (cw M 0 15 k23) [.s (M 16).O (M 16).N]
structure KS (J C:ae):Prop where
 vs:vsB C 0=true
 opt:(C 4).X=true\/((C 9).X=false/\(C 11).X=true)
 W:(C 0).Z=(J 0).Z
 H:(C 1).Z=(J 1).Z
 fN:(C 13).N=(J 9).N
 fG:(C 13).G=(J 9).G
 tN:(C 14).N=(J 9).N
 tG:(C 14).G=(J 10).G
 rO:(C 15).O=0
 rN:(C 15).N=(J 9).N
 m1:(C 7).F=(J 7).F
 m2:(C 8).F=(J 8).F
 q:(C 12).Z=(J 14).Z
structure MS (J M:ae) (k c:Nat):Prop where
 ks:KS J (cK M)
 it:(M 15).O=0/\(M 15).N=(M 28).N
 its:ItS (M 28).N (M 28).G k c
 re:(M 29).N=(J 9).N
 r1:(M 17).Z=0\/Fm M 17 (J 0).Z (J 1).Z
 r2:(M 22).Z=0\/Fm M 22 (J 0).Z (J 1).Z
theorem ItS.le {N:Nat} {G:Nat->ae} {n c n' c':Nat} (h:ItS N G n c) (h1:n<=n') (h2:c<=c'):ItS N G n' c':=⟨Nat.le_trans h.1 h1,h.2.1,Nat.le_trans h.2.2 h2⟩
theorem MS.le {J M:ae} {k c k' c':Nat} (h:MS J M k c) (h1:k<=k') (h2:c<=c'):MS J M k' c':=⟨h.ks,h.it,h.its.le h1 h2,h.re,h.r1,h.r2⟩
def fo (l:ae) (o:Nat):ae:=[.i (l o).Z,.i (l (o+1)).Z,.l (l (o+2)).N (l (o+2)).G,.l (l (o+3)).N (l (o+3)).G,.l (l (o+4)).N (l (o+4)).G]
def zer:ae:=[.i 0,.i 0,.l 0 (λ_=>[]),.l 0 (λ_=>[]),.l 0 (λ_=>[])]
def mfI (n:Int) (A B M:ae):ae:=ak [.i n,.i (A 0).Z,.i (A 1).Z,.l (A 2).N (A 2).G,.l (A 3).N (A 3).G,.l (A 4).N (A 4).G,.i (B 0).Z,.i (B 1).Z,.l (B 2).N (B 2).G,.l (B 3).N (B 3).G,.l (B 4).N (B 4).G,.i 0,.i 0,.l 0 (λ_=>[]),.l 0 (λ_=>[]),.l 0 (λ_=>[])] (pO M 0)
theorem WI {J M A B:ae} {n:Int} {k c:Nat} (hE:EcA J) (h6:(J 9).N<=6) (h:MS J M k c) (hn:0<=n) (hn2:n<(((J 9).N:Nat):Int)) (hf0:0<=(M 27).Z) (hf:(M 27).Z<=n) (hk:k+2<=40) (ha:(A 0).Z=0\/Fm A 0 (J 0).Z (J 1).Z) (hb:(B 0).Z=0\/Fm B 0 (J 0).Z (J 1).Z)
 (h1:tyZ J n.toNat≠1->(A 0).Z≠0) (h3:tyZ J n.toNat=3->(B 0).Z≠0):MfA (mfI n A B M) k c:=by
 have hi:n.toNat<(J 9).N:=ac
 have et:kg (mfI n A B M)=tyZ J n.toNat:=by have e:kg (mfI n A B M)=((((cK M) 14).G n.toNat) 0).Z:=af;rw[e,h.ks.tG];rfl
 refine⟨kmp h.ks.vs,kmp h.ks.opt,⟨kmp hn,?_,?_⟩,?_,?_,?_,kmp h.it,kmp h.its,hk,?_,?_,af,?_,?_⟩
 .rw[<-h.ks.fN]at hn2;exact kmp hn2
 .have:=h.ks.tN.trans h.ks.fN.symm;exact kmp this
 .have q:=hE.fr n.toNat hi;rw[<-h.ks.fG,<-h.ks.W,<-h.ks.H]at q;exact kmp q
 .rw[et];exact hE.ty _ hi
 .have:0<=n-(M 27).Z/\n-(M 27).Z<=1023:=ac;exact kmp this
 .rw[<-h.ks.W,<-h.ks.H]at ha;exact kmp ha
 .rw[<-h.ks.W,<-h.ks.H]at hb;exact kmp hb
 .rw[et];exact kmp h1
 .rw[et];exact kmp h3
structure EnB (J:ae) (B:Int):Prop where
 q1:1<=(J 14).Z
 q2:(J 14).Z<=31
 m1:∀i,i<64->8<=(J 7).F i/\(J 7).F i<=255
 m2:∀i,i<64->8<=(J 8).F i/\(J 8).F i<=255
 b1:∀i,i<64->bdF (J 7).F (J 14).Z i<=B
 b2:∀i,i<64->bdF (J 8).F (J 14).Z i<=B
 fr:∀i,i<(J 9).N->RwB ((J 9).G i) 0
def RB (J M:ae) (d:Nat->Prop):Prop:=∀B,EnB J B->(RwB M 17/\RwB M 22)/\∀j,j<(J 9).N->d j->FrN B ((M 29).G j) 0 ((J 9).G j) 0
theorem ai2 {J M A B' f:ae} {n B:Int} {m:Nat} {g:Nat->ae} (hE:EnB J B) (hk:KS J (cK M)) (ha:RwB A 0) (hb:RwB B' 0) (hn:n.toNat<(J 9).N) (hP:Rm (mfI n A B' M)) (hw:rp (mfI n A B' M)=mfO (mfI n A B' M) f m g):FrN B (fo (mfO (mfI n A B' M) f m g) 0) 0 ((J 9).G n.toNat) 0:=by
 have e:eE (mfI n A B' M)=cZ (((cK M) 13).G n.toNat):=af;have k:=ahP (J:=mfI n A B' M) (B:=B) ⟨?_,?_,?_,?_,?_,?_,?_,kmp ha,kmp hb,?_⟩ hP
 .rw[hw,e,hk.fG]at k;generalize (J 9).G n.toNat=S at *;exact⟨kmp k.w,kmp k.h,kmp k.n2,kmp k.n3,kmp k.n4,kmp k.a,kmp k.b,kmp k.c⟩
 .have:=hE.q1;rw[<-hk.q]at this;exact kmp this
 .have:=hE.q2;rw[<-hk.q]at this;exact kmp this
 .have:=hE.m1;rw[<-hk.m1]at this;exact kmp this
 .have:=hE.m2;rw[<-hk.m2]at this;exact kmp this
 .have:=hE.b1;rw[<-hk.m1,<-hk.q]at this;exact kmp this
 .have:=hE.b2;rw[<-hk.m2,<-hk.q]at this;exact kmp this
 .rw[e,hk.fG];have:=hE.fr n.toNat hn;generalize (J 9).G n.toNat=S at *;exact kmp this
 .exact⟨λi h=>absurd h (Nat.not_lt_zero i),λi h=>absurd h (Nat.not_lt_zero i),λi h=>absurd h (Nat.not_lt_zero i)⟩
theorem afT:RwB zer 0:=⟨λi h=>absurd h (Nat.not_lt_zero i),λi h=>absurd h (Nat.not_lt_zero i),λi h=>absurd h (Nat.not_lt_zero i)⟩
def mfM (r:ae) (V:Nat->ae):ae:=ak (cw r 5 28 3797488838518141094240841) [.l (r 34).N (r 34).G,.l (r 33).N V]
def mfR (r U:ae) (V:Nat->ae):ae:=ak (cw r 5 17 1603176325489225) [.i (r 27).Z,.i (r 28).Z,.l (r 29).N (r 29).G,.l (r 30).N (r 30).G,.l (r 31).N (r 31).G,.i (U 0).Z,.i (U 1).Z,.l (U 2).N (U 2).G,.l (U 3).N (U 3).G,.l (U 4).N (U 4).G,.i (r 32).Z,.l (r 34).N (r 34).G,.l (r 33).N V]
theorem Cm {J M A B f:ae} {n:Int} {m:Nat} {g V:Nat->ae} {k c k' c':Nat} (h:MS J M k c) (hi:ItS m g k' c'):MS J (mfM (mfO (mfI n A B M) f m g) V) k' c' :=⟨kmp h.ks,⟨af,af⟩,kmp hi,kmp h.re,kmp h.r1,kmp h.r2⟩
theorem Wk {J M A B f U:ae} {n:Int} {m:Nat} {g V:Nat->ae} {k c k' c':Nat} (h:MS J M k c) (hi:ItS m g k' c') (hU:Fm U 0 (J 0).Z (J 1).Z):MS J (mfR (mfO (mfI n A B M) f m g) U V) k' c' :=⟨kmp h.ks,⟨af,af⟩,kmp hi,kmp h.re,kmp h.r2,.inr (kmp hU)⟩
theorem afY {J M A B' f:ae} {n:Int} {m:Nat} {g V:Nat->ae} {d d':Nat->Prop} (h:RB J M d) (hk:KS J (cK M)) (ha:RwB M 17->RwB M 22->RwB A 0) (hb:RwB M 17->RwB M 22->RwB B' 0) (hn0:0<=n) (hn:n<(((J 9).N:Nat):Int)) (hP:Rm (mfI n A B' M)) (hw:rp (mfI n A B' M)=mfO (mfI n A B' M) f m g)
 (hV:∀j,V j=if j=n.toNat then fo (mfO (mfI n A B' M) f m g) 0 else(M 29).G j) (hd:∀j,d' j->j≠n.toNat->d j):∀B,EnB J B->((RwB M 17/\RwB M 22)/\RwB (fo (mfO (mfI n A B' M) f m g) 0) 0)/\∀j,j<(J 9).N->d' j->FrN B (V j) 0 ((J 9).G j) 0:=λB hB=>by
 obtain⟨⟨r1,r2⟩,hr⟩:=h B hB;have k:=ai2 hB hk (ha r1 r2) (hb r1 r2) ac hP hw;refine⟨⟨⟨r1,r2⟩,k.by_⟩,λj hj hdj=>?_⟩;rw[hV]
 by_cases e:j=n.toNat
 .rw[if_pos e,e];exact k
 .rw[if_neg e];exact hr j hj (hd j hdj e)
def grI (b:Bool) (z:Int):ae:=[.i 2,.i 0,.i 0,.i 0,.i 0,.b false,.i 0,.i 0,.f (λ_=>0),.f (λ_=>0),.b b,.b false,.i z,.i 0,.i 0,.i 0,.b false,.b false,.b false,.l 0 (λ_=>[]),.l 0 (λ_=>[]),.i 0]
theorem Vf {N:Nat} {G:Nat->ae} {k c:Nat} {b:Bool} {z:Int} (h:ItS N G k c) (h0:0<=z) (h1:z<=16777215):ItS (N+1) (aE N G λ_=>grI b z) (k+1) (c+12) :=h.add (.inr (.inl ⟨rfl,h0,h1⟩)) rfl (RA rfl)
theorem VZ {m:ae} (h:(m 0).Z=1) (hv:vsB m 1=true) (h0:(m 21).Z=0):ItS 1 (λ_=>m) 1 298:=by have q:ItS 0 (λ_=>m) 0 0:=⟨Nat.le_refl _,λi hi=>absurd hi (Nat.not_lt_zero i),Nat.le_refl _⟩;have:=q.add (.inl ⟨h,hv⟩) h0 (SS h);have e:aE 0 (λ_=>m) (λ_=>m)=λ_=>m:=funext λi=>if_neg (Nat.not_lt_zero i);rw[e]at this;exact this
structure TyW (J:ae) (N:Nat) (G:Nat->ae) (n:Int):Prop where
 N:N=(J 9).N
 G:G=(J 10).G
 n:n=(((J 9).N:Nat):Int)
structure E0 (J l:ae):Prop where
 ty:TyW J (l 1).N (l 1).G (l 2).Z
 b:0<=(l 0).Z/\(l 0).Z<=(l 3).Z/\(l 3).Z<=(((J 9).N:Nat):Int)
 bs:∀j:Nat,(l 3).Z-(l 0).Z<=(j:Int)->(j:Int)<(l 3).Z->tyZ J j=3
 fi:0<=(l 32).Z/\(l 32).Z<=(l 3).Z-(l 0).Z
 st:(l 3).Z=0\/((l 0).Z<(l 3).Z/\(l 27).Z≠0)
 m:MS J (pO l 5) (1+3*((l 3).Z-(l 0).Z).toNat) (298+98456*((l 3).Z-(l 0).Z).toNat)
 rb:RB J (pO l 5) λj=>(j:Int)<(l 3).Z-(l 0).Z
structure E1 (J:ae) (i:Int) (l:ae):Prop where
 ty:TyW J (l 2).N (l 2).G (l 3).Z
 n:(l 1).Z=i/\(l 4).Z=i
 b:0<=(l 0).Z/\(l 0).Z<=i/\i<(((J 9).N:Nat):Int)
 bs:∀j:Nat,i-(l 0).Z<=(j:Int)->(j:Int)<i->tyZ J j=3
 fi:0<=(l 33).Z/\(l 33).Z<=i-(l 0).Z
 nw:tyZ J i.toNat≠1\/0<(l 0).Z->(l 28).Z≠0
 t:tyZ J i.toNat≠3
 m:MS J (pO l 6) (2+3*(i-(l 0).Z).toNat) (310+98456*(i-(l 0).Z).toNat)
 rb:RB J (pO l 6) λj=>(j:Int)<i-(l 0).Z
structure E2 (J:ae) (i:Int) (l:ae):Prop where
 ty:TyW J (l 2).N (l 2).G (l 3).Z
 n:(l 0).Z=i/\(l 4).Z=i/\i<(((J 9).N:Nat):Int)
 k:0<=(l 1).Z/\(l 1).Z<=i
 bs:∀j:Nat,(l 1).Z<=(j:Int)->(j:Int)<i->tyZ J j=3
 fi:0<=(l 33).Z/\(l 33).Z<=(l 1).Z
 ol:(l 1).Z<i->(l 23).Z≠0
 nw:(l 28).Z≠0
 m:MS J (pO l 6) (4+3*(l 1).Z.toNat) (98754+98456*(l 1).Z.toNat)
 rb:RB J (pO l 6) λj=>(j:Int)<(l 1).Z\/(j:Int)=i
theorem ab9 {t:T} {y:Wy} {Q:ae->Prop} (h:Sa1 t (λl=>(hd l).Z=0/\Q (tl l))):Sa t (λl=>(hd l).Z=0/\agW KX y (tl l) (tl (evW t))):=⟨dg (λl ⟨h1,h2⟩=>⟨h2.1,by rw[h1];exact⟨iE _ _,bI _ _⟩⟩) (T.sat1_W h.out)⟩
theorem VV {g:Nat->ae} {x y:Nat} (v:ae) (h:y=x):upd g x v y=v:=if_pos h
end
end Go.Proofs.YtldmjbgplgoedaaGreatDoor
