import Derived.Test.YtldmjbgplgoedaaGreatDoorRp26
set_option linter.all false
namespace Go.Proofs.YtldmjbgplgoedaaGreatDoor
noncomputable section
open Go.RowKit U
theorem Ad {c W H:Int} {N:Nat} (hN:(N:Int)=W*H) (h0:0<=c) (h1:c<=H-1) (hW:0<=W):(c*W).toNat<=N/\W.toNat<=N-(c*W).toNat/\(c*W).toNat+W.toNat<=N:=by
 have h:=Int.mul_le_mul_of_nonneg_right (show c+1<=H by omega) hW
 rw[Int.add_mul,Int.one_mul,Int.mul_comm H W,<-hN]at h;have:=Int.mul_nonneg h0 hW;omega
def Yy (J:ae):Prop:=((J 5).N:Int)=(J 3).Z*(J 4).Z
abbrev rH:SP:=mkS ⟨[aD 0 65280],[]⟩ 375 Tryz.f375 [.tX (.sA lh),.tX (.sA adT),aj 0 1073741824] [] [(5,.head ⟨[(2,aj 0 1073741824),(3,tXO (.nP 0 0)),(7,aj (-63) 159),(8,aj (-63) 159),(9,aj 2 64),(10,aj (-1099511627776) 1099511627776),(37,aj 8 16),(38,aj 0 1048576)],[.run 420 lh],[]⟩),(10,.head ⟨[(2,aj 0 1073741824),(3,tXO (.nP 0 0)),(7,aj (-63) 159),(8,aj (-63) 159),(9,aj 2 64),(10,aj (-4611686018427387904) 4611686018427387904),(11,aj 0 1048576),(12,tXO (.nR 0 2 64 0 g0)),(13,tXO (.nR 0 2 64 0 g0)),(37,aj 8 16),(38,aj 0 1048576),(74,aj 0 1048576)],[.run 420 lh],[]⟩)] [] [(aw 384 Tryz.f384)]
theorem Dr J R:TR1 rH J R (∃(I0:ae->Prop) (μ0:ae->Nat),I0 [.i (J 10).Z,.i ((2*(J 1).Z)+(J 8).Z),.i ((2*(J 2).Z)+(J 9).Z),.i (J 3).Z,.i 0,.i (Int.tdiv (((J 0).N:Nat):Int) 16),.i 0,.l (J 0).N (J 0).G,.i (J 1).Z,.i (J 2).Z,.i (J 3).Z,.i (J 4).Z,.l (J 5).N (J 5).G,.l (J 6).N (J 6).G,.l (J 7).N (J 7).G]/\∀l0,I0 l0->((decide ((l0 6).Z<(l0 5).Z))->(((min (max (((l0 2).Z / 2)+(l0 6).Z) 0) ((l0 11).Z-1))*(l0 3).Z).toNat<=(l0 12).N)/\((l0 3).Z.toNat<=((l0 12).N-((min (max (((l0 2).Z / 2)+(l0 6).Z) 0) ((l0 11).Z-1))*(l0 3).Z).toNat))/\(((min (max ((((l0 2).Z+1) / 2)+(l0 6).Z) 0) ((l0 11).Z-1))*(l0 3).Z).toNat<=(l0 12).N)/\((l0 3).Z.toNat<=((l0 12).N-((min (max ((((l0 2).Z+1) / 2)+(l0 6).Z) 0) ((l0 11).Z-1))*(l0 3).Z).toNat))/\∃(I1:ae->Prop) (μ1:ae->Nat),I1 [.i (l0 0).Z,.i (l0 1).Z,.i (l0 2).Z,.i (l0 3).Z,.i (l0 4).Z,.i (l0 6).Z,.l ((l0 3).Z.toNat-0) (λi0=>(l0 12).G ((i0+0)+((min (max (((l0 2).Z / 2)+(l0 6).Z) 0) ((l0 11).Z-1))*(l0 3).Z).toNat)),.l ((l0 3).Z.toNat-0) (λi0=>(l0 12).G ((i0+0)+((min (max ((((l0 2).Z+1) / 2)+(l0 6).Z) 0) ((l0 11).Z-1))*(l0 3).Z).toNat)),.i (l0 5).Z,.i (l0 6).Z,.i 0,.l (l0 7).N (l0 7).G,.i (l0 8).Z,.i (l0 9).Z,.i (l0 10).Z,.i (l0 11).Z,.l (l0 12).N (l0 12).G,.l (l0 13).N (l0 13).G,.l (l0 14).N (l0 14).G]/\∀l1,I1 l1->((decide ((l1 10).Z<16))->((min (max (((l1 1).Z / 2)+(l1 10).Z) 0) ((l1 3).Z-1))<(((l1 6).N:Nat):Int))/\((min (max ((((l1 1).Z+1) / 2)+(l1 10).Z) 0) ((l1 3).Z-1))<(((l1 6).N:Nat):Int))/\((min (max (((l1 1).Z / 2)+(l1 10).Z) 0) ((l1 3).Z-1))<(((l1 7).N:Nat):Int))/\((min (max ((((l1 1).Z+1) / 2)+(l1 10).Z) 0) ((l1 3).Z-1))<(((l1 7).N:Nat):Int))/\((((l1 5).Z*16)+(l1 10).Z)<(((l1 11).N:Nat):Int))/\((-4611686018427387904)<=((l1 4).Z+(max ((((l1 11).G (((l1 5).Z*16)+(l1 10).Z).toNat) 0).Z-((((((((l1 6).G (min (max (((l1 1).Z / 2)+(l1 10).Z) 0) ((l1 3).Z-1)).toNat) 0).Z+(((l1 6).G (min (max ((((l1 1).Z+1) / 2)+(l1 10).Z) 0) ((l1 3).Z-1)).toNat) 0).Z)+(((l1 7).G (min (max (((l1 1).Z / 2)+(l1 10).Z) 0) ((l1 3).Z-1)).toNat) 0).Z)+(((l1 7).G (min (max ((((l1 1).Z+1) / 2)+(l1 10).Z) 0) ((l1 3).Z-1)).toNat) 0).Z)+2) / 4)) (-((((l1 11).G (((l1 5).Z*16)+(l1 10).Z).toNat) 0).Z-((((((((l1 6).G (min (max (((l1 1).Z / 2)+(l1 10).Z) 0) ((l1 3).Z-1)).toNat) 0).Z+(((l1 6).G (min (max ((((l1 1).Z+1) / 2)+(l1 10).Z) 0) ((l1 3).Z-1)).toNat) 0).Z)+(((l1 7).G (min (max (((l1 1).Z / 2)+(l1 10).Z) 0) ((l1 3).Z-1)).toNat) 0).Z)+(((l1 7).G (min (max ((((l1 1).Z+1) / 2)+(l1 10).Z) 0) ((l1 3).Z-1)).toNat) 0).Z)+2) / 4))))))/\(((l1 4).Z+(max ((((l1 11).G (((l1 5).Z*16)+(l1 10).Z).toNat) 0).Z-((((((((l1 6).G (min (max (((l1 1).Z / 2)+(l1 10).Z) 0) ((l1 3).Z-1)).toNat) 0).Z+(((l1 6).G (min (max ((((l1 1).Z+1) / 2)+(l1 10).Z) 0) ((l1 3).Z-1)).toNat) 0).Z)+(((l1 7).G (min (max (((l1 1).Z / 2)+(l1 10).Z) 0) ((l1 3).Z-1)).toNat) 0).Z)+(((l1 7).G (min (max ((((l1 1).Z+1) / 2)+(l1 10).Z) 0) ((l1 3).Z-1)).toNat) 0).Z)+2) / 4)) (-((((l1 11).G (((l1 5).Z*16)+(l1 10).Z).toNat) 0).Z-((((((((l1 6).G (min (max (((l1 1).Z / 2)+(l1 10).Z) 0) ((l1 3).Z-1)).toNat) 0).Z+(((l1 6).G (min (max ((((l1 1).Z+1) / 2)+(l1 10).Z) 0) ((l1 3).Z-1)).toNat) 0).Z)+(((l1 7).G (min (max (((l1 1).Z / 2)+(l1 10).Z) 0) ((l1 3).Z-1)).toNat) 0).Z)+(((l1 7).G (min (max ((((l1 1).Z+1) / 2)+(l1 10).Z) 0) ((l1 3).Z-1)).toNat) 0).Z)+2) / 4)))))<=4611686018427387904)/\(((l1 10).Z+1)<=1048576)/\let k2:=(min (max (((l1 1).Z / 2)+(l1 10).Z) 0) ((l1 3).Z-1)).toNat;let k1:=(min (max ((((l1 1).Z+1) / 2)+(l1 10).Z) 0) ((l1 3).Z-1)).toNat;let k0:=(((l1 11).G (((l1 5).Z*16)+(l1 10).Z).toNat) 0).Z-((((((((l1 6).G k2) 0).Z+(((l1 6).G k1) 0).Z)+(((l1 7).G k2) 0).Z)+(((l1 7).G k1) 0).Z)+2) / 4);Ag I1 μ1 l1 [.i (l1 0).Z,.i (l1 1).Z,.i (l1 2).Z,.i (l1 3).Z,.i ((l1 4).Z+(max k0 (-k0))),.i (l1 5).Z,.l (l1 6).N (l1 6).G,.l (l1 7).N (l1 7).G,.i (l1 8).Z,.i (l1 9).Z,.i ((l1 10).Z+1),.l (l1 11).N (l1 11).G,.i (l1 12).Z,.i (l1 13).Z,.i (l1 14).Z,.i (l1 15).Z,.l (l1 16).N (l1 16).G,.l (l1 17).N (l1 17).G,.l (l1 18).N (l1 18).G])/\((decide ((l1 10).Z<16))=false->((decide ((l1 0).Z<=(l1 4).Z))->(0<=(l1 4).Z)/\((l1 4).Z<=65280)/\R [.i 0,.i (l1 4).Z])/\((decide ((l1 0).Z<=(l1 4).Z))=false->((-1099511627776)<=(l1 4).Z)/\((l1 4).Z<=1099511627776)/\(((l1 9).Z+1)<=1048576)/\Ag I0 μ0 l0 [.i (l1 0).Z,.i (l1 1).Z,.i (l1 2).Z,.i (l1 3).Z,.i (l1 4).Z,.i (l1 8).Z,.i ((l1 9).Z+1),.l (l1 11).N (l1 11).G,.i (l1 12).Z,.i (l1 13).Z,.i (l1 14).Z,.i (l1 15).Z,.l (l1 16).N (l1 16).G,.l (l1 17).N (l1 17).G,.l (l1 18).N (l1 18).G])))/\((decide ((l0 6).Z<(l0 5).Z))=false-> (0<=(l0 4).Z)/\((l0 4).Z<=65280)/\R [.i 0,.i (l0 4).Z])):=af
def ZZ (J:ae):ae:=tl (evW (TS rH J))
theorem XS:PFd rH Yy:=λJ b1 b2 hp=>⟨by
 rw[Dr];obtain⟨⟨c0,c1,c2,c3,c4,c5,-⟩,-⟩:=b1;have c0a:128<=(J 0).N:=c0.1;have c0b:(J 0).N<=256:=c0.2.1;have c1a:0<=(J 1).Z:=c1.1;have c1b:(J 1).Z<=48:=c1.2;have c2a:0<=(J 2).Z:=c2.1;have c2b:(J 2).Z<=48:=c2.2;have c3a:2<=(J 3).Z:=c3.1;have c3b:(J 3).Z<=64:=c3.2;have c4a:2<=(J 4).Z:=c4.1;have c4b:(J 4).Z<=64:=c4.2;have c0c:∀i,i<(J 0).N->0<=cel (J 0).G i/\cel (J 0).G i<=255:=λi hi=>(c0.2.2 i hi).1;have c5c:∀i,i<(J 5).N->0<=cel (J 5).G i/\cel (J 5).G i<=255:=λi hi=>(c5.2.2 i hi).1;clear c0 c1 c2 c3 c4 c5;have hp:((J 5).N:Int)=(J 3).Z*(J 4).Z:=hp;have hd:Int.tdiv ((J 0).N:Int) 16=(((J 0).N / 16:Nat):Int):=by rw[Int.tdiv_eq_ediv_of_nonneg ac];omega
 rw[hd];unfold cel at c0c c5c;generalize (J 0).N=n at *;generalize (J 0).G=g at *;generalize (J 1).Z=x at *;generalize (J 2).Z=y at *;generalize (J 3).Z=W at *;generalize (J 4).Z=H at *;generalize (J 5).N=N at *;generalize (J 5).G=f at *;generalize (J 8).Z=vx at *;generalize (J 9).Z=vy at *;generalize (J 10).Z=lim at *
 have cY:∀c k:Int,0<=c->c<=H-1->0<=k->k<=W-1->0<=((f (k.toNat+0+(c*W).toNat)) 0).Z/\((f (k.toNat+0+(c*W).toNat)) 0).Z<=255:=λc k h0 h1 h2 h3=>by have:=(Ad hp h0 h1 ac).2.2;exact c5c _ ac
 refine aZ (n / 16) 6 (λi (s:Int)=>0<=s/\s<=4080*i) (λJ i s=>set_ (set_ J 6 (.i i)) 4 (.i s)) (λi _ _=>rfl) 0 rfl ⟨ac,ac⟩ λI μ hA j s hj hs=>?_;simp only[bA,bz,bx,bE,Z_i,X_b,F_f,O_s,N_s,N_l,G_l,ap]at hA ⊢;obtain⟨s0,s1⟩:=hs;refine br_ (λq=>?_) λq=>?_
 .have q:=ai q;obtain⟨r1,r2,-⟩:=Ad (c:=min (max ((2*y+vy) / 2+(j:Int)) 0) (H-1)) hp ac ac ac;obtain⟨r3,r4,-⟩:=Ad (c:=min (max ((2*y+vy+1) / 2+(j:Int)) 0) (H-1)) hp ac ac ac;refine⟨r1,r2,r3,r4,?_⟩;refine aZ 16 10 (λi (t:Int)=>0<=t/\t<=4080*j+255*i) (λJ i t=>set_ (set_ J 10 (.i i)) 4 (.i t)) (λi _ _=>rfl) s rfl ⟨ac,ac⟩ λI1 μ1 hA1 i t hi ht=>?_;simp only[bA,bz,bx,bE,Z_i,X_b,F_f,O_s,N_s,N_l,G_l,ap]at hA1 ⊢;obtain⟨t0,t1⟩:=ht;refine br_ (λq1=>?_) λq1=>?_
  .have q1:=ai q1;have a1:=cY (min (max ((2*y+vy) / 2+(j:Int)) 0) (H-1)) (min (max ((2*x+vx) / 2+(i:Int)) 0) (W-1)) ac ac ac ac;have a2:=cY (min (max ((2*y+vy) / 2+(j:Int)) 0) (H-1)) (min (max ((2*x+vx+1) / 2+(i:Int)) 0) (W-1)) ac ac ac ac;have a3:=cY (min (max ((2*y+vy+1) / 2+(j:Int)) 0) (H-1)) (min (max ((2*x+vx) / 2+(i:Int)) 0) (W-1)) ac ac ac ac;have a4:=cY (min (max ((2*y+vy+1) / 2+(j:Int)) 0) (H-1)) (min (max ((2*x+vx+1) / 2+(i:Int)) 0) (W-1)) ac ac ac ac;have a5:=c0c ((j:Int)*16+i).toNat ac
   revert hA1
   generalize (at_ (f _) 0).Z=m1 at *;generalize (at_ (f _) 0).Z=m2 at *;generalize (at_ (f _) 0).Z=m3 at *;generalize (at_ (f _) 0).Z=m4 at *;generalize (at_ (g _) 0).Z=m5 at *;intro hA1;exact⟨ac,ac,ac,ac,ac,ac,ac,ac,hA1 i t _ _ ac ⟨ac,ac⟩ rfl⟩
  .have q1:=aQ q1;exact br_ (λq2=>⟨ac,ac,rfl⟩) λq2=>⟨ac,ac,ac,hA j s _ _ ac ⟨ac,ac⟩ rfl⟩
 .exact⟨ac,ac,rfl⟩⟩
abbrev abl:CT:=CS 375 rH.A rH.M rH.Y Yy ZZ
theorem KB:CO abl:=CXd rH (TX trivial (FK ah)) XS
def Qu (J:ae):Prop:=((J 5).N:Int)=(J 3).Z*(J 4).Z
abbrev pd:SP:=mkS ⟨[.sA uI],[]⟩ 370 Tryz.f370 [.tX (.sA lh),.tX (.sA adT)] [] [] [abl]
theorem uq J R:TR1 pd J R (let x0:ae:=[.l (J 0).N (J 0).G,.i (J 1).Z,.i (J 2).Z,.i (J 3).Z,.i (J 4).Z,.l (J 5).N (J 5).G,.l (J 6).N (J 6).G,.l (J 7).N (J 7).G,.i (J 8).Z,.i (J 9).Z,.i 1073741824];(Yy x0)/\let x1:ae:=ZZ x0;R [.i 0,.i (J 8).Z,.i (J 9).Z,.i (x1 0).Z]):=af
def ag8 (J:ae):ae:=tl (evW (TS pd J))
theorem Xz:PFd pd Qu:=λJ b1 b2 hp=>⟨by rw[uq];exact⟨hp,rfl⟩⟩
abbrev Zn:CT:=CS 370 pd.A pd.M pd.Y Qu ag8
theorem yY:CO Zn:=CXd pd (TX ⟨KB,ah⟩ ah) Xz
def Jo (J:ae):Prop:=((J 5).N:Int)=(J 3).Z*(J 4).Z
abbrev qM:SP:=mkS ⟨[.sA uI],[]⟩ 409 Tryz.f409 [.tX (.sA lh),.tX (.sA uI),aj (-4398046511104) 4398046511104,aj (-4398046511104) 4398046511104] [] [] [abl]
theorem te J R:TR1 qM J R (BR (decide (63<(max (J 11).Z (-(J 11).Z)))) (R [.i 0,.i (J 8).Z,.i (J 9).Z,.i (J 10).Z]) (BR (decide (63<(max (J 12).Z (-(J 12).Z)))) (R [.i 0,.i (J 8).Z,.i (J 9).Z,.i (J 10).Z]) (((-63)<=(J 11).Z)/\((J 11).Z<=63)/\((-63)<=(J 12).Z)/\((J 12).Z<=63)/\let x0:ae:=[.l (J 0).N (J 0).G,.i (J 1).Z,.i (J 2).Z,.i (J 3).Z,.i (J 4).Z,.l (J 5).N (J 5).G,.l (J 6).N (J 6).G,.l (J 7).N (J 7).G,.i (J 11).Z,.i (J 12).Z,.i (J 10).Z];(Yy x0)/\let x1:ae:=ZZ x0;BR (decide ((x1 0).Z<(J 10).Z)) (((-63)<=(J 11).Z)/\((J 11).Z<=63)/\((-63)<=(J 12).Z)/\((J 12).Z<=63)/\R [.i 0,.i (J 11).Z,.i (J 12).Z,.i (x1 0).Z]) (R [.i 0,.i (J 8).Z,.i (J 9).Z,.i (J 10).Z])))):=af
def wb (J:ae):ae:=tl (evW (TS qM J))
theorem Vr:PFd qM Jo:=λJ b1 b2 hp=>⟨by rw[te];refine br_ (λq=>rfl) λq=>br_ (λq1=>rfl) λq1=>?_;have q:=aQ q;have q1:=aQ q1;exact⟨ac,ac,ac,ac,hp,λ_=>⟨ac,ac,ac,ac,rfl⟩,λ_=>rfl⟩⟩
abbrev Z2:CT:=CS 409 qM.A qM.M qM.Y Jo wb
theorem IJ:CO Z2:=CXd qM (TX ⟨KB,ah⟩ ah) Vr
def Zh (J:ae):Prop:=((J 5).N:Int)=(J 3).Z*(J 4).Z
abbrev qB:SP:=mkS ⟨[.sA uI],[]⟩ 408 Tryz.f408 [.tX (.sA []),.tX (.sA lh),.tX (.sA adT)] [] [(6,.unroll 70),(3,.head ⟨[(4,tXO (.nP 0 0)),(6,tXO (.nP 1 0)),(7,tXO (.nP 2 0)),(14,aj 0 1048576)],[.run 420 lh,.run 424 [r32],.run 424 uI],[]⟩)] [Zn,Z2]
theorem tH J R:TR1 qB J R (let x0:ae:=(cw J 0 10 160567884);(Qu x0)/\let x1:ae:=ag8 x0;∃(I0:ae->Prop) (μ0:ae->Nat),I0 [.i 0,.l (J 0).N (J 0).G,.i (J 1).Z,.i (J 2).Z,.i (J 3).Z,.i (J 4).Z,.l (J 5).N (J 5).G,.l (J 6).N (J 6).G,.l (J 7).N (J 7).G,.f (λ_=>0),.i (x1 0).Z,.i (x1 1).Z,.i (x1 2).Z]/\∀l0,I0 l0-> BR (decide ((l0 0).Z<16)) (let x2:ae:=[.l (l0 1).N (l0 1).G,.i (l0 2).Z,.i (l0 3).Z,.i (l0 4).Z,.i (l0 5).Z,.l (l0 6).N (l0 6).G,.l (l0 7).N (l0 7).G,.l (l0 8).N (l0 8).G,.i (l0 10).Z,.i (l0 11).Z,.i (l0 12).Z,.i ((l0 10).Z+1),.i ((l0 11).Z+0)];(Jo x2)/\let x3:ae:=wb x2;let x4:ae:=[.l (l0 1).N (l0 1).G,.i (l0 2).Z,.i (l0 3).Z,.i (l0 4).Z,.i (l0 5).Z,.l (l0 6).N (l0 6).G,.l (l0 7).N (l0 7).G,.l (l0 8).N (l0 8).G,.i (x3 0).Z,.i (x3 1).Z,.i (x3 2).Z,.i ((l0 10).Z+(-1)),.i ((l0 11).Z+0)];(Jo x4)/\let x5:ae:=wb x4;let x6:ae:=[.l (l0 1).N (l0 1).G,.i (l0 2).Z,.i (l0 3).Z,.i (l0 4).Z,.i (l0 5).Z,.l (l0 6).N (l0 6).G,.l (l0 7).N (l0 7).G,.l (l0 8).N (l0 8).G,.i (x5 0).Z,.i (x5 1).Z,.i (x5 2).Z,.i ((l0 10).Z+0),.i ((l0 11).Z+1)];(Jo x6)/\let x7:ae:=wb x6;let x8:ae:=[.l (l0 1).N (l0 1).G,.i (l0 2).Z,.i (l0 3).Z,.i (l0 4).Z,.i (l0 5).Z,.l (l0 6).N (l0 6).G,.l (l0 7).N (l0 7).G,.l (l0 8).N (l0 8).G,.i (x7 0).Z,.i (x7 1).Z,.i (x7 2).Z,.i ((l0 10).Z+0),.i ((l0 11).Z+(-1))];(Jo x8)/\let x9:ae:=wb x8;BR (((x9 0).Z==(l0 10).Z)&&(((x9 1).Z==(l0 11).Z)&&((x9 2).Z==(l0 12).Z))) (R [.i 0,.i (l0 10).Z,.i (l0 11).Z,.i (l0 12).Z]) ((((l0 0).Z+1)<=1048576)/\Ag I0 μ0 l0 [.i ((l0 0).Z+1),.l (l0 1).N (l0 1).G,.i (l0 2).Z,.i (l0 3).Z,.i (l0 4).Z,.i (l0 5).Z,.l (l0 6).N (l0 6).G,.l (l0 7).N (l0 7).G,.l (l0 8).N (l0 8).G,.f (l0 9).F,.i (x9 0).Z,.i (x9 1).Z,.i (x9 2).Z])) (R [.i 0,.i (l0 10).Z,.i (l0 11).Z,.i (l0 12).Z])):=af
def Yx (J:ae):ae:=tl (evW (TS qB J))
theorem Tk:PFd qB Zh:=λJ b1 b2 hp=>⟨by rw[tH];refine⟨hp,?_⟩;refine aZ 16 0 (λ_ (_:Int × Int × Int)=>True) (λs i x=>set_ (set_ (set_ (set_ s 0 (.i i)) 10 (.i x.1)) 11 (.i x.2.1)) 12 (.i x.2.2)) (λi _ _=>rfl) (_,_,_) rfl trivial λI μ hA i x hi _=>?_;refine br_ (λq=>?_) λq=>rfl;have q:(i:Int)<16:=ai q;exact⟨hp,hp,hp,hp,λ_=>rfl,λ_=>⟨show(i:Int)+1<=1048576 by omega,hA i x (_,_,_) _ ac trivial rfl⟩⟩⟩
abbrev adZ:CT:=CS 408 qB.A qB.M qB.Y Zh Yx
theorem SZ:CO adZ:=CXd qB (TX ⟨yY,IJ,ah⟩ ah) Tk
def twR (J:ae) (b:Int × Int × Int):ae:=[.l (J 0).N (J 0).G,.i (J 1).Z,.i (J 2).Z,.i (J 3).Z,.i (J 4).Z,.l (J 5).N (J 5).G,.l (J 6).N (J 6).G,.l (J 7).N (J 7).G,.f λ_=>0,.i b.1,.i b.2.1,.i b.2.2]
def twA (J:ae) (s:Int) (b:Int × Int × Int):ae:=.i s::twR J b
def twB (J:ae) (s y:Int) (b:Int × Int × Int) (c:Int × Int):ae:=.i s::.i y::(twR J b++[.i c.1,.i c.2])
def twC (J:ae) (s y x:Int) (b:Int × Int × Int) (c:Int × Int):ae:=.i s::.i y::.i x::(twR J b++[.i c.1,.i c.2])
def SR (J:ae):Prop:=((J 5).N:Int)=(J 3).Z*(J 4).Z
abbrev qv:SP:=mkS ⟨[.sA uI],[]⟩ 410 Tryz.f410 [.tX (.sA []),.tX (.sA lh),.tX (.sA adT)] [] [(3,.head ⟨[(4,tXO (.nP 0 0)),(6,tXO (.nP 1 0)),(7,tXO (.nP 2 0)),(8,aj (-1048576) 16)],[.run 420 lh,.run 424 [r32],.run 424 uI],[]⟩),(7,.head ⟨[(4,tXO (.nP 0 0)),(6,tXO (.nP 1 0)),(7,tXO (.nP 2 0)),(8,aj (-1048576) 16),(9,tXO (.nP 3 0)),(10,aj (-1099511627776) 1099511627776)],[.run 420 lh,.run 424 [r32],.run 424 uI,.run 118 adT],[]⟩),(10,.head ⟨[(4,tXO (.nP 0 0)),(6,tXO (.nP 1 0)),(7,tXO (.nP 2 0)),(8,aj (-1048576) 16),(9,tXO (.nP 3 0)),(10,aj (-1099511627776) 1099511627776),(11,aj (-1099511627776) 1099511627776)],[.run 420 lh,.run 424 [r32],.run 424 uI,.run 118 adT],[]⟩)] [Zn,Z2]
theorem uz J R:TR1 qv J R (let x0:ae:=(cw J 0 10 160567884);(Qu x0)/\let x1:ae:=ag8 x0;∃(I0:ae->Prop) (μ0:ae->Nat),I0 [.i 16,.l (J 0).N (J 0).G,.i (J 1).Z,.i (J 2).Z,.i (J 3).Z,.i (J 4).Z,.l (J 5).N (J 5).G,.l (J 6).N (J 6).G,.l (J 7).N (J 7).G,.f (λ_=>0),.i (x1 0).Z,.i (x1 1).Z,.i (x1 2).Z]/\∀l0,I0 l0-> BR (decide (0<(l0 0).Z)) (∃(I1:ae->Prop) (μ1:ae->Nat),I1 (ak [.i (l0 0).Z,.i (-(l0 0).Z)] (ak (cw l0 1 12 9857798732) [.i (l0 10).Z,.i (l0 11).Z]))/\∀l1,I1 l1-> BR (decide ((l1 1).Z<=(l1 0).Z)) (∃(I2:ae->Prop) (μ2:ae->Nat),I2 (ak [.i (l1 0).Z,.i (l1 1).Z,.i (-(l1 0).Z)] (cw l1 2 14 628333089356))/\∀l2,I2 l2-> BR (decide ((l2 2).Z<=(l2 0).Z)) (let x2:ae:=[.l (l2 3).N (l2 3).G,.i (l2 4).Z,.i (l2 5).Z,.i (l2 6).Z,.i (l2 7).Z,.l (l2 8).N (l2 8).G,.l (l2 9).N (l2 9).G,.l (l2 10).N (l2 10).G,.i (l2 12).Z,.i (l2 13).Z,.i (l2 14).Z,.i ((l2 15).Z+(l2 2).Z),.i ((l2 16).Z+(l2 1).Z)];(Jo x2)/\let x3:ae:=wb x2;((-1099511627776)<=((l2 2).Z+(l2 0).Z))/\(((l2 2).Z+(l2 0).Z)<=1099511627776)/\Ag I2 μ2 l2 [.i (l2 0).Z,.i (l2 1).Z,.i ((l2 2).Z+(l2 0).Z),.l (l2 3).N (l2 3).G,.i (l2 4).Z,.i (l2 5).Z,.i (l2 6).Z,.i (l2 7).Z,.l (l2 8).N (l2 8).G,.l (l2 9).N (l2 9).G,.l (l2 10).N (l2 10).G,.f (l2 11).F,.i (x3 0).Z,.i (x3 1).Z,.i (x3 2).Z,.i (l2 15).Z,.i (l2 16).Z]) (((-1099511627776)<=((l2 1).Z+(l2 0).Z))/\(((l2 1).Z+(l2 0).Z)<=1099511627776)/\Ag I1 μ1 l1 (ak [.i (l2 0).Z,.i ((l2 1).Z+(l2 0).Z)] (cw l2 3 14 628333089356)))) (Ag I0 μ0 l0 (ak [.i (Int.tdiv (l1 0).Z 2)] (cw l1 2 12 9857798732)))) (R [.i 0,.i (l0 10).Z,.i (l0 11).Z,.i (l0 12).Z])):=af
def QH (J:ae):ae:=tl (evW (TS qv J))
theorem SI:PFd qv SR:=λJ b1 b2 hp=>⟨by
 rw[uz];refine⟨hp,λl=>∃s b,0<=s/\s<=16/\l=twA J s b,λl=>(l 0).Z.toNat,⟨16,(_,_,_),ac,ac,rfl⟩,?_⟩;rintro _ ⟨s,b,s0,s1,rfl⟩;refine br_ (λq=>?_) λq=>rfl;have q:0<s:=ai q;refine⟨λl=>∃y b c,-s<=y/\y<=2*s/\l=twB J s y b c,λl=>(2*s+1-(l 1).Z).toNat,⟨-s,b,(b.1,b.2.1),ac,ac,rfl⟩,?_⟩;rintro _ ⟨y,b1,c,y0,y1,rfl⟩;refine br_ (λq1=>?_) λq1=>?_
 .have q1:y<=s:=ai q1;refine⟨λl=>∃x b',-s<=x/\x<=2*s/\l=twC J s y x b' c,λl=>(2*s+1-(l 2).Z).toNat,⟨-s,b1,ac,ac,rfl⟩,?_⟩;rintro _ ⟨x,b2,x0,x1,rfl⟩;refine br_ (λq2=>?_) λq2=>?_
  .have q2:x<=s:=ai q2;exact⟨hp,show(-1099511627776)<=x+s by omega,show x+s<=1099511627776 by omega,⟨x+s,(_,_,_),ac,ac,rfl⟩,show(2*s+1-(x+s)).toNat<(2*s+1-x).toNat by omega⟩
  .exact⟨show(-1099511627776)<=y+s by omega,show y+s<=1099511627776 by omega,⟨y+s,b2,c,ac,ac,rfl⟩,show(2*s+1-(y+s)).toNat<(2*s+1-y).toNat by omega⟩
 .have e:Int.tdiv s 2=s / 2:=Int.tdiv_eq_ediv_of_nonneg ac;exact⟨⟨Int.tdiv s 2,b1,ac,ac,rfl⟩,show(Int.tdiv s 2).toNat<s.toNat by omega⟩⟩
abbrev aeF:CT:=CS 410 qv.A qv.M qv.Y SR QH
theorem TB:CO aeF:=CXd qv (TX ⟨yY,IJ,ah⟩ ah) SI
end
end Go.Proofs.YtldmjbgplgoedaaGreatDoor
namespace Go.Proofs.YtldmjbgplgoedaaGreatDoor
noncomputable section
open Go.RowKit U
def pre:Nat->ae->ae
 |0,_=>[]
 |n+1,l=>hd l::pre n (tl l)
def qK:List AB->Nat
 |[]=>0
 |b::l=>nlB b+qK l
theorem AC:∀(n:Nat) (l:ae),(pre n l).length=n
 |0,_=>rfl
 |n+1,l=>by rw[pre,List.length_cons,AC n]
theorem oo:∀(a b:Nat) (l:ae),tls (a+b) l=tls b (tls a l)
 |0,b,l=>by rw[Nat.zero_add];rfl
 |a+1,b,l=>by rw[show a+1+b=(a+b)+1 by omega];exact oo a b (tl l)
theorem kd:∀(a b:Nat) (l:ae),pre (a+b) l=pre a l++pre b (tls a l)
 |0,b,l=>by rw[Nat.zero_add];rfl
 |a+1,b,l=>by
  rw[show a+1+b=(a+b)+1 by omega]
  show hd l::pre (a+b) (tl l)=_;rw[kd a b (tl l)];rfl
theorem bP (n:Nat) (l x:ae):tls n (pre n l++x)=x:=bv _ (AC n l)
theorem dQ:∀(r:Rs) (l x:ae),ax r (pre (iD r) l++x)=ax r l
 |[],_,_=>rfl
 |.c y::r,l,x=>by
  unfold ax;simp only[iD,nlV]
  cases h:eU y with
  |true =>simp only;rw[show Nat.add 1 (iD r)=iD r+1 from Nat.add_comm _ _];show _::ax r (pre (iD r) (tl l)++x)=_;rw[dQ r];rfl
  |false =>simp only;rw[show Nat.add 0 (iD r)=iD r from Nat.zero_add _,dQ r]
 |.a n k lo hi f::r,l,x=>by unfold ax;simp only[iD];rw[show Nat.add 1 (iD r)=iD r+1 from Nat.add_comm _ _];show _::ax r (pre (iD r) (tl l)++x)=_;rw[dQ r];rfl
theorem AH (s:AS) (l x:ae):kv s (pre (nlS s) l++x)=kv s l:=by
 cases s with
 |sO y =>simp only[kv,gM,nlS,nlV];cases h:eU y<;>rfl
 |sA r=>simp only[kv,nlS,dQ]
theorem ky:∀(s:List AS) (l x:ae),cF s (pre (nlL s) l++x)=cF s l
 |[],_,_=>rfl
 |y::s,l,x=>by unfold cF;rw[show nlL (y::s)=nlS y+nlL s from rfl,kd,List.append_assoc,AH,bP,ky s]
theorem kV (b:AB) (l x:ae):cH b (pre (nlB b) l++x)=cH b l:=by
 cases b with
 |run ty r=>simp only[cH,nlB,dQ]
 |dyn=>rfl
 |dead=>rfl
theorem lR:∀(s:List AB) (l x:ae),an s (pre (qK s) l++x)=an s l
 |[],_,_=>rfl
 |y::s,l,x=>by unfold an;rw[show qK (y::s)=nlB y+qK s from rfl,kd,List.append_assoc,kV,bP,lR s]
theorem lX:∀(a b:List AB) (l:ae),an (a++b) l=an a l++an b (tls (qK a) l)
 |[],b,l=>rfl
 |y::a,b,l=>by show cH y l::an (a++b) (tls (nlB y) l)=(cH y l::an a (tls (nlB y) l))++_;rw[lX a b,show qK (y::a)=nlB y+qK a from rfl,oo];rfl
section
variable {K:KT}
theorem iu:∀ {r:Rs} {t l x:ae},mL K r t l->mL K r t (pre (iD r) l++x)
 |[],_,_,_,h=>h
 |.c y::r,t,l,x,h=>by
  unfold mL at h ⊢;simp only[iD,nlV]at h ⊢
  cases e:eU y with
  |true =>rw[e]at h;simp only at h ⊢;rw[show Nat.add 1 (iD r)=iD r+1 from Nat.add_comm _ _];exact⟨h.1,iu h.2⟩
  |false =>rw[e]at h;simp only at h ⊢;rw[show Nat.add 0 (iD r)=iD r from Nat.zero_add _];exact iu h
 |.a n k lo hi f::r,t,l,x,h=>by unfold mL at h ⊢;simp only[iD]at h ⊢;rw[show Nat.add 1 (iD r)=iD r+1 from Nat.add_comm _ _];exact⟨h.1,iu h.2⟩
theorem Oe {s:AS} {t l x:ae} (h:agS K s t l):agS K s t (pre (nlS s) l++x):=by
 cases s with
 |sO y =>
  unfold agS at h ⊢;simp only[nlS,nlV]at h ⊢
  cases e:eU y with
  |true=>rw[e]at h;exact h
  |false=>trivial
 |sA r=>exact iu h
theorem mu:∀ {s:List AS} {t l x:ae},agL K s t l->agL K s t (pre (nlL s) l++x)
 |[],_,_,_,_=>trivial
 |y::s,t,l,x,h=>by rw[show nlL (y::s)=nlS y+nlL s from rfl,kd,List.append_assoc];exact⟨Oe h.1,by rw[bP];exact mu h.2⟩
theorem ot {b:AB} {t l x:ae} (h:agB K b t l):agB K b t (pre (nlB b) l++x):=by
 cases b with
 |run ty r=>exact iu h
 |dyn=>exact h
 |dead=>trivial
theorem sL:∀ {s:List AB} {t l x:ae},lV K s t l->lV K s t (pre (qK s) l++x)
 |[],_,_,_,_=>trivial
 |y::s,t,l,x,h=>by rw[show qK (y::s)=nlB y+qK s from rfl,kd,List.append_assoc];exact⟨ot h.1,by rw[bP];exact sL h.2⟩
theorem ux:∀ {a b:List AB} {t l:ae},lV K a t l->lV K b (tls (qK a) t) (tls (qK a) l)->lV K (a++b) t l
 |[],_,_,_,_,h=>h
 |y::a,b,t,l,h,h'=>by rw[show qK (y::a)=nlB y+qK a from rfl,oo,oo]at h';exact⟨h.1,ux h.2 h'⟩
theorem ay:∀ {r:Rs} {l l':ae},wh r l=wh r l'->mL K r l l'
 |[],_,_,_=>trivial
 |.c y::r,l,l',h=>by
  unfold wh at h;unfold mL;simp only at h ⊢
  cases e:eU y with
  |true =>rw[e]at h;simp only[List.cons.injEq]at h;refine⟨?_,ay h.2⟩;have h:=h.1;generalize hd l=a at h ⊢;generalize hd l'=b at h ⊢;cases y<;>simp only[cp1,Lf.i.injEq,Lf.b.injEq,Lf.s.injEq,Lf.l.injEq]at h<;>simp only[agV,h,and_self,implies_true]
  |false=>rw[e]at h;exact ay h
 |.a n k lo hi f::r,l,l',h=>by unfold wh at h;simp only[List.cons.injEq,Lf.f.injEq]at h;exact⟨λi _=>by rw[h.1],ay h.2⟩
theorem V8 {ty:TypeId} {r:Rs} {l l':ae} (h:wh r l=wh r l'):lV K [.run ty r] l l':=⟨ay h,ah⟩
end
def CM (f:FuncId) (args:List AT) (mem:List AB) (k:Nat) (sk:List AS) (msk:List AB) (Pr:ae->Prop) (W:ae->ae):CT:=⟨f,args,mem,λJ=>.vc (Pr J) (.done (.val (an (mem.take k) (tls (aG args) J)++an msk (tls (nlL sk) (W J))) (wg (cF sk (W J)))))⟩
def aa3 (K:KT) (A:List AB) (sk:List AS) (msk:List AB) (v W l:ae):Prop:=(hd l).Z=0/\agL K sk (tl l) W/\lV K A (tls (nlL sk) (tl l)) v/\lV K msk (tls (qK A) (tls (nlL sk) (tl l))) (tls (nlL sk) W)
section
variable {P:Program} {K:KT} {G:GT} {M:List (TypeId × Nat)}
theorem abu {A:List AB} {sk:List AS} {msk:List AB} {v W l:ae} {Q:Lv->Prop} (h:aa3 K A sk msk v W l) (hQ:Q (.val (an A v++an msk (tls (nlL sk) W)) (wg (cF sk W)))):upW K [⟨sk,A++msk⟩] Q l:=by
 obtain⟨h1,h2,h3,h4⟩:=h;refine Oz (l':=pre (nlL sk) W++(pre (qK A) v++tls (nlL sk) W)) h1 ⟨mu h2,?_⟩ ?_
 .show lV K (A++msk) (tls (nlL sk) (tl l)) (tls (nlL sk) _);rw[bP];exact ux (sL h3) (by rw[bP];exact h4)
 .unfold uu;simp only[ky,bP,lX,lR];exact hQ
theorem abt {tb:List CT} {FT:List FI} (hT:TOk P K G tb FT) (n:Nat) {fi:FI} (hc:aS P fi.f) (hf:P.funcs[fi.f]? = some fi.fn) {args:List AT} {mem:List AB} (k:Nat) {sk:List AS} {msk:List AB} {Pr:ae->Prop} {W:ae->ae} (d:Nat)
 (hr:∀J,kj (aY (au args J) (an mem (tls (aG args) J))) (l6 0 mem.length)=true)
 (h:∀(J:ae),bTs K d (au args J)->bBs K d (an mem (tls (aG args) J))->Pr J->Sa (VG [⟨sk,mem.take k++msk⟩] (gR P ⟨K,G,M,inl P K G M tb FT n⟩ fi (au args J) (an mem (tls (aG args) J)))) (aa3 K (mem.take k) sk msk (tls (aG args) J) (W J))):cV K P G (CM fi.f args mem k sk msk Pr W) :=
 xO hT n hc hf d [⟨sk,mem.take k++msk⟩] hr λJ Q b1 b2 ⟨hP,hQ⟩=>dg (λl hl=>abu hl hQ) (h J b1 b2 hP).out
theorem Bp {sk:List AS} {l x:ae}:agL K sk l (pre (nlL sk) l++x):=mu (iE sk l)
end
theorem bG {F:(ae->Prop)->(ae->Nat)->ae->Prop} {s:ae} {X:Type} (n:Nat) (c:Nat) (p:Nat->X->Prop) (S:Nat->X->ae) (hc:∀i x,i<=n->((S i x) c).Z=i) (x0:X) (h0:S 0 x0=s) (hp:p 0 x0)
 (h:∀(I:ae->Prop) (μ:ae->Nat),(∀i x x' l l',i<n->p (i+1) x'->l=S i x->l'=S (i+1) x'->Ag I μ l l')->∀i x l,i<=n->p i x->l=S i x->F I μ l):∃(I:ae->Prop) (μ:ae->Nat),I s/\∀l,I l->F I μ l:=by
 refine⟨λl=>∃i x,i<=n/\p i x/\l=S i x,λl=>n-(l c).Z.toNat,⟨0,x0,Nat.zero_le _,hp,h0.symm⟩,?_⟩;rintro l ⟨i,x,hi,hx,hl⟩;refine h _ _ (λi x x' l l' hin hp' e e'=>⟨⟨i+1,x',hin,hp',e'⟩,?_⟩) i x l hi hx hl;subst e e';have e1:=hc (i+1) x' ac;have e2:=hc i x ac;omega
def H5 (J:ae):Prop:=((J 5).N:Int)=(J 3).Z*(J 4).Z
abbrev pu:SP:=mkS ⟨[.sA uI],[]⟩ 359 Tryz.f359 [.tX (.sA lh),.tX (.sA adT)] [] [(4,.unroll 70)] [Zn,adZ,aeF]
theorem tC J R:TR1 pu J R (let x0:ae:=(ak (cw J 0 8 9572940) [.i 0,.i 0]);(Qu x0)/\let x1:ae:=ag8 x0;BR ((x1 2).Z==0) (R (ak [.i 0] (cw x1 0 3 73))) (let x2:ae:=(cw J 0 10 160567884);(Zh x2)/\let x3:ae:=Yx x2;BR (decide ((x3 2).Z<(x1 2).Z)) (BR ((x3 2).Z==0) (R (ak [.i 0] (cw x3 0 3 73))) (let x4:ae:=(ak (cw J 0 8 9572940) [.i 0,.i 0]);(SR x4)/\let x5:ae:=QH x4;BR (decide ((x5 2).Z<(x3 2).Z)) (R (ak [.i 0] (cw x5 0 3 73))) (R (ak [.i 0] (cw x3 0 3 73))))) (BR ((x1 2).Z==0) (R (ak [.i 0] (cw x1 0 3 73))) (let x4:ae:=(ak (cw J 0 8 9572940) [.i 0,.i 0]);(SR x4)/\let x5:ae:=QH x4;BR (decide ((x5 2).Z<(x1 2).Z)) (R (ak [.i 0] (cw x5 0 3 73))) (R (ak [.i 0] (cw x1 0 3 73))))))):=af
def tI (J:ae):ae:=tl (evW (TS pu J))
theorem XD:PFd pu H5:=λJ b1 b2 hp=>⟨by rw[tC];exact⟨hp,λ_=>rfl,λ_=>⟨hp,λ_=>⟨λ_=>rfl,λ_=>⟨hp,λ_=>rfl,λ_=>rfl⟩⟩,λ_=>⟨λ_=>rfl,λ_=>⟨hp,λ_=>rfl,λ_=>rfl⟩⟩⟩⟩⟩
abbrev T2:CT:=CS 359 pu.A pu.M pu.Y H5 tI
theorem um:CO T2:=CXd pu (TX ⟨yY,SZ,TB,ah⟩ ah) XD
abbrev sCD:Rs:=[am 1 3,am 1 3,av,av,am 16 64,am 16 64,am 1 1048576,am 1 65536,av,am 1 16777216,am 1 8388608,.a 64 .u8 0 255 z0,.a 64 .u8 0 255 z0,am 1 3,am 1 3,am 0 1023,av,av,av,am 1 31,am 2 64,am 2 64,.c (.nR 0 1 4096 0 g0),.c (.nR 0 1 1024 0 g0),.c (.nR 0 1 1024 0 g0),am 0 64,am 0 64,.c (.nR 0 0 4096 0 g0),.c (.nR 0 0 1024 0 g0),.c (.nR 0 0 1024 0 g0),am 0 64,am 0 64,.c (.nR 0 0 4096 0 g0),.c (.nR 0 0 1024 0 g0),.c (.nR 0 0 1024 0 g0),am 0 64,am 0 64,.c (.nR 0 0 4096 0 g0),.c (.nR 0 0 1024 0 g0),.c (.nR 0 0 1024 0 g0),am 0 64,am 0 64,.c (.nR 0 0 4096 0 g0),.c (.nR 0 0 1024 0 g0),.c (.nR 0 0 1024 0 g0),am 0 64,am 0 64,.c (.nR 0 0 4096 0 g0),.c (.nR 0 0 1024 0 g0),.c (.nR 0 0 1024 0 g0),am 0 64,am 0 64,.c (.nR 0 0 4096 0 g0),.c (.nR 0 0 1024 0 g0),.c (.nR 0 0 1024 0 g0),am 0 64,am 0 64,.c (.nR 0 0 4096 0 g0),.c (.nR 0 0 1024 0 g0),.c (.nR 0 0 1024 0 g0),am 0 64,am 0 64,.c (.nR 0 0 4096 0 g0),.c (.nR 0 0 1024 0 g0),.c (.nR 0 0 1024 0 g0),am 0 64,am 0 64,.c (.nR 0 0 4096 0 g0),.c (.nR 0 0 1024 0 g0),.c (.nR 0 0 1024 0 g0),am 2 64,am 2 64,.c (.nR 0 1 4096 0 g0),.c (.nR 0 1 1024 0 g0),.c (.nR 0 1 1024 0 g0)]
end
end Go.Proofs.YtldmjbgplgoedaaGreatDoor
