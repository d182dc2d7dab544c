import Derived.Test.YtldmjbgplgoedaaGreatDoorEe20
set_option linter.all false
namespace Go.Proofs.YtldmjbgplgoedaaGreatDoor
noncomputable section
open Go.RowKit U
def U7 (a b:Nat->ae) (w i:Nat):Int:=if i / w % 2=0 then cel a (i / w / 2*w+i % w)else cel b (i / w / 2*w+i % w)
theorem wC {g a b:Nat->ae} {w h i:Nat} (hi:i<w*(2*h)):jK (rz (jK g a 0 (2*w) w h)) b w (2*w) w h i=U7 a b w i:=by
 obtain⟨h1,h2,h3⟩:=O8 hi;generalize i / w=r at *;generalize hc:i % w=c at *
 have dw:i / w=r:=by obtain⟨e,-⟩:=gJ (i:=i) (r:=r) (w:=w) ac ac;exact e
 unfold U7;rw[dw,hc];obtain⟨t,ht⟩:∃t,r=2*t\/r=2*t+1:=⟨r / 2,ac⟩;rcases ht with rfl | rfl
 .rw[if_pos ac,show 2*t / 2=t by omega]
  have x1:2*t*w=t*(2*w):=by rw[Nat.mul_comm 2 t,Nat.mul_assoc]
  obtain⟨e1,e2⟩:=gJ (i:=i) (r:=t) (w:=2*w) ac ac;unfold jK;rw[if_neg]
  .simp only[cel,uW,Z_i];rw[Nat.sub_zero,e1,e2,if_pos ⟨ac,ac,ac⟩]
   congr 3
   omega
  .rintro⟨j1,j2,j3⟩;rcases Nat.eq_zero_or_pos t with e | e
   .subst e;rw[Nat.mul_zero,Nat.zero_mul]at h3;omega
   .have x2:(t-1)*(2*w)=t*(2*w)-2*w:=by rw[Nat.sub_mul,Nat.one_mul]
    have x3:2*w<=t*(2*w):=Nat.le_mul_of_pos_left _ e;obtain⟨e3,e4⟩:=gJ (i:=i-w) (r:=t-1) (w:=2*w) ac ac;omega
 .rw[if_neg ac,show(2*t+1) / 2=t by omega]
  have x1:(2*t+1)*w=t*(2*w)+w:=by rw[Nat.add_mul,Nat.mul_comm 2 t,Nat.mul_assoc,Nat.one_mul]
  obtain⟨e1,e2⟩:=gJ (i:=i-w) (r:=t) (w:=2*w) ac ac;unfold jK;rw[e1,e2,if_pos ⟨ac,ac,ac⟩]
  congr 3
  omega
def wk (J:ae):Prop:=cI J/\cI (tls 5 J)/\(J 5).Z=(J 0).Z/\(J 6).Z=(J 1).Z/\(J 1).Z<=32
def rM (J:ae):ae :=
 let w:=(J 0).Z.toNat;let h:=(J 1).Z.toNat
 [.i w,.i (2*h:Nat),.l (w*(2*h)) (rz (U7 (J 2).G (J 7).G w)),.l (w / 2*h) (rz (U7 (J 3).G (J 8).G (w / 2))),.l (w / 2*h) (rz (U7 (J 4).G (J 9).G (w / 2))),.i 0]
abbrev O5:SP:=mkS ⟨[.sA sFF,aD 0 0],[]⟩ 129 Tryz.f129 [.tX (.sA sFF),.tX (.sA sFF)] [] [(6,.unroll 70)] [qV,QB]
theorem GH J R:TR O5 J R (let x0:ae:=[.i (J 0).Z,.i (J 1).Z,.l (J 2).N (J 2).G,.l (J 3).N (J 3).G,.l (J 4).N (J 4).G];(cI x0)/\let x1:ae:=gL x0;let x2:ae:=[.i (J 5).Z,.i (J 6).Z,.l (J 7).N (J 7).G,.l (J 8).N (J 8).G,.l (J 9).N (J 9).G];(cI x2)/\let x3:ae:=gL x2;(((J 0).Z !=(J 5).Z)->
 False) /\
(((J 0).Z !=(J 5).Z)=false ->
 (((J 1).Z !=(J 6).Z)->
  False) /\
 (((J 1).Z !=(J 6).Z)=false ->
  ((decide (64<(2*(J 1).Z)))->
   False) /\
  ((decide (64<(2*(J 1).Z)))=false -> (0<2)/\(((2*(J 0).Z)*(J 1).Z).toNat<=4096)/\(1<=(J 2).N)/\((J 2).N<=4096)/\(((2*(J 0).Z)*(J 1).Z).toNat<=4096)/\let x4:ae:=[.s 0 ((2*(J 0).Z)*(J 1).Z).toNat,.i 0,.i (2*(J 0).Z),.i (J 0).Z,.i (J 1).Z,.l (J 2).N (J 2).G,.l ((2*(J 0).Z)*(J 1).Z).toNat (λ_=>[.i 0])];(lM x4)/\let x5:ae:=lL x4;(1<=(J 3).N)/\((J 3).N<=4096)/\let x6:ae:=[.s 0 (Int.tdiv ((J 0).Z*(J 1).Z) 2).toNat,.i 0,.i (J 0).Z,.i (Int.tdiv (J 0).Z 2),.i (Int.tdiv (J 1).Z 2),.l (J 3).N (J 3).G,.l (Int.tdiv ((J 0).Z*(J 1).Z) 2).toNat (λ_=>[.i 0])];(lM x6)/\let x7:ae:=lL x6;(1<=(J 4).N)/\((J 4).N<=4096)/\let x8:ae:=[.s 0 (Int.tdiv ((J 0).Z*(J 1).Z) 2).toNat,.i 0,.i (J 0).Z,.i (Int.tdiv (J 0).Z 2),.i (Int.tdiv (J 1).Z 2),.l (J 4).N (J 4).G,.l (Int.tdiv ((J 0).Z*(J 1).Z) 2).toNat (λ_=>[.i 0])];(lM x8)/\let x9:ae:=lL x8;(1<2)/\(((2*(J 0).Z)*(J 1).Z).toNat<=4096)/\(1<=(J 7).N)/\((J 7).N<=4096)/\let x10:ae:=[.s 0 ((2*(J 0).Z)*(J 1).Z).toNat,.i (1*(J 0).Z),.i (2*(J 0).Z),.i (J 0).Z,.i (J 1).Z,.l (J 7).N (J 7).G,.l (x5 0).N (x5 0).G];(lM x10)/\let x11:ae:=lL x10;(1<=(J 8).N)/\((J 8).N<=4096)/\let x12:ae:=[.s 0 (Int.tdiv ((J 0).Z*(J 1).Z) 2).toNat,.i (Int.tdiv (1*(J 0).Z) 2),.i (J 0).Z,.i (Int.tdiv (J 0).Z 2),.i (Int.tdiv (J 1).Z 2),.l (J 8).N (J 8).G,.l (x7 0).N (x7 0).G];(lM x12)/\let x13:ae:=lL x12;(1<=(J 9).N)/\((J 9).N<=4096)/\let x14:ae:=[.s 0 (Int.tdiv ((J 0).Z*(J 1).Z) 2).toNat,.i (Int.tdiv (1*(J 0).Z) 2),.i (J 0).Z,.i (Int.tdiv (J 0).Z 2),.i (Int.tdiv (J 1).Z 2),.l (J 9).N (J 9).G,.l (x9 0).N (x9 0).G];(lM x14)/\let x15:ae:=lL x14;((0+((2*(J 0).Z)*(J 1).Z).toNat)<=(x11 0).N)/\((0+(Int.tdiv ((J 0).Z*(J 1).Z) 2).toNat)<=(x13 0).N)/\((0+(Int.tdiv ((J 0).Z*(J 1).Z) 2).toNat)<=(x15 0).N)/\((2*(J 1).Z)<=64)/\(((2*(J 0).Z)*(J 1).Z).toNat<=4096)/\((Int.tdiv ((J 0).Z*(J 1).Z) 2).toNat<=1024)/\((Int.tdiv ((J 0).Z*(J 1).Z) 2).toNat<=1024)/\let k0:=(Int.tdiv ((J 0).Z*(J 1).Z) 2).toNat;R [.i 0,.i (J 0).Z,.i (2*(J 1).Z),.l ((2*(J 0).Z)*(J 1).Z).toNat (λi0=>(x11 0).G (0+i0)),.l k0 (λi0=>(x13 0).G (0+i0)),.l k0 (λi0=>(x15 0).G (0+i0)),.i 0])))):=af
theorem Rr:PF1 O5 wk rM:=λJ b1 b2 hp=>⟨by
 rw[GH];obtain⟨p1,p2,p3,p4,p5⟩:=hp;have p1:fmB _ _ _ _ _=true:=p1;have p2:fmB (J 5).Z (J 6).Z (J 7).N (J 8).N (J 9).N=true:=p2;simp only[cI,gL,rM,lM,lL,bx,bE,Z_i,X_b,F_f,O_s,N_s,N_l,G_l,p1,p2];generalize (J 0).Z=W at *;generalize (J 1).Z=H at *;generalize (J 2).N=na at *;generalize (J 2).G=y at *;generalize (J 3).N=nb at *;generalize (J 3).G=u at *;generalize (J 4).N=nc at *;generalize (J 4).G=v at *;generalize (J 5).Z=W' at *;generalize (J 6).Z=H' at *;generalize (J 7).N=nd at *;generalize (J 7).G=y' at *;generalize (J 8).N=ne at *;generalize (J 8).G=u' at *;generalize (J 9).N=nf at *;generalize (J 9).G=v' at *;subst p3 p4;obtain⟨w,k,rfl,rfl,i1,i2,i3,i4,rfl,rfl,rfl⟩:=dN p1;obtain⟨w',k',q1,q2,-,-,-,-,rfl,rfl,rfl⟩:=dN p2;have:w=w':=ac;subst this;have:k=k':=ac;subst this;clear q1 q2;obtain⟨m1,m2,m3⟩:=wL i1 i2 i3 i4;have m4:=Nat.mul_le_mul i2 (show k<=16 by omega)
 simp only[ul,jl,mH,YC,Yt,K6,En,GI,De,sZ,H7,G0,sF,h2_,ph2,ap,true_and];have x1:2*(2*w)*(2*k)=2*(2*w*(2*k)):=by rw[Nat.mul_assoc]
 have x2:2*w*k=2*(w*k):=by rw[Nat.mul_assoc]
 have x3:2*w*(2*(2*k))=2*(2*w*(2*k)):=by rw[Nat.mul_left_comm]
 have x4:w*(2*k)=2*(w*k):=by rw[Nat.mul_left_comm]
 rw[x1,x2,x3,x4];have a1:=dB (W:=2*w) (H:=2*(2*k)) (x0:=0) (y0:=0) (s:=2) (w:=2*w) (h:=2*k) ac ac ac;have a2:=dB (W:=2*w) (H:=2*(2*k)) (x0:=0) (y0:=1) (s:=2) (w:=2*w) (h:=2*k) ac ac ac;have a3:=dB (W:=w) (H:=2*k) (x0:=0) (y0:=0) (s:=2) (w:=w) (h:=k) ac ac ac;have a4:=dB (W:=w) (H:=2*k) (x0:=0) (y0:=1) (s:=2) (w:=w) (h:=k) ac ac ac;have z:(0:Int).toNat=0:=rfl;rw[z];refine br_ (λq=>absurd rfl (cS q)) λ_=>br_ (λq=>absurd rfl (cS q)) λ_=>br_ (λq=>?_) λ_=>?_
 .have q:=ai q;omega
 refine⟨ao,ao,ao,ao,ao,⟨?_,ao,ao⟩,ao,ao,⟨?_,ao,ao⟩,ao,ao,⟨?_,ao,ao⟩,ao,ao,ao,ao,⟨?_,ao,ao⟩,ao,ao,⟨?_,ao,ao⟩,ao,ao,⟨?_,ao,ao⟩,ao,ao,ao,ao,ao,ao,ao,rfl,⟨⟨rfl,rfl,aL rfl λi hi=>?_,aL rfl λi hi=>?_,aL rfl λi hi=>?_,ah⟩,rfl,ah⟩,ah⟩
 .omega
 .omega
 .omega
 .omega
 .omega
 .omega
 .simp only[cel,Nat.zero_add];exact wC ac
 .simp only[cel,Nat.zero_add];exact wC ac
 .simp only[cel,Nat.zero_add];exact wC ac⟩
abbrev aa7:CT:=C1 O5 wk rM
theorem Lm:CO aa7:=CX1 (TX ⟨dd,pJ,ah⟩ ah) Rr
end
end Go.Proofs.YtldmjbgplgoedaaGreatDoor
namespace Go.Proofs.YtldmjbgplgoedaaGreatDoor
noncomputable section
open Go.RowKit U
theorem tJ {x:Int} (h1 : -9223372036854775808<=x) (h2:x<=9223372036854775807):aI .and .i64 x 1=x % 2:=by
 show IntKind.i64.wrap (((BitVec.ofInt 64 x &&& BitVec.ofInt 64 1).toNat:Nat):Int)=_;rw[BitVec.toNat_and,show(BitVec.ofInt 64 1).toNat=1 from rfl,Nat.and_one_is_mod]
 have e:(((BitVec.ofInt 64 x).toNat:Nat):Int)=x % 18446744073709551616:=by rw[BitVec.toNat_ofInt];show((x % 18446744073709551616).toNat:Int)=_;exact Int.toNat_of_nonneg (Int.emod_nonneg _ afH)
 have e2:(((BitVec.ofInt 64 x).toNat % 2:Nat):Int)=x % 2:=ac;rw[e2,bH (k:=.i64) ⟨by simp only[low];omega,by simp only[top];omega⟩]
def inZ (i n:Int):Int:=min (max i 0) (n-1)
theorem IX {i n:Int} (h:1<=n):0<=inZ i n/\inZ i n<=n-1:=by unfold inZ;omega
def prZ (g:Nat->ae) (cols rows x y vx vy:Int) (w k:Nat):Int :=(cel g (inZ (y+(k / w:Nat)+vy / 2) rows*cols+inZ (x+(k % w:Nat)+vx / 2) cols).toNat+cel g (inZ (y+(k / w:Nat)+vy / 2) rows*cols+inZ (x+(k % w:Nat)+vx / 2+vx % 2) cols).toNat + cel g (inZ (y+(k / w:Nat)+vy / 2+vy % 2) rows*cols+inZ (x+(k % w:Nat)+vx / 2) cols).toNat+cel g (inZ (y+(k / w:Nat)+vy / 2+vy % 2) rows*cols+inZ (x+(k % w:Nat)+vx / 2+vx % 2) cols).toNat+2) / 4
theorem Rv {i j n m:Int} (h:1<=n) (h':1<=m):inZ i n*m+inZ j m<n*m:=by
 obtain⟨a1,a2⟩:=IX (i:=i) h;obtain⟨b1,b2⟩:=IX (i:=j) h';have:=Int.mul_le_mul_of_nonneg_right (show inZ i n+1<=n by omega) (show 0<=m by omega)
 rw[Int.add_mul,Int.one_mul]at this;omega
def AZ (J:ae):Prop:=(J 2).Z*(J 1).Z<=(J 0).N/\(J 5).Z.toNat*(J 6).Z.toNat<=256
def Bc (J:ae):ae:=[.l ((J 5).Z.toNat*(J 6).Z.toNat) (rz (prZ (J 0).G (J 1).Z (J 2).Z (J 3).Z (J 4).Z (J 7).Z (J 8).Z (J 5).Z.toNat))]
abbrev P7:SP:=mkS ⟨[.sO (.nR 0 1 256 0 g0)],[]⟩ 322 Tryz.f322 [tXO (.nR 0 1 4096 0 g0),aj 1 64,aj 1 64,.tX (.sA aaX),.tX (.sA nu)] [] [(5,.head ⟨[(8,tXO (.nP 0 0)),(9,tXO (.nP 1 0)),(13,.tF 356 [] [.sO (.nP 2 0),.sO (.nP 3 0),.sO (.nP 4 0),.sO (.nP 5 0),.sO (.nP 6 0)]),(14,tXO (.nD 7 0 0 1048578 0 0)),(31,aj 4 16),(32,aj 0 1048576)],[.run 387 aaX,.run 118 nu,.run 3 [r27],.run 3 [r35],.run 3 [r27],.run 3 [r35],.run 29 [r18],.dyn 5 0 0 1048578 0 g0 false],[]⟩),(8,.head ⟨[(8,tXO (.nP 0 0)),(9,tXO (.nP 1 0)),(13,.tF 356 [] [.sO (.nP 2 0),.sO (.nP 3 0),.sO (.nP 4 0),.sO (.nP 5 0),.sO (.nP 6 0)]),(14,tXO (.nD 7 0 0 1048580 0 0)),(15,aj 0 1048576),(31,aj 4 16),(32,aj 0 1048576),(36,aj 8 16),(37,aj 0 1048576)],[.run 387 aaX,.run 118 nu,.run 3 [r27],.run 3 [r35],.run 3 [r27],.run 3 [r35],.run 29 [r18],.dyn 5 0 0 1048580 0 g0 false],[]⟩)] [] [(aw 356 Tryz.f356),(aw 357 Tryz.f357)]
theorem FN J R:TR P7 J R (∃(I0:ae->Prop) (μ0:ae->Nat),I0 [.s 0 0,.i (J 6).Z,.i 0,.i (J 3).Z,.i (J 4).Z,.i (J 5).Z,.i (J 6).Z,.i (J 7).Z,.i (J 8).Z,.i (J 1).Z,.i (aI .and .i64 (J 7).Z 1),.i (J 2).Z,.i (aI .and .i64 (J 8).Z 1),.l (J 0).N (J 0).G,.l 0 (λ_=>[.i 0])]/\∀l0,I0 l0 ->
 ((decide ((l0 2).Z<(l0 1).Z))->
  ∃(I1:ae->Prop) (μ1:ae->Nat),I1 (ak [.s (l0 0).O (l0 0).N,.i (l0 2).Z,.i (l0 1).Z,.i (l0 2).Z,.i (l0 5).Z,.i 0] (cw l0 3 12 38808097353))/\∀l1,I1 l1 ->
   ((decide ((l1 5).Z<(l1 4).Z))->
    ((((min (max (((l1 7).Z+(l1 1).Z)+((l1 11).Z / 2)) 0) ((l1 14).Z-1))*(l1 12).Z)+(min (max (((l1 6).Z+(l1 5).Z)+((l1 10).Z / 2)) 0) ((l1 12).Z-1)))<(((l1 16).N:Nat):Int))/\((((min (max (((l1 7).Z+(l1 1).Z)+((l1 11).Z / 2)) 0) ((l1 14).Z-1))*(l1 12).Z)+(min (max ((((l1 6).Z+(l1 5).Z)+((l1 10).Z / 2))+(l1 13).Z) 0) ((l1 12).Z-1)))<(((l1 16).N:Nat):Int))/\((((min (max ((((l1 7).Z+(l1 1).Z)+((l1 11).Z / 2))+(l1 15).Z) 0) ((l1 14).Z-1))*(l1 12).Z)+(min (max (((l1 6).Z+(l1 5).Z)+((l1 10).Z / 2)) 0) ((l1 12).Z-1)))<(((l1 16).N:Nat):Int))/\((((min (max ((((l1 7).Z+(l1 1).Z)+((l1 11).Z / 2))+(l1 15).Z) 0) ((l1 14).Z-1))*(l1 12).Z)+(min (max ((((l1 6).Z+(l1 5).Z)+((l1 10).Z / 2))+(l1 13).Z) 0) ((l1 12).Z-1)))<(((l1 16).N:Nat):Int))/\(1<=1)/\((l1 0).O=0)/\((l1 0).N=(l1 17).N)/\(((l1 0).N+1)<=1048580)/\(((l1 5).Z+1)<=1048576)/\(((l1 0).N+1)<=1048580)/\let k5:=((l1 7).Z+(l1 1).Z)+((l1 11).Z / 2);let k4:=((l1 6).Z+(l1 5).Z)+((l1 10).Z / 2);let k3:=min (max k4 0) ((l1 12).Z-1);let k2:=min (max (k4+(l1 13).Z) 0) ((l1 12).Z-1);let k1:=(min (max k5 0) ((l1 14).Z-1))*(l1 12).Z;let k0:=(min (max (k5+(l1 15).Z) 0) ((l1 14).Z-1))*(l1 12).Z;Ag I1 μ1 l1 [.s 0 ((l1 0).N+1),.i (l1 1).Z,.i (l1 2).Z,.i (l1 3).Z,.i (l1 4).Z,.i ((l1 5).Z+1),.i (l1 6).Z,.i (l1 7).Z,.i (l1 8).Z,.i (l1 9).Z,.i (l1 10).Z,.i (l1 11).Z,.i (l1 12).Z,.i (l1 13).Z,.i (l1 14).Z,.i (l1 15).Z,.l (l1 16).N (l1 16).G,.l ((l1 0).N+1) (aE (l1 0).N (l1 17).G (λi0=>[.i ((((((((l1 16).G (k1+k3).toNat) 0).Z+(((l1 16).G (k1+k2).toNat) 0).Z)+(((l1 16).G (k0+k3).toNat) 0).Z)+(((l1 16).G (k0+k2).toNat) 0).Z)+2) / 4)]))]) /\
   ((decide ((l1 5).Z<(l1 4).Z))=false ->
    ((l1 0).N<=1048578)/\(((l1 3).Z+1)<=1048576)/\((l1 17).N<=1048578)/\Ag I0 μ0 l0 (ak [.s (l1 0).O (l1 0).N,.i (l1 2).Z,.i ((l1 3).Z+1)] (cw l1 6 12 38808097353)))) /\
 ((decide ((l0 2).Z<(l0 1).Z))=false -> (((l0 0).O+(l0 0).N)<=(l0 14).N)/\(1<=(l0 0).N)/\((l0 0).N<=256)/\R [.i 0,.l (l0 0).N (λi0=>(l0 14).G ((l0 0).O+i0))])):=af
theorem Ts:PF1 P7 AZ Bc:=λJ b1 b2 hp=>⟨by
 rw[FN];obtain⟨-,c1,c2,⟨c3,c4,c5,c6,-⟩,⟨c7,c8,-⟩,-⟩:=b1;have c1a:1<=(J 1).Z:=c1.1;have c1b:(J 1).Z<=64:=c1.2;have c2a:1<=(J 2).Z:=c2.1;have c2b:(J 2).Z<=64:=c2.2;have c3a:0<=(J 3).Z:=c3.1;have c3b:(J 3).Z<=64:=c3.2;have c4a:0<=(J 4).Z:=c4.1;have c4b:(J 4).Z<=64:=c4.2;have c5a:8<=(J 5).Z:=c5.1;have c5b:(J 5).Z<=16:=c5.2;have c6a:4<=(J 6).Z:=c6.1;have c6b:(J 6).Z<=16:=c6.2;have c7a : -63<=(J 7).Z:=c7.1;have c7b:(J 7).Z<=63:=c7.2;have c8a : -63<=(J 8).Z:=c8.1;have c8b:(J 8).Z<=63:=c8.2;clear c1 c2 c3 c4 c5 c6 c7 c8;obtain⟨p1,p2⟩:AZ J:=hp;unfold Bc;rw[tJ ac ac,tJ ac ac];generalize (J 0).N=n at *;generalize (J 0).G=g at *;generalize (J 1).Z=cols at *;generalize (J 2).Z=rows at *;generalize (J 3).Z=x at *;generalize (J 4).Z=y at *;generalize (J 5).Z=w at *;generalize (J 6).Z=h at *;generalize (J 7).Z=vx at *;generalize (J 8).Z=vy at *;obtain⟨w,rfl⟩:=Int.eq_ofNat_of_zero_le (show 0<=w by omega)
 obtain⟨h,rfl⟩:=Int.eq_ofNat_of_zero_le (show 0<=h by omega)
 simp only[ap]at p2 ⊢
 have ix:∀i j,inZ i rows*cols+inZ j cols<n:=λi j=>by have:=Rv (i:=i) (j:=j) c2a c1a;omega
 refine aZ h 2 (λr (b:Nat->ae)=>∀k,k<r*w->cel b k=prZ g cols rows x y vx vy w k) (λs r b=>set_ (set_ (set_ s 0 (.s 0 (r*w))) 2 (.i r)) 14 (.l (r*w) b)) (λi _ _=>rfl) (λ_=>[.i 0]) (by simp only[Nat.zero_mul];rfl) (λi hi=>by rw[Nat.zero_mul]at hi;omega) λI μ hA r b0 hr hb=>?_
 simp only[bA,bz,mJ,ou,GB,DB,nM,oc,oA,oe,mC,List.cons_append,List.nil_append,Nat.reduceMod,Nat.reduceDiv,Nat.reduceAdd,bx,bE,Z_i,X_b,F_f,O_s,N_s,N_l,G_l,ap]at hA ⊢;have k2:r*w<=h*w:=Nat.mul_le_mul_right w hr;have k5:w*h=h*w:=Nat.mul_comm w h;refine br_ (λq=>?_) λq=>?_
 .have q:=ai q;have k3:(r+1)*w<=h*w:=Nat.mul_le_mul_right w ac;have k4:(r+1)*w=r*w+w:=by rw[Nat.add_mul,Nat.one_mul]
  refine aZ w 5 (λi (b:Nat->ae)=>∀k,k<r*w+i->cel b k=prZ g cols rows x y vx vy w k) (λs i b=>set_ (set_ (set_ s 0 (.s 0 (r*w+i))) 5 (.i i)) 17 (.l (r*w+i) b)) (λi _ _=>rfl) b0 rfl hb λI1 μ1 hA1 i b hi hb=>?_;simp only[bA,bz,mJ,ou,GB,DB,nM,oc,oA,oe,mC,List.cons_append,List.nil_append,Nat.reduceMod,Nat.reduceDiv,Nat.reduceAdd,bx,bE,Z_i,X_b,F_f,O_s,N_s,N_l,G_l,ap]at hA1 ⊢;refine br_ (λq1=>?_) λq1=>?_
  .have q1:=ai q1;refine⟨ix _ _,ix _ _,ix _ _,ix _ _,ao,ao,ao,ao,ao,ao,hA1 i b _ _ ac ?_ rfl⟩;intro k hk;simp only[cel];unfold aE
   by_cases e:k<r*w+i
   .rw[if_pos e];exact hb k e
   .rw[if_neg e,bx,Z_i];have:k=r*w+i:=ac;subst this;obtain⟨d1,d2⟩:=gJ (i:=r*w+i) (r:=r) (w:=w) ac ac;unfold prZ;rw[d1,d2,show r*w+i-r*w=i by omega]
    rfl
  .have q1:=aQ q1;have:i=w:=ac;subst this;exact⟨ac,ac,ac,hA r b0 b _ ac (λk hk=>hb k ac) (by rw[k4];rfl)⟩
 .have q:=aQ q;have:r=h:=ac;subst this;refine⟨ac,Nat.mul_pos ac ac,ac,rfl,⟨gQ k5.symm λk hk=>?_,ah⟩,ah⟩;simp only[cel,Nat.zero_add];exact hb k hk⟩
abbrev aed:CT:=C1 P7 AZ Bc
theorem Q3:CO aed:=CX1 (TX trivial (FK (FK ah))) Ts
end
end Go.Proofs.YtldmjbgplgoedaaGreatDoor
namespace Go.Proofs.YtldmjbgplgoedaaGreatDoor
noncomputable section
open Go.RowKit U
def oD (J:ae):Prop:=cI J/\(J 5).Z % 2=0/\(J 6).Z % 2=0/\(J 5).Z<=(J 0).Z-16/\(J 6).Z<=(J 1).Z-(J 8).Z/\((J 8).Z=8\/(J 8).Z=16)
def kI (J:ae):ae :=
 let W:=(J 0).Z;let H:=(J 1).Z;let x:=(J 5).Z;let y:=(J 6).Z;let h:=(J 8).Z.toNat;let vx:=(J 9).Z;let vy:=(J 10).Z
 [.i 16,.i (J 8).Z,.l (16*h) (rz (prZ (J 2).G W H x y vx vy 16)),.l (8*(h / 2)) (rz (prZ (J 3).G (W / 2) (H / 2) (x / 2) (y / 2) (Int.tdiv vx 2) (Int.tdiv vy 2) 8)),.l (8*(h / 2)) (rz (prZ (J 4).G (W / 2) (H / 2) (x / 2) (y / 2) (Int.tdiv vx 2) (Int.tdiv vy 2) 8)),.i 0]
abbrev Nz:SP:=mkS ⟨[.sA sFP,aD 0 0],[]⟩ 252 Tryz.f252 [.tX (.sA sFF),aj 0 64,aj 0 64,aj 16 16,aj 8 16,.tX (.sA nu)] [] [] [qV,aed] [(aw 321 Tryz.f321)]
theorem EO J R:TR Nz J R (let x0:ae:=[.i (J 0).Z,.i (J 1).Z,.l (J 2).N (J 2).G,.l (J 3).N (J 3).G,.l (J 4).N (J 4).G];(cI x0)/\let x1:ae:=gL x0;(((J 8).Z !=8)->
 (((J 8).Z !=16)->
  False) /\
 (((J 8).Z !=16)=false ->
  (((Int.tmod (J 5).Z 2)!=0)->
   False) /\
  (((Int.tmod (J 5).Z 2)!=0)=false ->
   ((decide (((J 0).Z-(J 7).Z)<(J 5).Z))->
    False) /\
   ((decide (((J 0).Z-(J 7).Z)<(J 5).Z))=false ->
    (((Int.tmod (J 6).Z 2)!=0)->
     False) /\
    (((Int.tmod (J 6).Z 2)!=0)=false ->
     ((decide (((J 1).Z-(J 8).Z)<(J 6).Z))->
      False) /\
     ((decide (((J 1).Z-(J 8).Z)<(J 6).Z))=false ->
      let x2:ae:=[.l (J 2).N (J 2).G,.i (J 0).Z,.i (J 1).Z,.i (J 5).Z,.i (J 6).Z,.i (J 7).Z,.i (J 8).Z,.i (J 9).Z,.i (J 10).Z];(AZ x2)/\let x3:ae:=Bc x2;let x4:ae:=[.l (J 3).N (J 3).G,.i (Int.tdiv (J 0).Z 2),.i (Int.tdiv (J 1).Z 2),.i (Int.tdiv (J 5).Z 2),.i (Int.tdiv (J 6).Z 2),.i 8,.i (Int.tdiv (J 8).Z 2),.i (Int.tdiv (J 9).Z 2),.i (Int.tdiv (J 10).Z 2)];(AZ x4)/\let x5:ae:=Bc x4;let x6:ae:=[.l (J 4).N (J 4).G,.i (Int.tdiv (J 0).Z 2),.i (Int.tdiv (J 1).Z 2),.i (Int.tdiv (J 5).Z 2),.i (Int.tdiv (J 6).Z 2),.i 8,.i (Int.tdiv (J 8).Z 2),.i (Int.tdiv (J 9).Z 2),.i (Int.tdiv (J 10).Z 2)];(AZ x6)/\let x7:ae:=Bc x6;(128<=(x3 0).N)/\(32<=(x5 0).N)/\((x5 0).N<=64)/\(32<=(x7 0).N)/\((x7 0).N<=64)/\R [.i 0,.i (J 7).Z,.i (J 8).Z,.l (x3 0).N (x3 0).G,.l (x5 0).N (x5 0).G,.l (x7 0).N (x7 0).G,.i 0])))))) /\
(((J 8).Z !=8)=false ->
 (((Int.tmod (J 5).Z 2)!=0)->
  False) /\
 (((Int.tmod (J 5).Z 2)!=0)=false ->
  ((decide (((J 0).Z-(J 7).Z)<(J 5).Z))->
   False) /\
  ((decide (((J 0).Z-(J 7).Z)<(J 5).Z))=false ->
   (((Int.tmod (J 6).Z 2)!=0)->
    False) /\
   (((Int.tmod (J 6).Z 2)!=0)=false ->
    ((decide (((J 1).Z-(J 8).Z)<(J 6).Z))->
     False) /\
    ((decide (((J 1).Z-(J 8).Z)<(J 6).Z))=false -> let x2:ae:=[.l (J 2).N (J 2).G,.i (J 0).Z,.i (J 1).Z,.i (J 5).Z,.i (J 6).Z,.i (J 7).Z,.i (J 8).Z,.i (J 9).Z,.i (J 10).Z];(AZ x2)/\let x3:ae:=Bc x2;let x4:ae:=[.l (J 3).N (J 3).G,.i (Int.tdiv (J 0).Z 2),.i (Int.tdiv (J 1).Z 2),.i (Int.tdiv (J 5).Z 2),.i (Int.tdiv (J 6).Z 2),.i 8,.i (Int.tdiv (J 8).Z 2),.i (Int.tdiv (J 9).Z 2),.i (Int.tdiv (J 10).Z 2)];(AZ x4)/\let x5:ae:=Bc x4;let x6:ae:=[.l (J 4).N (J 4).G,.i (Int.tdiv (J 0).Z 2),.i (Int.tdiv (J 1).Z 2),.i (Int.tdiv (J 5).Z 2),.i (Int.tdiv (J 6).Z 2),.i 8,.i (Int.tdiv (J 8).Z 2),.i (Int.tdiv (J 9).Z 2),.i (Int.tdiv (J 10).Z 2)];(AZ x6)/\let x7:ae:=Bc x6;(128<=(x3 0).N)/\(32<=(x5 0).N)/\((x5 0).N<=64)/\(32<=(x7 0).N)/\((x7 0).N<=64)/\R [.i 0,.i (J 7).Z,.i (J 8).Z,.l (x3 0).N (x3 0).G,.l (x5 0).N (x5 0).G,.l (x7 0).N (x7 0).G,.i 0])))))):=af
theorem WL:PF1 Nz oD kI:=λJ b1 b2 hp=>⟨by
 rw[EO];obtain⟨-,c1,c2,c3,c4,-⟩:=b1;have c1a:0<=(J 5).Z:=c1.1;have c1b:(J 5).Z<=64:=c1.2;have c2a:0<=(J 6).Z:=c2.1;have c2b:(J 6).Z<=64:=c2.2;have c3a:16<=(J 7).Z:=c3.1;have c3b:(J 7).Z<=16:=c3.2;have c4a:8<=(J 8).Z:=c4.1;have c4b:(J 8).Z<=16:=c4.2;clear c1 c2 c3 c4;obtain⟨p1,p2,p3,p4,p5,p6⟩:=hp;have p1:fmB _ _ _ _ _=true:=p1;simp only[cI,gL,kI,AZ,Bc,bx,bE,Z_i,X_b,F_f,O_s,N_s,N_l,G_l,p1];generalize (J 0).Z=W at *;generalize (J 1).Z=H at *;generalize (J 2).N=na at *;generalize (J 2).G=gy at *;generalize (J 3).N=nb at *;generalize (J 3).G=gu at *;generalize (J 4).N=nc at *;generalize (J 4).G=gv at *;generalize (J 5).Z=x at *;generalize (J 6).Z=y at *;generalize (J 7).Z=w at *;generalize (J 8).Z=h at *;generalize (J 9).Z=vx at *;generalize (J 10).Z=vy at *;have:w=16:=ac;subst this;obtain⟨w,k,rfl,rfl,i1,i2,i3,i4,rfl,rfl,rfl⟩:=dN p1;have t1:Int.tdiv ((2*w:Nat):Int) 2=(w:Int):=by rw[jg ac];omega
 have t2:Int.tdiv ((2*k:Nat):Int) 2=(k:Int):=by rw[jg ac];omega
 have t3:((2*w:Nat):Int) / 2=(w:Int):=ac;have t4:((2*k:Nat):Int) / 2=(k:Int):=ac;rw[t1,t2,t3,t4,jg (x:=x) ac,jg (x:=y) ac,jg (x:=h) ac,ln (x:=x) ac,ln (x:=y) ac,p2,p3];have x1:((2*k:Nat):Int)*((2*w:Nat):Int)<=((2*w*(2*k):Nat):Int):=by rw[Nat.mul_comm (2*w)];exact Int.le_refl _
 have x2:(k:Int)*(w:Int)<=((w*k:Nat):Int):=by rw[Nat.mul_comm w];exact Int.le_refl _
 have l:(16:Int).toNat=16:=rfl;have l':(8:Int).toNat=8:=rfl;have e2:(h / 2).toNat=h.toNat / 2:=ac;rw[l,l',e2];have q0:((0:Int)!=0)=false:=rfl;have q1:decide (((2*w:Nat):Int)-16<x)=false:=decide_eq_false ac;have q2:decide (((2*k:Nat):Int)-h<y)=false:=decide_eq_false ac;rw[q0,q1,q2];simp only[Bool.false_eq_true,false_implies,true_implies,true_and];refine br_ (λq=>br_ (λq'=>?_) λ_=>?_) λ_=>?_
 .have:=cS q;have:=cS q';omega
 all_goals exact⟨⟨x1,ac⟩,⟨x2,ac⟩,⟨x2,ac⟩,ac,ac,ac,ac,ac,rfl,⟨⟨rfl,rfl,aL rfl λ_ _=>rfl,aL rfl λ_ _=>rfl,aL rfl λ_ _=>rfl,ah⟩,rfl,ah⟩,ah⟩⟩
abbrev Bs:CT:=C1 Nz oD kI
theorem jk:CO Bs:=CX1 (TX ⟨dd,Q3,ah⟩ (FK ah)) WL
def fr5 (l:ae):ae:=[l 0,l 1,l 2,l 3,l 4]
def Bz (J:ae):Prop:=cI J/\(J 0).Z % 16=0/\(J 1).Z % 32=0/\(J 5).Z<(J 0).Z / 16/\(J 6).Z<(J 1).Z / 16
def abG (f:ae) (mx my sel vx vy:Int):ae:=kI (fr5 (dP (fr5 f++[.i sel]))++[.i (16*mx),.i (8*my),.i 16,.i 8,.i vx,.i vy])
def vN (J:ae):ae:=rM (fr5 (abG J (J 5).Z (J 6).Z ((J 11).F 0) (J 7).Z (J 8).Z)++fr5 (abG J (J 5).Z (J 6).Z ((J 11).F 1) (J 9).Z (J 10).Z))
abbrev LJ:SP:=mkS ⟨[.sA bJ,aD 0 0],[]⟩ 251 Tryz.f251 [.tX (.sA sFF),aj 0 3,aj 0 3,.tX (.sA [r1,r1,r1,r1]),.tX (.sA [.a 2 .i64 0 1 z0])] [] [(4,.unroll 70),(11,.unroll 70)] [qV,qX,Bs,aa7] [(aw 255 Tryz.f255)]
theorem DG J R:TR LJ J R (let x0:ae:=[.i (J 0).Z,.i (J 1).Z,.l (J 2).N (J 2).G,.l (J 3).N (J 3).G,.l (J 4).N (J 4).G];(cI x0)/\let x1:ae:=gL x0;(((Int.tmod (J 0).Z 16)==0)->
 ((!((Int.tmod (J 1).Z 16)==0))->
  False) /\
 ((!((Int.tmod (J 1).Z 16)==0))=false ->
  (((Int.tmod (J 1).Z 32)!=0)->
   False) /\
  (((Int.tmod (J 1).Z 32)!=0)=false ->
   ((decide ((Int.tdiv (J 0).Z 16)<=(J 5).Z))->
    False) /\
   ((decide ((Int.tdiv (J 0).Z 16)<=(J 5).Z))=false ->
    ((decide ((Int.tdiv (J 1).Z 16)<=(J 6).Z))->
     False) /\
    ((decide ((Int.tdiv (J 1).Z 16)<=(J 6).Z))=false ->
     ((((J 11).F 0)!=0)->
      ((((J 11).F 0)!=1)->
       False) /\
      ((((J 11).F 0)!=1)=false ->
       ((((J 11).F 1)!=0)->
        ((((J 11).F 1)!=1)->
         False) /\
        ((((J 11).F 1)!=1)=false ->
         let x2:ae:=[.i (J 0).Z,.i (J 1).Z,.l (J 2).N (J 2).G,.l (J 3).N (J 3).G,.l (J 4).N (J 4).G,.i ((J 11).F 0)];(dp x2)/\let x3:ae:=dP x2;let x4:ae:=[.i (x3 0).Z,.i (x3 1).Z,.l (x3 2).N (x3 2).G,.l (x3 3).N (x3 3).G,.l (x3 4).N (x3 4).G,.i (16*(J 5).Z),.i (8*(J 6).Z),.i 16,.i 8,.i (J 7).Z,.i (J 8).Z];(oD x4)/\let x5:ae:=kI x4;let x6:ae:=[.i (J 0).Z,.i (J 1).Z,.l (J 2).N (J 2).G,.l (J 3).N (J 3).G,.l (J 4).N (J 4).G,.i ((J 11).F 1)];(dp x6)/\let x7:ae:=dP x6;let x8:ae:=[.i (x7 0).Z,.i (x7 1).Z,.l (x7 2).N (x7 2).G,.l (x7 3).N (x7 3).G,.l (x7 4).N (x7 4).G,.i (16*(J 5).Z),.i (8*(J 6).Z),.i 16,.i 8,.i (J 9).Z,.i (J 10).Z];(oD x8)/\let x9:ae:=kI x8;let x10:ae:=[.i (x5 0).Z,.i (x5 1).Z,.l (x5 2).N (x5 2).G,.l (x5 3).N (x5 3).G,.l (x5 4).N (x5 4).G,.i (x9 0).Z,.i (x9 1).Z,.l (x9 2).N (x9 2).G,.l (x9 3).N (x9 3).G,.l (x9 4).N (x9 4).G];(wk x10)/\let x11:ae:=rM x10;(16<=(x11 0).Z)/\((x11 0).Z<=16)/\(16<=(x11 1).Z)/\((x11 1).Z<=16)/\(256<=(x11 2).N)/\((x11 2).N<=256)/\(64<=(x11 3).N)/\((x11 3).N<=64)/\(64<=(x11 4).N)/\((x11 4).N<=64)/\R [.i 0,.i (x11 0).Z,.i (x11 1).Z,.l (x11 2).N (x11 2).G,.l (x11 3).N (x11 3).G,.l (x11 4).N (x11 4).G,.i (x11 5).Z])) /\
       ((((J 11).F 1)!=0)=false ->
        let x2:ae:=[.i (J 0).Z,.i (J 1).Z,.l (J 2).N (J 2).G,.l (J 3).N (J 3).G,.l (J 4).N (J 4).G,.i ((J 11).F 0)];(dp x2)/\let x3:ae:=dP x2;let x4:ae:=[.i (x3 0).Z,.i (x3 1).Z,.l (x3 2).N (x3 2).G,.l (x3 3).N (x3 3).G,.l (x3 4).N (x3 4).G,.i (16*(J 5).Z),.i (8*(J 6).Z),.i 16,.i 8,.i (J 7).Z,.i (J 8).Z];(oD x4)/\let x5:ae:=kI x4;let x6:ae:=[.i (J 0).Z,.i (J 1).Z,.l (J 2).N (J 2).G,.l (J 3).N (J 3).G,.l (J 4).N (J 4).G,.i ((J 11).F 1)];(dp x6)/\let x7:ae:=dP x6;let x8:ae:=[.i (x7 0).Z,.i (x7 1).Z,.l (x7 2).N (x7 2).G,.l (x7 3).N (x7 3).G,.l (x7 4).N (x7 4).G,.i (16*(J 5).Z),.i (8*(J 6).Z),.i 16,.i 8,.i (J 9).Z,.i (J 10).Z];(oD x8)/\let x9:ae:=kI x8;let x10:ae:=[.i (x5 0).Z,.i (x5 1).Z,.l (x5 2).N (x5 2).G,.l (x5 3).N (x5 3).G,.l (x5 4).N (x5 4).G,.i (x9 0).Z,.i (x9 1).Z,.l (x9 2).N (x9 2).G,.l (x9 3).N (x9 3).G,.l (x9 4).N (x9 4).G];(wk x10)/\let x11:ae:=rM x10;(16<=(x11 0).Z)/\((x11 0).Z<=16)/\(16<=(x11 1).Z)/\((x11 1).Z<=16)/\(256<=(x11 2).N)/\((x11 2).N<=256)/\(64<=(x11 3).N)/\((x11 3).N<=64)/\(64<=(x11 4).N)/\((x11 4).N<=64)/\R [.i 0,.i (x11 0).Z,.i (x11 1).Z,.l (x11 2).N (x11 2).G,.l (x11 3).N (x11 3).G,.l (x11 4).N (x11 4).G,.i (x11 5).Z]))) /\
     ((((J 11).F 0)!=0)=false ->
      ((((J 11).F 1)!=0)->
       ((((J 11).F 1)!=1)->
        False) /\
       ((((J 11).F 1)!=1)=false ->
        let x2:ae:=[.i (J 0).Z,.i (J 1).Z,.l (J 2).N (J 2).G,.l (J 3).N (J 3).G,.l (J 4).N (J 4).G,.i ((J 11).F 0)];(dp x2)/\let x3:ae:=dP x2;let x4:ae:=[.i (x3 0).Z,.i (x3 1).Z,.l (x3 2).N (x3 2).G,.l (x3 3).N (x3 3).G,.l (x3 4).N (x3 4).G,.i (16*(J 5).Z),.i (8*(J 6).Z),.i 16,.i 8,.i (J 7).Z,.i (J 8).Z];(oD x4)/\let x5:ae:=kI x4;let x6:ae:=[.i (J 0).Z,.i (J 1).Z,.l (J 2).N (J 2).G,.l (J 3).N (J 3).G,.l (J 4).N (J 4).G,.i ((J 11).F 1)];(dp x6)/\let x7:ae:=dP x6;let x8:ae:=[.i (x7 0).Z,.i (x7 1).Z,.l (x7 2).N (x7 2).G,.l (x7 3).N (x7 3).G,.l (x7 4).N (x7 4).G,.i (16*(J 5).Z),.i (8*(J 6).Z),.i 16,.i 8,.i (J 9).Z,.i (J 10).Z];(oD x8)/\let x9:ae:=kI x8;let x10:ae:=[.i (x5 0).Z,.i (x5 1).Z,.l (x5 2).N (x5 2).G,.l (x5 3).N (x5 3).G,.l (x5 4).N (x5 4).G,.i (x9 0).Z,.i (x9 1).Z,.l (x9 2).N (x9 2).G,.l (x9 3).N (x9 3).G,.l (x9 4).N (x9 4).G];(wk x10)/\let x11:ae:=rM x10;(16<=(x11 0).Z)/\((x11 0).Z<=16)/\(16<=(x11 1).Z)/\((x11 1).Z<=16)/\(256<=(x11 2).N)/\((x11 2).N<=256)/\(64<=(x11 3).N)/\((x11 3).N<=64)/\(64<=(x11 4).N)/\((x11 4).N<=64)/\R [.i 0,.i (x11 0).Z,.i (x11 1).Z,.l (x11 2).N (x11 2).G,.l (x11 3).N (x11 3).G,.l (x11 4).N (x11 4).G,.i (x11 5).Z])) /\
      ((((J 11).F 1)!=0)=false ->
       let x2:ae:=[.i (J 0).Z,.i (J 1).Z,.l (J 2).N (J 2).G,.l (J 3).N (J 3).G,.l (J 4).N (J 4).G,.i ((J 11).F 0)];(dp x2)/\let x3:ae:=dP x2;let x4:ae:=[.i (x3 0).Z,.i (x3 1).Z,.l (x3 2).N (x3 2).G,.l (x3 3).N (x3 3).G,.l (x3 4).N (x3 4).G,.i (16*(J 5).Z),.i (8*(J 6).Z),.i 16,.i 8,.i (J 7).Z,.i (J 8).Z];(oD x4)/\let x5:ae:=kI x4;let x6:ae:=[.i (J 0).Z,.i (J 1).Z,.l (J 2).N (J 2).G,.l (J 3).N (J 3).G,.l (J 4).N (J 4).G,.i ((J 11).F 1)];(dp x6)/\let x7:ae:=dP x6;let x8:ae:=[.i (x7 0).Z,.i (x7 1).Z,.l (x7 2).N (x7 2).G,.l (x7 3).N (x7 3).G,.l (x7 4).N (x7 4).G,.i (16*(J 5).Z),.i (8*(J 6).Z),.i 16,.i 8,.i (J 9).Z,.i (J 10).Z];(oD x8)/\let x9:ae:=kI x8;let x10:ae:=[.i (x5 0).Z,.i (x5 1).Z,.l (x5 2).N (x5 2).G,.l (x5 3).N (x5 3).G,.l (x5 4).N (x5 4).G,.i (x9 0).Z,.i (x9 1).Z,.l (x9 2).N (x9 2).G,.l (x9 3).N (x9 3).G,.l (x9 4).N (x9 4).G];(wk x10)/\let x11:ae:=rM x10;(16<=(x11 0).Z)/\((x11 0).Z<=16)/\(16<=(x11 1).Z)/\((x11 1).Z<=16)/\(256<=(x11 2).N)/\((x11 2).N<=256)/\(64<=(x11 3).N)/\((x11 3).N<=64)/\(64<=(x11 4).N)/\((x11 4).N<=64)/\R [.i 0,.i (x11 0).Z,.i (x11 1).Z,.l (x11 2).N (x11 2).G,.l (x11 3).N (x11 3).G,.l (x11 4).N (x11 4).G,.i (x11 5).Z]))))))) /\
(((Int.tmod (J 0).Z 16)==0)=false -> False)):=af
theorem SB:PF1 LJ Bz vN:=λJ b1 b2 hp=>⟨by
 rw[DG];obtain⟨-,c1,c2,-,⟨c3,-⟩,-⟩:=b1;have c1a:0<=(J 5).Z:=c1.1;have c1b:(J 5).Z<=3:=c1.2;have c2a:0<=(J 6).Z:=c2.1;have c2b:(J 6).Z<=3:=c2.2;have s0:0<=(J 11).F 0/\(J 11).F 0<=1:=c3 0 afH;have s1:0<=(J 11).F 1/\(J 11).F 1<=1:=c3 1 afH;clear c1 c2 c3;obtain⟨p1,p2,p3,p4,p5⟩:=hp;have p1:fmB _ _ _ _ _=true:=p1;have hf:fmB 16 8 128 32 32=true:=afH;simp only[cI,gL,vN,abG,fr5,List.cons_append,List.nil_append,dp,dP,oD,kI,wk,tls,tl,bx,bE,Z_i,X_b,F_f,O_s,N_s,N_l,G_l,p1];generalize (J 0).Z=W at *;generalize (J 1).Z=H at *;generalize (J 2).N=na at *;generalize (J 2).G=gy at *;generalize (J 3).N=nb at *;generalize (J 3).G=gu at *;generalize (J 4).N=nc at *;generalize (J 4).G=gv at *;generalize (J 5).Z=x at *;generalize (J 6).Z=y at *;generalize (J 7).Z=vx at *;generalize (J 8).Z=vy at *;generalize (J 9).Z=vx' at *;generalize (J 10).Z=vy' at *;generalize (J 11).F 0=t0 at *;generalize (J 11).F 1=t1 at *;obtain⟨w,k,rfl,rfl,i1,i2,i3,i4,-,-,-⟩:=dN p1;obtain⟨a,rfl⟩:∃j,w=8*j:=⟨w / 8,ac⟩;obtain⟨b,rfl⟩:∃j,k=16*j:=⟨k / 16,ac⟩
 have hF:fmB (((2*(8*a):Nat):Int).toNat:Int) ((((2*(16*b):Nat):Int).toNat / 2:Nat):Int) (((2*(8*a):Nat):Int).toNat*(((2*(16*b):Nat):Int).toNat / 2)) (((2*(8*a):Nat):Int).toNat / 2*(((2*(16*b):Nat):Int).toNat / 2 / 2)) (((2*(8*a):Nat):Int).toNat / 2*(((2*(16*b):Nat):Int).toNat / 2 / 2))=true:=by
  simp only[ap];have:=wP (w:=8*a) (k:=8*b) ac ac ac ac;rw[show 2*(16*b) / 2=2*(8*b) by omega,show 2*(8*b) / 2=8*b by omega,show 2*(8*a) / 2=8*a by omega]
  exact this
 have hf:fmB 16 8 (16*(8:Int).toNat) (8*((8:Int).toNat / 2)) (8*((8:Int).toNat / 2))=true:=afH;rw[hF,hf];have m1:Int.tmod ((2*(8*a):Nat):Int) 16=0:=by rw[Int.tmod_eq_emod_of_nonneg ac];omega
 have m2:Int.tmod ((2*(16*b):Nat):Int) 16=0:=by rw[Int.tmod_eq_emod_of_nonneg ac];omega
 have m3:Int.tmod ((2*(16*b):Nat):Int) 32=0:=by rw[Int.tmod_eq_emod_of_nonneg ac];omega
 have d1:Int.tdiv ((2*(8*a):Nat):Int) 16=((2*(8*a):Nat):Int) / 16:=Int.tdiv_eq_ediv_of_nonneg ac;have d2:Int.tdiv ((2*(16*b):Nat):Int) 16=((2*(16*b):Nat):Int) / 16:=Int.tdiv_eq_ediv_of_nonneg ac;rw[m1,m2,m3,d1,d2];refine⟨ah,λ_=>⟨λq=>(by simp at q),λ_=>⟨λq=>(by simp at q),λ_=>⟨λq=>?_,λ_=>⟨λq=>?_,λ_=>⟨λ_=>⟨λq'=>?_,λ_=>⟨λ_=>⟨λq=>?_,λ_=>?_⟩,λ_=>?_⟩⟩,λ_=>⟨λ_=>⟨λq=>?_,λ_=>?_⟩,λ_=>?_⟩⟩⟩⟩⟩⟩,λq=>(by simp at q)⟩
 case' refine_1=>have q:=ai q;omega
 case' refine_2=>have q:=ai q;omega
 case' refine_3=>have q':=cS q';have q:=cS ‹(t0 !=0)=true›;omega
 case' refine_4=>have q:=cS q;have q':=cS ‹(t1 !=0)=true›;omega
 case' refine_7=>have q:=cS q;have q':=cS ‹(t1 !=0)=true›;omega
 all_goals have z1:64<=(16:Int).toNat / 2*(8:Int).toNat:=afH;have z2:(16:Int).toNat / 2*(8:Int).toNat<=64:=afH;exact⟨⟨ao,ao⟩,⟨ao,ao,ao,ao,ao,.inl ao⟩,⟨ao,ao⟩,⟨ao,ao,ao,ao,ao,.inl ao⟩,⟨ao,ao,ao,ao,afH⟩,Int.le_refl 16,Int.le_refl 16,Int.le_refl 16,Int.le_refl 16,Nat.le_refl 256,Nat.le_refl 256,z1,z2,z1,z2,rfl,⟨⟨rfl,rfl,aL rfl λ_ _=>rfl,aL rfl λ_ _=>rfl,aL rfl λ_ _=>rfl,ah⟩,rfl,ah⟩,ah⟩⟩
abbrev Ji:CT:=C1 LJ Bz vN
theorem j7:CO Ji:=CX1 (TX ⟨dd,dh,jk,Lm,ah⟩ (FK ah)) SB
end
end Go.Proofs.YtldmjbgplgoedaaGreatDoor
