import Derived.Test.YtldmjbgplgoedaaGreatDoorRp18
set_option linter.all false
namespace Go.Proofs.YtldmjbgplgoedaaGreatDoor
noncomputable section
open Go.RowKit U
def plF (n:Nat) (fd:Bool):Nat:=if 4<=n then 0 else bif fd then n % 2*8+n / 2*16 else n % 2*8+n / 2*8*16
def plS (n:Nat) (fd:Bool):Nat:=if 4<=n then 8 else bif fd then 32 else 16
def xb (J:ae):ae:=[.i (plF (J 3).Z.toNat (J 4).X),.i (plS (J 3).Z.toNat (J 4).X),.i 8,.i 8]
abbrev ET:SP:=mkS ⟨[.sA A4],[]⟩ 317 Tryz.f317 [aj 16 16,aj 0 0,aj 0 0,aj 0 5,aN] [] [] [] [(aw 170 Tryz.f170)]
theorem DY J R:TR ET J R (((decide (4<=(J 3).Z))->R [.i 0,.i 0,.i 8,.i 8,.i 8])/\((decide (4<=(J 3).Z))=false->((J 4).X->R [.i 0,.i ((0+((Int.tmod (J 3).Z 2)*8))+((Int.tdiv (J 3).Z 2)*(J 0).Z)),.i 32,.i 8,.i 8])/\((J 4).X=false-> R [.i 0,.i ((0+((Int.tmod (J 3).Z 2)*8))+(((Int.tdiv (J 3).Z 2)*8)*(J 0).Z)),.i (J 0).Z,.i 8,.i 8]))):=af
theorem WM:PF0 ET xb:=λJ b1 b2=>⟨by
 rw[DY];obtain⟨a,-,-,c,-⟩:=b1;have ca:0<=(J 3).Z:=c.1;have cb:(J 3).Z<=5:=c.2;have aa:16<=(J 0).Z:=a.1;have ab:(J 0).Z<=16:=a.2;clear c a;unfold xb;generalize (J 3).Z=n at *;generalize (J 0).Z=w at *;generalize (J 4).X=fd at *;obtain⟨n,rfl⟩:=Int.eq_ofNat_of_zero_le ca;have:w=16:=ac;subst this;simp only[ap];have key:∀x y:Int,x=plF n fd->y=plS n fd->(hd [.i 0,.i x,.i y,.i 8,.i 8]).Z=0/\agW KX ET.Y (tl [.i 0,.i x,.i y,.i 8,.i 8]) [.i (plF n fd),.i (plS n fd),.i 8,.i 8]:=λx y h1 h2=>⟨rfl,⟨⟨h1,h2,rfl,rfl,ah⟩,ah⟩,ah⟩;have d2:Int.tdiv (n:Int) 2=((n / 2:Nat):Int):=rfl;have m2:Int.tmod (n:Int) 2=((n % 2:Nat):Int):=rfl;rw[d2,m2];refine br_ (λq=>?_) λq=>br_ (λe=>?_) λe=>?_
 .have q:=ai q;exact key _ _ (by unfold plF;rw[if_pos ac];rfl) (by unfold plS;rw[if_pos ac];rfl)
 .have q:=aQ q;subst e;exact key _ _ (by unfold plF;rw[if_neg ac];simp only[cond_true];omega) (by unfold plS;rw[if_neg ac];rfl)
 .have q:=aQ q;subst e;exact key _ _ (by unfold plF;rw[if_neg ac];simp only[cond_false];omega) (by unfold plS;rw[if_neg ac];rfl)⟩
abbrev R6:CT:=C0 ET xb
theorem sR:CO R6:=CX0 (TX trivial (FK ah)) WM
def cpN (J:ae) (n:Int):Nat:=if n=4 then(J 3).N else if n=5 then(J 4).N else(J 2).N
def cpG (J:ae) (n:Int):Nat->ae:=if n=4 then(J 3).G else if n=5 then(J 4).G else(J 2).G
def TC (J:ae):ae:=[.l (cpN J (J 5).Z) (cpG J (J 5).Z)]
abbrev Ph:SP:=mkS ⟨[.sO (.nR 0 1 4096 0 g0)],[]⟩ 316 Tryz.f316 [.tX (.sA bJ),aj 0 5] [] []
theorem E5 J R:TR Ph J R (BR ((J 5).Z==4) (R [.i 0,.l (J 3).N (J 3).G]) (BR ((J 5).Z==5) (R [.i 0,.l (J 4).N (J 4).G]) (R [.i 0,.l (J 2).N (J 2).G]))):=af
theorem Xi:PF0 Ph TC:=λJ b1 b2=>⟨by
 rw[E5];unfold TC cpN cpG;refine br_ (λq=>?_) λq=>br_ (λe=>?_) λe=>?_
 .have q:=dL q;rw[if_pos q,if_pos q];exact⟨rfl,⟨⟨rfl,λ_ _=>rfl⟩,ah⟩,ah⟩
 .have q:=dn q;have e:=dL e;rw[if_neg q,if_neg q,if_pos e,if_pos e];exact⟨rfl,⟨⟨rfl,λ_ _=>rfl⟩,ah⟩,ah⟩
 .have q:=dn q;have e:=dn e;rw[if_neg q,if_neg q,if_neg e,if_neg e];exact⟨rfl,⟨⟨rfl,λ_ _=>rfl⟩,ah⟩,ah⟩⟩
abbrev adf:CT:=C0 Ph TC
theorem Vt:CO adf:=CX0 (TX trivial ah) Xi
def bkI (n:Nat) (fd:Bool) (i:Nat):Nat:=plF n fd+i / 8*plS n fd+i % 8
theorem Vp {n:Nat} {fd:Bool} {i:Nat} (hi:i<64):n<4->bkI n fd i<256:=λhn=>by
 unfold bkI plF plS;rw[if_neg ac,if_neg ac];cases fd
 .simp only[cond_false];omega
 .simp only[cond_true];omega
theorem No {n:Nat} {fd:Bool} {i:Nat} (hi:i<64):4<=n->bkI n fd i=i:=λhn=>by unfold bkI plF plS;rw[if_pos ac,if_pos ac];omega
def QE (J:ae):Prop:=cI J
def KO (J:ae):ae:=[.f λi=>cel (cpG J (J 7).Z) (bkI (J 7).Z.toNat (J 8).X i),.i 0]
abbrev L5:SP:=mkS ⟨[.sA [.a 64 .i64 0 255 z0],aD 0 0],[]⟩ 246 Tryz.f246 [.tX (.sA bJ),aj 0 0,aj 0 0,aj 0 5,aN] [] [(5,.head ⟨[(10,tXO (.nP 0 0)),(12,tXO (.nP 1 0)),(39,tXO (.nR 0 1 4096 0 g0)),(40,aj 1 4096),(41,aj 0 1048576)],[.run 124 [r11],.run 124 [.a 64 .i64 0 255 z0]],[]⟩)] [qV,adf,R6,X3] [(aw 168 Tryz.f168),(aw 255 Tryz.f255)]
theorem E6 J R:TR L5 J R (let x0:ae:=[.i (J 0).Z,.i (J 1).Z,.l (J 2).N (J 2).G,.l (J 3).N (J 3).G,.l (J 4).N (J 4).G];(cI x0)/\let x1:ae:=gL x0;let x2:ae:=[.i (J 0).Z,.i (J 1).Z,.l (J 2).N (J 2).G,.l (J 3).N (J 3).G,.l (J 4).N (J 4).G,.i (J 7).Z];let x3:ae:=TC x2;let x4:ae:=[.i (J 0).Z,.i (J 5).Z,.i (J 6).Z,.i (J 7).Z,.b (J 8).X];let x5:ae:=xb x4;let x6:ae:=[.l (x3 0).N (x3 0).G,.i (x5 0).Z,.i (x5 1).Z,.i (x5 2).Z,.i (x5 3).Z];(qU x6)/\let x7:ae:=qW x6;∃(I0:ae->Prop) (μ0:ae->Nat),I0 [.l (x7 0).N (x7 0).G,.i (((x7 0).N:Nat):Int),.i 0,.f (λ_=>0),.f (λ_=>0)]/\∀l0,I0 l0->((decide ((l0 2).Z<(l0 1).Z))->((l0 2).Z<(((l0 0).N:Nat):Int))/\(0<=(l0 2).Z)/\((l0 2).Z<64)/\(((l0 2).Z+1)<=1048576)/\Ag I0 μ0 l0 [.l (l0 0).N (l0 0).G,.i (l0 1).Z,.i ((l0 2).Z+1),.f (l0 3).F,.f (upd (l0 4).F ((l0 2).Z.toNat*1) (((l0 0).G (l0 2).Z.toNat) 0).Z)])/\((decide ((l0 2).Z<(l0 1).Z))=false-> R [.i 0,.f (l0 4).F,.i 0])):=af
theorem XQ:PF1 L5 QE KO:=λJ b1 b2 hp=>⟨by
 rw[E6];obtain⟨⟨-,-,g,h,i,-⟩,-,-,c,-⟩:=b1;have ca:0<=(J 7).Z:=c.1;have cb:(J 7).Z<=5:=c.2;have ga:256<=(J 2).N:=g.1;have gb:(J 2).N<=256:=g.2.1;have ha:64<=(J 3).N:=h.1;have hb:(J 3).N<=64:=h.2.1;have ia:64<=(J 4).N:=i.1;have ib:(J 4).N<=64:=i.2.1;clear c g h i;have hp:fmB _ _ _ _ _=true:=hp;have eN:(J 7).Z<=3->cpN J (J 7).Z=256:=λh=>by unfold cpN;rw[if_neg ac,if_neg ac];omega
 have eN':4<=(J 7).Z->cpN J (J 7).Z=64:=λh=>by
  unfold cpN
  by_cases e:(J 7).Z=4
  .rw[if_pos e];omega
  .rw[if_neg e,if_pos ac];omega
 have e1:cpN [.i (J 0).Z,.i (J 1).Z,.l (J 2).N (J 2).G,.l (J 3).N (J 3).G,.l (J 4).N (J 4).G,.i (J 7).Z] (J 7).Z=cpN J (J 7).Z:=rfl;have e2:cpG [.i (J 0).Z,.i (J 1).Z,.l (J 2).N (J 2).G,.l (J 3).N (J 3).G,.l (J 4).N (J 4).G,.i (J 7).Z] (J 7).Z=cpG J (J 7).Z:=rfl;simp only[cI,gL,KO,xb,TC,qU,qW,bx,bE,Z_i,X_b,F_f,O_s,N_s,N_l,G_l,e1,e2];generalize cpG J (J 7).Z=G at *;generalize cpN J (J 7).Z=N at *;generalize (J 7).Z=n at *;generalize (J 8).X=fd at *;obtain⟨n,rfl⟩:=Int.eq_ofNat_of_zero_le ca;simp only[ap,uW,Z_i];have e8:(8:Int).toNat=8:=rfl;rw[e8];refine⟨hp,⟨?_,afH⟩,?_⟩
 .unfold plF plS
  by_cases h4:4<=n
  .rw[if_pos h4,if_pos h4,eN' ac]
   decide
  .rw[if_neg h4,if_neg h4,eN ac];cases fd
   .simp only[cond_false];omega
   .simp only[cond_true];omega
 refine aZ 64 2 (λr (f:Nat->Int)=>∀i,i<r->f i=A1 G (plF n fd) (plS n fd) 8 i) (λs r f=>set_ (set_ s 2 (.i r)) 4 (.f f)) (λi _ _=>rfl) _ rfl (λi hi=>absurd hi (Nat.not_lt_zero i)) λI μ hA r f hr hf=>?_;simp only[bA,bz,bx,bE,Z_i,X_b,F_f,O_s,N_s,N_l,G_l,ap,yL]at hA ⊢;refine br_ (λq=>?_) λq=>?_
 .have q:=ai q;refine⟨ac,ac,ac,ac,hA r f _ _ ac ?_ rfl⟩;intro i hi;unfold upd
  by_cases e:i=r
  .subst e;rw[if_pos ac];rfl
  .rw[if_neg ac];exact hf i ac
 .have q:=aQ q;refine⟨rfl,⟨⟨λi hi=>?_,ah⟩,rfl,ah⟩,ah⟩;exact hf i ac⟩
abbrev ZH:CT:=C1 L5 QE KO
theorem JQ:CO ZH:=CX1 (TX ⟨dd,Vt,sR,xM,ah⟩ (FK (FK ah))) XQ
def Rq (f g:Nat->ae) (i:Nat):Int:=(cel f i+cel g i+1) / 2
def Qf (J:ae):Prop:=(J 0).N<=(J 1).N
def Oj (J:ae):ae:=[.l (J 0).N (rz (Rq (J 0).G (J 1).G))]
abbrev M0:SP:=mkS ⟨[.sO (.nR 0 1 4096 0 g0)],[]⟩ 323 Tryz.f323 [tXO (.nR 0 1 4096 0 g0),tXO (.nR 0 1 4096 0 g0)] [] [(3,.head ⟨[(1,tXO (.nR 0 1 4096 0 g0)),(5,tXO (.nD 0 0 1 4096 0 0)),(11,tXO (.nR 0 1 4096 0 g0)),(12,aj 1 4096),(13,aj 0 1048576)],[.dyn 5 0 1 4096 0 g0 false],[]⟩)]
theorem EH J R:TR M0 J R (∃(I0:ae->Prop) (μ0:ae->Nat),I0 [.l (J 1).N (J 1).G,.s 0 (((J 0).N:Nat):Int).toNat,.l (J 0).N (J 0).G,.i (((J 0).N:Nat):Int),.i 0,.l (((J 0).N:Nat):Int).toNat (λ_=>[.i 0])]/\∀l0,I0 l0->((decide ((l0 4).Z<(l0 3).Z))->((l0 4).Z<(((l0 2).N:Nat):Int))/\((l0 4).Z<(((l0 0).N:Nat):Int))/\((l0 4).Z<(((l0 1).N:Nat):Int))/\(((l0 1).O+(l0 4).Z.toNat)<(l0 5).N)/\(((l0 4).Z+1)<=1048576)/\Ag I0 μ0 l0 [.l (l0 0).N (l0 0).G,.s (l0 1).O (l0 1).N,.l (l0 2).N (l0 2).G,.i (l0 3).Z,.i ((l0 4).Z+1),.l (l0 5).N (upd (l0 5).G ((l0 1).O+(l0 4).Z.toNat) [.i ((((((l0 2).G (l0 4).Z.toNat) 0).Z+(((l0 0).G (l0 4).Z.toNat) 0).Z)+1) / 2)])])/\((decide ((l0 4).Z<(l0 3).Z))=false-> (((l0 1).O+(l0 1).N)<=(l0 5).N)/\R [.i 0,.l (l0 1).N (λi0=>(l0 5).G ((l0 1).O+i0))])):=af
theorem V0:PF1 M0 Qf Oj:=λJ b1 b2 hp=>⟨by
 rw[EH];obtain⟨c,-⟩:=b1;have ca:1<=(J 0).N:=c.1;have cb:(J 0).N<=4096:=c.2.1;clear c;have hp:(J 0).N<=(J 1).N:=hp;unfold Oj;generalize (J 0).N=n at *;generalize (J 0).G=f at *;generalize (J 1).N=m at *;generalize (J 1).G=g at *;simp only[ap];refine aZ n 4 (λr (b:Nat->ae)=>∀i,i<r->cel b i=Rq f g i) (λs r b=>set_ (set_ s 4 (.i r)) 5 (.l n b)) (λi _ _=>rfl) _ rfl (λi hi=>absurd hi (Nat.not_lt_zero i)) λI μ hA r b hr hb=>?_;simp only[bA,bz,bx,bE,Z_i,X_b,F_f,O_s,N_s,N_l,G_l,ap]at hA ⊢;refine br_ (λq=>?_) λq=>?_
 .have q:=ai q;refine⟨ac,ac,ac,ac,ac,hA r b _ _ ac ?_ rfl⟩;intro i hi;simp only[cel];unfold upd
  by_cases e:i=r
  .subst e;rw[if_pos ac,bx,Z_i];rfl
  .rw[if_neg ac];exact hb i ac
 .have q:=aQ q;refine⟨ac,rfl,⟨aL rfl λi hi=>?_,ah⟩,ah⟩;simp only[cel,Nat.zero_add];exact hb i ac⟩
abbrev ad8:CT:=C1 M0 Qf Oj
theorem R0:CO ad8:=CX1 (TX trivial ah) V0
def Yq (J:ae):Prop:=cI J/\cI (tls 5 J)
def Qj (J:ae):ae:=[.i 16,.i 16,.l 256 (rz (Rq (J 2).G (J 7).G)),.l 64 (rz (Rq (J 3).G (J 8).G)),.l 64 (rz (Rq (J 4).G (J 9).G)),.i 0]
abbrev M2:SP:=mkS ⟨[.sA bJ,aD 0 0],[]⟩ 254 Tryz.f254 [.tX (.sA bJ),.tX (.sA bJ)] [] [] [qV,ad8]
theorem E8 J R:TR M2 J R (let x0:ae:=[.i (J 0).Z,.i (J 1).Z,.l (J 2).N (J 2).G,.l (J 3).N (J 3).G,.l (J 4).N (J 4).G];(cI x0)/\let x1:ae:=gL x0;let x2:ae:=[.i (J 5).Z,.i (J 6).Z,.l (J 7).N (J 7).G,.l (J 8).N (J 8).G,.l (J 9).N (J 9).G];(cI x2)/\let x3:ae:=gL x2;let x4:ae:=[.l (J 2).N (J 2).G,.l (J 7).N (J 7).G];(Qf x4)/\let x5:ae:=Oj x4;let x6:ae:=[.l (J 3).N (J 3).G,.l (J 8).N (J 8).G];(Qf x6)/\let x7:ae:=Oj x6;let x8:ae:=[.l (J 4).N (J 4).G,.l (J 9).N (J 9).G];(Qf x8)/\let x9:ae:=Oj x8;(256<=(x5 0).N)/\((x5 0).N<=256)/\(64<=(x7 0).N)/\((x7 0).N<=64)/\(64<=(x9 0).N)/\((x9 0).N<=64)/\R [.i 0,.i (J 0).Z,.i (J 1).Z,.l (x5 0).N (x5 0).G,.l (x7 0).N (x7 0).G,.l (x9 0).N (x9 0).G,.i 0]):=af
theorem Q6:PF1 M2 Yq Qj:=λJ b1 b2 hp=>⟨by
 rw[E8];obtain⟨⟨j,k,g,h,i,-⟩,⟨-,-,l,m,n,-⟩,-⟩:=b1;have ja:16<=(J 0).Z:=j.1;have jb:(J 0).Z<=16:=j.2;have ka:16<=(J 1).Z:=k.1;have kb:(J 1).Z<=16:=k.2;have ga:256<=(J 2).N:=g.1;have gb:(J 2).N<=256:=g.2.1;have ha:64<=(J 3).N:=h.1;have hb:(J 3).N<=64:=h.2.1;have ia:64<=(J 4).N:=i.1;have ib:(J 4).N<=64:=i.2.1;have la:256<=(J 7).N:=l.1;have lb:(J 7).N<=256:=l.2.1;have ma:64<=(J 8).N:=m.1;have mb:(J 8).N<=64:=m.2.1;have na:64<=(J 9).N:=n.1;have nb:(J 9).N<=64:=n.2.1;clear j k g h i l m n;obtain⟨p1,p2⟩:=hp;have p1:fmB _ _ _ _ _=true:=p1;have p2:fmB (J 5).Z (J 6).Z (J 7).N (J 8).N (J 9).N=true:=p2;simp only[cI,gL,Qj,Qf,Oj,bx,bE,Z_i,X_b,F_f,O_s,N_s,N_l,G_l];refine⟨p1,p2,ac,ac,ac,ac,ac,ac,ac,ac,ac,rfl,⟨⟨?_,?_,aL ac λ_ _=>rfl,aL ac λ_ _=>rfl,aL ac λ_ _=>rfl,ah⟩,rfl,ah⟩,ah⟩
 .show(J 0).Z=16;omega
 .show(J 1).Z=16;omega⟩
abbrev J5:CT:=C1 M2 Yq Qj
theorem kH:CO J5:=CX1 (TX ⟨dd,R0,ah⟩ ah) Q6
def qq (f:Nat->Int) (i:Nat):Int:=min (max (f i) 0) 255
def xA (g:Nat->ae) (n:Nat) (fd:Bool) (f:Nat->Int):Nat->ae:=rz (jK g (rz (qq f)) (plF n fd) (plS n fd) 8 8)
theorem aaC {n:Nat} {fd:Bool} (h:n<4):8<=plS n fd/\plF n fd+7*plS n fd+8<=256:=by
 unfold plF plS;rw[if_neg ac,if_neg ac];cases fd
 .simp only[cond_false];omega
 .simp only[cond_true];omega
theorem Ky {n:Nat} {fd:Bool} (h:4<=n):plF n fd=0/\plS n fd=8:=by unfold plF plS;rw[if_pos h,if_pos h];exact⟨rfl,rfl⟩
def Vs (J:ae):Prop:=cI J
def Aw (J:ae):ae:=[.i 16,.i 16,.l 256 (xA (J 2).G (J 7).Z.toNat (J 8).X (J 9).F),.l 64 (J 3).G,.l 64 (J 4).G,.i 0]
abbrev sK:SP:=mkS ⟨[.sA bJ,aD 0 0],[]⟩ 248 Tryz.f248 [.tX (.sA bJ),aj 0 0,aj 0 0,aj 0 3,aN,.tX (.sA Zm)] [] [(5,.head ⟨[(1,aj 0 0),(2,aj 0 0),(3,aj 0 3),(4,aN),(6,tXO (.nP 0 0)),(12,tXO (.nP 1 0)),(14,tXO (.nD 2 0 64 64 0 0)),(33,.tX (.sA Zm)),(34,aj 0 1048576)],[.run 31 bJ,.run 31 ad5,.dyn 5 0 64 64 0 g0 false],[]⟩)] [qV,Rb,R6,QB] [(aw 168 Tryz.f168),(aw 255 Tryz.f255),(aw 169 Tryz.f169),(aw 316 Tryz.f316)]
theorem w8 J R:TR sK J R (let x0:ae:=[.i (J 0).Z,.i (J 1).Z,.l (J 2).N (J 2).G,.l (J 3).N (J 3).G,.l (J 4).N (J 4).G];(cI x0)/\let x1:ae:=gL x0;∃(I0:ae->Prop) (μ0:ae->Nat),I0 [.i (J 5).Z,.i (J 6).Z,.i (J 7).Z,.b (J 8).X,.s 0 64,.f (J 9).F,.i 0,.i (J 0).Z,.i (J 1).Z,.l (J 2).N (J 2).G,.l (J 3).N (J 3).G,.l (J 4).N (J 4).G,.f (λ_=>0),.l 64 (λ_=>[.i 0])]/\∀l0,I0 l0->((decide ((l0 6).Z<64))->((l0 6).Z<64)/\((l0 6).Z<(((l0 4).N:Nat):Int))/\(((l0 4).O+(l0 6).Z.toNat)<(l0 13).N)/\(((l0 6).Z+1)<=1048576)/\Ag I0 μ0 l0 [.i (l0 0).Z,.i (l0 1).Z,.i (l0 2).Z,.b (l0 3).X,.s (l0 4).O (l0 4).N,.f (l0 5).F,.i ((l0 6).Z+1),.i (l0 7).Z,.i (l0 8).Z,.l (l0 9).N (l0 9).G,.l (l0 10).N (l0 10).G,.l (l0 11).N (l0 11).G,.f (l0 12).F,.l (l0 13).N (upd (l0 13).G ((l0 4).O+(l0 6).Z.toNat) [.i (min (max ((l0 5).F (l0 6).Z.toNat) 0) 255)])])/\((decide ((l0 6).Z<64))=false-> let x2:ae:=[.l (l0 9).N (l0 9).G];let x3:ae:=oK x2;let x4:ae:=[.l (l0 10).N (l0 10).G];let x5:ae:=oK x4;let x6:ae:=[.l (l0 11).N (l0 11).G];let x7:ae:=oK x6;let x8:ae:=[.i (l0 7).Z,.i (l0 0).Z,.i (l0 1).Z,.i (l0 2).Z,.b (l0 3).X];let x9:ae:=xb x8;(((l0 4).O+(l0 4).N)<=(l0 13).N)/\let x10:ae:=[.s (x3 0).O (x3 0).N,.i (x9 0).Z,.i (x9 1).Z,.i (x9 2).Z,.i (x9 3).Z,.l (l0 4).N (λi0=>(l0 13).G ((l0 4).O+i0)),.l (x3 1).N (x3 1).G];(lM x10)/\let x11:ae:=lL x10;(((x3 0).O+(x3 0).N)<=(x11 0).N)/\(((x5 0).O+(x5 0).N)<=(x5 1).N)/\(((x7 0).O+(x7 0).N)<=(x7 1).N)/\(256<=(x3 0).N)/\((x3 0).N<=256)/\(64<=(x5 0).N)/\((x5 0).N<=64)/\(64<=(x7 0).N)/\((x7 0).N<=64)/\R [.i 0,.i (l0 7).Z,.i (l0 8).Z,.l (x3 0).N (λi0=>(x11 0).G ((x3 0).O+i0)),.l (x5 0).N (λi0=>(x5 1).G ((x5 0).O+i0)),.l (x7 0).N (λi0=>(x7 1).G ((x7 0).O+i0)),.i 0])):=af
theorem Pj:PF1 sK Vs Aw:=λJ b1 b2 hp=>⟨by
 rw[w8];obtain⟨⟨j,k,g,h,i,-⟩,-,-,c,-⟩:=b1;have ja:16<=(J 0).Z:=j.1;have jb:(J 0).Z<=16:=j.2;have ka:16<=(J 1).Z:=k.1;have kb:(J 1).Z<=16:=k.2;have ga:256<=(J 2).N:=g.1;have gb:(J 2).N<=256:=g.2.1;have ha:64<=(J 3).N:=h.1;have hb:(J 3).N<=64:=h.2.1;have ia:64<=(J 4).N:=i.1;have ib:(J 4).N<=64:=i.2.1;have ca:0<=(J 7).Z:=c.1;have cb:(J 7).Z<=3:=c.2;clear j k g h i c;have hp:fmB _ _ _ _ _=true:=hp;simp only[cI,gL,Aw,xb,oK,lM,lL,bx,bE,Z_i,X_b,F_f,O_s,N_s,N_l,G_l];generalize (J 0).Z=W at *;generalize (J 1).Z=H at *;generalize (J 2).N=na at *;generalize (J 2).G=y at *;generalize (J 3).N=nb at *;generalize (J 3).G=u at *;generalize (J 4).N=nc at *;generalize (J 4).G=v at *;generalize (J 7).Z=n at *;generalize (J 8).X=fd at *;generalize (J 9).F=f at *;refine⟨hp,?_⟩;obtain⟨n,rfl⟩:=Int.eq_ofNat_of_zero_le (show 0<=n by omega)
 refine aZ 64 6 (λr (b:Nat->ae)=>∀i,i<r->cel b i=qq f i) (λs r b=>set_ (set_ s 6 (.i r)) 13 (.l 64 b)) (λi _ _=>rfl) _ rfl (λi hi=>absurd hi (Nat.not_lt_zero i)) λI μ hA r b hr hb=>?_;simp only[bA,bz,bx,bE,Z_i,X_b,F_f,O_s,N_s,N_l,G_l,ap]at hA ⊢;refine br_ (λq=>?_) λq=>?_
 .have q:=ai q;refine⟨ac,ac,ac,ac,hA r b _ _ ac ?_ rfl⟩;intro i hi;simp only[cel];unfold upd
  by_cases e:i=r
  .subst e;rw[if_pos ac,bx,Z_i];rfl
  .rw[if_neg ac];exact hb i ac
 have q:=aQ q;have e8:(8:Int).toNat=8:=rfl;rw[e8];obtain⟨o1,o2⟩:=aaC (n:=n) (fd:=fd) ac;refine⟨ao,⟨ao,ao,ao,ao,ao⟩,ao,ao,ao,ao,ao,ao,ao,ao,ao,rfl,⟨⟨?_,?_,aL ac λi _=>?_,gQ ac λi _=>?_,gQ ac λi _=>?_,ah⟩,rfl,ah⟩,ah⟩
 .show W=16;omega
 .show H=16;omega
 .simp only[cel,Nat.zero_add,uW,Z_i];unfold jK
  split
  .rename_i hc;refine hb _ ?_;have:=hc.2.1;omega
  .rfl
 .simp only[cel,Nat.zero_add];rfl
 .simp only[cel,Nat.zero_add];rfl⟩
abbrev abh:CT:=C1 sK Vs Aw
theorem sbkY_ct:CO abh:=CX1 (TX ⟨dd,tz,sR,pJ,ah⟩ (FK (FK (FK (FK ah))))) Pj
def TE (J:ae):Prop:=cI J
def wB (J:ae):ae:=[.i 16,.i 16,.l 256 (J 2).G,.l 64 (xA (J 3).G (J 7).Z.toNat (J 8).X (J 9).F),.l 64 (J 4).G,.i 0]
abbrev AF:SP:=mkS ⟨[.sA bJ,aD 0 0],[]⟩ 248 Tryz.f248 [.tX (.sA bJ),aj 0 0,aj 0 0,aj 4 4,aN,.tX (.sA Zm)] [] [(5,.head ⟨[(1,aj 0 0),(2,aj 0 0),(3,aj 4 4),(4,aN),(6,tXO (.nP 0 0)),(12,tXO (.nP 1 0)),(14,tXO (.nD 2 0 64 64 0 0)),(33,.tX (.sA Zm)),(34,aj 0 1048576)],[.run 31 bJ,.run 31 ad5,.dyn 5 0 64 64 0 g0 false],[]⟩)] [qV,Rb,R6,QB] [(aw 168 Tryz.f168),(aw 255 Tryz.f255),(aw 169 Tryz.f169),(aw 316 Tryz.f316)]
theorem AD J R:TR AF J R (let x0:ae:=[.i (J 0).Z,.i (J 1).Z,.l (J 2).N (J 2).G,.l (J 3).N (J 3).G,.l (J 4).N (J 4).G];(cI x0)/\let x1:ae:=gL x0;∃(I0:ae->Prop) (μ0:ae->Nat),I0 [.i (J 5).Z,.i (J 6).Z,.i (J 7).Z,.b (J 8).X,.s 0 64,.f (J 9).F,.i 0,.i (J 0).Z,.i (J 1).Z,.l (J 2).N (J 2).G,.l (J 3).N (J 3).G,.l (J 4).N (J 4).G,.f (λ_=>0),.l 64 (λ_=>[.i 0])]/\∀l0,I0 l0->((decide ((l0 6).Z<64))->((l0 6).Z<64)/\((l0 6).Z<(((l0 4).N:Nat):Int))/\(((l0 4).O+(l0 6).Z.toNat)<(l0 13).N)/\(((l0 6).Z+1)<=1048576)/\Ag I0 μ0 l0 [.i (l0 0).Z,.i (l0 1).Z,.i (l0 2).Z,.b (l0 3).X,.s (l0 4).O (l0 4).N,.f (l0 5).F,.i ((l0 6).Z+1),.i (l0 7).Z,.i (l0 8).Z,.l (l0 9).N (l0 9).G,.l (l0 10).N (l0 10).G,.l (l0 11).N (l0 11).G,.f (l0 12).F,.l (l0 13).N (upd (l0 13).G ((l0 4).O+(l0 6).Z.toNat) [.i (min (max ((l0 5).F (l0 6).Z.toNat) 0) 255)])])/\((decide ((l0 6).Z<64))=false-> let x2:ae:=[.l (l0 9).N (l0 9).G];let x3:ae:=oK x2;let x4:ae:=[.l (l0 10).N (l0 10).G];let x5:ae:=oK x4;let x6:ae:=[.l (l0 11).N (l0 11).G];let x7:ae:=oK x6;let x8:ae:=[.i (l0 7).Z,.i (l0 0).Z,.i (l0 1).Z,.i (l0 2).Z,.b (l0 3).X];let x9:ae:=xb x8;(((l0 4).O+(l0 4).N)<=(l0 13).N)/\let x10:ae:=[.s (x5 0).O (x5 0).N,.i (x9 0).Z,.i (x9 1).Z,.i (x9 2).Z,.i (x9 3).Z,.l (l0 4).N (λi0=>(l0 13).G ((l0 4).O+i0)),.l (x5 1).N (x5 1).G];(lM x10)/\let x11:ae:=lL x10;(((x3 0).O+(x3 0).N)<=(x3 1).N)/\(((x5 0).O+(x5 0).N)<=(x11 0).N)/\(((x7 0).O+(x7 0).N)<=(x7 1).N)/\(256<=(x3 0).N)/\((x3 0).N<=256)/\(64<=(x5 0).N)/\((x5 0).N<=64)/\(64<=(x7 0).N)/\((x7 0).N<=64)/\R [.i 0,.i (l0 7).Z,.i (l0 8).Z,.l (x3 0).N (λi0=>(x3 1).G ((x3 0).O+i0)),.l (x5 0).N (λi0=>(x11 0).G ((x5 0).O+i0)),.l (x7 0).N (λi0=>(x7 1).G ((x7 0).O+i0)),.i 0])):=af
theorem MF:PF1 AF TE wB:=λJ b1 b2 hp=>⟨by
 rw[AD];obtain⟨⟨j,k,g,h,i,-⟩,-,-,c,-⟩:=b1;have ja:16<=(J 0).Z:=j.1;have jb:(J 0).Z<=16:=j.2;have ka:16<=(J 1).Z:=k.1;have kb:(J 1).Z<=16:=k.2;have ga:256<=(J 2).N:=g.1;have gb:(J 2).N<=256:=g.2.1;have ha:64<=(J 3).N:=h.1;have hb:(J 3).N<=64:=h.2.1;have ia:64<=(J 4).N:=i.1;have ib:(J 4).N<=64:=i.2.1;have ca:4<=(J 7).Z:=c.1;have cb:(J 7).Z<=4:=c.2;clear j k g h i c;have hp:fmB _ _ _ _ _=true:=hp;simp only[cI,gL,wB,xb,oK,lM,lL,bx,bE,Z_i,X_b,F_f,O_s,N_s,N_l,G_l];generalize (J 0).Z=W at *;generalize (J 1).Z=H at *;generalize (J 2).N=na at *;generalize (J 2).G=y at *;generalize (J 3).N=nb at *;generalize (J 3).G=u at *;generalize (J 4).N=nc at *;generalize (J 4).G=v at *;generalize (J 7).Z=n at *;generalize (J 8).X=fd at *;generalize (J 9).F=f at *;refine⟨hp,?_⟩;obtain⟨n,rfl⟩:=Int.eq_ofNat_of_zero_le (show 0<=n by omega)
 refine aZ 64 6 (λr (b:Nat->ae)=>∀i,i<r->cel b i=qq f i) (λs r b=>set_ (set_ s 6 (.i r)) 13 (.l 64 b)) (λi _ _=>rfl) _ rfl (λi hi=>absurd hi (Nat.not_lt_zero i)) λI μ hA r b hr hb=>?_;simp only[bA,bz,bx,bE,Z_i,X_b,F_f,O_s,N_s,N_l,G_l,ap]at hA ⊢;refine br_ (λq=>?_) λq=>?_
 .have q:=ai q;refine⟨ac,ac,ac,ac,hA r b _ _ ac ?_ rfl⟩;intro i hi;simp only[cel];unfold upd
  by_cases e:i=r
  .subst e;rw[if_pos ac,bx,Z_i];rfl
  .rw[if_neg ac];exact hb i ac
 have q:=aQ q;have e8:(8:Int).toNat=8:=rfl;rw[e8];obtain⟨o1,o2⟩:=Ky (n:=n) (fd:=fd) ac;refine⟨ao,⟨ao,ao,ao,ao,ao⟩,ao,ao,ao,ao,ao,ao,ao,ao,ao,rfl,⟨⟨?_,?_,gQ ac λi _=>?_,aL ac λi _=>?_,gQ ac λi _=>?_,ah⟩,rfl,ah⟩,ah⟩
 .show W=16;omega
 .show H=16;omega
 .simp only[cel,Nat.zero_add];rfl
 .simp only[cel,Nat.zero_add,uW,Z_i];unfold jK
  split
  .rename_i hc;refine hb _ ?_;have:=hc.2.1;omega
  .rfl
 .simp only[cel,Nat.zero_add];rfl⟩
abbrev abY:CT:=C1 AF TE wB
theorem sbkU_ct:CO abY:=CX1 (TX ⟨dd,tz,sR,pJ,ah⟩ (FK (FK (FK (FK ah))))) MF
def U6 (J:ae):Prop:=cI J
def AI (J:ae):ae:=[.i 16,.i 16,.l 256 (J 2).G,.l 64 (J 3).G,.l 64 (xA (J 4).G (J 7).Z.toNat (J 8).X (J 9).F),.i 0]
abbrev xQ:SP:=mkS ⟨[.sA bJ,aD 0 0],[]⟩ 248 Tryz.f248 [.tX (.sA bJ),aj 0 0,aj 0 0,aj 5 5,aN,.tX (.sA Zm)] [] [(5,.head ⟨[(1,aj 0 0),(2,aj 0 0),(3,aj 5 5),(4,aN),(6,tXO (.nP 0 0)),(12,tXO (.nP 1 0)),(14,tXO (.nD 2 0 64 64 0 0)),(33,.tX (.sA Zm)),(34,aj 0 1048576)],[.run 31 bJ,.run 31 ad5,.dyn 5 0 64 64 0 g0 false],[]⟩)] [qV,Rb,R6,QB] [(aw 168 Tryz.f168),(aw 255 Tryz.f255),(aw 169 Tryz.f169),(aw 316 Tryz.f316)]
theorem zf J R:TR xQ J R (let x0:ae:=[.i (J 0).Z,.i (J 1).Z,.l (J 2).N (J 2).G,.l (J 3).N (J 3).G,.l (J 4).N (J 4).G];(cI x0)/\let x1:ae:=gL x0;∃(I0:ae->Prop) (μ0:ae->Nat),I0 [.i (J 5).Z,.i (J 6).Z,.i (J 7).Z,.b (J 8).X,.s 0 64,.f (J 9).F,.i 0,.i (J 0).Z,.i (J 1).Z,.l (J 2).N (J 2).G,.l (J 3).N (J 3).G,.l (J 4).N (J 4).G,.f (λ_=>0),.l 64 (λ_=>[.i 0])]/\∀l0,I0 l0->((decide ((l0 6).Z<64))->((l0 6).Z<64)/\((l0 6).Z<(((l0 4).N:Nat):Int))/\(((l0 4).O+(l0 6).Z.toNat)<(l0 13).N)/\(((l0 6).Z+1)<=1048576)/\Ag I0 μ0 l0 [.i (l0 0).Z,.i (l0 1).Z,.i (l0 2).Z,.b (l0 3).X,.s (l0 4).O (l0 4).N,.f (l0 5).F,.i ((l0 6).Z+1),.i (l0 7).Z,.i (l0 8).Z,.l (l0 9).N (l0 9).G,.l (l0 10).N (l0 10).G,.l (l0 11).N (l0 11).G,.f (l0 12).F,.l (l0 13).N (upd (l0 13).G ((l0 4).O+(l0 6).Z.toNat) [.i (min (max ((l0 5).F (l0 6).Z.toNat) 0) 255)])])/\((decide ((l0 6).Z<64))=false-> let x2:ae:=[.l (l0 9).N (l0 9).G];let x3:ae:=oK x2;let x4:ae:=[.l (l0 10).N (l0 10).G];let x5:ae:=oK x4;let x6:ae:=[.l (l0 11).N (l0 11).G];let x7:ae:=oK x6;let x8:ae:=[.i (l0 7).Z,.i (l0 0).Z,.i (l0 1).Z,.i (l0 2).Z,.b (l0 3).X];let x9:ae:=xb x8;(((l0 4).O+(l0 4).N)<=(l0 13).N)/\let x10:ae:=[.s (x7 0).O (x7 0).N,.i (x9 0).Z,.i (x9 1).Z,.i (x9 2).Z,.i (x9 3).Z,.l (l0 4).N (λi0=>(l0 13).G ((l0 4).O+i0)),.l (x7 1).N (x7 1).G];(lM x10)/\let x11:ae:=lL x10;(((x3 0).O+(x3 0).N)<=(x3 1).N)/\(((x5 0).O+(x5 0).N)<=(x5 1).N)/\(((x7 0).O+(x7 0).N)<=(x11 0).N)/\(256<=(x3 0).N)/\((x3 0).N<=256)/\(64<=(x5 0).N)/\((x5 0).N<=64)/\(64<=(x7 0).N)/\((x7 0).N<=64)/\R [.i 0,.i (l0 7).Z,.i (l0 8).Z,.l (x3 0).N (λi0=>(x3 1).G ((x3 0).O+i0)),.l (x5 0).N (λi0=>(x5 1).G ((x5 0).O+i0)),.l (x7 0).N (λi0=>(x11 0).G ((x7 0).O+i0)),.i 0])):=af
theorem OE:PF1 xQ U6 AI:=λJ b1 b2 hp=>⟨by
 rw[zf];obtain⟨⟨j,k,g,h,i,-⟩,-,-,c,-⟩:=b1;have ja:16<=(J 0).Z:=j.1;have jb:(J 0).Z<=16:=j.2;have ka:16<=(J 1).Z:=k.1;have kb:(J 1).Z<=16:=k.2;have ga:256<=(J 2).N:=g.1;have gb:(J 2).N<=256:=g.2.1;have ha:64<=(J 3).N:=h.1;have hb:(J 3).N<=64:=h.2.1;have ia:64<=(J 4).N:=i.1;have ib:(J 4).N<=64:=i.2.1;have ca:5<=(J 7).Z:=c.1;have cb:(J 7).Z<=5:=c.2;clear j k g h i c;have hp:fmB _ _ _ _ _=true:=hp;simp only[cI,gL,AI,xb,oK,lM,lL,bx,bE,Z_i,X_b,F_f,O_s,N_s,N_l,G_l];generalize (J 0).Z=W at *;generalize (J 1).Z=H at *;generalize (J 2).N=na at *;generalize (J 2).G=y at *;generalize (J 3).N=nb at *;generalize (J 3).G=u at *;generalize (J 4).N=nc at *;generalize (J 4).G=v at *;generalize (J 7).Z=n at *;generalize (J 8).X=fd at *;generalize (J 9).F=f at *;refine⟨hp,?_⟩;obtain⟨n,rfl⟩:=Int.eq_ofNat_of_zero_le (show 0<=n by omega)
 refine aZ 64 6 (λr (b:Nat->ae)=>∀i,i<r->cel b i=qq f i) (λs r b=>set_ (set_ s 6 (.i r)) 13 (.l 64 b)) (λi _ _=>rfl) _ rfl (λi hi=>absurd hi (Nat.not_lt_zero i)) λI μ hA r b hr hb=>?_;simp only[bA,bz,bx,bE,Z_i,X_b,F_f,O_s,N_s,N_l,G_l,ap]at hA ⊢;refine br_ (λq=>?_) λq=>?_
 .have q:=ai q;refine⟨ac,ac,ac,ac,hA r b _ _ ac ?_ rfl⟩;intro i hi;simp only[cel];unfold upd
  by_cases e:i=r
  .subst e;rw[if_pos ac,bx,Z_i];rfl
  .rw[if_neg ac];exact hb i ac
 have q:=aQ q;have e8:(8:Int).toNat=8:=rfl;rw[e8];obtain⟨o1,o2⟩:=Ky (n:=n) (fd:=fd) ac;refine⟨ao,⟨ao,ao,ao,ao,ao⟩,ao,ao,ao,ao,ao,ao,ao,ao,ao,rfl,⟨⟨?_,?_,gQ ac λi _=>?_,gQ ac λi _=>?_,aL ac λi _=>?_,ah⟩,rfl,ah⟩,ah⟩
 .show W=16;omega
 .show H=16;omega
 .simp only[cel,Nat.zero_add];rfl
 .simp only[cel,Nat.zero_add];rfl
 .simp only[cel,Nat.zero_add,uW,Z_i];unfold jK
  split
  .rename_i hc;refine hb _ ?_;have:=hc.2.1;omega
  .rfl⟩
abbrev ab3:CT:=C1 xQ U6 AI
theorem sbkV_ct:CO ab3:=CX1 (TX ⟨dd,tz,sR,pJ,ah⟩ (FK (FK (FK (FK ah))))) OE
end
end Go.Proofs.YtldmjbgplgoedaaGreatDoor
