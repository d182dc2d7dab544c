import Derived.Test.YtldmjbgplgoedaaGreatDoorRp20
set_option linter.all false
namespace Go.Proofs.YtldmjbgplgoedaaGreatDoor
noncomputable section
open Go.RowKit U
def zigL:List Int:=[0,1,8,16,9,2,3,10,17,24,32,25,18,11,4,5,12,19,26,33,40,48,41,34,27,20,13,6,7,14,21,28,35,42,49,56,57,50,43,36,29,22,15,23,30,37,44,51,58,59,52,45,38,31,39,46,53,60,61,54,47,55,62,63]
def aco (i:Nat):Int:=zigL.getD i 0
def aai (_:ae):ae:=[.f aco]
abbrev LU:SP:=mkS ⟨[.sA [r30]],[]⟩ 355 Tryz.f355 [] [] [(4,.unroll 70),(8,.unroll 70),(0,.unroll 70),(1,.unroll 70),(2,.unroll 70),(3,.unroll 70),(5,.unroll 70)] [] [(aw 368 Tryz.f368),(aw 369 Tryz.f369),(aw 374 Tryz.f374),(aw 367 Tryz.f367),(aw 360 Tryz.f360),(aw 371 Tryz.f371),(aw 372 Tryz.f372),(aw 373 Tryz.f373),(aw 376 Tryz.f376),(aw 377 Tryz.f377),(aw 385 Tryz.f385),(aw 378 Tryz.f378),(aw 386 Tryz.f386),(aw 387 Tryz.f387),(aw 379 Tryz.f379),(aw 388 Tryz.f388),(aw 389 Tryz.f389),(aw 390 Tryz.f390),(aw 380 Tryz.f380),(aw 381 Tryz.f381),(aw 382 Tryz.f382),(aw 383 Tryz.f383)]
theorem IF J R:TR LU J R (R [.i 0,.f (zAt [am 0 0,.c (.nI .i64 1 1 1),.c (.nI .i64 8 8 8),.c (.nI .i64 16 16 16),.c (.nI .i64 9 9 9),.c (.nI .i64 2 2 2),.c (.nI .i64 3 3 3),.c (.nI .i64 10 10 10),.c (.nI .i64 17 17 17),.c (.nI .i64 24 24 24),.c (.nI .i64 32 32 32),.c (.nI .i64 25 25 25),.c (.nI .i64 18 18 18),.c (.nI .i64 11 11 11),.c (.nI .i64 4 4 4),.c (.nI .i64 5 5 5),.c (.nI .i64 12 12 12),.c (.nI .i64 19 19 19),.c (.nI .i64 26 26 26),.c (.nI .i64 33 33 33),.c (.nI .i64 40 40 40),.c (.nI .i64 48 48 48),.c (.nI .i64 41 41 41),.c (.nI .i64 34 34 34),.c (.nI .i64 27 27 27),.c (.nI .i64 20 20 20),.c (.nI .i64 13 13 13),.c (.nI .i64 6 6 6),.c (.nI .i64 7 7 7),.c (.nI .i64 14 14 14),.c (.nI .i64 21 21 21),.c (.nI .i64 28 28 28),.c (.nI .i64 35 35 35),.c (.nI .i64 42 42 42),.c (.nI .i64 49 49 49),.c (.nI .i64 56 56 56),.c (.nI .i64 57 57 57),.c (.nI .i64 50 50 50),.c (.nI .i64 43 43 43),.c (.nI .i64 36 36 36),.c (.nI .i64 29 29 29),.c (.nI .i64 22 22 22),.c (.nI .i64 15 15 15),.c (.nI .i64 23 23 23),.c (.nI .i64 30 30 30),.c (.nI .i64 37 37 37),.c (.nI .i64 44 44 44),.c (.nI .i64 51 51 51),.c (.nI .i64 58 58 58),.c (.nI .i64 59 59 59),.c (.nI .i64 52 52 52),.c (.nI .i64 45 45 45),.c (.nI .i64 38 38 38),.c (.nI .i64 31 31 31),.c (.nI .i64 39 39 39),.c (.nI .i64 46 46 46),.c (.nI .i64 53 53 53),.c (.nI .i64 60 60 60),.c (.nI .i64 61 61 61),.c (.nI .i64 54 54 54),.c (.nI .i64 47 47 47),.c (.nI .i64 55 55 55),.c (.nI .i64 62 62 62),.c (.nI .i64 63 63 63)])]):=af
theorem TN:PF0 LU aai:=λJ b1 b2=>⟨by
 rw[IF];refine⟨rfl,⟨⟨λi hi=>?_,ah⟩,ah⟩,ah⟩
 revert i
 exact(by decide +kernel:∀i,i<64->zAt [am 0 0,.c (.nI .i64 1 1 1),.c (.nI .i64 8 8 8),.c (.nI .i64 16 16 16),.c (.nI .i64 9 9 9),.c (.nI .i64 2 2 2),.c (.nI .i64 3 3 3),.c (.nI .i64 10 10 10),.c (.nI .i64 17 17 17),.c (.nI .i64 24 24 24),.c (.nI .i64 32 32 32),.c (.nI .i64 25 25 25),.c (.nI .i64 18 18 18),.c (.nI .i64 11 11 11),.c (.nI .i64 4 4 4),.c (.nI .i64 5 5 5),.c (.nI .i64 12 12 12),.c (.nI .i64 19 19 19),.c (.nI .i64 26 26 26),.c (.nI .i64 33 33 33),.c (.nI .i64 40 40 40),.c (.nI .i64 48 48 48),.c (.nI .i64 41 41 41),.c (.nI .i64 34 34 34),.c (.nI .i64 27 27 27),.c (.nI .i64 20 20 20),.c (.nI .i64 13 13 13),.c (.nI .i64 6 6 6),.c (.nI .i64 7 7 7),.c (.nI .i64 14 14 14),.c (.nI .i64 21 21 21),.c (.nI .i64 28 28 28),.c (.nI .i64 35 35 35),.c (.nI .i64 42 42 42),.c (.nI .i64 49 49 49),.c (.nI .i64 56 56 56),.c (.nI .i64 57 57 57),.c (.nI .i64 50 50 50),.c (.nI .i64 43 43 43),.c (.nI .i64 36 36 36),.c (.nI .i64 29 29 29),.c (.nI .i64 22 22 22),.c (.nI .i64 15 15 15),.c (.nI .i64 23 23 23),.c (.nI .i64 30 30 30),.c (.nI .i64 37 37 37),.c (.nI .i64 44 44 44),.c (.nI .i64 51 51 51),.c (.nI .i64 58 58 58),.c (.nI .i64 59 59 59),.c (.nI .i64 52 52 52),.c (.nI .i64 45 45 45),.c (.nI .i64 38 38 38),.c (.nI .i64 31 31 31),.c (.nI .i64 39 39 39),.c (.nI .i64 46 46 46),.c (.nI .i64 53 53 53),.c (.nI .i64 60 60 60),.c (.nI .i64 61 61 61),.c (.nI .i64 54 54 54),.c (.nI .i64 47 47 47),.c (.nI .i64 55 55 55),.c (.nI .i64 62 62 62),.c (.nI .i64 63 63 63)] i=aco i)⟩
abbrev aeg:CT:=C0 LU aai
theorem SH:CO aeg:=CX0 (TX trivial (FK (FK (FK (FK (FK (FK (FK (FK (FK (FK (FK (FK (FK (FK (FK (FK (FK (FK (FK (FK (FK (FK ah))))))))))))))))))))))) TN
end
end Go.Proofs.YtldmjbgplgoedaaGreatDoor
namespace Go.Proofs.YtldmjbgplgoedaaGreatDoor
noncomputable section
open Go.RowKit U
def scF (b:Bool) (i:Nat):Int:=bif b then Qy i else aco i
def unzL:List Nat:=[0,1,5,6,14,15,27,28,2,4,7,13,16,26,29,42,3,8,12,17,25,30,41,43,9,11,18,24,31,40,44,53,10,19,23,32,39,45,52,54,20,22,33,38,46,51,55,60,21,34,37,47,50,56,59,61,35,36,48,49,57,58,62,63]
def unaL:List Nat:=[0,4,6,20,22,36,38,52,1,5,7,21,23,37,39,53,2,8,19,24,34,40,50,54,3,9,18,25,35,41,51,55,10,17,26,30,42,46,56,60,11,16,27,31,43,47,57,61,12,15,28,32,44,48,58,62,13,14,29,33,45,49,59,63]
def unF (b:Bool) (k:Nat):Nat:=bif b then unaL.getD k 0 else unzL.getD k 0
theorem wy:∀b:Bool,∀i,i<64->0<=scF b i/\scF b i<=63:=by decide +kernel
theorem Xy:∀b:Bool,∀i,i<64->unF b (scF b i).toNat=i:=by decide +kernel
theorem KJ:∀b:Bool,∀k,k<64->unF b k<64/\scF b (unF b k)=k:=by decide +kernel
def Jt (J:ae):ae:=[.f (scF (J 0).X)]
abbrev Og:SP:=mkS ⟨[.sA [r30]],[]⟩ 315 Tryz.f315 [aN] [] [] [aeg]
theorem DK J R:TR Og J R (BR ((J 0).X) (R [.i 0,.f Qy]) (let x0:ae:=[];let x1:ae:=aai x0;R [.i 0,.f (x1 0).F])):=af
theorem UY:PF0 Og Jt:=λJ b1 b2=>⟨by
 rw[DK];unfold Jt scF;refine br_ (λq=>?_) λq=>?_
 .rw[q];exact⟨rfl,⟨⟨λi hi=>rfl,ah⟩,ah⟩,ah⟩
 .rw[q];exact⟨rfl,⟨⟨λi hi=>rfl,ah⟩,ah⟩,ah⟩⟩
abbrev YU:CT:=C0 Og Jt
theorem zj:CO YU:=CX0 (TX ⟨SH,ah⟩ ah) UY
def Yj (J:ae):ae:=[.f λp=>(J 0).F (scF (J 1).X p).toNat]
abbrev N4:SP:=mkS ⟨[.sA afS],[]⟩ 266 Tryz.f266 [.tX (.sA afS),aN] [] [(3,.head ⟨[(2,tXO (.nP 0 0)),(4,tXO (.nP 1 0)),(5,tXO (.nP 2 0)),(9,.tX (.sA [r30])),(10,aj 0 1048576)],[.run 124 afS,.run 124 [r11],.run 124 afS],[]⟩)] [YU]
theorem Dv J R:TR N4 J R (let x0:ae:=[.b (J 1).X];let x1:ae:=Jt x0;∃(I0:ae->Prop) (μ0:ae->Nat),I0 [.f (x1 0).F,.i 0,.f (J 0).F,.f (λ_=>0),.f (λ_=>0)]/\∀l0,I0 l0->((decide ((l0 1).Z<64))->((l0 1).Z<64)/\(0<=(l0 1).Z)/\((l0 1).Z<64)/\(((l0 1).Z+1)<=1048576)/\Ag I0 μ0 l0 [.f (l0 0).F,.i ((l0 1).Z+1),.f (l0 2).F,.f (l0 3).F,.f (upd (l0 4).F ((l0 1).Z.toNat*1) ((l0 2).F (0+(((l0 0).F (l0 1).Z.toNat).toNat*1))))])/\((decide ((l0 1).Z<64))=false-> R [.i 0,.f (l0 4).F])):=af
theorem Vn:PF0 N4 Yj:=λJ b1 b2=>⟨by
 rw[Dv];simp only[Yj,Jt,bx,bE,Z_i,X_b,F_f,O_s,N_s,N_l,G_l];generalize (J 0).F=f at *;generalize (J 1).X=b at *;refine aZ 64 1 (λr (g:Nat->Int)=>∀i,i<r->g i=f (scF b i).toNat) (λs r g=>set_ (set_ s 1 (.i r)) 4 (.f g)) (λi _ _=>rfl) _ rfl (λi hi=>absurd hi (Nat.not_lt_zero i)) λI μ hA r g hr hg=>?_;simp only[bA,bz,bx,bE,Z_i,X_b,F_f,O_s,N_s,N_l,G_l,ap,yL,Nat.mul_one,Nat.zero_add]at hA ⊢;refine br_ (λq=>?_) λq=>?_
 .have q:=ai q
  repeat (refine And.intro ao ?_)
  refine hA r g _ _ ac ?_ rfl;intro i hi;unfold upd
  by_cases e:i=r
  .subst e;rw[if_pos rfl]
  .rw[if_neg e];exact hg i ac
 .have q:=aQ q;exact⟨rfl,⟨⟨λi hi=>hg i ac,ah⟩,ah⟩,ah⟩⟩
abbrev aeB:CT:=C0 N4 Yj
theorem Tt:CO aeB:=CX0 (TX ⟨zj,ah⟩ ah) Vn
def Vm (J:ae):ae:=[.f λk=>(J 0).F (unF (J 1).X k)]
abbrev Mq:SP:=mkS ⟨[.sA afS],[]⟩ 245 Tryz.f245 [.tX (.sA afS),aN] [] [(3,.head ⟨[(2,tXO (.nP 0 0)),(4,tXO (.nP 1 0)),(5,tXO (.nP 2 0)),(9,.tX (.sA [r30])),(10,aj 0 1048576)],[.run 124 afS,.run 124 [r11],.run 124 afS],[]⟩)] [YU]
theorem EQ J R:TR Mq J R (let x0:ae:=[.b (J 1).X];let x1:ae:=Jt x0;∃(I0:ae->Prop) (μ0:ae->Nat),I0 [.f (x1 0).F,.i 0,.f (J 0).F,.f (λ_=>0),.f (λ_=>0)]/\∀l0,I0 l0->((decide ((l0 1).Z<64))->((l0 1).Z<64)/\(0<=(l0 1).Z)/\((l0 1).Z<64)/\(((l0 1).Z+1)<=1048576)/\Ag I0 μ0 l0 [.f (l0 0).F,.i ((l0 1).Z+1),.f (l0 2).F,.f (l0 3).F,.f (upd (l0 4).F (((l0 0).F (l0 1).Z.toNat).toNat*1) ((l0 2).F (0+((l0 1).Z.toNat*1))))])/\((decide ((l0 1).Z<64))=false-> R [.i 0,.f (l0 4).F])):=af
theorem Th:PF0 Mq Vm:=λJ b1 b2=>⟨by
 rw[EQ];simp only[Vm,Jt,bx,bE,Z_i,X_b,F_f,O_s,N_s,N_l,G_l];generalize (J 0).F=f at *;generalize (J 1).X=b at *;refine aZ 64 1 (λr (g:Nat->Int)=>∀k,k<64->unF b k<r->g k=f (unF b k)) (λs r g=>set_ (set_ s 1 (.i r)) 4 (.f g)) (λi _ _=>rfl) _ rfl (λi hi h=>absurd h (Nat.not_lt_zero _)) λI μ hA r g hr hg=>?_;simp only[bA,bz,bx,bE,Z_i,X_b,F_f,O_s,N_s,N_l,G_l,ap,yL,Nat.mul_one,Nat.zero_add]at hA ⊢;refine br_ (λq=>?_) λq=>?_
 .have q:=ai q;have s1:=wy b r ac;have s2:=Xy b r ac
  repeat (refine And.intro ao ?_)
  refine hA r g _ _ ac ?_ rfl;intro k hk h;unfold upd
  by_cases e:k=(scF b r).toNat
  .rw[if_pos e,e,s2]
  .rw[if_neg e];refine hg k hk ?_;rcases Nat.lt_or_ge (unF b k) r with j | j
   .exact j
   .exfalso
    have:unF b k=r:=ac;have s3:=(KJ b k hk).2;rw[this]at s3;omega
 .have q:=aQ q;exact⟨rfl,⟨⟨λi hi=>hg i hi (by have:=(KJ b i hi).1;omega),ah⟩,ah⟩,ah⟩⟩
abbrev ad4:CT:=C0 Mq Vm
theorem Sz:CO ad4:=CX0 (TX ⟨zj,ah⟩ ah) Th
def nmL:List Int:=[512,578,320,578,512,578,320,578]
def nmF (i:Nat):Int:=nmL.getD i 0
theorem nm3:∀i,i<8->nmF i=512\/nmF i=578\/nmF i=320:=afH
def Qb (J:ae):ae:=[.i (nmF (J 0).Z.toNat)]
abbrev NT:SP:=mkS ⟨[aD 320 578],[]⟩ 354 Tryz.f354 [aj 0 7] [] [] [] [(aw 319 Tryz.f319)]
theorem C5 J R:TR NT J R (R [.i 0,.i ((zAt [.c (.nI .i64 512 512 512),.c (.nI .i64 578 578 578),.c (.nI .i64 320 320 320),.c (.nI .i64 578 578 578),.c (.nI .i64 512 512 512),.c (.nI .i64 578 578 578),.c (.nI .i64 320 320 320),.c (.nI .i64 578 578 578)]) (J 0).Z.toNat)]):=af
theorem WT:PF0 NT Qb:=λJ b1 b2=>⟨by rw[C5];obtain⟨c,-⟩:=b1;have ca:0<=(J 0).Z:=c.1;have cb:(J 0).Z<=7:=c.2;unfold Qb;have h:∀k,k<8->zAt [.c (.nI .i64 512 512 512),.c (.nI .i64 578 578 578),.c (.nI .i64 320 320 320),.c (.nI .i64 578 578 578),.c (.nI .i64 512 512 512),.c (.nI .i64 578 578 578),.c (.nI .i64 320 320 320),.c (.nI .i64 578 578 578)] k=nmF k:=afH;exact⟨rfl,⟨h _ ac,ah⟩,ah⟩⟩
abbrev aeu:CT:=C0 NT Qb
theorem UZ:CO aeu:=CX0 (TX trivial (FK ah)) WT
def gn2 (a b:Int):Int:=if a*b=262144 then 32 else if a*b=295936 then 34 else if a*b=163840 then 25 else if a*b=334084 then 36 else if a*b=184960 then 27 else 20
def gnF (k:Nat):Int:=gn2 (nmF (k / 8)) (nmF (k % 8))
theorem JY:∀k,k<64->20<=gnF k/\gnF k<=36:=afH
def stF (w q:Int) (k:Nat):Int:=w*q*gnF k
def Ox (J:ae):ae:=[.i (stF (J 0).Z (J 1).Z (J 2).Z.toNat)]
abbrev Eb:SP:=mkS ⟨[aD 1 1000000],[]⟩ 314 Tryz.f314 [aj 8 255,aj 1 31,aj 0 63] [] [] [aeu] [(aw 313 Tryz.f313),(aw 353 Tryz.f353)]
theorem CN J R:TR Eb J R (let x0:ae:=[.i (Int.tdiv (J 2).Z 8)];let x1:ae:=Qb x0;let x2:ae:=[.i (Int.tmod (J 2).Z 8)];let x3:ae:=Qb x2;((((min (x1 0).Z (x3 0).Z)==512)&&((max (x1 0).Z (x3 0).Z)==512))->R [.i 0,.i (((J 0).Z*(J 1).Z)*32)])/\((((min (x1 0).Z (x3 0).Z)==512)&&((max (x1 0).Z (x3 0).Z)==512))=false->((((min (x1 0).Z (x3 0).Z)==512)&&((max (x1 0).Z (x3 0).Z)==578))->R [.i 0,.i (((J 0).Z*(J 1).Z)*34)])/\((((min (x1 0).Z (x3 0).Z)==512)&&((max (x1 0).Z (x3 0).Z)==578))=false->((((min (x1 0).Z (x3 0).Z)==320)&&((max (x1 0).Z (x3 0).Z)==512))->R [.i 0,.i (((J 0).Z*(J 1).Z)*25)])/\((((min (x1 0).Z (x3 0).Z)==320)&&((max (x1 0).Z (x3 0).Z)==512))=false->((((min (x1 0).Z (x3 0).Z)==578)&&((max (x1 0).Z (x3 0).Z)==578))->R [.i 0,.i (((J 0).Z*(J 1).Z)*36)])/\((((min (x1 0).Z (x3 0).Z)==578)&&((max (x1 0).Z (x3 0).Z)==578))=false->((((min (x1 0).Z (x3 0).Z)==320)&&((max (x1 0).Z (x3 0).Z)==578))->R [.i 0,.i (((J 0).Z*(J 1).Z)*27)])/\((((min (x1 0).Z (x3 0).Z)==320)&&((max (x1 0).Z (x3 0).Z)==578))=false-> R [.i 0,.i (((J 0).Z*(J 1).Z)*20)])))))):=af
theorem Rg:PF0 Eb Ox:=λJ b1 b2=>⟨by
 rw[CN];obtain⟨-,-,c,-⟩:=b1;have ca:0<=(J 2).Z:=c.1;have cb:(J 2).Z<=63:=c.2;simp only[Ox,Qb,stF,gnF,bx,bE,Z_i,X_b,F_f,O_s,N_s,N_l,G_l];generalize (J 0).Z=w at *;generalize (J 1).Z=q at *;generalize (J 2).Z=k at *;obtain⟨k,rfl⟩:=Int.eq_ofNat_of_zero_le ca;have d:(Int.tdiv (k:Int) 8).toNat=k / 8:=rfl;have m:(Int.tmod (k:Int) 8).toNat=k % 8:=rfl;rw[d,m,ap];have h1:=nm3 (k / 8) ac;have h2:=nm3 (k % 8) ac;generalize nmF (k / 8)=a at *;generalize nmF (k % 8)=b at *;have key:∀x:Int,x=gn2 a b->(hd [.i 0,.i (w*q*x)]).Z=0/\agW KX Eb.Y (tl [.i 0,.i (w*q*x)]) [.i (w*q*gn2 a b)]:=λx e=>⟨rfl,⟨by show w*q*x=w*q*gn2 a b;rw[e],ah⟩,ah⟩
 rcases h1 with rfl | rfl | rfl<;>rcases h2 with rfl | rfl | rfl<;>refine br_ (λh=>?_) λh1=>br_ (λh=>?_) λh2=>br_ (λh=>?_) λh3=>br_ (λh=>?_) λh4=>br_ (λh=>?_) λh5=>?_<;>first
  |exact absurd h afH
  |exact absurd h1 afH
  |exact absurd h2 afH
  |exact absurd h3 afH
  |exact absurd h4 afH
  |exact absurd h5 afH
  |exact key _ afH⟩
abbrev ZQ:CT:=C0 Eb Ox
theorem J6:CO ZQ:=CX0 (TX ⟨UZ,ah⟩ (FK (FK ah))) Rg
end
end Go.Proofs.YtldmjbgplgoedaaGreatDoor
namespace Go.Proofs.YtldmjbgplgoedaaGreatDoor
noncomputable section
open Go.RowKit U
def vmP (m:Nat->Int):Prop:=∀i,i<64->8<=m i
instance (m:Nat->Int):Decidable (vmP m):=Nat.decidableBallLT 64 λi _=>8<=m i
def Cq (J:ae):ae:=[.b (decide (vmP (J 0).F))]
abbrev MC:SP:=mkS ⟨[bm],[]⟩ 154 Tryz.f154 [.tX (.sA [r4])] [] [(2,.head ⟨[(5,.tX (.sA [r4])),(6,aj 0 1048576)],[],[]⟩)]
theorem DQ J R:TR MC J R (∃(I0:ae->Prop) (μ0:ae->Nat),I0 [.f (J 0).F,.i 0]/\∀l0,I0 l0->((decide ((l0 1).Z<64))->((l0 1).Z<64)/\((decide (((l0 0).F (l0 1).Z.toNat)<8))->R [.i 0,.b false])/\((decide (((l0 0).F (l0 1).Z.toNat)<8))=false->(((l0 1).Z+1)<=1048576)/\Ag I0 μ0 l0 [.f (l0 0).F,.i ((l0 1).Z+1)]))/\((decide ((l0 1).Z<64))=false-> R [.i 0,.b true])):=af
theorem VU:PF0 MC Cq:=λJ b1 b2=>⟨by
 rw[DQ];unfold Cq;generalize (J 0).F=m at *;refine aZ 64 1 (λr (_:Unit)=>∀i,i<r->8<=m i) (λs r _=>set_ s 1 (.i r)) (λi _ _=>rfl) () rfl (λi hi=>absurd hi (Nat.not_lt_zero i)) λI μ hA r _ hr hg=>?_;simp only[bA,bz,bx,bE,Z_i,X_b,F_f,O_s,N_s,N_l,G_l,ap]at hA ⊢;refine br_ (λq=>?_) λq=>?_
 .have q:=ai q;refine⟨ao,br_ (λe=>?_) λe=>?_⟩
  .have e:=ai e;exact⟨rfl,⟨(decide_eq_false λh=>by have:=h r ac;omega).symm,ah⟩,ah⟩
  .have e:=aQ e;refine⟨ao,hA r () () _ ac (λi hi=>?_) rfl⟩
   by_cases e':i=r
   .subst e';omega
   .exact hg i ac
 .have q:=aQ q;exact⟨rfl,⟨(decide_eq_true λi hi=>hg i ac).symm,ah⟩,ah⟩⟩
abbrev aeH:CT:=C0 MC Cq
theorem W8:CO aeH:=CX0 (TX trivial ah) VU
def wc (J:ae):Prop:=vmP (J 0).F
def yP (_:ae):ae:=[.b true]
abbrev PI:SP:=mkS ⟨[.sO (.nB false true false)],[]⟩ 154 Tryz.f154 [.tX (.sA [r4])] [] [(2,.head ⟨[(5,.tX (.sA [r4])),(6,aj 0 1048576)],[],[]⟩)]
theorem G7 J R:TR PI J R (∃(I0:ae->Prop) (μ0:ae->Nat),I0 [.f (J 0).F,.i 0]/\∀l0,I0 l0->((decide ((l0 1).Z<64))->((l0 1).Z<64)/\((decide (((l0 0).F (l0 1).Z.toNat)<8))->False)/\((decide (((l0 0).F (l0 1).Z.toNat)<8))=false->(((l0 1).Z+1)<=1048576)/\Ag I0 μ0 l0 [.f (l0 0).F,.i ((l0 1).Z+1)]))/\((decide ((l0 1).Z<64))=false-> R [.i 0,.b true])):=af
theorem R9:PF1 PI wc yP:=λJ b1 b2 hp=>⟨by
 rw[G7];have hp:∀i,i<64->8<=(J 0).F i:=hp;unfold yP;generalize (J 0).F=m at *;refine jo 64 1 (λr s=>set_ s 1 (.i r)) (λi _=>rfl) rfl λI μ hA r hr=>?_;simp only[bA,bz,bx,bE,Z_i,X_b,F_f,O_s,N_s,N_l,G_l,ap]at hA ⊢;refine br_ (λq=>?_) λq=>?_
 .have q:=ai q;refine⟨ao,br_ (λe=>?_) λe=>?_⟩
  .have e:=ai e;have:=hp r ac;omega
  .exact⟨ao,hA r _ ac rfl⟩
 .exact⟨rfl,⟨rfl,ah⟩,ah⟩⟩
abbrev Oq:CT:=C1 PI wc yP
theorem lW:CO Oq:=CX1 (TX trivial ah) R9
def Yg (J:ae):Prop:=vmP (J 1).F
def Rl (J:ae):ae:=[.f λk=>(J 0).F k*stF ((J 1).F k) (J 2).Z k,.i 0]
abbrev OP:SP:=mkS ⟨[.sA YO,aD 0 0],[]⟩ 244 Tryz.f244 [.tX (.sA afS),.tX (.sA [r4]),aj 1 31] [] [(5,.head ⟨[(2,aj 1 31),(4,tXO (.nP 0 0)),(6,tXO (.nP 1 0)),(8,tXO (.nP 2 0)),(20,.tX (.sA afS)),(21,aj 0 1048576)],[.run 24 [r4],.run 124 [r11],.run 124 YO],[]⟩)] [Oq,ZQ] [(aw 313 Tryz.f313)]
theorem Ew J R:TR OP J R (let x0:ae:=[.f (J 1).F];(wc x0)/\let x1:ae:=yP x0;∃(I0:ae->Prop) (μ0:ae->Nat),I0 [.i (J 2).Z,.f (J 0).F,.i 0,.f (J 1).F,.f (λ_=>0),.f (λ_=>0)]/\∀l0,I0 l0->((decide ((l0 2).Z<64))->((l0 2).Z<64)/\(0<=(l0 2).Z)/\((l0 2).Z<64)/\(8<=((l0 3).F (0+((l0 2).Z.toNat*1))))/\((l0 2).Z<=63)/\let x2:ae:=[.i ((l0 3).F (0+((l0 2).Z.toNat*1))),.i (l0 0).Z,.i (l0 2).Z];let x3:ae:=Ox x2;(0<=(l0 2).Z)/\((l0 2).Z<64)/\(((l0 2).Z+1)<=1048576)/\Ag I0 μ0 l0 [.i (l0 0).Z,.f (l0 1).F,.i ((l0 2).Z+1),.f (l0 3).F,.f (l0 4).F,.f (upd (l0 5).F ((l0 2).Z.toNat*1) (((l0 1).F (l0 2).Z.toNat)*(x3 0).Z))])/\((decide ((l0 2).Z<64))=false-> R [.i 0,.f (l0 5).F,.i 0])):=af
theorem Tw:PF1 OP Yg Rl:=λJ b1 b2 hp=>⟨by
 rw[Ew];have hp:∀i,i<64->8<=(J 1).F i:=hp;simp only[Rl,wc,Ox,bx,bE,Z_i,X_b,F_f,O_s,N_s,N_l,G_l];generalize (J 0).F=l at *;generalize (J 1).F=m at *;generalize (J 2).Z=q at *;refine⟨hp,?_⟩;refine aZ 64 2 (λr (g:Nat->Int)=>∀i,i<r->g i=l i*stF (m i) q i) (λs r g=>set_ (set_ s 2 (.i r)) 5 (.f g)) (λi _ _=>rfl) _ rfl (λi hi=>absurd hi (Nat.not_lt_zero i)) λI μ hA r g hr hg=>?_;simp only[bA,bz,bx,bE,Z_i,X_b,F_f,O_s,N_s,N_l,G_l,ap,yL,Nat.mul_one,Nat.zero_add]at hA ⊢;refine br_ (λq1=>?_) λq1=>?_
 .have q1:=ai q1;have:=hp r ac
  repeat (refine And.intro ao ?_)
  refine hA r g _ _ ac ?_ rfl;intro i hi;unfold upd
  by_cases e:i=r
  .subst e;rw[if_pos rfl]
  .rw[if_neg e];exact hg i ac
 .have q1:=aQ q1;exact⟨rfl,⟨⟨λi hi=>hg i ac,ah⟩,rfl,ah⟩,ah⟩⟩
abbrev ac5:CT:=C1 OP Yg Rl
theorem Va:CO ac5:=CX1 (TX ⟨lW,J6,ah⟩ (FK ah)) Tw
def lvF (a s:Int):Int:=if s-a % s<=a % s then a / s+1 else a / s
def qzF (v s:Int):Int:=if v<0 then -(lvF (-v) s)else lvF v s
def ZW (J:ae):Prop:=vmP (J 1).F/\∀k,k<64->-4095<=qzF ((J 0).F k) (stF ((J 1).F k) (J 2).Z k)/\qzF ((J 0).F k) (stF ((J 1).F k) (J 2).Z k)<=4095
def Yl (J:ae):ae:=[.f λk=>qzF ((J 0).F k) (stF ((J 1).F k) (J 2).Z k),.i 0]
theorem IU {w q:Int} {k:Nat} (h1:8<=w) (h2:w<=255) (h3:1<=q) (h4:q<=31) (hk:k<64):160<=stF w q k/\stF w q k<=284580:=by
 unfold stF;have g:=JY k hk
 have a:8<=w*q:=by have:=Int.mul_le_mul h1 h3 ac ac;omega
 have b:w*q<=255*31:=Int.mul_le_mul h2 h4 ac ac;have c:=Int.mul_le_mul a g.1 ac ac;have d:=Int.mul_le_mul b g.2 ac ac;omega
abbrev OG:SP:=mkS ⟨[.sA afS,aD 0 0],[]⟩ 264 Tryz.f264 [.tX (.sA Qw),.tX (.sA [r4]),aj 1 31] [] [(5,.head ⟨[(2,aj 1 31),(4,tXO (.nP 0 0)),(6,tXO (.nP 1 0)),(8,tXO (.nP 2 0)),(24,.tX (.sA Qw)),(25,aj 0 1048576)],[.run 24 [r4],.run 124 [r11],.run 124 lN],[]⟩),(10040,.head ⟨[(2,aj 1 31),(4,tXO (.nP 0 0)),(6,tXO (.nP 1 0)),(8,tXO (.nP 2 0)),(9,aj 0 1048576),(10,aj (-2097152) 2097152),(11,tXO (.nI .u64 1 1000000 0)),(12,tXO (.nI .u64 0 18446744073709551615 0)),(24,.tX (.sA Qw)),(25,aj 0 1048576)],[.run 24 [r4],.run 124 [r11],.run 124 lN],[]⟩),(10053,.head ⟨[(2,aj 1 31),(4,tXO (.nP 0 0)),(6,tXO (.nP 1 0)),(8,tXO (.nP 2 0)),(9,aj 0 1048576),(10,aj (-2097152) 2097152),(13,tXO (.nI .u64 0 18446744073709551615 0)),(24,.tX (.sA Qw)),(25,aj 0 1048576)],[.run 24 [r4],.run 124 [r11],.run 124 lN],[]⟩)] [Oq,ZQ] [(aw 313 Tryz.f313)]
theorem Cw J R:TR OG J R (let x0:ae:=[.f (J 1).F];(wc x0)/\let x1:ae:=yP x0;∃(I0:ae->Prop) (μ0:ae->Nat),I0 [.i (J 2).Z,.f (J 0).F,.i 0,.f (J 1).F,.f (λ_=>0),.f (λ_=>0)]/\∀l0,I0 l0->((decide ((l0 2).Z<64))->((l0 2).Z<64)/\(0<=(l0 2).Z)/\((l0 2).Z<64)/\(8<=((l0 3).F (0+((l0 2).Z.toNat*1))))/\((l0 2).Z<=63)/\let x2:ae:=[.i ((l0 3).F (0+((l0 2).Z.toNat*1))),.i (l0 0).Z,.i (l0 2).Z];let x3:ae:=Ox x2;∃J1:ae->Prop,(((decide (((l0 1).F (l0 2).Z.toNat)<0))->J1 [.i (l0 0).Z,.i (l0 2).Z,.i ((l0 1).F (l0 2).Z.toNat),.i (x3 0).Z,.i (IntKind.wrap .u64 (-(IntKind.wrap .u64 ((l0 1).F (l0 2).Z.toNat)))),.f (l0 1).F,.i (l0 2).Z,.f (l0 3).F,.f (l0 4).F,.f (l0 5).F])/\((decide (((l0 1).F (l0 2).Z.toNat)<0))=false->J1 [.i (l0 0).Z,.i (l0 2).Z,.i ((l0 1).F (l0 2).Z.toNat),.i (x3 0).Z,.i (IntKind.wrap .u64 ((l0 1).F (l0 2).Z.toNat)),.f (l0 1).F,.i (l0 2).Z,.f (l0 3).F,.f (l0 4).F,.f (l0 5).F]))/\∀j1,J1 j1->∃J2:ae->Prop,(((decide ((IntKind.wrap .u64 ((j1 3).Z-(Int.tmod (j1 4).Z (j1 3).Z)))<=(Int.tmod (j1 4).Z (j1 3).Z)))->J2 [.i (j1 0).Z,.i (j1 1).Z,.i (j1 2).Z,.i (IntKind.wrap .u64 ((Int.tdiv (j1 4).Z (j1 3).Z)+1)),.f (j1 5).F,.i (j1 6).Z,.f (j1 7).F,.f (j1 8).F,.f (j1 9).F])/\((decide ((IntKind.wrap .u64 ((j1 3).Z-(Int.tmod (j1 4).Z (j1 3).Z)))<=(Int.tmod (j1 4).Z (j1 3).Z)))=false->J2 [.i (j1 0).Z,.i (j1 1).Z,.i (j1 2).Z,.i (Int.tdiv (j1 4).Z (j1 3).Z),.f (j1 5).F,.i (j1 6).Z,.f (j1 7).F,.f (j1 8).F,.f (j1 9).F]))/\∀j2,J2 j2->((decide (4095<(j2 3).Z))->False)/\((decide (4095<(j2 3).Z))=false->(0<=(j2 1).Z)/\((j2 1).Z<64)/\((decide ((j2 2).Z<0))->(0<=(j2 1).Z)/\((j2 1).Z<64)/\(0<=(j2 1).Z)/\((j2 1).Z<64)/\(((j2 5).Z+1)<=1048576)/\let k0:=upd (j2 8).F ((j2 1).Z.toNat*1) (IntKind.wrap .i64 (j2 3).Z);Ag I0 μ0 l0 [.i (j2 0).Z,.f (j2 4).F,.i ((j2 5).Z+1),.f (j2 6).F,.f (j2 7).F,.f (upd k0 ((j2 1).Z.toNat*1) (IntKind.wrap .i64 (-(k0 (0+((j2 1).Z.toNat*1))))))])/\((decide ((j2 2).Z<0))=false->(((j2 5).Z+1)<=1048576)/\Ag I0 μ0 l0 [.i (j2 0).Z,.f (j2 4).F,.i ((j2 5).Z+1),.f (j2 6).F,.f (j2 7).F,.f (upd (j2 8).F ((j2 1).Z.toNat*1) (IntKind.wrap .i64 (j2 3).Z))])))/\((decide ((l0 2).Z<64))=false-> (∀i,i<64->(-4095)<=(l0 5).F i/\(l0 5).F i<=4095)/\R [.i 0,.f (l0 5).F,.i 0])):=af
theorem U9:PF1 OG ZW Yl:=λJ b1 b2 hp=>⟨by
 rw[Cw];obtain⟨⟨c0,-⟩,⟨c1,-⟩,c,-⟩:=b1;have ca:1<=(J 2).Z:=c.1;have cb:(J 2).Z<=31:=c.2;have cy:∀i,i<64->-2097152<=(J 0).F i/\(J 0).F i<=2097152:=c0;have cm:∀i,i<64->0<=(J 1).F i/\(J 1).F i<=255:=c1;clear c0 c1 c;obtain⟨hp,hl⟩:=hp;have hp:∀i,i<64->8<=(J 1).F i:=hp;simp only[Yl,wc,Ox,bx,bE,Z_i,X_b,F_f,O_s,N_s,N_l,G_l];generalize (J 0).F=y at *;generalize (J 1).F=m at *;generalize (J 2).Z=q at *;refine⟨hp,?_⟩;refine aZ 64 2 (λr (g:Nat->Int)=>∀i,i<r->g i=qzF (y i) (stF (m i) q i)) (λs r g=>set_ (set_ s 2 (.i r)) 5 (.f g)) (λi _ _=>rfl) _ rfl (λi hi=>absurd hi (Nat.not_lt_zero i)) λI μ hA r g hr hg=>?_;simp only[bA,bz,bx,bE,Z_i,X_b,F_f,O_s,N_s,N_l,G_l,ap,yL,Nat.mul_one,Nat.zero_add]at hA ⊢;refine br_ (λq1=>?_) λq1=>?_
 .have q1:=ai q1;have k1:=hp r ac;have k2:=cy r ac;have k3:=cm r ac;obtain⟨k4,k5⟩:=IU (q:=q) k1 k3.2 ca cb (show r<64 by omega)
  have k6:=hl r ac
  have hst:∀l',l'=upd g r (qzF (y r) (stF (m r) q r))->∀i,i<r+1->l' i=qzF (y i) (stF (m i) q i):=by
   rintro _ rfl i hi;unfold upd
   by_cases e:i=r
   .subst e;rw[if_pos rfl]
   .rw[if_neg e];exact hg i ac
  generalize hs:stF (m r) q r=s at *;generalize hv:y r=v at *;have a0:0<=(if v<0 then -v else v):=by split<;>omega
  have a1:(if v<0 then -v else v)<=2097152:=by split<;>omega
  repeat (refine And.intro ao ?_)
  refine⟨λl=>l=[.i q,.i r,.i v,.i s,.i (if v<0 then -v else v),.f y,.i r,.f m,.f (λ_=>0),.f g],br_ (λe=>?_) (λe=>?_),?_⟩
  .have e:=ai e
   rw[if_pos e,show IntKind.u64.wrap (-(IntKind.u64.wrap v))=-v by unfold IntKind.wrap;simp only[IntKind.bits,IntKind.signed,Bool.false_and,Bool.false_eq_true,if_false];omega]
  .have e:=aQ e;rw[if_neg e,show IntKind.u64.wrap v=v from bH (k:=.u64) ⟨by simp only[low];omega,by simp only[top];omega⟩]
  rintro _ rfl;simp only[bx,bE,Z_i,X_b,F_f,O_s,N_s,N_l,G_l];have tm:Int.tmod (if v<0 then -v else v) s=(if v<0 then -v else v) % s:=Int.tmod_eq_emod_of_nonneg a0
  have td:Int.tdiv (if v<0 then -v else v) s=(if v<0 then -v else v) / s:=Int.tdiv_eq_ediv_of_nonneg a0
  have ha:qzF v s=if v<0 then -(lvF (if v<0 then -v else v) s)else lvF (if v<0 then -v else v) s:=by
   unfold qzF
   by_cases e:v<0
   .rw[if_pos e,if_pos e,if_pos e]
   .rw[if_neg e,if_neg e,if_neg e]
  simp only[tm,td];generalize (if v<0 then -v else v)=a at *
  have m1:=Int.emod_nonneg a (show s≠0 by omega)
  have m2:=Int.emod_lt_of_pos a (show 0<s by omega)
  have d1:0<=a / s:=Int.ediv_nonneg a0 ac;have d2:a / s<=a:=Int.ediv_le_self s a0;have w1:IntKind.u64.wrap (s-a % s)=s-a % s:=bH (k:=.u64) ⟨by simp only[low];omega,by simp only[top];omega⟩
  have w2:IntKind.u64.wrap (a / s+1)=a / s+1:=bH (k:=.u64) ⟨by simp only[low];omega,by simp only[top];omega⟩
  simp only[w1,w2];refine⟨λl=>l=[.i q,.i r,.i v,.i (lvF a s),.f y,.i r,.f m,.f (λ_=>0),.f g],br_ (λe=>?_) (λe=>?_),?_⟩
  .have e:=ai e;unfold lvF;rw[if_pos e]
  .have e:=aQ e;unfold lvF;rw[if_neg e]
  rintro _ rfl;simp only[bx,bE,Z_i,X_b,F_f,O_s,N_s,N_l,G_l]
  have l0:0<=lvF a s/\lvF a s<=2097153:=by
   unfold lvF
   split<;>omega
  have l1:lvF a s<=4095:=by
   rw[ha]at k6
   split at k6<;>omega
  have w3:IntKind.i64.wrap (lvF a s)=lvF a s:=aX ac ac;rw[w3];refine br_ (λe=>?_) λ_=>?_
  .have e:=ai e;omega
  refine⟨ao,ao,br_ (λe=>?_) λe=>?_⟩
  .have e:=ai e
   repeat (refine And.intro ao ?_)
   rw[if_pos e]at ha;refine hA r g _ _ ac (hst _ ?_) rfl;rw[ha]
   funext i
   unfold upd
   by_cases ei:i=r
   .rw[if_pos ac,if_pos ac,if_pos ac];exact aX ac ac
   .rw[if_neg ac,if_neg ac,if_neg ac]
  .have e:=aQ e
   repeat (refine And.intro ao ?_)
   rw[if_neg e]at ha;refine hA r g _ _ ac (hst _ ?_) rfl;rw[ha];rfl
 .have q1:=aQ q1;refine⟨λi hi=>?_,rfl,⟨⟨λi hi=>hg i ac,ah⟩,rfl,ah⟩,ah⟩;rw[hg i ac];exact hl i hi⟩
abbrev adi:CT:=C1 OG ZW Yl
theorem VO:CO adi:=CX1 (TX ⟨lW,J6,ah⟩ (FK ah)) U9
end
end Go.Proofs.YtldmjbgplgoedaaGreatDoor
