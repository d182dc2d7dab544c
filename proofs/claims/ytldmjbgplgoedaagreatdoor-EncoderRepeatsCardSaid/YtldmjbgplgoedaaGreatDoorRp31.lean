import Derived.Test.YtldmjbgplgoedaaGreatDoorRp30
set_option linter.all false
namespace Go.Proofs.YtldmjbgplgoedaaGreatDoor
noncomputable section
open Go.RowKit U
def abH (_:ae):Prop:=True
def XT (J:ae):ae:=wrC (λ_=>0) 0 (fR J 11)
abbrev lF:SP:=mkS ⟨[],[.run 351 [am 1 31,.a 3 .i64 (-4095) 4095 z0,am (-63) 63,am (-63) 63,am (-63) 63,am (-63) 63,.c (.nP 1 0),am 1 1,am 1 3,av,av,.c (.nP 2 0)],.run 349 [.c (.nD 3 0 0 1000000 0 0),am 0 8000000],.run 127 [am 1 1,av,av,av,av,am (-63) 63,am (-63) 63,am (-63) 63,am (-63) 63,am (-63) 63,am (-63) 63,am (-63) 63,am (-63) 63,.a 4 .i64 0 1 z0,am 0 0,av,av,av,av,av,av,.a 384 .i64 (-4095) 4095 z0],.dyn 5 0 0 1000000 0 g0 false]⟩ 271 Tryz.f271 [tXO (.nP 0 0)] [.run 351 [am 1 31,.a 3 .i64 (-4095) 4095 z0,am (-63) 63,am (-63) 63,am (-63) 63,am (-63) 63,.c (.nP 1 0),am 1 1,am 1 3,av,av,.c (.nP 2 0)],.run 349 [.c (.nK (.slice none 0 0)),am 0 0],.run 127 [am 1 1,av,av,av,av,am (-63) 63,am (-63) 63,am (-63) 63,am (-63) 63,am (-63) 63,am (-63) 63,am (-63) 63,am (-63) 63,.a 4 .i64 0 1 z0,am 0 0,av,av,av,av,av,av,.a 384 .i64 (-4095) 4095 z0]] [] [Ny,Tz,yC,psC,acB]
theorem CA J R:TR lF J R (let x0:ae:=(cw J 11 22 k0);(pA x0)/\let x1:ae:=j9 x0;((!(x1 0).X)->False)/\((!(x1 0).X)=false->let x2:ae:=[.i (J 6).Z,.i (J 7).Z,.b (J 8).X,.b (J 9).X];let x3:ae:=FA x2;((x3 0).X->let x4:ae:=(ak [.b (J 15).X] (cw J 0 33 k5));(Pk x4)/\let x5:ae:=af7 x4;let x6:ae:=[.i (J 25).Z,.s (x5 0).O (x5 0).N,.i (x5 1).Z,.l (x5 2).N (x5 2).G];(psP x6)/\let x7:ae:=psW x6;((J 6).Z<=1)/\(1<=(J 11).Z)/\((J 11).Z<=1)/\R (ak [.i 0,.i ((J 0).Z+(J 25).Z),.f (J 1).F,.i (J 2).Z,.i (J 3).Z,.i (J 4).Z,.i (J 5).Z,.i (J 6).Z,.i (J 7).Z,.b (J 8).X,.b (J 9).X,.s (x7 1).O (x7 1).N,.i (x7 2).Z] (ak (cw J 11 22 k0) [.l (x7 3).N (x7 3).G])))/\((x3 0).X=false-> let x8:ae:=[.i (J 25).Z,.i (J 10).Z];(acs x8)/\let x9:ae:=SN x8;(1<=(J 11).Z)/\((J 11).Z<=1)/\R (ak [.i 0,.i ((J 0).Z+(J 25).Z),.f (J 1).F,.i (J 2).Z,.i (J 3).Z,.i (J 4).Z,.i (J 5).Z,.i (J 6).Z,.i (J 7).Z,.b (J 8).X,.b (J 9).X,.s (x9 1).O (x9 1).N,.i (x9 2).Z] (ak (cw J 11 22 k0) [.l (x9 3).N (x9 3).G]))))):=af
theorem Sh:∀J,bTs KX 1 (au lF.A J)->bBs KX 1 (an lF.M (tls (aG lF.A) J))->abH J->Sa (TS lF J) (qS KX [true,false,true] lF.M lF.Y.sk [.run 349 [.c (.nD 3 0 0 1000000 0 0),am 0 8000000],.dyn 5 0 0 1000000 0 g0 false] (tls (aG lF.A) J) (XT J)):=λJ b1 b2 hp=>⟨by
 rw[CA]
 have d:(J 25).Z=0/\(J 11).Z=1/\(J 6).Z<=1:=by obtain⟨⟨-,-,-,-,-,-,-,⟨-,t2⟩,-⟩,-,⟨⟨k1,k2⟩,-,-,-,-,-,-,-,-,-,-,-,-,-,⟨d1,d2⟩,-⟩,-⟩:=b2;exact⟨Int.le_antisymm d2 d1,Int.le_antisymm k2 k1,t2⟩
 obtain⟨d,k,t⟩:=d;clear b1 b2;have eh:((j9 (cw J 11 22 k0)) 0).X=hlZ J 11:=af;have eb:((FA [.i (J 6).Z,.i (J 7).Z,.b (J 8).X,.b (J 9).X]) 0).X=((J 8).X&&(J 7).Z==3):=rfl;have ek:hlZ J 11=true:=by unfold hlZ;rw[k];rfl
 have e25:J (11+14)=J 25:=rfl;unfold XT fR;dsimp only;rw[eh,eb,ek,e25,d,Int.add_zero];refine⟨ah,br_ (λq=>by cases q) λq=>br_ (λq1=>?_) λq1=>?_⟩
 .rw[q1];generalize hr0:af7 _=r0;have hr0:r0=wrC (λ_=>0) 0 (cdF (J 15).X):=by rw[<-hr0];kernel_rfl
  subst hr0;have h1:WrH [.i 0,.s (at_ (wrC (λ_=>0) 0 (cdF (J 15).X)) 0).O (at_ (wrC (λ_=>0) 0 (cdF (J 15).X)) 0).N,.i (at_ (wrC (λ_=>0) 0 (cdF (J 15).X)) 1).Z,.l (at_ (wrC (λ_=>0) 0 (cdF (J 15).X)) 2).N (at_ (wrC (λ_=>0) 0 (cdF (J 15).X)) 2).G] 1 (λ_=>0) 0 (cdF (J 15).X):=WrH.of d9 af;refine⟨ah,h1.toP d9 (show 0+1+31<=8000000 by decide),?_⟩
  generalize hr1:psW _=r1;have hr1:r1=.i 0::wrC (λ_=>0) 0 (cdF (J 15).X++cdS 0):=by rw[<-hr1];exact congrArg (List.cons (Lf.i 0)) (h1.add d9)
  subst hr1;rw[k];refine⟨t,afH,afH,?_⟩;refine⟨rfl,ah,ay af,ay af,ay (by rw[<-k];kernel_rfl),⟨af,λ_ _=>af⟩,ah⟩
 .rw[q1];refine⟨ah,?_⟩;rw[k];refine⟨afH,afH,?_⟩;refine⟨rfl,ah,ay af,ay af,ay (by rw[<-k];kernel_rfl),⟨af,λ_ _=>af⟩,ah⟩⟩
abbrev aeS:List AB:=[.run 349 [.c (.nD 3 0 0 1000000 0 0),am 0 8000000],.dyn 5 0 0 1000000 0 g0 false]
abbrev ady:CT:=Ck lF [true,false,true] aeS abH XT
theorem WK:CO ady:=CXk lF (TX ⟨md,uv,m9,vn,VL,ah⟩ ah) Sh
def coB (J:ae) (o:Nat):List Bool:=[(J (o+15)).X,(J (o+16)).X,(J (o+17)).X,(J (o+18)).X,(J (o+19)).X,(J (o+20)).X]
def A7:List Bool->Cd
 |[]=>[]
 |b::l=>cdF b++A7 l
def lD (J:ae) (o:Nat):Cd:=bif (J o).Z !=2 then[] else bif hlZ J o then A7 (coB J o)else[]
theorem I7:∀l:List Bool,cdN (A7 l)=l.length
 |[]=>rfl
 |b::l=>by show 1+cdN (A7 l)=l.length+1;rw[I7 l];omega
def coP (J:ae):Prop:=WrP (wx J 10 11 34) 0 6
def coW (J:ae):ae:=wrA (wx J 10 11 34) 0 (lD J 12)
abbrev Bd:SP:=mkS ⟨[],[.run 351 [am 1 31,.a 3 .i64 (-4095) 4095 z0,am (-63) 63,am (-63) 63,am (-63) 63,am (-63) 63,.c (.nP 1 0),am 1 3,am 1 3,av,av,.c (.nP 2 0)],.run 349 [.c (.nD 4 0 0 1000000 0 0),am 0 8000000],.run 127 sMA,.dead,.dyn 5 0 0 1000000 0 g0 false]⟩ 272 Tryz.f272 [tXO (.nP 0 0)] [.run 351 [am 1 31,.a 3 .i64 (-4095) 4095 z0,am (-63) 63,am (-63) 63,am (-63) 63,am (-63) 63,.c (.nP 1 0),am 1 3,am 1 3,av,av,.c (.nP 2 0)],.run 349 [.c (.nD 3 0 0 1000000 0 0),am 0 8000000],.run 127 sMA,.dyn 5 0 0 1000000 0 g0 false] [(2,.head ⟨[(0,tXO (.nP 0 0)),(26,.tX (.sA [av,av,av,av,av,av])),(27,aj 0 1048576)],[.run 351 [am 1 31,.a 3 .i64 (-4095) 4095 z0,am (-63) 63,am (-63) 63,am (-63) 63,am (-63) 63,.c (.nP 1 0),am 1 3,am 1 3,av,av,.c (.nP 2 0)],.run 349 [.c (.nD 4 0 0 1000000 0 0),am 0 8000000],.run 127 sMA,.dead,.dyn 5 0 0 1000000 0 g0 false],[3]⟩)] [Ny,Yu,yC] [] (.tT []) [3]
theorem OV J R:TR Bd J R ((((J 12).Z !=2)->R (ak [.i 0] (cw J 0 35 k2)))/\(((J 12).Z !=2)=false->let x0:ae:=(cw J 12 22 k0);(pA x0)/\let x1:ae:=j9 x0;((!(x1 0).X)->R (ak [.i 0] (cw J 0 35 k2)))/\((!(x1 0).X)=false->∃(I0:ae->Prop) (μ0:ae->Nat),I0 (ak (ak (cw J 27 6 74898) [.i 0]) (cw J 0 35 k2))/\∀l0,I0 l0->((decide ((l0 6).Z<6))->((l0 6).Z<6)/\let x2:ae:=(ak [.b (bAt [(l0 0).X,(l0 1).X,(l0 2).X,(l0 3).X,(l0 4).X,(l0 5).X] (l0 6).Z.toNat)] (cw l0 7 35 k2));(Ow x2)/\let x3:ae:=qQ x2;(((l0 6).Z+1)<=1048576)/\Ag I0 μ0 l0 (ak (ak (cw l0 0 6 74898) (ak [.i ((l0 6).Z+1)] (ak (cw l0 7 10 304386649) [.s (x3 0).O (x3 0).N,.i (x3 1).Z]))) (ak (cw l0 19 22 k0) [.l (x3 2).N (x3 2).G])))/\((decide ((l0 6).Z<6))=false-> R (ak [.i 0] (cw l0 7 35 k2)))))):=af
def coX (J:ae) (i:Nat) (x:Cd × (Nat->ae)):ae:=ak [.b (J 27).X,.b (J 28).X,.b (J 29).X,.b (J 30).X,.b (J 31).X,.b (J 32).X,.i i] (ak (cw J 0 10 304386649) (ak [.s 0 (rl ((J 11).Z.toNat+cdN x.1)),.i (((J 11).Z.toNat+cdN x.1:Nat):Int)] (ak (cw J 12 22 k0) [.l (rl ((J 11).Z.toNat+cdN x.1)) x.2])))
def CoI (J:ae) (B:Nat->Int) (l:List Bool) (i:Nat) (x:Cd × (Nat->ae)):Prop:=x.1++A7 (l.drop i)=A7 l/\cdN x.1=i/\Packed x.2 (cdB B (J 11).Z.toNat x.1) ((J 11).Z.toNat+cdN x.1) (rl ((J 11).Z.toNat+cdN x.1))
theorem yj:∀(l:List Bool) (i:Nat),i<l.length->l.drop i=bAt l i::l.drop (i+1)
 |[],i,h=>by simp at h
 |b::l,0,_=>rfl
 |b::l,i+1,h=>yj l i (by simpa using h)
theorem ab4:∀J,bTs KX 1 (au Bd.A J)->bBs KX 1 (an Bd.M (tls (aG Bd.A) J))->coP J->Sa (TS Bd J) (qS KX [true,false,true,false] Bd.M Bd.Y.sk [.run 349 [.c (.nD 4 0 0 1000000 0 0),am 0 8000000],.dead,.dyn 5 0 0 1000000 0 g0 false] (tls (aG Bd.A) J) (coW J)):=λJ b1 b2 hp=>⟨by
 rw[OV]
 have n1:0<=(J 11).Z:=by obtain⟨-,⟨-,⟨n1,-⟩,-⟩,-⟩:=b2;exact n1
 clear b1 b2;have hp:WrP (wx J 10 11 34) 0 6:=hp;have h0:=WrH.init hp n1;have eh:((j9 (cw J 12 22 k0)) 0).X=hlZ J 12:=af;unfold coW lD;dsimp only;rw[eh];refine br_ (λq=>?_) λq=>⟨ah,br_ (λq1=>?_) λq1=>?_⟩
 .rw[q];have ha:=h0.ag;exact⟨rfl,ah,ay af,ha.1,ay af,ah,ha.2⟩
 .have q1:hlZ J 12=false:=by simpa using q1
  rw[q,q1];have ha:=h0.ag;exact⟨rfl,ah,ay af,ha.1,ay af,ah,ha.2⟩
 have q1:hlZ J 12=true:=by simpa using q1
 rw[q,q1];have hr:=hp.2.2.2;have hr:(J 11).Z+6<=8000000:=hr;have hB:=bw (J 34).G;refine bG 6 6 (CoI J (aR (J 34).G) (coB J 12)) (coX J) (λ_ _ _=>af) ([],(J 34).G) ?_ ⟨rfl,rfl,h0.P⟩ λI μ hA i x l hi hx hl=>?_
 .have e1:(J 10).O=0:=h0.O;have e2:(J 10).N=rl ((J 11).Z.toNat+0):=h0.N;have e3:(J 11).Z=(((J 11).Z.toNat+0:Nat):Int):=h0.Z;have e4:(J 34).N=rl ((J 11).Z.toNat+0):=h0.L;refine Eq.trans (b:=ak [.b (J 27).X,.b (J 28).X,.b (J 29).X,.b (J 30).X,.b (J 31).X,.b (J 32).X,.i 0] (ak (cw J 0 10 304386649) (ak [.s (J 10).O (J 10).N,.i (J 11).Z] (ak (cw J 12 22 k0) [.l (J 34).N (J 34).G])))) ?_ af;unfold coX
  revert e2 e3 e4
  generalize (J 11).Z.toNat=n;intro e2 e3 e4;rw[e1,e2,e3,e4]
  kernel_rfl
 obtain⟨c,g⟩:=x;obtain⟨ht,hc,hP⟩:=hx;have hc:cdN c=i:=hc;have e6:(l 6).Z=i:=by rw[hl];kernel_rfl
 rw[e6,ap];refine br_ (λq2=>?_) λq2=>?_
 .have q2:=ai q2;have eb:bAt [(l 0).X,(l 1).X,(l 2).X,(l 3).X,(l 4).X,(l 5).X] i=bAt (coB J 12) i:=by rw[hl];kernel_rfl
  rw[eb]
  have hw:WrH (wx (ak [.b (bAt (coB J 12) i)] (cw l 7 35 k2)) 11 12 35) 0 (aR (J 34).G) (J 11).Z.toNat c:=by
   have e:wx (ak [.b (bAt (coB J 12) i)] (cw l 7 35 k2)) 11 12 35=[.s 0 (rl ((J 11).Z.toNat+cdN c)),.i (((J 11).Z.toNat+cdN c:Nat):Int),.l (rl ((J 11).Z.toNat+cdN c)) g]:=by rw[hl];kernel_rfl
   rw[e];exact⟨rfl,rfl,rfl,rfl,hP⟩
  refine⟨q2,hw.toP hB ac,ac,?_⟩;generalize hr1:qQ _=r1;have hr1:r1=wrC (aR (J 34).G) (J 11).Z.toNat (c++cdF (bAt (coB J 12) i)):=by rw[<-hr1];exact hw.add hB
  subst hr1;refine hA i (c,g) (c++cdF (bAt (coB J 12) i),ch (cdB (aR (J 34).G) (J 11).Z.toNat (c++cdF (bAt (coB J 12) i))) ((J 11).Z.toNat+cdN (c++cdF (bAt (coB J 12) i)))) _ _ ac ⟨?_,?_,bl⟩ hl (by rw[hl];kernel_rfl)
  .show c++cdF (bAt (coB J 12) i)++A7 ((coB J 12).drop (i+1))=A7 (coB J 12);rw[<-ht,yj (coB J 12) i (show i<6 by omega),List.append_assoc]
   rfl
  .show cdN (c++cdF (bAt (coB J 12) i))=i+1;rw[aC,hc];rfl
 .have q2:=aQ q2;have e:i=6:=ac;subst e;have ht:c++[]=A7 (coB J 12):=ht;rw[List.append_nil]at ht
  have hw:WrH (wx l 17 18 41) 0 (aR (J 34).G) (J 11).Z.toNat c:=by
   have e:wx l 17 18 41=[.s 0 (rl ((J 11).Z.toNat+cdN c)),.i (((J 11).Z.toNat+cdN c:Nat):Int),.l (rl ((J 11).Z.toNat+cdN c)) g]:=by rw[hl];kernel_rfl
   rw[e];exact⟨rfl,rfl,rfl,rfl,hP⟩
  have ha:=hw.ag;rw[ht]at ha;exact⟨rfl,ah,ay (by rw[hl];kernel_rfl),ha.1,ay (by rw[hl];kernel_rfl),ah,ha.2⟩⟩
abbrev coS:List AB:=[.run 349 [.c (.nD 4 0 0 1000000 0 0),am 0 8000000],.dead,.dyn 5 0 0 1000000 0 g0 false]
abbrev coC:CT:=Ck Bd [true,false,true,false] coS coP coW
theorem Lx:CO coC:=CXk Bd (TX ⟨md,zE,m9,ah⟩ ah) ab4
end
end Go.Proofs.YtldmjbgplgoedaaGreatDoor
namespace Go.Proofs.YtldmjbgplgoedaaGreatDoor
noncomputable section
open Go.RowKit U
def leB (L:Nat->Int) (n:Nat):Nat->Int:=λi=>L (i+n*64)
def leF (k2:Bool) (cd:Nat->Bool) (L D:Nat->Int):Nat->Cd × (Nat->Int)
 |0=>([],D)
 |n+1=>bif cd n then(bif k2 then((leF k2 cd L D n).1++cdL (leB L n) 64 (-1),(leF k2 cd L D n).2)else((leF k2 cd L D n).1++cdS (L (n*64)-(leF k2 cd L D n).2 (n-3))++cdL (leB L n) 63 0,upd (leF k2 cd L D n).2 (n-3) (L (n*64))))else leF k2 cd L D n
theorem Eg {k2:Bool} {cd:Nat->Bool} {L D:Nat->Int} (hL:∀i,i<384->-4095<=L i/\L i<=4095) (hD:∀i,i<3->-4095<=D i/\D i<=4095):∀n,n<=6->∀i,i<3->-4095<=(leF k2 cd L D n).2 i/\(leF k2 cd L D n).2 i<=4095
 |0,_,i,hi=>hD i hi
 |n+1,hn,i,hi=>by
  have ih:=Eg (k2:=k2) (cd:=cd) hL hD n ac i hi;unfold leF
  cases cd n with
  |false=>exact ih
  |true =>
   cases k2 with
   |true=>exact ih
   |false =>
    show -4095<=upd _ (n-3) (L (n*64)) i/\upd _ (n-3) (L (n*64)) i<=4095;unfold upd
    split
    .exact hL _ ac
    .exact ih
theorem NO {k2:Bool} {cd:Nat->Bool} {L D:Nat->Int} (hL:∀i,i<384->-4095<=L i/\L i<=4095) (hD:∀i,i<3->-4095<=D i/\D i<=4095):∀n,n<=6->cdN (leF k2 cd L D n).1<=4030*n
 |0,_=>Nat.le_refl _
 |n+1,hn=>by
  have ih:=NO (k2:=k2) (cd:=cd) hL hD n ac;have hB:∀i,i<64->-4095<=leB L n i/\leB L n i<=4095:=λi hi=>hL _ ac;unfold leF
  cases cd n with
  |false =>show cdN (leF k2 cd L D n).1<=_;omega
  |true =>
   cases k2 with
   |true =>show cdN ((leF true cd L D n).1++cdL (leB L n) 64 (-1))<=_;have:=Dw hB 64 (-1) ac ac ac;rw[aC];omega
   |false =>show cdN ((leF false cd L D n).1++cdS (L (n*64)-(leF false cd L D n).2 (n-3))++cdL (leB L n) 63 0)<=_;have h1:=Dw hB 63 0 ac ac ac;have h2:=hL (n*64) ac;have h3:=Eg (k2:=false) (cd:=cd) hL hD n ac (n-3) ac;have h4:=jB (v:=L (n*64)-(leF false cd L D n).2 (n-3)) ac ac;rw[aC,aC];omega
theorem aaU {cd:Nat->Bool} {L D:Nat->Int} {n:Nat} (h:cd n=true):leF true cd L D (n+1)=((leF true cd L D n).1++cdL (leB L n) 64 (-1),(leF true cd L D n).2):=by
 show(bif cd n then _ else _)=_
 rw[h];rfl
theorem aa4 {cd:Nat->Bool} {L D:Nat->Int} {n:Nat} (h:cd n=true):leF false cd L D (n+1)=((leF false cd L D n).1++cdS (L (n*64)-(leF false cd L D n).2 (n-3))++cdL (leB L n) 63 0,upd (leF false cd L D n).2 (n-3) (L (n*64))):=by
 show(bif cd n then _ else _)=_
 rw[h];rfl
def leG (J:ae) (o n:Nat):Cd × (Nat->Int):=leF ((J o).Z==2) (bAt (coB J o)) (J (o+21)).F (J 1).F n
def leP (J:ae):Prop:=WrP (wx J 10 11 34) 0 30000
def leW (J:ae):ae:=[.i (J 0).Z,.f (leG J 12 6).2,.i (J 2).Z,.i (J 3).Z,.i (J 4).Z,.i (J 5).Z,.i (J 6).Z,.i (J 7).Z,.b (J 8).X,.b (J 9).X]++wrA (wx J 10 11 34) 0 (leG J 12 6).1
abbrev Bb:SP:=mkS ⟨[],[.run 351 Sc,.run 349 Y2,.run 127 sMA,.dead,.dyn 5 0 0 1000000 0 g0 false]⟩ 273 Tryz.f273 [tXO (.nP 0 0)] [.run 351 Sc,.run 349 uX,.run 127 sMA,.dyn 5 0 0 1000000 0 g0 false] [(1,.head ⟨[(0,tXO (.nP 0 0)),(11,.tX (.sA adX)),(12,aj 0 1048576)],[.run 351 Sc,.run 349 Y2,.run 127 sMA,.dead,.dyn 5 0 0 1000000 0 g0 false],[3]⟩)] [acQ,acG,psC] [(aw 309 Tryz.f309)] (.tT []) [3]
theorem Mc J R:TR Bb J R (∃(I0:ae->Prop) (μ0:ae->Nat),I0 (ak (ak (cw J 27 6 74898) [.i 0]) (cw J 0 35 k2))/\∀l0,I0 l0->((decide ((l0 6).Z<6))->((l0 6).Z<6)/\((!(bAt [(l0 0).X,(l0 1).X,(l0 2).X,(l0 3).X,(l0 4).X,(l0 5).X] (l0 6).Z.toNat))->(((l0 6).Z+1)<=1048576)/\Ag I0 μ0 l0 (ak (ak (cw l0 0 6 74898) [.i ((l0 6).Z+1)]) (cw l0 7 35 k2)))/\((!(bAt [(l0 0).X,(l0 1).X,(l0 2).X,(l0 3).X,(l0 4).X,(l0 5).X] (l0 6).Z.toNat))=false->(((l0 19).Z==2)->(0<=(l0 6).Z)/\((l0 6).Z<6)/\let x0:ae:=[.f (λi0=>(l0 40).F (i0+((l0 6).Z.toNat*64))),.i 0,.s (l0 17).O (l0 17).N,.i (l0 18).Z,.l (l0 41).N (l0 41).G];(ZB x0)/\let x1:ae:=Ua x0;(((l0 6).Z+1)<=1048576)/\Ag I0 μ0 l0 (ak (ak (cw l0 0 6 74898) (ak [.i ((l0 6).Z+1)] (ak (cw l0 7 10 304386649) [.s (x1 1).O (x1 1).N,.i (x1 2).Z]))) (ak (cw l0 19 22 k0) [.l (x1 3).N (x1 3).G])))/\(((l0 19).Z==2)=false->(0<=(max 0 ((l0 6).Z-3)))/\((max 0 ((l0 6).Z-3))<3)/\(0<=(l0 6).Z)/\((l0 6).Z<6)/\let x2:ae:=[.i (((l0 40).F (0+(((l0 6).Z.toNat*64)+0)))-((l0 8).F (0+((max 0 ((l0 6).Z-3)).toNat*1)))),.s (l0 17).O (l0 17).N,.i (l0 18).Z,.l (l0 41).N (l0 41).G];(psP x2)/\let x3:ae:=psW x2;(0<=(l0 6).Z)/\((l0 6).Z<6)/\(0<=(l0 6).Z)/\((l0 6).Z<6)/\let x4:ae:=(ak [.f (λi0=>(l0 40).F (i0+((l0 6).Z.toNat*64))),.i 1] (cw x3 1 3 269));(abj x4)/\let x5:ae:=Xs x4;(((l0 6).Z+1)<=1048576)/\Ag I0 μ0 l0 (ak (ak (cw l0 0 6 74898) (ak [.i ((l0 6).Z+1),.i (l0 7).Z,.f (upd (l0 8).F ((max 0 ((l0 6).Z-3)).toNat*1) ((l0 40).F (0+(((l0 6).Z.toNat*64)+0))))] (ak (cw l0 9 8 4756041) [.s (x5 1).O (x5 1).N,.i (x5 2).Z]))) (ak (cw l0 19 22 k0) [.l (x5 3).N (x5 3).G])))))/\((decide ((l0 6).Z<6))=false-> R (ak [.i 0] (cw l0 7 35 k2)))):=af
def leX (J:ae) (i:Nat) (g:Nat->ae):ae:=ak [.b (J 27).X,.b (J 28).X,.b (J 29).X,.b (J 30).X,.b (J 31).X,.b (J 32).X,.i i,.i (J 0).Z,.f (leG J 12 i).2] (ak (cw J 2 8 4756041) (ak [.s 0 (rl ((J 11).Z.toNat+cdN (leG J 12 i).1)),.i (((J 11).Z.toNat+cdN (leG J 12 i).1:Nat):Int)] (ak (cw J 12 22 k0) [.l (rl ((J 11).Z.toNat+cdN (leG J 12 i).1)) g])))
theorem abx:∀J,bTs KX 1 (au Bb.A J)->bBs KX 1 (an Bb.M (tls (aG Bb.A) J))->leP J->Sa (TS Bb J) (qS KX [false,false,true,false] Bb.M Bb.Y.sk [.run 351 [am 1 31,.a 3 .i64 (-4095) 4095 z0,am (-63) 63,am (-63) 63,am (-63) 63,am (-63) 63,.c (.nP 1 0),am 1 3,am 1 3,av,av,.c (.nP 2 0)],.run 349 [.c (.nD 4 0 0 1000000 0 0),am 0 8000000],.dead,.dyn 5 0 0 1000000 0 g0 false] (tls (aG Bb.A) J) (leW J)):=λJ b1 b2 hp=>⟨by
 rw[Mc]
 have nn:0<=(J 11).Z/\(∀i,i<3->-4095<=(J 1).F i/\(J 1).F i<=4095)/\∀i,i<384->-4095<=(J 33).F i/\(J 33).F i<=4095:=by obtain⟨⟨-,D,-⟩,⟨-,⟨n1,-⟩,-⟩,⟨-,-,-,-,-,-,-,-,-,-,-,-,-,-,-,-,-,-,-,-,-,L,-⟩,-⟩:=b2;exact⟨n1,D,L⟩
 obtain⟨n1,hD,hL⟩:=nn;clear b1 b2;have hp:WrP (wx J 10 11 34) 0 30000:=hp;have h0:=WrH.init hp n1;have hr:=hp.2.2.2;have hr:(J 11).Z+30000<=8000000:=hr;have hB:=bw (J 34).G;have hN:∀i,i<=6->cdN (leG J 12 i).1<=4030*i:=NO hL hD;refine bG 6 6 (λi g=>Packed g (cdB (aR (J 34).G) (J 11).Z.toNat (leG J 12 i).1) ((J 11).Z.toNat+cdN (leG J 12 i).1) (rl ((J 11).Z.toNat+cdN (leG J 12 i).1))) (leX J) (λ_ _ _=>af) (J 34).G ?_ h0.P λI μ hA i g l hi hP hl=>?_
 .have e1:(J 10).O=0:=h0.O;have e2:(J 10).N=rl ((J 11).Z.toNat+0):=h0.N;have e3:(J 11).Z=(((J 11).Z.toNat+0:Nat):Int):=h0.Z;have e4:(J 34).N=rl ((J 11).Z.toNat+0):=h0.L;refine Eq.trans (b:=ak [.b (J 27).X,.b (J 28).X,.b (J 29).X,.b (J 30).X,.b (J 31).X,.b (J 32).X,.i 0,.i (J 0).Z,.f (J 1).F] (ak (cw J 2 8 4756041) (ak [.s (J 10).O (J 10).N,.i (J 11).Z] (ak (cw J 12 22 k0) [.l (J 34).N (J 34).G])))) ?_ af;unfold leX
  revert e2 e3 e4
  generalize (J 11).Z.toNat=n;intro e2 e3 e4;rw[e1,e2,e3,e4]
  kernel_rfl
 have e6:(l 6).Z=i:=by rw[hl];kernel_rfl
 rw[e6,ap];have hc:=hN i hi;refine br_ (λq=>?_) λq=>?_
 .have q:=ai q;have eb:bAt [(l 0).X,(l 1).X,(l 2).X,(l 3).X,(l 4).X,(l 5).X] i=bAt (coB J 12) i:=by rw[hl];kernel_rfl
  have ek:((l 19).Z==2)=((J 12).Z==2):=by rw[hl];kernel_rfl
  have e40:(l 40).F=(J 33).F:=by rw[hl];kernel_rfl
  have e8:(l 8).F=(leG J 12 i).2:=by rw[hl];kernel_rfl
  have em:(max 0 ((i:Int)-3)).toNat=i-3:=ac;rw[eb,ek,e40,e8,em]
  have hw:∀x:Lf,∀y:Lf,WrH [x,y,.s (l 17).O (l 17).N,.i (l 18).Z,.l (l 41).N (l 41).G] 2 (aR (J 34).G) (J 11).Z.toNat (leG J 12 i).1:=λx y=>by
   have e:[x,y,.s (l 17).O (l 17).N,.i (l 18).Z,.l (l 41).N (l 41).G]=[x,y,.s 0 (rl ((J 11).Z.toNat+cdN (leG J 12 i).1)),.i (((J 11).Z.toNat+cdN (leG J 12 i).1:Nat):Int),.l (rl ((J 11).Z.toNat+cdN (leG J 12 i).1)) g]:=by rw[hl];kernel_rfl
   rw[e];exact⟨rfl,rfl,rfl,rfl,hP⟩
  have hBk:∀j,j<64->-4095<=leB (J 33).F i j/\leB (J 33).F i j<=4095:=λj hj=>hL _ ac;refine⟨q,br_ (λq1=>?_) λq1=>br_ (λq2=>?_) λq2=>?_⟩
  .have q1:bAt (coB J 12) i=false:=by simpa using q1
   have eF:leG J 12 (i+1)=leG J 12 i:=by show(bif bAt (coB J 12) i then _ else _)=_;rw[q1];rfl
   refine⟨ac,hA i g g _ _ ac (by rw[eF];exact hP) hl ?_⟩
   unfold leX;rw[eF,hl]
   kernel_rfl
  .have q1:bAt (coB J 12) i=true:=by simpa using q1
   have eF:leG J 12 (i+1)=((leG J 12 i).1++cdL (leB (J 33).F i) 64 (-1),(leG J 12 i).2):=by unfold leG;rw[q2];exact aaU q1
   refine⟨ac,q,(hw _ _).toP hB ac,?_⟩;generalize hr1:Ua _=r1;have hr1:r1=.i 0::wrC (aR (J 34).G) (J 11).Z.toNat ((leG J 12 i).1++cdL (leB (J 33).F i) 64 (-1)):=by rw[<-hr1];exact congrArg (List.cons (Lf.i 0)) ((hw _ _).add hB)
   subst hr1;refine⟨ac,hA i g (ch (cdB (aR (J 34).G) (J 11).Z.toNat ((leG J 12 i).1++cdL (leB (J 33).F i) 64 (-1))) ((J 11).Z.toNat+cdN ((leG J 12 i).1++cdL (leB (J 33).F i) 64 (-1)))) _ _ ac (by rw[eF];exact bl) hl ?_⟩
   unfold leX;rw[eF,hl]
   kernel_rfl
  .have q1:bAt (coB J 12) i=true:=by simpa using q1
   have eF:leG J 12 (i+1)=((leG J 12 i).1++cdS ((J 33).F (i*64)-(leG J 12 i).2 (i-3))++cdL (leB (J 33).F i) 63 0,upd (leG J 12 i).2 (i-3) ((J 33).F (i*64))):=by unfold leG;rw[q2];exact aa4 q1
   have ei1:0+(i*64+0)=i*64:=ac;have ei2:0+(i-3)*1=i-3:=ac;have ei3:(i-3)*1=i-3:=ac;rw[ei1,ei2,ei3];have k2:=hL (i*64) ac;have k3 : -4095<=(leG J 12 i).2 (i-3)/\(leG J 12 i).2 (i-3)<=4095:=Eg hL hD i ac (i-3) ac;have k4:=jB (v:=(J 33).F (i*64)-(leG J 12 i).2 (i-3)) ac ac;have k5:=aC (leG J 12 i).1 (cdS ((J 33).F (i*64)-(leG J 12 i).2 (i-3)));have hw1:WrH [.i ((J 33).F (i*64)-(leG J 12 i).2 (i-3)),.s (l 17).O (l 17).N,.i (l 18).Z,.l (l 41).N (l 41).G] 1 (aR (J 34).G) (J 11).Z.toNat (leG J 12 i).1:=⟨(hw (.i 0) (.i 0)).O,(hw (.i 0) (.i 0)).N,(hw (.i 0) (.i 0)).Z,(hw (.i 0) (.i 0)).L,(hw (.i 0) (.i 0)).P⟩;refine⟨ac,ac,ac,q,hw1.toP hB ac,ac,q,ac,q,?_⟩;generalize hr1:psW _=r1;have hr1:r1=.i 0::wrC (aR (J 34).G) (J 11).Z.toNat ((leG J 12 i).1++cdS ((J 33).F (i*64)-(leG J 12 i).2 (i-3))):=by rw[<-hr1];exact congrArg (List.cons (Lf.i 0)) (hw1.add hB)
   subst hr1;generalize hc1:(leG J 12 i).1++cdS ((J 33).F (i*64)-(leG J 12 i).2 (i-3))=c1 at *;have hw2:∀x y:Lf,WrH [x,y,.s (at_ (.i 0::wrC (aR (J 34).G) (J 11).Z.toNat c1) 1).O (at_ (.i 0::wrC (aR (J 34).G) (J 11).Z.toNat c1) 1).N,.i (at_ (.i 0::wrC (aR (J 34).G) (J 11).Z.toNat c1) 2).Z,.l (at_ (.i 0::wrC (aR (J 34).G) (J 11).Z.toNat c1) 3).N (at_ (.i 0::wrC (aR (J 34).G) (J 11).Z.toNat c1) 3).G] 2 (aR (J 34).G) (J 11).Z.toNat c1:=λx y=>WrH.of hB af;refine⟨(hw2 _ _).toP hB ac,?_⟩;generalize hr2:Xs _=r2;have hr2:r2=.i 0::wrC (aR (J 34).G) (J 11).Z.toNat (c1++cdL (leB (J 33).F i) 63 0):=by rw[<-hr2];exact congrArg (List.cons (Lf.i 0)) ((hw2 _ _).add hB)
   subst hr2;refine⟨ac,hA i g (ch (cdB (aR (J 34).G) (J 11).Z.toNat (c1++cdL (leB (J 33).F i) 63 0)) ((J 11).Z.toNat+cdN (c1++cdL (leB (J 33).F i) 63 0))) _ _ ac (by rw[eF];exact bl) hl ?_⟩
   unfold leX;rw[eF,hl]
   kernel_rfl
 .have q:=aQ q;have e:i=6:=ac;subst e
  have hw:WrH (wx l 17 18 41) 0 (aR (J 34).G) (J 11).Z.toNat (leG J 12 6).1:=by
   have e:wx l 17 18 41=[.s 0 (rl ((J 11).Z.toNat+cdN (leG J 12 6).1)),.i (((J 11).Z.toNat+cdN (leG J 12 6).1:Nat):Int),.l (rl ((J 11).Z.toNat+cdN (leG J 12 6).1)) g]:=by rw[hl];kernel_rfl
   rw[e];exact⟨rfl,rfl,rfl,rfl,hP⟩
  have ha:=hw.ag;exact⟨rfl,ah,ay (by rw[hl];kernel_rfl),ha.1,ay (by rw[hl];kernel_rfl),ah,ha.2⟩⟩
abbrev leS:List AB:=[.run 351 Sc,.run 349 Y2,.dead,.dyn 5 0 0 1000000 0 g0 false]
abbrev leC:CT:=Ck Bb [false,false,true,false] leS leP leW
theorem P0:CO leC:=CXk Bb (TX ⟨WG,U3,vn,ah⟩ (FK ah)) abx
end
end Go.Proofs.YtldmjbgplgoedaaGreatDoor
