import Derived.Test.YtldmjbgplgoedaaGreatDoorRp41
set_option linter.all false
namespace Go.Proofs.YtldmjbgplgoedaaGreatDoor
noncomputable section
open Go.RowKit U
theorem NV {a:ae} {B:Nat->Int} {n:Nat} {c:Cd} {v:Int} {w:Nat} (hB:Bit B) (h:WrH a 2 B n c) (e0:(a 0).Z=v) (e1:(a 1).Z=(w:Int)) (hv:v / pw (w:Int)=0) (hm:n+cdN c+w<=8000000):jA a/\jc a=.i 0::wrC B n (c++[(v,w)]):=by unfold jA jc;rw[e0,e1,Int.toNat_natCast,h.add hB];exact⟨⟨hv,h.toP hB hm⟩,rfl⟩
def LET (v:ae) (p:ae->Prop):Prop:=p v
theorem aH {v w:ae} {p:ae->Prop} (e:v=w) (h:p w):LET v p:=by subst e;exact h
theorem A0 {a:ae} {c:Cd} {v:Int} {w:Nat} {p:ae->Prop} (h:WrH a 2 z0 0 c) (e0:(a 0).Z=v) (e1:(a 1).Z=(w:Int)) (hv:v / pw (w:Int)=0) (hm:cdN c+w<=8000000) (k:p (.i 0::wrC z0 0 (c++[(v,w)]))):jA a/\LET (jc a) p:=by obtain⟨q1,q2⟩:=VE h e0 e1 hv hm;exact⟨q1,aH q2 k⟩
theorem adn {a:ae} {c:Cd} {b:Bool} {p:ae->Prop} (h:WrH a 1 z0 0 c) (e0:(a 0).X=b) (hm:cdN c+1<=8000000) (k:p (wrC z0 0 (c++[(fU b,1)]))):JD a/\LET (BA a) p:=by obtain⟨q1,q2⟩:=Xf h e0 hm;exact⟨q1,aH q2 k⟩
theorem aaJ {a:ae} {c:Cd} {p:ae->Prop} (h:WrH a 0 z0 0 c) (hm:cdN c<=8000000) (k:p (pyL c)):KH a/\LET (wi a) p:=by obtain⟨q1,q2⟩:=Xm h hm;exact⟨q1,aH q2 k⟩
def phG (J:ae):Nat->ae:=AP [[.b (J 3).X],[.b (J 4).X],[.b (J 5).X]]
def phC (J:ae):Nat->Cd
 |0=>[((J 2).Z,10),((J 0).Z,2),((J 1).Z,2)]
 |i+1=>phC J i++[(fU ((phG J (0+i)) 0).X,1)]
theorem Ns {J:ae}:∀i,cdN (phC J i)=14+i
 |0=>rfl
 |i+1=>by show cdN (phC J i++_)=_;rw[aC,Ns i];rfl
def phS (J:ae) (i:Nat) (w:ae):ae:=[.s 0 3,.i 3,.i (i:Int),.i 0,.s (w 0).O (w 0).N,.i (w 1).Z,.l 3 (phG J),.l (w 2).N (w 2).G]
def rn (J:ae):ae:=[.i 181,.l ((pyL (phC J 3)) 0).N ((pyL (phC J 3)) 0).G,.i 0]
abbrev N0:SP:=mkS ⟨[.sA RT,aD 0 0],[]⟩ 210 Tryz.f210 [.tX (.sA ack)] [] [(8,.head ⟨[(2,tXO (.nP 0 0)),(4,tXO (.nP 1 0)),(34,tXO (.nD 2 2 3 3 0 0)),(35,aj 3 3),(36,aj 0 1048576)],[.run 50 Y3,.run 349 uX,.dyn 4 2 3 3 0 g0 false,.dyn 5 0 0 1000000 0 g0 false],[]⟩)] [yc,Aj,RP] [(aw 82 Tryz.f82),(aw 181 Tryz.f181)]
theorem ER J R:TR N0 J R (LET ([.i (J 2).Z,.i 10,.i 0]) λx0=>(yU x0)/\LET (vo x0) λx1=>LET ((ak [.i (J 0).Z,.i 2] (cw x1 1 3 269))) λx2=>(jA x2)/\LET (jc x2) λx3=>LET ((ak [.i (J 1).Z,.i 2] (cw x3 1 3 269))) λx4=>(jA x4)/\LET (jc x4) λx5=>∃(I0:ae->Prop) (μ0:ae->Nat),I0 [.s 0 3,.i 3,.i 0,.i 0,.s (x5 1).O (x5 1).N,.i (x5 2).Z,.l 3 (AP [[.b (J 3).X],[.b (J 4).X],[.b (J 5).X]]),.l (x5 3).N (x5 3).G]/\∀l0,I0 l0-> BR (decide ((l0 2).Z<(l0 1).Z)) (((l0 2).Z<(((l0 0).N:Nat):Int))/\(((l0 0).O+(l0 2).Z.toNat)<(l0 6).N)/\BR ((((l0 6).G ((l0 0).O+(l0 2).Z.toNat)) 0).X) (LET ([.i 1,.i 1,.s (l0 4).O (l0 4).N,.i (l0 5).Z,.l (l0 7).N (l0 7).G]) λx6=>(jA x6)/\LET (jc x6) λx7=>(((l0 2).Z+1)<=1048576)/\Ag I0 μ0 l0 [.s (l0 0).O (l0 0).N,.i (l0 1).Z,.i ((l0 2).Z+1),.i (l0 3).Z,.s (x7 1).O (x7 1).N,.i (x7 2).Z,.l (l0 6).N (l0 6).G,.l (x7 3).N (x7 3).G]) (LET ([.i 0,.i 1,.s (l0 4).O (l0 4).N,.i (l0 5).Z,.l (l0 7).N (l0 7).G]) λx8=>(jA x8)/\LET (jc x8) λx9=>(((l0 2).Z+1)<=1048576)/\Ag I0 μ0 l0 [.s (l0 0).O (l0 0).N,.i (l0 1).Z,.i ((l0 2).Z+1),.i (l0 3).Z,.s (x9 1).O (x9 1).N,.i (x9 2).Z,.l (l0 6).N (l0 6).G,.l (x9 3).N (x9 3).G])) (LET ([.s (l0 4).O (l0 4).N,.i (l0 5).Z,.l (l0 7).N (l0 7).G]) λx10=>(KH x10)/\LET (wi x10) λx11=>((x11 0).N<=16)/\R [.i 0,.i 181,.l (x11 0).N (x11 0).G,.i 0])):=af
theorem Uc:PF0 N0 rn:=λJ b1 _=>⟨by
 rw[ER];obtain⟨⟨⟨t1,t2⟩,⟨s1,s2⟩,⟨o1,o2⟩,-⟩,-⟩:=b1;have t1:1<=(J 0).Z:=t1;have t2:(J 0).Z<=3:=t2;have s1:1<=(J 1).Z:=s1;have s2:(J 1).Z<=3:=s2;have o1:0<=(J 2).Z:=o1;have o2:(J 2).Z<=1023:=o2;have h0:(J 2).Z / pw (10:Nat)=0:=Int.ediv_eq_zero_of_lt o1 (show(J 2).Z<1024 by omega)
 have h1:(J 0).Z / pw (2:Nat)=0:=Int.ediv_eq_zero_of_lt ac (show(J 0).Z<4 by omega)
 have h2:(J 1).Z / pw (2:Nat)=0:=Int.ediv_eq_zero_of_lt ac (show(J 1).Z<4 by omega)
 refine aH rfl ⟨kmp h0,aH (w:=.i 0::wrC z0 0 [((J 2).Z,10)]) af ?_⟩;refine aH rfl (A0 (c:=[((J 2).Z,10)]) (v:=(J 0).Z) (w:=2) (pP af) af af h1 (Nat.le_of_ble_eq_true rfl) ?_);refine aH rfl (A0 (c:=[((J 2).Z,10),((J 0).Z,2)]) (v:=(J 1).Z) (w:=2) (pP af) af af h2 (Nat.le_of_ble_eq_true rfl) ?_);refine bG (X:=Unit) 3 2 (λ_ _=>True) (λi _=>phS J i (wrC z0 0 (phC J i))) (λ_ _ _=>rfl) () af trivial λI μ hA i _ l hi _ hl=>?_;have hn:=Ns (J:=J) i;subst hl;refine⟨λh=>?_,λh=>?_⟩
 .have h:decide ((i:Int)<3)=true:=kmp h;have h:=of_decide_eq_true h;have hi:i<3:=ac;have g1:(i:Int)<((3:Nat):Int):=ac;have g2:0+i<3:=ac;have g3:(i:Int)+1<=1048576:=ac;refine⟨kmp g1,kmp g2,λb=>?_,λb=>?_⟩
  .have b:((phG J (0+i)) 0).X=true:=kmp b;refine aH rfl (A0 (c:=phC J i) (v:=fU true) (w:=1) (pP af) af af (iJ true) ac ?_);refine⟨kmp g3,hA i () () _ _ hi trivial rfl ?_⟩;show _=phS J (i+1) (wrC z0 0 (phC J i++[(fU ((phG J (0+i)) 0).X,1)]));rw[b]
   kernel_rfl
  .have b:((phG J (0+i)) 0).X=false:=kmp b;refine aH rfl (A0 (c:=phC J i) (v:=fU false) (w:=1) (pP af) af af (iJ false) ac ?_);refine⟨kmp g3,hA i () () _ _ hi trivial rfl ?_⟩;show _=phS J (i+1) (wrC z0 0 (phC J i++[(fU ((phG J (0+i)) 0).X,1)]));rw[b]
   kernel_rfl
 .have h:decide ((i:Int)<3)=false:=kmp h;have h:=of_decide_eq_false h;have hi:i=3:=ac;subst hi;refine aH rfl (aaJ (c:=phC J 3) (pP af) ac ?_);refine⟨?_,aT rfl af⟩;show(0+cdN (phC J 3)) / 8+1<=16;omega⟩
abbrev ac3:CT:=C0 N0 rn
theorem TK:CO ac3:=CX0 (TX ⟨gx,nq,ug,ah⟩ (FK (FK ah))) Uc
def pgC (J:ae):Cd:=[(fU (J 0).X,1),(fU (J 1).X,1),((J 2).Z,24)]
def Le (J:ae):ae:=[.i 184,.l ((pyL (pgC J)) 0).N ((pyL (pgC J)) 0).G,.i 0]
abbrev MU:SP:=mkS ⟨[.sA RT,aD 0 0],[]⟩ 209 Tryz.f209 [.tX (.sA [r0,r0,am 0 16777215])] [] [] [YW,Bl,yc,Aj,RP] [(aw 181 Tryz.f181)]
theorem Ej J R:TR MU J R (LET ([.b (J 0).X,.i 0]) λx0=>LET (G3 x0) λx1=>LET ((ak [.b (J 1).X] (cw x1 0 3 269))) λx2=>(JD x2)/\LET (BA x2) λx3=>LET ((ak [.i (J 2).Z,.i 24] (cw x3 0 3 269))) λx4=>(jA x4)/\LET (jc x4) λx5=>LET ((cw x5 1 3 269)) λx6=>(KH x6)/\LET (wi x6) λx7=>((x7 0).N<=16)/\R [.i 0,.i 184,.l (x7 0).N (x7 0).G,.i 0]):=af
theorem XJ:PF0 MU Le:=λJ b1 _=>⟨by
 rw[Ej];obtain⟨⟨-,-,⟨t1,t2⟩,-⟩,-⟩:=b1;have t1:0<=(J 2).Z:=t1;have t2:(J 2).Z<=16777215:=t2;have h2:(J 2).Z / pw (24:Nat)=0:=Int.ediv_eq_zero_of_lt t1 (show(J 2).Z<16777216 by omega)
 refine aH rfl (aH (w:=wrC z0 0 [(fU (J 0).X,1)]) af ?_);refine aH rfl (adn (c:=[(fU (J 0).X,1)]) (b:=(J 1).X) (pP af) af (Nat.le_of_ble_eq_true rfl) ?_);refine aH rfl (A0 (c:=[(fU (J 0).X,1),(fU (J 1).X,1)]) (v:=(J 2).Z) (w:=24) (pP af) af af h2 (Nat.le_of_ble_eq_true rfl) ?_);refine aH rfl (aaJ (c:=pgC J) (pP af) (Nat.le_of_ble_eq_true rfl) ?_);exact⟨show(0+26) / 8+1<=16 by decide,aT rfl af⟩⟩
abbrev aeC:CT:=C0 MU Le
theorem Sq:CO aeC:=CX0 (TX ⟨zN,rI,gx,nq,ug,ah⟩ (FK ah)) XJ
def mxL (m:Nat->Int):Nat->Cd
 |0=>[]
 |k+1=>mxL m k++[(m (0+(scF false k).toNat*1),8)]
theorem Np {m:Nat->Int}:∀k,cdN (mxL m k)=8*k
 |0=>rfl
 |k+1=>by show cdN (mxL m k++_)=_;rw[aC,Np k];show 8*k+8=_;omega
def mxC (m u:Nat->Int):Cd:=bif bu 64 m u then[(fU false,1)] else[(fU true,1)]++mxL m 64
theorem PH (m u:Nat->Int):cdN (mxC m u)<=513:=by
 unfold mxC;cases bu 64 m u
 .show cdN ([(fU true,1)]++mxL m 64)<=513;rw[aC,Np];exact Nat.le_of_ble_eq_true rfl
 .exact Nat.le_of_ble_eq_true rfl
def Tf (J:ae):Prop:=WrP J 2 513
def MM (J:ae):ae:=wrA J 2 (mxC (J 0).F (J 1).F)
def pmS (J:ae) (i:Nat) (w:ae):ae:=[.f (scF false),.i (i:Int),.s (w 0).O (w 0).N,.i (w 1).Z,.f (J 0).F,.l (w 2).N (w 2).G]
abbrev Of:SP:=mkS ⟨[],[.run 349 nu,.dead,.dyn 5 0 0 1000000 0 g0 false]⟩ 286 Tryz.f286 [tXO (.nP 0 0),.tX (.sA [r4]),.tX (.sA [r4])] [.run 349 Qh,.dyn 5 0 0 1000000 0 g0 false] [(4,.head ⟨[(0,tXO (.nP 0 0)),(4,tXO (.nP 2 0)),(16,.tX (.sA [r30])),(17,aj 0 1048576)],[.run 349 uX,.dead,.run 24 [r4],.dyn 5 0 0 1000000 0 g0 false],[1]⟩)] [YW,Bl,YU,yc] [] (.tT []) [1]
theorem Ds J R:TR Of J R (LET ((ak [.b (!(bu 64 (J 0).F (J 1).F))] (cw J 2 3 269))) λx0=>(JD x0)/\LET (BA x0) λx1=>BR (bu 64 (J 0).F (J 1).F) (R (ak [.i 0] (cw x1 0 3 269))) (LET ([.b false]) λx2=>LET (Jt x2) λx3=>∃(I0:ae->Prop) (μ0:ae->Nat),I0 [.f (x3 0).F,.i 0,.s (x1 0).O (x1 0).N,.i (x1 1).Z,.f (J 0).F,.l (x1 2).N (x1 2).G]/\∀l0,I0 l0-> BR (decide ((l0 1).Z<64)) (((l0 1).Z<64)/\LET ([.i ((l0 4).F (0+(((l0 0).F (l0 1).Z.toNat).toNat*1))),.i 8,.s (l0 2).O (l0 2).N,.i (l0 3).Z,.l (l0 5).N (l0 5).G]) λx4=>(jA x4)/\LET (jc x4) λx5=>(((l0 1).Z+1)<=1048576)/\Ag I0 μ0 l0 [.f (l0 0).F,.i ((l0 1).Z+1),.s (x5 1).O (x5 1).N,.i (x5 2).Z,.f (l0 4).F,.l (x5 3).N (x5 3).G]) (R [.i 0,.s (l0 2).O (l0 2).N,.i (l0 3).Z,.l (l0 5).N (l0 5).G]))):=af
theorem Sk:PF1 Of Tf MM:=λJ b1 b2 hp=>⟨by
 rw[Ds];obtain⟨-,⟨hm,-⟩,-⟩:=b1;have hm:∀i,i<64->0<=(J 0).F i/\(J 0).F i<=255:=hm;obtain⟨⟨-,⟨n1,-⟩,-⟩,-,-⟩:=b2;have n1:0<=(J 3).Z:=n1;have hB:=bw (J 4).G;have h0:=WrH.init hp n1
 have hn:(J 3).Z.toNat+513<=8000000:=by have:=hp.2.2.2;have:(J 3).Z+513<=8000000:=this;omega
 unfold MM wrA;generalize hBn:aR (J 4).G=B at hB h0;have h0:WrH J 2 B (J 3).Z.toNat []:=h0;generalize hnn:(J 3).Z.toNat=n at h0 hn;show LET _ _;have h1:WrH [.b (!(bu 64 (J 0).F (J 1).F)),.s (J 2).O (J 2).N,.i (J 3).Z,.l (J 4).N (J 4).G] 1 B n []:=⟨h0.O,h0.N,h0.Z,h0.L,h0.P⟩;refine aH rfl ⟨h1.toP hB (by show n+0+1<=8000000;omega),aH (w:=wrC B n [(fU (!(bu 64 (J 0).F (J 1).F)),1)]) (h1.add hB) ⟨λe=>?_,λe=>?_⟩⟩
 .unfold mxC;rw[e];exact aT rfl af
 .unfold mxC;rw[e];refine aH rfl (aH (w:=[.f (scF false)]) af ?_);refine bG (X:=Unit) 64 1 (λ_ _=>True) (λi _=>pmS J i (wrC B n ([(fU true,1)]++mxL (J 0).F i))) (λ_ _ _=>rfl) () af trivial λI μ hA i _ l hi _ hl=>?_
  have hN:cdN ([(fU true,1)]++mxL (J 0).F i)=1+8*i:=by rw[aC,Np];rfl
  subst hl;refine⟨λh=>?_,λh=>?_⟩
  .have h:decide ((i:Int)<64)=true:=kmp h;have h:=of_decide_eq_true h;have hi:i<64:=ac;have g3:(i:Int)+1<=1048576:=ac;obtain⟨s1,s2⟩:=wy false i hi;obtain⟨v1,v2⟩:=hm (scF false i).toNat ac;have hv:(J 0).F (scF false i).toNat / pw (8:Nat)=0:=Int.ediv_eq_zero_of_lt v1 (show(J 0).F (scF false i).toNat<256 by omega)
   rw[show(scF false i).toNat=0+(scF false i).toNat*1 by omega]at hv
   refine⟨kmp h,aH rfl ?_⟩;have q:=NV (n:=n) (a:=[.i ((J 0).F (0+(scF false i).toNat*1)),.i 8,.s ((wrC B n ([(fU true,1)]++mxL (J 0).F i)) 0).O ((wrC B n ([(fU true,1)]++mxL (J 0).F i)) 0).N,.i ((wrC B n ([(fU true,1)]++mxL (J 0).F i)) 1).Z,.l ((wrC B n ([(fU true,1)]++mxL (J 0).F i)) 2).N ((wrC B n ([(fU true,1)]++mxL (J 0).F i)) 2).G]) (c:=[(fU true,1)]++mxL (J 0).F i) (v:=(J 0).F (0+(scF false i).toNat*1)) (w:=8) hB (WrH.of hB af) rfl rfl hv (by rw[hN];omega)
   refine⟨kmp q.1,aH (w:=.i 0::wrC B n ([(fU true,1)]++mxL (J 0).F (i+1))) ?_ ⟨kmp g3,hA i () () _ _ hi trivial rfl af⟩⟩;have q2:=q.2;rw[List.append_assoc]at q2;exact kmp q2
  .have h:decide ((i:Int)<64)=false:=kmp h;have h:=of_decide_eq_false h;have hi:i=64:=ac;subst hi;exact aT rfl af⟩
abbrev acV:CT:=C1 Of Tf MM
theorem XB:CO acV:=CX1 (TX ⟨zN,rI,zj,gx,ah⟩ ah) Sk
theorem acM {a:ae} {c:Cd} {m u:Nat->Int} {p:ae->Prop} (h:WrH a 2 z0 0 c) (e0:(a 0).F=m) (e1:(a 1).F=u) (hm:cdN c+513<=8000000) (k:p (wrC z0 0 (c++mxC m u))):Tf a/\LET (MM a) p:=by refine⟨h.toP ng ac,aH (w:=wrC z0 0 (c++mxC m u)) ?_ k⟩;unfold MM;rw[e0,e1,h.add ng]
def aaa (_:ae):ae:=[.f λ_=>16]
abbrev NB:SP:=mkS ⟨[.sA [.a 64 .u8 16 16 z0]],[]⟩ 288 Tryz.f288 [] [] [(0,.unroll 70),(1,.unroll 70),(2,.unroll 70),(3,.unroll 70),(4,.unroll 70),(5,.unroll 70)]
theorem Ex J R:TR NB J R (R [.i 0,.f (zAt [aA,aA,aA,aA,aA,aA,aA,aA,aA,aA,aA,aA,aA,aA,aA,aA,aA,aA,aA,aA,aA,aA,aA,aA,aA,aA,aA,aA,aA,aA,aA,aA,aA,aA,aA,aA,aA,aA,aA,aA,aA,aA,aA,aA,aA,aA,aA,aA,aA,aA,aA,aA,aA,aA,aA,aA,aA,aA,aA,aA,aA,aA,aA,aA])]):=af
theorem T9:PF0 NB aaa:=λJ _ _=>⟨by
 rw[Ex];refine⟨rfl,⟨⟨?_,ah⟩,ah⟩,ah⟩;show ∀i,i<64->_=(16:Int)
 decide +kernel⟩
abbrev adm:CT:=C0 NB aaa
theorem Re:CO adm:=CX0 (TX trivial ah) T9
def Ku (J:ae):Cd:=[(Int.tdiv (J 0).Z 16,8),(Int.tdiv (J 1).Z 16,8),((J 2).Z,32),((J 3).Z,32),(fU (J 4).X,1),((J 5).Z,32),((J 6).Z,32)]++mxC (J 7).F AQ++mxC (J 8).F (λ_=>16)
theorem J9 (J:ae):cdN (Ku J)<=1171:=by have a:=PH (J 7).F AQ;have b:=PH (J 8).F (λ_=>16);unfold Ku;rw[aC,aC];show 145+_+_<=_;omega
def Z7 (J:ae):Prop:=vsB J 0=true
def A3 (J:ae):ae:=[.i 179,.l ((pyL (Ku J)) 0).N ((pyL (Ku J)) 0).G,.i 0]
abbrev PZ:SP:=mkS ⟨[.sA [am 0 255,.c (.nR 0 1 32768 0 g0)],aD 0 0],[]⟩ 208 Tryz.f208 [.tX (.sA acr)] [] [] [YE,yc,Aj,YW,Bl,acV,adm,RP] [(aw 181 Tryz.f181),(aw 287 Tryz.f287)]
theorem DL J R:TR PZ J R (LET ((cw J 0 9 56926793)) λx0=>LET (IT x0) λx1=>((!(x1 0).X)->False)/\((!(x1 0).X)=false-> LET ([.i (Int.tdiv (J 0).Z 16),.i 8,.i 0]) λx2=>(yU x2)/\LET (vo x2) λx3=>LET ((ak [.i (Int.tdiv (J 1).Z 16),.i 8] (cw x3 1 3 269))) λx4=>(jA x4)/\LET (jc x4) λx5=>LET ((ak [.i (J 2).Z,.i 32] (cw x5 1 3 269))) λx6=>(jA x6)/\LET (jc x6) λx7=>LET ((ak [.i (J 3).Z,.i 32] (cw x7 1 3 269))) λx8=>(jA x8)/\LET (jc x8) λx9=>LET ((ak [.b (J 4).X] (cw x9 1 3 269))) λx10=>(JD x10)/\LET (BA x10) λx11=>LET ((ak [.i (J 5).Z,.i 32] (cw x11 0 3 269))) λx12=>(jA x12)/\LET (jc x12) λx13=>LET ((ak [.i (J 6).Z,.i 32] (cw x13 1 3 269))) λx14=>(jA x14)/\LET (jc x14) λx15=>LET ((ak [.f (J 7).F,.f AQ] (cw x15 1 3 269))) λx16=>(Tf x16)/\LET (MM x16) λx17=>LET ([]) λx18=>LET (aaa x18) λx19=>LET ((ak [.f (J 8).F,.f (x19 0).F] (cw x17 0 3 269))) λx20=>(Tf x20)/\LET (MM x20) λx21=>LET ((cw x21 0 3 269)) λx22=>(KH x22)/\LET (wi x22) λx23=>((x23 0).N<=32768)/\R [.i 0,.i 179,.l (x23 0).N (x23 0).G,.i 0])):=af
theorem Uf:PF1 PZ Z7 A3:=λJ b1 _ hp=>⟨by
 rw[DL];obtain⟨⟨⟨w1,w2⟩,⟨h1,h2⟩,⟨n1,n2⟩,⟨d1,d2⟩,-,⟨r1,r2⟩,⟨f1,f2⟩,-⟩,-⟩:=b1;have w1:16<=(J 0).Z:=w1;have w2:(J 0).Z<=64:=w2;have h1:16<=(J 1).Z:=h1;have h2:(J 1).Z<=64:=h2;have n1:1<=(J 2).Z:=n1;have n2:(J 2).Z<=1048576:=n2;have d1:1<=(J 3).Z:=d1;have d2:(J 3).Z<=65536:=d2;have r1:1<=(J 5).Z:=r1;have r2:(J 5).Z<=16777216:=r2;have f1:1<=(J 6).Z:=f1;have f2:(J 6).Z<=8388608:=f2;have tw:Int.tdiv (J 0).Z 16=(J 0).Z / 16:=Int.tdiv_eq_ediv_of_nonneg ac;have th:Int.tdiv (J 1).Z 16=(J 1).Z / 16:=Int.tdiv_eq_ediv_of_nonneg ac;have q0:Int.tdiv (J 0).Z 16 / pw (8:Nat)=0:=Int.ediv_eq_zero_of_lt ac (show Int.tdiv (J 0).Z 16<256 by omega)
 have q1:Int.tdiv (J 1).Z 16 / pw (8:Nat)=0:=Int.ediv_eq_zero_of_lt ac (show Int.tdiv (J 1).Z 16<256 by omega)
 have q2:(J 2).Z / pw (32:Nat)=0:=Int.ediv_eq_zero_of_lt ac (show(J 2).Z<4294967296 by omega)
 have q3:(J 3).Z / pw (32:Nat)=0:=Int.ediv_eq_zero_of_lt ac (show(J 3).Z<4294967296 by omega)
 have q5:(J 5).Z / pw (32:Nat)=0:=Int.ediv_eq_zero_of_lt ac (show(J 5).Z<4294967296 by omega)
 have q6:(J 6).Z / pw (32:Nat)=0:=Int.ediv_eq_zero_of_lt ac (show(J 6).Z<4294967296 by omega)
 refine aH rfl (aH (w:=[.b (vsB J 0)]) af ⟨λh=>?_,λ_=>?_⟩)
 .have h:(!vsB J 0)=true:=h;rw[hp]at h;cases h
 have mN:=PH (J 7).F AQ;refine aH rfl ⟨kmp q0,aH (w:=.i 0::wrC z0 0 [(Int.tdiv (J 0).Z 16,8)]) af ?_⟩;refine aH rfl (A0 (c:=[(Int.tdiv (J 0).Z 16,8)]) (v:=Int.tdiv (J 1).Z 16) (w:=8) (pP af) af af q1 (by simp only[cdN];omega) ?_)
 refine aH rfl (A0 (c:=[(Int.tdiv (J 0).Z 16,8),(Int.tdiv (J 1).Z 16,8)]) (v:=(J 2).Z) (w:=32) (pP af) af af q2 (by simp only[cdN];omega) ?_)
 refine aH rfl (A0 (c:=[(Int.tdiv (J 0).Z 16,8),(Int.tdiv (J 1).Z 16,8),((J 2).Z,32)]) (v:=(J 3).Z) (w:=32) (pP af) af af q3 (by simp only[cdN];omega) ?_)
 refine aH rfl (adn (c:=[(Int.tdiv (J 0).Z 16,8),(Int.tdiv (J 1).Z 16,8),((J 2).Z,32),((J 3).Z,32)]) (b:=(J 4).X) (pP af) af (by simp only[cdN];omega) ?_)
 refine aH rfl (A0 (c:=[(Int.tdiv (J 0).Z 16,8),(Int.tdiv (J 1).Z 16,8),((J 2).Z,32),((J 3).Z,32),(fU (J 4).X,1)]) (v:=(J 5).Z) (w:=32) (pP af) af af q5 (by simp only[cdN];omega) ?_)
 refine aH rfl (A0 (c:=[(Int.tdiv (J 0).Z 16,8),(Int.tdiv (J 1).Z 16,8),((J 2).Z,32),((J 3).Z,32),(fU (J 4).X,1),((J 5).Z,32)]) (v:=(J 6).Z) (w:=32) (pP af) af af q6 (by simp only[cdN];omega) ?_)
 refine aH rfl (acM (c:=[(Int.tdiv (J 0).Z 16,8),(Int.tdiv (J 1).Z 16,8),((J 2).Z,32),((J 3).Z,32),(fU (J 4).X,1),((J 5).Z,32),((J 6).Z,32)]) (m:=(J 7).F) (u:=AQ) (pP af) (by rfl) (by rfl) (by simp only[cdN];omega) ?_)
 have hN:=J9 J;refine aH rfl (acM (c:=[(Int.tdiv (J 0).Z 16,8),(Int.tdiv (J 1).Z 16,8),((J 2).Z,32),((J 3).Z,32),(fU (J 4).X,1),((J 5).Z,32),((J 6).Z,32)]++mxC (J 7).F AQ) (m:=(J 8).F) (u:=λ_=>16) (pP af) (by rfl) (by rfl) (by rw[aC];show 145+_+_<=_;omega) ?_)
 refine aH rfl (aaJ (c:=Ku J) (pP af) ac ?_);refine⟨?_,aT rfl af⟩;show(0+cdN (Ku J)) / 8+1<=32768;omega⟩
abbrev ado:CT:=C1 PZ Z7 A3
theorem XH:CO ado:=CX1 (TX ⟨xw,gx,nq,zN,rI,XB,Re,ug,ah⟩ (FK (FK ah))) Uf
end
end Go.Proofs.YtldmjbgplgoedaaGreatDoor
namespace Go.Proofs.YtldmjbgplgoedaaGreatDoor
noncomputable section
open Go.RowKit U
def A6 (u:ae):Prop:=(1<=(u 0).Z/\(u 0).Z<=4)/\(1<=(u 1).N/\(u 1).N<=32768)/\PC [.l (u 1).N (u 1).G]/\∀i,i<(u 1).N->0<=cel (u 1).G i
def unA (u:ae):ae:=[.i (u 0).Z,.l (u 1).N (u 1).G]
theorem UA {u:ae} (h:A6 u):ze (unA u)<=4+2*(u 1).N:=kG (J:=unA u) h.2.2.2
def apQ (N:Nat) (g:Nat->ae) (S:Nat->ae):Nat->Nat × (Nat->ae)
 |0=>(N,g)
 |k+1=>((apQ N g S k).1+ze (unA (S k)),aE (apQ N g S k).1 (apQ N g S k).2 λi=>((KL (unA (S k))) 2).G (i+0))
theorem Ae {N:Nat} {g:Nat->ae} {S:Nat->ae} {L:Nat}:∀ {k:Nat},(∀i,i<k->A6 (S i)/\((S i) 1).N<=L)->(apQ N g S k).1<=N+k*(4+2*L)
 |0,_=>Nat.le_add_right _ _
 |k+1,h=>by have ih:=Ae (N:=N) (g:=g) (k:=k) λi hi=>h i ac;obtain⟨h1,h2⟩:=h k ac;have:=UA h1;show(apQ N g S k).1+ze (unA (S k))<=_;rw[Nat.add_mul];omega
structure QQ (J:ae):Prop where
 O:(J 0).O=0
 N:(J 0).N=(J 9).N
 n:(J 9).N<=65540
 u:∀i,i<(J 8).N->A6 ((J 8).G i)
def apX (J:ae) (k:Nat):Nat × (Nat->ae):=apQ (J 9).N (J 9).G (J 8).G k
def Lj (J:ae):ae:=[.s 0 (apX J (J 8).N).1,.i 0,.l (apX J (J 8).N).1 (apX J (J 8).N).2]
def apS (J:ae) (k:Nat):ae:=[.s 0 (apX J k).1,.l (J 8).N (J 8).G,.i (((J 8).N:Nat):Int),.i (k:Int),.l (apX J k).1 (apX J k).2]
abbrev Mz:SP:=mkS ⟨[.sO (.nD 1 0 5 1048576 0 0),aD 0 0],[.dead,.dyn 5 0 5 1048576 0 g0 false]⟩ 212 Tryz.f212 [tXO (.nD 0 0 5 1048576 0 0),.tX (.sA [r5,r5,r5,r0,r0,r0,.c (.nR 3 0 0 0 g0),.c (.nR 4 0 4 0 g0)])] [.dyn 5 0 5 1048576 0 g0 false] [(13,.head ⟨[(0,tXO (.nD 1 0 5 1048576 0 0)),(47,tXO (.nR 4 0 4 0 g0)),(48,aj 0 4),(49,aj 0 4)],[.dead,.dyn 5 0 5 1048576 0 g0 false],[0]⟩),(2,.unroll 70)] [acz] [(aw 290 Tryz.f290)] (.tA) [0]
theorem Bj J R:TR Mz J R (∃(I0:ae->Prop) (μ0:ae->Nat),I0 [.s (J 0).O (J 0).N,.l (J 8).N (J 8).G,.i (((J 8).N:Nat):Int),.i 0,.l (J 9).N (J 9).G]/\∀l0,I0 l0-> BR (decide ((l0 3).Z<(l0 2).Z)) (((l0 3).Z<(((l0 1).N:Nat):Int))/\BR (decide (1<=(((l0 1).G (l0 3).Z.toNat) 0).Z)) (BR (!(decide ((((l0 1).G (l0 3).Z.toNat) 0).Z<5))) (False) ((1<=(((l0 1).G (l0 3).Z.toNat) 0).Z)/\((((l0 1).G (l0 3).Z.toNat) 0).Z<=255)/\(1<=(((l0 1).G (l0 3).Z.toNat) 1).N)/\((((l0 1).G (l0 3).Z.toNat) 1).N<=32768)/\LET ([.i (((l0 1).G (l0 3).Z.toNat) 0).Z,.l (((l0 1).G (l0 3).Z.toNat) 1).N (((l0 1).G (l0 3).Z.toNat) 1).G]) λx0=>(QA x0)/\LET (KL x0) λx1=>(((x1 0).O+(x1 0).N)<=(x1 2).N)/\((l0 0).O=0)/\((l0 0).N=(l0 4).N)/\(((l0 0).N+(x1 0).N)<=1048576)/\(((l0 3).Z+1)<=4)/\(((l0 0).N+(x1 0).N)<=1048576)/\Ag I0 μ0 l0 [.s 0 ((l0 0).N+(x1 0).N),.l (l0 1).N (l0 1).G,.i (l0 2).Z,.i ((l0 3).Z+1),.l ((l0 0).N+(x1 0).N) (aE (l0 0).N (l0 4).G (λi0=>(x1 2).G (i0+(x1 0).O)))])) (False)) (R [.i 0,.s (l0 0).O (l0 0).N,.i 0,.l (l0 4).N (l0 4).G])):=af
theorem VR:PF1 Mz QQ Lj:=λJ b1 _ hp=>⟨by
 rw[Bj]
 have hN:(J 8).N<=4:=by obtain⟨-,⟨-,-,-,-,-,-,-,⟨-,h,-⟩,-⟩,-⟩:=b1;exact h
 have s0:[.s (J 0).O (J 0).N,.l (J 8).N (J 8).G,.i (((J 8).N:Nat):Int),.i 0,.l (J 9).N (J 9).G]=apS J 0:=by rw[hp.O,hp.N];rfl
 refine bG (X:=Unit) (J 8).N 3 (λ_ _=>True) (λi _=>apS J i) (λ_ _ _=>rfl) () s0.symm trivial λI μ hA i _ l hi _ hl=>?_;subst hl;refine⟨λh=>?_,λh=>?_⟩
 .have h:decide ((i:Int)<(((J 8).N:Nat):Int))=true:=kmp h;have h:=of_decide_eq_true h;have hi:i<(J 8).N:=ac;have hU:=hp.u i hi;obtain⟨⟨t1,t2⟩,⟨l1,l2⟩,p,g0⟩:=hU;have t5:(((J 8).G i) 0).Z<5:=ac;have t6:(((J 8).G i) 0).Z<=255:=ac;have a5:(i:Int)+1<=4:=ac;have hL:=Ae (N:=(J 9).N) (g:=(J 9).G) (S:=(J 8).G) (L:=32768) (k:=i+1) λj hj=>⟨hp.u j ac,(hp.u j ac).2.1.2⟩;have hL:(apX J (i+1)).1<=(J 9).N+(i+1)*(4+2*32768):=hL
  have hL:(apX J (i+1)).1<=1048576:=by have:=hp.n;omega
  refine⟨kmp h,λ_=>⟨λq=>?_,λ_=>⟨kmp t1,kmp t6,kmp l1,kmp l2,aH (w:=unA ((J 8).G i)) af ⟨p,aH rfl ⟨kmp (Nat.le_of_eq (Nat.zero_add (ze (unA ((J 8).G i))))),af,af,kmp hL,kmp a5,kmp hL,hA i () () _ _ hi trivial rfl af⟩⟩⟩⟩,λq=>?_⟩
  .have q:(!(decide ((((J 8).G i) 0).Z<5)))=true:=kmp q;rw[decide_eq_true t5]at q;cases q
  .have q:decide (1<=(((J 8).G i) 0).Z)=false:=kmp q;exact absurd t1 (of_decide_eq_false q)
 .have h:decide ((i:Int)<(((J 8).N:Nat):Int))=false:=kmp h;have h:=of_decide_eq_false h;have hi:i=(J 8).N:=ac;subst hi;exact aT rfl af⟩
abbrev ade:CT:=C1 Mz QQ Lj
theorem Tn:CO ade:=CX1 (TX ⟨IZ,ah⟩ (FK ah)) VR
end
end Go.Proofs.YtldmjbgplgoedaaGreatDoor
namespace Go.Proofs.YtldmjbgplgoedaaGreatDoor
noncomputable section
open Go.RowKit U
def ibH (J:ae):ae:=bif (J 0).Z==1 then A3 [.i (J 1).Z,.i (J 2).Z,.i (J 3).Z,.i (J 4).Z,.b (J 5).X,.i (J 6).Z,.i (J 7).Z,.f (J 8).F,.f (J 9).F] else bif (J 0).Z==2 then Le [.b (J 10).X,.b (J 11).X,.i (J 12).Z] else rn [.i (J 13).Z,.i (J 14).Z,.i (J 15).Z,.b (J 16).X,.b (J 17).X,.b (J 18).X]
def ibF (J:ae):ae:=KL [.i ((ibH J) 0).Z,.l ((ibH J) 1).N ((ibH J) 1).G]
def ibA (J:ae):ae:=[.s ((ibF J) 0).O ((ibF J) 0).N,.i (J 13).Z,.i (J 14).Z,.i (J 15).Z,.b (J 16).X,.b (J 17).X,.b (J 18).X,.l (J 19).N (J 19).G,.l (J 20).N (J 20).G,.l ((ibF J) 2).N ((ibF J) 2).G]
def eJ (J:ae):ae:=bif (J 0).Z==3 then Lj (ibA J)else ibF J
def Qa (J:ae):Prop:=((J 0).Z=1/\vsB J 1=true)\/((J 0).Z=2/\0<=(J 12).Z/\(J 12).Z<=16777215)\/((J 0).Z=3/\((1<=(J 13).Z/\(J 13).Z<=3)/\(1<=(J 14).Z/\(J 14).Z<=3)/\0<=(J 15).Z/\(J 15).Z<=1023)/\(J 19).N=0/\(J 20).N<=4/\∀i,i<(J 20).N->A6 ((J 20).G i))
def QO (J:ae):Prop:=Qa J/\0<=(J 21).Z/\(J 21).Z<=1048576
abbrev LE:SP:=mkS ⟨[.sO (.nD 0 0 5 1048576 0 0),aD 0 0],[.dyn 5 0 5 1048576 0 g0 false]⟩ 130 Tryz.f130 [.tX (.sA [r5,r5,r5,r5,r5,r0,r5,r5,r4,r4,r0,r0,r5,r5,r5,r5,r0,r0,r0,r41,r42,r5])] [] [] [ado,aeC,ac3,acz,ade] [] (.tA)
theorem CF J R:TR LE J R (((decide ((J 0).Z<1))->False)/\((decide ((J 0).Z<1))=false->((decide (4<(J 0).Z))->False)/\((decide (4<(J 0).Z))=false->((decide ((J 21).Z<0))->False)/\((decide ((J 21).Z<0))=false->((decide (1048576<(J 21).Z))->False)/\((decide (1048576<(J 21).Z))=false->(((J 0).Z==1)->(16<=(J 1).Z)/\((J 1).Z<=64)/\(16<=(J 2).Z)/\((J 2).Z<=64)/\(1<=(J 3).Z)/\((J 3).Z<=1048576)/\(1<=(J 4).Z)/\((J 4).Z<=65536)/\(1<=(J 6).Z)/\((J 6).Z<=16777216)/\(1<=(J 7).Z)/\((J 7).Z<=8388608)/\LET ((cw J 1 9 56926793)) λx0=>(Z7 x0)/\LET (A3 x0) λx1=>(1<=(x1 0).Z)/\LET ([.i (x1 0).Z,.l (x1 1).N (x1 1).G]) λx2=>(QA x2)/\LET (KL x2) λx3=>(((J 0).Z==3)->((J 19).N<=0)/\((J 20).N<=4)/\LET ((ak [.s (x3 0).O (x3 0).N] (ak (cw J 13 8 9512009) [.l (x3 2).N (x3 2).G]))) λx4=>(QQ x4)/\LET (Lj x4) λx5=>R (ak [.i 0] (cw x5 0 3 269)))/\(((J 0).Z==3)=false->R [.i 0,.s (x3 0).O (x3 0).N,.i 0,.l (x3 2).N (x3 2).G]))/\(((J 0).Z==1)=false->(((J 0).Z==2)->(0<=(J 12).Z)/\((J 12).Z<=16777215)/\LET ((cw J 10 3 82)) λx6=>LET (Le x6) λx7=>(1<=(x7 0).Z)/\LET ([.i (x7 0).Z,.l (x7 1).N (x7 1).G]) λx8=>(QA x8)/\LET (KL x8) λx9=>(((J 0).Z==3)->((J 19).N<=0)/\((J 20).N<=4)/\LET ((ak [.s (x9 0).O (x9 0).N] (ak (cw J 13 8 9512009) [.l (x9 2).N (x9 2).G]))) λx10=>(QQ x10)/\LET (Lj x10) λx11=>R (ak [.i 0] (cw x11 0 3 269)))/\(((J 0).Z==3)=false->R [.i 0,.s (x9 0).O (x9 0).N,.i 0,.l (x9 2).N (x9 2).G]))/\(((J 0).Z==2)=false->(((J 0).Z==3)->(1<=(J 13).Z)/\((J 13).Z<=3)/\(1<=(J 14).Z)/\((J 14).Z<=3)/\(0<=(J 15).Z)/\((J 15).Z<=1023)/\LET ((cw J 13 6 74825)) λx12=>LET (rn x12) λx13=>(1<=(x13 0).Z)/\LET ([.i (x13 0).Z,.l (x13 1).N (x13 1).G]) λx14=>(QA x14)/\LET (KL x14) λx15=>(((J 0).Z==3)->((J 19).N<=0)/\((J 20).N<=4)/\LET ((ak [.s (x15 0).O (x15 0).N] (ak (cw J 13 8 9512009) [.l (x15 2).N (x15 2).G]))) λx16=>(QQ x16)/\LET (Lj x16) λx17=>R (ak [.i 0] (cw x17 0 3 269)))/\(((J 0).Z==3)=false->R [.i 0,.s (x15 0).O (x15 0).N,.i 0,.l (x15 2).N (x15 2).G]))/\(((J 0).Z==3)=false->(((J 0).Z==4)->False)/\(((J 0).Z==4)=false-> False))))))))):=af
theorem SC {J:ae}:((rn J) 1).N=3:=by show(0+cdN (phC J 3)) / 8+1=3;rw[Ns]
theorem abg {J:ae}:((A3 J) 1).N<=147:=by have:=J9 J;show(0+cdN (Ku J)) / 8+1<=147;omega
theorem pW (c:Cd):∀i,0<=cel ((pyL c) 0).G i:=λi=>by have:=(vR (B:=gV (cdB z0 0 c) (0+cdN c) 1 1) (n:=0+cdN c+1) (i:=i) (fP (d8 ng))).1;exact this
theorem XG:PF1 LE QO eJ:=λJ _ _ ⟨hp,p1,p2⟩=>⟨by
 rw[CF]
 have hk:1<=(J 0).Z/\(J 0).Z<=3:=by rcases hp with h | h | h<;>omega
 refine⟨λh=>absurd (of_decide_eq_true h) ac,λ_=>⟨λh=>absurd (of_decide_eq_true h) ac,λ_=>⟨λh=>absurd (of_decide_eq_true h) ac,λ_=>⟨λh=>absurd (of_decide_eq_true h) ac,λ_=>⟨λe=>?_,λe=>⟨λe2=>?_,λe2=>⟨λe3=>?_,λe3=>?_⟩⟩⟩⟩⟩⟩⟩
 .have z:(J 0).Z=1:=eq_of_beq e;have e3:((J 0).Z==3)=false:=by rw[z];rfl
  have hv:vsB J 1=true:=by
   rcases hp with h | h | h
   .exact h.2
   .omega
   .omega
  have v:=of_decide_eq_true (show decide _=true from hv);obtain⟨w1,w2,-⟩:=v.hW;obtain⟨h1,h2,-⟩:=v.hH;obtain⟨n1,n2,d2⟩:=v.hnum;obtain⟨r1,r2⟩:=v.hbr;obtain⟨f1,f2⟩:=v.hbf;have d1:=QC v.hrate;refine⟨w1,w2,h1,h2,n1,n2,d1,d2,r1,r2,f1,f2,aH rfl ⟨kmp hv,aH rfl ⟨show(1:Int)<=179 by decide,aH rfl ⟨mZ _,aH rfl ⟨λq=>?_,λ_=>?_⟩⟩⟩⟩⟩
  .rw[e3]at q;cases q
  .rw[show eJ J=ibF J by unfold eJ;rw[e3];rfl]
   unfold ibF ibH;rw[e];exact aT rfl af
 .have z:(J 0).Z=2:=eq_of_beq e2;have e3:((J 0).Z==3)=false:=by rw[z];rfl
  have hv:0<=(J 12).Z/\(J 12).Z<=16777215:=by
   rcases hp with h | h | h
   .omega
   .exact h.2
   .omega
  refine⟨hv.1,hv.2,aH rfl (aH rfl ⟨show(1:Int)<=184 by decide,aH rfl ⟨mZ _,aH rfl ⟨λq=>?_,λ_=>?_⟩⟩⟩)⟩
  .rw[e3]at q;cases q
  .rw[show eJ J=ibF J by unfold eJ;rw[e3];rfl]
   unfold ibF ibH;rw[e,e2];exact aT rfl af
 .have z:(J 0).Z=3:=eq_of_beq e3
  obtain⟨⟨⟨a1,a2⟩,⟨b1,b2⟩,c1,c2⟩,u0,u4,u⟩:((1<=(J 13).Z/\(J 13).Z<=3)/\(1<=(J 14).Z/\(J 14).Z<=3)/\0<=(J 15).Z/\(J 15).Z<=1023)/\(J 19).N=0/\(J 20).N<=4/\∀i,i<(J 20).N->A6 ((J 20).G i):=by
   rcases hp with h | h | h
   .omega
   .omega
   .exact h.2
  have hH:ibH J=rn [.i (J 13).Z,.i (J 14).Z,.i (J 15).Z,.b (J 16).X,.b (J 17).X,.b (J 18).X]:=by unfold ibH;rw[e,e2];rfl
  have hF:QQ (ibA J):=by
   refine⟨rfl,rfl,?_,u⟩;show ze [.i ((ibH J) 0).Z,.l ((ibH J) 1).N ((ibH J) 1).G]<=65540;rw[hH];have:=kG (J:=[.i ((rn [.i (J 13).Z,.i (J 14).Z,.i (J 15).Z,.b (J 16).X,.b (J 17).X,.b (J 18).X]) 0).Z,.l ((rn [.i (J 13).Z,.i (J 14).Z,.i (J 15).Z,.b (J 16).X,.b (J 17).X,.b (J 18).X]) 1).N ((rn [.i (J 13).Z,.i (J 14).Z,.i (J 15).Z,.b (J 16).X,.b (J 17).X,.b (J 18).X]) 1).G]) λi _=>pW _ i;refine Nat.le_trans this ?_;show 4+2*((rn [.i (J 13).Z,.i (J 14).Z,.i (J 15).Z,.b (J 16).X,.b (J 17).X,.b (J 18).X]) 1).N<=65540;rw[SC]
   decide
  rw[show eJ J=Lj (ibA J) by unfold eJ;rw[e3];rfl]
  unfold ibA ibF at hF ⊢;rw[hH]at hF ⊢;exact⟨a1,a2,b1,b2,c1,c2,aH rfl (aH rfl ⟨show(1:Int)<=181 by decide,aH rfl ⟨mZ _,aH rfl ⟨λ_=>⟨ac,u4,aH rfl ⟨hF,aH rfl (aT rfl af)⟩⟩,λq=>(by rw[e3]at q;cases q)⟩⟩⟩)⟩
 .have h1:¬ (J 0).Z=1:=by simpa using e
  have h2:¬ (J 0).Z=2:=by simpa using e2
  have h3:¬ (J 0).Z=3:=by simpa using e3
  omega⟩
abbrev aea:CT:=C1 LE QO eJ
theorem Uk:CO aea:=CX1 (TX ⟨XH,Sq,TK,IZ,Tn,ah⟩ ah) XG
theorem W7 {J:ae} (_:QO J):((eJ J) 0).O+((eJ J) 0).N<=((eJ J) 2).N:=by
 unfold eJ;cases(J 0).Z==3
 .exact Nat.le_of_eq (Nat.zero_add _)
 .exact Nat.le_of_eq (Nat.zero_add _)
end
end Go.Proofs.YtldmjbgplgoedaaGreatDoor
