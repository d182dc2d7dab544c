import Derived.Test.YtldmjbgplgoedaaGreatDoorRp34
set_option linter.all false
namespace Go.Proofs.YtldmjbgplgoedaaGreatDoor
noncomputable section
open Go.RowKit U
theorem Bm {α:Type} {c:Bool} (h:c=true) (a b:α):(bif c then a else b)=a:=by rw[h];rfl
theorem A8 {α:Type} {c:Bool} (h:c=false) (a b:α):(bif c then a else b)=b:=by rw[h];rfl
def gl (J:ae) (o:Nat):Prop:=2<=(J o).Z/\2<=(J (o+1)).Z/\1<=(J (o+2)).N/\1<=(J (o+3)).N/\1<=(J (o+4)).N/\((J (o+2)).N:Int)=(J o).Z*(J (o+1)).Z
def fvK (J:ae) (o:Nat):ae:=[.l (J 0).N (J 0).G,.i (J 1).Z,.i (J 2).Z,.i (J o).Z,.i (J (o+1)).Z,.l (J (o+2)).N (J (o+2)).G,.l (J (o+3)).N (J (o+3)).G,.l (J (o+4)).N (J (o+4)).G,.i (J 9).Z,.i (J 10).Z]
def fvA (J:ae) (o:Nat) (s:Int):ae:=[.i ((tI (fvK J o)) 0).Z,.i ((tI (fvK J o)) 1).Z,.i s]
def fvF (J:ae) (o:Nat):ae:=bif decide (((tI (fvK J (o+5))) 2).Z<((tI (fvK J o)) 2).Z)then fvA J (o+5) 1 else fvA J o 0
def Xh (J:ae):Prop:=gl J 61/\gl J 66
def LR (J:ae):ae:=fvF J 61
abbrev BI:SP:=mkS ⟨[.sA adT,aD 0 1],[.run 100 sCD]⟩ 358 Tryz.f358 [tXO (.nP 0 0),.tX (.sA La),aj 0 0,.tX (.sA adT)] [.run 100 sCD] [] [T2]
theorem HK J R:TR BI J R ((2<=(J 61).Z)/\(2<=(J 62).Z)/\(1<=(J 63).N)/\(1<=(J 64).N)/\(1<=(J 65).N)/\let x0:ae:=(ak (cw J 0 3 76) (ak (cw J 61 5 18697) [.i (J 9).Z,.i (J 10).Z]));(H5 x0)/\let x1:ae:=tI x0;(2<=(J 66).Z)/\(2<=(J 67).Z)/\(1<=(J 68).N)/\(1<=(J 69).N)/\(1<=(J 70).N)/\let x2:ae:=(ak (cw J 0 3 76) (ak (cw J 66 5 18697) [.i (J 9).Z,.i (J 10).Z]));(H5 x2)/\let x3:ae:=tI x2;((decide ((x3 2).Z<(x1 2).Z))->R (ak [.i 0,.i (x3 0).Z,.i (x3 1).Z,.i 1] (cw J 11 75 k1)))/\((decide ((x3 2).Z<(x1 2).Z))=false-> R (ak [.i 0,.i (x1 0).Z,.i (x1 1).Z,.i 0] (cw J 11 75 k1)))):=af
theorem Wz:PFk BI [true] [] Xh LR:=λJ b1 b2 ⟨⟨h1,h2,h3,h4,h5,h6⟩,g1,g2,g3,g4,g5,g6⟩=>⟨by
 rw[HK];dsimp only;refine⟨h1,h2,h3,h4,h5,kmp h6,g1,g2,g3,g4,g5,kmp g6,λh=>?_,λh=>?_⟩
 .rw[show LR J=fvA J 66 1 from Bm (kmp h) _ _];exact⟨rfl,⟨ay af,rfl,ah⟩,ay af,ah⟩
 .rw[show LR J=fvA J 61 0 from A8 (kmp h) _ _];exact⟨rfl,⟨ay af,rfl,ah⟩,ay af,ah⟩⟩
abbrev ae4:List AB:=[]
abbrev XA:CT:=Ck BI [true] ae4 Xh LR
theorem ua:CO XA:=CXk BI (TX ⟨um,ah⟩ ah) Wz
def Xc (J:ae):Prop:=gl J 71/\gl J 76
def Nv (J:ae):ae:=fvF J 71
abbrev GJ:SP:=mkS ⟨[.sA adT,aD 0 1],[.run 100 sCD]⟩ 358 Tryz.f358 [tXO (.nP 0 0),.tX (.sA La),aj 1 1,.tX (.sA adT)] [.run 100 sCD] [] [T2]
theorem Ci J R:TR GJ J R ((2<=(J 71).Z)/\(2<=(J 72).Z)/\(1<=(J 73).N)/\(1<=(J 74).N)/\(1<=(J 75).N)/\let x0:ae:=(ak (cw J 0 3 76) (ak (cw J 71 5 18697) [.i (J 9).Z,.i (J 10).Z]));(H5 x0)/\let x1:ae:=tI x0;(2<=(J 76).Z)/\(2<=(J 77).Z)/\(1<=(J 78).N)/\(1<=(J 79).N)/\(1<=(J 80).N)/\let x2:ae:=(ak (cw J 0 3 76) (ak (cw J 76 5 18697) [.i (J 9).Z,.i (J 10).Z]));(H5 x2)/\let x3:ae:=tI x2;((decide ((x3 2).Z<(x1 2).Z))->R (ak [.i 0,.i (x3 0).Z,.i (x3 1).Z,.i 1] (cw J 11 75 k1)))/\((decide ((x3 2).Z<(x1 2).Z))=false-> R (ak [.i 0,.i (x1 0).Z,.i (x1 1).Z,.i 0] (cw J 11 75 k1)))):=af
theorem St:PFk GJ [true] [] Xc Nv:=λJ b1 b2 ⟨⟨h1,h2,h3,h4,h5,h6⟩,g1,g2,g3,g4,g5,g6⟩=>⟨by
 rw[Ci];dsimp only;refine⟨h1,h2,h3,h4,h5,kmp h6,g1,g2,g3,g4,g5,kmp g6,λh=>?_,λh=>?_⟩
 .rw[show Nv J=fvA J 76 1 from Bm (kmp h) _ _];exact⟨rfl,⟨ay af,rfl,ah⟩,ay af,ah⟩
 .rw[show Nv J=fvA J 71 0 from A8 (kmp h) _ _];exact⟨rfl,⟨ay af,rfl,ah⟩,ay af,ah⟩⟩
abbrev aeV:List AB:=[]
abbrev V7:CT:=Ck GJ [true] aeV Xc Nv
theorem uE:CO V7:=CXk GJ (TX ⟨um,ah⟩ ah) St
theorem vz (J:ae) (o:Nat) (h:gl J o/\gl J (o+5)) (hv:VB J 9):VB (fvF J o) 0/\0<=((fvF J o) 2).Z/\((fvF J o) 2).Z<=1:=by
 obtain⟨⟨-,-,-,-,-,h⟩,-,-,-,-,-,h'⟩:=h;have a:=(Br (fvK J o) h (kmp hv)).out;have b:=(Br (fvK J (o+5)) h' (kmp hv)).out;unfold fvF;cases decide (((tI (fvK J (o+5))) 2).Z<((tI (fvK J o)) 2).Z)
 .exact⟨a,show(0:Int)<=0 by decide,show(0:Int)<=1 by decide⟩
 .exact⟨b,show(0:Int)<=1 by decide,show(1:Int)<=1 by decide⟩
theorem ji {A:List AB} {sk:List AS} {msk:List AB} {ks:List Bool} {v:ae} {Q:ae->Prop} {T:T} (h:Sa1 T (λl=>(hd l).Z=0/\agT KX ks A msk (tls (nlL sk) (tl l)) v/\Q (gO ks A sk msk l))):Sa2 Q (gO ks A sk msk (evW T)):=⟨(Jk h.out).2.2⟩
theorem lt4 {p:Nat->Prop} (h0:p 0) (h1:p 1) (h2:p 2) (h3:p 3):∀i,i<4->p i
 |0,_=>h0
 |1,_=>h1
 |2,_=>h2
 |3,_=>h3
def fwV (J:ae) (o:Nat) (x:ae) (F:Nat->Int):ae:=set_ (LY (ak (cw J 85 22 k0) (cw J 107 22 k0)) o x) (o / 22*22+13) (.f F)
def IQ (J:ae):Prop:=VB J 8/\((J 24).Z≠3->gl J 60/\gl J 65)/\((J 24).Z=3->gl J 50)
def Zv (J w:ae):Prop:=w=fwV J 5 [.i (w 5).Z,.i (w 6).Z] (w 13).F/\(∀i,i<4->((J 24).Z=3\/i≠0)->(w 13).F i=(J 98).F i)/\VB w 5/\((J 24).Z=3\/0<=(w 13).F 0/\(w 13).F 0<=1)
abbrev bR:SP:=mkS ⟨[],[.run 100 sCD,.run 396 qL4]⟩ 328 Tryz.f328 [tXO (.nP 0 0),tXO (.nP 1 0),aj 0 0,.tX (.sA bJ),aj 0 3,aj 0 3,.tX (.sA adT)] [.run 100 sCD,.run 396 qL4] [] [XA,V7,T2]
theorem H3 J R:TR1 bR J R ((((J 24).Z !=3)->let x0:ae:=(ak (ak [.l (J 3).N (J 3).G,.i (16*(J 6).Z),.i (16*(J 7).Z)] (ak (cw J 50 5 18697) [.i (J 0).Z])) (cw J 8 77 k11));(Xh x0)/\let x1:ae:=LR x0;((cw J 10 75 k1)=(cw J 10 75 k1))/\R (ak [.i 0] (ak (cw J 10 80 k26) (ak (ak [.i (x1 0).Z,.i (x1 1).Z] (ak (cw J 92 6 37449) [.f (zAt [.c (.nI .i64 0 1 (x1 2).Z),.a 3 .i64 0 1 (λi0=>(J 98).F (i0+1)),.c (.nI .i64 0 0 (J 99).Z),.c (.nB true false (J 100).X),.c (.nB true false (J 101).X),.c (.nB true false (J 102).X),.c (.nB true false (J 103).X),.c (.nB true false (J 104).X),.c (.nB true false (J 105).X),.a 384 .i64 0 0 (J 106).F,.c (.nI .i64 0 2 (J 107).Z),.c (.nB true true (J 108).X),.c (.nB true true (J 109).X),.c (.nB true true (J 110).X),.c (.nB true false (J 111).X),.c (.nI .i64 (-63) 63 (J 112).Z),.c (.nI .i64 (-63) 63 (J 113).Z),.c (.nI .i64 (-63) 63 (J 114).Z),.c (.nI .i64 (-63) 63 (J 115).Z),.c (.nI .i64 (-63) 63 (J 116).Z),.c (.nI .i64 (-63) 63 (J 117).Z),.c (.nI .i64 (-63) 63 (J 118).Z),.c (.nI .i64 (-63) 63 (J 119).Z),.a 4 .i64 0 1 (J 120).F,.c (.nI .i64 0 0 (J 121).Z),.c (.nB true false (J 122).X),.c (.nB true false (J 123).X),.c (.nB true false (J 124).X),.c (.nB true false (J 125).X),.c (.nB true false (J 126).X),.c (.nB true false (J 127).X),.a 384 .i64 0 0 (J 128).F])])) (cw J 99 30 508439593110980999607035025)))))/\(((J 24).Z !=3)=false-> (2<=(J 50).Z)/\(2<=(J 51).Z)/\(1<=(J 52).N)/\(1<=(J 53).N)/\(1<=(J 54).N)/\let x2:ae:=(ak [.l (J 3).N (J 3).G,.i (16*(J 6).Z),.i (16*(J 7).Z)] (ak (cw J 50 5 18697) [.i (J 8).Z,.i (J 9).Z]));(H5 x2)/\let x3:ae:=tI x2;R (ak [.i 0] (ak (cw J 10 80 k26) (ak [.i (x3 0).Z,.i (x3 1).Z] (cw J 92 37 1066275109571880025287892717572681)))))):=af
def Jq (J:ae):ae:=gO [true,false] bR.M bR.Y.sk (bR.Y.msk.drop 1) (evW (TS bR J))
theorem Kx (J:ae) (hp:IQ J):Sa1 (TS bR J) (λl=>(hd l).Z=0/\agT KX [true,false] bR.M (bR.Y.msk.drop 1) (tls (nlL bR.Y.sk) (tl l)) (tls (aG bR.A) J)/\Zv J (gO [true,false] bR.M bR.Y.sk (bR.Y.msk.drop 1) l)):=⟨by
 rw[H3];dsimp only;obtain⟨hv,hp⟩:=hp;refine⟨λh=>?_,λh=>?_⟩
 .have h3:(J 24).Z≠3:=by simpa using h
  obtain⟨g1,g2⟩:=hp.1 h3;refine aU (λq=>?_) ⟨kmp g1,kmp g2⟩;obtain⟨q1,q2⟩:=vz _ 61 q (kmp hv);refine⟨rfl,rfl,⟨ay af,ah⟩,af,?_,kmp q1,Or.inr (kmp q2)⟩;refine lt4 ?_ ?_ ?_ ?_<;>intro e<;>rcases e with e | e<;>first|exact absurd e h3 | exact absurd rfl e | kernel_rfl
 .have h3:(J 24).Z=3:=by simpa using h
  obtain⟨g1,g2,g3,g4,g5,g6⟩:=hp.2 h3;refine⟨g1,g2,g3,g4,g5,aU (λq=>?_) (kmp g6)⟩;have q1:=(Br _ q (kmp hv)).out;exact⟨rfl,⟨ay af,ah⟩,af,lt4 (λ_=>af) (λ_=>af) (λ_=>af) (λ_=>af),kmp q1,Or.inl h3⟩⟩
theorem Tu:∀J,bTs KX 1 (au bR.A J)->bBs KX 1 (an bR.M (tls (aG bR.A) J))->IQ J->Sa1 (TS bR J) (λl=>(hd l).Z=0/\agT KX [true,false] bR.M (bR.Y.msk.drop 1) (tls (nlL bR.Y.sk) (tl l)) (tls (aG bR.A) J)/\Zv J (gO [true,false] bR.M bR.Y.sk (bR.Y.msk.drop 1) l)):=λJ _ _ hp=>Kx J hp
abbrev Z8:List AB:=[.run 396 qL4]
abbrev afq:CT:=Ck bR [true,false] Z8 IQ Jq
theorem Lb:CO afq:=CXe bR (TX ⟨ua,uE,um,ah⟩ ah) Tu
theorem WE (J:ae) (hp:IQ J):Sa2 (Zv J) (Jq J):=ji (Kx J hp)
def Qm (J:ae):Prop:=VB J 8/\((J 24).Z≠3->gl J 70/\gl J 75)/\((J 24).Z=3->gl J 55)
def Y8 (J w:ae):Prop:=w=fwV J 31 [.i (w 31).Z,.i (w 32).Z] (w 35).F/\(∀i,i<4->((J 24).Z=3\/i≠2)->(w 35).F i=(J 120).F i)/\VB w 31/\((J 24).Z=3\/0<=(w 35).F 2/\(w 35).F 2<=1)
abbrev cf:SP:=mkS ⟨[],[.run 100 sCD,.run 396 qL4]⟩ 328 Tryz.f328 [tXO (.nP 0 0),tXO (.nP 1 408),aj 1 1,.tX (.sA bJ),aj 0 3,aj 0 3,.tX (.sA adT)] [.run 100 sCD,.run 396 qL4] [] [XA,V7,T2]
theorem ED J R:TR1 cf J R ((((J 24).Z !=3)->let x0:ae:=(ak (ak [.l (J 3).N (J 3).G,.i (16*(J 6).Z),.i (16*(J 7).Z)] (ak (cw J 55 5 18697) [.i (J 0).Z])) (cw J 8 77 k11));(Xc x0)/\let x1:ae:=Nv x0;((cw J 10 75 k1)=(cw J 10 75 k1))/\R (ak [.i 0] (ak (cw J 10 106 k27) (ak [.i (x1 0).Z,.i (x1 1).Z,.i (J 118).Z,.i (J 119).Z,.f (zAt [.a 2 .i64 0 1 (J 120).F,.c (.nI .i64 0 1 (x1 2).Z),.a 1 .i64 0 1 (λi0=>(J 120).F (i0+3)),.c (.nI .i64 0 0 (J 121).Z),.c (.nB true false (J 122).X),.c (.nB true false (J 123).X),.c (.nB true false (J 124).X),.c (.nB true false (J 125).X),.c (.nB true false (J 126).X),.c (.nB true false (J 127).X),.a 384 .i64 0 0 (J 128).F])] (cw J 121 8 6890641)))))/\(((J 24).Z !=3)=false-> (2<=(J 55).Z)/\(2<=(J 56).Z)/\(1<=(J 57).N)/\(1<=(J 58).N)/\(1<=(J 59).N)/\let x2:ae:=(ak [.l (J 3).N (J 3).G,.i (16*(J 6).Z),.i (16*(J 7).Z)] (ak (cw J 55 5 18697) [.i (J 8).Z,.i (J 9).Z]));(H5 x2)/\let x3:ae:=tI x2;R (ak [.i 0] (ak (cw J 10 106 k27) (ak [.i (x3 0).Z,.i (x3 1).Z] (cw J 118 11 3528008393)))))):=af
def VY (J:ae):ae:=gO [true,false] cf.M cf.Y.sk (cf.Y.msk.drop 1) (evW (TS cf J))
theorem KR (J:ae) (hp:Qm J):Sa1 (TS cf J) (λl=>(hd l).Z=0/\agT KX [true,false] cf.M (cf.Y.msk.drop 1) (tls (nlL cf.Y.sk) (tl l)) (tls (aG cf.A) J)/\Y8 J (gO [true,false] cf.M cf.Y.sk (cf.Y.msk.drop 1) l)):=⟨by
 rw[ED];dsimp only;obtain⟨hv,hp⟩:=hp;refine⟨λh=>?_,λh=>?_⟩
 .have h3:(J 24).Z≠3:=by simpa using h
  obtain⟨g1,g2⟩:=hp.1 h3;refine aU (λq=>?_) ⟨kmp g1,kmp g2⟩;obtain⟨q1,q2⟩:=vz _ 71 q (kmp hv);refine⟨rfl,rfl,⟨ay af,ah⟩,af,?_,kmp q1,Or.inr (kmp q2)⟩;refine lt4 ?_ ?_ ?_ ?_<;>intro e<;>rcases e with e | e<;>first|exact absurd e h3 | exact absurd rfl e | kernel_rfl
 .have h3:(J 24).Z=3:=by simpa using h
  obtain⟨g1,g2,g3,g4,g5,g6⟩:=hp.2 h3;refine⟨g1,g2,g3,g4,g5,aU (λq=>?_) (kmp g6)⟩;have q1:=(Br _ q (kmp hv)).out;exact⟨rfl,⟨ay af,ah⟩,af,lt4 (λ_=>af) (λ_=>af) (λ_=>af) (λ_=>af),kmp q1,Or.inl h3⟩⟩
theorem Ur:∀J,bTs KX 1 (au cf.A J)->bBs KX 1 (an cf.M (tls (aG cf.A) J))->Qm J->Sa1 (TS cf J) (λl=>(hd l).Z=0/\agT KX [true,false] cf.M (cf.Y.msk.drop 1) (tls (nlL cf.Y.sk) (tl l)) (tls (aG cf.A) J)/\Y8 J (gO [true,false] cf.M cf.Y.sk (cf.Y.msk.drop 1) l)):=λJ _ _ hp=>KR J hp
abbrev acA:List AB:=[.run 396 qL4]
abbrev ae0:CT:=Ck cf [true,false] acA Qm VY
theorem RY:CO ae0:=CXe cf (TX ⟨ua,uE,um,ah⟩ ah) Ur
theorem aaB (J:ae) (hp:Qm J):Sa2 (Y8 J) (VY J):=ji (KR J hp)
def K4 (J:ae):Prop:=VB J 8/\gl J 60/\gl J 65
def Zu (J w:ae):Prop:=w=fwV J 5 [.i (w 5).Z,.i (w 6).Z,.i (w 7).Z,.i (w 8).Z] (w 13).F/\(∀i,i<4->(i≠0/\i≠1)->(w 13).F i=(J 98).F i)/\(VB w 5/\0<=(w 13).F 0/\(w 13).F 0<=1)/\VB w 7/\0<=(w 13).F 1/\(w 13).F 1<=1
abbrev bU:SP:=mkS ⟨[],[.run 100 sCD,.run 396 qL4]⟩ 330 Tryz.f330 [tXO (.nP 0 0),tXO (.nP 1 0),aj 0 0,.tX (.sA bJ),aj 0 3,aj 0 3,.tX (.sA adT)] [.run 100 sCD,.run 396 qL4] [(2,.unroll 70),(6,.unroll 70)] [XA,V7]
theorem BC J R:TR1 bU J R ((0=0)/\(16=16)/\(0=0)/\(32=32)/\(0=0)/\(48=48)/\(0=0)/\(64=64)/\(0=0)/\(80=80)/\(0=0)/\(96=96)/\(0=0)/\(112=112)/\(128<=128)/\let x0:ae:=(ak [.l 128 (λi1=>(aE 112 (aE 96 (aE 80 (aE 64 (aE 48 (aE 32 (aE 16 (λi0=>(J 3).G (i0+0)) (λi0=>(J 3).G (i0+32))) (λi0=>(J 3).G (i0+64))) (λi0=>(J 3).G (i0+96))) (λi0=>(J 3).G (i0+128))) (λi0=>(J 3).G (i0+160))) (λi0=>(J 3).G (i0+192))) (λi0=>(J 3).G (i0+224))) (0+i1)),.i (16*(J 6).Z),.i (8*(J 7).Z),.i 0,.i 0,.l 0 (λ_=>[]),.l 0 (λ_=>[]),.l 0 (λ_=>[]),.i (J 0).Z] (cw J 8 77 k11));(Xh x0)/\let x1:ae:=LR x0;((cw J 10 75 k1)=(cw J 10 75 k1))/\(0=0)/\(16=16)/\(0=0)/\(32=32)/\(0=0)/\(48=48)/\(0=0)/\(64=64)/\(0=0)/\(80=80)/\(0=0)/\(96=96)/\(0=0)/\(112=112)/\(128<=128)/\let x2:ae:=(ak [.l 128 (λi1=>(aE 112 (aE 96 (aE 80 (aE 64 (aE 48 (aE 32 (aE 16 (λi0=>(J 3).G (i0+16)) (λi0=>(J 3).G (i0+48))) (λi0=>(J 3).G (i0+80))) (λi0=>(J 3).G (i0+112))) (λi0=>(J 3).G (i0+144))) (λi0=>(J 3).G (i0+176))) (λi0=>(J 3).G (i0+208))) (λi0=>(J 3).G (i0+240))) (0+i1)),.i (16*(J 6).Z),.i (8*(J 7).Z),.i 0,.i 0,.l 0 (λ_=>[]),.l 0 (λ_=>[]),.l 0 (λ_=>[]),.i (J 0).Z] (cw J 8 77 k11));(Xh x2)/\let x3:ae:=LR x2;((cw J 10 75 k1)=(cw J 10 75 k1))/\R (ak [.i 0] (ak (cw J 10 80 k26) (ak (ak [.i (x1 0).Z,.i (x1 1).Z,.i (x3 0).Z,.i (x3 1).Z] (ak (cw J 94 4 585) [.f (zAt [.c (.nI .i64 0 1 (x1 2).Z),.c (.nI .i64 0 1 (x3 2).Z),.a 2 .i64 0 1 (λi0=>(J 98).F ((i0+1)+1)),.c (.nI .i64 0 0 (J 99).Z),.c (.nB true false (J 100).X),.c (.nB true false (J 101).X),.c (.nB true false (J 102).X),.c (.nB true false (J 103).X),.c (.nB true false (J 104).X),.c (.nB true false (J 105).X),.a 384 .i64 0 0 (J 106).F,.c (.nI .i64 0 2 (J 107).Z),.c (.nB true true (J 108).X),.c (.nB true true (J 109).X),.c (.nB true true (J 110).X),.c (.nB true false (J 111).X),.c (.nI .i64 (-63) 63 (J 112).Z),.c (.nI .i64 (-63) 63 (J 113).Z),.c (.nI .i64 (-63) 63 (J 114).Z),.c (.nI .i64 (-63) 63 (J 115).Z),.c (.nI .i64 (-63) 63 (J 116).Z),.c (.nI .i64 (-63) 63 (J 117).Z),.c (.nI .i64 (-63) 63 (J 118).Z),.c (.nI .i64 (-63) 63 (J 119).Z),.a 4 .i64 0 1 (J 120).F,.c (.nI .i64 0 0 (J 121).Z),.c (.nB true false (J 122).X),.c (.nB true false (J 123).X),.c (.nB true false (J 124).X),.c (.nB true false (J 125).X),.c (.nB true false (J 126).X),.c (.nB true false (J 127).X),.a 384 .i64 0 0 (J 128).F])])) (cw J 99 30 508439593110980999607035025))))):=af
def JU (J:ae):ae:=gO [true,false] bU.M bU.Y.sk (bU.Y.msk.drop 1) (evW (TS bU J))
theorem agQ (J:ae) (hp:K4 J):Sa1 (TS bU J) (λl=>(hd l).Z=0/\agT KX [true,false] bU.M (bU.Y.msk.drop 1) (tls (nlL bU.Y.sk) (tl l)) (tls (aG bU.A) J)/\Zu J (gO [true,false] bU.M bU.Y.sk (bU.Y.msk.drop 1) l)):=⟨by
 rw[BC];dsimp only
 repeat (refine⟨by first|exact Eq.refl (α:=Nat) _ | exact Nat.le_refl _ | exact Eq.refl (α:=ae) _,?_⟩)
 obtain⟨hv,g1,g2⟩:=hp;refine aU (λq=>?_) ⟨kmp g1,kmp g2⟩;obtain⟨q1,q2⟩:=vz _ 61 q (kmp hv);clear q
 repeat (refine⟨by first|exact Eq.refl (α:=Nat) _ | exact Nat.le_refl _ | exact Eq.refl (α:=ae) _,?_⟩)
 refine aU (λq=>?_) ⟨kmp g1,kmp g2⟩;obtain⟨q3,q4⟩:=vz _ 61 q (kmp hv);clear q;refine⟨rfl,rfl,⟨ay af,ah⟩,af,?_,⟨kmp q1,kmp q2⟩,kmp q3,kmp q4⟩;refine lt4 ?_ ?_ ?_ ?_<;>intro e<;>first|exact absurd rfl e.1 | exact absurd rfl e.2 | kernel_rfl⟩
theorem WW:∀J,bTs KX 1 (au bU.A J)->bBs KX 1 (an bU.M (tls (aG bU.A) J))->K4 J->Sa1 (TS bU J) (λl=>(hd l).Z=0/\agT KX [true,false] bU.M (bU.Y.msk.drop 1) (tls (nlL bU.Y.sk) (tl l)) (tls (aG bU.A) J)/\Zu J (gO [true,false] bU.M bU.Y.sk (bU.Y.msk.drop 1) l)):=λJ _ _ hp=>agQ J hp
abbrev abK:List AB:=[.run 396 qL4]
abbrev afn:CT:=Ck bU [true,false] abK K4 JU
theorem JO:CO afn:=CXe bU (TX ⟨ua,uE,ah⟩ ah) WW
theorem Xn (J:ae) (hp:K4 J):Sa2 (Zu J) (JU J):=ji (agQ J hp)
def Qe (J:ae):Prop:=VB J 8/\gl J 70/\gl J 75
def YG (J w:ae):Prop:=w=fwV J 31 [.i (w 31).Z,.i (w 32).Z,.i (w 33).Z,.i (w 34).Z] (w 35).F/\(∀i,i<4->(i≠2/\i≠3)->(w 35).F i=(J 120).F i)/\(VB w 31/\0<=(w 35).F 2/\(w 35).F 2<=1)/\VB w 33/\0<=(w 35).F 3/\(w 35).F 3<=1
abbrev cg:SP:=mkS ⟨[],[.run 100 sCD,.run 396 qL4]⟩ 330 Tryz.f330 [tXO (.nP 0 0),tXO (.nP 1 408),aj 1 1,.tX (.sA bJ),aj 0 3,aj 0 3,.tX (.sA adT)] [.run 100 sCD,.run 396 qL4] [(2,.unroll 70),(6,.unroll 70)] [XA,V7]
theorem CU J R:TR1 cg J R ((0=0)/\(16=16)/\(0=0)/\(32=32)/\(0=0)/\(48=48)/\(0=0)/\(64=64)/\(0=0)/\(80=80)/\(0=0)/\(96=96)/\(0=0)/\(112=112)/\(128<=128)/\let x0:ae:=(ak [.l 128 (λi1=>(aE 112 (aE 96 (aE 80 (aE 64 (aE 48 (aE 32 (aE 16 (λi0=>(J 3).G (i0+0)) (λi0=>(J 3).G (i0+32))) (λi0=>(J 3).G (i0+64))) (λi0=>(J 3).G (i0+96))) (λi0=>(J 3).G (i0+128))) (λi0=>(J 3).G (i0+160))) (λi0=>(J 3).G (i0+192))) (λi0=>(J 3).G (i0+224))) (0+i1)),.i (16*(J 6).Z),.i (8*(J 7).Z),.i 0,.i 0,.l 0 (λ_=>[]),.l 0 (λ_=>[]),.l 0 (λ_=>[]),.i (J 0).Z] (cw J 8 77 k11));(Xc x0)/\let x1:ae:=Nv x0;((cw J 10 75 k1)=(cw J 10 75 k1))/\(0=0)/\(16=16)/\(0=0)/\(32=32)/\(0=0)/\(48=48)/\(0=0)/\(64=64)/\(0=0)/\(80=80)/\(0=0)/\(96=96)/\(0=0)/\(112=112)/\(128<=128)/\let x2:ae:=(ak [.l 128 (λi1=>(aE 112 (aE 96 (aE 80 (aE 64 (aE 48 (aE 32 (aE 16 (λi0=>(J 3).G (i0+16)) (λi0=>(J 3).G (i0+48))) (λi0=>(J 3).G (i0+80))) (λi0=>(J 3).G (i0+112))) (λi0=>(J 3).G (i0+144))) (λi0=>(J 3).G (i0+176))) (λi0=>(J 3).G (i0+208))) (λi0=>(J 3).G (i0+240))) (0+i1)),.i (16*(J 6).Z),.i (8*(J 7).Z),.i 0,.i 0,.l 0 (λ_=>[]),.l 0 (λ_=>[]),.l 0 (λ_=>[]),.i (J 0).Z] (cw J 8 77 k11));(Xc x2)/\let x3:ae:=Nv x2;((cw J 10 75 k1)=(cw J 10 75 k1))/\R (ak [.i 0] (ak (cw J 10 106 k27) (ak [.i (x1 0).Z,.i (x1 1).Z,.i (x3 0).Z,.i (x3 1).Z,.f (zAt [.a 2 .i64 0 1 (J 120).F,.c (.nI .i64 0 1 (x1 2).Z),.c (.nI .i64 0 1 (x3 2).Z),.c (.nI .i64 0 0 (J 121).Z),.c (.nB true false (J 122).X),.c (.nB true false (J 123).X),.c (.nB true false (J 124).X),.c (.nB true false (J 125).X),.c (.nB true false (J 126).X),.c (.nB true false (J 127).X),.a 384 .i64 0 0 (J 128).F])] (cw J 121 8 6890641))))):=af
def Sy (J:ae):ae:=gO [true,false] cg.M cg.Y.sk (cg.Y.msk.drop 1) (evW (TS cg J))
theorem JX (J:ae) (hp:Qe J):Sa1 (TS cg J) (λl=>(hd l).Z=0/\agT KX [true,false] cg.M (cg.Y.msk.drop 1) (tls (nlL cg.Y.sk) (tl l)) (tls (aG cg.A) J)/\YG J (gO [true,false] cg.M cg.Y.sk (cg.Y.msk.drop 1) l)):=⟨by
 rw[CU];dsimp only
 repeat (refine⟨by first|exact Eq.refl (α:=Nat) _ | exact Nat.le_refl _ | exact Eq.refl (α:=ae) _,?_⟩)
 obtain⟨hv,g1,g2⟩:=hp;refine aU (λq=>?_) ⟨kmp g1,kmp g2⟩;obtain⟨q1,q2⟩:=vz _ 71 q (kmp hv);clear q
 repeat (refine⟨by first|exact Eq.refl (α:=Nat) _ | exact Nat.le_refl _ | exact Eq.refl (α:=ae) _,?_⟩)
 refine aU (λq=>?_) ⟨kmp g1,kmp g2⟩;obtain⟨q3,q4⟩:=vz _ 71 q (kmp hv);clear q;refine⟨rfl,rfl,⟨ay af,ah⟩,af,?_,⟨kmp q1,kmp q2⟩,kmp q3,kmp q4⟩;refine lt4 ?_ ?_ ?_ ?_<;>intro e<;>first|exact absurd rfl e.1 | exact absurd rfl e.2 | kernel_rfl⟩
theorem Ug:∀J,bTs KX 1 (au cg.A J)->bBs KX 1 (an cg.M (tls (aG cg.A) J))->Qe J->Sa1 (TS cg J) (λl=>(hd l).Z=0/\agT KX [true,false] cg.M (cg.Y.msk.drop 1) (tls (nlL cg.Y.sk) (tl l)) (tls (aG cg.A) J)/\YG J (gO [true,false] cg.M cg.Y.sk (cg.Y.msk.drop 1) l)):=λJ _ _ hp=>JX J hp
abbrev adj:List AB:=[.run 396 qL4]
abbrev afp:CT:=Ck cg [true,false] adj Qe Sy
theorem Rx:CO afp:=CXe cg (TX ⟨ua,uE,ah⟩ ah) Ug
theorem abW (J:ae) (hp:Qe J):Sa2 (YG J) (Sy J):=ji (JX J hp)
end
end Go.Proofs.YtldmjbgplgoedaaGreatDoor
namespace Go.Proofs.YtldmjbgplgoedaaGreatDoor
noncomputable section
open Go.RowKit U
def tv (_:ae):Prop:=True
def L3 (J:ae):ae:=[.b ((J 8).X&&((J 14).Z==3))]
abbrev oM:SP:=mkS ⟨[bm],[.run 100 sCD]⟩ 261 Tryz.f261 [tXO (.nP 0 0)] [.run 100 sCD] []
theorem H2 J R:TR oM J R (((J 8).X->R (ak [.i 0,.b ((J 14).Z==3)] (cw J 0 75 k1)))/\((J 8).X=false-> R (ak [.i 0,.b false] (cw J 0 75 k1)))):=af
theorem Rp:PFk oM [true] [] tv L3:=λJ b1 b2 hp=>⟨by
 rw[H2];dsimp only;refine⟨λh=>?_,λh=>?_⟩
 .exact⟨rfl,⟨show((J 14).Z==3)=((J 8).X&&((J 14).Z==3)) by rw[h];rfl,ah⟩,ay af,ah⟩
 .exact⟨rfl,⟨show false=((J 8).X&&((J 14).Z==3)) by rw[h];rfl,ah⟩,ay af,ah⟩⟩
abbrev acd:List AB:=[]
abbrev aff:CT:=Ck oM [true] acd tv L3
theorem JB:CO aff:=CXk oM (TX trivial ah) Rp
abbrev abp:List AB:=[.run 100 qL1]
abbrev SU:CT:=CK 261 oM.A abp [true] oM.Y.sk acd tv L3
theorem PG:cV KX Tryz.prog GX SU:=ju JB af λ_=>af
abbrev akt:List AB:=[.run 100 qL2]
abbrev XM:CT:=CK 261 oM.A akt [true] oM.Y.sk acd tv L3
theorem PM:cV KX Tryz.prog GX XM:=ju JB af λ_=>af
abbrev VX:List AB:=[.run 100 qL1,.run 396 qL4]
abbrev KC:CT:=CK 328 bR.A VX [true,false] bR.Y.sk Z8 IQ Jq
theorem CX:cV KX Tryz.prog GX KC:=ju Lb af λ_=>af
abbrev Td:List AB:=[.run 100 qL1,.run 396 qL4]
abbrev Kv:CT:=CK 330 bU.A Td [true,false] bU.Y.sk abK K4 JU
theorem D9:cV KX Tryz.prog GX Kv:=ju JO af λ_=>af
abbrev R4:List AB:=[.run 100 qL2,.run 396 qL4]
abbrev JH:CT:=CK 328 bR.A R4 [true,false] bR.Y.sk Z8 IQ Jq
theorem HB:cV KX Tryz.prog GX JH:=ju Lb af λ_=>af
abbrev RG:List AB:=[.run 100 qL2,.run 396 qL4]
abbrev K7:CT:=CK 330 bU.A RG [true,false] bU.Y.sk abK K4 JU
theorem D4:cV KX Tryz.prog GX K7:=ju JO af λ_=>af
abbrev UI:List AB:=[.run 100 qL2,.run 396 qL4]
abbrev IM:CT:=CK 328 cf.A UI [true,false] cf.Y.sk acA Qm VY
theorem Cc:cV KX Tryz.prog GX IM:=ju RY af λ_=>af
abbrev VD:List AB:=[.run 100 qL2,.run 396 qL4]
abbrev K0:CT:=CK 330 cg.A VD [true,false] cg.Y.sk adj Qe Sy
theorem DE:cV KX Tryz.prog GX K0:=ju Rx af λ_=>af
structure PnE (ty st:Int) (il:Bool) (e:ae):Prop where
 kind:(e 0).Z=2
 uses:UX ty st il (e 1).X (e 2).X (e 3).X
 dct:(e 4).X=false
 d0:lm st (e 1).X (e 3).X (e 5).Z (e 6).Z (e 7).Z (e 8).Z ((e 13).F 0) ((e 13).F 1)
 d1:lm st (e 2).X (e 3).X (e 9).Z (e 10).Z (e 11).Z (e 12).Z ((e 13).F 2) ((e 13).F 3)
 delta:(e 14).Z=0
 cod:∀n,n<6->bAt (coB e 0) n=false
 lev:∀i,i<384->(e 21).F i=0
 v:∀j,j<8->-63<=(e (5+j)).Z/\(e (5+j)).Z<=63
 s:∀i,i<4->0<=(e 13).F i/\(e 13).F i<=1
theorem lt8 {p:Nat->Prop} (h0:p 0) (h1:p 1) (h2:p 2) (h3:p 3) (h4:p 4) (h5:p 5) (h6:p 6) (h7:p 7):∀i,i<8->p i
 |0,_=>h0
 |1,_=>h1
 |2,_=>h2
 |3,_=>h3
 |4,_=>h4
 |5,_=>h5
 |6,_=>h6
 |7,_=>h7
theorem z63:(-63:Int)<=0/\(0:Int)<=63:=afH
theorem z01 {x:Int} (h:x=0):0<=x/\x<=1:=ac
def YK (u0 u1 fp:Bool):ae:=[.i 2,.b u0,.b u1,.b fp,.b false,.i 0,.i 0,.i 0,.i 0,.i 0,.i 0,.i 0,.i 0,.f (λ_=>0),.i 0,.b false,.b false,.b false,.b false,.b false,.b false,.f (λ_=>0)]
theorem tq:∀n,n<6->bAt [false,false,false,false,false,false] n=false:=λn _=>by rcases n with _ | _ | _ | _ | _ | _ | n<;>rfl
section
variable {K r:ae} {ty st:Int} {il:Bool}
theorem IN (q:Zv K r) (hs:(K 24).Z=st) (hK:cw K 85 22 k0=YK true false false) (hF:(K 98).F=λ_=>0):PnE ty st il (cw r 0 22 k0):=by
 obtain⟨q1,q2,q3,q4⟩:=q;rw[hF,hs]at q2;rw[hs]at q4;rw[show cw r 0 22 k0=[.i 2,.b true,.b false,.b false,.b false,.i (r 5).Z,.i (r 6).Z,.i 0,.i 0,.i 0,.i 0,.i 0,.i 0,.f (r 13).F,.i 0,.b false,.b false,.b false,.b false,.b false,.b false,.f (λ_=>0)] from(congrArg (λr=>cw r 0 22 k0) q1).trans (by unfold fwV;rw[hK];kernel_rfl)]
 have s1:=q2 1 afH (Or.inr afH);have s2:=q2 2 afH (Or.inr afH);have s3:=q2 3 afH (Or.inr afH);exact⟨rfl,⟨λ_=>⟨rfl,rfl⟩,Or.inl rfl,λh=>by cases h⟩,rfl,⟨λh=>(by cases h),λ_=>⟨rfl,rfl,s1⟩,λ_ h=>q2 0 afH (Or.inl h)⟩,⟨λ_=>⟨rfl,rfl,rfl,rfl,s2,s3⟩,λ_=>⟨rfl,rfl,s3⟩,λ_ _=>s2⟩,rfl,tq,λ_ _=>rfl,lt8 q3.1 q3.2 z63 z63 z63 z63 z63 z63,lt4 (q4.elim (λh=>z01 (q2 0 afH (Or.inl h))) id) (z01 s1) (z01 s2) (z01 s3)⟩
theorem W5 (q:Y8 K r) (ht:ty=3) (hs:(K 24).Z=st) (hK:cw K 107 22 k0=YK false true false) (hF:(K 120).F=λ_=>0):PnE ty st il (cw r 22 22 k0):=by
 obtain⟨q1,q2,q3,q4⟩:=q;rw[hF,hs]at q2;rw[hs]at q4;rw[show cw r 22 22 k0=[.i 2,.b false,.b true,.b false,.b false,.i 0,.i 0,.i 0,.i 0,.i (r 31).Z,.i (r 32).Z,.i 0,.i 0,.f (r 35).F,.i 0,.b false,.b false,.b false,.b false,.b false,.b false,.f (λ_=>0)] from(congrArg (λr=>cw r 22 22 k0) q1).trans (by unfold fwV;rw[hK];kernel_rfl)]
 have s0:=q2 0 afH (Or.inr afH);have s1:=q2 1 afH (Or.inr afH);have s3:=q2 3 afH (Or.inr afH);exact⟨rfl,⟨λh=>ac,Or.inr rfl,λh=>by cases h⟩,rfl,⟨λ_=>⟨rfl,rfl,rfl,rfl,s0,s1⟩,λ_=>⟨rfl,rfl,s1⟩,λ_ _=>s0⟩,⟨λh=>(by cases h),λ_=>⟨rfl,rfl,s3⟩,λ_ h=>q2 2 afH (Or.inl h)⟩,rfl,tq,λ_ _=>rfl,lt8 z63 z63 z63 z63 q3.1 q3.2 z63 z63,lt4 (z01 s0) (z01 s1) (q4.elim (λh=>z01 (q2 2 afH (Or.inl h))) id) (z01 s3)⟩
theorem KV (q:Zu K r) (hs:st=3) (hi:il=true) (hK:cw K 85 22 k0=YK true false true) (hF:(K 98).F=λ_=>0):PnE ty st il (cw r 0 22 k0):=by
 obtain⟨q1,q2,q3,q4⟩:=q;rw[hF]at q2;rw[show cw r 0 22 k0=[.i 2,.b true,.b false,.b true,.b false,.i (r 5).Z,.i (r 6).Z,.i (r 7).Z,.i (r 8).Z,.i 0,.i 0,.i 0,.i 0,.f (r 13).F,.i 0,.b false,.b false,.b false,.b false,.b false,.b false,.f (λ_=>0)] from(congrArg (λr=>cw r 0 22 k0) q1).trans (by unfold fwV;rw[hK];kernel_rfl)]
 have s2:=q2 2 afH afH;have s3:=q2 3 afH afH;exact⟨rfl,⟨λ_=>⟨rfl,rfl⟩,Or.inl rfl,λ_=>⟨hi,hs⟩⟩,rfl,⟨λh=>(by cases h),λh=>(by cases h),λh=>(by cases h)⟩,⟨λ_=>⟨rfl,rfl,rfl,rfl,s2,s3⟩,λh=>(by cases h),λh=>(by cases h)⟩,rfl,tq,λ_ _=>rfl,lt8 q3.1.1 q3.1.2 q4.1.1 q4.1.2 z63 z63 z63 z63,lt4 q3.2 q4.2 (z01 s2) (z01 s3)⟩
theorem Tb (q:YG K r) (ht:ty=3) (hs:st=3) (hi:il=true) (hK:cw K 107 22 k0=YK false true true) (hF:(K 120).F=λ_=>0):PnE ty st il (cw r 22 22 k0):=by
 obtain⟨q1,q2,q3,q4⟩:=q;rw[hF]at q2;rw[show cw r 22 22 k0=[.i 2,.b false,.b true,.b true,.b false,.i 0,.i 0,.i 0,.i 0,.i (r 31).Z,.i (r 32).Z,.i (r 33).Z,.i (r 34).Z,.f (r 35).F,.i 0,.b false,.b false,.b false,.b false,.b false,.b false,.f (λ_=>0)] from(congrArg (λr=>cw r 22 22 k0) q1).trans (by unfold fwV;rw[hK];kernel_rfl)]
 have s0:=q2 0 afH afH;have s1:=q2 1 afH afH;exact⟨rfl,⟨λh=>ac,Or.inr rfl,λ_=>⟨hi,hs⟩⟩,rfl,⟨λ_=>⟨rfl,rfl,rfl,rfl,s0,s1⟩,λh=>(by cases h),λh=>(by cases h)⟩,⟨λh=>(by cases h),λh=>(by cases h),λh=>(by cases h)⟩,rfl,tq,λ_ _=>rfl,lt8 z63 z63 z63 z63 q3.1.1 q3.1.2 q4.1.1 q4.1.2,lt4 (z01 s0) (z01 s1) q3.2 q4.2⟩
def PR (r:ae):Nat->Int:=zAt [.a 2 .i64 0 1 (r 13).F,.a 2 .i64 0 1 (λi0=>(r 35).F (i0+2)),.c (.nI .i64 0 0 (r 14).Z),.c (.nB true false (r 15).X),.c (.nB true false (r 16).X),.c (.nB true false (r 17).X),.c (.nB true false (r 18).X),.c (.nB true false (r 19).X),.c (.nB true false (r 20).X),.a 384 .i64 0 0 (r 21).F]
def acf (r:ae) (F:Nat->Int):ae:=[.i (r 0).Z,.b (r 1).X,.b true,.b (r 3).X,.b (r 4).X,.i (r 5).Z,.i (r 6).Z,.i (r 7).Z,.i (r 8).Z,.i (r 31).Z,.i (r 32).Z,.i (r 33).Z,.i (r 34).Z,.f F,.i (r 14).Z,.b (r 15).X,.b (r 16).X,.b (r 17).X,.b (r 18).X,.b (r 19).X,.b (r 20).X,.f (r 21).F]
theorem V9 {F:Nat->Int} (h0:PnE 3 st il (cw r 0 22 k0)) (h1:PnE 3 st il (cw r 22 22 k0)) (u1:(r 24).X=true) (hf:(r 25).X=(r 3).X) (s0:F 0=(r 13).F 0) (s1:F 1=(r 13).F 1) (s2:F 2=(r 35).F 2) (s3:F 3=(r 35).F 3):PnE 3 st il (acf r F):=by
 have a:=kmp h0.d0 (by kernel_rfl:_=lm st (r 1).X (r 3).X (r 5).Z (r 6).Z (r 7).Z (r 8).Z ((r 13).F 0) ((r 13).F 1))
 have b:=kmp h1.d1 (by kernel_rfl:_=lm st (r 24).X (r 25).X (r 31).Z (r 32).Z (r 33).Z (r 34).Z ((r 35).F 2) ((r 35).F 3))
 rw[u1,hf,<-s2,<-s3]at b;rw[<-s0,<-s1]at a;exact⟨kmp h0.kind,⟨λh=>ac,Or.inr rfl,kmp h0.uses.2.2⟩,kmp h0.dct,kmp a,kmp b,kmp h0.delta,kmp h0.cod,kmp h0.lev,lt8 (kmp (h0.v 0 afH)) (kmp (h0.v 1 afH)) (kmp (h0.v 2 afH)) (kmp (h0.v 3 afH)) (kmp (h1.v 4 afH)) (kmp (h1.v 5 afH)) (kmp (h1.v 6 afH)) (kmp (h1.v 7 afH)),lt4 (kmp (s0 ▸ h0.s 0 afH)) (kmp (s1 ▸ h0.s 1 afH)) (kmp (s2 ▸ h1.s 2 afH)) (kmp (s3 ▸ h1.s 3 afH))⟩
end
def PnP (J:ae) (c d:Nat):Prop:=VB J (9+2*d)/\((J (c+14)).Z≠3\/(J (c+8)).X->gl J (c+50+10*d)/\gl J (c+55+10*d))/\((J (c+14)).Z=3->gl J (c+40+5*d))
def PnQ (ty st:Int) (il:Bool) (w:ae):Prop:=(1<=(w 0).N/\(w 0).N<=6)/\∀i,i<(w 0).N->PnE ty st il ((w 0).G i)
theorem lt1 {p:Nat->Prop} (h0:p 0):∀i,i<1->p i
 |0,_=>h0
theorem lt2 {p:Nat->Prop} (h0:p 0) (h1:p 1):∀i,i<2->p i
 |0,_=>h0
 |1,_=>h1
theorem lt3 {p:Nat->Prop} (h0:p 0) (h1:p 1) (h2:p 2):∀i,i<3->p i
 |0,_=>h0
 |1,_=>h1
 |2,_=>h2
theorem lt6 {p:Nat->Prop} (h0:p 0) (h1:p 1) (h2:p 2) (h3:p 3) (h4:p 4) (h5:p 5):∀i,i<6->p i
 |0,_=>h0
 |1,_=>h1
 |2,_=>h2
 |3,_=>h3
 |4,_=>h4
 |5,_=>h5
theorem bkT {l:ae} (h:(!((L3 l) 0).X)->False):(l 8).X=true/\(l 14).Z=3:=by
 have h:(!((l 8).X&&((l 14).Z==3)))->False:=h;cases e:(l 8).X
 .rw[e]at h;exact absurd rfl h
 .rw[e]at h;refine⟨rfl,?_⟩
  have h:((l 14).Z==3)=true:=by
   cases e':((l 14).Z==3)
   .rw[e']at h;exact absurd rfl h
   .rfl
  exact eq_of_beq h
def QU (J:ae):Prop:=PnP J 13 0
def acb (J w:ae):Prop:=PnQ 2 (J 27).Z (J 21).X w
abbrev dx:SP:=mkS ⟨[.sO (.nR 6 1 6 0 g0)],[.run 100 qL1]⟩ 267 Tryz.f267 [tXO (.nP 0 0),.tX (.sA bJ),aj 0 3,aj 0 3,.tX (.sA acS)] [.run 100 qL1] [(4,.unroll 70),(9,.unroll 70)] [KC,Kv,SU] [(aw 327 Tryz.f327),(aw 329 Tryz.f329),(aw 95 Tryz.f95)]
theorem Bq J R:TR1 dx J R (let x0:ae:=(ak (ak [.i 0] (ak (cw J 0 7 313609) [.i (J 9).Z,.i (J 10).Z])) (ak (cw J 13 75 k1) [.i 2,.b true,.b false,.b false,.b false,.i 0,.i 0,.i 0,.i 0,.i 0,.i 0,.i 0,.i 0,.f (λi0=>0),.i 0,.b false,.b false,.b false,.b false,.b false,.b false,.f (λ_=>0),.i 0,.b false,.b false,.b false,.b false,.i 0,.i 0,.i 0,.i 0,.i 0,.i 0,.i 0,.i 0,.f (λi0=>0),.i 0,.b false,.b false,.b false,.b false,.b false,.b false,.f (λ_=>0)]));(IQ x0)/\let x1:ae:=Jq x0;((cw J 13 75 k1)=(cw J 13 75 k1))/\(1<=1)/\let x2:ae:=(cw J 13 75 k1);(tv x2)/\let x3:ae:=L3 x2;((!(x3 0).X)->(1<=1)/\R (ak [.i 0,.l 1 (λi0=>(cw x1 0 22 k0))] (cw J 13 75 k1)))/\((!(x3 0).X)=false-> let x4:ae:=(ak (ak [.i 0] (ak (cw J 0 7 313609) [.i (J 9).Z,.i (J 10).Z])) (ak (cw J 13 75 k1) [.i 2,.b true,.b false,.b true,.b false,.i 0,.i 0,.i 0,.i 0,.i 0,.i 0,.i 0,.i 0,.f (λi0=>0),.i 0,.b false,.b false,.b false,.b false,.b false,.b false,.f (λ_=>0),.i 0,.b false,.b false,.b false,.b false,.i 0,.i 0,.i 0,.i 0,.i 0,.i 0,.i 0,.i 0,.f (λi0=>0),.i 0,.b false,.b false,.b false,.b false,.b false,.b false,.f (λ_=>0)]));(K4 x4)/\let x5:ae:=JU x4;((cw J 13 75 k1)=(cw J 13 75 k1))/\(1<=1)/\(0=0)/\(1=1)/\(2<=2)/\R (ak [.i 0,.l 2 (λi1=>(aE 1 (λi0=>(cw x1 0 22 k0)) (λi0=>(cw x5 0 22 k0))) (0+i1))] (cw J 13 75 k1)))):=af
def SL (J:ae):ae:=gO [true] dx.M dx.Y.sk [] (evW (TS dx J))
theorem Lc (J:ae) (hp:QU J):Sa1 (TS dx J) (λl=>(hd l).Z=0/\agT KX [true] dx.M [] (tls (nlL dx.Y.sk) (tl l)) (tls (aG dx.A) J)/\acb J (gO [true] dx.M dx.Y.sk [] l)):=⟨by
 rw[Bq];dsimp only;refine aU (λh0=>?_) ⟨kmp hp.1,λh=>⟨kmp (hp.2.1 (Or.inl h)).1,kmp (hp.2.1 (Or.inl h)).2⟩,λh=>kmp (hp.2.2 h)⟩;generalize hr0:Jq _=r0;have q0:=(WE _ h0).out;rw[hr0]at q0;clear h0 hr0;have e0:=IN (ty:=2) (st:=(J 27).Z) (il:=(J 21).X) q0 af af af;clear q0
 repeat (refine⟨by first|exact Eq.refl (α:=Nat) _ | exact Nat.le_of_ble_eq_true rfl | exact Eq.refl (α:=ae) _ | exact(trivial:tv []),?_⟩)
 refine⟨λh=>?_,λh=>?_⟩
 .repeat (refine⟨by first|exact Eq.refl (α:=Nat) _ | exact Nat.le_of_ble_eq_true rfl | exact Eq.refl (α:=ae) _ | exact(trivial:tv []),?_⟩)
  exact⟨rfl,⟨ay af,ah⟩,kmp (by decide:1<=1/\1<=6),lt1 (kmp e0)⟩
 .obtain⟨hi,hs⟩:=bkT (λe=>by rw[e]at h;cases h)
  have hi:(J 21).X=true:=kmp hi;have hs:(J 27).Z=3:=kmp hs;refine aU (λh1=>?_) ⟨kmp hp.1,kmp (hp.2.1 (Or.inr hi)).1,kmp (hp.2.1 (Or.inr hi)).2⟩;generalize hr1:JU _=r1;have q1:=(Xn _ h1).out;rw[hr1]at q1;clear h1 hr1;have e1:=KV (ty:=2) (st:=(J 27).Z) (il:=(J 21).X) q1 hs hi af af;clear q1
  repeat (refine⟨by first|exact Eq.refl (α:=Nat) _ | exact Nat.le_of_ble_eq_true rfl | exact Eq.refl (α:=ae) _ | exact(trivial:tv []),?_⟩)
  exact⟨rfl,⟨ay af,ah⟩,kmp (by decide:1<=2/\2<=6),lt2 (kmp e0) (kmp e1)⟩⟩
theorem Vl:∀J,bTs KX 1 (au dx.A J)->bBs KX 1 (an dx.M (tls (aG dx.A) J))->QU J->Sa1 (TS dx J) (λl=>(hd l).Z=0/\agT KX [true] dx.M [] (tls (nlL dx.Y.sk) (tl l)) (tls (aG dx.A) J)/\acb J (gO [true] dx.M dx.Y.sk [] l)):=λJ _ _ hp=>Lc J hp
abbrev aeX:List AB:=[]
abbrev abD:CT:=Ck dx [true] aeX QU SL
theorem pn2_ct:CO abD:=CXe dx (TX ⟨CX,D9,PG,ah⟩ (FK (FK (FK ah)))) Vl
theorem abT (J:ae) (hp:QU J):Sa2 (acb J) (SL J):=ji (Lc J hp)
def Qd (J:ae):Prop:=PnP J 13 0/\PnP J 13 1
def abr (J w:ae):Prop:=PnQ 3 (J 27).Z (J 21).X w
abbrev dI:SP:=mkS ⟨[.sO (.nR 6 1 6 0 g0)],[.run 100 qL2]⟩ 267 Tryz.f267 [tXO (.nP 0 0),.tX (.sA bJ),aj 0 3,aj 0 3,.tX (.sA acS)] [.run 100 qL2] [(4,.unroll 70),(9,.unroll 70)] [JH,IM,K7,K0,XM] [(aw 327 Tryz.f327),(aw 329 Tryz.f329),(aw 95 Tryz.f95)]
theorem BO J R:TR1 dI J R (let x0:ae:=(ak (ak [.i 0] (ak (cw J 0 7 313609) [.i (J 9).Z,.i (J 10).Z])) (ak (cw J 13 75 k1) [.i 2,.b true,.b false,.b false,.b false,.i 0,.i 0,.i 0,.i 0,.i 0,.i 0,.i 0,.i 0,.f (λi0=>0),.i 0,.b false,.b false,.b false,.b false,.b false,.b false,.f (λ_=>0),.i 0,.b false,.b false,.b false,.b false,.i 0,.i 0,.i 0,.i 0,.i 0,.i 0,.i 0,.i 0,.f (λi0=>0),.i 0,.b false,.b false,.b false,.b false,.b false,.b false,.f (λ_=>0)]));(IQ x0)/\let x1:ae:=Jq x0;((cw J 13 75 k1)=(cw J 13 75 k1))/\(1<=1)/\let x2:ae:=(ak (ak [.i 1] (cw J 0 7 313609)) (ak (cw J 11 77 k11) (ak (cw x1 0 22 k0) [.i 2,.b false,.b true,.b false,.b false,.i 0,.i 0,.i 0,.i 0,.i 0,.i 0,.i 0,.i 0,.f (λi0=>0),.i 0,.b false,.b false,.b false,.b false,.b false,.b false,.f (λ_=>0)])));(Qm x2)/\let x3:ae:=VY x2;((cw J 13 75 k1)=(cw J 13 75 k1))/\(1<=1)/\(0=0)/\(1=1)/\(1<=1)/\(0=0)/\(2=2)/\let x4:ae:=(cw J 13 75 k1);(tv x4)/\let x5:ae:=L3 x4;((!(x5 0).X)->(3<=3)/\R (ak [.i 0,.l 3 (λi2=>(aE 2 (aE 1 (λi0=>(cw x1 0 22 k0)) (λi0=>(cw x3 22 22 k0))) (λi1=>(ak [.i (x3 0).Z,.b (x3 1).X,.b true] (ak (cw x3 3 6 37458) (ak (cw x3 31 4 585) (ak [.f (zAt [.a 2 .i64 0 1 (x3 13).F,.a 2 .i64 0 1 (λi0=>(x3 35).F (i0+2)),.c (.nI .i64 0 0 (x3 14).Z),.c (.nB true false (x3 15).X),.c (.nB true false (x3 16).X),.c (.nB true false (x3 17).X),.c (.nB true false (x3 18).X),.c (.nB true false (x3 19).X),.c (.nB true false (x3 20).X),.a 384 .i64 0 0 (x3 21).F])] (cw x3 14 8 6890641))))))) (0+i2))] (cw J 13 75 k1)))/\((!(x5 0).X)=false-> let x6:ae:=(ak (ak [.i 0] (ak (cw J 0 7 313609) [.i (J 9).Z,.i (J 10).Z])) (ak (cw J 13 75 k1) [.i 2,.b true,.b false,.b true,.b false,.i 0,.i 0,.i 0,.i 0,.i 0,.i 0,.i 0,.i 0,.f (λi0=>0),.i 0,.b false,.b false,.b false,.b false,.b false,.b false,.f (λ_=>0),.i 0,.b false,.b false,.b false,.b false,.i 0,.i 0,.i 0,.i 0,.i 0,.i 0,.i 0,.i 0,.f (λi0=>0),.i 0,.b false,.b false,.b false,.b false,.b false,.b false,.f (λ_=>0)]));(K4 x6)/\let x7:ae:=JU x6;((cw J 13 75 k1)=(cw J 13 75 k1))/\(1<=1)/\(0=0)/\(3=3)/\let x8:ae:=(ak (ak [.i 1] (cw J 0 7 313609)) (ak (cw J 11 77 k11) (ak (cw x7 0 22 k0) [.i 2,.b false,.b true,.b true,.b false,.i 0,.i 0,.i 0,.i 0,.i 0,.i 0,.i 0,.i 0,.f (λi0=>0),.i 0,.b false,.b false,.b false,.b false,.b false,.b false,.f (λ_=>0)])));(Qe x8)/\let x9:ae:=Sy x8;((cw J 13 75 k1)=(cw J 13 75 k1))/\(1<=1)/\(0=0)/\(4=4)/\(1<=1)/\(0=0)/\(5=5)/\(6<=6)/\R (ak [.i 0,.l 6 (λi2=>(aE 5 (aE 4 (aE 3 (aE 2 (aE 1 (λi0=>(cw x1 0 22 k0)) (λi0=>(cw x3 22 22 k0))) (λi1=>(ak [.i (x3 0).Z,.b (x3 1).X,.b true] (ak (cw x3 3 6 37458) (ak (cw x3 31 4 585) (ak [.f (zAt [.a 2 .i64 0 1 (x3 13).F,.a 2 .i64 0 1 (λi0=>(x3 35).F (i0+2)),.c (.nI .i64 0 0 (x3 14).Z),.c (.nB true false (x3 15).X),.c (.nB true false (x3 16).X),.c (.nB true false (x3 17).X),.c (.nB true false (x3 18).X),.c (.nB true false (x3 19).X),.c (.nB true false (x3 20).X),.a 384 .i64 0 0 (x3 21).F])] (cw x3 14 8 6890641))))))) (λi0=>(cw x7 0 22 k0))) (λi0=>(cw x9 22 22 k0))) (λi1=>(ak [.i (x9 0).Z,.b (x9 1).X,.b true] (ak (cw x9 3 6 37458) (ak (cw x9 31 4 585) (ak [.f (zAt [.a 2 .i64 0 1 (x9 13).F,.a 2 .i64 0 1 (λi0=>(x9 35).F (i0+2)),.c (.nI .i64 0 0 (x9 14).Z),.c (.nB true false (x9 15).X),.c (.nB true false (x9 16).X),.c (.nB true false (x9 17).X),.c (.nB true false (x9 18).X),.c (.nB true false (x9 19).X),.c (.nB true false (x9 20).X),.a 384 .i64 0 0 (x9 21).F])] (cw x9 14 8 6890641))))))) (0+i2))] (cw J 13 75 k1)))):=af
def Ws (J:ae):ae:=gO [true] dI.M dI.Y.sk [] (evW (TS dI J))
theorem Js (J:ae) (hp:Qd J):Sa1 (TS dI J) (λl=>(hd l).Z=0/\agT KX [true] dI.M [] (tls (nlL dI.Y.sk) (tl l)) (tls (aG dI.A) J)/\abr J (gO [true] dI.M dI.Y.sk [] l)):=⟨by
 rw[BO];dsimp only;obtain⟨hp,hp'⟩:=hp;refine aU (λh0=>?_) ⟨kmp hp.1,λh=>⟨kmp (hp.2.1 (Or.inl h)).1,kmp (hp.2.1 (Or.inl h)).2⟩,λh=>kmp (hp.2.2 h)⟩;generalize hr0:Jq _=r0;have q0:=(WE _ h0).out;rw[hr0]at q0;clear h0 hr0;have e0:=IN (ty:=3) (st:=(J 27).Z) (il:=(J 21).X) q0 af af af;have f0:(r0 3).X=false:=(congrArg (λr=>(r 3).X) q0.1).trans af;clear q0
 repeat (refine⟨by first|exact Eq.refl (α:=Nat) _ | exact Nat.le_of_ble_eq_true rfl | exact Eq.refl (α:=ae) _ | exact(trivial:tv []),?_⟩)
 refine aU (λh1=>?_) ⟨kmp hp'.1,λh=>⟨kmp (hp'.2.1 (Or.inl h)).1,kmp (hp'.2.1 (Or.inl h)).2⟩,λh=>kmp (hp'.2.2 h)⟩;generalize hr1:VY _=r1;have q1:=(aaB _ h1).out;rw[hr1]at q1;clear h1 hr1;have e1:=W5 (ty:=3) (st:=(J 27).Z) (il:=(J 21).X) q1 rfl af af af;have c1:cw r1 0 22 k0=cw r0 0 22 k0:=(congrArg (λr=>cw r 0 22 k0) q1.1).trans af;have u1:(r1 24).X=true:=(congrArg (λr=>(r 24).X) q1.1).trans af
 have f1:(r1 25).X=(r1 3).X:=by rw[show(r1 3).X=(r0 3).X from(congrArg (λr=>(r 3).X) q1.1).trans af,f0];exact(congrArg (λr=>(r 25).X) q1.1).trans af
 clear q1 f0;have e2:=λF=>V9 (F:=F) (c1 ▸ e0) e1 u1 f1;clear c1 u1 f1
 repeat (refine⟨by first|exact Eq.refl (α:=Nat) _ | exact Nat.le_of_ble_eq_true rfl | exact Eq.refl (α:=ae) _ | exact(trivial:tv []),?_⟩)
 refine⟨λh=>?_,λh=>?_⟩
 .repeat (refine⟨by first|exact Eq.refl (α:=Nat) _ | exact Nat.le_of_ble_eq_true rfl | exact Eq.refl (α:=ae) _ | exact(trivial:tv []),?_⟩)
  exact⟨rfl,⟨ay af,ah⟩,kmp (by decide:1<=3/\3<=6),lt3 (kmp e0) (kmp e1) (kmp (e2 (PR r1) rfl rfl rfl rfl))⟩
 .obtain⟨hi,hs⟩:=bkT (λe=>by rw[e]at h;cases h)
  have hi:(J 21).X=true:=kmp hi;have hs:(J 27).Z=3:=kmp hs;refine aU (λh1=>?_) ⟨kmp hp.1,kmp (hp.2.1 (Or.inr hi)).1,kmp (hp.2.1 (Or.inr hi)).2⟩;generalize hr2:JU _=r2;have q1:=(Xn _ h1).out;rw[hr2]at q1;clear h1 hr2;have e3:=KV (ty:=3) (st:=(J 27).Z) (il:=(J 21).X) q1 hs hi af af;have f0:(r2 3).X=true:=(congrArg (λr=>(r 3).X) q1.1).trans af;clear q1
  repeat (refine⟨by first|exact Eq.refl (α:=Nat) _ | exact Nat.le_of_ble_eq_true rfl | exact Eq.refl (α:=ae) _ | exact(trivial:tv []),?_⟩)
  refine aU (λh1=>?_) ⟨kmp hp'.1,kmp (hp'.2.1 (Or.inr hi)).1,kmp (hp'.2.1 (Or.inr hi)).2⟩;generalize hr3:Sy _=r3;have q1:=(abW _ h1).out;rw[hr3]at q1;clear h1 hr3;have e4:=Tb (ty:=3) (st:=(J 27).Z) (il:=(J 21).X) q1 rfl hs hi af af;have c1:cw r3 0 22 k0=cw r2 0 22 k0:=(congrArg (λr=>cw r 0 22 k0) q1.1).trans af;have u1:(r3 24).X=true:=(congrArg (λr=>(r 24).X) q1.1).trans af
  have f1:(r3 25).X=(r3 3).X:=by rw[show(r3 3).X=(r2 3).X from(congrArg (λr=>(r 3).X) q1.1).trans af,f0];exact(congrArg (λr=>(r 25).X) q1.1).trans af
  clear q1 f0;have e5:=λF=>V9 (F:=F) (c1 ▸ e3) e4 u1 f1;clear c1 u1 f1
  repeat (refine⟨by first|exact Eq.refl (α:=Nat) _ | exact Nat.le_of_ble_eq_true rfl | exact Eq.refl (α:=ae) _ | exact(trivial:tv []),?_⟩)
  exact⟨rfl,⟨ay af,ah⟩,kmp (by decide:1<=6/\6<=6),lt6 (kmp e0) (kmp e1) (kmp (e2 (PR r1) rfl rfl rfl rfl)) (kmp e3) (kmp e4) (kmp (e5 (PR r3) rfl rfl rfl rfl))⟩⟩
theorem Uv:∀J,bTs KX 1 (au dI.A J)->bBs KX 1 (an dI.M (tls (aG dI.A) J))->Qd J->Sa1 (TS dI J) (λl=>(hd l).Z=0/\agT KX [true] dI.M [] (tls (nlL dI.Y.sk) (tl l)) (tls (aG dI.A) J)/\abr J (gO [true] dI.M dI.Y.sk [] l)):=λJ _ _ hp=>Js J hp
abbrev afG:List AB:=[]
abbrev abb:CT:=Ck dI [true] afG Qd Ws
theorem T1:CO abb:=CXe dI (TX ⟨HB,Cc,D4,DE,PM,ah⟩ (FK (FK (FK ah)))) Uv
theorem aa0 (J:ae) (hp:Qd J):Sa2 (abr J) (Ws J):=ji (Js J hp)
end
end Go.Proofs.YtldmjbgplgoedaaGreatDoor
