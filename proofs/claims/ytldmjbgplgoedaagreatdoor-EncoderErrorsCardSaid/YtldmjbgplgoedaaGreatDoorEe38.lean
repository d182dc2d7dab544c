import Derived.Test.YtldmjbgplgoedaaGreatDoorEe37
set_option linter.all false
namespace Go.Proofs.YtldmjbgplgoedaaGreatDoor
noncomputable section
open Go.RowKit U
theorem Bm {α:Type} {c:Bool} (h:c=true) (a b:α):(bif c then a else b)=a:=by rw[h];rfl
theorem A8 {α:Type} {c:Bool} (h:c=false) (a b:α):(bif c then a else b)=b:=by rw[h];rfl
def gl (J:ae) (o:Nat):Prop:=2<=(J o).Z/\2<=(J (o+1)).Z/\1<=(J (o+2)).N/\1<=(J (o+3)).N/\1<=(J (o+4)).N/\((J (o+2)).N:Int)=(J o).Z*(J (o+1)).Z
def fvK (J:ae) (o:Nat):ae:=[.l (J 0).N (J 0).G,.i (J 1).Z,.i (J 2).Z,.i (J o).Z,.i (J (o+1)).Z,.l (J (o+2)).N (J (o+2)).G,.l (J (o+3)).N (J (o+3)).G,.l (J (o+4)).N (J (o+4)).G,.i (J 9).Z,.i (J 10).Z]
def fvA (J:ae) (o:Nat) (s:Int):ae:=[.i ((tI (fvK J o)) 0).Z,.i ((tI (fvK J o)) 1).Z,.i s]
def fvF (J:ae) (o:Nat):ae:=bif decide (((tI (fvK J (o+5))) 2).Z<((tI (fvK J o)) 2).Z)then fvA J (o+5) 1 else fvA J o 0
def Xh (J:ae):Prop:=gl J 61/\gl J 66
def LR (J:ae):ae:=fvF J 61
abbrev BI:SP:=mkS ⟨[.sA nu,aD 0 1],[.run 100 sCD]⟩ 358 Tryz.f358 [tXO (.nP 0 0),.tX (.sA aeD),aj 0 0,.tX (.sA nu)] [.run 100 sCD] [] [T2]
theorem HK J R:TR BI J R ((2<=(J 61).Z)/\(2<=(J 62).Z)/\(1<=(J 63).N)/\(1<=(J 64).N)/\(1<=(J 65).N)/\let x0:ae:=[.l (J 0).N (J 0).G,.i (J 1).Z,.i (J 2).Z,.i (J 61).Z,.i (J 62).Z,.l (J 63).N (J 63).G,.l (J 64).N (J 64).G,.l (J 65).N (J 65).G,.i (J 9).Z,.i (J 10).Z];(H5 x0)/\let x1:ae:=tI x0;(2<=(J 66).Z)/\(2<=(J 67).Z)/\(1<=(J 68).N)/\(1<=(J 69).N)/\(1<=(J 70).N)/\let x2:ae:=[.l (J 0).N (J 0).G,.i (J 1).Z,.i (J 2).Z,.i (J 66).Z,.i (J 67).Z,.l (J 68).N (J 68).G,.l (J 69).N (J 69).G,.l (J 70).N (J 70).G,.i (J 9).Z,.i (J 10).Z];(H5 x2)/\let x3:ae:=tI x2;((decide ((x3 2).Z<(x1 2).Z))->
 R (ak [.i 0,.i (x3 0).Z,.i (x3 1).Z,.i 1] (cw J 11 75 k1))) /\
((decide ((x3 2).Z<(x1 2).Z))=false -> R (ak [.i 0,.i (x1 0).Z,.i (x1 1).Z,.i 0] (cw J 11 75 k1)))):=af
theorem Wz:PFk BI [true] [] Xh LR:=λJ b1 b2 ⟨⟨h1,h2,h3,h4,h5,h6⟩,g1,g2,g3,g4,g5,g6⟩=>⟨by
 rw[HK];dsimp only;refine⟨h1,h2,h3,h4,h5,kmp h6,g1,g2,g3,g4,g5,kmp g6,λh=>?_,λh=>?_⟩
 .rw[show LR J=fvA J 66 1 from Bm (kmp h) _ _];exact⟨rfl,⟨ay af,rfl,ah⟩,ay af,ah⟩
 .rw[show LR J=fvA J 61 0 from A8 (kmp h) _ _];exact⟨rfl,⟨ay af,rfl,ah⟩,ay af,ah⟩⟩
abbrev ae4:List AB:=[]
abbrev XA:CT:=Ck BI [true] ae4 Xh LR
theorem ua:CO XA:=CXk BI (TX ⟨um,ah⟩ ah) Wz
def Xc (J:ae):Prop:=gl J 71/\gl J 76
def Nv (J:ae):ae:=fvF J 71
abbrev GJ:SP:=mkS ⟨[.sA nu,aD 0 1],[.run 100 sCD]⟩ 358 Tryz.f358 [tXO (.nP 0 0),.tX (.sA aeD),aj 1 1,.tX (.sA nu)] [.run 100 sCD] [] [T2]
theorem Ci J R:TR GJ J R ((2<=(J 71).Z)/\(2<=(J 72).Z)/\(1<=(J 73).N)/\(1<=(J 74).N)/\(1<=(J 75).N)/\let x0:ae:=[.l (J 0).N (J 0).G,.i (J 1).Z,.i (J 2).Z,.i (J 71).Z,.i (J 72).Z,.l (J 73).N (J 73).G,.l (J 74).N (J 74).G,.l (J 75).N (J 75).G,.i (J 9).Z,.i (J 10).Z];(H5 x0)/\let x1:ae:=tI x0;(2<=(J 76).Z)/\(2<=(J 77).Z)/\(1<=(J 78).N)/\(1<=(J 79).N)/\(1<=(J 80).N)/\let x2:ae:=[.l (J 0).N (J 0).G,.i (J 1).Z,.i (J 2).Z,.i (J 76).Z,.i (J 77).Z,.l (J 78).N (J 78).G,.l (J 79).N (J 79).G,.l (J 80).N (J 80).G,.i (J 9).Z,.i (J 10).Z];(H5 x2)/\let x3:ae:=tI x2;((decide ((x3 2).Z<(x1 2).Z))->
 R (ak [.i 0,.i (x3 0).Z,.i (x3 1).Z,.i 1] (cw J 11 75 k1))) /\
((decide ((x3 2).Z<(x1 2).Z))=false -> R (ak [.i 0,.i (x1 0).Z,.i (x1 1).Z,.i 0] (cw J 11 75 k1)))):=af
theorem St:PFk GJ [true] [] Xc Nv:=λJ b1 b2 ⟨⟨h1,h2,h3,h4,h5,h6⟩,g1,g2,g3,g4,g5,g6⟩=>⟨by
 rw[Ci];dsimp only;refine⟨h1,h2,h3,h4,h5,kmp h6,g1,g2,g3,g4,g5,kmp g6,λh=>?_,λh=>?_⟩
 .rw[show Nv J=fvA J 76 1 from Bm (kmp h) _ _];exact⟨rfl,⟨ay af,rfl,ah⟩,ay af,ah⟩
 .rw[show Nv J=fvA J 71 0 from A8 (kmp h) _ _];exact⟨rfl,⟨ay af,rfl,ah⟩,ay af,ah⟩⟩
abbrev aeV:List AB:=[]
abbrev V7:CT:=Ck GJ [true] aeV Xc Nv
theorem uE:CO V7:=CXk GJ (TX ⟨um,ah⟩ ah) St
theorem vz (J:ae) (o:Nat) (h:gl J o/\gl J (o+5)) (hv:VB J 9):VB (fvF J o) 0/\0<=((fvF J o) 2).Z/\((fvF J o) 2).Z<=1:=by
 obtain⟨⟨-,-,-,-,-,h⟩,-,-,-,-,-,h'⟩:=h;have a:=(Br (fvK J o) h (kmp hv)).out;have b:=(Br (fvK J (o+5)) h' (kmp hv)).out;unfold fvF;cases decide (((tI (fvK J (o+5))) 2).Z<((tI (fvK J o)) 2).Z)
 .exact⟨a,show(0:Int)<=0 by decide,show(0:Int)<=1 by decide⟩
 .exact⟨b,show(0:Int)<=1 by decide,show(1:Int)<=1 by decide⟩
theorem ji {A:List AB} {sk:List AS} {msk:List AB} {ks:List Bool} {v:ae} {Q:ae->Prop} {T:T} (h:Sa1 T (λl=>(hd l).Z=0/\agT KX ks A msk (tls (nlL sk) (tl l)) v/\Q (gO ks A sk msk l))):Sa2 Q (gO ks A sk msk (evW T)):=⟨(Jk h.out).2.2⟩
theorem lt4 {p:Nat->Prop} (h0:p 0) (h1:p 1) (h2:p 2) (h3:p 3):∀i,i<4->p i
 |0,_=>h0
 |1,_=>h1
 |2,_=>h2
 |3,_=>h3
def fwV (J:ae) (o:Nat) (x:ae) (F:Nat->Int):ae:=set_ (LY (ak (cw J 85 22 k0) (cw J 107 22 k0)) o x) (o / 22*22+13) (.f F)
def IQ (J:ae):Prop:=VB J 8/\((J 24).Z≠3->gl J 60/\gl J 65)/\((J 24).Z=3->gl J 50)
def Zv (J w:ae):Prop:=w=fwV J 5 [.i (w 5).Z,.i (w 6).Z] (w 13).F/\(∀i,i<4->((J 24).Z=3\/i≠0)->(w 13).F i=(J 98).F i)/\VB w 5/\((J 24).Z=3\/0<=(w 13).F 0/\(w 13).F 0<=1)
abbrev bR:SP:=mkS ⟨[],[.run 100 sCD,.run 396 qL4]⟩ 328 Tryz.f328 [tXO (.nP 0 0),tXO (.nP 1 0),aj 0 0,.tX (.sA bJ),aj 0 3,aj 0 3,.tX (.sA nu)] [.run 100 sCD,.run 396 qL4] [] [XA,V7,T2]
theorem H3 J R:TR1 bR J R ((((J 24).Z !=3)->
 let x0:ae:=(ak [.l (J 3).N (J 3).G,.i (16*(J 6).Z),.i (16*(J 7).Z),.i (J 50).Z,.i (J 51).Z,.l (J 52).N (J 52).G,.l (J 53).N (J 53).G,.l (J 54).N (J 54).G,.i (J 0).Z] (cw J 8 77 k10));(Xh x0)/\let x1:ae:=LR x0;((cw J 10 75 k1)=(cw J 10 75 k1))/\R (ak [.i 0] (ak (cw J 10 80 k25) (ak [.i (x1 0).Z,.i (x1 1).Z,.i (J 92).Z,.i (J 93).Z,.i (J 94).Z,.i (J 95).Z,.i (J 96).Z,.i (J 97).Z,.f (zAt [.c (.nI .i64 0 1 (x1 2).Z),.a 3 .i64 0 1 (λi0=>(J 98).F (i0+1)),.c (.nI .i64 0 0 (J 99).Z),.c (.nB true false (J 100).X),.c (.nB true false (J 101).X),.c (.nB true false (J 102).X),.c (.nB true false (J 103).X),.c (.nB true false (J 104).X),.c (.nB true false (J 105).X),.a 384 .i64 0 0 (J 106).F,.c (.nI .i64 0 2 (J 107).Z),.c (.nB true true (J 108).X),.c (.nB true true (J 109).X),.c (.nB true true (J 110).X),.c (.nB true false (J 111).X),.c (.nI .i64 (-63) 63 (J 112).Z),.c (.nI .i64 (-63) 63 (J 113).Z),.c (.nI .i64 (-63) 63 (J 114).Z),.c (.nI .i64 (-63) 63 (J 115).Z),.c (.nI .i64 (-63) 63 (J 116).Z),.c (.nI .i64 (-63) 63 (J 117).Z),.c (.nI .i64 (-63) 63 (J 118).Z),.c (.nI .i64 (-63) 63 (J 119).Z),.a 4 .i64 0 1 (J 120).F,.c (.nI .i64 0 0 (J 121).Z),.c (.nB true false (J 122).X),.c (.nB true false (J 123).X),.c (.nB true false (J 124).X),.c (.nB true false (J 125).X),.c (.nB true false (J 126).X),.c (.nB true false (J 127).X),.a 384 .i64 0 0 (J 128).F])] (cw J 99 30 508439593110980999607035025))))) /\
(((J 24).Z !=3)=false -> (2<=(J 50).Z)/\(2<=(J 51).Z)/\(1<=(J 52).N)/\(1<=(J 53).N)/\(1<=(J 54).N)/\let x2:ae:=[.l (J 3).N (J 3).G,.i (16*(J 6).Z),.i (16*(J 7).Z),.i (J 50).Z,.i (J 51).Z,.l (J 52).N (J 52).G,.l (J 53).N (J 53).G,.l (J 54).N (J 54).G,.i (J 8).Z,.i (J 9).Z];(H5 x2)/\let x3:ae:=tI x2;R (ak [.i 0] (ak (cw J 10 80 k25) (ak [.i (x3 0).Z,.i (x3 1).Z] (cw J 92 37 1066275109571880025287892717572681)))))):=af
def Jq (J:ae):ae:=gO [true,false] bR.M bR.Y.sk (bR.Y.msk.drop 1) (evW (TS bR J))
theorem Kx (J:ae) (hp:IQ J):Sa1 (TS bR J) (λl=>(hd l).Z=0/\agT KX [true,false] bR.M (bR.Y.msk.drop 1) (tls (nlL bR.Y.sk) (tl l)) (tls (aG bR.A) J)/\Zv J (gO [true,false] bR.M bR.Y.sk (bR.Y.msk.drop 1) l)):=⟨by
 rw[H3];dsimp only;obtain⟨hv,hp⟩:=hp;refine⟨λh=>?_,λh=>?_⟩
 .have h3:(J 24).Z≠3:=by simpa using h
  obtain⟨g1,g2⟩:=hp.1 h3;refine aU (λq=>?_) ⟨kmp g1,kmp g2⟩;obtain⟨q1,q2⟩:=vz _ 61 q (kmp hv);refine⟨rfl,rfl,⟨ay af,ah⟩,af,?_,kmp q1,Or.inr (kmp q2)⟩;refine lt4 ?_ ?_ ?_ ?_<;>intro e<;>rcases e with e | e<;>first|exact absurd e h3 | exact absurd rfl e | kernel_rfl
 .have h3:(J 24).Z=3:=by simpa using h
  obtain⟨g1,g2,g3,g4,g5,g6⟩:=hp.2 h3;refine⟨g1,g2,g3,g4,g5,aU (λq=>?_) (kmp g6)⟩;have q1:=(Br _ q (kmp hv)).out;exact⟨rfl,⟨ay af,ah⟩,af,lt4 (λ_=>af) (λ_=>af) (λ_=>af) (λ_=>af),kmp q1,Or.inl h3⟩⟩
theorem Tu:∀J,bTs KX 1 (au bR.A J)->bBs KX 1 (an bR.M (tls (aG bR.A) J))->IQ J->Sa1 (TS bR J) (λl=>(hd l).Z=0/\agT KX [true,false] bR.M (bR.Y.msk.drop 1) (tls (nlL bR.Y.sk) (tl l)) (tls (aG bR.A) J)/\Zv J (gO [true,false] bR.M bR.Y.sk (bR.Y.msk.drop 1) l)):=λJ _ _ hp=>Kx J hp
abbrev Z8:List AB:=[.run 396 qL4]
abbrev afq:CT:=Ck bR [true,false] Z8 IQ Jq
theorem Lb:CO afq:=CXe bR (TX ⟨ua,uE,um,ah⟩ ah) Tu
theorem WE (J:ae) (hp:IQ J):Sa2 (Zv J) (Jq J):=ji (Kx J hp)
def Qm (J:ae):Prop:=VB J 8/\((J 24).Z≠3->gl J 70/\gl J 75)/\((J 24).Z=3->gl J 55)
def Y8 (J w:ae):Prop:=w=fwV J 31 [.i (w 31).Z,.i (w 32).Z] (w 35).F/\(∀i,i<4->((J 24).Z=3\/i≠2)->(w 35).F i=(J 120).F i)/\VB w 31/\((J 24).Z=3\/0<=(w 35).F 2/\(w 35).F 2<=1)
abbrev cf:SP:=mkS ⟨[],[.run 100 sCD,.run 396 qL4]⟩ 328 Tryz.f328 [tXO (.nP 0 0),tXO (.nP 1 408),aj 1 1,.tX (.sA bJ),aj 0 3,aj 0 3,.tX (.sA nu)] [.run 100 sCD,.run 396 qL4] [] [XA,V7,T2]
theorem ED J R:TR1 cf J R ((((J 24).Z !=3)->
 let x0:ae:=(ak [.l (J 3).N (J 3).G,.i (16*(J 6).Z),.i (16*(J 7).Z),.i (J 55).Z,.i (J 56).Z,.l (J 57).N (J 57).G,.l (J 58).N (J 58).G,.l (J 59).N (J 59).G,.i (J 0).Z] (cw J 8 77 k10));(Xc x0)/\let x1:ae:=Nv x0;((cw J 10 75 k1)=(cw J 10 75 k1))/\R (ak [.i 0] (ak (cw J 10 106 k26) [.i (x1 0).Z,.i (x1 1).Z,.i (J 118).Z,.i (J 119).Z,.f (zAt [.a 2 .i64 0 1 (J 120).F,.c (.nI .i64 0 1 (x1 2).Z),.a 1 .i64 0 1 (λi0=>(J 120).F (i0+3)),.c (.nI .i64 0 0 (J 121).Z),.c (.nB true false (J 122).X),.c (.nB true false (J 123).X),.c (.nB true false (J 124).X),.c (.nB true false (J 125).X),.c (.nB true false (J 126).X),.c (.nB true false (J 127).X),.a 384 .i64 0 0 (J 128).F]),.i (J 121).Z,.b (J 122).X,.b (J 123).X,.b (J 124).X,.b (J 125).X,.b (J 126).X,.b (J 127).X,.f (J 128).F]))) /\
(((J 24).Z !=3)=false -> (2<=(J 55).Z)/\(2<=(J 56).Z)/\(1<=(J 57).N)/\(1<=(J 58).N)/\(1<=(J 59).N)/\let x2:ae:=[.l (J 3).N (J 3).G,.i (16*(J 6).Z),.i (16*(J 7).Z),.i (J 55).Z,.i (J 56).Z,.l (J 57).N (J 57).G,.l (J 58).N (J 58).G,.l (J 59).N (J 59).G,.i (J 8).Z,.i (J 9).Z];(H5 x2)/\let x3:ae:=tI x2;R (ak [.i 0] (ak (cw J 10 106 k26) [.i (x3 0).Z,.i (x3 1).Z,.i (J 118).Z,.i (J 119).Z,.f (J 120).F,.i (J 121).Z,.b (J 122).X,.b (J 123).X,.b (J 124).X,.b (J 125).X,.b (J 126).X,.b (J 127).X,.f (J 128).F])))):=af
def VY (J:ae):ae:=gO [true,false] cf.M cf.Y.sk (cf.Y.msk.drop 1) (evW (TS cf J))
theorem KR (J:ae) (hp:Qm J):Sa1 (TS cf J) (λl=>(hd l).Z=0/\agT KX [true,false] cf.M (cf.Y.msk.drop 1) (tls (nlL cf.Y.sk) (tl l)) (tls (aG cf.A) J)/\Y8 J (gO [true,false] cf.M cf.Y.sk (cf.Y.msk.drop 1) l)):=⟨by
 rw[ED];dsimp only;obtain⟨hv,hp⟩:=hp;refine⟨λh=>?_,λh=>?_⟩
 .have h3:(J 24).Z≠3:=by simpa using h
  obtain⟨g1,g2⟩:=hp.1 h3;refine aU (λq=>?_) ⟨kmp g1,kmp g2⟩;obtain⟨q1,q2⟩:=vz _ 71 q (kmp hv);refine⟨rfl,rfl,⟨ay af,ah⟩,af,?_,kmp q1,Or.inr (kmp q2)⟩;refine lt4 ?_ ?_ ?_ ?_<;>intro e<;>rcases e with e | e<;>first|exact absurd e h3 | exact absurd rfl e | kernel_rfl
 .have h3:(J 24).Z=3:=by simpa using h
  obtain⟨g1,g2,g3,g4,g5,g6⟩:=hp.2 h3;refine⟨g1,g2,g3,g4,g5,aU (λq=>?_) (kmp g6)⟩;have q1:=(Br _ q (kmp hv)).out;exact⟨rfl,⟨ay af,ah⟩,af,lt4 (λ_=>af) (λ_=>af) (λ_=>af) (λ_=>af),kmp q1,Or.inl h3⟩⟩
theorem Ur:∀J,bTs KX 1 (au cf.A J)->bBs KX 1 (an cf.M (tls (aG cf.A) J))->Qm J->Sa1 (TS cf J) (λl=>(hd l).Z=0/\agT KX [true,false] cf.M (cf.Y.msk.drop 1) (tls (nlL cf.Y.sk) (tl l)) (tls (aG cf.A) J)/\Y8 J (gO [true,false] cf.M cf.Y.sk (cf.Y.msk.drop 1) l)):=λJ _ _ hp=>KR J hp
abbrev acA:List AB:=[.run 396 qL4]
abbrev ae0:CT:=Ck cf [true,false] acA Qm VY
theorem RY:CO ae0:=CXe cf (TX ⟨ua,uE,um,ah⟩ ah) Ur
theorem aaB (J:ae) (hp:Qm J):Sa2 (Y8 J) (VY J):=ji (KR J hp)
def K4 (J:ae):Prop:=VB J 8/\gl J 60/\gl J 65
def Zu (J w:ae):Prop:=w=fwV J 5 [.i (w 5).Z,.i (w 6).Z,.i (w 7).Z,.i (w 8).Z] (w 13).F/\(∀i,i<4->(i≠0/\i≠1)->(w 13).F i=(J 98).F i)/\(VB w 5/\0<=(w 13).F 0/\(w 13).F 0<=1)/\VB w 7/\0<=(w 13).F 1/\(w 13).F 1<=1
abbrev bU:SP:=mkS ⟨[],[.run 100 sCD,.run 396 qL4]⟩ 330 Tryz.f330 [tXO (.nP 0 0),tXO (.nP 1 0),aj 0 0,.tX (.sA bJ),aj 0 3,aj 0 3,.tX (.sA nu)] [.run 100 sCD,.run 396 qL4] [(2,.unroll 70),(6,.unroll 70)] [XA,V7]
theorem BC J R:TR1 bU J R ((0=0)/\(16=16)/\(0=0)/\(32=32)/\(0=0)/\(48=48)/\(0=0)/\(64=64)/\(0=0)/\(80=80)/\(0=0)/\(96=96)/\(0=0)/\(112=112)/\(128<=128)/\let x0:ae:=(ak [.l 128 (λi1=>(aE 112 (aE 96 (aE 80 (aE 64 (aE 48 (aE 32 (aE 16 (λi0=>(J 3).G (i0+0)) (λi0=>(J 3).G (i0+32))) (λi0=>(J 3).G (i0+64))) (λi0=>(J 3).G (i0+96))) (λi0=>(J 3).G (i0+128))) (λi0=>(J 3).G (i0+160))) (λi0=>(J 3).G (i0+192))) (λi0=>(J 3).G (i0+224))) (0+i1)),.i (16*(J 6).Z),.i (8*(J 7).Z),.i 0,.i 0,.l 0 (λ_=>[]),.l 0 (λ_=>[]),.l 0 (λ_=>[]),.i (J 0).Z] (cw J 8 77 k10));(Xh x0)/\let x1:ae:=LR x0;((cw J 10 75 k1)=(cw J 10 75 k1))/\(0=0)/\(16=16)/\(0=0)/\(32=32)/\(0=0)/\(48=48)/\(0=0)/\(64=64)/\(0=0)/\(80=80)/\(0=0)/\(96=96)/\(0=0)/\(112=112)/\(128<=128)/\let x2:ae:=(ak [.l 128 (λi1=>(aE 112 (aE 96 (aE 80 (aE 64 (aE 48 (aE 32 (aE 16 (λi0=>(J 3).G (i0+16)) (λi0=>(J 3).G (i0+48))) (λi0=>(J 3).G (i0+80))) (λi0=>(J 3).G (i0+112))) (λi0=>(J 3).G (i0+144))) (λi0=>(J 3).G (i0+176))) (λi0=>(J 3).G (i0+208))) (λi0=>(J 3).G (i0+240))) (0+i1)),.i (16*(J 6).Z),.i (8*(J 7).Z),.i 0,.i 0,.l 0 (λ_=>[]),.l 0 (λ_=>[]),.l 0 (λ_=>[]),.i (J 0).Z] (cw J 8 77 k10));(Xh x2)/\let x3:ae:=LR x2;((cw J 10 75 k1)=(cw J 10 75 k1))/\R (ak [.i 0] (ak (cw J 10 80 k25) (ak [.i (x1 0).Z,.i (x1 1).Z,.i (x3 0).Z,.i (x3 1).Z,.i (J 94).Z,.i (J 95).Z,.i (J 96).Z,.i (J 97).Z,.f (zAt [.c (.nI .i64 0 1 (x1 2).Z),.c (.nI .i64 0 1 (x3 2).Z),.a 2 .i64 0 1 (λi0=>(J 98).F ((i0+1)+1)),.c (.nI .i64 0 0 (J 99).Z),.c (.nB true false (J 100).X),.c (.nB true false (J 101).X),.c (.nB true false (J 102).X),.c (.nB true false (J 103).X),.c (.nB true false (J 104).X),.c (.nB true false (J 105).X),.a 384 .i64 0 0 (J 106).F,.c (.nI .i64 0 2 (J 107).Z),.c (.nB true true (J 108).X),.c (.nB true true (J 109).X),.c (.nB true true (J 110).X),.c (.nB true false (J 111).X),.c (.nI .i64 (-63) 63 (J 112).Z),.c (.nI .i64 (-63) 63 (J 113).Z),.c (.nI .i64 (-63) 63 (J 114).Z),.c (.nI .i64 (-63) 63 (J 115).Z),.c (.nI .i64 (-63) 63 (J 116).Z),.c (.nI .i64 (-63) 63 (J 117).Z),.c (.nI .i64 (-63) 63 (J 118).Z),.c (.nI .i64 (-63) 63 (J 119).Z),.a 4 .i64 0 1 (J 120).F,.c (.nI .i64 0 0 (J 121).Z),.c (.nB true false (J 122).X),.c (.nB true false (J 123).X),.c (.nB true false (J 124).X),.c (.nB true false (J 125).X),.c (.nB true false (J 126).X),.c (.nB true false (J 127).X),.a 384 .i64 0 0 (J 128).F])] (cw J 99 30 508439593110980999607035025))))):=af
def JU (J:ae):ae:=gO [true,false] bU.M bU.Y.sk (bU.Y.msk.drop 1) (evW (TS bU J))
theorem Kd (J:ae) (hp:K4 J):Sa1 (TS bU J) (λl=>(hd l).Z=0/\agT KX [true,false] bU.M (bU.Y.msk.drop 1) (tls (nlL bU.Y.sk) (tl l)) (tls (aG bU.A) J)/\Zu J (gO [true,false] bU.M bU.Y.sk (bU.Y.msk.drop 1) l)):=⟨by
 rw[BC];dsimp only
 repeat (refine⟨by first|exact Eq.refl (α:=Nat) _ | exact Nat.le_refl _ | exact Eq.refl (α:=ae) _,?_⟩)
 obtain⟨hv,g1,g2⟩:=hp;refine aU (λq=>?_) ⟨kmp g1,kmp g2⟩;obtain⟨q1,q2⟩:=vz _ 61 q (kmp hv);clear q
 repeat (refine⟨by first|exact Eq.refl (α:=Nat) _ | exact Nat.le_refl _ | exact Eq.refl (α:=ae) _,?_⟩)
 refine aU (λq=>?_) ⟨kmp g1,kmp g2⟩;obtain⟨q3,q4⟩:=vz _ 61 q (kmp hv);clear q;refine⟨rfl,rfl,⟨ay af,ah⟩,af,?_,⟨kmp q1,kmp q2⟩,kmp q3,kmp q4⟩;refine lt4 ?_ ?_ ?_ ?_<;>intro e<;>first|exact absurd rfl e.1 | exact absurd rfl e.2 | kernel_rfl⟩
theorem WW:∀J,bTs KX 1 (au bU.A J)->bBs KX 1 (an bU.M (tls (aG bU.A) J))->K4 J->Sa1 (TS bU J) (λl=>(hd l).Z=0/\agT KX [true,false] bU.M (bU.Y.msk.drop 1) (tls (nlL bU.Y.sk) (tl l)) (tls (aG bU.A) J)/\Zu J (gO [true,false] bU.M bU.Y.sk (bU.Y.msk.drop 1) l)):=λJ _ _ hp=>Kd J hp
abbrev abK:List AB:=[.run 396 qL4]
abbrev afn:CT:=Ck bU [true,false] abK K4 JU
theorem JO:CO afn:=CXe bU (TX ⟨ua,uE,ah⟩ ah) WW
theorem Xn (J:ae) (hp:K4 J):Sa2 (Zu J) (JU J):=ji (Kd J hp)
def Qe (J:ae):Prop:=VB J 8/\gl J 70/\gl J 75
def YG (J w:ae):Prop:=w=fwV J 31 [.i (w 31).Z,.i (w 32).Z,.i (w 33).Z,.i (w 34).Z] (w 35).F/\(∀i,i<4->(i≠2/\i≠3)->(w 35).F i=(J 120).F i)/\(VB w 31/\0<=(w 35).F 2/\(w 35).F 2<=1)/\VB w 33/\0<=(w 35).F 3/\(w 35).F 3<=1
abbrev cg:SP:=mkS ⟨[],[.run 100 sCD,.run 396 qL4]⟩ 330 Tryz.f330 [tXO (.nP 0 0),tXO (.nP 1 408),aj 1 1,.tX (.sA bJ),aj 0 3,aj 0 3,.tX (.sA nu)] [.run 100 sCD,.run 396 qL4] [(2,.unroll 70),(6,.unroll 70)] [XA,V7]
theorem CU J R:TR1 cg J R ((0=0)/\(16=16)/\(0=0)/\(32=32)/\(0=0)/\(48=48)/\(0=0)/\(64=64)/\(0=0)/\(80=80)/\(0=0)/\(96=96)/\(0=0)/\(112=112)/\(128<=128)/\let x0:ae:=(ak [.l 128 (λi1=>(aE 112 (aE 96 (aE 80 (aE 64 (aE 48 (aE 32 (aE 16 (λi0=>(J 3).G (i0+0)) (λi0=>(J 3).G (i0+32))) (λi0=>(J 3).G (i0+64))) (λi0=>(J 3).G (i0+96))) (λi0=>(J 3).G (i0+128))) (λi0=>(J 3).G (i0+160))) (λi0=>(J 3).G (i0+192))) (λi0=>(J 3).G (i0+224))) (0+i1)),.i (16*(J 6).Z),.i (8*(J 7).Z),.i 0,.i 0,.l 0 (λ_=>[]),.l 0 (λ_=>[]),.l 0 (λ_=>[]),.i (J 0).Z] (cw J 8 77 k10));(Xc x0)/\let x1:ae:=Nv x0;((cw J 10 75 k1)=(cw J 10 75 k1))/\(0=0)/\(16=16)/\(0=0)/\(32=32)/\(0=0)/\(48=48)/\(0=0)/\(64=64)/\(0=0)/\(80=80)/\(0=0)/\(96=96)/\(0=0)/\(112=112)/\(128<=128)/\let x2:ae:=(ak [.l 128 (λi1=>(aE 112 (aE 96 (aE 80 (aE 64 (aE 48 (aE 32 (aE 16 (λi0=>(J 3).G (i0+16)) (λi0=>(J 3).G (i0+48))) (λi0=>(J 3).G (i0+80))) (λi0=>(J 3).G (i0+112))) (λi0=>(J 3).G (i0+144))) (λi0=>(J 3).G (i0+176))) (λi0=>(J 3).G (i0+208))) (λi0=>(J 3).G (i0+240))) (0+i1)),.i (16*(J 6).Z),.i (8*(J 7).Z),.i 0,.i 0,.l 0 (λ_=>[]),.l 0 (λ_=>[]),.l 0 (λ_=>[]),.i (J 0).Z] (cw J 8 77 k10));(Xc x2)/\let x3:ae:=Nv x2;((cw J 10 75 k1)=(cw J 10 75 k1))/\R (ak [.i 0] (ak (cw J 10 106 k26) [.i (x1 0).Z,.i (x1 1).Z,.i (x3 0).Z,.i (x3 1).Z,.f (zAt [.a 2 .i64 0 1 (J 120).F,.c (.nI .i64 0 1 (x1 2).Z),.c (.nI .i64 0 1 (x3 2).Z),.c (.nI .i64 0 0 (J 121).Z),.c (.nB true false (J 122).X),.c (.nB true false (J 123).X),.c (.nB true false (J 124).X),.c (.nB true false (J 125).X),.c (.nB true false (J 126).X),.c (.nB true false (J 127).X),.a 384 .i64 0 0 (J 128).F]),.i (J 121).Z,.b (J 122).X,.b (J 123).X,.b (J 124).X,.b (J 125).X,.b (J 126).X,.b (J 127).X,.f (J 128).F]))):=af
def Sy (J:ae):ae:=gO [true,false] cg.M cg.Y.sk (cg.Y.msk.drop 1) (evW (TS cg J))
theorem JX (J:ae) (hp:Qe J):Sa1 (TS cg J) (λl=>(hd l).Z=0/\agT KX [true,false] cg.M (cg.Y.msk.drop 1) (tls (nlL cg.Y.sk) (tl l)) (tls (aG cg.A) J)/\YG J (gO [true,false] cg.M cg.Y.sk (cg.Y.msk.drop 1) l)):=⟨by
 rw[CU];dsimp only
 repeat (refine⟨by first|exact Eq.refl (α:=Nat) _ | exact Nat.le_refl _ | exact Eq.refl (α:=ae) _,?_⟩)
 obtain⟨hv,g1,g2⟩:=hp;refine aU (λq=>?_) ⟨kmp g1,kmp g2⟩;obtain⟨q1,q2⟩:=vz _ 71 q (kmp hv);clear q
 repeat (refine⟨by first|exact Eq.refl (α:=Nat) _ | exact Nat.le_refl _ | exact Eq.refl (α:=ae) _,?_⟩)
 refine aU (λq=>?_) ⟨kmp g1,kmp g2⟩;obtain⟨q3,q4⟩:=vz _ 71 q (kmp hv);clear q;refine⟨rfl,rfl,⟨ay af,ah⟩,af,?_,⟨kmp q1,kmp q2⟩,kmp q3,kmp q4⟩;refine lt4 ?_ ?_ ?_ ?_<;>intro e<;>first|exact absurd rfl e.1 | exact absurd rfl e.2 | kernel_rfl⟩
theorem Ug:∀J,bTs KX 1 (au cg.A J)->bBs KX 1 (an cg.M (tls (aG cg.A) J))->Qe J->Sa1 (TS cg J) (λl=>(hd l).Z=0/\agT KX [true,false] cg.M (cg.Y.msk.drop 1) (tls (nlL cg.Y.sk) (tl l)) (tls (aG cg.A) J)/\YG J (gO [true,false] cg.M cg.Y.sk (cg.Y.msk.drop 1) l)):=λJ _ _ hp=>JX J hp
abbrev adj:List AB:=[.run 396 qL4]
abbrev afp:CT:=Ck cg [true,false] adj Qe Sy
theorem Rx:CO afp:=CXe cg (TX ⟨ua,uE,ah⟩ ah) Ug
theorem abW (J:ae) (hp:Qe J):Sa2 (YG J) (Sy J):=ji (JX J hp)
