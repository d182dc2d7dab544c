import Derived.Test.YtldmjbgplgoedaaGreatDoorRp33
set_option linter.all false
namespace Go.Proofs.YtldmjbgplgoedaaGreatDoor
noncomputable section
open Go.RowKit U
def ael (J:ae):Prop:=QF J
def adO (J:ae):ae:=mpS J++.i 0::wrC (λ_=>0) 0 (qY (mpL J))
abbrev QY:List AT:=[tXO (.nP 0 0),.tX (.sA VC),.tX (.sA acS),.tX (.sA sMA)]
abbrev ZS:List AB:=[.run 349 ad3]
abbrev Z5:Wy:=⟨[.sA acS,aD 0 0],[.run 349 Qh,.dyn 5 0 0 1000000 0 g0 false]⟩
abbrev aec:CT:=CS 183 QY ZS Z5 ael adO
theorem GE (J:ae) (R:ae->Prop):apR Pz (au QY J) (an ZS (tls (aG QY) J)) Z5 R=(((J 0).Z<=1)/\(1<=(J 10).Z)/\((J 10).Z<=1)/\((J 11).X=false)/\((J 12).X=false)/\((J 13).X=false)/\(0<=(J 15).Z)/\((J 15).Z<=0)/\(0<=(J 16).Z)/\((J 16).Z<=0)/\(0<=(J 17).Z)/\((J 17).Z<=0)/\(0<=(J 18).Z)/\((J 18).Z<=0)/\(0<=(J 19).Z)/\((J 19).Z<=0)/\(0<=(J 20).Z)/\((J 20).Z<=0)/\(0<=(J 21).Z)/\((J 21).Z<=0)/\(0<=(J 22).Z)/\((J 22).Z<=0)/\(∀i,i<4->0<=(J 23).F i/\(J 23).F i<=0)/\((J 25).X=true)/\((J 26).X=true)/\((J 27).X=true)/\((J 28).X=true)/\((J 29).X=true)/\((J 30).X=true)/\let ampNI83042:ae:=(cw J 0 33 111768296473367121568106648713);(NG ampNI83042)/\let rmpNI83042:ae:=GL ampNI83042;R [.i 0,.i (rmpNI83042 0).Z,.f (rmpNI83042 1).F,.i (rmpNI83042 2).Z,.i (rmpNI83042 3).Z,.i (rmpNI83042 4).Z,.i (rmpNI83042 5).Z,.i (rmpNI83042 6).Z,.s (rmpNI83042 7).O (rmpNI83042 7).N,.i (rmpNI83042 8).Z,.l (rmpNI83042 9).N (rmpNI83042 9).G]):=af
theorem HI (J:ae) (R:ae->Prop):apR Lu (au QY J) (an ZS (tls (aG QY) J)) Z5 R=((2<=(J 0).Z)/\let ampNP83042:ae:=(cw J 0 33 111768296473367121568106648713);(NH ampNP83042)/\let rmpNP83042:ae:=Es ampNP83042;R [.i 0,.i (rmpNP83042 0).Z,.f (rmpNP83042 1).F,.i (rmpNP83042 2).Z,.i (rmpNP83042 3).Z,.i (rmpNP83042 4).Z,.i (rmpNP83042 5).Z,.i (rmpNP83042 6).Z,.s (rmpNP83042 7).O (rmpNP83042 7).N,.i (rmpNP83042 8).Z,.l (rmpNP83042 9).N (rmpNP83042 9).G]):=af
theorem VF:cV KX Tryz.prog GX aec:=lH mpNI_ct.call λJ b1 hp=>by
 have k:0<=(J 10).Z/\(J 10).Z<=2:=by obtain⟨-,-,-,⟨k,-⟩,-⟩:=b1;exact k
 have t:1<=(J 0).Z:=by obtain⟨-,⟨t,-⟩,-⟩:=b1;exact t.1
 clear b1
 by_cases e:(J 0).Z=1
 .obtain⟨p0,p1,p2⟩:=hp
  have hk:(J 10).Z=1:=by
   rcases(show(J 10).Z=0\/(J 10).Z=1\/(J 10).Z=2 by omega)with h | h | h
   .exact absurd e (p0 h).2.2
   .exact h
   .exact absurd e (p2 h).2.1
  obtain⟨⟨⟨⟨h1,h2,h3⟩,hV,hs⟩,hc⟩,hf⟩:=p1 hk;have v0:=hV 0 afH;have v1:=hV 1 afH;have v2:=hV 2 afH;have v3:=hV 3 afH;have v4:=hV 4 afH;have v5:=hV 5 afH;have v6:=hV 6 afH;have v7:=hV 7 afH;refine⟨Pz,mpNI_ct,rfl,bD ?_⟩;rw[GE];exact⟨ac,ac,ac,h1,h2,h3,Int.le_of_eq v0.symm,Int.le_of_eq v0,Int.le_of_eq v1.symm,Int.le_of_eq v1,Int.le_of_eq v2.symm,Int.le_of_eq v2,Int.le_of_eq v3.symm,Int.le_of_eq v3,Int.le_of_eq v4.symm,Int.le_of_eq v4,Int.le_of_eq v5.symm,Int.le_of_eq v5,Int.le_of_eq v6.symm,Int.le_of_eq v6,Int.le_of_eq v7.symm,Int.le_of_eq v7,λi hi=>⟨Int.le_of_eq (hs i hi).symm,Int.le_of_eq (hs i hi)⟩,hc 0 afH,hc 1 afH,hc 2 afH,hc 3 afH,hc 4 afH,hc 5 afH,kmp hf,aT rfl af⟩
 .refine⟨Lu,NK,rfl,bD ?_⟩;rw[HI];exact⟨ac,kmp hp,aT rfl af⟩
def aaI (J:ae):Prop:=((J 8).Z=0->MbS J 8/\H1 J)/\((J 8).Z=1->MbI J 8/\BZ J)/\((J 8).Z=2->Dg J)
def aer (J:ae):Nat->Nat->Int:=bif (J 8).Z==0 then prG (pU J)else bif (J 8).Z==1 then rcF (bAt [(J 23).X,(J 24).X,(J 25).X,(J 26).X,(J 27).X,(J 28).X]) (J 12).X (J 29).F (J 6).X (J 4).F (J 7).Z (λ_ _=>128)else rcF (bAt [(J 23).X,(J 24).X,(J 25).X,(J 26).X,(J 27).X,(J 28).X]) (J 12).X (J 29).F (J 6).X (J 5).F (J 7).Z (prG (qD J))
def Y4 (J:ae):ae:=rcW (aer J)
abbrev LV:List AT:=[.tX (.sA VC),.tX (.sA gt),aN,aj 1 31,.tX (.sA sMA),.tX (.sA ZO),aj 0 3,aj 0 3]
abbrev Zd:List AB:=[]
abbrev Yc:Wy:=⟨[.sA bJ,aD 0 0],[]⟩
abbrev abJ:CT:=CS 90 LV Zd Yc aaI Y4
theorem Cb (J:ae) (R:ae->Prop):apR C9 (au LV J) (an Zd (tls (aG LV) J)) Yc R=((1<=(J 8).Z)/\((J 8).Z<=1)/\((J 9).X=false)/\((J 10).X=false)/\((J 11).X=false)/\(0<=(J 13).Z)/\((J 13).Z<=0)/\(0<=(J 14).Z)/\((J 14).Z<=0)/\(0<=(J 15).Z)/\((J 15).Z<=0)/\(0<=(J 16).Z)/\((J 16).Z<=0)/\(0<=(J 17).Z)/\((J 17).Z<=0)/\(0<=(J 18).Z)/\((J 18).Z<=0)/\(0<=(J 19).Z)/\((J 19).Z<=0)/\(0<=(J 20).Z)/\((J 20).Z<=0)/\(∀i,i<4->0<=(J 21).F i/\(J 21).F i<=0)/\((J 23).X=true)/\((J 24).X=true)/\((J 25).X=true)/\((J 26).X=true)/\((J 27).X=true)/\((J 28).X=true)/\let arcnI71267:ae:=(ak (cw J 0 30 508439593110980999602877577) [.i (J 45).Z,.i (J 46).Z]);(BZ arcnI71267)/\let rrcnI71267:ae:=Nl arcnI71267;R [.i 0,.i (rrcnI71267 0).Z,.i (rrcnI71267 1).Z,.l (rrcnI71267 2).N (rrcnI71267 2).G,.l (rrcnI71267 3).N (rrcnI71267 3).G,.l (rrcnI71267 4).N (rrcnI71267 4).G,.i (rrcnI71267 5).Z]):=af
theorem DO (J:ae) (R:ae->Prop):apR HD (au LV J) (an Zd (tls (aG LV) J)) Yc R=((2<=(J 8).Z)/\let arcnP9223:ae:=(cw J 0 47 k32);(Dg arcnP9223)/\let rrcnP9223:ae:=LK arcnP9223;R [.i 0,.i (rrcnP9223 0).Z,.i (rrcnP9223 1).Z,.l (rrcnP9223 2).N (rrcnP9223 2).G,.l (rrcnP9223 3).N (rrcnP9223 3).G,.l (rrcnP9223 4).N (rrcnP9223 4).G,.i (rrcnP9223 5).Z]):=af
theorem G9 (J:ae) (R:ae->Prop):apR BK (au LV J) (an Zd (tls (aG LV) J)) Yc R=(((J 8).Z<=0)/\((J 9).X=false)/\((J 10).X=false)/\((J 11).X=false)/\((J 12).X=false)/\(0<=(J 13).Z)/\((J 13).Z<=0)/\(0<=(J 14).Z)/\((J 14).Z<=0)/\(0<=(J 15).Z)/\((J 15).Z<=0)/\(0<=(J 16).Z)/\((J 16).Z<=0)/\(0<=(J 17).Z)/\((J 17).Z<=0)/\(0<=(J 18).Z)/\((J 18).Z<=0)/\(0<=(J 19).Z)/\((J 19).Z<=0)/\(0<=(J 20).Z)/\((J 20).Z<=0)/\(∀i,i<4->0<=(J 21).F i/\(J 21).F i<=0)/\((J 23).X=false)/\((J 24).X=false)/\((J 25).X=false)/\((J 26).X=false)/\((J 27).X=false)/\((J 28).X=false)/\(∀i,i<384->0<=(J 29).F i/\(J 29).F i<=0)/\let arcnS9223:ae:=(cw J 0 47 k32);(H1 arcnS9223)/\let rrcnS9223:ae:=ML arcnS9223;R [.i 0,.i (rrcnS9223 0).Z,.i (rrcnS9223 1).Z,.l (rrcnS9223 2).N (rrcnS9223 2).G,.l (rrcnS9223 3).N (rrcnS9223 3).G,.l (rrcnS9223 4).N (rrcnS9223 4).G,.i (rrcnS9223 5).Z]):=af
theorem I5:cV KX Tryz.prog GX abJ:=lH rcnI_ct.call λJ b1 hp=>by
 have k:0<=(J 8).Z/\(J 8).Z<=2:=by obtain⟨-,-,-,-,⟨k,-⟩,-⟩:=b1;exact k
 clear b1;obtain⟨p0,p1,p2⟩:=hp;unfold Y4 aer;rcases(show(J 8).Z=0\/(J 8).Z=1\/(J 8).Z=2 by omega)with e | e | e
 .obtain⟨⟨⟨⟨h1,h2,h3⟩,hV,hs⟩,h4,hc,hL⟩,hf⟩:=p0 e;have v0:=hV 0 afH;have v1:=hV 1 afH;have v2:=hV 2 afH;have v3:=hV 3 afH;have v4:=hV 4 afH;have v5:=hV 5 afH;have v6:=hV 6 afH;have v7:=hV 7 afH;refine⟨BK,Az,rfl,bD ?_⟩;rw[G9];rw[show((J 8).Z==0)=true by rw[e];rfl]
  exact⟨ac,h1,h2,h3,h4,Int.le_of_eq v0.symm,Int.le_of_eq v0,Int.le_of_eq v1.symm,Int.le_of_eq v1,Int.le_of_eq v2.symm,Int.le_of_eq v2,Int.le_of_eq v3.symm,Int.le_of_eq v3,Int.le_of_eq v4.symm,Int.le_of_eq v4,Int.le_of_eq v5.symm,Int.le_of_eq v5,Int.le_of_eq v6.symm,Int.le_of_eq v6,Int.le_of_eq v7.symm,Int.le_of_eq v7,λi hi=>⟨Int.le_of_eq (hs i hi).symm,Int.le_of_eq (hs i hi)⟩,hc 0 afH,hc 1 afH,hc 2 afH,hc 3 afH,hc 4 afH,hc 5 afH,λi hi=>⟨Int.le_of_eq (hL i hi).symm,Int.le_of_eq (hL i hi)⟩,kmp hf,aT rfl af⟩
 .obtain⟨⟨⟨⟨h1,h2,h3⟩,hV,hs⟩,hc⟩,hf⟩:=p1 e;have v0:=hV 0 afH;have v1:=hV 1 afH;have v2:=hV 2 afH;have v3:=hV 3 afH;have v4:=hV 4 afH;have v5:=hV 5 afH;have v6:=hV 6 afH;have v7:=hV 7 afH;refine⟨C9,rcnI_ct,rfl,bD ?_⟩;rw[Cb];rw[show((J 8).Z==0)=false by rw[e];rfl,show((J 8).Z==1)=true by rw[e];rfl]
  exact⟨ac,ac,h1,h2,h3,Int.le_of_eq v0.symm,Int.le_of_eq v0,Int.le_of_eq v1.symm,Int.le_of_eq v1,Int.le_of_eq v2.symm,Int.le_of_eq v2,Int.le_of_eq v3.symm,Int.le_of_eq v3,Int.le_of_eq v4.symm,Int.le_of_eq v4,Int.le_of_eq v5.symm,Int.le_of_eq v5,Int.le_of_eq v6.symm,Int.le_of_eq v6,Int.le_of_eq v7.symm,Int.le_of_eq v7,λi hi=>⟨Int.le_of_eq (hs i hi).symm,Int.le_of_eq (hs i hi)⟩,hc 0 afH,hc 1 afH,hc 2 afH,hc 3 afH,hc 4 afH,hc 5 afH,kmp hf,aT rfl af⟩
 .refine⟨HD,wE,rfl,bD ?_⟩;rw[DO];rw[show((J 8).Z==0)=false by rw[e];rfl,show((J 8).Z==1)=false by rw[e];rfl]
  exact⟨ac,kmp (p2 e),aT rfl af⟩
def Zg (J:ae):ae:=ak [.i (J 28).Z,.i (J 29).Z,.b (J 30).X,.b (J 31).X] (ak (cw J 0 28 7944368642359078118789721) [.i 0])
def sV (J:ae):Prop:=QF (Zg J)
def qE (J:ae):ae:=ak (cw J 6 22 k0) (.i ((0+cdN (qY (mpL (Zg J))):Nat):Int)::mpS (Zg J))
abbrev CW:SP:=mkS ⟨[.sA qL6],[.run 100 sCD]⟩ 176 Tryz.f176 [tXO (.nP 0 0),.tX (.sA acS),.tX (.sA sMA)] [.run 100 sCD] [] [aec] [(aw 181 Tryz.f181),(aw 258 Tryz.f258),(aw 259 Tryz.f259)]
theorem GN J R:TR CW J R (let x0:ae:=(ak (cw J 28 4 1161) (ak (cw J 0 28 7944368642359078118789721) [.i 0]));(ael x0)/\let x1:ae:=adO x0;R (ak [.i 0] (ak (cw J 6 22 k0) (ak (ak [.i (x1 8).Z] (cw x1 0 6 37465)) (cw J 28 75 k1))))):=af
theorem Sp:PFk CW [true] [] sV qE:=λJ b1 b2 hp=>⟨by rw[GN];dsimp only;refine⟨hp,rfl,⟨ay af,ah⟩,ay af,ah⟩⟩
abbrev ae6:List AB:=[]
abbrev acw:CT:=Ck CW [true] ae6 sV qE
theorem IK:CO acw:=CXk CW (TX ⟨VF,ah⟩ (FK (FK (FK ah)))) Sp
def Qr (J:ae):ae:=ak [.i (J 24).Z,.i (J 25).Z,.b (J 26).X,.b (J 27).X,.f (J 35).F,.f (J 36).F,.b (J 42).X,.i (J 43).Z] (ak (cw J 0 22 k0) (ak (cw J 49 15 k4) [.i (J 22).Z,.i (J 23).Z]))
def pm (J:ae):Prop:=aaI (Qr J)
def li (J:ae):ae:=pre 5 (Y4 (Qr J))
abbrev Co:SP:=mkS ⟨[.sA bJ],[.run 100 sCD]⟩ 100 Tryz.f100 [tXO (.nP 0 0),.tX (.sA sMA),aj 0 3,aj 0 3] [.run 100 sCD] [] [abJ] [(aw 93 Tryz.f93)]
theorem By J R:TR Co J R (let x0:ae:=(ak (ak (cw J 24 4 1161) [.f (J 35).F,.f (J 36).F,.b (J 42).X,.i (J 43).Z]) (ak (cw J 0 22 k0) (ak (cw J 49 15 k4) [.i (J 22).Z,.i (J 23).Z])));(aaI x0)/\let x1:ae:=Y4 x0;R (ak (ak [.i 0] (cw x1 0 5 18697)) (cw J 24 75 k1))):=af
theorem Tr:PFk Co [true] [] pm li:=λJ b1 b2 hp=>⟨by rw[By];dsimp only;refine⟨hp,rfl,⟨ay af,ah⟩,ay af,ah⟩⟩
abbrev aeT:List AB:=[]
abbrev YL:CT:=Ck Co [true] aeT pm li
theorem yD:CO YL:=CXk Co (TX ⟨I5,ah⟩ (FK ah)) Tr
def PS (J:ae):ae:=ak [.i (J 0).Z,.i (J 1).Z,.l (J 2).N (J 2).G,.l (J 3).N (J 3).G,.l (J 4).N (J 4).G,.i 16,.i 16,.l 256 (rz λ_=>128),.l 64 (rz λ_=>128),.l 64 (rz λ_=>128),.f (J 16).F] (ak (cw J 5 75 k1) [.i 1,.b false,.b false,.b false,.b false,.i 0,.i 0,.i 0,.i 0,.i 0,.i 0,.i 0,.i 0,.f (λ_=>0),.i 0,.b false,.b false,.b false,.b false,.b false,.b false,.f (λ_=>0)])
def YX (J:ae):Prop:=vmP (J 16).F
def vD (J:ae):ae:=[.i 1,.b false,.b false,.b false,.b (alD (PS J)),.i 0,.i 0,.i 0,.i 0,.i 0,.i 0,.i 0,.i 0,.f (λ_=>0),.i 0,.b true,.b true,.b true,.b true,.b true,.b true,.f (alV (PS J) (alD (PS J)))]
abbrev DH:SP:=mkS ⟨[.sA sMA],[.run 100 sCD]⟩ 177 Tryz.f177 [tXO (.nP 0 0),.tX (.sA bJ)] [.run 100 sCD] [] [iU,YZ] [(aw 93 Tryz.f93)]
theorem Di J R:TR DH J R (let x0:ae:=[.i 16,.i 16,.i 128,.i 128,.i 128];(iA x0)/\let x1:ae:=eY x0;(16<=(x1 0).Z)/\((x1 0).Z<=16)/\(16<=(x1 1).Z)/\((x1 1).Z<=16)/\(256<=(x1 2).N)/\((x1 2).N<=256)/\(64<=(x1 3).N)/\((x1 3).N<=64)/\(64<=(x1 4).N)/\((x1 4).N<=64)/\let x2:ae:=(ak (ak (cw J 0 5 18697) (ak (cw x1 0 5 18697) [.f (J 16).F])) (ak (cw J 5 75 k1) [.i 1,.b false,.b false,.b false,.b false,.i 0,.i 0,.i 0,.i 0,.i 0,.i 0,.i 0,.i 0,.f (λi0=>0),.i 0,.b false,.b false,.b false,.b false,.b false,.b false,.f (λ_=>0)]));(QL x2)/\let x3:ae:=qx x2;((cw J 5 75 k1)=(cw J 5 75 k1))/\R (ak [.i 0] (ak (cw x3 1 15 6125850502289) (ak [.b true,.b true,.b true,.b true,.b true,.b true,.f (x3 22).F] (cw J 5 75 k1))))):=af
theorem XE:PFk DH [true] [] YX vD:=λJ b1 b2 hp=>⟨by rw[Di];refine⟨⟨rfl,rfl⟩,afH,afH,afH,afH,afH,afH,afH,afH,afH,afH,hp,rfl,rfl,⟨ay af,ah⟩,ay af,ah⟩⟩
abbrev afw:List AB:=[]
abbrev ac1:CT:=Ck DH [true] afw YX vD
theorem TP:CO ac1:=CXk DH (TX ⟨cE,yA,ah⟩ (FK ah)) XE
end
end Go.Proofs.YtldmjbgplgoedaaGreatDoor
namespace Go.Proofs.YtldmjbgplgoedaaGreatDoor
noncomputable section
open Go.RowKit U
def Mh (x y:AV):Bool:=match x,y with
 |.nI k lo hi _,.nI k' lo' hi' _=>aJ (ik k k') (aJ (ile lo' lo) (ile hi hi'))
 |.nB f t _,.nB f' t' _=>aJ (imp f f') (imp t t')
 |.nR κ a b _ _,.nR κ' a' b' _ _=>aJ (Nat.beq κ κ') (aJ (Nat.ble a' a) (Nat.ble b b'))
 |.nD j κ a b _ _,.nD j' κ' a' b' _ _=>aJ (aJ (Nat.beq j j') (Nat.beq κ κ')) (aJ (Nat.beq a a') (Nat.beq b b'))
 |.nP j o,.nP j' o'=>aJ (Nat.beq j j') (Nat.beq o o')
 |.nK v,.nK v'=>PE v v'
 |.nU,.nU=>true
 |_,_=>false
def An:Rs->Rs->Bool
 |[],s=>match s with
  |[]=>true
  |_::_=>false
 |x::r,s=>match s with
  |[]=>false
  |y::s=>aJ (match x,y with
   |.c x,.c y=>Mh x y
   |.a n k lo hi _,.a n' k' lo' hi' _=>aJ (aJ (Nat.beq n n') (ik k k')) (aJ (ile lo' lo) (ile hi hi'))
   |_,_=>false) (An r s)
def Bn (x y:AB):Bool:=match x,y with
 |.run ty r,.run ty' s=>aJ (Nat.beq ty ty') (An r s)
 |.dyn ty κ a b _ _ fz,.dyn ty' κ' a' b' _ _ fz'=>aJ (aJ (Nat.beq ty ty') (Nat.beq κ κ')) (aJ (aJ (Nat.beq a a') (Nat.beq b b')) (BX fz fz'))
 |.dead,.dead=>true
 |_,_=>false
def vE:List AB->List AB->Bool
 |[],s=>match s with
  |[]=>true
  |_::_=>false
 |x::r,s=>match s with
  |[]=>false
  |y::s=>aJ (Bn x y) (vE r s)
section
variable {K:KT} {c c':Cx} {w w' w0:World}
theorem ko {x y:AV} (h:Mh x y=true):eU x=eU y:=by
 unfold Mh at h
 split at h<;>first|rfl | cases h
theorem Ap {x y:AV} (h:Mh x y=true) {l:ae} {v:Value} (hx:(gM x l).is K c v):(gM y l).is K c v:=by
 unfold Mh at h
 split at h
 .obtain⟨e,h⟩:=both_iff.1 h;obtain⟨h1,h2⟩:=both_iff.1 h;have:=dD e;subst this;obtain⟨g1,g2,g3,g4⟩:=is_I.1 hx;have h1:=ile_iff.1 h1;have h2:=ile_iff.1 h2;exact is_I.2 ⟨g1,ac,ac,g4⟩
 .obtain⟨h1,h2⟩:=both_iff.1 h;obtain⟨g1,g2,g3⟩:=is_B.1 hx;exact is_B.2 ⟨g1,λe=>imp_iff.1 h1 (g2 e),λe=>imp_iff.1 h2 (g3 e)⟩
 .obtain⟨e,h⟩:=both_iff.1 h;obtain⟨h1,h2⟩:=both_iff.1 h;have:=beq_iff'.1 e;subst this;obtain⟨A,m,g1,g2,g3,g4⟩:=is_R.1 hx;have h1:=ble_iff.1 h1;have h2:=ble_iff.1 h2;exact is_R.2 ⟨A,m,g1,ac,ac,g4⟩
 .obtain⟨e1,e2⟩:=both_iff.1 h;obtain⟨a1,a2⟩:=both_iff.1 e1;obtain⟨a3,a4⟩:=both_iff.1 e2;cases beq_iff'.1 a1;cases beq_iff'.1 a2;cases beq_iff'.1 a3;cases beq_iff'.1 a4;exact hx
 .obtain⟨a1,a2⟩:=both_iff.1 h;cases beq_iff'.1 a1;cases beq_iff'.1 a2;exact hx
 .cases dG h;exact hx
 .exact hx
 .cases h
theorem qZ {x y:AV} (h:Mh x y=true) {l:ae} {v:Value} (hx:(gM y l).is K c v) (hb:bV K 0 (gM x l)):(gM x l).is K c v:=by
 unfold Mh at h
 split at h
 .obtain⟨e,h⟩:=both_iff.1 h;have:=dD e;subst this;obtain⟨g1,g2,g3,g4⟩:=is_I.1 hx;exact is_I.2 ⟨g1,hb.1,hb.2,g4⟩
 .obtain⟨g1,g2,g3⟩:=is_B.1 hx;exact is_B.2 ⟨g1,hb.1,hb.2⟩
 .obtain⟨e,h⟩:=both_iff.1 h;have:=beq_iff'.1 e;subst this;obtain⟨A,m,g1,g2,g3,g4⟩:=is_R.1 hx;exact is_R.2 ⟨A,m,g1,hb.1,hb.2,g4⟩
 .obtain⟨e1,e2⟩:=both_iff.1 h;obtain⟨a1,a2⟩:=both_iff.1 e1;obtain⟨a3,a4⟩:=both_iff.1 e2;cases beq_iff'.1 a1;cases beq_iff'.1 a2;cases beq_iff'.1 a3;cases beq_iff'.1 a4;exact hx
 .obtain⟨a1,a2⟩:=both_iff.1 h;cases beq_iff'.1 a1;cases beq_iff'.1 a2;exact hx
 .cases dG h;exact hx
 .exact hx
 .cases h
theorem mF {x:Run} {l:Rs} {vs:List Value} (h:RsOk K c (x::l) vs):RsOk K c l (vs.drop (bi x)):=⟨by rw[List.length_drop,h.1,aV];omega,λi y v hy hv=>by
 rw[List.getElem?_drop]at hv;refine h.2 (bi x+i) y v ?_ hv;rw[aq,List.getElem?_append_right (by rw[aB];omega),aB]
 rw[show bi x+i-bi x=i by omega]
 exact hy⟩
theorem oh {x:Run} {l:Rs} {vs:List Value} (h:RsOk K c (x::l) vs):RsOk K c [x] (vs.take (bi x)):=⟨by rw[List.length_take,h.1,aV,aV,aV];omega,λi y v hy hv=>by
 rw[List.getElem?_take]at hv
 split at hv
 .rename_i hi;refine h.2 i y v ?_ hv;rw[aq,aq,List.append_nil]at hy;rw[aq,List.getElem?_append_left (by rw[aB];omega)]
  exact hy
 .cases hv⟩
theorem aeE {x:AV} {vs:List Value} (h:RsOk K c [.c x] vs):∃v,vs=[v]/\x.is K c v:=by
 have hl:=h.1
 match vs,hl with
 |[v],_=>exact⟨v,rfl,h.2 0 x v rfl rfl⟩
theorem aem {n:Nat} {k:IntKind} {lo hi:Int} {f:Nat->Int} {vs:List Value} (h:RsOk K c [.a n k lo hi f] vs):vs.length=n/\∀i,i<n->vs[i]? = some (.int k (f i))/\lo<=f i/\f i<=hi/\inR k (f i):=by
 have hl:vs.length=n:=h.1;refine⟨hl,λi hi=>?_⟩;have hv:=List.getElem?_eq_getElem (l:=vs) (show i<vs.length by omega)
 have:=h.2 i (.nI k lo _ (f i)) _ (by simp only[aq,az,List.append_nil,List.getElem?_map,List.getElem?_range hi];rfl) hv
 obtain⟨g1,g2,g3,g4⟩:=is_I.1 this;rw[hv,g1];exact⟨rfl,g2,g3,g4⟩
theorem tu {n:Nat} {k:IntKind} {lo hi:Int} {f:Nat->Int} {s:Rs} {J:ae}:ax (.a n k lo hi f::s) J=.a n k lo hi (hd J).F::ax s (tl J):=by conv=>lhs;unfold ax
theorem sS:∀ {r s:Rs},An r s=true->iD r=iD s
 |[],[],_=>rfl
 |[],_::_,h=>by cases h
 |_::_,[],h=>by cases h
 |x::r,y::s,h=>by
  obtain⟨h1,h2⟩:=both_iff.1 h;have ih:=sS h2
  cases x with
  |c x =>
   cases y with
   |c y=>simp only[iD,nlV,ko h1,ih]
   |a=>cases h1
  |a =>
   cases y with
   |c y=>cases h1
   |a=>simp only[iD,ih]
theorem je:∀ {r s:Rs} {l:ae} {vs:List Value},An r s=true->RsOk K c (ax r l) vs->RsOk K c (ax s l) vs
 |[],[],_,_,_,h=>h
 |[],_::_,_,_,h,_=>by cases h
 |_::_,[],_,_,h,_=>by cases h
 |x::r,y::s,l,vs,h,hr=>by
  obtain⟨h1,h2⟩:=both_iff.1 h
  cases x with
  |c x =>
   cases y with
   |c y =>
    rw[mI]at hr ⊢;obtain⟨v,e,hv⟩:=aeE (oh hr);have a:=RsOk.one (Ap h1 hv);have b:=je h2 (mF hr);rw[show nlV x=nlV y by unfold nlV;rw[ko h1]]at b
    have:=a.append b;rw[<-e]at this;have e1:bi (.c (gM x l))=1:=rfl;rw[e1,List.take_append_drop]at this;exact this
   |a=>cases h1
  |a n k lo hi f =>
   cases y with
   |c y=>cases h1
   |a n' k' lo' hi' f' =>
    obtain⟨g1,g2⟩:=both_iff.1 h1;obtain⟨g3,g4⟩:=both_iff.1 g1;obtain⟨g5,g6⟩:=both_iff.1 g2;cases beq_iff'.1 g3;cases dD g4;have g5:=ile_iff.1 g5;have g6:=ile_iff.1 g6;rw[tu]at hr ⊢;obtain⟨e,hv⟩:=aem (oh hr);have a:=RsOk.ints (K:=K) (c:=c) (lo:=lo') (hi:=hi') e λi hi=>⟨(hv i hi).1,by have:=(hv i hi).2.1;omega,by have:=(hv i hi).2.2.1;omega,(hv i hi).2.2.2⟩
    have b:=je h2 (mF hr);have:=a.append b;rw[List.take_append_drop]at this;exact this
theorem fu:∀ {r s:Rs} {l:ae} {vs:List Value},An r s=true->RsOk K c (ax s l) vs->bRs (bV K 0) (ax r l)->RsOk K c (ax r l) vs
 |[],[],_,_,_,h,_=>h
 |[],_::_,_,_,h,_,_=>by cases h
 |_::_,[],_,_,h,_,_=>by cases h
 |x::r,y::s,l,vs,h,hr,hb=>by
  obtain⟨h1,h2⟩:=both_iff.1 h
  cases x with
  |c x =>
   cases y with
   |c y =>
    rw[mI]at hr hb ⊢;obtain⟨b1,b2⟩:=hb;obtain⟨v,e,hv⟩:=aeE (oh hr);have a:=RsOk.one (qZ h1 hv b1);rw[show nlV x=nlV y by unfold nlV;rw[ko h1]]at b2 ⊢
    have b:=fu h2 (mF hr) b2;have:=a.append b;rw[<-e]at this;have e1:bi (.c (gM y l))=1:=rfl;rw[e1,List.take_append_drop]at this;exact this
   |a=>cases h1
  |a n k lo hi f =>
   cases y with
   |c y=>cases h1
   |a n' k' lo' hi' f' =>obtain⟨g1,g2⟩:=both_iff.1 h1;obtain⟨g3,g4⟩:=both_iff.1 g1;cases beq_iff'.1 g3;cases dD g4;rw[tu]at hr hb ⊢;obtain⟨b1,b2⟩:=hb;obtain⟨e,hv⟩:=aem (oh hr);have a:=RsOk.ints (K:=K) (c:=c) (lo:=lo) (hi:=hi) e λi hi=>⟨(hv i hi).1,(b1 i hi).1,(b1 i hi).2,(hv i hi).2.2.2⟩;have b:=fu h2 (mF hr) b2;have:=a.append b;rw[List.take_append_drop]at this;exact this
theorem JN {a b:Bool} (h:BX a b=true):a=b:=by cases a<;>cases b<;>first|rfl | cases h
theorem rW {x y:AB} (h:Bn x y=true):nlB x=nlB y:=by
 unfold Bn at h
 split at h
 .exact sS (both_iff.1 h).2
 .rfl
 .rfl
 .cases h
theorem Ak {x y:AB} (h:Bn x y=true) {l:ae} {id:Nat} (hx:abOk K c w id (cH x l)):abOk K c w id (cH y l):=by
 unfold Bn at h
 split at h
 .obtain⟨h1,h2⟩:=both_iff.1 h;cases beq_iff'.1 h1;obtain⟨e,cs,g1,g2⟩:=hx;exact⟨e,cs,g1,je h2 g2⟩
 .obtain⟨h1,h2⟩:=both_iff.1 h;obtain⟨a1,a2⟩:=both_iff.1 h1;obtain⟨a3,a4⟩:=both_iff.1 h2;obtain⟨a5,a6⟩:=both_iff.1 a3;cases beq_iff'.1 a1;cases beq_iff'.1 a2;cases beq_iff'.1 a5;cases beq_iff'.1 a6;cases JN a4;exact hx
 .exact hx
 .cases h
theorem ru {x y:AB} (h:Bn x y=true) {l:ae} {id:Nat} (hx:abOk K c w id (cH y l)) (hb:bB K 0 (cH x l)):abOk K c w id (cH x l):=by
 unfold Bn at h
 split at h
 .obtain⟨h1,h2⟩:=both_iff.1 h;cases beq_iff'.1 h1;obtain⟨e,cs,g1,g2⟩:=hx;exact⟨e,cs,g1,fu h2 g2 hb⟩
 .obtain⟨h1,h2⟩:=both_iff.1 h;obtain⟨a1,a2⟩:=both_iff.1 h1;obtain⟨a3,a4⟩:=both_iff.1 h2;obtain⟨a5,a6⟩:=both_iff.1 a3;cases beq_iff'.1 a1;cases beq_iff'.1 a2;cases beq_iff'.1 a5;cases beq_iff'.1 a6;cases JN a4;exact hx
 .exact hx
 .cases h
theorem oT {x y:AB} (h:Bn x y=true) (l:ae):fQ (cH x l)=fQ (cH y l):=by
 unfold Bn at h
 split at h<;>first|rfl | cases h
theorem pn:∀ {r s:List AB},vE r s=true->r.length=s.length
 |[],[],_=>rfl
 |[],_::_,h=>by cases h
 |_::_,[],h=>by cases h
 |x::r,y::s,h=>by rw[List.length_cons,List.length_cons,pn (both_iff.1 h).2]
theorem sG:∀ {r s:List AB},vE r s=true->∀(l:ae) (j:Nat) (b':AB),(an s l)[j]? = some b'->∃b,(an r l)[j]? = some b/\∀(K:KT) (c:Cx) (w:World) id,abOk K c w id b->(fQ b'=true->fQ b=true)/\abOk K c w id b'
 |[],[],_,_,_,_,h=>by simp[an]at h
 |[],_::_,h,_,_,_,_=>by cases h
 |_::_,[],h,_,_,_,_=>by cases h
 |x::r,y::s,h,l,0,b',hb=>by
  obtain⟨h1,h2⟩:=both_iff.1 h;have e:cH y l=b':=by simpa[an]using hb
  subst e;exact⟨cH x l,by simp[an],λK c w id hx=>⟨λe=>by rw[oT h1];exact e,Ak h1 hx⟩⟩
 |x::r,y::s,h,l,j+1,b',hb=>by
  obtain⟨h1,h2⟩:=both_iff.1 h;have hb:(an s (tls (nlB y) l))[j]? = some b':=by simpa[an]using hb
  rw[<-rW h1]at hb;obtain⟨b,g1,g2⟩:=sG h2 _ j b' hb;exact⟨b,by simpa[an]using g1,g2⟩
theorem kr:∀ {ks:List Bool} {r s:List AB},vE r s=true->∀(m:List AB) (v u:ae) (j:Nat) (b':AB),bBs K 0 (an r v)->(iI ks r m v u)[j]? = some b'->∃b,(iI ks s m v u)[j]? = some b/\∀(c:Cx) (w:World) id,abOk K c w id b->(fQ b'=true->fQ b=true)/\abOk K c w id b'
 |[],r,s,_,m,v,u,j,b',_,h=>⟨b',by unfold iI at h ⊢;exact h,λ_ _ _ e=>⟨id,e⟩⟩
 |k::ks,[],[],_,m,v,u,j,b',_,h=>⟨b',by cases k<;>(unfold iI at h ⊢;exact h),λ_ _ _ e=>⟨id,e⟩⟩
 |_::_,[],_::_,h,_,_,_,_,_,_,_=>by cases h
 |_::_,_::_,[],h,_,_,_,_,_,_,_=>by cases h
 |true::ks,x::r,y::s,h,m,v,u,0,b',hb,hj=>by
  obtain⟨h1,h2⟩:=both_iff.1 h;have e:cH x v=b':=by simpa[iI]using hj
  subst e;exact⟨cH y v,by simp[iI],λc w id hy=>⟨λe=>by rw[<-oT h1];exact e,ru h1 hy hb.1⟩⟩
 |true::ks,x::r,y::s,h,m,v,u,j+1,b',hb,hj=>by
  obtain⟨h1,h2⟩:=both_iff.1 h;have hj:(iI ks r m (tls (nlB x) v) u)[j]? = some b':=by simpa[iI]using hj
  obtain⟨b,g1,g2⟩:=kr h2 m _ u j b' hb.2 hj;rw[rW h1]at g1;exact⟨b,by simpa[iI]using g1,g2⟩
 |false::ks,x::r,y::s,h,[],v,u,j,b',hb,hj=>by
  unfold iI at hj
  simp[an]at hj
 |false::ks,x::r,y::s,h,n::m,v,u,0,b',hb,hj=>⟨b',by simpa[iI]using hj,λ_ _ _ e=>⟨id,e⟩⟩
 |false::ks,x::r,y::s,h,n::m,v,u,j+1,b',hb,hj=>by
  obtain⟨h1,h2⟩:=both_iff.1 h;have hj:(iI ks r m (tls (nlB x) v) (tls (nlB n) u))[j]? = some b':=by simpa[iI]using hj
  obtain⟨b,g1,g2⟩:=kr h2 m _ _ j b' hb.2 hj;rw[rW h1]at g1;exact⟨b,by simpa[iI]using g1,g2⟩
theorem ox:∀ {ks:List Bool} {r s:List AB},vE r s=true->∀(m:List AB) (v v' u:ae),(iI ks r m v u).length=(iI ks s m v' u).length
 |[],_,_,_,_,_,_,_=>by unfold iI;rfl
 |k::ks,[],[],_,_,_,_,_=>by cases k<;>(unfold iI;rfl)
 |_::_,[],_::_,h,_,_,_,_=>by cases h
 |_::_,_::_,[],h,_,_,_,_=>by cases h
 |true::ks,x::r,y::s,h,m,v,v',u=>by unfold iI;rw[List.length_cons,List.length_cons,ox (both_iff.1 h).2 m _ (tls (nlB y) v') u]
 |false::ks,x::r,y::s,h,[],v,v',u=>by unfold iI;rfl
 |false::ks,x::r,y::s,h,n::m,v,v',u=>by unfold iI;rw[List.length_cons,List.length_cons,ox (both_iff.1 h).2 m _ (tls (nlB y) v') _]
end
theorem ju {P:Program} {K:KT} {G:GT} {f:FuncId} {args:List AT} {mem mem':List AB} {ks:List Bool} {sk:List AS} {msk:List AB} {Pr:ae->Prop} {W:ae->ae} (h:cV K P G (CK f args mem ks sk msk Pr W)) (hn:vE mem' mem=true)
 (hr:∀J,kj (aY (au args J) (an mem' (tls (aG args) J))) (l6 0 mem'.length)=true):cV K P G (CK f args mem' ks sk msk Pr W):=by
 refine⟨h.call,λJ c w vs Q g1 g2 g3 ⟨hP,hQ⟩=>?_⟩
 have b2:bBs K 0 (an mem' (tls (aG args) J)):=sT (c:=c) (w:=w) λi b e=>by
  have hi:i<mem'.length:=by have:=(List.getElem?_eq_some_iff.1 e).1;rw[bF]at this;exact this
  have hd:Def c (aY (au args J) (an mem' (tls (aG args) J))):=cX g2 _ _ _ (fF g3);obtain⟨id,hid⟩:=hd i (subN_iff.1 (hr J) i (jH _ 0 i ac ac));exact⟨id,g2.kn i id b hid e⟩
 have g2':AM K w c c (an mem (tls (aG args) J)) w:=g2.less (by rw[bF,bF];exact(pn hn).symm) λj b' hb=>by obtain⟨b,q1,q2⟩:=sG hn _ j b' hb;exact⟨b,q1,λid hx=>q2 K c w id hx⟩
 refine(h.ok J c w vs (λo=>o=.val (iI ks mem msk (tls (aG args) J) (tls (nlL sk) (W J))) (wg (cF sk (W J)))) g1 g2' g3 ⟨hP,rfl⟩).mono λe w' ⟨v,he,m,y,hq,c',k2,k3⟩=>?_;cases hq;refine⟨v,he,_,_,hQ,c',k2.less (ox hn _ _ _ _) λj b' hb=>?_,k3⟩;obtain⟨b,q1,q2⟩:=kr hn _ _ _ j b' b2 hb;exact⟨b,q1,λid hx=>q2 c' w' id hx⟩
end
end Go.Proofs.YtldmjbgplgoedaaGreatDoor
namespace Go.Proofs.YtldmjbgplgoedaaGreatDoor
noncomputable section
open Go.RowKit U
structure Sa2 (p:ae->Prop) (w:ae):Prop where
 out:p w
theorem aU {a b:Prop} (h:a->b) (h':a):a/\b:=⟨h',h h'⟩
theorem mf {Q:ae->Prop} {T:T} (h:Sa1 T (λl=>(hd l).Z=0/\Q (tl l))):Sa2 Q (tl (evW T)):=⟨(Jk h.out).2⟩
def VB (w:ae) (k:Nat):Prop:=(-63<=(w k).Z/\(w k).Z<=63)/\-63<=(w (k+1)).Z/\(w (k+1)).Z<=63
theorem vb0:VB [.i 0,.i 0] 0:=⟨⟨afH,afH⟩,afH,afH⟩
theorem O2 (J:ae) (hp:Qu J) (hv:VB J 8):Sa2 (VB · 0) (ag8 J):=mf (T:=TS pd J) ⟨by rw[uq];exact⟨hp,rfl,hv⟩⟩
theorem zi (J:ae) (hp:Jo J) (hv:VB J 8):Sa2 (VB · 0) (wb J):=mf (T:=TS qM J) ⟨by rw[te];refine br_ (λq=>⟨rfl,hv⟩) λq=>br_ (λq1=>⟨rfl,hv⟩) λq1=>?_;have q:=aQ q;have q1:=aQ q1;exact⟨ac,ac,ac,ac,hp,λ_=>⟨ac,ac,ac,ac,rfl,⟨show -63<=(J 11).Z by omega,show(J 11).Z<=63 by omega⟩,show -63<=(J 12).Z by omega,show(J 12).Z<=63 by omega⟩,λ_=>⟨rfl,hv⟩⟩⟩
def Vx (x:Int × Int × Int):Prop:=(-63<=x.1/\x.1<=63)/\-63<=x.2.1/\x.2.1<=63
theorem aao (J:ae) (hp:Zh J) (hv:VB J 8):Sa2 (VB · 0) (Yx J):=mf (T:=TS qB J) ⟨by rw[tH];dsimp only;refine aU (λh0=>?_) hp;have v0:=(O2 _ h0 (kmp hv)).out;generalize hr:ag8 _=r0;rw[hr]at v0;clear hr h0;refine aZ 16 0 (λ_ (x:Int × Int × Int)=>Vx x) (λs i x=>set_ (set_ (set_ (set_ s 0 (.i i)) 10 (.i x.1)) 11 (.i x.2.1)) 12 (.i x.2.2)) (λi _ _=>rfl) (_,_,_) rfl v0 λI μ hA i x hi hx=>?_;refine br_ (λq=>?_) λq=>⟨rfl,hx⟩;have q:(i:Int)<16:=ai q;refine aU (λh1=>?_) hp;have v1:=(zi _ h1 (kmp hx)).out;generalize hr:wb _=r1;rw[hr]at v1;clear hr h1;refine aU (λh1=>?_) hp;have v2:=(zi _ h1 (kmp v1)).out;generalize hr:wb _=r2;rw[hr]at v2;clear hr h1;refine aU (λh1=>?_) hp;have v3:=(zi _ h1 (kmp v2)).out;generalize hr:wb _=r3;rw[hr]at v3;clear hr h1;refine aU (λh1=>?_) hp;have v4:=(zi _ h1 (kmp v3)).out;generalize hr:wb _=r4;rw[hr]at v4;clear hr h1;exact⟨λ_=>⟨rfl,hx⟩,λ_=>⟨show(i:Int)+1<=1048576 by omega,hA i x (_,_,_) _ ac v4 rfl⟩⟩⟩
theorem S2 (J:ae) (hp:SR J) (hv:VB J 8):Sa2 (VB · 0) (QH J):=mf (T:=TS qv J) ⟨by
 rw[uz];dsimp only;refine aU (λh0=>?_) hp;have v0:=(O2 _ h0 (kmp hv)).out;generalize hr:ag8 _=r0;rw[hr]at v0;clear hr h0;refine⟨λl=>∃s b,0<=s/\s<=16/\Vx b/\l=twA J s b,λl=>(l 0).Z.toNat,⟨16,(_,_,_),ac,ac,v0,rfl⟩,?_⟩;rintro _ ⟨s,b,s0,s1,hb,rfl⟩;refine br_ (λq=>?_) λq=>⟨rfl,hb⟩;have q:0<s:=ai q;refine⟨λl=>∃y b c,-s<=y/\y<=2*s/\Vx b/\l=twB J s y b c,λl=>(2*s+1-(l 1).Z).toNat,⟨-s,b,(b.1,b.2.1),ac,ac,hb,rfl⟩,?_⟩;rintro _ ⟨y,b1,c,y0,y1,hb1,rfl⟩;refine br_ (λq1=>?_) λq1=>?_
 .have q1:y<=s:=ai q1;refine⟨λl=>∃x b',-s<=x/\x<=2*s/\Vx b'/\l=twC J s y x b' c,λl=>(2*s+1-(l 2).Z).toNat,⟨-s,b1,ac,ac,hb1,rfl⟩,?_⟩;rintro _ ⟨x,b2,x0,x1,hb2,rfl⟩;refine br_ (λq2=>?_) λq2=>?_
  .have q2:x<=s:=ai q2;refine aU (λh1=>?_) hp;have v1:=(zi _ h1 (kmp hb2)).out;generalize hr:wb _=r1;rw[hr]at v1;clear hr h1;exact⟨show(-1099511627776)<=x+s by omega,show x+s<=1099511627776 by omega,⟨x+s,(_,_,_),ac,ac,v1,rfl⟩,show(2*s+1-(x+s)).toNat<(2*s+1-x).toNat by omega⟩
  .exact⟨show(-1099511627776)<=y+s by omega,show y+s<=1099511627776 by omega,⟨y+s,b2,c,ac,ac,hb2,rfl⟩,show(2*s+1-(y+s)).toNat<(2*s+1-y).toNat by omega⟩
 .have e:Int.tdiv s 2=s / 2:=Int.tdiv_eq_ediv_of_nonneg ac;exact⟨⟨Int.tdiv s 2,b1,ac,ac,hb1,rfl⟩,show(Int.tdiv s 2).toNat<s.toNat by omega⟩⟩
theorem Br (J:ae) (hp:H5 J) (hv:VB J 8):Sa2 (VB · 0) (tI J):=mf (T:=TS pu J) ⟨by
 rw[tC];dsimp only;refine aU (λh0=>?_) hp;have v0:=(O2 _ h0 (kmp vb0)).out;generalize hr:ag8 _=r0;rw[hr]at v0;clear hr h0;refine⟨λ_=>⟨rfl,v0⟩,λ_=>aU (λh1=>?_) hp⟩;have v1:=(aao _ h1 (kmp hv)).out;generalize hr:Yx _=r1;rw[hr]at v1;clear hr h1;refine⟨λ_=>⟨λ_=>⟨rfl,v1⟩,λ_=>aU (λh2=>?_) hp⟩,λ_=>⟨λ_=>⟨rfl,v0⟩,λ_=>aU (λh2=>?_) hp⟩⟩
 .have v2:=(S2 _ h2 (kmp vb0)).out;generalize hr:QH _=r2;rw[hr]at v2;exact⟨λ_=>⟨rfl,v2⟩,λ_=>⟨rfl,v1⟩⟩
 .have v2:=(S2 _ h2 (kmp vb0)).out;generalize hr:QH _=r2;rw[hr]at v2;exact⟨λ_=>⟨rfl,v2⟩,λ_=>⟨rfl,v0⟩⟩⟩
end
end Go.Proofs.YtldmjbgplgoedaaGreatDoor
