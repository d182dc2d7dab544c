import Derived.Test.YtldmjbgplgoedaaGreatDoorRp37
set_option linter.all false
namespace Go.Proofs.YtldmjbgplgoedaaGreatDoor
noncomputable section
open Go.RowKit U
def MbV (m:ae):Prop:=∀j,j<8->-63<=(m (5+j)).Z/\(m (5+j)).Z<=63
theorem UE {J m:ae} (h:Qt J m):MbV m:=by
 cases h with
 |intra=>exact lt8 (kmp z63) (kmp z63) (kmp z63) (kmp z63) (kmp z63) (kmp z63) (kmp z63) (kmp z63)
 |skip=>exact lt8 (kmp z63) (kmp z63) (kmp z63) (kmp z63) (kmp z63) (kmp z63) (kmp z63) (kmp z63)
 |inter _ _ h =>obtain⟨e,he,hw⟩:=h;rw[hw,Lq];have hv:=he.v;exact lt8 (kmp (hv 0 afH)) (kmp (hv 1 afH)) (kmp (hv 2 afH)) (kmp (hv 3 afH)) (kmp (hv 4 afH)) (kmp (hv 5 afH)) (kmp (hv 6 afH)) (kmp (hv 7 afH))
def StV (st:ae):Prop:=VB st 2/\VB st 4
theorem acl {K:ae} (hV:V63 (mpL K) 12) (p0:(-63<=((mpL K) 2).Z/\((mpL K) 2).Z<=63)/\(-63<=((mpL K) 3).Z/\((mpL K) 3).Z<=63)) (p1:(-63<=((mpL K) 4).Z/\((mpL K) 4).Z<=63)/\(-63<=((mpL K) 5).Z/\((mpL K) 5).Z<=63)):StV (mpS K):=by
 have a:=(sd (d:=0) (p:=(((mpL K) 2).Z,((mpL K) 3).Z)) hV afH p0).1;have b:=(sd (d:=1) (p:=(((mpL K) 4).Z,((mpL K) 5).Z)) hV afH p1).1;have z:(-63:Int)<=0/\(0:Int)<=63:=z63;refine⟨?_,?_⟩
 .show(-63<=(bif (K 10).Z !=2 then(0:Int)else(bif ((mpL K) 12).Z !=2 then((mpL K) 2).Z else(cC (mpL K) 12).2.1))/\(bif (K 10).Z !=2 then(0:Int)else(bif ((mpL K) 12).Z !=2 then((mpL K) 2).Z else(cC (mpL K) 12).2.1))<=63)/\(-63<=(bif (K 10).Z !=2 then(0:Int)else(bif ((mpL K) 12).Z !=2 then((mpL K) 3).Z else(cC (mpL K) 12).2.2))/\(bif (K 10).Z !=2 then(0:Int)else(bif ((mpL K) 12).Z !=2 then((mpL K) 3).Z else(cC (mpL K) 12).2.2))<=63)
  cases(K 10).Z !=2
  .cases((mpL K) 12).Z !=2
   .exact a
   .exact p0
  .exact⟨z,z⟩
 .show(-63<=(bif (K 10).Z !=2 then(0:Int)else(bif ((mpL K) 12).Z !=2 then((mpL K) 4).Z else(jG (mpL K) 12).2.1))/\(bif (K 10).Z !=2 then(0:Int)else(bif ((mpL K) 12).Z !=2 then((mpL K) 4).Z else(jG (mpL K) 12).2.1))<=63)/\(-63<=(bif (K 10).Z !=2 then(0:Int)else(bif ((mpL K) 12).Z !=2 then((mpL K) 5).Z else(jG (mpL K) 12).2.2))/\(bif (K 10).Z !=2 then(0:Int)else(bif ((mpL K) 12).Z !=2 then((mpL K) 5).Z else(jG (mpL K) 12).2.2))<=63)
  cases(K 10).Z !=2
  .cases((mpL K) 12).Z !=2
   .exact b
   .exact p1
  .exact⟨z,z⟩
def roC (J:ae) (k:Nat) (st fr:ae):ae:=ak [.i (k:Int),.i (J 0).Z,.i (st 0).Z,.f (st 1).F,.i (st 2).Z,.i (st 3).Z,.i (st 4).Z,.i (st 5).Z] (ak (cw J 1 70 k6) (cZ fr))
def roR (J:ae) (k:Nat) (e fr:ae):ae:=ak (cw e 0 22 k0) (ak [.i (k:Int),.i (J 0).Z] (ak (cw J 1 70 k6) (cZ fr)))
def roM (J:ae) (k:Nat) (r fr:ae):ae:=[.i (fr 0).Z,.i (fr 1).Z,.l (fr 2).N (fr 2).G,.l (fr 3).N (fr 3).G,.l (fr 4).N (fr 4).G,.i (k:Int),.i (J 0).Z,.i (r 0).Z,.i (r 1).Z,.l (r 2).N (r 2).G,.l (r 3).N (r 3).G,.l (r 4).N (r 4).G]
def roS (J:ae):Nat->ae × ae
 |0=>([.i (J 20).Z,.f (λ_=>0),.i 0,.i 0,.i 0,.i 0],cw J 71 5 (1+8*(1+8*(4+8*(4+8*4)))))
 |k+1=>([.i ((gZ (roC J k (roS J k).1 (roS J k).2)) 23).Z,.f ((gZ (roC J k (roS J k).1 (roS J k).2)) 24).F,.i ((gZ (roC J k (roS J k).1 (roS J k).2)) 25).Z,.i ((gZ (roC J k (roS J k).1 (roS J k).2)) 26).Z,.i ((gZ (roC J k (roS J k).1 (roS J k).2)) 27).Z,.i ((gZ (roC J k (roS J k).1 (roS J k).2)) 28).Z],cZ (JC (roM J k (li (roR J k (gZ (roC J k (roS J k).1 (roS J k).2)) (roS J k).2)) (roS J k).2)))
def roK (J:ae) (k:Nat):ae:=roC J k (roS J k).1 (roS J k).2
def roE (J:ae) (k:Nat):ae:=cw (gZ (roK J k)) 0 22 k0
def roG (J:ae):Nat->Nat->ae
 |0=>λ_=>roE J 0
 |k+1=>aE (k+1) (roG J k) λ_=>roE J (k+1)
theorem Ac {J:ae}:∀ {n k:Nat},k<=n->roG J n k=roE J k
 |0,k,h=>by have:k=0:=ac;subst this;rfl
 |n+1,k,h=>by
  show aE (n+1) (roG J n) (λ_=>roE J (n+1)) k=_;unfold aE
  by_cases e:k<n+1
  .rw[if_pos e];exact Ac ac
  .rw[if_neg e];have:k=n+1:=ac;rw[this]
def roN (J:ae):Nat:=(Int.tdiv (J 21).Z 16).toNat
def C6 (J:ae) (n:Nat):ae:=ak (cw J 5 15 k3) [.b (J 4).X,.i (J 0).Z,.i (J 20).Z,.l n (λi=>roG J (n-1) (0+i))]
def roL (J:ae):ae:=C6 J (roN J)
structure sa (J:ae):Prop where
 w:(16<=(J 21).Z/\(J 21).Z<=64)/\(J 21).Z=(J 5).Z/\(J 21).Z % 16=0
 ft:ftB J 5 14 4=true
 my:(J 0).Z<rwZ J 5 14
 fm:fmB (J 71).Z (J 72).Z (J 73).N (J 74).N (J 75).N=true
 fw:(J 71).Z=(J 21).Z
 fh:(J 72).Z % 16=0/\(J 0).Z<(J 72).Z / 16
 cd:DJ J 1
 cho:∀k,k<roN J->∀st fr,StV st->KA (roC J k st fr)
theorem Ao {J:ae} (h:sa J):(roN J:Int)=Int.tdiv (J 21).Z 16/\1<=roN J/\roN J<=4/\(roN J:Int)=(J 21).Z / 16:=by have:=h.w;have e:Int.tdiv (J 21).Z 16=(J 21).Z / 16:=Int.tdiv_eq_ediv_of_nonneg ac;unfold roN;rw[e];omega
theorem o9 {J:ae} (hp:sa J) {k:Nat} (hk:k<roN J) (hs:StV (roS J k).1):∃m,gZ (roK J k)=cw (qE (iz (roK J k) m)) 0 29 k8/\Qt (roK J k) m/\sV (iz (roK J k) m)/\pm (A5 (roK J k) m):=(aal (roK J k) (hp.cho k hk _ _ hs)).out
theorem KP {J:ae} (hp:sa J) {k:Nat} (hk:k<roN J) (hs:StV (roS J k).1):pm (roR J k (gZ (roK J k)) (roS J k).2):=by obtain⟨m,hw,-,-,hr⟩:=o9 hp hk hs;rw[hw];exact kmp hr
theorem ZI {J:ae} (hp:sa J) {k:Nat} (hk:k<roN J) (hs:StV (roS J k).1):StV (roS J (k+1)).1:=by obtain⟨m,hw,hm,-,-⟩:=o9 hp hk hs;have hv:=UE hm;have hS:StV (mpS (Zg (iz (roK J k) m))):=acl (lt8 (kmp (hv 0 afH)) (kmp (hv 1 afH)) (kmp (hv 2 afH)) (kmp (hv 3 afH)) (kmp (hv 4 afH)) (kmp (hv 5 afH)) (kmp (hv 6 afH)) (kmp (hv 7 afH))) (kmp hs.1) (kmp hs.2);show StV [.i ((gZ (roK J k)) 23).Z,.f ((gZ (roK J k)) 24).F,.i ((gZ (roK J k)) 25).Z,.i ((gZ (roK J k)) 26).Z,.i ((gZ (roK J k)) 27).Z,.i ((gZ (roK J k)) 28).Z];rw[hw];exact kmp hS
def FrS (J fr:ae):Prop:=((fr 0).Z=(J 71).Z/\(fr 1).Z=(J 72).Z)/\(fr 2).N=(J 73).N/\(fr 3).N=(J 74).N/\(fr 4).N=(J 75).N
theorem Pu (J:ae):∀k,FrS J (roS J k).2
 |0=>⟨⟨rfl,rfl⟩,rfl,rfl,rfl⟩
 |k+1=>kmp (Pu J k)
theorem pk {J:ae} (hp:sa J):∀k,k<=roN J->StV (roS J k).1
 |0,_=>⟨⟨z63,z63⟩,z63,z63⟩
 |k+1,h=>ZI hp ac (pk hp k ac)
theorem JI {J:ae} (hp:sa J) {k:Nat} (hk:k<roN J) (r:ae):SD (roM J k r (roS J k).2):=by
 obtain⟨⟨a0,a1⟩,a2,a3,a4⟩:=Pu J k;obtain⟨n1,n2,n3,n4⟩:=Ao hp;have w:=hp.w;refine⟨?_,?_,?_,?_,?_⟩
 .show fmB (at_ (roS J k).2 0).Z (at_ (roS J k).2 1).Z (at_ (roS J k).2 2).N (at_ (roS J k).2 3).N (at_ (roS J k).2 4).N=true;rw[a0,a1,a2,a3,a4];exact hp.fm
 .show(at_ (roS J k).2 0).Z % 16=0;rw[a0,hp.fw];exact w.2.2
 .show(at_ (roS J k).2 1).Z % 16=0;rw[a1];exact hp.fh.1
 .show(k:Int)<(at_ (roS J k).2 0).Z / 16;rw[a0,hp.fw];omega
 .show(J 0).Z<(at_ (roS J k).2 1).Z / 16;rw[a1];exact hp.fh.2
theorem Li {J:ae} (h:DJ J 1):slC (roL J)=[.i (J 1).Z,.i (J 2).Z,.b (J 3).X,.b (J 4).X]:=by obtain⟨c1,c2,c3,-⟩:=h;have c1:(J 1).Z=(J 14).Z:=c1;have c2:(J 2).Z=(J 15).Z:=c2;have c3:(J 3).X=(J 9).X:=c3;have e:slC (roL J)=[.i (J 14).Z,.i (J 15).Z,.b (J 9).X,.b (J 4).X]:=af;rw[e,c1,c2,c3]
theorem TV {J:ae} (hp:sa J):∀k,k<=roN J->(slY (roL J) k).2=(roS J k).1
 |0,_=>af
 |k+1,h=>by
  have ih:=TV hp k ac;obtain⟨m,hw,-,-,-⟩:=o9 hp (k:=k) ac (pk hp k ac);show mpS (slK (slC (roL J)) (slY (roL J) k).2 (roG J (roN J-1) (0+k)))=[.i ((gZ (roK J k)) 23).Z,.f ((gZ (roK J k)) 24).F,.i ((gZ (roK J k)) 25).Z,.i ((gZ (roK J k)) 26).Z,.i ((gZ (roK J k)) 27).Z,.i ((gZ (roK J k)) 28).Z];rw[ih,Nat.zero_add,Ac ac,Li hp.cd];unfold roE;rw[hw]
  kernel_rfl
theorem Tm {J:ae} (hp:sa J):XV (roL J):=by
 refine⟨kmp hp.ft,kmp hp.my,?_,λk hk=>?_⟩
 .show(roN J:Int)=Int.tdiv (J 5).Z 16;rw[<-hp.w.2.1];exact(Ao hp).1
 .have hk:k<roN J:=hk;obtain⟨m,hw,-,hf,-⟩:=o9 hp hk (pk hp k ac);show QF (slK (slC (roL J)) (slY (roL J) k).2 (roG J (roN J-1) (0+k)));rw[TV hp k ac,Nat.zero_add,Ac ac,Li hp.cd];unfold roE;rw[hw];exact kmp hf
end
end Go.Proofs.YtldmjbgplgoedaaGreatDoor
namespace Go.Proofs.YtldmjbgplgoedaaGreatDoor
noncomputable section
open Go.RowKit U
def US (J:ae) (n:Nat):ae:=ak [.i ((I8 (C6 J n)) 0).Z,.l ((I8 (C6 J n)) 1).N ((I8 (C6 J n)) 1).G] (ak (cw J 1 70 k6) (cZ (roS J n).2))
def JR (J:ae):ae:=US J (roN J)
abbrev zY:SP:=mkS ⟨[.sA O9],[.run 100 sCD]⟩ 37 Tryz.f37 [tXO (.nP 0 0),aj 0 3] [.run 100 sCD] [(4,.heads [⟨[(0,tXO (.nP 0 0)),(1,aj 0 3),(4,tXO (.nP 1 0)),(5,tXO (.nK (.slice none 0 0))),(6,tXO (.nP 2 0)),(19,aj 0 4),(20,aj 0 0)],[.run 100 sCD,.run 50 Y3,.run 189 acS],[]⟩,⟨[(0,tXO (.nP 0 0)),(1,aj 0 3),(4,tXO (.nP 1 0)),(5,tXO (.nD 2 6 1 4 0 0)),(6,tXO (.nP 3 0)),(19,aj 0 4),(20,aj 1 4)],[.run 100 sCD,.run 50 Y3,.dyn 127 6 1 4 0 g0 false,.run 189 acS],[]⟩])] [ac8,YL,aag,ad7] [(aw 98 Tryz.f98),(aw 93 Tryz.f93),(aw 101 Tryz.f101)]
theorem GV J R:TR zY J R (∃(I0:ae->Prop) (μ0:ae->Nat),I0 (ak [.i 0,.i (J 0).Z,.i (Int.tdiv (J 21).Z 16),.i 0] (ak (cw J 1 75 k1) [.i 0,.i (J 20).Z,.f (λi0=>0),.i 0,.i 0,.i 0,.i 0]))/\∀l0,I0 l0->((decide ((l0 0).Z=0))->((decide ((l0 3).Z<(l0 2).Z))->let x0:ae:=(ak (ak [.i (l0 3).Z,.i (l0 1).Z] (cw l0 80 6 37465)) (cw l0 4 75 k1));(KA x0)/\let x1:ae:=gZ x0;(1<=1)/\let x2:ae:=(ak (cw x1 0 22 k0) (ak [.i (l0 3).Z,.i (l0 1).Z] (cw l0 4 75 k1)));(pm x2)/\let x3:ae:=li x2;((cw l0 4 75 k1)=(cw l0 4 75 k1))/\let x4:ae:=(ak (cw l0 74 5 18697) (ak [.i (l0 3).Z,.i (l0 1).Z] (cw x3 0 5 18697)));(SD x4)/\let x5:ae:=JC x4;Ag I0 μ0 l0 (ak [.i 1,.i (l0 1).Z,.s 0 1,.i (l0 2).Z,.i 1] (ak (cw l0 4 70 k6) (ak (cw x5 0 5 18697) (ak [.i (l0 79).Z,.l 1 (λi0=>(cw x1 0 22 k0))] (cw x1 23 6 37465))))))/\((decide ((l0 3).Z<(l0 2).Z))=false->False))/\((decide ((l0 0).Z=0))=false->((decide ((l0 0).Z=1))->((decide ((l0 4).Z<(l0 3).Z))->((l0 4).Z<=3)/\let x6:ae:=(ak (ak [.i (l0 4).Z,.i (l0 1).Z] (cw l0 82 6 37465)) (cw l0 5 75 k1));(KA x6)/\let x7:ae:=gZ x6;(1<=1)/\((l0 2).O=0)/\((l0 2).N=(l0 81).N)/\((l0 4).Z<=3)/\let x8:ae:=(ak (cw x7 0 22 k0) (ak [.i (l0 4).Z,.i (l0 1).Z] (cw l0 5 75 k1)));(pm x8)/\let x9:ae:=li x8;((cw l0 5 75 k1)=(cw l0 5 75 k1))/\((l0 4).Z<=3)/\let x10:ae:=(ak (cw l0 75 5 18697) (ak [.i (l0 4).Z,.i (l0 1).Z] (cw x9 0 5 18697)));(SD x10)/\let x11:ae:=JC x10;(((l0 2).N+1)<=4)/\(((l0 4).Z+1)<=4)/\(((l0 2).N+1)<=4)/\Ag I0 μ0 l0 (ak [.i 1,.i (l0 1).Z,.s 0 ((l0 2).N+1),.i (l0 3).Z,.i ((l0 4).Z+1)] (ak (cw l0 5 70 k6) (ak (cw x11 0 5 18697) (ak [.i (l0 80).Z,.l ((l0 2).N+1) (aE (l0 2).N (l0 81).G (λi0=>(cw x7 0 22 k0)))] (cw x7 23 6 37465))))))/\((decide ((l0 4).Z<(l0 3).Z))=false->(((l0 2).O+(l0 2).N)<=(l0 81).N)/\let x12:ae:=(ak (cw l0 9 15 k3) [.b (l0 8).X,.i (l0 1).Z,.i (l0 24).Z,.l (l0 2).N (λi0=>(l0 81).G ((l0 2).O+i0))]);(XV x12)/\let x13:ae:=I8 x12;R (ak [.i 0,.i (x13 0).Z,.l (x13 1).N (x13 1).G] (cw l0 5 75 k1))))/\((decide ((l0 0).Z=1))=false-> False))):=af
def aaj (J:ae):ae:=ak [.i 0,.i (J 0).Z,.i (Int.tdiv (J 21).Z 16),.i 0] (ak (cw J 1 75 k1) [.i 0,.i (J 20).Z,.f (λ_=>0),.i 0,.i 0,.i 0,.i 0])
def abE (J:ae) (k:Nat):ae:=ak [.i 1,.i (J 0).Z,.s 0 (k+1),.i (Int.tdiv (J 21).Z 16),.i ((k:Int)+1)] (ak (cw J 1 70 k6) (ak (cZ (roS J (k+1)).2) [.i 0,.l (k+1) (roG J k),.i (at_ (roS J (k+1)).1 0).Z,.f (at_ (roS J (k+1)).1 1).F,.i (at_ (roS J (k+1)).1 2).Z,.i (at_ (roS J (k+1)).1 3).Z,.i (at_ (roS J (k+1)).1 4).Z,.i (at_ (roS J (k+1)).1 5).Z]))
theorem SM:PFk zY [false] zY.Y.msk sa JR:=λJ b1 b2 hp=>⟨by
 rw[GV];dsimp only;clear b1 b2;obtain⟨n1,n2,n3,n4⟩:=Ao hp;have hs:=pk hp;refine⟨λl=>l=aaj J\/∃k,k+1<=roN J/\l=abE J k,λl=>bif (l 0).Z==0 then roN J+1 else roN J-(l 4).Z.toNat,.inl af,λl hl=>?_⟩
 rcases hl with hl | ⟨k,hk,hl⟩
 .subst hl;have h0:0<roN J:=ac;refine⟨λ_=>⟨λ_=>⟨kmp (hp.cho 0 h0 _ (roS J 0).2 (hs 0 ac)),afH,kmp (KP hp h0 (hs 0 ac)),rfl,kmp (JI hp h0 (li (roR J 0 (gZ (roK J 0)) (roS J 0).2))),.inr ⟨0,ac,af⟩,?_⟩,λh=>?_⟩,λh=>?_⟩
  .show roN J-1<roN J+1;omega
  .have h:decide ((0:Int)<Int.tdiv (J 21).Z 16)=false:=kmp h;exact absurd (of_decide_eq_false h) ac
  .have h:decide ((0:Int)=0)=false:=kmp h;cases h
 .subst hl;refine⟨λh=>?_,λ_=>⟨λ_=>⟨λh=>?_,λh=>?_⟩,λh=>?_⟩⟩
  .have h:decide ((1:Int)=0)=true:=kmp h;cases h
  .have h:decide ((k:Int)+1<Int.tdiv (J 21).Z 16)=true:=kmp h;have h:=of_decide_eq_true h;have hk':k+1<roN J:=ac;have c3:(k:Int)+1<=3:=ac;have c4:k+1+1<=4:=ac;have c5:(k:Int)+1+1<=4:=ac;refine⟨kmp c3,kmp (hp.cho (k+1) hk' _ (roS J (k+1)).2 (hs (k+1) ac)),afH,af,af,kmp c3,kmp (KP hp hk' (hs (k+1) ac)),af,kmp c3,kmp (JI hp hk' (li (roR J (k+1) (gZ (roK J (k+1))) (roS J (k+1)).2))),kmp c4,kmp c5,kmp c4,.inr ⟨k+1,ac,af⟩,?_⟩;show roN J-((k:Int)+1+1).toNat<roN J-((k:Int)+1).toNat;omega
  .have h:decide ((k:Int)+1<Int.tdiv (J 21).Z 16)=false:=kmp h;have h:=of_decide_eq_false h;have hk':roN J=k+1:=ac
   have q:XV (C6 J (k+1)):=by have:=Tm hp;unfold roL at this;rw[hk']at this;exact this
   rw[show JR J=US J (k+1) by unfold JR;rw[hk']]
   have e0:0+(k+1)<=k+1:=ac;refine⟨kmp e0,kmp q,rfl,⟨ay af,ah⟩,ay af,ah⟩
  .have h:decide ((1:Int)=1)=false:=kmp h;cases h⟩
abbrev afd:List AB:=[.run 100 sCD]
abbrev acP:CT:=Ck zY [false] afd sa JR
theorem S7:CO acP:=CXk zY (TX ⟨R2,yD,Lo,Wr,ah⟩ (FK (FK (FK ah)))) SM
end
end Go.Proofs.YtldmjbgplgoedaaGreatDoor
namespace Go.Proofs.YtldmjbgplgoedaaGreatDoor
noncomputable section
open Go.RowKit U
def z5:ae:=[.i 0,.i 0,.l 0 (λ_=>[]),.l 0 (λ_=>[]),.l 0 (λ_=>[])]
def nwA (J:ae) (d s:Int):ae:=ak [.i (J 9).Z,.i (J 10).Z,.b (J 4).X,.b (J 15).X] (ak (cw J 21 15 k4) [.i d,.i s])
def qr (J:ae) (s:Int):ae:=ge (nwA J 0 s)
def Cf (J:ae) (s:Int):ae:=lq (nwA J 1 s)
def nwF (r:ae) (s:Int):ae:=dP (ak (cZ r) [.i s])
def nwB (J w0 w1 a b c d:ae):ae:=ak [.i (J 9).Z,.i (J 10).Z,.b (J 4).X,.b (J 15).X] (ak (cw J 0 15 k3) (ak [.i (J 36).Z] (ak (cw J 16 20 k7) (ak (cZ w0) (ak (cZ w1) (ak (cZ a) (ak (cZ b) (ak (cZ c) (ak (cZ d) (cZ (eY [.i (J 16).Z,.i (J 17).Z,.i 0,.i 0,.i 0])))))))))))
def nwL (J:ae):Prop:=iA [.i (J 16).Z,.i (J 17).Z,.i 0,.i 0,.i 0]
def Zb (J:ae):Prop:=nwL J
def QG (J:ae):ae:=nwB J z5 z5 z5 z5 z5 z5
abbrev Mv:SP:=mkS ⟨[.sO (.nP 0 0)],[.run 100 sCD]⟩ 36 Tryz.f36 [.tX (.sA acr),.tX (.sA [r33,r8,r15,r0,r0,r0]),aN,.tX (.sA sFF),.tX (.sA ZO),aj 1 31] [] [(3,.unroll 70),(6,.unroll 70)] [iU,qw,oP,qX] [(aw 93 Tryz.f93),(aw 95 Tryz.f95)]
theorem Dz J R:TR Mv J R (let x0:ae:=[.i (J 16).Z,.i (J 17).Z,.i 0,.i 0,.i 0];(iA x0)/\let x1:ae:=eY x0;R (ak [.i 0,.i (J 9).Z,.i (J 10).Z,.b (J 4).X,.b (J 15).X] (ak (cw J 0 15 k3) (ak [.i (J 36).Z] (ak (cw J 16 20 k7) (ak [.i 0,.i 0,.l 0 (λ_=>[]),.l 0 (λ_=>[]),.l 0 (λ_=>[]),.i 0,.i 0,.l 0 (λ_=>[]),.l 0 (λ_=>[]),.l 0 (λ_=>[]),.i 0,.i 0,.l 0 (λ_=>[]),.l 0 (λ_=>[]),.l 0 (λ_=>[]),.i 0,.i 0,.l 0 (λ_=>[]),.l 0 (λ_=>[]),.l 0 (λ_=>[]),.i 0,.i 0,.l 0 (λ_=>[]),.l 0 (λ_=>[]),.l 0 (λ_=>[]),.i 0,.i 0,.l 0 (λ_=>[]),.l 0 (λ_=>[]),.l 0 (λ_=>[])] (cw x1 0 5 18697))))))):=af
theorem RR:PF1 Mv Zb QG:=λJ _ _ p0=>⟨by rw[Dz];exact⟨kmp p0,aT rfl af⟩⟩
abbrev aa9:CT:=C1 Mv Zb QG
theorem nw1_ct:CO aa9:=CX1 (TX ⟨cE,gA,gN,dh,ah⟩ (FK (FK ah))) RR
def H6 (J:ae):Prop:=nwL J/\cA (nwA J 0 0)/\cA (nwA J 0 1)
def vK (J:ae):ae:=nwB J z5 z5 (qr J 0) (qr J 1) z5 z5
abbrev wH:SP:=mkS ⟨[.sO (.nP 0 0)],[.run 100 sCD]⟩ 36 Tryz.f36 [.tX (.sA acr),.tX (.sA [r24,am 1 2,r15,r0,r0,r0]),aN,.tX (.sA sFF),.tX (.sA ZO),aj 1 31] [] [(3,.unroll 70),(6,.unroll 70)] [iU,qw,oP,qX] [(aw 93 Tryz.f93),(aw 95 Tryz.f95)]
theorem AE J R:TR wH J R (let x0:ae:=[.i (J 16).Z,.i (J 17).Z,.i 0,.i 0,.i 0];(iA x0)/\let x1:ae:=eY x0;let x2:ae:=(ak [.i (J 9).Z,.i (J 10).Z,.b (J 4).X,.b (J 15).X] (ak (cw J 21 15 k4) [.i 0,.i 0]));(cA x2)/\let x3:ae:=ge x2;let x4:ae:=(ak [.i (J 9).Z,.i (J 10).Z,.b (J 4).X,.b (J 15).X] (ak (cw J 21 15 k4) [.i 0,.i 1]));(cA x4)/\let x5:ae:=ge x4;R (ak [.i 0,.i (J 9).Z,.i (J 10).Z,.b (J 4).X,.b (J 15).X] (ak (cw J 0 15 k3) (ak [.i (J 36).Z] (ak (cw J 16 20 k7) (ak [.i 0,.i 0,.l 0 (λ_=>[]),.l 0 (λ_=>[]),.l 0 (λ_=>[]),.i 0,.i 0,.l 0 (λ_=>[]),.l 0 (λ_=>[]),.l 0 (λ_=>[])] (ak (cw x3 0 5 18697) (ak (cw x5 0 5 18697) (ak [.i 0,.i 0,.l 0 (λ_=>[]),.l 0 (λ_=>[]),.l 0 (λ_=>[]),.i 0,.i 0,.l 0 (λ_=>[]),.l 0 (λ_=>[]),.l 0 (λ_=>[])] (cw x1 0 5 18697)))))))))):=af
theorem NR:PF1 wH H6 vK:=λJ _ _ ⟨p0,p1,p2⟩=>⟨by rw[AE];exact⟨kmp p0,kmp p1,kmp p2,aT rfl af⟩⟩
abbrev Pq:CT:=C1 wH H6 vK
theorem Pp:CO Pq:=CX1 (TX ⟨cE,gA,gN,dh,ah⟩ (FK (FK ah))) NR
def H4 (J:ae):Prop:=nwL J/\cA (nwA J 0 0)/\dp (ak (cZ (qr J 0)) [.i 0])/\cA (nwA J 0 1)/\dp (ak (cZ (qr J 1)) [.i 1])
def vg (J:ae):ae:=nwB J (qr J 1) z5 (nwF (qr J 0) 0) (nwF (qr J 1) 1) z5 z5
abbrev wo:SP:=mkS ⟨[.sO (.nP 0 0)],[.run 100 sCD]⟩ 36 Tryz.f36 [.tX (.sA aaL),.tX (.sA adA),aN,.tX (.sA sFF),.tX (.sA ZO),aj 1 31] [] [(3,.unroll 70),(6,.unroll 70)] [iU,qw,oP,qX] [(aw 93 Tryz.f93),(aw 95 Tryz.f95)]
theorem y6 J R:TR wo J R (let x0:ae:=[.i (J 16).Z,.i (J 17).Z,.i 0,.i 0,.i 0];(iA x0)/\let x1:ae:=eY x0;let x2:ae:=(ak [.i (J 9).Z,.i (J 10).Z,.b (J 4).X,.b (J 15).X] (ak (cw J 21 15 k4) [.i 0,.i 0]));(cA x2)/\let x3:ae:=ge x2;let x4:ae:=(ak (cw x3 0 5 18697) [.i 0]);(dp x4)/\let x5:ae:=dP x4;let x6:ae:=(ak [.i (J 9).Z,.i (J 10).Z,.b (J 4).X,.b (J 15).X] (ak (cw J 21 15 k4) [.i 0,.i 1]));(cA x6)/\let x7:ae:=ge x6;let x8:ae:=(ak (cw x7 0 5 18697) [.i 1]);(dp x8)/\let x9:ae:=dP x8;R (ak [.i 0,.i (J 9).Z,.i (J 10).Z,.b (J 4).X,.b (J 15).X] (ak (cw J 0 15 k3) (ak [.i (J 36).Z] (ak (cw J 16 20 k7) (ak (cw x7 0 5 18697) (ak [.i 0,.i 0,.l 0 (λ_=>[]),.l 0 (λ_=>[]),.l 0 (λ_=>[])] (ak (cw x5 0 5 18697) (ak (cw x9 0 5 18697) (ak [.i 0,.i 0,.l 0 (λ_=>[]),.l 0 (λ_=>[]),.l 0 (λ_=>[]),.i 0,.i 0,.l 0 (λ_=>[]),.l 0 (λ_=>[]),.l 0 (λ_=>[])] (cw x1 0 5 18697))))))))))):=af
theorem Nw:PF1 wo H4 vg:=λJ _ _ ⟨p0,p1,p2,p3,p4⟩=>⟨by rw[y6];exact⟨kmp p0,kmp p1,kmp p2,kmp p3,kmp p4,aT rfl af⟩⟩
abbrev Na:CT:=C1 wo H4 vg
theorem MR:CO Na:=CX1 (TX ⟨cE,gA,gN,dh,ah⟩ (FK (FK ah))) Nw
def DA (J:ae):Prop:=nwL J/\cA (nwA J 0 0)/\cA (nwA J 0 1)
def uP (J:ae):ae:=nwB J (qr J 1) z5 z5 z5 z5 z5
abbrev xd:SP:=mkS ⟨[.sO (.nP 0 0)],[.run 100 sCD]⟩ 36 Tryz.f36 [.tX (.sA X5),.tX (.sA adA),aN,.tX (.sA sFF),.tX (.sA ZO),aj 1 31] [] [(3,.unroll 70),(6,.unroll 70)] [iU,qw,oP,qX] [(aw 93 Tryz.f93),(aw 95 Tryz.f95)]
theorem Ar J R:TR xd J R (let x0:ae:=[.i (J 16).Z,.i (J 17).Z,.i 0,.i 0,.i 0];(iA x0)/\let x1:ae:=eY x0;let x2:ae:=(ak [.i (J 9).Z,.i (J 10).Z,.b (J 4).X,.b (J 15).X] (ak (cw J 21 15 k4) [.i 0,.i 0]));(cA x2)/\let x3:ae:=ge x2;let x4:ae:=(ak [.i (J 9).Z,.i (J 10).Z,.b (J 4).X,.b (J 15).X] (ak (cw J 21 15 k4) [.i 0,.i 1]));(cA x4)/\let x5:ae:=ge x4;R (ak [.i 0,.i (J 9).Z,.i (J 10).Z,.b (J 4).X,.b (J 15).X] (ak (cw J 0 15 k3) (ak [.i (J 36).Z] (ak (cw J 16 20 k7) (ak (cw x5 0 5 18697) (ak [.i 0,.i 0,.l 0 (λ_=>[]),.l 0 (λ_=>[]),.l 0 (λ_=>[]),.i 0,.i 0,.l 0 (λ_=>[]),.l 0 (λ_=>[]),.l 0 (λ_=>[]),.i 0,.i 0,.l 0 (λ_=>[]),.l 0 (λ_=>[]),.l 0 (λ_=>[]),.i 0,.i 0,.l 0 (λ_=>[]),.l 0 (λ_=>[]),.l 0 (λ_=>[]),.i 0,.i 0,.l 0 (λ_=>[]),.l 0 (λ_=>[]),.l 0 (λ_=>[])] (cw x1 0 5 18697)))))))):=af
theorem MK:PF1 xd DA uP:=λJ _ _ ⟨p0,p1,p2⟩=>⟨by rw[Ar];exact⟨kmp p0,kmp p1,kmp p2,aT rfl af⟩⟩
abbrev LL:CT:=C1 xd DA uP
theorem OI:CO LL:=CX1 (TX ⟨cE,gA,gN,dh,ah⟩ (FK (FK ah))) MK
def Dk (J:ae):Prop:=nwL J/\cA (nwA J 0 0)/\cA (nwA J 0 1)/\im (nwA J 1 0)/\im (nwA J 1 1)
def vX (J:ae):ae:=nwB J z5 z5 (qr J 0) (qr J 1) (Cf J 0) (Cf J 1)
abbrev AJ:SP:=mkS ⟨[.sO (.nP 0 0)],[.run 100 sCD]⟩ 36 Tryz.f36 [.tX (.sA acr),.tX (.sA [r28,am 1 2,r15,r0,r0,r0]),aN,.tX (.sA sFF),.tX (.sA ZO),aj 1 31] [] [(3,.unroll 70),(6,.unroll 70)] [iU,qw,oP,qX] [(aw 93 Tryz.f93),(aw 95 Tryz.f95)]
theorem xH J R:TR AJ J R (let x0:ae:=[.i (J 16).Z,.i (J 17).Z,.i 0,.i 0,.i 0];(iA x0)/\let x1:ae:=eY x0;let x2:ae:=(ak [.i (J 9).Z,.i (J 10).Z,.b (J 4).X,.b (J 15).X] (ak (cw J 21 15 k4) [.i 0,.i 0]));(cA x2)/\let x3:ae:=ge x2;let x4:ae:=(ak [.i (J 9).Z,.i (J 10).Z,.b (J 4).X,.b (J 15).X] (ak (cw J 21 15 k4) [.i 0,.i 1]));(cA x4)/\let x5:ae:=ge x4;let x6:ae:=(ak [.i (J 9).Z,.i (J 10).Z,.b (J 4).X,.b (J 15).X] (ak (cw J 21 15 k4) [.i 1,.i 0]));(im x6)/\let x7:ae:=lq x6;let x8:ae:=(ak [.i (J 9).Z,.i (J 10).Z,.b (J 4).X,.b (J 15).X] (ak (cw J 21 15 k4) [.i 1,.i 1]));(im x8)/\let x9:ae:=lq x8;R (ak [.i 0,.i (J 9).Z,.i (J 10).Z,.b (J 4).X,.b (J 15).X] (ak (cw J 0 15 k3) (ak [.i (J 36).Z] (ak (cw J 16 20 k7) (ak [.i 0,.i 0,.l 0 (λ_=>[]),.l 0 (λ_=>[]),.l 0 (λ_=>[]),.i 0,.i 0,.l 0 (λ_=>[]),.l 0 (λ_=>[]),.l 0 (λ_=>[])] (ak (cw x3 0 5 18697) (ak (cw x5 0 5 18697) (ak (cw x7 0 5 18697) (ak (cw x9 0 5 18697) (cw x1 0 5 18697))))))))))):=af
theorem Pi:PF1 AJ Dk vX:=λJ _ _ ⟨p0,p1,p2,p3,p4⟩=>⟨by rw[xH];exact⟨kmp p0,kmp p1,kmp p2,kmp p3,kmp p4,aT rfl af⟩⟩
abbrev NW:CT:=C1 AJ Dk vX
theorem LC:CO NW:=CX1 (TX ⟨cE,gA,gN,dh,ah⟩ (FK (FK ah))) Pi
def DT (J:ae):Prop:=nwL J/\cA (nwA J 0 0)/\dp (ak (cZ (qr J 0)) [.i 0])/\cA (nwA J 0 1)/\dp (ak (cZ (qr J 1)) [.i 1])/\im (nwA J 1 0)/\dp (ak (cZ (Cf J 0)) [.i 0])/\im (nwA J 1 1)/\dp (ak (cZ (Cf J 1)) [.i 1])
def uH (J:ae):ae:=nwB J (qr J 1) (Cf J 1) (nwF (qr J 0) 0) (nwF (qr J 1) 1) (nwF (Cf J 0) 0) (nwF (Cf J 1) 1)
abbrev yb:SP:=mkS ⟨[.sO (.nP 0 0)],[.run 100 sCD]⟩ 36 Tryz.f36 [.tX (.sA aaL),.tX (.sA ac0),aN,.tX (.sA sFF),.tX (.sA ZO),aj 1 31] [] [(3,.unroll 70),(6,.unroll 70)] [iU,qw,oP,qX] [(aw 93 Tryz.f93),(aw 95 Tryz.f95)]
theorem zK J R:TR yb J R (let x0:ae:=[.i (J 16).Z,.i (J 17).Z,.i 0,.i 0,.i 0];(iA x0)/\let x1:ae:=eY x0;let x2:ae:=(ak [.i (J 9).Z,.i (J 10).Z,.b (J 4).X,.b (J 15).X] (ak (cw J 21 15 k4) [.i 0,.i 0]));(cA x2)/\let x3:ae:=ge x2;let x4:ae:=(ak (cw x3 0 5 18697) [.i 0]);(dp x4)/\let x5:ae:=dP x4;let x6:ae:=(ak [.i (J 9).Z,.i (J 10).Z,.b (J 4).X,.b (J 15).X] (ak (cw J 21 15 k4) [.i 0,.i 1]));(cA x6)/\let x7:ae:=ge x6;let x8:ae:=(ak (cw x7 0 5 18697) [.i 1]);(dp x8)/\let x9:ae:=dP x8;let x10:ae:=(ak [.i (J 9).Z,.i (J 10).Z,.b (J 4).X,.b (J 15).X] (ak (cw J 21 15 k4) [.i 1,.i 0]));(im x10)/\let x11:ae:=lq x10;let x12:ae:=(ak (cw x11 0 5 18697) [.i 0]);(dp x12)/\let x13:ae:=dP x12;let x14:ae:=(ak [.i (J 9).Z,.i (J 10).Z,.b (J 4).X,.b (J 15).X] (ak (cw J 21 15 k4) [.i 1,.i 1]));(im x14)/\let x15:ae:=lq x14;let x16:ae:=(ak (cw x15 0 5 18697) [.i 1]);(dp x16)/\let x17:ae:=dP x16;R (ak [.i 0,.i (J 9).Z,.i (J 10).Z,.b (J 4).X,.b (J 15).X] (ak (cw J 0 15 k3) (ak [.i (J 36).Z] (ak (cw J 16 20 k7) (ak (cw x7 0 5 18697) (ak (cw x15 0 5 18697) (ak (cw x5 0 5 18697) (ak (cw x9 0 5 18697) (ak (cw x13 0 5 18697) (ak (cw x17 0 5 18697) (cw x1 0 5 18697)))))))))))):=af
theorem PW:PF1 yb DT uH:=λJ _ _ ⟨p0,p1,p2,p3,p4,p5,p6,p7,p8⟩=>⟨by rw[zK];exact⟨kmp p0,kmp p1,kmp p2,kmp p3,kmp p4,kmp p5,kmp p6,kmp p7,kmp p8,aT rfl af⟩⟩
abbrev L9:CT:=C1 yb DT uH
theorem NN:CO L9:=CX1 (TX ⟨cE,gA,gN,dh,ah⟩ (FK (FK ah))) PW
def HH (J:ae):Prop:=nwL J/\cA (nwA J 0 0)/\cA (nwA J 0 1)/\im (nwA J 1 0)/\im (nwA J 1 1)
def vp (J:ae):ae:=nwB J (qr J 1) (Cf J 1) z5 z5 z5 z5
abbrev xq:SP:=mkS ⟨[.sO (.nP 0 0)],[.run 100 sCD]⟩ 36 Tryz.f36 [.tX (.sA X5),.tX (.sA ac0),aN,.tX (.sA sFF),.tX (.sA ZO),aj 1 31] [] [(3,.unroll 70),(6,.unroll 70)] [iU,qw,oP,qX] [(aw 93 Tryz.f93),(aw 95 Tryz.f95)]
theorem zT J R:TR xq J R (let x0:ae:=[.i (J 16).Z,.i (J 17).Z,.i 0,.i 0,.i 0];(iA x0)/\let x1:ae:=eY x0;let x2:ae:=(ak [.i (J 9).Z,.i (J 10).Z,.b (J 4).X,.b (J 15).X] (ak (cw J 21 15 k4) [.i 0,.i 0]));(cA x2)/\let x3:ae:=ge x2;let x4:ae:=(ak [.i (J 9).Z,.i (J 10).Z,.b (J 4).X,.b (J 15).X] (ak (cw J 21 15 k4) [.i 0,.i 1]));(cA x4)/\let x5:ae:=ge x4;let x6:ae:=(ak [.i (J 9).Z,.i (J 10).Z,.b (J 4).X,.b (J 15).X] (ak (cw J 21 15 k4) [.i 1,.i 0]));(im x6)/\let x7:ae:=lq x6;let x8:ae:=(ak [.i (J 9).Z,.i (J 10).Z,.b (J 4).X,.b (J 15).X] (ak (cw J 21 15 k4) [.i 1,.i 1]));(im x8)/\let x9:ae:=lq x8;R (ak [.i 0,.i (J 9).Z,.i (J 10).Z,.b (J 4).X,.b (J 15).X] (ak (cw J 0 15 k3) (ak [.i (J 36).Z] (ak (cw J 16 20 k7) (ak (cw x5 0 5 18697) (ak (cw x9 0 5 18697) (ak [.i 0,.i 0,.l 0 (λ_=>[]),.l 0 (λ_=>[]),.l 0 (λ_=>[]),.i 0,.i 0,.l 0 (λ_=>[]),.l 0 (λ_=>[]),.l 0 (λ_=>[]),.i 0,.i 0,.l 0 (λ_=>[]),.l 0 (λ_=>[]),.l 0 (λ_=>[]),.i 0,.i 0,.l 0 (λ_=>[]),.l 0 (λ_=>[]),.l 0 (λ_=>[])] (cw x1 0 5 18697))))))))):=af
theorem OM:PF1 xq HH vp:=λJ _ _ ⟨p0,p1,p2,p3,p4⟩=>⟨by rw[zT];exact⟨kmp p0,kmp p1,kmp p2,kmp p3,kmp p4,aT rfl af⟩⟩
abbrev OC:CT:=C1 xq HH vp
theorem MP:CO OC:=CX1 (TX ⟨cE,gA,gN,dh,ah⟩ (FK (FK ah))) OM
def abI (J:ae):Prop:=((J 9).Z=1/\Zb J)\/((J 9).Z=2/\(((J 10).Z≠3/\H6 J)\/((J 10).Z=3/\(((J 4).X=true/\H4 J)\/((J 4).X=false/\DA J)))))\/((J 9).Z=3/\(((J 10).Z≠3/\Dk J)\/((J 10).Z=3/\(((J 4).X=true/\DT J)\/((J 4).X=false/\HH J)))))
def cn (J:ae):ae:=bif (J 9).Z==1 then QG J else bif (J 9).Z==2 then(bif (J 10).Z !=3 then vK J else bif (J 4).X then vg J else uP J)else(bif (J 10).Z !=3 then vX J else bif (J 4).X then uH J else vp J)
abbrev rG:List AT:=[.tX (.sA acr),.tX (.sA ack),aN,.tX (.sA sFF),.tX (.sA ZO),aj 1 31]
abbrev IP:List AB:=[]
abbrev rQ:Wy:=⟨[.sO (.nP 0 0)],[.run 100 sCD]⟩
abbrev adl:CT:=CS 36 rG IP rQ abI cn
theorem Mo (J:ae) (R:ae->Prop):apR aa9 (au rG J) (an IP (tls (aG rG) J)) rQ R=(((J 9).Z<=1)/\let anw141753:ae:=(cw J 0 37 k13);(Zb anw141753)/\let rnw141753:ae:=QG anw141753;R (ak [.i 0] (cw rnw141753 0 75 k1))):=af
theorem FB (J:ae) (R:ae->Prop):apR Pq (au rG J) (an IP (tls (aG rG) J)) rQ R=((2<=(J 9).Z)/\((J 9).Z<=2)/\((J 10).Z<=2)/\let anw2f41753:ae:=(cw J 0 37 k13);(H6 anw2f41753)/\let rnw2f41753:ae:=vK anw2f41753;R (ak [.i 0] (cw rnw2f41753 0 75 k1))):=af
theorem Dj (J:ae) (R:ae->Prop):apR Na (au rG J) (an IP (tls (aG rG) J)) rQ R=(((J 4).X=true)/\(2<=(J 9).Z)/\((J 9).Z<=2)/\(3<=(J 10).Z)/\let anw2i41753:ae:=(cw J 0 37 k13);(H4 anw2i41753)/\let rnw2i41753:ae:=vg anw2i41753;R (ak [.i 0] (cw rnw2i41753 0 75 k1))):=af
theorem BT (J:ae) (R:ae->Prop):apR LL (au rG J) (an IP (tls (aG rG) J)) rQ R=(((J 4).X=false)/\(2<=(J 9).Z)/\((J 9).Z<=2)/\(3<=(J 10).Z)/\let anw2p41753:ae:=(cw J 0 37 k13);(DA anw2p41753)/\let rnw2p41753:ae:=uP anw2p41753;R (ak [.i 0] (cw rnw2p41753 0 75 k1))):=af
theorem DV (J:ae) (R:ae->Prop):apR NW (au rG J) (an IP (tls (aG rG) J)) rQ R=((3<=(J 9).Z)/\((J 10).Z<=2)/\let anw3f41753:ae:=(cw J 0 37 k13);(Dk anw3f41753)/\let rnw3f41753:ae:=vX anw3f41753;R (ak [.i 0] (cw rnw3f41753 0 75 k1))):=af
theorem Dm (J:ae) (R:ae->Prop):apR L9 (au rG J) (an IP (tls (aG rG) J)) rQ R=(((J 4).X=true)/\(3<=(J 9).Z)/\(3<=(J 10).Z)/\let anw3i41753:ae:=(cw J 0 37 k13);(DT anw3i41753)/\let rnw3i41753:ae:=uH anw3i41753;R (ak [.i 0] (cw rnw3i41753 0 75 k1))):=af
theorem IG (J:ae) (R:ae->Prop):apR OC (au rG J) (an IP (tls (aG rG) J)) rQ R=(((J 4).X=false)/\(3<=(J 9).Z)/\(3<=(J 10).Z)/\let anw3p41753:ae:=(cw J 0 37 k13);(HH anw3p41753)/\let rnw3p41753:ae:=vp anw3p41753;R (ak [.i 0] (cw rnw3p41753 0 75 k1))):=af
theorem TU:cV KX Tryz.prog GX adl:=lH nw1_ct.call λJ b1 hp=>by
 have s2:(J 10).Z<=3:=by obtain⟨-,⟨-,s,-⟩,-⟩:=b1;exact s.2
 clear b1;rcases hp with ⟨t,p⟩ | ⟨t,⟨s,p⟩ | ⟨s,⟨i,p⟩ | ⟨i,p⟩⟩⟩ | ⟨t,⟨s,p⟩ | ⟨s,⟨i,p⟩ | ⟨i,p⟩⟩⟩
 .refine⟨aa9,nw1_ct,rfl,bD (R:=λl=>(hd l).Z=0/\agW KX rQ (tl l) (cn J)) ?_⟩;rw[Mo,show cn J=QG J by unfold cn;rw[t];rfl]
  exact⟨ac,kmp p,aT rfl af⟩
 .refine⟨Pq,Pp,rfl,bD (R:=λl=>(hd l).Z=0/\agW KX rQ (tl l) (cn J)) ?_⟩;rw[FB,show cn J=vK J by unfold cn;rw[t,show((J 10).Z !=3)=true by rw[bne_iff_ne];exact s];rfl]
  exact⟨ac,ac,ac,kmp p,aT rfl af⟩
 .refine⟨Na,MR,rfl,bD (R:=λl=>(hd l).Z=0/\agW KX rQ (tl l) (cn J)) ?_⟩;rw[Dj,show cn J=vg J by unfold cn;rw[t,s,i];rfl]
  exact⟨i,ac,ac,ac,kmp p,aT rfl af⟩
 .refine⟨LL,OI,rfl,bD (R:=λl=>(hd l).Z=0/\agW KX rQ (tl l) (cn J)) ?_⟩;rw[BT,show cn J=uP J by unfold cn;rw[t,s,i];rfl]
  exact⟨i,ac,ac,ac,kmp p,aT rfl af⟩
 .refine⟨NW,LC,rfl,bD (R:=λl=>(hd l).Z=0/\agW KX rQ (tl l) (cn J)) ?_⟩;rw[DV,show cn J=vX J by unfold cn;rw[t,show((J 10).Z !=3)=true by rw[bne_iff_ne];exact s];rfl]
  exact⟨ac,ac,kmp p,aT rfl af⟩
 .refine⟨L9,NN,rfl,bD (R:=λl=>(hd l).Z=0/\agW KX rQ (tl l) (cn J)) ?_⟩;rw[Dm,show cn J=uH J by unfold cn;rw[t,s,i];rfl]
  exact⟨i,ac,ac,kmp p,aT rfl af⟩
 .refine⟨OC,MP,rfl,bD (R:=λl=>(hd l).Z=0/\agW KX rQ (tl l) (cn J)) ?_⟩;rw[IG,show cn J=vp J by unfold cn;rw[t,s,i];rfl]
  exact⟨i,ac,ac,kmp p,aT rfl af⟩
end
end Go.Proofs.YtldmjbgplgoedaaGreatDoor
