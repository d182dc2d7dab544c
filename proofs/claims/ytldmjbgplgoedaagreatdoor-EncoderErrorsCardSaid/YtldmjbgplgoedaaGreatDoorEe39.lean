import Derived.Test.YtldmjbgplgoedaaGreatDoorEe38
set_option linter.all false
namespace Go.Proofs.YtldmjbgplgoedaaGreatDoor
noncomputable section
open Go.RowKit U
def tv (_:ae):Prop:=True
def L3 (J:ae):ae:=[.b ((J 8).X&&((J 14).Z==3))]
abbrev oM:SP:=mkS ⟨[bm],[.run 100 sCD]⟩ 261 Tryz.f261 [tXO (.nP 0 0)] [.run 100 sCD] []
theorem H2 J R:TR oM J R (((J 8).X->
 R (ak [.i 0,.b ((J 14).Z==3)] (cw J 0 75 k1))) /\
((J 8).X=false -> R (ak [.i 0,.b false] (cw J 0 75 k1)))):=af
theorem Rp:PFk oM [true] [] tv L3:=λJ b1 b2 hp=>⟨by
 rw[H2];dsimp only;refine⟨λh=>?_,λh=>?_⟩
 .exact⟨rfl,⟨show((J 14).Z==3)=((J 8).X&&((J 14).Z==3)) by rw[h];rfl,ah⟩,ay af,ah⟩
 .exact⟨rfl,⟨show false=((J 8).X&&((J 14).Z==3)) by rw[h];rfl,ah⟩,ay af,ah⟩⟩
abbrev acd:List AB:=[]
abbrev aff:CT:=Ck oM [true] acd tv L3
theorem JB:CO aff:=CXk oM (TX trivial ah) Rp
abbrev abp:List AB:=[.run 100 qL1]
abbrev SU:CT:=CK 261 oM.A abp [true] oM.Y.sk acd tv L3
theorem PG:cV KX Tryz.prog GX SU:=ju JB af λ_=>af
abbrev abc:List AB:=[.run 100 qL2]
abbrev XM:CT:=CK 261 oM.A abc [true] oM.Y.sk acd tv L3
theorem PM:cV KX Tryz.prog GX XM:=ju JB af λ_=>af
abbrev VX:List AB:=[.run 100 qL1,.run 396 qL4]
abbrev KC:CT:=CK 328 bR.A VX [true,false] bR.Y.sk Z8 IQ Jq
theorem CX:cV KX Tryz.prog GX KC:=ju Lb af λ_=>af
abbrev Td:List AB:=[.run 100 qL1,.run 396 qL4]
abbrev Kv:CT:=CK 330 bU.A Td [true,false] bU.Y.sk abK K4 JU
theorem D9:cV KX Tryz.prog GX Kv:=ju JO af λ_=>af
abbrev R4:List AB:=[.run 100 qL2,.run 396 qL4]
abbrev JH:CT:=CK 328 bR.A R4 [true,false] bR.Y.sk Z8 IQ Jq
theorem HB:cV KX Tryz.prog GX JH:=ju Lb af λ_=>af
abbrev RG:List AB:=[.run 100 qL2,.run 396 qL4]
abbrev K7:CT:=CK 330 bU.A RG [true,false] bU.Y.sk abK K4 JU
theorem D4:cV KX Tryz.prog GX K7:=ju JO af λ_=>af
abbrev UI:List AB:=[.run 100 qL2,.run 396 qL4]
abbrev IM:CT:=CK 328 cf.A UI [true,false] cf.Y.sk acA Qm VY
theorem Cc:cV KX Tryz.prog GX IM:=ju RY af λ_=>af
abbrev VD:List AB:=[.run 100 qL2,.run 396 qL4]
abbrev K0:CT:=CK 330 cg.A VD [true,false] cg.Y.sk adj Qe Sy
theorem DE:cV KX Tryz.prog GX K0:=ju Rx af λ_=>af
structure PnE (ty st:Int) (il:Bool) (e:ae):Prop where
 kind:(e 0).Z=2
 uses:UX ty st il (e 1).X (e 2).X (e 3).X
 dct:(e 4).X=false
 d0:lm st (e 1).X (e 3).X (e 5).Z (e 6).Z (e 7).Z (e 8).Z ((e 13).F 0) ((e 13).F 1)
 d1:lm st (e 2).X (e 3).X (e 9).Z (e 10).Z (e 11).Z (e 12).Z ((e 13).F 2) ((e 13).F 3)
 delta:(e 14).Z=0
 cod:∀n,n<6->bAt (coB e 0) n=false
 lev:∀i,i<384->(e 21).F i=0
 v:∀j,j<8->-63<=(e (5+j)).Z/\(e (5+j)).Z<=63
 s:∀i,i<4->0<=(e 13).F i/\(e 13).F i<=1
theorem lt8 {p:Nat->Prop} (h0:p 0) (h1:p 1) (h2:p 2) (h3:p 3) (h4:p 4) (h5:p 5) (h6:p 6) (h7:p 7):∀i,i<8->p i
 |0,_=>h0
 |1,_=>h1
 |2,_=>h2
 |3,_=>h3
 |4,_=>h4
 |5,_=>h5
 |6,_=>h6
 |7,_=>h7
theorem z63:(-63:Int)<=0/\(0:Int)<=63:=afH
theorem z01 {x:Int} (h:x=0):0<=x/\x<=1:=ac
def YK (u0 u1 fp:Bool):ae:=[.i 2,.b u0,.b u1,.b fp,.b false,.i 0,.i 0,.i 0,.i 0,.i 0,.i 0,.i 0,.i 0,.f (λ_=>0),.i 0,.b false,.b false,.b false,.b false,.b false,.b false,.f (λ_=>0)]
theorem tq:∀n,n<6->bAt [false,false,false,false,false,false] n=false:=λn _=>by rcases n with _ | _ | _ | _ | _ | _ | n<;>rfl
section
variable {K r:ae} {ty st:Int} {il:Bool}
theorem IN (q:Zv K r) (hs:(K 24).Z=st) (hK:cw K 85 22 k0=YK true false false) (hF:(K 98).F=λ_=>0):PnE ty st il (cw r 0 22 k0):=by
 obtain⟨q1,q2,q3,q4⟩:=q;rw[hF,hs]at q2;rw[hs]at q4;rw[show cw r 0 22 k0=[.i 2,.b true,.b false,.b false,.b false,.i (r 5).Z,.i (r 6).Z,.i 0,.i 0,.i 0,.i 0,.i 0,.i 0,.f (r 13).F,.i 0,.b false,.b false,.b false,.b false,.b false,.b false,.f (λ_=>0)] from(congrArg (λr=>cw r 0 22 k0) q1).trans (by unfold fwV;rw[hK];kernel_rfl)]
 have s1:=q2 1 afH (Or.inr afH);have s2:=q2 2 afH (Or.inr afH);have s3:=q2 3 afH (Or.inr afH);exact⟨rfl,⟨λ_=>⟨rfl,rfl⟩,Or.inl rfl,λh=>by cases h⟩,rfl,⟨λh=>(by cases h),λ_=>⟨rfl,rfl,s1⟩,λ_ h=>q2 0 afH (Or.inl h)⟩,⟨λ_=>⟨rfl,rfl,rfl,rfl,s2,s3⟩,λ_=>⟨rfl,rfl,s3⟩,λ_ _=>s2⟩,rfl,tq,λ_ _=>rfl,lt8 q3.1 q3.2 z63 z63 z63 z63 z63 z63,lt4 (q4.elim (λh=>z01 (q2 0 afH (Or.inl h))) id) (z01 s1) (z01 s2) (z01 s3)⟩
theorem W5 (q:Y8 K r) (ht:ty=3) (hs:(K 24).Z=st) (hK:cw K 107 22 k0=YK false true false) (hF:(K 120).F=λ_=>0):PnE ty st il (cw r 22 22 k0):=by
 obtain⟨q1,q2,q3,q4⟩:=q;rw[hF,hs]at q2;rw[hs]at q4;rw[show cw r 22 22 k0=[.i 2,.b false,.b true,.b false,.b false,.i 0,.i 0,.i 0,.i 0,.i (r 31).Z,.i (r 32).Z,.i 0,.i 0,.f (r 35).F,.i 0,.b false,.b false,.b false,.b false,.b false,.b false,.f (λ_=>0)] from(congrArg (λr=>cw r 22 22 k0) q1).trans (by unfold fwV;rw[hK];kernel_rfl)]
 have s0:=q2 0 afH (Or.inr afH);have s1:=q2 1 afH (Or.inr afH);have s3:=q2 3 afH (Or.inr afH);exact⟨rfl,⟨λh=>ac,Or.inr rfl,λh=>by cases h⟩,rfl,⟨λ_=>⟨rfl,rfl,rfl,rfl,s0,s1⟩,λ_=>⟨rfl,rfl,s1⟩,λ_ _=>s0⟩,⟨λh=>(by cases h),λ_=>⟨rfl,rfl,s3⟩,λ_ h=>q2 2 afH (Or.inl h)⟩,rfl,tq,λ_ _=>rfl,lt8 z63 z63 z63 z63 q3.1 q3.2 z63 z63,lt4 (z01 s0) (z01 s1) (q4.elim (λh=>z01 (q2 2 afH (Or.inl h))) id) (z01 s3)⟩
theorem KV (q:Zu K r) (hs:st=3) (hi:il=true) (hK:cw K 85 22 k0=YK true false true) (hF:(K 98).F=λ_=>0):PnE ty st il (cw r 0 22 k0):=by
 obtain⟨q1,q2,q3,q4⟩:=q;rw[hF]at q2;rw[show cw r 0 22 k0=[.i 2,.b true,.b false,.b true,.b false,.i (r 5).Z,.i (r 6).Z,.i (r 7).Z,.i (r 8).Z,.i 0,.i 0,.i 0,.i 0,.f (r 13).F,.i 0,.b false,.b false,.b false,.b false,.b false,.b false,.f (λ_=>0)] from(congrArg (λr=>cw r 0 22 k0) q1).trans (by unfold fwV;rw[hK];kernel_rfl)]
 have s2:=q2 2 afH afH;have s3:=q2 3 afH afH;exact⟨rfl,⟨λ_=>⟨rfl,rfl⟩,Or.inl rfl,λ_=>⟨hi,hs⟩⟩,rfl,⟨λh=>(by cases h),λh=>(by cases h),λh=>(by cases h)⟩,⟨λ_=>⟨rfl,rfl,rfl,rfl,s2,s3⟩,λh=>(by cases h),λh=>(by cases h)⟩,rfl,tq,λ_ _=>rfl,lt8 q3.1.1 q3.1.2 q4.1.1 q4.1.2 z63 z63 z63 z63,lt4 q3.2 q4.2 (z01 s2) (z01 s3)⟩
theorem Tb (q:YG K r) (ht:ty=3) (hs:st=3) (hi:il=true) (hK:cw K 107 22 k0=YK false true true) (hF:(K 120).F=λ_=>0):PnE ty st il (cw r 22 22 k0):=by
 obtain⟨q1,q2,q3,q4⟩:=q;rw[hF]at q2;rw[show cw r 22 22 k0=[.i 2,.b false,.b true,.b true,.b false,.i 0,.i 0,.i 0,.i 0,.i (r 31).Z,.i (r 32).Z,.i (r 33).Z,.i (r 34).Z,.f (r 35).F,.i 0,.b false,.b false,.b false,.b false,.b false,.b false,.f (λ_=>0)] from(congrArg (λr=>cw r 22 22 k0) q1).trans (by unfold fwV;rw[hK];kernel_rfl)]
 have s0:=q2 0 afH afH;have s1:=q2 1 afH afH;exact⟨rfl,⟨λh=>ac,Or.inr rfl,λ_=>⟨hi,hs⟩⟩,rfl,⟨λ_=>⟨rfl,rfl,rfl,rfl,s0,s1⟩,λh=>(by cases h),λh=>(by cases h)⟩,⟨λh=>(by cases h),λh=>(by cases h),λh=>(by cases h)⟩,rfl,tq,λ_ _=>rfl,lt8 z63 z63 z63 z63 q3.1.1 q3.1.2 q4.1.1 q4.1.2,lt4 (z01 s0) (z01 s1) q3.2 q4.2⟩
def PR (r:ae):Nat->Int:=zAt [.a 2 .i64 0 1 (r 13).F,.a 2 .i64 0 1 (λi0=>(r 35).F (i0+2)),.c (.nI .i64 0 0 (r 14).Z),.c (.nB true false (r 15).X),.c (.nB true false (r 16).X),.c (.nB true false (r 17).X),.c (.nB true false (r 18).X),.c (.nB true false (r 19).X),.c (.nB true false (r 20).X),.a 384 .i64 0 0 (r 21).F]
def acf (r:ae) (F:Nat->Int):ae:=[.i (r 0).Z,.b (r 1).X,.b true,.b (r 3).X,.b (r 4).X,.i (r 5).Z,.i (r 6).Z,.i (r 7).Z,.i (r 8).Z,.i (r 31).Z,.i (r 32).Z,.i (r 33).Z,.i (r 34).Z,.f F,.i (r 14).Z,.b (r 15).X,.b (r 16).X,.b (r 17).X,.b (r 18).X,.b (r 19).X,.b (r 20).X,.f (r 21).F]
theorem V9 {F:Nat->Int} (h0:PnE 3 st il (cw r 0 22 k0)) (h1:PnE 3 st il (cw r 22 22 k0)) (u1:(r 24).X=true) (hf:(r 25).X=(r 3).X) (s0:F 0=(r 13).F 0) (s1:F 1=(r 13).F 1) (s2:F 2=(r 35).F 2) (s3:F 3=(r 35).F 3):PnE 3 st il (acf r F):=by
 have a:=kmp h0.d0 (by kernel_rfl:_=lm st (r 1).X (r 3).X (r 5).Z (r 6).Z (r 7).Z (r 8).Z ((r 13).F 0) ((r 13).F 1))
 have b:=kmp h1.d1 (by kernel_rfl:_=lm st (r 24).X (r 25).X (r 31).Z (r 32).Z (r 33).Z (r 34).Z ((r 35).F 2) ((r 35).F 3))
 rw[u1,hf,<-s2,<-s3]at b;rw[<-s0,<-s1]at a;exact⟨kmp h0.kind,⟨λh=>ac,Or.inr rfl,kmp h0.uses.2.2⟩,kmp h0.dct,kmp a,kmp b,kmp h0.delta,kmp h0.cod,kmp h0.lev,lt8 (kmp (h0.v 0 afH)) (kmp (h0.v 1 afH)) (kmp (h0.v 2 afH)) (kmp (h0.v 3 afH)) (kmp (h1.v 4 afH)) (kmp (h1.v 5 afH)) (kmp (h1.v 6 afH)) (kmp (h1.v 7 afH)),lt4 (kmp (s0 ▸ h0.s 0 afH)) (kmp (s1 ▸ h0.s 1 afH)) (kmp (s2 ▸ h1.s 2 afH)) (kmp (s3 ▸ h1.s 3 afH))⟩
end
def PnP (J:ae) (c d:Nat):Prop:=VB J (9+2*d)/\((J (c+14)).Z≠3\/(J (c+8)).X->gl J (c+50+10*d)/\gl J (c+55+10*d))/\((J (c+14)).Z=3->gl J (c+40+5*d))
def PnQ (ty st:Int) (il:Bool) (w:ae):Prop:=(1<=(w 0).N/\(w 0).N<=6)/\∀i,i<(w 0).N->PnE ty st il ((w 0).G i)
theorem lt1 {p:Nat->Prop} (h0:p 0):∀i,i<1->p i
 |0,_=>h0
theorem lt2 {p:Nat->Prop} (h0:p 0) (h1:p 1):∀i,i<2->p i
 |0,_=>h0
 |1,_=>h1
theorem lt3 {p:Nat->Prop} (h0:p 0) (h1:p 1) (h2:p 2):∀i,i<3->p i
 |0,_=>h0
 |1,_=>h1
 |2,_=>h2
theorem lt6 {p:Nat->Prop} (h0:p 0) (h1:p 1) (h2:p 2) (h3:p 3) (h4:p 4) (h5:p 5):∀i,i<6->p i
 |0,_=>h0
 |1,_=>h1
 |2,_=>h2
 |3,_=>h3
 |4,_=>h4
 |5,_=>h5
theorem bkT {l:ae} (h:(!((L3 l) 0).X)->False):(l 8).X=true/\(l 14).Z=3:=by
 have h:(!((l 8).X&&((l 14).Z==3)))->False:=h;cases e:(l 8).X
 .rw[e]at h;exact absurd rfl h
 .rw[e]at h;refine⟨rfl,?_⟩
  have h:((l 14).Z==3)=true:=by
   cases e':((l 14).Z==3)
   .rw[e']at h;exact absurd rfl h
   .rfl
  exact eq_of_beq h
def QU (J:ae):Prop:=PnP J 13 0
def acb (J w:ae):Prop:=PnQ 2 (J 27).Z (J 21).X w
abbrev dx:SP:=mkS ⟨[.sO (.nR 6 1 6 0 g0)],[.run 100 qL1]⟩ 267 Tryz.f267 [tXO (.nP 0 0),.tX (.sA bJ),aj 0 3,aj 0 3,.tX (.sA lh)] [.run 100 qL1] [(4,.unroll 70),(9,.unroll 70)] [KC,Kv,SU] [(aw 327 Tryz.f327),(aw 329 Tryz.f329),(aw 95 Tryz.f95)]
theorem Bq J R:TR1 dx J R (let x0:ae:=(ak [.i 0,.i (J 0).Z,.i (J 1).Z,.l (J 2).N (J 2).G,.l (J 3).N (J 3).G,.l (J 4).N (J 4).G,.i (J 5).Z,.i (J 6).Z,.i (J 9).Z,.i (J 10).Z] (ak (cw J 13 75 k1) [.i 2,.b true,.b false,.b false,.b false,.i 0,.i 0,.i 0,.i 0,.i 0,.i 0,.i 0,.i 0,.f (λi0=>0),.i 0,.b false,.b false,.b false,.b false,.b false,.b false,.f (λ_=>0),.i 0,.b false,.b false,.b false,.b false,.i 0,.i 0,.i 0,.i 0,.i 0,.i 0,.i 0,.i 0,.f (λi0=>0),.i 0,.b false,.b false,.b false,.b false,.b false,.b false,.f (λ_=>0)]));(IQ x0)/\let x1:ae:=Jq x0;((cw J 13 75 k1)=(cw J 13 75 k1))/\(1<=1)/\let x2:ae:=(cw J 13 75 k1);(tv x2)/\let x3:ae:=L3 x2;((!(x3 0).X)->
 (1<=1)/\R (ak [.i 0,.l 1 (λi0=>(cw x1 0 22 k0))] (cw J 13 75 k1))) /\
((!(x3 0).X)=false -> let x4:ae:=(ak [.i 0,.i (J 0).Z,.i (J 1).Z,.l (J 2).N (J 2).G,.l (J 3).N (J 3).G,.l (J 4).N (J 4).G,.i (J 5).Z,.i (J 6).Z,.i (J 9).Z,.i (J 10).Z] (ak (cw J 13 75 k1) [.i 2,.b true,.b false,.b true,.b false,.i 0,.i 0,.i 0,.i 0,.i 0,.i 0,.i 0,.i 0,.f (λi0=>0),.i 0,.b false,.b false,.b false,.b false,.b false,.b false,.f (λ_=>0),.i 0,.b false,.b false,.b false,.b false,.i 0,.i 0,.i 0,.i 0,.i 0,.i 0,.i 0,.i 0,.f (λi0=>0),.i 0,.b false,.b false,.b false,.b false,.b false,.b false,.f (λ_=>0)]));(K4 x4)/\let x5:ae:=JU x4;((cw J 13 75 k1)=(cw J 13 75 k1))/\(1<=1)/\(0=0)/\(1=1)/\(2<=2)/\R (ak [.i 0,.l 2 (λi1=>(aE 1 (λi0=>(cw x1 0 22 k0)) (λi0=>(cw x5 0 22 k0))) (0+i1))] (cw J 13 75 k1)))):=af
def SL (J:ae):ae:=gO [true] dx.M dx.Y.sk [] (evW (TS dx J))
theorem Lc (J:ae) (hp:QU J):Sa1 (TS dx J) (λl=>(hd l).Z=0/\agT KX [true] dx.M [] (tls (nlL dx.Y.sk) (tl l)) (tls (aG dx.A) J)/\acb J (gO [true] dx.M dx.Y.sk [] l)):=⟨by
 rw[Bq];dsimp only;refine aU (λh0=>?_) ⟨kmp hp.1,λh=>⟨kmp (hp.2.1 (Or.inl h)).1,kmp (hp.2.1 (Or.inl h)).2⟩,λh=>kmp (hp.2.2 h)⟩;generalize hr0:Jq _=r0;have q0:=(WE _ h0).out;rw[hr0]at q0;clear h0 hr0;have e0:=IN (ty:=2) (st:=(J 27).Z) (il:=(J 21).X) q0 af af af;clear q0
 repeat (refine⟨by first|exact Eq.refl (α:=Nat) _ | exact Nat.le_of_ble_eq_true rfl | exact Eq.refl (α:=ae) _ | exact(trivial:tv []),?_⟩)
 refine⟨λh=>?_,λh=>?_⟩
 .repeat (refine⟨by first|exact Eq.refl (α:=Nat) _ | exact Nat.le_of_ble_eq_true rfl | exact Eq.refl (α:=ae) _ | exact(trivial:tv []),?_⟩)
  exact⟨rfl,⟨ay af,ah⟩,kmp (by decide:1<=1/\1<=6),lt1 (kmp e0)⟩
 .obtain⟨hi,hs⟩:=bkT (λe=>by rw[e]at h;cases h)
  have hi:(J 21).X=true:=kmp hi;have hs:(J 27).Z=3:=kmp hs;refine aU (λh1=>?_) ⟨kmp hp.1,kmp (hp.2.1 (Or.inr hi)).1,kmp (hp.2.1 (Or.inr hi)).2⟩;generalize hr1:JU _=r1;have q1:=(Xn _ h1).out;rw[hr1]at q1;clear h1 hr1;have e1:=KV (ty:=2) (st:=(J 27).Z) (il:=(J 21).X) q1 hs hi af af;clear q1
  repeat (refine⟨by first|exact Eq.refl (α:=Nat) _ | exact Nat.le_of_ble_eq_true rfl | exact Eq.refl (α:=ae) _ | exact(trivial:tv []),?_⟩)
  exact⟨rfl,⟨ay af,ah⟩,kmp (by decide:1<=2/\2<=6),lt2 (kmp e0) (kmp e1)⟩⟩
theorem Vl:∀J,bTs KX 1 (au dx.A J)->bBs KX 1 (an dx.M (tls (aG dx.A) J))->QU J->Sa1 (TS dx J) (λl=>(hd l).Z=0/\agT KX [true] dx.M [] (tls (nlL dx.Y.sk) (tl l)) (tls (aG dx.A) J)/\acb J (gO [true] dx.M dx.Y.sk [] l)):=λJ _ _ hp=>Lc J hp
abbrev aeX:List AB:=[]
abbrev abD:CT:=Ck dx [true] aeX QU SL
theorem pn2_ct:CO abD:=CXe dx (TX ⟨CX,D9,PG,ah⟩ (FK (FK (FK ah)))) Vl
theorem abT (J:ae) (hp:QU J):Sa2 (acb J) (SL J):=ji (Lc J hp)
def Qd (J:ae):Prop:=PnP J 13 0/\PnP J 13 1
def abr (J w:ae):Prop:=PnQ 3 (J 27).Z (J 21).X w
abbrev dI:SP:=mkS ⟨[.sO (.nR 6 1 6 0 g0)],[.run 100 qL2]⟩ 267 Tryz.f267 [tXO (.nP 0 0),.tX (.sA bJ),aj 0 3,aj 0 3,.tX (.sA lh)] [.run 100 qL2] [(4,.unroll 70),(9,.unroll 70)] [JH,IM,K7,K0,XM] [(aw 327 Tryz.f327),(aw 329 Tryz.f329),(aw 95 Tryz.f95)]
theorem BO J R:TR1 dI J R (let x0:ae:=(ak [.i 0,.i (J 0).Z,.i (J 1).Z,.l (J 2).N (J 2).G,.l (J 3).N (J 3).G,.l (J 4).N (J 4).G,.i (J 5).Z,.i (J 6).Z,.i (J 9).Z,.i (J 10).Z] (ak (cw J 13 75 k1) [.i 2,.b true,.b false,.b false,.b false,.i 0,.i 0,.i 0,.i 0,.i 0,.i 0,.i 0,.i 0,.f (λi0=>0),.i 0,.b false,.b false,.b false,.b false,.b false,.b false,.f (λ_=>0),.i 0,.b false,.b false,.b false,.b false,.i 0,.i 0,.i 0,.i 0,.i 0,.i 0,.i 0,.i 0,.f (λi0=>0),.i 0,.b false,.b false,.b false,.b false,.b false,.b false,.f (λ_=>0)]));(IQ x0)/\let x1:ae:=Jq x0;((cw J 13 75 k1)=(cw J 13 75 k1))/\(1<=1)/\let x2:ae:=(ak [.i 1,.i (J 0).Z,.i (J 1).Z,.l (J 2).N (J 2).G,.l (J 3).N (J 3).G,.l (J 4).N (J 4).G,.i (J 5).Z,.i (J 6).Z] (ak (cw J 11 77 k10) (ak (cw x1 0 22 k0) [.i 2,.b false,.b true,.b false,.b false,.i 0,.i 0,.i 0,.i 0,.i 0,.i 0,.i 0,.i 0,.f (λi0=>0),.i 0,.b false,.b false,.b false,.b false,.b false,.b false,.f (λ_=>0)])));(Qm x2)/\let x3:ae:=VY x2;((cw J 13 75 k1)=(cw J 13 75 k1))/\(1<=1)/\(0=0)/\(1=1)/\(1<=1)/\(0=0)/\(2=2)/\let x4:ae:=(cw J 13 75 k1);(tv x4)/\let x5:ae:=L3 x4;((!(x5 0).X)->
 (3<=3)/\R (ak [.i 0,.l 3 (λi2=>(aE 2 (aE 1 (λi0=>(cw x1 0 22 k0)) (λi0=>(cw x3 22 22 k0))) (λi1=>[.i (x3 0).Z,.b (x3 1).X,.b true,.b (x3 3).X,.b (x3 4).X,.i (x3 5).Z,.i (x3 6).Z,.i (x3 7).Z,.i (x3 8).Z,.i (x3 31).Z,.i (x3 32).Z,.i (x3 33).Z,.i (x3 34).Z,.f (zAt [.a 2 .i64 0 1 (x3 13).F,.a 2 .i64 0 1 (λi0=>(x3 35).F (i0+2)),.c (.nI .i64 0 0 (x3 14).Z),.c (.nB true false (x3 15).X),.c (.nB true false (x3 16).X),.c (.nB true false (x3 17).X),.c (.nB true false (x3 18).X),.c (.nB true false (x3 19).X),.c (.nB true false (x3 20).X),.a 384 .i64 0 0 (x3 21).F]),.i (x3 14).Z,.b (x3 15).X,.b (x3 16).X,.b (x3 17).X,.b (x3 18).X,.b (x3 19).X,.b (x3 20).X,.f (x3 21).F])) (0+i2))] (cw J 13 75 k1))) /\
((!(x5 0).X)=false -> let x6:ae:=(ak [.i 0,.i (J 0).Z,.i (J 1).Z,.l (J 2).N (J 2).G,.l (J 3).N (J 3).G,.l (J 4).N (J 4).G,.i (J 5).Z,.i (J 6).Z,.i (J 9).Z,.i (J 10).Z] (ak (cw J 13 75 k1) [.i 2,.b true,.b false,.b true,.b false,.i 0,.i 0,.i 0,.i 0,.i 0,.i 0,.i 0,.i 0,.f (λi0=>0),.i 0,.b false,.b false,.b false,.b false,.b false,.b false,.f (λ_=>0),.i 0,.b false,.b false,.b false,.b false,.i 0,.i 0,.i 0,.i 0,.i 0,.i 0,.i 0,.i 0,.f (λi0=>0),.i 0,.b false,.b false,.b false,.b false,.b false,.b false,.f (λ_=>0)]));(K4 x6)/\let x7:ae:=JU x6;((cw J 13 75 k1)=(cw J 13 75 k1))/\(1<=1)/\(0=0)/\(3=3)/\let x8:ae:=(ak [.i 1,.i (J 0).Z,.i (J 1).Z,.l (J 2).N (J 2).G,.l (J 3).N (J 3).G,.l (J 4).N (J 4).G,.i (J 5).Z,.i (J 6).Z] (ak (cw J 11 77 k10) (ak (cw x7 0 22 k0) [.i 2,.b false,.b true,.b true,.b false,.i 0,.i 0,.i 0,.i 0,.i 0,.i 0,.i 0,.i 0,.f (λi0=>0),.i 0,.b false,.b false,.b false,.b false,.b false,.b false,.f (λ_=>0)])));(Qe x8)/\let x9:ae:=Sy x8;((cw J 13 75 k1)=(cw J 13 75 k1))/\(1<=1)/\(0=0)/\(4=4)/\(1<=1)/\(0=0)/\(5=5)/\(6<=6)/\R (ak [.i 0,.l 6 (λi2=>(aE 5 (aE 4 (aE 3 (aE 2 (aE 1 (λi0=>(cw x1 0 22 k0)) (λi0=>(cw x3 22 22 k0))) (λi1=>[.i (x3 0).Z,.b (x3 1).X,.b true,.b (x3 3).X,.b (x3 4).X,.i (x3 5).Z,.i (x3 6).Z,.i (x3 7).Z,.i (x3 8).Z,.i (x3 31).Z,.i (x3 32).Z,.i (x3 33).Z,.i (x3 34).Z,.f (zAt [.a 2 .i64 0 1 (x3 13).F,.a 2 .i64 0 1 (λi0=>(x3 35).F (i0+2)),.c (.nI .i64 0 0 (x3 14).Z),.c (.nB true false (x3 15).X),.c (.nB true false (x3 16).X),.c (.nB true false (x3 17).X),.c (.nB true false (x3 18).X),.c (.nB true false (x3 19).X),.c (.nB true false (x3 20).X),.a 384 .i64 0 0 (x3 21).F]),.i (x3 14).Z,.b (x3 15).X,.b (x3 16).X,.b (x3 17).X,.b (x3 18).X,.b (x3 19).X,.b (x3 20).X,.f (x3 21).F])) (λi0=>(cw x7 0 22 k0))) (λi0=>(cw x9 22 22 k0))) (λi1=>[.i (x9 0).Z,.b (x9 1).X,.b true,.b (x9 3).X,.b (x9 4).X,.i (x9 5).Z,.i (x9 6).Z,.i (x9 7).Z,.i (x9 8).Z,.i (x9 31).Z,.i (x9 32).Z,.i (x9 33).Z,.i (x9 34).Z,.f (zAt [.a 2 .i64 0 1 (x9 13).F,.a 2 .i64 0 1 (λi0=>(x9 35).F (i0+2)),.c (.nI .i64 0 0 (x9 14).Z),.c (.nB true false (x9 15).X),.c (.nB true false (x9 16).X),.c (.nB true false (x9 17).X),.c (.nB true false (x9 18).X),.c (.nB true false (x9 19).X),.c (.nB true false (x9 20).X),.a 384 .i64 0 0 (x9 21).F]),.i (x9 14).Z,.b (x9 15).X,.b (x9 16).X,.b (x9 17).X,.b (x9 18).X,.b (x9 19).X,.b (x9 20).X,.f (x9 21).F])) (0+i2))] (cw J 13 75 k1)))):=af
def Ws (J:ae):ae:=gO [true] dI.M dI.Y.sk [] (evW (TS dI J))
theorem Js (J:ae) (hp:Qd J):Sa1 (TS dI J) (λl=>(hd l).Z=0/\agT KX [true] dI.M [] (tls (nlL dI.Y.sk) (tl l)) (tls (aG dI.A) J)/\abr J (gO [true] dI.M dI.Y.sk [] l)):=⟨by
 rw[BO];dsimp only;obtain⟨hp,hp'⟩:=hp;refine aU (λh0=>?_) ⟨kmp hp.1,λh=>⟨kmp (hp.2.1 (Or.inl h)).1,kmp (hp.2.1 (Or.inl h)).2⟩,λh=>kmp (hp.2.2 h)⟩;generalize hr0:Jq _=r0;have q0:=(WE _ h0).out;rw[hr0]at q0;clear h0 hr0;have e0:=IN (ty:=3) (st:=(J 27).Z) (il:=(J 21).X) q0 af af af;have f0:(r0 3).X=false:=(congrArg (λr=>(r 3).X) q0.1).trans af;clear q0
 repeat (refine⟨by first|exact Eq.refl (α:=Nat) _ | exact Nat.le_of_ble_eq_true rfl | exact Eq.refl (α:=ae) _ | exact(trivial:tv []),?_⟩)
 refine aU (λh1=>?_) ⟨kmp hp'.1,λh=>⟨kmp (hp'.2.1 (Or.inl h)).1,kmp (hp'.2.1 (Or.inl h)).2⟩,λh=>kmp (hp'.2.2 h)⟩;generalize hr1:VY _=r1;have q1:=(aaB _ h1).out;rw[hr1]at q1;clear h1 hr1;have e1:=W5 (ty:=3) (st:=(J 27).Z) (il:=(J 21).X) q1 rfl af af af;have c1:cw r1 0 22 k0=cw r0 0 22 k0:=(congrArg (λr=>cw r 0 22 k0) q1.1).trans af;have u1:(r1 24).X=true:=(congrArg (λr=>(r 24).X) q1.1).trans af
 have f1:(r1 25).X=(r1 3).X:=by rw[show(r1 3).X=(r0 3).X from(congrArg (λr=>(r 3).X) q1.1).trans af,f0];exact(congrArg (λr=>(r 25).X) q1.1).trans af
 clear q1 f0;have e2:=λF=>V9 (F:=F) (c1 ▸ e0) e1 u1 f1;clear c1 u1 f1
 repeat (refine⟨by first|exact Eq.refl (α:=Nat) _ | exact Nat.le_of_ble_eq_true rfl | exact Eq.refl (α:=ae) _ | exact(trivial:tv []),?_⟩)
 refine⟨λh=>?_,λh=>?_⟩
 .repeat (refine⟨by first|exact Eq.refl (α:=Nat) _ | exact Nat.le_of_ble_eq_true rfl | exact Eq.refl (α:=ae) _ | exact(trivial:tv []),?_⟩)
  exact⟨rfl,⟨ay af,ah⟩,kmp (by decide:1<=3/\3<=6),lt3 (kmp e0) (kmp e1) (kmp (e2 (PR r1) rfl rfl rfl rfl))⟩
 .obtain⟨hi,hs⟩:=bkT (λe=>by rw[e]at h;cases h)
  have hi:(J 21).X=true:=kmp hi;have hs:(J 27).Z=3:=kmp hs;refine aU (λh1=>?_) ⟨kmp hp.1,kmp (hp.2.1 (Or.inr hi)).1,kmp (hp.2.1 (Or.inr hi)).2⟩;generalize hr2:JU _=r2;have q1:=(Xn _ h1).out;rw[hr2]at q1;clear h1 hr2;have e3:=KV (ty:=3) (st:=(J 27).Z) (il:=(J 21).X) q1 hs hi af af;have f0:(r2 3).X=true:=(congrArg (λr=>(r 3).X) q1.1).trans af;clear q1
  repeat (refine⟨by first|exact Eq.refl (α:=Nat) _ | exact Nat.le_of_ble_eq_true rfl | exact Eq.refl (α:=ae) _ | exact(trivial:tv []),?_⟩)
  refine aU (λh1=>?_) ⟨kmp hp'.1,kmp (hp'.2.1 (Or.inr hi)).1,kmp (hp'.2.1 (Or.inr hi)).2⟩;generalize hr3:Sy _=r3;have q1:=(abW _ h1).out;rw[hr3]at q1;clear h1 hr3;have e4:=Tb (ty:=3) (st:=(J 27).Z) (il:=(J 21).X) q1 rfl hs hi af af;have c1:cw r3 0 22 k0=cw r2 0 22 k0:=(congrArg (λr=>cw r 0 22 k0) q1.1).trans af;have u1:(r3 24).X=true:=(congrArg (λr=>(r 24).X) q1.1).trans af
  have f1:(r3 25).X=(r3 3).X:=by rw[show(r3 3).X=(r2 3).X from(congrArg (λr=>(r 3).X) q1.1).trans af,f0];exact(congrArg (λr=>(r 25).X) q1.1).trans af
  clear q1 f0;have e5:=λF=>V9 (F:=F) (c1 ▸ e3) e4 u1 f1;clear c1 u1 f1
  repeat (refine⟨by first|exact Eq.refl (α:=Nat) _ | exact Nat.le_of_ble_eq_true rfl | exact Eq.refl (α:=ae) _ | exact(trivial:tv []),?_⟩)
  exact⟨rfl,⟨ay af,ah⟩,kmp (by decide:1<=6/\6<=6),lt6 (kmp e0) (kmp e1) (kmp (e2 (PR r1) rfl rfl rfl rfl)) (kmp e3) (kmp e4) (kmp (e5 (PR r3) rfl rfl rfl rfl))⟩⟩
theorem Uv:∀J,bTs KX 1 (au dI.A J)->bBs KX 1 (an dI.M (tls (aG dI.A) J))->Qd J->Sa1 (TS dI J) (λl=>(hd l).Z=0/\agT KX [true] dI.M [] (tls (nlL dI.Y.sk) (tl l)) (tls (aG dI.A) J)/\abr J (gO [true] dI.M dI.Y.sk [] l)):=λJ _ _ hp=>Js J hp
abbrev afG:List AB:=[]
abbrev abb:CT:=Ck dI [true] afG Qd Ws
theorem T1:CO abb:=CXe dI (TX ⟨HB,Cc,D4,DE,PM,ah⟩ (FK (FK (FK ah)))) Uv
theorem aa0 (J:ae) (hp:Qd J):Sa2 (abr J) (Ws J):=ji (Js J hp)
end
end Go.Proofs.YtldmjbgplgoedaaGreatDoor
