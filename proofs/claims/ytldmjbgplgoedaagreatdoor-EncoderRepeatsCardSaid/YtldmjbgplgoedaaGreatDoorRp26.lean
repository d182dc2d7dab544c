import Derived.Test.YtldmjbgplgoedaaGreatDoorRp25
set_option linter.all false
namespace Go.Proofs.YtldmjbgplgoedaaGreatDoor
noncomputable section
open Go.RowKit U
section
variable {P:Program} {K:KT} {G:GT}
theorem lH {f:FuncId} {args:List AT} {mem:List AB} {y:Wy} {Pr:ae->Prop} {W:ae->ae} (hc:aS P f) (h:∀(J:ae),bTs K 1 (au args J)->Pr J->∃C',cV K P G C'/\C'.f=f/\∃r,C'.app (au args J) (an mem (tls (aG args) J))=some r/\Sa (VG [y] r) (λl=>(hd l).Z=0/\agW K y (tl l) (W J))):cV K P G (CS f args mem y Pr W):=⟨hc,λJ c w vs Q hG hm hv ⟨hP,hQ⟩=>by obtain⟨C',h1,h2,r,h3,h4⟩:=h J (kx hv) hP;have h5:=jL (Q:=Q) (dg (λl ⟨a,b⟩=>Oz a b hQ) h4.out);have:=CT.app_ok h1 h3 hG hm hv h5;rw[h2]at this;refine this.mono λe w' ⟨v,he,m,y,hq,c',k2,k3⟩=>?_;obtain⟨ps,l,e1,e2,e3⟩:=hq;obtain⟨m',y',q1,q2,q3⟩:=uc e1 e2 e3 k2 k3;exact⟨v,he,m',y',q1,c',q2,q3⟩⟩
def apR (C:CT) (args:List AT) (mem:List AB) (y:Wy) (R:ae->Prop):Prop:=match C.app args mem with
 |some r=>(VG [y] r).sat (onA R)
 |none=>False
theorem bD {C:CT} {args:List AT} {mem:List AB} {y:Wy} {R:ae->Prop} (h:apR C args mem y R):∃r,C.app args mem=some r/\Sa (VG [y] r) R:=by
 unfold apR at h
 split at h
 .rename_i r e;exact⟨r,e,⟨h⟩⟩
 .exact h.elim
end
abbrev ve:List AT:=[.tX (.sA VC),tXO (.nP 0 0),.tX (.sA ZO),aj 0 3,aj 0 3]
abbrev Ov:List AB:=[.run 127 sMP]
abbrev Da:Wy:=⟨[.sA bJ,aD 0 0],[.run 127 sMP]⟩
def KM (J:ae):Prop:=((J 22).X=true\/(J 23).X=true)/\((J 22).X->pp0 (J 24).X J)/\((J 23).X->pp1 (J 24).X J)
def lS (J:ae):ae:=bif (J 22).X then(bif (J 23).X then pd2 (pd0 (J 24).X J) (pd1 (J 24).X J)else pd0 (J 24).X J)else pd1 (J 24).X J
def Qz (J:ae):ae:=pr6 (lS J) J
abbrev abo:CT:=CS 167 ve Ov Da KM Qz
def nC (J:ae):ae:=cw J 0 43 279517622323610917346660447866078663817
theorem Mu (J:ae) (R:ae->Prop):apR xx (au ve J) (an Ov (tls (aG ve) J)) Da R=((J 22).X=true/\(J 23).X=false/\(J 24).X=false/\(pp0 false J)/\R (let w:=qb (nC J);ak [.i 0,.i (w 0).Z,.i (w 1).Z,.l (w 2).N (w 2).G,.l (w 3).N (w 3).G,.l (w 4).N (w 4).G,.i (w 5).Z] (cw w 6 22 k0))):=af
theorem Nd (J:ae) (R:ae->Prop):apR zP (au ve J) (an Ov (tls (aG ve) J)) Da R=((J 22).X=true/\(J 23).X=false/\(J 24).X=true/\(pp0 true J)/\R (let w:=qd (nC J);ak [.i 0,.i (w 0).Z,.i (w 1).Z,.l (w 2).N (w 2).G,.l (w 3).N (w 3).G,.l (w 4).N (w 4).G,.i (w 5).Z] (cw w 6 22 k0))):=af
theorem P5 (J:ae) (R:ae->Prop):apR xt (au ve J) (an Ov (tls (aG ve) J)) Da R=((J 22).X=false/\(J 23).X=true/\(J 24).X=false/\(pp1 false J)/\R (let w:=pB (nC J);ak [.i 0,.i (w 0).Z,.i (w 1).Z,.l (w 2).N (w 2).G,.l (w 3).N (w 3).G,.l (w 4).N (w 4).G,.i (w 5).Z] (cw w 6 22 k0))):=af
theorem L8 (J:ae) (R:ae->Prop):apR yk (au ve J) (an Ov (tls (aG ve) J)) Da R=((J 22).X=false/\(J 23).X=true/\(J 24).X=true/\(pp1 true J)/\R (let w:=qJ (nC J);ak [.i 0,.i (w 0).Z,.i (w 1).Z,.l (w 2).N (w 2).G,.l (w 3).N (w 3).G,.l (w 4).N (w 4).G,.i (w 5).Z] (cw w 6 22 k0))):=af
theorem N9 (J:ae) (R:ae->Prop):apR wN (au ve J) (an Ov (tls (aG ve) J)) Da R=((J 22).X=true/\(J 23).X=true/\(J 24).X=false/\(pp0 false J/\pp1 false J)/\R (let w:=qC (nC J);ak [.i 0,.i (w 0).Z,.i (w 1).Z,.l (w 2).N (w 2).G,.l (w 3).N (w 3).G,.l (w 4).N (w 4).G,.i (w 5).Z] (cw w 6 22 k0))):=af
theorem OX (J:ae) (R:ae->Prop):apR wR (au ve J) (an Ov (tls (aG ve) J)) Da R=((J 22).X=true/\(J 23).X=true/\(J 24).X=true/\(pp0 true J/\pp1 true J)/\R (let w:=oV (nC J);ak [.i 0,.i (w 0).Z,.i (w 1).Z,.l (w 2).N (w 2).G,.l (w 3).N (w 3).G,.l (w 4).N (w 4).G,.i (w 5).Z] (cw w 6 22 k0))):=af
theorem PD (J:ae):qb (nC J)=pr6 (pd0 false J) (nC J):=af
theorem PA (J:ae):qd (nC J)=pr6 (pd0 true J) (nC J):=af
theorem Lt (J:ae):pB (nC J)=pr6 (pd1 false J) (nC J):=af
theorem LZ (J:ae):qJ (nC J)=pr6 (pd1 true J) (nC J):=af
theorem Oi (J:ae):qC (nC J)=pr6 (pd2 (pd0 false J) (pd1 false J)) (nC J):=af
theorem L4 (J:ae):oV (nC J)=pr6 (pd2 (pd0 true J) (pd1 true J)) (nC J):=af
theorem iL {F J:ae} {W:ae} (hW:W=pr6 F (nC J)) (hF:lS J=F):(λl=>(hd l).Z=0/\agW KX Da (tl l) (Qz J)) (let w:=W;ak [.i 0,.i (w 0).Z,.i (w 1).Z,.l (w 2).N (w 2).G,.l (w 3).N (w 3).G,.l (w 4).N (w 4).G,.i (w 5).Z] (cw w 6 22 k0)):=by
 subst hW;show _/\agW KX Da _ (pr6 (lS J) J);rw[hF];refine⟨rfl,⟨⟨rfl,rfl,⟨rfl,λ_ _=>rfl⟩,⟨rfl,λ_ _=>rfl⟩,⟨rfl,λ_ _=>rfl⟩,ah⟩,rfl,ah⟩,?_,ah⟩
 repeat (first|exact trivial | refine And.intro (by first|rfl | exact λ_ _=>rfl | exact⟨rfl,λ_ _=>rfl⟩) ?_)
theorem ag2:cV KX Tryz.prog GX abo:=lH prTF0_ct.call λJ b1 hp=>by
 obtain⟨h0,h1,h2⟩:=hp;cases e0:(J 22).X<;>cases e1:(J 23).X
 .rw[e0,e1]at h0;rcases h0 with h | h<;>cases h
 .cases e2:(J 24).X
  .rw[e2]at h1 h2;refine⟨xt,DP,rfl,bD ?_⟩;rw[P5];exact⟨e0,e1,e2,h2 e1,iL (Lt J) (by unfold lS;rw[e0,e1,e2];rfl)⟩
  .rw[e2]at h1 h2;refine⟨yk,CH,rfl,bD ?_⟩;rw[L8];exact⟨e0,e1,e2,h2 e1,iL (LZ J) (by unfold lS;rw[e0,e1,e2];rfl)⟩
 .cases e2:(J 24).X
  .rw[e2]at h1 h2;refine⟨xx,prTF0_ct,rfl,bD ?_⟩;rw[Mu];exact⟨e0,e1,e2,h1 e0,iL (PD J) (by unfold lS;rw[e0,e1,e2];rfl)⟩
  .rw[e2]at h1 h2;refine⟨zP,CR,rfl,bD ?_⟩;rw[Nd];exact⟨e0,e1,e2,h1 e0,iL (PA J) (by unfold lS;rw[e0,e1,e2];rfl)⟩
 .cases e2:(J 24).X
  .rw[e2]at h1 h2;refine⟨wN,Bt,rfl,bD ?_⟩;rw[N9];exact⟨e0,e1,e2,⟨h1 e0,h2 e1⟩,iL (Oi J) (by unfold lS;rw[e0,e1,e2];rfl)⟩
  .rw[e2]at h1 h2;refine⟨wR,D7,rfl,bD ?_⟩;rw[OX];exact⟨e0,e1,e2,⟨h1 e0,h2 e1⟩,iL (L4 J) (by unfold lS;rw[e0,e1,e2];rfl)⟩
end
end Go.Proofs.YtldmjbgplgoedaaGreatDoor
namespace Go.Proofs.YtldmjbgplgoedaaGreatDoor
noncomputable section
open Go.RowKit U
theorem JW {cd:Nat->Bool} {fd:Bool} {r g:Nat->Nat->Int} (h:∀n,n<6->cd n=false):∀n,n<=6->∀c i,adF cd fd r g n c i=g c i
 |0,_,_,_=>rfl
 |n+1,hn,c,i=>by rw[C7 (h n ac),JW h n ac]
def qD (J:ae):ae:=ak [.i (J 0).Z,.i (J 1).Z,.b (J 2).X,.b (J 3).X] (ak (cw J 30 17 k20) (cw J 8 22 k0))
def pU (J:ae):ae:=ak [.i (J 0).Z,.i (J 1).Z,.b (J 2).X,.b (J 3).X] (ak (cw J 30 17 k20) (cw (XX [.i (J 0).Z,.i (J 1).Z,.b (J 2).X,.b (J 3).X]) 0 22 k0))
def prG (K:ae) (c:Nat) (i:Nat):Int:=cel ((lS K) (2+c)).G i
def Dg (J:ae):Prop:=sq (ak [.i (J 0).Z,.i (J 1).Z,.b (J 2).X,.b (J 3).X] (cw J 8 22 k0))/\vmP (J 4).F/\vmP (J 5).F/\KM (qD J)
def LK (J:ae):ae:=rcW (rcF (bAt [(J 23).X,(J 24).X,(J 25).X,(J 26).X,(J 27).X,(J 28).X]) (J 12).X (J 29).F (J 6).X (J 5).F (J 7).Z (prG (qD J)))
def H1 (J:ae):Prop:=(eQ (J 1).Z (J 2).X (J 3).X/\(J 0).Z≠1)/\vmP (J 4).F/\vmP (J 5).F/\KM (pU J)
def ML (J:ae):ae:=rcW (prG (pU J))
abbrev aa2:Wy:=⟨[.sA bJ,aD 0 0],[]⟩
theorem yI {a:ae} {f:Nat->Nat->Int} (h:∀c,c<3->∀i,i<bkN c->adD a 6 c i=f c i):(λl=>(hd l).Z=0/\agW KX aa2 (tl l) (rcW f)) (let w:=Qv a;[.i 0,.i (w 0).Z,.i (w 1).Z,.l (w 2).N (w 2).G,.l (w 3).N (w 3).G,.l (w 4).N (w 4).G,.i (w 5).Z]) :=⟨rfl,⟨⟨rfl,rfl,aL rfl λi hi=>h 0 afH i hi,aL rfl λi hi=>h 1 afH i hi,aL rfl λi hi=>h 2 afH i hi,ah⟩,rfl,ah⟩,ah⟩
theorem afB {a K:ae} (h:∀c,c<3->(a (2+c)).G=((lS K) (2+c)).G):∀c,c<3->∀i,i<bkN c->adD a 6 c i=rcF (adC a) (a 8).X (a 15).F (a 7).X (a 5).F (a 6).Z (prG K) c i :=λc hc i hi=>sY (λc hc i _=>by show cel (a (2+c)).G i=cel ((lS K) (2+c)).G i;rw[h c hc]) 6 afH c hc i hi
theorem afo {a K:ae} (h:∀c,c<3->(a (2+c)).G=((lS K) (2+c)).G) (hb:∀n,n<6->adC a n=false):∀c,c<3->∀i,i<bkN c->adD a 6 c i=prG K c i :=λc hc i _=>by show adF (adC a) _ _ (λc=>cel (a (2+c)).G) 6 c i=cel ((lS K) (2+c)).G i;rw[JW hb 6 afH,h c hc]
theorem c3 {p:Nat->Prop} (h0:p 0) (h1:p 1) (h2:p 2):∀c,c<3->p c:=λc hc=>by
 rcases(show c=0\/c=1\/c=2 by omega)with rfl | rfl | rfl
 .exact h0
 .exact h1
 .exact h2
theorem b6:∀n,n<6->bAt [false,false,false,false,false,false] n=false:=λn hn=>by rcases(show n=0\/n=1\/n=2\/n=3\/n=4\/n=5 by omega)with rfl | rfl | rfl | rfl | rfl | rfl<;>rfl
abbrev yd:SP:=mkS ⟨[.sA bJ,aD 0 0],[]⟩ 90 Tryz.f90 [.tX (.sA VC),.tX (.sA gt),aN,aj 1 31,.tX (.sA sMP),.tX (.sA ZO),aj 0 3,aj 0 3] [] [] [wT,Oq,iU,X9,abQ,abo] [(aw 164 Tryz.f164)]
theorem xh J R:TR yd J R (let x0:ae:=(ak (cw J 0 4 1161) (cw J 8 22 k0));(sq x0)/\let x1:ae:=Ch x0;let x2:ae:=[.f (J 4).F];(wc x2)/\let x3:ae:=yP x2;let x4:ae:=[.f (J 5).F];(wc x4)/\let x5:ae:=yP x4;let x6:ae:=(ak (cw J 0 4 1161) (ak (cw J 30 17 k20) (cw J 8 22 k0)));(KM x6)/\let x7:ae:=Qz x6;let x8:ae:=[.i (x7 0).Z,.i (x7 1).Z,.l (x7 2).N (x7 2).G,.l (x7 3).N (x7 3).G,.l (x7 4).N (x7 4).G,.f (J 5).F,.i (J 7).Z,.b (J 6).X,.b (x7 10).X,.b (x7 21).X,.b (x7 22).X,.b (x7 23).X,.b (x7 24).X,.b (x7 25).X,.b (x7 26).X,.f (x7 27).F];(Te x8)/\let x9:ae:=Qv x8;R [.i 0,.i (x9 0).Z,.i (x9 1).Z,.l (x9 2).N (x9 2).G,.l (x9 3).N (x9 3).G,.l (x9 4).N (x9 4).G,.i (x9 5).Z]):=af
theorem LI:PF1 yd Dg LK:=λJ b1 b2 hp=>⟨by
 rw[xh];refine⟨hp.1,hp.2.1,hp.2.2.1,hp.2.2.2,?_⟩;have hv:=hp.2.2.1;generalize hw:Qz _=w;have z0:(w 0).Z=16:=by rw[<-hw];kernel_rfl
 have z1:(w 1).Z=16:=by rw[<-hw];kernel_rfl
 have n2:(w 2).N=256:=by rw[<-hw];kernel_rfl
 have n3:(w 3).N=64:=by rw[<-hw];kernel_rfl
 have n4:(w 4).N=64:=by rw[<-hw];kernel_rfl
 have g2:(w 2).G=((lS (qD J)) 2).G:=by rw[<-hw];kernel_rfl
 have g3:(w 3).G=((lS (qD J)) 3).G:=by rw[<-hw];kernel_rfl
 have g4:(w 4).G=((lS (qD J)) 4).G:=by rw[<-hw];kernel_rfl
 have x10:(w 10).X=(J 12).X:=by rw[<-hw];kernel_rfl
 have x21:(w 21).X=(J 23).X:=by rw[<-hw];kernel_rfl
 have x22:(w 22).X=(J 24).X:=by rw[<-hw];kernel_rfl
 have x23:(w 23).X=(J 25).X:=by rw[<-hw];kernel_rfl
 have x24:(w 24).X=(J 26).X:=by rw[<-hw];kernel_rfl
 have x25:(w 25).X=(J 27).X:=by rw[<-hw];kernel_rfl
 have x26:(w 26).X=(J 28).X:=by rw[<-hw];kernel_rfl
 have f27:(w 27).F=(J 29).F:=by rw[<-hw];kernel_rfl
 clear hw;dsimp only;rw[z0,z1,n2,n3,n4,g2,g3,g4,x10,x21,x22,x23,x24,x25,x26,f27];exact⟨⟨f16,hv⟩,yI (afB (K:=qD J) (c3 rfl rfl rfl))⟩⟩
abbrev HD:CT:=C1 yd Dg LK
theorem wE:CO HD:=CX1 (TX ⟨rB,lW,cE,yR,Ko,ag2,ah⟩ (FK ah)) LI
abbrev yN:SP:=mkS ⟨[.sA bJ,aD 0 0],[]⟩ 90 Tryz.f90 [.tX (.sA VC),.tX (.sA gt),aN,aj 1 31,.tX (.sA gj),.tX (.sA ZO),aj 0 3,aj 0 3] [] [] [y4,Oq,iU,X9,abQ,abo] [(aw 164 Tryz.f164)]
theorem xu J R:TR yN J R (let x0:ae:=(ak (cw J 0 4 1161) (cw J 8 22 k0));(yo x0)/\let x1:ae:=HY x0;let x2:ae:=[.f (J 4).F];(wc x2)/\let x3:ae:=yP x2;let x4:ae:=[.f (J 5).F];(wc x4)/\let x5:ae:=yP x4;let x6:ae:=(cw J 0 4 1161);let x7:ae:=XX x6;let x8:ae:=(ak (cw J 0 4 1161) (ak (cw J 30 17 k20) (cw x7 0 22 k0)));(KM x8)/\let x9:ae:=Qz x8;let x10:ae:=[.i (x9 0).Z,.i (x9 1).Z,.l (x9 2).N (x9 2).G,.l (x9 3).N (x9 3).G,.l (x9 4).N (x9 4).G,.f (J 5).F,.i (J 7).Z,.b (J 6).X,.b (x9 10).X,.b (x9 21).X,.b (x9 22).X,.b (x9 23).X,.b (x9 24).X,.b (x9 25).X,.b (x9 26).X,.f (x9 27).F];(Te x10)/\let x11:ae:=Qv x10;R [.i 0,.i (x11 0).Z,.i (x11 1).Z,.l (x11 2).N (x11 2).G,.l (x11 3).N (x11 3).G,.l (x11 4).N (x11 4).G,.i (x11 5).Z]):=af
theorem OJ:PF1 yN H1 ML:=λJ b1 b2 hp=>⟨by
 rw[xu];refine⟨hp.1,hp.2.1,hp.2.2.1,hp.2.2.2,?_⟩;have hv:=hp.2.2.1;generalize hw:Qz _=w;have z0:(w 0).Z=16:=by rw[<-hw];kernel_rfl
 have z1:(w 1).Z=16:=by rw[<-hw];kernel_rfl
 have n2:(w 2).N=256:=by rw[<-hw];kernel_rfl
 have n3:(w 3).N=64:=by rw[<-hw];kernel_rfl
 have n4:(w 4).N=64:=by rw[<-hw];kernel_rfl
 have g2:(w 2).G=((lS (pU J)) 2).G:=by rw[<-hw];kernel_rfl
 have g3:(w 3).G=((lS (pU J)) 3).G:=by rw[<-hw];kernel_rfl
 have g4:(w 4).G=((lS (pU J)) 4).G:=by rw[<-hw];kernel_rfl
 have x10:(w 10).X=false:=by rw[<-hw];kernel_rfl
 have x21:(w 21).X=false:=by rw[<-hw];kernel_rfl
 have x22:(w 22).X=false:=by rw[<-hw];kernel_rfl
 have x23:(w 23).X=false:=by rw[<-hw];kernel_rfl
 have x24:(w 24).X=false:=by rw[<-hw];kernel_rfl
 have x25:(w 25).X=false:=by rw[<-hw];kernel_rfl
 have x26:(w 26).X=false:=by rw[<-hw];kernel_rfl
 clear hw;dsimp only;rw[z0,z1,n2,n3,n4,g2,g3,g4,x10,x21,x22,x23,x24,x25,x26];exact⟨⟨f16,hv⟩,yI (afo (K:=pU J) (c3 rfl rfl rfl) b6)⟩⟩
abbrev BK:CT:=C1 yN H1 ML
theorem Az:CO BK:=CX1 (TX ⟨frmS_ct,lW,cE,yR,Ko,ag2,ah⟩ (FK ah)) OJ
end
end Go.Proofs.YtldmjbgplgoedaaGreatDoor
namespace Go.Proofs.YtldmjbgplgoedaaGreatDoor
noncomputable section
open Go.RowKit U
theorem acX {d:Int} {J:ae} (h:rfP d J):((rfW d J) 3).N<=1024/\((rfW d J) 4).N<=1024:=by
 obtain⟨-,h,-⟩:=h;unfold rfW;generalize rfO d (J 0).Z (J 1).Z (J 3).X (J 20).Z=o at h ⊢;have hf:fmB (J o).Z (J (o+1)).Z (J (o+2)).N (J (o+3)).N (J (o+4)).N=true:=h.1;obtain⟨w,k,e1,e2,h1,h2,h3,h4,h5,h6,h7⟩:=dN hf;have hm:=Nat.mul_le_mul h2 h4
 split
 .have a1:((oE J o) 3).N=(J (o+3)).N:=rfl;have a2:((oE J o) 4).N=(J (o+4)).N:=rfl;omega
 .have a1:((rt J o (J 20).Z) 3).N=(J o).Z.toNat / 2*((J (o+1)).Z.toNat / 2 / 2):=rfl;have a2:((rt J o (J 20).Z) 4).N=(J o).Z.toNat / 2*((J (o+1)).Z.toNat / 2 / 2):=rfl;rw[a1,a2,e1,e2,ap,ap];have:2*w / 2*(2*k / 2 / 2)<=32*32:=Nat.mul_le_mul ac ac;omega
theorem KU {d:Int} {J:ae}:∃W H na nb nc g u v,rfW d J=[.i W,.i H,.l na g,.l nb u,.l nc v,.i 0]:=by
 unfold rfW
 split
 .exact⟨_,_,_,_,_,_,_,_,rfl⟩
 .exact⟨_,_,_,_,_,_,_,_,rfl⟩
def cA:ae->Prop:=rfP 0
def ge (J:ae):ae:=rfW 0 (rfA J)
abbrev zH:SP:=mkS ⟨[.sA sFF,aD 0 0],[]⟩ 96 Tryz.f96 [.tX (.sA VC),.tX (.sA ZO),aj 0 0,aj 0 1] [] [] [rfc0C,rfc1C,X7]
theorem wJ J R:TR zH J R (let x0:ae:=(cw J 0 21 k21);(uJ x0)/\let x1:ae:=ry x0;let x2:ae:=[.l (x1 2).N (x1 2).G];let x3:ae:=kQ x2;let x4:ae:=[.l (x1 3).N (x1 3).G];let x5:ae:=kQ x4;let x6:ae:=[.l (x1 4).N (x1 4).G];let x7:ae:=kQ x6;((x5 0).N<=1024)/\((x7 0).N<=1024)/\R [.i 0,.i (x1 0).Z,.i (x1 1).Z,.l (x3 0).N (x3 0).G,.l (x5 0).N (x5 0).G,.l (x7 0).N (x7 0).G,.i 0]):=af
theorem OS:PF1 zH cA ge:=λJ b1 b2 hp=>⟨by
 rw[wJ];have hp:rfP 0 (rfA J):=by rw[(xo J).1];exact hp
 have hn:=acX hp;have hc:cw J 0 21 k21=rfA J:=af;rw[hc];refine⟨hp,?_⟩;obtain⟨W,H,na,nb,nc,g,u,v,e⟩:=KU (d:=0) (J:=rfA J);have hW:ge J=rfW 0 (rfA J):=rfl;have e':ry (rfA J)=[.i W,.i H,.l na g,.l nb u,.l nc v,.i 0]:=e;rw[hW,e',e];rw[e]at hn;exact⟨hn.1,hn.2,rfl,⟨⟨rfl,rfl,aL rfl λ_ _=>rfl,aL rfl λ_ _=>rfl,aL rfl λ_ _=>rfl,ah⟩,rfl,ah⟩,ah⟩⟩
abbrev qw:CT:=C1 zH cA ge
theorem gA:CO qw:=CX1 (TX ⟨fv,fy,xT,ah⟩ ah) OS
def im:ae->Prop:=rfP 1
def lq (J:ae):ae:=rfW 1 (rfA J)
abbrev xN:SP:=mkS ⟨[.sA sFF,aD 0 0],[]⟩ 96 Tryz.f96 [.tX (.sA VC),.tX (.sA ZO),aj 1 1,aj 0 1] [] [] [rfc0C,rfc1C,X7]
theorem Ab J R:TR xN J R (let x0:ae:=(cw J 0 21 k21);(vl x0)/\let x1:ae:=rr x0;let x2:ae:=[.l (x1 2).N (x1 2).G];let x3:ae:=kQ x2;let x4:ae:=[.l (x1 3).N (x1 3).G];let x5:ae:=kQ x4;let x6:ae:=[.l (x1 4).N (x1 4).G];let x7:ae:=kQ x6;((x5 0).N<=1024)/\((x7 0).N<=1024)/\R [.i 0,.i (x1 0).Z,.i (x1 1).Z,.l (x3 0).N (x3 0).G,.l (x5 0).N (x5 0).G,.l (x7 0).N (x7 0).G,.i 0]):=af
theorem NS:PF1 xN im lq:=λJ b1 b2 hp=>⟨by rw[Ab];have hp:rfP 1 (rfA J):=hp;have hn:=acX hp;have hc:cw J 0 21 k21=rfA J:=af;rw[hc];refine⟨hp,?_⟩;obtain⟨W,H,na,nb,nc,g,u,v,e⟩:=KU (d:=1) (J:=rfA J);have hW:lq J=rfW 1 (rfA J):=rfl;have e':rr (rfA J)=[.i W,.i H,.l na g,.l nb u,.l nc v,.i 0]:=e;rw[hW,e',e];rw[e]at hn;exact⟨hn.1,hn.2,rfl,⟨⟨rfl,rfl,aL rfl λ_ _=>rfl,aL rfl λ_ _=>rfl,aL rfl λ_ _=>rfl,ah⟩,rfl,ah⟩,ah⟩⟩
abbrev oP:CT:=C1 xN im lq
theorem gN:CO oP:=CX1 (TX ⟨fv,fy,xT,ah⟩ ah) NS
def X4 (_:ae):Prop:=True
abbrev rZ:SP:=mkS ⟨[aD 0 1000000],[]⟩ 262 Tryz.f262 [.tX (.sA bJ),.tX (.sA bJ),aj 1 2] [] [(3,.head ⟨[(2,aj 1 2),(3,tXO (.nP 0 0)),(4,tXO (.nP 1 0)),(7,aj (-1048576) 1048576),(17,aj 224 224),(18,aj 0 1048576)],[.run 31 bJ,.run 31 bJ],[]⟩)]
theorem FO J R:TR1 rZ J R (∃(I0:ae->Prop) (μ0:ae->Nat),I0 [.i (J 10).Z,.i 0,.i 224,.i 0,.i (J 0).Z,.i (J 1).Z,.l (J 2).N (J 2).G,.l (J 3).N (J 3).G,.l (J 4).N (J 4).G,.i (J 5).Z,.i (J 6).Z,.l (J 7).N (J 7).G,.l (J 8).N (J 8).G,.l (J 9).N (J 9).G]/\∀l0,I0 l0->((decide ((l0 3).Z<(l0 2).Z))->((l0 3).Z<(((l0 6).N:Nat):Int))/\((l0 3).Z<(((l0 11).N:Nat):Int))/\(((l0 3).Z+((l0 0).Z*(l0 4).Z))<(((l0 6).N:Nat):Int))/\(((l0 3).Z+((l0 0).Z*(l0 4).Z))<(((l0 11).N:Nat):Int))/\((-1048576)<=((l0 1).Z+(max ((((((l0 6).G (l0 3).Z.toNat) 0).Z-(((l0 11).G (l0 3).Z.toNat) 0).Z)-(((l0 6).G ((l0 3).Z+((l0 0).Z*(l0 4).Z)).toNat) 0).Z)+(((l0 11).G ((l0 3).Z+((l0 0).Z*(l0 4).Z)).toNat) 0).Z) (-((((((l0 6).G (l0 3).Z.toNat) 0).Z-(((l0 11).G (l0 3).Z.toNat) 0).Z)-(((l0 6).G ((l0 3).Z+((l0 0).Z*(l0 4).Z)).toNat) 0).Z)+(((l0 11).G ((l0 3).Z+((l0 0).Z*(l0 4).Z)).toNat) 0).Z)))))/\(((l0 1).Z+(max ((((((l0 6).G (l0 3).Z.toNat) 0).Z-(((l0 11).G (l0 3).Z.toNat) 0).Z)-(((l0 6).G ((l0 3).Z+((l0 0).Z*(l0 4).Z)).toNat) 0).Z)+(((l0 11).G ((l0 3).Z+((l0 0).Z*(l0 4).Z)).toNat) 0).Z) (-((((((l0 6).G (l0 3).Z.toNat) 0).Z-(((l0 11).G (l0 3).Z.toNat) 0).Z)-(((l0 6).G ((l0 3).Z+((l0 0).Z*(l0 4).Z)).toNat) 0).Z)+(((l0 11).G ((l0 3).Z+((l0 0).Z*(l0 4).Z)).toNat) 0).Z))))<=1048576)/\(((l0 3).Z+1)<=1048576)/\Ag I0 μ0 l0 [.i (l0 0).Z,.i ((l0 1).Z+(max ((((((l0 6).G (l0 3).Z.toNat) 0).Z-(((l0 11).G (l0 3).Z.toNat) 0).Z)-(((l0 6).G ((l0 3).Z+((l0 0).Z*(l0 4).Z)).toNat) 0).Z)+(((l0 11).G ((l0 3).Z+((l0 0).Z*(l0 4).Z)).toNat) 0).Z) (-((((((l0 6).G (l0 3).Z.toNat) 0).Z-(((l0 11).G (l0 3).Z.toNat) 0).Z)-(((l0 6).G ((l0 3).Z+((l0 0).Z*(l0 4).Z)).toNat) 0).Z)+(((l0 11).G ((l0 3).Z+((l0 0).Z*(l0 4).Z)).toNat) 0).Z)))),.i (l0 2).Z,.i ((l0 3).Z+1),.i (l0 4).Z,.i (l0 5).Z,.l (l0 6).N (l0 6).G,.l (l0 7).N (l0 7).G,.l (l0 8).N (l0 8).G,.i (l0 9).Z,.i (l0 10).Z,.l (l0 11).N (l0 11).G,.l (l0 12).N (l0 12).G,.l (l0 13).N (l0 13).G])/\((decide ((l0 3).Z<(l0 2).Z))=false-> (0<=(l0 1).Z)/\((l0 1).Z<=1000000)/\R [.i 0,.i (l0 1).Z])):=af
def YR (J:ae):ae:=tl (evW (TS rZ J))
theorem To:PFd rZ X4:=λJ b1 b2 _=>⟨by
 rw[FO];obtain⟨⟨c0,-,c2,-⟩,⟨-,-,d2,-⟩,r,-⟩:=b1;have c0a:16<=(J 0).Z:=c0.1;have c0b:(J 0).Z<=16:=c0.2;have c2a:256<=(J 2).N:=c2.1;have c2b:(J 2).N<=256:=c2.2.1;have d2a:256<=(J 7).N:=d2.1;have d2b:(J 7).N<=256:=d2.2.1;have ra:1<=(J 10).Z:=r.1;have rb:(J 10).Z<=2:=r.2;have c2c:∀i,i<(J 2).N->0<=cel (J 2).G i/\cel (J 2).G i<=255:=λi hi=>(c2.2.2 i hi).1;have d2c:∀i,i<(J 7).N->0<=cel (J 7).G i/\cel (J 7).G i<=255:=λi hi=>(d2.2.2 i hi).1;clear c0 c2 d2 r;have e0:(J 0).Z=16:=ac;refine aZ 224 3 (λi (s:Int)=>0<=s/\s<=510*i) (λJ i s=>set_ (set_ J 3 (.i i)) 1 (.i s)) (λi _ _=>rfl) 0 rfl ⟨ac,ac⟩ λI μ hA i s hi hs=>?_;simp only[bA,bz,bx,bE,Z_i,X_b,F_f,O_s,N_s,N_l,G_l,ap]at hA ⊢;obtain⟨s0,s1⟩:=hs;rw[e0];refine br_ (λq=>?_) λq=>?_
 .have q:=ai q;have a1:=c2c i ac;have a2:=d2c i ac;have a3:=c2c ((i:Int)+(J 10).Z*16).toNat ac;have a4:=d2c ((i:Int)+(J 10).Z*16).toNat ac;unfold cel at a1 a2 a3 a4;refine⟨ac,ac,ac,ac,ac,ac,ac,?_⟩;rw[e0]at hA;exact hA i s _ _ ac ⟨ac,ac⟩ rfl
 .exact⟨ac,ac,rfl⟩⟩
abbrev aei:CT:=CS 262 rZ.A rZ.M rZ.Y X4 YR
theorem WP:CO aei:=CXd rZ (TX trivial ah) To
def YA (_:ae):Prop:=True
abbrev sc:SP:=mkS ⟨[aD 0 1000000],[]⟩ 268 Tryz.f268 [.tX (.sA bJ),.tX (.sA bJ)] [] [(6,.sel 27 [(0,⟨[(5,aj 0 1000000),(7,tXO (.nP 0 0)),(26,.tX (.sA aj9)),(27,aj 0 0),(31,tXO (.nR 0 256 256 0 g0)),(32,aj 256 256),(33,aj 0 1048576)],[.run 397 [r36,r36]],[]⟩),(1,⟨[(5,aj 0 1000000),(7,tXO (.nP 0 0)),(26,.tX (.sA aj9)),(27,aj 1 1),(31,tXO (.nR 0 64 64 0 g0)),(32,aj 64 64),(33,aj 0 1048576)],[.run 397 MV],[]⟩),(2,⟨[(5,aj 0 1000000),(7,tXO (.nP 0 0)),(26,.tX (.sA aj9)),(27,aj 2 2),(31,tXO (.nR 0 64 64 0 g0)),(32,aj 64 64),(33,aj 0 1048576)],[.run 397 MV],[]⟩)]),(3,.unroll 70)]
theorem Ez J R:TR1 sc J R (∃(I0:ae->Prop) (μ0:ae->Nat),I0 [.i 0,.l (J 2).N (J 2).G,.l (J 7).N (J 7).G,.l (J 3).N (J 3).G,.l (J 8).N (J 8).G,.l (J 4).N (J 4).G,.l (J 9).N (J 9).G,.i 0,.l (J 2).N (J 2).G,.i 256,.i 0,.l (J 2).N (J 2).G,.l (J 7).N (J 7).G]/\∀l0,I0 l0->((decide ((l0 10).Z<(l0 9).Z))->((l0 10).Z<(((l0 8).N:Nat):Int))/\((l0 10).Z<(((l0 12).N:Nat):Int))/\(0<=((l0 0).Z+(max ((((l0 8).G (l0 10).Z.toNat) 0).Z-(((l0 12).G (l0 10).Z.toNat) 0).Z) (-((((l0 8).G (l0 10).Z.toNat) 0).Z-(((l0 12).G (l0 10).Z.toNat) 0).Z)))))/\(((l0 0).Z+(max ((((l0 8).G (l0 10).Z.toNat) 0).Z-(((l0 12).G (l0 10).Z.toNat) 0).Z) (-((((l0 8).G (l0 10).Z.toNat) 0).Z-(((l0 12).G (l0 10).Z.toNat) 0).Z))))<=1000000)/\(((l0 10).Z+1)<=1048576)/\Ag I0 μ0 l0 [.i ((l0 0).Z+(max ((((l0 8).G (l0 10).Z.toNat) 0).Z-(((l0 12).G (l0 10).Z.toNat) 0).Z) (-((((l0 8).G (l0 10).Z.toNat) 0).Z-(((l0 12).G (l0 10).Z.toNat) 0).Z)))),.l (l0 1).N (l0 1).G,.l (l0 2).N (l0 2).G,.l (l0 3).N (l0 3).G,.l (l0 4).N (l0 4).G,.l (l0 5).N (l0 5).G,.l (l0 6).N (l0 6).G,.i (l0 7).Z,.l (l0 8).N (l0 8).G,.i (l0 9).Z,.i ((l0 10).Z+1),.l (l0 11).N (l0 11).G,.l (l0 12).N (l0 12).G])/\((decide ((l0 10).Z<(l0 9).Z))=false->∃(I1:ae->Prop) (μ1:ae->Nat),I1 [.i (l0 0).Z,.l (l0 1).N (l0 1).G,.l (l0 2).N (l0 2).G,.l (l0 3).N (l0 3).G,.l (l0 4).N (l0 4).G,.l (l0 5).N (l0 5).G,.l (l0 6).N (l0 6).G,.i 1,.l (l0 3).N (l0 3).G,.i 64,.i 0,.l (l0 3).N (l0 3).G,.l (l0 4).N (l0 4).G]/\∀l1,I1 l1->((decide ((l1 10).Z<(l1 9).Z))->((l1 10).Z<(((l1 8).N:Nat):Int))/\((l1 10).Z<(((l1 12).N:Nat):Int))/\(0<=((l1 0).Z+(max ((((l1 8).G (l1 10).Z.toNat) 0).Z-(((l1 12).G (l1 10).Z.toNat) 0).Z) (-((((l1 8).G (l1 10).Z.toNat) 0).Z-(((l1 12).G (l1 10).Z.toNat) 0).Z)))))/\(((l1 0).Z+(max ((((l1 8).G (l1 10).Z.toNat) 0).Z-(((l1 12).G (l1 10).Z.toNat) 0).Z) (-((((l1 8).G (l1 10).Z.toNat) 0).Z-(((l1 12).G (l1 10).Z.toNat) 0).Z))))<=1000000)/\(((l1 10).Z+1)<=1048576)/\Ag I1 μ1 l1 [.i ((l1 0).Z+(max ((((l1 8).G (l1 10).Z.toNat) 0).Z-(((l1 12).G (l1 10).Z.toNat) 0).Z) (-((((l1 8).G (l1 10).Z.toNat) 0).Z-(((l1 12).G (l1 10).Z.toNat) 0).Z)))),.l (l1 1).N (l1 1).G,.l (l1 2).N (l1 2).G,.l (l1 3).N (l1 3).G,.l (l1 4).N (l1 4).G,.l (l1 5).N (l1 5).G,.l (l1 6).N (l1 6).G,.i (l1 7).Z,.l (l1 8).N (l1 8).G,.i (l1 9).Z,.i ((l1 10).Z+1),.l (l1 11).N (l1 11).G,.l (l1 12).N (l1 12).G])/\((decide ((l1 10).Z<(l1 9).Z))=false->∃(I2:ae->Prop) (μ2:ae->Nat),I2 [.i (l1 0).Z,.l (l1 1).N (l1 1).G,.l (l1 2).N (l1 2).G,.l (l1 3).N (l1 3).G,.l (l1 4).N (l1 4).G,.l (l1 5).N (l1 5).G,.l (l1 6).N (l1 6).G,.i 2,.l (l1 5).N (l1 5).G,.i 64,.i 0,.l (l1 5).N (l1 5).G,.l (l1 6).N (l1 6).G]/\∀l2,I2 l2->((decide ((l2 10).Z<(l2 9).Z))->((l2 10).Z<(((l2 8).N:Nat):Int))/\((l2 10).Z<(((l2 12).N:Nat):Int))/\(0<=((l2 0).Z+(max ((((l2 8).G (l2 10).Z.toNat) 0).Z-(((l2 12).G (l2 10).Z.toNat) 0).Z) (-((((l2 8).G (l2 10).Z.toNat) 0).Z-(((l2 12).G (l2 10).Z.toNat) 0).Z)))))/\(((l2 0).Z+(max ((((l2 8).G (l2 10).Z.toNat) 0).Z-(((l2 12).G (l2 10).Z.toNat) 0).Z) (-((((l2 8).G (l2 10).Z.toNat) 0).Z-(((l2 12).G (l2 10).Z.toNat) 0).Z))))<=1000000)/\(((l2 10).Z+1)<=1048576)/\Ag I2 μ2 l2 [.i ((l2 0).Z+(max ((((l2 8).G (l2 10).Z.toNat) 0).Z-(((l2 12).G (l2 10).Z.toNat) 0).Z) (-((((l2 8).G (l2 10).Z.toNat) 0).Z-(((l2 12).G (l2 10).Z.toNat) 0).Z)))),.l (l2 1).N (l2 1).G,.l (l2 2).N (l2 2).G,.l (l2 3).N (l2 3).G,.l (l2 4).N (l2 4).G,.l (l2 5).N (l2 5).G,.l (l2 6).N (l2 6).G,.i (l2 7).Z,.l (l2 8).N (l2 8).G,.i (l2 9).Z,.i ((l2 10).Z+1),.l (l2 11).N (l2 11).G,.l (l2 12).N (l2 12).G])/\((decide ((l2 10).Z<(l2 9).Z))=false-> R [.i 0,.i (l2 0).Z])))):=af
def abA (J:ae):ae:=tl (evW (TS sc J))
theorem RZ:PFd sc YA:=λJ b1 b2 _=>⟨by
 rw[Ez];obtain⟨⟨-,-,c2,c3,c4,-⟩,⟨-,-,d2,d3,d4,-⟩,-⟩:=b1;have c2a:256<=(J 2).N:=c2.1;have c2b:(J 2).N<=256:=c2.2.1;have c3a:64<=(J 3).N:=c3.1;have c3b:(J 3).N<=64:=c3.2.1;have c4a:64<=(J 4).N:=c4.1;have c4b:(J 4).N<=64:=c4.2.1;have d2a:256<=(J 7).N:=d2.1;have d2b:(J 7).N<=256:=d2.2.1;have d3a:64<=(J 8).N:=d3.1;have d3b:(J 8).N<=64:=d3.2.1;have d4a:64<=(J 9).N:=d4.1;have d4b:(J 9).N<=64:=d4.2.1;have c2c:∀i,i<(J 2).N->0<=cel (J 2).G i/\cel (J 2).G i<=255:=λi hi=>(c2.2.2 i hi).1;have c3c:∀i,i<(J 3).N->0<=cel (J 3).G i/\cel (J 3).G i<=255:=λi hi=>(c3.2.2 i hi).1;have c4c:∀i,i<(J 4).N->0<=cel (J 4).G i/\cel (J 4).G i<=255:=λi hi=>(c4.2.2 i hi).1;have d2c:∀i,i<(J 7).N->0<=cel (J 7).G i/\cel (J 7).G i<=255:=λi hi=>(d2.2.2 i hi).1;have d3c:∀i,i<(J 8).N->0<=cel (J 8).G i/\cel (J 8).G i<=255:=λi hi=>(d3.2.2 i hi).1;have d4c:∀i,i<(J 9).N->0<=cel (J 9).G i/\cel (J 9).G i<=255:=λi hi=>(d4.2.2 i hi).1;clear c2 c3 c4 d2 d3 d4;refine aZ 256 10 (λi (s:Int)=>0<=s/\s<=255*(i+0)) (λJ i s=>set_ (set_ J 10 (.i i)) 0 (.i s)) (λi _ _=>rfl) 0 rfl ⟨ac,ac⟩ λI0 μ0 hA0 i0 s0 hi0 hs0=>?_;simp only[bA,bz,bx,bE,Z_i,X_b,F_f,O_s,N_s,N_l,G_l,ap]at hA0 ⊢;obtain⟨u0,v0⟩:=hs0;refine br_ (λq=>?_) λq=>?_
 .have q:=ai q;have a1:=c2c i0 ac;have a2:=d2c i0 ac;unfold cel at a1 a2;exact⟨ac,ac,ac,ac,ac,hA0 i0 s0 _ _ ac ⟨ac,ac⟩ rfl⟩
 .have q:=aQ q;refine aZ 64 10 (λi (s:Int)=>0<=s/\s<=255*(i+256)) (λJ i s=>set_ (set_ J 10 (.i i)) 0 (.i s)) (λi _ _=>rfl) s0 rfl ⟨ac,ac⟩ λI1 μ1 hA1 i1 s1 hi1 hs1=>?_;simp only[bA,bz,bx,bE,Z_i,X_b,F_f,O_s,N_s,N_l,G_l,ap]at hA1 ⊢;obtain⟨u1,v1⟩:=hs1;refine br_ (λq=>?_) λq=>?_
  .have q:=ai q;have a1:=c3c i1 ac;have a2:=d3c i1 ac;unfold cel at a1 a2;exact⟨ac,ac,ac,ac,ac,hA1 i1 s1 _ _ ac ⟨ac,ac⟩ rfl⟩
  .have q:=aQ q;refine aZ 64 10 (λi (s:Int)=>0<=s/\s<=255*(i+320)) (λJ i s=>set_ (set_ J 10 (.i i)) 0 (.i s)) (λi _ _=>rfl) s1 rfl ⟨ac,ac⟩ λI2 μ2 hA2 i2 s2 hi2 hs2=>?_;simp only[bA,bz,bx,bE,Z_i,X_b,F_f,O_s,N_s,N_l,G_l,ap]at hA2 ⊢;obtain⟨u2,v2⟩:=hs2;refine br_ (λq=>?_) λq=>?_
   .have q:=ai q;have a1:=c4c i2 ac;have a2:=d4c i2 ac;unfold cel at a1 a2;exact⟨ac,ac,ac,ac,ac,hA2 i2 s2 _ _ ac ⟨ac,ac⟩ rfl⟩
   .have q:=aQ q;exact rfl⟩
abbrev ads:CT:=CS 268 sc.A sc.M sc.Y YA abA
theorem Xa:CO ads:=CXd sc (TX trivial ah) RZ
end
end Go.Proofs.YtldmjbgplgoedaaGreatDoor
namespace Go.Proofs.YtldmjbgplgoedaaGreatDoor
noncomputable section
open Go.RowKit U
def CR0 (f:FuncId) (args:List AT) (mem:List AB) (sk:List AS) (W:ae->ae):CT:=⟨f,args,mem,λJ=>.done (.val (an mem (tls (aG args) J)) (wg (cF sk (W J))))⟩
section
variable {P:Program} {K:KT} {G:GT}
theorem WR {args:List AT} {mem:List AB} {sk:List AS} {W:ae->ae} {J:ae} (hl:(W J).length=nlL sk) (hf:cF sk (W J++tls (aG args) J)=cF sk (W J)):uu ⟨sk,mem⟩ (W J++tls (aG args) J)=.val (an mem (tls (aG args) J)) (wg (cF sk (W J))):=by unfold uu;rw[bv _ hl,hf]
theorem UK {f:FuncId} {args:List AT} {mem:List AB} {sk:List AS} {W:ae->ae} (h:cV K P G (CS0 f args mem ⟨sk,mem⟩ λJ=>W J++tls (aG args) J)) (hl:∀J,(W J).length=nlL sk) (hf:∀J,cF sk (W J++tls (aG args) J)=cF sk (W J)):cV K P G (CR0 f args mem sk W) :=⟨h.call,λJ c w vs Q g1 g2 g3 g4=>h.ok J c w vs Q g1 g2 g3 (by show Q (uu _ _);rw[WR (hl J) (hf J)];exact g4)⟩
end
def cp1 (x:AV) (l:Lf):Lf:=match x with
 |.nI ..=>.i l.Z
 |.nB ..=>.b l.X
 |.nD ..=>.s l.O l.N
 |.nR ..=>.l l.N l.G
 |_=>l
def wh:Rs->ae->ae
 |[],_=>[]
 |x::r,l=>match x with
  |.c y=>match eU y with
   |true=>cp1 y (hd l)::wh r (tl l)
   |false=>wh r l
  |.a _ _ _ _ _=>.f (hd l).F::wh r (tl l)
theorem Sb {K:KT} (x:AV) (l:Lf):agV K x (cp1 x l) l:=by cases x<;>first|rfl | trivial | exact⟨rfl,rfl⟩ | exact⟨rfl,λ_ _=>rfl⟩
theorem mE {K:KT}:∀(r:Rs) (l:ae),mL K r (wh r l) l
 |[],_=>trivial
 |.c y::r,l=>by
  unfold mL wh;simp only
  cases h:eU y with
  |true=>exact⟨Sb y _,mE r _⟩
  |false=>exact mE r l
 |.a _ _ _ _ _::r,l=>⟨λ_ _=>rfl,mE r _⟩
theorem KQ {K:KT} {ty:TypeId} {r:Rs} {l l':ae} (h:l'=wh r l):lV K [.run ty r] l' l:=⟨by rw[h];exact mE r l,ah⟩
def uG (J:ae):ae:=[.b ((J 8).X&&(J 14).Z==3)]
def acE (J:ae):ae:=uG J++tls 0 J
abbrev y8:SP:=mkS ⟨[bm],[.run 100 qL0]⟩ 261 Tryz.f261 [tXO (.nP 0 0)] [.run 100 qL0] []
theorem F7 J R:TR y8 J R (BR ((J 8).X) (R (ak [.i 0,.b ((J 14).Z==3)] (cw J 0 75 k1))) (R (ak [.i 0,.b false] (cw J 0 75 k1)))):=af
theorem UQ:PF0 y8 acE:=λJ b1 b2=>⟨by
 rw[F7];refine br_ (λq=>?_) λq=>?_
 .refine⟨rfl,⟨?_,ah⟩,?_⟩
  .show((J 14).Z==3)=((J 8).X&&(J 14).Z==3);rw[q];rfl
  .exact KQ (l:=J) af
 .refine⟨rfl,⟨?_,ah⟩,?_⟩
  .show false=((J 8).X&&(J 14).Z==3);rw[q];rfl
  .exact KQ (l:=J) af⟩
abbrev aft:CT:=C0 y8 acE
theorem Vw:CO aft:=CX0 (TX trivial ah) UQ
abbrev Up:CT:=CR0 261 y8.A y8.M [bm] uG
theorem L7:cV KX Tryz.prog GX Up:=UK (W:=uG) Vw (λ_=>rfl) (λ_=>rfl)
end
end Go.Proofs.YtldmjbgplgoedaaGreatDoor
