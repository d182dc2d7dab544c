import Derived.Test.YtldmjbgplgoedaaGreatDoorRp35
set_option linter.all false
namespace Go.Proofs.YtldmjbgplgoedaaGreatDoor
noncomputable section
open Go.RowKit U
theorem Vc {P:Program} {K:KT} {G:GT} {f:FuncId} {args:List AT} {mem:List AB} {ks:List Bool} {sk:List AS} {msk:List AB} {Pr:ae->Prop} {W:ae->ae} (hc:aS P f) (h:∀(J:ae),bTs K 1 (au args J)->Pr J->∃C',cV K P G C'/\C'.f=f/\∃r,C'.app (au args J) (an mem (tls (aG args) J))=some r/\Sa (VG [⟨sk,mW ks mem msk⟩] r) (qS K ks mem sk msk (tls (aG args) J) (W J))):cV K P G (CK f args mem ks sk msk Pr W):=⟨hc,λJ c w vs Q hG hm hv ⟨hP,hQ⟩=>by obtain⟨C',h1,h2,r,h3,h4⟩:=h J (kx hv) hP;have h5:=jL (Q:=Q) (dg (λl hl=>SG hl hQ) h4.out);have:=CT.app_ok h1 h3 hG hm hv h5;rw[h2]at this;refine this.mono λe w' ⟨v,he,m,y,hq,c',k2,k3⟩=>?_;obtain⟨ps,l,e1,e2,e3⟩:=hq;obtain⟨m',y',q1,q2,q3⟩:=uc e1 e2 e3 k2 k3;exact⟨v,he,m',y',q1,c',q2,q3⟩⟩
def pnK (J:ae):ae:=cw J 0 88 k18
def pnP (J:ae):Prop:=((J 26).Z=2/\QU (pnK J))\/((J 26).Z=3/\Qd (pnK J))
def pnW (J:ae):ae:=bif (J 26).Z==2 then SL (pnK J)else Ws (pnK J)
abbrev pnA:List AT:=[tXO (.nP 0 0),.tX (.sA bJ),aj 0 3,aj 0 3,.tX (.sA acS)]
abbrev pnM:List AB:=[.run 100 sCD]
abbrev pnY:Wy:=⟨[.sO (.nR 6 1 6 0 g0)],[.run 100 sCD]⟩
abbrev pnS:List AB:=[]
abbrev pnC:CT:=CK 267 pnA pnM [true] pnY.sk pnS pnP pnW
theorem Rz (J:ae) (R:ae->Prop):apR abD (au pnA J) (an pnM (tls (aG pnA) J)) pnY R=((2<=(J 26).Z)/\((J 26).Z<=2)/\let apn281801:ae:=(cw J 0 88 k18);(QU apn281801)/\let rpn281801:ae:=SL apn281801;R (ak [.i 0,.l (rpn281801 0).N (rpn281801 0).G] (cw J 13 75 k1))):=af
theorem Q0 (J:ae) (R:ae->Prop):apR abb (au pnA J) (an pnM (tls (aG pnA) J)) pnY R=((3<=(J 26).Z)/\let apn381801:ae:=(cw J 0 88 k18);(Qd apn381801)/\let rpn381801:ae:=Ws apn381801;R (ak [.i 0,.l (rpn381801 0).N (rpn381801 0).G] (cw J 13 75 k1))):=af
theorem aaD:cV KX Tryz.prog GX pnC:=Vc pn2_ct.call λJ b1 hp=>by
 rcases hp with ⟨e,p⟩ | ⟨e,p⟩
 .refine⟨abD,pn2_ct,rfl,bD (R:=qS KX [true] pnM pnY.sk pnS (tls (aG pnA) J) (pnW J)) ?_⟩;rw[show(⟨pnY.sk,mW [true] pnM pnS⟩:Wy)=pnY from by kernel_rfl]
  rw[Rz,show pnW J=SL (pnK J) by unfold pnW;rw[e];rfl]
  exact⟨ac,ac,p,rfl,⟨⟨af,λ_ _=>af⟩,ah⟩,ay af,ah⟩
 .refine⟨abb,T1,rfl,bD (R:=qS KX [true] pnM pnY.sk pnS (tls (aG pnA) J) (pnW J)) ?_⟩;rw[show(⟨pnY.sk,mW [true] pnM pnS⟩:Wy)=pnY from by kernel_rfl]
  rw[Q0,show pnW J=Ws (pnK J) by unfold pnW;rw[e];rfl]
  exact⟨ac,p,rfl,⟨⟨af,λ_ _=>af⟩,ah⟩,ay af,ah⟩
theorem afb (J:ae) (hp:pnP J):Sa2 (PnQ (J 26).Z (J 27).Z (J 21).X) (pnW J):=⟨by
 unfold pnW;rcases hp with ⟨e,p⟩ | ⟨e,p⟩
 .have h:=(abT _ p).out;rw[e];exact kmp h
 .have h:=(aa0 _ p).out;rw[e];exact kmp h⟩
def DJ (J:ae) (o:Nat):Prop:=(J o).Z=(J (o+13)).Z/\(J (o+1)).Z=(J (o+14)).Z/\(J (o+2)).X=(J (o+8)).X/\eQ (J (o+1)).Z (J (o+2)).X (J (o+3)).X
theorem PnE.frm {ty st:Int} {il se:Bool} {e L:ae} (h:PnE ty st il e) (hc:eQ st il se) (hty:ty≠1) (hL:L=ak [.i ty,.i st,.b il,.b se] (cw e 0 22 k0)):Oo L:=by
 subst hL;refine⟨λk=>?_,λk=>?_,λ_=>⟨hc,hty,⟨kmp h.uses,kmp h.d0,kmp h.d1⟩,λn hn=>?_,λk=>?_⟩⟩
 .exact absurd ((show(e 0).Z=0 from kmp k).symm.trans h.kind) afH
 .exact absurd ((show(e 0).Z=1 from kmp k).symm.trans h.kind) afH
 .have a:bAt (coB e 0) n=false:=h.cod n hn;have b:bu 64 (λi=>(e 21).F (i+n*64)) (λ_=>0)=true:=eqArr_ok.2 λi hi=>h.lev _ ac;have g:bAt (coB e 0) n=!bu 64 (λi=>(e 21).F (i+n*64)) (λ_=>0):=by rw[a,b];rfl
  exact kmp g
 .have k:(e 4).X=true:=kmp k;rw[h.dct]at k;cases k
def BY (J:ae) (o:Nat) (mx my:Int):Prop:=∀e,PnE (J (o+13)).Z (J (o+14)).Z (J (o+8)).X e->pm (ak (cw e 0 22 k0) (ak [.i mx,.i my] (cw J o 75 30766937640657705144864600426160834663227862744116540461478249272457)))
def itR (J e:ae):ae:=ak (cw e 0 22 k0) (ak [.i (J 5).Z,.i (J 6).Z] (cw J 13 75 k1))
def itA (J e r:ae):ae:=ak [.i (J 0).Z,.i (J 1).Z,.l (J 2).N (J 2).G,.l (J 3).N (J 3).G,.l (J 4).N (J 4).G,.i (r 0).Z,.i (r 1).Z,.l (r 2).N (r 2).G,.l (r 3).N (r 3).G,.l (r 4).N (r 4).G,.f (J 25).F] (ak (cw J 13 75 k1) (cw e 0 22 k0))
def itF (r:ae):ae:=bif (r 0).X then cw r 1 22 k0 else ak [.i (r 1).Z,.b (r 2).X,.b (r 3).X,.b (r 4).X,.b false] (cw r 6 17 k12)
def QX (J:ae):Prop:=pnP J/\DJ J 13/\(J 26).Z≠1/\vmP (J 25).F/\BY J 13 (J 5).Z (J 6).Z
def P9 (J w:ae):Prop:=∃e,PnE (J 26).Z (J 27).Z (J 21).X e/\w=itF (qx (itA J e (li (itR J e))))
abbrev dF:SP:=mkS ⟨[.sA sMA],[.run 100 sCD]⟩ 180 Tryz.f180 [tXO (.nP 0 0),.tX (.sA bJ),aj 0 3,aj 0 3,.tX (.sA acS)] [.run 100 sCD] [(5,.heads [⟨[(0,tXO (.nP 0 0)),(2,aj 0 3),(3,aj 0 3),(6,tXO (.nP 1 0)),(9,tXO (.nP 2 0)),(10,tXO (.nP 3 0)),(11,tXO (.nP 4 0)),(12,tXO (.nP 5 0)),(13,aj (-1) (-1)),(23,tXO (.nR 6 1 6 0 g0)),(24,aj 1 6),(25,aj 0 0)],[.run 100 sCD,.run 31 bJ,.run 189 acS,.run 127 abf,.run 127 abf,.run 31 ad5],[]⟩,⟨[(0,tXO (.nP 0 0)),(2,aj 0 3),(3,aj 0 3),(6,tXO (.nP 1 0)),(9,tXO (.nP 2 0)),(10,tXO (.nP 3 0)),(11,tXO (.nP 4 0)),(12,tXO (.nP 5 0)),(13,aj 0 1099511627776),(23,tXO (.nR 6 1 6 0 g0)),(24,aj 1 6),(25,aj 1 6)],[.run 100 sCD,.run 31 bJ,.run 189 acS,.run 127 abf,.run 127 sMA,.run 31 bJ],[]⟩])] [pnC,YL,ads,acw,YZ]
theorem IA J R:TR1 dF J R (let x0:ae:=(cw J 0 88 k18);(pnP x0)/\let x1:ae:=pnW x0;∃(I0:ae->Prop) (μ0:ae->Nat),I0 (ak [.i 0,.i (J 5).Z,.i (J 6).Z,.i (-1),.l (x1 0).N (x1 0).G,.i (((x1 0).N:Nat):Int),.i 0] (ak (cw J 13 75 k1) (ak (cw J 0 5 18697) (ak (cw J 7 6 37465) [.i 0,.b false,.b false,.b false,.b false,.f (λ_=>0),.b false,.b false,.b false,.b false,.b false,.b false,.f (λ_=>0),.i 0,.b false,.b false,.b false,.b false,.f (λ_=>0),.b false,.b false,.b false,.b false,.b false,.b false,.f (λ_=>0),.f (λ_=>0)]))))/\∀l0,I0 l0->((decide ((l0 0).Z=0))->let x2:ae:=(ak (cw ((l0 4).G (l0 6).Z.toNat) 0 22 k0) (ak [.i (l0 1).Z,.i (l0 2).Z] (cw l0 7 75 k1)));(pm x2)/\let x3:ae:=li x2;let x4:ae:=(ak (cw l0 82 5 18697) (cw x3 0 5 18697));(YA x4)/\let x5:ae:=abA x4;let x6:ae:=(ak (cw l0 87 6 37465) (ak (cw ((l0 4).G (l0 6).Z.toNat) 0 22 k0) (cw l0 7 75 k1)));(sV x6)/\let x7:ae:=qE x6;((cw l0 7 75 k1)=(cw l0 7 75 k1))/\Ag I0 μ0 l0 (ak [.i 1,.i (l0 1).Z,.i (l0 2).Z,.i ((x5 0).Z+(Int.tdiv ((x7 22).Z*(l0 26).Z) 2)),.l (l0 4).N (l0 4).G,.i (l0 5).Z,.i 1] (ak (cw l0 7 99 k33) (ak (cw ((l0 4).G (l0 6).Z.toNat) 0 22 k0) (cw x3 0 5 18697)))))/\((decide ((l0 0).Z=0))=false->((decide ((l0 0).Z=1))->((decide ((l0 6).Z<(l0 5).Z))->((l0 6).Z<(((l0 4).N:Nat):Int))/\let x2:ae:=(ak (cw ((l0 4).G (l0 6).Z.toNat) 0 22 k0) (ak [.i (l0 1).Z,.i (l0 2).Z] (cw l0 7 75 k1)));(pm x2)/\let x3:ae:=li x2;let x4:ae:=(ak (cw l0 82 5 18697) (cw x3 0 5 18697));(YA x4)/\let x5:ae:=abA x4;let x6:ae:=(ak (cw l0 87 6 37465) (ak (cw ((l0 4).G (l0 6).Z.toNat) 0 22 k0) (cw l0 7 75 k1)));(sV x6)/\let x7:ae:=qE x6;((cw l0 7 75 k1)=(cw l0 7 75 k1))/\((decide (((x5 0).Z+(Int.tdiv ((x7 22).Z*(l0 26).Z) 2))<(l0 3).Z))->(((l0 6).Z+1)<=6)/\Ag I0 μ0 l0 (ak [.i 1,.i (l0 1).Z,.i (l0 2).Z,.i ((x5 0).Z+(Int.tdiv ((x7 22).Z*(l0 26).Z) 2)),.l (l0 4).N (l0 4).G,.i (l0 5).Z,.i ((l0 6).Z+1)] (ak (cw l0 7 99 k33) (ak (cw ((l0 4).G (l0 6).Z.toNat) 0 22 k0) (cw x3 0 5 18697)))))/\((decide (((x5 0).Z+(Int.tdiv ((x7 22).Z*(l0 26).Z) 2))<(l0 3).Z))=false->(((l0 6).Z+1)<=6)/\Ag I0 μ0 l0 (ak (ak [.i 1] (ak (cw l0 1 5 6217) [.i ((l0 6).Z+1)])) (cw l0 7 126 351293321999893821159550943980967169141487796189255951891884781901203599941895421429333965453135778048981468484745))))/\((decide ((l0 6).Z<(l0 5).Z))=false->let x8:ae:=(ak (ak (cw l0 82 5 18697) (ak (cw l0 128 5 18697) [.f (l0 19).F])) (ak (cw l0 7 75 k1) (cw l0 106 22 k0)));(QL x8)/\let x9:ae:=qx x8;((cw l0 7 75 k1)=(cw l0 7 75 k1))/\((x9 0).X->R (ak [.i 0] (ak (cw x9 1 22 k0) (cw l0 7 75 k1))))/\((x9 0).X=false->R (ak (ak [.i 0] (ak (cw x9 1 4 1169) [.b false])) (ak (cw x9 6 17 k12) (cw l0 7 75 k1))))))/\((decide ((l0 0).Z=1))=false-> False))):=af
def itZ:ae:=[.i 0,.b false,.b false,.b false,.b false,.f (λ_=>0),.b false,.b false,.b false,.b false,.b false,.b false,.f (λ_=>0)]
def itH (J r:ae) (h least i:Int) (m:ae):ae:=ak [.i h,.i (J 5).Z,.i (J 6).Z,.i least,.l (r 0).N (r 0).G,.i (((r 0).N:Nat):Int),.i i] (ak (cw J 13 75 k1) (ak [.i (J 0).Z,.i (J 1).Z,.l (J 2).N (J 2).G,.l (J 3).N (J 3).G,.l (J 4).N (J 4).G,.i (J 7).Z,.f (J 8).F,.i (J 9).Z,.i (J 10).Z,.i (J 11).Z,.i (J 12).Z] (ak itZ m)))
def itM (e r:ae):ae:=ak (cw e 0 22 k0) [.i (r 0).Z,.i (r 1).Z,.l (r 2).N (r 2).G,.l (r 3).N (r 3).G,.l (r 4).N (r 4).G]
def Ys (J:ae):ae:=gO [true] dF.M dF.Y.sk [] (evW (TS dF J))
theorem wO (J e:ae) (hc:DJ J 13) (h3:(J 26).Z≠1) (he:PnE (J 26).Z (J 27).Z (J 21).X e) {L:ae} (hL:L=ak [.i (J 13).Z,.i (J 14).Z,.b (J 15).X,.b (J 16).X] (cw e 0 22 k0)):Oo L:=by obtain⟨c1,c2,c3,c4⟩:=hc;have c1:(J 13).Z=(J 26).Z:=c1;have c2:(J 14).Z=(J 27).Z:=c2;have c3:(J 15).X=(J 21).X:=c3;have c4:eQ (J 14).Z (J 15).X (J 16).X:=c4;rw[<-c1,<-c2,<-c3]at he;rw[<-c1]at h3;exact he.frm c4 h3 hL
theorem JA (J:ae) (hp:QX J):Sa1 (TS dF J) (λl=>(hd l).Z=0/\agT KX [true] dF.M [] (tls (nlL dF.Y.sk) (tl l)) (tls (aG dF.A) J)/\P9 J (gO [true] dF.M dF.Y.sk [] l)):=⟨by
 rw[IA];dsimp only;obtain⟨p1,p2,p3,p4,p5⟩:=hp;refine⟨kmp p1,?_⟩;have q:=(afb J p1).out;have hw:∀x,pnW (cw J 0 88 k18)=x->pnW J=x:=λx h=>by rw[<-h];kernel_rfl
 generalize hr:pnW _=r;rw[hw r hr]at q;clear hw hr p1;obtain⟨⟨q1,q2⟩,q3⟩:=q;refine⟨λl=>l=itH J r 0 (-1) 0 (ak itZ [.f (λ_=>0)])\/∃(k:Int) (i:Nat) (e:ae),1<=i/\i<=(r 0).N/\PnE (J 26).Z (J 27).Z (J 21).X e/\l=itH J r 1 k i (itM e (li (itR J e))),λl=>(r 0).N-(l 6).Z.toNat,.inl af,λl hl=>?_⟩
 have step:∀(I:ae->Prop) (μ:ae->Nat),I=(λl=>l=itH J r 0 (-1) 0 (ak itZ [.f (λ_=>0)])\/∃(k:Int) (i:Nat) (e:ae),1<=i/\i<=(r 0).N/\PnE (J 26).Z (J 27).Z (J 21).X e/\l=itH J r 1 k i (itM e (li (itR J e))))->μ=(λl=>(r 0).N-(l 6).Z.toNat)->∀(i:Nat) (e l l':ae),i<(r 0).N->(l 6).Z=i->PnE (J 26).Z (J 27).Z (J 21).X e->l'=itH J r 1 (l' 3).Z ((i+1:Nat):Int) (itM e (li (itR J e)))->Ag I μ l l':=by intro I μ hI hμ i e l l' hi h6 he h;subst hI hμ;have h6':(l' 6).Z=((i+1:Nat):Int):=(congrArg (λl=>(l 6).Z) h).trans rfl;refine⟨.inr ⟨(l' 3).Z,i+1,e,ac,ac,he,h⟩,?_⟩;show(r 0).N-(l' 6).Z.toNat<(r 0).N-(l 6).Z.toNat;omega
 replace step:=step _ _ rfl rfl
 rcases hl with hl | ⟨k,i,e,i1,i2,he,hl⟩
 .refine⟨λ_=>?_,λh=>absurd (show decide ((l 0).Z=0)=true by rw[hl];rfl) (by rw[h];decide)⟩
  have hG:∀x,(l 4).G (l 6).Z.toNat=x->(r 0).G 0=x:=λx h=>by rw[<-h,hl];kernel_rfl
  generalize he':(l 4).G (l 6).Z.toNat=e;have he:=q3 0 ac;rw[hG e he']at he;clear he' hG;exact⟨kmp (p5 e he) (by rw[hl];kernel_rfl),ah,wO J e p2 p3 he (by rw[hl];kernel_rfl),rfl,step 0 e l _ ac (by rw[hl];rfl) he (by rw[hl];kernel_rfl)⟩
 .refine⟨λh=>absurd ((show(1:Int)=(l 0).Z by rw[hl];rfl).trans (of_decide_eq_true h)) afH,λ_=>⟨λ_=>⟨λh=>?_,λh=>?_⟩,λh=>absurd (show decide ((l 0).Z=1)=true by rw[hl];rfl) (by rw[h];decide)⟩⟩
  .have h:=of_decide_eq_true h;have h6:(l 6).Z=i:=by rw[hl];rfl
   have h5:(l 5).Z=(r 0).N:=by rw[hl];rfl
   have h4:(l 4).N=(r 0).N:=by rw[hl];rfl
   have hi:i<(r 0).N:=ac;have hG:∀x,(l 4).G (l 6).Z.toNat=x->(r 0).G i=x:=λx h=>by rw[<-h,hl];kernel_rfl
   generalize he':(l 4).G (l 6).Z.toNat=e';have he2:=q3 i hi;rw[hG e' he']at he2;clear he' hG;exact⟨ac,kmp (p5 e' he2) (by rw[hl];kernel_rfl),ah,wO J e' p2 p3 he2 (by rw[hl];kernel_rfl),rfl,λ_=>⟨ac,step i e' l _ hi h6 he2 (by rw[hl];kernel_rfl)⟩,λ_=>⟨ac,step i e l _ hi h6 he (by rw[hl];kernel_rfl)⟩⟩
  .clear h step q3;refine⟨kmp p4 (by rw[hl];kernel_rfl),rfl,?_⟩
   have hA:∀x,qx (itA J e (li (itR J e)))=x->P9 J (itF x):=λx h=>⟨e,he,by rw[<-h]⟩
   generalize ha:qx _=a;have hA:=hA a (by rw[<-ha,hl];kernel_rfl)
   clear ha;refine⟨λh=>⟨rfl,⟨ay (by rw[hl];kernel_rfl),ah⟩,?_⟩,λh=>⟨rfl,⟨ay (by rw[hl];kernel_rfl),ah⟩,?_⟩⟩
   .rw[show itF a=cw a 1 22 k0 from Bm h _ _]at hA;exact kmp hA
   .rw[show itF a=ak [.i (a 1).Z,.b (a 2).X,.b (a 3).X,.b (a 4).X,.b false] (cw a 6 17 k12)from A8 h _ _]at hA;exact kmp hA⟩
theorem U0:∀J,bTs KX 1 (au dF.A J)->bBs KX 1 (an dF.M (tls (aG dF.A) J))->QX J->Sa1 (TS dF J) (λl=>(hd l).Z=0/\agT KX [true] dF.M [] (tls (nlL dF.Y.sk) (tl l)) (tls (aG dF.A) J)/\P9 J (gO [true] dF.M dF.Y.sk [] l)):=λJ _ _ hp=>JA J hp
abbrev ae1:List AB:=[]
abbrev acH:CT:=Ck dF [true] ae1 QX Ys
theorem TW:CO acH:=CXe dF (TX ⟨aaD,yD,Xa,IK,yA,ah⟩ ah) U0
theorem aaq (J:ae) (hp:QX J):Sa2 (P9 J) (Ys J):=ji (JA J hp)
end
end Go.Proofs.YtldmjbgplgoedaaGreatDoor
namespace Go.Proofs.YtldmjbgplgoedaaGreatDoor
noncomputable section
open Go.RowKit U
def MG (_:ae):Prop:=True
def Bv (J:ae):ae:=[.i (bif (J 13).Z==2 then 1 else bif (J 13).Z==3 then 2 else 0)]
abbrev ti:SP:=mkS ⟨[aD 0 2],[.run 100 sCD]⟩ 95 Tryz.f95 [tXO (.nP 0 0)] [.run 100 sCD] []
theorem xg J R:TR ti J R (BR ((J 13).Z==2) (R (ak [.i 0,.i 1] (cw J 0 75 k1))) (BR ((J 13).Z==3) (R (ak [.i 0,.i 2] (cw J 0 75 k1))) (R (ak [.i 0,.i 0] (cw J 0 75 k1))))):=af
theorem Om:PFk ti [true] [] MG Bv:=λJ b1 b2 hp=>⟨by
 rw[xg];unfold Bv;refine⟨λh=>⟨rfl,⟨?_,ah⟩,ay af,ah⟩,λh=>⟨λh'=>⟨rfl,⟨?_,ah⟩,ay af,ah⟩,λh'=>⟨rfl,⟨?_,ah⟩,ay af,ah⟩⟩⟩
 .rw[h];rfl
 .rw[h,h'];rfl
 .rw[h,h'];rfl⟩
abbrev abS:List AB:=[]
abbrev RI:CT:=Ck ti [true] abS MG Bv
theorem MY:CO RI:=CXk ti (TX trivial ah) Om
def aab (J:ae):Int:=max (max (uY (J 2).G (J 7).G (J 2).N) (uY (J 3).G (J 8).G (J 3).N)) (uY (J 4).G (J 9).G (J 4).N)
def ab5 (_:ae):Prop:=True
def Z6 (J:ae):ae:=[.i (aab J)]
abbrev NF:SP:=mkS ⟨[aD (-1) 255],[]⟩ 260 Tryz.f260 [.tX (.sA bJ),.tX (.sA bJ)] [] [] [qV,VW]
theorem Fz J R:TR NF J R (let x0:ae:=(cw J 0 5 18697);(cI x0)/\let x1:ae:=gL x0;let x2:ae:=(cw J 5 5 18697);(cI x2)/\let x3:ae:=gL x2;let x4:ae:=[.l (J 2).N (J 2).G,.l (J 7).N (J 7).G];(Ah x4)/\let x5:ae:=vJ x4;let x6:ae:=[.l (J 3).N (J 3).G,.l (J 8).N (J 8).G];(Ah x6)/\let x7:ae:=vJ x6;let x8:ae:=[.l (J 4).N (J 4).G,.l (J 9).N (J 9).G];(Ah x8)/\let x9:ae:=vJ x8;R [.i 0,.i (max (max (x5 0).Z (x7 0).Z) (x9 0).Z)]):=af
theorem RN:PF1 NF ab5 Z6:=λJ b1 b2 hp=>⟨by
 rw[Fz];obtain⟨⟨c0,c1,c2,c3,c4,-⟩,⟨d0,d1,d2,d3,d4,-⟩,-⟩:=b1;have c0a:16<=(J 0).Z:=c0.1;have c0b:(J 0).Z<=16:=c0.2;have c1a:16<=(J 1).Z:=c1.1;have c1b:(J 1).Z<=16:=c1.2;have c2a:256<=(J 2).N:=c2.1;have c2b:(J 2).N<=256:=c2.2.1;have c3a:64<=(J 3).N:=c3.1;have c3b:(J 3).N<=64:=c3.2.1;have c4a:64<=(J 4).N:=c4.1;have c4b:(J 4).N<=64:=c4.2.1;have d0a:16<=(J 5).Z:=d0.1;have d0b:(J 5).Z<=16:=d0.2;have d1a:16<=(J 6).Z:=d1.1;have d1b:(J 6).Z<=16:=d1.2;have d2a:256<=(J 7).N:=d2.1;have d2b:(J 7).N<=256:=d2.2.1;have d3a:64<=(J 8).N:=d3.1;have d3b:(J 8).N<=64:=d3.2.1;have d4a:64<=(J 9).N:=d4.1;have d4b:(J 9).N<=64:=d4.2.1;clear c0 c1 c2 c3 c4 d0 d1 d2 d3 d4 b2;have f16':∀ {a b:Int} {x y z:Nat},a=16->b=16->x=256->y=64->z=64->fmB a b x y z=true:=λe1 e2 e3 e4 e5=>by rw[e1,e2,e3,e4,e5];decide
 have F0:fmB (J 0).Z (J 1).Z (J 2).N (J 3).N (J 4).N=true:=f16' ac ac ac ac ac;have F5:fmB (J 5).Z (J 6).Z (J 7).N (J 8).N (J 9).N=true:=f16' ac ac ac ac ac;have D0:(J 2).N<=(J 7).N:=ac;have D1:(J 3).N<=(J 8).N:=ac;have D2:(J 4).N<=(J 9).N:=ac;exact⟨F0,F5,D0,D1,D2,rfl,⟨rfl,ah⟩,ah⟩⟩
abbrev adu:CT:=C1 NF ab5 Z6
theorem Wt:CO adu:=CX1 (TX ⟨dd,OR,ah⟩ ah) RN
def EC (J:ae):ae:=[.b (aab J==0)]
abbrev Mk:SP:=mkS ⟨[bm],[]⟩ 178 Tryz.f178 [.tX (.sA bJ),.tX (.sA bJ)] [] [] [adu]
theorem BL J R:TR Mk J R (let x0:ae:=(cw J 0 10 612681993);(ab5 x0)/\let x1:ae:=Z6 x0;R [.i 0,.b ((x1 0).Z==0)]):=af
theorem Wm:PF0 Mk EC:=λJ b1 b2=>⟨by rw[BL];exact⟨ah,rfl,⟨(by show(_:Bool)=_;kernel_rfl),ah⟩,ah⟩⟩
abbrev adv:CT:=C0 Mk EC
theorem SF:CO adv:=CX0 (TX ⟨Wt,ah⟩ ah) Wm
theorem RK {A:ae} (h:alD A=true):(A 19).X=true/\(A 25).Z=3:=by unfold alD at h;simp only[Bool.and_eq_true,beq_iff_eq]at h;exact h.1
theorem xv {A:ae} {fd:Bool}:∀ {n:Nat},gf A fd n=true->∃k,k<n/\alC A fd k=true
 |0,h=>by cases h
 |n+1,h=>by
  have h:(gf A fd n||alC A fd n)=true:=h;rcases Bool.or_eq_true_iff.1 h with h | h
  .obtain⟨k,k1,k2⟩:=xv h;exact⟨k,ac,k2⟩
  .exact⟨n,ac,h⟩
theorem zO {ty st:Int} {il se:Bool} {L K:ae} (hc:eQ st il se) (hd:alD (PS K)->il=true/\st=3) (hL:L=ak [.i ty,.i st,.b il,.b se] (cw (vD K) 0 22 k0)):MbI L 4/\oR L:=by subst hL;exact⟨⟨⟨⟨rfl,rfl,rfl⟩,lt8 rfl rfl rfl rfl rfl rfl rfl rfl,λ_ _=>rfl⟩,lt6 rfl rfl rfl rfl rfl rfl⟩,hc,hd⟩
theorem yt {ty st:Int} {il se:Bool} {L K:ae} (hc:eQ st il se) (hd:alD (PS K)->il=true/\st=3) (hL:L=ak [.i ty,.i st,.b il,.b se] (cw (vD K) 0 22 k0)):Oo L :=⟨λk=>absurd ((show(1:Int)=(L 4).Z by rw[hL];rfl).trans k) afH,λ_=>zO hc hd hL,λk=>absurd ((show(1:Int)=(L 4).Z by rw[hL];rfl).trans k) afH⟩
theorem Lq (J e r:ae):itF (qx (itA J e r))=mbw e 0 (gf (itA J e r) (alD (itA J e r)) 6&&alD (itA J e r)) (alC (itA J e r) (alD (itA J e r))) (alV (itA J e r) (alD (itA J e r))):=by
 show(bif (gf (itA J e r) (alD (itA J e r)) 6)then cw (qx (itA J e r)) 1 22 k0 else ak [.i ((qx (itA J e r)) 1).Z,.b ((qx (itA J e r)) 2).X,.b ((qx (itA J e r)) 3).X,.b ((qx (itA J e r)) 4).X,.b false] (cw (qx (itA J e r)) 6 17 k12))=_
 generalize gf (itA J e r) (alD (itA J e r)) 6=a;cases a<;>kernel_rfl
theorem y3 {ty st:Int} {il se:Bool} {L e A:ae} (h:PnE ty st il e) (hc:eQ st il se) (hty:ty≠1) (hil:(A 19).X=il) (hst:(A 25).Z=st) (hL:L=ak [.i ty,.i st,.b il,.b se] (cw (mbw e 0 (gf A (alD A) 6&&alD A) (alC A (alD A)) (alV A (alD A))) 0 22 k0)):(L 4).Z=2/\sq L:=by subst hL;refine⟨kmp h.kind,hc,hty,⟨kmp h.uses,kmp h.d0,kmp h.d1⟩,lt6 af af af af af af,λk=>?_⟩;have k:(gf A (alD A) 6&&alD A)=true:=kmp k;obtain⟨k1,k2⟩:=Bool.and_eq_true_iff.1 k;obtain⟨n,n1,n2⟩:=xv k1;obtain⟨a,b⟩:=RK k2;refine⟨⟨hil.symm.trans a,hst.symm.trans b⟩,n,n1,?_⟩;have key:∀n,n<6->alC A (alD A) n=true->bAt [alC A (alD A) 0,alC A (alD A) 1,alC A (alD A) 2,alC A (alD A) 3,alC A (alD A) 4,alC A (alD A) 5] n=true:=lt6 id id id id id id;exact kmp (key n n1 n2)
def kY (J:ae):ae:=QJ [.i (J 28).Z,.i (J 29).Z,.l (J 30).N (J 30).G,.l (J 31).N (J 31).G,.l (J 32).N (J 32).G,.i (J 0).Z,.i (J 1).Z]
def cZ (r:ae):ae:=[.i (r 0).Z,.i (r 1).Z,.l (r 2).N (r 2).G,.l (r 3).N (r 3).G,.l (r 4).N (r 4).G]
def skZ:ae:=[.i 0,.b false,.b false,.b false,.b false,.i 0,.i 0,.i 0,.i 0,.i 0,.i 0,.i 0,.i 0,.f (λ_=>0),.i 0,.b false,.b false,.b false,.b false,.b false,.b false,.f (λ_=>0)]
def A5 (J m:ae):ae:=ak (cw m 0 22 k0) (ak [.i (J 0).Z,.i (J 1).Z] (cw J 8 75 k1))
def iz (J m:ae):ae:=ak [.i (J 2).Z,.f (J 3).F,.i (J 4).Z,.i (J 5).Z,.i (J 6).Z,.i (J 7).Z] (ak (cw m 0 22 k0) (cw J 8 75 k1))
def BW (J:ae):ae:=ak (cZ (kY J)) (cw J 8 75 k1)
def yi (J:ae):ae:=ak (cZ (kY J)) (cw J 0 83 k34)
def pR (J:ae):ae:=ak (cZ (kY J)) (ak (cZ (li (A5 J skZ))) (ak [.f (J 20).F] (ak (cw J 8 75 k1) skZ)))
inductive Qt (J:ae):ae->Prop
 |intra:Qt J (vD (BW J))
 |skip:(J 21).Z≠1->(EC (ak (cZ (kY J)) (cZ (li (A5 J skZ))))=[.b true]\/gf (pR J) (alD (pR J)) 6=false)->Qt J skZ
 |inter (m:ae):(J 21).Z≠1->P9 (yi J) m->Qt J m
def KA (J:ae):Prop:=Yi [.i (J 28).Z,.i (J 29).Z,.l (J 30).N (J 30).G,.l (J 31).N (J 31).G,.l (J 32).N (J 32).G,.i (J 0).Z,.i (J 1).Z]/\DJ J 8/\(vmP (J 19).F/\vmP (J 20).F)/\((J 21).Z=1\/((J 21).Z=2\/(J 21).Z=3)/\pm (A5 J skZ)/\pnP (yi J)/\BY J 8 (J 0).Z (J 1).Z)
def LT (J w:ae):Prop:=∃m,w=cw (qE (iz J m)) 0 29 k8/\Qt J m/\sV (iz J m)/\pm (A5 J m)
abbrev dE:SP:=mkS ⟨[.sA qL6],[.run 100 sCD]⟩ 99 Tryz.f99 [tXO (.nP 0 0),aj 0 3,aj 0 3,.tX (.sA acS)] [.run 100 sCD] [] [adV,RI,ac1,acw,YL,adv,YZ,acH] [(aw 93 Tryz.f93)]
theorem HF J R:TR1 dE J R (let x0:ae:=(ak (cw J 28 5 18697) [.i (J 0).Z,.i (J 1).Z]);(Yi x0)/\let x1:ae:=QJ x0;let x2:ae:=(cw J 8 75 k1);(MG x2)/\let x3:ae:=Bv x2;(((x3 0).Z==0)->let x4:ae:=(ak (cw x1 0 5 18697) (cw J 8 75 k1));(YX x4)/\let x5:ae:=vD x4;((cw J 8 75 k1)=(cw J 8 75 k1))/\let x6:ae:=(ak (cw J 2 6 37465) (ak (cw x5 0 22 k0) (cw J 8 75 k1)));(sV x6)/\let x7:ae:=qE x6;((cw J 8 75 k1)=(cw J 8 75 k1))/\R (ak [.i 0] (ak (cw x7 0 29 k8) (cw J 8 75 k1))))/\(((x3 0).Z==0)=false->let x8:ae:=(ak [.i 0,.b false,.b false,.b false,.b false,.i 0,.i 0,.i 0,.i 0,.i 0,.i 0,.i 0,.i 0,.f (λi0=>0),.i 0,.b false,.b false,.b false,.b false,.b false,.b false,.f (λ_=>0),.i (J 0).Z,.i (J 1).Z] (cw J 8 75 k1));(pm x8)/\let x9:ae:=li x8;(((EC (ak (cw x1 0 5 18697) (cw x9 0 5 18697))) 0).X->(((EC (ak (cw x1 0 5 18697) (cw x9 0 5 18697))) 0).X=true)/\let x10:ae:=(ak (ak (cw J 2 6 37465) [.i 0,.b false,.b false,.b false,.b false,.i 0,.i 0,.i 0,.i 0,.i 0,.i 0,.i 0,.i 0,.f (λi0=>0),.i 0,.b false,.b false,.b false,.b false,.b false,.b false,.f (λ_=>0)]) (cw J 8 75 k1));(sV x10)/\let x11:ae:=qE x10;R (ak [.i 0] (ak (cw x11 0 29 k8) (cw J 8 75 k1))))/\(((EC (ak (cw x1 0 5 18697) (cw x9 0 5 18697))) 0).X=false->(((EC (ak (cw x1 0 5 18697) (cw x9 0 5 18697))) 0).X=false)/\let x12:ae:=(ak (ak (cw x1 0 5 18697) (ak (cw x9 0 5 18697) [.f (J 20).F])) (ak (cw J 8 75 k1) [.i 0,.b false,.b false,.b false,.b false,.i 0,.i 0,.i 0,.i 0,.i 0,.i 0,.i 0,.i 0,.f (λi0=>0),.i 0,.b false,.b false,.b false,.b false,.b false,.b false,.f (λ_=>0)]));(QL x12)/\let x13:ae:=qx x12;((cw J 8 75 k1)=(cw J 8 75 k1))/\((!(x13 0).X)->let x10:ae:=(ak (ak (cw J 2 6 37465) [.i 0,.b false,.b false,.b false,.b false,.i 0,.i 0,.i 0,.i 0,.i 0,.i 0,.i 0,.i 0,.f (λi0=>0),.i 0,.b false,.b false,.b false,.b false,.b false,.b false,.f (λ_=>0)]) (cw J 8 75 k1));(sV x10)/\let x11:ae:=qE x10;R (ak [.i 0] (ak (cw x11 0 29 k8) (cw J 8 75 k1))))/\((!(x13 0).X)=false->let x14:ae:=(ak (cw x1 0 5 18697) (cw J 0 83 k34));(QX x14)/\let x15:ae:=Ys x14;((cw J 8 75 k1)=(cw J 8 75 k1))/\let x16:ae:=(ak (cw J 2 6 37465) (ak (cw x15 0 22 k0) (cw J 8 75 k1)));(sV x16)/\let x17:ae:=qE x16;((cw J 8 75 k1)=(cw J 8 75 k1))/\let x4:ae:=(ak (cw x1 0 5 18697) (cw J 8 75 k1));(YX x4)/\let x5:ae:=vD x4;((cw J 8 75 k1)=(cw J 8 75 k1))/\let x6:ae:=(ak (cw J 2 6 37465) (ak (cw x5 0 22 k0) (cw J 8 75 k1)));(sV x6)/\let x7:ae:=qE x6;((cw J 8 75 k1)=(cw J 8 75 k1))/\((decide ((x7 22).Z<(x17 22).Z))->R (ak [.i 0] (ak (cw x7 0 29 k8) (cw J 8 75 k1))))/\((decide ((x7 22).Z<(x17 22).Z))=false-> R (ak [.i 0] (ak (cw x17 0 29 k8) (cw J 8 75 k1)))))))):=af
def gZ (J:ae):ae:=gO [true] dE.M dE.Y.sk [] (evW (TS dE J))
theorem yX (J:ae) (hc:DJ J 8) (hv:vmP (J 19).F/\vmP (J 20).F):sV (iz J (vD (BW J)))/\pm (A5 J (vD (BW J))):=by
 obtain⟨c1,c2,c3,c4⟩:=hc;have c2:(J 9).Z=(J 22).Z:=c2;have c3:(J 10).X=(J 16).X:=c3;have c4:eQ (J 9).Z (J 10).X (J 11).X:=c4
 have hd:alD (PS (BW J))->(J 10).X=true/\(J 9).Z=3:=λh=>by obtain⟨a,b⟩:=RK h;rw[c3,c2];exact⟨kmp a,kmp b⟩
 obtain⟨i1,i2⟩:=zO (ty:=(J 8).Z) c4 hd rfl;refine⟨yt (ty:=(J 8).Z) c4 hd af,λk=>absurd ((show(1:Int)=_ by kernel_rfl).trans k) afH,λ_=>⟨⟨⟨⟨af,af,af⟩,lt8 af af af af af af af af,λ_ _=>af⟩,lt6 af af af af af af⟩,kmp i2.1,kmp i2.2,kmp hv.1,kmp hv.2⟩,λk=>absurd ((show(1:Int)=_ by kernel_rfl).trans k) afH⟩
theorem Dc (J:ae) (hc:DJ J 8) (ht:(J 21).Z≠1):sV (iz J skZ):=by
 obtain⟨c1,c2,c3,c4⟩:=hc;have c1:(J 8).Z=(J 21).Z:=c1;have ht:(J 8).Z≠1:=by rw[c1];exact ht
 exact⟨λ_=>⟨⟨⟨⟨rfl,rfl,rfl⟩,lt8 rfl rfl rfl rfl rfl rfl rfl rfl,λ_ _=>rfl⟩,rfl,lt6 rfl rfl rfl rfl rfl rfl,λ_ _=>rfl⟩,c4,ht⟩,λk=>absurd ((show(0:Int)=_ by kernel_rfl).trans k) afH,λk=>absurd ((show(0:Int)=_ by kernel_rfl).trans k) afH⟩
theorem zc (J m:ae) (hc:DJ J 8) (ht:(J 21).Z≠1) (hr:BY J 8 (J 0).Z (J 1).Z) (hm:P9 (yi J) m):sV (iz J m)/\pm (A5 J m):=by
 obtain⟨c1,c2,c3,c4⟩:=hc;have c1:(J 8).Z=(J 21).Z:=c1;have c2:(J 9).Z=(J 22).Z:=c2;have c3:(J 10).X=(J 16).X:=c3;have c4:eQ (J 9).Z (J 10).X (J 11).X:=c4;obtain⟨e,he,hw⟩:=hm;have he0:PnE (J 21).Z (J 22).Z (J 16).X e:=kmp he;have hr:=hr e he0;rw[<-c1,<-c2,<-c3]at he0;rw[Lq]at hw;subst hw;generalize hA:itA (yi J) e (li (itR (yi J) e))=A;have a1:(A 19).X=(J 10).X:=by rw[<-hA,c3];kernel_rfl
 have a2:(A 25).Z=(J 9).Z:=by rw[<-hA,c2];kernel_rfl
 obtain⟨k,f⟩:=y3 he0 c4 (by rw[c1];exact ht) a1 a2 rfl
 clear hA;generalize (gf A (alD A) 6&&alD A)=fd at *;generalize alC A (alD A)=cd at *;generalize alV A (alD A)=lv at *;have k':(2:Int)=(e 0).Z:=he0.kind.symm;have kk:((Qr (ak (cw e 0 22 k0) (ak [.i (J 0).Z,.i (J 1).Z] (cw J 8 75 k1)))) 8).Z=2:=kmp he0.kind;obtain⟨-,v1,v2,v3⟩:=hr.2.2 kk;clear he he0 hr;have z0:∀x:Int,x=(e 0).Z->x=0->False:=λx h1 h2=>ac;have z1:∀x:Int,x=(e 0).Z->x=1->False:=λx h1 h2=>ac;refine⟨⟨λq=>(z0 _ af q).elim,λq=>(z1 _ af q).elim,λ_=>kmp f⟩,λq=>(z0 _ af q).elim,λq=>(z1 _ af q).elim,λ_=>⟨kmp f,kmp v1,kmp v2,kmp v3⟩⟩
theorem Jr (J:ae) (hp:KA J):Sa1 (TS dE J) (λl=>(hd l).Z=0/\agT KX [true] dE.M [] (tls (nlL dE.Y.sk) (tl l)) (tls (aG dE.A) J)/\LT J (gO [true] dE.M dE.Y.sk [] l)):=⟨by
 rw[HF];dsimp only;obtain⟨p1,p2,p3,p4⟩:=hp;have hi:=yX J p2 p3;have e1:∀x,QJ [.i (J 28).Z,.i (J 29).Z,.l (J 30).N (J 30).G,.l (J 31).N (J 31).G,.l (J 32).N (J 32).G,.i (J 0).Z,.i (J 1).Z]=x->kY J=x:=λx h=>h;refine⟨p1,ah,λh=>?_,λh=>?_⟩
 .have hq:∀w,w=cw (qE (iz J (vD (BW J)))) 0 29 k8->LT J w:=λw h=>⟨_,h,.intra,hi.1,hi.2⟩;exact⟨kmp p3.1,rfl,kmp hi.1,rfl,rfl,⟨ay af,ah⟩,hq _ af⟩
 .obtain⟨h3,q1,q2,q3⟩:((J 21).Z=2\/(J 21).Z=3)/\pm (A5 J skZ)/\pnP (yi J)/\BY J 8 (J 0).Z (J 1).Z:=by
   rcases p4 with e | q
   .have h:((bif (J 21).Z==2 then(1:Int)else bif (J 21).Z==3 then 2 else 0)==0)=false:=kmp h
    rw[e]at h;cases h
   .exact q
  have ht:(J 21).Z≠1:=ac;have hs:=Dc J p2 ht;have hv:QX (yi J):=⟨q2,kmp p2,kmp ht,kmp p3.2,kmp q3⟩;have hm:=(aaq _ hv).out;have hn:=zc J _ p2 ht q3 hm;have qi:∀w,w=cw (qE (iz J (vD (BW J)))) 0 29 k8->LT J w:=λw h=>⟨_,h,.intra,hi.1,hi.2⟩;have qs:(EC (ak (cZ (kY J)) (cZ (li (A5 J skZ))))=[.b true]\/gf (pR J) (alD (pR J)) 6=false)->∀w,w=cw (qE (iz J skZ)) 0 29 k8->LT J w:=λh w h'=>⟨_,h',.skip ht h,hs,q1⟩;have qn:∀w,w=cw (qE (iz J (Ys (yi J)))) 0 29 k8->LT J w:=λw h=>⟨_,h,.inter _ ht hm,hn.1,hn.2⟩;refine⟨kmp q1,λhs'=>⟨hs',kmp hs,rfl,⟨ay af,ah⟩,qs (.inl ?_) _ af⟩,λhs'=>⟨hs',kmp p3.2,rfl,λha=>⟨kmp hs,rfl,⟨ay af,ah⟩,qs (.inr ?_) _ af⟩,λha=>⟨kmp hv,rfl,kmp hn.1,rfl,kmp p3.1,rfl,kmp hi.1,rfl,λhb=>⟨rfl,⟨ay af,ah⟩,qi _ af⟩,λhb=>⟨rfl,⟨ay af,ah⟩,qn _ af⟩⟩⟩⟩
  .have hs':(aab (ak (cZ (kY J)) (cZ (li (A5 J skZ))))==0)=true:=kmp hs';unfold EC;rw[hs']
  .have ha:(!gf (pR J) (alD (pR J)) 6)=true:=kmp ha
   revert ha
   cases gf (pR J) (alD (pR J)) 6
   .exact λ_=>rfl
   .exact λh=>absurd h afH⟩
theorem V5:∀J,bTs KX 1 (au dE.A J)->bBs KX 1 (an dE.M (tls (aG dE.A) J))->KA J->Sa1 (TS dE J) (λl=>(hd l).Z=0/\agT KX [true] dE.M [] (tls (nlL dE.Y.sk) (tl l)) (tls (aG dE.A) J)/\LT J (gO [true] dE.M dE.Y.sk [] l)):=λJ _ _ hp=>Jr J hp
abbrev afh:List AB:=[]
abbrev ac8:CT:=Ck dE [true] afh KA gZ
theorem R2:CO ac8:=CXe dE (TX ⟨Sn,MY,TP,IK,yD,SF,yA,TW,ah⟩ (FK ah)) V5
theorem aal (J:ae) (hp:KA J):Sa2 (LT J) (gZ J):=ji (Jr J hp)
end
end Go.Proofs.YtldmjbgplgoedaaGreatDoor
