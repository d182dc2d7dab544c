import Derived.Test.YtldmjbgplgoedaaGreatDoorRp28
set_option linter.all false
namespace Go.Proofs.YtldmjbgplgoedaaGreatDoor
noncomputable section
open Go.RowKit U
theorem aT {y:Wy} {l W:ae} (h0:(hd l).Z=0) (h:tl l=W):(hd l).Z=0/\agW KX y (tl l) W:=by subst h;exact⟨h0,iE _ _,bI _ _⟩
def cdU (v:Int):Cd:=[(0,lg (v+1)),(v+1,lg (v+1)+1)]
def vj (v:Int):Int:=if 0<v then 2*v-1 else -2*v
def cdS (v:Int):Cd:=cdU (vj v)
theorem MJ {x:Int} (h:0<=x) (h':x<=65535):lg x<=15:=by
 unfold lg
 by_cases e:x.toNat=0
 .rw[e];decide
 .have:=(Nat.log2_lt (k:=16) e).2 ac;omega
theorem XC {x:Int} (h:0<=x) {k:Int} (hk:k=(lg x:Int)+1):x / pw k=0:=by
 refine Int.ediv_eq_zero_of_lt h ?_;unfold pw;rw[hk,show((lg x:Int)+1).toNat=lg x+1 by omega]
 have h1:x.toNat<2 ^ (lg x+1):=Nat.lt_log2_self;have h2:Int.ofNat (Nat.pow 2 (lg x+1))=((2 ^ (lg x+1):Nat):Int):=rfl;rw[h2];omega
theorem nH {v:Int} (h:0<=v) (h':v<=65534):cdN (cdU v)<=31:=by have:=MJ (x:=v+1) ac ac;show lg (v+1)+(lg (v+1)+1+0)<=31;omega
theorem WY {x:Int}:((QP [.i x]) 0).Z-1=((lg x:Nat):Int):=by show((lg x+1:Nat):Int)-1=_;omega
def puP (J:ae):Prop:=WrP J 1 31
def puW (J:ae):ae:=.i 0::wrA J 1 (cdU (J 0).Z)
abbrev aac:SP:=mkS ⟨[aD 0 0],[.run 349 nu,.dead,.dyn 5 0 0 1000000 0 g0 false]⟩ 331 Tryz.f331 [tXO (.nP 0 0),aj 0 65534] [.run 349 Qh,.dyn 5 0 0 1000000 0 g0 false] [] [yc,X8] [] (aj 0 0) [1]
theorem Pf J R:TR aac J R (let x0:ae:=[.i ((J 0).Z+1)];let x1:ae:=QP x0;let x2:ae:=(ak [.i 0,.i ((x1 0).Z-1)] (cw J 1 3 269));(jA x2)/\let x3:ae:=jc x2;let x4:ae:=(ak [.i ((J 0).Z+1),.i (((x1 0).Z-1)+1)] (cw x3 1 3 269));(jA x4)/\let x5:ae:=jc x4;R (ak [.i 0] (cw x5 0 4 2153))):=af
theorem abv:PF1 aac puP puW:=λJ b1 b2 hp=>⟨by
 rw[Pf];obtain⟨-,⟨v1,v2⟩,-⟩:=b1;obtain⟨⟨-,⟨n1,-⟩,-⟩,-,-⟩:=b2;have v1:0<=(J 0).Z:=v1;have v2:(J 0).Z<=65534:=v2;have n1:0<=(J 2).Z:=n1;have hl:=MJ (x:=(J 0).Z+1) ac ac;obtain⟨p1,p2,p3,p4⟩:=hp;dsimp only;rw[WY];have p4:(J 2).Z+31<=8000000:=p4;have hB:=bw (J 3).G;unfold puW wrA cdU;generalize hk:lg ((J 0).Z+1)=k at hl ⊢;refine⟨⟨Int.zero_ediv _,p1,p2,p3,?_⟩,?_⟩
 .show(J 2).Z+(((k:Int).toNat:Nat):Int)<=8000000;omega
 generalize hr:jc _=r;have hr:r=.i 0::wrC (aR (J 3).G) (J 2).Z.toNat [(0,k)]:=by rw[<-hr];kernel_rfl
 subst hr;refine⟨⟨XC (x:=(J 0).Z+1) ac (by rw[hk];rfl),yM (n:=(J 2).Z.toNat) (a:=[(0,k)]) hB af ?_⟩,?_⟩
 .show(J 2).Z.toNat+(k+0)+((k:Int)+1).toNat<=8000000;omega
 have e:=rK (n:=(J 2).Z.toNat) (a:=[(0,k)]) (b:=[((J 0).Z+1,((k:Int)+1).toNat)]) (o:=2) (l:=[.i ((J 0).Z+1),.i ((k:Int)+1),.s 0 (rl ((J 2).Z.toNat+(k+0))),.i (((J 2).Z.toNat+(k+0):Nat):Int),.l (rl ((J 2).Z.toNat+(k+0))) (ch (cdB (aR (J 3).G) (J 2).Z.toNat [(0,k)]) ((J 2).Z.toNat+(k+0)))]) hB af;rw[show((k:Int)+1).toNat=k+1 by omega]at e
 exact aT rfl (Eq.trans af (congrArg (List.cons (Lf.i 0)) e))⟩
abbrev puC:CT:=C1 aac puP puW
theorem EK:CO puC:=CX1 (TX ⟨gx,xn,ah⟩ ah) abv
def Rh (_:ae):Prop:=True
def Qs (J:ae):ae:=.i 0::wrC (λ_=>0) 0 (cdU (J 0).Z)
abbrev ND:SP:=mkS ⟨[aD 0 0],[.run 349 Qh,.dyn 5 0 0 1000000 0 g0 false]⟩ 331 Tryz.f331 [tXO (.nP 0 0),aj 0 65534] [.run 349 ad3] [] [yc,vL,X8]
theorem Ea J R:TR ND J R (let x0:ae:=[.i ((J 0).Z+1)];let x1:ae:=QP x0;let x2:ae:=[.i 0,.i ((x1 0).Z-1),.i (J 1).Z];((Jd x2)->(iy x2)/\let x3:ae:=iw x2;let x4:ae:=[.i ((J 0).Z+1),.i (((x1 0).Z-1)+1),.i (x3 1).Z];((Jd x4)->(iy x4)/\let x5:ae:=iw x4;False)/\((Jd x4)=false->(g8 x4)/\let x5:ae:=fK x4;R (ak [.i 0] (cw x5 0 4 2153))))/\((Jd x2)=false-> (g8 x2)/\let x3:ae:=fK x2;let x6:ae:=(ak [.i ((J 0).Z+1),.i (((x1 0).Z-1)+1)] (cw x3 1 3 269));(jA x6)/\let x7:ae:=jc x6;R (ak [.i 0] (cw x7 0 4 2153)))):=af
theorem RC:PF1 ND Rh Qs:=λJ b1 b2 _=>⟨by
 rw[Ea];obtain⟨-,⟨v1,v2⟩,-⟩:=b1;have v1:0<=(J 0).Z:=v1;have v2:(J 0).Z<=65534:=v2;have hl:=MJ (x:=(J 0).Z+1) ac ac;dsimp only;rw[WY];unfold Qs cdU;generalize hk:lg ((J 0).Z+1)=k at hl ⊢;have hp:=XC (x:=(J 0).Z+1) (k:=(k:Int)+1) ac (by rw[hk])
 refine br_ (λq=>?_) λq=>⟨Int.zero_ediv _,?_⟩
 .have q:(k:Int)=0:=ai q;have q:k=0:=ac;subst q;refine⟨Int.zero_ediv _,λq1=>?_,λ_=>⟨hp,aT rfl ?_⟩⟩
  .have q1:((0:Nat):Int)+1=0:=ai q1;omega
  .refine Eq.trans (b:=.i 0::wrC (λ_=>0) 0 [((J 0).Z+1,1)]) af (congrArg _ ?_);exact oW (n:=1) (kE (c:=[((J 0).Z+1,1)]) (n:=0) λp hp=>absurd hp (Nat.not_lt_zero p))
 .generalize hr:fK _=r;have hr:r=.i 0::wrC (λ_=>0) 0 [(0,k)]:=by rw[<-hr];kernel_rfl
  subst hr;refine⟨⟨hp,yM (n:=0) (a:=[(0,k)]) d9 af ?_⟩,?_⟩
  .show 0+(k+0)+((k:Int)+1).toNat<=8000000;omega
  have e:=rK (n:=0) (a:=[(0,k)]) (b:=[((J 0).Z+1,((k:Int)+1).toNat)]) (o:=2) (l:=[.i ((J 0).Z+1),.i ((k:Int)+1),.s 0 (rl (0+(k+0))),.i ((0+(k+0):Nat):Int),.l (rl (0+(k+0))) (ch (cdB (λ_=>0) 0 [(0,k)]) (0+(k+0)))]) d9 af;rw[show((k:Int)+1).toNat=k+1 by omega]at e
  exact aT rfl (Eq.trans af (congrArg (List.cons (Lf.i 0)) e))⟩
abbrev ZX:CT:=C1 ND Rh Qs
theorem ahc:CO ZX:=CX1 (TX ⟨gx,putN_ct,xn,ah⟩ ah) RC
def psP (J:ae):Prop:=WrP J 1 31
def psW (J:ae):ae:=.i 0::wrA J 1 (cdS (J 0).Z)
abbrev ab8:SP:=mkS ⟨[aD 0 0],[.run 349 nu,.dead,.dyn 5 0 0 1000000 0 g0 false]⟩ 334 Tryz.f334 [tXO (.nP 0 0),aj (-32767) 32767] [.run 349 Qh,.dyn 5 0 0 1000000 0 g0 false] [] [puC] [(aw 361 Tryz.f361)] (aj 0 0) [1]
theorem Mb J R:TR ab8 J R (((decide (0<(J 0).Z))->(0<=((2*(J 0).Z)-1))/\let x0:ae:=(ak [.i ((2*(J 0).Z)-1)] (cw J 1 3 269));(puP x0)/\let x1:ae:=puW x0;R (ak [.i 0] (cw x1 0 4 2153)))/\((decide (0<(J 0).Z))=false-> (0<=((-2)*(J 0).Z))/\let x2:ae:=(ak [.i ((-2)*(J 0).Z)] (cw J 1 3 269));(puP x2)/\let x3:ae:=puW x2;R (ak [.i 0] (cw x3 0 4 2153)))):=af
theorem ZG:PF1 ab8 psP psW:=λJ b1 b2 hp=>⟨by
 rw[Mb];dsimp only;obtain⟨-,⟨v1,v2⟩,-⟩:=b1;have v1 : -32767<=(J 0).Z:=v1;have v2:(J 0).Z<=32767:=v2;refine br_ (λq=>?_) λq=>?_
 .have q:=ai q;refine⟨ac,hp,aT rfl ?_⟩;have e:vj (J 0).Z=2*(J 0).Z-1:=if_pos q;unfold psW cdS;rw[e];show(_:ae)=_
  kernel_rfl
 .have q:=aQ q;refine⟨ac,hp,aT rfl ?_⟩;have e:vj (J 0).Z=-2*(J 0).Z:=if_neg q;unfold psW cdS;rw[e];show(_:ae)=_
  kernel_rfl⟩
abbrev psC:CT:=C1 ab8 psP psW
theorem vn:CO psC:=CX1 (TX ⟨EK,ah⟩ (FK ah)) ZG
def acs (_:ae):Prop:=True
def SN (J:ae):ae:=.i 0::wrC (λ_=>0) 0 (cdS (J 0).Z)
abbrev Pd:SP:=mkS ⟨[aD 0 0],[.run 349 Qh,.dyn 5 0 0 1000000 0 g0 false]⟩ 334 Tryz.f334 [tXO (.nP 0 0),aj (-32767) 32767] [.run 349 ad3] [] [ZX] [(aw 361 Tryz.f361)]
theorem CC J R:TR Pd J R (((decide (0<(J 0).Z))->(0<=((2*(J 0).Z)-1))/\let x0:ae:=[.i ((2*(J 0).Z)-1),.i (J 1).Z];(Rh x0)/\let x1:ae:=Qs x0;R (ak [.i 0] (cw x1 0 4 2153)))/\((decide (0<(J 0).Z))=false-> (0<=((-2)*(J 0).Z))/\let x2:ae:=[.i ((-2)*(J 0).Z),.i (J 1).Z];(Rh x2)/\let x3:ae:=Qs x2;R (ak [.i 0] (cw x3 0 4 2153)))):=af
theorem Vj:PF1 Pd acs SN:=λJ b1 b2 _=>⟨by
 rw[CC];dsimp only;obtain⟨-,⟨v1,v2⟩,-⟩:=b1;have v1 : -32767<=(J 0).Z:=v1;have v2:(J 0).Z<=32767:=v2;refine br_ (λq=>?_) λq=>?_
 .have q:=ai q;refine⟨ac,ah,aT rfl ?_⟩;have e:vj (J 0).Z=2*(J 0).Z-1:=if_pos q;unfold SN cdS;rw[e];show(_:ae)=_
  kernel_rfl
 .have q:=aQ q;refine⟨ac,ah,aT rfl ?_⟩;have e:vj (J 0).Z=-2*(J 0).Z:=if_neg q;unfold SN cdS;rw[e];show(_:ae)=_
  kernel_rfl⟩
abbrev acB:CT:=C1 Pd acs SN
theorem VL:CO acB:=CX1 (TX ⟨ahc,ah⟩ (FK ah)) Vj
theorem jB {v:Int} (h : -32767<=v) (h':v<=32767):cdN (cdS v)<=31:=by
 unfold cdS vj
 split
 .exact nH ac ac
 .exact nH ac ac
end
end Go.Proofs.YtldmjbgplgoedaaGreatDoor
namespace Go.Proofs.YtldmjbgplgoedaaGreatDoor
noncomputable section
open Go.RowKit U
structure WrH (l:ae) (o:Nat) (B:Nat->Int) (n:Nat) (c:Cd):Prop where
 O:(l o).O=0
 N:(l o).N=rl (n+cdN c)
 Z:(l (o+1)).Z=((n+cdN c:Nat):Int)
 L:(l (o+2)).N=rl (n+cdN c)
 P:Packed (l (o+2)).G (cdB B n c) (n+cdN c) (rl (n+cdN c))
theorem bl {B:Nat->Int} {n:Nat}:Packed (ch B n) B n (rl n):=⟨rfl,λ_ _=>rfl⟩
theorem n8 {g:Nat->ae} {B:Nat->Int} {n len:Nat} (hB:Bit B) (h:Packed g B n len) {p:Nat} (hp:p<n):aR g p=B p:=by
 rw[<-dO hB hp];have:=h.2 (p / 8) (by have:=h.1;omega)
 unfold aR;rw[this];rfl
theorem uQ {g:Nat->ae} {B:Nat->Int} {n len:Nat} (hB:Bit B) (h:Packed g B n len):Packed g (aR g) n len:=h.agree λp hp=>(n8 hB h hp).symm
theorem WrH.init {l:ae} {o k:Nat} (h:WrP l o k) (hz:0<=(l (o+1)).Z):WrH l o (aR (l (o+2)).G) (l (o+1)).Z.toNat []:=by obtain⟨h1,h2,h3,h4⟩:=h;have e:=h3.1;have e:(l (o+2)).N=rl ((l (o+1)).Z.toNat+cdN []):=e;exact⟨h1,h2.trans e,by show _=(((l (o+1)).Z.toNat+0:Nat):Int);omega,e,by rw[<-e];exact h3⟩
theorem WrH.of {l:ae} {o n:Nat} {B:Nat->Int} {c:Cd} (hB:Bit B) (h:pre 3 (tls o l)=wrC B n c):WrH l o B n c:=by
 have h0:l o=(wrC B n c) 0:=by rw[<-h,show o=o+0 from rfl,<-de];rfl
 have h1:l (o+1)=(wrC B n c) 1:=by rw[<-h,<-de];rfl
 have h2:l (o+2)=(wrC B n c) 2:=by rw[<-h,<-de];rfl
 exact⟨by rw[h0];rfl,by rw[h0];rfl,by rw[h1];rfl,by rw[h2];rfl,by rw[h2];exact⟨rfl,λ_ _=>rfl⟩⟩
theorem WrH.toP {l:ae} {o n k:Nat} {B:Nat->Int} {c:Cd} (h:WrH l o B n c) (hB:Bit B) (hm:n+cdN c+k<=8000000):WrP l o k:=by
 refine⟨h.O,h.N.trans h.L.symm,?_,?_⟩
 .rw[h.Z,h.L,ap];exact uQ (d8 hB) h.P
 .rw[h.Z];omega
theorem WrH.add {l:ae} {o n:Nat} {B:Nat->Int} {a b:Cd} (h:WrH l o B n a) (hB:Bit B):wrA l o b=wrC B n (a++b):=by unfold wrA;rw[h.Z,ap,pY (B':=cdB B n a) λp hp=>n8 (d8 hB) h.P hp];unfold wrC;rw[sB,aC,Nat.add_assoc]
theorem KW {F:(ae->Prop)->(ae->Nat)->ae->Prop} {s:ae} {X:Type} (n:Nat) (c:Nat) (d:Int) (p:Nat->X->Prop) (S:Nat->X->ae) (hc:∀i x,i<=n->((S i x) c).Z=i+d) (x0:X) (h0:S 0 x0=s) (hp:p 0 x0) (hd:0<=d)
 (h:∀(I:ae->Prop) (μ:ae->Nat),(∀i x x' l l',i<n->p (i+1) x'->l=S i x->l'=S (i+1) x'->Ag I μ l l')->∀i x l,i<=n->p i x->l=S i x->F I μ l):∃(I:ae->Prop) (μ:ae->Nat),I s/\∀l,I l->F I μ l:=by
 refine⟨λl=>∃i x,i<=n/\p i x/\l=S i x,λl=>(n+d).toNat-(l c).Z.toNat,⟨0,x0,Nat.zero_le _,hp,h0.symm⟩,?_⟩;rintro l ⟨i,x,hi,hx,hl⟩;refine h _ _ (λi x x' l l' hin hp' e e'=>⟨⟨i+1,x',hin,hp',e'⟩,?_⟩) i x l hi hx hl;subst e e';have e1:=hc (i+1) x' ac;have e2:=hc i x ac;omega
def cdL (l:Nat->Int):Nat->Int->Cd
 |0,_=>cdU 0
 |m+1,b=>if l (63-m)=0 then cdL l m b else cdU ((63-m:Nat)-b)++(cdS (l (63-m))++cdL l m (63-m:Nat))
theorem Dw {l:Nat->Int} (hl:∀i,i<64->-4095<=l i/\l i<=4095):∀(m:Nat) (b:Int),m<=64->-1<=b->b<64-m->cdN (cdL l m b)<=62*m+31
 |0,b,_,_,_=>by have:=nH (v:=0) afH afH;show cdN (cdU 0)<=_;omega
 |m+1,b,h1,h2,h3=>by
  unfold cdL
  split
  .have:=Dw hl m b ac h2 ac;omega
  .have k1:=Dw hl m ((63-m:Nat):Int) ac ac ac;have k2:=nH (v:=((63-m:Nat):Int)-b) ac ac;have k3:=hl (63-m) ac;have k4:=jB (v:=l (63-m)) ac ac;rw[aC,aC];omega
def bpS (L:Nat->Int) (B:Nat->Int) (n:Nat) (d:Int) (i:Nat) (x:Int × Cd × (Nat->ae)):ae:=[.i x.1,.i (i+d),.s 0 (rl (n+cdN x.2.1)),.i ((n+cdN x.2.1:Nat):Int),.f L,.l (rl (n+cdN x.2.1)) x.2.2]
def BpI (L:Nat->Int) (B:Nat->Int) (n f:Nat) (i:Nat) (x:Int × Cd × (Nat->ae)):Prop:=-1<=x.1/\x.1<i+f/\cdN x.2.1<=62*i/\x.2.1++cdL L (64-f-i) x.1=cdL L (64-f) ((f:Int)-1)/\Packed x.2.2 (cdB B n x.2.1) (n+cdN x.2.1) (rl (n+cdN x.2.1))
def ZB (J:ae):Prop:=WrP J 2 4000
def Ua (J:ae):ae:=.i 0::wrA J 2 (cdL (J 0).F 64 (-1))
abbrev NX:SP:=mkS ⟨[aD 0 0],[.run 349 nu,.dead,.dyn 5 0 0 1000000 0 g0 false]⟩ 335 Tryz.f335 [tXO (.nP 0 0),.tX (.sA afS),aj 0 0] [.run 349 Qh,.dyn 5 0 0 1000000 0 g0 false] [(7,.head ⟨[(0,tXO (.nP 0 0)),(4,tXO (.nP 2 0)),(7,aj (-1) 1048576),(8,aj 0 1048576)],[.run 349 uX,.dead,.run 124 afS,.dyn 5 0 0 1000000 0 g0 false],[1]⟩)] [puC,psC] [(aw 350 Tryz.f350),(aw 362 Tryz.f362),(aw 366 Tryz.f366)] (aj 0 0) [1]
theorem Bx J R:TR NX J R (∃(I0:ae->Prop) (μ0:ae->Nat),I0 [.i (-1),.i (J 1).Z,.s (J 2).O (J 2).N,.i (J 3).Z,.f (J 0).F,.l (J 4).N (J 4).G]/\∀l0,I0 l0-> BR (decide ((l0 1).Z<64)) ((0<=(l0 1).Z)/\((l0 1).Z<64)/\BR (((l0 4).F (0+((l0 1).Z.toNat*1)))==0) ((((l0 1).Z+1)<=1048576)/\Ag I0 μ0 l0 [.i (l0 0).Z,.i ((l0 1).Z+1),.s (l0 2).O (l0 2).N,.i (l0 3).Z,.f (l0 4).F,.l (l0 5).N (l0 5).G]) ((0<=((l0 1).Z-(l0 0).Z))/\(((l0 1).Z-(l0 0).Z)<=65534)/\let x0:ae:=[.i ((l0 1).Z-(l0 0).Z),.s (l0 2).O (l0 2).N,.i (l0 3).Z,.l (l0 5).N (l0 5).G];(puP x0)/\let x1:ae:=puW x0;(0<=(l0 1).Z)/\((l0 1).Z<64)/\let x2:ae:=[.i ((l0 4).F (0+((l0 1).Z.toNat*1))),.s (x1 1).O (x1 1).N,.i (x1 2).Z,.l (x1 3).N (x1 3).G];(psP x2)/\let x3:ae:=psW x2;(((l0 1).Z+1)<=1048576)/\Ag I0 μ0 l0 [.i (l0 1).Z,.i ((l0 1).Z+1),.s (x3 1).O (x3 1).N,.i (x3 2).Z,.f (l0 4).F,.l (x3 3).N (x3 3).G])) (let x4:ae:=[.i 0,.s (l0 2).O (l0 2).N,.i (l0 3).Z,.l (l0 5).N (l0 5).G];(puP x4)/\let x5:ae:=puW x4;R [.i 0,.i (x5 0).Z,.s (x5 1).O (x5 1).N,.i (x5 2).Z,.l (x5 3).N (x5 3).G])):=af
theorem R5:PF1 NX ZB Ua:=λJ b1 b2 hp=>⟨by
 rw[Bx];obtain⟨-,v,⟨f1,f2⟩,-⟩:=b1;obtain⟨⟨-,⟨n1,-⟩,-⟩,-,-⟩:=b2;have v:∀i,i<64->-4095<=(J 0).F i/\(J 0).F i<=4095:=v.1;have f1:0<=(J 1).Z:=f1;have f2:(J 1).Z<=0:=f2;have n1:0<=(J 3).Z:=n1;have hp:WrP J 2 4000:=hp;have h0:=WrH.init hp n1;have hr:=hp.2.2.2;have hr:(J 3).Z+4000<=8000000:=hr;have hB:=bw (J 4).G;have e0:(J 1).Z=0:=ac;have eO:(J 2).O=0:=h0.O;have eN:(J 2).N=rl (J 3).Z.toNat:=h0.N;have eL:(J 4).N=rl (J 3).Z.toNat:=h0.L;have eP:Packed (J 4).G (aR (J 4).G) (J 3).Z.toNat (rl (J 3).Z.toNat):=h0.P;unfold Ua wrA;have eZ:(J 3).Z=(((J 3).Z.toNat:Nat):Int):=ac;show ∃I μ,_;rw[e0,eO,eN,eL];generalize (J 3).Z.toNat=n at *;rw[eZ];generalize (J 0).F=L at *;have eg:(J (2+2)).G=(J 4).G:=rfl;rw[eg];generalize hBB:aR (J 4).G=B at *;generalize (J 4).G=g at *;refine KW 64 1 0 (BpI L B n 0) (bpS L B n 0) (λ_ _ _=>rfl) (-1,[],g) rfl ⟨ac,ac,Nat.zero_le _,rfl,eP⟩ afH λI μ hA i x l hi hx hl=>?_;obtain⟨b,c,h⟩:=x;obtain⟨hb1,hb2,hc,ht,hh⟩:=hx;have hb1 : -1<=b:=hb1;have hb2:b<i+0:=hb2;have hc:cdN c<=62*i:=hc;have s0:(l 0).Z=b:=by rw[hl];rfl
 have s1:(l 1).Z=(i:Int)+0:=by rw[hl];rfl
 have s4:(l 4).F=L:=by rw[hl];rfl
 have w:∀z:Int,WrH [.i z,.s (l 2).O (l 2).N,.i (l 3).Z,.l (l 5).N (l 5).G] 1 B n c:=λz=>by rw[hl];exact⟨rfl,rfl,rfl,rfl,hh⟩
 have ei:((i:Int)+0).toNat=i+0:=ac;have hm:64-0-i=64-0-i:=rfl;refine br_ (λq=>?_) λq=>?_
 .have q:=ai q;rw[s1]at q;have em:64-0-i=(64-0-(i+1))+1:=ac;have ek:63-(64-0-(i+1))=i+0:=ac;have ht:c++cdL L ((64-0-(i+1))+1) b=cdL L (64-0) ((0:Int)-1):=by rw[<-em];exact ht
  unfold cdL at ht;rw[ek]at ht;rw[s0,s1,s4,ei,Nat.mul_one,Nat.zero_add];refine⟨ac,ac,br_ (λq1=>⟨ac,hA i (b,c,h) (b,c,h) _ _ ac ⟨hb1,by show b<((i+1:Nat):Int)+0;omega,by show cdN c<=62*(i+1);omega,?_,hh⟩ hl ?_⟩) λq1=>?_⟩
  .rw[if_pos (dL q1)]at ht;exact ht
  .rw[hl];show[Lf.i b,.i ((i:Int)+0+1),_,_,_,_]=[Lf.i b,.i (((i+1:Nat):Int)+0),_,_,_,_];rw[show(i:Int)+0+1=((i+1:Nat):Int)+0 by omega]
   rfl
  .rw[if_neg (dn q1)]at ht;have vi:=v (i+0) ac;have ec:((i+0:Nat):Int)=(i:Int)+0:=ac;rw[ec]at ht;have k1:=nH (v:=(i:Int)+0-b) ac ac;have k2:=jB (v:=L (i+0)) ac ac;refine⟨ac,ac,(w _).toP hB ac,?_⟩;generalize hr1:puW _=r1;have hr1:r1=.i 0::wrC B n (c++cdU ((i:Int)+0-b)):=by rw[<-hr1];exact congrArg (List.cons (Lf.i 0)) ((w _).add hB)
   subst hr1;have w1:WrH [.i (L (i+0)),.s (at_ (.i 0::wrC B n (c++cdU ((i:Int)+0-b))) 1).O (at_ (.i 0::wrC B n (c++cdU ((i:Int)+0-b))) 1).N,.i (at_ (.i 0::wrC B n (c++cdU ((i:Int)+0-b))) 2).Z,.l (at_ (.i 0::wrC B n (c++cdU ((i:Int)+0-b))) 3).N (at_ (.i 0::wrC B n (c++cdU ((i:Int)+0-b))) 3).G] 1 B n (c++cdU ((i:Int)+0-b)):=WrH.of hB af;have k3:=aC c (cdU ((i:Int)+0-b));refine⟨ac,ac,w1.toP hB ac,?_⟩;generalize hr2:psW _=r2;have hr2:r2=.i 0::wrC B n (c++cdU ((i:Int)+0-b)++cdS (L (i+0))):=by rw[<-hr2];exact congrArg (List.cons (Lf.i 0)) (w1.add hB)
   subst hr2;have k4:=aC (c++cdU ((i:Int)+0-b)) (cdS (L (i+0)));refine⟨ac,hA i (b,c,h) ((i:Int)+0,c++cdU ((i:Int)+0-b)++cdS (L (i+0)),ch (cdB B n (c++cdU ((i:Int)+0-b)++cdS (L (i+0)))) (n+cdN (c++cdU ((i:Int)+0-b)++cdS (L (i+0))))) _ _ ac ⟨by show -1<=(i:Int)+0;omega,by show(i:Int)+0<((i+1:Nat):Int)+0;omega,by show cdN (c++cdU ((i:Int)+0-b)++cdS (L (i+0)))<=62*(i+1);omega,by rw[List.append_assoc,List.append_assoc];exact ht,bl⟩ hl ?_⟩
   rw[show(i:Int)+0+1=((i+1:Nat):Int)+0 by omega]
   kernel_rfl
 .have q:=aQ q;rw[s1]at q;have e64:i=64:=ac;subst e64;have k1:=nH (v:=0) ac ac;have ht:c++cdU 0=cdL L (64-0) ((0:Int)-1):=ht;refine⟨(w 0).toP hB ac,?_⟩;generalize hr1:puW _=r1;have hr1:r1=.i 0::wrC B n (c++cdU 0):=by rw[<-hr1];exact congrArg (List.cons (Lf.i 0)) ((w 0).add hB)
  subst hr1;rw[ht];exact aT rfl af⟩
abbrev acQ:CT:=C1 NX ZB Ua
theorem WG:CO acQ:=CX1 (TX ⟨EK,vn,ah⟩ (FK (FK (FK ah)))) R5
def abj (J:ae):Prop:=WrP J 2 4000
def Xs (J:ae):ae:=.i 0::wrA J 2 (cdL (J 0).F 63 (0))
abbrev Py:SP:=mkS ⟨[aD 0 0],[.run 349 nu,.dead,.dyn 5 0 0 1000000 0 g0 false]⟩ 335 Tryz.f335 [tXO (.nP 0 0),.tX (.sA afS),aj 1 1] [.run 349 Qh,.dyn 5 0 0 1000000 0 g0 false] [(7,.head ⟨[(0,tXO (.nP 0 0)),(4,tXO (.nP 2 0)),(7,aj 0 1048576),(8,aj 1 1048576)],[.run 349 uX,.dead,.run 124 afS,.dyn 5 0 0 1000000 0 g0 false],[1]⟩)] [puC,psC] [(aw 350 Tryz.f350),(aw 362 Tryz.f362),(aw 366 Tryz.f366)] (aj 0 0) [1]
theorem HV J R:TR Py J R (∃(I0:ae->Prop) (μ0:ae->Nat),I0 [.i 0,.i (J 1).Z,.s (J 2).O (J 2).N,.i (J 3).Z,.f (J 0).F,.l (J 4).N (J 4).G]/\∀l0,I0 l0-> BR (decide ((l0 1).Z<64)) ((0<=(l0 1).Z)/\((l0 1).Z<64)/\BR (((l0 4).F (0+((l0 1).Z.toNat*1)))==0) ((((l0 1).Z+1)<=1048576)/\Ag I0 μ0 l0 [.i (l0 0).Z,.i ((l0 1).Z+1),.s (l0 2).O (l0 2).N,.i (l0 3).Z,.f (l0 4).F,.l (l0 5).N (l0 5).G]) ((0<=((l0 1).Z-(l0 0).Z))/\(((l0 1).Z-(l0 0).Z)<=65534)/\let x0:ae:=[.i ((l0 1).Z-(l0 0).Z),.s (l0 2).O (l0 2).N,.i (l0 3).Z,.l (l0 5).N (l0 5).G];(puP x0)/\let x1:ae:=puW x0;(0<=(l0 1).Z)/\((l0 1).Z<64)/\let x2:ae:=[.i ((l0 4).F (0+((l0 1).Z.toNat*1))),.s (x1 1).O (x1 1).N,.i (x1 2).Z,.l (x1 3).N (x1 3).G];(psP x2)/\let x3:ae:=psW x2;(((l0 1).Z+1)<=1048576)/\Ag I0 μ0 l0 [.i (l0 1).Z,.i ((l0 1).Z+1),.s (x3 1).O (x3 1).N,.i (x3 2).Z,.f (l0 4).F,.l (x3 3).N (x3 3).G])) (let x4:ae:=[.i 0,.s (l0 2).O (l0 2).N,.i (l0 3).Z,.l (l0 5).N (l0 5).G];(puP x4)/\let x5:ae:=puW x4;R [.i 0,.i (x5 0).Z,.s (x5 1).O (x5 1).N,.i (x5 2).Z,.l (x5 3).N (x5 3).G])):=af
theorem RL:PF1 Py abj Xs:=λJ b1 b2 hp=>⟨by
 rw[HV];obtain⟨-,v,⟨f1,f2⟩,-⟩:=b1;obtain⟨⟨-,⟨n1,-⟩,-⟩,-,-⟩:=b2;have v:∀i,i<64->-4095<=(J 0).F i/\(J 0).F i<=4095:=v.1;have f1:1<=(J 1).Z:=f1;have f2:(J 1).Z<=1:=f2;have n1:0<=(J 3).Z:=n1;have hp:WrP J 2 4000:=hp;have h0:=WrH.init hp n1;have hr:=hp.2.2.2;have hr:(J 3).Z+4000<=8000000:=hr;have hB:=bw (J 4).G;have e0:(J 1).Z=1:=ac;have eO:(J 2).O=0:=h0.O;have eN:(J 2).N=rl (J 3).Z.toNat:=h0.N;have eL:(J 4).N=rl (J 3).Z.toNat:=h0.L;have eP:Packed (J 4).G (aR (J 4).G) (J 3).Z.toNat (rl (J 3).Z.toNat):=h0.P;unfold Xs wrA;have eZ:(J 3).Z=(((J 3).Z.toNat:Nat):Int):=ac;show ∃I μ,_;rw[e0,eO,eN,eL];generalize (J 3).Z.toNat=n at *;rw[eZ];generalize (J 0).F=L at *;have eg:(J (2+2)).G=(J 4).G:=rfl;rw[eg];generalize hBB:aR (J 4).G=B at *;generalize (J 4).G=g at *;refine KW 63 1 1 (BpI L B n 1) (bpS L B n 1) (λ_ _ _=>rfl) (0,[],g) rfl ⟨ac,ac,Nat.zero_le _,rfl,eP⟩ afH λI μ hA i x l hi hx hl=>?_;obtain⟨b,c,h⟩:=x;obtain⟨hb1,hb2,hc,ht,hh⟩:=hx;have hb1 : -1<=b:=hb1;have hb2:b<i+1:=hb2;have hc:cdN c<=62*i:=hc;have s0:(l 0).Z=b:=by rw[hl];rfl
 have s1:(l 1).Z=(i:Int)+1:=by rw[hl];rfl
 have s4:(l 4).F=L:=by rw[hl];rfl
 have w:∀z:Int,WrH [.i z,.s (l 2).O (l 2).N,.i (l 3).Z,.l (l 5).N (l 5).G] 1 B n c:=λz=>by rw[hl];exact⟨rfl,rfl,rfl,rfl,hh⟩
 have ei:((i:Int)+1).toNat=i+1:=ac;have hm:64-1-i=64-1-i:=rfl;refine br_ (λq=>?_) λq=>?_
 .have q:=ai q;rw[s1]at q;have em:64-1-i=(64-1-(i+1))+1:=ac;have ek:63-(64-1-(i+1))=i+1:=ac;have ht:c++cdL L ((64-1-(i+1))+1) b=cdL L (64-1) ((1:Int)-1):=by rw[<-em];exact ht
  unfold cdL at ht;rw[ek]at ht;rw[s0,s1,s4,ei,Nat.mul_one,Nat.zero_add];refine⟨ac,ac,br_ (λq1=>⟨ac,hA i (b,c,h) (b,c,h) _ _ ac ⟨hb1,by show b<((i+1:Nat):Int)+1;omega,by show cdN c<=62*(i+1);omega,?_,hh⟩ hl ?_⟩) λq1=>?_⟩
  .rw[if_pos (dL q1)]at ht;exact ht
  .rw[hl];show[Lf.i b,.i ((i:Int)+1+1),_,_,_,_]=[Lf.i b,.i (((i+1:Nat):Int)+1),_,_,_,_];rw[show(i:Int)+1+1=((i+1:Nat):Int)+1 by omega]
   rfl
  .rw[if_neg (dn q1)]at ht;have vi:=v (i+1) ac;have ec:((i+1:Nat):Int)=(i:Int)+1:=ac;rw[ec]at ht;have k1:=nH (v:=(i:Int)+1-b) ac ac;have k2:=jB (v:=L (i+1)) ac ac;refine⟨ac,ac,(w _).toP hB ac,?_⟩;generalize hr1:puW _=r1;have hr1:r1=.i 0::wrC B n (c++cdU ((i:Int)+1-b)):=by rw[<-hr1];exact congrArg (List.cons (Lf.i 0)) ((w _).add hB)
   subst hr1;have w1:WrH [.i (L (i+1)),.s (at_ (.i 0::wrC B n (c++cdU ((i:Int)+1-b))) 1).O (at_ (.i 0::wrC B n (c++cdU ((i:Int)+1-b))) 1).N,.i (at_ (.i 0::wrC B n (c++cdU ((i:Int)+1-b))) 2).Z,.l (at_ (.i 0::wrC B n (c++cdU ((i:Int)+1-b))) 3).N (at_ (.i 0::wrC B n (c++cdU ((i:Int)+1-b))) 3).G] 1 B n (c++cdU ((i:Int)+1-b)):=WrH.of hB af;have k3:=aC c (cdU ((i:Int)+1-b));refine⟨ac,ac,w1.toP hB ac,?_⟩;generalize hr2:psW _=r2;have hr2:r2=.i 0::wrC B n (c++cdU ((i:Int)+1-b)++cdS (L (i+1))):=by rw[<-hr2];exact congrArg (List.cons (Lf.i 0)) (w1.add hB)
   subst hr2;have k4:=aC (c++cdU ((i:Int)+1-b)) (cdS (L (i+1)));refine⟨ac,hA i (b,c,h) ((i:Int)+1,c++cdU ((i:Int)+1-b)++cdS (L (i+1)),ch (cdB B n (c++cdU ((i:Int)+1-b)++cdS (L (i+1)))) (n+cdN (c++cdU ((i:Int)+1-b)++cdS (L (i+1))))) _ _ ac ⟨by show -1<=(i:Int)+1;omega,by show(i:Int)+1<((i+1:Nat):Int)+1;omega,by show cdN (c++cdU ((i:Int)+1-b)++cdS (L (i+1)))<=62*(i+1);omega,by rw[List.append_assoc,List.append_assoc];exact ht,bl⟩ hl ?_⟩
   rw[show(i:Int)+1+1=((i+1:Nat):Int)+1 by omega]
   kernel_rfl
 .have q:=aQ q;rw[s1]at q;have e64:i=63:=ac;subst e64;have k1:=nH (v:=0) ac ac;have ht:c++cdU 0=cdL L (64-1) ((1:Int)-1):=ht;refine⟨(w 0).toP hB ac,?_⟩;generalize hr1:puW _=r1;have hr1:r1=.i 0::wrC B n (c++cdU 0):=by rw[<-hr1];exact congrArg (List.cons (Lf.i 0)) ((w 0).add hB)
  subst hr1;rw[ht];exact aT rfl af⟩
abbrev acG:CT:=C1 Py abj Xs
theorem U3:CO acG:=CX1 (TX ⟨EK,vn,ah⟩ (FK (FK (FK ah)))) RL
end
end Go.Proofs.YtldmjbgplgoedaaGreatDoor
