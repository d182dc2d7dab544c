import Derived.Test.YtldmjbgplgoedaaGreatDoorEe31
set_option linter.all false
namespace Go.Proofs.YtldmjbgplgoedaaGreatDoor
noncomputable section
open Go.RowKit U
structure WrH (l:ae) (o:Nat) (B:Nat->Int) (n:Nat) (c:Cd):Prop where
 O:(l o).O=0
 N:(l o).N=rl (n+cdN c)
 Z:(l (o+1)).Z=((n+cdN c:Nat):Int)
 L:(l (o+2)).N=rl (n+cdN c)
 P:Packed (l (o+2)).G (cdB B n c) (n+cdN c) (rl (n+cdN c))
theorem bl {B:Nat->Int} {n:Nat}:Packed (ch B n) B n (rl n):=⟨rfl,λ_ _=>rfl⟩
theorem n8 {g:Nat->ae} {B:Nat->Int} {n len:Nat} (hB:Bit B) (h:Packed g B n len) {p:Nat} (hp:p<n):aR g p=B p:=by
 rw[<-dO hB hp];have:=h.2 (p / 8) (by have:=h.1;omega)
 unfold aR;rw[this];rfl
theorem uQ {g:Nat->ae} {B:Nat->Int} {n len:Nat} (hB:Bit B) (h:Packed g B n len):Packed g (aR g) n len:=h.agree λp hp=>(n8 hB h hp).symm
theorem WrH.init {l:ae} {o k:Nat} (h:WrP l o k) (hz:0<=(l (o+1)).Z):WrH l o (aR (l (o+2)).G) (l (o+1)).Z.toNat []:=by obtain⟨h1,h2,h3,h4⟩:=h;have e:=h3.1;have e:(l (o+2)).N=rl ((l (o+1)).Z.toNat+cdN []):=e;exact⟨h1,h2.trans e,by show _=(((l (o+1)).Z.toNat+0:Nat):Int);omega,e,by rw[<-e];exact h3⟩
theorem WrH.of {l:ae} {o n:Nat} {B:Nat->Int} {c:Cd} (hB:Bit B) (h:pre 3 (tls o l)=wrC B n c):WrH l o B n c:=by
 have h0:l o=(wrC B n c) 0:=by rw[<-h,show o=o+0 from rfl,<-de];rfl
 have h1:l (o+1)=(wrC B n c) 1:=by rw[<-h,<-de];rfl
 have h2:l (o+2)=(wrC B n c) 2:=by rw[<-h,<-de];rfl
 exact⟨by rw[h0];rfl,by rw[h0];rfl,by rw[h1];rfl,by rw[h2];rfl,by rw[h2];exact⟨rfl,λ_ _=>rfl⟩⟩
theorem WrH.toP {l:ae} {o n k:Nat} {B:Nat->Int} {c:Cd} (h:WrH l o B n c) (hB:Bit B) (hm:n+cdN c+k<=8000000):WrP l o k:=by
 refine⟨h.O,h.N.trans h.L.symm,?_,?_⟩
 .rw[h.Z,h.L,ap];exact uQ (d8 hB) h.P
 .rw[h.Z];omega
theorem WrH.add {l:ae} {o n:Nat} {B:Nat->Int} {a b:Cd} (h:WrH l o B n a) (hB:Bit B):wrA l o b=wrC B n (a++b):=by unfold wrA;rw[h.Z,ap,pY (B':=cdB B n a) λp hp=>n8 (d8 hB) h.P hp];unfold wrC;rw[sB,aC,Nat.add_assoc]
theorem KW {F:(ae->Prop)->(ae->Nat)->ae->Prop} {s:ae} {X:Type} (n:Nat) (c:Nat) (d:Int) (p:Nat->X->Prop) (S:Nat->X->ae) (hc:∀i x,i<=n->((S i x) c).Z=i+d) (x0:X) (h0:S 0 x0=s) (hp:p 0 x0) (hd:0<=d)
 (h:∀(I:ae->Prop) (μ:ae->Nat),(∀i x x' l l',i<n->p (i+1) x'->l=S i x->l'=S (i+1) x'->Ag I μ l l')->∀i x l,i<=n->p i x->l=S i x->F I μ l):∃(I:ae->Prop) (μ:ae->Nat),I s/\∀l,I l->F I μ l:=by
 refine⟨λl=>∃i x,i<=n/\p i x/\l=S i x,λl=>(n+d).toNat-(l c).Z.toNat,⟨0,x0,Nat.zero_le _,hp,h0.symm⟩,?_⟩;rintro l ⟨i,x,hi,hx,hl⟩;refine h _ _ (λi x x' l l' hin hp' e e'=>⟨⟨i+1,x',hin,hp',e'⟩,?_⟩) i x l hi hx hl;subst e e';have e1:=hc (i+1) x' ac;have e2:=hc i x ac;omega
def cdL (l:Nat->Int):Nat->Int->Cd
 |0,_=>cdU 0
 |m+1,b=>if l (63-m)=0 then cdL l m b else cdU ((63-m:Nat)-b)++(cdS (l (63-m))++cdL l m (63-m:Nat))
theorem Dw {l:Nat->Int} (hl:∀i,i<64->-4095<=l i/\l i<=4095):∀(m:Nat) (b:Int),m<=64->-1<=b->b<64-m->cdN (cdL l m b)<=62*m+31
 |0,b,_,_,_=>by have:=nH (v:=0) afH afH;show cdN (cdU 0)<=_;omega
 |m+1,b,h1,h2,h3=>by
  unfold cdL
  split
  .have:=Dw hl m b ac h2 ac;omega
  .have k1:=Dw hl m ((63-m:Nat):Int) ac ac ac;have k2:=nH (v:=((63-m:Nat):Int)-b) ac ac;have k3:=hl (63-m) ac;have k4:=jB (v:=l (63-m)) ac ac;rw[aC,aC];omega
def bpS (L:Nat->Int) (B:Nat->Int) (n:Nat) (d:Int) (i:Nat) (x:Int × Cd × (Nat->ae)):ae:=[.i x.1,.i (i+d),.s 0 (rl (n+cdN x.2.1)),.i ((n+cdN x.2.1:Nat):Int),.f L,.l (rl (n+cdN x.2.1)) x.2.2]
def BpI (L:Nat->Int) (B:Nat->Int) (n f:Nat) (i:Nat) (x:Int × Cd × (Nat->ae)):Prop:=-1<=x.1/\x.1<i+f/\cdN x.2.1<=62*i/\x.2.1++cdL L (64-f-i) x.1=cdL L (64-f) ((f:Int)-1)/\Packed x.2.2 (cdB B n x.2.1) (n+cdN x.2.1) (rl (n+cdN x.2.1))
def ZB (J:ae):Prop:=WrP J 2 4000
def Ua (J:ae):ae:=.i 0::wrA J 2 (cdL (J 0).F 64 (-1))
abbrev NX:SP:=mkS ⟨[aD 0 0],[.run 349 HP,.dead,.dyn 5 0 0 1000000 0 g0 false]⟩ 335 Tryz.f335 [tXO (.nP 0 0),.tX (.sA pe),aj 0 0] [.run 349 oI,.dyn 5 0 0 1000000 0 g0 false] [(7,.head ⟨[(0,tXO (.nP 0 0)),(4,tXO (.nP 2 0)),(7,aj (-1) 1048576),(8,aj 0 1048576)],[.run 349 uI,.dead,.run 124 pe,.dyn 5 0 0 1000000 0 g0 false],[1]⟩)] [puC,psC] [(aw 350 Tryz.f350),(aw 362 Tryz.f362),(aw 366 Tryz.f366)] (aj 0 0) [1]
theorem Bx J R:TR NX J R (∃(I0:ae->Prop) (μ0:ae->Nat),I0 [.i (-1),.i (J 1).Z,.s (J 2).O (J 2).N,.i (J 3).Z,.f (J 0).F,.l (J 4).N (J 4).G]/\∀l0,I0 l0 -> BR (decide ((l0 1).Z<64))
((0<=(l0 1).Z)/\((l0 1).Z<64)/\BR (((l0 4).F (0+((l0 1).Z.toNat*1)))==0)
((((l0 1).Z+1)<=1048576)/\Ag I0 μ0 l0 [.i (l0 0).Z,.i ((l0 1).Z+1),.s (l0 2).O (l0 2).N,.i (l0 3).Z,.f (l0 4).F,.l (l0 5).N (l0 5).G])
((0<=((l0 1).Z-(l0 0).Z))/\(((l0 1).Z-(l0 0).Z)<=65534)/\let x0:ae:=[.i ((l0 1).Z-(l0 0).Z),.s (l0 2).O (l0 2).N,.i (l0 3).Z,.l (l0 5).N (l0 5).G];(puP x0)/\let x1:ae:=puW x0;(0<=(l0 1).Z)/\((l0 1).Z<64)/\let x2:ae:=[.i ((l0 4).F (0+((l0 1).Z.toNat*1))),.s (x1 1).O (x1 1).N,.i (x1 2).Z,.l (x1 3).N (x1 3).G];(psP x2)/\let x3:ae:=psW x2;(((l0 1).Z+1)<=1048576)/\Ag I0 μ0 l0 [.i (l0 1).Z,.i ((l0 1).Z+1),.s (x3 1).O (x3 1).N,.i (x3 2).Z,.f (l0 4).F,.l (x3 3).N (x3 3).G]))
(let x4:ae:=[.i 0,.s (l0 2).O (l0 2).N,.i (l0 3).Z,.l (l0 5).N (l0 5).G];(puP x4)/\let x5:ae:=puW x4;R [.i 0,.i (x5 0).Z,.s (x5 1).O (x5 1).N,.i (x5 2).Z,.l (x5 3).N (x5 3).G])):=af
theorem R5:PF1 NX ZB Ua:=λJ b1 b2 hp=>⟨by
 rw[Bx];obtain⟨-,v,⟨f1,f2⟩,-⟩:=b1;obtain⟨⟨-,⟨n1,-⟩,-⟩,-,-⟩:=b2;have v:∀i,i<64->-4095<=(J 0).F i/\(J 0).F i<=4095:=v.1;have f1:0<=(J 1).Z:=f1;have f2:(J 1).Z<=0:=f2;have n1:0<=(J 3).Z:=n1;have hp:WrP J 2 4000:=hp;have h0:=WrH.init hp n1;have hr:=hp.2.2.2;have hr:(J 3).Z+4000<=8000000:=hr;have hB:=bw (J 4).G;have e0:(J 1).Z=0:=ac;have eO:(J 2).O=0:=h0.O;have eN:(J 2).N=rl (J 3).Z.toNat:=h0.N;have eL:(J 4).N=rl (J 3).Z.toNat:=h0.L;have eP:Packed (J 4).G (aR (J 4).G) (J 3).Z.toNat (rl (J 3).Z.toNat):=h0.P;unfold Ua wrA;have eZ:(J 3).Z=(((J 3).Z.toNat:Nat):Int):=ac;show ∃I μ,_;rw[e0,eO,eN,eL];generalize (J 3).Z.toNat=n at *;rw[eZ];generalize (J 0).F=L at *;have eg:(J (2+2)).G=(J 4).G:=rfl;rw[eg];generalize hBB:aR (J 4).G=B at *;generalize (J 4).G=g at *;refine KW 64 1 0 (BpI L B n 0) (bpS L B n 0) (λ_ _ _=>rfl) (-1,[],g) rfl ⟨ac,ac,Nat.zero_le _,rfl,eP⟩ afH λI μ hA i x l hi hx hl=>?_;obtain⟨b,c,h⟩:=x;obtain⟨hb1,hb2,hc,ht,hh⟩:=hx;have hb1 : -1<=b:=hb1;have hb2:b<i+0:=hb2;have hc:cdN c<=62*i:=hc;have s0:(l 0).Z=b:=by rw[hl];rfl
 have s1:(l 1).Z=(i:Int)+0:=by rw[hl];rfl
 have s4:(l 4).F=L:=by rw[hl];rfl
 have w:∀z:Int,WrH [.i z,.s (l 2).O (l 2).N,.i (l 3).Z,.l (l 5).N (l 5).G] 1 B n c:=λz=>by rw[hl];exact⟨rfl,rfl,rfl,rfl,hh⟩
 have ei:((i:Int)+0).toNat=i+0:=ac;have hm:64-0-i=64-0-i:=rfl;refine br_ (λq=>?_) λq=>?_
 .have q:=ai q;rw[s1]at q;have em:64-0-i=(64-0-(i+1))+1:=ac;have ek:63-(64-0-(i+1))=i+0:=ac;have ht:c++cdL L ((64-0-(i+1))+1) b=cdL L (64-0) ((0:Int)-1):=by rw[<-em];exact ht
  unfold cdL at ht;rw[ek]at ht;rw[s0,s1,s4,ei,Nat.mul_one,Nat.zero_add];refine⟨ac,ac,br_ (λq1=>⟨ac,hA i (b,c,h) (b,c,h) _ _ ac ⟨hb1,by show b<((i+1:Nat):Int)+0;omega,by show cdN c<=62*(i+1);omega,?_,hh⟩ hl ?_⟩) λq1=>?_⟩
  .rw[if_pos (dL q1)]at ht;exact ht
  .rw[hl];show[Lf.i b,.i ((i:Int)+0+1),_,_,_,_]=[Lf.i b,.i (((i+1:Nat):Int)+0),_,_,_,_];rw[show(i:Int)+0+1=((i+1:Nat):Int)+0 by omega]
   rfl
  .rw[if_neg (dn q1)]at ht;have vi:=v (i+0) ac;have ec:((i+0:Nat):Int)=(i:Int)+0:=ac;rw[ec]at ht;have k1:=nH (v:=(i:Int)+0-b) ac ac;have k2:=jB (v:=L (i+0)) ac ac;refine⟨ac,ac,(w _).toP hB ac,?_⟩;generalize hr1:puW _=r1;have hr1:r1=.i 0::wrC B n (c++cdU ((i:Int)+0-b)):=by rw[<-hr1];exact congrArg (List.cons (Lf.i 0)) ((w _).add hB)
   subst hr1;have w1:WrH [.i (L (i+0)),.s (at_ (.i 0::wrC B n (c++cdU ((i:Int)+0-b))) 1).O (at_ (.i 0::wrC B n (c++cdU ((i:Int)+0-b))) 1).N,.i (at_ (.i 0::wrC B n (c++cdU ((i:Int)+0-b))) 2).Z,.l (at_ (.i 0::wrC B n (c++cdU ((i:Int)+0-b))) 3).N (at_ (.i 0::wrC B n (c++cdU ((i:Int)+0-b))) 3).G] 1 B n (c++cdU ((i:Int)+0-b)):=WrH.of hB af;have k3:=aC c (cdU ((i:Int)+0-b));refine⟨ac,ac,w1.toP hB ac,?_⟩;generalize hr2:psW _=r2;have hr2:r2=.i 0::wrC B n (c++cdU ((i:Int)+0-b)++cdS (L (i+0))):=by rw[<-hr2];exact congrArg (List.cons (Lf.i 0)) (w1.add hB)
   subst hr2;have k4:=aC (c++cdU ((i:Int)+0-b)) (cdS (L (i+0)));refine⟨ac,hA i (b,c,h) ((i:Int)+0,c++cdU ((i:Int)+0-b)++cdS (L (i+0)),ch (cdB B n (c++cdU ((i:Int)+0-b)++cdS (L (i+0)))) (n+cdN (c++cdU ((i:Int)+0-b)++cdS (L (i+0))))) _ _ ac ⟨by show -1<=(i:Int)+0;omega,by show(i:Int)+0<((i+1:Nat):Int)+0;omega,by show cdN (c++cdU ((i:Int)+0-b)++cdS (L (i+0)))<=62*(i+1);omega,by rw[List.append_assoc,List.append_assoc];exact ht,bl⟩ hl ?_⟩
   rw[show(i:Int)+0+1=((i+1:Nat):Int)+0 by omega]
   kernel_rfl
 .have q:=aQ q;rw[s1]at q;have e64:i=64:=ac;subst e64;have k1:=nH (v:=0) ac ac;have ht:c++cdU 0=cdL L (64-0) ((0:Int)-1):=ht;refine⟨(w 0).toP hB ac,?_⟩;generalize hr1:puW _=r1;have hr1:r1=.i 0::wrC B n (c++cdU 0):=by rw[<-hr1];exact congrArg (List.cons (Lf.i 0)) ((w 0).add hB)
  subst hr1;rw[ht];exact aT rfl af⟩
abbrev acQ:CT:=C1 NX ZB Ua
theorem WG:CO acQ:=CX1 (TX ⟨EK,vn,ah⟩ (FK (FK (FK ah)))) R5
def abj (J:ae):Prop:=WrP J 2 4000
def Xs (J:ae):ae:=.i 0::wrA J 2 (cdL (J 0).F 63 (0))
abbrev Py:SP:=mkS ⟨[aD 0 0],[.run 349 HP,.dead,.dyn 5 0 0 1000000 0 g0 false]⟩ 335 Tryz.f335 [tXO (.nP 0 0),.tX (.sA pe),aj 1 1] [.run 349 oI,.dyn 5 0 0 1000000 0 g0 false] [(7,.head ⟨[(0,tXO (.nP 0 0)),(4,tXO (.nP 2 0)),(7,aj 0 1048576),(8,aj 1 1048576)],[.run 349 uI,.dead,.run 124 pe,.dyn 5 0 0 1000000 0 g0 false],[1]⟩)] [puC,psC] [(aw 350 Tryz.f350),(aw 362 Tryz.f362),(aw 366 Tryz.f366)] (aj 0 0) [1]
theorem HV J R:TR Py J R (∃(I0:ae->Prop) (μ0:ae->Nat),I0 [.i 0,.i (J 1).Z,.s (J 2).O (J 2).N,.i (J 3).Z,.f (J 0).F,.l (J 4).N (J 4).G]/\∀l0,I0 l0 -> BR (decide ((l0 1).Z<64))
((0<=(l0 1).Z)/\((l0 1).Z<64)/\BR (((l0 4).F (0+((l0 1).Z.toNat*1)))==0)
((((l0 1).Z+1)<=1048576)/\Ag I0 μ0 l0 [.i (l0 0).Z,.i ((l0 1).Z+1),.s (l0 2).O (l0 2).N,.i (l0 3).Z,.f (l0 4).F,.l (l0 5).N (l0 5).G])
((0<=((l0 1).Z-(l0 0).Z))/\(((l0 1).Z-(l0 0).Z)<=65534)/\let x0:ae:=[.i ((l0 1).Z-(l0 0).Z),.s (l0 2).O (l0 2).N,.i (l0 3).Z,.l (l0 5).N (l0 5).G];(puP x0)/\let x1:ae:=puW x0;(0<=(l0 1).Z)/\((l0 1).Z<64)/\let x2:ae:=[.i ((l0 4).F (0+((l0 1).Z.toNat*1))),.s (x1 1).O (x1 1).N,.i (x1 2).Z,.l (x1 3).N (x1 3).G];(psP x2)/\let x3:ae:=psW x2;(((l0 1).Z+1)<=1048576)/\Ag I0 μ0 l0 [.i (l0 1).Z,.i ((l0 1).Z+1),.s (x3 1).O (x3 1).N,.i (x3 2).Z,.f (l0 4).F,.l (x3 3).N (x3 3).G]))
(let x4:ae:=[.i 0,.s (l0 2).O (l0 2).N,.i (l0 3).Z,.l (l0 5).N (l0 5).G];(puP x4)/\let x5:ae:=puW x4;R [.i 0,.i (x5 0).Z,.s (x5 1).O (x5 1).N,.i (x5 2).Z,.l (x5 3).N (x5 3).G])):=af
theorem RL:PF1 Py abj Xs:=λJ b1 b2 hp=>⟨by
 rw[HV];obtain⟨-,v,⟨f1,f2⟩,-⟩:=b1;obtain⟨⟨-,⟨n1,-⟩,-⟩,-,-⟩:=b2;have v:∀i,i<64->-4095<=(J 0).F i/\(J 0).F i<=4095:=v.1;have f1:1<=(J 1).Z:=f1;have f2:(J 1).Z<=1:=f2;have n1:0<=(J 3).Z:=n1;have hp:WrP J 2 4000:=hp;have h0:=WrH.init hp n1;have hr:=hp.2.2.2;have hr:(J 3).Z+4000<=8000000:=hr;have hB:=bw (J 4).G;have e0:(J 1).Z=1:=ac;have eO:(J 2).O=0:=h0.O;have eN:(J 2).N=rl (J 3).Z.toNat:=h0.N;have eL:(J 4).N=rl (J 3).Z.toNat:=h0.L;have eP:Packed (J 4).G (aR (J 4).G) (J 3).Z.toNat (rl (J 3).Z.toNat):=h0.P;unfold Xs wrA;have eZ:(J 3).Z=(((J 3).Z.toNat:Nat):Int):=ac;show ∃I μ,_;rw[e0,eO,eN,eL];generalize (J 3).Z.toNat=n at *;rw[eZ];generalize (J 0).F=L at *;have eg:(J (2+2)).G=(J 4).G:=rfl;rw[eg];generalize hBB:aR (J 4).G=B at *;generalize (J 4).G=g at *;refine KW 63 1 1 (BpI L B n 1) (bpS L B n 1) (λ_ _ _=>rfl) (0,[],g) rfl ⟨ac,ac,Nat.zero_le _,rfl,eP⟩ afH λI μ hA i x l hi hx hl=>?_;obtain⟨b,c,h⟩:=x;obtain⟨hb1,hb2,hc,ht,hh⟩:=hx;have hb1 : -1<=b:=hb1;have hb2:b<i+1:=hb2;have hc:cdN c<=62*i:=hc;have s0:(l 0).Z=b:=by rw[hl];rfl
 have s1:(l 1).Z=(i:Int)+1:=by rw[hl];rfl
 have s4:(l 4).F=L:=by rw[hl];rfl
 have w:∀z:Int,WrH [.i z,.s (l 2).O (l 2).N,.i (l 3).Z,.l (l 5).N (l 5).G] 1 B n c:=λz=>by rw[hl];exact⟨rfl,rfl,rfl,rfl,hh⟩
 have ei:((i:Int)+1).toNat=i+1:=ac;have hm:64-1-i=64-1-i:=rfl;refine br_ (λq=>?_) λq=>?_
 .have q:=ai q;rw[s1]at q;have em:64-1-i=(64-1-(i+1))+1:=ac;have ek:63-(64-1-(i+1))=i+1:=ac;have ht:c++cdL L ((64-1-(i+1))+1) b=cdL L (64-1) ((1:Int)-1):=by rw[<-em];exact ht
  unfold cdL at ht;rw[ek]at ht;rw[s0,s1,s4,ei,Nat.mul_one,Nat.zero_add];refine⟨ac,ac,br_ (λq1=>⟨ac,hA i (b,c,h) (b,c,h) _ _ ac ⟨hb1,by show b<((i+1:Nat):Int)+1;omega,by show cdN c<=62*(i+1);omega,?_,hh⟩ hl ?_⟩) λq1=>?_⟩
  .rw[if_pos (dL q1)]at ht;exact ht
  .rw[hl];show[Lf.i b,.i ((i:Int)+1+1),_,_,_,_]=[Lf.i b,.i (((i+1:Nat):Int)+1),_,_,_,_];rw[show(i:Int)+1+1=((i+1:Nat):Int)+1 by omega]
   rfl
  .rw[if_neg (dn q1)]at ht;have vi:=v (i+1) ac;have ec:((i+1:Nat):Int)=(i:Int)+1:=ac;rw[ec]at ht;have k1:=nH (v:=(i:Int)+1-b) ac ac;have k2:=jB (v:=L (i+1)) ac ac;refine⟨ac,ac,(w _).toP hB ac,?_⟩;generalize hr1:puW _=r1;have hr1:r1=.i 0::wrC B n (c++cdU ((i:Int)+1-b)):=by rw[<-hr1];exact congrArg (List.cons (Lf.i 0)) ((w _).add hB)
   subst hr1;have w1:WrH [.i (L (i+1)),.s (at_ (.i 0::wrC B n (c++cdU ((i:Int)+1-b))) 1).O (at_ (.i 0::wrC B n (c++cdU ((i:Int)+1-b))) 1).N,.i (at_ (.i 0::wrC B n (c++cdU ((i:Int)+1-b))) 2).Z,.l (at_ (.i 0::wrC B n (c++cdU ((i:Int)+1-b))) 3).N (at_ (.i 0::wrC B n (c++cdU ((i:Int)+1-b))) 3).G] 1 B n (c++cdU ((i:Int)+1-b)):=WrH.of hB af;have k3:=aC c (cdU ((i:Int)+1-b));refine⟨ac,ac,w1.toP hB ac,?_⟩;generalize hr2:psW _=r2;have hr2:r2=.i 0::wrC B n (c++cdU ((i:Int)+1-b)++cdS (L (i+1))):=by rw[<-hr2];exact congrArg (List.cons (Lf.i 0)) (w1.add hB)
   subst hr2;have k4:=aC (c++cdU ((i:Int)+1-b)) (cdS (L (i+1)));refine⟨ac,hA i (b,c,h) ((i:Int)+1,c++cdU ((i:Int)+1-b)++cdS (L (i+1)),ch (cdB B n (c++cdU ((i:Int)+1-b)++cdS (L (i+1)))) (n+cdN (c++cdU ((i:Int)+1-b)++cdS (L (i+1))))) _ _ ac ⟨by show -1<=(i:Int)+1;omega,by show(i:Int)+1<((i+1:Nat):Int)+1;omega,by show cdN (c++cdU ((i:Int)+1-b)++cdS (L (i+1)))<=62*(i+1);omega,by rw[List.append_assoc,List.append_assoc];exact ht,bl⟩ hl ?_⟩
   rw[show(i:Int)+1+1=((i+1:Nat):Int)+1 by omega]
   kernel_rfl
 .have q:=aQ q;rw[s1]at q;have e64:i=63:=ac;subst e64;have k1:=nH (v:=0) ac ac;have ht:c++cdU 0=cdL L (64-1) ((1:Int)-1):=ht;refine⟨(w 0).toP hB ac,?_⟩;generalize hr1:puW _=r1;have hr1:r1=.i 0::wrC B n (c++cdU 0):=by rw[<-hr1];exact congrArg (List.cons (Lf.i 0)) ((w 0).add hB)
  subst hr1;rw[ht];exact aT rfl af⟩
abbrev acG:CT:=C1 Py abj Xs
theorem U3:CO acG:=CX1 (TX ⟨EK,vn,ah⟩ (FK (FK (FK ah)))) RL
end
end Go.Proofs.YtldmjbgplgoedaaGreatDoor
namespace Go.Proofs.YtldmjbgplgoedaaGreatDoor
noncomputable section
open Go.RowKit U
def mW:List Bool->List AB->List AB->List AB
 |true::ks,a::A,m=>a::mW ks A m
 |false::ks,_::A,b::m=>b::mW ks A m
 |_,_,m=>m
def iI:List Bool->List AB->List AB->ae->ae->List AB
 |true::ks,a::A,m,v,w=>cH a v::iI ks A m (tls (nlB a) v) w
 |false::ks,a::A,b::m,v,w=>cH b w::iI ks A m (tls (nlB a) v) (tls (nlB b) w)
 |_,_,m,_,w=>an m w
def Rj:List Bool->List AB->List AB->ae->ae->ae
 |true::ks,a::A,m,v,w=>pre (nlB a) v++Rj ks A m (tls (nlB a) v) w
 |false::ks,a::A,b::m,v,w=>pre (nlB b) w++Rj ks A m (tls (nlB a) v) (tls (nlB b) w)
 |_,_,_,_,w=>w
def X6:List Bool->List AB->List AB->ae->ae
 |true::ks,a::A,m,t=>X6 ks A m (tls (nlB a) t)
 |false::ks,_::A,b::m,t=>pre (nlB b) t++X6 ks A m (tls (nlB b) t)
 |_,_,_,t=>t
def agM (K:KT):List Bool->List AB->List AB->ae->ae->ae->Prop
 |true::ks,a::A,m,t,v,w=>agB K a t v/\agM K ks A m (tls (nlB a) t) (tls (nlB a) v) w
 |false::ks,a::A,b::m,t,v,w=>agB K b t w/\agM K ks A m (tls (nlB b) t) (tls (nlB a) v) (tls (nlB b) w)
 |_,_,m,t,_,w=>lV K m t w
def agT (K:KT):List Bool->List AB->List AB->ae->ae->Prop
 |true::ks,a::A,m,t,v=>agB K a t v/\agT K ks A m (tls (nlB a) t) (tls (nlB a) v)
 |false::ks,a::A,b::m,t,v=>agT K ks A m (tls (nlB b) t) (tls (nlB a) v)
 |_,_,_,_,_=>True
section
variable {K:KT}
theorem mX:∀(ks:List Bool) (A m:List AB) (v w:ae),an (mW ks A m) (Rj ks A m v w)=iI ks A m v w
 |[],_,_,_,_=>rfl
 |true::ks,[],m,v,w=>rfl
 |true::ks,a::A,m,v,w=>by show cH a (pre (nlB a) v++_)::an (mW ks A m) (tls (nlB a) (pre (nlB a) v++_))=_;rw[kV,bP,mX ks];rfl
 |false::ks,[],m,v,w=>rfl
 |false::ks,_::A,[],v,w=>rfl
 |false::ks,a::A,b::m,v,w=>by show cH b (pre (nlB b) w++_)::an (mW ks A m) (tls (nlB b) (pre (nlB b) w++_))=_;rw[kV,bP,mX ks];rfl
theorem y9:∀ {ks:List Bool} {A m:List AB} {t v w:ae},agM K ks A m t v w->lV K (mW ks A m) t (Rj ks A m v w)
 |[],_,_,_,_,_,h=>h
 |true::ks,[],m,_,_,_,h=>h
 |true::ks,a::A,m,t,v,w,h=>by show agB K a t (pre (nlB a) v++_)/\lV K (mW ks A m) _ (tls (nlB a) (pre (nlB a) v++_));rw[bP];exact⟨ot h.1,y9 h.2⟩
 |false::ks,[],m,_,_,_,h=>h
 |false::ks,_::A,[],_,_,_,h=>h
 |false::ks,a::A,b::m,t,v,w,h=>by show agB K b t (pre (nlB b) w++_)/\lV K (mW ks A m) _ (tls (nlB b) (pre (nlB b) w++_));rw[bP];exact⟨ot h.1,y9 h.2⟩
theorem B0 (b:AB) (l:ae):agB K b l l:=(bI [b] l).1
theorem zo {b:AB} {l x:ae}:agB K b l (pre (nlB b) l++x):=ot (B0 b l)
theorem zF:∀ {ks:List Bool} {A m:List AB} {t v:ae},agT K ks A m t v->agM K ks A m t v (X6 ks A m t)
 |[],_,_,_,_,_=>bI _ _
 |true::ks,[],m,_,_,_=>bI _ _
 |true::ks,a::A,m,t,v,h=>⟨h.1,zF h.2⟩
 |false::ks,[],m,_,_,_=>bI _ _
 |false::ks,_::A,[],_,_,_=>bI _ _
 |false::ks,a::A,b::m,t,v,h=>by show agB K b t (pre (nlB b) t++_)/\agM K ks A m _ _ (tls (nlB b) (pre (nlB b) t++_));rw[bP];exact⟨zo,zF h⟩
end
def CK (f:FuncId) (args:List AT) (mem:List AB) (ks:List Bool) (sk:List AS) (msk:List AB) (Pr:ae->Prop) (W:ae->ae):CT:=⟨f,args,mem,λJ=>.vc (Pr J) (.done (.val (iI ks mem msk (tls (aG args) J) (tls (nlL sk) (W J))) (wg (cF sk (W J)))))⟩
def qS (K:KT) (ks:List Bool) (A:List AB) (sk:List AS) (msk:List AB) (v W l:ae):Prop:=(hd l).Z=0/\agL K sk (tl l) W/\agM K ks A msk (tls (nlL sk) (tl l)) v (tls (nlL sk) W)
section
variable {P:Program} {K:KT} {G:GT} {M:List (TypeId × Nat)}
theorem SG {ks:List Bool} {A:List AB} {sk:List AS} {msk:List AB} {v W l:ae} {Q:Lv->Prop} (h:qS K ks A sk msk v W l) (hQ:Q (.val (iI ks A msk v (tls (nlL sk) W)) (wg (cF sk W)))):upW K [⟨sk,mW ks A msk⟩] Q l:=by
 obtain⟨h1,h2,h3⟩:=h;refine Oz (l':=pre (nlL sk) W++Rj ks A msk v (tls (nlL sk) W)) h1 ⟨mu h2,?_⟩ ?_
 .show lV K (mW ks A msk) (tls (nlL sk) (tl l)) (tls (nlL sk) _);rw[bP];exact y9 h3
 .unfold uu;simp only[ky,bP,mX];exact hQ
theorem Sv {tb:List CT} {FT:List FI} (hT:TOk P K G tb FT) (n:Nat) {fi:FI} (hc:aS P fi.f) (hf:P.funcs[fi.f]? = some fi.fn) {args:List AT} {mem:List AB} (ks:List Bool) {sk:List AS} {msk:List AB} {Pr:ae->Prop} {W:ae->ae} (d:Nat)
 (hr:∀J,kj (aY (au args J) (an mem (tls (aG args) J))) (l6 0 mem.length)=true)
 (h:∀(J:ae),bTs K d (au args J)->bBs K d (an mem (tls (aG args) J))->Pr J->Sa (lx [⟨sk,mW ks mem msk⟩] (gR P ⟨K,G,M,inl P K G M tb FT n⟩ fi (au args J) (an mem (tls (aG args) J)))) (qS K ks mem sk msk (tls (aG args) J) (W J))):cV K P G (CK fi.f args mem ks sk msk Pr W) :=
 xO hT n hc hf d [⟨sk,mW ks mem msk⟩] hr λJ Q b1 b2 ⟨hP,hQ⟩=>dg (λl hl=>SG hl hQ) (h J b1 b2 hP).out
def gO (ks:List Bool) (A:List AB) (sk:List AS) (msk:List AB) (l:ae):ae:=pre (nlL sk) (tl l)++X6 ks A msk (tls (nlL sk) (tl l))
theorem acq {tb:List CT} {FT:List FI} (hT:TOk P K G tb FT) (n:Nat) {fi:FI} (hc:aS P fi.f) (hf:P.funcs[fi.f]? = some fi.fn) {args:List AT} {mem:List AB} (ks:List Bool) {sk:List AS} {msk:List AB} {Pr:ae->Prop} {Q:ae->ae->Prop} (d:Nat)
 (hr:∀J,kj (aY (au args J) (an mem (tls (aG args) J))) (l6 0 mem.length)=true)
 (h:∀(J:ae),bTs K d (au args J)->bBs K d (an mem (tls (aG args) J))->Pr J->Sa1 (lx [⟨sk,mW ks mem msk⟩] (gR P ⟨K,G,M,inl P K G M tb FT n⟩ fi (au args J) (an mem (tls (aG args) J)))) (λl=>(hd l).Z=0/\agT K ks mem msk (tls (nlL sk) (tl l)) (tls (aG args) J)/\Q J (gO ks mem sk msk l))):cV K P G (CK fi.f args mem ks sk msk Pr λJ=>gO ks mem sk msk (evW (lx [⟨sk,mW ks mem msk⟩] (gR P ⟨K,G,M,inl P K G M tb FT n⟩ fi (au args J) (an mem (tls (aG args) J)))))) :=
 Sv hT n hc hf ks d hr λJ b1 b2 hP=>⟨dg (λl ⟨h1,h2⟩=>⟨h2.1,by rw[h1];exact Bp,by rw[<-h1];unfold gO;rw[bP];exact zF h2.2.1⟩) (T.sat1_W (h J b1 b2 hP).out)⟩
end
abbrev PFk (s:SP) (ks:List Bool) (S:List AB) (P:ae->Prop) (W:ae->ae):Prop:=∀J,bTs KX 1 (au s.A J)->bBs KX 1 (an s.M (tls (aG s.A) J))->P J->Sa (TS s J) (qS KX ks s.M s.Y.sk S (tls (aG s.A) J) (W J))
abbrev Ck (s:SP) (ks:List Bool) (S:List AB) (P:ae->Prop) (W:ae->ae):CT:=CK s.i.f s.A s.M ks s.Y.sk S P W
theorem CXk (s:SP) {ks:List Bool} {sk:List AS} {S S':List AB} {P:ae->Prop} {W:ae->ae} (O:TOk Tryz.prog KX GX s.b s.t) (pf:∀J,bTs KX 1 (au s.A J)->bBs KX 1 (an s.M (tls (aG s.A) J))->P J->Sa (TS s J) (qS KX ks s.M sk S' (tls (aG s.A) J) (W J))) (e:(⟨sk,mW ks s.M S⟩:Wy)=s.Y:=by kernel_rfl) (eS:S'=S:=by kernel_rfl) (h1:aS Tryz.prog s.i.f:=by intro _ _;kernel_rfl) (h2:Tryz.prog.funcs[s.i.f]? = some s.i.fn:=by kernel_rfl) (h3:∀J,kj (aY (au s.A J) (an s.M (tls (aG s.A) J))) (l6 0 s.M.length)=true:=by intro _;kernel_rfl):CO (CK s.i.f s.A s.M ks sk S P W) :=Sv (M:=MX) O 8 h1 h2 ks 1 h3 λJ b1 b2 b3=>by have h:=pf J b1 b2 b3;unfold TS TT at h;subst eS;rw[e];exact h
theorem CXe (s:SP) {ks:List Bool} {sk:List AS} {S S':List AB} {P:ae->Prop} {Q:ae->ae->Prop} {W:ae->ae} (O:TOk Tryz.prog KX GX s.b s.t) (pf:∀J,bTs KX 1 (au s.A J)->bBs KX 1 (an s.M (tls (aG s.A) J))->P J->Sa1 (TS s J) (λl=>(hd l).Z=0/\agT KX ks s.M S' (tls (nlL sk) (tl l)) (tls (aG s.A) J)/\Q J (gO ks s.M sk S' l))) (e:(⟨sk,mW ks s.M S⟩:Wy)=s.Y:=by kernel_rfl) (eS:S'=S:=by kernel_rfl) (eW:W=(λJ=>gO ks s.M sk S (evW (TS s J))):=by kernel_rfl) (h1:aS Tryz.prog s.i.f:=by intro _ _;kernel_rfl) (h2:Tryz.prog.funcs[s.i.f]? = some s.i.fn:=by kernel_rfl) (h3:∀J,kj (aY (au s.A J) (an s.M (tls (aG s.A) J))) (l6 0 s.M.length)=true:=by intro _;kernel_rfl):CO (CK s.i.f s.A s.M ks sk S P W):=by
 subst eS eW;unfold TS TT;rw[<-e]
 exact acq (M:=MX) (Q:=Q) O 8 h1 h2 ks 1 h3 λJ b1 b2 b3=>by have h:=pf J b1 b2 b3;unfold TS TT at h;rw[e];exact h
end
end Go.Proofs.YtldmjbgplgoedaaGreatDoor
