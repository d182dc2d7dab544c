import Derived.Test.YtldmjbgplgoedaaGreatDoorRp17
set_option linter.all false
namespace Go.Proofs.YtldmjbgplgoedaaGreatDoor
noncomputable section
open Go.RowKit U
def fmB (W H:Int) (nY nU nV:Nat):Bool:=decide (2<=W/\W<=64/\W % 2=0/\2<=H/\H<=64/\H % 2=0/\(nY:Int)=W*H/\(nU:Int)=W / 2*(H / 2)/\(nV:Int)=W / 2*(H / 2))
def fmW (J:ae):ae:=[.b (fmB (J 0).Z (J 1).Z (J 2).N (J 3).N (J 4).N)]
abbrev Yk:SP:=mkS ⟨[bm],[]⟩ 84 Tryz.f84 [.tX (.sA we)] [] [] [] [(aw 155 Tryz.f155)]
theorem NZ J R:TR Yk J R (((decide (2<=(J 0).Z))->((decide ((J 0).Z<=64))->(((Int.tmod (J 0).Z 2)==0)->((decide (2<=(J 1).Z))->((decide ((J 1).Z<=64))->(((Int.tmod (J 1).Z 2)==0)->(((((J 2).N:Nat):Int)==(IntKind.wrap .i64 ((J 0).Z*(J 1).Z)))->(((((J 3).N:Nat):Int)==(IntKind.wrap .i64 ((Int.tdiv (J 0).Z 2)*(Int.tdiv (J 1).Z 2))))->R [.i 0,.b ((((J 4).N:Nat):Int)==(IntKind.wrap .i64 ((Int.tdiv (J 0).Z 2)*(Int.tdiv (J 1).Z 2))))])/\(((((J 3).N:Nat):Int)==(IntKind.wrap .i64 ((Int.tdiv (J 0).Z 2)*(Int.tdiv (J 1).Z 2))))=false->R [.i 0,.b false]))/\(((((J 2).N:Nat):Int)==(IntKind.wrap .i64 ((J 0).Z*(J 1).Z)))=false->R [.i 0,.b false]))/\(((Int.tmod (J 1).Z 2)==0)=false->R [.i 0,.b false]))/\((decide ((J 1).Z<=64))=false->R [.i 0,.b false]))/\((decide (2<=(J 1).Z))=false->R [.i 0,.b false]))/\(((Int.tmod (J 0).Z 2)==0)=false->R [.i 0,.b false]))/\((decide ((J 0).Z<=64))=false->R [.i 0,.b false]))/\((decide (2<=(J 0).Z))=false-> R [.i 0,.b false])):=af
theorem aX {x:Int} (h1 : -9223372036854775808<=x) (h2:x<=9223372036854775807):IntKind.wrap .i64 x=x:=bH (k:=.i64) ⟨h1,h2⟩
theorem jg {x:Int} (h:0<=x):Int.tdiv x 2=x / 2:=Int.tdiv_eq_ediv_of_nonneg h
theorem ln {x:Int} (h:0<=x):Int.tmod x 2=x % 2:=Int.tmod_eq_emod_of_nonneg h
theorem fB {x y:Int} (h1:0<=x) (h2:x<=64) (h3:0<=y) (h4:y<=64):0<=x*y/\x*y<=4096:=⟨Int.mul_nonneg h1 h3,by have:=Int.mul_le_mul h2 h4 h3 ac;omega⟩
theorem ZU:PF0 Yk fmW:=λJ _ _=>⟨by
 rw[NZ];have key:∀b:Bool,b=fmB (J 0).Z (J 1).Z (J 2).N (J 3).N (J 4).N->(hd [.i 0,.b b]).Z=0/\agW KX Yk.Y (tl [.i 0,.b b]) (fmW J):=λb e=>⟨rfl,⟨e,ah⟩,ah⟩;generalize (J 0).Z=W at *;generalize (J 1).Z=H at *;generalize (J 2).N=a at *;generalize (J 3).N=b at *;generalize (J 4).N=c at *;have no:∀ {p:Prop} [Decidable p],decide p=false->(p↔(2<=W/\W<=64/\W % 2=0/\2<=H/\H<=64/\H % 2=0/\(a:Int)=W*H/\(b:Int)=W / 2*(H / 2)/\(c:Int)=W / 2*(H / 2))\/p)->True:=λ_ _=>trivial;refine⟨λh1=>⟨λh2=>⟨λh3=>⟨λh4=>⟨λh5=>⟨λh6=>?_,λh6=>?_⟩,λh5=>?_⟩,λh4=>?_⟩,λh3=>?_⟩,λh2=>?_⟩,λh1=>?_⟩
 rotate_left
 all_goals try have h1:=ai h1
 all_goals try have h2:=ai h2
 all_goals try have h4:=ai h4
 all_goals try have h5:=ai h5
 all_goals try rw[ln ac]at h3
 all_goals try rw[ln ac]at h6
 all_goals try have h3:=dL h3
 all_goals try have h6:=dL h6
 all_goals try have h1:=aQ h1
 all_goals try have h2:=aQ h2
 all_goals try have h4:=aQ h4
 all_goals try have h5:=aQ h5
 all_goals try have h3:=dn h3
 all_goals try have h6:=dn h6
 .exact key _ (decide_eq_false ac).symm
 .exact key _ (decide_eq_false ac).symm
 .exact key _ (decide_eq_false ac).symm
 .exact key _ (decide_eq_false ac).symm
 .exact key _ (decide_eq_false ac).symm
 .exact key _ (decide_eq_false ac).symm
 have m1:=fB (x:=W) (y:=H) ac ac ac ac;have m2:=fB (x:=W / 2) (y:=H / 2) ac ac ac ac;rw[jg ac,jg ac,aX ac ac,aX ac ac];refine⟨λh7=>⟨λh8=>?_,λh8=>?_⟩,λh7=>?_⟩
 .refine key _ ?_;unfold fmB
  by_cases hc:(c:Int)=W / 2*(H / 2)
  .rw[decide_eq_true ⟨h1,h2,h3,h4,h5,h6,dL h7,dL h8,hc⟩];simp[hc]
  .rw[decide_eq_false λe=>hc e.2.2.2.2.2.2.2.2];simp[hc]
 .exact key _ (decide_eq_false λe=>dn h8 e.2.2.2.2.2.2.2.1).symm
 .exact key _ (decide_eq_false λe=>dn h7 e.2.2.2.2.2.2.1).symm⟩
abbrev fmC:CT:=C0 Yk fmW
theorem TM:CO fmC:=CX0 (TX trivial (FK ah)) ZU
def uY (f g:Nat->ae):Nat->Int
 |0=>0
 |n+1=>max (max (uY f g n) (cel f n-cel g n)) (-(cel f n-cel g n))
def Ah (J:ae):Prop:=(J 0).N<=(J 1).N
def vJ (J:ae):ae:=[.i (uY (J 0).G (J 1).G (J 0).N)]
abbrev wA:SP:=mkS ⟨[aD 0 255],[]⟩ 326 Tryz.f326 [tXO (.nR 0 0 4096 0 g0),tXO (.nR 0 0 4096 0 g0)] [] [(3,.head ⟨[(1,tXO (.nR 0 0 4096 0 g0)),(5,aj 0 255),(9,tXO (.nR 0 0 4096 0 g0)),(10,aj 0 4096),(11,aj 0 4096)],[],[]⟩)]
theorem xk J R:TR wA J R (∃(I0:ae->Prop) (μ0:ae->Nat),I0 [.l (J 1).N (J 1).G,.i 0,.l (J 0).N (J 0).G,.i (((J 0).N:Nat):Int),.i 0]/\∀l0,I0 l0->((decide ((l0 4).Z<(l0 3).Z))->((l0 4).Z<(((l0 2).N:Nat):Int))/\((l0 4).Z<(((l0 0).N:Nat):Int))/\(((l0 4).Z+1)<=4096)/\let k0:=(((l0 2).G (l0 4).Z.toNat) 0).Z-(((l0 0).G (l0 4).Z.toNat) 0).Z;Ag I0 μ0 l0 [.l (l0 0).N (l0 0).G,.i (max (max (l0 1).Z k0) (-k0)),.l (l0 2).N (l0 2).G,.i (l0 3).Z,.i ((l0 4).Z+1)])/\((decide ((l0 4).Z<(l0 3).Z))=false-> R [.i 0,.i (l0 1).Z])):=af
theorem Mi:PF1 wA Ah vJ:=λJ b1 b2 hp=>⟨by
 rw[xk];obtain⟨⟨l1,l2,l3⟩,⟨m1,m2,m3⟩,-⟩:=b1;have l2:(J 0).N<=4096:=l2;have hp:(J 0).N<=(J 1).N:=hp;unfold vJ;generalize (J 0).N=n at *;generalize (J 0).G=f at *;generalize (J 1).N=m at *;generalize (J 1).G=g at *;refine jo n 4 (λi s=>set_ (set_ s 1 (.i (uY f g i))) 4 (.i i)) (λi _=>rfl) rfl λI μ hA i hi=>?_;simp only[bA,bz,bx,bE,Z_i,N_l,G_l]at hA ⊢;refine br_ (λh=>?_) λh=>?_
 .have h:=ai h;exact⟨ac,ac,ac,hA i _ ac rfl⟩
 .have h:=aQ h;have:i=n:=ac;subst this;exact⟨rfl,⟨rfl,ah⟩,ah⟩⟩
abbrev VW:CT:=C1 wA Ah vJ
theorem OR:CO VW:=CX1 (TX trivial ah) Mi
def A1 (g:Nat->ae) (F S w i:Nat):Int:=cel g (F+i / w*S+i % w)
def qU (J:ae):Prop:=(J 1).Z.toNat+((J 4).Z.toNat-1)*(J 2).Z.toNat+(J 3).Z.toNat<=(J 0).N/\(J 3).Z.toNat*(J 4).Z.toNat<=4096
def qW (J:ae):ae:=[.l ((J 3).Z.toNat*(J 4).Z.toNat) (rz (A1 (J 0).G (J 1).Z.toNat (J 2).Z.toNat (J 3).Z.toNat))]
abbrev OT:SP:=mkS ⟨[.sO (.nR 0 1 4096 0 g0)],[]⟩ 174 Tryz.f174 [tXO (.nR 0 1 4096 0 g0),.tX (.sA A4)] [] [(3,.head ⟨[(0,tXO (.nR 0 1 4096 0 g0)),(3,tXO (.nP 0 0)),(5,tXO (.nD 1 0 1 4096 0 0)),(14,aj 1 64),(15,aj 0 1048576)],[.run 269 A4,.dyn 5 0 1 4096 0 g0 false],[]⟩)]
theorem Cg J R:TR OT J R (∃(I0:ae->Prop) (μ0:ae->Nat),I0 [.l (J 0).N (J 0).G,.s 0 ((J 3).Z*(J 4).Z).toNat,.i (J 4).Z,.i 0,.i (J 1).Z,.i (J 2).Z,.i (J 3).Z,.i (J 4).Z,.l ((J 3).Z*(J 4).Z).toNat (λ_=>[.i 0])]/\∀l0,I0 l0->((decide ((l0 3).Z<(l0 2).Z))->(((l0 3).Z*(l0 6).Z).toNat<=(((l0 3).Z+1)*(l0 6).Z).toNat)/\((((l0 3).Z+1)*(l0 6).Z).toNat<=(l0 1).N)/\(((l0 3).Z*(l0 6).Z).toNat<(l0 1).N)/\(((l0 4).Z+((l0 3).Z*(l0 5).Z)).toNat<=(l0 0).N)/\((((l0 1).O+((l0 3).Z*(l0 6).Z).toNat)+((((l0 3).Z+1)*(l0 6).Z).toNat-((l0 3).Z*(l0 6).Z).toNat))<=(l0 8).N)/\(((l0 3).Z+1)<=1048576)/\let k0:=((l0 4).Z+((l0 3).Z*(l0 5).Z)).toNat;Ag I0 μ0 l0 [.l (l0 0).N (l0 0).G,.s (l0 1).O (l0 1).N,.i (l0 2).Z,.i ((l0 3).Z+1),.i (l0 4).Z,.i (l0 5).Z,.i (l0 6).Z,.i (l0 7).Z,.l (l0 8).N (jD ((l0 1).O+((l0 3).Z*(l0 6).Z).toNat) (min ((l0 0).N-k0) ((((l0 3).Z+1)*(l0 6).Z).toNat-((l0 3).Z*(l0 6).Z).toNat)) (λi0=>(l0 0).G (i0+k0)) (l0 8).G)])/\((decide ((l0 3).Z<(l0 2).Z))=false-> (((l0 1).O+(l0 1).N)<=(l0 8).N)/\R [.i 0,.l (l0 1).N (λi0=>(l0 8).G ((l0 1).O+i0))])):=af
theorem XP:PF1 OT qU qW:=λJ b1 b2 hp=>⟨by
 rw[Cg];obtain⟨-,⟨⟨f1,f2⟩,⟨s1,s2⟩,⟨w1,w2⟩,⟨h1,h2⟩,-⟩,-⟩:=b1;have f1:0<=(J 1).Z:=f1;have s1:1<=(J 2).Z:=s1;have w1:1<=(J 3).Z:=w1;have w2:(J 3).Z<=64:=w2;have h1:1<=(J 4).Z:=h1;have h2:(J 4).Z<=64:=h2;obtain⟨p1,p2⟩:qU J:=hp;unfold qW;generalize (J 0).N=n at *;generalize (J 0).G=g at *;generalize (J 1).Z=F at *;generalize (J 2).Z=S at *;generalize (J 3).Z=w at *;generalize (J 4).Z=h at *;obtain⟨F,rfl⟩:=Int.eq_ofNat_of_zero_le f1;obtain⟨S,rfl⟩:=Int.eq_ofNat_of_zero_le (show 0<=S by omega)
 obtain⟨w,rfl⟩:=Int.eq_ofNat_of_zero_le (show 0<=w by omega)
 obtain⟨h,rfl⟩:=Int.eq_ofNat_of_zero_le (show 0<=h by omega)
 simp only[ap]at p1 p2 ⊢;have e1:((w:Int)*(h:Int)).toNat=w*h:=rfl;rw[e1];refine aZ h 3 (λr (b:Nat->ae)=>∀i,i<w*h->cel b i=if i<r*w then A1 g F S w i else 0) (λs r b=>set_ (set_ s 3 (.i r)) 8 (.l (w*h) b)) (λi _ _=>rfl) _ rfl (λi _=>by rw[Nat.zero_mul,if_neg (Nat.not_lt_zero i)];rfl) λI μ hA r b hr hb=>?_
 simp only[bA,bz,bx,bE,Z_i,N_l,G_l,O_s,N_s]at hA ⊢;have e2:((r:Int)*(w:Int)).toNat=r*w:=rfl;have e3:(((r:Int)+1)*(w:Int)).toNat=(r+1)*w:=rfl;have e4:((F:Int)+(r:Int)*(S:Int)).toNat=F+r*S:=rfl;rw[e2,e3,e4];refine br_ (λq=>?_) λq=>?_
 .have q:=ai q;have q:r<h:=ac;have k1:=sJ (i:=r) (j:=0) (w:=w) (h:=h) q ac;have k2:(r+1)*w<=h*w:=Nat.mul_le_mul_right w q;have k3:(r+1)*w=r*w+w:=by rw[Nat.add_mul,Nat.one_mul]
  have k4:r*S<=(h-1)*S:=Nat.mul_le_mul_right S ac;have k5:w*h=h*w:=Nat.mul_comm w h;refine⟨ac,ac,ac,ac,ac,ac,hA r _ _ _ q ?_ rfl⟩;intro i hi;show(at_ (jD _ _ _ _ i) 0).Z=_;unfold jD;rw[show min (n-(F+r*S)) ((r+1)*w-r*w)=w by omega]
  by_cases hc:r*w<=i/\i<r*w+w
  .obtain⟨d1,d2⟩:=gJ hc.1 hc.2;rw[if_pos ac,if_pos ac];unfold A1;rw[d1,d2];simp only[cel]
   congr 3
   omega
  .rw[if_neg ac];show cel b i=_;rw[hb i hi]
   by_cases hl:i<r*w
   .rw[if_pos hl,if_pos ac]
   .rw[if_neg hl,if_neg ac]
 .have q:=aQ q;have:r=h:=ac;subst this;refine⟨ac,rfl,⟨aL rfl λi hi=>?_,ah⟩,ah⟩;have:=hb i hi;rw[if_pos (by rw[Nat.mul_comm];exact hi)]at this
  simp only[cel,Nat.zero_add];exact this⟩
abbrev X3:CT:=C1 OT qU qW
theorem xM:CO X3:=CX1 (TX trivial ah) XP
def oK (J:ae):ae:=[.s 0 (J 0).N,.l (J 0).N (rz (cel (J 0).G))]
abbrev LX:SP:=mkS ⟨[.sO (.nD 0 0 1 4096 0 0)],[.dyn 5 0 1 4096 0 g0 false]⟩ 256 Tryz.f256 [tXO (.nR 0 1 4096 0 g0)] [] [] [] [] (.tA)
theorem CV J R:TR LX J R (((0+(((J 0).N:Nat):Int).toNat)<=(((J 0).N:Nat):Int).toNat)/\R [.i 0,.s 0 (((J 0).N:Nat):Int).toNat,.l (((J 0).N:Nat):Int).toNat (jD 0 (min (J 0).N (((J 0).N:Nat):Int).toNat) (J 0).G (λ_=>[.i 0]))]):=af
theorem XN:PF0 LX oK:=λJ b1 b2=>⟨by rw[CV];simp only[ap,Nat.min_self];refine⟨ac,rfl,⟨⟨rfl,rfl⟩,ah⟩,pI rfl λi hi=>?_,ah⟩;unfold jD;simp only[cel];rw[if_pos ac];rfl⟩
abbrev Rb:CT:=C0 LX oK
theorem tz:CO Rb:=CX0 (TX trivial ah) XN
def jK (g s:Nat->ae) (F S w h i:Nat):Int:=if F<=i/\(i-F) / S<h/\(i-F) % S<w then cel s ((i-F) / S*w+(i-F) % S)else cel g i
def lM (J:ae):Prop:=(J 0).O=0/\(J 0).N=(J 6).N/\(J 1).Z.toNat+((J 4).Z.toNat-1)*(J 2).Z.toNat+(J 3).Z.toNat<=(J 0).N/\(J 3).Z.toNat*(J 4).Z.toNat<=(J 5).N/\(J 3).Z<=(J 2).Z
def lL (J:ae):ae:=[.l (J 6).N (rz (jK (J 6).G (J 5).G (J 1).Z.toNat (J 2).Z.toNat (J 3).Z.toNat (J 4).Z.toNat))]
abbrev Pe:SP:=mkS ⟨[],[.dyn 5 0 1 4096 0 g0 false]⟩ 171 Tryz.f171 [tXO (.nD 0 0 1 4096 0 0),.tX (.sA A4),tXO (.nR 0 1 4096 0 g0)] [.dyn 5 0 1 4096 0 g0 false] [(2,.head ⟨[(0,tXO (.nD 0 0 1 4096 0 0)),(2,tXO (.nR 0 1 4096 0 g0)),(4,tXO (.nP 1 0)),(8,aj 1 64),(9,aj 0 1048576)],[.dyn 5 0 1 4096 0 g0 false,.run 269 A4],[]⟩)]
theorem GW J R:TR Pe J R (∃(I0:ae->Prop) (μ0:ae->Nat),I0 [.s (J 0).O (J 0).N,.l (J 5).N (J 5).G,.i (J 4).Z,.i 0,.l (J 6).N (J 6).G,.i (J 1).Z,.i (J 2).Z,.i (J 3).Z,.i (J 4).Z]/\∀l0,I0 l0->((decide ((l0 3).Z<(l0 2).Z))->(((l0 5).Z+((l0 3).Z*(l0 6).Z)).toNat<=(l0 0).N)/\(((l0 5).Z+((l0 3).Z*(l0 6).Z)).toNat<(l0 0).N)/\(((l0 3).Z*(l0 7).Z).toNat<=(((l0 3).Z+1)*(l0 7).Z).toNat)/\((((l0 3).Z+1)*(l0 7).Z).toNat<=(l0 1).N)/\((((l0 0).O+((l0 5).Z+((l0 3).Z*(l0 6).Z)).toNat)+((l0 0).N-((l0 5).Z+((l0 3).Z*(l0 6).Z)).toNat))<=(l0 4).N)/\(((l0 3).Z+1)<=1048576)/\let k0:=((l0 5).Z+((l0 3).Z*(l0 6).Z)).toNat;Ag I0 μ0 l0 [.s (l0 0).O (l0 0).N,.l (l0 1).N (l0 1).G,.i (l0 2).Z,.i ((l0 3).Z+1),.l (l0 4).N (jD ((l0 0).O+k0) (min ((((l0 3).Z+1)*(l0 7).Z).toNat-((l0 3).Z*(l0 7).Z).toNat) ((l0 0).N-k0)) (λi0=>(l0 1).G (i0+((l0 3).Z*(l0 7).Z).toNat)) (l0 4).G),.i (l0 5).Z,.i (l0 6).Z,.i (l0 7).Z,.i (l0 8).Z])/\((decide ((l0 3).Z<(l0 2).Z))=false-> R [.i 0,.l (l0 4).N (l0 4).G])):=af
theorem RV:PF1 Pe lM lL:=λJ b1 b2 hp=>⟨by
 rw[GW];obtain⟨-,⟨⟨f1,f2⟩,⟨s1,s2⟩,⟨w1,w2⟩,⟨h1,h2⟩,-⟩,-⟩:=b1;have f1:0<=(J 1).Z:=f1;have s1:1<=(J 2).Z:=s1;have w1:1<=(J 3).Z:=w1;have w2:(J 3).Z<=64:=w2;have h1:1<=(J 4).Z:=h1;have h2:(J 4).Z<=64:=h2;obtain⟨p0,p1,p2,p3,p4⟩:lM J:=hp;unfold lL;generalize (J 0).N=n at *;generalize (J 0).O=o at *;generalize (J 6).N=n' at *;generalize (J 6).G=g at *;generalize (J 5).N=m at *;generalize (J 5).G=v at *;generalize (J 1).Z=F at *;generalize (J 2).Z=S at *;generalize (J 3).Z=w at *;generalize (J 4).Z=h at *;subst p0 p1;obtain⟨F,rfl⟩:=Int.eq_ofNat_of_zero_le f1;obtain⟨S,rfl⟩:=Int.eq_ofNat_of_zero_le (show 0<=S by omega)
 obtain⟨w,rfl⟩:=Int.eq_ofNat_of_zero_le (show 0<=w by omega)
 obtain⟨h,rfl⟩:=Int.eq_ofNat_of_zero_le (show 0<=h by omega)
 simp only[ap]at p2 p3 ⊢;have p4:w<=S:=ac;refine aZ h 3 (λr (b:Nat->ae)=>∀i,i<n->cel b i=jK g v F S w r i) (λs r b=>set_ (set_ s 3 (.i r)) 4 (.l n b)) (λi _ _=>rfl) _ rfl (λi _=>by unfold jK;rw[if_neg λq=>Nat.not_lt_zero _ q.2.1]) λI μ hA r b hr hb=>?_
 simp only[bA,bz,bx,bE,Z_i,N_l,G_l,O_s,N_s]at hA ⊢;have e2:((r:Int)*(w:Int)).toNat=r*w:=rfl;have e3:(((r:Int)+1)*(w:Int)).toNat=(r+1)*w:=rfl;have e4:((F:Int)+(r:Int)*(S:Int)).toNat=F+r*S:=rfl;rw[e2,e3,e4];refine br_ (λq=>?_) λq=>?_
 .have q:=ai q;have q:r<h:=ac;have k2:(r+1)*w<=h*w:=Nat.mul_le_mul_right w q;have k3:(r+1)*w=r*w+w:=by rw[Nat.add_mul,Nat.one_mul]
  have k4:r*S<=(h-1)*S:=Nat.mul_le_mul_right S ac;have k5:w*h=h*w:=Nat.mul_comm w h;refine⟨ac,ac,ac,ac,ac,ac,hA r _ _ _ q ?_ rfl⟩;intro i hi;show(at_ (jD _ _ _ _ i) 0).Z=_;unfold jD;rw[show min ((r+1)*w-r*w) (n-(F+r*S))=w by omega]
  have hS:0<S:=ac
  by_cases hc:F+r*S<=i/\i<F+r*S+w
  .rw[if_pos ac];obtain⟨d1,d2⟩:=gJ (i:=i-F) (r:=r) (w:=S) ac ac;unfold jK;rw[d1,d2,if_pos ⟨ac,ac,ac⟩];simp only[cel]
   congr 3
   omega
  .rw[if_neg ac];show cel b i=_;rw[hb i hi];unfold jK
   by_cases hl:F<=i/\(i-F) / S<r/\(i-F) % S<w
   .rw[if_pos hl,if_pos ⟨hl.1,ac,hl.2.2⟩]
   .rw[if_neg hl,if_neg];rintro⟨j1,j2,j3⟩;refine hl ⟨j1,?_,j3⟩;rcases Nat.lt_or_ge ((i-F) / S) r with j | j
    .exact j
    .exfalso
     have:(i-F) / S=r:=ac;have:=Nat.div_add_mod (i-F) S;rw[‹(i-F) / S=r›,Nat.mul_comm]at this;omega
 .have q:=aQ q;have:r=h:=ac;subst this;exact⟨rfl,ah,pI rfl λi hi=>hb i hi,ah⟩⟩
abbrev QB:CT:=C1 Pe lM lL
theorem pJ:CO QB:=CX1 (TX trivial ah) RV
end
end Go.Proofs.YtldmjbgplgoedaaGreatDoor
namespace Go.Proofs.YtldmjbgplgoedaaGreatDoor
noncomputable section
open Go.RowKit U
theorem dN {W H:Int} {a b c:Nat} (h:fmB W H a b c=true):∃w k:Nat,W=((2*w:Nat):Int)/\H=((2*k:Nat):Int)/\1<=w/\w<=32/\1<=k/\k<=32/\a=2*w*(2*k)/\b=w*k/\c=w*k:=by
 unfold fmB at h;obtain⟨h1,h2,h3,h4,h5,h6,h7,h8,h9⟩:=ai h;obtain⟨w,hw⟩:=Int.eq_ofNat_of_zero_le (show 0<=W / 2 by omega)
 obtain⟨k,hk⟩:=Int.eq_ofNat_of_zero_le (show 0<=H / 2 by omega)
 have eW:W=((2*w:Nat):Int):=ac;have eH:H=((2*k:Nat):Int):=ac;rw[hw,hk]at h8 h9;rw[eW,eH]at h7;refine⟨w,k,eW,eH,ac,ac,ac,ac,?_,?_,?_⟩
 .exact Int.ofNat.inj h7
 .exact Int.ofNat.inj h8
 .exact Int.ofNat.inj h9
theorem wP {w k:Nat} (h1:1<=w) (h2:w<=32) (h3:1<=k) (h4:k<=32):fmB ((2*w:Nat):Int) ((2*k:Nat):Int) (2*w*(2*k)) (w*k) (w*k)=true:=by unfold fmB;have e1:(((2*w:Nat):Int) / 2)=(w:Int):=ac;have e2:(((2*k:Nat):Int) / 2)=(k:Int):=ac;rw[e1,e2];exact decide_eq_true ⟨ac,ac,ac,ac,ac,ac,rfl,rfl,rfl⟩
def cI (J:ae):Prop:=fmB (J 0).Z (J 1).Z (J 2).N (J 3).N (J 4).N=true
def gL (_:ae):ae:=[.b true]
abbrev MB:SP:=mkS ⟨[.sO (.nB false true false)],[]⟩ 84 Tryz.f84 [.tX (.sA sFF)] [] [] [] [(aw 155 Tryz.f155)]
theorem CL J R:TR MB J R ((((Int.tmod (J 0).Z 2)==0)->(((Int.tmod (J 1).Z 2)==0)->(((((J 2).N:Nat):Int)==((J 0).Z*(J 1).Z))->(((((J 3).N:Nat):Int)==((Int.tdiv (J 0).Z 2)*(Int.tdiv (J 1).Z 2)))->(((((J 4).N:Nat):Int)==((Int.tdiv (J 0).Z 2)*(Int.tdiv (J 1).Z 2)))=true)/\R [.i 0,.b ((((J 4).N:Nat):Int)==((Int.tdiv (J 0).Z 2)*(Int.tdiv (J 1).Z 2)))])/\(((((J 3).N:Nat):Int)==((Int.tdiv (J 0).Z 2)*(Int.tdiv (J 1).Z 2)))=false->False))/\(((((J 2).N:Nat):Int)==((J 0).Z*(J 1).Z))=false->False))/\(((Int.tmod (J 1).Z 2)==0)=false->False))/\(((Int.tmod (J 0).Z 2)==0)=false-> False)):=af
theorem Vy:PF1 MB cI gL:=λJ _ _ hp=>⟨by
 rw[CL];obtain⟨w,k,e1,e2,b1,b2,b3,b4,e3,e4,e5⟩:=dN hp;rw[e1,e2,e3,e4,e5];have t1:Int.tmod ((2*w:Nat):Int) 2=0:=by rw[ln ac];omega
 have t2:Int.tmod ((2*k:Nat):Int) 2=0:=by rw[ln ac];omega
 have t3:Int.tdiv ((2*w:Nat):Int) 2=(w:Int):=by rw[jg ac];omega
 have t4:Int.tdiv ((2*k:Nat):Int) 2=(k:Int):=by rw[jg ac];omega
 have t5:((2*w*(2*k):Nat):Int)=((2*w:Nat):Int)*((2*k:Nat):Int):=rfl;have t6:((w*k:Nat):Int)=(w:Int)*(k:Int):=rfl;rw[t1,t2,t3,t4,<-t5,<-t6];simp only[beq_self_eq_true,Bool.true_eq_false,false_implies,true_implies,and_true,true_and];exact⟨rfl,⟨rfl,ah⟩,ah⟩⟩
abbrev qV:CT:=C1 MB cI gL
theorem dd:CO qV:=CX1 (TX trivial (FK ah)) Vy
def QN (J:ae):Prop:=(J 0).N=1
def On (J:ae):ae:=[.l (J 1).Z.toNat (rz λ_=>cel (J 0).G 0)]
abbrev Nf:SP:=mkS ⟨[.sO (.nR 0 1 4096 0 g0)],[]⟩ 172 Tryz.f172 [tXO (.nR 0 1 1 0 g0),aj 1 4096] [] [(8,.head ⟨[(7,tXO (.nD 0 0 1 4096 0 0)),(8,aj 1 4096)],[.dyn 5 0 1 4096 0 g0 false],[]⟩)] [] [(aw 257 Tryz.f257),(aw 324 Tryz.f324),(aw 325 Tryz.f325)]
theorem Dn J R:TR Nf J R (((0+(1*(J 1).Z).toNat)<=(1*(J 1).Z).toNat)/\∃(I0:ae->Prop) (μ0:ae->Nat),I0 [.s 0 (1*(J 1).Z).toNat,.i 1,.l (1*(J 1).Z).toNat (jD 0 (min (J 0).N (1*(J 1).Z).toNat) (J 0).G (λ_=>[.i 0]))]/\∀l0,I0 l0->((decide ((l0 1).Z<(((l0 0).N:Nat):Int)))->((l0 1).Z.toNat<=(l0 0).N)/\((l0 1).Z.toNat<(l0 0).N)/\((l0 1).Z.toNat<=(l0 0).N)/\((((l0 0).O+0)+((l0 1).Z.toNat-0))<=(l0 2).N)/\((((l0 0).O+(l0 1).Z.toNat)+((l0 0).N-(l0 1).Z.toNat))<=(l0 2).N)/\(((l0 1).Z+((min ((l0 1).Z.toNat-0) ((l0 0).N-(l0 1).Z.toNat):Nat):Int))<=4096)/\let k0:=min ((l0 1).Z.toNat-0) ((l0 0).N-(l0 1).Z.toNat);Ag I0 μ0 l0 [.s (l0 0).O (l0 0).N,.i ((l0 1).Z+((k0:Nat):Int)),.l (l0 2).N (jD ((l0 0).O+(l0 1).Z.toNat) k0 (λi0=>(l0 2).G (i0+((l0 0).O+0))) (l0 2).G)])/\((decide ((l0 1).Z<(((l0 0).N:Nat):Int)))=false-> (((l0 0).O+(l0 0).N)<=(l0 2).N)/\R [.i 0,.l (l0 0).N (λi0=>(l0 2).G ((l0 0).O+i0))])):=af
theorem Ul:PF1 Nf QN On:=λJ b1 b2 hp=>⟨by
 rw[Dn];obtain⟨-,⟨n1,n2⟩,-⟩:=b1;have n1:1<=(J 1).Z:=n1;have n2:(J 1).Z<=4096:=n2;have hp:(J 0).N=1:=hp;unfold On;rw[hp,Int.one_mul];generalize (J 1).Z=n at *;generalize (J 0).G=g at *;obtain⟨n,rfl⟩:=Int.eq_ofNat_of_zero_le (show 0<=n by omega)
 rw[ap];refine⟨ac,?_⟩;refine⟨λl=>∃k b,1<=k/\k<=n/\(∀i,i<k->cel b i=cel g 0)/\l=[.s 0 n,.i ((k:Nat):Int),.l n b],λl=>n-(l 1).Z.toNat,⟨1,_,Nat.le_refl _,ac,λi hi=>?_,rfl⟩,?_⟩
 .unfold jD;simp only[cel];rw[if_pos ac,show i-0=0 by omega]
 rintro _ ⟨k,b,k1,k2,hb,rfl⟩;simp only[bx,bE,Z_i,N_l,G_l,O_s,N_s,ap];refine br_ (λq=>?_) λq=>?_
 .have q:=ai q;refine⟨ac,ac,ac,ac,ac,ac,⟨k+min (k-0) (n-k),_,ac,ac,λi hi=>?_,rfl⟩,by show n-((k:Int)+((min (k-0) (n-k):Nat):Int)).toNat<n-(k:Int).toNat;omega⟩
  show(at_ (jD _ _ _ _ i) 0).Z=_;unfold jD
  by_cases hc:k<=i
  .rw[if_pos ac];exact hb _ ac
  .rw[if_neg ac];exact hb _ ac
 .have q:=aQ q;have:k=n:=ac;subst this;exact⟨ac,rfl,⟨aL rfl λi hi=>by rw[<-hb i hi];show((b (0+i)) 0).Z=_;rw[Nat.zero_add],ah⟩,ah⟩⟩
abbrev adE:CT:=C1 Nf QN On
theorem RM:CO adE:=CX1 (TX trivial (FK (FK (FK ah)))) Ul
def iA (J:ae):Prop:=(J 0).Z % 2=0/\(J 1).Z % 2=0
def eY (J:ae):ae:=[.i (J 0).Z,.i (J 1).Z,.l ((J 0).Z*(J 1).Z).toNat (rz λ_=>(J 2).Z),.l ((J 0).Z / 2*((J 1).Z / 2)).toNat (rz λ_=>(J 3).Z),.l ((J 0).Z / 2*((J 1).Z / 2)).toNat (rz λ_=>(J 4).Z),.i 0]
abbrev Af:SP:=mkS ⟨[.sA sFF,aD 0 0],[]⟩ 94 Tryz.f94 [aj 2 64,aj 2 64,tXO (.nI .u8 0 255 0),tXO (.nI .u8 0 255 0),tXO (.nI .u8 0 255 0)] [] [] [adE] [(aw 155 Tryz.f155)]
theorem At J R:TR Af J R ((((Int.tmod (J 0).Z 2)==0)->((!((Int.tmod (J 1).Z 2)==0))->False)/\((!((Int.tmod (J 1).Z 2)==0))=false->(1<=1)/\let x0:ae:=[.l 1 (λi0=>[.i (J 2).Z]),.i ((J 0).Z*(J 1).Z)];(QN x0)/\let x1:ae:=On x0;(1<=1)/\let x2:ae:=[.l 1 (λi0=>[.i (J 3).Z]),.i ((Int.tdiv (J 0).Z 2)*(Int.tdiv (J 1).Z 2))];(QN x2)/\let x3:ae:=On x2;(1<=1)/\let x4:ae:=[.l 1 (λi0=>[.i (J 4).Z]),.i ((Int.tdiv (J 0).Z 2)*(Int.tdiv (J 1).Z 2))];(QN x4)/\let x5:ae:=On x4;((x3 0).N<=1024)/\((x5 0).N<=1024)/\R [.i 0,.i (J 0).Z,.i (J 1).Z,.l (x1 0).N (x1 0).G,.l (x3 0).N (x3 0).G,.l (x5 0).N (x5 0).G,.i 0]))/\(((Int.tmod (J 0).Z 2)==0)=false-> False)):=af
theorem NE:PF1 Af iA eY:=λJ b1 b2 hp=>⟨by
 rw[At];obtain⟨⟨w1,w2⟩,⟨h1,h2⟩,-⟩:=b1;have w1:2<=(J 0).Z:=w1;have w2:(J 0).Z<=64:=w2;have h1:2<=(J 1).Z:=h1;have h2:(J 1).Z<=64:=h2;obtain⟨p1,p2⟩:=hp;unfold eY;generalize (J 0).Z=w at *;generalize (J 1).Z=h at *;simp only[QN,On,bx,bE,Z_i,N_l,G_l];rw[ln ac,ln ac,jg ac,jg ac,p1,p2];have m:=fB (x:=w / 2) (y:=h / 2) ac ac ac ac;have m2:w / 2*(h / 2)<=32*32:=Int.mul_le_mul ac ac ac ac;refine br_ (λ_=>br_ (λq=>(by simp at q)) λ_=>?_) λq=>(by simp at q)
 exact⟨ac,ah,ac,ah,ac,ah,ac,ac,rfl,⟨⟨rfl,rfl,aL rfl λ_ _=>rfl,aL rfl λ_ _=>rfl,aL rfl λ_ _=>rfl,ah⟩,rfl,ah⟩,ah⟩⟩
abbrev iU:CT:=C1 Af iA eY
theorem cE:CO iU:=CX1 (TX ⟨RM,ah⟩ (FK ah)) NE
def kQ (J:ae):ae:=[.l (J 0).N (rz (cel (J 0).G))]
abbrev Oy:SP:=mkS ⟨[.sO (.nR 0 1 4096 0 g0)],[]⟩ 158 Tryz.f158 [tXO (.nR 0 1 4096 0 g0)] [] []
theorem Bi J R:TR Oy J R ((0=0)/\(0=0)/\((0+(0+(J 0).N))<=(0+(J 0).N))/\R [.i 0,.l (0+(J 0).N) (λi0=>(aE 0 (AP []) (J 0).G) (0+i0))]):=af
theorem Xp:PF0 Oy kQ:=λJ b1 b2=>⟨by
 rw[Bi];refine⟨rfl,rfl,ac,rfl,⟨aL ac λi hi=>?_,ah⟩,ah⟩;unfold aE;simp only[cel];rw[if_neg ac]
 congr 3
 omega⟩
abbrev X7:CT:=C0 Oy kQ
theorem xT:CO X7:=CX0 (TX trivial ah) Xp
end
end Go.Proofs.YtldmjbgplgoedaaGreatDoor
namespace Go.Proofs.YtldmjbgplgoedaaGreatDoor
noncomputable section
open Go.RowKit U
theorem wL {w k:Nat} (p:1<=w) (q:w<=32) (r:1<=k) (s:k<=32):w*k<=1024/\2*w*(2*k)=4*(w*k)/\1<=w*k:=by
 refine⟨?_,?_,Nat.mul_pos p r⟩
 .have:=Nat.mul_le_mul q s;omega
 .rw[Nat.mul_assoc,Nat.mul_left_comm w 2 k,<-Nat.mul_assoc]
def dp (J:ae):Prop:=cI J/\(J 1).Z % 4=0
def dP (J:ae):ae :=
 let w:=(J 0).Z.toNat;let h:=(J 1).Z.toNat / 2;let p:=(J 5).Z.toNat
 [.i w,.i h,.l (w*h) (rz (A1 (J 2).G (p*w) (2*w) w)),.l (w / 2*(h / 2)) (rz (A1 (J 3).G (p*(w / 2)) w (w / 2))),.l (w / 2*(h / 2)) (rz (A1 (J 4).G (p*(w / 2)) w (w / 2))),.i 0]
abbrev OZ:SP:=mkS ⟨[.sA sFF,aD 0 0],[]⟩ 97 Tryz.f97 [.tX (.sA sFF),aj 0 1] [] [] [qV,X3]
theorem Eo J R:TR OZ J R (let x0:ae:=[.i (J 0).Z,.i (J 1).Z,.l (J 2).N (J 2).G,.l (J 3).N (J 3).G,.l (J 4).N (J 4).G];(cI x0)/\let x1:ae:=gL x0;(((Int.tmod (J 1).Z 4)!=0)->False)/\(((Int.tmod (J 1).Z 4)!=0)=false->(((J 5).Z !=0)->(((J 5).Z !=1)->False)/\(((J 5).Z !=1)=false->let x2:ae:=[.l (J 2).N (J 2).G,.i ((J 5).Z*(J 0).Z),.i (2*(J 0).Z),.i (J 0).Z,.i (Int.tdiv (J 1).Z 2)];(qU x2)/\let x3:ae:=qW x2;(1<=(Int.tdiv (Int.tdiv (J 1).Z 2) 2))/\let x4:ae:=[.l (J 3).N (J 3).G,.i (Int.tdiv ((J 5).Z*(J 0).Z) 2),.i (J 0).Z,.i (Int.tdiv (J 0).Z 2),.i (Int.tdiv (Int.tdiv (J 1).Z 2) 2)];(qU x4)/\let x5:ae:=qW x4;(1<=(Int.tdiv (Int.tdiv (J 1).Z 2) 2))/\let x6:ae:=[.l (J 4).N (J 4).G,.i (Int.tdiv ((J 5).Z*(J 0).Z) 2),.i (J 0).Z,.i (Int.tdiv (J 0).Z 2),.i (Int.tdiv (Int.tdiv (J 1).Z 2) 2)];(qU x6)/\let x7:ae:=qW x6;(2<=(Int.tdiv (J 1).Z 2))/\((x5 0).N<=1024)/\((x7 0).N<=1024)/\R [.i 0,.i (J 0).Z,.i (Int.tdiv (J 1).Z 2),.l (x3 0).N (x3 0).G,.l (x5 0).N (x5 0).G,.l (x7 0).N (x7 0).G,.i 0]))/\(((J 5).Z !=0)=false-> let x2:ae:=[.l (J 2).N (J 2).G,.i ((J 5).Z*(J 0).Z),.i (2*(J 0).Z),.i (J 0).Z,.i (Int.tdiv (J 1).Z 2)];(qU x2)/\let x3:ae:=qW x2;(1<=(Int.tdiv (Int.tdiv (J 1).Z 2) 2))/\let x4:ae:=[.l (J 3).N (J 3).G,.i (Int.tdiv ((J 5).Z*(J 0).Z) 2),.i (J 0).Z,.i (Int.tdiv (J 0).Z 2),.i (Int.tdiv (Int.tdiv (J 1).Z 2) 2)];(qU x4)/\let x5:ae:=qW x4;(1<=(Int.tdiv (Int.tdiv (J 1).Z 2) 2))/\let x6:ae:=[.l (J 4).N (J 4).G,.i (Int.tdiv ((J 5).Z*(J 0).Z) 2),.i (J 0).Z,.i (Int.tdiv (J 0).Z 2),.i (Int.tdiv (Int.tdiv (J 1).Z 2) 2)];(qU x6)/\let x7:ae:=qW x6;(2<=(Int.tdiv (J 1).Z 2))/\((x5 0).N<=1024)/\((x7 0).N<=1024)/\R [.i 0,.i (J 0).Z,.i (Int.tdiv (J 1).Z 2),.l (x3 0).N (x3 0).G,.l (x5 0).N (x5 0).G,.l (x7 0).N (x7 0).G,.i 0]))):=af
theorem Vg:PF1 OZ dp dP:=λJ b1 b2 hp=>⟨by
 rw[Eo];obtain⟨-,c,-⟩:=b1;have ca:0<=(J 5).Z:=c.1;have cb:(J 5).Z<=1:=c.2;clear c;obtain⟨hp,h4⟩:=hp;unfold cI at hp;simp only[cI,gL,dP,qU,qW,bx,bE,Z_i,X_b,F_f,O_s,N_s,N_l,G_l,hp];generalize (J 0).Z=W at *;generalize (J 1).Z=H at *;generalize (J 2).N=a at *;generalize (J 2).G=y at *;generalize (J 3).N=b at *;generalize (J 3).G=u at *;generalize (J 4).N=c at *;generalize (J 4).G=v at *;generalize (J 5).Z=p at *;obtain⟨w,k,rfl,rfl,i1,i2,i3,i4,rfl,rfl,rfl⟩:=dN hp;obtain⟨j,rfl⟩:∃j,k=2*j:=⟨k / 2,ac⟩;obtain⟨p,rfl⟩:=Int.eq_ofNat_of_zero_le ca;obtain⟨m1,m2,m3⟩:=wL i1 i2 i3 i4;simp only[ul,jl,mH,YC,Yt,K6,En,GI,De,sZ,H7,G0,sF,h2_,ph2,ap,true_and];have x1:2*w*(2*j)=2*(w*(2*j)):=by rw[Nat.mul_assoc]
 have x2:w*(2*j)=2*(w*j):=by rw[Nat.mul_left_comm]
 have a1:=dB (W:=2*w) (H:=2*(2*j)) (x0:=0) (y0:=p) (s:=2) (w:=2*w) (h:=2*j) ac ac ac;have a2:=dB (W:=w) (H:=2*j) (x0:=0) (y0:=p) (s:=2) (w:=w) (h:=j) ac ac ac;rw[Nat.add_zero]at a1 a2;have fin:∀R:Prop,R->R:=λ_ h=>h;refine br_ (λq=>?_) λ_=>br_ (λq=>br_ (λq'=>?_) λ_=>?_) λq=>?_
 .exfalso
  rw[show 2*(2*j) % 4=0 by omega]at q
  simp at q
 .have q:=cS q;have q':=cS q';omega
 all_goals refine⟨⟨a1,ac⟩,ac,⟨a2,ac⟩,ac,⟨a2,ac⟩,ac,ac,ac,rfl,⟨⟨rfl,rfl,aL rfl λ_ _=>rfl,aL rfl λ_ _=>rfl,aL rfl λ_ _=>rfl,ah⟩,rfl,ah⟩,ah⟩⟩
abbrev qX:CT:=C1 OZ dp dP
theorem dh:CO qX:=CX1 (TX ⟨dd,xM,ah⟩ ah) Vg
def Yi (J:ae):Prop:=cI J/\(J 0).Z % 16=0/\(J 1).Z % 16=0/\(J 5).Z<(J 0).Z / 16/\(J 6).Z<(J 1).Z / 16
def QJ (J:ae):ae :=
 let w:=(J 0).Z.toNat;let x:=(J 5).Z.toNat;let y:=(J 6).Z.toNat
 [.i 16,.i 16,.l 256 (rz (A1 (J 2).G (16*y*w+16*x) w 16)),.l 64 (rz (A1 (J 3).G (8*y*(w / 2)+8*x) (w / 2) 8)),.l 64 (rz (A1 (J 4).G (8*y*(w / 2)+8*x) (w / 2) 8)),.i 0]
abbrev MN:SP:=mkS ⟨[.sA bJ,aD 0 0],[]⟩ 175 Tryz.f175 [.tX (.sA sFF),aj 0 3,aj 0 3] [] [] [qV,X3] [(aw 168 Tryz.f168),(aw 255 Tryz.f255),(aw 170 Tryz.f170)]
theorem H0 J R:TR MN J R (let x0:ae:=[.i (J 0).Z,.i (J 1).Z,.l (J 2).N (J 2).G,.l (J 3).N (J 3).G,.l (J 4).N (J 4).G];(cI x0)/\let x1:ae:=gL x0;(((Int.tmod (J 0).Z 16)==0)->(((Int.tmod (J 1).Z 16)==0)->((decide ((J 5).Z<(Int.tdiv (J 0).Z 16)))->((!(decide ((J 6).Z<(Int.tdiv (J 1).Z 16))))->False)/\((!(decide ((J 6).Z<(Int.tdiv (J 1).Z 16))))=false->let x2:ae:=[.l (J 2).N (J 2).G,.i (((16*(J 6).Z)*(J 0).Z)+(16*(J 5).Z)),.i (J 0).Z,.i 16,.i 16];(qU x2)/\let x3:ae:=qW x2;let x4:ae:=[.l (J 3).N (J 3).G,.i (((8*(J 6).Z)*(Int.tdiv (J 0).Z 2))+(8*(J 5).Z)),.i (Int.tdiv (J 0).Z 2),.i 8,.i 8];(qU x4)/\let x5:ae:=qW x4;let x6:ae:=[.l (J 4).N (J 4).G,.i (((8*(J 6).Z)*(Int.tdiv (J 0).Z 2))+(8*(J 5).Z)),.i (Int.tdiv (J 0).Z 2),.i 8,.i 8];(qU x6)/\let x7:ae:=qW x6;(256<=(x3 0).N)/\((x3 0).N<=256)/\(64<=(x5 0).N)/\((x5 0).N<=64)/\(64<=(x7 0).N)/\((x7 0).N<=64)/\R [.i 0,.i 16,.i 16,.l (x3 0).N (x3 0).G,.l (x5 0).N (x5 0).G,.l (x7 0).N (x7 0).G,.i 0]))/\((decide ((J 5).Z<(Int.tdiv (J 0).Z 16)))=false->False))/\(((Int.tmod (J 1).Z 16)==0)=false->False))/\(((Int.tmod (J 0).Z 16)==0)=false-> False)):=af
theorem Ub:PF1 MN Yi QJ:=λJ b1 b2 hp=>⟨by
 rw[H0];obtain⟨-,c,d,-⟩:=b1;have ca:0<=(J 5).Z:=c.1;have cb:(J 5).Z<=3:=c.2;have da:0<=(J 6).Z:=d.1;have db:(J 6).Z<=3:=d.2;clear c d;obtain⟨hp,h1,h2,h3,h4⟩:=hp;unfold cI at hp;simp only[cI,gL,QJ,qU,qW,bx,bE,Z_i,X_b,F_f,O_s,N_s,N_l,G_l,hp];generalize (J 0).Z=W at *;generalize (J 1).Z=H at *;generalize (J 2).N=a at *;generalize (J 2).G=f at *;generalize (J 3).N=b at *;generalize (J 3).G=u at *;generalize (J 4).N=c at *;generalize (J 4).G=v at *;generalize (J 5).Z=x at *;generalize (J 6).Z=y at *;obtain⟨w,k,rfl,rfl,i1,i2,i3,i4,rfl,rfl,rfl⟩:=dN hp;obtain⟨w,rfl⟩:∃j,w=8*j:=⟨w / 8,ac⟩;obtain⟨k,rfl⟩:∃j,k=8*j:=⟨k / 8,ac⟩;obtain⟨x,rfl⟩:=Int.eq_ofNat_of_zero_le ca;obtain⟨y,rfl⟩:=Int.eq_ofNat_of_zero_le da;simp only[ul,jl,mH,YC,Yt,K6,En,GI,De,sZ,H7,G0,sF,h2_,ph2,ap,true_and];have a1:=dB (W:=2*(8*w)) (H:=2*(8*k)) (x0:=16*x) (y0:=16*y) (s:=1) (w:=16) (h:=16) ac ac ac;have a2:=dB (W:=8*w) (H:=8*k) (x0:=8*x) (y0:=8*y) (s:=1) (w:=8) (h:=8) ac ac ac;rw[Nat.one_mul]at a1 a2;have l1:=sJ (i:=16*y) (j:=16*x) (w:=2*(8*w)) (h:=64) ac ac;have l2:=sJ (i:=8*y) (j:=8*x) (w:=8*w) (h:=32) ac ac;refine br_ (λ_=>br_ (λ_=>br_ (λ_=>br_ (λq=>?_) λ_=>?_) λq=>?_) λq=>?_) λq=>?_
 .exfalso
  rw[decide_eq_true ac]at q;cases q
 .refine⟨⟨a1,afH⟩,⟨a2,afH⟩,⟨a2,afH⟩,afH,afH,afH,afH,afH,afH,rfl,⟨⟨rfl,rfl,aL rfl λ_ _=>rfl,aL rfl λ_ _=>rfl,aL rfl λ_ _=>rfl,ah⟩,rfl,ah⟩,ah⟩
 .have q:=aQ q;omega
 .have q:=dn q;omega
 .have q:=dn q;omega⟩
abbrev adV:CT:=C1 MN Yi QJ
theorem Sn:CO adV:=CX1 (TX ⟨dd,xM,ah⟩ (FK (FK (FK ah)))) Ub
def SD (J:ae):Prop:=cI J/\(J 0).Z % 16=0/\(J 1).Z % 16=0/\(J 5).Z<(J 0).Z / 16/\(J 6).Z<(J 1).Z / 16
def JC (J:ae):ae :=
 let w:=(J 0).Z.toNat;let x:=(J 5).Z.toNat;let y:=(J 6).Z.toNat
 [.i (J 0).Z,.i (J 1).Z,.l (J 2).N (rz (jK (J 2).G (J 9).G (16*y*w+16*x) w 16 16)),.l (J 3).N (rz (jK (J 3).G (J 10).G (8*y*(w / 2)+8*x) (w / 2) 8 8)),.l (J 4).N (rz (jK (J 4).G (J 11).G (8*y*(w / 2)+8*x) (w / 2) 8 8)),.i 0]
abbrev NI:SP:=mkS ⟨[.sA sFF,aD 0 0],[]⟩ 92 Tryz.f92 [.tX (.sA sFF),aj 0 3,aj 0 3,.tX (.sA bJ)] [] [] [qV,Rb,QB] [(aw 168 Tryz.f168),(aw 255 Tryz.f255),(aw 169 Tryz.f169),(aw 170 Tryz.f170)]
theorem BH J R:TR NI J R (let x0:ae:=[.i (J 0).Z,.i (J 1).Z,.l (J 2).N (J 2).G,.l (J 3).N (J 3).G,.l (J 4).N (J 4).G];(cI x0)/\let x1:ae:=gL x0;(((Int.tmod (J 0).Z 16)==0)->(((Int.tmod (J 1).Z 16)==0)->((decide ((J 5).Z<(Int.tdiv (J 0).Z 16)))->((!(decide ((J 6).Z<(Int.tdiv (J 1).Z 16))))->False)/\((!(decide ((J 6).Z<(Int.tdiv (J 1).Z 16))))=false->let x2:ae:=[.i (J 7).Z,.i (J 8).Z,.l (J 9).N (J 9).G,.l (J 10).N (J 10).G,.l (J 11).N (J 11).G];(cI x2)/\let x3:ae:=gL x2;let x4:ae:=[.l (J 2).N (J 2).G];let x5:ae:=oK x4;let x6:ae:=[.l (J 3).N (J 3).G];let x7:ae:=oK x6;let x8:ae:=[.l (J 4).N (J 4).G];let x9:ae:=oK x8;let x10:ae:=[.s (x5 0).O (x5 0).N,.i (((16*(J 6).Z)*(J 0).Z)+(16*(J 5).Z)),.i (J 0).Z,.i 16,.i 16,.l (J 9).N (J 9).G,.l (x5 1).N (x5 1).G];(lM x10)/\let x11:ae:=lL x10;let x12:ae:=[.s (x7 0).O (x7 0).N,.i (((8*(J 6).Z)*(Int.tdiv (J 0).Z 2))+(8*(J 5).Z)),.i (Int.tdiv (J 0).Z 2),.i 8,.i 8,.l (J 10).N (J 10).G,.l (x7 1).N (x7 1).G];(lM x12)/\let x13:ae:=lL x12;let x14:ae:=[.s (x9 0).O (x9 0).N,.i (((8*(J 6).Z)*(Int.tdiv (J 0).Z 2))+(8*(J 5).Z)),.i (Int.tdiv (J 0).Z 2),.i 8,.i 8,.l (J 11).N (J 11).G,.l (x9 1).N (x9 1).G];(lM x14)/\let x15:ae:=lL x14;(((x5 0).O+(x5 0).N)<=(x11 0).N)/\(((x7 0).O+(x7 0).N)<=(x13 0).N)/\(((x9 0).O+(x9 0).N)<=(x15 0).N)/\((x7 0).N<=1024)/\((x9 0).N<=1024)/\R [.i 0,.i (J 0).Z,.i (J 1).Z,.l (x5 0).N (λi0=>(x11 0).G ((x5 0).O+i0)),.l (x7 0).N (λi0=>(x13 0).G ((x7 0).O+i0)),.l (x9 0).N (λi0=>(x15 0).G ((x9 0).O+i0)),.i 0]))/\((decide ((J 5).Z<(Int.tdiv (J 0).Z 16)))=false->False))/\(((Int.tmod (J 1).Z 16)==0)=false->False))/\(((Int.tmod (J 0).Z 16)==0)=false-> False)):=af
theorem TA:PF1 NI SD JC:=λJ b1 b2 hp=>⟨by
 rw[BH];obtain⟨-,c,d,⟨e,f,g,h,i,-⟩,-⟩:=b1;have ca:0<=(J 5).Z:=c.1;have cb:(J 5).Z<=3:=c.2;have da:0<=(J 6).Z:=d.1;have db:(J 6).Z<=3:=d.2;have ea:16<=(J 7).Z:=e.1;have eb:(J 7).Z<=16:=e.2;have fa:16<=(J 8).Z:=f.1;have fb:(J 8).Z<=16:=f.2;have ga:256<=(J 9).N:=g.1;have gb:(J 9).N<=256:=g.2.1;have ha:64<=(J 10).N:=h.1;have hb:(J 10).N<=64:=h.2.1;have ia:64<=(J 11).N:=i.1;have ib:(J 11).N<=64:=i.2.1;clear c d e f g h i;obtain⟨hp,h1,h2,h3,h4⟩:=hp;unfold cI at hp;have q1:(J 7).Z=((2*8:Nat):Int):=ac;have q2:(J 8).Z=((2*8:Nat):Int):=ac;have q3:(J 9).N=2*8*(2*8):=ac;have q4:(J 10).N=8*8:=ac;have q5:(J 11).N=8*8:=ac
 have hm:fmB (J 7).Z (J 8).Z (J 9).N (J 10).N (J 11).N=true:=by rw[q1,q2,q3,q4,q5];exact wP afH afH afH afH
 simp only[cI,gL,JC,oK,lM,lL,bx,bE,Z_i,X_b,F_f,O_s,N_s,N_l,G_l,hp,hm];clear hm;generalize (J 0).Z=W at *;generalize (J 1).Z=H at *;generalize (J 2).N=a at *;generalize (J 2).G=f at *;generalize (J 3).N=b at *;generalize (J 3).G=u at *;generalize (J 4).N=c at *;generalize (J 4).G=v at *;generalize (J 5).Z=x at *;generalize (J 6).Z=y at *;generalize (J 9).N=n9 at *;generalize (J 10).N=n10 at *;generalize (J 11).N=n11 at *;generalize (J 9).G=g9 at *;generalize (J 10).G=g10 at *;generalize (J 11).G=g11 at *;subst q3 q4 q5;obtain⟨w,k,rfl,rfl,i1,i2,i3,i4,rfl,rfl,rfl⟩:=dN hp;obtain⟨m1,m2,m3⟩:=wL i1 i2 i3 i4;obtain⟨w,rfl⟩:∃j,w=8*j:=⟨w / 8,ac⟩;obtain⟨k,rfl⟩:∃j,k=8*j:=⟨k / 8,ac⟩;obtain⟨x,rfl⟩:=Int.eq_ofNat_of_zero_le ca;obtain⟨y,rfl⟩:=Int.eq_ofNat_of_zero_le da;simp only[ul,jl,mH,YC,Yt,K6,En,GI,De,sZ,H7,G0,sF,h2_,ph2,ap,true_and];have a1:=dB (W:=2*(8*w)) (H:=2*(8*k)) (x0:=16*x) (y0:=16*y) (s:=1) (w:=16) (h:=16) ac ac ac;have a2:=dB (W:=8*w) (H:=8*k) (x0:=8*x) (y0:=8*y) (s:=1) (w:=8) (h:=8) ac ac ac;rw[Nat.one_mul]at a1 a2;refine br_ (λ_=>br_ (λ_=>br_ (λ_=>br_ (λq=>?_) λ_=>?_) λq=>?_) λq=>?_) λq=>?_
 .exfalso
  rw[decide_eq_true ac]at q;cases q
 .refine⟨⟨a1,afH,ac⟩,⟨a2,afH,ac⟩,⟨a2,afH,ac⟩,ac,ac,ac,ac,ac,rfl,⟨⟨rfl,rfl,aL rfl λi _=>?_,aL rfl λi _=>?_,aL rfl λi _=>?_,ah⟩,rfl,ah⟩,ah⟩
  all_goals simp only[cel,Nat.zero_add,uW,Z_i];rfl
 .have q:=aQ q;omega
 .have q:=dn q;omega
 .have q:=dn q;omega⟩
abbrev aag:CT:=C1 NI SD JC
theorem Lo:CO aag:=CX1 (TX ⟨dd,tz,pJ,ah⟩ (FK (FK (FK (FK ah))))) TA
end
end Go.Proofs.YtldmjbgplgoedaaGreatDoor
