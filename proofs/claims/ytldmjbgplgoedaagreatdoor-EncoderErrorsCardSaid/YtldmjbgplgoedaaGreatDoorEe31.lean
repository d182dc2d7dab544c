import Derived.Test.YtldmjbgplgoedaaGreatDoorEe30
set_option linter.all false
namespace Go.Proofs.YtldmjbgplgoedaaGreatDoor
noncomputable section
open Go.RowKit U
theorem X2 (v:Int) (h0:0<=v) (h1:v<=4294967295) (K i n:Nat) (hi:i<K) (B:Nat->Int):aI .and .u32 (v / pw ((K:Int)-1-i)) 1=gV B n v K (n+i):=by
 have e:pw ((K:Int)-1-i)=2 ^ (K-1-i):=by
  unfold pw;rw[show((K:Int)-1-i).toNat=K-1-i by omega]
  show((2 ^ (K-1-i):Nat):Int)=_
  simp
 have hp:(0:Int)<2 ^ (K-1-i):=Int.pow_pos ac;rw[e,zC (Int.ediv_nonneg h0 ac) (by have:=Int.ediv_le_self (2 ^ (K-1-i)) h0;omega)]
 unfold gV;rw[if_neg ac,show n+K-1-(n+i)=K-1-i by omega]
theorem pw7 (m:Nat):pw (7-Int.tmod (m:Int) 8)=2 ^ (7-m % 8):=by
 have:Int.tmod (m:Int) 8=((m % 8:Nat):Int):=rfl;unfold pw;rw[this,show(7-((m % 8:Nat):Int)).toNat=7-m % 8 by omega]
 show((2 ^ (7-m % 8):Nat):Int)=_
 simp
theorem me {B:Nat->Int} (hB:Bit B) {n i j:Nat}:∀d,j+d<=8->0<=bZ B n i (j+d)-bZ B n i j/\bZ B n i (j+d)-bZ B n i j+2 ^ (8-(j+d))<=2 ^ (8-j)
 |0,h=>by rw[Nat.add_zero,Int.sub_self,Int.zero_add];exact⟨Int.le_refl _,Int.le_refl _⟩
 |d+1,h=>by
  obtain⟨h1,h2⟩:=me hB (n:=n) (i:=i) (j:=j) d ac
  have e:(2:Int) ^ (8-(j+d))=2*2 ^ (8-(j+(d+1))):=by
   rw[show 8-(j+d)=(8-(j+(d+1)))+1 by omega,Int.pow_succ]
   omega
  have e':(2:Int) ^ (7-(j+d))=2 ^ (8-(j+(d+1))):=by rw[show 7-(j+d)=8-(j+(d+1)) by omega]
  have hp:(0:Int)<2 ^ (8-(j+(d+1))):=Int.pow_pos ac;rw[show j+(d+1)=(j+d)+1 by omega]at *
  have e0:bZ B n i (j+d+1)=bZ B n i (j+d)+(if 8*i+(j+d)<n then B (8*i+(j+d))else 0)*2 ^ (7-(j+d)):=rfl
  rw[e0,e'];rw[e]at h2
  split
  .rcases hB (8*i+(j+d))with q | q<;>rw[q]<;>constructor<;>omega
  .constructor<;>omega
theorem dO {B:Nat->Int} (hB:Bit B) {n p:Nat} (hp:p<n):aR (ch B n) p=B p:=by
 have hr:p % 8<8:=Nat.mod_lt _ ac;show jj B n (p / 8) / 2 ^ (7-p % 8) % 2=B p;obtain⟨h1,h2⟩:=me hB (n:=n) (i:=p / 8) (j:=p % 8+1) (7-p % 8) ac;rw[show p % 8+1+(7-p % 8)=8 by omega]at h1 h2
 obtain⟨a,ha⟩:=kW (B:=B) (n:=n) (i:=p / 8) (p % 8) ac
 have e1:bZ B n (p / 8) (p % 8+1)=bZ B n (p / 8) (p % 8)+B p*2 ^ (7-p % 8):=by rw[bZ,show 8*(p / 8)+p % 8=p by omega,if_pos hp]
 have e2:(2:Int) ^ (8-p % 8)=2*2 ^ (7-p % 8):=by
  rw[show 8-p % 8=(7-p % 8)+1 by omega,Int.pow_succ]
  omega
 have e3:8-(p % 8+1)=7-p % 8:=ac;rw[e1,ha,e2]at h1 h2;rw[e3]at h2;have hq:(0:Int)<2 ^ (7-p % 8):=Int.pow_pos ac;unfold jj;generalize bZ B n (p / 8) 8=x at h1 h2 ⊢;generalize (2:Int) ^ (7-p % 8)=d at *
 have e4:x=(a*2+B p)*d+(x-(a*(2*d)+B p*d)):=by rw[Int.add_mul,Int.mul_assoc];omega
 have e5:(2:Int) ^ (8-8)=1:=rfl
 have e6:x / d=a*2+B p:=by rw[e4,Int.add_comm,Int.add_mul_ediv_right _ _ (show d≠0 by omega),Int.ediv_eq_zero_of_lt ac ac,Int.zero_add]
 rw[e6];rcases hB p with q | q<;>rw[q]<;>omega
theorem sn {B B':Nat->Int} {n:Nat} (h:∀p,p<n->B p=B' p):ch B n=ch B' n:=by
 funext i
 unfold ch;rw[cU h]
def rl (n:Nat):Nat:=(n+7) / 8
def wrt (B:Nat->Int) (n:Nat):ae:=[.s 0 (rl n),.i n,.l (rl n) (ch B n)]
theorem oW {B B':Nat->Int} {n:Nat} (h:∀p,p<n->B p=B' p):wrt B n=wrt B' n:=by unfold wrt;rw[sn h]
def WrP (l:ae) (o k:Nat):Prop:=(l o).O=0/\(l o).N=(l (o+2)).N/\Packed (l (o+2)).G (aR (l (o+2)).G) (l (o+1)).Z.toNat (l (o+2)).N/\(l (o+1)).Z+k<=8000000
theorem vS {B:Nat->Int} (hB:Bit B) {n:Nat}:Packed (ch B n) (aR (ch B n)) n (rl n):=⟨rfl,λi _=>cU λp hp=>(dO hB hp).symm⟩
abbrev Cd:=List (Int × Nat)
def cdN:Cd->Nat
 |[]=>0
 |x::r=>x.2+cdN r
def cdB (B:Nat->Int) (n:Nat):Cd->Nat->Int
 |[]=>B
 |x::r=>cdB (gV B n x.1 x.2) (n+x.2) r
theorem aC:∀(a b:Cd),cdN (a++b)=cdN a+cdN b
 |[],b=>(Nat.zero_add _).symm
 |x::a,b=>by show x.2+cdN (a++b)=x.2+cdN a+cdN b;rw[aC a b];omega
theorem sB:∀(a b:Cd) {B:Nat->Int} {n:Nat},cdB B n (a++b)=cdB (cdB B n a) (n+cdN a) b
 |[],b,B,n=>rfl
 |x::a,b,B,n=>by show cdB (gV B n x.1 x.2) (n+x.2) (a++b)=_;rw[sB a b];show _=cdB (cdB (gV B n x.1 x.2) (n+x.2) a) (n+(x.2+cdN a)) b;rw[Nat.add_assoc]
theorem d8:∀ {c:Cd} {B:Nat->Int} {n:Nat},Bit B->Bit (cdB B n c)
 |[],_,_,h=>h
 |_::c,_,_,h=>d8 (c:=c) (fP h)
theorem kE:∀ {c:Cd} {B B':Nat->Int} {n:Nat},(∀p,p<n->B p=B' p)->∀p,p<n+cdN c->cdB B n c p=cdB B' n c p
 |[],_,_,_,h,p,hp=>h p hp
 |x::c,B,B',n,h,p,hp=>by
  refine kE (c:=c) (B:=gV B n x.1 x.2) (B':=gV B' n x.1 x.2) (n:=n+x.2) (λq hq=>?_) p (by have:cdN (x::c)=x.2+cdN c:=rfl;omega)
  unfold gV
  split
  .exact h q (by assumption)
  .rfl
def wrC (B:Nat->Int) (n:Nat) (c:Cd):ae:=wrt (cdB B n c) (n+cdN c)
theorem pY {c:Cd} {B B':Nat->Int} {n:Nat} (h:∀p,p<n->B p=B' p):wrC B n c=wrC B' n c:=oW (kE h)
theorem Eu {c:Cd} {B:Nat->Int} (hB:Bit B) {n:Nat}:wrC (aR (ch B n)) n c=wrC B n c:=pY λ_ hp=>dO hB hp
theorem M4 {B:Nat->Int} (hB:Bit B) {n:Nat} {a b:Cd}:wrC (aR (ch (cdB B n a) (n+cdN a))) (n+cdN a) b=wrC B n (a++b):=by rw[Eu (d8 hB)];unfold wrC;rw[sB,aC,Nat.add_assoc]
def wrA (l:ae) (o:Nat) (c:Cd):ae:=wrC (aR (l (o+2)).G) (l (o+1)).Z.toNat c
theorem de:∀(o:Nat) (l:ae) (k:Nat),(tls o l) k=l (o+k)
 |0,l,k=>by rw[Nat.zero_add];rfl
 |o+1,l,k=>by
  rw[show o+1+k=(o+k)+1 by omega]
  exact de o (tl l) k
theorem rK {l:ae} {o n:Nat} {B:Nat->Int} {a b:Cd} (hB:Bit B) (h:pre 3 (tls o l)=wrC B n a):wrA l o b=wrC B n (a++b):=by
 have h1:l (o+1)=(wrC B n a) 1:=by rw[<-h,<-de];rfl
 have h2:l (o+2)=(wrC B n a) 2:=by rw[<-h,<-de];rfl
 unfold wrA;rw[h1,h2];exact M4 hB
theorem yM {l:ae} {o n k:Nat} {B:Nat->Int} {a:Cd} (hB:Bit B) (h:pre 3 (tls o l)=wrC B n a) (hm:n+cdN a+k<=8000000):WrP l o k:=by
 have h0:l o=(wrC B n a) 0:=by rw[<-h,show o=o+0 from rfl,<-de];rfl
 have h1:l (o+1)=(wrC B n a) 1:=by rw[<-h,<-de];rfl
 have h2:l (o+2)=(wrC B n a) 2:=by rw[<-h,<-de];rfl
 unfold WrP;rw[h0,h1,h2];refine⟨rfl,rfl,vS (d8 hB),?_⟩;show((n+cdN a:Nat):Int)+k<=8000000;omega
theorem WrP.less {l:ae} {o k m:Nat} (h:WrP l o m) (hk:k<=m):WrP l o k:=⟨h.1,h.2.1,h.2.2.1,by have:=h.2.2.2;omega⟩
theorem d9:Bit λ_=>0:=λ_=>.inl rfl
def jA (J:ae):Prop:=(J 0).Z / pw (J 1).Z=0/\WrP J 2 (J 1).Z.toNat
def jc (J:ae):ae:=.i 0::wrA J 2 [((J 0).Z,(J 1).Z.toNat)]
abbrev Nh:SP:=mkS ⟨[aD 0 0],[.run 349 HP,.dead,.dyn 5 0 0 1000000 0 g0 false]⟩ 182 Tryz.f182 [tXO (.nP 0 0),tXO (.nI .u32 0 4294967295 0),aj 0 32] [.run 349 oI,.dyn 5 0 0 1000000 0 g0 false] [(6,.head ⟨[(0,tXO (.nP 0 0)),(1,tXO (.nI .u32 0 4294967295 0)),(2,aj 0 32),(23,aj 0 32),(24,aj 0 32)],[.run 349 HP,.dead,.dyn 5 0 0 1000000 0 g0 false],[1]⟩)] [] [] (aj 0 0) [1]
theorem CJ J R:TR Nh J R (((((J 0).Z / (pw (J 1).Z))!=0)->
 False) /\
((((J 0).Z / (pw (J 1).Z))!=0)=false ->
 ∃(I0:ae->Prop) (μ0:ae->Nat),I0 [.i (J 0).Z,.i (J 1).Z,.i (J 1).Z,.i 0,.s (J 2).O (J 2).N,.i (J 3).Z,.l (J 4).N (J 4).G]/\∀l0,I0 l0 ->
  ((decide ((l0 3).Z<(l0 2).Z))->
   (((Int.tmod (l0 5).Z 8)==0)->
    (1<=1)/\((l0 4).O=0)/\((l0 4).N=(l0 6).N)/\(0<=(((l0 1).Z-1)-(l0 3).Z))/\((((l0 1).Z-1)-(l0 3).Z)<=63)/\((Int.tdiv (l0 5).Z 8)<(((l0 4).N+1:Nat):Int))/\((0+(Int.tdiv (l0 5).Z 8).toNat)<((l0 4).N+1))/\((Int.tdiv (l0 5).Z 8)<(((l0 4).N+1:Nat):Int))/\((0+(Int.tdiv (l0 5).Z 8).toNat)<((l0 4).N+1))/\(((l0 3).Z+1)<=32)/\(((l0 4).N+1)<=1000000)/\(((l0 5).Z+1)<=8000000)/\(((l0 4).N+1)<=1000000)/\let k0:=aE (l0 4).N (l0 6).G (λi0=>[.i 0]);Ag I0 μ0 l0 [.i (l0 0).Z,.i (l0 1).Z,.i (l0 2).Z,.i ((l0 3).Z+1),.s 0 ((l0 4).N+1),.i ((l0 5).Z+1),.l ((l0 4).N+1) (upd k0 (0+(Int.tdiv (l0 5).Z 8).toNat) [.i (aI .or .u8 ((k0 (0+(Int.tdiv (l0 5).Z 8).toNat)) 0).Z ((aI .and .u32 ((l0 0).Z / (pw (((l0 1).Z-1)-(l0 3).Z))) 1)*(pw (7-(Int.tmod (l0 5).Z 8)))))])]) /\
   (((Int.tmod (l0 5).Z 8)==0)=false ->
    (0<=(((l0 1).Z-1)-(l0 3).Z))/\((((l0 1).Z-1)-(l0 3).Z)<=63)/\((Int.tdiv (l0 5).Z 8)<(((l0 4).N:Nat):Int))/\(((l0 4).O+(Int.tdiv (l0 5).Z 8).toNat)<(l0 6).N)/\((Int.tdiv (l0 5).Z 8)<(((l0 4).N:Nat):Int))/\(((l0 4).O+(Int.tdiv (l0 5).Z 8).toNat)<(l0 6).N)/\(((l0 3).Z+1)<=32)/\(((l0 5).Z+1)<=8000000)/\let k0:=(l0 4).O+(Int.tdiv (l0 5).Z 8).toNat;Ag I0 μ0 l0 [.i (l0 0).Z,.i (l0 1).Z,.i (l0 2).Z,.i ((l0 3).Z+1),.s (l0 4).O (l0 4).N,.i ((l0 5).Z+1),.l (l0 6).N (upd (l0 6).G k0 [.i (aI .or .u8 (((l0 6).G k0) 0).Z ((aI .and .u32 ((l0 0).Z / (pw (((l0 1).Z-1)-(l0 3).Z))) 1)*(pw (7-(Int.tmod (l0 5).Z 8)))))])])) /\
  ((decide ((l0 3).Z<(l0 2).Z))=false -> R [.i 0,.i 0,.s (l0 4).O (l0 4).N,.i (l0 5).Z,.l (l0 6).N (l0 6).G]))):=af
theorem UH:PF1 Nh jA jc:=λJ b1 b2 hp=>⟨by
 rw[CJ];obtain⟨-,⟨v1,v2⟩,⟨k1,k2⟩,-⟩:=b1;obtain⟨⟨-,⟨n1,n2⟩,-⟩,-,-⟩:=b2;obtain⟨hv,ho,hN,hP,hnk⟩:=hp;have v1:0<=(J 0).Z:=v1;have v2:(J 0).Z<=4294967295:=v2;have k1:0<=(J 1).Z:=k1;have k2:(J 1).Z<=32:=k2;have n1:0<=(J 3).Z:=n1;unfold jc wrA;generalize (J 0).Z=v at *;generalize (J 2).O=o at *;generalize (J 2).N=N at *;generalize (J 4).N=len at *;generalize (J 4).G=g at *;generalize (J 1).Z=kz at *;generalize (J 3).Z=nz at *;obtain⟨k,rfl⟩:=Int.eq_ofNat_of_zero_le (show 0<=kz by omega)
 obtain⟨n,rfl⟩:=Int.eq_ofNat_of_zero_le n1;subst ho;subst hN;have hP:Packed g (aR g) n N:=hP;rw[ap]at hnk;refine⟨λh=>?_,λ_=>?_⟩
 .rw[hv]at h;cases h
 have hB:=fP (bw g) (n:=n) (v:=v) (k:=k);refine⟨λl=>∃i:Nat,i<=k/\∃len h,Packed h (gV (aR g) n v k) (n+i) len/\l=[.i v,.i k,.i k,.i i,.s 0 len,.i ((n+i:Nat):Int),.l len h],λl=>(k-(l 3).Z).toNat,⟨0,Nat.zero_le _,_,g,hP.agree λp hp=>by unfold gV;rw[if_pos hp],rfl⟩,?_⟩
 rintro _ ⟨i,hi,len,h,hh,rfl⟩;simp only[bx,bE,Z_i,N_s,O_s,N_l,G_l];have hl:=hh.1;have tm:Int.tmod ((n+i:Nat):Int) 8=(((n+i) % 8:Nat):Int):=rfl;have td:Int.tdiv ((n+i:Nat):Int) 8=(((n+i) / 8:Nat):Int):=rfl;refine⟨λh1=>⟨λh2=>?_,λh2=>?_⟩,λh1=>?_⟩
 .have h1:=of_decide_eq_true h1;have h2:(((n+i) % 8:Nat):Int)=0:=by rw[tm]at h2;exact eq_of_beq h2
  have hx:=X2 v v1 v2 k i n ac (aR g);refine⟨afH,ah,ah,ac,ac,?_,?_,?_,?_,ac,ac,ac,ac,⟨i+1,ac,len+1,_,?_,rfl⟩,?_⟩
  all_goals first
   |(rw[td];omega)
   |(simp only[bx,bE,Z_i];omega)
   |skip
  rw[td,Int.toNat_natCast,Nat.zero_add,hx];exact hh.more hB ac (by rw[pw7])
 .have h1:=of_decide_eq_true h1;have h2:(((n+i) % 8:Nat):Int)≠0:=by rw[tm]at h2;exact λe=>by rw[e]at h2;cases h2
  have hx:=X2 v v1 v2 k i n ac (aR g);refine⟨ac,ac,?_,?_,?_,?_,ac,ac,⟨i+1,ac,len,_,?_,rfl⟩,?_⟩
  all_goals first
   |(rw[td];omega)
   |(simp only[bx,bE,Z_i];omega)
   |skip
  rw[td,Int.toNat_natCast,Nat.zero_add,hx];exact hh.add hB ac (by rw[pw7])
 .have h1:=of_decide_eq_false h1;have:i=k:=ac;subst this;exact⟨rfl,⟨rfl,ah⟩,⟨⟨rfl,hl⟩,rfl,ah⟩,ah,pI (l:=[]) (l':=[]) hl λj hj=>hh.2 j hj,ah⟩⟩
abbrev yc:CT:=C1 Nh jA jc
theorem gx:CO yc:=CX1 (TX trivial ah) UH
def e9 (J:ae):Bool:=decide ((J 1).Z=0)
def iy (J:ae):Prop:=(J 0).Z / pw (J 1).Z=0
def g8 (J:ae):Prop:=(J 0).Z / pw (J 1).Z=0
def iw (_:ae):ae:=[.i 0,.i 0]
def fK (J:ae):ae:=.i 0::wrC (λ_=>0) 0 [((J 0).Z,(J 1).Z.toNat)]
abbrev vG:List AT:=[tXO (.nP 0 0),tXO (.nI .u32 0 4294967295 0),aj 0 32]
abbrev HO:List AB:=[.run 349 uX]
abbrev E4:Wy:=⟨[aD 0 0],[.run 349 uX]⟩
abbrev HN:Wy:=⟨[aD 0 0],[.run 349 [.c (.nD 1 0 0 1000000 0 0),am 0 8000000],.dyn 5 0 0 1000000 0 g0 false]⟩
noncomputable abbrev Jx:FI:=⟨182,Tryz.f182,[(6,.heads [⟨[(0,tXO (.nP 0 0)),(1,tXO (.nI .u32 0 4294967295 0)),(2,aj 0 32),(23,aj 0 32),(24,aj 0 0)],[.run 349 uX],[]⟩,⟨[(0,tXO (.nP 0 0)),(1,tXO (.nI .u32 0 4294967295 0)),(2,aj 0 32),(23,aj 0 32),(24,aj 1 32)],[.run 349 oI,.dyn 5 0 0 1000000 0 g0 false],[]⟩])],aj 0 0,[]⟩
abbrev yW:List CT:=[]
noncomputable abbrev yH:List FI:=[]
theorem aaE:TOk Tryz.prog KX GX yW yH:=TX trivial ah
def Mm (J:ae):T:=lx [E4,HN] (gR Tryz.prog ⟨KX,GX,MX,inl Tryz.prog KX GX MX yW yH 8⟩ Jx (au vG J) (an HO (tls (aG vG) J)))
theorem wQ (J:ae) (R:ae->Prop):(Mm J).sat (onA R)=(((((J 0).Z / (pw (J 1).Z))!=0)->
 False) /\
((((J 0).Z / (pw (J 1).Z))!=0)=false ->
 ∃(I0:ae->Prop) (μ0:ae->Nat),I0 [.i 0,.i (J 0).Z,.i (J 1).Z,.i (J 1).Z,.i 0,.i (J 2).Z]/\∀l0,I0 l0 ->
  ((decide ((l0 0).Z=0))->
   ((decide ((l0 4).Z<(l0 3).Z))->
    (1<=1)/\(0<=(((l0 2).Z-1)-(l0 4).Z))/\((((l0 2).Z-1)-(l0 4).Z)<=63)/\(0<1)/\(0<1)/\Ag I0 μ0 l0 [.i 1,.i (l0 1).Z,.i (l0 2).Z,.i (l0 3).Z,.i 1,.s 0 1,.i 1,.l 1 (upd (λi0=>[.i 0]) 0 [.i (aI .or .u8 0 ((aI .and .u32 ((l0 1).Z / (pw (((l0 2).Z-1)-(l0 4).Z))) 1)*128))])]) /\
   ((decide ((l0 4).Z<(l0 3).Z))=false ->
    R [.i 0,.i 0,.i (l0 5).Z])) /\
  ((decide ((l0 0).Z=0))=false ->
   ((decide ((l0 0).Z=1))->
    ((decide ((l0 4).Z<(l0 3).Z))->
     (((Int.tmod (l0 6).Z 8)==0)->
      (1<=1)/\((l0 5).O=0)/\((l0 5).N=(l0 7).N)/\(0<=(((l0 2).Z-1)-(l0 4).Z))/\((((l0 2).Z-1)-(l0 4).Z)<=63)/\((Int.tdiv (l0 6).Z 8)<(((l0 5).N+1:Nat):Int))/\((0+(Int.tdiv (l0 6).Z 8).toNat)<((l0 5).N+1))/\((Int.tdiv (l0 6).Z 8)<(((l0 5).N+1:Nat):Int))/\((0+(Int.tdiv (l0 6).Z 8).toNat)<((l0 5).N+1))/\(((l0 4).Z+1)<=32)/\(((l0 5).N+1)<=1000000)/\(((l0 6).Z+1)<=8000000)/\(((l0 5).N+1)<=1000000)/\let k0:=aE (l0 5).N (l0 7).G (λi0=>[.i 0]);Ag I0 μ0 l0 [.i 1,.i (l0 1).Z,.i (l0 2).Z,.i (l0 3).Z,.i ((l0 4).Z+1),.s 0 ((l0 5).N+1),.i ((l0 6).Z+1),.l ((l0 5).N+1) (upd k0 (0+(Int.tdiv (l0 6).Z 8).toNat) [.i (aI .or .u8 ((k0 (0+(Int.tdiv (l0 6).Z 8).toNat)) 0).Z ((aI .and .u32 ((l0 1).Z / (pw (((l0 2).Z-1)-(l0 4).Z))) 1)*(pw (7-(Int.tmod (l0 6).Z 8)))))])]) /\
     (((Int.tmod (l0 6).Z 8)==0)=false ->
      (0<=(((l0 2).Z-1)-(l0 4).Z))/\((((l0 2).Z-1)-(l0 4).Z)<=63)/\((Int.tdiv (l0 6).Z 8)<(((l0 5).N:Nat):Int))/\(((l0 5).O+(Int.tdiv (l0 6).Z 8).toNat)<(l0 7).N)/\((Int.tdiv (l0 6).Z 8)<(((l0 5).N:Nat):Int))/\(((l0 5).O+(Int.tdiv (l0 6).Z 8).toNat)<(l0 7).N)/\(((l0 4).Z+1)<=32)/\(((l0 6).Z+1)<=8000000)/\let k0:=(l0 5).O+(Int.tdiv (l0 6).Z 8).toNat;Ag I0 μ0 l0 [.i 1,.i (l0 1).Z,.i (l0 2).Z,.i (l0 3).Z,.i ((l0 4).Z+1),.s (l0 5).O (l0 5).N,.i ((l0 6).Z+1),.l (l0 7).N (upd (l0 7).G k0 [.i (aI .or .u8 (((l0 7).G k0) 0).Z ((aI .and .u32 ((l0 1).Z / (pw (((l0 2).Z-1)-(l0 4).Z))) 1)*(pw (7-(Int.tmod (l0 6).Z 8)))))])])) /\
    ((decide ((l0 4).Z<(l0 3).Z))=false ->
     R [.i 1,.i 0,.s (l0 5).O (l0 5).N,.i (l0 6).Z,.l (l0 7).N (l0 7).G])) /\
   ((decide ((l0 0).Z=1))=false -> False)))):=af
theorem LW:∀J,bTs KX 1 (au vG J)->bBs KX 1 (an HO (tls (aG vG) J))->(e9 J=true->iy J)->(e9 J=false->g8 J)->Sa (Mm J) (λl=>(e9 J=true/\(hd l).Z=0/\agW KX E4 (tl l) (iw J))\/(e9 J=false/\(hd l).Z=1/\agW KX HN (tl l) (fK J))):=λJ b1 b2 hp1 hp2=>⟨by
 rw[wQ];obtain⟨-,⟨v1,v2⟩,⟨k1,k2⟩,-⟩:=b1;obtain⟨⟨-,⟨n1,n2⟩,-⟩,-⟩:=b2
 have hv:(J 0).Z / pw (J 1).Z=0:=by
  cases e:e9 J with
  |true=>exact hp1 e
  |false=>exact hp2 e
 have v1:0<=(J 0).Z:=v1;have v2:(J 0).Z<=4294967295:=v2;have k1:0<=(J 1).Z:=k1;have k2:(J 1).Z<=32:=k2;have n1:0<=(J 2).Z:=n1;have n2:(J 2).Z<=0:=n2;clear hp1 hp2;unfold e9 fK;generalize (J 0).Z=v at *;generalize (J 1).Z=kz at *;generalize (J 2).Z=nz at *;obtain⟨k,rfl⟩:=Int.eq_ofNat_of_zero_le (show 0<=kz by omega)
 have:nz=0:=ac;subst this;refine⟨λh=>?_,λ_=>?_⟩
 .rw[hv]at h;cases h
 have hB:Bit (gV (λ_=>0) 0 v k):=fP λ_=>.inl rfl;refine⟨λl=>l=[.i 0,.i v,.i k,.i k,.i 0,.i 0]\/∃i:Nat,1<=i/\i<=k/\∃len h,Packed h (gV (λ_=>0) 0 v k) i len/\l=[.i 1,.i v,.i k,.i k,.i i,.s 0 len,.i i,.l len h],λl=>(k-(l 4).Z).toNat,.inl rfl,?_⟩;rintro _ (rfl | ⟨i,hi1,hi,len,h,hh,rfl⟩)
 .simp only[bx,bE,Z_i];refine⟨λ_=>⟨λhk=>?_,λhk=>?_⟩,λh=>?_⟩
  .have hk:=of_decide_eq_true hk;refine⟨afH,ac,ac,afH,afH,.inr ⟨1,ac,ac,1,_,?_,rfl⟩,?_⟩
   .refine⟨rfl,λj hj=>?_⟩;have:j=0:=ac;subst this;have hx:=X2 v v1 v2 k 0 0 ac (λ_=>0);have ha:=ob hB (n:=0);rw[tM (by rfl)]at ha
    have e0:((k:Int)-1-((0:Nat):Int))=(k:Int)-1-0:=rfl;rw[e0]at hx;unfold upd;rw[if_pos rfl,bx,Z_i,hx];exact ha
   .simp only[bx,bE,Z_i];omega
  .have hk:=of_decide_eq_false hk;exact .inl ⟨decide_eq_true ac,rfl,⟨rfl,ah⟩,⟨rfl,ah⟩,ah⟩
  .exact absurd (of_decide_eq_false h) (by simp)
 simp only[bx,bE,Z_i,N_s,O_s,N_l,G_l];have hl:=hh.1;have tm:Int.tmod (i:Int) 8=((i % 8:Nat):Int):=rfl;have td:Int.tdiv (i:Int) 8=((i / 8:Nat):Int):=rfl;have hx:=λhik=>X2 v v1 v2 k i 0 hik (λ_=>0);rw[Nat.zero_add]at hx;refine⟨λh=>absurd (of_decide_eq_true h) afH,λ_=>⟨λ_=>⟨λh1=>⟨λh2=>?_,λh2=>?_⟩,λh1=>?_⟩,λh=>absurd (of_decide_eq_false h) (by simp)⟩⟩
 .have h1:=of_decide_eq_true h1;have h2:((i % 8:Nat):Int)=0:=by rw[tm]at h2;exact eq_of_beq h2
  have hx:=hx ac;refine⟨afH,ah,ah,ac,ac,?_,?_,?_,?_,ac,ac,ac,ac,.inr ⟨i+1,ac,ac,len+1,_,?_,rfl⟩,?_⟩
  all_goals first
   |(rw[td];omega)
   |(simp only[bx,bE,Z_i];omega)
   |skip
  rw[td,Int.toNat_natCast,Nat.zero_add,hx];exact hh.more hB ac (by rw[pw7])
 .have h1:=of_decide_eq_true h1;have h2:((i % 8:Nat):Int)≠0:=by rw[tm]at h2;exact λe=>by rw[e]at h2;cases h2
  have hx:=hx ac;refine⟨ac,ac,?_,?_,?_,?_,ac,ac,.inr ⟨i+1,ac,ac,len,_,?_,rfl⟩,?_⟩
  all_goals first
   |(rw[td];omega)
   |(simp only[bx,bE,Z_i];omega)
   |skip
  rw[td,Int.toNat_natCast,Nat.zero_add,hx];exact hh.add hB ac (by rw[pw7])
 .have h1:=of_decide_eq_false h1;have:i=k:=ac;subst this;refine .inr ⟨decide_eq_false ac,rfl,⟨rfl,ah⟩,?_⟩
  have e:wrC (λ_=>0) 0 [(v,i)]=[.s 0 (rl i),.i i,.l (rl i) (ch (gV (λ_=>0) 0 v i) i)]:=by unfold wrC wrt;show[Lf.s 0 (rl (0+(i+0))),.i ((0+(i+0):Nat):Int),.l (rl (0+(i+0))) (ch (gV (λ_=>0) 0 v i) (0+(i+0)))]=_;rw[Nat.add_zero,Nat.zero_add]
  rw[ap,e];exact⟨⟨⟨rfl,hl⟩,rfl,ah⟩,pI (l:=[]) (l':=[]) hl λj hj=>hh.2 j hj,ah⟩⟩
abbrev vL:CT:=CB 182 vG HO e9 E4 iy iw HN g8 fK
theorem putN_ct:cV KX Tryz.prog GX vL:=abz (M:=MX) (tb:=yW) (FT:=yH) aaE 8 (fi:=Jx) (args:=vG) (mem:=HO) (B:=e9) (y1:=E4) (P1:=iy) (W1:=iw) (y2:=HN) (P2:=g8) (W2:=fK) (λ_ _=>af) af 1 (λ_=>af) λJ b1 b2 b3 b4=>by have h:=LW J b1 b2 b3 b4;unfold Mm at h;exact h
def l8T:ByteArray:=⟨((List.range 256).map λi=>UInt8.ofNat (if i=0 then 0 else Nat.log2 i+1)).toArray⟩
def lg (x:Int):Nat:=Nat.log2 x.toNat
def QP (J:ae):ae:=[.i (lg (J 0).Z+1:Nat)]
abbrev MA:SP:=mkS ⟨[aD 1 16],[]⟩ 360 Tryz.f360 [tXO (.nI .u64 1 65535 0)] [] [] [] [(aw 371 Tryz.f371),(aw 372 Tryz.f372)]
theorem Cu J R:TR MA J R (((decide (256<=(J 0).Z))->
 ((8+(yr l8T ((J 0).Z / 256)))<=16)/\R [.i 0,.i (8+(yr l8T ((J 0).Z / 256)))]) /\
((decide (256<=(J 0).Z))=false -> (1<=(0+(yr l8T (IntKind.wrap .u8 (J 0).Z))))/\((0+(yr l8T (IntKind.wrap .u8 (J 0).Z)))<=16)/\R [.i 0,.i (0+(yr l8T (IntKind.wrap .u8 (J 0).Z)))])):=af
theorem Wb:∀i:Nat,i<256->1<=i->yr l8T (i:Int)=((Nat.log2 i+1:Nat):Int):=by decide +kernel
theorem TG:PF0 MA QP:=λJ b1 b2=>⟨by
 rw[Cu];obtain⟨⟨v1,v2⟩,-⟩:=b1;have v1:1<=(J 0).Z:=v1;have v2:(J 0).Z<=65535:=v2;unfold QP lg;generalize (J 0).Z=v at *;obtain⟨x,rfl⟩:=Int.eq_ofNat_of_zero_le (show 0<=v by omega)
 rw[ap];have hx:x≠0:=ac;refine br_ (λq=>?_) λq=>?_
 .have q:=ai q;have e:((x:Int) / 256)=((x / 256:Nat):Int):=rfl;have hy:x / 256≠0:=ac;have h1:=Wb (x / 256) ac ac;have h2:=(Nat.log2_eq_iff hy).1 rfl
  have h3:Nat.log2 x=Nat.log2 (x / 256)+8:=(Nat.log2_eq_iff hx).2 (by
   rw[show Nat.log2 (x / 256)+8+1=(Nat.log2 (x / 256)+1)+8 by omega,Nat.pow_add,Nat.pow_add 2 (Nat.log2 (x / 256)+1)]
   omega)
  have h4:Nat.log2 (x / 256)<8:=(Nat.log2_lt hy).2 ac;rw[e,h1];exact⟨ac,rfl,⟨by show 8+((Nat.log2 (x / 256)+1:Nat):Int)=((Nat.log2 x+1:Nat):Int);omega,ah⟩,ah⟩
 .have q:=aQ q;have e:IntKind.wrap .u8 (x:Int)=x:=bH (k:=.u8) ⟨by simp only[low];omega,by simp only[top];omega⟩
  have h1:=Wb x ac ac;have h4:Nat.log2 x<8:=(Nat.log2_lt hx).2 ac;rw[e,h1];exact⟨ac,ac,rfl,⟨by show 0+((Nat.log2 x+1:Nat):Int)=((Nat.log2 x+1:Nat):Int);omega,ah⟩,ah⟩⟩
abbrev X8:CT:=C0 MA QP
theorem xn:CO X8:=CX0 (TX trivial (FK (FK ah))) TG
end
end Go.Proofs.YtldmjbgplgoedaaGreatDoor
namespace Go.Proofs.YtldmjbgplgoedaaGreatDoor
noncomputable section
open Go.RowKit U
theorem aT {y:Wy} {l W:ae} (h0:(hd l).Z=0) (h:tl l=W):(hd l).Z=0/\agW KX y (tl l) W:=by subst h;exact⟨h0,iE _ _,bI _ _⟩
def cdU (v:Int):Cd:=[(0,lg (v+1)),(v+1,lg (v+1)+1)]
def vj (v:Int):Int:=if 0<v then 2*v-1 else -2*v
def cdS (v:Int):Cd:=cdU (vj v)
theorem MJ {x:Int} (h:0<=x) (h':x<=65535):lg x<=15:=by
 unfold lg
 by_cases e:x.toNat=0
 .rw[e];decide
 .have:=(Nat.log2_lt (k:=16) e).2 ac;omega
theorem XC {x:Int} (h:0<=x) {k:Int} (hk:k=(lg x:Int)+1):x / pw k=0:=by
 refine Int.ediv_eq_zero_of_lt h ?_;unfold pw;rw[hk,show((lg x:Int)+1).toNat=lg x+1 by omega]
 have h1:x.toNat<2 ^ (lg x+1):=Nat.lt_log2_self;have h2:Int.ofNat (Nat.pow 2 (lg x+1))=((2 ^ (lg x+1):Nat):Int):=rfl;rw[h2];omega
theorem nH {v:Int} (h:0<=v) (h':v<=65534):cdN (cdU v)<=31:=by have:=MJ (x:=v+1) ac ac;show lg (v+1)+(lg (v+1)+1+0)<=31;omega
theorem WY {x:Int}:((QP [.i x]) 0).Z-1=((lg x:Nat):Int):=by show((lg x+1:Nat):Int)-1=_;omega
def puP (J:ae):Prop:=WrP J 1 31
def puW (J:ae):ae:=.i 0::wrA J 1 (cdU (J 0).Z)
abbrev aac:SP:=mkS ⟨[aD 0 0],[.run 349 HP,.dead,.dyn 5 0 0 1000000 0 g0 false]⟩ 331 Tryz.f331 [tXO (.nP 0 0),aj 0 65534] [.run 349 oI,.dyn 5 0 0 1000000 0 g0 false] [] [yc,X8] [] (aj 0 0) [1]
theorem Pf J R:TR aac J R (let x0:ae:=[.i ((J 0).Z+1)];let x1:ae:=QP x0;let x2:ae:=[.i 0,.i ((x1 0).Z-1),.s (J 1).O (J 1).N,.i (J 2).Z,.l (J 3).N (J 3).G];(jA x2)/\let x3:ae:=jc x2;let x4:ae:=[.i ((J 0).Z+1),.i (((x1 0).Z-1)+1),.s (x3 1).O (x3 1).N,.i (x3 2).Z,.l (x3 3).N (x3 3).G];(jA x4)/\let x5:ae:=jc x4;R [.i 0,.i (x5 0).Z,.s (x5 1).O (x5 1).N,.i (x5 2).Z,.l (x5 3).N (x5 3).G]):=af
theorem abv:PF1 aac puP puW:=λJ b1 b2 hp=>⟨by
 rw[Pf];obtain⟨-,⟨v1,v2⟩,-⟩:=b1;obtain⟨⟨-,⟨n1,-⟩,-⟩,-,-⟩:=b2;have v1:0<=(J 0).Z:=v1;have v2:(J 0).Z<=65534:=v2;have n1:0<=(J 2).Z:=n1;have hl:=MJ (x:=(J 0).Z+1) ac ac;obtain⟨p1,p2,p3,p4⟩:=hp;dsimp only;rw[WY];have p4:(J 2).Z+31<=8000000:=p4;have hB:=bw (J 3).G;unfold puW wrA cdU;generalize hk:lg ((J 0).Z+1)=k at hl ⊢;refine⟨⟨Int.zero_ediv _,p1,p2,p3,?_⟩,?_⟩
 .show(J 2).Z+(((k:Int).toNat:Nat):Int)<=8000000;omega
 generalize hr:jc _=r;have hr:r=.i 0::wrC (aR (J 3).G) (J 2).Z.toNat [(0,k)]:=by rw[<-hr];kernel_rfl
 subst hr;refine⟨⟨XC (x:=(J 0).Z+1) ac (by rw[hk];rfl),yM (n:=(J 2).Z.toNat) (a:=[(0,k)]) hB af ?_⟩,?_⟩
 .show(J 2).Z.toNat+(k+0)+((k:Int)+1).toNat<=8000000;omega
 have e:=rK (n:=(J 2).Z.toNat) (a:=[(0,k)]) (b:=[((J 0).Z+1,((k:Int)+1).toNat)]) (o:=2) (l:=[.i ((J 0).Z+1),.i ((k:Int)+1),.s 0 (rl ((J 2).Z.toNat+(k+0))),.i (((J 2).Z.toNat+(k+0):Nat):Int),.l (rl ((J 2).Z.toNat+(k+0))) (ch (cdB (aR (J 3).G) (J 2).Z.toNat [(0,k)]) ((J 2).Z.toNat+(k+0)))]) hB af;rw[show((k:Int)+1).toNat=k+1 by omega]at e
 exact aT rfl (Eq.trans af (congrArg (List.cons (Lf.i 0)) e))⟩
abbrev puC:CT:=C1 aac puP puW
theorem EK:CO puC:=CX1 (TX ⟨gx,xn,ah⟩ ah) abv
def Rh (_:ae):Prop:=True
def Qs (J:ae):ae:=.i 0::wrC (λ_=>0) 0 (cdU (J 0).Z)
abbrev ND:SP:=mkS ⟨[aD 0 0],[.run 349 oI,.dyn 5 0 0 1000000 0 g0 false]⟩ 331 Tryz.f331 [tXO (.nP 0 0),aj 0 65534] [.run 349 uX] [] [yc,vL,X8]
theorem Ea J R:TR ND J R (let x0:ae:=[.i ((J 0).Z+1)];let x1:ae:=QP x0;let x2:ae:=[.i 0,.i ((x1 0).Z-1),.i (J 1).Z];((e9 x2)->
 (iy x2)/\let x3:ae:=iw x2;let x4:ae:=[.i ((J 0).Z+1),.i (((x1 0).Z-1)+1),.i (x3 1).Z];((e9 x4)->
  (iy x4)/\let x5:ae:=iw x4;False) /\
 ((e9 x4)=false ->
  (g8 x4)/\let x5:ae:=fK x4;R [.i 0,.i (x5 0).Z,.s (x5 1).O (x5 1).N,.i (x5 2).Z,.l (x5 3).N (x5 3).G])) /\
((e9 x2)=false -> (g8 x2)/\let x3:ae:=fK x2;let x6:ae:=[.i ((J 0).Z+1),.i (((x1 0).Z-1)+1),.s (x3 1).O (x3 1).N,.i (x3 2).Z,.l (x3 3).N (x3 3).G];(jA x6)/\let x7:ae:=jc x6;R [.i 0,.i (x7 0).Z,.s (x7 1).O (x7 1).N,.i (x7 2).Z,.l (x7 3).N (x7 3).G])):=af
theorem RC:PF1 ND Rh Qs:=λJ b1 b2 _=>⟨by
 rw[Ea];obtain⟨-,⟨v1,v2⟩,-⟩:=b1;have v1:0<=(J 0).Z:=v1;have v2:(J 0).Z<=65534:=v2;have hl:=MJ (x:=(J 0).Z+1) ac ac;dsimp only;rw[WY];unfold Qs cdU;generalize hk:lg ((J 0).Z+1)=k at hl ⊢;have hp:=XC (x:=(J 0).Z+1) (k:=(k:Int)+1) ac (by rw[hk])
 refine br_ (λq=>?_) λq=>⟨Int.zero_ediv _,?_⟩
 .have q:(k:Int)=0:=ai q;have q:k=0:=ac;subst q;refine⟨Int.zero_ediv _,λq1=>?_,λ_=>⟨hp,aT rfl ?_⟩⟩
  .have q1:((0:Nat):Int)+1=0:=ai q1;omega
  .refine Eq.trans (b:=.i 0::wrC (λ_=>0) 0 [((J 0).Z+1,1)]) af (congrArg _ ?_);exact oW (n:=1) (kE (c:=[((J 0).Z+1,1)]) (n:=0) λp hp=>absurd hp (Nat.not_lt_zero p))
 .generalize hr:fK _=r;have hr:r=.i 0::wrC (λ_=>0) 0 [(0,k)]:=by rw[<-hr];kernel_rfl
  subst hr;refine⟨⟨hp,yM (n:=0) (a:=[(0,k)]) d9 af ?_⟩,?_⟩
  .show 0+(k+0)+((k:Int)+1).toNat<=8000000;omega
  have e:=rK (n:=0) (a:=[(0,k)]) (b:=[((J 0).Z+1,((k:Int)+1).toNat)]) (o:=2) (l:=[.i ((J 0).Z+1),.i ((k:Int)+1),.s 0 (rl (0+(k+0))),.i ((0+(k+0):Nat):Int),.l (rl (0+(k+0))) (ch (cdB (λ_=>0) 0 [(0,k)]) (0+(k+0)))]) d9 af;rw[show((k:Int)+1).toNat=k+1 by omega]at e
  exact aT rfl (Eq.trans af (congrArg (List.cons (Lf.i 0)) e))⟩
abbrev ZX:CT:=C1 ND Rh Qs
theorem Ki:CO ZX:=CX1 (TX ⟨gx,putN_ct,xn,ah⟩ ah) RC
def psP (J:ae):Prop:=WrP J 1 31
def psW (J:ae):ae:=.i 0::wrA J 1 (cdS (J 0).Z)
abbrev ab8:SP:=mkS ⟨[aD 0 0],[.run 349 HP,.dead,.dyn 5 0 0 1000000 0 g0 false]⟩ 334 Tryz.f334 [tXO (.nP 0 0),aj (-32767) 32767] [.run 349 oI,.dyn 5 0 0 1000000 0 g0 false] [] [puC] [(aw 361 Tryz.f361)] (aj 0 0) [1]
theorem Mb J R:TR ab8 J R (((decide (0<(J 0).Z))->
 (0<=((2*(J 0).Z)-1))/\let x0:ae:=[.i ((2*(J 0).Z)-1),.s (J 1).O (J 1).N,.i (J 2).Z,.l (J 3).N (J 3).G];(puP x0)/\let x1:ae:=puW x0;R [.i 0,.i (x1 0).Z,.s (x1 1).O (x1 1).N,.i (x1 2).Z,.l (x1 3).N (x1 3).G]) /\
((decide (0<(J 0).Z))=false -> (0<=((-2)*(J 0).Z))/\let x2:ae:=[.i ((-2)*(J 0).Z),.s (J 1).O (J 1).N,.i (J 2).Z,.l (J 3).N (J 3).G];(puP x2)/\let x3:ae:=puW x2;R [.i 0,.i (x3 0).Z,.s (x3 1).O (x3 1).N,.i (x3 2).Z,.l (x3 3).N (x3 3).G])):=af
theorem ZG:PF1 ab8 psP psW:=λJ b1 b2 hp=>⟨by
 rw[Mb];dsimp only;obtain⟨-,⟨v1,v2⟩,-⟩:=b1;have v1 : -32767<=(J 0).Z:=v1;have v2:(J 0).Z<=32767:=v2;refine br_ (λq=>?_) λq=>?_
 .have q:=ai q;refine⟨ac,hp,aT rfl ?_⟩;have e:vj (J 0).Z=2*(J 0).Z-1:=if_pos q;unfold psW cdS;rw[e];show(_:ae)=_
  kernel_rfl
 .have q:=aQ q;refine⟨ac,hp,aT rfl ?_⟩;have e:vj (J 0).Z=-2*(J 0).Z:=if_neg q;unfold psW cdS;rw[e];show(_:ae)=_
  kernel_rfl⟩
abbrev psC:CT:=C1 ab8 psP psW
theorem vn:CO psC:=CX1 (TX ⟨EK,ah⟩ (FK ah)) ZG
def acs (_:ae):Prop:=True
def SN (J:ae):ae:=.i 0::wrC (λ_=>0) 0 (cdS (J 0).Z)
abbrev Pd:SP:=mkS ⟨[aD 0 0],[.run 349 oI,.dyn 5 0 0 1000000 0 g0 false]⟩ 334 Tryz.f334 [tXO (.nP 0 0),aj (-32767) 32767] [.run 349 uX] [] [ZX] [(aw 361 Tryz.f361)]
theorem CC J R:TR Pd J R (((decide (0<(J 0).Z))->
 (0<=((2*(J 0).Z)-1))/\let x0:ae:=[.i ((2*(J 0).Z)-1),.i (J 1).Z];(Rh x0)/\let x1:ae:=Qs x0;R [.i 0,.i (x1 0).Z,.s (x1 1).O (x1 1).N,.i (x1 2).Z,.l (x1 3).N (x1 3).G]) /\
((decide (0<(J 0).Z))=false -> (0<=((-2)*(J 0).Z))/\let x2:ae:=[.i ((-2)*(J 0).Z),.i (J 1).Z];(Rh x2)/\let x3:ae:=Qs x2;R [.i 0,.i (x3 0).Z,.s (x3 1).O (x3 1).N,.i (x3 2).Z,.l (x3 3).N (x3 3).G])):=af
theorem Vj:PF1 Pd acs SN:=λJ b1 b2 _=>⟨by
 rw[CC];dsimp only;obtain⟨-,⟨v1,v2⟩,-⟩:=b1;have v1 : -32767<=(J 0).Z:=v1;have v2:(J 0).Z<=32767:=v2;refine br_ (λq=>?_) λq=>?_
 .have q:=ai q;refine⟨ac,ah,aT rfl ?_⟩;have e:vj (J 0).Z=2*(J 0).Z-1:=if_pos q;unfold SN cdS;rw[e];show(_:ae)=_
  kernel_rfl
 .have q:=aQ q;refine⟨ac,ah,aT rfl ?_⟩;have e:vj (J 0).Z=-2*(J 0).Z:=if_neg q;unfold SN cdS;rw[e];show(_:ae)=_
  kernel_rfl⟩
abbrev acB:CT:=C1 Pd acs SN
theorem VL:CO acB:=CX1 (TX ⟨Ki,ah⟩ (FK ah)) Vj
theorem jB {v:Int} (h : -32767<=v) (h':v<=32767):cdN (cdS v)<=31:=by
 unfold cdS vj
 split
 .exact nH ac ac
 .exact nH ac ac
end
end Go.Proofs.YtldmjbgplgoedaaGreatDoor
