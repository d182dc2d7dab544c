import Derived.Test.YtldmjbgplgoedaaGreatDoorRp28
import Derived.Test.YtldmjbgplgoedaaGreatDoorRp36
import Derived.Test.YtldmjbgplgoedaaGreatDoorRp38
set_option linter.all false
namespace Go.Proofs.YtldmjbgplgoedaaGreatDoor
noncomputable section
open Go.RowKit U
theorem gm {f g:Nat->Int} (h:∀i,i<8->f i=g i):oG f=oG g:=by unfold oG;rw[h 0 afH,h 1 afH,h 2 afH,h 3 afH,h 4 afH,h 5 afH,h 6 afH,h 7 afH]
theorem af0 {f g:Nat->Int}:(oG λi=>f i+g i)=oG f+oG g:=by simp only[oG];omega
theorem IC {c:Int} {f:Nat->Int}:(oG λi=>c*f i)=c*oG f:=by simp only[oG,Int.mul_add,Int.mul_zero]
theorem agb {c:Int} {f:Nat->Int}:(oG λi=>f i*c)=oG f*c:=by simp only[oG,Int.add_mul,Int.zero_mul]
theorem afU {f:Nat->Nat->Int}:(oG λa=>oG λb=>f a b)=oG λb=>oG λa=>f a b:=by simp only[oG];omega
theorem agp {u:Nat->Int} {c:Int}:∀ {k},k<8->(oG λi=>(if k=i then c else 0)*u i)=c*u k
 |0,_=>by simp[oG]
 |1,_=>by simp[oG]
 |2,_=>by simp[oG]
 |3,_=>by simp[oG]
 |4,_=>by simp[oG]
 |5,_=>by simp[oG]
 |6,_=>by simp[oG]
 |7,_=>by simp[oG]
 |n+8,h=>ac
theorem afR {f g:Nat->Int} (h:∀i,i<8->f i<=g i):oG f<=oG g:=by have h0:=h 0 afH;have h1:=h 1 afH;have h2:=h 2 afH;have h3:=h 3 afH;have h4:=h 4 afH;have h5:=h 5 afH;have h6:=h 6 afH;have h7:=h 7 afH;unfold oG;omega
theorem agG {f:Nat->Int}:(oG λi=>-(f i))=-(oG f):=by simp only[oG];omega
theorem akm:∀k,k<8->∀j,j<8->(oG λa=>mmF (k+8*a)*mtF (a*8+j))=if k=j then 739840 else 0:=by decide +kernel
theorem agX {k:Nat} (hk:k<8) (u:Nat->Int):(oG λa=>mmF (k+8*a)*oG λj=>mtF (a*8+j)*u j)=739840*u k:=by
 have e:(oG λa=>mmF (k+8*a)*oG λj=>mtF (a*8+j)*u j)=oG λa=>oG λj=>mmF (k+8*a)*mtF (a*8+j)*u j:=gm λa _=>by rw[<-IC];exact gm λj _=>(Int.mul_assoc _ _ _).symm
 rw[e,afU,<-agp hk];refine gm λj hj=>?_;rw[agb,akm k hk j hj]
def ivS (y:Nat->Int) (i:Nat):Int:=oG λa=>mmF (i / 8+8*a)*oG λb=>mmF (i % 8+8*b)*y (8*a+b)
theorem aiv (x:Nat->Int) {i:Nat} (hi:i<64):ivS (fwF x) i=547363225600*x i:=by
 have e:∀a,a<8->(oG λb=>mmF (i % 8+8*b)*fwF x (8*a+b))=oG λk=>mtF (a*8+k)*(739840*x (8*k+i % 8)):=λa ha=>by
  have e1:∀b,b<8->mmF (i % 8+8*b)*fwF x (8*a+b)=oG λk=>mtF (a*8+k)*(mmF (i % 8+8*b)*fwR x (8*k+b)):=λb hb=>by unfold fwF;rw[(pV (k:=a) hb).1,(pV (k:=a) hb).2,<-IC];exact gm λk _=>Int.mul_left_comm _ _ _
  rw[gm e1,afU];refine gm λk hk=>?_;rw[IC,<-agX (k:=i % 8) ac λl=>x (8*k+l)]
  congr 1
  refine gm λb hb=>?_;unfold fwR;rw[(pV (k:=k) hb).1,(pV (k:=k) hb).2]
 unfold ivS;rw[gm λa ha=>by rw[e a ha],agX (k:=i / 8) ac λk=>739840*x (8*k+i % 8)]
 show 739840*(739840*x (8*(i / 8)+i % 8))=_;rw[show 8*(i / 8)+i % 8=i by omega]
 omega
def abZ (a:Int):Int:=max a (-a)
theorem af4 {c u U:Int} (h1 : -U<=u) (h2:u<=U) : -(abZ c*U)<=c*u/\c*u<=abZ c*U:=by
 unfold abZ;rcases Int.le_total 0 c with h | h
 .rw[Int.max_eq_left ac];have a:=Int.mul_le_mul_of_nonneg_left h1 h;have b:=Int.mul_le_mul_of_nonneg_left h2 h;rw[Int.mul_neg]at a;exact⟨a,b⟩
 .rw[Int.max_eq_right ac];have a:=Int.mul_le_mul_of_nonneg_left h1 (show 0<=-c by omega)
  have b:=Int.mul_le_mul_of_nonneg_left h2 (show 0<=-c by omega)
  rw[Int.mul_neg]at a;rw[Int.neg_mul c u]at a b;omega
theorem agd {c u U:Nat->Int} (h:∀i,i<8->-(U i)<=u i/\u i<=U i) : -(oG λi=>abZ (c i)*U i)<=(oG λi=>c i*u i)/\(oG λi=>c i*u i)<=oG λi=>abZ (c i)*U i:=by rw[<-agG];exact⟨afR λi hi=>(af4 (h i hi).1 (h i hi).2).1,afR λi hi=>(af4 (h i hi).1 (h i hi).2).2⟩
def bdS (m:Nat->Int) (q:Int) (i:Nat):Int:=oG λa=>abZ (mmF (i / 8+8*a))*oG λb=>abZ (mmF (i % 8+8*b))*stF (m (8*a+b)) q (8*a+b)
theorem ahp {y z m:Nat->Int} {q:Int} (h:∀n,n<64->-(stF (m n) q n)<=2*(z n-y n)/\2*(z n-y n)<=stF (m n) q n) {i:Nat} : -(bdS m q i)<=2*(ivS z i-ivS y i)/\2*(ivS z i-ivS y i)<=bdS m q i:=by
 have e:2*(ivS z i-ivS y i)=oG λa=>mmF (i / 8+8*a)*oG λb=>mmF (i % 8+8*b)*(2*(z (8*a+b)-y (8*a+b))):=by
  have k:∀a,(oG λb=>mmF (i % 8+8*b)*(2*(z (8*a+b)-y (8*a+b))))=2*(oG λb=>mmF (i % 8+8*b)*z (8*a+b))+-2*oG λb=>mmF (i % 8+8*b)*y (8*a+b):=λa=>by rw[<-IC,<-IC,<-af0];refine gm λb _=>?_;simp only[Int.mul_sub,Int.mul_left_comm,Int.neg_mul];omega
  unfold ivS;simp only[k,Int.mul_add,af0]
  have k2:∀(c:Int) (f:Nat->Int),(oG λa=>mmF (i / 8+8*a)*(c*f a))=c*oG λa=>mmF (i / 8+8*a)*f a:=λc f=>by rw[<-IC];exact gm λa _=>Int.mul_left_comm _ _ _
  rw[k2 2 λa=>oG λb=>mmF (i % 8+8*b)*z (8*a+b),k2 (-2) λa=>oG λb=>mmF (i % 8+8*b)*y (8*a+b)];omega
 rw[e];exact agd (U:=λa=>oG λb=>abZ (mmF (i % 8+8*b))*stF (m (8*a+b)) q (8*a+b)) λa ha=>agd (U:=λb=>stF (m (8*a+b)) q (8*a+b)) λb hb=>h (8*a+b) ac
theorem aga {a s:Int} (hs:0<s) : -s<=2*(lvF a s*s-a)/\2*(lvF a s*s-a)<=s:=by
 have e:=Int.emod_add_mul_ediv a s;have e1:=Int.emod_nonneg a (show s≠0 by omega)
 have e2:=Int.emod_lt_of_pos a hs;rw[Int.mul_comm]at e;unfold lvF
 split
 .rw[Int.add_mul];omega
 .omega
theorem ahj {v s:Int} (hs:0<s) : -s<=2*(qzF v s*s-v)/\2*(qzF v s*s-v)<=s:=by
 unfold qzF
 split
 .have:=aga (a:=-v) hs;rw[Int.neg_mul];omega
 .exact aga hs
theorem agq {y:Nat->Int} (h:∀n,n<64->-2097152<=y n/\y n<=2097152) {i:Nat}:ivF y i=Yb (ivS y i):=by
 unfold ivF ivS
 congr 1
 refine gm λa ha=>?_
 congr 1
 unfold ivR;rw[(pV (k:=a) (j:=i % 8) ac).1,(pV (k:=a) (j:=i % 8) ac).2];refine gm λb hb=>?_;have:=h (8*a+b) ac
 congr 1
 unfold clZ;omega
def bdF (m:Nat->Int) (q:Int) (i:Nat):Int:=(bdS m q i+547363225600) / 1094726451200
theorem ahW {x m:Nat->Int} {q:Int} (hx:∀i,i<64->-255<=x i/\x i<=255) (hm:∀i,i<64->8<=m i/\m i<=255) (h1:1<=q) (h2:q<=31) {z:Nat->Int} (hz:∀n,n<64->z n=qzF (fwF x n) (stF (m n) q n)*stF (m n) q n) {i:Nat} (hi:i<64) : -(bdF m q i)<=ivF z i-x i/\ivF z i-x i<=bdF m q i:=by
 have hs:∀n,n<64->160<=stF (m n) q n/\stF (m n) q n<=284580:=λn hn=>IU (hm n hn).1 (hm n hn).2 h1 h2 hn
 have he:∀n,n<64->-(stF (m n) q n)<=2*(z n-fwF x n)/\2*(z n-fwF x n)<=stF (m n) q n:=λn hn=>by rw[hz n hn];exact ahj (by have:=hs n hn;omega)
 have hb:∀n,n<64->-2097152<=z n/\z n<=2097152:=λn hn=>by have a:=JM hx hn;have b:=SW n hn;have c:=hs n hn;have d:=he n hn;omega
 have k:=ahp he (i:=i);rw[aiv x hi]at k;rw[agq hb];unfold Yb bdF;generalize ivS z i=s at *;generalize bdS m q i=t at *;omega
def inK (fd:Bool) (n c i:Nat):Bool:=decide (bkC n=c/\plF n fd<=i/\(i-plF n fd) / plS n fd<8/\(i-plF n fd) % plS n fd<8)
def blO (fd:Bool) (c i:Nat):Nat:=if c=0 then(bif fd then i / 16 % 2*2+i % 16 / 8 else i / 128*2+i % 16 / 8)else c+3
theorem akw:∀fd:Bool,∀i,i<256->inK fd (blO fd 0 i) 0 i=true/\blO fd 0 i<4/\∀n,n<6->inK fd n 0 i=true->n=blO fd 0 i:=by decide +kernel
theorem agD:∀fd:Bool,∀i,i<64->(inK fd (blO fd 1 i) 1 i=true/\∀n,n<6->inK fd n 1 i=true->n=blO fd 1 i)/\inK fd (blO fd 2 i) 2 i=true/\∀n,n<6->inK fd n 2 i=true->n=blO fd 2 i:=by decide +kernel
theorem ahB (fd:Bool) {c i:Nat} (hc:c<3) (hi:i<bkN c):inK fd (blO fd c i) c i=true/\blO fd c i<6/\∀n,n<6->inK fd n c i=true->n=blO fd c i:=by
 match c,hc with
 |0,_=>have h:=akw fd i hi;exact⟨h.1,ac,h.2.2⟩
 |1,_=>exact⟨(agD fd i hi).1.1,(by decide:1+3<6),(agD fd i hi).1.2⟩
 |2,_=>exact⟨(agD fd i hi).2.1,(by decide:2+3<6),(agD fd i hi).2.2⟩
def blK (fd:Bool) (n i:Nat):Nat:=(i-plF n fd) / plS n fd*8+(i-plF n fd) % plS n fd
theorem ag9 {fd:Bool} {n c i:Nat} (h:inK fd n c i=true):bkC n=c/\blK fd n i<64/\bkI n fd (blK fd n i)=i:=by
 obtain⟨h0,h1,h2,h3⟩:=of_decide_eq_true h;have d:=Nat.div_add_mod (i-plF n fd) (plS n fd);rw[Nat.mul_comm]at d;refine⟨h0,by unfold blK;omega,?_⟩
 unfold bkI blK;rw[show((i-plF n fd) / plS n fd*8+(i-plF n fd) % plS n fd) / 8=(i-plF n fd) / plS n fd by omega,show((i-plF n fd) / plS n fd*8+(i-plF n fd) % plS n fd) % 8=(i-plF n fd) % plS n fd by omega]
 omega
theorem ahs {f r:Nat->Int} {n c i:Nat} {fd:Bool} (hc:bkC n=c) (h:¬ inK fd n c i=true):rpZ f n fd r i=f i:=by unfold rpZ jK;rw[if_neg λe=>h (decide_eq_true ⟨hc,e⟩),jm]
theorem aja {f r:Nat->Int} {n c i:Nat} {fd:Bool} (h:inK fd n c i=true):rpZ f n fd r i=min (max (f i+r (blK fd n i)) 0) 255:=by have e:=(ag9 h).2.2;unfold rpZ jK;rw[if_pos (of_decide_eq_true h).2,jm];unfold qq;show min (max (f (bkI n fd (blK fd n i))+r (blK fd n i)) 0) 255=_;rw[e]
theorem ahZ {cd:Nat->Bool} {fd:Bool} {r g s:Nat->Nat->Int} {B:Int} (hs:∀c,c<3->∀i,i<bkN c->0<=s c i/\s c i<=255)
 (h:∀n,n<6->∀k,k<64->-B<=(bif cd n then r n k else 0)-(s (bkC n) (bkI n fd k)-g (bkC n) (bkI n fd k))/\(bif cd n then r n k else 0)-(s (bkC n) (bkI n fd k)-g (bkC n) (bkI n fd k))<=B) {c:Nat} (hc:c<3) {i:Nat} (hi:i<bkN c) : -B<=adF cd fd r g 6 c i-s c i/\adF cd fd r g 6 c i-s c i<=B:=by
 obtain⟨i1,i2,i3⟩:=ahB fd hc hi;generalize blO fd c i=m at *;obtain⟨k1,k2,k3⟩:=ag9 i1;have hm:=h m i2 _ k2;rw[k1,k3]at hm;have h0:=hs c hc i hi
 have key:∀n,n<=6->(n<=m->adF cd fd r g n c i=g c i)/\(m<n->-B<=adF cd fd r g n c i-s c i/\adF cd fd r g n c i-s c i<=B):=λn=>by
  induction n with
  |zero=>exact λ_=>⟨λ_=>rfl,λh=>absurd h (Nat.not_lt_zero _)⟩
  |succ n ih =>
   intro hn;obtain⟨a,b⟩:=ih ac
   by_cases e:n=m
   .subst e;refine⟨λh=>ac,λ_=>?_⟩;have a:=a (Nat.le_refl _);unfold adF;cases hcd:cd n
    .rw[if_neg λe=>Bool.noConfusion e.1,a];rw[hcd,cond_false]at hm;omega
    .rw[if_pos ⟨rfl,k1⟩,aja i1,a];rw[hcd,cond_true]at hm;omega
   .have e2:adF cd fd r g (n+1) c i=adF cd fd r g n c i:=by
     conv=>lhs;unfold adF
     split
     .rename_i q;exact ahs q.2 λk=>e (i3 n ac k)
     .rfl
    rw[e2];exact⟨λh=>a ac,λh=>b ac⟩
 exact(key 6 (Nat.le_refl _)).2 i2
theorem agy:∀b:Bool,∀k,k<64->(scF b (unF b k)).toNat=k/\unF b k<64:=by decide +kernel
theorem afL {n:Nat} (hn:n<6):bkC n<3:=by
 unfold bkC
 split<;>omega
theorem agJ {s g:Nat->Nat->Int} {m:Nat->Int} {q B:Int} {al fd:Bool} {lv:Nat->Int} {cd:Nat->Bool} (hs:∀c,c<3->∀i,i<bkN c->0<=s c i/\s c i<=255) (hg:∀c,c<3->∀i,i<bkN c->0<=g c i/\g c i<=255) (hm:∀i,i<64->8<=m i/\m i<=255) (h1:1<=q) (h2:q<=31) (hB:∀i,i<64->bdF m q i<=B)
 (hlv:∀n,n<6->∀p,p<64->lv (p+n*64)=lvL (λk=>s (bkC n) (bkI n fd k)-g (bkC n) (bkI n fd k)) m q al p) (hcd:∀n,n<6->cd n=false->∀p,p<64->lv (p+n*64)=0) {c:Nat} (hc:c<3) {i:Nat} (hi:i<bkN c) : -B<=rcF cd fd lv al m q g c i-s c i/\rcF cd fd lv al m q g c i-s c i<=B:=by
 refine ahZ hs (λn hn k hk=>?_) hc hi
 have hx:∀i,i<64->-255<=s (bkC n) (bkI n fd i)-g (bkC n) (bkI n fd i)/\s (bkC n) (bkI n fd i)-g (bkC n) (bkI n fd i)<=255:=λi hi=>by have a:=hs _ (afL hn) _ (qa (fd:=fd) hn hi);have b:=hg _ (afL hn) _ (qa (fd:=fd) hn hi);omega
 have e:=ahW hx hm h1 h2 (z:=λk=>lv (unF al k+n*64)*stF (m k) q k) (λk hk=>by show lv (unF al k+n*64)*_=_;rw[hlv n hn _ (agy al k hk).2];unfold lvL;rw[(agy al k hk).1]) hk
 have hb:=hB k hk
 have e2:(bif cd n then adR lv al m q n k else 0)=ivF (λk=>lv (unF al k+n*64)*stF (m k) q k) k:=by
  cases h:cd n
  .have z:ivF (λk=>lv (unF al k+n*64)*stF (m k) q k) k=ivF (λ_=>0) k:=by
    rw[agq (λj hj=>by show _<=lv (unF al j+n*64)*_/\lv (unF al j+n*64)*_<=_;rw[hcd n hn h _ (agy al j hj).2,Int.zero_mul];decide),agq (λj _=>afH)]
    congr 1
    unfold ivS;refine gm λa ha=>?_
    congr 1
    refine gm λb hb=>?_;show _*(lv (unF al (8*a+b)+n*64)*_)=_;rw[hcd n hn h _ (agy al (8*a+b) ac).2,Int.zero_mul]
   rw[z,cond_false,agq (λj _=>afH)]
   simp[ivS,oG,Yb]
  .rfl
 rw[e2];omega
theorem agk {m:Nat->Int} {q:Int} (hm:∀i,i<64->8<=m i) (h1:1<=q) {i:Nat}:0<=bdS m q i:=by
 have ab:∀a,0<=abZ a:=λa=>by unfold abZ;omega
 have k:∀a,a<8->0<=oG λb=>abZ (mmF (i % 8+8*b))*stF (m (8*a+b)) q (8*a+b):=λa ha=>by have z:(oG λ_=>0)=0:=rfl;rw[<-z];refine afR λb hb=>Int.mul_nonneg (ab _) ?_;unfold stF;have:=hm (8*a+b) ac;have:=(JY (8*a+b) ac).1;exact Int.mul_nonneg (Int.mul_nonneg ac ac) ac
 have z:(oG λ_=>0)=0:=rfl;unfold bdS;rw[<-z];exact afR λa ha=>Int.mul_nonneg (ab _) (k a ha)
end
end Go.Proofs.YtldmjbgplgoedaaGreatDoor
namespace Go.Proofs.YtldmjbgplgoedaaGreatDoor
noncomputable section
open Go.RowKit U
def ByG (n:Nat) (g:Nat->ae):Prop:=∀i,i<n->0<=cel g i/\cel g i<=255
def Al (g:Nat->ae):Prop:=∀i,0<=cel g i/\cel g i<=255
def FrB (f:ae):Prop:=fmB (f 0).Z (f 1).Z (f 2).N (f 3).N (f 4).N=true/\ByG (f 2).N (f 2).G/\ByG (f 3).N (f 3).G/\ByG (f 4).N (f 4).G
theorem agc {g:Nat->ae} {cols rows x y vx vy:Int} {w n:Nat} (hc:1<=cols) (hr:1<=rows) (hn:(n:Int)=cols*rows) (h:ByG n g):Al (rz (prZ g cols rows x y vx vy w)):=λi=>by
 have key:∀a b,0<=cel g (inZ a rows*cols+inZ b cols).toNat/\cel g (inZ a rows*cols+inZ b cols).toNat<=255:=λa b=>by
  have k1:=Rv (i:=a) (j:=b) hr hc;have k2:=(IX (i:=a) hr).1;have k3:=(IX (i:=b) hc).1;have k4:=Int.mul_nonneg k2 (show 0<=cols by omega)
  rw[Int.mul_comm rows cols]at k1;exact h _ ac
 rw[jm];unfold prZ;have a:=key (y+(i / w:Nat)+vy / 2) (x+(i % w:Nat)+vx / 2);have b:=key (y+(i / w:Nat)+vy / 2) (x+(i % w:Nat)+vx / 2+vx % 2);have c:=key (y+(i / w:Nat)+vy / 2+vy % 2) (x+(i % w:Nat)+vx / 2);have d:=key (y+(i / w:Nat)+vy / 2+vy % 2) (x+(i % w:Nat)+vx / 2+vx % 2);omega
theorem FrB.sz {f:ae} (h:FrB f):2<=(f 0).Z/\(f 0).Z % 2=0/\2<=(f 1).Z/\(f 1).Z % 2=0/\((f 2).N:Int)=(f 0).Z*(f 1).Z/\((f 3).N:Int)=(f 0).Z / 2*((f 1).Z / 2)/\((f 4).N:Int)=(f 0).Z / 2*((f 1).Z / 2):=by obtain⟨h1,-,h2,h3,-,h4,h5,h6,h7⟩:=of_decide_eq_true h.1;exact⟨h1,h2,h3,h4,h5,h6,h7⟩
theorem agP {J:ae} (h:FrB J):∀c,c<3->Al ((kI J) (2+c)).G:=λc hc=>by
 obtain⟨h1,h2,h3,h4,h5,h6,h7⟩:=h.sz
 match c,hc with
 |0,_=>exact agc ac ac h5 h.2.1
 |1,_=>exact agc ac ac h6 h.2.2.1
 |2,_=>exact agc ac ac h7 h.2.2.2
theorem agh {a b:Nat->ae} {w:Nat} (ha:Al a) (hb:Al b):Al (rz (U7 a b w)):=λi=>by
 rw[jm];unfold U7
 split
 .exact ha _
 .exact hb _
theorem agi {a b:Nat->ae} (ha:Al a) (hb:Al b):Al (rz (Rq a b)):=λi=>by rw[jm];unfold Rq;have:=ha i;have:=hb i;omega
theorem af8 {g:Nat->ae} {w h p:Nat} (hp:p<=1) (hg:ByG (w*(2*h)) g):ByG (w*h) (rz (A1 g (p*w) (2*w) w)):=λi hi=>by
 rw[jm];unfold A1;refine hg _ ?_
 have hw:0<w:=by
  rcases Nat.eq_zero_or_pos w with e | e
  .rw[e,Nat.zero_mul]at hi;omega
  .exact e
 have h1:i / w<h:=Nat.div_lt_of_lt_mul hi;have h2:i % w<w:=Nat.mod_lt _ hw;have h3:(i / w)*(2*w)<=(h-1)*(2*w):=Nat.mul_le_mul_right _ ac;have h4:p*w<=1*w:=Nat.mul_le_mul_right _ hp
 have h5:(h-1)*(2*w)+2*w=w*(2*h):=by
  have:(h-1)*(2*w)+2*w=(h-1+1)*(2*w):=by rw[Nat.add_mul,Nat.one_mul]
  rw[this,Nat.sub_add_cancel (Nat.lt_of_le_of_lt (Nat.zero_le _) h1),Nat.mul_comm h,Nat.mul_assoc,Nat.mul_left_comm]
 rw[Nat.one_mul]at h4;generalize i / w*(2*w)=A at *;generalize (h-1)*(2*w)=B at *;generalize w*(2*h)=C at *;generalize p*w=D at *;generalize i % w=s at *;omega
theorem af6 {f:ae} (h:FrB f) (h4:(f 1).Z % 4=0) (hp:0<=(f 5).Z/\(f 5).Z<=1):FrB (dP f):=by
 obtain⟨a1,a2,a3,a4,a5,a6,a7⟩:=h.sz;obtain⟨-,b1,-,-,b2,-⟩:=of_decide_eq_true h.1;obtain⟨-,c0,c1,c2⟩:=h;generalize hW:(f 0).Z.toNat=W;generalize hH:(f 1).Z.toNat / 2=H;generalize hP:(f 5).Z.toNat=p
 have e:dP f=[.i W,.i H,.l (W*H) (rz (A1 (f 2).G (p*W) (2*W) W)),.l (W / 2*(H / 2)) (rz (A1 (f 3).G (p*(W / 2)) W (W / 2))),.l (W / 2*(H / 2)) (rz (A1 (f 4).G (p*(W / 2)) W (W / 2))),.i 0]:=by rw[<-hW,<-hH,<-hP];rfl
 rw[e];have eW:(f 0).Z=W:=ac;have eH:(f 1).Z=(2*H:Nat):=ac
 have n2:(f 2).N=W*(2*H):=by
  have:((f 2).N:Int)=((W*(2*H):Nat):Int):=by rw[a5,eW,eH];rfl
  exact Int.ofNat.inj this
 have q:∀n:Nat,(n:Int)=(f 0).Z / 2*((f 1).Z / 2)->n=W / 2*(2*(H / 2)):=λn hn=>by
  have:(n:Int)=((W / 2*(2*(H / 2)):Nat):Int):=by
   rw[hn,eW,eH,show((2*H:Nat):Int) / 2=((2*(H / 2):Nat):Int) by omega]
   rfl
  exact Int.ofNat.inj this
 rw[n2]at c0;rw[q _ a6]at c1;rw[q _ a7]at c2;refine⟨decide_eq_true ⟨?_,?_,?_,?_,?_,?_,rfl,?_,?_⟩,af8 ac c0,?_,?_⟩
 .show(2:Int)<=W;omega
 .show(W:Int)<=64;omega
 .show(W:Int) % 2=0;omega
 .show(2:Int)<=H;omega
 .show(H:Int)<=64;omega
 .show(H:Int) % 2=0;omega
 .show((W / 2*(H / 2):Nat):Int)=(W:Int) / 2*((H:Int) / 2);rfl
 .show((W / 2*(H / 2):Nat):Int)=(W:Int) / 2*((H:Int) / 2);rfl
 .have k:=af8 (p:=p) ac c1;rw[show 2*(W / 2)=W by omega]at k
  exact k
 .have k:=af8 (p:=p) ac c2;rw[show 2*(W / 2)=W by omega]at k
  exact k
theorem ahe {f:ae} {mx my sel vx vy:Int} (h:FrB f) (h4:(f 1).Z % 4=0) (hp:0<=sel/\sel<=1):∀c,c<3->Al ((abG f mx my sel vx vy) (2+c)).G :=agP (af6 (f:=[f 0,f 1,f 2,f 3,f 4,Lf.i sel]) h h4 hp)
theorem aiS {J:ae} (h:FrB J) (h4:(J 1).Z % 4=0) (h0:0<=(J 11).F 0/\(J 11).F 0<=1) (h1:0<=(J 11).F 1/\(J 11).F 1<=1):∀c,c<3->Al ((vN J) (2+c)).G:=λc hc=>by
 have a:=ahe (mx:=(J 5).Z) (my:=(J 6).Z) (vx:=(J 7).Z) (vy:=(J 8).Z) h h4 h0;have b:=ahe (mx:=(J 5).Z) (my:=(J 6).Z) (vx:=(J 9).Z) (vy:=(J 10).Z) h h4 h1
 match c,hc with
 |0,_=>exact agh (a 0 afH) (b 0 afH)
 |1,_=>exact agh (a 1 afH) (b 1 afH)
 |2,_=>exact agh (a 2 afH) (b 2 afH)
def RwB (J:ae) (o:Nat):Prop:=ByG (J (o+2)).N (J (o+2)).G/\ByG (J (o+3)).N (J (o+3)).G/\ByG (J (o+4)).N (J (o+4)).G
theorem akr {d ty st:Int} {se:Bool} {sel:Int}:rfO d ty st se sel=9\/rfO d ty st se sel=14\/rfO d ty st se sel=4:=by
 unfold rfO
 split
 .exact .inl rfl
 .split
  .exact .inr (.inl rfl)
  .exact .inr (.inr rfl)
theorem akz {d:Int} {J:ae} (hp:rfP d J) (h4:RwB J 4) (h9:RwB J 9) (h14:RwB J 14) (hs:0<=(J 20).Z/\(J 20).Z<=1):FrB (rfW d J):=by
 obtain⟨-,p2,p3⟩:=hp
 have hr:RwB J (rfO d (J 0).Z (J 1).Z (J 3).X (J 20).Z):=by rcases akr (d:=d) (ty:=(J 0).Z) (st:=(J 1).Z) (se:=(J 3).X) (sel:=(J 20).Z)with e | e | e<;>rw[e]<;>assumption
 unfold rfW;generalize rfO d (J 0).Z (J 1).Z (J 3).X (J 20).Z=o at *
 split
 .exact⟨p2.1,hr⟩
 .rename_i hB;refine af6 (f:=[.i (J o).Z,.i (J (o+1)).Z,.l (J (o+2)).N (J (o+2)).G,.l (J (o+3)).N (J (o+3)).G,.l (J (o+4)).N (J (o+4)).G,.i (J 20).Z]) ⟨p2.1,hr⟩ ?_ hs;have:=p3 hB;show(J (o+1)).Z % 4=0;omega
theorem aiR {d s v0 v1 v2 v3:Int} {sl:Nat->Int} {J:ae} (h4:RwB J 4) (h9:RwB J 9) (h14:RwB J 14) (hp:rfP d (rfD d J s)) (hs:0<=s/\s<=1) :
 (Bz (pdB d s v0 v1 v2 v3 sl J)->(0<=sl 0/\sl 0<=1)->(0<=sl 1/\sl 1<=1)->∀c,c<3->Al ((vN (pdB d s v0 v1 v2 v3 sl J)) (2+c)).G)/\∀c,c<3->Al ((kI (pdA d s v0 v1 J)) (2+c)).G:=by
 have h:=(akz hp (kmp h4) (kmp h9) (kmp h14) (kmp hs))
 have e:∀r,rfW d (rfD d J s)=r->(pdB d s v0 v1 v2 v3 sl J=[.i (r 0).Z,.i (r 1).Z,.l (r 2).N (r 2).G,.l (r 3).N (r 3).G,.l (r 4).N (r 4).G,.i (J 19).Z,.i (J 20).Z,.i v0,.i v1,.i v2,.i v3,.f sl])/\pdA d s v0 v1 J=[.i (r 0).Z,.i (r 1).Z,.l (r 2).N (r 2).G,.l (r 3).N (r 3).G,.l (r 4).N (r 4).G,.i (16*(min (max (J 19).Z (-1)) 128)),.i (16*(min (max (J 20).Z (-1)) 128)),.i 16,.i 16,.i v0,.i v1]:=λr hr=>by subst hr;exact⟨rfl,rfl⟩
 generalize hr:rfW d (rfD d J s)=r at h;obtain⟨e1,e2⟩:=e r hr;rw[e1,e2];clear e e1 e2;refine⟨λq k0 k1=>aiS (J:=[.i (r 0).Z,.i (r 1).Z,.l (r 2).N (r 2).G,.l (r 3).N (r 3).G,.l (r 4).N (r 4).G,.i (J 19).Z,.i (J 20).Z,.i v0,.i v1,.i v2,.i v3,.f sl]) h ?_ k0 k1,agP (J:=[.i (r 0).Z,.i (r 1).Z,.l (r 2).N (r 2).G,.l (r 3).N (r 3).G,.l (r 4).N (r 4).G,.i (16*(min (max (J 19).Z (-1)) 128)),.i (16*(min (max (J 20).Z (-1)) 128)),.i 16,.i 16,.i v0,.i v1]) h⟩;have q2:(r 1).Z % 32=0:=q.2.2.1;show(r 1).Z % 4=0;omega
theorem ajb {f g:ae} (hf:∀c,c<3->Al (f (2+c)).G) (hg:∀c,c<3->Al (g (2+c)).G):∀c,c<3->Al ((pd2 f g) (2+c)).G:=λc hc=>by
 match c,hc with
 |0,_=>exact agi (hf 0 afH) (hg 0 afH)
 |1,_=>exact agi (hf 1 afH) (hg 1 afH)
 |2,_=>exact agi (hf 2 afH) (hg 2 afH)
theorem agR {J:ae} (hp:KM J) (h4:RwB J 4) (h9:RwB J 9) (h14:RwB J 14) (hs:∀i,i<4->0<=(J 34).F i/\(J 34).F i<=1):∀c,c<3->∀i,0<=prG J c i/\prG J c i<=255:=by
 have s0:=hs 0 afH;have s1:=hs 1 afH;have s2:=hs 2 afH;have s3:=hs 3 afH
 have a0:∀fp,pp0 fp J->∀c,c<3->Al ((pd0 fp J) (2+c)).G:=λfp h=>by
  have k:=aiR (v0:=(J 26).Z) (v1:=(J 27).Z) (v2:=(J 28).Z) (v3:=(J 29).Z) (sl:=(J 34).F) h4 h9 h14 h.1 s0;cases fp
  .exact k.2
  .exact k.1 h.2 s0 s1
 have a1:∀fp,pp1 fp J->∀c,c<3->Al ((pd1 fp J) (2+c)).G:=λfp h=>by
  have k:=aiR (v0:=(J 30).Z) (v1:=(J 31).Z) (v2:=(J 32).Z) (v3:=(J 33).Z) (sl:=λi=>(J 34).F (i+2)) h4 h9 h14 h.1 s2;cases fp
  .exact k.2
  .exact k.1 h.2 s2 s3
 obtain⟨p0,p1,p2⟩:=hp
 have key:∀c,c<3->Al ((lS J) (2+c)).G:=by
  unfold lS;cases e0:(J 22).X
  .rw[e0]at p0
   have e1:(J 23).X=true:=by
    rcases p0 with h | h
    .cases h
    .exact h
   exact a1 _ (p2 e1)
  .cases e1:(J 23).X
   .exact a0 _ (p1 e0)
   .exact ajb (a0 _ (p1 e0)) (a1 _ (p2 e1))
 exact λc hc i=>key c hc i
end
end Go.Proofs.YtldmjbgplgoedaaGreatDoor
namespace Go.Proofs.YtldmjbgplgoedaaGreatDoor
noncomputable section
open Go.RowKit U
def Ne (B x s:Int):Prop:=(-B<=x-s/\x-s<=B)/\0<=x/\x<=255
theorem afO {cd:Nat->Bool} {fd:Bool} {lv:Nat->Int} {al:Bool} {m:Nat->Int} {q:Int} {g:Nat->Nat->Int} (h:∀n,n<6->cd n=false) {c i:Nat}:rcF cd fd lv al m q g c i=g c i:=by unfold rcF;rw[C7 (h 5 afH),C7 (h 4 afH),C7 (h 3 afH),C7 (h 2 afH),C7 (h 1 afH),C7 (h 0 afH)];rfl
theorem aha {A:ae} {fd:Bool} {s g:Nat->Nat->Int} {B:Int} {cd:Nat->Bool} (hs:∀c,c<3->∀i,i<bkN c->0<=s c i/\s c i<=255) (hg:∀c,c<3->∀i,i<bkN c->0<=g c i/\g c i<=255) (hm:∀i,i<64->8<=(A 10).F i/\(A 10).F i<=255) (h1:1<=(A 30).Z) (h2:(A 30).Z<=31) (hB:∀i,i<64->bdF (A 10).F (A 30).Z i<=B)
 (hA:∀c,c<3->∀i,i<bkN c->cel (A (2+c)).G i=s c i) (hG:∀c,c<3->∀i,i<bkN c->cel (A (7+c)).G i=g c i) (hcd:∀n,n<6->cd n=alC A fd n) {c:Nat} (hc:c<3) {i:Nat} (hi:i<bkN c) :
 Ne B (rcF cd fd (alV A fd) (A 29).X (A 10).F (A 30).Z g c i) (s c i):=by
 refine⟨agJ hs hg hm h1 h2 hB (λn hn p hp=>?_) (λn hn h p hp=>?_) hc hi,y5 hg 6 c hc i hi⟩
 .unfold alV;rw[show(p+n*64) / 64=n by omega,show(p+n*64) % 64=p by omega]
  refine xi (λk hk=>?_) hp;unfold alX;rw[hA _ (afL hn) _ (qa hn hk),hG _ (afL hn) _ (qa hn hk)]
 .rw[hcd n hn]at h;unfold alC at h
  have h:bu 64 (λk=>alV A fd (k+n*64)) (λ_=>0)=true:=by
   cases e:bu 64 (λk=>alV A fd (k+n*64)) (λ_=>0)
   .rw[e]at h;cases h
   .rfl
  simp only[bu,List.all_eq_true,List.mem_range,beq_iff_eq]at h;exact h p hp
theorem adk {A:ae} {fd:Bool}:∀ {n:Nat},gf A fd n=false->∀k,k<n->alC A fd k=false
 |n+1,h,k,hk=>by
  have h:(gf A fd n||alC A fd n)=false:=h;obtain⟨a,b⟩:=Bool.or_eq_false_iff.1 h
  by_cases e:k=n
  .rw[e];exact b
  .exact adk a k ac
theorem aiC (a b:Int):∀i,i<4->0<=stS a b i/\stS a b i<=1:=λi _=>by
 have hp:0<=paZ b/\paZ b<=1:=by unfold paZ;cases b==2<;>decide
 unfold stS
 split
 .decide
 .split
  .exact hp
  .decide
structure ChB (J:ae) (B:Int):Prop where
 q1:1<=(J 27).Z
 q2:(J 27).Z<=31
 m1:∀i,i<64->8<=(J 19).F i/\(J 19).F i<=255
 m2:∀i,i<64->8<=(J 20).F i/\(J 20).F i<=255
 b1:∀i,i<64->bdF (J 19).F (J 27).Z i<=B
 b2:∀i,i<64->bdF (J 20).F (J 27).Z i<=B
 src:∀c,c<3->∀i,i<bkN c->0<=cel ((kY J) (2+c)).G i/\cel ((kY J) (2+c)).G i<=255
 r0:RwB J 33
 r1:RwB J 38
 r2:RwB J 43
theorem af5 {J:ae} {B:Int} (h:ChB J B):∀c,c<3->∀i,i<bkN c->Ne B (aer (Qr (A5 J (vD (BW J)))) c i) (cel ((kY J) (2+c)).G i):=λc hc i hi=>by
 have e:aer (Qr (A5 J (vD (BW J))))=rcF (bAt [true,true,true,true,true,true]) (alD (PS (BW J))) (alV (PS (BW J)) (alD (PS (BW J)))) ((PS (BW J)) 29).X ((PS (BW J)) 10).F ((PS (BW J)) 30).Z (λ_ _=>128):=af;rw[e];have hA:∀c,c<3->∀i,i<bkN c->cel ((PS (BW J)) (2+c)).G i=cel ((kY J) (2+c)).G i:=lt3 (λi _=>af) (λi _=>af) (λi _=>af);have hG:∀c,c<3->∀i,i<bkN c->cel ((PS (BW J)) (7+c)).G i=128:=lt3 (λi _=>af) (λi _=>af) (λi _=>af);have hm:∀i,i<64->8<=((PS (BW J)) 10).F i/\((PS (BW J)) 10).F i<=255:=kmp h.m1;have hb:∀i,i<64->bdF ((PS (BW J)) 10).F ((PS (BW J)) 30).Z i<=B:=kmp h.b1;have q1:1<=((PS (BW J)) 30).Z:=kmp h.q1;have q2:((PS (BW J)) 30).Z<=31:=kmp h.q2;have hs:=h.src;generalize PS (BW J)=A at *;generalize kY J=S at *;have k:=agJ (s:=λc i=>cel (S (2+c)).G i) (g:=λ_ _=>128) (cd:=bAt [true,true,true,true,true,true]) (lv:=alV A (alD A)) (fd:=alD A) (al:=(A 29).X) hs (λ_ _ _ _=>afH) hm q1 q2 hb (λn hn p hp=>?_) (λn hn h=>?_) hc hi
 .exact⟨k,y5 (λ_ _ _ _=>afH) 6 c hc i hi⟩
 .unfold alV;rw[show(p+n*64) / 64=n by omega,show(p+n*64) % 64=p by omega]
  refine xi (λk hk=>?_) hp;unfold alX;rw[hA _ (afL hn) _ (qa hn hk),hG _ (afL hn) _ (qa hn hk)]
 .exact absurd h (by have:∀n,n<6->¬ bAt [true,true,true,true,true,true] n=false:=afH;exact this n hn)
theorem afN {f g:Nat->ae}:∀ {n},uY f g n<=0->∀i,i<n->cel f i=cel g i
 |n+1,h,i,hi=>by
  have h:max (max (uY f g n) (cel f n-cel g n)) (-(cel f n-cel g n))<=0:=h
  by_cases e:i=n
  .rw[e];omega
  .exact afN (n:=n) ac i ac
theorem ChB.pos {J:ae} {B:Int} (h:ChB J B):0<=B:=by have a:=h.b1 0 afH;have b:=agk (λi hi=>(h.m1 i hi).1) h.q1 (i:=0);have c:0<=bdF (J 19).F (J 27).Z 0:=Int.ediv_nonneg ac afH;omega
theorem aiT {l:ae} (h:EC l=[.b true]):aab l=0:=by
 have h:(aab l==0)=true:=by
  unfold EC at h;injection h with h
  injection h
 exact beq_iff_eq.1 h
theorem agm {J:ae} {B:Int} (h:ChB J B) (hr:pm (A5 J skZ)) (hN:((kY J) 2).N=256/\((kY J) 3).N=64/\((kY J) 4).N=64) (hk:EC (ak (cZ (kY J)) (cZ (li (A5 J skZ))))=[.b true]\/gf (pR J) (alD (pR J)) 6=false):∀c,c<3->∀i,i<bkN c->Ne B (aer (Qr (A5 J skZ)) c i) (cel ((kY J) (2+c)).G i):=λc hc i hi=>by
 have e:aer (Qr (A5 J skZ))=prG (pU (Qr (A5 J skZ))):=af;have z:((Qr (A5 J skZ)) 8).Z=0:=af;have hp:KM (pU (Qr (A5 J skZ))):=(hr.1 z).2.2.2.2;have hg:=agR hp (kmp h.r0) (kmp h.r1) (kmp h.r2) (kmp (aiC ((Qr (A5 J skZ)) 0).Z ((Qr (A5 J skZ)) 1).Z));rcases hk with hk | hk
 .have d:=aiT hk
  have d0:uY ((kY J) 2).G (rz (aer (Qr (A5 J skZ)) 0)) ((kY J) 2).N<=aab (ak (cZ (kY J)) (cZ (li (A5 J skZ)))):=by unfold aab;exact kmp (show uY ((kY J) 2).G (rz (aer (Qr (A5 J skZ)) 0)) ((kY J) 2).N<=max (max (uY ((kY J) 2).G (rz (aer (Qr (A5 J skZ)) 0)) ((kY J) 2).N) (uY ((kY J) 3).G (rz (aer (Qr (A5 J skZ)) 1)) ((kY J) 3).N)) (uY ((kY J) 4).G (rz (aer (Qr (A5 J skZ)) 2)) ((kY J) 4).N) by omega)
  have d1:uY ((kY J) 3).G (rz (aer (Qr (A5 J skZ)) 1)) ((kY J) 3).N<=aab (ak (cZ (kY J)) (cZ (li (A5 J skZ)))):=by unfold aab;exact kmp (show uY ((kY J) 3).G (rz (aer (Qr (A5 J skZ)) 1)) ((kY J) 3).N<=max (max (uY ((kY J) 2).G (rz (aer (Qr (A5 J skZ)) 0)) ((kY J) 2).N) (uY ((kY J) 3).G (rz (aer (Qr (A5 J skZ)) 1)) ((kY J) 3).N)) (uY ((kY J) 4).G (rz (aer (Qr (A5 J skZ)) 2)) ((kY J) 4).N) by omega)
  have d2:uY ((kY J) 4).G (rz (aer (Qr (A5 J skZ)) 2)) ((kY J) 4).N<=aab (ak (cZ (kY J)) (cZ (li (A5 J skZ)))):=by unfold aab;exact kmp (show uY ((kY J) 4).G (rz (aer (Qr (A5 J skZ)) 2)) ((kY J) 4).N<=max (max (uY ((kY J) 2).G (rz (aer (Qr (A5 J skZ)) 0)) ((kY J) 2).N) (uY ((kY J) 3).G (rz (aer (Qr (A5 J skZ)) 1)) ((kY J) 3).N)) (uY ((kY J) 4).G (rz (aer (Qr (A5 J skZ)) 2)) ((kY J) 4).N) by omega)
  rw[d]at d0 d1 d2
  have k:cel ((kY J) (2+c)).G i=aer (Qr (A5 J skZ)) c i:=by
   match c,hc with
   |0,_=>exact afN d0 i (by rw[hN.1];exact hi)
   |1,_=>exact afN d1 i (by rw[hN.2.1];exact hi)
   |2,_=>exact afN d2 i (by rw[hN.2.2];exact hi)
  have:=h.pos;have hb:=hg c hc i;rw[k,e]at *;exact⟨ac,hb⟩
 .have hA:∀c,c<3->∀i,i<bkN c->cel ((pR J) (2+c)).G i=cel ((kY J) (2+c)).G i:=lt3 (λi _=>af) (λi _=>af) (λi _=>af);have hG:∀c,c<3->∀i,i<bkN c->cel ((pR J) (7+c)).G i=prG (pU (Qr (A5 J skZ))) c i:=lt3 (λi _=>af) (λi _=>af) (λi _=>af);have hm:∀i,i<64->8<=((pR J) 10).F i/\((pR J) 10).F i<=255:=kmp h.m2;have hb:∀i,i<64->bdF ((pR J) 10).F ((pR J) 30).Z i<=B:=kmp h.b2;have q1:1<=((pR J) 30).Z:=kmp h.q1;have q2:((pR J) 30).Z<=31:=kmp h.q2;have hs:=h.src;rw[e];generalize prG (pU (Qr (A5 J skZ)))=g at *;generalize pR J=A at *;have k:=aha (A:=A) (fd:=alD A) (cd:=alC A (alD A)) hs (λc hc i _=>hg c hc i) hm q1 q2 hb hA hG (λ_ _=>rfl) hc hi;rw[afO (adk hk)]at k;exact k
theorem age {J m:ae} {B:Int} (h:ChB J B) (hm:P9 (yi J) m) (hr:pm (A5 J m)):∀c,c<3->∀i,i<bkN c->Ne B (aer (Qr (A5 J m)) c i) (cel ((kY J) (2+c)).G i):=λc hc i hi=>by
 obtain⟨e,he,hw⟩:=hm;rw[Lq]at hw;have hs4:=he.s;have hc4:=he.cod;have hk:=he.kind;have hA:∀c,c<3->∀i,i<bkN c->cel ((itA (yi J) e (li (itR (yi J) e))) (2+c)).G i=cel ((kY J) (2+c)).G i:=lt3 (λi _=>af) (λi _=>af) (λi _=>af)
 have eN:∀c i,aer (Qr (itR (yi J) e)) c i=prG (qD (Qr (itR (yi J) e))) c i:=λc i=>by have z:((Qr (itR (yi J) e)) 8).Z=2:=kmp hk;unfold aer;rw[z];show rcF _ _ _ _ _ _ _ c i=_;exact afO (kmp hc4)
 have hG:∀c,c<3->∀i,i<bkN c->cel ((itA (yi J) e (li (itR (yi J) e))) (7+c)).G i=prG (qD (Qr (itR (yi J) e))) c i:=λc hc i hi=>by rw[<-eN];exact lt3 (p:=λc=>∀i,i<bkN c->cel ((itA (yi J) e (li (itR (yi J) e))) (7+c)).G i=aer (Qr (itR (yi J) e)) c i) (λi _=>af) (λi _=>af) (λi _=>af) c hc i hi
 have hm:∀i,i<64->8<=((itA (yi J) e (li (itR (yi J) e))) 10).F i/\((itA (yi J) e (li (itR (yi J) e))) 10).F i<=255:=kmp h.m2;have hb:∀i,i<64->bdF ((itA (yi J) e (li (itR (yi J) e))) 10).F ((itA (yi J) e (li (itR (yi J) e))) 30).Z i<=B:=kmp h.b2;have q1:1<=((itA (yi J) e (li (itR (yi J) e))) 30).Z:=kmp h.q1;have q2:((itA (yi J) e (li (itR (yi J) e))) 30).Z<=31:=kmp h.q2;have eA:∀fd cd lv,aer (Qr (A5 J (mbw e 0 fd cd lv)))=bif (e 0).Z==0 then prG (pU (Qr (A5 J (mbw e 0 fd cd lv))))else bif (e 0).Z==1 then rcF (bAt [cd 0,cd 1,cd 2,cd 3,cd 4,cd 5]) fd lv (J 26).X (J 19).F (J 27).Z (λ_ _=>128)else rcF (bAt [cd 0,cd 1,cd 2,cd 3,cd 4,cd 5]) fd lv ((itA (yi J) e (li (itR (yi J) e))) 29).X ((itA (yi J) e (li (itR (yi J) e))) 10).F ((itA (yi J) e (li (itR (yi J) e))) 30).Z (prG (qD (Qr (itR (yi J) e)))):=λfd cd lv=>af
 have hs:=h.src
 have hP:KM (qD (Qr (itR (yi J) e))):=by
  have z:((Qr (A5 J m)) 8).Z=2:=by rw[hw];exact kmp hk
  have q:=(hr.2.2 z).2.2.2;rw[hw]at q;exact kmp q
 have hg:=agR hP (kmp h.r0) (kmp h.r1) (kmp h.r2) (kmp hs4);have eB:=eA (gf (itA (yi J) e (li (itR (yi J) e))) (alD (itA (yi J) e (li (itR (yi J) e)))) 6&&alD (itA (yi J) e (li (itR (yi J) e)))) (alC (itA (yi J) e (li (itR (yi J) e))) (alD (itA (yi J) e (li (itR (yi J) e))))) (alV (itA (yi J) e (li (itR (yi J) e))) (alD (itA (yi J) e (li (itR (yi J) e)))));rw[<-hw,hk]at eB;have eB:aer (Qr (A5 J m))=rcF _ _ _ _ _ _ _:=eB;rw[eB];clear eA eB eN hw hP hr;generalize itA (yi J) e (li (itR (yi J) e))=A at *;generalize prG (qD (Qr (itR (yi J) e)))=g at *;have k:=aha (A:=A) (fd:=alD A) (cd:=bAt [alC A (alD A) 0,alC A (alD A) 1,alC A (alD A) 2,alC A (alD A) 3,alC A (alD A) 4,alC A (alD A) 5]) hs (λc hc i _=>hg c hc i) hm q1 q2 hb hA hG (lt6 rfl rfl rfl rfl rfl rfl) hc hi;cases ha:gf A (alD A) 6
 .have hn:∀n,n<6->bAt [alC A (alD A) 0,alC A (alD A) 1,alC A (alD A) 2,alC A (alD A) 3,alC A (alD A) 4,alC A (alD A) 5] n=false:=lt6 (adk ha 0 afH) (adk ha 1 afH) (adk ha 2 afH) (adk ha 3 afH) (adk ha 4 afH) (adk ha 5 afH);rw[afO hn]at k ⊢;exact k
 .rw[Bool.true_and];exact k
theorem ahF {J m:ae} {B:Int} (h:ChB J B) (hN:((kY J) 2).N=256/\((kY J) 3).N=64/\((kY J) 4).N=64) (hm:Qt J m) (hr:pm (A5 J m)):∀c,c<3->∀i,i<bkN c->Ne B (aer (Qr (A5 J m)) c i) (cel ((kY J) (2+c)).G i):=by
 cases hm with
 |intra=>exact af5 h
 |skip h1 h2=>exact agm h hr hN h2
 |inter m h1 h2=>exact age h h2 hr
end
end Go.Proofs.YtldmjbgplgoedaaGreatDoor
namespace Go.Proofs.YtldmjbgplgoedaaGreatDoor
noncomputable section
open Go.RowKit U
theorem dm {W a b:Nat} (h:b<W):(W*a+b) / W=a/\(W*a+b) % W=b :=⟨by rw[Nat.mul_add_div ac,Nat.div_eq_of_lt h,Nat.add_zero],by rw[Nat.mul_add_mod,Nat.mod_eq_of_lt h]⟩
theorem aiu {W S y x a b:Nat}:W*(S*y+a)+(S*x+b)=S*y*W+S*x+(W*a+b):=by rw[Nat.mul_add,Nat.mul_comm W (S*y)];omega
theorem aix {S W y x i:Nat} (hS:0<S) (hx:S*(x+1)<=W):(S*y*W+S*x<=i/\(i-(S*y*W+S*x)) / W<S/\(i-(S*y*W+S*x)) % W<S)↔(i / W / S=y/\i % W / S=x):=by
 rw[Nat.mul_add,Nat.mul_one]at hx;have hW:0<W:=ac
 constructor
 .rintro⟨h1,h2,h3⟩;have e:=Nat.div_add_mod (i-(S*y*W+S*x)) W;generalize (i-(S*y*W+S*x)) / W=a at *;generalize (i-(S*y*W+S*x)) % W=b at *
  have hi:i=W*(S*y+a)+(S*x+b):=by rw[aiu];omega
  obtain⟨d,m⟩:=dm (W:=W) (a:=S*y+a) (b:=S*x+b) ac;rw[hi,d,m];exact⟨(dm h2).1,(dm h3).1⟩
 .rintro⟨h1,h2⟩;have e:=Nat.div_add_mod i W;have ey:=Nat.div_add_mod (i / W) S;have ex:=Nat.div_add_mod (i % W) S;have ly:=Nat.mod_lt (i / W) hS;have lx:=Nat.mod_lt (i % W) hS;have lw:=Nat.mod_lt i hW;rw[h1]at ey;rw[h2]at ex;generalize i / W % S=a at *;generalize i % W % S=b at *;rw[<-ey,<-ex,aiu]at e;have hd:i-(S*y*W+S*x)=W*a+b:=ac;rw[hd];obtain⟨d,m⟩:=dm (W:=W) (a:=a) (b:=b) ac;rw[d,m];exact⟨ac,ly,lx⟩
theorem ahy {S W y x:Nat} {g r s:Nat->ae} {B:Int} (hS:0<S) (hx:S*(x+1)<=W) (hr:∀j,j<S*S->Ne B (cel r j) (A1 s (S*y*W+S*x) W S j)) (i:Nat) :
 ((i / W / S=y/\i % W / S=x)->Ne B (jK g r (S*y*W+S*x) W S S i) (cel s i))/\(¬ (i / W / S=y/\i % W / S=x)->jK g r (S*y*W+S*x) W S S i=cel g i):=by
 rw[<-aix hS hx];unfold jK;refine⟨λh=>?_,λh=>by rw[if_neg h]⟩
 rw[if_pos h];obtain⟨h1,h2,h3⟩:=h;have e:=Nat.div_add_mod (i-(S*y*W+S*x)) W;generalize (i-(S*y*W+S*x)) / W=a at *;generalize (i-(S*y*W+S*x)) % W=b at *
 have hj:a*S+b<S*S:=by
  have:a*S<=(S-1)*S:=Nat.mul_le_mul_right _ ac
  have e2:(S-1)*S+S=S*S:=by
   have:(S-1)*S+S=(S-1+1)*S:=by rw[Nat.add_mul,Nat.one_mul]
   rw[this,Nat.sub_add_cancel hS]
  omega
 have k:=hr _ hj
 have ed:(a*S+b) / S=a/\(a*S+b) % S=b:=by rw[Nat.mul_comm a S];exact dm h3
 have ec:A1 s (S*y*W+S*x) W S (a*S+b)=cel s i:=by
  unfold A1;rw[ed.1,ed.2]
  congr 1
  rw[Nat.mul_comm a W];omega
 rw[ec]at k;exact k
theorem ai5 {S W H y x j:Nat} (hx:S*(x+1)<=W) (hy:S*(y+1)<=H) (hj:j<S*S):S*y*W+S*x+j / S*W+j % S<W*H:=by
 have hS:0<S:=by
  rcases Nat.eq_zero_or_pos S with e | e
  .rw[e]at hj;omega
  .exact e
 have h1:j / S<S:=Nat.div_lt_of_lt_mul hj;have h2:j % S<S:=Nat.mod_lt _ hS;rw[Nat.mul_add,Nat.mul_one]at hx hy;generalize j / S=a at *;generalize j % S=b at *;have h3:(S*y+a+1)*W<=H*W:=Nat.mul_le_mul_right _ ac;rw[Nat.add_mul,Nat.add_mul,Nat.one_mul,Nat.mul_comm H W]at h3;omega
theorem af3 {g:Nat->ae} {n S W H y x:Nat} (hg:ByG n g) (hn:n=W*H) (hx:S*(x+1)<=W) (hy:S*(y+1)<=H):∀j,j<S*S->0<=A1 g (S*y*W+S*x) W S j/\A1 g (S*y*W+S*x) W S j<=255:=λj hj=>by unfold A1;exact hg _ (by rw[hn];exact ai5 hx hy hj)
structure RoB (J:ae) (B:Int):Prop where
 y0:0<=(J 0).Z
 q1:1<=(J 20).Z
 q2:(J 20).Z<=31
 m1:∀i,i<64->8<=(J 12).F i/\(J 12).F i<=255
 m2:∀i,i<64->8<=(J 13).F i/\(J 13).F i<=255
 b1:∀i,i<64->bdF (J 12).F (J 20).Z i<=B
 b2:∀i,i<64->bdF (J 13).F (J 20).Z i<=B
 s:RwB J 21
 r0:RwB J 26
 r1:RwB J 31
 r2:RwB J 36
theorem ajq {J:ae} (hp:sa J) {k:Nat} (hk:k<roN J):Yi [.i (J 21).Z,.i (J 22).Z,.l (J 23).N (J 23).G,.l (J 24).N (J 24).G,.l (J 25).N (J 25).G,.i (k:Int),.i (J 0).Z] :=kmp (hp.cho k hk (roS J k).1 (roS J k).2 (pk hp k ac)).1
theorem af9 {J:ae} {B:Int} (h:RoB J B) (hp:sa J) {k:Nat} (hk:k<roN J):16*(k+1)<=(J 21).Z.toNat/\8*(k+1)<=(J 21).Z.toNat / 2/\16*((J 0).Z.toNat+1)<=(J 22).Z.toNat/\8*((J 0).Z.toNat+1)<=(J 22).Z.toNat / 2/\(J 23).N=(J 21).Z.toNat*(J 22).Z.toNat/\(J 24).N=(J 21).Z.toNat / 2*((J 22).Z.toNat / 2)/\(J 25).N=(J 21).Z.toNat / 2*((J 22).Z.toNat / 2):=by obtain⟨f,w,e,x,y⟩:=ajq hp hk;have f:fmB (J 21).Z (J 22).Z (J 23).N (J 24).N (J 25).N=true:=f;have w:(J 21).Z % 16=0:=w;have e:(J 22).Z % 16=0:=e;have x:(k:Int)<(J 21).Z / 16:=x;have y:(J 0).Z<(J 22).Z / 16:=y;obtain⟨f1,-,-,f2,-,-,f3,f4,f5⟩:=of_decide_eq_true f;have y0:=h.y0;generalize hW:(J 21).Z.toNat=W;generalize hH:(J 22).Z.toNat=H;have eW:(J 21).Z=W:=ac;have eH:(J 22).Z=H:=ac;rw[eW,eH]at f3 f4 f5;refine⟨ac,ac,ac,ac,Int.ofNat.inj f3,Int.ofNat.inj f4,Int.ofNat.inj f5⟩
theorem ai6 {J:ae} {B:Int} (h:RoB J B) (hp:sa J) {k:Nat} (hk:k<roN J):ChB (roK J k) B:=by obtain⟨d1,d2,d3,d4,d5,d6,d7⟩:=af9 h hp hk;have a0:=af3 h.s.1 d5 d1 d3;have a1:=af3 h.s.2.1 d6 d2 d4;have a2:=af3 h.s.2.2 d7 d2 d4;exact⟨kmp h.q1,kmp h.q2,kmp h.m1,kmp h.m2,kmp h.b1,kmp h.b2,lt3 (kmp a0) (kmp a1) (kmp a2),kmp h.r0,kmp h.r1,kmp h.r2⟩
def RoE (B:Int) (W S y k:Nat) (f s g:Nat->ae):Prop:=∀i,((i / W / S=y/\i % W / S<k)->Ne B (cel f i) (cel s i))/\(¬ (i / W / S=y/\i % W / S<k)->cel f i=cel g i)
theorem RoE.step {B:Int} {W S y k:Nat} {f s g r:Nat->ae} (h:RoE B W S y k f s g) (hS:0<S) (hx:S*(k+1)<=W) (hr:∀j,j<S*S->Ne B (cel r j) (A1 s (S*y*W+S*k) W S j)):RoE B W S y (k+1) (rz (jK f r (S*y*W+S*k) W S S)) s g:=λi=>by
 obtain⟨a,b⟩:=ahy (g:=f) hS hx hr i;obtain⟨c,d⟩:=h i;rw[jm]
 by_cases e:i / W / S=y/\i % W / S=k
 .exact⟨λ_=>a e,λq=>absurd ⟨e.1,ac⟩ q⟩
 .rw[b e]
  exact⟨λq=>c ⟨q.1,by have:=q.2;have:i % W / S≠k:=λk=>e ⟨q.1,k⟩;omega⟩,λq=>d λk=>q ⟨k.1,by have:=k.2;omega⟩⟩
theorem agN {J:ae} {B:Int} (h:RoB J B) (hp:sa J):∀k,k<=roN J->RoE B (J 21).Z.toNat 16 (J 0).Z.toNat k (at_ (roS J k).2 2).G (J 23).G (J 73).G/\RoE B ((J 21).Z.toNat / 2) 8 (J 0).Z.toNat k (at_ (roS J k).2 3).G (J 24).G (J 74).G/\RoE B ((J 21).Z.toNat / 2) 8 (J 0).Z.toNat k (at_ (roS J k).2 4).G (J 25).G (J 75).G
 |0,_=>by
  have key:∀ {W S y:Nat} {f s g:Nat->ae},f=g->RoE B W S y 0 f s g:=λe i=>⟨λq=>absurd q.2 (Nat.not_lt_zero _),λ_=>by rw[e]⟩
  exact⟨key af,key af,key af⟩
 |k+1,hk=>by
  obtain⟨i0,i1,i2⟩:=agN h hp k ac;obtain⟨d1,d2,-⟩:=af9 h hp (k:=k) ac;obtain⟨m,hw,hm,-,hr⟩:=o9 hp (k:=k) ac (pk hp k ac);have hc:=ai6 h hp (k:=k) ac;have e:=ahF hc ⟨af,af,af⟩ hm hr;have hF:(at_ (roS J k).2 0).Z.toNat=(J 21).Z.toNat:=by rw[(Pu J k).1.1,hp.fw]
  have es:(roS J (k+1)).2=cZ (JC (roM J k (li (roR J k (gZ (roK J k)) (roS J k).2)) (roS J k).2)):=rfl
  have er:aer (Qr (roR J k (gZ (roK J k)) (roS J k).2))=aer (Qr (A5 (roK J k) m)):=by
   rw[hw]
   kernel_rfl
  have e0:∀j,j<256->_:=e 0 afH;have e1:∀j,j<64->_:=e 1 afH;have e2:∀j,j<64->_:=e 2 afH;rw[<-er]at e0 e1 e2;rw[es];generalize hrr:aer (Qr (roR J k (gZ (roK J k)) (roS J k).2))=R at *;have eR:li (roR J k (gZ (roK J k)) (roS J k).2)=pre 5 (rcW R):=by rw[<-hrr];rfl
  rw[eR];clear er hrr eR hw hm hr hc e es;have g0:((cZ (JC (roM J k (pre 5 (rcW R)) (roS J k).2))) 2).G=rz (jK (at_ (roS J k).2 2).G (rz (R 0)) (16*(J 0).Z.toNat*(at_ (roS J k).2 0).Z.toNat+16*k) (at_ (roS J k).2 0).Z.toNat 16 16):=af;have g1:((cZ (JC (roM J k (pre 5 (rcW R)) (roS J k).2))) 3).G=rz (jK (at_ (roS J k).2 3).G (rz (R 1)) (8*(J 0).Z.toNat*((at_ (roS J k).2 0).Z.toNat / 2)+8*k) ((at_ (roS J k).2 0).Z.toNat / 2) 8 8):=af;have g2:((cZ (JC (roM J k (pre 5 (rcW R)) (roS J k).2))) 4).G=rz (jK (at_ (roS J k).2 4).G (rz (R 2)) (8*(J 0).Z.toNat*((at_ (roS J k).2 0).Z.toNat / 2)+8*k) ((at_ (roS J k).2 0).Z.toNat / 2) 8 8):=af;rw[g0,g1,g2,hF];exact⟨i0.step afH d1 (kmp e0),i1.step afH d2 (kmp e1),i2.step afH d2 (kmp e2)⟩
end
end Go.Proofs.YtldmjbgplgoedaaGreatDoor
