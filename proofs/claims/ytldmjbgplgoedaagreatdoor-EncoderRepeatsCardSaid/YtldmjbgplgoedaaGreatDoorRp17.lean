import Derived.Test.YtldmjbgplgoedaaGreatDoorRp16
import Derived.Test.YtldmjbgplgoedaaGreatDoorProg
set_option linter.all false
namespace Go.Proofs.YtldmjbgplgoedaaGreatDoor
open Go.RowKit
theorem Dl {x y:Int} (hx:0<=x) (hx':x<256) (hy:0<=y) (hy':y<256):aI .or .u8 x y=((x.toNat ||| y.toNat:Nat):Int):=by
 obtain⟨a,rfl⟩:=Int.eq_ofNat_of_zero_le hx;obtain⟨b,rfl⟩:=Int.eq_ofNat_of_zero_le hy;have ha:a<2 ^ 8:=ac;have hb:b<2 ^ 8:=ac;have h:=Nat.or_lt_two_pow ha hb
 have e:∀ {c:Nat},c<2 ^ 8->(BitVec.ofInt 8 (c:Int)).toNat=c:=λ{c} hc=>by rw[BitVec.ofInt_natCast,BitVec.toNat_ofNat,Nat.mod_eq_of_lt hc]
 show IntKind.u8.wrap (((BitVec.ofInt 8 (a:Int) ||| BitVec.ofInt 8 (b:Int)).toNat:Nat):Int)=_;rw[BitVec.toNat_or,e ha,e hb];exact bH (k:=.u8) ⟨by simp only[low];omega,by simp only[top];omega⟩
theorem zC {x:Int} (hx:0<=x) (hx':x<4294967296):aI .and .u32 x 1=x % 2:=by
 obtain⟨a,rfl⟩:=Int.eq_ofNat_of_zero_le hx;have ha:a<2 ^ 32:=ac;have h:a &&& 1=a % 2:=Nat.and_one_is_mod a
 have e:(BitVec.ofInt 32 (a:Int)).toNat=a:=by rw[BitVec.ofInt_natCast,BitVec.toNat_ofNat,Nat.mod_eq_of_lt ha]
 show IntKind.u32.wrap (((BitVec.ofInt 32 (a:Int) &&& BitVec.ofInt 32 1).toNat:Nat):Int)=_;rw[BitVec.toNat_and,e,show(BitVec.ofInt 32 1).toNat=1 from rfl,h];rw[bH (k:=.u32) ⟨by simp only[low];omega,by simp only[top];omega⟩]
 omega
def aR (g:Nat->List Lf) (p:Nat):Int:=(at_ (g (p / 8)) 0).Z / 2 ^ (7-p % 8) % 2
def bZ (B:Nat->Int) (n i:Nat):Nat->Int
 |0=>0
 |j+1=>bZ B n i j+(if 8*i+j<n then B (8*i+j)else 0)*2 ^ (7-j)
def jj (B:Nat->Int) (n i:Nat):Int:=bZ B n i 8
def ch (B:Nat->Int) (n:Nat):Nat->List Lf:=λi=>[.i (jj B n i)]
def Bit (B:Nat->Int):Prop:=∀p,B p=0\/B p=1
theorem gH {B:Nat->Int} (hB:Bit B) {n i:Nat}:∀j,j<=8->0<=bZ B n i j/\bZ B n i j+2 ^ (8-j)<=256
 |0,_=>⟨Int.le_refl _,by simp[bZ]⟩
 |j+1,h=>by
  obtain⟨h1,h2⟩:=gH hB (n:=n) (i:=i) j ac
  have e:(2:Int) ^ (8-j)=2*2 ^ (8-(j+1)):=by
   rw[show 8-j=(8-(j+1))+1 by omega,Int.pow_succ]
   omega
  have e':(2:Int) ^ (7-j)=2 ^ (8-(j+1)):=by rw[show 7-j=8-(j+1) by omega]
  have hp:(0:Int)<2 ^ (8-(j+1)):=Int.pow_pos ac;unfold bZ;rw[e'];rw[e]at h2
  split
  .rcases hB (8*i+j)with q | q<;>rw[q]<;>constructor<;>omega
  .constructor<;>omega
theorem vR {B:Nat->Int} (hB:Bit B) {n i:Nat}:0<=jj B n i/\jj B n i<256:=by
 have:=gH hB (n:=n) (i:=i) 8 (Nat.le_refl _);unfold jj
 simp at this
 omega
theorem kA {B:Nat->Int} {n i:Nat}:∀j,n<=8*i+j->∀d,bZ B n i (j+d)=bZ B n i j
 |j,h,0=>rfl
 |j,h,d+1=>by rw[show j+(d+1)=(j+d)+1 by omega,bZ,if_neg ac,kA j h d,Int.zero_mul,Int.add_zero]
theorem eu {B B':Nat->Int} {n n' i:Nat}:∀j,(∀q,q<j->(if 8*i+q<n then B (8*i+q)else 0)=(if 8*i+q<n' then B' (8*i+q)else 0))->bZ B n i j=bZ B' n' i j
 |0,_=>rfl
 |j+1,h=>by unfold bZ;rw[eu j λq hq=>h q ac,h j ac]
theorem kW {B:Nat->Int} {n i:Nat}:∀j,j<=8->∃a,bZ B n i j=a*2 ^ (8-j)
 |0,_=>⟨0,by simp[bZ]⟩
 |j+1,h=>by
  obtain⟨a,ha⟩:=kW (B:=B) (n:=n) (i:=i) j ac
  have e:(2:Int) ^ (8-j)=2 ^ (8-(j+1))*2:=by rw[show 8-j=(8-(j+1))+1 by omega,Int.pow_succ]
  have e':(2:Int) ^ (7-j)=2 ^ (8-(j+1)):=by rw[show 7-j=8-(j+1) by omega]
  unfold bZ;rw[ha,e,e'];exact⟨a*2+(if 8*i+j<n then B (8*i+j)else 0),by rw[Int.add_mul,Int.mul_comm (2 ^ (8-(j+1))) 2,<-Int.mul_assoc]⟩
def Ba (B:Nat->Int) (n:Nat) (b:Int) (p:Nat):Int:=if p<n then B p else b
theorem qm {B:Nat->Int} {n:Nat}:jj B n (n / 8)=bZ B n (n / 8) (n % 8):=by
 unfold jj;have h:=kA (B:=B) (n:=n) (i:=n / 8) (n % 8) ac (8-n % 8);rw[show n % 8+(8-n % 8)=8 by omega]at h
 exact h
theorem yG {B:Nat->Int} {n:Nat} {b:Int}:jj (Ba B n b) (n+1) (n / 8)=bZ B n (n / 8) (n % 8)+b*2 ^ (7-n % 8):=by
 unfold jj;have h:=kA (B:=Ba B n b) (n:=n+1) (i:=n / 8) (n % 8+1) ac (7-n % 8);rw[show n % 8+1+(7-n % 8)=8 by omega]at h
 rw[h,bZ,if_pos ac]
 have e:Ba B n b (8*(n / 8)+n % 8)=b:=by unfold Ba;rw[if_neg ac]
 rw[e]
 congr 1
 refine eu _ λq hq=>?_;unfold Ba;rw[if_pos ac,if_pos ac,if_pos ac]
theorem vv {B:Nat->Int} {n i:Nat} {b:Int} (h:i≠n / 8):jj (Ba B n b) (n+1) i=jj B n i:=by
 unfold jj;refine eu _ λq hq=>?_;unfold Ba
 by_cases hn:8*i+q<n
 .rw[if_pos ac,if_pos hn,if_pos hn]
 .rw[if_neg ac,if_neg hn]
theorem Am {B:Nat->Int} (hB:Bit B) {n:Nat} {b:Int} (hb:b=0\/b=1):aI .or .u8 (jj B n (n / 8)) (b*2 ^ (7-n % 8))=jj (Ba B n b) (n+1) (n / 8):=by
 rw[qm,yG];have hr:n % 8<8:=Nat.mod_lt _ ac;generalize n % 8=r at hr ⊢;obtain⟨h1,h2⟩:=gH hB (n:=n) (i:=n / 8) r ac;obtain⟨a,ha⟩:=kW (B:=B) (n:=n) (i:=n / 8) r ac;generalize bZ B n (n / 8) r=x at h1 h2 ha ⊢
 have e2:(2:Int) ^ (8-r)=2*2 ^ (7-r):=by
  rw[show 8-r=(7-r)+1 by omega,Int.pow_succ]
  omega
 have hp:(0:Int)<2 ^ (7-r):=Int.pow_pos ac
 have ha0:0<=a:=by
  rcases Int.lt_or_le a 0 with q | q
  .exfalso
   have:a*2 ^ (8-r)<0:=Int.mul_neg_of_neg_of_pos q (by rw[e2];omega)
   omega
  .exact q
 have hy:0<=b*2 ^ (7-r)/\b*2 ^ (7-r)<2 ^ (8-r):=by rw[e2];rcases hb with q | q<;>rw[q]<;>constructor<;>omega
 rw[Dl h1 ac hy.1 ac];obtain⟨A,rfl⟩:=Int.eq_ofNat_of_zero_le ha0;obtain⟨y,hy'⟩:=Int.eq_ofNat_of_zero_le hy.1;rw[hy']at hy ⊢
 have ex:x=((2 ^ (8-r)*A:Nat):Int):=by
  rw[ha,Int.mul_comm]
  simp
 rw[ex,Int.toNat_natCast,Int.toNat_natCast,<-Nat.two_pow_add_eq_or_of_lt]
 .rfl
 .have:(y:Int)<((2 ^ (8-r):Nat):Int):=by
   have:=hy.2
   simpa using this
  omega
theorem cU {B B':Nat->Int} {n i:Nat} (h:∀p,p<n->B p=B' p):jj B n i=jj B' n i:=eu _ λq _=>by
 by_cases hq:8*i+q<n
 .rw[if_pos hq,if_pos hq,h _ hq]
 .rw[if_neg hq,if_neg hq]
theorem qu {B:Nat->Int} {n:Nat}:∀p,p<n+1->Ba B n (B n) p=B p:=λp hp=>by
 unfold Ba
 split
 .rfl
 .rw[show p=n by omega]
theorem ob {B:Nat->Int} (hB:Bit B) {n:Nat}:aI .or .u8 (jj B n (n / 8)) (B n*2 ^ (7-n % 8))=jj B (n+1) (n / 8):=by rw[Am hB (hB n),cU qu]
theorem pF {B:Nat->Int} {n i:Nat} (h:i≠n / 8):jj B (n+1) i=jj B n i:=by rw[<-cU (qu (B:=B)),vv h]
theorem tM {B:Nat->Int} {n:Nat} (h:n % 8=0):jj B n (n / 8)=0:=by rw[qm,h];rfl
def gV (B:Nat->Int) (n:Nat) (v:Int) (k:Nat) (p:Nat):Int:=if p<n then B p else v / 2 ^ (n+k-1-p) % 2
theorem bw (g:Nat->List Lf):Bit (aR g):=λp=>by unfold aR;omega
theorem fP {B:Nat->Int} (hB:Bit B) {n:Nat} {v:Int} {k:Nat}:Bit (gV B n v k):=λp=>by
 unfold gV
 split
 .exact hB p
 .omega
def Packed (g:Nat->List Lf) (B:Nat->Int) (n len:Nat):Prop:=len=(n+7) / 8/\∀i,i<len->(at_ (g i) 0).Z=jj B n i
theorem Packed.agree {g:Nat->List Lf} {B B':Nat->Int} {n len:Nat} (h:Packed g B n len) (e:∀p,p<n->B p=B' p):Packed g B' n len:=⟨h.1,λi hi=>by rw[h.2 i hi,cU e]⟩
theorem Packed.add {g:Nat->List Lf} {B:Nat->Int} {n len:Nat} (hB:Bit B) (h:Packed g B n len) (hn:n % 8≠0) {x:Int} (hx:x=B n*2 ^ (7-n % 8)):Packed (upd g (n / 8) [.i (aI .or .u8 (at_ (g (n / 8)) 0).Z x)]) B (n+1) len:=by
 obtain⟨h1,h2⟩:=h;refine⟨ac,λi hi=>?_⟩;unfold upd
 split
 .rename_i e;subst e;rw[bx,Z_i,h2 _ hi,hx,ob hB]
 .rename_i e;rw[h2 i hi,pF e]
theorem Packed.more {g:Nat->List Lf} {B:Nat->Int} {n len:Nat} (hB:Bit B) (h:Packed g B n len) (hn:n % 8=0) {x:Int} (hx:x=B n*2 ^ (7-n % 8)):Packed (upd (aE len g λ_=>[.i 0]) (n / 8) [.i (aI .or .u8 (at_ (aE len g (λ_=>[.i 0]) (n / 8)) 0).Z x)]) B (n+1) (len+1):=by
 obtain⟨h1,h2⟩:=h;have hl:len=n / 8:=ac;refine⟨ac,λi hi=>?_⟩;unfold upd aE
 split
 .rename_i e;subst e;rw[bx,Z_i,if_neg ac,bx,Z_i,hx,<-ob hB,tM hn]
 .rename_i e;rw[if_pos ac,h2 i ac,pF e]
end Go.Proofs.YtldmjbgplgoedaaGreatDoor
namespace Go.Proofs.YtldmjbgplgoedaaGreatDoor
open Go.RowKit
def set_:List Lf->Nat->Lf->List Lf
 |[],_,_=>[]
 |_::l,0,x=>x::l
 |y::l,n+1,x=>y::set_ l n x
theorem bA {l:List Lf} {x y:Lf}:set_ (y::l) 0 x=x::l:=rfl
theorem bz {l:List Lf} {n:Nat} {x y:Lf}:set_ (y::l) (n+1) x=y::set_ l n x:=rfl
theorem jo {F:(List Lf->Prop)->(List Lf->Nat)->List Lf->Prop} {s:List Lf} (n:Nat) (c:Nat) (S:Nat->List Lf->List Lf) (hc:∀i,i<=n->(at_ (S i s) c).Z=i) (h0:S 0 s=s)
 (h:∀(I:List Lf->Prop) (μ:List Lf->Nat),(∀i l',i<n->l'=S (i+1) s->Ag I μ (S i s) l')->∀i,i<=n->F I μ (S i s)):∃(I:List Lf->Prop) (μ:List Lf->Nat),I s/\∀l,I l->F I μ l :=
 Wj n (λi=>S i s) (λl=>(at_ l c).Z) hc h0.symm h
theorem aZ {F:(List Lf->Prop)->(List Lf->Nat)->List Lf->Prop} {s:List Lf} {X:Type} (n:Nat) (c:Nat) (p:Nat->X->Prop) (S:List Lf->Nat->X->List Lf) (hc:∀i x,i<=n->(at_ (S s i x) c).Z=i) (x0:X) (h0:S s 0 x0=s) (hp:p 0 x0)
 (h:∀(I:List Lf->Prop) (μ:List Lf->Nat),(∀i x x' l',i<n->p (i+1) x'->l'=S s (i+1) x'->Ag I μ (S s i x) l')->∀i x,i<=n->p i x->F I μ (S s i x)):∃(I:List Lf->Prop) (μ:List Lf->Nat),I s/\∀l,I l->F I μ l:=by
 refine⟨λl=>∃i x,i<=n/\p i x/\l=S s i x,λl=>n-(at_ l c).Z.toNat,⟨0,x0,Nat.zero_le _,hp,h0.symm⟩,?_⟩;rintro _ ⟨i,x,hi,hx,rfl⟩;refine h _ _ (λi x x' l' hin hp' e=>⟨⟨i+1,x',hin,hp',e⟩,?_⟩) i x hi hx;subst e;have e1:=hc (i+1) x' ac;have e2:=hc i x ac;omega
theorem br_ {b:Bool} {p q:Prop} (h1:b=true->p) (h2:b=false->q):(b=true->p)/\(b=false->q):=⟨h1,h2⟩
abbrev cel (g:Nat->List Lf) (i:Nat):Int:=(at_ (g i) 0).Z
def rz (f:Nat->Int):Nat->List Lf:=λi=>[.i (f i)]
theorem jm {f:Nat->Int} {i:Nat}:cel (rz f) i=f i:=rfl
theorem uW {f:Nat->Int} {i:Nat}:at_ (rz f i) 0=.i (f i):=rfl
theorem yL {x:AV} {l:Rs}:zAt (.c x::l) 0=match x with
 |.nI _ _ _ z=>z
 |_=>0:=rfl
theorem ap {n:Nat}:(n:Int).toNat=n:=Int.toNat_natCast n
theorem ai {p:Prop} [Decidable p] (h:decide p=true):p:=of_decide_eq_true h
theorem aQ {p:Prop} [Decidable p] (h:decide p=false):¬p:=of_decide_eq_false h
theorem dL {a b:Int} (h:(a==b)=true):a=b:=eq_of_beq h
theorem dn {a b:Int} (h:(a==b)=false):a≠b:=λe=>by rw[e]at h;simp at h
theorem cS {a b:Int} (h:(a !=b)=true):a≠b:=λe=>by rw[e]at h;simp at h
theorem uR {a b:Int} (h:(a !=b)=false):a=b:=by simpa using h
def cw1 (x:Lf) (c:Nat):Lf:=match c with
 |1=>.i x.Z
 |2=>.b x.X
 |3=>.f x.F
 |4=>.l x.N x.G
 |_=>.s x.O x.N
def cw (v:List Lf):Nat->Nat->Nat->List Lf
 |_,0,_=>[]
 |k,n+1,c=>cw1 (at_ v k) (Nat.mod c 8)::cw v (k+1) n (Nat.div c 8)
def ak (a b:List Lf):List Lf:=a++b
theorem mJ {x:Lf} {l m:List Lf}:ak (x::l) m=x::ak l m:=rfl
theorem ou {m:List Lf}:ak [] m=m:=rfl
theorem GB {v:List Lf} {k n c:Nat}:cw v k (n+1) c=cw1 (at_ v k) (c % 8)::cw v (k+1) n (c / 8):=rfl
theorem DB {v:List Lf} {k c:Nat}:cw v k 0 c=[]:=by unfold cw;rfl
theorem nM {x:Lf}:cw1 x 1=.i x.Z:=rfl
theorem oc {x:Lf}:cw1 x 2=.b x.X:=rfl
theorem oA {x:Lf}:cw1 x 3=.f x.F:=rfl
theorem oe {x:Lf}:cw1 x 4=.l x.N x.G:=rfl
theorem mC {x:Lf}:cw1 x 5=.s x.O x.N:=rfl
theorem sJ {i j w h:Nat} (hi:i<h) (hj:j<w):i*w+j<h*w:=by have:=Nat.mul_le_mul_right w (show i+1<=h from hi);rw[Nat.add_mul]at this;omega
theorem gJ {i r w:Nat} (h1:r*w<=i) (h2:i<r*w+w):i / w=r/\i % w=i-r*w:=by
 have hw:0<w:=ac;have e:i=w*r+(i-r*w):=by rw[Nat.mul_comm w r];omega
 have d:i / w=r:=by rw[e,Nat.mul_add_div hw,Nat.div_eq_of_lt ac];omega
 refine⟨d,?_⟩;have:=Nat.div_add_mod i w;rw[d,Nat.mul_comm w r]at this;omega
theorem O8 {i w h:Nat} (hi:i<w*h):i / w<h/\i % w<w/\i=i / w*w+i % w:=by
 have hw:0<w:=by
  rcases Nat.eq_zero_or_pos w with e | e
  .rw[e,Nat.zero_mul]at hi;omega
  .exact e
 have:=Nat.div_add_mod i w;rw[Nat.mul_comm]at this;exact⟨Nat.div_lt_of_lt_mul hi,Nat.mod_lt _ hw,this.symm⟩
theorem dB {W H x0 y0 s w h:Nat} (hw:x0+w<=W) (w1:1<=w) (hh:y0+(h-1)*s<H):y0*W+x0+(h-1)*(s*W)+w<=W*H:=by have:=sJ (i:=y0+(h-1)*s) (j:=x0+w-1) (w:=W) hh ac;rw[Nat.add_mul,Nat.mul_assoc,Nat.mul_comm H W]at this;omega
theorem ul {a b:Nat}:(a:Int)*(b:Int)=((a*b:Nat):Int):=rfl
theorem jl {a b:Nat}:(a:Int)+(b:Int)=((a+b:Nat):Int):=rfl
theorem mH {a:Nat}:(a:Int)+1=((a+1:Nat):Int):=rfl
theorem YC {a:Nat}:1*(a:Int)=(a:Int):=Int.one_mul _
theorem Yt {a:Nat}:2*(a:Int)=((2*a:Nat):Int):=rfl
theorem K6 {a:Nat}:8*(a:Int)=((8*a:Nat):Int):=rfl
theorem En {a:Nat}:16*(a:Int)=((16*a:Nat):Int):=rfl
theorem GI {a:Nat}:(a:Int)*8=((a*8:Nat):Int):=rfl
theorem De {a:Nat}:Int.tdiv (a:Int) 2=((a / 2:Nat):Int):=rfl
theorem sZ {a:Nat}:Int.tdiv (a:Int) 16=((a / 16:Nat):Int):=rfl
theorem H7 {a:Nat}:Int.tmod (a:Int) 2=((a % 2:Nat):Int):=rfl
theorem G0 {a:Nat}:Int.tmod (a:Int) 4=((a % 4:Nat):Int):=rfl
theorem sF {a:Nat}:Int.tmod (a:Int) 16=((a % 16:Nat):Int):=rfl
theorem h2_ {a:Nat}:2*a / 2=a:=ac
theorem ph2 {p a:Nat}:p*(2*a) / 2=p*a:=by rw[Nat.mul_left_comm];omega
end Go.Proofs.YtldmjbgplgoedaaGreatDoor
namespace Go.Proofs.YtldmjbgplgoedaaGreatDoor
noncomputable section
open Go.RowKit
abbrev aw (f:FuncId) (n:Func):FI:=⟨f,n,[],.tA,[]⟩
abbrev aj (a b:Int):AT:=.tX (.sO (.nI .i64 a b 0))
abbrev aD (a b:Int):AS:=.sO (.nI .i64 a b 0)
abbrev am (a b:Int):Run:=.c (.nI .i64 a b 0)
abbrev tXO (a:AV):AT:=.tX (.sO a)
abbrev aN:AT:=.tX (.sO (.nB true true false))
abbrev bm:AS:=.sO (.nB true true false)
abbrev av:Run:=.c (.nB true true false)
abbrev aA:Run:=.c (.nI .u8 16 16 16)
abbrev gp:AT:=aj (-9223372036854775808) 9223372036854775807
abbrev int_SM:AS:=aD (-9223372036854775808) 9223372036854775807
abbrev aO:Run:=am (-9223372036854775808) 9223372036854775807
def KX:KT:=[⟨1,[.c (.nI .u8 0 255 0)]⟩,⟨1,[aO]⟩,⟨1,[av]⟩,⟨1,[.c (.nR 0 0 1048576 0 g0)]⟩,⟨2,[aO,.c (.nR 0 0 1048576 0 g0)]⟩,⟨5,[aO,aO,.c (.nR 0 0 1048576 0 g0),.c (.nR 0 0 1048576 0 g0),.c (.nR 0 0 1048576 0 g0)]⟩,⟨408,[am 0 2,av,av,av,av,am (-63) 63,am (-63) 63,am (-63) 63,am (-63) 63,am (-63) 63,am (-63) 63,am (-63) 63,am (-63) 63,.a 4 .i64 0 1 z0,am 0 0,av,av,av,av,av,av,.a 384 .i64 (-4095) 4095 z0]⟩,⟨148,[aO,aO,aO,aO,aO,av,aO,aO,.a 64 .u8 0 255 z0,.a 64 .u8 0 255 z0,av,av,aO,aO,aO,aO,av,av,av,.c (.nR 3 0 1048576 0 g0),.c (.nR 4 0 1048576 0 g0),am 0 1048576]⟩,⟨11,[aO,aO,.c (.nR 0 0 1048576 0 g0),.c (.nR 0 0 1048576 0 g0),.c (.nR 0 0 1048576 0 g0),aO,aO,aO,av,aO,av]⟩,⟨6,[aO,aO,aO,aO,aO,aO]⟩,⟨6,[aO,aO,.c (.nR 0 0 1048576 0 g0),.c (.nR 0 0 1048576 0 g0),.c (.nR 0 0 1048576 0 g0),av]⟩,⟨4,[aO,aO,aO,aO]⟩,⟨1,[aO]⟩,⟨8,[aO,aO,aO,av,av,av,.c (.nR 3 0 1048576 0 g0),.c (.nR 4 0 1048576 0 g0)]⟩,⟨4,[aO,aO,aO,aO]⟩,⟨2,[aO,aO]⟩,⟨5,[aO,aO,.c (.nR 0 0 9223372036854775807 0 g0),.c (.nR 0 0 9223372036854775807 0 g0),.c (.nR 0 0 9223372036854775807 0 g0)]⟩]
def MX:List (TypeId × Nat):=[(5,0),(3,1),(4,2),(29,3),(50,4),(31,5),(127,6),(76,7),(80,8),(152,9),(159,10),(169,11),(2,12),(41,13),(240,14),(246,15)]
def altL:List Int:=[0,8,16,24,1,9,2,10,17,25,32,40,48,56,57,49,41,33,26,18,3,11,4,12,19,27,34,42,50,58,35,43,51,59,20,28,5,13,6,14,21,29,36,44,52,60,37,45,53,61,22,30,7,15,23,31,38,46,54,62,39,47,55,63]
def Qy (i:Nat):Int:=altL.getD i 0
def dinL:List Int:=[8,16,19,22,26,27,29,34,16,16,22,24,27,29,34,37,19,22,26,27,29,34,34,38,22,22,26,27,29,34,37,40,22,26,27,29,32,35,40,48,26,27,29,32,35,40,48,58,26,27,29,34,38,46,56,69,27,29,35,38,46,56,69,83]
def AQ (i:Nat):Int:=dinL.getD i 0
def GX:GT:=[(1,[.a 64 .i64 0 63 Qy]),(0,[.a 64 .u8 8 83 AQ])]
theorem LD:∀g rs,iQ GX g=some rs->cj rs=true:=λg rs h=>by
 unfold GX iQ at h
 split at h
 .cases h;rfl
 .unfold iQ at h
  split at h
  .cases h;rfl
  .cases h
theorem TX {tb:List CT} {FT:List FI} (h1:Zj KX Tryz.prog GX tb) (h2:Qx Tryz.prog FT):TOk Tryz.prog KX GX tb FT:=⟨t9 rfl,LD,(by kernel_rfl),h1,h2⟩
theorem aL {n n':Nat} {g:Nat->ae} {f:Nat->Int} (h:n=n') (hf:∀i,i<n->cel g i=f i):agV KX (.nR 0 0 0 0 g0) (.l n g) (.l n' (rz f)):=⟨h,λi hi=>by show[Run.c (AV.nI .u8 0 255 ((g i) 0).Z)]=[Run.c (AV.nI .u8 0 255 (f i))];rw[<-hf i hi]⟩
theorem gQ {n n':Nat} {g g':Nat->ae} (h:n=n') (hf:∀i,i<n->cel g i=cel g' i):agV KX (.nR 0 0 0 0 g0) (.l n g) (.l n' g'):=⟨h,λi hi=>by show[Run.c (AV.nI .u8 0 255 ((g i) 0).Z)]=[Run.c (AV.nI .u8 0 255 ((g' i) 0).Z)];rw[show((g i) 0).Z=((g' i) 0).Z from hf i hi]⟩
theorem pI {n n':Nat} {g:Nat->ae} {f:Nat->Int} {l l':ae} (h:n=n') (hf:∀i,i<n->cel g i=f i):agB KX (.dyn 0 0 0 0 0 g0 false) (.l n g::l) (.l n' (rz f)::l'):=⟨h,λi hi=>by show[Run.c (AV.nI .u8 0 255 ((g i) 0).Z)]=[Run.c (AV.nI .u8 0 255 (f i))];rw[<-hf i hi]⟩
abbrev sMA:Rs:=[am 0 2,av,av,av,av,am (-63) 63,am (-63) 63,am (-63) 63,am (-63) 63,am (-63) 63,am (-63) 63,am (-63) 63,am (-63) 63,.a 4 .i64 0 1 z0,am 0 0,av,av,av,av,av,av,.a 384 .i64 (-4095) 4095 z0]
abbrev sMP:Rs:=[am 2 2,av,av,av,av,am (-63) 63,am (-63) 63,am (-63) 63,am (-63) 63,am (-63) 63,am (-63) 63,am (-63) 63,am (-63) 63,.a 4 .i64 0 1 z0,am 0 0,av,av,av,av,av,av,.a 384 .i64 (-4095) 4095 z0]
abbrev sMI:Rs:=[am 1 1,.c (.nB true false false),.c (.nB true false false),.c (.nB true false false),av,am 0 0,am 0 0,am 0 0,am 0 0,am 0 0,am 0 0,am 0 0,am 0 0,.a 4 .i64 0 0 z0,am 0 0,.c (.nB false true false),.c (.nB false true false),.c (.nB false true false),.c (.nB false true false),.c (.nB false true false),.c (.nB false true false),.a 384 .i64 (-4095) 4095 z0]
abbrev bJ:Rs:=[am 16 16,am 16 16,.c (.nR 0 256 256 0 g0),.c (.nR 0 64 64 0 g0),.c (.nR 0 64 64 0 g0)]
abbrev sFF:Rs:=[am 2 64,am 2 64,.c (.nR 0 1 4096 0 g0),.c (.nR 0 1 1024 0 g0),.c (.nR 0 1 1024 0 g0)]
abbrev sFP:Rs:=[am 16 16,am 8 16,.c (.nR 0 128 256 0 g0),.c (.nR 0 32 64 0 g0),.c (.nR 0 32 64 0 g0)]
abbrev sFM:Rs:=[am 0 64,am 0 64,.c (.nR 0 0 4096 0 g0),.c (.nR 0 0 1024 0 g0),.c (.nR 0 0 1024 0 g0)]
noncomputable  def TT (Y:Wy) (tb:List CT) (FT:List FI) (fi:FI) (A:List AT) (M:List AB) (J:ae):T:=VG [Y] (gR Tryz.prog ⟨KX,GX,MX,inl Tryz.prog KX GX MX tb FT 8⟩ fi (au A J) (an M (tls (aG A) J)))
abbrev Pf0 (T:ae->T) (A:List AT) (M:List AB) (Y:Wy) (W:ae->ae):Prop:=∀J,bTs KX 1 (au A J)->bBs KX 1 (an M (tls (aG A) J))->Sa (T J) (λl=>(hd l).Z=0/\agW KX Y (tl l) (W J))
abbrev Pf1 (T:ae->T) (A:List AT) (M:List AB) (Y:Wy) (P:ae->Prop) (W:ae->ae):Prop:=∀J,bTs KX 1 (au A J)->bBs KX 1 (an M (tls (aG A) J))->P J->Sa (T J) (λl=>(hd l).Z=0/\agW KX Y (tl l) (W J))
structure SP where
 A:List AT
 M:List AB
 Y:Wy
 i:FI
 b:List CT
 t:List FI
noncomputable  abbrev rY (y:Wy):AT:=match y.sk with
 |[s]=>.tX s
 |l=>.tT l
noncomputable  abbrev mkS (Y:Wy) (f:FuncId) (n:Func) (A:List AT) (M:List AB) (l:List (Nat × LS)) (b:List CT:=[]) (t:List FI:=[]) (r:AT:=rY Y) (v:List Nat:=[]):SP:=⟨A,M,Y,⟨f,n,l,r,v⟩,b,t⟩
def TS (s:SP):ae->T:=TT s.Y s.b s.t s.i s.A s.M
abbrev TR (s:SP) (J:ae) (R:ae->Prop) (p:Prop):Prop:=((TS s J).sat (onA R))=p
abbrev TR1 (s:SP) (J:ae) (R:ae->Prop) (p:Prop):Prop:=((TS s J).sat1 (onA R))=p
abbrev PF0 (s:SP) (W:ae->ae):Prop:=Pf0 (TS s) s.A s.M s.Y W
abbrev PF1 (s:SP) (P:ae->Prop) (W:ae->ae):Prop:=Pf1 (TS s) s.A s.M s.Y P W
abbrev C0 (s:SP) (W:ae->ae):CT:=CS0 s.i.f s.A s.M s.Y W
abbrev C1 (s:SP) (P:ae->Prop) (W:ae->ae):CT:=CS s.i.f s.A s.M s.Y P W
abbrev PFd (s:SP) (P:ae->Prop):Prop:=∀J,bTs KX 1 (au s.A J)->bBs KX 1 (an s.M (tls (aG s.A) J))->P J->Sa1 (TS s J) (λl=>(hd l).Z=0)
abbrev CO (c:CT):Prop:=cV KX Tryz.prog GX c
theorem CX0 {s:SP} {W:ae->ae} (O:TOk Tryz.prog KX GX s.b s.t) (pf:PF0 s W) (h1:aS Tryz.prog s.i.f:=by intro _ _;kernel_rfl) (h2:Tryz.prog.funcs[s.i.f]? = some s.i.fn:=by kernel_rfl) (h3:∀J,kj (aY (au s.A J) (an s.M (tls (aG s.A) J))) (l6 0 s.M.length)=true:=by intro _;kernel_rfl):CO (C0 s W) :=Q4 (M:=MX) O 8 h1 h2 1 h3 λJ b1 b2=>by have h:=pf J b1 b2;unfold TS TT at h;exact h
theorem CX1 {s:SP} {P:ae->Prop} {W:ae->ae} (O:TOk Tryz.prog KX GX s.b s.t) (pf:PF1 s P W) (h1:aS Tryz.prog s.i.f:=by intro _ _;kernel_rfl) (h2:Tryz.prog.funcs[s.i.f]? = some s.i.fn:=by kernel_rfl) (h3:∀J,kj (aY (au s.A J) (an s.M (tls (aG s.A) J))) (l6 0 s.M.length)=true:=by intro _;kernel_rfl):CO (C1 s P W) :=Ti (M:=MX) O 8 h1 h2 1 h3 λJ b1 b2 b3=>by have h:=pf J b1 b2 b3;unfold TS TT at h;exact h
theorem FK {fi:FI} {l:List FI} (h:Qx Tryz.prog l) (h1:aS Tryz.prog fi.f:=by intro _ _;kernel_rfl) (h2:Tryz.prog.funcs[fi.f]? = some fi.fn:=by kernel_rfl):Qx Tryz.prog (fi::l):=⟨⟨h1,h2⟩,h⟩
theorem CXd (s:SP) {P:ae->Prop} (O:TOk Tryz.prog KX GX s.b s.t) (pf:∀J,bTs KX 1 (au s.A J)->bBs KX 1 (an s.M (tls (aG s.A) J))->P J->Sa1 (TS s J) (λl=>(hd l).Z=0)) (h1:aS Tryz.prog s.i.f:=by intro _ _;kernel_rfl) (h2:Tryz.prog.funcs[s.i.f]? = some s.i.fn:=by kernel_rfl) (h3:∀J,kj (aY (au s.A J) (an s.M (tls (aG s.A) J))) (l6 0 s.M.length)=true:=by intro _;kernel_rfl):CO (CS s.i.f s.A s.M s.Y P λJ=>tl (evW (TS s J))) :=aad (M:=MX) O 8 h1 h2 1 h3 λJ b1 b2 b3=>by have h:=pf J b1 b2 b3;unfold TS TT at h;exact h
namespace U
abbrev k0:Nat:=30305361337124168849
abbrev k1:Nat:=30766937640657705144864600426160834663227862744116540461478249272457
abbrev k2:Nat:=22364978177034248598323705713241
abbrev k3:Nat:=10042898424393
abbrev k4:Nat:=20076363565321
abbrev k5:Nat:=260321071672822271796652053081
abbrev k6:Nat:=938932423115774693141619886052271565650264365497756449306350729
abbrev k7:Nat:=657862281308457225
abbrev k8:Nat:=22115536627426539203765393
abbrev k9:Nat:=14452654374862000713
abbrev k10:Nat:=82232785163555977
abbrev k11:Nat:=1969084009002093129271334427274293418446583215623458589534607953437257
abbrev k12:Nat:=924846232212041
abbrev k13:Nat:=509690323968543750253012240867913
abbrev k14:Nat:=22942146918368691674316741593353
abbrev k15:Nat:=124130760036860595606665
abbrev k16:Nat:=15253530150349588302089622714289151334390894807878768017453998858155955778357066217596495778321545
abbrev k17:Nat:=85315621097695345300001929
abbrev k18:Nat:=16914302843481119171533363350843961307472236068090541784922858040389020466596105
abbrev k19:Nat:=700138760936544545724998217
abbrev k20:Nat:=336735712364809
abbrev k21:Nat:=1379269477846258825
abbrev k22:Nat:=5460199750252502099200123465
abbrev k23:Nat:=19879581491785
abbrev k24:Nat:=24633942678605178102874472072184129177865
abbrev k25:Nat:=63063122245438853545076345873878057349626871522643975001281719011939465
abbrev k26:Nat:=504774888440034935940900721059607686306497845741548714531683269335094409
abbrev k27:Nat:=76303872130553265927141524340366992830053735920904653688035365451911764892642562332775074272393
abbrev k28:Nat:=124436114260562447376083896585
abbrev k29:Nat:=5601110087492356365799985737
abbrev k30:Nat:=330305205665329563502817950093783955812632906017358829436444440152883722386183305
abbrev k31:Nat:=1634061850755193185500520655361213316301831088688354585561782154101090961453841757017225
abbrev k32:Nat:=416858620993682674290165727431761699910793
abbrev k33:Nat:=104579987175886548166986913655828770510466973963434011398601334626321090471537358376572041
abbrev k34:Nat:=516183558455844701279704692103392373885261110476395928494960267345856337481
end U
namespace U
abbrev r0:Run:=av
abbrev r1:Run:=am (-63) 63
abbrev r2:Run:=am 0 64
abbrev r3:Run:=.c (.nR 0 0 1024 0 g0)
abbrev r4:Run:=.a 64 .u8 0 255 z0
abbrev r5:Run:=aO
abbrev r6:Run:=.c (.nB true false false)
abbrev r7:Run:=.c (.nR 0 0 4096 0 g0)
abbrev r8:Run:=am 1 3
abbrev r9:Run:=am 0 0
abbrev r10:Run:=am 16 64
abbrev r11:Run:=.a 64 .i64 0 0 z0
abbrev r12:Run:=.c (.nR 0 1 1024 0 g0)
abbrev r13:Run:=am 2 64
abbrev r14:Run:=am 1 31
abbrev r15:Run:=am 0 1023
abbrev r16:Run:=.c (.nB false true false)
abbrev r17:Run:=.c (.nK (.slice none 0 0))
abbrev r18:Run:=.c (.nR 0 1 4096 0 g0)
abbrev r19:Run:=am 1 1048576
abbrev r20:Run:=am 1 65536
abbrev r21:Run:=am 1 16777216
abbrev r22:Run:=am 1 8388608
abbrev r23:Run:=.a 4 .i64 0 1 z0
abbrev r24:Run:=am 2 2
abbrev r25:Run:=.a 384 .i64 (-4095) 4095 z0
abbrev r26:Run:=.a 3 .i64 (-4095) 4095 z0
abbrev r27:Run:=am 1 64
abbrev r28:Run:=am 3 3
abbrev r29:Run:=.c (.nR 0 64 64 0 g0)
abbrev r30:Run:=.a 64 .i64 0 63 z0
abbrev r31:Run:=.a 64 .i64 (-12) 12 z0
abbrev r32:Run:=.a 3 .i64 0 0 z0
abbrev r33:Run:=am 1 1
abbrev r34:Run:=am 0 8000000
abbrev r35:Run:=am 0 1
abbrev r36:Run:=.c (.nR 0 256 256 0 g0)
abbrev r37:Run:=am 16 16
abbrev r38:Run:=.a 384 .i64 0 0 z0
abbrev r39:Run:=.c (.nR 0 0 1048576 0 g0)
abbrev r40:Run:=am 0 48
abbrev r41:Run:=.c (.nR 3 0 1048576 0 g0)
abbrev r42:Run:=.c (.nR 4 0 1048576 0 g0)
abbrev qL0:Rs:=[r8,r8,r0,r0,r10,r10,r19,r20,r0,r21,r22,r4,r4,r8,r8,r15,r0,r0,r0,r14,r13,r13,r18,r12,r12,r2,r2,r7,r3,r3,r2,r2,r7,r3,r3,r2,r2,r7,r3,r3,r2,r2,r7,r3,r3,r2,r2,r7,r3,r3,r2,r2,r7,r3,r3,r2,r2,r7,r3,r3,r2,r2,r7,r3,r3,r2,r2,r7,r3,r3,r13,r13,r18,r12,r12]
abbrev qL1:Rs:=[r8,r8,r0,r0,r10,r10,r19,r20,r0,r21,r22,r4,r4,r24,r8,r15,r0,r0,r0,r14,r13,r13,r18,r12,r12,r2,r2,r7,r3,r3,r2,r2,r7,r3,r3,r2,r2,r7,r3,r3,r2,r2,r7,r3,r3,r2,r2,r7,r3,r3,r2,r2,r7,r3,r3,r2,r2,r7,r3,r3,r2,r2,r7,r3,r3,r2,r2,r7,r3,r3,r13,r13,r18,r12,r12]
abbrev qL2:Rs:=[r8,r8,r0,r0,r10,r10,r19,r20,r0,r21,r22,r4,r4,r28,r8,r15,r0,r0,r0,r14,r13,r13,r18,r12,r12,r2,r2,r7,r3,r3,r2,r2,r7,r3,r3,r2,r2,r7,r3,r3,r2,r2,r7,r3,r3,r2,r2,r7,r3,r3,r2,r2,r7,r3,r3,r2,r2,r7,r3,r3,r2,r2,r7,r3,r3,r2,r2,r7,r3,r3,r13,r13,r18,r12,r12]
abbrev qL3:Rs:=[r8,r8,r0,r0,r10,r10,r19,r20,r0,r21,r22,r4,r4,r8,r8,r15,r0,r0,r0,r14,r13,r13,r18,r12,r12,r2,r2,r7,r3,r3,r2,r2,r7,r3,r3,r2,r2,r7,r3,r3,r2,r2,r7,r3,r3,r2,r2,r7,r3,r3,r2,r2,r7,r3,r3,r2,r2,r7,r3,r3,r2,r2,r7,r3,r3,r2,r2,r7,r3,r3,.a 2 .i64 2 64 z0,r18,r12,r12]
abbrev qL4:Rs:=[am 0 2,r0,r0,r0,r6,r1,r1,r1,r1,r1,r1,r1,r1,r23,r9,r6,r6,r6,r6,r6,r6,r38,am 0 2,r0,r0,r0,r6,r1,r1,r1,r1,r1,r1,r1,r1,r23,r9,r6,r6,r6,r6,r6,r6,r38]
abbrev qL5:Rs:=[r5,r5,r5,r5,r5,r0,r5,r5,r4,r4,r0,r0,r5,r5,r5,r5,r0,r0,r0,r41,r42,am 0 1048576]
abbrev qL6:Rs:=[am 0 2,r0,r0,r0,r0,r1,r1,r1,r1,r1,r1,r1,r1,r23,r9,r0,r0,r0,r0,r0,r0,r25,r34,r14,r26,r1,r1,r1,r1]
abbrev qL7:Rs:=[r10,r10,r19,r20,r0,r21,r22,r4,r4,r0,r0,r0,r14,.c (.nR 5 1 6 0 g0),.c (.nR 1 1 6 0 g0),.c (.nD 3 7 1 40 0 0),.c (.nD 2 5 1 6 0 0),r2,r2,r7,r3,r3,r2,r2,r7,r3,r3,am 0 6]
abbrev qL8:Rs:=[r10,r10,r19,r20,r0,r21,r22,r4,r4,r0,r0,r0,r14,.c (.nR 5 1 6 0 g0),.c (.nR 1 1 6 0 g0),.c (.nD 1 7 1 40 0 0),.c (.nD 2 5 1 6 0 0),r2,r2,r7,r3,r3,r2,r2,r7,r3,r3,am 0 6]
abbrev qL9:Rs:=[r10,r10,r19,r20,r0,r21,r22,r4,r4,r0,r0,r0,r14,.c (.nR 5 1 6 0 g0),.c (.nR 1 1 6 0 g0),.c (.nD 4 7 1 40 0 0),.c (.nD 5 5 1 6 0 0),r2,r2,r7,r3,r3,r2,r2,r7,r3,r3,am 0 6]
abbrev ada:Rs:=[r5,r5,r5,r5,r0,r5,r5,r4,r4,.c (.nR 5 0 4 0 g0),.c (.nR 1 0 9223372036854775807 0 g0),r0,r0,r0,r5]
abbrev acO:Rs:=[r24,r16,r6,r6,r0,r1,r1,r1,r1,r1,r1,r1,r1,r23,r9,r0,r0,r0,r0,r0,r0,r25]
abbrev aeb:Rs:=[r24,r16,r6,r16,r0,r1,r1,r1,r1,r1,r1,r1,r1,r23,r9,r0,r0,r0,r0,r0,r0,r25]
abbrev adr:Rs:=[r24,r6,r16,r6,r0,r1,r1,r1,r1,r1,r1,r1,r1,r23,r9,r0,r0,r0,r0,r0,r0,r25]
abbrev aes:Rs:=[r24,r6,r16,r16,r0,r1,r1,r1,r1,r1,r1,r1,r1,r23,r9,r0,r0,r0,r0,r0,r0,r25]
abbrev akK:Rs:=[r24,r16,r16,r6,r0,r1,r1,r1,r1,r1,r1,r1,r1,r23,r9,r0,r0,r0,r0,r0,r0,r25]
abbrev adU:Rs:=[r24,r16,r16,r16,r0,r1,r1,r1,r1,r1,r1,r1,r1,r23,r9,r0,r0,r0,r0,r0,r0,r25]
abbrev qL17:Rs:=[r33,r0,r0,r0,r0,r1,r1,r1,r1,r1,r1,r1,r1,r23,r9,r0,r0,r0,r0,r0,r0,r25]
abbrev gj:Rs:=[r9,r6,r6,r6,r6,r9,r9,r9,r9,r9,r9,r9,r9,.a 4 .i64 0 0 z0,r9,r6,r6,r6,r6,r6,r6,r38]
abbrev Zf:Rs:=[r5,r5,r5,r5,r0,r5,r5,r4,r4]
abbrev ZO:Rs:=[r2,r2,r7,r3,r3,r2,r2,r7,r3,r3,r2,r2,r7,r3,r3]
abbrev po:Rs:=[.c .nU,.c .nU,.c .nU,.c .nU,r0,.c .nU,.c .nU,.c .nU,.c .nU,.c .nU,.c .nU,.c .nU,.c .nU,.c .nU,.c .nU,.c .nU,.c .nU,.c .nU,r0,r0,r0,r0,r0,r0,r25]
abbrev abf:Rs:=[r9,r6,r6,r6,r6,.a 13 .i64 0 0 z0,r6,r6,r6,r6,r6,r6,r38]
abbrev ajW:Rs:=[r5,r5,r5,r0,r0,r0,r41,r42]
abbrev Sc:Rs:=[r14,r26,r1,r1,r1,r1,.c (.nP 1 0),r8,r8,r0,r0,.c (.nP 2 0)]
abbrev ZN:Rs:=[r14,r26,r1,r1,r1,r1,.c (.nP 1 0),am 2 3,r8,r0,r0,.c (.nP 2 0)]
abbrev qL26:Rs:=[r14,r26,r1,r1,r1,r1,.c (.nP 1 0),r33,r8,r0,r0,.c (.nP 2 0)]
abbrev ac6:Rs:=[r5,r5,r5,r0,r0,r0]
abbrev uL:Rs:=[r14,r26,.a 2 .i64 (-63) 63 z0,r1,r1,.c (.nP 1 0),r8,r8,r0,r0,.c (.nP 2 0)]
abbrev aaL:Rs:=[r10,r10,r19,r20,r16,r21,r22,r4,r4]
abbrev X5:Rs:=[r10,r10,r19,r20,r6,r21,r22,r4,r4]
abbrev acr:Rs:=[r10,r10,r19,r20,r0,r21,r22,r4,r4]
abbrev aeo:Rs:=[r14,r26,.a 2 .i64 (-63) 63 z0,.a 2 .i64 (-63) 63 z0,.c (.nP 1 0),r8,r8,r0,r0,.c (.nP 2 0)]
abbrev we:Rs:=[r5,r5,r39,r39,r39]
abbrev aeD:Rs:=[r8,r8,r15,r0,r0,r0,r17,r17]
abbrev YP:Rs:=[r8,r8,r15,r0,r0,r0,r17,.c (.nR 4 1 4 0 g0)]
abbrev lh:Rs:=[.c (.nR 0 128 256 0 g0),r40,r40,r13,r13,r18,r12,r12]
abbrev La:Rs:=[.c (.nR 0 128 256 0 g0),r40,r40,r2,r2,r7,r3,r3]
abbrev adX:Rs:=[r0,r0,r0,r0,r0,r0]
abbrev acS:Rs:=[r14,r26,r1,r1,r1,r1]
abbrev ack:Rs:=[r8,r8,r15,r0,r0,r0]
abbrev adA:Rs:=[r24,r28,r15,r0,r0,r0]
abbrev ac0:Rs:=[r28,r28,r15,r0,r0,r0]
abbrev aj9:Rs:=[r36,r36,r29,r29,r29,r29]
abbrev YI:Rs:=[r5,r5]
abbrev aep:Rs:=[r37,r37,.c (.nD 2 0 256 256 0 0),.c (.nD 3 0 64 64 0 0),.c (.nD 4 0 64 64 0 0)]
abbrev ad5:Rs:=[.a 2 .i64 0 0 z0,r17,r17,r17]
abbrev gt:Rs:=[.c .nU,.c .nU,.c .nU,.c .nU,.c .nU,.c .nU,.c .nU,r4,r4]
abbrev Ux:Rs:=[r8,r28,r0,r6]
abbrev aaX:Rs:=[r8,am 1 2,r16,r0]
abbrev VC:Rs:=[r8,r8,r0,r0]
abbrev A4:Rs:=[am 0 4096,am 1 128,r27,r27]
abbrev aaQ:Rs:=[r2,r2,am 8 16,am 4 16]
abbrev HP:Rs:=[r5,r39]
abbrev oI:Rs:=[r0,r0,r0]
abbrev uI:Rs:=[r1,r1,am 0 65280]
abbrev lN:Rs:=[.a 64 .i64 (-9223372036854775808) 9223372036854775807 z0]
abbrev nu:Rs:=[.c (.nD 2 0 0 1000000 0 0),r34]
abbrev Qh:Rs:=[.c (.nD 1 0 0 1000000 0 0),r34]
abbrev uX:Rs:=[.c (.nD 3 0 0 1000000 0 0),r34]
abbrev Y2:Rs:=[.c (.nD 4 0 0 1000000 0 0),r34]
abbrev adT:Rs:=[r1,r1]
abbrev adI:Rs:=[r0,r0]
abbrev ad3:Rs:=[r17,r9]
abbrev Y3:Rs:=[r9,r17]
abbrev O9:Rs:=[am 1 4,.c (.nR 0 1 1048576 0 g0)]
abbrev MV:Rs:=[r29,r29]
abbrev RT:Rs:=[am 0 255,.c (.nR 0 1 16 0 g0)]
abbrev aef:Rs:=[.a 64 .i64 (-310311387136) 310311387136 z0]
abbrev YO:Rs:=[.a 64 .i64 (-4095000000) 4095000000 z0]
abbrev Zm:Rs:=[.a 64 .i64 (-1000000) 1000000 z0]
abbrev Qw:Rs:=[.a 64 .i64 (-2097152) 2097152 z0]
abbrev pe:Rs:=[.a 64 .i64 (-2350080) 2350080 z0]
abbrev QR:Rs:=[.a 64 .i64 (-900000) 900000 z0]
abbrev XF:Rs:=[.a 64 .i64 (-24480) 24480 z0]
abbrev aic:Rs:=[.a 64 .i64 (-18496) 18496 z0]
abbrev afS:Rs:=[.a 64 .i64 (-4095) 4095 z0]
abbrev aie:Rs:=[r17]
abbrev ajp:Rs:=[.a 64 .i64 (-255) 255 z0]
end U
end
end Go.Proofs.YtldmjbgplgoedaaGreatDoor
