import Derived.Test.YtldmjbgplgoedaaGreatDoorRp22
set_option linter.all false
namespace Go.Proofs.YtldmjbgplgoedaaGreatDoor
noncomputable section
open Go.RowKit U
theorem Wp (v:Int) : -2097152<=clZ v/\clZ v<=2097152:=by unfold clZ;omega
theorem wq {a b A B:Int} (h1 : -A<=a) (h2:a<=A) (h3 : -B<=b) (h4:b<=B) : -(A*B)<=a*b/\a*b<=A*B:=by
 have hA:0<=A:=ac;have hB:0<=B:=ac;have:=Int.mul_nonneg hA hB;have k1:=Int.mul_nonneg (show 0<=A-a by omega) (show 0<=B-b by omega)
 have k2:=Int.mul_nonneg (show 0<=A+a by omega) (show 0<=B+b by omega)
 have k3:=Int.mul_nonneg (show 0<=A-a by omega) (show 0<=B+b by omega)
 have k4:=Int.mul_nonneg (show 0<=A+a by omega) (show 0<=B-b by omega)
 rw[Int.sub_mul,Int.mul_sub,Int.mul_sub]at k1;rw[Int.add_mul,Int.mul_add,Int.mul_add]at k2;rw[Int.sub_mul,Int.mul_add,Int.mul_add]at k3;rw[Int.add_mul,Int.mul_sub,Int.mul_sub]at k4
 constructor<;>omega
theorem xc {f:Nat->Int} {B:Int} (h:∀l,l<8->-B<=f l/\f l<=B) : -(8*B)<=oG f/\oG f<=8*B:=by have h0:=h 0 afH;have h1:=h 1 afH;have h2:=h 2 afH;have h3:=h 3 afH;have h4:=h 4 afH;have h5:=h 5 afH;have h6:=h 6 afH;have h7:=h 7 afH;unfold oG;omega
theorem Sg {y:Nat->Int} {i:Nat} (hi:i<64) : -310311387136<=ivR y i/\ivR y i<=310311387136:=by
 have:=xc (f:=λj=>mmF (i % 8+8*j)*clZ (y (8*(i / 8)+j))) (B:=18496*2097152) λl hl=>by have m:=zA (i % 8+8*l) ac;have c:=Wp (y (8*(i / 8)+l));exact wq m.1 m.2 c.1 c.2
 unfold ivR;omega
theorem Un {y:Nat->Int} {i:Nat} (hi:i<64) : -900000<=ivF y i/\ivF y i<=900000:=by
 have:=xc (f:=λk=>mmF (i / 8+8*k)*ivR y (8*k+i % 8)) (B:=18496*310311387136) λl hl=>by have m:=zA (i / 8+8*l) ac;have c:=Sg (y:=y) (i:=8*l+i % 8) ac;exact wq m.1 m.2 c.1 c.2
 unfold ivF Yb;omega
def bkC (n:Nat):Nat:=if n<4 then 0 else n-3
def bkN (c:Nat):Nat:=if c=0 then 256 else 64
def rpZ (f:Nat->Int) (n:Nat) (fd:Bool) (r:Nat->Int) (i:Nat):Int:=jK (rz f) (rz (qq λk=>f (bkI n fd k)+r k)) (plF n fd) (plS n fd) 8 8 i
theorem VI {f:Nat->Int} {n:Nat} {fd:Bool} {r:Nat->Int} {i:Nat} (h:0<=f i/\f i<=255):0<=rpZ f n fd r i/\rpZ f n fd r i<=255:=by
 unfold rpZ jK
 split
 .rw[jm];unfold qq;omega
 .exact h
theorem yh {g:Nat->ae} {f x r:Nat->Int} {n N:Nat} {fd:Bool} (hg:∀i,i<N->cel g i=f i) (hx:∀k,k<64->x k=f (bkI n fd k)+r k):∀i,i<N->cel (xA g n fd x) i=rpZ f n fd r i:=λi hi=>by
 unfold xA rpZ;rw[jm];unfold jK
 split
 .rename_i h;rw[jm,jm];unfold qq;rw[hx _ (by have:=h.2.1;omega)]
 .exact hg i hi
def adR (lv:Nat->Int) (al:Bool) (m:Nat->Int) (q:Int) (n:Nat):Nat->Int:=ivF λk=>lv (unF al k+n*64)*stF (m k) q k
def adF (cd:Nat->Bool) (fd:Bool) (r:Nat->Nat->Int) (g:Nat->Nat->Int):Nat->Nat->Nat->Int
 |0,c,i=>g c i
 |n+1,c,i=>if cd n=true/\bkC n=c then rpZ (adF cd fd r g n c) n fd (r n) i else adF cd fd r g n c i
theorem y5 {cd:Nat->Bool} {fd:Bool} {r g:Nat->Nat->Int} (h:∀c,c<3->∀i,i<bkN c->0<=g c i/\g c i<=255):∀n c,c<3->∀i,i<bkN c->0<=adF cd fd r g n c i/\adF cd fd r g n c i<=255
 |0,c,hc,i,hi=>h c hc i hi
 |n+1,c,hc,i,hi=>by
  unfold adF
  split
  .exact VI (y5 h n c hc i hi)
  .exact y5 h n c hc i hi
theorem qa {n:Nat} {fd:Bool} (hn:n<6) {k:Nat} (hk:k<64):bkI n fd k<bkN (bkC n):=by
 unfold bkN bkC
 by_cases h:n<4
 .rw[if_pos h,if_pos rfl];exact Vp hk h
 .rw[if_neg h,if_neg ac,No hk ac];exact hk
theorem Nn {cd:Nat->Bool} {fd:Bool} {r g:Nat->Nat->Int} {n c i:Nat} (hc:cd n=true):adF cd fd r g (n+1) c i=if bkC n=c then rpZ (adF cd fd r g n c) n fd (r n) i else adF cd fd r g n c i:=by
 show(if _ then _ else _)=_
 by_cases h:bkC n=c
 .rw[if_pos ⟨hc,h⟩,if_pos h]
 .rw[if_neg λq=>h q.2,if_neg h]
theorem C7 {cd:Nat->Bool} {fd:Bool} {r g:Nat->Nat->Int} {n c i:Nat} (hc:cd n=false):adF cd fd r g (n+1) c i=adF cd fd r g n c i:=by
 show(if _ then _ else _)=_
 rw[if_neg (by rw[hc];simp)]
def AdE (d:Nat->Nat->Int) (x:(Nat->ae) × (Nat->ae) × (Nat->ae)):Prop:=(∀i,i<256->cel x.1 i=d 0 i)/\(∀i,i<64->cel x.2.1 i=d 1 i)/\∀i,i<64->cel x.2.2 i=d 2 i
theorem AdE.skip {cd:Nat->Bool} {fd:Bool} {r g:Nat->Nat->Int} {n:Nat} {x:(Nat->ae) × (Nat->ae) × (Nat->ae)} (h:AdE (adF cd fd r g n) x) (hc:cd n=false):AdE (adF cd fd r g (n+1)) x :=⟨λi hi=>by rw[C7 hc];exact h.1 i hi,λi hi=>by rw[C7 hc];exact h.2.1 i hi,λi hi=>by rw[C7 hc];exact h.2.2 i hi⟩
theorem AdE.blk {d:Nat->Nat->Int} {x:(Nat->ae) × (Nat->ae) × (Nat->ae)} (h:AdE d x) {n:Nat} (hn:n<6) {fd:Bool} {k:Nat} (hk:k<64):cel (if(n:Int)=4 then x.2.1 else if(n:Int)=5 then x.2.2 else x.1) (bkI n fd k)=d (bkC n) (bkI n fd k):=by
 have hb:=qa (fd:=fd) hn hk
 by_cases h4:n=4
 .subst h4;rw[if_pos (by rfl)];exact h.2.1 _ hb
 .rw[if_neg ac]
  by_cases h5:n=5
  .subst h5;rw[if_pos (by rfl)];exact h.2.2 _ hb
  .rw[if_neg ac];have e:bkC n=0:=by unfold bkC;rw[if_pos ac]
   rw[e]at hb ⊢;exact h.1 _ hb
theorem AdE.put {cd:Nat->Bool} {fd:Bool} {r g:Nat->Nat->Int} {n:Nat} {x:(Nat->ae) × (Nat->ae) × (Nat->ae)} (h:AdE (adF cd fd r g n) x) (hn:n<6) (hc:cd n=true) {v:Nat->Int} (hx:∀k,k<64->v k=adF cd fd r g n (bkC n) (bkI n fd k)+r n k) :
 AdE (adF cd fd r g (n+1)) (if(n:Int)<=3 then xA x.1 n fd v else x.1,if(n:Int)=4 then xA x.2.1 n fd v else x.2.1,if(n:Int)=5 then xA x.2.2 n fd v else x.2.2):=by
 refine⟨λi hi=>?_,λi hi=>?_,λi hi=>?_⟩
 .rw[Nn hc]
  by_cases q:n<=3
  .have e:bkC n=0:=by unfold bkC;rw[if_pos ac]
   rw[e]at hx;rw[if_pos e];simp only[if_pos (show(n:Int)<=3 by omega)]
   exact yh h.1 hx i hi
  .have e:bkC n≠0:=by unfold bkC;rw[if_neg ac];omega
   rw[if_neg e];simp only[if_neg (show ¬ (n:Int)<=3 by omega)]
   exact h.1 i hi
 .rw[Nn hc]
  by_cases q:n=4
  .have e:bkC n=1:=by subst q;rfl
   rw[e]at hx;rw[if_pos e];simp only[if_pos (show(n:Int)=4 by omega)]
   exact yh h.2.1 hx i hi
  .have e:bkC n≠1:=by unfold bkC;split<;>omega
   rw[if_neg e];simp only[if_neg (show ¬ (n:Int)=4 by omega)]
   exact h.2.1 i hi
 .rw[Nn hc]
  by_cases q:n=5
  .have e:bkC n=2:=by subst q;rfl
   rw[e]at hx;rw[if_pos e];simp only[if_pos (show(n:Int)=5 by omega)]
   exact yh h.2.2 hx i hi
  .have e:bkC n≠2:=by unfold bkC;split<;>omega
   rw[if_neg e];simp only[if_neg (show ¬ (n:Int)=5 by omega)]
   exact h.2.2 i hi
theorem iC {K:KT} {c:Cx} {k:IntKind} {lo hi lo' hi' z:Int} {r:List AT}:∀ {p:List AT} {vs:List Value},allAt K c (p++tXO (.nI k lo hi z)::r) vs->lo'<=z->z<=hi'->allAt K c (p++tXO (.nI k lo' hi' z)::r) vs
 |[],[],h,_,_=>by have:=h.1;simp at this
 |[],v::vs,h,h1,h2=>by rw[List.nil_append,allAt_cons]at h ⊢;obtain⟨e,-,-,g⟩:=is_I.1 h.1;exact⟨is_I.2 ⟨e,h1,h2,g⟩,h.2⟩
 |a::p,[],h,_,_=>by have:=h.1;simp at this
 |a::p,v::vs,h,h1,h2=>by rw[List.cons_append,allAt_cons]at h ⊢;exact⟨h.1,iC h.2 h1 h2⟩
abbrev acL:List AT:=[.tX (.sA bJ),aj 0 0,aj 0 0,aj 0 5,aN,.tX (.sA Zm)]
abbrev afz:List AB:=[]
abbrev ae2:Wy:=sK.Y
def act (J:ae):Prop:=cI J
def Et (J:ae):ae:=[.i 16,.i 16,.l 256 (if(J 7).Z<=3 then xA (J 2).G (J 7).Z.toNat (J 8).X (J 9).F else(J 2).G),.l 64 (if(J 7).Z=4 then xA (J 3).G (J 7).Z.toNat (J 8).X (J 9).F else(J 3).G),.l 64 (if(J 7).Z=5 then xA (J 4).G (J 7).Z.toNat (J 8).X (J 9).F else(J 4).G),.i 0]
abbrev ad1:CT:=CS 248 acL afz ae2 act Et
theorem RW:cV KX Tryz.prog GX ad1:=⟨sbkY_ct.call,λJ c w vs Q hG hm hv hQ=>by
 have b1:bTs KX 1 (au acL J):=kx hv;obtain⟨-,-,-,z,-⟩:=b1;have za:0<=(J 7).Z:=z.1;have zb:(J 7).Z<=5:=z.2;clear z;have hv:allAt KX c ([_,_,_]++tXO (.nI .i64 0 5 (J 7).Z)::[_,_]) vs:=hv;obtain⟨hP,hQ⟩:=hQ
 by_cases h3:(J 7).Z<=3
 .refine sbkY_ct.ok J c w vs Q hG hm (iC (p:=[_,_,_]) hv za h3) ⟨hP,?_⟩
  have e:Et J=Aw J:=by unfold Et Aw;rw[if_pos h3,if_neg ac,if_neg ac]
  rw[e]at hQ;exact hQ
 .by_cases h4:(J 7).Z=4
  .refine sbkU_ct.ok J c w vs Q hG hm (iC (p:=[_,_,_]) hv (show 4<=(J 7).Z by omega) (show(J 7).Z<=4 by omega)) ⟨hP,?_⟩
   have e:Et J=wB J:=by unfold Et wB;rw[if_neg h3,if_pos h4,if_neg ac]
   rw[e]at hQ;exact hQ
  .refine sbkV_ct.ok J c w vs Q hG hm (iC (p:=[_,_,_]) hv (show 5<=(J 7).Z by omega) (show(J 7).Z<=5 by omega)) ⟨hP,?_⟩
   have e:Et J=AI J:=by unfold Et AI;rw[if_neg h3,if_neg h4,if_pos ac]
   rw[e]at hQ;exact hQ⟩
def adC (J:ae):Nat->Bool:=bAt [(J 9).X,(J 10).X,(J 11).X,(J 12).X,(J 13).X,(J 14).X]
def adD (J:ae):Nat->Nat->Nat->Int:=adF (adC J) (J 8).X (adR (J 15).F (J 7).X (J 5).F (J 6).Z) λc=>cel (J (2+c)).G
def Te (J:ae):Prop:=cI J/\vmP (J 5).F
def Qv (J:ae):ae:=[.i 16,.i 16,.l 256 (rz (adD J 6 0)),.l 64 (rz (adD J 6 1)),.l 64 (rz (adD J 6 2)),.i 0,.b (J 8).X,.b (J 9).X,.b (J 10).X,.b (J 11).X,.b (J 12).X,.b (J 13).X,.b (J 14).X,.f (J 15).F]
abbrev Ol:SP:=mkS ⟨[.sA bJ,aD 0 0],[.run 127 po]⟩ 165 Tryz.f165 [.tX (.sA bJ),tXO (.nP 0 0),.tX (.sA [r4]),aj 1 31,aN] [.run 127 po] [(2,.head ⟨[(1,tXO (.nP 0 0)),(3,aj 1 31),(4,aN),(5,tXO (.nP 1 0)),(7,tXO (.nP 2 0)),(10,tXO (.nP 3 0)),(22,.tX (.sA adX)),(23,aj 0 1048576)],[.run 127 po,.run 31 bJ,.run 24 [r4],.run 31 ad5],[]⟩),(12,.head ⟨[(1,tXO (.nP 0 0)),(3,aj 1 31),(4,aN),(5,tXO (.nP 1 0)),(7,tXO (.nP 2 0)),(10,tXO (.nP 3 0)),(12,aj 0 1048576),(16,tXO (.nP 4 0)),(22,.tX (.sA adX)),(23,aj 0 1048576),(62,.tX (.sA QR)),(63,aj 0 1048576)],[.run 127 po,.run 31 bJ,.run 24 [r4],.run 31 ad5,.run 124 [.a 64 .i64 (-1800000) 1800255 z0]],[]⟩)] [ad4,ac5,ZH,adQ,ad1]
theorem HX J R:TR Ol J R (∃(I0:ae->Prop) (μ0:ae->Nat),I0 [.i (J 6).Z,.b (J 7).X,.b (J 9).X,.b (J 10).X,.b (J 11).X,.b (J 12).X,.b (J 13).X,.b (J 14).X,.i 0,.b (J 8).X,.b (J 9).X,.b (J 10).X,.b (J 11).X,.b (J 12).X,.b (J 13).X,.b (J 14).X,.f (J 15).F,.i (J 0).Z,.i (J 1).Z,.l (J 2).N (J 2).G,.l (J 3).N (J 3).G,.l (J 4).N (J 4).G,.f (J 5).F,.f (λ_=>0)]/\∀l0,I0 l0->((decide ((l0 8).Z<6))->((l0 8).Z<6)/\((!(bAt [(l0 2).X,(l0 3).X,(l0 4).X,(l0 5).X,(l0 6).X,(l0 7).X] (l0 8).Z.toNat))->(((l0 8).Z+1)<=1048576)/\Ag I0 μ0 l0 (ak [.i (l0 0).Z,.b (l0 1).X,.b (l0 2).X,.b (l0 3).X,.b (l0 4).X,.b (l0 5).X,.b (l0 6).X,.b (l0 7).X,.i ((l0 8).Z+1)] (cw l0 9 15 15157097473170)))/\((!(bAt [(l0 2).X,(l0 3).X,(l0 4).X,(l0 5).X,(l0 6).X,(l0 7).X] (l0 8).Z.toNat))=false->(0<=(l0 8).Z)/\((l0 8).Z<6)/\let x0:ae:=[.f (λi0=>(l0 16).F (i0+((l0 8).Z.toNat*64))),.b (l0 1).X];let x1:ae:=Vm x0;let x2:ae:=[.f (x1 0).F,.f (l0 22).F,.i (l0 0).Z];(Yg x2)/\let x3:ae:=Rl x2;((l0 8).Z<=5)/\let x4:ae:=[.i (l0 17).Z,.i (l0 18).Z,.l (l0 19).N (l0 19).G,.l (l0 20).N (l0 20).G,.l (l0 21).N (l0 21).G,.i 0,.i 0,.i (l0 8).Z,.b (l0 9).X];(QE x4)/\let x5:ae:=KO x4;let x6:ae:=[.f (x3 0).F];let x7:ae:=Us x6;∃(I1:ae->Prop) (μ1:ae->Nat),I1 (ak [.i (l0 0).Z,.b (l0 1).X,.i (l0 8).Z,.b (l0 2).X,.b (l0 3).X,.b (l0 4).X,.b (l0 5).X,.b (l0 6).X,.b (l0 7).X,.i (l0 8).Z,.f (x7 0).F,.i 0] (ak (cw l0 9 15 15157097473170) [.f (x5 0).F]))/\∀l1,I1 l1->((decide ((l1 11).Z<64))->((l1 11).Z<64)/\(0<=(l1 11).Z)/\((l1 11).Z<64)/\(0<=(l1 11).Z)/\((l1 11).Z<64)/\(((l1 11).Z+1)<=1048576)/\(∀i,i<64->(-1800000)<=(upd (l1 27).F ((l1 11).Z.toNat*1) (((l1 27).F (0+((l1 11).Z.toNat*1)))+((l1 10).F (l1 11).Z.toNat))) i/\(upd (l1 27).F ((l1 11).Z.toNat*1) (((l1 27).F (0+((l1 11).Z.toNat*1)))+((l1 10).F (l1 11).Z.toNat))) i<=1800255)/\Ag I1 μ1 l1 (ak [.i (l1 0).Z,.b (l1 1).X,.i (l1 2).Z,.b (l1 3).X,.b (l1 4).X,.b (l1 5).X,.b (l1 6).X,.b (l1 7).X,.b (l1 8).X,.i (l1 9).Z,.f (l1 10).F,.i ((l1 11).Z+1)] (ak (cw l1 12 15 15157097473170) [.f (upd (l1 27).F ((l1 11).Z.toNat*1) (((l1 27).F (0+((l1 11).Z.toNat*1)))+((l1 10).F (l1 11).Z.toNat)))])))/\((decide ((l1 11).Z<64))=false->((l1 2).Z<=5)/\(∀i,i<64->(-1000000)<=(l1 27).F i/\(l1 27).F i<=1000000)/\let x8:ae:=[.i (l1 20).Z,.i (l1 21).Z,.l (l1 22).N (l1 22).G,.l (l1 23).N (l1 23).G,.l (l1 24).N (l1 24).G,.i 0,.i 0,.i (l1 2).Z,.b (l1 12).X,.f (l1 27).F];(act x8)/\let x9:ae:=Et x8;(((l1 9).Z+1)<=1048576)/\Ag I0 μ0 l0 [.i (l1 0).Z,.b (l1 1).X,.b (l1 3).X,.b (l1 4).X,.b (l1 5).X,.b (l1 6).X,.b (l1 7).X,.b (l1 8).X,.i ((l1 9).Z+1),.b (l1 12).X,.b (l1 13).X,.b (l1 14).X,.b (l1 15).X,.b (l1 16).X,.b (l1 17).X,.b (l1 18).X,.f (l1 19).F,.i (x9 0).Z,.i (x9 1).Z,.l (x9 2).N (x9 2).G,.l (x9 3).N (x9 3).G,.l (x9 4).N (x9 4).G,.f (l1 25).F,.f (l1 26).F])))/\((decide ((l0 8).Z<6))=false-> R [.i 0,.i (l0 17).Z,.i (l0 18).Z,.l (l0 19).N (l0 19).G,.l (l0 20).N (l0 20).G,.l (l0 21).N (l0 21).G,.i 0,.b (l0 9).X,.b (l0 10).X,.b (l0 11).X,.b (l0 12).X,.b (l0 13).X,.b (l0 14).X,.b (l0 15).X,.f (l0 16).F])):=af
theorem Ww:PF1 Ol Te Qv:=λJ b1 b2 hp=>⟨by
 rw[HX];obtain⟨⟨c0,c1,c2,c3,c4,-⟩,-,⟨c5,-⟩,c6,-⟩:=b1;have c0a:16<=(J 0).Z:=c0.1;have c0b:(J 0).Z<=16:=c0.2;have c1a:16<=(J 1).Z:=c1.1;have c1b:(J 1).Z<=16:=c1.2;have c2a:256<=(J 2).N:=c2.1;have c2b:(J 2).N<=256:=c2.2.1;have c3a:64<=(J 3).N:=c3.1;have c3b:(J 3).N<=64:=c3.2.1;have c4a:64<=(J 4).N:=c4.1;have c4b:(J 4).N<=64:=c4.2.1;have c6a:1<=(J 6).Z:=c6.1;have c6b:(J 6).Z<=31:=c6.2;have c2c:∀i,i<(J 2).N->0<=cel (J 2).G i/\cel (J 2).G i<=255:=λi hi=>(c2.2.2 i hi).1;have c3c:∀i,i<(J 3).N->0<=cel (J 3).G i/\cel (J 3).G i<=255:=λi hi=>(c3.2.2 i hi).1;have c4c:∀i,i<(J 4).N->0<=cel (J 4).G i/\cel (J 4).G i<=255:=λi hi=>(c4.2.2 i hi).1;clear c0 c1 c2 c3 c4 c5 c6;obtain⟨hf,hv⟩:=hp;have eW:(J 0).Z=16:=ac;have eH:(J 1).Z=16:=ac;have e2:(J 2).N=256:=ac;have e3:(J 3).N=64:=ac;have e4:(J 4).N=64:=ac
 have hin:∀n c,c<3->∀i,i<bkN c->0<=adD J n c i/\adD J n c i<=255:=y5 λc hc i hi=>by
  rcases(show c=0\/c=1\/c=2 by omega)with rfl | rfl | rfl
  .exact c2c i (by rw[e2];exact hi)
  .exact c3c i (by rw[e3];exact hi)
  .exact c4c i (by rw[e4];exact hi)
 have E0:AdE (adD J 0) ((J 2).G,(J 3).G,(J 4).G):=⟨λ_ _=>rfl,λ_ _=>rfl,λ_ _=>rfl⟩;have hf16:fmB 16 16 256 64 64=true:=afH;rw[eW,eH,e2,e3,e4];refine aZ 6 8 (λn x=>AdE (adD J n) x) (λs n x=>set_ (set_ (set_ (set_ s 8 (.i n)) 19 (.l 256 x.1)) 20 (.l 64 x.2.1)) 21 (.l 64 x.2.2)) (λi _ _=>rfl) ((J 2).G,(J 3).G,(J 4).G) rfl E0 λI μ hA n x hn hx=>?_;simp only[bA,bz,mJ,ou,GB,DB,nM,oc,oA,oe,mC,List.cons_append,List.nil_append,Nat.reduceMod,Nat.reduceDiv,Nat.reduceAdd,bx,bE,Z_i,X_b,F_f,O_s,N_s,N_l,G_l,ap]at hA ⊢;refine br_ (λq=>?_) λq=>?_
 .have q:=ai q;refine⟨q,λq1=>?_,λq1=>?_⟩
  .have q1:adC J n=false:=by
    show bAt _ n=false
    simpa using q1
   exact⟨ac,hA n x x _ ac (hx.skip q1) rfl⟩
  .have q1:adC J n=true:=by
    show bAt _ n=true
    simpa using q1
   simp only[Vm,Yg,Rl,QE,KO,cI,Us,act,Et,cpG,bx,bE,Z_i,X_b,F_f,O_s,N_s,N_l,G_l,ap];refine⟨ac,q,hv,ac,hf16,?_⟩;have B:∀k,k<64->0<=adD J n (bkC n) (bkI n (J 8).X k)/\adD J n (bkC n) (bkI n (J 8).X k)<=255:=λk hk=>hin n _ (by unfold bkC;split<;>omega) _ (qa ac hk)
   have R:∀k,k<64->-900000<=adR (J 15).F (J 7).X (J 5).F (J 6).Z n k/\adR (J 15).F (J 7).X (J 5).F (J 6).Z n k<=900000:=λk hk=>Un hk;refine aZ 64 11 (λr (v:Nat->Int)=>∀k,k<64->v k=if k<r then adD J n (bkC n) (bkI n (J 8).X k)+adR (J 15).F (J 7).X (J 5).F (J 6).Z n k else adD J n (bkC n) (bkI n (J 8).X k)) (λs r v=>set_ (set_ s 11 (.i r)) 27 (.f v)) (λi _ _=>rfl) _ rfl (λk hk=>by rw[if_neg (Nat.not_lt_zero k)];exact hx.blk ac hk) λI1 μ1 hA1 r v hr hg=>?_
   simp only[bA,bz,mJ,ou,GB,DB,nM,oc,oA,oe,mC,List.cons_append,List.nil_append,Nat.reduceMod,Nat.reduceDiv,Nat.reduceAdd,bx,bE,Z_i,X_b,F_f,O_s,N_s,N_l,G_l,ap]at hA1 ⊢;refine br_ (λq2=>?_) λq2=>?_
   .have q2:=ai q2
    have st:∀k,k<64->upd v (r*1) (v (0+r*1)+adR (J 15).F (J 7).X (J 5).F (J 6).Z n r) k=if k<r+1 then adD J n (bkC n) (bkI n (J 8).X k)+adR (J 15).F (J 7).X (J 5).F (J 6).Z n k else adD J n (bkC n) (bkI n (J 8).X k):=λk hk=>by
     unfold upd
     by_cases e:k=r*1
     .rw[if_pos e,if_pos ac,Nat.zero_add,<-e,hg _ ac,if_neg ac,show r=k by omega]
     .rw[if_neg e,hg k hk]
      by_cases e2:k<r
      .rw[if_pos e2,if_pos ac]
      .rw[if_neg e2,if_neg ac]
    refine⟨q2,ac,q2,ac,q2,ac,λi hi=>?_,hA1 r v _ _ ac st rfl⟩;have b1:=B i hi;have b2:=R i hi;have b3:=st i hi;show -1800000<=upd v (r*1) (v (0+r*1)+adR (J 15).F (J 7).X (J 5).F (J 6).Z n r) i/\upd v (r*1) (v (0+r*1)+adR (J 15).F (J 7).X (J 5).F (J 6).Z n r) i<=1800255;rw[b3]
    split<;>omega
   .have q2:=aQ q2;have hg:∀k,k<64->v k=adD J n (bkC n) (bkI n (J 8).X k)+adR (J 15).F (J 7).X (J 5).F (J 6).Z n k:=λk hk=>by rw[hg k hk,if_pos ac]
    refine⟨ac,λi hi=>?_,hf16,ac,hA n x _ _ ac (hx.put ac q1 hg) rfl⟩;have b1:=B i hi;have b2:=R i hi;rw[hg i hi];omega
 .have q:=aQ q;have q:n=6:=ac;subst q;exact⟨rfl,⟨⟨rfl,rfl,aL rfl hx.1,aL rfl hx.2.1,aL rfl hx.2.2,ah⟩,rfl,ah⟩,bI _ _⟩⟩
abbrev X9:CT:=C1 Ol Te Qv
theorem yR:CO X9:=CX1 (TX ⟨Sz,Va,JQ,S3,RW,ah⟩ ah) Ww
end
end Go.Proofs.YtldmjbgplgoedaaGreatDoor
namespace Go.Proofs.YtldmjbgplgoedaaGreatDoor
noncomputable section
open Go.RowKit U
def eQ (st:Int) (il se:Bool):Prop:=(st≠3->il=true)/\(st=3->se=false)
def Cv (st:Int) (il fd:Bool):Prop:=fd=true->il=true/\st=3
def G8 (J:ae):Prop:=eQ (J 1).Z (J 2).X (J 3).X
def C2 (_:ae):ae:=[.b true]
abbrev Nc:SP:=mkS ⟨[.sO (.nB false true false)],[]⟩ 231 Tryz.f231 [.tX (.sA VC)] [] []
theorem HM J R:TR Nc J R (BR ((J 1).Z !=3) (((J 2).X=true)/\R [.i 0,.b (J 2).X]) (((!(J 3).X)=true)/\R [.i 0,.b (!(J 3).X)])):=af
theorem Wv:PF1 Nc G8 C2:=λJ b1 b2 hp=>⟨by
 rw[HM];obtain⟨h1,h2⟩:=hp;refine br_ (λq=>?_) λq=>?_
 .have q:=h1 (cS q);exact⟨q,rfl,⟨q,ah⟩,ah⟩
 .have q:=h2 (uR q);have q:(!(J 3).X)=true:=by rw[q];rfl
  exact⟨q,rfl,⟨q,ah⟩,ah⟩⟩
abbrev A9:CT:=C1 Nc G8 C2
theorem hJ:CO A9:=CX1 (TX trivial ah) Wv
def Ni (J:ae):Prop:=Cv (J 1).Z (J 2).X (J 8).X
def Ek (J:ae):ae:=.b true::tls 4 J
abbrev sQ:SP:=mkS ⟨[.sO (.nB false true false)],[.run 127 sMI]⟩ 240 Tryz.f240 [.tX (.sA VC),tXO (.nP 0 0)] [.run 127 sMI] [] [] [(aw 311 Tryz.f311),(aw 303 Tryz.f303),(aw 299 Tryz.f299)]
theorem wK J R:TR sQ J R (((J 2).X->(((J 1).Z==3)->R (ak [.i 0,.b true] (cw J 4 22 k0)))/\(((J 1).Z==3)=false->((!(J 8).X)->R (ak [.i 0,.b true] (cw J 4 22 k0)))/\((!(J 8).X)=false->False)))/\((J 2).X=false->((!(J 8).X)->R (ak [.i 0,.b true] (cw J 4 22 k0)))/\((!(J 8).X)=false-> False))):=af
theorem LB:PF1 sQ Ni Ek:=λJ b1 b2 hp=>⟨by
 rw[wK]
 have fin:(hd ([.i 0,.b true]++cw J 4 22 k0)).Z=0/\agW KX sQ.Y (tl ([.i 0,.b true]++cw J 4 22 k0)) (Ek J):=by
  refine⟨rfl,⟨rfl,ah⟩,?_,ah⟩
  repeat (first|exact trivial | refine And.intro (by first|rfl | exact λ_ _=>rfl | exact⟨rfl,λ_ _=>rfl⟩) ?_)
 have hp:Cv (J 1).Z (J 2).X (J 8).X:=hp;refine br_ (λq=>br_ (λq1=>fin) λq1=>br_ (λq2=>fin) λq2=>?_) λq=>br_ (λq1=>fin) λq1=>?_
 .exact dn q1 (hp (by simpa using q2)).2
 .have:=(hp (by simpa using q1)).1
  rw[q]at this;cases this⟩
abbrev Nu:CT:=C1 sQ Ni Ek
theorem zZ:CO Nu:=CX1 (TX trivial (FK (FK (FK ah)))) LB
def PV (J:ae):ae:=.b true::J
abbrev yQ:SP:=mkS ⟨[.sO (.nB false true false)],[.run 127 sMI]⟩ 241 Tryz.f241 [tXO (.nP 0 0)] [.run 127 sMI] [(2,.head ⟨[(0,tXO (.nP 0 0)),(6,aj 0 1048576)],[.run 127 sMI],[]⟩),(5,.head ⟨[(0,tXO (.nP 0 0)),(6,aj 0 1048576),(14,.tX (.sA afS)),(15,aj 0 1048576)],[.run 127 sMI],[]⟩)] [] [(aw 299 Tryz.f299)]
theorem xV J R:TR yQ J R (∃(I0:ae->Prop) (μ0:ae->Nat),I0 (ak [.i 0] (cw J 0 22 k0))/\∀l0,I0 l0->((decide ((l0 0).Z<6))->(0<=(l0 0).Z)/\((l0 0).Z<6)/\∃(I1:ae->Prop) (μ1:ae->Nat),I1 (ak [.i (l0 0).Z,.f (λi0=>(l0 22).F (i0+((l0 0).Z.toNat*64))),.i 0] (cw l0 1 22 k0))/\∀l1,I1 l1->((decide ((l1 2).Z<64))->((l1 2).Z<64)/\(((l1 2).Z+1)<=1048576)/\Ag I1 μ1 l1 (ak [.i (l1 0).Z,.f (l1 1).F,.i ((l1 2).Z+1)] (cw l1 3 22 k0)))/\((decide ((l1 2).Z<64))=false->(((l1 0).Z+1)<=1048576)/\Ag I0 μ0 l0 (ak [.i ((l1 0).Z+1)] (cw l1 3 22 k0))))/\((decide ((l0 0).Z<6))=false-> R (ak [.i 0,.b true] (cw l0 1 22 k0)))):=af
theorem Pv:PF0 yQ PV:=λJ b1 b2=>⟨by
 rw[xV];refine jo 6 0 (λi s=>set_ s 0 (.i i)) (λi _=>rfl) rfl λI μ hA n hn=>?_;simp only[bA,bz,mJ,ou,GB,DB,nM,oc,oA,oe,mC,List.cons_append,List.nil_append,Nat.reduceMod,Nat.reduceDiv,Nat.reduceAdd,bx,bE,Z_i,X_b,F_f,O_s,N_s,N_l,G_l,ap]at hA ⊢;refine br_ (λq=>?_) λq=>?_
 .have q:(n:Int)<6:=ai q;refine⟨Int.natCast_nonneg n,q,jo 64 2 (λi s=>set_ s 2 (.i i)) (λi _=>rfl) rfl λI1 μ1 hA1 m hm=>?_⟩;simp only[bA,bz,mJ,ou,GB,DB,nM,oc,oA,oe,mC,List.cons_append,List.nil_append,Nat.reduceMod,Nat.reduceDiv,Nat.reduceAdd,bx,bE,Z_i,X_b,F_f,O_s,N_s,N_l,G_l,ap]at hA1 ⊢;refine br_ (λq1=>?_) λq1=>?_
  .have q1:(m:Int)<64:=ai q1;exact⟨q1,show(m:Int)+1<=1048576 by omega,hA1 m _ ac rfl⟩
  .exact⟨show(n:Int)+1<=1048576 by omega,hA n _ ac rfl⟩
 .refine⟨rfl,⟨rfl,ah⟩,?_,ah⟩
  repeat (first|exact trivial | refine And.intro (by first|rfl | exact λ_ _=>rfl | exact⟨rfl,λ_ _=>rfl⟩) ?_)⟩
abbrev L1:CT:=C0 yQ PV
theorem AL:CO L1:=CX0 (TX trivial (FK ah)) Pv
def oR (J:ae):Prop:=eQ (J 1).Z (J 2).X (J 3).X/\Cv (J 1).Z (J 2).X (J 8).X
def ye (_:ae):ae:=[.b true]
abbrev xW:SP:=mkS ⟨[.sO (.nB false true false)],[]⟩ 163 Tryz.f163 [.tX (.sA VC),.tX (.sA sMI)] [] [] [A9,Nu,L1] [(aw 239 Tryz.f239),(aw 242 Tryz.f242),(aw 303 Tryz.f303),(aw 312 Tryz.f312),(aw 333 Tryz.f333),(aw 249 Tryz.f249),(aw 300 Tryz.f300),(aw 299 Tryz.f299),(aw 243 Tryz.f243)]
theorem AA J R:TR xW J R (let x0:ae:=(cw J 0 4 1161);(G8 x0)/\let x1:ae:=C2 x0;let x2:ae:=(cw J 0 26 k15);(Ni x2)/\let x3:ae:=Ek x2;let x4:ae:=(cw x3 1 22 k0);let x5:ae:=PV x4;R [.i 0,.b (x5 0).X]):=af
theorem PF:PF1 xW oR ye:=λJ b1 b2 hp=>⟨by rw[AA];exact⟨hp.1,hp.2,rfl,⟨rfl,ah⟩,ah⟩⟩
abbrev zB:CT:=C1 xW oR ye
theorem rg:CO zB:=CX1 (TX ⟨hJ,zZ,AL,ah⟩ (FK (FK (FK (FK (FK (FK (FK (FK (FK ah)))))))))) PF
def yo (J:ae):Prop:=eQ (J 1).Z (J 2).X (J 3).X/\(J 0).Z≠1
def HY (_:ae):ae:=[.b true]
abbrev wV:SP:=mkS ⟨[.sO (.nB false true false)],[]⟩ 163 Tryz.f163 [.tX (.sA VC),.tX (.sA gj)] [] [] [A9] [(aw 239 Tryz.f239),(aw 240 Tryz.f240),(aw 311 Tryz.f311),(aw 303 Tryz.f303),(aw 299 Tryz.f299),(aw 241 Tryz.f241),(aw 242 Tryz.f242),(aw 312 Tryz.f312),(aw 333 Tryz.f333),(aw 249 Tryz.f249),(aw 300 Tryz.f300),(aw 243 Tryz.f243)]
theorem wF J R:TR wV J R (let x0:ae:=(cw J 0 4 1161);(G8 x0)/\let x1:ae:=C2 x0;BR ((J 0).Z==1) (False) (R [.i 0,.b true])):=af
theorem MI:PF1 wV yo HY:=λJ b1 b2 hp=>⟨by rw[wF];exact⟨hp.1,λq=>hp.2 (dL q),λq=>⟨rfl,⟨rfl,ah⟩,ah⟩⟩⟩
abbrev y4:CT:=C1 wV yo HY
theorem frmS_ct:CO y4:=CX1 (TX ⟨hJ,ah⟩ (FK (FK (FK (FK (FK (FK (FK (FK (FK (FK (FK (FK ah))))))))))))) MI
def lm (st:Int) (u fp:Bool) (x0 y0 x1 y1 s0 s1:Int):Prop:=(u=false->x0=0/\y0=0/\x1=0/\y1=0/\s0=0/\s1=0)/\(fp=false->x1=0/\y1=0/\s1=0)/\(fp=false->st=3->s0=0)
def UX (ty st:Int) (il u0 u1 fp:Bool):Prop:=(ty=2->u0=true/\u1=false)/\(u0=true\/u1=true)/\(fp=true->il=true/\st=3)
def XI (st:Int) (il fd:Bool) (cd:Nat->Bool) (lv:Nat->Int):Prop:=(∀n,n<6->cd n=!bu 64 (λi=>lv (i+n*64)) λ_=>0)/\(fd=true->(il=true/\st=3)/\∃n,n<6/\cd n=true)
def D3 (J:ae):Prop:=XI (J 1).Z (J 2).X (J 8).X (bAt [(J 19).X,(J 20).X,(J 21).X,(J 22).X,(J 23).X,(J 24).X]) (J 25).F
def FQ (J:ae):ae:=.b true::tls 4 J
abbrev sE:SP:=mkS ⟨[.sO (.nB false true false)],[.run 127 sMP]⟩ 240 Tryz.f240 [.tX (.sA VC),tXO (.nP 0 0)] [.run 127 sMP] [] [] [(aw 311 Tryz.f311),(aw 303 Tryz.f303),(aw 299 Tryz.f299)]
theorem wW J R:TR sE J R (((!(!((!(J 19).X)&&((!(J 20).X)&&((!(J 21).X)&&((!(J 22).X)&&((!(J 23).X)&&(!(J 24).X))))))))->((!(J 8).X)->R (ak [.i 0,.b true] (cw J 4 22 k0)))/\((!(J 8).X)=false->False))/\((!(!((!(J 19).X)&&((!(J 20).X)&&((!(J 21).X)&&((!(J 22).X)&&((!(J 23).X)&&(!(J 24).X))))))))=false->((J 2).X->(((J 1).Z==3)->R (ak [.i 0,.b true] (cw J 4 22 k0)))/\(((J 1).Z==3)=false->((!(J 8).X)->R (ak [.i 0,.b true] (cw J 4 22 k0)))/\((!(J 8).X)=false->False)))/\((J 2).X=false->((!(J 8).X)->R (ak [.i 0,.b true] (cw J 4 22 k0)))/\((!(J 8).X)=false-> False)))):=af
theorem O6:PF1 sE D3 FQ:=λJ b1 b2 hp=>⟨by
 rw[wW]
 have fin:(hd ([.i 0,.b true]++cw J 4 22 k0)).Z=0/\agW KX sE.Y (tl ([.i 0,.b true]++cw J 4 22 k0)) (FQ J):=by
  refine⟨rfl,⟨rfl,ah⟩,?_,ah⟩
  repeat (first|exact trivial | refine And.intro (by first|rfl | exact λ_ _=>rfl | exact⟨rfl,λ_ _=>rfl⟩) ?_)
 obtain⟨-,hp⟩:=hp;refine br_ (λq=>br_ (λq1=>fin) λq1=>?_) λq=>br_ (λq=>br_ (λq1=>fin) λq1=>br_ (λq2=>fin) λq2=>?_) λq=>br_ (λq1=>fin) λq1=>?_
 .obtain⟨-,n,hn,h⟩:=hp (by simpa using q1)
  simp only[Bool.not_not,Bool.and_eq_true,Bool.not_eq_true']at q;obtain⟨e0,e1,e2,e3,e4,e5⟩:=q;rw[e0,e1,e2,e3,e4,e5]at h;rcases(show n=0\/n=1\/n=2\/n=3\/n=4\/n=5 by omega)with rfl | rfl | rfl | rfl | rfl | rfl<;>cases h
 .exact dn q1 (hp (by simpa using q2)).1.2
 .have:=(hp (by simpa using q1)).1.1
  rw[q]at this;cases this⟩
abbrev Xq:CT:=C1 sE D3 FQ
theorem Me:CO Xq:=CX1 (TX trivial (FK (FK (FK ah)))) O6
def NP (J:ae):ae:=.b true::J
abbrev xB:SP:=mkS ⟨[.sO (.nB false true false)],[.run 127 sMP]⟩ 241 Tryz.f241 [tXO (.nP 0 0)] [.run 127 sMP] [(2,.head ⟨[(0,tXO (.nP 0 0)),(6,aj 0 1048576)],[.run 127 sMP],[]⟩),(5,.head ⟨[(0,tXO (.nP 0 0)),(6,aj 0 1048576),(14,.tX (.sA afS)),(15,aj 0 1048576)],[.run 127 sMP],[]⟩)] [] [(aw 299 Tryz.f299)]
theorem xP J R:TR xB J R (∃(I0:ae->Prop) (μ0:ae->Nat),I0 (ak [.i 0] (cw J 0 22 k0))/\∀l0,I0 l0->((decide ((l0 0).Z<6))->(0<=(l0 0).Z)/\((l0 0).Z<6)/\∃(I1:ae->Prop) (μ1:ae->Nat),I1 (ak [.i (l0 0).Z,.f (λi0=>(l0 22).F (i0+((l0 0).Z.toNat*64))),.i 0] (cw l0 1 22 k0))/\∀l1,I1 l1->((decide ((l1 2).Z<64))->((l1 2).Z<64)/\(((l1 2).Z+1)<=1048576)/\Ag I1 μ1 l1 (ak [.i (l1 0).Z,.f (l1 1).F,.i ((l1 2).Z+1)] (cw l1 3 22 k0)))/\((decide ((l1 2).Z<64))=false->(((l1 0).Z+1)<=1048576)/\Ag I0 μ0 l0 (ak [.i ((l1 0).Z+1)] (cw l1 3 22 k0))))/\((decide ((l0 0).Z<6))=false-> R (ak [.i 0,.b true] (cw l0 1 22 k0)))):=af
theorem Po:PF0 xB NP:=λJ b1 b2=>⟨by
 rw[xP];refine jo 6 0 (λi s=>set_ s 0 (.i i)) (λi _=>rfl) rfl λI μ hA n hn=>?_;simp only[bA,bz,mJ,ou,GB,DB,nM,oc,oA,oe,mC,List.cons_append,List.nil_append,Nat.reduceMod,Nat.reduceDiv,Nat.reduceAdd,bx,bE,Z_i,X_b,F_f,O_s,N_s,N_l,G_l,ap]at hA ⊢;refine br_ (λq=>?_) λq=>?_
 .have q:(n:Int)<6:=ai q;refine⟨Int.natCast_nonneg n,q,jo 64 2 (λi s=>set_ s 2 (.i i)) (λi _=>rfl) rfl λI1 μ1 hA1 m hm=>?_⟩;simp only[bA,bz,mJ,ou,GB,DB,nM,oc,oA,oe,mC,List.cons_append,List.nil_append,Nat.reduceMod,Nat.reduceDiv,Nat.reduceAdd,bx,bE,Z_i,X_b,F_f,O_s,N_s,N_l,G_l,ap]at hA1 ⊢;refine br_ (λq1=>?_) λq1=>?_
  .have q1:(m:Int)<64:=ai q1;exact⟨q1,show(m:Int)+1<=1048576 by omega,hA1 m _ ac rfl⟩
  .exact⟨show(n:Int)+1<=1048576 by omega,hA n _ ac rfl⟩
 .refine⟨rfl,⟨rfl,ah⟩,?_,ah⟩
  repeat (first|exact trivial | refine And.intro (by first|rfl | exact λ_ _=>rfl | exact⟨rfl,λ_ _=>rfl⟩) ?_)⟩
abbrev RF:CT:=C0 xB NP
theorem L2:CO RF:=CX0 (TX trivial (FK ah)) Po
def Z1 (J:ae):Prop:=∀n,n<6->bAt [(J 15).X,(J 16).X,(J 17).X,(J 18).X,(J 19).X,(J 20).X] n=!bu 64 (λi=>(J 21).F (i+n*64)) λ_=>0
def abd (J:ae):ae:=.b true::J
abbrev OA:SP:=mkS ⟨[.sO (.nB false true false)],[.run 127 sMP]⟩ 243 Tryz.f243 [tXO (.nP 0 0)] [.run 127 sMP] [(2,.head ⟨[(0,tXO (.nP 0 0)),(8,.tX (.sA adX)),(9,aj 0 1048576)],[.run 127 sMP],[]⟩)]
theorem CD J R:TR OA J R (∃(I0:ae->Prop) (μ0:ae->Nat),I0 (ak [.b (J 15).X,.b (J 16).X,.b (J 17).X,.b (J 18).X,.b (J 19).X,.b (J 20).X,.i 0] (cw J 0 22 k0))/\∀l0,I0 l0->((decide ((l0 6).Z<6))->((l0 6).Z<6)/\(0<=(l0 6).Z)/\((l0 6).Z<6)/\(((bAt [(l0 0).X,(l0 1).X,(l0 2).X,(l0 3).X,(l0 4).X,(l0 5).X] (l0 6).Z.toNat)==(bu 64 (λi0=>(l0 28).F (i0+((l0 6).Z.toNat*64))) (λ_=>0)))->False)/\(((bAt [(l0 0).X,(l0 1).X,(l0 2).X,(l0 3).X,(l0 4).X,(l0 5).X] (l0 6).Z.toNat)==(bu 64 (λi0=>(l0 28).F (i0+((l0 6).Z.toNat*64))) (λ_=>0)))=false->(((l0 6).Z+1)<=1048576)/\Ag I0 μ0 l0 (ak [.b (l0 0).X,.b (l0 1).X,.b (l0 2).X,.b (l0 3).X,.b (l0 4).X,.b (l0 5).X,.i ((l0 6).Z+1)] (cw l0 7 22 k0))))/\((decide ((l0 6).Z<6))=false-> R (ak [.i 0,.b true] (cw l0 7 22 k0)))):=af
theorem TZ:PF1 OA Z1 abd:=λJ b1 b2 hp=>⟨by
 rw[CD];refine jo 6 6 (λi s=>set_ s 6 (.i i)) (λi _=>rfl) rfl λI μ hA n hn=>?_;simp only[bA,bz,mJ,ou,GB,DB,nM,oc,oA,oe,mC,List.cons_append,List.nil_append,Nat.reduceMod,Nat.reduceDiv,Nat.reduceAdd,bx,bE,Z_i,X_b,F_f,O_s,N_s,N_l,G_l,ap]at hA ⊢;refine br_ (λq=>?_) λq=>?_
 .have q:(n:Int)<6:=ai q;refine⟨q,Int.natCast_nonneg n,q,λq1=>?_,λ_=>⟨show(n:Int)+1<=1048576 by omega,hA n _ ac rfl⟩⟩
  have h:=hp n ac;have q1:(bAt [(J 15).X,(J 16).X,(J 17).X,(J 18).X,(J 19).X,(J 20).X] n==bu 64 (λi=>(J 21).F (i+n*64)) λ_=>0)=true:=q1;rw[h]at q1
  revert q1
  cases bu 64 (λi=>(J 21).F (i+n*64)) λ_=>0<;>simp
 .refine⟨rfl,⟨rfl,ah⟩,?_,ah⟩
  repeat (first|exact trivial | refine And.intro (by first|rfl | exact λ_ _=>rfl | exact⟨rfl,λ_ _=>rfl⟩) ?_)⟩
abbrev aez:CT:=C1 OA Z1 abd
theorem W4:CO aez:=CX1 (TX trivial ah) TZ
end
end Go.Proofs.YtldmjbgplgoedaaGreatDoor
