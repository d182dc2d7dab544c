import Derived.Test.YtldmjbgplgoedaaGreatDoorRp27
set_option linter.all false
namespace Go.Proofs.YtldmjbgplgoedaaGreatDoor
noncomputable section
open Go.RowKit U
theorem kmp {a b:Prop} (h:a) (e:a=b:=by kernel_rfl):b:=e ▸ h
def LY:ae->Nat->ae->ae
 |l,_,[]=>l
 |l,k,x::r=>LY (set_ l k x) (k+1) r
def lvL (x m:Nat->Int) (q:Int) (al:Bool) (p:Nat):Int:=qzF (fwF x (scF al p).toNat) (stF (m (scF al p).toNat) q (scF al p).toNat)
theorem S6 {a s:Int} (h0:0<=a) (hs:0<s):0<=lvF a s/\lvF a s<=a / s+1:=by
 have:=Int.ediv_nonneg h0 (show 0<=s by omega)
 unfold lvF
 split<;>omega
theorem TI {v s B:Int} (h1 : -(4080*B)<=v) (h2:v<=4080*B) (hB:0<B) (hs:B<=s) : -4095<=qzF v s/\qzF v s<=4095:=by
 have k:∀a,0<=a->a<=4080*B->0<=lvF a s/\lvF a s<=4095:=λa a0 a1=>by
  have hq:a / s<=4080:=by
   have h3:4080*B<=4080*s:=Int.mul_le_mul_of_nonneg_left hs afH;have h4:a<=4080*s:=ac;have h5:=Int.ediv_le_ediv (show 0<s by omega) h4
   rw[Int.mul_ediv_cancel _ (show s≠0 by omega)]at h5
   exact h5
  have:=S6 a0 (show 0<s by omega)
  omega
 unfold qzF
 split
 .have:=k (-v) ac ac;omega
 .have:=k v ac h2;omega
theorem aa6:∀k,k<64->rwS (k / 8)*(rwS (k % 8)*255)<=4080*(8*gnF k):=by decide +kernel
theorem aca {w q:Int} {k:Nat} (h1:8<=w) (h2:1<=q) (hk:k<64):0<8*gnF k/\8*gnF k<=stF w q k:=by
 have h:=(JY k hk).1;have h3:8*1<=w*q:=Int.mul_le_mul h1 h2 afH ac;have h4:=Int.mul_le_mul_of_nonneg_right h3 (show 0<=gnF k by omega)
 unfold stF;omega
theorem abB {x m:Nat->Int} {q:Int} (hx:∀i,i<64->-255<=x i/\x i<=255) (hm:vmP m) (hq:1<=q) {k:Nat} (hk:k<64) : -4095<=qzF (fwF x k) (stF (m k) q k)/\qzF (fwF x k) (stF (m k) q k)<=4095:=by have h1:=JM hx hk;have h2:=aa6 k hk;have h3:=aca (hm k hk) hq hk;exact TI (B:=8*gnF k) ac ac h3.1 h3.2
theorem cB {x y:Nat->Int} (h:∀i,i<64->x i=y i) {i:Nat} (hi:i<64):fwR x i=fwR y i:=by unfold fwR oG;simp only[h _ (show 8*(i / 8)+0<64 by omega),h _ (show 8*(i / 8)+1<64 by omega),h _ (show 8*(i / 8)+2<64 by omega),h _ (show 8*(i / 8)+3<64 by omega),h _ (show 8*(i / 8)+4<64 by omega),h _ (show 8*(i / 8)+5<64 by omega),h _ (show 8*(i / 8)+6<64 by omega),h _ (show 8*(i / 8)+7<64 by omega)]
theorem zR {x y:Nat->Int} (h:∀i,i<64->x i=y i) {i:Nat} (hi:i<64):fwF x i=fwF y i:=by unfold fwF oG;simp only[cB h (show 8*0+i % 8<64 by omega),cB h (show 8*1+i % 8<64 by omega),cB h (show 8*2+i % 8<64 by omega),cB h (show 8*3+i % 8<64 by omega),cB h (show 8*4+i % 8<64 by omega),cB h (show 8*5+i % 8<64 by omega),cB h (show 8*6+i % 8<64 by omega),cB h (show 8*7+i % 8<64 by omega)]
theorem Kt {al:Bool} {p:Nat} (hp:p<64):(scF al p).toNat<64:=by have:=wy al p hp;omega
theorem xi {x y m:Nat->Int} {q:Int} {al:Bool} (h:∀i,i<64->x i=y i) {p:Nat} (hp:p<64):lvL x m q al p=lvL y m q al p:=by unfold lvL;rw[zR h (Kt hp)]
theorem jT {n:Nat} {f g f' g':Nat->Int} (h:∀i,i<n->f i=f' i) (h':∀i,i<n->g i=g' i):bu n f g=bu n f' g':=by
 have:bu n f g=true↔bu n f' g'=true:=by simp only[bu,List.all_eq_true,List.mem_range,beq_iff_eq];exact⟨λk i hi=>by rw[<-h i hi,<-h' i hi];exact k i hi,λk i hi=>by rw[h i hi,h' i hi];exact k i hi⟩
 cases e:bu n f g<;>cases e':bu n f' g'<;>simp[e,e']at this ⊢
def alB (o:Nat) (J:ae) (fd:Bool) (n:Nat):Nat->Int:=((KO [.i (J o).Z,.i (J (o+1)).Z,.l (J (o+2)).N (J (o+2)).G,.l (J (o+3)).N (J (o+3)).G,.l (J (o+4)).N (J (o+4)).G,.i 0,.i 0,.i n,.b fd]) 0).F
theorem agZ {o:Nat} {J:ae} {fd:Bool}:∀ {n:Nat},n<6->∀k,alB o J fd n k=cel (J (o+2+bkC n)).G (bkI n fd k)
 |0,_,_=>rfl
 |1,_,_=>rfl
 |2,_,_=>rfl
 |3,_,_=>rfl
 |4,_,_=>rfl
 |5,_,_=>rfl
 |n+6,h,_=>ac
def alX (J:ae) (fd:Bool) (n k:Nat):Int:=cel (J (2+bkC n)).G (bkI n fd k)-cel (J (7+bkC n)).G (bkI n fd k)
def alV (J:ae) (fd:Bool) (i:Nat):Int:=lvL (alX J fd (i / 64)) (J 10).F (J 30).Z (J 29).X (i % 64)
def alC (J:ae) (fd:Bool) (n:Nat):Bool:=!(bu 64 (λk=>alV J fd (k+n*64)) λ_=>0)
def alL (J:ae) (k:Int):Int:=((YR [.i (J 0).Z,.i (J 1).Z,.l (J 2).N (J 2).G,.l (J 3).N (J 3).G,.l (J 4).N (J 4).G,.i (J 5).Z,.i (J 6).Z,.l (J 7).N (J 7).G,.l (J 8).N (J 8).G,.l (J 9).N (J 9).G,.i k]) 0).Z
def alD (J:ae):Bool:=((J 19).X&&(J 25).Z==3)&&decide (alL J 2<alL J 1)
def gf (J:ae) (fd:Bool):Nat->Bool
 |0=>false
 |n+1=>gf J fd n||alC J fd n
def QL (J:ae):Prop:=vmP (J 10).F
def mbw (J:ae) (o:Nat) (fd:Bool) (c:Nat->Bool) (L:Nat->Int):ae:=[.i (J o).Z,.b (J (o+1)).X,.b (J (o+2)).X,.b (J (o+3)).X,.b fd,.i (J (o+5)).Z,.i (J (o+6)).Z,.i (J (o+7)).Z,.i (J (o+8)).Z,.i (J (o+9)).Z,.i (J (o+10)).Z,.i (J (o+11)).Z,.i (J (o+12)).Z,.f (J (o+13)).F,.i (J (o+14)).Z,.b (c 0),.b (c 1),.b (c 2),.b (c 3),.b (c 4),.b (c 5),.f L]
theorem Wf {K:KT} {J:ae} {o:Nat} {fd:Bool} {c c':Nat->Bool} {L L':Nat->Int} (hc:∀n,n<6->c n=c' n) (hL:∀i,i<384->L i=L' i):mL K sMA (mbw J o fd c L) (mbw J o fd c' L'):=by
 unfold mbw;rw[hc 0 afH,hc 1 afH,hc 2 afH,hc 3 afH,hc 4 afH,hc 5 afH]
 repeat (first|exact trivial | refine And.intro (by first|rfl | exact λi _=>rfl | exact λi hi=>hL i hi) ?_)
def qx (J:ae):ae:=let fd:=alD J;.b (gf J fd 6)::mbw J 86 fd (alC J fd) (alV J fd)
def alK (L lv:Nat->Int) (n:Nat):Bool:=!(bu 64 (λi=>(qT L (n*64) 64 lv) (i+n*64)) λ_=>0)
def KF (fl:Nat->Bool) (k0:Bool) (n j:Nat):Bool:=bif Nat.beq (n*1) j then k0 else fl j
def acZ (fl:Nat->Bool) (k0:Bool) (n:Nat):List Bool:=[KF fl k0 n 0,KF fl k0 n 1,KF fl k0 n 2,KF fl k0 n 3,KF fl k0 n 4,KF fl k0 n 5]
theorem OW {fl:Nat->Bool} {k0:Bool}:∀ {n:Nat},n<6->bAt (acZ fl k0 n) (n*1)=k0
 |0,_=>rfl
 |1,_=>rfl
 |2,_=>rfl
 |3,_=>rfl
 |4,_=>rfl
 |5,_=>rfl
 |n+6,h=>ac
abbrev cG:SP:=mkS ⟨[bm],[.run 100 sCD,.run 127 sMA]⟩ 179 Tryz.f179 [tXO (.nP 0 0),tXO (.nP 1 0),.tX (.sA bJ),.tX (.sA bJ),.tX (.sA [r4])] [.run 100 sCD,.run 127 sMA] [(20001,.head ⟨[(0,tXO (.nP 0 0)),(1,tXO (.nP 1 0)),(7,tXO (.nP 2 0)),(8,tXO (.nP 3 0)),(9,tXO (.nP 4 0))],[.run 100 sCD,.run 127 sMA,.run 31 bJ,.run 31 bJ,.run 24 [r4]],[]⟩),(4,.head ⟨[(0,tXO (.nP 0 0)),(1,tXO (.nP 1 0)),(7,tXO (.nP 2 0)),(8,tXO (.nP 3 0)),(9,tXO (.nP 4 0)),(11,aN),(31,aj 0 1048576)],[.run 100 sCD,.run 127 sMA,.run 31 bJ,.run 31 bJ,.run 24 [r4]],[]⟩),(8,.head ⟨[(0,tXO (.nP 0 0)),(1,tXO (.nP 1 0)),(7,tXO (.nP 2 0)),(8,tXO (.nP 3 0)),(9,tXO (.nP 4 0)),(11,aN),(12,aj 0 1048576),(13,tXO (.nP 5 0)),(31,aj 0 1048576),(53,.tX (.sA [.a 64 .i64 0 255 z0])),(54,aj 0 1048576)],[.run 100 sCD,.run 127 sMA,.run 31 bJ,.run 31 bJ,.run 24 [r4],.run 124 [.a 64 .i64 (-510) 255 z0]],[]⟩)] [Up,aei,ZH,acF,adi,aeB] [(aw 263 Tryz.f263)]
theorem aeQ:TOk Tryz.prog KX GX cG.b cG.t:=TX ⟨L7,WP,JQ,Vo,VO,Tt,ah⟩ (FK ah)
theorem D8 J R:TR cG J R (∃J0:ae->Prop,(BR (((uG (cw J 11 75 k1)) 0).X) (((cw J 11 75 k1)=(cw J 11 75 k1))/\(((uG (cw J 11 75 k1)) 0).X=true)/\let x0:ae:=(ak (cw J 0 10 612681993) [.i 2]);(X4 x0)/\let x1:ae:=YR x0;let x2:ae:=(ak (cw J 0 10 612681993) [.i 1]);(X4 x2)/\let x3:ae:=YR x2;J0 (ak (cw J 11 79 k25) (ak [.b (decide ((x1 0).Z<(x3 0).Z))] (ak (cw J 91 17 k12) (cw J 0 11 3833907465))))) (((cw J 11 75 k1)=(cw J 11 75 k1))/\(((uG (cw J 11 75 k1)) 0).X=false)/\J0 (ak (cw J 11 79 k25) (ak [.b false] (ak (cw J 91 17 k12) (cw J 0 11 3833907465))))))/\∀j0,J0 j0->∃(I1:ae->Prop) (μ1:ae->Nat),I1 (ak [.b false,.i 0] (cw j0 0 108 k16))/\∀l1,I1 l1-> BR (decide ((l1 1).Z<6)) (((l1 1).Z<=5)/\let x4:ae:=(ak (cw l1 99 5 18697) [.i 0,.i 0,.i (l1 1).Z,.b (l1 81).X]);(QE x4)/\let x5:ae:=KO x4;((l1 1).Z<=5)/\let x6:ae:=(ak (cw l1 104 5 18697) [.i 0,.i 0,.i (l1 1).Z,.b (l1 81).X]);(QE x6)/\let x7:ae:=KO x6;∃(I2:ae->Prop) (μ2:ae->Nat),I2 (ak [.b (l1 0).X,.i (l1 1).Z,.i (l1 1).Z,.f (x7 0).F,.i 0] (ak (cw l1 2 108 k16) [.f (x5 0).F]))/\∀l2,I2 l2-> BR (decide ((l2 4).Z<64)) (((l2 4).Z<64)/\(0<=(l2 4).Z)/\((l2 4).Z<64)/\(0<=(l2 4).Z)/\((l2 4).Z<64)/\(((l2 4).Z+1)<=1048576)/\(∀i,i<64->(-510)<=(upd (l2 113).F ((l2 4).Z.toNat*1) (((l2 113).F (0+((l2 4).Z.toNat*1)))-((l2 3).F (l2 4).Z.toNat))) i/\(upd (l2 113).F ((l2 4).Z.toNat*1) (((l2 113).F (0+((l2 4).Z.toNat*1)))-((l2 3).F (l2 4).Z.toNat))) i<=255)/\Ag I2 μ2 l2 (ak (ak (cw l2 0 4 1610) [.i ((l2 4).Z+1)]) (ak (cw l2 5 108 k16) [.f (upd (l2 113).F ((l2 4).Z.toNat*1) (((l2 113).F (0+((l2 4).Z.toNat*1)))-((l2 3).F (l2 4).Z.toNat)))]))) ((∀i,i<64->(-255)<=(l2 113).F i/\(l2 113).F i<=255)/\let x8:ae:=[.f (l2 113).F];let x9:ae:=YV x8;let x10:ae:=[.f (x9 0).F,.f (l2 112).F,.i (l2 24).Z];(ZW x10)/\let x11:ae:=Yl x10;let x12:ae:=[.f (x11 0).F,.b (l2 23).X];let x13:ae:=Yj x12;(0<=(l2 1).Z)/\((l2 1).Z<6)/\(0<=(l2 1).Z)/\((l2 1).Z<6)/\(0<=(l2 1).Z)/\((l2 1).Z<6)/\BR ((l2 0).X) ((((l2 2).Z+1)<=1048576)/\let k1:=qT (l2 101).F ((l2 1).Z.toNat*64) 64 (x13 0).F;let k0:=!(bu 64 (λi0=>k1 (i0+((l2 1).Z.toNat*64))) (λ_=>0));Ag I1 μ1 l1 (ak [.b true,.i ((l2 2).Z+1)] (ak (cw l2 5 90 k30) (ak [.b (bif Nat.beq ((l2 1).Z.toNat*1) 0 then k0 else(l2 95).X),.b (bif Nat.beq ((l2 1).Z.toNat*1) 1 then k0 else(l2 96).X),.b (bif Nat.beq ((l2 1).Z.toNat*1) 2 then k0 else(l2 97).X),.b (bif Nat.beq ((l2 1).Z.toNat*1) 3 then k0 else(l2 98).X),.b (bif Nat.beq ((l2 1).Z.toNat*1) 4 then k0 else(l2 99).X),.b (bif Nat.beq ((l2 1).Z.toNat*1) 5 then k0 else(l2 100).X),.f k1] (cw l2 102 11 3833907465))))) ((0<=(l2 1).Z)/\((l2 1).Z<6)/\(((l2 2).Z+1)<=1048576)/\let k7:=qT (l2 101).F ((l2 1).Z.toNat*64) 64 (x13 0).F;let k6:=!(bu 64 (λi0=>k7 (i0+((l2 1).Z.toNat*64))) (λ_=>0));let k5:=bif Nat.beq ((l2 1).Z.toNat*1) 4 then k6 else(l2 99).X;let k4:=bif Nat.beq ((l2 1).Z.toNat*1) 3 then k6 else(l2 98).X;let k3:=bif Nat.beq ((l2 1).Z.toNat*1) 2 then k6 else(l2 97).X;let k2:=bif Nat.beq ((l2 1).Z.toNat*1) 1 then k6 else(l2 96).X;let k1:=bif Nat.beq ((l2 1).Z.toNat*1) 0 then k6 else(l2 95).X;let k0:=bif Nat.beq ((l2 1).Z.toNat*1) 5 then k6 else(l2 100).X;Ag I1 μ1 l1 (ak [.b (bAt [k1,k2,k3,k4,k5,k0] ((l2 1).Z.toNat*1)),.i ((l2 2).Z+1)] (ak (cw l2 5 90 k30) (ak [.b k1,.b k2,.b k3,.b k4,.b k5,.b k0,.f k7] (cw l2 102 11 3833907465))))))) (R (ak [.i 0,.b (l1 0).X] (cw l1 2 97 k31)))):=af
def alJ (J:ae) (fd:Bool):ae:=ak (cw J 11 79 k25) (ak [.b fd] (ak (cw J 91 17 k12) [.i (J 0).Z,.i (J 1).Z,.l (J 2).N (J 2).G,.l (J 3).N (J 3).G,.l (J 4).N (J 4).G,.i (J 5).Z,.i (J 6).Z,.l (J 7).N (J 7).G,.l (J 8).N (J 8).G,.l (J 9).N (J 9).G,.f (J 10).F]))
def alS (J:ae) (fd:Bool) (n:Nat) (x:Bool × (Nat->Bool) × (Nat->Int)):ae:=LY (ak [.b x.1,.i n] (cw (alJ J fd) 0 108 k16)) 92 [.b (x.2.1 0),.b (x.2.1 1),.b (x.2.1 2),.b (x.2.1 3),.b (x.2.1 4),.b (x.2.1 5),.f x.2.2]
def afs (J:ae) (fd:Bool) (n:Nat) (sm:Bool) (l1:ae) (k:Nat) (v:Nat->Int):ae:=ak [.b sm,.i n,.i n,.f (alB 5 J fd n),.i k] (ak (cw l1 2 108 k16) [.f v])
theorem WX {J:ae} {fd:Bool} {n:Nat} (hn:n<6) (h2:∀c,c<3->∀i,i<bkN c->0<=cel (J (2+c)).G i/\cel (J (2+c)).G i<=255) (h7:∀c,c<3->∀i,i<bkN c->0<=cel (J (7+c)).G i/\cel (J (7+c)).G i<=255) {k:Nat} (hk:k<64):(0<=alB 0 J fd n k/\alB 0 J fd n k<=255)/\(0<=alB 5 J fd n k/\alB 5 J fd n k<=255)/\alX J fd n k=alB 0 J fd n k-alB 5 J fd n k:=by
 have hc:bkC n<3:=by unfold bkC;split<;>omega
 have a:=h2 _ hc _ (qa (fd:=fd) hn hk);have b:=h7 _ hc _ (qa (fd:=fd) hn hk);rw[agZ hn,agZ hn];unfold alX;rw[show 0+2+bkC n=2+bkC n by omega,show 5+2+bkC n=7+bkC n by omega]
 exact⟨a,b,rfl⟩
theorem zg {f g:Nat->Int} {e n i:Nat} (h1:e<=i) (h2:i<e+n):qT f e n g i=g (i-e):=by unfold qT;rw[if_pos ⟨h1,h2⟩]
theorem HT {f g:Nat->Int} {e n i:Nat} (h:i<e):qT f e n g i=f i:=by unfold qT;rw[if_neg ac]
def AlI (J:ae) (fd:Bool) (n:Nat) (x:Bool × (Nat->Bool) × (Nat->Int)):Prop:=x.1=gf J fd n/\(∀j,j<n->x.2.1 j=alC J fd j)/\∀i,i<n*64->x.2.2 i=alV J fd i
theorem AlI.next {J:ae} {fd:Bool} {n:Nat} {x:Bool × (Nat->Bool) × (Nat->Int)} (h:AlI J fd n x) {lv:Nat->Int} (hl:∀p,p<64->lv p=alV J fd (n*64+p)) {k0:Bool} (h0:k0=!(bu 64 (λi=>(qT x.2.2 (n*64) 64 lv) (i+n*64)) λ_=>0)) {sm:Bool} (hs:sm=(x.1||k0)):AlI J fd (n+1) (sm,KF x.2.1 k0 n,qT x.2.2 (n*64) 64 lv):=by
 have hk:k0=alC J fd n:=by
  rw[h0];unfold alC
  congr 1
  refine jT (λi hi=>?_) λ_ _=>rfl;rw[zg ac ac,hl _ ac]
  congr 1
  omega
 refine⟨by rw[hs,h.1,hk];rfl,λj hj=>?_,λi hi=>?_⟩
 .show(bif Nat.beq (n*1) j then k0 else x.2.1 j)=_
  by_cases e:n=j
  .subst e;rw[Nat.mul_one,show Nat.beq n n=true from Nat.beq_refl n,hk];rfl
  .rw[Nat.mul_one,show Nat.beq n j=false by cases q:Nat.beq n j with | false=>rfl | true=>exact absurd (beq_iff'.1 q) e]
   exact h.2.1 j ac
 .show qT x.2.2 (n*64) 64 lv i=_
  by_cases e:i<n*64
  .rw[HT e];exact h.2.2 i e
  .rw[zg ac ac,hl _ ac]
   congr 1
   omega
theorem WU:∀J,bTs KX 1 (au cG.A J)->bBs KX 1 (an cG.M (tls (aG cG.A) J))->QL J->Sa (TS cG J) (aa3 KX (cG.M.take 1) cG.Y.sk (cG.Y.msk.drop 1) (tls (aG cG.A) J) (qx J)):=λJ b1 b2 hp=>⟨by
 rw[D8]
 have hq1:1<=(J 30).Z:=by obtain⟨⟨-,-,-,-,-,-,-,-,-,-,-,-,-,-,-,-,-,-,-,q,-⟩,-⟩:=b2;exact q.1
 obtain⟨-,-,⟨c0,c1,c2,c3,c4,-⟩,⟨d0,d1,d2,d3,d4,-⟩,-⟩:=b1;have c0a:16<=(J 0).Z:=c0.1;have c0b:(J 0).Z<=16:=c0.2;have c1a:16<=(J 1).Z:=c1.1;have c1b:(J 1).Z<=16:=c1.2;have c2a:256<=(J 2).N:=c2.1;have c2b:(J 2).N<=256:=c2.2.1;have c3a:64<=(J 3).N:=c3.1;have c3b:(J 3).N<=64:=c3.2.1;have c4a:64<=(J 4).N:=c4.1;have c4b:(J 4).N<=64:=c4.2.1;have d0a:16<=(J 5).Z:=d0.1;have d0b:(J 5).Z<=16:=d0.2;have d1a:16<=(J 6).Z:=d1.1;have d1b:(J 6).Z<=16:=d1.2;have d2a:256<=(J 7).N:=d2.1;have d2b:(J 7).N<=256:=d2.2.1;have d3a:64<=(J 8).N:=d3.1;have d3b:(J 8).N<=64:=d3.2.1;have d4a:64<=(J 9).N:=d4.1;have d4b:(J 9).N<=64:=d4.2.1;have c2c:∀i,i<(J 2).N->0<=cel (J 2).G i/\cel (J 2).G i<=255:=λi hi=>(c2.2.2 i hi).1;have c3c:∀i,i<(J 3).N->0<=cel (J 3).G i/\cel (J 3).G i<=255:=λi hi=>(c3.2.2 i hi).1;have c4c:∀i,i<(J 4).N->0<=cel (J 4).G i/\cel (J 4).G i<=255:=λi hi=>(c4.2.2 i hi).1;have d2c:∀i,i<(J 7).N->0<=cel (J 7).G i/\cel (J 7).G i<=255:=λi hi=>(d2.2.2 i hi).1;have d3c:∀i,i<(J 8).N->0<=cel (J 8).G i/\cel (J 8).G i<=255:=λi hi=>(d3.2.2 i hi).1;have d4c:∀i,i<(J 9).N->0<=cel (J 9).G i/\cel (J 9).G i<=255:=λi hi=>(d4.2.2 i hi).1;clear c0 c1 c2 c3 c4 d0 d1 d2 d3 d4 b2
 have g2:∀c,c<3->∀i,i<bkN c->0<=cel (J (2+c)).G i/\cel (J (2+c)).G i<=255:=λc hc i hi=>by
  rcases(show c=0\/c=1\/c=2 by omega)with rfl | rfl | rfl
  .exact c2c i (by have:i<256:=hi;omega)
  .exact c3c i (by have:i<64:=hi;omega)
  .exact c4c i (by have:i<64:=hi;omega)
 have g7:∀c,c<3->∀i,i<bkN c->0<=cel (J (7+c)).G i/\cel (J (7+c)).G i<=255:=λc hc i hi=>by
  rcases(show c=0\/c=1\/c=2 by omega)with rfl | rfl | rfl
  .exact d2c i (by have:i<256:=hi;omega)
  .exact d3c i (by have:i<64:=hi;omega)
  .exact d4c i (by have:i<64:=hi;omega)
 have f16':∀ {a b:Int} {x y z:Nat},a=16->b=16->x=256->y=64->z=64->fmB a b x y z=true:=λe1 e2 e3 e4 e5=>by rw[e1,e2,e3,e4,e5];decide
 have F0:fmB (J 0).Z (J 1).Z (J 2).N (J 3).N (J 4).N=true:=f16' ac ac ac ac ac;have F5:fmB (J 5).Z (J 6).Z (J 7).N (J 8).N (J 9).N=true:=f16' ac ac ac ac ac;have hp:vmP (J 10).F:=hp;clear c0a c0b c1a c1b c2a c2b c3a c3b c4a c4b d0a d0b d1a d1b d2a d2b d3a d3b d4a d4b c2c c3c c4c d2c d3c d4c;refine⟨λj=>j=alJ J (alD J),br_ (λq=>⟨rfl,q,ah,ah,?_⟩) (λq=>⟨rfl,q,?_⟩),?_⟩
 .have q:((J 19).X&&(J 25).Z==3)=true:=q;have e:alD J=decide (alL J 2<alL J 1):=by unfold alD;rw[q];rfl
  rw[e];show(_:ae)=_
  kernel_rfl
 .have q:((J 19).X&&(J 25).Z==3)=false:=q;have e:alD J=false:=by unfold alD;rw[q];rfl
  rw[e];show(_:ae)=_
  kernel_rfl
 intro j0 hj0;unfold qx;generalize alD J=fd at hj0 ⊢;subst hj0;refine bG 6 1 (AlI J fd) (alS J fd) (λn x _=>af) (false,bAt [(J 101).X,(J 102).X,(J 103).X,(J 104).X,(J 105).X,(J 106).X],(J 107).F) af ⟨rfl,λj hj=>ac,λi hi=>ac⟩ λI μ hA n x l1 hn hx hl1=>?_;have e1:(l1 1).Z=n:=by rw[hl1];kernel_rfl
 refine br_ (λq=>?_) λq=>?_
 .have q:=ai q;rw[e1]at q;have u5:(l1 1).Z<=5:=by rw[e1];omega
  refine⟨u5,?_,u5,?_,?_⟩
  .rw[hl1];exact kmp F0
  .rw[hl1];exact kmp F5
  have hxi:∀k,k<64->(0<=alB 0 J fd n k/\alB 0 J fd n k<=255)/\(0<=alB 5 J fd n k/\alB 5 J fd n k<=255)/\alX J fd n k=alB 0 J fd n k-alB 5 J fd n k:=λk hk=>WX ac g2 g7 hk;refine bG 64 4 (λr (v:Nat->Int)=>∀k,k<64->v k=if k<r then alX J fd n k else alB 0 J fd n k) (afs J fd n x.1 l1) (λk v _=>af) (alB 0 J fd n) (by rw[hl1];kernel_rfl) (λk hk=>by rw[if_neg (Nat.not_lt_zero k)]) λI1 μ1 hA1 r v l2 hr hv hl2=>?_
  have s4:(l2 4).Z=r:=by rw[hl2];kernel_rfl
  have s3:(l2 3).F=alB 5 J fd n:=by rw[hl2];kernel_rfl
  have s113:(l2 113).F=v:=by rw[hl2];kernel_rfl
  refine br_ (λq2=>?_) λq2=>?_
  .have q2:=ai q2;rw[s4]at q2
   have st:∀k,k<64->upd v (r*1) (v (0+r*1)-alB 5 J fd n r) k=if k<r+1 then alX J fd n k else alB 0 J fd n k:=λk hk=>by
    unfold upd
    by_cases e:k=r*1
    .have e':k=r:=ac;subst e';rw[if_pos e,if_pos ac,Nat.zero_add,<-e,hv _ hk,if_neg ac,(hxi k hk).2.2]
    .rw[if_neg e,hv k hk]
     by_cases e2:k<r
     .rw[if_pos e2,if_pos ac]
     .rw[if_neg e2,if_neg ac]
   rw[s4,s3,s113,ap];refine⟨q2,ac,q2,ac,q2,ac,λi hi=>?_,hA1 r v (upd v (r*1) (v (0+r*1)-alB 5 J fd n r)) _ _ ac st hl2 (by rw[hl2];kernel_rfl)⟩
   have b3:=st i hi;have b4:=hxi i hi;show -510<=upd v (r*1) (v (0+r*1)-alB 5 J fd n r) i/\upd v (r*1) (v (0+r*1)-alB 5 J fd n r) i<=255;rw[b3]
   split<;>omega
  .have q2:=aQ q2;rw[s4]at q2;have hv:∀k,k<64->v k=alX J fd n k:=λk hk=>by rw[hv k hk,if_pos ac]
   have hv2:∀k,k<64->-255<=v k/\v k<=255:=λk hk=>by have:=hxi k hk;rw[hv k hk];omega
   have t0:(l2 0).X=x.1:=by rw[hl2];kernel_rfl
   have t1:(l2 1).Z=n:=by rw[hl2];kernel_rfl
   have t2:(l2 2).Z=n:=by rw[hl2];kernel_rfl
   have t23:(l2 23).X=(J 29).X:=by rw[hl2,hl1];kernel_rfl
   have t24:(l2 24).Z=(J 30).Z:=by rw[hl2,hl1];kernel_rfl
   have t112:(l2 112).F=(J 10).F:=by rw[hl2,hl1];kernel_rfl
   have t101:(l2 101).F=x.2.2:=by rw[hl2,hl1];kernel_rfl
   have hlv:∀p,p<64->lvL v (J 10).F (J 30).Z (J 29).X p=alV J fd (n*64+p):=λp hp'=>by
    unfold alV;rw[show(n*64+p) / 64=n by omega,show(n*64+p) % 64=p by omega]
    exact xi hv hp'
   rw[s113,t0,t1,t2,t23,t24,t112,t101,ap];refine⟨hv2,⟨hp,λk hk=>abB hv2 hp hq1 hk⟩,ac,q,ac,q,ac,q,?_⟩;refine br_ (λq3=>?_) λq3=>?_
   .refine⟨ac,?_⟩;refine hA n x _ _ _ ac (hx.next (lv:=lvL v (J 10).F (J 30).Z (J 29).X) hlv rfl (sm:=true) (by rw[q3];rfl)) hl1 (by rw[hl2,hl1];kernel_rfl)
   .refine⟨ac,q,ac,?_⟩;refine hA n x (bAt (acZ x.2.1 (alK x.2.2 (lvL v (J 10).F (J 30).Z (J 29).X) n) n) (n*1),KF x.2.1 (alK x.2.2 (lvL v (J 10).F (J 30).Z (J 29).X) n) n,qT x.2.2 (n*64) 64 (lvL v (J 10).F (J 30).Z (J 29).X)) _ _ ac (hx.next (lv:=lvL v (J 10).F (J 30).Z (J 29).X) hlv rfl (by rw[q3,Bool.false_or];exact OW (fl:=x.2.1) ac)) hl1 (by rw[hl2,hl1];kernel_rfl)
 .have q:=aQ q;rw[e1]at q;have:n=6:=ac;subst this;obtain⟨sm,fl,L⟩:=x;obtain⟨rfl,h2,h3⟩:=hx;have h2:∀j,j<6->fl j=alC J fd j:=h2;refine⟨rfl,?_,?_,?_⟩
  .refine⟨?_,ah⟩;show(l1 0).X=gf J fd 6;rw[hl1]
   kernel_rfl
  .exact V8 (by rw[hl1];kernel_rfl)
  .refine⟨?_,ah⟩;have key:tls (qK (cG.M.take 1)) (tls (nlL cG.Y.sk) (tl (ak [.i 0,.b (l1 0).X] (cw l1 2 97 k31))))=mbw J 86 fd fl L:=by rw[hl1];kernel_rfl
   rw[key];exact Wf h2 h3⟩
abbrev YZ:CT:=CM 179 cG.A cG.M 1 cG.Y.sk (cG.Y.msk.drop 1) QL qx
theorem yA:cV KX Tryz.prog GX YZ:=abt (M:=MX) (tb:=cG.b) (FT:=cG.t) aeQ 8 (fi:=cG.i) (args:=cG.A) (mem:=cG.M) (sk:=cG.Y.sk) (msk:=cG.Y.msk.drop 1) (Pr:=QL) (W:=qx) (λ_ _=>af) af 1 1 (λ_=>af) λJ b1 b2 b3=>by have h:=WU J b1 b2 b3;unfold TS cG at h;exact h
end
end Go.Proofs.YtldmjbgplgoedaaGreatDoor
namespace Go.Proofs.YtldmjbgplgoedaaGreatDoor
noncomputable section
open Go.RowKit U
theorem X2 (v:Int) (h0:0<=v) (h1:v<=4294967295) (K i n:Nat) (hi:i<K) (B:Nat->Int):aI .and .u32 (v / pw ((K:Int)-1-i)) 1=gV B n v K (n+i):=by
 have e:pw ((K:Int)-1-i)=2 ^ (K-1-i):=by
  unfold pw;rw[show((K:Int)-1-i).toNat=K-1-i by omega]
  show((2 ^ (K-1-i):Nat):Int)=_
  simp
 have hp:(0:Int)<2 ^ (K-1-i):=Int.pow_pos ac;rw[e,zC (Int.ediv_nonneg h0 ac) (by have:=Int.ediv_le_self (2 ^ (K-1-i)) h0;omega)]
 unfold gV;rw[if_neg ac,show n+K-1-(n+i)=K-1-i by omega]
theorem pw7 (m:Nat):pw (7-Int.tmod (m:Int) 8)=2 ^ (7-m % 8):=by
 have:Int.tmod (m:Int) 8=((m % 8:Nat):Int):=rfl;unfold pw;rw[this,show(7-((m % 8:Nat):Int)).toNat=7-m % 8 by omega]
 show((2 ^ (7-m % 8):Nat):Int)=_
 simp
theorem me {B:Nat->Int} (hB:Bit B) {n i j:Nat}:∀d,j+d<=8->0<=bZ B n i (j+d)-bZ B n i j/\bZ B n i (j+d)-bZ B n i j+2 ^ (8-(j+d))<=2 ^ (8-j)
 |0,h=>by rw[Nat.add_zero,Int.sub_self,Int.zero_add];exact⟨Int.le_refl _,Int.le_refl _⟩
 |d+1,h=>by
  obtain⟨h1,h2⟩:=me hB (n:=n) (i:=i) (j:=j) d ac
  have e:(2:Int) ^ (8-(j+d))=2*2 ^ (8-(j+(d+1))):=by
   rw[show 8-(j+d)=(8-(j+(d+1)))+1 by omega,Int.pow_succ]
   omega
  have e':(2:Int) ^ (7-(j+d))=2 ^ (8-(j+(d+1))):=by rw[show 7-(j+d)=8-(j+(d+1)) by omega]
  have hp:(0:Int)<2 ^ (8-(j+(d+1))):=Int.pow_pos ac;rw[show j+(d+1)=(j+d)+1 by omega]at *
  have e0:bZ B n i (j+d+1)=bZ B n i (j+d)+(if 8*i+(j+d)<n then B (8*i+(j+d))else 0)*2 ^ (7-(j+d)):=rfl
  rw[e0,e'];rw[e]at h2
  split
  .rcases hB (8*i+(j+d))with q | q<;>rw[q]<;>constructor<;>omega
  .constructor<;>omega
theorem dO {B:Nat->Int} (hB:Bit B) {n p:Nat} (hp:p<n):aR (ch B n) p=B p:=by
 have hr:p % 8<8:=Nat.mod_lt _ ac;show jj B n (p / 8) / 2 ^ (7-p % 8) % 2=B p;obtain⟨h1,h2⟩:=me hB (n:=n) (i:=p / 8) (j:=p % 8+1) (7-p % 8) ac;rw[show p % 8+1+(7-p % 8)=8 by omega]at h1 h2
 obtain⟨a,ha⟩:=kW (B:=B) (n:=n) (i:=p / 8) (p % 8) ac
 have e1:bZ B n (p / 8) (p % 8+1)=bZ B n (p / 8) (p % 8)+B p*2 ^ (7-p % 8):=by rw[bZ,show 8*(p / 8)+p % 8=p by omega,if_pos hp]
 have e2:(2:Int) ^ (8-p % 8)=2*2 ^ (7-p % 8):=by
  rw[show 8-p % 8=(7-p % 8)+1 by omega,Int.pow_succ]
  omega
 have e3:8-(p % 8+1)=7-p % 8:=ac;rw[e1,ha,e2]at h1 h2;rw[e3]at h2;have hq:(0:Int)<2 ^ (7-p % 8):=Int.pow_pos ac;unfold jj;generalize bZ B n (p / 8) 8=x at h1 h2 ⊢;generalize (2:Int) ^ (7-p % 8)=d at *
 have e4:x=(a*2+B p)*d+(x-(a*(2*d)+B p*d)):=by rw[Int.add_mul,Int.mul_assoc];omega
 have e5:(2:Int) ^ (8-8)=1:=rfl
 have e6:x / d=a*2+B p:=by rw[e4,Int.add_comm,Int.add_mul_ediv_right _ _ (show d≠0 by omega),Int.ediv_eq_zero_of_lt ac ac,Int.zero_add]
 rw[e6];rcases hB p with q | q<;>rw[q]<;>omega
theorem sn {B B':Nat->Int} {n:Nat} (h:∀p,p<n->B p=B' p):ch B n=ch B' n:=by
 funext i
 unfold ch;rw[cU h]
def rl (n:Nat):Nat:=(n+7) / 8
def wrt (B:Nat->Int) (n:Nat):ae:=[.s 0 (rl n),.i n,.l (rl n) (ch B n)]
theorem oW {B B':Nat->Int} {n:Nat} (h:∀p,p<n->B p=B' p):wrt B n=wrt B' n:=by unfold wrt;rw[sn h]
def WrP (l:ae) (o k:Nat):Prop:=(l o).O=0/\(l o).N=(l (o+2)).N/\Packed (l (o+2)).G (aR (l (o+2)).G) (l (o+1)).Z.toNat (l (o+2)).N/\(l (o+1)).Z+k<=8000000
theorem vS {B:Nat->Int} (hB:Bit B) {n:Nat}:Packed (ch B n) (aR (ch B n)) n (rl n):=⟨rfl,λi _=>cU λp hp=>(dO hB hp).symm⟩
abbrev Cd:=List (Int × Nat)
def cdN:Cd->Nat
 |[]=>0
 |x::r=>x.2+cdN r
def cdB (B:Nat->Int) (n:Nat):Cd->Nat->Int
 |[]=>B
 |x::r=>cdB (gV B n x.1 x.2) (n+x.2) r
theorem aC:∀(a b:Cd),cdN (a++b)=cdN a+cdN b
 |[],b=>(Nat.zero_add _).symm
 |x::a,b=>by show x.2+cdN (a++b)=x.2+cdN a+cdN b;rw[aC a b];omega
theorem sB:∀(a b:Cd) {B:Nat->Int} {n:Nat},cdB B n (a++b)=cdB (cdB B n a) (n+cdN a) b
 |[],b,B,n=>rfl
 |x::a,b,B,n=>by show cdB (gV B n x.1 x.2) (n+x.2) (a++b)=_;rw[sB a b];show _=cdB (cdB (gV B n x.1 x.2) (n+x.2) a) (n+(x.2+cdN a)) b;rw[Nat.add_assoc]
theorem d8:∀ {c:Cd} {B:Nat->Int} {n:Nat},Bit B->Bit (cdB B n c)
 |[],_,_,h=>h
 |_::c,_,_,h=>d8 (c:=c) (fP h)
theorem kE:∀ {c:Cd} {B B':Nat->Int} {n:Nat},(∀p,p<n->B p=B' p)->∀p,p<n+cdN c->cdB B n c p=cdB B' n c p
 |[],_,_,_,h,p,hp=>h p hp
 |x::c,B,B',n,h,p,hp=>by
  refine kE (c:=c) (B:=gV B n x.1 x.2) (B':=gV B' n x.1 x.2) (n:=n+x.2) (λq hq=>?_) p (by have:cdN (x::c)=x.2+cdN c:=rfl;omega)
  unfold gV
  split
  .exact h q (by assumption)
  .rfl
def wrC (B:Nat->Int) (n:Nat) (c:Cd):ae:=wrt (cdB B n c) (n+cdN c)
theorem pY {c:Cd} {B B':Nat->Int} {n:Nat} (h:∀p,p<n->B p=B' p):wrC B n c=wrC B' n c:=oW (kE h)
theorem Eu {c:Cd} {B:Nat->Int} (hB:Bit B) {n:Nat}:wrC (aR (ch B n)) n c=wrC B n c:=pY λ_ hp=>dO hB hp
theorem M4 {B:Nat->Int} (hB:Bit B) {n:Nat} {a b:Cd}:wrC (aR (ch (cdB B n a) (n+cdN a))) (n+cdN a) b=wrC B n (a++b):=by rw[Eu (d8 hB)];unfold wrC;rw[sB,aC,Nat.add_assoc]
def wrA (l:ae) (o:Nat) (c:Cd):ae:=wrC (aR (l (o+2)).G) (l (o+1)).Z.toNat c
theorem de:∀(o:Nat) (l:ae) (k:Nat),(tls o l) k=l (o+k)
 |0,l,k=>by rw[Nat.zero_add];rfl
 |o+1,l,k=>by
  rw[show o+1+k=(o+k)+1 by omega]
  exact de o (tl l) k
theorem rK {l:ae} {o n:Nat} {B:Nat->Int} {a b:Cd} (hB:Bit B) (h:pre 3 (tls o l)=wrC B n a):wrA l o b=wrC B n (a++b):=by
 have h1:l (o+1)=(wrC B n a) 1:=by rw[<-h,<-de];rfl
 have h2:l (o+2)=(wrC B n a) 2:=by rw[<-h,<-de];rfl
 unfold wrA;rw[h1,h2];exact M4 hB
theorem yM {l:ae} {o n k:Nat} {B:Nat->Int} {a:Cd} (hB:Bit B) (h:pre 3 (tls o l)=wrC B n a) (hm:n+cdN a+k<=8000000):WrP l o k:=by
 have h0:l o=(wrC B n a) 0:=by rw[<-h,show o=o+0 from rfl,<-de];rfl
 have h1:l (o+1)=(wrC B n a) 1:=by rw[<-h,<-de];rfl
 have h2:l (o+2)=(wrC B n a) 2:=by rw[<-h,<-de];rfl
 unfold WrP;rw[h0,h1,h2];refine⟨rfl,rfl,vS (d8 hB),?_⟩;show((n+cdN a:Nat):Int)+k<=8000000;omega
theorem WrP.less {l:ae} {o k m:Nat} (h:WrP l o m) (hk:k<=m):WrP l o k:=⟨h.1,h.2.1,h.2.2.1,by have:=h.2.2.2;omega⟩
theorem d9:Bit λ_=>0:=λ_=>.inl rfl
def jA (J:ae):Prop:=(J 0).Z / pw (J 1).Z=0/\WrP J 2 (J 1).Z.toNat
def jc (J:ae):ae:=.i 0::wrA J 2 [((J 0).Z,(J 1).Z.toNat)]
abbrev Nh:SP:=mkS ⟨[aD 0 0],[.run 349 nu,.dead,.dyn 5 0 0 1000000 0 g0 false]⟩ 182 Tryz.f182 [tXO (.nP 0 0),tXO (.nI .u32 0 4294967295 0),aj 0 32] [.run 349 Qh,.dyn 5 0 0 1000000 0 g0 false] [(6,.head ⟨[(0,tXO (.nP 0 0)),(1,tXO (.nI .u32 0 4294967295 0)),(2,aj 0 32),(23,aj 0 32),(24,aj 0 32)],[.run 349 nu,.dead,.dyn 5 0 0 1000000 0 g0 false],[1]⟩)] [] [] (aj 0 0) [1]
theorem CJ J R:TR Nh J R (((((J 0).Z / (pw (J 1).Z))!=0)->False)/\((((J 0).Z / (pw (J 1).Z))!=0)=false->∃(I0:ae->Prop) (μ0:ae->Nat),I0 [.i (J 0).Z,.i (J 1).Z,.i (J 1).Z,.i 0,.s (J 2).O (J 2).N,.i (J 3).Z,.l (J 4).N (J 4).G]/\∀l0,I0 l0->((decide ((l0 3).Z<(l0 2).Z))->(((Int.tmod (l0 5).Z 8)==0)->(1<=1)/\((l0 4).O=0)/\((l0 4).N=(l0 6).N)/\(0<=(((l0 1).Z-1)-(l0 3).Z))/\((((l0 1).Z-1)-(l0 3).Z)<=63)/\((Int.tdiv (l0 5).Z 8)<(((l0 4).N+1:Nat):Int))/\((0+(Int.tdiv (l0 5).Z 8).toNat)<((l0 4).N+1))/\((Int.tdiv (l0 5).Z 8)<(((l0 4).N+1:Nat):Int))/\((0+(Int.tdiv (l0 5).Z 8).toNat)<((l0 4).N+1))/\(((l0 3).Z+1)<=32)/\(((l0 4).N+1)<=1000000)/\(((l0 5).Z+1)<=8000000)/\(((l0 4).N+1)<=1000000)/\let k0:=aE (l0 4).N (l0 6).G (λi0=>[.i 0]);Ag I0 μ0 l0 [.i (l0 0).Z,.i (l0 1).Z,.i (l0 2).Z,.i ((l0 3).Z+1),.s 0 ((l0 4).N+1),.i ((l0 5).Z+1),.l ((l0 4).N+1) (upd k0 (0+(Int.tdiv (l0 5).Z 8).toNat) [.i (aI .or .u8 ((k0 (0+(Int.tdiv (l0 5).Z 8).toNat)) 0).Z ((aI .and .u32 ((l0 0).Z / (pw (((l0 1).Z-1)-(l0 3).Z))) 1)*(pw (7-(Int.tmod (l0 5).Z 8)))))])])/\(((Int.tmod (l0 5).Z 8)==0)=false->(0<=(((l0 1).Z-1)-(l0 3).Z))/\((((l0 1).Z-1)-(l0 3).Z)<=63)/\((Int.tdiv (l0 5).Z 8)<(((l0 4).N:Nat):Int))/\(((l0 4).O+(Int.tdiv (l0 5).Z 8).toNat)<(l0 6).N)/\((Int.tdiv (l0 5).Z 8)<(((l0 4).N:Nat):Int))/\(((l0 4).O+(Int.tdiv (l0 5).Z 8).toNat)<(l0 6).N)/\(((l0 3).Z+1)<=32)/\(((l0 5).Z+1)<=8000000)/\let k0:=(l0 4).O+(Int.tdiv (l0 5).Z 8).toNat;Ag I0 μ0 l0 [.i (l0 0).Z,.i (l0 1).Z,.i (l0 2).Z,.i ((l0 3).Z+1),.s (l0 4).O (l0 4).N,.i ((l0 5).Z+1),.l (l0 6).N (upd (l0 6).G k0 [.i (aI .or .u8 (((l0 6).G k0) 0).Z ((aI .and .u32 ((l0 0).Z / (pw (((l0 1).Z-1)-(l0 3).Z))) 1)*(pw (7-(Int.tmod (l0 5).Z 8)))))])]))/\((decide ((l0 3).Z<(l0 2).Z))=false-> R [.i 0,.i 0,.s (l0 4).O (l0 4).N,.i (l0 5).Z,.l (l0 6).N (l0 6).G]))):=af
theorem UH:PF1 Nh jA jc:=λJ b1 b2 hp=>⟨by
 rw[CJ];obtain⟨-,⟨v1,v2⟩,⟨k1,k2⟩,-⟩:=b1;obtain⟨⟨-,⟨n1,n2⟩,-⟩,-,-⟩:=b2;obtain⟨hv,ho,hN,hP,hnk⟩:=hp;have v1:0<=(J 0).Z:=v1;have v2:(J 0).Z<=4294967295:=v2;have k1:0<=(J 1).Z:=k1;have k2:(J 1).Z<=32:=k2;have n1:0<=(J 3).Z:=n1;unfold jc wrA;generalize (J 0).Z=v at *;generalize (J 2).O=o at *;generalize (J 2).N=N at *;generalize (J 4).N=len at *;generalize (J 4).G=g at *;generalize (J 1).Z=kz at *;generalize (J 3).Z=nz at *;obtain⟨k,rfl⟩:=Int.eq_ofNat_of_zero_le (show 0<=kz by omega)
 obtain⟨n,rfl⟩:=Int.eq_ofNat_of_zero_le n1;subst ho;subst hN;have hP:Packed g (aR g) n N:=hP;rw[ap]at hnk;refine⟨λh=>?_,λ_=>?_⟩
 .rw[hv]at h;cases h
 have hB:=fP (bw g) (n:=n) (v:=v) (k:=k);refine⟨λl=>∃i:Nat,i<=k/\∃len h,Packed h (gV (aR g) n v k) (n+i) len/\l=[.i v,.i k,.i k,.i i,.s 0 len,.i ((n+i:Nat):Int),.l len h],λl=>(k-(l 3).Z).toNat,⟨0,Nat.zero_le _,_,g,hP.agree λp hp=>by unfold gV;rw[if_pos hp],rfl⟩,?_⟩
 rintro _ ⟨i,hi,len,h,hh,rfl⟩;simp only[bx,bE,Z_i,N_s,O_s,N_l,G_l];have hl:=hh.1;have tm:Int.tmod ((n+i:Nat):Int) 8=(((n+i) % 8:Nat):Int):=rfl;have td:Int.tdiv ((n+i:Nat):Int) 8=(((n+i) / 8:Nat):Int):=rfl;refine⟨λh1=>⟨λh2=>?_,λh2=>?_⟩,λh1=>?_⟩
 .have h1:=of_decide_eq_true h1;have h2:(((n+i) % 8:Nat):Int)=0:=by rw[tm]at h2;exact eq_of_beq h2
  have hx:=X2 v v1 v2 k i n ac (aR g);refine⟨afH,ah,ah,ac,ac,?_,?_,?_,?_,ac,ac,ac,ac,⟨i+1,ac,len+1,_,?_,rfl⟩,?_⟩
  all_goals first
   |(rw[td];omega)
   |(simp only[bx,bE,Z_i];omega)
   |skip
  rw[td,Int.toNat_natCast,Nat.zero_add,hx];exact hh.more hB ac (by rw[pw7])
 .have h1:=of_decide_eq_true h1;have h2:(((n+i) % 8:Nat):Int)≠0:=by rw[tm]at h2;exact λe=>by rw[e]at h2;cases h2
  have hx:=X2 v v1 v2 k i n ac (aR g);refine⟨ac,ac,?_,?_,?_,?_,ac,ac,⟨i+1,ac,len,_,?_,rfl⟩,?_⟩
  all_goals first
   |(rw[td];omega)
   |(simp only[bx,bE,Z_i];omega)
   |skip
  rw[td,Int.toNat_natCast,Nat.zero_add,hx];exact hh.add hB ac (by rw[pw7])
 .have h1:=of_decide_eq_false h1;have:i=k:=ac;subst this;exact⟨rfl,⟨rfl,ah⟩,⟨⟨rfl,hl⟩,rfl,ah⟩,ah,pI (l:=[]) (l':=[]) hl λj hj=>hh.2 j hj,ah⟩⟩
abbrev yc:CT:=C1 Nh jA jc
theorem gx:CO yc:=CX1 (TX trivial ah) UH
def Jd (J:ae):Bool:=decide ((J 1).Z=0)
def iy (J:ae):Prop:=(J 0).Z / pw (J 1).Z=0
def g8 (J:ae):Prop:=(J 0).Z / pw (J 1).Z=0
def iw (_:ae):ae:=[.i 0,.i 0]
def fK (J:ae):ae:=.i 0::wrC (λ_=>0) 0 [((J 0).Z,(J 1).Z.toNat)]
abbrev vG:List AT:=[tXO (.nP 0 0),tXO (.nI .u32 0 4294967295 0),aj 0 32]
abbrev HO:List AB:=[.run 349 ad3]
abbrev E4:Wy:=⟨[aD 0 0],[.run 349 ad3]⟩
abbrev HN:Wy:=⟨[aD 0 0],[.run 349 [.c (.nD 1 0 0 1000000 0 0),am 0 8000000],.dyn 5 0 0 1000000 0 g0 false]⟩
noncomputable abbrev Jx:FI:=⟨182,Tryz.f182,[(6,.heads [⟨[(0,tXO (.nP 0 0)),(1,tXO (.nI .u32 0 4294967295 0)),(2,aj 0 32),(23,aj 0 32),(24,aj 0 0)],[.run 349 ad3],[]⟩,⟨[(0,tXO (.nP 0 0)),(1,tXO (.nI .u32 0 4294967295 0)),(2,aj 0 32),(23,aj 0 32),(24,aj 1 32)],[.run 349 Qh,.dyn 5 0 0 1000000 0 g0 false],[]⟩])],aj 0 0,[]⟩
abbrev yW:List CT:=[]
noncomputable abbrev yH:List FI:=[]
theorem aaE:TOk Tryz.prog KX GX yW yH:=TX trivial ah
def Mm (J:ae):T:=VG [E4,HN] (gR Tryz.prog ⟨KX,GX,MX,inl Tryz.prog KX GX MX yW yH 8⟩ Jx (au vG J) (an HO (tls (aG vG) J)))
theorem wQ (J:ae) (R:ae->Prop):(Mm J).sat (onA R)=(((((J 0).Z / (pw (J 1).Z))!=0)->False)/\((((J 0).Z / (pw (J 1).Z))!=0)=false->∃(I0:ae->Prop) (μ0:ae->Nat),I0 [.i 0,.i (J 0).Z,.i (J 1).Z,.i (J 1).Z,.i 0,.i (J 2).Z]/\∀l0,I0 l0->((decide ((l0 0).Z=0))->((decide ((l0 4).Z<(l0 3).Z))->(1<=1)/\(0<=(((l0 2).Z-1)-(l0 4).Z))/\((((l0 2).Z-1)-(l0 4).Z)<=63)/\(0<1)/\(0<1)/\Ag I0 μ0 l0 [.i 1,.i (l0 1).Z,.i (l0 2).Z,.i (l0 3).Z,.i 1,.s 0 1,.i 1,.l 1 (upd (λi0=>[.i 0]) 0 [.i (aI .or .u8 0 ((aI .and .u32 ((l0 1).Z / (pw (((l0 2).Z-1)-(l0 4).Z))) 1)*128))])])/\((decide ((l0 4).Z<(l0 3).Z))=false->R [.i 0,.i 0,.i (l0 5).Z]))/\((decide ((l0 0).Z=0))=false->((decide ((l0 0).Z=1))->((decide ((l0 4).Z<(l0 3).Z))->(((Int.tmod (l0 6).Z 8)==0)->(1<=1)/\((l0 5).O=0)/\((l0 5).N=(l0 7).N)/\(0<=(((l0 2).Z-1)-(l0 4).Z))/\((((l0 2).Z-1)-(l0 4).Z)<=63)/\((Int.tdiv (l0 6).Z 8)<(((l0 5).N+1:Nat):Int))/\((0+(Int.tdiv (l0 6).Z 8).toNat)<((l0 5).N+1))/\((Int.tdiv (l0 6).Z 8)<(((l0 5).N+1:Nat):Int))/\((0+(Int.tdiv (l0 6).Z 8).toNat)<((l0 5).N+1))/\(((l0 4).Z+1)<=32)/\(((l0 5).N+1)<=1000000)/\(((l0 6).Z+1)<=8000000)/\(((l0 5).N+1)<=1000000)/\let k0:=aE (l0 5).N (l0 7).G (λi0=>[.i 0]);Ag I0 μ0 l0 [.i 1,.i (l0 1).Z,.i (l0 2).Z,.i (l0 3).Z,.i ((l0 4).Z+1),.s 0 ((l0 5).N+1),.i ((l0 6).Z+1),.l ((l0 5).N+1) (upd k0 (0+(Int.tdiv (l0 6).Z 8).toNat) [.i (aI .or .u8 ((k0 (0+(Int.tdiv (l0 6).Z 8).toNat)) 0).Z ((aI .and .u32 ((l0 1).Z / (pw (((l0 2).Z-1)-(l0 4).Z))) 1)*(pw (7-(Int.tmod (l0 6).Z 8)))))])])/\(((Int.tmod (l0 6).Z 8)==0)=false->(0<=(((l0 2).Z-1)-(l0 4).Z))/\((((l0 2).Z-1)-(l0 4).Z)<=63)/\((Int.tdiv (l0 6).Z 8)<(((l0 5).N:Nat):Int))/\(((l0 5).O+(Int.tdiv (l0 6).Z 8).toNat)<(l0 7).N)/\((Int.tdiv (l0 6).Z 8)<(((l0 5).N:Nat):Int))/\(((l0 5).O+(Int.tdiv (l0 6).Z 8).toNat)<(l0 7).N)/\(((l0 4).Z+1)<=32)/\(((l0 6).Z+1)<=8000000)/\let k0:=(l0 5).O+(Int.tdiv (l0 6).Z 8).toNat;Ag I0 μ0 l0 [.i 1,.i (l0 1).Z,.i (l0 2).Z,.i (l0 3).Z,.i ((l0 4).Z+1),.s (l0 5).O (l0 5).N,.i ((l0 6).Z+1),.l (l0 7).N (upd (l0 7).G k0 [.i (aI .or .u8 (((l0 7).G k0) 0).Z ((aI .and .u32 ((l0 1).Z / (pw (((l0 2).Z-1)-(l0 4).Z))) 1)*(pw (7-(Int.tmod (l0 6).Z 8)))))])]))/\((decide ((l0 4).Z<(l0 3).Z))=false->R [.i 1,.i 0,.s (l0 5).O (l0 5).N,.i (l0 6).Z,.l (l0 7).N (l0 7).G]))/\((decide ((l0 0).Z=1))=false-> False)))):=af
theorem LW:∀J,bTs KX 1 (au vG J)->bBs KX 1 (an HO (tls (aG vG) J))->(Jd J=true->iy J)->(Jd J=false->g8 J)->Sa (Mm J) (λl=>(Jd J=true/\(hd l).Z=0/\agW KX E4 (tl l) (iw J))\/(Jd J=false/\(hd l).Z=1/\agW KX HN (tl l) (fK J))):=λJ b1 b2 hp1 hp2=>⟨by
 rw[wQ];obtain⟨-,⟨v1,v2⟩,⟨k1,k2⟩,-⟩:=b1;obtain⟨⟨-,⟨n1,n2⟩,-⟩,-⟩:=b2
 have hv:(J 0).Z / pw (J 1).Z=0:=by
  cases e:Jd J with
  |true=>exact hp1 e
  |false=>exact hp2 e
 have v1:0<=(J 0).Z:=v1;have v2:(J 0).Z<=4294967295:=v2;have k1:0<=(J 1).Z:=k1;have k2:(J 1).Z<=32:=k2;have n1:0<=(J 2).Z:=n1;have n2:(J 2).Z<=0:=n2;clear hp1 hp2;unfold Jd fK;generalize (J 0).Z=v at *;generalize (J 1).Z=kz at *;generalize (J 2).Z=nz at *;obtain⟨k,rfl⟩:=Int.eq_ofNat_of_zero_le (show 0<=kz by omega)
 have:nz=0:=ac;subst this;refine⟨λh=>?_,λ_=>?_⟩
 .rw[hv]at h;cases h
 have hB:Bit (gV (λ_=>0) 0 v k):=fP λ_=>.inl rfl;refine⟨λl=>l=[.i 0,.i v,.i k,.i k,.i 0,.i 0]\/∃i:Nat,1<=i/\i<=k/\∃len h,Packed h (gV (λ_=>0) 0 v k) i len/\l=[.i 1,.i v,.i k,.i k,.i i,.s 0 len,.i i,.l len h],λl=>(k-(l 4).Z).toNat,.inl rfl,?_⟩;rintro _ (rfl | ⟨i,hi1,hi,len,h,hh,rfl⟩)
 .simp only[bx,bE,Z_i];refine⟨λ_=>⟨λhk=>?_,λhk=>?_⟩,λh=>?_⟩
  .have hk:=of_decide_eq_true hk;refine⟨afH,ac,ac,afH,afH,.inr ⟨1,ac,ac,1,_,?_,rfl⟩,?_⟩
   .refine⟨rfl,λj hj=>?_⟩;have:j=0:=ac;subst this;have hx:=X2 v v1 v2 k 0 0 ac (λ_=>0);have ha:=ob hB (n:=0);rw[tM (by rfl)]at ha
    have e0:((k:Int)-1-((0:Nat):Int))=(k:Int)-1-0:=rfl;rw[e0]at hx;unfold upd;rw[if_pos rfl,bx,Z_i,hx];exact ha
   .simp only[bx,bE,Z_i];omega
  .have hk:=of_decide_eq_false hk;exact .inl ⟨decide_eq_true ac,rfl,⟨rfl,ah⟩,⟨rfl,ah⟩,ah⟩
  .exact absurd (of_decide_eq_false h) (by simp)
 simp only[bx,bE,Z_i,N_s,O_s,N_l,G_l];have hl:=hh.1;have tm:Int.tmod (i:Int) 8=((i % 8:Nat):Int):=rfl;have td:Int.tdiv (i:Int) 8=((i / 8:Nat):Int):=rfl;have hx:=λhik=>X2 v v1 v2 k i 0 hik (λ_=>0);rw[Nat.zero_add]at hx;refine⟨λh=>absurd (of_decide_eq_true h) afH,λ_=>⟨λ_=>⟨λh1=>⟨λh2=>?_,λh2=>?_⟩,λh1=>?_⟩,λh=>absurd (of_decide_eq_false h) (by simp)⟩⟩
 .have h1:=of_decide_eq_true h1;have h2:((i % 8:Nat):Int)=0:=by rw[tm]at h2;exact eq_of_beq h2
  have hx:=hx ac;refine⟨afH,ah,ah,ac,ac,?_,?_,?_,?_,ac,ac,ac,ac,.inr ⟨i+1,ac,ac,len+1,_,?_,rfl⟩,?_⟩
  all_goals first
   |(rw[td];omega)
   |(simp only[bx,bE,Z_i];omega)
   |skip
  rw[td,Int.toNat_natCast,Nat.zero_add,hx];exact hh.more hB ac (by rw[pw7])
 .have h1:=of_decide_eq_true h1;have h2:((i % 8:Nat):Int)≠0:=by rw[tm]at h2;exact λe=>by rw[e]at h2;cases h2
  have hx:=hx ac;refine⟨ac,ac,?_,?_,?_,?_,ac,ac,.inr ⟨i+1,ac,ac,len,_,?_,rfl⟩,?_⟩
  all_goals first
   |(rw[td];omega)
   |(simp only[bx,bE,Z_i];omega)
   |skip
  rw[td,Int.toNat_natCast,Nat.zero_add,hx];exact hh.add hB ac (by rw[pw7])
 .have h1:=of_decide_eq_false h1;have:i=k:=ac;subst this;refine .inr ⟨decide_eq_false ac,rfl,⟨rfl,ah⟩,?_⟩
  have e:wrC (λ_=>0) 0 [(v,i)]=[.s 0 (rl i),.i i,.l (rl i) (ch (gV (λ_=>0) 0 v i) i)]:=by unfold wrC wrt;show[Lf.s 0 (rl (0+(i+0))),.i ((0+(i+0):Nat):Int),.l (rl (0+(i+0))) (ch (gV (λ_=>0) 0 v i) (0+(i+0)))]=_;rw[Nat.add_zero,Nat.zero_add]
  rw[ap,e];exact⟨⟨⟨rfl,hl⟩,rfl,ah⟩,pI (l:=[]) (l':=[]) hl λj hj=>hh.2 j hj,ah⟩⟩
abbrev vL:CT:=CB 182 vG HO Jd E4 iy iw HN g8 fK
theorem putN_ct:cV KX Tryz.prog GX vL:=abz (M:=MX) (tb:=yW) (FT:=yH) aaE 8 (fi:=Jx) (args:=vG) (mem:=HO) (B:=Jd) (y1:=E4) (P1:=iy) (W1:=iw) (y2:=HN) (P2:=g8) (W2:=fK) (λ_ _=>af) af 1 (λ_=>af) λJ b1 b2 b3 b4=>by have h:=LW J b1 b2 b3 b4;unfold Mm at h;exact h
def l8T:ByteArray:=⟨((List.range 256).map λi=>UInt8.ofNat (if i=0 then 0 else Nat.log2 i+1)).toArray⟩
def lg (x:Int):Nat:=Nat.log2 x.toNat
def QP (J:ae):ae:=[.i (lg (J 0).Z+1:Nat)]
abbrev MA:SP:=mkS ⟨[aD 1 16],[]⟩ 360 Tryz.f360 [tXO (.nI .u64 1 65535 0)] [] [] [] [(aw 371 Tryz.f371),(aw 372 Tryz.f372)]
theorem Cu J R:TR MA J R (((decide (256<=(J 0).Z))->((8+(yr l8T ((J 0).Z / 256)))<=16)/\R [.i 0,.i (8+(yr l8T ((J 0).Z / 256)))])/\((decide (256<=(J 0).Z))=false-> (1<=(0+(yr l8T (IntKind.wrap .u8 (J 0).Z))))/\((0+(yr l8T (IntKind.wrap .u8 (J 0).Z)))<=16)/\R [.i 0,.i (0+(yr l8T (IntKind.wrap .u8 (J 0).Z)))])):=af
theorem Wb:∀i:Nat,i<256->1<=i->yr l8T (i:Int)=((Nat.log2 i+1:Nat):Int):=by decide +kernel
theorem TG:PF0 MA QP:=λJ b1 b2=>⟨by
 rw[Cu];obtain⟨⟨v1,v2⟩,-⟩:=b1;have v1:1<=(J 0).Z:=v1;have v2:(J 0).Z<=65535:=v2;unfold QP lg;generalize (J 0).Z=v at *;obtain⟨x,rfl⟩:=Int.eq_ofNat_of_zero_le (show 0<=v by omega)
 rw[ap];have hx:x≠0:=ac;refine br_ (λq=>?_) λq=>?_
 .have q:=ai q;have e:((x:Int) / 256)=((x / 256:Nat):Int):=rfl;have hy:x / 256≠0:=ac;have h1:=Wb (x / 256) ac ac;have h2:=(Nat.log2_eq_iff hy).1 rfl
  have h3:Nat.log2 x=Nat.log2 (x / 256)+8:=(Nat.log2_eq_iff hx).2 (by
   rw[show Nat.log2 (x / 256)+8+1=(Nat.log2 (x / 256)+1)+8 by omega,Nat.pow_add,Nat.pow_add 2 (Nat.log2 (x / 256)+1)]
   omega)
  have h4:Nat.log2 (x / 256)<8:=(Nat.log2_lt hy).2 ac;rw[e,h1];exact⟨ac,rfl,⟨by show 8+((Nat.log2 (x / 256)+1:Nat):Int)=((Nat.log2 x+1:Nat):Int);omega,ah⟩,ah⟩
 .have q:=aQ q;have e:IntKind.wrap .u8 (x:Int)=x:=bH (k:=.u8) ⟨by simp only[low];omega,by simp only[top];omega⟩
  have h1:=Wb x ac ac;have h4:Nat.log2 x<8:=(Nat.log2_lt hx).2 ac;rw[e,h1];exact⟨ac,ac,rfl,⟨by show 0+((Nat.log2 x+1:Nat):Int)=((Nat.log2 x+1:Nat):Int);omega,ah⟩,ah⟩⟩
abbrev X8:CT:=C0 MA QP
theorem xn:CO X8:=CX0 (TX trivial (FK (FK ah))) TG
end
end Go.Proofs.YtldmjbgplgoedaaGreatDoor
