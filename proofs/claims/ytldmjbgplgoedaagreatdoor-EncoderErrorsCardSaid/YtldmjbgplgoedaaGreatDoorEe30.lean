import Derived.Test.YtldmjbgplgoedaaGreatDoorEe29
set_option linter.all false
namespace Go.Proofs.YtldmjbgplgoedaaGreatDoor
noncomputable section
open Go.RowKit U
theorem kmp {a b:Prop} (h:a) (e:a=b:=by kernel_rfl):b:=e ▸ h
def LY:ae->Nat->ae->ae
 |l,_,[]=>l
 |l,k,x::r=>LY (set_ l k x) (k+1) r
def lvL (x m:Nat->Int) (q:Int) (al:Bool) (p:Nat):Int:=qzF (fwF x (scF al p).toNat) (stF (m (scF al p).toNat) q (scF al p).toNat)
theorem S6 {a s:Int} (h0:0<=a) (hs:0<s):0<=lvF a s/\lvF a s<=a / s+1:=by
 have:=Int.ediv_nonneg h0 (show 0<=s by omega)
 unfold lvF
 split<;>omega
theorem TI {v s B:Int} (h1 : -(4080*B)<=v) (h2:v<=4080*B) (hB:0<B) (hs:B<=s) : -4095<=qzF v s/\qzF v s<=4095:=by
 have k:∀a,0<=a->a<=4080*B->0<=lvF a s/\lvF a s<=4095:=λa a0 a1=>by
  have hq:a / s<=4080:=by
   have h3:4080*B<=4080*s:=Int.mul_le_mul_of_nonneg_left hs afH;have h4:a<=4080*s:=ac;have h5:=Int.ediv_le_ediv (show 0<s by omega) h4
   rw[Int.mul_ediv_cancel _ (show s≠0 by omega)]at h5
   exact h5
  have:=S6 a0 (show 0<s by omega)
  omega
 unfold qzF
 split
 .have:=k (-v) ac ac;omega
 .have:=k v ac h2;omega
theorem aa6:∀k,k<64->rwS (k / 8)*(rwS (k % 8)*255)<=4080*(8*gnF k):=by decide +kernel
theorem aca {w q:Int} {k:Nat} (h1:8<=w) (h2:1<=q) (hk:k<64):0<8*gnF k/\8*gnF k<=stF w q k:=by
 have h:=(JY k hk).1;have h3:8*1<=w*q:=Int.mul_le_mul h1 h2 afH ac;have h4:=Int.mul_le_mul_of_nonneg_right h3 (show 0<=gnF k by omega)
 unfold stF;omega
theorem abB {x m:Nat->Int} {q:Int} (hx:∀i,i<64->-255<=x i/\x i<=255) (hm:vmP m) (hq:1<=q) {k:Nat} (hk:k<64) : -4095<=qzF (fwF x k) (stF (m k) q k)/\qzF (fwF x k) (stF (m k) q k)<=4095:=by have h1:=JM hx hk;have h2:=aa6 k hk;have h3:=aca (hm k hk) hq hk;exact TI (B:=8*gnF k) ac ac h3.1 h3.2
theorem cB {x y:Nat->Int} (h:∀i,i<64->x i=y i) {i:Nat} (hi:i<64):fwR x i=fwR y i:=by unfold fwR oG;simp only[h _ (show 8*(i / 8)+0<64 by omega),h _ (show 8*(i / 8)+1<64 by omega),h _ (show 8*(i / 8)+2<64 by omega),h _ (show 8*(i / 8)+3<64 by omega),h _ (show 8*(i / 8)+4<64 by omega),h _ (show 8*(i / 8)+5<64 by omega),h _ (show 8*(i / 8)+6<64 by omega),h _ (show 8*(i / 8)+7<64 by omega)]
theorem zR {x y:Nat->Int} (h:∀i,i<64->x i=y i) {i:Nat} (hi:i<64):fwF x i=fwF y i:=by unfold fwF oG;simp only[cB h (show 8*0+i % 8<64 by omega),cB h (show 8*1+i % 8<64 by omega),cB h (show 8*2+i % 8<64 by omega),cB h (show 8*3+i % 8<64 by omega),cB h (show 8*4+i % 8<64 by omega),cB h (show 8*5+i % 8<64 by omega),cB h (show 8*6+i % 8<64 by omega),cB h (show 8*7+i % 8<64 by omega)]
theorem Kt {al:Bool} {p:Nat} (hp:p<64):(scF al p).toNat<64:=by have:=wy al p hp;omega
theorem xi {x y m:Nat->Int} {q:Int} {al:Bool} (h:∀i,i<64->x i=y i) {p:Nat} (hp:p<64):lvL x m q al p=lvL y m q al p:=by unfold lvL;rw[zR h (Kt hp)]
theorem jT {n:Nat} {f g f' g':Nat->Int} (h:∀i,i<n->f i=f' i) (h':∀i,i<n->g i=g' i):bu n f g=bu n f' g':=by
 have:bu n f g=true↔bu n f' g'=true:=by simp only[bu,List.all_eq_true,List.mem_range,beq_iff_eq];exact⟨λk i hi=>by rw[<-h i hi,<-h' i hi];exact k i hi,λk i hi=>by rw[h i hi,h' i hi];exact k i hi⟩
 cases e:bu n f g<;>cases e':bu n f' g'<;>simp[e,e']at this ⊢
def alB (o:Nat) (J:ae) (fd:Bool) (n:Nat):Nat->Int:=((KO [.i (J o).Z,.i (J (o+1)).Z,.l (J (o+2)).N (J (o+2)).G,.l (J (o+3)).N (J (o+3)).G,.l (J (o+4)).N (J (o+4)).G,.i 0,.i 0,.i n,.b fd]) 0).F
theorem Kg {o:Nat} {J:ae} {fd:Bool}:∀ {n:Nat},n<6->∀k,alB o J fd n k=cel (J (o+2+bkC n)).G (bkI n fd k)
 |0,_,_=>rfl
 |1,_,_=>rfl
 |2,_,_=>rfl
 |3,_,_=>rfl
 |4,_,_=>rfl
 |5,_,_=>rfl
 |n+6,h,_=>ac
def alX (J:ae) (fd:Bool) (n k:Nat):Int:=cel (J (2+bkC n)).G (bkI n fd k)-cel (J (7+bkC n)).G (bkI n fd k)
def alV (J:ae) (fd:Bool) (i:Nat):Int:=lvL (alX J fd (i / 64)) (J 10).F (J 30).Z (J 29).X (i % 64)
def alC (J:ae) (fd:Bool) (n:Nat):Bool:=!(bu 64 (λk=>alV J fd (k+n*64)) λ_=>0)
def alL (J:ae) (k:Int):Int:=((YR [.i (J 0).Z,.i (J 1).Z,.l (J 2).N (J 2).G,.l (J 3).N (J 3).G,.l (J 4).N (J 4).G,.i (J 5).Z,.i (J 6).Z,.l (J 7).N (J 7).G,.l (J 8).N (J 8).G,.l (J 9).N (J 9).G,.i k]) 0).Z
def alD (J:ae):Bool:=((J 19).X&&(J 25).Z==3)&&decide (alL J 2<alL J 1)
def gf (J:ae) (fd:Bool):Nat->Bool
 |0=>false
 |n+1=>gf J fd n||alC J fd n
def QL (J:ae):Prop:=vmP (J 10).F
def mbw (J:ae) (o:Nat) (fd:Bool) (c:Nat->Bool) (L:Nat->Int):ae:=[.i (J o).Z,.b (J (o+1)).X,.b (J (o+2)).X,.b (J (o+3)).X,.b fd,.i (J (o+5)).Z,.i (J (o+6)).Z,.i (J (o+7)).Z,.i (J (o+8)).Z,.i (J (o+9)).Z,.i (J (o+10)).Z,.i (J (o+11)).Z,.i (J (o+12)).Z,.f (J (o+13)).F,.i (J (o+14)).Z,.b (c 0),.b (c 1),.b (c 2),.b (c 3),.b (c 4),.b (c 5),.f L]
theorem Wf {K:KT} {J:ae} {o:Nat} {fd:Bool} {c c':Nat->Bool} {L L':Nat->Int} (hc:∀n,n<6->c n=c' n) (hL:∀i,i<384->L i=L' i):mL K sMA (mbw J o fd c L) (mbw J o fd c' L'):=by
 unfold mbw;rw[hc 0 afH,hc 1 afH,hc 2 afH,hc 3 afH,hc 4 afH,hc 5 afH]
 repeat (first|exact trivial | refine And.intro (by first|rfl | exact λi _=>rfl | exact λi hi=>hL i hi) ?_)
def qx (J:ae):ae:=let fd:=alD J;.b (gf J fd 6)::mbw J 86 fd (alC J fd) (alV J fd)
def alK (L lv:Nat->Int) (n:Nat):Bool:=!(bu 64 (λi=>(qT L (n*64) 64 lv) (i+n*64)) λ_=>0)
def KF (fl:Nat->Bool) (k0:Bool) (n j:Nat):Bool:=bif Nat.beq (n*1) j then k0 else fl j
def acZ (fl:Nat->Bool) (k0:Bool) (n:Nat):List Bool:=[KF fl k0 n 0,KF fl k0 n 1,KF fl k0 n 2,KF fl k0 n 3,KF fl k0 n 4,KF fl k0 n 5]
theorem OW {fl:Nat->Bool} {k0:Bool}:∀ {n:Nat},n<6->bAt (acZ fl k0 n) (n*1)=k0
 |0,_=>rfl
 |1,_=>rfl
 |2,_=>rfl
 |3,_=>rfl
 |4,_=>rfl
 |5,_=>rfl
 |n+6,h=>ac
abbrev cG:SP:=mkS ⟨[bm],[.run 100 sCD,.run 127 sMA]⟩ 179 Tryz.f179 [tXO (.nP 0 0),tXO (.nP 1 0),.tX (.sA bJ),.tX (.sA bJ),.tX (.sA [r4])] [.run 100 sCD,.run 127 sMA] [(20001,.head ⟨[(0,tXO (.nP 0 0)),(1,tXO (.nP 1 0)),(7,tXO (.nP 2 0)),(8,tXO (.nP 3 0)),(9,tXO (.nP 4 0))],[.run 100 sCD,.run 127 sMA,.run 31 bJ,.run 31 bJ,.run 24 [r4]],[]⟩),(4,.head ⟨[(0,tXO (.nP 0 0)),(1,tXO (.nP 1 0)),(7,tXO (.nP 2 0)),(8,tXO (.nP 3 0)),(9,tXO (.nP 4 0)),(11,aN),(31,aj 0 1048576)],[.run 100 sCD,.run 127 sMA,.run 31 bJ,.run 31 bJ,.run 24 [r4]],[]⟩),(8,.head ⟨[(0,tXO (.nP 0 0)),(1,tXO (.nP 1 0)),(7,tXO (.nP 2 0)),(8,tXO (.nP 3 0)),(9,tXO (.nP 4 0)),(11,aN),(12,aj 0 1048576),(13,tXO (.nP 5 0)),(31,aj 0 1048576),(53,.tX (.sA [.a 64 .i64 0 255 z0])),(54,aj 0 1048576)],[.run 100 sCD,.run 127 sMA,.run 31 bJ,.run 31 bJ,.run 24 [r4],.run 124 [.a 64 .i64 (-510) 255 z0]],[]⟩)] [Up,aei,ZH,acF,adi,aeB] [(aw 263 Tryz.f263)]
theorem aeQ:TOk Tryz.prog KX GX cG.b cG.t:=TX ⟨L7,WP,JQ,Vo,VO,Tt,ah⟩ (FK ah)
theorem D8 J R:TR cG J R (∃J0:ae->Prop,(BR (((uG (cw J 11 75 k1)) 0).X)
(((cw J 11 75 k1)=(cw J 11 75 k1))/\(((uG (cw J 11 75 k1)) 0).X=true)/\let x0:ae:=[.i (J 0).Z,.i (J 1).Z,.l (J 2).N (J 2).G,.l (J 3).N (J 3).G,.l (J 4).N (J 4).G,.i (J 5).Z,.i (J 6).Z,.l (J 7).N (J 7).G,.l (J 8).N (J 8).G,.l (J 9).N (J 9).G,.i 2];(X4 x0)/\let x1:ae:=YR x0;let x2:ae:=[.i (J 0).Z,.i (J 1).Z,.l (J 2).N (J 2).G,.l (J 3).N (J 3).G,.l (J 4).N (J 4).G,.i (J 5).Z,.i (J 6).Z,.l (J 7).N (J 7).G,.l (J 8).N (J 8).G,.l (J 9).N (J 9).G,.i 1];(X4 x2)/\let x3:ae:=YR x2;J0 (ak (cw J 11 79 k24) (ak [.b (decide ((x1 0).Z<(x3 0).Z))] (ak (cw J 91 17 k11) [.i (J 0).Z,.i (J 1).Z,.l (J 2).N (J 2).G,.l (J 3).N (J 3).G,.l (J 4).N (J 4).G,.i (J 5).Z,.i (J 6).Z,.l (J 7).N (J 7).G,.l (J 8).N (J 8).G,.l (J 9).N (J 9).G,.f (J 10).F]))))
(((cw J 11 75 k1)=(cw J 11 75 k1))/\(((uG (cw J 11 75 k1)) 0).X=false)/\J0 (ak (cw J 11 79 k24) (ak [.b false] (ak (cw J 91 17 k11) [.i (J 0).Z,.i (J 1).Z,.l (J 2).N (J 2).G,.l (J 3).N (J 3).G,.l (J 4).N (J 4).G,.i (J 5).Z,.i (J 6).Z,.l (J 7).N (J 7).G,.l (J 8).N (J 8).G,.l (J 9).N (J 9).G,.f (J 10).F]))))) /\
∀j0,J0 j0 ->
∃(I1:ae->Prop) (μ1:ae->Nat),I1 (ak [.b false,.i 0] (cw j0 0 108 k14))/\∀l1,I1 l1 -> BR (decide ((l1 1).Z<6))
(((l1 1).Z<=5)/\let x4:ae:=[.i (l1 99).Z,.i (l1 100).Z,.l (l1 101).N (l1 101).G,.l (l1 102).N (l1 102).G,.l (l1 103).N (l1 103).G,.i 0,.i 0,.i (l1 1).Z,.b (l1 81).X];(QE x4)/\let x5:ae:=KO x4;((l1 1).Z<=5)/\let x6:ae:=[.i (l1 104).Z,.i (l1 105).Z,.l (l1 106).N (l1 106).G,.l (l1 107).N (l1 107).G,.l (l1 108).N (l1 108).G,.i 0,.i 0,.i (l1 1).Z,.b (l1 81).X];(QE x6)/\let x7:ae:=KO x6;∃(I2:ae->Prop) (μ2:ae->Nat),I2 (ak [.b (l1 0).X,.i (l1 1).Z,.i (l1 1).Z,.f (x7 0).F,.i 0] (ak (cw l1 2 108 k14) [.f (x5 0).F]))/\∀l2,I2 l2 -> BR (decide ((l2 4).Z<64))
(((l2 4).Z<64)/\(0<=(l2 4).Z)/\((l2 4).Z<64)/\(0<=(l2 4).Z)/\((l2 4).Z<64)/\(((l2 4).Z+1)<=1048576)/\(∀i,i<64->(-510)<=(upd (l2 113).F ((l2 4).Z.toNat*1) (((l2 113).F (0+((l2 4).Z.toNat*1)))-((l2 3).F (l2 4).Z.toNat))) i/\(upd (l2 113).F ((l2 4).Z.toNat*1) (((l2 113).F (0+((l2 4).Z.toNat*1)))-((l2 3).F (l2 4).Z.toNat))) i<=255)/\Ag I2 μ2 l2 (ak [.b (l2 0).X,.i (l2 1).Z,.i (l2 2).Z,.f (l2 3).F,.i ((l2 4).Z+1)] (ak (cw l2 5 108 k14) [.f (upd (l2 113).F ((l2 4).Z.toNat*1) (((l2 113).F (0+((l2 4).Z.toNat*1)))-((l2 3).F (l2 4).Z.toNat)))])))
((∀i,i<64->(-255)<=(l2 113).F i/\(l2 113).F i<=255)/\let x8:ae:=[.f (l2 113).F];let x9:ae:=YV x8;let x10:ae:=[.f (x9 0).F,.f (l2 112).F,.i (l2 24).Z];(ZW x10)/\let x11:ae:=Yl x10;let x12:ae:=[.f (x11 0).F,.b (l2 23).X];let x13:ae:=Yj x12;(0<=(l2 1).Z)/\((l2 1).Z<6)/\(0<=(l2 1).Z)/\((l2 1).Z<6)/\(0<=(l2 1).Z)/\((l2 1).Z<6)/\BR ((l2 0).X)
((((l2 2).Z+1)<=1048576)/\let k1:=qT (l2 101).F ((l2 1).Z.toNat*64) 64 (x13 0).F;let k0:=!(bu 64 (λi0=>k1 (i0+((l2 1).Z.toNat*64))) (λ_=>0));Ag I1 μ1 l1 (ak [.b true,.i ((l2 2).Z+1)] (ak (cw l2 5 90 k30) [.b (bif Nat.beq ((l2 1).Z.toNat*1) 0 then k0 else(l2 95).X),.b (bif Nat.beq ((l2 1).Z.toNat*1) 1 then k0 else(l2 96).X),.b (bif Nat.beq ((l2 1).Z.toNat*1) 2 then k0 else(l2 97).X),.b (bif Nat.beq ((l2 1).Z.toNat*1) 3 then k0 else(l2 98).X),.b (bif Nat.beq ((l2 1).Z.toNat*1) 4 then k0 else(l2 99).X),.b (bif Nat.beq ((l2 1).Z.toNat*1) 5 then k0 else(l2 100).X),.f k1,.i (l2 102).Z,.i (l2 103).Z,.l (l2 104).N (l2 104).G,.l (l2 105).N (l2 105).G,.l (l2 106).N (l2 106).G,.i (l2 107).Z,.i (l2 108).Z,.l (l2 109).N (l2 109).G,.l (l2 110).N (l2 110).G,.l (l2 111).N (l2 111).G,.f (l2 112).F])))
((0<=(l2 1).Z)/\((l2 1).Z<6)/\(((l2 2).Z+1)<=1048576)/\let k7:=qT (l2 101).F ((l2 1).Z.toNat*64) 64 (x13 0).F;let k6:=!(bu 64 (λi0=>k7 (i0+((l2 1).Z.toNat*64))) (λ_=>0));let k5:=bif Nat.beq ((l2 1).Z.toNat*1) 4 then k6 else(l2 99).X;let k4:=bif Nat.beq ((l2 1).Z.toNat*1) 3 then k6 else(l2 98).X;let k3:=bif Nat.beq ((l2 1).Z.toNat*1) 2 then k6 else(l2 97).X;let k2:=bif Nat.beq ((l2 1).Z.toNat*1) 1 then k6 else(l2 96).X;let k1:=bif Nat.beq ((l2 1).Z.toNat*1) 0 then k6 else(l2 95).X;let k0:=bif Nat.beq ((l2 1).Z.toNat*1) 5 then k6 else(l2 100).X;Ag I1 μ1 l1 (ak [.b (bAt [k1,k2,k3,k4,k5,k0] ((l2 1).Z.toNat*1)),.i ((l2 2).Z+1)] (ak (cw l2 5 90 k30) [.b k1,.b k2,.b k3,.b k4,.b k5,.b k0,.f k7,.i (l2 102).Z,.i (l2 103).Z,.l (l2 104).N (l2 104).G,.l (l2 105).N (l2 105).G,.l (l2 106).N (l2 106).G,.i (l2 107).Z,.i (l2 108).Z,.l (l2 109).N (l2 109).G,.l (l2 110).N (l2 110).G,.l (l2 111).N (l2 111).G,.f (l2 112).F])))))
(R (ak [.i 0,.b (l1 0).X] (cw l1 2 97 k31)))):=af
def alJ (J:ae) (fd:Bool):ae:=ak (cw J 11 79 k24) (ak [.b fd] (ak (cw J 91 17 k11) [.i (J 0).Z,.i (J 1).Z,.l (J 2).N (J 2).G,.l (J 3).N (J 3).G,.l (J 4).N (J 4).G,.i (J 5).Z,.i (J 6).Z,.l (J 7).N (J 7).G,.l (J 8).N (J 8).G,.l (J 9).N (J 9).G,.f (J 10).F]))
def alS (J:ae) (fd:Bool) (n:Nat) (x:Bool × (Nat->Bool) × (Nat->Int)):ae:=LY (ak [.b x.1,.i n] (cw (alJ J fd) 0 108 k14)) 92 [.b (x.2.1 0),.b (x.2.1 1),.b (x.2.1 2),.b (x.2.1 3),.b (x.2.1 4),.b (x.2.1 5),.f x.2.2]
def afs (J:ae) (fd:Bool) (n:Nat) (sm:Bool) (l1:ae) (k:Nat) (v:Nat->Int):ae:=ak [.b sm,.i n,.i n,.f (alB 5 J fd n),.i k] (ak (cw l1 2 108 k14) [.f v])
theorem WX {J:ae} {fd:Bool} {n:Nat} (hn:n<6) (h2:∀c,c<3->∀i,i<bkN c->0<=cel (J (2+c)).G i/\cel (J (2+c)).G i<=255) (h7:∀c,c<3->∀i,i<bkN c->0<=cel (J (7+c)).G i/\cel (J (7+c)).G i<=255) {k:Nat} (hk:k<64):(0<=alB 0 J fd n k/\alB 0 J fd n k<=255)/\(0<=alB 5 J fd n k/\alB 5 J fd n k<=255)/\alX J fd n k=alB 0 J fd n k-alB 5 J fd n k:=by
 have hc:bkC n<3:=by unfold bkC;split<;>omega
 have a:=h2 _ hc _ (qa (fd:=fd) hn hk);have b:=h7 _ hc _ (qa (fd:=fd) hn hk);rw[Kg hn,Kg hn];unfold alX;rw[show 0+2+bkC n=2+bkC n by omega,show 5+2+bkC n=7+bkC n by omega]
 exact⟨a,b,rfl⟩
theorem zg {f g:Nat->Int} {e n i:Nat} (h1:e<=i) (h2:i<e+n):qT f e n g i=g (i-e):=by unfold qT;rw[if_pos ⟨h1,h2⟩]
theorem HT {f g:Nat->Int} {e n i:Nat} (h:i<e):qT f e n g i=f i:=by unfold qT;rw[if_neg ac]
def AlI (J:ae) (fd:Bool) (n:Nat) (x:Bool × (Nat->Bool) × (Nat->Int)):Prop:=x.1=gf J fd n/\(∀j,j<n->x.2.1 j=alC J fd j)/\∀i,i<n*64->x.2.2 i=alV J fd i
theorem AlI.next {J:ae} {fd:Bool} {n:Nat} {x:Bool × (Nat->Bool) × (Nat->Int)} (h:AlI J fd n x) {lv:Nat->Int} (hl:∀p,p<64->lv p=alV J fd (n*64+p)) {k0:Bool} (h0:k0=!(bu 64 (λi=>(qT x.2.2 (n*64) 64 lv) (i+n*64)) λ_=>0)) {sm:Bool} (hs:sm=(x.1||k0)):AlI J fd (n+1) (sm,KF x.2.1 k0 n,qT x.2.2 (n*64) 64 lv):=by
 have hk:k0=alC J fd n:=by
  rw[h0];unfold alC
  congr 1
  refine jT (λi hi=>?_) λ_ _=>rfl;rw[zg ac ac,hl _ ac]
  congr 1
  omega
 refine⟨by rw[hs,h.1,hk];rfl,λj hj=>?_,λi hi=>?_⟩
 .show(bif Nat.beq (n*1) j then k0 else x.2.1 j)=_
  by_cases e:n=j
  .subst e;rw[Nat.mul_one,show Nat.beq n n=true from Nat.beq_refl n,hk];rfl
  .rw[Nat.mul_one,show Nat.beq n j=false by cases q:Nat.beq n j with | false=>rfl | true=>exact absurd (beq_iff'.1 q) e]
   exact h.2.1 j ac
 .show qT x.2.2 (n*64) 64 lv i=_
  by_cases e:i<n*64
  .rw[HT e];exact h.2.2 i e
  .rw[zg ac ac,hl _ ac]
   congr 1
   omega
theorem WU:∀J,bTs KX 1 (au cG.A J)->bBs KX 1 (an cG.M (tls (aG cG.A) J))->QL J->Sa (TS cG J) (aa3 KX (cG.M.take 1) cG.Y.sk (cG.Y.msk.drop 1) (tls (aG cG.A) J) (qx J)):=λJ b1 b2 hp=>⟨by
 rw[D8]
 have hq1:1<=(J 30).Z:=by obtain⟨⟨-,-,-,-,-,-,-,-,-,-,-,-,-,-,-,-,-,-,-,q,-⟩,-⟩:=b2;exact q.1
 obtain⟨-,-,⟨c0,c1,c2,c3,c4,-⟩,⟨d0,d1,d2,d3,d4,-⟩,-⟩:=b1;have c0a:16<=(J 0).Z:=c0.1;have c0b:(J 0).Z<=16:=c0.2;have c1a:16<=(J 1).Z:=c1.1;have c1b:(J 1).Z<=16:=c1.2;have c2a:256<=(J 2).N:=c2.1;have c2b:(J 2).N<=256:=c2.2.1;have c3a:64<=(J 3).N:=c3.1;have c3b:(J 3).N<=64:=c3.2.1;have c4a:64<=(J 4).N:=c4.1;have c4b:(J 4).N<=64:=c4.2.1;have d0a:16<=(J 5).Z:=d0.1;have d0b:(J 5).Z<=16:=d0.2;have d1a:16<=(J 6).Z:=d1.1;have d1b:(J 6).Z<=16:=d1.2;have d2a:256<=(J 7).N:=d2.1;have d2b:(J 7).N<=256:=d2.2.1;have d3a:64<=(J 8).N:=d3.1;have d3b:(J 8).N<=64:=d3.2.1;have d4a:64<=(J 9).N:=d4.1;have d4b:(J 9).N<=64:=d4.2.1;have c2c:∀i,i<(J 2).N->0<=cel (J 2).G i/\cel (J 2).G i<=255:=λi hi=>(c2.2.2 i hi).1;have c3c:∀i,i<(J 3).N->0<=cel (J 3).G i/\cel (J 3).G i<=255:=λi hi=>(c3.2.2 i hi).1;have c4c:∀i,i<(J 4).N->0<=cel (J 4).G i/\cel (J 4).G i<=255:=λi hi=>(c4.2.2 i hi).1;have d2c:∀i,i<(J 7).N->0<=cel (J 7).G i/\cel (J 7).G i<=255:=λi hi=>(d2.2.2 i hi).1;have d3c:∀i,i<(J 8).N->0<=cel (J 8).G i/\cel (J 8).G i<=255:=λi hi=>(d3.2.2 i hi).1;have d4c:∀i,i<(J 9).N->0<=cel (J 9).G i/\cel (J 9).G i<=255:=λi hi=>(d4.2.2 i hi).1;clear c0 c1 c2 c3 c4 d0 d1 d2 d3 d4 b2
 have g2:∀c,c<3->∀i,i<bkN c->0<=cel (J (2+c)).G i/\cel (J (2+c)).G i<=255:=λc hc i hi=>by
  rcases(show c=0\/c=1\/c=2 by omega)with rfl | rfl | rfl
  .exact c2c i (by have:i<256:=hi;omega)
  .exact c3c i (by have:i<64:=hi;omega)
  .exact c4c i (by have:i<64:=hi;omega)
 have g7:∀c,c<3->∀i,i<bkN c->0<=cel (J (7+c)).G i/\cel (J (7+c)).G i<=255:=λc hc i hi=>by
  rcases(show c=0\/c=1\/c=2 by omega)with rfl | rfl | rfl
  .exact d2c i (by have:i<256:=hi;omega)
  .exact d3c i (by have:i<64:=hi;omega)
  .exact d4c i (by have:i<64:=hi;omega)
 have f16':∀ {a b:Int} {x y z:Nat},a=16->b=16->x=256->y=64->z=64->fmB a b x y z=true:=λe1 e2 e3 e4 e5=>by rw[e1,e2,e3,e4,e5];decide
 have F0:fmB (J 0).Z (J 1).Z (J 2).N (J 3).N (J 4).N=true:=f16' ac ac ac ac ac;have F5:fmB (J 5).Z (J 6).Z (J 7).N (J 8).N (J 9).N=true:=f16' ac ac ac ac ac;have hp:vmP (J 10).F:=hp;clear c0a c0b c1a c1b c2a c2b c3a c3b c4a c4b d0a d0b d1a d1b d2a d2b d3a d3b d4a d4b c2c c3c c4c d2c d3c d4c;refine⟨λj=>j=alJ J (alD J),br_ (λq=>⟨rfl,q,ah,ah,?_⟩) (λq=>⟨rfl,q,?_⟩),?_⟩
 .have q:((J 19).X&&(J 25).Z==3)=true:=q;have e:alD J=decide (alL J 2<alL J 1):=by unfold alD;rw[q];rfl
  rw[e];show(_:ae)=_
  kernel_rfl
 .have q:((J 19).X&&(J 25).Z==3)=false:=q;have e:alD J=false:=by unfold alD;rw[q];rfl
  rw[e];show(_:ae)=_
  kernel_rfl
 intro j0 hj0;unfold qx;generalize alD J=fd at hj0 ⊢;subst hj0;refine bG 6 1 (AlI J fd) (alS J fd) (λn x _=>af) (false,bAt [(J 101).X,(J 102).X,(J 103).X,(J 104).X,(J 105).X,(J 106).X],(J 107).F) af ⟨rfl,λj hj=>ac,λi hi=>ac⟩ λI μ hA n x l1 hn hx hl1=>?_;have e1:(l1 1).Z=n:=by rw[hl1];kernel_rfl
 refine br_ (λq=>?_) λq=>?_
 .have q:=ai q;rw[e1]at q;have u5:(l1 1).Z<=5:=by rw[e1];omega
  refine⟨u5,?_,u5,?_,?_⟩
  .rw[hl1];exact kmp F0
  .rw[hl1];exact kmp F5
  have hxi:∀k,k<64->(0<=alB 0 J fd n k/\alB 0 J fd n k<=255)/\(0<=alB 5 J fd n k/\alB 5 J fd n k<=255)/\alX J fd n k=alB 0 J fd n k-alB 5 J fd n k:=λk hk=>WX ac g2 g7 hk;refine bG 64 4 (λr (v:Nat->Int)=>∀k,k<64->v k=if k<r then alX J fd n k else alB 0 J fd n k) (afs J fd n x.1 l1) (λk v _=>af) (alB 0 J fd n) (by rw[hl1];kernel_rfl) (λk hk=>by rw[if_neg (Nat.not_lt_zero k)]) λI1 μ1 hA1 r v l2 hr hv hl2=>?_
  have s4:(l2 4).Z=r:=by rw[hl2];kernel_rfl
  have s3:(l2 3).F=alB 5 J fd n:=by rw[hl2];kernel_rfl
  have s113:(l2 113).F=v:=by rw[hl2];kernel_rfl
  refine br_ (λq2=>?_) λq2=>?_
  .have q2:=ai q2;rw[s4]at q2
   have st:∀k,k<64->upd v (r*1) (v (0+r*1)-alB 5 J fd n r) k=if k<r+1 then alX J fd n k else alB 0 J fd n k:=λk hk=>by
    unfold upd
    by_cases e:k=r*1
    .have e':k=r:=ac;subst e';rw[if_pos e,if_pos ac,Nat.zero_add,<-e,hv _ hk,if_neg ac,(hxi k hk).2.2]
    .rw[if_neg e,hv k hk]
     by_cases e2:k<r
     .rw[if_pos e2,if_pos ac]
     .rw[if_neg e2,if_neg ac]
   rw[s4,s3,s113,ap];refine⟨q2,ac,q2,ac,q2,ac,λi hi=>?_,hA1 r v (upd v (r*1) (v (0+r*1)-alB 5 J fd n r)) _ _ ac st hl2 (by rw[hl2];kernel_rfl)⟩
   have b3:=st i hi;have b4:=hxi i hi;show -510<=upd v (r*1) (v (0+r*1)-alB 5 J fd n r) i/\upd v (r*1) (v (0+r*1)-alB 5 J fd n r) i<=255;rw[b3]
   split<;>omega
  .have q2:=aQ q2;rw[s4]at q2;have hv:∀k,k<64->v k=alX J fd n k:=λk hk=>by rw[hv k hk,if_pos ac]
   have hv2:∀k,k<64->-255<=v k/\v k<=255:=λk hk=>by have:=hxi k hk;rw[hv k hk];omega
   have t0:(l2 0).X=x.1:=by rw[hl2];kernel_rfl
   have t1:(l2 1).Z=n:=by rw[hl2];kernel_rfl
   have t2:(l2 2).Z=n:=by rw[hl2];kernel_rfl
   have t23:(l2 23).X=(J 29).X:=by rw[hl2,hl1];kernel_rfl
   have t24:(l2 24).Z=(J 30).Z:=by rw[hl2,hl1];kernel_rfl
   have t112:(l2 112).F=(J 10).F:=by rw[hl2,hl1];kernel_rfl
   have t101:(l2 101).F=x.2.2:=by rw[hl2,hl1];kernel_rfl
   have hlv:∀p,p<64->lvL v (J 10).F (J 30).Z (J 29).X p=alV J fd (n*64+p):=λp hp'=>by
    unfold alV;rw[show(n*64+p) / 64=n by omega,show(n*64+p) % 64=p by omega]
    exact xi hv hp'
   rw[s113,t0,t1,t2,t23,t24,t112,t101,ap];refine⟨hv2,⟨hp,λk hk=>abB hv2 hp hq1 hk⟩,ac,q,ac,q,ac,q,?_⟩;refine br_ (λq3=>?_) λq3=>?_
   .refine⟨ac,?_⟩;refine hA n x _ _ _ ac (hx.next (lv:=lvL v (J 10).F (J 30).Z (J 29).X) hlv rfl (sm:=true) (by rw[q3];rfl)) hl1 (by rw[hl2,hl1];kernel_rfl)
   .refine⟨ac,q,ac,?_⟩;refine hA n x (bAt (acZ x.2.1 (alK x.2.2 (lvL v (J 10).F (J 30).Z (J 29).X) n) n) (n*1),KF x.2.1 (alK x.2.2 (lvL v (J 10).F (J 30).Z (J 29).X) n) n,qT x.2.2 (n*64) 64 (lvL v (J 10).F (J 30).Z (J 29).X)) _ _ ac (hx.next (lv:=lvL v (J 10).F (J 30).Z (J 29).X) hlv rfl (by rw[q3,Bool.false_or];exact OW (fl:=x.2.1) ac)) hl1 (by rw[hl2,hl1];kernel_rfl)
 .have q:=aQ q;rw[e1]at q;have:n=6:=ac;subst this;obtain⟨sm,fl,L⟩:=x;obtain⟨rfl,h2,h3⟩:=hx;have h2:∀j,j<6->fl j=alC J fd j:=h2;refine⟨rfl,?_,?_,?_⟩
  .refine⟨?_,ah⟩;show(l1 0).X=gf J fd 6;rw[hl1]
   kernel_rfl
  .exact V8 (by rw[hl1];kernel_rfl)
  .refine⟨?_,ah⟩;have key:tls (qK (cG.M.take 1)) (tls (nlL cG.Y.sk) (tl (ak [.i 0,.b (l1 0).X] (cw l1 2 97 k31))))=mbw J 86 fd fl L:=by rw[hl1];kernel_rfl
   rw[key];exact Wf h2 h3⟩
abbrev YZ:CT:=CM 179 cG.A cG.M 1 cG.Y.sk (cG.Y.msk.drop 1) QL qx
theorem yA:cV KX Tryz.prog GX YZ:=abt (M:=MX) (tb:=cG.b) (FT:=cG.t) aeQ 8 (fi:=cG.i) (args:=cG.A) (mem:=cG.M) (sk:=cG.Y.sk) (msk:=cG.Y.msk.drop 1) (Pr:=QL) (W:=qx) (λ_ _=>af) af 1 1 (λ_=>af) λJ b1 b2 b3=>by have h:=WU J b1 b2 b3;unfold TS cG at h;exact h
end
end Go.Proofs.YtldmjbgplgoedaaGreatDoor
