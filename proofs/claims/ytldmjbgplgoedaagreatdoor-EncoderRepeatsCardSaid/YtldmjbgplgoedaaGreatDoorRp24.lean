import Derived.Test.YtldmjbgplgoedaaGreatDoorRp23
set_option linter.all false
namespace Go.Proofs.YtldmjbgplgoedaaGreatDoor
noncomputable section
open Go.RowKit U
def vY (J:ae):Prop:=lm (J 1).Z (J 5).X (J 9).X (J 11).Z (J 12).Z (J 13).Z (J 14).Z ((J 19).F 0) ((J 19).F 1)
def qh (J:ae):ae:=.b true::tls 6 J
abbrev pz:SP:=mkS ⟨[.sO (.nB false true false)],[.run 127 sMP]⟩ 312 Tryz.f312 [.tX (.sA VC),tXO (.nP 0 0),aj 0 0,aN] [.run 127 sMP] [(9,.unroll 70)] [] [(aw 333 Tryz.f333),(aw 249 Tryz.f249),(aw 300 Tryz.f300),(aw 299 Tryz.f299)]
theorem yx J R:TR pz J R (((!(J 5).X)->((((J 11).Z==0)&&(((J 12).Z==0)&&(((J 13).Z==0)&&((J 14).Z==0))))->((bu 2 (J 19).F (λ_=>0))=true)/\R (ak [.i 0,.b (bu 2 (J 19).F (λ_=>0))] (cw J 6 22 k0)))/\((((J 11).Z==0)&&(((J 12).Z==0)&&(((J 13).Z==0)&&((J 14).Z==0))))=false->False))/\((!(J 5).X)=false->((!(J 9).X)->((!(((J 13).Z==0)&&((J 14).Z==0)))->False)/\((!(((J 13).Z==0)&&((J 14).Z==0)))=false->((((J 19).F (0+1))!=0)->False)/\((((J 19).F (0+1))!=0)=false->((J 9).X->((((J 19).F 0)!=0)->((((J 19).F 0)!=1)->False)/\((((J 19).F 0)!=1)=false->((((J 19).F (0+1))!=0)->((((J 19).F (0+1))!=1)->False)/\((((J 19).F (0+1))!=1)=false->R (ak [.i 0,.b true] (cw J 6 22 k0))))/\((((J 19).F (0+1))!=0)=false->R (ak [.i 0,.b true] (cw J 6 22 k0)))))/\((((J 19).F 0)!=0)=false->((((J 19).F (0+1))!=0)->((((J 19).F (0+1))!=1)->False)/\((((J 19).F (0+1))!=1)=false->R (ak [.i 0,.b true] (cw J 6 22 k0))))/\((((J 19).F (0+1))!=0)=false->R (ak [.i 0,.b true] (cw J 6 22 k0)))))/\((J 9).X=false->((!((J 1).Z !=3))->((((J 19).F 0)!=0)->False)/\((((J 19).F 0)!=0)=false->((((J 19).F 0)!=0)->((((J 19).F 0)!=1)->False)/\((((J 19).F 0)!=1)=false->((((J 19).F (0+1))!=0)->((((J 19).F (0+1))!=1)->False)/\((((J 19).F (0+1))!=1)=false->R (ak [.i 0,.b true] (cw J 6 22 k0))))/\((((J 19).F (0+1))!=0)=false->R (ak [.i 0,.b true] (cw J 6 22 k0)))))/\((((J 19).F 0)!=0)=false->((((J 19).F (0+1))!=0)->((((J 19).F (0+1))!=1)->False)/\((((J 19).F (0+1))!=1)=false->R (ak [.i 0,.b true] (cw J 6 22 k0))))/\((((J 19).F (0+1))!=0)=false->R (ak [.i 0,.b true] (cw J 6 22 k0))))))/\((!((J 1).Z !=3))=false->((((J 19).F 0)!=0)->((((J 19).F 0)!=1)->False)/\((((J 19).F 0)!=1)=false->((((J 19).F (0+1))!=0)->((((J 19).F (0+1))!=1)->False)/\((((J 19).F (0+1))!=1)=false->R (ak [.i 0,.b true] (cw J 6 22 k0))))/\((((J 19).F (0+1))!=0)=false->R (ak [.i 0,.b true] (cw J 6 22 k0)))))/\((((J 19).F 0)!=0)=false->((((J 19).F (0+1))!=0)->((((J 19).F (0+1))!=1)->False)/\((((J 19).F (0+1))!=1)=false->R (ak [.i 0,.b true] (cw J 6 22 k0))))/\((((J 19).F (0+1))!=0)=false->R (ak [.i 0,.b true] (cw J 6 22 k0)))))))))/\((!(J 9).X)=false->((J 9).X->((((J 19).F 0)!=0)->((((J 19).F 0)!=1)->False)/\((((J 19).F 0)!=1)=false->((((J 19).F (0+1))!=0)->((((J 19).F (0+1))!=1)->False)/\((((J 19).F (0+1))!=1)=false->R (ak [.i 0,.b true] (cw J 6 22 k0))))/\((((J 19).F (0+1))!=0)=false->R (ak [.i 0,.b true] (cw J 6 22 k0)))))/\((((J 19).F 0)!=0)=false->((((J 19).F (0+1))!=0)->((((J 19).F (0+1))!=1)->False)/\((((J 19).F (0+1))!=1)=false->R (ak [.i 0,.b true] (cw J 6 22 k0))))/\((((J 19).F (0+1))!=0)=false->R (ak [.i 0,.b true] (cw J 6 22 k0)))))/\((J 9).X=false->((!((J 1).Z !=3))->((((J 19).F 0)!=0)->False)/\((((J 19).F 0)!=0)=false->((((J 19).F 0)!=0)->((((J 19).F 0)!=1)->False)/\((((J 19).F 0)!=1)=false->((((J 19).F (0+1))!=0)->((((J 19).F (0+1))!=1)->False)/\((((J 19).F (0+1))!=1)=false->R (ak [.i 0,.b true] (cw J 6 22 k0))))/\((((J 19).F (0+1))!=0)=false->R (ak [.i 0,.b true] (cw J 6 22 k0)))))/\((((J 19).F 0)!=0)=false->((((J 19).F (0+1))!=0)->((((J 19).F (0+1))!=1)->False)/\((((J 19).F (0+1))!=1)=false->R (ak [.i 0,.b true] (cw J 6 22 k0))))/\((((J 19).F (0+1))!=0)=false->R (ak [.i 0,.b true] (cw J 6 22 k0))))))/\((!((J 1).Z !=3))=false->((((J 19).F 0)!=0)->((((J 19).F 0)!=1)->False)/\((((J 19).F 0)!=1)=false->((((J 19).F (0+1))!=0)->((((J 19).F (0+1))!=1)->False)/\((((J 19).F (0+1))!=1)=false->R (ak [.i 0,.b true] (cw J 6 22 k0))))/\((((J 19).F (0+1))!=0)=false->R (ak [.i 0,.b true] (cw J 6 22 k0)))))/\((((J 19).F 0)!=0)=false->((((J 19).F (0+1))!=0)->((((J 19).F (0+1))!=1)->False)/\((((J 19).F (0+1))!=1)=false->R (ak [.i 0,.b true] (cw J 6 22 k0))))/\((((J 19).F (0+1))!=0)=false-> R (ak [.i 0,.b true] (cw J 6 22 k0))))))))):=af
theorem PO:PF1 pz vY qh:=λJ b1 b2 hp=>⟨by
 rw[yx]
 have fin:(hd (ak [.i 0,.b true] (cw J 6 22 k0))).Z=0/\agW KX pz.Y (tl (ak [.i 0,.b true] (cw J 6 22 k0))) (qh J):=by
  refine⟨rfl,⟨rfl,ah⟩,?_,ah⟩
  repeat (first|exact trivial | refine And.intro (by first|rfl | exact λ_ _=>rfl | exact⟨rfl,λ_ _=>rfl⟩) ?_)
 have hs:∀i,i<4->0<=(J 19).F i/\(J 19).F i<=1:=b2.1.2.2.2.2.2.2.2.2.2.2.2.2.2.1;have h0:=hs 0 afH;have h1:=hs 1 afH;have hE:bu 2 (λi0=>(J 19).F (i0+0)) (λ_=>0)->(hd (ak [.i 0,.b (bu 2 (λi0=>(J 19).F (i0+0)) (λ_=>0))] (cw J 6 22 k0))).Z=0/\agW KX pz.Y (tl (ak [.i 0,.b (bu 2 (λi0=>(J 19).F (i0+0)) (λ_=>0))] (cw J 6 22 k0))) (qh J):=λe=>by rw[e];exact fin
 have hZ:(J 19).F 0=0->(J 19).F 1=0->bu 2 (λi0=>(J 19).F (i0+0)) (λ_=>0)=true:=λe0 e1=>by show(((J 19).F (0+0)==0)&&(((J 19).F (1+0)==0)&&true))=true;simp only[Nat.reduceAdd,e0,e1];rfl
 have hd:lm (J 1).Z (J 5).X (J 9).X (J 11).Z (J 12).Z (J 13).Z (J 14).Z ((J 19).F 0) ((J 19).F 1):=hp;obtain⟨p1,p2,p3⟩:=hd;simp only[Nat.reduceAdd];refine br_ (λq=>?_) λq=>?_
 .obtain⟨e1,e2,e3,e4,e5,e6⟩:=p1 (by simpa using q)
  refine br_ (λq1=>⟨hZ e5 e6,hE (hZ e5 e6)⟩) λq1=>?_;rw[e1,e2,e3,e4]at q1;cases q1
 .clear q p1 hE hZ;clear hp
  revert fin
  generalize ((hd (ak [.i 0,.b true] (cw J 6 22 k0))).Z=0/\agW KX _ (tl (ak [.i 0,.b true] (cw J 6 22 k0))) _)=F;intro fin;generalize (J 19).F _=s0 at *;generalize (J 19).F _=s1 at *;clear hs b1 b2
  repeat' (refine br_ (λ_=>?_) λ_=>?_)
  all_goals first
   |exact fin
   |(exfalso;simp_all;done)
   |(exfalso;simp_all;omega)⟩
abbrev Sd:CT:=C1 pz vY qh
theorem PQ:CO Sd:=CX1 (TX trivial (FK (FK (FK (FK ah))))) PO
def vO (J:ae):Prop:=lm (J 1).Z (J 5).X (J 9).X (J 15).Z (J 16).Z (J 17).Z (J 18).Z ((J 19).F 2) ((J 19).F 3)
def pG (J:ae):ae:=.b true::tls 6 J
abbrev o8:SP:=mkS ⟨[.sO (.nB false true false)],[.run 127 sMP]⟩ 312 Tryz.f312 [.tX (.sA VC),tXO (.nP 0 0),aj 1 1,aN] [.run 127 sMP] [(9,.unroll 70)] [] [(aw 333 Tryz.f333),(aw 249 Tryz.f249),(aw 300 Tryz.f300),(aw 299 Tryz.f299)]
theorem xl J R:TR o8 J R (((!(J 5).X)->((((J 15).Z==0)&&(((J 16).Z==0)&&(((J 17).Z==0)&&((J 18).Z==0))))->((bu 2 (λi0=>(J 19).F (i0+2)) (λ_=>0))=true)/\R (ak [.i 0,.b (bu 2 (λi0=>(J 19).F (i0+2)) (λ_=>0))] (cw J 6 22 k0)))/\((((J 15).Z==0)&&(((J 16).Z==0)&&(((J 17).Z==0)&&((J 18).Z==0))))=false->False))/\((!(J 5).X)=false->((!(J 9).X)->((!(((J 17).Z==0)&&((J 18).Z==0)))->False)/\((!(((J 17).Z==0)&&((J 18).Z==0)))=false->((((J 19).F ((0+1)+2))!=0)->False)/\((((J 19).F ((0+1)+2))!=0)=false->((J 9).X->((((J 19).F (0+2))!=0)->((((J 19).F (0+2))!=1)->False)/\((((J 19).F (0+2))!=1)=false->((((J 19).F ((0+1)+2))!=0)->((((J 19).F ((0+1)+2))!=1)->False)/\((((J 19).F ((0+1)+2))!=1)=false->R (ak [.i 0,.b true] (cw J 6 22 k0))))/\((((J 19).F ((0+1)+2))!=0)=false->R (ak [.i 0,.b true] (cw J 6 22 k0)))))/\((((J 19).F (0+2))!=0)=false->((((J 19).F ((0+1)+2))!=0)->((((J 19).F ((0+1)+2))!=1)->False)/\((((J 19).F ((0+1)+2))!=1)=false->R (ak [.i 0,.b true] (cw J 6 22 k0))))/\((((J 19).F ((0+1)+2))!=0)=false->R (ak [.i 0,.b true] (cw J 6 22 k0)))))/\((J 9).X=false->((!((J 1).Z !=3))->((((J 19).F (0+2))!=0)->False)/\((((J 19).F (0+2))!=0)=false->((((J 19).F (0+2))!=0)->((((J 19).F (0+2))!=1)->False)/\((((J 19).F (0+2))!=1)=false->((((J 19).F ((0+1)+2))!=0)->((((J 19).F ((0+1)+2))!=1)->False)/\((((J 19).F ((0+1)+2))!=1)=false->R (ak [.i 0,.b true] (cw J 6 22 k0))))/\((((J 19).F ((0+1)+2))!=0)=false->R (ak [.i 0,.b true] (cw J 6 22 k0)))))/\((((J 19).F (0+2))!=0)=false->((((J 19).F ((0+1)+2))!=0)->((((J 19).F ((0+1)+2))!=1)->False)/\((((J 19).F ((0+1)+2))!=1)=false->R (ak [.i 0,.b true] (cw J 6 22 k0))))/\((((J 19).F ((0+1)+2))!=0)=false->R (ak [.i 0,.b true] (cw J 6 22 k0))))))/\((!((J 1).Z !=3))=false->((((J 19).F (0+2))!=0)->((((J 19).F (0+2))!=1)->False)/\((((J 19).F (0+2))!=1)=false->((((J 19).F ((0+1)+2))!=0)->((((J 19).F ((0+1)+2))!=1)->False)/\((((J 19).F ((0+1)+2))!=1)=false->R (ak [.i 0,.b true] (cw J 6 22 k0))))/\((((J 19).F ((0+1)+2))!=0)=false->R (ak [.i 0,.b true] (cw J 6 22 k0)))))/\((((J 19).F (0+2))!=0)=false->((((J 19).F ((0+1)+2))!=0)->((((J 19).F ((0+1)+2))!=1)->False)/\((((J 19).F ((0+1)+2))!=1)=false->R (ak [.i 0,.b true] (cw J 6 22 k0))))/\((((J 19).F ((0+1)+2))!=0)=false->R (ak [.i 0,.b true] (cw J 6 22 k0)))))))))/\((!(J 9).X)=false->((J 9).X->((((J 19).F (0+2))!=0)->((((J 19).F (0+2))!=1)->False)/\((((J 19).F (0+2))!=1)=false->((((J 19).F ((0+1)+2))!=0)->((((J 19).F ((0+1)+2))!=1)->False)/\((((J 19).F ((0+1)+2))!=1)=false->R (ak [.i 0,.b true] (cw J 6 22 k0))))/\((((J 19).F ((0+1)+2))!=0)=false->R (ak [.i 0,.b true] (cw J 6 22 k0)))))/\((((J 19).F (0+2))!=0)=false->((((J 19).F ((0+1)+2))!=0)->((((J 19).F ((0+1)+2))!=1)->False)/\((((J 19).F ((0+1)+2))!=1)=false->R (ak [.i 0,.b true] (cw J 6 22 k0))))/\((((J 19).F ((0+1)+2))!=0)=false->R (ak [.i 0,.b true] (cw J 6 22 k0)))))/\((J 9).X=false->((!((J 1).Z !=3))->((((J 19).F (0+2))!=0)->False)/\((((J 19).F (0+2))!=0)=false->((((J 19).F (0+2))!=0)->((((J 19).F (0+2))!=1)->False)/\((((J 19).F (0+2))!=1)=false->((((J 19).F ((0+1)+2))!=0)->((((J 19).F ((0+1)+2))!=1)->False)/\((((J 19).F ((0+1)+2))!=1)=false->R (ak [.i 0,.b true] (cw J 6 22 k0))))/\((((J 19).F ((0+1)+2))!=0)=false->R (ak [.i 0,.b true] (cw J 6 22 k0)))))/\((((J 19).F (0+2))!=0)=false->((((J 19).F ((0+1)+2))!=0)->((((J 19).F ((0+1)+2))!=1)->False)/\((((J 19).F ((0+1)+2))!=1)=false->R (ak [.i 0,.b true] (cw J 6 22 k0))))/\((((J 19).F ((0+1)+2))!=0)=false->R (ak [.i 0,.b true] (cw J 6 22 k0))))))/\((!((J 1).Z !=3))=false->((((J 19).F (0+2))!=0)->((((J 19).F (0+2))!=1)->False)/\((((J 19).F (0+2))!=1)=false->((((J 19).F ((0+1)+2))!=0)->((((J 19).F ((0+1)+2))!=1)->False)/\((((J 19).F ((0+1)+2))!=1)=false->R (ak [.i 0,.b true] (cw J 6 22 k0))))/\((((J 19).F ((0+1)+2))!=0)=false->R (ak [.i 0,.b true] (cw J 6 22 k0)))))/\((((J 19).F (0+2))!=0)=false->((((J 19).F ((0+1)+2))!=0)->((((J 19).F ((0+1)+2))!=1)->False)/\((((J 19).F ((0+1)+2))!=1)=false->R (ak [.i 0,.b true] (cw J 6 22 k0))))/\((((J 19).F ((0+1)+2))!=0)=false-> R (ak [.i 0,.b true] (cw J 6 22 k0))))))))):=af
theorem Mn:PF1 o8 vO pG:=λJ b1 b2 hp=>⟨by
 rw[xl]
 have fin:(hd (ak [.i 0,.b true] (cw J 6 22 k0))).Z=0/\agW KX o8.Y (tl (ak [.i 0,.b true] (cw J 6 22 k0))) (pG J):=by
  refine⟨rfl,⟨rfl,ah⟩,?_,ah⟩
  repeat (first|exact trivial | refine And.intro (by first|rfl | exact λ_ _=>rfl | exact⟨rfl,λ_ _=>rfl⟩) ?_)
 have hs:∀i,i<4->0<=(J 19).F i/\(J 19).F i<=1:=b2.1.2.2.2.2.2.2.2.2.2.2.2.2.2.1;have h0:=hs 2 afH;have h1:=hs 3 afH;have hE:bu 2 (λi0=>(J 19).F (i0+2)) (λ_=>0)->(hd (ak [.i 0,.b (bu 2 (λi0=>(J 19).F (i0+2)) (λ_=>0))] (cw J 6 22 k0))).Z=0/\agW KX o8.Y (tl (ak [.i 0,.b (bu 2 (λi0=>(J 19).F (i0+2)) (λ_=>0))] (cw J 6 22 k0))) (pG J):=λe=>by rw[e];exact fin
 have hZ:(J 19).F 2=0->(J 19).F 3=0->bu 2 (λi0=>(J 19).F (i0+2)) (λ_=>0)=true:=λe0 e1=>by show(((J 19).F (0+2)==0)&&(((J 19).F (1+2)==0)&&true))=true;simp only[Nat.reduceAdd,e0,e1];rfl
 have hd:lm (J 1).Z (J 5).X (J 9).X (J 15).Z (J 16).Z (J 17).Z (J 18).Z ((J 19).F 2) ((J 19).F 3):=hp;obtain⟨p1,p2,p3⟩:=hd;simp only[Nat.reduceAdd];refine br_ (λq=>?_) λq=>?_
 .obtain⟨e1,e2,e3,e4,e5,e6⟩:=p1 (by simpa using q)
  refine br_ (λq1=>⟨hZ e5 e6,hE (hZ e5 e6)⟩) λq1=>?_;rw[e1,e2,e3,e4]at q1;cases q1
 .clear q p1 hE hZ;clear hp
  revert fin
  generalize ((hd (ak [.i 0,.b true] (cw J 6 22 k0))).Z=0/\agW KX _ (tl (ak [.i 0,.b true] (cw J 6 22 k0))) _)=F;intro fin;generalize (J 19).F _=s0 at *;generalize (J 19).F _=s1 at *;clear hs b1 b2
  repeat' (refine br_ (λ_=>?_) λ_=>?_)
  all_goals first
   |exact fin
   |(exfalso;simp_all;done)
   |(exfalso;simp_all;omega)⟩
abbrev RX:CT:=C1 o8 vO pG
theorem OD:CO RX:=CX1 (TX trivial (FK (FK (FK (FK ah))))) Mn
def X0 (J:ae):Prop:=UX (J 0).Z (J 1).Z (J 2).X (J 5).X (J 6).X (J 7).X/\lm (J 1).Z (J 5).X (J 7).X (J 9).Z (J 10).Z (J 11).Z (J 12).Z ((J 17).F 0) ((J 17).F 1)/\lm (J 1).Z (J 6).X (J 7).X (J 13).Z (J 14).Z (J 15).Z (J 16).Z ((J 17).F 2) ((J 17).F 3)
def acn (J:ae):ae:=.b true::tls 4 J
abbrev MT:SP:=mkS ⟨[.sO (.nB false true false)],[.run 127 sMP]⟩ 242 Tryz.f242 [.tX (.sA VC),tXO (.nP 0 0)] [.run 127 sMP] [(6,.unroll 70)] [Sd,RX] [(aw 303 Tryz.f303)]
theorem IH J R:TR MT J R ((((J 0).Z==2)->((!((J 5).X&&(!(J 6).X)))->False)/\((!((J 5).X&&(!(J 6).X)))=false->(((!(J 5).X)&&(!(J 6).X))->False)/\(((!(J 5).X)&&(!(J 6).X))=false->((J 7).X->((J 2).X->((!((J 1).Z==3))->False)/\((!((J 1).Z==3))=false->let x0:ae:=(ak [.i (J 0).Z,.i (J 1).Z,.b (J 2).X,.b (J 3).X,.i 0,.b (J 5).X] (cw J 4 22 k0));(vY x0)/\let x1:ae:=qh x0;let x2:ae:=(ak [.i (J 0).Z,.i (J 1).Z,.b (J 2).X,.b (J 3).X,.i 1,.b (J 6).X] (cw x1 1 22 k0));(vO x2)/\let x3:ae:=pG x2;R (ak [.i 0,.b true] (cw x3 1 22 k0))))/\((J 2).X=false->False))/\((J 7).X=false->let x0:ae:=(ak [.i (J 0).Z,.i (J 1).Z,.b (J 2).X,.b (J 3).X,.i 0,.b (J 5).X] (cw J 4 22 k0));(vY x0)/\let x1:ae:=qh x0;let x2:ae:=(ak [.i (J 0).Z,.i (J 1).Z,.b (J 2).X,.b (J 3).X,.i 1,.b (J 6).X] (cw x1 1 22 k0));(vO x2)/\let x3:ae:=pG x2;R (ak [.i 0,.b true] (cw x3 1 22 k0))))))/\(((J 0).Z==2)=false->(((!(J 5).X)&&(!(J 6).X))->False)/\(((!(J 5).X)&&(!(J 6).X))=false->((J 7).X->((J 2).X->((!((J 1).Z==3))->False)/\((!((J 1).Z==3))=false->let x0:ae:=(ak [.i (J 0).Z,.i (J 1).Z,.b (J 2).X,.b (J 3).X,.i 0,.b (J 5).X] (cw J 4 22 k0));(vY x0)/\let x1:ae:=qh x0;let x2:ae:=(ak [.i (J 0).Z,.i (J 1).Z,.b (J 2).X,.b (J 3).X,.i 1,.b (J 6).X] (cw x1 1 22 k0));(vO x2)/\let x3:ae:=pG x2;R (ak [.i 0,.b true] (cw x3 1 22 k0))))/\((J 2).X=false->False))/\((J 7).X=false-> let x0:ae:=(ak [.i (J 0).Z,.i (J 1).Z,.b (J 2).X,.b (J 3).X,.i 0,.b (J 5).X] (cw J 4 22 k0));(vY x0)/\let x1:ae:=qh x0;let x2:ae:=(ak [.i (J 0).Z,.i (J 1).Z,.b (J 2).X,.b (J 3).X,.i 1,.b (J 6).X] (cw x1 1 22 k0));(vO x2)/\let x3:ae:=pG x2;R (ak [.i 0,.b true] (cw x3 1 22 k0)))))):=af
theorem UL:PF1 MT X0 acn:=λJ b1 b2 hp=>⟨by
 rw[IH];obtain⟨⟨u1,u2,u3⟩,d0,d1⟩:=hp
 have no:(!(J 5).X&&!(J 6).X)->False:=λq=>by
  simp only[Bool.and_eq_true,Bool.not_eq_true']at q;rcases u2 with h | h
  .rw[h]at q;cases q.1
  .rw[h]at q;cases q.2
 refine br_ (λq=>br_ (λq1=>?_) λq1=>br_ (λq2=>no q2) λq2=>br_ (λq3=>br_ (λq4=>br_ (λq5=>?_) λq5=>⟨d0,d1,rfl,⟨rfl,ah⟩,?_,ah⟩) λq4=>?_) λq3=>⟨d0,d1,rfl,⟨rfl,ah⟩,?_,ah⟩) λq=>br_ (λq2=>no q2) λq2=>br_ (λq3=>br_ (λq4=>br_ (λq5=>?_) λq5=>⟨d0,d1,rfl,⟨rfl,ah⟩,?_,ah⟩) λq4=>?_) λq3=>⟨d0,d1,rfl,⟨rfl,ah⟩,?_,ah⟩
 .have h:=u1 (dL q);rw[h.1,h.2]at q1;cases q1
 .have h:=(u3 q3).2;rw[h]at q5;cases q5
 .repeat (first|exact trivial | refine And.intro (by first|rfl | exact λ_ _=>rfl | exact⟨rfl,λ_ _=>rfl⟩) ?_)
 .have h:=(u3 q3).1;rw[h]at q4;cases q4
 .repeat (first|exact trivial | refine And.intro (by first|rfl | exact λ_ _=>rfl | exact⟨rfl,λ_ _=>rfl⟩) ?_)
 .have h:=(u3 q3).2;rw[h]at q5;cases q5
 .repeat (first|exact trivial | refine And.intro (by first|rfl | exact λ_ _=>rfl | exact⟨rfl,λ_ _=>rfl⟩) ?_)
 .have h:=(u3 q3).1;rw[h]at q4;cases q4
 .repeat (first|exact trivial | refine And.intro (by first|rfl | exact λ_ _=>rfl | exact⟨rfl,λ_ _=>rfl⟩) ?_)⟩
abbrev acR:CT:=C1 MT X0 acn
theorem Tp:CO acR:=CX1 (TX ⟨PQ,OD,ah⟩ (FK ah)) UL
def sq (J:ae):Prop:=eQ (J 1).Z (J 2).X (J 3).X/\(J 0).Z≠1/\X0 J/\D3 J
def Ch (_:ae):ae:=[.b true]
abbrev yK:SP:=mkS ⟨[.sO (.nB false true false)],[]⟩ 163 Tryz.f163 [.tX (.sA VC),.tX (.sA sMP)] [] [] [A9,Nu,Xq,L1,RF,acR,aez] [(aw 239 Tryz.f239)]
theorem yz J R:TR yK J R (let x0:ae:=(cw J 0 4 1161);(G8 x0)/\let x1:ae:=C2 x0;BR ((J 0).Z==1) (False) (let x2:ae:=(cw J 0 26 k15);(X0 x2)/\let x3:ae:=acn x2;let x4:ae:=(ak (cw J 0 4 1161) (cw x3 1 22 k0));(D3 x4)/\let x5:ae:=FQ x4;let x6:ae:=(cw x5 1 22 k0);(Z1 x6)/\let x7:ae:=abd x6;let x8:ae:=(cw x7 1 22 k0);let x9:ae:=NP x8;R [.i 0,.b (x9 0).X])):=af
theorem M3:PF1 yK sq Ch:=λJ b1 b2 hp=>⟨by rw[yz];obtain⟨h1,h2,h3,h4⟩:=hp;exact⟨h1,λq=>h2 (dL q),λq=>⟨h3,h4,h4.1,rfl,⟨rfl,ah⟩,ah⟩⟩⟩
abbrev wT:CT:=C1 yK sq Ch
theorem rB:CO wT:=CX1 (TX ⟨hJ,zZ,Me,AL,L2,Tp,W4,ah⟩ (FK ah)) M3
end
end Go.Proofs.YtldmjbgplgoedaaGreatDoor
namespace Go.Proofs.YtldmjbgplgoedaaGreatDoor
noncomputable section
open Go.RowKit U
def paZ (st:Int):Int:=bif st==2 then 1 else 0
def QD (J:ae):ae:=[.i (paZ (J 1).Z)]
abbrev Mf:SP:=mkS ⟨[aD 0 1],[]⟩ 250 Tryz.f250 [.tX (.sA VC)] [] []
theorem CG J R:TR Mf J R (BR ((J 1).Z==2) (R [.i 0,.i 1]) (R [.i 0,.i 0])):=af
theorem Ta:PF0 Mf QD:=λJ b1 b2=>⟨by
 rw[CG];refine br_ (λq=>⟨rfl,⟨?_,ah⟩,ah⟩) λq=>⟨rfl,⟨?_,ah⟩,ah⟩
 .show(1:Int)=paZ (J 1).Z;unfold paZ;rw[q];rfl
 .show(0:Int)=paZ (J 1).Z;unfold paZ;rw[q];rfl⟩
abbrev QV:CT:=C0 Mf QD
theorem pT:CO QV:=CX0 (TX trivial ah) Ta
def qG (J:ae):Prop:=cI J/\(J 0).Z % 16=0/\(J 1).Z % 16=0
def sU (_:ae):ae:=[.b true]
abbrev Pg:SP:=mkS ⟨[.sO (.nB false true false)],[]⟩ 255 Tryz.f255 [.tX (.sA sFF)] [] [] [qV]
theorem GU J R:TR Pg J R (let x0:ae:=(cw J 0 5 18697);(cI x0)/\let x1:ae:=gL x0;BR ((Int.tmod (J 0).Z 16)==0) ((((Int.tmod (J 1).Z 16)==0)=true)/\R [.i 0,.b ((Int.tmod (J 1).Z 16)==0)]) (False)):=af
theorem We:PF1 Pg qG sU:=λJ b1 b2 hp=>⟨by
 rw[GU];obtain⟨⟨c0,c1,-⟩,-⟩:=b1;have c0a:2<=(J 0).Z:=c0.1;have c0b:(J 0).Z<=64:=c0.2;have c1a:2<=(J 1).Z:=c1.1;have c1b:(J 1).Z<=64:=c1.2;clear c0 c1;obtain⟨h1,h2,h3⟩:=hp;have e0:(Int.tmod (J 0).Z 16==0)=true:=by rw[Int.tmod_eq_emod_of_nonneg ac,h2];rfl
 have e1:(Int.tmod (J 1).Z 16==0)=true:=by rw[Int.tmod_eq_emod_of_nonneg ac,h3];rfl
 refine⟨h1,λ_=>⟨e1,rfl,⟨e1,ah⟩,ah⟩,λq=>?_⟩;rw[e0]at q;cases q⟩
abbrev Sf:CT:=C1 Pg qG sU
theorem sH:CO Sf:=CX1 (TX ⟨dd,ah⟩ ah) We
def stS (ty st:Int) (i:Nat):Int:=if st=3 then 0 else if i=0\/i=2/\ty=3 then paZ st else 0
def XX (J:ae):ae:=[.i 2,.b true,.b ((J 0).Z==3),.b false,.b false,.i 0,.i 0,.i 0,.i 0,.i 0,.i 0,.i 0,.i 0,.f (stS (J 0).Z (J 1).Z),.i 0,.b false,.b false,.b false,.b false,.b false,.b false,.f λ_=>0]
abbrev NL:SP:=mkS ⟨[.sA sMP],[]⟩ 166 Tryz.f166 [.tX (.sA VC)] [] [(4,.unroll 70)] [QV] [(aw 249 Tryz.f249)]
theorem GR J R:TR NL J R (BR ((J 1).Z !=3) (let x0:ae:=(cw J 0 4 1161);let x1:ae:=QD x0;BR ((J 0).Z==3) (let x0:ae:=(cw J 0 4 1161);let x1:ae:=QD x0;R [.i 0,.i 2,.b true,.b ((J 0).Z==3),.b false,.b false,.i 0,.i 0,.i 0,.i 0,.i 0,.i 0,.i 0,.i 0,.f (zAt [.c (.nI .i64 0 1 (x1 0).Z),.a 1 .i64 0 0 (λi0=>0),.c (.nI .i64 0 1 (x1 0).Z),.a 2 .i64 0 0 (λi0=>0),.c (.nB true false false),.c (.nB true false false),.c (.nB true false false),.c (.nB true false false),.c (.nB true false false),.c (.nB true false false),.a 384 .i64 0 0 (λ_=>0)]),.i 0,.b false,.b false,.b false,.b false,.b false,.b false,.f (λ_=>0)]) (R [.i 0,.i 2,.b true,.b ((J 0).Z==3),.b false,.b false,.i 0,.i 0,.i 0,.i 0,.i 0,.i 0,.i 0,.i 0,.f (zAt [.c (.nI .i64 0 1 (x1 0).Z),.a 4 .i64 0 0 (λi0=>0),.c (.nB true false false),.c (.nB true false false),.c (.nB true false false),.c (.nB true false false),.c (.nB true false false),.c (.nB true false false),.a 384 .i64 0 0 (λ_=>0)]),.i 0,.b false,.b false,.b false,.b false,.b false,.b false,.f (λ_=>0)])) (R [.i 0,.i 2,.b true,.b ((J 0).Z==3),.b false,.b false,.i 0,.i 0,.i 0,.i 0,.i 0,.i 0,.i 0,.i 0,.f (λi0=>0),.i 0,.b false,.b false,.b false,.b false,.b false,.b false,.f (λ_=>0)])):=af
theorem SA:PF0 NL XX:=λJ b1 b2=>⟨by
 rw[GR];refine br_ (λq=>br_ (λq1=>?_) λq1=>?_) λq=>?_
 .refine⟨rfl,⟨⟨rfl,rfl,rfl,rfl,rfl,rfl,rfl,rfl,rfl,rfl,rfl,rfl,rfl,λi hi=>?_,rfl,rfl,rfl,rfl,rfl,rfl,rfl,λ_ _=>rfl,ah⟩,ah⟩,ah⟩;show zAt _ i=stS (J 0).Z (J 1).Z i;unfold stS;rw[if_neg (cS q)];rcases(show i=0\/i=1\/i=2\/i=3 by omega)with rfl | rfl | rfl | rfl
  .rw[if_pos (.inl rfl)];rfl
  .rw[if_neg ac];rfl
  .rw[if_pos (.inr ⟨rfl,dL q1⟩)];rfl
  .rw[if_neg ac];rfl
 .refine⟨rfl,⟨⟨rfl,rfl,rfl,rfl,rfl,rfl,rfl,rfl,rfl,rfl,rfl,rfl,rfl,λi hi=>?_,rfl,rfl,rfl,rfl,rfl,rfl,rfl,λ_ _=>rfl,ah⟩,ah⟩,ah⟩;show zAt _ i=stS (J 0).Z (J 1).Z i;unfold stS;rw[if_neg (cS q)];have q1:=dn q1;rcases(show i=0\/i=1\/i=2\/i=3 by omega)with rfl | rfl | rfl | rfl
  .rw[if_pos (.inl rfl)];rfl
  .rw[if_neg ac];rfl
  .rw[if_neg ac];rfl
  .rw[if_neg ac];rfl
 .refine⟨rfl,⟨⟨rfl,rfl,rfl,rfl,rfl,rfl,rfl,rfl,rfl,rfl,rfl,rfl,rfl,λi hi=>?_,rfl,rfl,rfl,rfl,rfl,rfl,rfl,λ_ _=>rfl,ah⟩,ah⟩,ah⟩;show(0:Int)=stS (J 0).Z (J 1).Z i;unfold stS;rw[if_pos (uR q)]⟩
abbrev abQ:CT:=C0 NL XX
theorem Ko:CO abQ:=CX0 (TX ⟨pT,ah⟩ (FK ah)) SA
theorem WJ {f g r:Nat->Int} {n i N:Nat} {fd:Bool} (h:∀i,i<N->f i=g i) (hb:∀k,k<64->bkI n fd k<N) (hi:i<N):rpZ f n fd r i=rpZ g n fd r i:=by
 unfold rpZ jK
 split
 .rename_i q;rw[jm,jm];unfold qq;have e:=h (bkI n fd ((i-plF n fd) / plS n fd*8+(i-plF n fd) % plS n fd)) (hb _ (by have:=q.2.1;have:=q.2.2;omega))
  simp only[e]
 .rw[jm,jm,h i hi]
theorem sY {cd:Nat->Bool} {fd:Bool} {r g g':Nat->Nat->Int} (h:∀c,c<3->∀i,i<bkN c->g c i=g' c i):∀n,n<=6->∀c,c<3->∀i,i<bkN c->adF cd fd r g n c i=adF cd fd r g' n c i
 |0,_,c,hc,i,hi=>h c hc i hi
 |n+1,hn,c,hc,i,hi=>by
  unfold adF
  split
  .rename_i q;refine WJ (λj hj=>sY h n ac c hc j hj) (λk hk=>?_) hi;rw[<-q.2];exact qa ac hk
  .exact sY h n ac c hc i hi
def rcF (cd:Nat->Bool) (fd:Bool) (lv:Nat->Int) (al:Bool) (m:Nat->Int) (q:Int) (g:Nat->Nat->Int) (c:Nat) (i:Nat):Int:=adF cd fd (adR lv al m q) g 6 c i
def rcW (f:Nat->Nat->Int):ae:=[.i 16,.i 16,.l 256 (rz (f 0)),.l 64 (rz (f 1)),.l 64 (rz (f 2)),.i 0]
def BZ (J:ae):Prop:=eQ (J 1).Z (J 2).X (J 3).X/\Cv (J 1).Z (J 2).X (J 12).X/\vmP (J 4).F/\vmP (J 5).F
def Nl (J:ae):ae:=rcW (rcF (bAt [(J 23).X,(J 24).X,(J 25).X,(J 26).X,(J 27).X,(J 28).X]) (J 12).X (J 29).F (J 6).X (J 4).F (J 7).Z λ_ _=>128)
abbrev zM:SP:=mkS ⟨[.sA bJ,aD 0 0],[]⟩ 90 Tryz.f90 [.tX (.sA VC),.tX (.sA gt),aN,aj 1 31,.tX (.sA sMI),.tX (.sA [.c .nU,.c .nU,.c .nU,.c .nU,.c .nU,.c .nU,.c .nU,.c .nU,.c .nU,.c .nU,.c .nU,.c .nU,.c .nU,.c .nU,.c .nU]),aj 0 3,aj 0 3] [] [] [y4,zB,wT,Oq,iU,X9,A9,qV,qX,Ji,Bs,J5] [(aw 164 Tryz.f164),(aw 166 Tryz.f166),(aw 249 Tryz.f249),(aw 250 Tryz.f250),(aw 167 Tryz.f167),(aw 173 Tryz.f173),(aw 255 Tryz.f255),(aw 253 Tryz.f253)]
theorem yn J R:TR zM J R (let x0:ae:=(ak (cw J 0 4 1161) (cw J 8 22 k0));(oR x0)/\let x1:ae:=ye x0;let x2:ae:=[.f (J 4).F];(wc x2)/\let x3:ae:=yP x2;let x4:ae:=[.f (J 5).F];(wc x4)/\let x5:ae:=yP x4;let x6:ae:=[.i 16,.i 16,.i 128,.i 128,.i 128];(iA x6)/\let x7:ae:=eY x6;(16<=(x7 0).Z)/\((x7 0).Z<=16)/\(16<=(x7 1).Z)/\((x7 1).Z<=16)/\(256<=(x7 2).N)/\((x7 2).N<=256)/\(64<=(x7 3).N)/\((x7 3).N<=64)/\(64<=(x7 4).N)/\((x7 4).N<=64)/\let x8:ae:=[.i (x7 0).Z,.i (x7 1).Z,.l (x7 2).N (x7 2).G,.l (x7 3).N (x7 3).G,.l (x7 4).N (x7 4).G,.f (J 4).F,.i (J 7).Z,.b (J 6).X,.b (J 12).X,.b (J 23).X,.b (J 24).X,.b (J 25).X,.b (J 26).X,.b (J 27).X,.b (J 28).X,.f (J 29).F];(Te x8)/\let x9:ae:=Qv x8;R [.i 0,.i (x9 0).Z,.i (x9 1).Z,.l (x9 2).N (x9 2).G,.l (x9 3).N (x9 3).G,.l (x9 4).N (x9 4).G,.i (x9 5).Z]):=af
theorem Ng:PF1 zM BZ Nl:=λJ b1 b2 hp=>⟨by
 rw[yn];obtain⟨h1,h2,h3,h4⟩:=hp;have hf:fmB 16 16 256 64 64=true:=afH
 have hg:∀c,c<3->∀i,i<bkN c->cel ((eY [.i 16,.i 16,.i 128,.i 128,.i 128]) (2+c)).G i=128:=λc hc i _=>by rcases(show c=0\/c=1\/c=2 by omega)with rfl | rfl | rfl<;>rfl
 have hc:=λc hc i hi=>sY (cd:=bAt [(J 23).X,(J 24).X,(J 25).X,(J 26).X,(J 27).X,(J 28).X]) (fd:=(J 12).X) (r:=adR (J 29).F (J 6).X (J 4).F (J 7).Z) hg 6 afH c hc i hi;refine⟨⟨h1,h2⟩,h3,h4,⟨afH,afH⟩,afH,afH,afH,afH,afH,afH,afH,afH,afH,afH,⟨hf,h3⟩,rfl,⟨⟨rfl,rfl,aL rfl λi hi=>?_,aL rfl λi hi=>?_,aL rfl λi hi=>?_,ah⟩,rfl,ah⟩,ah⟩
 .exact hc 0 afH i hi
 .exact hc 1 afH i hi
 .exact hc 2 afH i hi⟩
abbrev C9:CT:=C1 zM BZ Nl
theorem rcnI_ct:CO C9:=CX1 (TX ⟨frmS_ct,rg,rB,lW,cE,yR,hJ,dd,dh,j7,jk,kH,ah⟩ (FK (FK (FK (FK (FK (FK (FK (FK ah))))))))) Ng
end
end Go.Proofs.YtldmjbgplgoedaaGreatDoor
