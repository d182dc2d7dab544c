import Derived.Test.YtldmjbgplgoedaaGreatDoorEe25
set_option linter.all false
namespace Go.Proofs.YtldmjbgplgoedaaGreatDoor
noncomputable section
open Go.RowKit U
theorem ql {W H:Int} {a b c:Nat} (h:fmB W H a b c=true):2<=W/\2<=H/\1<=a/\1<=b/\1<=c:=by
 obtain⟨w,k,rfl,rfl,h1,-,h3,-,rfl,rfl,rfl⟩:=dN h;have:=Nat.mul_le_mul h1 h3;have:=Nat.mul_le_mul (show 2<=2*w by omega) (show 2<=2*k by omega)
 omega
def frW (J:ae) (o:Nat):ae:=[.i (J o).Z,.i (J (o+1)).Z,.l (J (o+2)).N (J (o+2)).G,.l (J (o+3)).N (J (o+3)).G,.l (J (o+4)).N (J (o+4)).G]
def oE (J:ae) (o:Nat):ae:=[.i (J o).Z,.i (J (o+1)).Z,.l (J (o+2)).N (J (o+2)).G,.l (J (o+3)).N (J (o+3)).G,.l (J (o+4)).N (J (o+4)).G,.i 0]
def rt (J:ae) (o:Nat) (sel:Int):ae:=dP ([.i (J o).Z,.i (J (o+1)).Z,.l (J (o+2)).N (J (o+2)).G,.l (J (o+3)).N (J (o+3)).G,.l (J (o+4)).N (J (o+4)).G,.i sel])
def rfO (d:Int) (ty st:Int) (se:Bool) (sel:Int):Nat:=if d=1 then 9 else if st≠3/\se=true/\ty=2/\sel≠paZ st then 14 else 4
def rfB (d:Int) (ty st:Int) (se:Bool) (sel:Int):Prop:=st=3\/d≠1/\se=true/\ty=2/\sel≠paZ st
instance {d ty st:Int} {se:Bool} {sel:Int}:Decidable (rfB d ty st se sel):=by unfold rfB;infer_instance
def rfP (d:Int) (J:ae):Prop:=eQ (J 1).Z (J 2).X (J 3).X/\qG (frW J (rfO d (J 0).Z (J 1).Z (J 3).X (J 20).Z))/\(¬ rfB d (J 0).Z (J 1).Z (J 3).X (J 20).Z->(J (rfO d (J 0).Z (J 1).Z (J 3).X (J 20).Z+1)).Z % 32=0)
def rfW (d:Int) (J:ae):ae:=if rfB d (J 0).Z (J 1).Z (J 3).X (J 20).Z then oE J (rfO d (J 0).Z (J 1).Z (J 3).X (J 20).Z)else rt J (rfO d (J 0).Z (J 1).Z (J 3).X (J 20).Z) (J 20).Z
theorem un {J:ae} {d:Int} {o:Nat} {R:ae->Prop} (hp:rfP d J) (hB:rfB d (J 0).Z (J 1).Z (J 3).X (J 20).Z) (hO:rfO d (J 0).Z (J 1).Z (J 3).X (J 20).Z=o) (hR:rfW d J=oE J o->R ([.i 0]++oE J o)) :
 (((J o).Z==0)->False)/\(((J o).Z==0)=false->(2<=(J o).Z)/\(2<=(J (o+1)).Z)/\(1<=(J (o+2)).N)/\(1<=(J (o+3)).N)/\(1<=(J (o+4)).N)/\qG ([.i (J o).Z,.i (J (o+1)).Z,.l (J (o+2)).N (J (o+2)).G,.l (J (o+3)).N (J (o+3)).G,.l (J (o+4)).N (J (o+4)).G])/\(2<=(J o).Z)/\(2<=(J (o+1)).Z)/\(1<=(J (o+2)).N)/\(1<=(J (o+3)).N)/\(1<=(J (o+4)).N)/\R ([.i 0,.i (J o).Z,.i (J (o+1)).Z,.l (J (o+2)).N (J (o+2)).G,.l (J (o+3)).N (J (o+3)).G,.l (J (o+4)).N (J (o+4)).G,.i 0])):=by
 obtain⟨-,h,-⟩:=hp;rw[hO]at h;have hW:rfW d J=oE J o:=by unfold rfW;rw[if_pos hB,hO]
 obtain⟨p1,p2,p3,p4,p5⟩:=ql h.1;refine⟨λq=>?_,λ_=>⟨p1,p2,p3,p4,p5,h,p1,p2,p3,p4,p5,hR hW⟩⟩;have q:=dL q;have p1:2<=(J o).Z:=p1;omega
theorem jt {J:ae} {d:Int} {o:Nat} {R:ae->Prop} (hp:rfP d J) (hB:¬ rfB d (J 0).Z (J 1).Z (J 3).X (J 20).Z) (hO:rfO d (J 0).Z (J 1).Z (J 3).X (J 20).Z=o) (hR:rfW d J=rt J o (J 20).Z->R (let r:=rt J o (J 20).Z;[.i 0,.i (r 0).Z,.i (r 1).Z,.l (r 2).N (r 2).G,.l (r 3).N (r 3).G,.l (r 4).N (r 4).G,.i (r 5).Z])) :
 (((J o).Z==0)->False)/\(((J o).Z==0)=false->(2<=(J o).Z)/\(2<=(J (o+1)).Z)/\(1<=(J (o+2)).N)/\(1<=(J (o+3)).N)/\(1<=(J (o+4)).N)/\qG ([.i (J o).Z,.i (J (o+1)).Z,.l (J (o+2)).N (J (o+2)).G,.l (J (o+3)).N (J (o+3)).G,.l (J (o+4)).N (J (o+4)).G])/\((((Int.tmod (J (o+1)).Z 32)!=0)->False)/\(((Int.tmod (J (o+1)).Z 32)!=0)=false->(2<=(J o).Z)/\(2<=(J (o+1)).Z)/\(1<=(J (o+2)).N)/\(1<=(J (o+3)).N)/\(1<=(J (o+4)).N)/\dp ([.i (J o).Z,.i (J (o+1)).Z,.l (J (o+2)).N (J (o+2)).G,.l (J (o+3)).N (J (o+3)).G,.l (J (o+4)).N (J (o+4)).G,.i (J 20).Z])/\R (let r:=rt J o (J 20).Z;[.i 0,.i (r 0).Z,.i (r 1).Z,.l (r 2).N (r 2).G,.l (r 3).N (r 3).G,.l (r 4).N (r 4).G,.i (r 5).Z])))):=by
 obtain⟨-,h,h3⟩:=hp;have h3:=h3 hB;rw[hO]at h h3;have hW:rfW d J=rt J o (J 20).Z:=by unfold rfW;rw[if_neg hB,hO]
 obtain⟨p1,p2,p3,p4,p5⟩:=ql h.1;have p1:2<=(J o).Z:=p1;have p2:2<=(J (o+1)).Z:=p2;have e:Int.tmod (J (o+1)).Z 32=0:=by rw[Int.tmod_eq_emod_of_nonneg ac];exact h3
 refine⟨λq=>?_,λ_=>⟨p1,p2,p3,p4,p5,h,λq=>cS q e,λ_=>⟨p1,p2,p3,p4,p5,⟨h.1,?_⟩,hR hW⟩⟩⟩
 .have q:=dL q;omega
 .show(J (o+1)).Z % 4=0;omega
def I4:ae->Prop:=rfP 0
def pK:ae->ae:=rfW 0
abbrev d5:SP:=mkS ⟨[.sA sFF,aD 0 0],[]⟩ 173 Tryz.f173 [.tX (.sA aep),.tX (.sA gj),aj 0 0,aj 0 1] [] [] [A9,QV,Sf,qX] [(aw 249 Tryz.f249)]
theorem uK J R:TR d5 J R (let x0:ae:=[.i (J 0).Z,.i (J 1).Z,.b (J 2).X,.b (J 3).X];(G8 x0)/\let x1:ae:=C2 x0;BR ((J 4).Z==0)
(False)
((2<=(J 4).Z)/\(2<=(J 5).Z)/\(1<=(J 6).N)/\(1<=(J 7).N)/\(1<=(J 8).N)/\let x2:ae:=[.i (J 4).Z,.i (J 5).Z,.l (J 6).N (J 6).G,.l (J 7).N (J 7).G,.l (J 8).N (J 8).G];(qG x2)/\let x3:ae:=sU x2;(2<=(J 4).Z)/\(2<=(J 5).Z)/\(1<=(J 6).N)/\(1<=(J 7).N)/\(1<=(J 8).N)/\R [.i 0,.i (J 4).Z,.i (J 5).Z,.l (J 6).N (J 6).G,.l (J 7).N (J 7).G,.l (J 8).N (J 8).G,.i 0])):=af
theorem Bo:PF1 d5 I4 pK:=λJ b1 b2 hp=>⟨by
 rw[uK];have hp:rfP 0 J:=hp;obtain⟨⟨-,st,-,se,-⟩,⟨-,-,-,-,-,-,-,-,-,-,-,-,-,-,-,-⟩,-,sl,-⟩:=b1;have s0:0<=(J 20).Z:=sl.1;have s1:(J 20).Z<=1:=sl.2;have ta:3<=(J 1).Z:=st.1;have tb:(J 1).Z<=3:=st.2
 have Wh:∀o,rfW 0 J=oE J o->(hd ([.i 0]++oE J o)).Z=0/\agW KX d5.Y (tl ([.i 0]++oE J o)) (pK J):=λo e=>by show _/\agW KX d5.Y _ (rfW 0 J);rw[e];exact⟨rfl,⟨⟨rfl,rfl,⟨rfl,λ_ _=>rfl⟩,⟨rfl,λ_ _=>rfl⟩,⟨rfl,λ_ _=>rfl⟩,ah⟩,rfl,ah⟩,ah⟩
 have Fi:∀o,rfW 0 J=rt J o (J 20).Z->(λl=>(hd l).Z=0/\agW KX d5.Y (tl l) (pK J)) (let r:=rt J o (J 20).Z;[.i 0,.i (r 0).Z,.i (r 1).Z,.l (r 2).N (r 2).G,.l (r 3).N (r 3).G,.l (r 4).N (r 4).G,.i (r 5).Z]):=λo e=>by show _/\agW KX d5.Y _ (rfW 0 J);rw[e];exact⟨rfl,⟨⟨rfl,rfl,⟨rfl,λ_ _=>rfl⟩,⟨rfl,λ_ _=>rfl⟩,⟨rfl,λ_ _=>rfl⟩,ah⟩,rfl,ah⟩,ah⟩
 have hB:rfB 0 (J 0).Z (J 1).Z (J 3).X (J 20).Z:=.inl ac
 have hO:rfO 0 (J 0).Z (J 1).Z (J 3).X (J 20).Z=4:=by unfold rfO;rw[if_neg ac,if_neg (λq=>q.1 ac)]
 exact⟨hp.1,un (o:=4) (R:=λl=>(hd l).Z=0/\agW KX d5.Y (tl l) (pK J)) hp hB hO (Wh 4)⟩⟩
abbrev rfcW0C:CT:=C1 d5 I4 pK
theorem rfcW0_ct:CO rfcW0C:=CX1 (TX ⟨hJ,pT,sH,dh,ah⟩ (FK ah)) Bo
def IS:ae->Prop:=rfP 1
def pE:ae->ae:=rfW 1
abbrev dZ:SP:=mkS ⟨[.sA sFF,aD 0 0],[]⟩ 173 Tryz.f173 [.tX (.sA aep),.tX (.sA gj),aj 1 1,aj 0 1] [] [] [A9,QV,Sf,qX] [(aw 249 Tryz.f249)]
theorem vZ J R:TR dZ J R (let x0:ae:=[.i (J 0).Z,.i (J 1).Z,.b (J 2).X,.b (J 3).X];(G8 x0)/\let x1:ae:=C2 x0;BR ((J 9).Z==0)
(False)
((2<=(J 9).Z)/\(2<=(J 10).Z)/\(1<=(J 11).N)/\(1<=(J 12).N)/\(1<=(J 13).N)/\let x2:ae:=[.i (J 9).Z,.i (J 10).Z,.l (J 11).N (J 11).G,.l (J 12).N (J 12).G,.l (J 13).N (J 13).G];(qG x2)/\let x3:ae:=sU x2;(2<=(J 9).Z)/\(2<=(J 10).Z)/\(1<=(J 11).N)/\(1<=(J 12).N)/\(1<=(J 13).N)/\R [.i 0,.i (J 9).Z,.i (J 10).Z,.l (J 11).N (J 11).G,.l (J 12).N (J 12).G,.l (J 13).N (J 13).G,.i 0])):=af
theorem CP:PF1 dZ IS pE:=λJ b1 b2 hp=>⟨by
 rw[vZ];have hp:rfP 1 J:=hp;obtain⟨⟨-,st,-,se,-⟩,⟨-,-,-,-,-,-,-,-,-,-,-,-,-,-,-,-⟩,-,sl,-⟩:=b1;have s0:0<=(J 20).Z:=sl.1;have s1:(J 20).Z<=1:=sl.2;have ta:3<=(J 1).Z:=st.1;have tb:(J 1).Z<=3:=st.2
 have Wh:∀o,rfW 1 J=oE J o->(hd ([.i 0]++oE J o)).Z=0/\agW KX dZ.Y (tl ([.i 0]++oE J o)) (pE J):=λo e=>by show _/\agW KX dZ.Y _ (rfW 1 J);rw[e];exact⟨rfl,⟨⟨rfl,rfl,⟨rfl,λ_ _=>rfl⟩,⟨rfl,λ_ _=>rfl⟩,⟨rfl,λ_ _=>rfl⟩,ah⟩,rfl,ah⟩,ah⟩
 have Fi:∀o,rfW 1 J=rt J o (J 20).Z->(λl=>(hd l).Z=0/\agW KX dZ.Y (tl l) (pE J)) (let r:=rt J o (J 20).Z;[.i 0,.i (r 0).Z,.i (r 1).Z,.l (r 2).N (r 2).G,.l (r 3).N (r 3).G,.l (r 4).N (r 4).G,.i (r 5).Z]):=λo e=>by show _/\agW KX dZ.Y _ (rfW 1 J);rw[e];exact⟨rfl,⟨⟨rfl,rfl,⟨rfl,λ_ _=>rfl⟩,⟨rfl,λ_ _=>rfl⟩,⟨rfl,λ_ _=>rfl⟩,ah⟩,rfl,ah⟩,ah⟩
 have hB:rfB 1 (J 0).Z (J 1).Z (J 3).X (J 20).Z:=.inl ac;have hO:rfO 1 (J 0).Z (J 1).Z (J 3).X (J 20).Z=9:=rfl;exact⟨hp.1,un (o:=9) (R:=λl=>(hd l).Z=0/\agW KX dZ.Y (tl l) (pE J)) hp hB hO (Wh 9)⟩⟩
abbrev rfcW1C:CT:=C1 dZ IS pE
theorem rfcW1_ct:CO rfcW1C:=CX1 (TX ⟨hJ,pT,sH,dh,ah⟩ (FK ah)) CP
def Kl:ae->Prop:=rfP 0
def eD:ae->ae:=rfW 0
abbrev bN:SP:=mkS ⟨[.sA sFF,aD 0 0],[]⟩ 173 Tryz.f173 [.tX (.sA ad5),.tX (.sA gj),aj 0 0,aj 0 1] [] [] [A9,QV,Sf,qX] [(aw 249 Tryz.f249)]
theorem vC J R:TR bN J R (let x0:ae:=[.i (J 0).Z,.i (J 1).Z,.b (J 2).X,.b (J 3).X];(G8 x0)/\let x1:ae:=C2 x0;BR ((J 20).Z !=0)
(BR ((J 20).Z !=1)
(False)
(BR ((J 3).X)
(BR ((J 0).Z==2)
(let x2:ae:=[.i (J 0).Z,.i (J 1).Z,.b (J 2).X,.b (J 3).X];let x3:ae:=QD x2;BR ((J 20).Z !=(x3 0).Z)
(BR ((J 14).Z==0)
(False)
((2<=(J 14).Z)/\(2<=(J 15).Z)/\(1<=(J 16).N)/\(1<=(J 17).N)/\(1<=(J 18).N)/\let x4:ae:=[.i (J 14).Z,.i (J 15).Z,.l (J 16).N (J 16).G,.l (J 17).N (J 17).G,.l (J 18).N (J 18).G];(qG x4)/\let x5:ae:=sU x4;(2<=(J 14).Z)/\(2<=(J 15).Z)/\(1<=(J 16).N)/\(1<=(J 17).N)/\(1<=(J 18).N)/\R [.i 0,.i (J 14).Z,.i (J 15).Z,.l (J 16).N (J 16).G,.l (J 17).N (J 17).G,.l (J 18).N (J 18).G,.i 0]))
(BR ((J 4).Z==0)
(False)
((2<=(J 4).Z)/\(2<=(J 5).Z)/\(1<=(J 6).N)/\(1<=(J 7).N)/\(1<=(J 8).N)/\let x6:ae:=[.i (J 4).Z,.i (J 5).Z,.l (J 6).N (J 6).G,.l (J 7).N (J 7).G,.l (J 8).N (J 8).G];(qG x6)/\let x7:ae:=sU x6;BR ((Int.tmod (J 5).Z 32)!=0)
(False)
((2<=(J 4).Z)/\(2<=(J 5).Z)/\(1<=(J 6).N)/\(1<=(J 7).N)/\(1<=(J 8).N)/\let x8:ae:=[.i (J 4).Z,.i (J 5).Z,.l (J 6).N (J 6).G,.l (J 7).N (J 7).G,.l (J 8).N (J 8).G,.i (J 20).Z];(dp x8)/\let x9:ae:=dP x8;R [.i 0,.i (x9 0).Z,.i (x9 1).Z,.l (x9 2).N (x9 2).G,.l (x9 3).N (x9 3).G,.l (x9 4).N (x9 4).G,.i (x9 5).Z]))))
(BR ((J 4).Z==0)
(False)
((2<=(J 4).Z)/\(2<=(J 5).Z)/\(1<=(J 6).N)/\(1<=(J 7).N)/\(1<=(J 8).N)/\let x6:ae:=[.i (J 4).Z,.i (J 5).Z,.l (J 6).N (J 6).G,.l (J 7).N (J 7).G,.l (J 8).N (J 8).G];(qG x6)/\let x7:ae:=sU x6;BR ((Int.tmod (J 5).Z 32)!=0)
(False)
((2<=(J 4).Z)/\(2<=(J 5).Z)/\(1<=(J 6).N)/\(1<=(J 7).N)/\(1<=(J 8).N)/\let x8:ae:=[.i (J 4).Z,.i (J 5).Z,.l (J 6).N (J 6).G,.l (J 7).N (J 7).G,.l (J 8).N (J 8).G,.i (J 20).Z];(dp x8)/\let x9:ae:=dP x8;R [.i 0,.i (x9 0).Z,.i (x9 1).Z,.l (x9 2).N (x9 2).G,.l (x9 3).N (x9 3).G,.l (x9 4).N (x9 4).G,.i (x9 5).Z]))))
(BR ((J 4).Z==0)
(False)
((2<=(J 4).Z)/\(2<=(J 5).Z)/\(1<=(J 6).N)/\(1<=(J 7).N)/\(1<=(J 8).N)/\let x6:ae:=[.i (J 4).Z,.i (J 5).Z,.l (J 6).N (J 6).G,.l (J 7).N (J 7).G,.l (J 8).N (J 8).G];(qG x6)/\let x7:ae:=sU x6;BR ((Int.tmod (J 5).Z 32)!=0)
(False)
((2<=(J 4).Z)/\(2<=(J 5).Z)/\(1<=(J 6).N)/\(1<=(J 7).N)/\(1<=(J 8).N)/\let x8:ae:=[.i (J 4).Z,.i (J 5).Z,.l (J 6).N (J 6).G,.l (J 7).N (J 7).G,.l (J 8).N (J 8).G,.i (J 20).Z];(dp x8)/\let x9:ae:=dP x8;R [.i 0,.i (x9 0).Z,.i (x9 1).Z,.l (x9 2).N (x9 2).G,.l (x9 3).N (x9 3).G,.l (x9 4).N (x9 4).G,.i (x9 5).Z])))))
(BR ((J 3).X)
(BR ((J 0).Z==2)
(let x2:ae:=[.i (J 0).Z,.i (J 1).Z,.b (J 2).X,.b (J 3).X];let x3:ae:=QD x2;BR ((J 20).Z !=(x3 0).Z)
(BR ((J 14).Z==0)
(False)
((2<=(J 14).Z)/\(2<=(J 15).Z)/\(1<=(J 16).N)/\(1<=(J 17).N)/\(1<=(J 18).N)/\let x4:ae:=[.i (J 14).Z,.i (J 15).Z,.l (J 16).N (J 16).G,.l (J 17).N (J 17).G,.l (J 18).N (J 18).G];(qG x4)/\let x5:ae:=sU x4;(2<=(J 14).Z)/\(2<=(J 15).Z)/\(1<=(J 16).N)/\(1<=(J 17).N)/\(1<=(J 18).N)/\R [.i 0,.i (J 14).Z,.i (J 15).Z,.l (J 16).N (J 16).G,.l (J 17).N (J 17).G,.l (J 18).N (J 18).G,.i 0]))
(BR ((J 4).Z==0)
(False)
((2<=(J 4).Z)/\(2<=(J 5).Z)/\(1<=(J 6).N)/\(1<=(J 7).N)/\(1<=(J 8).N)/\let x6:ae:=[.i (J 4).Z,.i (J 5).Z,.l (J 6).N (J 6).G,.l (J 7).N (J 7).G,.l (J 8).N (J 8).G];(qG x6)/\let x7:ae:=sU x6;BR ((Int.tmod (J 5).Z 32)!=0)
(False)
((2<=(J 4).Z)/\(2<=(J 5).Z)/\(1<=(J 6).N)/\(1<=(J 7).N)/\(1<=(J 8).N)/\let x8:ae:=[.i (J 4).Z,.i (J 5).Z,.l (J 6).N (J 6).G,.l (J 7).N (J 7).G,.l (J 8).N (J 8).G,.i (J 20).Z];(dp x8)/\let x9:ae:=dP x8;R [.i 0,.i (x9 0).Z,.i (x9 1).Z,.l (x9 2).N (x9 2).G,.l (x9 3).N (x9 3).G,.l (x9 4).N (x9 4).G,.i (x9 5).Z]))))
(BR ((J 4).Z==0)
(False)
((2<=(J 4).Z)/\(2<=(J 5).Z)/\(1<=(J 6).N)/\(1<=(J 7).N)/\(1<=(J 8).N)/\let x6:ae:=[.i (J 4).Z,.i (J 5).Z,.l (J 6).N (J 6).G,.l (J 7).N (J 7).G,.l (J 8).N (J 8).G];(qG x6)/\let x7:ae:=sU x6;BR ((Int.tmod (J 5).Z 32)!=0)
(False)
((2<=(J 4).Z)/\(2<=(J 5).Z)/\(1<=(J 6).N)/\(1<=(J 7).N)/\(1<=(J 8).N)/\let x8:ae:=[.i (J 4).Z,.i (J 5).Z,.l (J 6).N (J 6).G,.l (J 7).N (J 7).G,.l (J 8).N (J 8).G,.i (J 20).Z];(dp x8)/\let x9:ae:=dP x8;R [.i 0,.i (x9 0).Z,.i (x9 1).Z,.l (x9 2).N (x9 2).G,.l (x9 3).N (x9 3).G,.l (x9 4).N (x9 4).G,.i (x9 5).Z]))))
(BR ((J 4).Z==0)
(False)
((2<=(J 4).Z)/\(2<=(J 5).Z)/\(1<=(J 6).N)/\(1<=(J 7).N)/\(1<=(J 8).N)/\let x6:ae:=[.i (J 4).Z,.i (J 5).Z,.l (J 6).N (J 6).G,.l (J 7).N (J 7).G,.l (J 8).N (J 8).G];(qG x6)/\let x7:ae:=sU x6;BR ((Int.tmod (J 5).Z 32)!=0)
(False)
((2<=(J 4).Z)/\(2<=(J 5).Z)/\(1<=(J 6).N)/\(1<=(J 7).N)/\(1<=(J 8).N)/\let x8:ae:=[.i (J 4).Z,.i (J 5).Z,.l (J 6).N (J 6).G,.l (J 7).N (J 7).G,.l (J 8).N (J 8).G,.i (J 20).Z];(dp x8)/\let x9:ae:=dP x8;R [.i 0,.i (x9 0).Z,.i (x9 1).Z,.l (x9 2).N (x9 2).G,.l (x9 3).N (x9 3).G,.l (x9 4).N (x9 4).G,.i (x9 5).Z]))))):=af
theorem FY:PF1 bN Kl eD:=λJ b1 b2 hp=>⟨by
 rw[vC];have hp:rfP 0 J:=hp;obtain⟨⟨-,st,-,se,-⟩,⟨-,-,-,-,-,-,-,-,-,-,-,-,-,-,-,-⟩,-,sl,-⟩:=b1;have s0:0<=(J 20).Z:=sl.1;have s1:(J 20).Z<=1:=sl.2;have ta:1<=(J 1).Z:=st.1;have tb:(J 1).Z<=2:=st.2
 have Wh:∀o,rfW 0 J=oE J o->(hd ([.i 0]++oE J o)).Z=0/\agW KX bN.Y (tl ([.i 0]++oE J o)) (eD J):=λo e=>by show _/\agW KX bN.Y _ (rfW 0 J);rw[e];exact⟨rfl,⟨⟨rfl,rfl,⟨rfl,λ_ _=>rfl⟩,⟨rfl,λ_ _=>rfl⟩,⟨rfl,λ_ _=>rfl⟩,ah⟩,rfl,ah⟩,ah⟩
 have Fi:∀o,rfW 0 J=rt J o (J 20).Z->(λl=>(hd l).Z=0/\agW KX bN.Y (tl l) (eD J)) (let r:=rt J o (J 20).Z;[.i 0,.i (r 0).Z,.i (r 1).Z,.l (r 2).N (r 2).G,.l (r 3).N (r 3).G,.l (r 4).N (r 4).G,.i (r 5).Z]):=λo e=>by show _/\agW KX bN.Y _ (rfW 0 J);rw[e];exact⟨rfl,⟨⟨rfl,rfl,⟨rfl,λ_ _=>rfl⟩,⟨rfl,λ_ _=>rfl⟩,⟨rfl,λ_ _=>rfl⟩,ah⟩,rfl,ah⟩,ah⟩
 have N:¬ ((J 3).X=true/\(J 0).Z=2/\(J 20).Z≠paZ (J 1).Z)->¬ rfB 0 (J 0).Z (J 1).Z (J 3).X (J 20).Z:=λh q=>by
  rcases q with q | q
  .omega
  .exact h q.2
 have O:¬ ((J 3).X=true/\(J 0).Z=2/\(J 20).Z≠paZ (J 1).Z)->rfO 0 (J 0).Z (J 1).Z (J 3).X (J 20).Z=4:=λh=>by unfold rfO;rw[if_neg ac,if_neg (λq=>h q.2)]
 have Y:(J 3).X->(J 0).Z=2->(J 20).Z≠paZ (J 1).Z->rfB 0 (J 0).Z (J 1).Z (J 3).X (J 20).Z:=λh1 h2 h3=>.inr ⟨afH,h1,h2,h3⟩
 have Z:(J 3).X->(J 0).Z=2->(J 20).Z≠paZ (J 1).Z->rfO 0 (J 0).Z (J 1).Z (J 3).X (J 20).Z=14:=λh1 h2 h3=>by unfold rfO;rw[if_neg ac,if_pos ⟨ac,h1,h2,h3⟩]
 refine⟨hp.1,br_ (λq=>br_ (λq1=>absurd (show(J 20).Z=0\/(J 20).Z=1 by omega) (by have:=cS q;have:=cS q1;omega)) λq1=>br_ (λs=>br_ (λt=>br_ (λp=>un (o:=14) (R:=λl=>(hd l).Z=0/\agW KX bN.Y (tl l) (eD J)) hp (Y s (dL t) (cS p)) (Z s (dL t) (cS p)) (Wh 14)) λp=>jt (o:=4) (R:=λl=>(hd l).Z=0/\agW KX bN.Y (tl l) (eD J)) hp (N (λh=>h.2.2 (uR p))) (O (λh=>h.2.2 (uR p))) (Fi 4)) λt=>jt (o:=4) (R:=λl=>(hd l).Z=0/\agW KX bN.Y (tl l) (eD J)) hp (N (λh=>dn t h.2.1)) (O (λh=>dn t h.2.1)) (Fi 4)) λs=>jt (o:=4) (R:=λl=>(hd l).Z=0/\agW KX bN.Y (tl l) (eD J)) hp (N (λh=>by rw[s]at h;cases h.1)) (O (λh=>by rw[s]at h;cases h.1)) (Fi 4)) λq=>br_ (λs=>br_ (λt=>br_ (λp=>un (o:=14) (R:=λl=>(hd l).Z=0/\agW KX bN.Y (tl l) (eD J)) hp (Y s (dL t) (cS p)) (Z s (dL t) (cS p)) (Wh 14)) λp=>jt (o:=4) (R:=λl=>(hd l).Z=0/\agW KX bN.Y (tl l) (eD J)) hp (N (λh=>h.2.2 (uR p))) (O (λh=>h.2.2 (uR p))) (Fi 4)) λt=>jt (o:=4) (R:=λl=>(hd l).Z=0/\agW KX bN.Y (tl l) (eD J)) hp (N (λh=>dn t h.2.1)) (O (λh=>dn t h.2.1)) (Fi 4)) λs=>jt (o:=4) (R:=λl=>(hd l).Z=0/\agW KX bN.Y (tl l) (eD J)) hp (N (λh=>by rw[s]at h;cases h.1)) (O (λh=>by rw[s]at h;cases h.1)) (Fi 4)⟩⟩
abbrev rfcF0C:CT:=C1 bN Kl eD
theorem B5:CO rfcF0C:=CX1 (TX ⟨hJ,pT,sH,dh,ah⟩ (FK ah)) FY
def I9:ae->Prop:=rfP 1
def l8:ae->ae:=rfW 1
abbrev d7:SP:=mkS ⟨[.sA sFF,aD 0 0],[]⟩ 173 Tryz.f173 [.tX (.sA ad5),.tX (.sA gj),aj 1 1,aj 0 1] [] [] [A9,QV,Sf,qX] [(aw 249 Tryz.f249)]
theorem vA J R:TR d7 J R (let x0:ae:=[.i (J 0).Z,.i (J 1).Z,.b (J 2).X,.b (J 3).X];(G8 x0)/\let x1:ae:=C2 x0;BR ((J 20).Z !=0)
(BR ((J 20).Z !=1)
(False)
(BR ((J 9).Z==0)
(False)
((2<=(J 9).Z)/\(2<=(J 10).Z)/\(1<=(J 11).N)/\(1<=(J 12).N)/\(1<=(J 13).N)/\let x2:ae:=[.i (J 9).Z,.i (J 10).Z,.l (J 11).N (J 11).G,.l (J 12).N (J 12).G,.l (J 13).N (J 13).G];(qG x2)/\let x3:ae:=sU x2;BR ((Int.tmod (J 10).Z 32)!=0)
(False)
((2<=(J 9).Z)/\(2<=(J 10).Z)/\(1<=(J 11).N)/\(1<=(J 12).N)/\(1<=(J 13).N)/\let x4:ae:=[.i (J 9).Z,.i (J 10).Z,.l (J 11).N (J 11).G,.l (J 12).N (J 12).G,.l (J 13).N (J 13).G,.i (J 20).Z];(dp x4)/\let x5:ae:=dP x4;R [.i 0,.i (x5 0).Z,.i (x5 1).Z,.l (x5 2).N (x5 2).G,.l (x5 3).N (x5 3).G,.l (x5 4).N (x5 4).G,.i (x5 5).Z]))))
(BR ((J 9).Z==0)
(False)
((2<=(J 9).Z)/\(2<=(J 10).Z)/\(1<=(J 11).N)/\(1<=(J 12).N)/\(1<=(J 13).N)/\let x2:ae:=[.i (J 9).Z,.i (J 10).Z,.l (J 11).N (J 11).G,.l (J 12).N (J 12).G,.l (J 13).N (J 13).G];(qG x2)/\let x3:ae:=sU x2;BR ((Int.tmod (J 10).Z 32)!=0)
(False)
((2<=(J 9).Z)/\(2<=(J 10).Z)/\(1<=(J 11).N)/\(1<=(J 12).N)/\(1<=(J 13).N)/\let x4:ae:=[.i (J 9).Z,.i (J 10).Z,.l (J 11).N (J 11).G,.l (J 12).N (J 12).G,.l (J 13).N (J 13).G,.i (J 20).Z];(dp x4)/\let x5:ae:=dP x4;R [.i 0,.i (x5 0).Z,.i (x5 1).Z,.l (x5 2).N (x5 2).G,.l (x5 3).N (x5 3).G,.l (x5 4).N (x5 4).G,.i (x5 5).Z])))):=af
theorem BF:PF1 d7 I9 l8:=λJ b1 b2 hp=>⟨by
 rw[vA];have hp:rfP 1 J:=hp;obtain⟨⟨-,st,-,se,-⟩,⟨-,-,-,-,-,-,-,-,-,-,-,-,-,-,-,-⟩,-,sl,-⟩:=b1;have s0:0<=(J 20).Z:=sl.1;have s1:(J 20).Z<=1:=sl.2;have ta:1<=(J 1).Z:=st.1;have tb:(J 1).Z<=2:=st.2
 have Wh:∀o,rfW 1 J=oE J o->(hd ([.i 0]++oE J o)).Z=0/\agW KX d7.Y (tl ([.i 0]++oE J o)) (l8 J):=λo e=>by show _/\agW KX d7.Y _ (rfW 1 J);rw[e];exact⟨rfl,⟨⟨rfl,rfl,⟨rfl,λ_ _=>rfl⟩,⟨rfl,λ_ _=>rfl⟩,⟨rfl,λ_ _=>rfl⟩,ah⟩,rfl,ah⟩,ah⟩
 have Fi:∀o,rfW 1 J=rt J o (J 20).Z->(λl=>(hd l).Z=0/\agW KX d7.Y (tl l) (l8 J)) (let r:=rt J o (J 20).Z;[.i 0,.i (r 0).Z,.i (r 1).Z,.l (r 2).N (r 2).G,.l (r 3).N (r 3).G,.l (r 4).N (r 4).G,.i (r 5).Z]):=λo e=>by show _/\agW KX d7.Y _ (rfW 1 J);rw[e];exact⟨rfl,⟨⟨rfl,rfl,⟨rfl,λ_ _=>rfl⟩,⟨rfl,λ_ _=>rfl⟩,⟨rfl,λ_ _=>rfl⟩,ah⟩,rfl,ah⟩,ah⟩
 have N:¬ rfB 1 (J 0).Z (J 1).Z (J 3).X (J 20).Z:=λq=>by
  rcases q with q | q
  .omega
  .exact q.1 rfl
 refine⟨hp.1,br_ (λq=>br_ (λq1=>absurd (show(J 20).Z=0\/(J 20).Z=1 by omega) (by have:=cS q;have:=cS q1;omega)) λq1=>jt (o:=9) (R:=λl=>(hd l).Z=0/\agW KX d7.Y (tl l) (l8 J)) hp N rfl (Fi 9)) λq=>jt (o:=9) (R:=λl=>(hd l).Z=0/\agW KX d7.Y (tl l) (l8 J)) hp N rfl (Fi 9)⟩⟩
abbrev rfcF1C:CT:=C1 d7 I9 l8
theorem GQ:CO rfcF1C:=CX1 (TX ⟨hJ,pT,sH,dh,ah⟩ (FK ah)) BF
end
end Go.Proofs.YtldmjbgplgoedaaGreatDoor
namespace Go.Proofs.YtldmjbgplgoedaaGreatDoor
noncomputable section
open Go.RowKit U
section
variable {P:Program} {K:KT} {G:GT}
theorem Jw {C:CT} (hc:aS P C.f) (h:∀(J:ae) (Q:Lv->Prop),bTs K 1 (au C.args J)->(C.out J).sat Q->∃C',cV K P G C'/\C'.f=C.f/\∃r,C'.app (au C.args J) (an C.mem (tls (aG C.args) J))=some r/\r.sat Q):cV K P G C:=⟨hc,λJ c w vs Q hG hm hv hQ=>by obtain⟨C',h1,h2,r,h3,h4⟩:=h J Q (kx hv) hQ;have:=CT.app_ok h1 h3 hG hm hv h4;rw[h2]at this;exact this⟩
end
def rfA (J:ae):ae:=[.i (J 0).Z,.i (J 1).Z,.b (J 2).X,.b (J 3).X,.i (J 4).Z,.i (J 5).Z,.l (J 6).N (J 6).G,.l (J 7).N (J 7).G,.l (J 8).N (J 8).G,.i (J 9).Z,.i (J 10).Z,.l (J 11).N (J 11).G,.l (J 12).N (J 12).G,.l (J 13).N (J 13).G,.i (J 14).Z,.i (J 15).Z,.l (J 16).N (J 16).G,.l (J 17).N (J 17).G,.l (J 18).N (J 18).G,.i (J 19).Z,.i (J 20).Z]
theorem xo (J:ae):rfP 0 (rfA J)=rfP 0 J/\rfW 0 (rfA J)=rfW 0 J:=by
 have e0:(rfA J) 0=.i (J 0).Z:=rfl;have e1:(rfA J) 1=.i (J 1).Z:=rfl;have e2:(rfA J) 2=.b (J 2).X:=rfl;have e3:(rfA J) 3=.b (J 3).X:=rfl;have e4:(rfA J) 20=.i (J 20).Z:=rfl
 have hO:rfO 0 (J 0).Z (J 1).Z (J 3).X (J 20).Z=4\/rfO 0 (J 0).Z (J 1).Z (J 3).X (J 20).Z=14:=by
  unfold rfO;rw[if_neg ac]
  split
  .exact .inr rfl
  .exact .inl rfl
 constructor
 .simp only[rfP,e0,e1,e2,e3,e4,Z_i,X_b];rcases hO with e | e<;>simp only[e]<;>rfl
 .simp only[rfW,e0,e1,e2,e3,e4,Z_i,X_b];rcases hO with e | e<;>simp only[e]<;>rfl
abbrev zp:List AT:=[.tX (.sA gt),.tX (.sA gj),aj 0 0,aj 0 1]
abbrev PT:List AB:=[]
abbrev OL:Wy:=d5.Y
def uJ:ae->Prop:=rfP 0
def ry:ae->ae:=rfW 0
abbrev rfc0C:CT:=CS 173 zp PT OL uJ ry
theorem Xt (J:ae):rfcW0C.app (au zp J) (an PT (tls (aG zp) J))=some (vcs [3<=(J 1).Z,(J 3).X=false] (rfc0C.out (rfA J))):=af
theorem Ue (J:ae):rfcF0C.app (au zp J) (an PT (tls (aG zp) J))=some (vcs [(J 1).Z<=2,(J 2).X=true] (rfc0C.out (rfA J))):=af
theorem fv:cV KX Tryz.prog GX rfc0C:=Jw rfcW0_ct.call λJ Q b1 hQ=>by
 have hP:rfP 0 J:=hQ.1;have s1:1<=(J 1).Z:=b1.1.2.1.1;have s2:(J 1).Z<=3:=b1.1.2.1.2
 by_cases h:(J 1).Z=3
 .refine⟨rfcW0C,rfcW0_ct,rfl,_,Xt J,?_⟩;rw[bh];refine⟨⟨ac,hP.1.2 h,ah⟩,?_⟩;show rfP 0 (rfA J)/\Q (uu OL (rfW 0 (rfA J)));rw[(xo J).1,(xo J).2];exact hQ
 .refine⟨rfcF0C,B5,rfl,_,Ue J,?_⟩;rw[bh];refine⟨⟨ac,hP.1.1 h,ah⟩,?_⟩;show rfP 0 (rfA J)/\Q (uu OL (rfW 0 (rfA J)));rw[(xo J).1,(xo J).2];exact hQ
abbrev wv:List AT:=[.tX (.sA gt),.tX (.sA gj),aj 1 1,aj 0 1]
abbrev OY:List AB:=[]
abbrev aau:Wy:=dZ.Y
def vl:ae->Prop:=rfP 1
def rr:ae->ae:=rfW 1
abbrev rfc1C:CT:=CS 173 wv OY aau vl rr
theorem W0 (J:ae):rfcW1C.app (au wv J) (an OY (tls (aG wv) J))=some (vcs [3<=(J 1).Z,(J 3).X=false] (rfc1C.out J)):=af
theorem V3 (J:ae):rfcF1C.app (au wv J) (an OY (tls (aG wv) J))=some (vcs [(J 1).Z<=2,(J 2).X=true] (rfc1C.out J)):=af
theorem fy:cV KX Tryz.prog GX rfc1C:=Jw rfcW1_ct.call λJ Q b1 hQ=>by
 have hP:rfP 1 J:=hQ.1;have s1:1<=(J 1).Z:=b1.1.2.1.1;have s2:(J 1).Z<=3:=b1.1.2.1.2
 by_cases h:(J 1).Z=3
 .refine⟨rfcW1C,rfcW1_ct,rfl,_,W0 J,?_⟩;rw[bh];exact⟨⟨ac,hP.1.2 h,ah⟩,hQ⟩
 .refine⟨rfcF1C,GQ,rfl,_,V3 J,?_⟩;rw[bh];exact⟨⟨ac,hP.1.1 h,ah⟩,hQ⟩
end
end Go.Proofs.YtldmjbgplgoedaaGreatDoor
