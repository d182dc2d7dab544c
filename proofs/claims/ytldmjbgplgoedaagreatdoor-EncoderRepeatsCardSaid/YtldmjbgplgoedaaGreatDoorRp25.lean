import Derived.Test.YtldmjbgplgoedaaGreatDoorRp24
set_option linter.all false
namespace Go.Proofs.YtldmjbgplgoedaaGreatDoor
noncomputable section
open Go.RowKit U
theorem ql {W H:Int} {a b c:Nat} (h:fmB W H a b c=true):2<=W/\2<=H/\1<=a/\1<=b/\1<=c:=by
 obtain⟨w,k,rfl,rfl,h1,-,h3,-,rfl,rfl,rfl⟩:=dN h;have:=Nat.mul_le_mul h1 h3;have:=Nat.mul_le_mul (show 2<=2*w by omega) (show 2<=2*k by omega)
 omega
def frW (J:ae) (o:Nat):ae:=[.i (J o).Z,.i (J (o+1)).Z,.l (J (o+2)).N (J (o+2)).G,.l (J (o+3)).N (J (o+3)).G,.l (J (o+4)).N (J (o+4)).G]
def oE (J:ae) (o:Nat):ae:=[.i (J o).Z,.i (J (o+1)).Z,.l (J (o+2)).N (J (o+2)).G,.l (J (o+3)).N (J (o+3)).G,.l (J (o+4)).N (J (o+4)).G,.i 0]
def rt (J:ae) (o:Nat) (sel:Int):ae:=dP ([.i (J o).Z,.i (J (o+1)).Z,.l (J (o+2)).N (J (o+2)).G,.l (J (o+3)).N (J (o+3)).G,.l (J (o+4)).N (J (o+4)).G,.i sel])
def rfO (d:Int) (ty st:Int) (se:Bool) (sel:Int):Nat:=if d=1 then 9 else if st≠3/\se=true/\ty=2/\sel≠paZ st then 14 else 4
def rfB (d:Int) (ty st:Int) (se:Bool) (sel:Int):Prop:=st=3\/d≠1/\se=true/\ty=2/\sel≠paZ st
instance {d ty st:Int} {se:Bool} {sel:Int}:Decidable (rfB d ty st se sel):=by unfold rfB;infer_instance
def rfP (d:Int) (J:ae):Prop:=eQ (J 1).Z (J 2).X (J 3).X/\qG (frW J (rfO d (J 0).Z (J 1).Z (J 3).X (J 20).Z))/\(¬ rfB d (J 0).Z (J 1).Z (J 3).X (J 20).Z->(J (rfO d (J 0).Z (J 1).Z (J 3).X (J 20).Z+1)).Z % 32=0)
def rfW (d:Int) (J:ae):ae:=if rfB d (J 0).Z (J 1).Z (J 3).X (J 20).Z then oE J (rfO d (J 0).Z (J 1).Z (J 3).X (J 20).Z)else rt J (rfO d (J 0).Z (J 1).Z (J 3).X (J 20).Z) (J 20).Z
theorem un {J:ae} {d:Int} {o:Nat} {R:ae->Prop} (hp:rfP d J) (hB:rfB d (J 0).Z (J 1).Z (J 3).X (J 20).Z) (hO:rfO d (J 0).Z (J 1).Z (J 3).X (J 20).Z=o) (hR:rfW d J=oE J o->R ([.i 0]++oE J o)) :
 (((J o).Z==0)->False)/\(((J o).Z==0)=false->(2<=(J o).Z)/\(2<=(J (o+1)).Z)/\(1<=(J (o+2)).N)/\(1<=(J (o+3)).N)/\(1<=(J (o+4)).N)/\qG ([.i (J o).Z,.i (J (o+1)).Z,.l (J (o+2)).N (J (o+2)).G,.l (J (o+3)).N (J (o+3)).G,.l (J (o+4)).N (J (o+4)).G])/\(2<=(J o).Z)/\(2<=(J (o+1)).Z)/\(1<=(J (o+2)).N)/\(1<=(J (o+3)).N)/\(1<=(J (o+4)).N)/\R ([.i 0,.i (J o).Z,.i (J (o+1)).Z,.l (J (o+2)).N (J (o+2)).G,.l (J (o+3)).N (J (o+3)).G,.l (J (o+4)).N (J (o+4)).G,.i 0])):=by
 obtain⟨-,h,-⟩:=hp;rw[hO]at h;have hW:rfW d J=oE J o:=by unfold rfW;rw[if_pos hB,hO]
 obtain⟨p1,p2,p3,p4,p5⟩:=ql h.1;refine⟨λq=>?_,λ_=>⟨p1,p2,p3,p4,p5,h,p1,p2,p3,p4,p5,hR hW⟩⟩;have q:=dL q;have p1:2<=(J o).Z:=p1;omega
theorem jt {J:ae} {d:Int} {o:Nat} {R:ae->Prop} (hp:rfP d J) (hB:¬ rfB d (J 0).Z (J 1).Z (J 3).X (J 20).Z) (hO:rfO d (J 0).Z (J 1).Z (J 3).X (J 20).Z=o) (hR:rfW d J=rt J o (J 20).Z->R (let r:=rt J o (J 20).Z;[.i 0,.i (r 0).Z,.i (r 1).Z,.l (r 2).N (r 2).G,.l (r 3).N (r 3).G,.l (r 4).N (r 4).G,.i (r 5).Z])) :
 (((J o).Z==0)->False)/\(((J o).Z==0)=false->(2<=(J o).Z)/\(2<=(J (o+1)).Z)/\(1<=(J (o+2)).N)/\(1<=(J (o+3)).N)/\(1<=(J (o+4)).N)/\qG ([.i (J o).Z,.i (J (o+1)).Z,.l (J (o+2)).N (J (o+2)).G,.l (J (o+3)).N (J (o+3)).G,.l (J (o+4)).N (J (o+4)).G])/\((((Int.tmod (J (o+1)).Z 32)!=0)->False)/\(((Int.tmod (J (o+1)).Z 32)!=0)=false->(2<=(J o).Z)/\(2<=(J (o+1)).Z)/\(1<=(J (o+2)).N)/\(1<=(J (o+3)).N)/\(1<=(J (o+4)).N)/\dp ([.i (J o).Z,.i (J (o+1)).Z,.l (J (o+2)).N (J (o+2)).G,.l (J (o+3)).N (J (o+3)).G,.l (J (o+4)).N (J (o+4)).G,.i (J 20).Z])/\R (let r:=rt J o (J 20).Z;[.i 0,.i (r 0).Z,.i (r 1).Z,.l (r 2).N (r 2).G,.l (r 3).N (r 3).G,.l (r 4).N (r 4).G,.i (r 5).Z])))):=by
 obtain⟨-,h,h3⟩:=hp;have h3:=h3 hB;rw[hO]at h h3;have hW:rfW d J=rt J o (J 20).Z:=by unfold rfW;rw[if_neg hB,hO]
 obtain⟨p1,p2,p3,p4,p5⟩:=ql h.1;have p1:2<=(J o).Z:=p1;have p2:2<=(J (o+1)).Z:=p2;have e:Int.tmod (J (o+1)).Z 32=0:=by rw[Int.tmod_eq_emod_of_nonneg ac];exact h3
 refine⟨λq=>?_,λ_=>⟨p1,p2,p3,p4,p5,h,λq=>cS q e,λ_=>⟨p1,p2,p3,p4,p5,⟨h.1,?_⟩,hR hW⟩⟩⟩
 .have q:=dL q;omega
 .show(J (o+1)).Z % 4=0;omega
def I4:ae->Prop:=rfP 0
def pK:ae->ae:=rfW 0
abbrev Jb:SP:=mkS ⟨[.sA sFF,aD 0 0],[]⟩ 173 Tryz.f173 [.tX (.sA Ux),.tX (.sA ZO),aj 0 0,aj 0 1] [] [] [A9,QV,Sf,qX] [(aw 249 Tryz.f249)]
theorem uK J R:TR Jb J R (let x0:ae:=(cw J 0 4 1161);(G8 x0)/\let x1:ae:=C2 x0;BR ((J 4).Z==0) (False) ((2<=(J 4).Z)/\(2<=(J 5).Z)/\(1<=(J 6).N)/\(1<=(J 7).N)/\(1<=(J 8).N)/\let x2:ae:=(cw J 4 5 18697);(qG x2)/\let x3:ae:=sU x2;(2<=(J 4).Z)/\(2<=(J 5).Z)/\(1<=(J 6).N)/\(1<=(J 7).N)/\(1<=(J 8).N)/\R [.i 0,.i (J 4).Z,.i (J 5).Z,.l (J 6).N (J 6).G,.l (J 7).N (J 7).G,.l (J 8).N (J 8).G,.i 0])):=af
theorem Bo:PF1 Jb I4 pK:=λJ b1 b2 hp=>⟨by
 rw[uK];have hp:rfP 0 J:=hp;obtain⟨⟨-,st,-,se,-⟩,⟨-,-,-,-,-,-,-,-,-,-,-,-,-,-,-,-⟩,-,sl,-⟩:=b1;have s0:0<=(J 20).Z:=sl.1;have s1:(J 20).Z<=1:=sl.2;have ta:3<=(J 1).Z:=st.1;have tb:(J 1).Z<=3:=st.2
 have Wh:∀o,rfW 0 J=oE J o->(hd ([.i 0]++oE J o)).Z=0/\agW KX Jb.Y (tl ([.i 0]++oE J o)) (pK J):=λo e=>by show _/\agW KX Jb.Y _ (rfW 0 J);rw[e];exact⟨rfl,⟨⟨rfl,rfl,⟨rfl,λ_ _=>rfl⟩,⟨rfl,λ_ _=>rfl⟩,⟨rfl,λ_ _=>rfl⟩,ah⟩,rfl,ah⟩,ah⟩
 have Fi:∀o,rfW 0 J=rt J o (J 20).Z->(λl=>(hd l).Z=0/\agW KX Jb.Y (tl l) (pK J)) (let r:=rt J o (J 20).Z;[.i 0,.i (r 0).Z,.i (r 1).Z,.l (r 2).N (r 2).G,.l (r 3).N (r 3).G,.l (r 4).N (r 4).G,.i (r 5).Z]):=λo e=>by show _/\agW KX Jb.Y _ (rfW 0 J);rw[e];exact⟨rfl,⟨⟨rfl,rfl,⟨rfl,λ_ _=>rfl⟩,⟨rfl,λ_ _=>rfl⟩,⟨rfl,λ_ _=>rfl⟩,ah⟩,rfl,ah⟩,ah⟩
 have hB:rfB 0 (J 0).Z (J 1).Z (J 3).X (J 20).Z:=.inl ac
 have hO:rfO 0 (J 0).Z (J 1).Z (J 3).X (J 20).Z=4:=by unfold rfO;rw[if_neg ac,if_neg (λq=>q.1 ac)]
 exact⟨hp.1,un (o:=4) (R:=λl=>(hd l).Z=0/\agW KX Jb.Y (tl l) (pK J)) hp hB hO (Wh 4)⟩⟩
abbrev rfcW0C:CT:=C1 Jb I4 pK
theorem rfcW0_ct:CO rfcW0C:=CX1 (TX ⟨hJ,pT,sH,dh,ah⟩ (FK ah)) Bo
def IS:ae->Prop:=rfP 1
def pE:ae->ae:=rfW 1
abbrev dZ:SP:=mkS ⟨[.sA sFF,aD 0 0],[]⟩ 173 Tryz.f173 [.tX (.sA Ux),.tX (.sA ZO),aj 1 1,aj 0 1] [] [] [A9,QV,Sf,qX] [(aw 249 Tryz.f249)]
theorem vZ J R:TR dZ J R (let x0:ae:=(cw J 0 4 1161);(G8 x0)/\let x1:ae:=C2 x0;BR ((J 9).Z==0) (False) ((2<=(J 9).Z)/\(2<=(J 10).Z)/\(1<=(J 11).N)/\(1<=(J 12).N)/\(1<=(J 13).N)/\let x2:ae:=(cw J 9 5 18697);(qG x2)/\let x3:ae:=sU x2;(2<=(J 9).Z)/\(2<=(J 10).Z)/\(1<=(J 11).N)/\(1<=(J 12).N)/\(1<=(J 13).N)/\R [.i 0,.i (J 9).Z,.i (J 10).Z,.l (J 11).N (J 11).G,.l (J 12).N (J 12).G,.l (J 13).N (J 13).G,.i 0])):=af
theorem CP:PF1 dZ IS pE:=λJ b1 b2 hp=>⟨by
 rw[vZ];have hp:rfP 1 J:=hp;obtain⟨⟨-,st,-,se,-⟩,⟨-,-,-,-,-,-,-,-,-,-,-,-,-,-,-,-⟩,-,sl,-⟩:=b1;have s0:0<=(J 20).Z:=sl.1;have s1:(J 20).Z<=1:=sl.2;have ta:3<=(J 1).Z:=st.1;have tb:(J 1).Z<=3:=st.2
 have Wh:∀o,rfW 1 J=oE J o->(hd ([.i 0]++oE J o)).Z=0/\agW KX dZ.Y (tl ([.i 0]++oE J o)) (pE J):=λo e=>by show _/\agW KX dZ.Y _ (rfW 1 J);rw[e];exact⟨rfl,⟨⟨rfl,rfl,⟨rfl,λ_ _=>rfl⟩,⟨rfl,λ_ _=>rfl⟩,⟨rfl,λ_ _=>rfl⟩,ah⟩,rfl,ah⟩,ah⟩
 have Fi:∀o,rfW 1 J=rt J o (J 20).Z->(λl=>(hd l).Z=0/\agW KX dZ.Y (tl l) (pE J)) (let r:=rt J o (J 20).Z;[.i 0,.i (r 0).Z,.i (r 1).Z,.l (r 2).N (r 2).G,.l (r 3).N (r 3).G,.l (r 4).N (r 4).G,.i (r 5).Z]):=λo e=>by show _/\agW KX dZ.Y _ (rfW 1 J);rw[e];exact⟨rfl,⟨⟨rfl,rfl,⟨rfl,λ_ _=>rfl⟩,⟨rfl,λ_ _=>rfl⟩,⟨rfl,λ_ _=>rfl⟩,ah⟩,rfl,ah⟩,ah⟩
 have hB:rfB 1 (J 0).Z (J 1).Z (J 3).X (J 20).Z:=.inl ac;have hO:rfO 1 (J 0).Z (J 1).Z (J 3).X (J 20).Z=9:=rfl;exact⟨hp.1,un (o:=9) (R:=λl=>(hd l).Z=0/\agW KX dZ.Y (tl l) (pE J)) hp hB hO (Wh 9)⟩⟩
abbrev rfcW1C:CT:=C1 dZ IS pE
theorem rfcW1_ct:CO rfcW1C:=CX1 (TX ⟨hJ,pT,sH,dh,ah⟩ (FK ah)) CP
def ag0:ae->Prop:=rfP 0
def eD:ae->ae:=rfW 0
abbrev bN:SP:=mkS ⟨[.sA sFF,aD 0 0],[]⟩ 173 Tryz.f173 [.tX (.sA aaX),.tX (.sA ZO),aj 0 0,aj 0 1] [] [] [A9,QV,Sf,qX] [(aw 249 Tryz.f249)]
theorem vC J R:TR bN J R (let x0:ae:=(cw J 0 4 1161);(G8 x0)/\let x1:ae:=C2 x0;BR ((J 20).Z !=0) (BR ((J 20).Z !=1) (False) (BR ((J 3).X) (BR ((J 0).Z==2) (let x2:ae:=(cw J 0 4 1161);let x3:ae:=QD x2;BR ((J 20).Z !=(x3 0).Z) (BR ((J 14).Z==0) (False) ((2<=(J 14).Z)/\(2<=(J 15).Z)/\(1<=(J 16).N)/\(1<=(J 17).N)/\(1<=(J 18).N)/\let x4:ae:=(cw J 14 5 18697);(qG x4)/\let x5:ae:=sU x4;(2<=(J 14).Z)/\(2<=(J 15).Z)/\(1<=(J 16).N)/\(1<=(J 17).N)/\(1<=(J 18).N)/\R [.i 0,.i (J 14).Z,.i (J 15).Z,.l (J 16).N (J 16).G,.l (J 17).N (J 17).G,.l (J 18).N (J 18).G,.i 0])) (BR ((J 4).Z==0) (False) ((2<=(J 4).Z)/\(2<=(J 5).Z)/\(1<=(J 6).N)/\(1<=(J 7).N)/\(1<=(J 8).N)/\let x6:ae:=(cw J 4 5 18697);(qG x6)/\let x7:ae:=sU x6;BR ((Int.tmod (J 5).Z 32)!=0) (False) ((2<=(J 4).Z)/\(2<=(J 5).Z)/\(1<=(J 6).N)/\(1<=(J 7).N)/\(1<=(J 8).N)/\let x8:ae:=[.i (J 4).Z,.i (J 5).Z,.l (J 6).N (J 6).G,.l (J 7).N (J 7).G,.l (J 8).N (J 8).G,.i (J 20).Z];(dp x8)/\let x9:ae:=dP x8;R [.i 0,.i (x9 0).Z,.i (x9 1).Z,.l (x9 2).N (x9 2).G,.l (x9 3).N (x9 3).G,.l (x9 4).N (x9 4).G,.i (x9 5).Z])))) (BR ((J 4).Z==0) (False) ((2<=(J 4).Z)/\(2<=(J 5).Z)/\(1<=(J 6).N)/\(1<=(J 7).N)/\(1<=(J 8).N)/\let x6:ae:=(cw J 4 5 18697);(qG x6)/\let x7:ae:=sU x6;BR ((Int.tmod (J 5).Z 32)!=0) (False) ((2<=(J 4).Z)/\(2<=(J 5).Z)/\(1<=(J 6).N)/\(1<=(J 7).N)/\(1<=(J 8).N)/\let x8:ae:=[.i (J 4).Z,.i (J 5).Z,.l (J 6).N (J 6).G,.l (J 7).N (J 7).G,.l (J 8).N (J 8).G,.i (J 20).Z];(dp x8)/\let x9:ae:=dP x8;R [.i 0,.i (x9 0).Z,.i (x9 1).Z,.l (x9 2).N (x9 2).G,.l (x9 3).N (x9 3).G,.l (x9 4).N (x9 4).G,.i (x9 5).Z])))) (BR ((J 4).Z==0) (False) ((2<=(J 4).Z)/\(2<=(J 5).Z)/\(1<=(J 6).N)/\(1<=(J 7).N)/\(1<=(J 8).N)/\let x6:ae:=(cw J 4 5 18697);(qG x6)/\let x7:ae:=sU x6;BR ((Int.tmod (J 5).Z 32)!=0) (False) ((2<=(J 4).Z)/\(2<=(J 5).Z)/\(1<=(J 6).N)/\(1<=(J 7).N)/\(1<=(J 8).N)/\let x8:ae:=[.i (J 4).Z,.i (J 5).Z,.l (J 6).N (J 6).G,.l (J 7).N (J 7).G,.l (J 8).N (J 8).G,.i (J 20).Z];(dp x8)/\let x9:ae:=dP x8;R [.i 0,.i (x9 0).Z,.i (x9 1).Z,.l (x9 2).N (x9 2).G,.l (x9 3).N (x9 3).G,.l (x9 4).N (x9 4).G,.i (x9 5).Z]))))) (BR ((J 3).X) (BR ((J 0).Z==2) (let x2:ae:=(cw J 0 4 1161);let x3:ae:=QD x2;BR ((J 20).Z !=(x3 0).Z) (BR ((J 14).Z==0) (False) ((2<=(J 14).Z)/\(2<=(J 15).Z)/\(1<=(J 16).N)/\(1<=(J 17).N)/\(1<=(J 18).N)/\let x4:ae:=(cw J 14 5 18697);(qG x4)/\let x5:ae:=sU x4;(2<=(J 14).Z)/\(2<=(J 15).Z)/\(1<=(J 16).N)/\(1<=(J 17).N)/\(1<=(J 18).N)/\R [.i 0,.i (J 14).Z,.i (J 15).Z,.l (J 16).N (J 16).G,.l (J 17).N (J 17).G,.l (J 18).N (J 18).G,.i 0])) (BR ((J 4).Z==0) (False) ((2<=(J 4).Z)/\(2<=(J 5).Z)/\(1<=(J 6).N)/\(1<=(J 7).N)/\(1<=(J 8).N)/\let x6:ae:=(cw J 4 5 18697);(qG x6)/\let x7:ae:=sU x6;BR ((Int.tmod (J 5).Z 32)!=0) (False) ((2<=(J 4).Z)/\(2<=(J 5).Z)/\(1<=(J 6).N)/\(1<=(J 7).N)/\(1<=(J 8).N)/\let x8:ae:=[.i (J 4).Z,.i (J 5).Z,.l (J 6).N (J 6).G,.l (J 7).N (J 7).G,.l (J 8).N (J 8).G,.i (J 20).Z];(dp x8)/\let x9:ae:=dP x8;R [.i 0,.i (x9 0).Z,.i (x9 1).Z,.l (x9 2).N (x9 2).G,.l (x9 3).N (x9 3).G,.l (x9 4).N (x9 4).G,.i (x9 5).Z])))) (BR ((J 4).Z==0) (False) ((2<=(J 4).Z)/\(2<=(J 5).Z)/\(1<=(J 6).N)/\(1<=(J 7).N)/\(1<=(J 8).N)/\let x6:ae:=(cw J 4 5 18697);(qG x6)/\let x7:ae:=sU x6;BR ((Int.tmod (J 5).Z 32)!=0) (False) ((2<=(J 4).Z)/\(2<=(J 5).Z)/\(1<=(J 6).N)/\(1<=(J 7).N)/\(1<=(J 8).N)/\let x8:ae:=[.i (J 4).Z,.i (J 5).Z,.l (J 6).N (J 6).G,.l (J 7).N (J 7).G,.l (J 8).N (J 8).G,.i (J 20).Z];(dp x8)/\let x9:ae:=dP x8;R [.i 0,.i (x9 0).Z,.i (x9 1).Z,.l (x9 2).N (x9 2).G,.l (x9 3).N (x9 3).G,.l (x9 4).N (x9 4).G,.i (x9 5).Z])))) (BR ((J 4).Z==0) (False) ((2<=(J 4).Z)/\(2<=(J 5).Z)/\(1<=(J 6).N)/\(1<=(J 7).N)/\(1<=(J 8).N)/\let x6:ae:=(cw J 4 5 18697);(qG x6)/\let x7:ae:=sU x6;BR ((Int.tmod (J 5).Z 32)!=0) (False) ((2<=(J 4).Z)/\(2<=(J 5).Z)/\(1<=(J 6).N)/\(1<=(J 7).N)/\(1<=(J 8).N)/\let x8:ae:=[.i (J 4).Z,.i (J 5).Z,.l (J 6).N (J 6).G,.l (J 7).N (J 7).G,.l (J 8).N (J 8).G,.i (J 20).Z];(dp x8)/\let x9:ae:=dP x8;R [.i 0,.i (x9 0).Z,.i (x9 1).Z,.l (x9 2).N (x9 2).G,.l (x9 3).N (x9 3).G,.l (x9 4).N (x9 4).G,.i (x9 5).Z]))))):=af
theorem FY:PF1 bN ag0 eD:=λJ b1 b2 hp=>⟨by
 rw[vC];have hp:rfP 0 J:=hp;obtain⟨⟨-,st,-,se,-⟩,⟨-,-,-,-,-,-,-,-,-,-,-,-,-,-,-,-⟩,-,sl,-⟩:=b1;have s0:0<=(J 20).Z:=sl.1;have s1:(J 20).Z<=1:=sl.2;have ta:1<=(J 1).Z:=st.1;have tb:(J 1).Z<=2:=st.2
 have Wh:∀o,rfW 0 J=oE J o->(hd ([.i 0]++oE J o)).Z=0/\agW KX bN.Y (tl ([.i 0]++oE J o)) (eD J):=λo e=>by show _/\agW KX bN.Y _ (rfW 0 J);rw[e];exact⟨rfl,⟨⟨rfl,rfl,⟨rfl,λ_ _=>rfl⟩,⟨rfl,λ_ _=>rfl⟩,⟨rfl,λ_ _=>rfl⟩,ah⟩,rfl,ah⟩,ah⟩
 have Fi:∀o,rfW 0 J=rt J o (J 20).Z->(λl=>(hd l).Z=0/\agW KX bN.Y (tl l) (eD J)) (let r:=rt J o (J 20).Z;[.i 0,.i (r 0).Z,.i (r 1).Z,.l (r 2).N (r 2).G,.l (r 3).N (r 3).G,.l (r 4).N (r 4).G,.i (r 5).Z]):=λo e=>by show _/\agW KX bN.Y _ (rfW 0 J);rw[e];exact⟨rfl,⟨⟨rfl,rfl,⟨rfl,λ_ _=>rfl⟩,⟨rfl,λ_ _=>rfl⟩,⟨rfl,λ_ _=>rfl⟩,ah⟩,rfl,ah⟩,ah⟩
 have N:¬ ((J 3).X=true/\(J 0).Z=2/\(J 20).Z≠paZ (J 1).Z)->¬ rfB 0 (J 0).Z (J 1).Z (J 3).X (J 20).Z:=λh q=>by
  rcases q with q | q
  .omega
  .exact h q.2
 have O:¬ ((J 3).X=true/\(J 0).Z=2/\(J 20).Z≠paZ (J 1).Z)->rfO 0 (J 0).Z (J 1).Z (J 3).X (J 20).Z=4:=λh=>by unfold rfO;rw[if_neg ac,if_neg (λq=>h q.2)]
 have Y:(J 3).X->(J 0).Z=2->(J 20).Z≠paZ (J 1).Z->rfB 0 (J 0).Z (J 1).Z (J 3).X (J 20).Z:=λh1 h2 h3=>.inr ⟨afH,h1,h2,h3⟩
 have Z:(J 3).X->(J 0).Z=2->(J 20).Z≠paZ (J 1).Z->rfO 0 (J 0).Z (J 1).Z (J 3).X (J 20).Z=14:=λh1 h2 h3=>by unfold rfO;rw[if_neg ac,if_pos ⟨ac,h1,h2,h3⟩]
 refine⟨hp.1,br_ (λq=>br_ (λq1=>absurd (show(J 20).Z=0\/(J 20).Z=1 by omega) (by have:=cS q;have:=cS q1;omega)) λq1=>br_ (λs=>br_ (λt=>br_ (λp=>un (o:=14) (R:=λl=>(hd l).Z=0/\agW KX bN.Y (tl l) (eD J)) hp (Y s (dL t) (cS p)) (Z s (dL t) (cS p)) (Wh 14)) λp=>jt (o:=4) (R:=λl=>(hd l).Z=0/\agW KX bN.Y (tl l) (eD J)) hp (N (λh=>h.2.2 (uR p))) (O (λh=>h.2.2 (uR p))) (Fi 4)) λt=>jt (o:=4) (R:=λl=>(hd l).Z=0/\agW KX bN.Y (tl l) (eD J)) hp (N (λh=>dn t h.2.1)) (O (λh=>dn t h.2.1)) (Fi 4)) λs=>jt (o:=4) (R:=λl=>(hd l).Z=0/\agW KX bN.Y (tl l) (eD J)) hp (N (λh=>by rw[s]at h;cases h.1)) (O (λh=>by rw[s]at h;cases h.1)) (Fi 4)) λq=>br_ (λs=>br_ (λt=>br_ (λp=>un (o:=14) (R:=λl=>(hd l).Z=0/\agW KX bN.Y (tl l) (eD J)) hp (Y s (dL t) (cS p)) (Z s (dL t) (cS p)) (Wh 14)) λp=>jt (o:=4) (R:=λl=>(hd l).Z=0/\agW KX bN.Y (tl l) (eD J)) hp (N (λh=>h.2.2 (uR p))) (O (λh=>h.2.2 (uR p))) (Fi 4)) λt=>jt (o:=4) (R:=λl=>(hd l).Z=0/\agW KX bN.Y (tl l) (eD J)) hp (N (λh=>dn t h.2.1)) (O (λh=>dn t h.2.1)) (Fi 4)) λs=>jt (o:=4) (R:=λl=>(hd l).Z=0/\agW KX bN.Y (tl l) (eD J)) hp (N (λh=>by rw[s]at h;cases h.1)) (O (λh=>by rw[s]at h;cases h.1)) (Fi 4)⟩⟩
abbrev rfcF0C:CT:=C1 bN ag0 eD
theorem B5:CO rfcF0C:=CX1 (TX ⟨hJ,pT,sH,dh,ah⟩ (FK ah)) FY
def I9:ae->Prop:=rfP 1
def l8:ae->ae:=rfW 1
abbrev Jc:SP:=mkS ⟨[.sA sFF,aD 0 0],[]⟩ 173 Tryz.f173 [.tX (.sA aaX),.tX (.sA ZO),aj 1 1,aj 0 1] [] [] [A9,QV,Sf,qX] [(aw 249 Tryz.f249)]
theorem vA J R:TR Jc J R (let x0:ae:=(cw J 0 4 1161);(G8 x0)/\let x1:ae:=C2 x0;BR ((J 20).Z !=0) (BR ((J 20).Z !=1) (False) (BR ((J 9).Z==0) (False) ((2<=(J 9).Z)/\(2<=(J 10).Z)/\(1<=(J 11).N)/\(1<=(J 12).N)/\(1<=(J 13).N)/\let x2:ae:=(cw J 9 5 18697);(qG x2)/\let x3:ae:=sU x2;BR ((Int.tmod (J 10).Z 32)!=0) (False) ((2<=(J 9).Z)/\(2<=(J 10).Z)/\(1<=(J 11).N)/\(1<=(J 12).N)/\(1<=(J 13).N)/\let x4:ae:=[.i (J 9).Z,.i (J 10).Z,.l (J 11).N (J 11).G,.l (J 12).N (J 12).G,.l (J 13).N (J 13).G,.i (J 20).Z];(dp x4)/\let x5:ae:=dP x4;R [.i 0,.i (x5 0).Z,.i (x5 1).Z,.l (x5 2).N (x5 2).G,.l (x5 3).N (x5 3).G,.l (x5 4).N (x5 4).G,.i (x5 5).Z])))) (BR ((J 9).Z==0) (False) ((2<=(J 9).Z)/\(2<=(J 10).Z)/\(1<=(J 11).N)/\(1<=(J 12).N)/\(1<=(J 13).N)/\let x2:ae:=(cw J 9 5 18697);(qG x2)/\let x3:ae:=sU x2;BR ((Int.tmod (J 10).Z 32)!=0) (False) ((2<=(J 9).Z)/\(2<=(J 10).Z)/\(1<=(J 11).N)/\(1<=(J 12).N)/\(1<=(J 13).N)/\let x4:ae:=[.i (J 9).Z,.i (J 10).Z,.l (J 11).N (J 11).G,.l (J 12).N (J 12).G,.l (J 13).N (J 13).G,.i (J 20).Z];(dp x4)/\let x5:ae:=dP x4;R [.i 0,.i (x5 0).Z,.i (x5 1).Z,.l (x5 2).N (x5 2).G,.l (x5 3).N (x5 3).G,.l (x5 4).N (x5 4).G,.i (x5 5).Z])))):=af
theorem BF:PF1 Jc I9 l8:=λJ b1 b2 hp=>⟨by
 rw[vA];have hp:rfP 1 J:=hp;obtain⟨⟨-,st,-,se,-⟩,⟨-,-,-,-,-,-,-,-,-,-,-,-,-,-,-,-⟩,-,sl,-⟩:=b1;have s0:0<=(J 20).Z:=sl.1;have s1:(J 20).Z<=1:=sl.2;have ta:1<=(J 1).Z:=st.1;have tb:(J 1).Z<=2:=st.2
 have Wh:∀o,rfW 1 J=oE J o->(hd ([.i 0]++oE J o)).Z=0/\agW KX Jc.Y (tl ([.i 0]++oE J o)) (l8 J):=λo e=>by show _/\agW KX Jc.Y _ (rfW 1 J);rw[e];exact⟨rfl,⟨⟨rfl,rfl,⟨rfl,λ_ _=>rfl⟩,⟨rfl,λ_ _=>rfl⟩,⟨rfl,λ_ _=>rfl⟩,ah⟩,rfl,ah⟩,ah⟩
 have Fi:∀o,rfW 1 J=rt J o (J 20).Z->(λl=>(hd l).Z=0/\agW KX Jc.Y (tl l) (l8 J)) (let r:=rt J o (J 20).Z;[.i 0,.i (r 0).Z,.i (r 1).Z,.l (r 2).N (r 2).G,.l (r 3).N (r 3).G,.l (r 4).N (r 4).G,.i (r 5).Z]):=λo e=>by show _/\agW KX Jc.Y _ (rfW 1 J);rw[e];exact⟨rfl,⟨⟨rfl,rfl,⟨rfl,λ_ _=>rfl⟩,⟨rfl,λ_ _=>rfl⟩,⟨rfl,λ_ _=>rfl⟩,ah⟩,rfl,ah⟩,ah⟩
 have N:¬ rfB 1 (J 0).Z (J 1).Z (J 3).X (J 20).Z:=λq=>by
  rcases q with q | q
  .omega
  .exact q.1 rfl
 refine⟨hp.1,br_ (λq=>br_ (λq1=>absurd (show(J 20).Z=0\/(J 20).Z=1 by omega) (by have:=cS q;have:=cS q1;omega)) λq1=>jt (o:=9) (R:=λl=>(hd l).Z=0/\agW KX Jc.Y (tl l) (l8 J)) hp N rfl (Fi 9)) λq=>jt (o:=9) (R:=λl=>(hd l).Z=0/\agW KX Jc.Y (tl l) (l8 J)) hp N rfl (Fi 9)⟩⟩
abbrev rfcF1C:CT:=C1 Jc I9 l8
theorem GQ:CO rfcF1C:=CX1 (TX ⟨hJ,pT,sH,dh,ah⟩ (FK ah)) BF
end
end Go.Proofs.YtldmjbgplgoedaaGreatDoor
namespace Go.Proofs.YtldmjbgplgoedaaGreatDoor
noncomputable section
open Go.RowKit U
section
variable {P:Program} {K:KT} {G:GT}
theorem Jw {C:CT} (hc:aS P C.f) (h:∀(J:ae) (Q:Lv->Prop),bTs K 1 (au C.args J)->(C.out J).sat Q->∃C',cV K P G C'/\C'.f=C.f/\∃r,C'.app (au C.args J) (an C.mem (tls (aG C.args) J))=some r/\r.sat Q):cV K P G C:=⟨hc,λJ c w vs Q hG hm hv hQ=>by obtain⟨C',h1,h2,r,h3,h4⟩:=h J Q (kx hv) hQ;have:=CT.app_ok h1 h3 hG hm hv h4;rw[h2]at this;exact this⟩
end
def rfA (J:ae):ae:=[.i (J 0).Z,.i (J 1).Z,.b (J 2).X,.b (J 3).X,.i (J 4).Z,.i (J 5).Z,.l (J 6).N (J 6).G,.l (J 7).N (J 7).G,.l (J 8).N (J 8).G,.i (J 9).Z,.i (J 10).Z,.l (J 11).N (J 11).G,.l (J 12).N (J 12).G,.l (J 13).N (J 13).G,.i (J 14).Z,.i (J 15).Z,.l (J 16).N (J 16).G,.l (J 17).N (J 17).G,.l (J 18).N (J 18).G,.i (J 19).Z,.i (J 20).Z]
theorem xo (J:ae):rfP 0 (rfA J)=rfP 0 J/\rfW 0 (rfA J)=rfW 0 J:=by
 have e0:(rfA J) 0=.i (J 0).Z:=rfl;have e1:(rfA J) 1=.i (J 1).Z:=rfl;have e2:(rfA J) 2=.b (J 2).X:=rfl;have e3:(rfA J) 3=.b (J 3).X:=rfl;have e4:(rfA J) 20=.i (J 20).Z:=rfl
 have hO:rfO 0 (J 0).Z (J 1).Z (J 3).X (J 20).Z=4\/rfO 0 (J 0).Z (J 1).Z (J 3).X (J 20).Z=14:=by
  unfold rfO;rw[if_neg ac]
  split
  .exact .inr rfl
  .exact .inl rfl
 constructor
 .simp only[rfP,e0,e1,e2,e3,e4,Z_i,X_b];rcases hO with e | e<;>simp only[e]<;>rfl
 .simp only[rfW,e0,e1,e2,e3,e4,Z_i,X_b];rcases hO with e | e<;>simp only[e]<;>rfl
abbrev zp:List AT:=[.tX (.sA VC),.tX (.sA ZO),aj 0 0,aj 0 1]
abbrev PT:List AB:=[]
abbrev OL:Wy:=Jb.Y
def uJ:ae->Prop:=rfP 0
def ry:ae->ae:=rfW 0
abbrev rfc0C:CT:=CS 173 zp PT OL uJ ry
theorem Xt (J:ae):rfcW0C.app (au zp J) (an PT (tls (aG zp) J))=some (vcs [3<=(J 1).Z,(J 3).X=false] (rfc0C.out (rfA J))):=af
theorem Ue (J:ae):rfcF0C.app (au zp J) (an PT (tls (aG zp) J))=some (vcs [(J 1).Z<=2,(J 2).X=true] (rfc0C.out (rfA J))):=af
theorem fv:cV KX Tryz.prog GX rfc0C:=Jw rfcW0_ct.call λJ Q b1 hQ=>by
 have hP:rfP 0 J:=hQ.1;have s1:1<=(J 1).Z:=b1.1.2.1.1;have s2:(J 1).Z<=3:=b1.1.2.1.2
 by_cases h:(J 1).Z=3
 .refine⟨rfcW0C,rfcW0_ct,rfl,_,Xt J,?_⟩;rw[bh];refine⟨⟨ac,hP.1.2 h,ah⟩,?_⟩;show rfP 0 (rfA J)/\Q (uu OL (rfW 0 (rfA J)));rw[(xo J).1,(xo J).2];exact hQ
 .refine⟨rfcF0C,B5,rfl,_,Ue J,?_⟩;rw[bh];refine⟨⟨ac,hP.1.1 h,ah⟩,?_⟩;show rfP 0 (rfA J)/\Q (uu OL (rfW 0 (rfA J)));rw[(xo J).1,(xo J).2];exact hQ
abbrev wv:List AT:=[.tX (.sA VC),.tX (.sA ZO),aj 1 1,aj 0 1]
abbrev OY:List AB:=[]
abbrev aau:Wy:=dZ.Y
def vl:ae->Prop:=rfP 1
def rr:ae->ae:=rfW 1
abbrev rfc1C:CT:=CS 173 wv OY aau vl rr
theorem W0 (J:ae):rfcW1C.app (au wv J) (an OY (tls (aG wv) J))=some (vcs [3<=(J 1).Z,(J 3).X=false] (rfc1C.out J)):=af
theorem V3 (J:ae):rfcF1C.app (au wv J) (an OY (tls (aG wv) J))=some (vcs [(J 1).Z<=2,(J 2).X=true] (rfc1C.out J)):=af
theorem fy:cV KX Tryz.prog GX rfc1C:=Jw rfcW1_ct.call λJ Q b1 hQ=>by
 have hP:rfP 1 J:=hQ.1;have s1:1<=(J 1).Z:=b1.1.2.1.1;have s2:(J 1).Z<=3:=b1.1.2.1.2
 by_cases h:(J 1).Z=3
 .refine⟨rfcW1C,rfcW1_ct,rfl,_,W0 J,?_⟩;rw[bh];exact⟨⟨ac,hP.1.2 h,ah⟩,hQ⟩
 .refine⟨rfcF1C,GQ,rfl,_,V3 J,?_⟩;rw[bh];exact⟨⟨ac,hP.1.1 h,ah⟩,hQ⟩
end
end Go.Proofs.YtldmjbgplgoedaaGreatDoor
namespace Go.Proofs.YtldmjbgplgoedaaGreatDoor
noncomputable section
open Go.RowKit U
def rfD (d:Int) (J:ae) (s:Int):ae:=ak (cw J 0 19 k10) [.i d,.i s]
def pdA (d:Int) (s vx vy:Int) (J:ae):ae:=let r:=rfW d (rfD d J s);[.i (r 0).Z,.i (r 1).Z,.l (r 2).N (r 2).G,.l (r 3).N (r 3).G,.l (r 4).N (r 4).G,.i (16*(min (max (J 19).Z (-1)) 128)),.i (16*(min (max (J 20).Z (-1)) 128)),.i 16,.i 16,.i vx,.i vy]
def pdB (d:Int) (s v0 v1 v2 v3:Int) (sl:Nat->Int) (J:ae):ae:=let r:=rfW d (rfD d J s);[.i (r 0).Z,.i (r 1).Z,.l (r 2).N (r 2).G,.l (r 3).N (r 3).G,.l (r 4).N (r 4).G,.i (J 19).Z,.i (J 20).Z,.i v0,.i v1,.i v2,.i v3,.f sl]
def pd0 (fp:Bool) (J:ae):ae:=bif fp then vN (pdB 0 ((J 34).F 0) (J 26).Z (J 27).Z (J 28).Z (J 29).Z (J 34).F J)else kI (pdA 0 ((J 34).F 0) (J 26).Z (J 27).Z J)
def pd1 (fp:Bool) (J:ae):ae:=bif fp then vN (pdB 1 ((J 34).F 2) (J 30).Z (J 31).Z (J 32).Z (J 33).Z (λi=>(J 34).F (i+2)) J)else kI (pdA 1 ((J 34).F 2) (J 30).Z (J 31).Z J)
def pp0 (fp:Bool) (J:ae):Prop:=rfP 0 (rfD 0 J ((J 34).F 0))/\(bif fp then Bz (pdB 0 ((J 34).F 0) (J 26).Z (J 27).Z (J 28).Z (J 29).Z (J 34).F J)else oD (pdA 0 ((J 34).F 0) (J 26).Z (J 27).Z J))
def pp1 (fp:Bool) (J:ae):Prop:=rfP 1 (rfD 1 J ((J 34).F 2))/\(bif fp then Bz (pdB 1 ((J 34).F 2) (J 30).Z (J 31).Z (J 32).Z (J 33).Z (λi=>(J 34).F (i+2)) J)else oD (pdA 1 ((J 34).F 2) (J 30).Z (J 31).Z J))
def pd2 (f g:ae):ae:=Qj [.i 16,.i 16,.l 256 (f 2).G,.l 64 (f 3).G,.l 64 (f 4).G,.i 16,.i 16,.l 256 (g 2).G,.l 64 (g 3).G,.l 64 (g 4).G]
def pr6 (f:ae) (J:ae):ae:=ak [.i 16,.i 16,.l 256 (f 2).G,.l 64 (f 3).G,.l 64 (f 4).G,.i 0] (tls 21 J)
theorem catG_0 {a b:Nat->ae}:aE 1 a b 0=a 0:=rfl
theorem catG_1 {a b:Nat->ae}:aE 1 a b 1=b 0:=rfl
theorem f16:fmB 16 16 256 64 64=true:=afH
def Kw (J:ae):Prop:=pp0 false J
def qb (J:ae):ae:=pr6 (pd0 false J) J
abbrev sf:SP:=mkS ⟨[.sA bJ,aD 0 0],[.run 127 acO]⟩ 167 Tryz.f167 [.tX (.sA VC),tXO (.nP 0 0),.tX (.sA ZO),aj 0 3,aj 0 3] [.run 127 acO] [(3,.unroll 70)] [rfc0C,rfc1C,Ji,Bs,J5] [(aw 253 Tryz.f253)]
theorem vk J R:TR sf J R (let x0:ae:=(ak (cw J 0 19 k10) [.i 0,.i ((J 34).F 0)]);(uJ x0)/\let x1:ae:=ry x0;let x2:ae:=[.i (x1 0).Z,.i (x1 1).Z,.l (x1 2).N (x1 2).G,.l (x1 3).N (x1 3).G,.l (x1 4).N (x1 4).G,.i (16*(min (max (J 19).Z (-1)) 128)),.i (16*(min (max (J 20).Z (-1)) 128)),.i 16,.i 16,.i (J 26).Z,.i (J 27).Z];(oD x2)/\let x3:ae:=kI x2;(1<=1)/\(0<1)/\(16<=(x3 0).Z)/\((x3 0).Z<=16)/\(16<=(x3 1).Z)/\((x3 1).Z<=16)/\(256<=(x3 2).N)/\((x3 2).N<=256)/\(64<=(x3 3).N)/\((x3 3).N<=64)/\(64<=(x3 4).N)/\((x3 4).N<=64)/\R (ak [.i 0,.i (x3 0).Z,.i (x3 1).Z,.l (x3 2).N (x3 2).G,.l (x3 3).N (x3 3).G,.l (x3 4).N (x3 4).G,.i 0] (cw J 21 22 k0))):=af
theorem DZ:PF1 sf Kw qb:=λJ b1 b2 hp=>⟨by
 rw[vk];refine⟨hp.1,hp.2,?_⟩;generalize hf:kI _=f;have fz0:(f 0).Z=16:=by rw[<-hf];kernel_rfl
 have fz1:(f 1).Z=16:=by rw[<-hf];kernel_rfl
 have fn2:(f 2).N=256:=by rw[<-hf];kernel_rfl
 have fn3:(f 3).N=64:=by rw[<-hf];kernel_rfl
 have fn4:(f 4).N=64:=by rw[<-hf];kernel_rfl
 have hW:qb J=pr6 f J:=by rw[<-hf];kernel_rfl
 rw[hW];clear hW hf;dsimp only;rw[fz0,fz1,fn2,fn3,fn4]
 repeat (refine And.intro (by first|exact Int.le_refl _ | exact Nat.le_refl _ | exact Nat.zero_lt_one | exact Nat.lt_succ_self _ | exact⟨f16,f16⟩ | decide | rfl) ?_)
 refine⟨⟨⟨rfl,rfl,⟨rfl,λ_ _=>rfl⟩,⟨rfl,λ_ _=>rfl⟩,⟨rfl,λ_ _=>rfl⟩,ah⟩,rfl,ah⟩,?_,ah⟩
 repeat (first|exact trivial | refine And.intro (by first|rfl | exact λ_ _=>rfl | exact⟨rfl,λ_ _=>rfl⟩) ?_)⟩
abbrev xx:CT:=C1 sf Kw qb
theorem prTF0_ct:CO xx:=CX1 (TX ⟨fv,fy,j7,jk,kH,ah⟩ (FK ah)) DZ
def Jg (J:ae):Prop:=pp0 true J
def qd (J:ae):ae:=pr6 (pd0 true J) J
abbrev rE:SP:=mkS ⟨[.sA bJ,aD 0 0],[.run 127 aeb]⟩ 167 Tryz.f167 [.tX (.sA VC),tXO (.nP 0 0),.tX (.sA ZO),aj 0 3,aj 0 3] [.run 127 aeb] [(3,.unroll 70)] [rfc0C,rfc1C,Ji,Bs,J5] [(aw 253 Tryz.f253)]
theorem uN J R:TR rE J R (let x0:ae:=(ak (cw J 0 19 k10) [.i 0,.i ((J 34).F 0)]);(uJ x0)/\let x1:ae:=ry x0;let x2:ae:=[.i (x1 0).Z,.i (x1 1).Z,.l (x1 2).N (x1 2).G,.l (x1 3).N (x1 3).G,.l (x1 4).N (x1 4).G,.i (J 19).Z,.i (J 20).Z,.i (J 26).Z,.i (J 27).Z,.i (J 28).Z,.i (J 29).Z,.f (J 34).F];(Bz x2)/\let x3:ae:=vN x2;(1<=1)/\(0<1)/\(16<=(x3 0).Z)/\((x3 0).Z<=16)/\(16<=(x3 1).Z)/\((x3 1).Z<=16)/\(256<=(x3 2).N)/\((x3 2).N<=256)/\(64<=(x3 3).N)/\((x3 3).N<=64)/\(64<=(x3 4).N)/\((x3 4).N<=64)/\R (ak [.i 0,.i (x3 0).Z,.i (x3 1).Z,.l (x3 2).N (x3 2).G,.l (x3 3).N (x3 3).G,.l (x3 4).N (x3 4).G,.i 0] (cw J 21 22 k0))):=af
theorem DC:PF1 rE Jg qd:=λJ b1 b2 hp=>⟨by
 rw[uN];refine⟨hp.1,hp.2,?_⟩;generalize hf:vN _=f;have fz0:(f 0).Z=16:=by rw[<-hf];kernel_rfl
 have fz1:(f 1).Z=16:=by rw[<-hf];kernel_rfl
 have fn2:(f 2).N=256:=by rw[<-hf];kernel_rfl
 have fn3:(f 3).N=64:=by rw[<-hf];kernel_rfl
 have fn4:(f 4).N=64:=by rw[<-hf];kernel_rfl
 have hW:qd J=pr6 f J:=by rw[<-hf];kernel_rfl
 rw[hW];clear hW hf;dsimp only;rw[fz0,fz1,fn2,fn3,fn4]
 repeat (refine And.intro (by first|exact Int.le_refl _ | exact Nat.le_refl _ | exact Nat.zero_lt_one | exact Nat.lt_succ_self _ | exact⟨f16,f16⟩ | decide | rfl) ?_)
 refine⟨⟨⟨rfl,rfl,⟨rfl,λ_ _=>rfl⟩,⟨rfl,λ_ _=>rfl⟩,⟨rfl,λ_ _=>rfl⟩,ah⟩,rfl,ah⟩,?_,ah⟩
 repeat (first|exact trivial | refine And.intro (by first|rfl | exact λ_ _=>rfl | exact⟨rfl,λ_ _=>rfl⟩) ?_)⟩
abbrev zP:CT:=C1 rE Jg qd
theorem CR:CO zP:=CX1 (TX ⟨fv,fy,j7,jk,kH,ah⟩ (FK ah)) DC
def JF (J:ae):Prop:=pp1 false J
def pB (J:ae):ae:=pr6 (pd1 false J) J
abbrev rh:SP:=mkS ⟨[.sA bJ,aD 0 0],[.run 127 adr]⟩ 167 Tryz.f167 [.tX (.sA VC),tXO (.nP 0 0),.tX (.sA ZO),aj 0 3,aj 0 3] [.run 127 adr] [(3,.unroll 70)] [rfc0C,rfc1C,Ji,Bs,J5] [(aw 253 Tryz.f253)]
theorem vQ J R:TR rh J R (let x0:ae:=(ak (cw J 0 19 k10) [.i 1,.i ((J 34).F (0+2))]);(vl x0)/\let x1:ae:=rr x0;let x2:ae:=[.i (x1 0).Z,.i (x1 1).Z,.l (x1 2).N (x1 2).G,.l (x1 3).N (x1 3).G,.l (x1 4).N (x1 4).G,.i (16*(min (max (J 19).Z (-1)) 128)),.i (16*(min (max (J 20).Z (-1)) 128)),.i 16,.i 16,.i (J 30).Z,.i (J 31).Z];(oD x2)/\let x3:ae:=kI x2;(1<=1)/\(0<1)/\(16<=(x3 0).Z)/\((x3 0).Z<=16)/\(16<=(x3 1).Z)/\((x3 1).Z<=16)/\(256<=(x3 2).N)/\((x3 2).N<=256)/\(64<=(x3 3).N)/\((x3 3).N<=64)/\(64<=(x3 4).N)/\((x3 4).N<=64)/\R (ak [.i 0,.i (x3 0).Z,.i (x3 1).Z,.l (x3 2).N (x3 2).G,.l (x3 3).N (x3 3).G,.l (x3 4).N (x3 4).G,.i 0] (cw J 21 22 k0))):=af
theorem IE:PF1 rh JF pB:=λJ b1 b2 hp=>⟨by
 rw[vQ];refine⟨hp.1,hp.2,?_⟩;generalize hf:kI _=f;have fz0:(f 0).Z=16:=by rw[<-hf];kernel_rfl
 have fz1:(f 1).Z=16:=by rw[<-hf];kernel_rfl
 have fn2:(f 2).N=256:=by rw[<-hf];kernel_rfl
 have fn3:(f 3).N=64:=by rw[<-hf];kernel_rfl
 have fn4:(f 4).N=64:=by rw[<-hf];kernel_rfl
 have hW:pB J=pr6 f J:=by rw[<-hf];kernel_rfl
 rw[hW];clear hW hf;dsimp only;rw[fz0,fz1,fn2,fn3,fn4]
 repeat (refine And.intro (by first|exact Int.le_refl _ | exact Nat.le_refl _ | exact Nat.zero_lt_one | exact Nat.lt_succ_self _ | exact⟨f16,f16⟩ | decide | rfl) ?_)
 refine⟨⟨⟨rfl,rfl,⟨rfl,λ_ _=>rfl⟩,⟨rfl,λ_ _=>rfl⟩,⟨rfl,λ_ _=>rfl⟩,ah⟩,rfl,ah⟩,?_,ah⟩
 repeat (first|exact trivial | refine And.intro (by first|rfl | exact λ_ _=>rfl | exact⟨rfl,λ_ _=>rfl⟩) ?_)⟩
abbrev xt:CT:=C1 rh JF pB
theorem DP:CO xt:=CX1 (TX ⟨fv,fy,j7,jk,kH,ah⟩ (FK ah)) IE
def Lg (J:ae):Prop:=pp1 true J
def qJ (J:ae):ae:=pr6 (pd1 true J) J
abbrev rc:SP:=mkS ⟨[.sA bJ,aD 0 0],[.run 127 aes]⟩ 167 Tryz.f167 [.tX (.sA VC),tXO (.nP 0 0),.tX (.sA ZO),aj 0 3,aj 0 3] [.run 127 aes] [(3,.unroll 70)] [rfc0C,rfc1C,Ji,Bs,J5] [(aw 253 Tryz.f253)]
theorem vm J R:TR rc J R (let x0:ae:=(ak (cw J 0 19 k10) [.i 1,.i ((J 34).F (0+2))]);(vl x0)/\let x1:ae:=rr x0;let x2:ae:=[.i (x1 0).Z,.i (x1 1).Z,.l (x1 2).N (x1 2).G,.l (x1 3).N (x1 3).G,.l (x1 4).N (x1 4).G,.i (J 19).Z,.i (J 20).Z,.i (J 30).Z,.i (J 31).Z,.i (J 32).Z,.i (J 33).Z,.f (λi0=>(J 34).F (i0+2))];(Bz x2)/\let x3:ae:=vN x2;(1<=1)/\(0<1)/\(16<=(x3 0).Z)/\((x3 0).Z<=16)/\(16<=(x3 1).Z)/\((x3 1).Z<=16)/\(256<=(x3 2).N)/\((x3 2).N<=256)/\(64<=(x3 3).N)/\((x3 3).N<=64)/\(64<=(x3 4).N)/\((x3 4).N<=64)/\R (ak [.i 0,.i (x3 0).Z,.i (x3 1).Z,.l (x3 2).N (x3 2).G,.l (x3 3).N (x3 3).G,.l (x3 4).N (x3 4).G,.i 0] (cw J 21 22 k0))):=af
theorem B6:PF1 rc Lg qJ:=λJ b1 b2 hp=>⟨by
 rw[vm];refine⟨hp.1,hp.2,?_⟩;generalize hf:vN _=f;have fz0:(f 0).Z=16:=by rw[<-hf];kernel_rfl
 have fz1:(f 1).Z=16:=by rw[<-hf];kernel_rfl
 have fn2:(f 2).N=256:=by rw[<-hf];kernel_rfl
 have fn3:(f 3).N=64:=by rw[<-hf];kernel_rfl
 have fn4:(f 4).N=64:=by rw[<-hf];kernel_rfl
 have hW:qJ J=pr6 f J:=by rw[<-hf];kernel_rfl
 rw[hW];clear hW hf;dsimp only;rw[fz0,fz1,fn2,fn3,fn4]
 repeat (refine And.intro (by first|exact Int.le_refl _ | exact Nat.le_refl _ | exact Nat.zero_lt_one | exact Nat.lt_succ_self _ | exact⟨f16,f16⟩ | decide | rfl) ?_)
 refine⟨⟨⟨rfl,rfl,⟨rfl,λ_ _=>rfl⟩,⟨rfl,λ_ _=>rfl⟩,⟨rfl,λ_ _=>rfl⟩,ah⟩,rfl,ah⟩,?_,ah⟩
 repeat (first|exact trivial | refine And.intro (by first|rfl | exact λ_ _=>rfl | exact⟨rfl,λ_ _=>rfl⟩) ?_)⟩
abbrev yk:CT:=C1 rc Lg qJ
theorem CH:CO yk:=CX1 (TX ⟨fv,fy,j7,jk,kH,ah⟩ (FK ah)) B6
def Jy (J:ae):Prop:=pp0 false J/\pp1 false J
def qC (J:ae):ae:=pr6 (pd2 (pd0 false J) (pd1 false J)) J
abbrev ro:SP:=mkS ⟨[.sA bJ,aD 0 0],[.run 127 akK]⟩ 167 Tryz.f167 [.tX (.sA VC),tXO (.nP 0 0),.tX (.sA ZO),aj 0 3,aj 0 3] [.run 127 akK] [(3,.unroll 70)] [rfc0C,rfc1C,Ji,Bs,J5] [(aw 253 Tryz.f253)]
theorem vd J R:TR ro J R (let x0:ae:=(ak (cw J 0 19 k10) [.i 0,.i ((J 34).F 0)]);(uJ x0)/\let x1:ae:=ry x0;let x2:ae:=[.i (x1 0).Z,.i (x1 1).Z,.l (x1 2).N (x1 2).G,.l (x1 3).N (x1 3).G,.l (x1 4).N (x1 4).G,.i (16*(min (max (J 19).Z (-1)) 128)),.i (16*(min (max (J 20).Z (-1)) 128)),.i 16,.i 16,.i (J 26).Z,.i (J 27).Z];(oD x2)/\let x3:ae:=kI x2;(1<=1)/\let x4:ae:=(ak (cw J 0 19 k10) [.i 1,.i ((J 34).F (0+2))]);(vl x4)/\let x5:ae:=rr x4;let x6:ae:=[.i (x5 0).Z,.i (x5 1).Z,.l (x5 2).N (x5 2).G,.l (x5 3).N (x5 3).G,.l (x5 4).N (x5 4).G,.i (16*(min (max (J 19).Z (-1)) 128)),.i (16*(min (max (J 20).Z (-1)) 128)),.i 16,.i 16,.i (J 30).Z,.i (J 31).Z];(oD x6)/\let x7:ae:=kI x6;(1<=1)/\(0=0)/\(1=1)/\(0<2)/\(1<2)/\(16<=(x3 0).Z)/\((x3 0).Z<=16)/\(16<=(x3 1).Z)/\((x3 1).Z<=16)/\(256<=(x3 2).N)/\((x3 2).N<=256)/\(64<=(x3 3).N)/\((x3 3).N<=64)/\(64<=(x3 4).N)/\((x3 4).N<=64)/\(16<=(x7 0).Z)/\((x7 0).Z<=16)/\(16<=(x7 1).Z)/\((x7 1).Z<=16)/\(256<=(x7 2).N)/\((x7 2).N<=256)/\(64<=(x7 3).N)/\((x7 3).N<=64)/\(64<=(x7 4).N)/\((x7 4).N<=64)/\let x8:ae:=[.i (x3 0).Z,.i (x3 1).Z,.l (x3 2).N (x3 2).G,.l (x3 3).N (x3 3).G,.l (x3 4).N (x3 4).G,.i (x7 0).Z,.i (x7 1).Z,.l (x7 2).N (x7 2).G,.l (x7 3).N (x7 3).G,.l (x7 4).N (x7 4).G];(Yq x8)/\let x9:ae:=Qj x8;R (ak [.i 0,.i (x9 0).Z,.i (x9 1).Z,.l (x9 2).N (x9 2).G,.l (x9 3).N (x9 3).G,.l (x9 4).N (x9 4).G,.i (x9 5).Z] (cw J 21 22 k0))):=af
theorem Dt:PF1 ro Jy qC:=λJ b1 b2 hp=>⟨by
 rw[vd];refine⟨hp.1.1,hp.1.2,Nat.le_refl _,hp.2.1,hp.2.2,?_⟩;generalize hg:kI _=g;generalize hf:kI _=f;have fz0:(f 0).Z=16:=by rw[<-hf];kernel_rfl
 have fz1:(f 1).Z=16:=by rw[<-hf];kernel_rfl
 have fn2:(f 2).N=256:=by rw[<-hf];kernel_rfl
 have fn3:(f 3).N=64:=by rw[<-hf];kernel_rfl
 have fn4:(f 4).N=64:=by rw[<-hf];kernel_rfl
 have gz0:(g 0).Z=16:=by rw[<-hg];kernel_rfl
 have gz1:(g 1).Z=16:=by rw[<-hg];kernel_rfl
 have gn2:(g 2).N=256:=by rw[<-hg];kernel_rfl
 have gn3:(g 3).N=64:=by rw[<-hg];kernel_rfl
 have gn4:(g 4).N=64:=by rw[<-hg];kernel_rfl
 have hW:qC J=pr6 (pd2 f g) J:=by rw[<-hf,<-hg];kernel_rfl
 rw[hW];clear hW hf hg;dsimp only;rw[fz0,fz1,fn2,fn3,fn4,gz0,gz1,gn2,gn3,gn4]
 repeat (refine And.intro (by first|exact Int.le_refl _ | exact Nat.le_refl _ | exact Nat.zero_lt_one | exact Nat.lt_succ_self _ | exact⟨f16,f16⟩ | decide | rfl) ?_)
 refine⟨⟨⟨rfl,rfl,⟨rfl,λ_ _=>rfl⟩,⟨rfl,λ_ _=>rfl⟩,⟨rfl,λ_ _=>rfl⟩,ah⟩,rfl,ah⟩,?_,ah⟩
 repeat (first|exact trivial | refine And.intro (by first|rfl | exact λ_ _=>rfl | exact⟨rfl,λ_ _=>rfl⟩) ?_)⟩
abbrev wN:CT:=C1 ro Jy qC
theorem Bt:CO wN:=CX1 (TX ⟨fv,fy,j7,jk,kH,ah⟩ (FK ah)) Dt
def Ju (J:ae):Prop:=pp0 true J/\pp1 true J
def oV (J:ae):ae:=pr6 (pd2 (pd0 true J) (pd1 true J)) J
abbrev rk:SP:=mkS ⟨[.sA bJ,aD 0 0],[.run 127 adU]⟩ 167 Tryz.f167 [.tX (.sA VC),tXO (.nP 0 0),.tX (.sA ZO),aj 0 3,aj 0 3] [.run 127 adU] [(3,.unroll 70)] [rfc0C,rfc1C,Ji,Bs,J5] [(aw 253 Tryz.f253)]
theorem uV J R:TR rk J R (let x0:ae:=(ak (cw J 0 19 k10) [.i 0,.i ((J 34).F 0)]);(uJ x0)/\let x1:ae:=ry x0;let x2:ae:=[.i (x1 0).Z,.i (x1 1).Z,.l (x1 2).N (x1 2).G,.l (x1 3).N (x1 3).G,.l (x1 4).N (x1 4).G,.i (J 19).Z,.i (J 20).Z,.i (J 26).Z,.i (J 27).Z,.i (J 28).Z,.i (J 29).Z,.f (J 34).F];(Bz x2)/\let x3:ae:=vN x2;(1<=1)/\let x4:ae:=(ak (cw J 0 19 k10) [.i 1,.i ((J 34).F (0+2))]);(vl x4)/\let x5:ae:=rr x4;let x6:ae:=[.i (x5 0).Z,.i (x5 1).Z,.l (x5 2).N (x5 2).G,.l (x5 3).N (x5 3).G,.l (x5 4).N (x5 4).G,.i (J 19).Z,.i (J 20).Z,.i (J 30).Z,.i (J 31).Z,.i (J 32).Z,.i (J 33).Z,.f (λi0=>(J 34).F (i0+2))];(Bz x6)/\let x7:ae:=vN x6;(1<=1)/\(0=0)/\(1=1)/\(0<2)/\(1<2)/\(16<=(x3 0).Z)/\((x3 0).Z<=16)/\(16<=(x3 1).Z)/\((x3 1).Z<=16)/\(256<=(x3 2).N)/\((x3 2).N<=256)/\(64<=(x3 3).N)/\((x3 3).N<=64)/\(64<=(x3 4).N)/\((x3 4).N<=64)/\(16<=(x7 0).Z)/\((x7 0).Z<=16)/\(16<=(x7 1).Z)/\((x7 1).Z<=16)/\(256<=(x7 2).N)/\((x7 2).N<=256)/\(64<=(x7 3).N)/\((x7 3).N<=64)/\(64<=(x7 4).N)/\((x7 4).N<=64)/\let x8:ae:=[.i (x3 0).Z,.i (x3 1).Z,.l (x3 2).N (x3 2).G,.l (x3 3).N (x3 3).G,.l (x3 4).N (x3 4).G,.i (x7 0).Z,.i (x7 1).Z,.l (x7 2).N (x7 2).G,.l (x7 3).N (x7 3).G,.l (x7 4).N (x7 4).G];(Yq x8)/\let x9:ae:=Qj x8;R (ak [.i 0,.i (x9 0).Z,.i (x9 1).Z,.l (x9 2).N (x9 2).G,.l (x9 3).N (x9 3).G,.l (x9 4).N (x9 4).G,.i (x9 5).Z] (cw J 21 22 k0))):=af
theorem G4:PF1 rk Ju oV:=λJ b1 b2 hp=>⟨by
 rw[uV];refine⟨hp.1.1,hp.1.2,Nat.le_refl _,hp.2.1,hp.2.2,?_⟩;generalize hg:vN _=g;generalize hf:vN _=f;have fz0:(f 0).Z=16:=by rw[<-hf];kernel_rfl
 have fz1:(f 1).Z=16:=by rw[<-hf];kernel_rfl
 have fn2:(f 2).N=256:=by rw[<-hf];kernel_rfl
 have fn3:(f 3).N=64:=by rw[<-hf];kernel_rfl
 have fn4:(f 4).N=64:=by rw[<-hf];kernel_rfl
 have gz0:(g 0).Z=16:=by rw[<-hg];kernel_rfl
 have gz1:(g 1).Z=16:=by rw[<-hg];kernel_rfl
 have gn2:(g 2).N=256:=by rw[<-hg];kernel_rfl
 have gn3:(g 3).N=64:=by rw[<-hg];kernel_rfl
 have gn4:(g 4).N=64:=by rw[<-hg];kernel_rfl
 have hW:oV J=pr6 (pd2 f g) J:=by rw[<-hf,<-hg];kernel_rfl
 rw[hW];clear hW hf hg;dsimp only;rw[fz0,fz1,fn2,fn3,fn4,gz0,gz1,gn2,gn3,gn4]
 repeat (refine And.intro (by first|exact Int.le_refl _ | exact Nat.le_refl _ | exact Nat.zero_lt_one | exact Nat.lt_succ_self _ | exact⟨f16,f16⟩ | decide | rfl) ?_)
 refine⟨⟨⟨rfl,rfl,⟨rfl,λ_ _=>rfl⟩,⟨rfl,λ_ _=>rfl⟩,⟨rfl,λ_ _=>rfl⟩,ah⟩,rfl,ah⟩,?_,ah⟩
 repeat (first|exact trivial | refine And.intro (by first|rfl | exact λ_ _=>rfl | exact⟨rfl,λ_ _=>rfl⟩) ?_)⟩
abbrev wR:CT:=C1 rk Ju oV
theorem D7:CO wR:=CX1 (TX ⟨fv,fy,j7,jk,kH,ah⟩ (FK ah)) G4
end
end Go.Proofs.YtldmjbgplgoedaaGreatDoor
