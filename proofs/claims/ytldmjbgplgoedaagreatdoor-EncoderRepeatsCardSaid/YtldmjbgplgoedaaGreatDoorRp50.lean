import Derived.Test.YtldmjbgplgoedaaGreatDoorRp49
import Derived.Test.YtldmjbgplgoedaaGreatDoorRp46
import Derived.Test.YtldmjbgplgoedaaGreatDoorRp48
set_option linter.all false
namespace Go.Proofs.YtldmjbgplgoedaaGreatDoor
noncomputable section
open Go.RowKit U
def aiH (J:ae):Prop:=(J 0).N=(J 1).N/\∀i,i<(J 0).N->cel (J 0).G i=cel (J 1).G i
def akH (_:ae):ae:=[.b true]
abbrev ak1:List AT:=[tXO (.nR 0 0 1048576 0 g0),tXO (.nR 0 0 1048576 0 g0)]
abbrev akZ:List AB:=[]
abbrev ak2:Wy:=⟨[.sO (.nB false true true)],[]⟩
abbrev akj:CT:=CS 53 ak1 akZ ak2 aiH akH
theorem agO:cV KX Tryz.prog GX akj:=⟨λ_ _=>af,λJ c w vs Q hG hm hv hQ=>by
 match vs,hv with
 |[],hv=>exact absurd (show 2=0 from hv.1) afH
 |[_],hv=>exact absurd (show 2=1 from hv.1) afH
 |_::_::_::t,hv=>exact absurd (show 2=t.length+1+1+1 from hv.1) ac
 |[v,v'],hv =>
  obtain⟨h1,h2⟩:=allAt_cons.1 hv;have h2:=(allAt_cons.1 h2).1;obtain⟨A,m,rfl,r1⟩:=Ks hm (show(AV.nR 0 0 1048576 (J 0).N (J 0).G).is KX c v from h1);obtain⟨B,m',rfl,r2⟩:=Ks hm (show(AV.nR 0 0 1048576 (J 1).N (J 1).G).is KX c v' from h2);obtain⟨⟨e1,e2⟩,hQ⟩:=(show aiH J/\_ from hQ)
  have e:(List.range (J 1).N).map (cel (J 1).G)=(List.range (J 0).N).map (cel (J 0).G):=by rw[<-e1];exact List.map_congr_left λi hi=>(e2 i (List.mem_range.1 hi)).symm
  rw[e,<-e1]at r2;rw[<-e1];refine Calls.mono (HE r1 r2) ?_;rintro _ _ ⟨rfl,rfl⟩;exact⟨_,rfl,_,_,hQ,c,hm,is_B.2 ⟨rfl,λh=>(by cases(show true=false from h)),λ_=>rfl⟩⟩⟩
theorem cwZ {a b:ae} (h:a=b) (k:Nat):(a k).Z=(b k).Z:=by rw[h]
theorem cwX {a b:ae} (h:a=b) (k:Nat):(a k).X=(b k).X:=by rw[h]
theorem cwF {a b:ae} (h:a=b) (k:Nat):(a k).F=(b k).F:=by rw[h]
theorem cwN {a b:ae} (h:a=b) (k:Nat):(a k).N=(b k).N/\(a k).G=(b k).G:=by rw[h];exact⟨rfl,rfl⟩
theorem afl {Y:Wy} {z:Bool} (h:Y=⟨[.sO (.nB false true z)],[]⟩):(hd [Lf.i 0,.b true]).Z=0/\agW KX Y (tl [Lf.i 0,.b true]) [.b true]:=by subst h;exact⟨rfl,⟨rfl,ah⟩,ah⟩
def ajF (J:ae):Prop:=cw J 2 2 33=cw J 0 2 33
def aj5 (_:ae):ae:=[.b true]
abbrev ahr:SP:=mkS ⟨[.sO (.nB false true false)],[]⟩ 291 Tryz.f291 [.tX (.sA HP),.tX (.sA HP)] [] [] [akj]
theorem agC J R:TR ahr J R ((((J 0).Z==(J 2).Z)->let x0:ae:=[.l (J 1).N (J 1).G,.l (J 3).N (J 3).G];(aiH x0)/\let x1:ae:=akH x0;R [.i 0,.b (x1 0).X])/\(((J 0).Z==(J 2).Z)=false-> False)):=af
theorem ai3:PF1 ahr ajF aj5:=λJ _ _ hp=>⟨by
 rw[agC];have hp:cw J 2 2 33=cw J 0 2 33:=hp;have e0:(J 2).Z=(J 0).Z:=cwZ hp 0;have e1:(J 3).N=(J 1).N:=(cwN hp 1).1;have e2:(J 3).G=(J 1).G:=(cwN hp 1).2;refine⟨λ_=>⟨⟨e1.symm,λi _=>by show cel (J 1).G i=cel (J 3).G i;rw[e2]⟩,afl rfl⟩,λh=>?_⟩
 rw[e0]at h
 simp at h⟩
abbrev akI:CT:=C1 ahr ajF aj5
theorem aji:CO akI:=CX1 (TX ⟨agO,ah⟩ ah) ai3
def ajM (J:ae):Prop:=(J 1).N=(J 0).N/\(J 1).G=(J 0).G
def ajL (_:ae):ae:=[.b true]
abbrev ahG:SP:=mkS ⟨[.sO (.nB false true false)],[]⟩ 213 Tryz.f213 [tXO (.nR 4 0 1048576 0 g0),tXO (.nR 4 0 1048576 0 g0)] [] [(4,.head ⟨[(0,tXO (.nR 4 0 1048576 0 g0)),(1,tXO (.nR 4 0 1048576 0 g0)),(5,aj 0 1048576)],[],[]⟩)] [akI]
theorem agt J R:TR ahG J R ((((((J 0).N:Nat):Int)!=(((J 1).N:Nat):Int))->False)/\(((((J 0).N:Nat):Int)!=(((J 1).N:Nat):Int))=false->∃(I0:ae->Prop) (μ0:ae->Nat),I0 [.l (J 0).N (J 0).G,.l (J 1).N (J 1).G,.i 0]/\∀l0,I0 l0->((decide ((l0 2).Z<(((l0 0).N:Nat):Int)))->((l0 2).Z<(((l0 0).N:Nat):Int))/\((l0 2).Z<(((l0 1).N:Nat):Int))/\let x0:ae:=[.i (((l0 0).G (l0 2).Z.toNat) 0).Z,.l (((l0 0).G (l0 2).Z.toNat) 1).N (((l0 0).G (l0 2).Z.toNat) 1).G,.i (((l0 1).G (l0 2).Z.toNat) 0).Z,.l (((l0 1).G (l0 2).Z.toNat) 1).N (((l0 1).G (l0 2).Z.toNat) 1).G];(ajF x0)/\let x1:ae:=aj5 x0;(((l0 2).Z+1)<=1048576)/\Ag I0 μ0 l0 [.l (l0 0).N (l0 0).G,.l (l0 1).N (l0 1).G,.i ((l0 2).Z+1)])/\((decide ((l0 2).Z<(((l0 0).N:Nat):Int)))=false-> R [.i 0,.b true]))):=af
theorem aiQ:PF1 ahG ajM ajL:=λJ b1 _ hp=>⟨by
 rw[agt];obtain⟨⟨-,l2,-⟩,-⟩:=b1;have l2:(J 0).N<=1048576:=l2;obtain⟨e1,e2⟩:=hp;rw[e1,e2];generalize (J 0).N=n at *;generalize (J 0).G=f at *;refine⟨λh=>by simp at h,λ_=>Wj n (λi=>[.l n f,.l n f,.i i]) (λl=>(l 2).Z) (λi _=>rfl) rfl λI μ hA i hi=>⟨λh=>?_,λh=>?_⟩⟩
 .have h:(i:Int)<n:=of_decide_eq_true h;exact⟨h,h,rfl,by show(i:Int)+1<=1048576;omega,hA i _ ac rfl⟩
 .exact afl rfl⟩
abbrev akM:CT:=C1 ahG ajM ajL
theorem aiZ:CO akM:=CX1 (TX ⟨aji,ah⟩ ah) aiQ
def air (J:ae):Prop:=cw J 8 8 9512009=cw J 0 8 9512009
def ajJ (_:ae):ae:=[.b true]
abbrev ahz:SP:=mkS ⟨[.sO (.nB false true false)],[]⟩ 131 Tryz.f131 [.tX (.sA ajW),.tX (.sA ajW)] [] [(4,.head ⟨[(2,tXO (.nP 0 0)),(3,tXO (.nP 1 0)),(5,aj 0 1048576)],[.run 41 ajW,.run 41 ajW],[]⟩)] [akM,akj]
theorem agz J R:TR ahz J R (((!(((J 0).Z==(J 8).Z)&&(((J 1).Z==(J 9).Z)&&(((J 2).Z==(J 10).Z)&&(((J 3).X==(J 11).X)&&(((J 4).X==(J 12).X)&&((J 5).X==(J 13).X)))))))->False)/\((!(((J 0).Z==(J 8).Z)&&(((J 1).Z==(J 9).Z)&&(((J 2).Z==(J 10).Z)&&(((J 3).X==(J 11).X)&&(((J 4).X==(J 12).X)&&((J 5).X==(J 13).X)))))))=false->(((((J 6).N:Nat):Int)!=(((J 14).N:Nat):Int))->False)/\(((((J 6).N:Nat):Int)!=(((J 14).N:Nat):Int))=false->let x0:ae:=[.l (J 7).N (J 7).G,.l (J 15).N (J 15).G];(ajM x0)/\let x1:ae:=ajL x0;∃(I0:ae->Prop) (μ0:ae->Nat),I0 (ak [.i 0] (cw J 0 16 159585039098953))/\∀l0,I0 l0->((decide ((l0 0).Z<(((l0 7).N:Nat):Int)))->((l0 0).Z<(((l0 7).N:Nat):Int))/\((l0 0).Z<(((l0 15).N:Nat):Int))/\let x2:ae:=[.l (((l0 7).G (l0 0).Z.toNat) 0).N (((l0 7).G (l0 0).Z.toNat) 0).G,.l (((l0 15).G (l0 0).Z.toNat) 0).N (((l0 15).G (l0 0).Z.toNat) 0).G];(aiH x2)/\let x3:ae:=akH x2;(((l0 0).Z+1)<=1048576)/\Ag I0 μ0 l0 (ak [.i ((l0 0).Z+1)] (cw l0 1 16 159585039098953)))/\((decide ((l0 0).Z<(((l0 7).N:Nat):Int)))=false-> R [.i 0,.b true])))):=af
theorem ajj:PF1 ahz air ajJ:=λJ b1 _ hp=>⟨by
 rw[agz];obtain⟨⟨-,-,-,-,-,-,⟨-,l2,-⟩,-⟩,-⟩:=b1;have l2:(J 6).N<=1048576:=l2;have hp:cw J 8 8 9512009=cw J 0 8 9512009:=hp;have e0:(J 8).Z=(J 0).Z:=cwZ hp 0;have e1:(J 9).Z=(J 1).Z:=cwZ hp 1;have e2:(J 10).Z=(J 2).Z:=cwZ hp 2;have e3:(J 11).X=(J 3).X:=cwX hp 3;have e4:(J 12).X=(J 4).X:=cwX hp 4;have e5:(J 13).X=(J 5).X:=cwX hp 5;have e6:(J 14).N=(J 6).N:=(cwN hp 6).1;have e7:(J 14).G=(J 6).G:=(cwN hp 6).2;have e8:(J 15).N=(J 7).N/\(J 15).G=(J 7).G:=⟨(cwN hp 7).1,(cwN hp 7).2⟩;rw[e0,e1,e2,e3,e4,e5,e6];refine⟨λh=>by simp at h,λ_=>⟨λh=>by simp at h,λ_=>⟨e8,Wj (J 6).N (λi=>ak [.i i] (cw J 0 16 159585039098953)) (λl=>(l 0).Z) (λi _=>rfl) rfl λI μ hA i hi=>⟨λh=>?_,λh=>?_⟩⟩⟩⟩
 .have h:(i:Int)<(((J 6).N:Nat):Int):=of_decide_eq_true (kmp h);have h2:(i:Int)<(((J 14).N:Nat):Int):=by rw[e6];exact h
  refine⟨kmp h,kmp h2,?_,by show(i:Int)+1<=1048576;omega,hA i _ ac af⟩
  have z:aiH [.l (((J 6).G i) 0).N (((J 6).G i) 0).G,.l (((J 14).G i) 0).N (((J 14).G i) 0).G]:=by rw[e7];exact⟨rfl,λ_ _=>rfl⟩
  exact kmp z
 .exact afl rfl⟩
abbrev akQ:CT:=C1 ahz air ajJ
theorem ai8:CO akQ:=CX1 (TX ⟨aiZ,agO,ah⟩ ah) ajj
def ah6 (J:ae):Prop:=(J 0).N<=(J 1).N
def ahX (J:ae):ae:=[.i (uY (J 0).G (J 1).G (J 0).N)]
abbrev ahA:SP:=mkS ⟨[aD 0 255],[]⟩ 52 Tryz.f52 [tXO (.nR 0 1 4096 0 g0),tXO (.nR 0 1 4096 0 g0)] [] [(3,.head ⟨[(0,tXO (.nR 0 1 4096 0 g0)),(1,tXO (.nR 0 1 4096 0 g0)),(5,aj 0 255),(6,aj 0 1048576)],[],[]⟩)]
theorem ags J R:TR ahA J R (∃(I0:ae->Prop) (μ0:ae->Nat),I0 [.l (J 0).N (J 0).G,.l (J 1).N (J 1).G,.i 0,.i 0]/\∀l0,I0 l0-> BR (decide ((l0 3).Z<(((l0 0).N:Nat):Int))) (((l0 3).Z<(((l0 0).N:Nat):Int))/\((l0 3).Z<(((l0 1).N:Nat):Int))/\((l0 3).Z<(((l0 1).N:Nat):Int))/\((l0 3).Z<(((l0 0).N:Nat):Int))/\(((l0 3).Z+1)<=1048576)/\Ag I0 μ0 l0 [.l (l0 0).N (l0 0).G,.l (l0 1).N (l0 1).G,.i (max (max (l0 2).Z ((((l0 0).G (l0 3).Z.toNat) 0).Z-(((l0 1).G (l0 3).Z.toNat) 0).Z)) ((((l0 1).G (l0 3).Z.toNat) 0).Z-(((l0 0).G (l0 3).Z.toNat) 0).Z)),.i ((l0 3).Z+1)]) (R [.i 0,.i (l0 2).Z])):=af
theorem ajf:PF1 ahA ah6 ahX:=λJ b1 b2 hp=>⟨by
 rw[ags];obtain⟨⟨l1,l2,l3⟩,⟨m1,m2,m3⟩,-⟩:=b1;have l2:(J 0).N<=4096:=l2;have hp:(J 0).N<=(J 1).N:=hp;unfold ahX;generalize (J 0).N=n at *;generalize (J 0).G=f at *;generalize (J 1).N=m at *;generalize (J 1).G=g at *;refine Wj n (λi=>[.l n f,.l m g,.i (uY f g i),.i i]) (λl=>(l 3).Z) (λi _=>rfl) rfl λI μ hA i hi=>⟨λh=>?_,λh=>?_⟩
 .have h:(i:Int)<n:=of_decide_eq_true h
  have e:uY f g (i+1)=max (max (uY f g i) (((f i) 0).Z-((g i) 0).Z)) (((g i) 0).Z-((f i) 0).Z):=by show max (max (uY f g i) (cel f i-cel g i)) (-(cel f i-cel g i))=_;rw[Int.neg_sub]
  exact⟨h,by show(i:Int)<m;omega,by show(i:Int)<m;omega,h,by show(i:Int)+1<=1048576;omega,hA i _ ac (by rw[e];rfl)⟩
 .have h:=of_decide_eq_false h;have h:¬ (i:Int)<n:=h;have:i=n:=ac;subst this;exact⟨rfl,⟨rfl,ah⟩,ah⟩⟩
abbrev akP:CT:=C1 ahA ah6 ahX
theorem ajc:CO akP:=CX1 (TX trivial ah) ajf
def aj1 (J:ae):Prop:=cw J 22 22 k9=cw J 0 22 k9
def ajP (_:ae):ae:=[.b true]
theorem af1 {n:Nat} {f:Nat->Int}:bu n f f=true:=by simp only[bu,List.all_eq_true,List.mem_range,beq_iff_eq];exact λ_ _=>trivial
abbrev ahC:SP:=mkS ⟨[.sO (.nB false true false)],[]⟩ 63 Tryz.f63 [.tX (.sA qL5),.tX (.sA qL5)] [] [] [akQ]
theorem agF J R:TR ahC J R ((((J 0).Z !=(J 22).Z)->False)/\(((J 0).Z !=(J 22).Z)=false->(((J 21).Z !=(J 43).Z)->False)/\(((J 21).Z !=(J 43).Z)=false->(((J 0).Z==1)->((((J 1).Z==(J 23).Z)&&(((J 2).Z==(J 24).Z)&&(((J 3).Z==(J 25).Z)&&(((J 4).Z==(J 26).Z)&&(((J 5).X==(J 27).X)&&(((J 6).Z==(J 28).Z)&&(((J 7).Z==(J 29).Z)&&((bu 64 (J 8).F (J 30).F)&&(bu 64 (J 9).F (J 31).F)))))))))=true)/\R [.i 0,.b (((J 1).Z==(J 23).Z)&&(((J 2).Z==(J 24).Z)&&(((J 3).Z==(J 25).Z)&&(((J 4).Z==(J 26).Z)&&(((J 5).X==(J 27).X)&&(((J 6).Z==(J 28).Z)&&(((J 7).Z==(J 29).Z)&&((bu 64 (J 8).F (J 30).F)&&(bu 64 (J 9).F (J 31).F)))))))))])/\(((J 0).Z==1)=false->(((J 0).Z==2)->((((J 10).X==(J 32).X)&&(((J 11).X==(J 33).X)&&((J 12).Z==(J 34).Z)))=true)/\R [.i 0,.b (((J 10).X==(J 32).X)&&(((J 11).X==(J 33).X)&&((J 12).Z==(J 34).Z)))])/\(((J 0).Z==2)=false->(((J 0).Z==3)->let x0:ae:=(ak (cw J 13 8 9512009) (cw J 35 8 9512009));(air x0)/\let x1:ae:=ajJ x0;R [.i 0,.b (x1 0).X])/\(((J 0).Z==3)=false-> R [.i 0,.b true])))))):=af
theorem ai0:PF1 ahC aj1 ajP:=λJ b1 _ hp=>⟨by
 rw[agF];have hp:cw J 22 22 k9=cw J 0 22 k9:=hp;have e0:(J 22).Z=(J 0).Z:=cwZ hp 0;have e1:(J 23).Z=(J 1).Z:=cwZ hp 1;have e2:(J 24).Z=(J 2).Z:=cwZ hp 2;have e3:(J 25).Z=(J 3).Z:=cwZ hp 3;have e4:(J 26).Z=(J 4).Z:=cwZ hp 4;have e5:(J 27).X=(J 5).X:=cwX hp 5;have e6:(J 28).Z=(J 6).Z:=cwZ hp 6;have e7:(J 29).Z=(J 7).Z:=cwZ hp 7;have e8:(J 30).F=(J 8).F:=cwF hp 8;have e9:(J 31).F=(J 9).F:=cwF hp 9;have f0:(J 32).X=(J 10).X:=cwX hp 10;have f1:(J 33).X=(J 11).X:=cwX hp 11;have f2:(J 34).Z=(J 12).Z:=cwZ hp 12;have f3:(J 43).Z=(J 21).Z:=cwZ hp 21
 have hc:air [.i (J 13).Z,.i (J 14).Z,.i (J 15).Z,.b (J 16).X,.b (J 17).X,.b (J 18).X,.l (J 19).N (J 19).G,.l (J 20).N (J 20).G,.i (J 35).Z,.i (J 36).Z,.i (J 37).Z,.b (J 38).X,.b (J 39).X,.b (J 40).X,.l (J 41).N (J 41).G,.l (J 42).N (J 42).G]:=by have a0:(J 35).Z=(J 13).Z:=cwZ hp 13;have a1:(J 36).Z=(J 14).Z:=cwZ hp 14;have a2:(J 37).Z=(J 15).Z:=cwZ hp 15;have a3:(J 38).X=(J 16).X:=cwX hp 16;have a4:(J 39).X=(J 17).X:=cwX hp 17;have a5:(J 40).X=(J 18).X:=cwX hp 18;have a6:(J 41).N=(J 19).N/\(J 41).G=(J 19).G:=cwN hp 19;have a7:(J 42).N=(J 20).N/\(J 42).G=(J 20).G:=cwN hp 20;rw[a0,a1,a2,a3,a4,a5,a6.1,a6.2,a7.1,a7.2];exact kmp (rfl:cw J 13 8 9512009=cw J 13 8 9512009)
 rw[e0,e1,e2,e3,e4,e5,e6,e7,e8,e9,f0,f1,f2,f3];refine⟨λh=>by simp at h,λ_=>⟨λh=>by simp at h,λ_=>⟨λ_=>?_,λ_=>⟨λ_=>?_,λ_=>⟨λ_=>⟨hc,afl rfl⟩,λ_=>afl rfl⟩⟩⟩⟩⟩
 .simp only[beq_self_eq_true,af1,Bool.and_true];exact⟨ah,afl rfl⟩
 .simp only[beq_self_eq_true,Bool.and_true];exact⟨ah,afl rfl⟩⟩
abbrev akJ:CT:=C1 ahC aj1 ajP
theorem ajk:CO akJ:=CX1 (TX ⟨ai8,ah⟩ ah) ai0
def ajt (J:ae):Prop:=(J 1).N=(J 0).N/\(J 1).G=(J 0).G
def aj4 (_:ae):ae:=[.b true]
abbrev ahv:SP:=mkS ⟨[.sO (.nB false true false)],[]⟩ 26 Tryz.f26 [tXO (.nR 7 0 40 0 g0),tXO (.nR 7 0 40 0 g0)] [] [(4,.head ⟨[(0,tXO (.nR 7 0 40 0 g0)),(1,tXO (.nR 7 0 40 0 g0)),(5,aj 0 1048576)],[],[]⟩)] [akJ]
theorem agu J R:TR ahv J R ((((((J 0).N:Nat):Int)!=(((J 1).N:Nat):Int))->False)/\(((((J 0).N:Nat):Int)!=(((J 1).N:Nat):Int))=false->∃(I0:ae->Prop) (μ0:ae->Nat),I0 [.l (J 0).N (J 0).G,.l (J 1).N (J 1).G,.i 0]/\∀l0,I0 l0->((decide ((l0 2).Z<(((l0 0).N:Nat):Int)))->((l0 2).Z<(((l0 0).N:Nat):Int))/\((l0 2).Z<(((l0 1).N:Nat):Int))/\let x0:ae:=(ak (cw ((l0 0).G (l0 2).Z.toNat) 0 22 k9) (cw ((l0 1).G (l0 2).Z.toNat) 0 22 k9));(aj1 x0)/\let x1:ae:=ajP x0;(((l0 2).Z+1)<=1048576)/\Ag I0 μ0 l0 [.l (l0 0).N (l0 0).G,.l (l0 1).N (l0 1).G,.i ((l0 2).Z+1)])/\((decide ((l0 2).Z<(((l0 0).N:Nat):Int)))=false-> R [.i 0,.b true]))):=af
theorem ain:PF1 ahv ajt aj4:=λJ b1 _ hp=>⟨by
 rw[agu];obtain⟨⟨-,l2,-⟩,-⟩:=b1;have l2:(J 0).N<=40:=l2;obtain⟨e1,e2⟩:=hp;rw[e1,e2];generalize (J 0).N=n at *;generalize (J 0).G=f at *;refine⟨λh=>by simp at h,λ_=>Wj n (λi=>[.l n f,.l n f,.i i]) (λl=>(l 2).Z) (λi _=>rfl) rfl λI μ hA i hi=>⟨λh=>?_,λh=>?_⟩⟩
 .have h:(i:Int)<n:=of_decide_eq_true h;exact⟨h,h,kmp (rfl:cw (f i) 0 22 k9=cw (f i) 0 22 k9),by show(i:Int)+1<=1048576;omega,hA i _ ac rfl⟩
 .exact afl rfl⟩
abbrev akF:CT:=C1 ahv ajt aj4
theorem ahd:CO akF:=CX1 (TX ⟨ajk,ah⟩ ah) ain
def aje (J:ae):Prop:=fmB (J 0).Z (J 1).Z (J 2).N (J 3).N (J 4).N=true/\(J 5).Z=(J 0).Z/\(J 6).Z=(J 1).Z/\(J 7).N=(J 2).N/\(J 8).N=(J 3).N/\(J 9).N=(J 4).N
def ajC (J:ae):ae:=[.i (max (max (uY (J 2).G (J 7).G (J 2).N) (uY (J 3).G (J 8).G (J 3).N)) (uY (J 4).G (J 9).G (J 4).N))]
abbrev ahw:SP:=mkS ⟨[aD 0 255],[]⟩ 16 Tryz.f16 [.tX (.sA sFF),.tX (.sA sFF)] [] [] [aeh,akP]
theorem agr J R:TR ahw J R (let x0:ae:=[.i (J 0).Z,.i (J 1).Z,.l (J 2).N (J 2).G,.l (J 3).N (J 3).G,.l (J 4).N (J 4).G];let x1:ae:=Yd x0;((!(x1 0).X)->False)/\((!(x1 0).X)=false->let x2:ae:=[.i (J 5).Z,.i (J 6).Z,.l (J 7).N (J 7).G,.l (J 8).N (J 8).G,.l (J 9).N (J 9).G];let x3:ae:=Yd x2;((!(x3 0).X)->False)/\((!(x3 0).X)=false->(((J 0).Z !=(J 5).Z)->False)/\(((J 0).Z !=(J 5).Z)=false->(((J 1).Z !=(J 6).Z)->False)/\(((J 1).Z !=(J 6).Z)=false-> let x4:ae:=[.l (J 2).N (J 2).G,.l (J 7).N (J 7).G];(ah6 x4)/\let x5:ae:=ahX x4;let x6:ae:=[.l (J 3).N (J 3).G,.l (J 8).N (J 8).G];(ah6 x6)/\let x7:ae:=ahX x6;let x8:ae:=[.l (J 4).N (J 4).G,.l (J 9).N (J 9).G];(ah6 x8)/\let x9:ae:=ahX x8;R [.i 0,.i (max (max (x5 0).Z (x7 0).Z) (x9 0).Z)]))))):=af
theorem aiF:PF1 ahw aje ajC:=λJ b1 _ hp=>⟨by
 rw[agr];obtain⟨h0,e0,e1,e2,e3,e4⟩:=hp;have r0:((Yd [.i (J 0).Z,.i (J 1).Z,.l (J 2).N (J 2).G,.l (J 3).N (J 3).G,.l (J 4).N (J 4).G]) 0).X=true:=kmp h0
 have r1:((Yd [.i (J 5).Z,.i (J 6).Z,.l (J 7).N (J 7).G,.l (J 8).N (J 8).G,.l (J 9).N (J 9).G]) 0).X=true:=by rw[e0,e1,e2,e3,e4];exact kmp h0
 refine⟨λh=>?_,λ_=>⟨λh=>?_,λ_=>⟨λh=>?_,λ_=>⟨λh=>?_,λ_=>⟨?_,?_,?_,rfl,⟨rfl,ah⟩,ah⟩⟩⟩⟩⟩
 .rw[r0]at h;cases h
 .rw[r1]at h;cases h
 .rw[e0]at h;simp at h
 .rw[e1]at h;simp at h
 .exact Nat.le_of_eq e2.symm
 .exact Nat.le_of_eq e3.symm
 .exact Nat.le_of_eq e4.symm⟩
abbrev akd:CT:=C1 ahw aje ajC
theorem agK:CO akd:=CX1 (TX ⟨TF,ajc,ah⟩ ah) aiF
theorem adW {B:Int} (hB:0<=B) {f g:Nat->ae}:∀ {n},(∀i,i<n->-B<=cel f i-cel g i/\cel f i-cel g i<=B)->0<=uY f g n/\uY f g n<=B
 |0,_=>⟨Int.le_refl _,hB⟩
 |n+1,h=>by have k:=adW hB (f:=f) (g:=g) (n:=n) λi hi=>h i ac;have q:=h n ac;show 0<=max (max (uY f g n) (cel f n-cel g n)) (-(cel f n-cel g n))/\max (max (uY f g n) (cel f n-cel g n)) (-(cel f n-cel g n))<=B;omega
end
end Go.Proofs.YtldmjbgplgoedaaGreatDoor
namespace Go.Proofs.YtldmjbgplgoedaaGreatDoor
noncomputable section
open Go.RowKit U
def afJ (J:ae):ae:=[.i (mtF ((J 0).Z.toNat*8+(J 1).Z.toNat))]
abbrev ahD:SP:=mkS ⟨[aD (-12) 12],[]⟩ 122 Tryz.f122 [aj 0 7,aj 0 7] [] []
theorem agv J R:TR ahD J R (R [.i 0,.i ((zAt [.c (.nI .i64 8 8 8),.c (.nI .i64 8 8 8),.c (.nI .i64 8 8 8),.c (.nI .i64 8 8 8),.c (.nI .i64 8 8 8),.c (.nI .i64 8 8 8),.c (.nI .i64 8 8 8),.c (.nI .i64 8 8 8),.c (.nI .i64 12 12 12),.c (.nI .i64 10 10 10),.c (.nI .i64 6 6 6),.c (.nI .i64 3 3 3),.c (.nI .i64 (-3) (-3) (-3)),.c (.nI .i64 (-6) (-6) (-6)),.c (.nI .i64 (-10) (-10) (-10)),.c (.nI .i64 (-12) (-12) (-12)),.c (.nI .i64 8 8 8),.c (.nI .i64 4 4 4),.c (.nI .i64 (-4) (-4) (-4)),.c (.nI .i64 (-8) (-8) (-8)),.c (.nI .i64 (-8) (-8) (-8)),.c (.nI .i64 (-4) (-4) (-4)),.c (.nI .i64 4 4 4),.c (.nI .i64 8 8 8),.c (.nI .i64 10 10 10),.c (.nI .i64 (-3) (-3) (-3)),.c (.nI .i64 (-12) (-12) (-12)),.c (.nI .i64 (-6) (-6) (-6)),.c (.nI .i64 6 6 6),.c (.nI .i64 12 12 12),.c (.nI .i64 3 3 3),.c (.nI .i64 (-10) (-10) (-10)),.c (.nI .i64 8 8 8),.c (.nI .i64 (-8) (-8) (-8)),.c (.nI .i64 (-8) (-8) (-8)),.c (.nI .i64 8 8 8),.c (.nI .i64 8 8 8),.c (.nI .i64 (-8) (-8) (-8)),.c (.nI .i64 (-8) (-8) (-8)),.c (.nI .i64 8 8 8),.c (.nI .i64 6 6 6),.c (.nI .i64 (-12) (-12) (-12)),.c (.nI .i64 3 3 3),.c (.nI .i64 10 10 10),.c (.nI .i64 (-10) (-10) (-10)),.c (.nI .i64 (-3) (-3) (-3)),.c (.nI .i64 12 12 12),.c (.nI .i64 (-6) (-6) (-6)),.c (.nI .i64 4 4 4),.c (.nI .i64 (-8) (-8) (-8)),.c (.nI .i64 8 8 8),.c (.nI .i64 (-4) (-4) (-4)),.c (.nI .i64 (-4) (-4) (-4)),.c (.nI .i64 8 8 8),.c (.nI .i64 (-8) (-8) (-8)),.c (.nI .i64 4 4 4),.c (.nI .i64 3 3 3),.c (.nI .i64 (-6) (-6) (-6)),.c (.nI .i64 10 10 10),.c (.nI .i64 (-12) (-12) (-12)),.c (.nI .i64 12 12 12),.c (.nI .i64 (-10) (-10) (-10)),.c (.nI .i64 6 6 6),.c (.nI .i64 (-3) (-3) (-3))]) (0+(((J 0).Z.toNat*8)+((J 1).Z.toNat*1))))]):=af
theorem aim:PF0 ahD afJ:=λJ b1 _=>⟨by
 rw[agv];obtain⟨c0,c1,-⟩:=b1;have c0a:0<=(J 0).Z:=c0.1;have c0b:(J 0).Z<=7:=c0.2;have c1a:0<=(J 1).Z:=c1.1;have c1b:(J 1).Z<=7:=c1.2;refine⟨rfl,⟨?_,ah⟩,ah⟩;show zAt _ (0+(_*8+_*1))=mtF (_*8+_);rw[Nat.zero_add,Nat.mul_one];have hn:(J 0).Z.toNat*8+(J 1).Z.toNat<64:=ac;generalize (J 0).Z.toNat*8+(J 1).Z.toNat=n at hn ⊢
 revert n
 decide +kernel⟩
abbrev akB:CT:=C0 ahD afJ
theorem ahh:CO akB:=CX0 (TX trivial ah) aim
def aiJ (J:ae):ae:=[.i (abZ (J 0).Z)]
abbrev ahE:SP:=mkS ⟨[aD 0 12],[]⟩ 121 Tryz.f121 [aj (-12) 12] [] []
theorem ago J R:TR ahE J R (BR (decide ((J 0).Z<0)) ((0<=(-(J 0).Z))/\R [.i 0,.i (-(J 0).Z)]) ((0<=(J 0).Z)/\R [.i 0,.i (J 0).Z])):=af
theorem ai7:PF0 ahE aiJ:=λJ _ _=>⟨by
 rw[ago];refine⟨λh=>?_,λh=>?_⟩
 .have h:=ai h;exact⟨ac,rfl,⟨by show -(J 0).Z=abZ (J 0).Z;unfold abZ;omega,ah⟩,ah⟩
 .have h:=aQ h;exact⟨ac,rfl,⟨by show(J 0).Z=abZ (J 0).Z;unfold abZ;omega,ah⟩,ah⟩⟩
abbrev akL:CT:=C0 ahE aiJ
theorem aiW:CO akL:=CX0 (TX trivial ah) ai7
def ahx (J:ae):ae:=[.i (nmF (J 0).Z.toNat)]
theorem ake:∀i,i<8->(oG λk=>mtF (i*8+k)*mtF (i*8+k))=nmF i/\1<=nmF i/\nmF i<=1000:=by decide +kernel
abbrev ahq:SP:=mkS ⟨[aD 1 1000],[]⟩ 123 Tryz.f123 [aj 0 7] [] [(3,.unroll 70)] [akB]
theorem agA J R:TR ahq J R (let x0:ae:=[.i (J 0).Z,.i 0];let x1:ae:=afJ x0;let x0:ae:=[.i (J 0).Z,.i 0];let x1:ae:=afJ x0;let x2:ae:=[.i (J 0).Z,.i 1];let x3:ae:=afJ x2;let x2:ae:=[.i (J 0).Z,.i 1];let x3:ae:=afJ x2;let x4:ae:=[.i (J 0).Z,.i 2];let x5:ae:=afJ x4;let x4:ae:=[.i (J 0).Z,.i 2];let x5:ae:=afJ x4;let x6:ae:=[.i (J 0).Z,.i 3];let x7:ae:=afJ x6;let x6:ae:=[.i (J 0).Z,.i 3];let x7:ae:=afJ x6;let x8:ae:=[.i (J 0).Z,.i 4];let x9:ae:=afJ x8;let x8:ae:=[.i (J 0).Z,.i 4];let x9:ae:=afJ x8;let x10:ae:=[.i (J 0).Z,.i 5];let x11:ae:=afJ x10;let x10:ae:=[.i (J 0).Z,.i 5];let x11:ae:=afJ x10;let x12:ae:=[.i (J 0).Z,.i 6];let x13:ae:=afJ x12;let x12:ae:=[.i (J 0).Z,.i 6];let x13:ae:=afJ x12;let x14:ae:=[.i (J 0).Z,.i 7];let x15:ae:=afJ x14;let x14:ae:=[.i (J 0).Z,.i 7];let x15:ae:=afJ x14;(1<=((((((((0+((x1 0).Z*(x1 0).Z))+((x3 0).Z*(x3 0).Z))+((x5 0).Z*(x5 0).Z))+((x7 0).Z*(x7 0).Z))+((x9 0).Z*(x9 0).Z))+((x11 0).Z*(x11 0).Z))+((x13 0).Z*(x13 0).Z))+((x15 0).Z*(x15 0).Z)))/\(((((((((0+((x1 0).Z*(x1 0).Z))+((x3 0).Z*(x3 0).Z))+((x5 0).Z*(x5 0).Z))+((x7 0).Z*(x7 0).Z))+((x9 0).Z*(x9 0).Z))+((x11 0).Z*(x11 0).Z))+((x13 0).Z*(x13 0).Z))+((x15 0).Z*(x15 0).Z))<=1000)/\R [.i 0,.i ((((((((0+((x1 0).Z*(x1 0).Z))+((x3 0).Z*(x3 0).Z))+((x5 0).Z*(x5 0).Z))+((x7 0).Z*(x7 0).Z))+((x9 0).Z*(x9 0).Z))+((x11 0).Z*(x11 0).Z))+((x13 0).Z*(x13 0).Z))+((x15 0).Z*(x15 0).Z))]):=af
theorem ai4:PF0 ahq ahx:=λJ b1 _=>⟨by rw[agA];obtain⟨c0,-⟩:=b1;have c0a:0<=(J 0).Z:=c0.1;have c0b:(J 0).Z<=7:=c0.2;obtain⟨e1,e2,e3⟩:=ake (J 0).Z.toNat ac;have e2':=e2;have e3':=e3;rw[<-e1]at e2' e3';exact⟨kmp e2',kmp e3',rfl,⟨kmp e1,ah⟩,ah⟩⟩
abbrev aku:CT:=C0 ahq ahx
theorem ag4:CO aku:=CX0 (TX ⟨ahh,ah⟩ ah) ai4
def gnP (p:Int):Int:=if p=262144 then 32 else if p=295936 then 34 else if p=163840 then 25 else if p=334084 then 36 else if p=184960 then 27 else 20
theorem akb:∀n,n<64->(nmF (n / 8)*nmF (n % 8)=262144\/nmF (n / 8)*nmF (n % 8)=295936\/nmF (n / 8)*nmF (n % 8)=163840\/nmF (n / 8)*nmF (n % 8)=334084\/nmF (n / 8)*nmF (n % 8)=184960\/nmF (n / 8)*nmF (n % 8)=102400)/\gnF n=gnP (nmF (n / 8)*nmF (n % 8)):=by decide +kernel
theorem ahk {w p:Int} {R:ae->Prop} (hp:p=262144\/p=295936\/p=163840\/p=334084\/p=184960\/p=102400) (h:R [.i 0,.i (w*gnP p)]):((p==262144)->R [.i 0,.i (w*32)])/\((p==262144)=false->((p==295936)->R [.i 0,.i (w*34)])/\((p==295936)=false->((p==163840)->R [.i 0,.i (w*25)])/\((p==163840)=false->((p==334084)->R [.i 0,.i (w*36)])/\((p==334084)=false->((p==184960)->R [.i 0,.i (w*27)])/\((p==184960)=false->((p==102400)->R [.i 0,.i (w*20)])/\((p==102400)=false->False)))))):=by rcases hp with e | e | e | e | e | e<;>subst e<;>simpa[gnP]using h
def ajQ (J:ae):Prop:=0<=(J 2).Z/\(J 2).Z<=63
def aiY (J:ae):ae:=[.i (stF (J 0).Z (J 1).Z (J 2).Z.toNat)]
abbrev ahn:SP:=mkS ⟨[aD 160 284580],[]⟩ 124 Tryz.f124 [aj 8 255,aj 1 31,aj 0 63] [] [] [aku]
theorem agI J R:TR ahn J R (let x0:ae:=[.i (Int.tdiv (J 2).Z 8)];let x1:ae:=ahx x0;let x2:ae:=[.i (Int.tmod (J 2).Z 8)];let x3:ae:=ahx x2;BR (((x1 0).Z*(x3 0).Z)==262144) (R [.i 0,.i (((J 0).Z*(J 1).Z)*32)]) (BR (((x1 0).Z*(x3 0).Z)==295936) (R [.i 0,.i (((J 0).Z*(J 1).Z)*34)]) (BR (((x1 0).Z*(x3 0).Z)==163840) (R [.i 0,.i (((J 0).Z*(J 1).Z)*25)]) (BR (((x1 0).Z*(x3 0).Z)==334084) (R [.i 0,.i (((J 0).Z*(J 1).Z)*36)]) (BR (((x1 0).Z*(x3 0).Z)==184960) (R [.i 0,.i (((J 0).Z*(J 1).Z)*27)]) (BR (((x1 0).Z*(x3 0).Z)==102400) (R [.i 0,.i (((J 0).Z*(J 1).Z)*20)]) (False))))))):=af
theorem aiP:PF1 ahn ajQ aiY:=λJ _ _ hp=>⟨by rw[agI];obtain⟨p1,p2⟩:=hp;have e:aiY J=[.i (stF (J 0).Z (J 1).Z (J 2).Z.toNat)]:=rfl;rw[e];obtain⟨n,hn⟩:∃n:Nat,(J 2).Z=n:=⟨(J 2).Z.toNat,ac⟩;rw[hn];obtain⟨q1,q2⟩:=akb n ac;refine kmp (ahk (w:=(J 0).Z*(J 1).Z) (R:=λl=>(hd l).Z=0/\agW KX ahn.Y (tl l) [.i (stF (J 0).Z (J 1).Z n)]) q1 ⟨rfl,⟨?_,ah⟩,ah⟩);show(J 0).Z*(J 1).Z*gnP _=(J 0).Z*(J 1).Z*gnF n;rw[q2]⟩
abbrev akN:CT:=C1 ahn ajQ aiY
theorem aiV:CO akN:=CX1 (TX ⟨ag4,ah⟩ ah) aiP
def bsT (m:Nat->Int) (q:Int) (k l n:Nat):Int:=((abZ (mtF (n / 8*8+k))*Int.tdiv 739840 (nmF (n / 8)))*(abZ (mtF (n % 8*8+l))*Int.tdiv 739840 (nmF (n % 8))))*stF (m (0+n*1)) q n
def smZ (f:Nat->Int):Nat->Int
 |0=>0
 |n+1=>smZ f n+f n
def bsP (m:Nat->Int) (q:Int) (k l:Nat):Nat->Int:=smZ (bsT m q k l)
def mxP (m:Nat->Int) (q:Int):Nat->Int
 |0=>0
 |j+1=>max (mxP m q j) (bsP m q (j / 8) (j % 8) 64)
theorem afV {f:Nat->Int} {n:Nat}:smZ f (n+8)=smZ f n+oG λb=>f (n+b):=by show smZ f n+f n+f (n+1)+f (n+2)+f (n+3)+f (n+4)+f (n+5)+f (n+6)+f (n+7)=_;simp only[oG,Nat.add_zero];omega
theorem ait {f:Nat->Int}:smZ f 64=oG λa=>oG λb=>f (8*a+b):=by have h0:smZ f 8=_:=afV (n:=0);have h1:smZ f 16=_:=afV (n:=8);have h2:smZ f 24=_:=afV (n:=16);have h3:smZ f 32=_:=afV (n:=24);have h4:smZ f 40=_:=afV (n:=32);have h5:smZ f 48=_:=afV (n:=40);have h6:smZ f 56=_:=afV (n:=48);have h7:smZ f 64=_:=afV (n:=56);rw[h7,h6,h5,h4,h3,h2,h1,h0];rfl
theorem ajl:∀k,k<8->∀a,a<8->abZ (mtF (a*8+k))*Int.tdiv 739840 (nmF a)=abZ (mmF (k+8*a)):=by decide +kernel
theorem ajd {m:Nat->Int} {q:Int} {i:Nat} (hi:i<64):bsP m q (i / 8) (i % 8) 64=bdS m q i:=by unfold bsP;rw[ait];unfold bdS;refine gm λa ha=>?_;rw[<-IC];refine gm λb hb=>?_;unfold bsT;rw[(pV (k:=a) hb).1,(pV (k:=a) hb).2,ajl _ ac a ha,ajl _ ac b hb,Int.mul_assoc,Nat.mul_one,Nat.zero_add]
theorem ahg {m:Nat->Int} {q:Int}:∀ {n j},j<n->bsP m q (j / 8) (j % 8) 64<=mxP m q n
 |n+1,j,h=>by
  show _<=max (mxP m q n) (bsP m q (n / 8) (n % 8) 64)
  by_cases e:j=n
  .subst e;omega
  .have:=ahg (m:=m) (q:=q) (n:=n) (j:=j) ac;omega
theorem ajn:∀k,k<8->∀a,a<8->0<=abZ (mtF (a*8+k))*Int.tdiv 739840 (nmF a)/\abZ (mtF (a*8+k))*Int.tdiv 739840 (nmF a)<=18496:=by decide +kernel
theorem ahb {m:Nat->Int} {q:Int} (hm:∀i,i<64->8<=m i/\m i<=255) (h1:1<=q) (h2:q<=31) {k l n:Nat} (hk:k<8) (hl:l<8) (hn:n<64):0<=bsT m q k l n/\bsT m q k l n<=97356254361600:=by have a:=ajn k hk (n / 8) ac;have b:=ajn l hl (n % 8) ac;have c:=IU (hm n hn).1 (hm n hn).2 h1 h2 hn;have ab:=Int.mul_le_mul a.2 b.2 b.1 afH;have ab0:=Int.mul_nonneg a.1 b.1;have abc:=Int.mul_le_mul ab c.2 ac afH;unfold bsT;rw[Nat.mul_one,Nat.zero_add];exact⟨Int.mul_nonneg ab0 ac,Int.le_trans abc afH⟩
theorem agj {m:Nat->Int} {q:Int} (hm:∀i,i<64->8<=m i/\m i<=255) (h1:1<=q) (h2:q<=31) {k l:Nat} (hk:k<8) (hl:l<8):∀ {n},n<=64->0<=bsP m q k l n/\bsP m q k l n<=97356254361600*n
 |0,_=>⟨Int.le_refl _,Int.le_refl _⟩
 |n+1,h=>by have a:=agj hm h1 h2 hk hl (n:=n) ac;have b:=ahb hm h1 h2 hk hl (n:=n) ac;show 0<=bsP m q k l n+bsT m q k l n/\bsP m q k l n+bsT m q k l n<=_;omega
theorem ahi {m:Nat->Int} {q:Int} (hm:∀i,i<64->8<=m i/\m i<=255) (h1:1<=q) (h2:q<=31):∀ {n},n<=64->0<=mxP m q n/\mxP m q n<=6230800279142400
 |0,_=>by
  show(0:Int)<=0/\(0:Int)<=_
  decide
 |n+1,h=>by have a:=ahi hm h1 h2 (n:=n) ac;have b:=agj hm h1 h2 (k:=n / 8) (l:=n % 8) ac ac (Nat.le_refl 64);show 0<=max (mxP m q n) (bsP m q (n / 8) (n % 8) 64)/\max (mxP m q n) (bsP m q (n / 8) (n % 8) 64)<=_;omega
def bnZ (m:Nat->Int) (q:Int):Int:=(mxP m q 64+547363225600) / 1094726451200
theorem ag1 {m:Nat->Int} {q:Int} {i:Nat} (hi:i<64):bdF m q i<=bnZ m q:=by have h:=ahg (m:=m) (q:=q) hi;rw[ajd hi]at h;exact Int.ediv_le_ediv afH ac
def aiw (J:ae):Prop:=vmP (J 0).F
def aij (J:ae):ae:=[.i (bnZ (J 0).F (J 1).Z)]
abbrev aho:SP:=mkS ⟨[aD 0 1048576],[]⟩ 55 Tryz.f55 [.tX (.sA [r4]),aj 1 31] [] [(5,.head ⟨[(1,aj 1 31),(2,tXO (.nP 0 0)),(5,aj 0 9223372036854775807),(6,aj 0 1048576)],[.run 24 [r4]],[]⟩),(8,.head ⟨[(1,aj 1 31),(2,tXO (.nP 0 0)),(5,aj 0 9223372036854775807),(6,aj 0 1048576),(7,aj 0 1048576)],[.run 24 [r4]],[]⟩),(12,.head ⟨[(1,aj 1 31),(2,tXO (.nP 0 0)),(5,aj 0 9223372036854775807),(6,aj 0 1048576),(7,aj 0 1048576),(8,gp),(9,aj 0 1048576)],[.run 24 [r4]],[]⟩)] [adg,akB,akL,aku,akN] [(aw 120 Tryz.f120)]
theorem agn J R:TR aho J R (let x0:ae:=[.f (J 0).F];let x1:ae:=Qk x0;BR ((x1 0).X) (∃(I0:ae->Prop) (μ0:ae->Nat),I0 [.i (J 1).Z,.i 0,.i 0,.f (J 0).F]/\∀l0,I0 l0-> BR (decide ((l0 2).Z<8)) (∃(I1:ae->Prop) (μ1:ae->Nat),I1 (ak (cw l0 0 3 73) [.i 0,.f (l0 3).F])/\∀l1,I1 l1-> BR (decide ((l1 3).Z<8)) (∃(I2:ae->Prop) (μ2:ae->Nat),I2 (ak (cw l1 0 4 585) [.i 0,.i 0,.f (l1 4).F])/\∀l2,I2 l2-> BR (decide ((l2 5).Z<64)) (((Int.tdiv (l2 5).Z 8)<=7)/\((l2 2).Z<=7)/\let x2:ae:=[.i (Int.tdiv (l2 5).Z 8),.i (l2 2).Z];let x3:ae:=afJ x2;let x4:ae:=[.i (x3 0).Z];let x5:ae:=aiJ x4;((Int.tdiv (l2 5).Z 8)<=7)/\let x6:ae:=[.i (Int.tdiv (l2 5).Z 8)];let x7:ae:=ahx x6;((l2 3).Z<=7)/\let x8:ae:=[.i (Int.tmod (l2 5).Z 8),.i (l2 3).Z];let x9:ae:=afJ x8;let x10:ae:=[.i (x9 0).Z];let x11:ae:=aiJ x10;let x12:ae:=[.i (Int.tmod (l2 5).Z 8)];let x13:ae:=ahx x12;(0<=(l2 5).Z)/\((l2 5).Z<64)/\(8<=((l2 6).F (0+((l2 5).Z.toNat*1))))/\((l2 5).Z<=63)/\let x14:ae:=[.i ((l2 6).F (0+((l2 5).Z.toNat*1))),.i (l2 0).Z,.i (l2 5).Z];(ajQ x14)/\let x15:ae:=aiY x14;(((l2 5).Z+1)<=1048576)/\Ag I2 μ2 l2 (ak (cw l2 0 4 585) [.i (IntKind.wrap .i64 ((l2 4).Z+(IntKind.wrap .i64 ((((x5 0).Z*(Int.tdiv 739840 (x7 0).Z))*((x11 0).Z*(Int.tdiv 739840 (x13 0).Z)))*(x15 0).Z)))),.i ((l2 5).Z+1),.f (l2 6).F])) ((((l2 3).Z+1)<=1048576)/\Ag I1 μ1 l1 [.i (l2 0).Z,.i (max (l2 1).Z (l2 4).Z),.i (l2 2).Z,.i ((l2 3).Z+1),.f (l2 6).F])) ((((l1 2).Z+1)<=1048576)/\Ag I0 μ0 l0 [.i (l1 0).Z,.i (l1 1).Z,.i ((l1 2).Z+1),.f (l1 4).F])) ((0<=(Int.tdiv (IntKind.wrap .i64 ((l0 1).Z+547363225600)) 1094726451200))/\((Int.tdiv (IntKind.wrap .i64 ((l0 1).Z+547363225600)) 1094726451200)<=1048576)/\R [.i 0,.i (Int.tdiv (IntKind.wrap .i64 ((l0 1).Z+547363225600)) 1094726451200)])) (R [.i 0,.i 0])):=af
theorem aio:PF1 aho aiw aij:=λJ b1 _ hp=>⟨by
 rw[agn];obtain⟨⟨cm,-⟩,c,-⟩:=b1;have ca:1<=(J 1).Z:=c.1;have cb:(J 1).Z<=31:=c.2;have cm:∀i,i<64->0<=(J 0).F i/\(J 0).F i<=255:=cm;have hm:∀i,i<64->8<=(J 0).F i/\(J 0).F i<=255:=λi hi=>⟨hp i hi,(cm i hi).2⟩;have hv:((Qk [.f (J 0).F]) 0).X=true:=decide_eq_true hp;have e:aij J=[.i (bnZ (J 0).F (J 1).Z)]:=rfl;rw[e];have q1:1<=(J 1).Z:=ac;have q2:(J 1).Z<=31:=ac;generalize (J 0).F=m at *;generalize (J 1).Z=q at *;refine⟨λ_=>?_,λh=>by rw[hv]at h;cases h⟩
 refine Wj 8 (λk=>[.i q,.i (mxP m q (8*k)),.i k,.f m]) (λl=>(l 2).Z) (λk _=>rfl) rfl λI0 μ0 hA0 k hk=>⟨λh=>?_,λh=>?_⟩
 .have h:(k:Int)<8:=of_decide_eq_true h;refine Wj 8 (λl=>[.i q,.i (mxP m q (8*k+l)),.i k,.i l,.f m]) (λl=>(l 3).Z) (λk _=>rfl) rfl λI1 μ1 hA1 l hl=>⟨λh1=>?_,λh1=>?_⟩
  .have h1:(l:Int)<8:=of_decide_eq_true h1;refine Wj 64 (λn=>[.i q,.i (mxP m q (8*k+l)),.i k,.i l,.i (bsP m q k l n),.i n,.f m]) (λl=>(l 5).Z) (λk _=>rfl) rfl λI2 μ2 hA2 n hn=>⟨λh2=>?_,λh2=>?_⟩
   .have h2:(n:Int)<64:=of_decide_eq_true h2;have k1:(k:Int)<=7:=ac;have l1:(l:Int)<=7:=ac
    have n1:Int.tdiv (n:Int) 8<=7:=by show((n / 8:Nat):Int)<=7;omega
    have n0:0<=(n:Int):=ac;have n2:(n:Int)<=63:=ac;have n3:(n:Int)+1<=1048576:=ac
    have m8:8<=m (0+((n:Int).toNat*1)):=by rw[Int.toNat_natCast,Nat.mul_one,Nat.zero_add];exact(hm n ac).1
    have a:=agj hm q1 q2 (k:=k) (l:=l) ac ac (n:=n) ac;have b:=ahb hm q1 q2 (k:=k) (l:=l) (n:=n) ac ac ac;refine⟨n1,k1,n1,l1,n0,h2,m8,n2,⟨n0,n2⟩,n3,hA2 n _ ac ?_⟩
    have w:IntKind.wrap .i64 (bsP m q k l n+IntKind.wrap .i64 (bsT m q k l n))=bsP m q k l (n+1):=by rw[aX (x:=bsT m q k l n) ac ac,aX ac ac];rfl
    have w2:[Lf.i q,.i (mxP m q (8*k+l)),.i k,.i l,.i (IntKind.wrap .i64 (bsP m q k l n+IntKind.wrap .i64 (bsT m q k l n))),.i ((n:Int)+1),.f m]=[.i q,.i (mxP m q (8*k+l)),.i k,.i l,.i (bsP m q k l (n+1)),.i ((n+1:Nat):Int),.f m]:=by rw[w];rfl
    exact kmp w2
   .have h2:¬ (n:Int)<64:=of_decide_eq_false h2;have:n=64:=ac;subst this;have l3:(l:Int)+1<=1048576:=ac;refine⟨l3,hA1 l _ ac ?_⟩
    have e:mxP m q (8*k+(l+1))=max (mxP m q (8*k+l)) (bsP m q k l 64):=by show max (mxP m q (8*k+l)) (bsP m q ((8*k+l) / 8) ((8*k+l) % 8) 64)=_;rw[(pV (k:=k) (j:=l) ac).1,(pV (k:=k) (j:=l) ac).2]
    show _=[Lf.i q,.i (mxP m q (8*k+(l+1))),.i k,.i ((l+1:Nat):Int),.f m];rw[e];rfl
  .have h1:¬ (l:Int)<8:=of_decide_eq_false h1;have:l=8:=ac;subst this;have k3:(k:Int)+1<=1048576:=ac;exact⟨k3,hA0 k _ ac rfl⟩
 .have h:¬ (k:Int)<8:=of_decide_eq_false h;have:k=8:=ac;subst this;have a:=ahi hm q1 q2 (n:=64) ac;have w:IntKind.wrap .i64 (mxP m q 64+547363225600)=mxP m q 64+547363225600:=aX ac ac
  have t:Int.tdiv (IntKind.wrap .i64 (mxP m q 64+547363225600)) 1094726451200=bnZ m q:=by rw[w];exact Int.tdiv_eq_ediv_of_nonneg ac
  have b0:0<=bnZ m q/\bnZ m q<=1048576:=by unfold bnZ;omega
  rw[<-t]at b0;exact⟨kmp b0.1,kmp b0.2,rfl,⟨kmp t,ah⟩,ah⟩⟩
abbrev akO:CT:=C1 aho aiw aij
theorem ajh:CO akO:=CX1 (TX ⟨Wc,ahh,aiW,ag4,aiV,ah⟩ (FK ah)) aio
def ajs (J:ae):Prop:=vsB J 0=true
def ajy (J:ae):ae:=[.i (max (bnZ (J 7).F (J 9).Z) (bnZ (J 8).F (J 9).Z))]
abbrev aht:SP:=mkS ⟨[aD 0 1048576],[]⟩ 18 Tryz.f18 [.tX (.sA Zf),aj 1 31] [] [] [ac9,akO]
theorem agH J R:TR aht J R (let x0:ae:=[.i (J 0).Z,.i (J 1).Z,.i (J 2).Z,.i (J 3).Z,.b (J 4).X,.i (J 5).Z,.i (J 6).Z,.f (J 7).F,.f (J 8).F];let x1:ae:=VM x0;BR (!(x1 0).X) (R [.i 0,.i 0]) (let x2:ae:=[.f (J 7).F,.i (J 9).Z];(aiw x2)/\let x3:ae:=aij x2;let x4:ae:=[.f (J 8).F,.i (J 9).Z];(aiw x4)/\let x5:ae:=aij x4;R [.i 0,.i (max (x3 0).Z (x5 0).Z)])):=af
theorem aiA:PF1 aht ajs ajy:=λJ _ _ hp=>⟨by rw[agH];have v:=aay hp;have hv:((VM [.i (J 0).Z,.i (J 1).Z,.i (J 2).Z,.i (J 3).Z,.b (J 4).X,.i (J 5).Z,.i (J 6).Z,.f (J 7).F,.f (J 8).F]) 0).X=true:=kmp hp;refine⟨λh=>(by rw[hv]at h;cases h),λ_=>⟨v.hx,v.hy,rfl,⟨rfl,ah⟩,ah⟩⟩⟩
abbrev akG:CT:=C1 aht ajs ajy
theorem ahf:CO akG:=CX1 (TX ⟨W3,ajh,ah⟩ ah) aiA
end
end Go.Proofs.YtldmjbgplgoedaaGreatDoor
