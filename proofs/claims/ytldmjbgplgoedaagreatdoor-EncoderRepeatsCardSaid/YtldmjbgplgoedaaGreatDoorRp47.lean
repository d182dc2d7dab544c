import Derived.Test.YtldmjbgplgoedaaGreatDoorRp46
set_option linter.all false
namespace Go.Proofs.YtldmjbgplgoedaaGreatDoor
noncomputable section
open Go.RowKit U
def jJ (J:ae):Bool:=ecB J&&decide (1<=(J 14).Z/\(J 14).Z<=31)
def Rw (J r:ae):Prop:=(r 2).Z=(bif jJ J then 0 else 1)/\(r 1).N=(bif jJ J then(J 9).N else 0)/\(jJ J=false->(r 0).N=0)/\(jJ J=true->∀B,EnB J B->∀j,j<(J 9).N->FrN B ((r 1).G j) 0 ((J 9).G j) 0)
set_option maxRecDepth 100000 in
theorem afa:Zt Tryz.prog 56 3:=⟨λ_ _=>af,λus w h=>by
 obtain⟨p,q,r,rfl⟩:∃p q r,us=[p,q,r]:=by
  match us,h with
  |[p,q,r],_=>exact⟨p,q,r,rfl⟩
 refine(callsD_of_wpS Tryz.func56 rfl (R:=λe u' w'=>e=.returned (.tuple #[])/\u'=.returning/\w'=w) λc₀ cs hu=>?_).mono λe u' w' ⟨h1,h2,h3⟩=>⟨⟨_,h1⟩,h2,h3⟩
 apply wpS_seq
 apply wpS_region
 simp[wpOpsS,go_sem,recoverD,hu,Tryz.ntmps56,Exit.thenS]
 refine wpS_cond (t:=false) (by simp[Act.eval,Array.replicate]) ?_
 simp only[Bool.false_eq_true,if_false];refine wpS_of_wp (wp_skip ?_);cases c₀
 simp_all [bodyPostS,results,Tryz.results56]⟩
abbrev XO:List AT:=[.tX (.sA Zf),tXO (.nR 5 0 6 0 g0),tXO (.nR 1 0 9223372036854775807 0 g0),.tX (.sA oI),gp]
abbrev Zs:List AB:=[]
abbrev Zw:Wy:=⟨[.sO (.nR 7 0 40 0 g0),.sO (.nR 5 0 6 0 g0),aD 0 1],[]⟩
noncomputable abbrev Wq:FI:=⟨19,Tryz.f19,[(8,.head ⟨[(10,tXO (.nP 0 0)),(11,tXO (.nP 1 0)),(12,tXO (.nP 2 0)),(13,tXO (.nP 3 0)),(14,aj 0 6),(48,tXO (.nR 1 1 6 0 g0)),(49,aj 1 6),(50,aj 0 6)],[.run 63 aie,.run 37 aie,.run 42 [r9],.run 136 qL9,.dyn 76 7 1 40 0 g0 false,.dyn 31 5 1 6 0 g0 false],[]⟩),(16,.head ⟨[(10,tXO (.nP 0 0)),(11,tXO (.nP 1 0)),(12,tXO (.nP 2 0)),(13,tXO (.nP 3 0)),(15,aj 0 5),(17,aj 0 6),(48,tXO (.nR 1 1 6 0 g0)),(49,aj 1 6),(50,aj 0 6)],[.run 63 aie,.run 37 aie,.run 42 [r9],.run 136 qL9,.dyn 76 7 1 40 0 g0 false,.dyn 31 5 1 6 0 g0 false],[]⟩),(10060,.head ⟨[(10,tXO (.nP 0 0)),(11,tXO (.nP 1 0)),(12,tXO (.nP 2 0)),(13,tXO (.nP 3 0)),(14,aj 0 6),(15,aj 0 5),(48,tXO (.nR 1 1 6 0 g0)),(49,aj 1 6),(50,aj 0 6)],[.run 63 aie,.run 37 aie,.run 42 [r9],.run 136 qL9,.dyn 76 7 1 40 0 g0 false,.dyn 31 5 1 6 0 g0 false],[]⟩)],.tT [.sO (.nR 7 0 40 0 g0),.sO (.nR 5 0 6 0 g0),aD 0 1],[]⟩
abbrev NA:List CT:=[aee,aej,aew]
noncomputable abbrev PB:List FI:=[(aw 56 Tryz.f56),(aw 32 Tryz.f32),(aw 58 Tryz.f58),(aw 59 Tryz.f59)]
theorem afE:TOk Tryz.prog KX GX NA PB:=TX ⟨U8,Ri,Wo,ah⟩ (FK (FK (FK (FK ah))))
def Sm (J:ae):T:=VG [Zw] (pj Tryz.prog ⟨KX,GX,MX,inl Tryz.prog KX GX MX NA PB 8⟩ 56 3 Wq (au XO J) (an Zs (tls (aG XO) J)))
theorem HA (J:ae) (R:ae->Prop):(Sm J).sat1 (onA R)=(((decide (1<=(J 14).Z))->((!(decide ((J 14).Z<=31)))->R [.i 0,.l 0 (λ_=>[]),.l 0 (λ_=>[]),.i 1])/\((!(decide ((J 14).Z<=31)))=false->LET ((cw J 0 14 1259019215433)) λx0=>LET (XY x0) λx1=>((!(x1 0).X)->R [.i 0,.l 0 (λ_=>[]),.l 0 (λ_=>[]),.i 1])/\((!(x1 0).X)=false->(1<=1)/\(1<=(J 10).N)/\((J 10).N<=6)/\(1<=(((J 10).N:Nat):Int))/\((((J 10).N:Nat):Int)<=6)/\(16<=(J 0).Z)/\((J 0).Z<=64)/\(16<=(J 1).Z)/\((J 1).Z<=64)/\(1<=(J 2).Z)/\((J 2).Z<=1048576)/\(1<=(J 3).Z)/\((J 3).Z<=65536)/\(1<=(J 5).Z)/\((J 5).Z<=16777216)/\(1<=(J 6).Z)/\((J 6).Z<=8388608)/\(1<=(J 14).Z)/\((J 14).Z<=31)/\(1<=(J 9).N)/\(1<=(J 10).N)/\((J 10).N<=6)/\(1<=(((J 9).N:Nat):Int).toNat)/\(1<=(((J 9).N:Nat):Int).toNat)/\∃(I0:ae->Prop) (μ0:ae->Nat),I0 (ak [.i 0,.l (J 10).N (J 10).G,.i (((J 10).N:Nat):Int),.i 0,.i 0] (ak (cw J 0 9 56926793) (ak (cw J 11 4 658) [.l (J 9).N (J 9).G,.l (J 10).N (J 10).G,.s 0 1,.s 0 (((J 9).N:Nat):Int).toNat,.i 0,.i 0,.l 0 (λ_=>[]),.l 0 (λ_=>[]),.l 0 (λ_=>[]),.i 0,.i 0,.l 0 (λ_=>[]),.l 0 (λ_=>[]),.l 0 (λ_=>[]),.i 0,.l 1 (λi0=>(ak [.i 1] (ak (cw J 0 9 56926793) [.b false,.b false,.i 0,.i 0,.i 0,.i 0,.b false,.b false,.b false,.l 0 (λ_=>[]),.l 0 (λ_=>[]),.i 0]))),.l (((J 9).N:Nat):Int).toNat (λ_=>[.i 0,.i 0,.l 0 (λ_=>[]),.l 0 (λ_=>[]),.l 0 (λ_=>[])])])))/\∀l0,I0 l0->((decide ((l0 3).Z<(l0 2).Z))->((l0 3).Z<(((l0 1).N:Nat):Int))/\(((((l0 1).G (l0 3).Z.toNat) 0).Z==3)->(((l0 0).Z+1)<=6)/\(((l0 3).Z+1)<=6)/\Ag I0 μ0 l0 (ak [.i ((l0 0).Z+1),.l (l0 1).N (l0 1).G,.i (l0 2).Z,.i ((l0 3).Z+1)] (cw l0 4 31 k29)))/\(((((l0 1).G (l0 3).Z.toNat) 0).Z==3)=false->∃J1:ae->Prop,((((((l0 1).G (l0 3).Z.toNat) 0).Z==1)->(((l0 0).Z==0)->(1<=1)/\((l0 20).O=0)/\((l0 20).N=(l0 33).N)/\((l0 3).Z<=5)/\(((l0 20).N+1)<=40)/\(0<=((l0 3).Z-(l0 0).Z))/\(((l0 20).N+1)<=40)/\J1 (ak [.i (l0 0).Z,.i (l0 3).Z] (ak (cw l0 1 19 81426765790351948) [.s 0 ((l0 20).N+1),.s (l0 21).O (l0 21).N,.i 0,.i 0,.l 0 (λ_=>[]),.l 0 (λ_=>[]),.l 0 (λ_=>[]),.i 0,.i 0,.l 0 (λ_=>[]),.l 0 (λ_=>[]),.l 0 (λ_=>[]),.i ((l0 3).Z-(l0 0).Z),.l ((l0 20).N+1) (aE (l0 20).N (l0 33).G (λi1=>[.i 2,.i 0,.i 0,.i 0,.i 0,.b false,.i 0,.i 0,.f (λ_=>0),.f (λi0=>0),.b ((l0 0).Z==0),.b false,.i ((l0 3).Z-(l0 0).Z),.i 0,.i 0,.i 0,.b false,.b false,.b false,.l 0 (λ_=>[]),.l 0 (λ_=>[]),.i 0])),.l (l0 34).N (l0 34).G])))/\(((l0 0).Z==0)=false->(1<=1)/\((l0 20).O=0)/\((l0 20).N=(l0 33).N)/\((l0 3).Z<=5)/\(((l0 20).N+1)<=40)/\(0<=((l0 3).Z-(l0 0).Z))/\(((l0 20).N+1)<=40)/\J1 (ak [.i (l0 0).Z,.i (l0 3).Z] (ak (cw l0 1 19 81426765790351948) (ak [.s 0 ((l0 20).N+1)] (ak (cw l0 21 11 4901455949) [.i ((l0 3).Z-(l0 0).Z),.l ((l0 20).N+1) (aE (l0 20).N (l0 33).G (λi1=>[.i 2,.i 0,.i 0,.i 0,.i 0,.b false,.i 0,.i 0,.f (λ_=>0),.f (λi0=>0),.b ((l0 0).Z==0),.b false,.i ((l0 3).Z-(l0 0).Z),.i 0,.i 0,.i 0,.b false,.b false,.b false,.l 0 (λ_=>[]),.l 0 (λ_=>[]),.i 0])),.l (l0 34).N (l0 34).G]))))))/\(((((l0 1).G (l0 3).Z.toNat) 0).Z==1)=false->((l0 3).Z<=5)/\J1 (ak [.i (l0 0).Z,.i (l0 3).Z] (cw l0 1 34 2867768364796086459289592697420))))/\∀j1,J1 j1->LET ((ak (ak [.i (j1 1).Z] (ak (cw j1 28 5 18697) [.i 0,.i 0,.l 0 (λ_=>[]),.l 0 (λ_=>[]),.l 0 (λ_=>[]),.i 0,.i 0,.l 0 (λ_=>[]),.l 0 (λ_=>[]),.l 0 (λ_=>[])])) (cw j1 6 30 k19))) λx2=>(Rm x2)/\LET (rp x2) λx3=>((j1 1).Z<(((j1 22).N:Nat):Int))/\(((j1 22).O+(j1 1).Z.toNat)<(x3 33).N)/\((x3 21).O=(j1 22).O)/\((x3 21).N=(j1 22).N)/\((j1 1).Z<(((x3 21).N:Nat):Int))/\(((x3 21).O+(j1 1).Z.toNat)<(x3 33).N)/\(0<=((j1 1).Z-(j1 0).Z))/\(0<=(at_ ((upd (x3 33).G ((j1 22).O+(j1 1).Z.toNat) (cw x3 0 5 18697)) ((x3 21).O+(j1 1).Z.toNat)) 0).Z)/\((at_ ((upd (x3 33).G ((j1 22).O+(j1 1).Z.toNat) (cw x3 0 5 18697)) ((x3 21).O+(j1 1).Z.toNat)) 0).Z<=64)/\(0<=(at_ ((upd (x3 33).G ((j1 22).O+(j1 1).Z.toNat) (cw x3 0 5 18697)) ((x3 21).O+(j1 1).Z.toNat)) 1).Z)/\((at_ ((upd (x3 33).G ((j1 22).O+(j1 1).Z.toNat) (cw x3 0 5 18697)) ((x3 21).O+(j1 1).Z.toNat)) 1).Z<=64)/\((at_ ((upd (x3 33).G ((j1 22).O+(j1 1).Z.toNat) (cw x3 0 5 18697)) ((x3 21).O+(j1 1).Z.toNat)) 2).N<=4096)/\((at_ ((upd (x3 33).G ((j1 22).O+(j1 1).Z.toNat) (cw x3 0 5 18697)) ((x3 21).O+(j1 1).Z.toNat)) 3).N<=1024)/\((at_ ((upd (x3 33).G ((j1 22).O+(j1 1).Z.toNat) (cw x3 0 5 18697)) ((x3 21).O+(j1 1).Z.toNat)) 4).N<=1024)/\∃(I2:ae->Prop) (μ2:ae->Nat),I2 (ak (ak [.i (j1 1).Z,.i ((j1 1).Z-(j1 0).Z)] (cw j1 2 4 588)) (ak (cw x3 5 17 1603176325489225) (ak (cw x3 27 5 18697) [.i (at_ ((upd (x3 33).G ((j1 22).O+(j1 1).Z.toNat) (cw x3 0 5 18697)) ((x3 21).O+(j1 1).Z.toNat)) 0).Z,.i (at_ ((upd (x3 33).G ((j1 22).O+(j1 1).Z.toNat) (cw x3 0 5 18697)) ((x3 21).O+(j1 1).Z.toNat)) 1).Z,.l (at_ ((upd (x3 33).G ((j1 22).O+(j1 1).Z.toNat) (cw x3 0 5 18697)) ((x3 21).O+(j1 1).Z.toNat)) 2).N (at_ ((upd (x3 33).G ((j1 22).O+(j1 1).Z.toNat) (cw x3 0 5 18697)) ((x3 21).O+(j1 1).Z.toNat)) 2).G,.l (at_ ((upd (x3 33).G ((j1 22).O+(j1 1).Z.toNat) (cw x3 0 5 18697)) ((x3 21).O+(j1 1).Z.toNat)) 3).N (at_ ((upd (x3 33).G ((j1 22).O+(j1 1).Z.toNat) (cw x3 0 5 18697)) ((x3 21).O+(j1 1).Z.toNat)) 3).G,.l (at_ ((upd (x3 33).G ((j1 22).O+(j1 1).Z.toNat) (cw x3 0 5 18697)) ((x3 21).O+(j1 1).Z.toNat)) 4).N (at_ ((upd (x3 33).G ((j1 22).O+(j1 1).Z.toNat) (cw x3 0 5 18697)) ((x3 21).O+(j1 1).Z.toNat)) 4).G,.i (x3 32).Z,.l (x3 34).N (x3 34).G,.l (x3 33).N (upd (x3 33).G ((j1 22).O+(j1 1).Z.toNat) (cw x3 0 5 18697))])))/\∀l2,I2 l2->((decide ((l2 1).Z<(l2 0).Z))->((l2 1).Z<=5)/\LET ((ak (ak [.i (l2 1).Z] (ak (cw l2 23 10 612681993) [.i 0,.i 0,.l 0 (λ_=>[]),.l 0 (λ_=>[]),.l 0 (λ_=>[])])) (cw l2 6 30 k19))) λx4=>(Rm x4)/\LET (rp x4) λx5=>((l2 1).Z<(((l2 22).N:Nat):Int))/\(((l2 22).O+(l2 1).Z.toNat)<(x5 33).N)/\((x5 21).O=(l2 22).O)/\((x5 21).N=(l2 22).N)/\(((l2 1).Z+1)<=6)/\Ag I2 μ2 l2 (ak (ak [.i (l2 0).Z,.i ((l2 1).Z+1)] (cw l2 2 4 588)) (ak (cw x5 5 28 3797488838518141094240841) [.l (x5 34).N (x5 34).G,.l (x5 33).N (upd (x5 33).G ((l2 22).O+(l2 1).Z.toNat) (cw x5 0 5 18697))])))/\((decide ((l2 1).Z<(l2 0).Z))=false->(((l2 4).Z+1)<=6)/\Ag I0 μ0 l0 (ak [.i 0,.l (l2 2).N (l2 2).G,.i (l2 3).Z,.i ((l2 4).Z+1)] (cw l2 5 31 k29)))))/\((decide ((l0 3).Z<(l0 2).Z))=false->(((l0 20).O+(l0 20).N)<=(l0 33).N)/\LET ([.l (l0 20).N (λi0=>(l0 33).G ((l0 20).O+i0))]) λx6=>(ZV x6)/\LET (abU x6) λx7=>(((l0 20).O+(l0 20).N)<=(l0 33).N)/\(((l0 21).O+(l0 21).N)<=(l0 34).N)/\R [.i 0,.l (l0 20).N (λi0=>(l0 33).G ((l0 20).O+i0)),.l (l0 21).N (λi0=>(l0 34).G ((l0 21).O+i0)),.i 0]))))/\((decide (1<=(J 14).Z))=false-> R [.i 0,.l 0 (λ_=>[]),.l 0 (λ_=>[]),.i 1])):=af
theorem aas {J:ae} (hE:EcA J) {l:ae} (e:l=[.i 0,.l (J 10).N (J 10).G,.i (((J 10).N:Nat):Int),.i 0,.i 0,.i (J 0).Z,.i (J 1).Z,.i (J 2).Z,.i (J 3).Z,.b (J 4).X,.i (J 5).Z,.i (J 6).Z,.f (J 7).F,.f (J 8).F,.b (J 11).X,.b (J 12).X,.b (J 13).X,.i (J 14).Z,.l (J 9).N (J 9).G,.l (J 10).N (J 10).G,.s 0 1,.s 0 (((J 9).N:Nat):Int).toNat,.i 0,.i 0,.l 0 (λ_=>[]),.l 0 (λ_=>[]),.l 0 (λ_=>[]),.i 0,.i 0,.l 0 (λ_=>[]),.l 0 (λ_=>[]),.l 0 (λ_=>[]),.i 0,.l 1 (λ_=>[.i 1,.i (J 0).Z,.i (J 1).Z,.i (J 2).Z,.i (J 3).Z,.b (J 4).X,.i (J 5).Z,.i (J 6).Z,.f (J 7).F,.f (J 8).F,.b false,.b false,.i 0,.i 0,.i 0,.i 0,.b false,.b false,.b false,.l 0 (λ_=>[]),.l 0 (λ_=>[]),.i 0]),.l (((J 9).N:Nat):Int).toNat (λ_=>[.i 0,.i 0,.l 0 (λ_=>[]),.l 0 (λ_=>[]),.l 0 (λ_=>[])])]):E0 J l:=by
 subst e;have hN:=hE.N.1;refine⟨⟨hN,rfl,by show(((J 10).N:Nat):Int)=_;rw[hN]⟩,⟨Int.le_refl _,Int.le_refl _,Int.natCast_nonneg _⟩,λj h1 h2=>?_,⟨Int.le_refl _,Int.le_refl _⟩,.inl rfl,⟨⟨kmp hE.vs,kmp hE.opt,rfl,rfl,rfl,rfl,kmp hN,rfl,rfl,?_,rfl,rfl,rfl⟩,⟨rfl,rfl⟩,?_,?_,.inl rfl,.inl rfl⟩,λB _=>⟨⟨kmp afT,kmp afT⟩,λj _ h=>?_⟩⟩
 .have h1:(0:Int)-0<=j:=h1;have h2:(j:Int)<0:=h2;omega
 .show(((J 9).N:Nat):Int).toNat=_;rw[Int.toNat_natCast]
 .have:=VZ (m:=[.i 1,.i (J 0).Z,.i (J 1).Z,.i (J 2).Z,.i (J 3).Z,.b (J 4).X,.i (J 5).Z,.i (J 6).Z,.f (J 7).F,.f (J 8).F,.b false,.b false,.i 0,.i 0,.i 0,.i 0,.b false,.b false,.b false,.l 0 (λ_=>[]),.l 0 (λ_=>[]),.i 0]) rfl (kmp hE.vs) rfl;exact kmp this
 .show(((J 9).N:Nat):Int).toNat=_;rw[Int.toNat_natCast]
 .have h:(j:Int)<0-0:=h;omega
theorem Z4 {J l:ae} (hE:EcA J) (h:E0 J l) (hi:(l 3).Z<(((J 9).N:Nat):Int)) (ht:tyZ J (l 3).Z.toNat=3):E0 J (ak [.i ((l 0).Z+1),.l (l 1).N (l 1).G,.i (l 2).Z,.i ((l 3).Z+1)] (cw l 4 31 k29)):=by
 obtain⟨b0,b1,b2⟩:=h.b;have e:(l 3).Z+1-((l 0).Z+1)=(l 3).Z-(l 0).Z:=ac
 have hst:(l 0).Z<(l 3).Z/\(l 27).Z≠0:=by
  rcases h.st with h0 | h0
  .rw[h0]at ht;have:=hE.t0;rw[show(0:Int).toNat=0 from rfl,this]at ht;cases ht
  .exact h0
 refine⟨kmp h.ty,?_,λj h1 h2=>?_,?_,.inr ?_,?_,?_⟩
 .have:0<=(l 0).Z+1/\(l 0).Z+1<=(l 3).Z+1/\(l 3).Z+1<=(((J 9).N:Nat):Int):=ac;exact kmp this
 .have h1:(l 3).Z+1-((l 0).Z+1)<=(j:Int):=h1;have h2:(j:Int)<(l 3).Z+1:=h2
  by_cases hj:(j:Int)=(l 3).Z
  .rw[<-hj,Int.toNat_natCast]at ht;exact ht
  .exact h.bs j ac ac
 .have:=h.fi;rw[<-e]at this;exact kmp this
 .have:(l 0).Z+1<(l 3).Z+1/\(l 27).Z≠0:=⟨ac,hst.2⟩;exact kmp this
 .have:=h.m;rw[<-e]at this;exact kmp this
 .have:=h.rb;rw[<-e]at this;exact kmp this
theorem WQ {J l f:ae} {z:Bool} (hE:EcA J) (h6:(J 9).N<=6) (h:E0 J l) (hi:(l 3).Z<(((J 9).N:Nat):Int)) (ht:tyZ J (l 3).Z.toNat=1) (hf:((l 0).Z=0/\f=ak zer zer)\/((l 0).Z≠0/\f=ak (fo l 22) (fo l 27))) :
 E1 J (l 3).Z (ak [.i (l 0).Z,.i (l 3).Z] (ak (cw l 1 19 81426765790351948) [.s 0 ((l 20).N+1),.s (l 21).O (l 21).N,.i (f 0).Z,.i (f 1).Z,.l (f 2).N (f 2).G,.l (f 3).N (f 3).G,.l (f 4).N (f 4).G,.i (f 5).Z,.i (f 6).Z,.l (f 7).N (f 7).G,.l (f 8).N (f 8).G,.l (f 9).N (f 9).G,.i ((l 3).Z-(l 0).Z),.l ((l 20).N+1) (aE (l 20).N (l 33).G (λ_=>grI z ((l 3).Z-(l 0).Z))),.l (l 34).N (l 34).G])):=by
 obtain⟨b0,b1,b2⟩:=h.b;have hN:=h.m.it.2;have hN:(l 20).N=(l 33).N:=hN;have hits:=h.m.its;have hits:ItS (l 33).N (l 33).G (1+3*((l 3).Z-(l 0).Z).toNat) (298+98456*((l 3).Z-(l 0).Z).toNat):=hits;rw[<-hN]at hits;have hg:=(Vf (b:=z) hits (show 0<=(l 3).Z-(l 0).Z by omega) ac).le (n':=2+3*((l 3).Z-(l 0).Z).toNat) (c':=310+98456*((l 3).Z-(l 0).Z).toNat) ac ac
 have r1:(f 0).Z=0\/Fm f 0 (J 0).Z (J 1).Z:=by
  rcases hf with ⟨-,e⟩ | ⟨-,e⟩
  .rw[e];exact .inl rfl
  .rw[e];exact kmp h.m.r1
 have r2:(f 5).Z=0\/Fm f 5 (J 0).Z (J 1).Z:=by
  rcases hf with ⟨-,e⟩ | ⟨-,e⟩
  .rw[e];exact .inl rfl
  .rw[e];exact kmp h.m.r2
 have nw:tyZ J (l 3).Z.toNat≠1\/0<(l 0).Z->(f 5).Z≠0:=λhq=>by
  have hq:0<(l 0).Z:=hq.resolve_left λe=>e ht;rcases hf with ⟨e,-⟩ | ⟨-,e⟩
  .omega
  .rw[e]
   have:(l 27).Z≠0:=by
    rcases h.st with h0 | h0
    .omega
    .exact h0.2
   exact kmp this
 have bb:0<=(l 0).Z/\(l 0).Z<=(l 3).Z/\(l 3).Z<(((J 9).N:Nat):Int):=⟨b0,b1,hi⟩;have fi:0<=(l 3).Z-(l 0).Z/\(l 3).Z-(l 0).Z<=(l 3).Z-(l 0).Z:=ac;refine⟨kmp h.ty,⟨rfl,rfl⟩,kmp bb,kmp h.bs,kmp fi,kmp nw,by rw[ht];decide,⟨kmp h.m.ks,⟨rfl,rfl⟩,kmp hg,kmp h.m.re,kmp r1,kmp r2⟩,λB hB=>?_⟩
 obtain⟨⟨q1,q2⟩,q3⟩:=h.rb B hB
 have fb:RwB f 0/\RwB f 5:=by
  rcases hf with ⟨-,e⟩ | ⟨-,e⟩
  .rw[e];exact⟨kmp afT,kmp afT⟩
  .rw[e];exact⟨kmp q1,kmp q2⟩
 exact⟨⟨kmp fb.1,kmp fb.2⟩,kmp q3⟩
theorem aaS {J l:ae} (hE:EcA J) (h:E0 J l) (hi:(l 3).Z<(((J 9).N:Nat):Int)) (ht:tyZ J (l 3).Z.toNat≠1) (ht3:tyZ J (l 3).Z.toNat≠3) :
 E1 J (l 3).Z (ak [.i (l 0).Z,.i (l 3).Z] (cw l 1 34 2867768364796086459289592697420)):=by
 obtain⟨b0,b1,b2⟩:=h.b
 have nw:tyZ J (l 3).Z.toNat≠1\/0<(l 0).Z->(l 27).Z≠0:=λ_=>by
  rcases h.st with h0 | h0
  .rw[h0]at ht;exact absurd hE.t0 ht
  .exact h0.2
 have bb:0<=(l 0).Z/\(l 0).Z<=(l 3).Z/\(l 3).Z<(((J 9).N:Nat):Int):=⟨b0,b1,hi⟩;have hm:=h.m.le (k':=2+3*((l 3).Z-(l 0).Z).toNat) (c':=310+98456*((l 3).Z-(l 0).Z).toNat) ac ac;exact⟨kmp h.ty,⟨rfl,rfl⟩,kmp bb,kmp h.bs,kmp h.fi,kmp nw,ht3,kmp hm,kmp h.rb⟩
theorem Jp (J:ae) (h9:(J 9).N<=6):Sa1 (Sm J) (λl=>(hd l).Z=0/\Rw J (tl l)):=⟨by
 rw[HA];have no:jJ J=false->(hd [Lf.i 0,.l 0 (λ_=>[]),.l 0 (λ_=>[]),.i 1]).Z=0/\Rw J (tl [Lf.i 0,.l 0 (λ_=>[]),.l 0 (λ_=>[]),.i 1]):=λh=>⟨rfl,by unfold Rw;rw[h];exact⟨rfl,rfl,λ_=>rfl,λh'=>by cases h'⟩⟩
 refine⟨λq1=>⟨λq2=>no ?_,λq2=>aH rfl (aH (w:=[.b (ecB J)]) af ⟨λq3=>no ?_,λq3=>?_⟩)⟩,λq1=>no ?_⟩
 .unfold jJ;have:¬ (J 14).Z<=31:=by simpa using q2
  rw[decide_eq_false (λh=>this h.2),Bool.and_false]
 .unfold jJ;have q3:(!(ecB J))=true:=q3;rw[show ecB J=false by simpa using q3,Bool.false_and]
 rotate_left
 .unfold jJ;have:¬ 1<=(J 14).Z:=by simpa using q1
  rw[decide_eq_false (λh=>this h.1),Bool.and_false]
 have q3:ecB J=true:=by simpa using(show(!(ecB J))=false from q3)
 have q1:1<=(J 14).Z:=by simpa using q1
 have q2:(J 14).Z<=31:=by simpa using q2
 have hG:jJ J=true:=by unfold jJ;rw[q3,decide_eq_true ⟨q1,q2⟩];rfl
 have hE:=abi q3;have v:=of_decide_eq_true (show decide (VS _ _ _ _ _ _ _ _ _)=true from hE.vs);obtain⟨w1,w2,-⟩:=v.hW;obtain⟨x1,x2,-⟩:=v.hH;obtain⟨n1,n2,n3⟩:=v.hnum;obtain⟨b1,b2⟩:=v.hbr;obtain⟨f1,f2⟩:=v.hbf;have hd1:1<=(J 3).Z:=QC v.hrate;obtain⟨hN,hN1⟩:=hE.N;have m1:1<=(J 10).N:=ac;have m6:(J 10).N<=6:=ac;have m1i:(1:Int)<=(((J 10).N:Nat):Int):=ac;have m6i:(((J 10).N:Nat):Int)<=6:=ac;have t1:1<=(((J 9).N:Nat):Int).toNat:=ac;refine⟨Nat.le_refl _,m1,m6,m1i,m6i,w1,w2,x1,x2,n1,n2,hd1,n3,b1,b2,f1,f2,q1,q2,hN1,m1,m6,t1,t1,λl=>E0 J l,λl=>7-(l 3).Z.toNat,aas hE rfl,λl0 h0=>⟨λq5=>⟨?_,λq6=>?_,λq6=>?_⟩,λq5=>?_⟩⟩
 .
  have:=h0.ty.N;have q5:(l0 3).Z<(l0 2).Z:=by simpa using q5
  rw[h0.ty.n]at q5;rw[h0.ty.N];exact q5
 .have q5:(l0 3).Z<(l0 2).Z:=by simpa using q5
  rw[h0.ty.n]at q5
  have ht:tyZ J (l0 3).Z.toNat=3:=by
   unfold tyZ;rw[<-h0.ty.G]
   simpa using q6
  have hb:=Z4 hE h0 q5 ht;obtain⟨c0,c1,c2⟩:=h0.b;obtain⟨d0,d1,d2⟩:=hb.b;have d1:(l0 0).Z+1<=(l0 3).Z+1:=d1;refine⟨ac,ac,hb,?_⟩;show 7-((l0 3).Z+1).toNat<7-(l0 3).Z.toNat;omega
 .have q5:(l0 3).Z<(l0 2).Z:=by simpa using q5
  rw[h0.ty.n]at q5
  have ht3:tyZ J (l0 3).Z.toNat≠3:=by
   unfold tyZ;rw[<-h0.ty.G]
   simpa using q6
  obtain⟨c0,c1,c2⟩:=h0.b;have iO:(l0 20).O=0:=kmp h0.m.it.1;have iN:(l0 20).N=(l0 33).N:=kmp h0.m.it.2;have iK:(l0 33).N<=1+3*((l0 3).Z-(l0 0).Z).toNat:=kmp h0.m.its.1;refine⟨λj=>E1 J (l0 3).Z j,⟨λq7=>?_,λq7=>?_⟩,λj1 h1=>?_⟩
  .have ht:tyZ J (l0 3).Z.toNat=1:=by
    unfold tyZ;rw[<-h0.ty.G]
    simpa using q7
   refine⟨λq8=>?_,λq8=>?_⟩
   .have e:(l0 0).Z=0:=by simpa using q8
    exact⟨Nat.le_refl _,iO,iN,ac,ac,ac,ac,kmp (WQ (z:=(l0 0).Z==0) hE h9 h0 q5 ht (.inl ⟨e,rfl⟩))⟩
   .have e:(l0 0).Z≠0:=by simpa using q8
    exact⟨Nat.le_refl _,iO,iN,ac,ac,ac,ac,kmp (WQ (z:=(l0 0).Z==0) hE h9 h0 q5 ht (.inr ⟨e,rfl⟩))⟩
  .have ht:tyZ J (l0 3).Z.toNat≠1:=by
    unfold tyZ;rw[<-h0.ty.G]
    simpa using q7
   exact⟨ac,aaS hE h0 q5 ht ht3⟩
  .
   generalize hi0:(l0 3).Z=i at *;obtain⟨e1,e2⟩:=h1.n;obtain⟨b0,b1,b2⟩:=h1.b
   have hA:MfA (mfI (j1 1).Z (fo j1 28) zer (pO j1 6)) (2+3*(i-(j1 0).Z).toNat) (310+98456*(i-(j1 0).Z).toNat):=by
    have g1:=h1.fi.1;have g2:=h1.fi.2;refine WI hE h9 h1.m ac ac (kmp g1) ?_ ac (kmp h1.m.r2) (.inl rfl) ?_ ?_
    .have:(j1 33).Z<=(j1 1).Z:=ac;exact kmp this
    .rw[e1];exact λh=>kmp (h1.nw (.inl h))
    .rw[e1];exact λh=>absurd h h1.t
   obtain⟨hP,f,m,g,hw,hf,hi⟩:=ag3 hA;refine aH (w:=mfI (j1 1).Z (fo j1 28) zer (pO j1 6)) af ⟨hP,aH hw ?_⟩;have hu:∀v,upd ((mfO (mfI (j1 1).Z (fo j1 28) zer (pO j1 6)) f m g) 33).G ((j1 22).O+(j1 1).Z.toNat) v (((mfO (mfI (j1 1).Z (fo j1 28) zer (pO j1 6)) f m g) 21).O+(j1 1).Z.toNat)=v:=λv=>VV v rfl;rw[hu];have nO:(j1 22).O=0:=kmp h1.m.ks.rO;have nN:(j1 22).N=(J 9).N:=kmp h1.m.ks.rN;have nR:(j1 35).N=(J 9).N:=kmp h1.m.re;have hf2:Fm f 0 ((cK (pO j1 6)) 0).Z ((cK (pO j1 6)) 1).Z:=kmp hf;rw[h1.m.ks.W,h1.m.ks.H]at hf2;have hU:Fm (fo (mfO (mfI (j1 1).Z (fo j1 28) zer (pO j1 6)) f m g) 0) 0 (J 0).Z (J 1).Z:=kmp hf2;obtain⟨⟨u0,u1⟩,⟨u2,u3⟩,⟨u4,u5⟩,⟨u6,u7⟩,u8,u9⟩:=tj hf2.1;have u0':0<=(f 0).Z:=ac;have u2:2<=(f 1).Z:=u2;have u2':0<=(f 1).Z:=ac;have c1:(j1 1).Z<(((j1 22).N:Nat):Int):=ac;have c2:(j1 22).O+(j1 1).Z.toNat<(j1 35).N:=ac;refine⟨c1,kmp c2,af,af,kmp c1,kmp c2,ac,kmp u0',kmp u1,kmp u2',kmp u3,kmp u5,kmp u7,kmp u9,λl=>E2 J i l,λl=>7-(l 1).Z.toNat,?_,λl2 h2=>⟨λq9=>?_,λq9=>?_⟩⟩
   .have hn:(j1 1).Z=i/\(j1 4).Z=i/\i<(((J 9).N:Nat):Int):=⟨e1,e2,b2⟩;have hk:0<=(j1 1).Z-(j1 0).Z/\(j1 1).Z-(j1 0).Z<=i:=ac;have hbs:∀j:Nat,(j1 1).Z-(j1 0).Z<=(j:Int)->(j:Int)<i->tyZ J j=3:=by rw[e1];exact h1.bs
    have hfi:0<=(j1 33).Z/\(j1 33).Z<=(j1 1).Z-(j1 0).Z:=by rw[e1];exact h1.fi
    have hol:(j1 1).Z-(j1 0).Z<i->(j1 28).Z≠0:=λh=>h1.nw (.inr ac);have hnw:(f 0).Z≠0:=ac;have hm:=(Wk (V:=upd ((mfO (mfI (j1 1).Z (fo j1 28) zer (pO j1 6)) f m g) 33).G ((j1 22).O+(j1 1).Z.toNat) (fo (mfO (mfI (j1 1).Z (fo j1 28) zer (pO j1 6)) f m g) 0)) h1.m hi hU (n:=(j1 1).Z) (A:=fo j1 28) (B:=zer) (f:=f)).le (k':=4+3*((j1 1).Z-(j1 0).Z).toNat) (c':=98754+98456*((j1 1).Z-(j1 0).Z).toNat) (by rw[e1];omega) (by rw[e1];omega)
    have hrb:=afY (V:=upd ((mfO (mfI (j1 1).Z (fo j1 28) zer (pO j1 6)) f m g) 33).G ((j1 22).O+(j1 1).Z.toNat) (fo (mfO (mfI (j1 1).Z (fo j1 28) zer (pO j1 6)) f m g) 0)) (d':=λj=>(j:Int)<(j1 1).Z-(j1 0).Z\/(j:Int)=i) h1.rb h1.m.ks (λ_ q=>kmp q) (λ_ _=>afT) ac ac hP hw (λj=>by rw[nO,Nat.zero_add];kernel_rfl) (λj hj hne=>by
     rcases hj with hj | hj
     .omega
     .exact absurd (show j=(j1 1).Z.toNat by omega) hne)
    have hrb2:RB J (mfR (mfO (mfI (j1 1).Z (fo j1 28) zer (pO j1 6)) f m g) (fo (mfO (mfI (j1 1).Z (fo j1 28) zer (pO j1 6)) f m g) 0) (upd ((mfO (mfI (j1 1).Z (fo j1 28) zer (pO j1 6)) f m g) 33).G ((j1 22).O+(j1 1).Z.toNat) (fo (mfO (mfI (j1 1).Z (fo j1 28) zer (pO j1 6)) f m g) 0))) (λj=>(j:Int)<(j1 1).Z-(j1 0).Z\/(j:Int)=i):=λB hB=>by obtain⟨⟨⟨q1,q2⟩,q3⟩,q4⟩:=hrb B hB;exact⟨⟨kmp q2,kmp q3⟩,kmp q4⟩
    exact⟨kmp h1.ty,kmp hn,kmp hk,kmp hbs,kmp hfi,kmp hol,kmp hnw,kmp hm,kmp hrb2⟩
   .have q9:(l2 1).Z<(l2 0).Z:=by simpa using q9
    obtain⟨g1,g2,g3⟩:=h2.n;obtain⟨k1,k2⟩:=h2.k
    have hB:MfA (mfI (l2 1).Z (fo l2 23) (fo l2 28) (pO l2 6)) (4+3*(l2 1).Z.toNat) (98754+98456*(l2 1).Z.toNat) :=WI hE h9 h2.m k1 ac (kmp h2.fi.1) (kmp h2.fi.2) ac (kmp h2.m.r1) (kmp h2.m.r2) (λ_=>kmp (h2.ol ac)) λ_=>kmp h2.nw
    obtain⟨hP',f',m',g',hw',hf',hi'⟩:=ag3 hB;have mO:(l2 22).O=0:=kmp h2.m.ks.rO;have mN:(l2 22).N=(J 9).N:=kmp h2.m.ks.rN;have mR:(l2 35).N=(J 9).N:=kmp h2.m.re;have d1:(l2 1).Z<(((l2 22).N:Nat):Int):=ac;have d2:(l2 22).O+(l2 1).Z.toNat<(l2 35).N:=ac;refine⟨ac,aH (w:=mfI (l2 1).Z (fo l2 23) (fo l2 28) (pO l2 6)) af ⟨hP',aH hw' ⟨d1,kmp d2,af,af,ac,?_,?_⟩⟩⟩
    .have hk:0<=(l2 1).Z+1/\(l2 1).Z+1<=i:=ac;have hbs:∀j:Nat,(l2 1).Z+1<=(j:Int)->(j:Int)<i->tyZ J j=3:=λj a b=>h2.bs j ac b;have hfi:0<=(l2 33).Z/\(l2 33).Z<=(l2 1).Z+1:=⟨h2.fi.1,Int.le_trans h2.fi.2 ac⟩;have hol:(l2 1).Z+1<i->(l2 23).Z≠0:=λh=>h2.ol ac;have hm:=(Cm (V:=upd ((mfO (mfI (l2 1).Z (fo l2 23) (fo l2 28) (pO l2 6)) f' m' g') 33).G ((l2 22).O+(l2 1).Z.toNat) (fo (mfO (mfI (l2 1).Z (fo l2 23) (fo l2 28) (pO l2 6)) f' m' g') 0)) h2.m hi' (n:=(l2 1).Z) (A:=fo l2 23) (B:=fo l2 28) (f:=f')).le (k':=4+3*((l2 1).Z+1).toNat) (c':=98754+98456*((l2 1).Z+1).toNat) ac ac
     have hrb:=afY (V:=upd ((mfO (mfI (l2 1).Z (fo l2 23) (fo l2 28) (pO l2 6)) f' m' g') 33).G ((l2 22).O+(l2 1).Z.toNat) (fo (mfO (mfI (l2 1).Z (fo l2 23) (fo l2 28) (pO l2 6)) f' m' g') 0)) (d':=λj=>(j:Int)<(l2 1).Z+1\/(j:Int)=i) h2.rb h2.m.ks (λq _=>kmp q) (λ_ q=>kmp q) k1 ac hP' hw' (λj=>by rw[mO,Nat.zero_add];kernel_rfl) (λj hj hne=>by
      rcases hj with hj | hj
      .exact .inl ac
      .exact .inr hj)
     have hrb2:RB J (mfM (mfO (mfI (l2 1).Z (fo l2 23) (fo l2 28) (pO l2 6)) f' m' g') (upd ((mfO (mfI (l2 1).Z (fo l2 23) (fo l2 28) (pO l2 6)) f' m' g') 33).G ((l2 22).O+(l2 1).Z.toNat) (fo (mfO (mfI (l2 1).Z (fo l2 23) (fo l2 28) (pO l2 6)) f' m' g') 0))) (λj=>(j:Int)<(l2 1).Z+1\/(j:Int)=i):=λB hB=>by obtain⟨⟨⟨q1,q2⟩,q3⟩,q4⟩:=hrb B hB;exact⟨⟨kmp q1,kmp q2⟩,kmp q4⟩
     exact⟨kmp h2.ty,kmp h2.n,kmp hk,kmp hbs,kmp hfi,kmp hol,kmp h2.nw,kmp hm,kmp hrb2⟩
    .show 7-((l2 1).Z+1).toNat<7-(l2 1).Z.toNat;omega
   .have q9:¬ (l2 1).Z<(l2 0).Z:=by simpa using q9
    obtain⟨g1,g2,g3⟩:=h2.n;obtain⟨k1,k2⟩:=h2.k;refine⟨ac,?_,?_⟩
    .have hb:0<=(0:Int)/\(0:Int)<=(l2 4).Z+1/\(l2 4).Z+1<=(((J 9).N:Nat):Int):=ac;have hbs:∀j:Nat,(l2 4).Z+1-0<=(j:Int)->(j:Int)<(l2 4).Z+1->tyZ J j=3:=λj a b=>absurd b ac;have hfi:0<=(l2 33).Z/\(l2 33).Z<=(l2 4).Z+1-0:=⟨h2.fi.1,Int.le_trans h2.fi.2 ac⟩;have hst:(l2 4).Z+1=0\/(0<(l2 4).Z+1/\(l2 28).Z≠0):=.inr ⟨ac,h2.nw⟩;have hm:=h2.m.le (k':=1+3*((l2 4).Z+1-0).toNat) (c':=298+98456*((l2 4).Z+1-0).toNat) ac ac
     have hrb:RB J (pO l2 6) (λj=>(j:Int)<(l2 4).Z+1-0):=λB hB=>by obtain⟨q1,q2⟩:=h2.rb B hB;exact⟨q1,λj hj h=>q2 j hj ac⟩
     exact⟨kmp h2.ty,kmp hb,kmp hbs,kmp hfi,kmp hst,kmp hm,kmp hrb⟩
    .show 7-((l2 4).Z+1).toNat<7-(l0 3).Z.toNat;rw[hi0];omega
 .have q5:¬ (l0 3).Z<(l0 2).Z:=by simpa using q5
  rw[h0.ty.n]at q5;obtain⟨c0,c1,c2⟩:=h0.b;have iO:(l0 20).O=0:=kmp h0.m.it.1;have iN:(l0 20).N=(l0 33).N:=kmp h0.m.it.2;have rO:(l0 21).O=0:=kmp h0.m.ks.rO;have rN:(l0 21).N=(J 9).N:=kmp h0.m.ks.rN;have rR:(l0 34).N=(J 9).N:=kmp h0.m.re;obtain⟨s1,s2,s3⟩:=h0.m.its;have s2:∀k,k<(l0 33).N->Qa ((l0 33).G k)/\(((l0 33).G k) 21).Z=0:=s2;have s3:(stR (l0 33).G (l0 33).N).1<=298+98456*((l0 3).Z-(l0 0).Z).toNat:=s3;refine⟨ac,aH rfl ⟨⟨λk hk=>?_,λk hk=>?_,?_⟩,aH rfl ⟨ac,ac,?_⟩⟩⟩
  .have hk:k<(l0 20).N:=hk;have:=(s2 ((l0 20).O+k) ac).1;exact this
  .have hk:k<(l0 20).N:=hk;exact(s2 ((l0 20).O+k) ac).2
  .show(stR (λk=>(l0 33).G ((l0 20).O+k)) (l0 20).N).1<=1048576;rw[ld (G':=(l0 33).G) λk _=>by rw[iO,Nat.zero_add],iN]
   omega
  .refine⟨rfl,?_⟩;unfold Rw;rw[hG];refine⟨rfl,rN,(λh=>by cases h),λ_ B hB j hj=>?_⟩
   have b0:(l0 0).Z=0:=by
    by_cases e:(l0 0).Z=0
    .exact e
    .exact absurd (h0.bs ((J 9).N-1) ac ac) hE.tN
   have q:=(h0.rb B hB).2 j hj ac;have e:((pO l0 5) 29).G j=(l0 34).G ((l0 21).O+j):=by rw[rO,Nat.zero_add];kernel_rfl
   rw[e]at q;exact kmp q⟩
def uk (J:ae):ae:=tl (evW (Sm J))
def Zo (_:ae):Prop:=True
theorem aaY (J:ae) (h9:(J 9).N<=6):Sa2 (Rw J) (uk J):=mf (Jp J h9)
theorem Ve:Pf1 Sm XO Zs Zw Zo uk:=λJ b1 _ _=>by obtain⟨-,⟨-,h9,-⟩,-⟩:=b1;exact ab9 (Jp J h9)
abbrev aaW:CT:=CS 19 XO Zs Zw Zo uk
theorem Ls:cV KX Tryz.prog GX aaW:=IL (M:=MX) (tb:=NA) (FT:=PB) afE 8 afa (fi:=Wq) (args:=XO) (mem:=Zs) (y:=Zw) (Pr:=Zo) (W:=uk) (λ_ _=>af) af 1 (λ_=>af) λJ b1 b2 b3=>by have h:=Ve J b1 b2 b3;unfold Sm at h;exact h
end
end Go.Proofs.YtldmjbgplgoedaaGreatDoor
