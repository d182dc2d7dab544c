import Derived.Test.YtldmjbgplgoedaaGreatDoorRp31
set_option linter.all false
namespace Go.Proofs.YtldmjbgplgoedaaGreatDoor
noncomputable section
open Go.RowKit U
def vcC (sl:Bool) (s vx vy px py:Int):Cd:=(bif sl then cdF (s==1)else[])++(cdS (vx-px)++cdS (vy-py))
def drK (J:ae) (o d:Nat) (sl:Bool) (p:Int × Int):Nat->Cd × (Int × Int)
 |0=>([],p)
 |k+1=>((drK J o d sl p k).1++vcC sl ((J (o+13)).F (2*d+k)) (J (o+5+4*d+2*k)).Z (J (o+6+4*d+2*k)).Z (drK J o d sl p k).2.1 (drK J o d sl p k).2.2,((J (o+5+4*d+2*k)).Z,(J (o+6+4*d+2*k)).Z))
def slZ (J:ae) (o:Nat):Bool:=(J (o+3)).X||(J 7).Z !=3
def vnZ (J:ae) (o:Nat):Nat:=bif (J (o+3)).X then 2 else 1
def drG (J:ae) (o d:Nat) (p:Int × Int):Cd × (Int × Int):=bif (J (o+1+d)).X then(bif (J (o+3)).X then drK J o d (slZ J o) p 2 else drK J o d (slZ J o) p 1)else([],p)
def cJ (J:ae) (o:Nat):Cd:=bif (J 8).X&&(J 7).Z==3 then cdF (J (o+3)).X else[]
def cC (J:ae) (o:Nat):Cd × (Int × Int):=drG J o 0 ((J 2).Z,(J 3).Z)
def jG (J:ae) (o:Nat):Cd × (Int × Int):=drG J o 1 ((J 4).Z,(J 5).Z)
def gk (J:ae) (o:Nat):Cd:=bif (J o).Z !=2 then[] else cJ J o++(cC J o).1++(jG J o).1
def pdV (J:ae) (o:Nat):ae:=[.i (bif (J o).Z !=2 then(J 2).Z else(cC J o).2.1),.i (bif (J o).Z !=2 then(J 3).Z else(cC J o).2.2),.i (bif (J o).Z !=2 then(J 4).Z else(jG J o).2.1),.i (bif (J o).Z !=2 then(J 5).Z else(jG J o).2.2)]
def V63 (J:ae) (o:Nat):Prop:=∀j,j<8->-63<=(J (o+5+j)).Z/\(J (o+5+j)).Z<=63
theorem ww {J:ae} {o d:Nat} {sl:Bool} {p:Int × Int} (hV:V63 J o) (hd:d<2) (hp:(-63<=p.1/\p.1<=63)/\(-63<=p.2/\p.2<=63)):∀k,k<=2->(-63<=(drK J o d sl p k).2.1/\(drK J o d sl p k).2.1<=63)/\(-63<=(drK J o d sl p k).2.2/\(drK J o d sl p k).2.2<=63)
 |0,_=>hp
 |k+1,h=>by
  have h1:=hV (4*d+2*k) ac;have h2:=hV (1+4*d+2*k) ac;rw[show o+5+(4*d+2*k)=o+5+4*d+2*k by omega]at h1
  rw[show o+5+(1+4*d+2*k)=o+6+4*d+2*k by omega]at h2
  exact⟨h1,h2⟩
theorem aar {sl:Bool} {s vx vy px py:Int} (h1 : -63<=vx/\vx<=63) (h2 : -63<=vy/\vy<=63) (h3 : -63<=px/\px<=63) (h4 : -63<=py/\py<=63):cdN (vcC sl s vx vy px py)<=63:=by
 have a:=jB (v:=vx-px) ac ac;have b:=jB (v:=vy-py) ac ac;unfold vcC;rw[aC,aC];have:cdN (bif sl then cdF (s==1)else[])<=1:=by cases sl;exact Nat.zero_le _;exact Nat.le_refl _
 omega
theorem yu {J:ae} {o d:Nat} {sl:Bool} {p:Int × Int} (hV:V63 J o) (hd:d<2) (hp:(-63<=p.1/\p.1<=63)/\(-63<=p.2/\p.2<=63)):∀k,k<=2->cdN (drK J o d sl p k).1<=63*k
 |0,_=>Nat.le_refl _
 |k+1,h=>by
  have ih:=yu (sl:=sl) hV hd hp k ac;have h3:=ww (sl:=sl) hV hd hp k ac;have h1:=hV (4*d+2*k) ac;have h2:=hV (1+4*d+2*k) ac;rw[show o+5+(4*d+2*k)=o+5+4*d+2*k by omega]at h1
  rw[show o+5+(1+4*d+2*k)=o+6+4*d+2*k by omega]at h2
  have:=aar (sl:=sl) (s:=(J (o+13)).F (2*d+k)) h1 h2 h3.1 h3.2;show cdN ((drK J o d sl p k).1++_)<=_;rw[aC];omega
theorem JP {J:ae} {o:Nat}:vnZ J o<=2:=by unfold vnZ;cases(J (o+3)).X<;>decide
theorem sd {J:ae} {o d:Nat} {p:Int × Int} (hV:V63 J o) (hd:d<2) (hp:(-63<=p.1/\p.1<=63)/\(-63<=p.2/\p.2<=63)):((-63<=(drG J o d p).2.1/\(drG J o d p).2.1<=63)/\(-63<=(drG J o d p).2.2/\(drG J o d p).2.2<=63))/\cdN (drG J o d p).1<=126:=by
 unfold drG
 cases(J (o+1+d)).X with
 |false=>exact⟨hp,Nat.zero_le _⟩
 |true =>
  cases(J (o+3)).X with
  |true=>exact⟨ww (sl:=slZ J o) hV hd hp 2 afH,yu (sl:=slZ J o) hV hd hp 2 afH⟩
  |false=>exact⟨ww (sl:=slZ J o) hV hd hp 1 afH,Nat.le_trans (yu (sl:=slZ J o) hV hd hp 1 afH) afH⟩
theorem KY {J:ae} {o:Nat}:cdN (cJ J o)<=1:=by
 unfold cJ;cases(J 8).X&&(J 7).Z==3
 .exact Nat.zero_le _
 .exact Nat.le_refl _
def Zp (J:ae):Prop:=WrP (wx J 10 11 34) 0 500
def Cy (J:ae):ae:=.i (J 0).Z::.f (J 1).F::(pdV J 12++(cw J 6 4 1161++wrA (wx J 10 11 34) 0 (gk J 12)))
abbrev lB:SP:=mkS ⟨[],[.run 351 Sc,.run 349 Y2,.run 127 sMA,.dead,.dyn 5 0 0 1000000 0 g0 false]⟩ 270 Tryz.f270 [tXO (.nP 0 0)] [.run 351 Sc,.run 349 uX,.run 127 sMA,.dyn 5 0 0 1000000 0 g0 false] [(30001,.sel 35 [(0,⟨[(0,tXO (.nP 0 0)),(34,.tX (.sA adI)),(35,aj 0 0)],[.run 351 uL,.run 349 Y2,.run 127 sMA,.dead,.dyn 5 0 0 1000000 0 g0 false],[3]⟩),(1,⟨[(0,tXO (.nP 0 0)),(34,.tX (.sA adI)),(35,aj 1 1)],[.run 351 aeo,.run 349 Y2,.run 127 sMA,.dead,.dyn 5 0 0 1000000 0 g0 false],[3]⟩)]),(8,.sel 35 [(0,⟨[(0,tXO (.nP 0 0)),(2,aj 0 0),(34,.tX (.sA adI)),(35,aj 0 0),(45,aj 1 2),(46,aj 0 1048576)],[.run 351 uL,.run 349 Y2,.run 127 sMA,.dead,.dyn 5 0 0 1000000 0 g0 false],[3]⟩),(1,⟨[(0,tXO (.nP 0 0)),(2,aj 1 1),(34,.tX (.sA adI)),(35,aj 1 1),(45,aj 1 2),(46,aj 0 1048576)],[.run 351 aeo,.run 349 Y2,.run 127 sMA,.dead,.dyn 5 0 0 1000000 0 g0 false],[3]⟩)]),(10057,.sel 35 [(0,⟨[(0,tXO (.nP 0 0)),(2,aj 0 0),(4,aj 0 1048576),(34,.tX (.sA adI)),(35,aj 0 0),(45,aj 1 2),(46,aj 0 1048576)],[.run 351 uL,.run 349 Y2,.run 127 sMA,.dead,.dyn 5 0 0 1000000 0 g0 false],[3]⟩),(1,⟨[(0,tXO (.nP 0 0)),(2,aj 1 1),(4,aj 0 1048576),(34,.tX (.sA adI)),(35,aj 1 1),(45,aj 1 2),(46,aj 0 1048576)],[.run 351 aeo,.run 349 Y2,.run 127 sMA,.dead,.dyn 5 0 0 1000000 0 g0 false],[3]⟩)]),(4,.unroll 70),(10018,.head ⟨[(0,tXO (.nP 0 0))],[.run 351 Sc,.run 349 Y2,.run 127 sMA,.dead,.dyn 5 0 0 1000000 0 g0 false],[3]⟩)] [Tz,Yu,yC,Z0,aaZ,psC] [] (.tT []) [3]
theorem Cs J R:TR lB J R ((((J 12).Z !=2)->R (ak [.i 0] (cw J 0 35 k2)))/\(((J 12).Z !=2)=false->let x0:ae:=[.i (J 6).Z,.i (J 7).Z,.b (J 8).X,.b (J 9).X];let x1:ae:=FA x0;∃J0:ae->Prop,(((x1 0).X->let x2:ae:=(ak [.b (J 15).X] (cw J 0 35 k2));(Ow x2)/\let x3:ae:=qQ x2;J0 (ak [.i (J 0).Z,.f (J 1).F,.i (J 2).Z,.i (J 3).Z,.i (J 4).Z,.i (J 5).Z,.i (J 6).Z,.i (J 7).Z,.b (J 8).X,.b (J 9).X,.s (x3 0).O (x3 0).N,.i (x3 1).Z] (ak (cw J 12 22 k0) [.l (x3 2).N (x3 2).G])))/\((x1 0).X=false->J0 (cw J 0 35 k2)))/\∀j0,J0 j0->∃J1:ae->Prop,(((!(j0 13).X)->J1 (ak [.b (j0 13).X,.b (j0 14).X,.i 0,.i (j0 0).Z,.f (j0 1).F,.f (zAt [.c (.nI .i64 (-63) 63 (j0 2).Z),.c (.nI .i64 (-63) 63 (j0 3).Z),.c (.nI .i64 (-63) 63 (j0 4).Z),.c (.nI .i64 (-63) 63 (j0 5).Z),.c (.nP 1 0),.c (.nI .i64 1 3 (j0 6).Z),.c (.nI .i64 1 3 (j0 7).Z),.c (.nB true true (j0 8).X),.c (.nB true true (j0 9).X),.c (.nP 2 0)])] (cw j0 4 31 k22)))/\((!(j0 13).X)=false->let x4:ae:=(cw j0 12 22 k0);(Yw x4)/\let x5:ae:=FU x4;∃(I2:ae->Prop) (μ2:ae->Nat),I2 (ak [.i 0,.b (j0 13).X,.b (j0 14).X,.i 0,.i (x5 0).Z,.i 0,.i (j0 0).Z,.f (j0 1).F,.f (zAt [.c (.nI .i64 (-63) 63 (j0 2).Z),.c (.nI .i64 (-63) 63 (j0 3).Z),.c (.nI .i64 (-63) 63 (j0 4).Z),.c (.nI .i64 (-63) 63 (j0 5).Z),.c (.nP 1 0),.c (.nI .i64 1 3 (j0 6).Z),.c (.nI .i64 1 3 (j0 7).Z),.c (.nB true true (j0 8).X),.c (.nB true true (j0 9).X),.c (.nP 2 0)])] (cw j0 4 31 k22))/\∀l2,I2 l2->((decide ((l2 5).Z<(l2 4).Z))->let x6:ae:=(ak [.i (l2 11).Z,.i (l2 12).Z,.b (l2 13).X,.b (l2 14).X] (cw l2 17 22 k0));(Yp x6)/\let x7:ae:=NQ x6;∃J3:ae->Prop,(((x7 0).X->(0<=(l2 5).Z)/\((l2 5).Z<2)/\let x8:ae:=(ak [.b (((l2 30).F (0+((l2 5).Z.toNat*1)))==1),.i (l2 6).Z,.f (l2 7).F,.i ((l2 8).F 0),.i ((l2 8).F (0+1))] (cw l2 9 31 k22));(Ow x8)/\let x9:ae:=qQ x8;J3 (ak [.i (l2 0).Z,.i (l2 5).Z,.b (l2 1).X,.b (l2 2).X,.i (l2 3).Z,.i (l2 4).Z,.i (l2 5).Z,.i (l2 6).Z,.f (l2 7).F,.f (zAt [.c (.nI .i64 (-63) 63 ((l2 8).F 0)),.c (.nI .i64 (-63) 63 ((l2 8).F (0+1))),.c (.nI .i64 (-63) 63 (l2 9).Z),.c (.nI .i64 (-63) 63 (l2 10).Z),.c (.nP 1 0),.c (.nI .i64 1 3 (l2 11).Z),.c (.nI .i64 1 3 (l2 12).Z),.c (.nB true true (l2 13).X),.c (.nB true true (l2 14).X),.c (.nP 2 0)]),.i (l2 9).Z,.i (l2 10).Z,.i (l2 11).Z,.i (l2 12).Z,.b (l2 13).X,.b (l2 14).X,.s (x9 0).O (x9 0).N,.i (x9 1).Z] (ak (cw l2 17 22 k0) [.l (x9 2).N (x9 2).G])))/\((x7 0).X=false->J3 (ak [.i (l2 0).Z,.i (l2 5).Z] (cw l2 1 39 91606950613132282258733898606088786))))/\∀j3,J3 j3->(0<=(j3 1).Z)/\((j3 1).Z<2)/\let x10:ae:=[.i (((zAt [.c (.nI .i64 (-63) 63 (j3 23).Z),.c (.nI .i64 (-63) 63 (j3 24).Z),.c (.nI .i64 (-63) 63 (j3 25).Z),.c (.nI .i64 (-63) 63 (j3 26).Z),.c (.nI .i64 (-63) 63 (j3 27).Z),.c (.nI .i64 (-63) 63 (j3 28).Z),.c (.nI .i64 (-63) 63 (j3 29).Z),.c (.nI .i64 (-63) 63 (j3 30).Z),.a 4 .i64 0 1 (j3 31).F,.c (.nI .i64 0 0 (j3 32).Z),.c (.nB true true (j3 33).X),.c (.nB true true (j3 34).X),.c (.nB true true (j3 35).X),.c (.nB true true (j3 36).X),.c (.nB true true (j3 37).X),.c (.nB true true (j3 38).X),.a 384 .i64 (-4095) 4095 (j3 39).F]) (0+((j3 1).Z.toNat*2)))-((j3 9).F 0)),.s (j3 16).O (j3 16).N,.i (j3 17).Z,.l (j3 40).N (j3 40).G];(psP x10)/\let x11:ae:=psW x10;let x12:ae:=[.i (((zAt [.c (.nI .i64 (-63) 63 (j3 23).Z),.c (.nI .i64 (-63) 63 (j3 24).Z),.c (.nI .i64 (-63) 63 (j3 25).Z),.c (.nI .i64 (-63) 63 (j3 26).Z),.c (.nI .i64 (-63) 63 (j3 27).Z),.c (.nI .i64 (-63) 63 (j3 28).Z),.c (.nI .i64 (-63) 63 (j3 29).Z),.c (.nI .i64 (-63) 63 (j3 30).Z),.a 4 .i64 0 1 (j3 31).F,.c (.nI .i64 0 0 (j3 32).Z),.c (.nB true true (j3 33).X),.c (.nB true true (j3 34).X),.c (.nB true true (j3 35).X),.c (.nB true true (j3 36).X),.c (.nB true true (j3 37).X),.c (.nB true true (j3 38).X),.a 384 .i64 (-4095) 4095 (j3 39).F]) ((0+1)+((j3 1).Z.toNat*2)))-((j3 9).F (0+1))),.s (x11 1).O (x11 1).N,.i (x11 2).Z,.l (x11 3).N (x11 3).G];(psP x12)/\let x13:ae:=psW x12;(((j3 6).Z+1)<=1048576)/\Ag I2 μ2 l2 (ak [.i (j3 0).Z,.b (j3 2).X,.b (j3 3).X,.i (j3 4).Z,.i (j3 5).Z,.i ((j3 6).Z+1),.i (j3 7).Z,.f (j3 8).F,.f (λi0=>(zAt [.c (.nI .i64 (-63) 63 (j3 23).Z),.c (.nI .i64 (-63) 63 (j3 24).Z),.c (.nI .i64 (-63) 63 (j3 25).Z),.c (.nI .i64 (-63) 63 (j3 26).Z),.c (.nI .i64 (-63) 63 (j3 27).Z),.c (.nI .i64 (-63) 63 (j3 28).Z),.c (.nI .i64 (-63) 63 (j3 29).Z),.c (.nI .i64 (-63) 63 (j3 30).Z),.a 4 .i64 0 1 (j3 31).F,.c (.nI .i64 0 0 (j3 32).Z),.c (.nB true true (j3 33).X),.c (.nB true true (j3 34).X),.c (.nB true true (j3 35).X),.c (.nB true true (j3 36).X),.c (.nB true true (j3 37).X),.c (.nB true true (j3 38).X),.a 384 .i64 (-4095) 4095 (j3 39).F]) (i0+((j3 1).Z.toNat*2))),.i (j3 10).Z,.i (j3 11).Z,.i (j3 12).Z,.i (j3 13).Z,.b (j3 14).X,.b (j3 15).X,.s (x13 1).O (x13 1).N,.i (x13 2).Z] (ak (cw j3 18 22 k0) [.l (x13 3).N (x13 3).G])))/\((decide ((l2 5).Z<(l2 4).Z))=false->J1 (ak [.b (l2 1).X,.b (l2 2).X,.i (l2 3).Z] (cw l2 6 34 2795622272129281074790463214297)))))/\∀j1,J1 j1->∃J2:ae->Prop,(((!(j1 1).X)->J2 (ak [.b (j1 0).X,.b (j1 1).X,.i 1,.i (j1 3).Z,.f (j1 4).F,.f (j1 5).F,.f (zAt [.c (.nI .i64 (-63) 63 (j1 6).Z),.c (.nI .i64 (-63) 63 (j1 7).Z),.c (.nP 1 0),.c (.nI .i64 1 3 (j1 8).Z),.c (.nI .i64 1 3 (j1 9).Z),.c (.nB true true (j1 10).X),.c (.nB true true (j1 11).X),.c (.nP 2 0)])] (cw j1 8 29 k17)))/\((!(j1 1).X)=false->let x14:ae:=(cw j1 14 22 k0);(Yw x14)/\let x15:ae:=FU x14;∃(I3:ae->Prop) (μ3:ae->Nat),I3 (ak [.i 1,.b (j1 0).X,.b (j1 1).X,.i 1,.i (x15 0).Z,.i 0,.i (j1 3).Z,.f (j1 4).F,.f (j1 5).F,.f (zAt [.c (.nI .i64 (-63) 63 (j1 6).Z),.c (.nI .i64 (-63) 63 (j1 7).Z),.c (.nP 1 0),.c (.nI .i64 1 3 (j1 8).Z),.c (.nI .i64 1 3 (j1 9).Z),.c (.nB true true (j1 10).X),.c (.nB true true (j1 11).X),.c (.nP 2 0)])] (cw j1 8 29 k17))/\∀l3,I3 l3->((decide ((l3 5).Z<(l3 4).Z))->let x16:ae:=(ak [.i (l3 10).Z,.i (l3 11).Z,.b (l3 12).X,.b (l3 13).X] (cw l3 16 22 k0));(Yp x16)/\let x17:ae:=NQ x16;∃J4:ae->Prop,(((x17 0).X->(0<=(l3 5).Z)/\((l3 5).Z<2)/\let x18:ae:=(ak [.b (((l3 29).F ((0+((l3 5).Z.toNat*1))+2))==1),.i (l3 6).Z,.f (l3 7).F,.i ((l3 8).F 0),.i ((l3 8).F (0+1)),.i ((l3 9).F 0),.i ((l3 9).F (0+1))] (cw l3 10 29 k17));(Ow x18)/\let x19:ae:=qQ x18;J4 (ak [.i (l3 0).Z,.i (l3 5).Z,.b (l3 1).X,.b (l3 2).X,.i (l3 3).Z,.i (l3 4).Z,.i (l3 5).Z,.i (l3 6).Z,.f (l3 7).F,.f (zAt [.c (.nI .i64 (-63) 63 ((l3 8).F 0)),.c (.nI .i64 (-63) 63 ((l3 8).F (0+1))),.c (.nI .i64 (-63) 63 ((l3 9).F 0)),.c (.nI .i64 (-63) 63 ((l3 9).F (0+1))),.c (.nP 1 0),.c (.nI .i64 1 3 (l3 10).Z),.c (.nI .i64 1 3 (l3 11).Z),.c (.nB true true (l3 12).X),.c (.nB true true (l3 13).X),.c (.nP 2 0)]),.f (zAt [.c (.nI .i64 (-63) 63 ((l3 9).F 0)),.c (.nI .i64 (-63) 63 ((l3 9).F (0+1))),.c (.nP 1 0),.c (.nI .i64 1 3 (l3 10).Z),.c (.nI .i64 1 3 (l3 11).Z),.c (.nB true true (l3 12).X),.c (.nB true true (l3 13).X),.c (.nP 2 0)]),.i (l3 10).Z,.i (l3 11).Z,.b (l3 12).X,.b (l3 13).X,.s (x19 0).O (x19 0).N,.i (x19 1).Z] (ak (cw l3 16 22 k0) [.l (x19 2).N (x19 2).G])))/\((x17 0).X=false->J4 (ak [.i (l3 0).Z,.i (l3 5).Z] (cw l3 1 38 11450868826641535282341737363444306))))/\∀j4,J4 j4->(0<=(j4 1).Z)/\((j4 1).Z<2)/\let x20:ae:=[.i (((zAt [.c (.nI .i64 (-63) 63 (j4 26).Z),.c (.nI .i64 (-63) 63 (j4 27).Z),.c (.nI .i64 (-63) 63 (j4 28).Z),.c (.nI .i64 (-63) 63 (j4 29).Z),.a 4 .i64 0 1 (j4 30).F,.c (.nI .i64 0 0 (j4 31).Z),.c (.nB true true (j4 32).X),.c (.nB true true (j4 33).X),.c (.nB true true (j4 34).X),.c (.nB true true (j4 35).X),.c (.nB true true (j4 36).X),.c (.nB true true (j4 37).X),.a 384 .i64 (-4095) 4095 (j4 38).F]) (0+((j4 1).Z.toNat*2)))-((j4 10).F 0)),.s (j4 15).O (j4 15).N,.i (j4 16).Z,.l (j4 39).N (j4 39).G];(psP x20)/\let x21:ae:=psW x20;let x22:ae:=[.i (((zAt [.c (.nI .i64 (-63) 63 (j4 26).Z),.c (.nI .i64 (-63) 63 (j4 27).Z),.c (.nI .i64 (-63) 63 (j4 28).Z),.c (.nI .i64 (-63) 63 (j4 29).Z),.a 4 .i64 0 1 (j4 30).F,.c (.nI .i64 0 0 (j4 31).Z),.c (.nB true true (j4 32).X),.c (.nB true true (j4 33).X),.c (.nB true true (j4 34).X),.c (.nB true true (j4 35).X),.c (.nB true true (j4 36).X),.c (.nB true true (j4 37).X),.a 384 .i64 (-4095) 4095 (j4 38).F]) ((0+1)+((j4 1).Z.toNat*2)))-((j4 10).F (0+1))),.s (x21 1).O (x21 1).N,.i (x21 2).Z,.l (x21 3).N (x21 3).G];(psP x22)/\let x23:ae:=psW x22;(((j4 6).Z+1)<=1048576)/\Ag I3 μ3 l3 (ak [.i (j4 0).Z,.b (j4 2).X,.b (j4 3).X,.i (j4 4).Z,.i (j4 5).Z,.i ((j4 6).Z+1),.i (j4 7).Z,.f (j4 8).F,.f (j4 9).F,.f (λi0=>(zAt [.c (.nI .i64 (-63) 63 (j4 26).Z),.c (.nI .i64 (-63) 63 (j4 27).Z),.c (.nI .i64 (-63) 63 (j4 28).Z),.c (.nI .i64 (-63) 63 (j4 29).Z),.a 4 .i64 0 1 (j4 30).F,.c (.nI .i64 0 0 (j4 31).Z),.c (.nB true true (j4 32).X),.c (.nB true true (j4 33).X),.c (.nB true true (j4 34).X),.c (.nB true true (j4 35).X),.c (.nB true true (j4 36).X),.c (.nB true true (j4 37).X),.a 384 .i64 (-4095) 4095 (j4 38).F]) (i0+((j4 1).Z.toNat*2))),.i (j4 11).Z,.i (j4 12).Z,.b (j4 13).X,.b (j4 14).X,.s (x23 1).O (x23 1).N,.i (x23 2).Z] (ak (cw j4 17 22 k0) [.l (x23 3).N (x23 3).G])))/\((decide ((l3 5).Z<(l3 4).Z))=false->J2 (ak [.b (l3 1).X,.b (l3 2).X,.i (l3 3).Z] (cw l3 6 33 349452784016160134348807902937)))))/\∀j2,J2 j2->R (ak [.i 0,.i (j2 3).Z,.f (j2 4).F,.i ((j2 5).F 0),.i ((j2 5).F (0+1)),.i ((j2 6).F 0),.i ((j2 6).F (0+1))] (cw j2 7 29 k17)))):=af
def aeR (J:ae) (m:Nat) (g:Nat->ae):ae:=ak (cw J 0 10 304386649) (ak [.s 0 (rl m),.i m] (ak (cw J 12 22 k0) [.l (rl m) g]))
def aex (J:ae) (m:Nat) (f:Nat->Int) (g:Nat->ae):ae:=ak [.b (J 13).X,.b (J 14).X,.i 0,.i (J 0).Z,.f (J 1).F,.f f] (ak (cw J 4 6 74313) (ak [.s 0 (rl m),.i m] (ak (cw J 12 22 k0) [.l (rl m) g])))
def aev (J:ae) (m:Nat) (f f':Nat->Int) (g:Nat->ae):ae:=ak [.b (J 13).X,.b (J 14).X,.i 1,.i (J 0).Z,.f (J 1).F,.f f,.f f'] (ak (cw J 6 4 1161) (ak [.s 0 (rl m),.i m] (ak (cw J 12 22 k0) [.l (rl m) g])))
def Ye (J:ae) (k m:Nat) (f:Nat->Int) (g:Nat->ae):ae:=ak [.i 0,.b (J 13).X,.b (J 14).X,.i 0,.i (vnZ J 12),.i k,.i (J 0).Z,.f (J 1).F,.f f] (ak (cw J 4 6 74313) (ak [.s 0 (rl m),.i m] (ak (cw J 12 22 k0) [.l (rl m) g])))
def Yo (J:ae) (f:Nat->Int) (k m:Nat) (f':Nat->Int) (g:Nat->ae):ae:=ak [.i 1,.b (J 13).X,.b (J 14).X,.i 1,.i (vnZ J 12),.i k,.i (J 0).Z,.f (J 1).F,.f f,.f f'] (ak (cw J 6 4 1161) (ak [.s 0 (rl m),.i m] (ak (cw J 12 22 k0) [.l (rl m) g])))
theorem o6 {B:Nat->Int} {n:Nat} {c:Cd} {g:Nat->ae} (hP:Packed g (cdB B n c) (n+cdN c) (rl (n+cdN c))) {l:ae} {o:Nat} (h:pre 3 (tls o l)=[.s 0 (rl (n+cdN c)),.i ((n+cdN c:Nat):Int),.l (rl (n+cdN c)) g]):WrH l o B n c:=by
 have h0:l o=.s 0 (rl (n+cdN c)):=by
  have:l (o+0)=at_ [Lf.s 0 (rl (n+cdN c)),.i ((n+cdN c:Nat):Int),.l (rl (n+cdN c)) g] 0:=by rw[<-h,<-de];rfl
  exact this
 have h1:l (o+1)=.i ((n+cdN c:Nat):Int):=by
  have:l (o+1)=at_ [Lf.s 0 (rl (n+cdN c)),.i ((n+cdN c:Nat):Int),.l (rl (n+cdN c)) g] 1:=by rw[<-h,<-de];rfl
  exact this
 have h2:l (o+2)=.l (rl (n+cdN c)) g:=by
  have:l (o+2)=at_ [Lf.s 0 (rl (n+cdN c)),.i ((n+cdN c:Nat):Int),.l (rl (n+cdN c)) g] 2:=by rw[<-h,<-de];rfl
  exact this
 exact⟨by rw[h0];rfl,by rw[h0];rfl,by rw[h1];rfl,by rw[h2];rfl,by rw[h2];exact hP⟩
theorem SY:∀J,bTs KX 1 (au lB.A J)->bBs KX 1 (an lB.M (tls (aG lB.A) J))->Zp J->Sa (TS lB J) (qS KX [false,false,true,false] lB.M lB.Y.sk [.run 351 [am 1 31,.a 3 .i64 (-4095) 4095 z0,am (-63) 63,am (-63) 63,am (-63) 63,am (-63) 63,.c (.nP 1 0),am 1 3,am 1 3,av,av,.c (.nP 2 0)],.run 349 [.c (.nD 4 0 0 1000000 0 0),am 0 8000000],.dead,.dyn 5 0 0 1000000 0 g0 false] (tls (aG lB.A) J) (Cy J)):=λJ b1 b2 hp=>⟨by
 rw[Cs]
 have nn:0<=(J 11).Z/\V63 J 12/\((-63<=(J 2).Z/\(J 2).Z<=63)/\(-63<=(J 3).Z/\(J 3).Z<=63))/\((-63<=(J 4).Z/\(J 4).Z<=63)/\(-63<=(J 5).Z/\(J 5).Z<=63)):=by
  obtain⟨⟨-,-,p0,p1,p2,p3,-⟩,⟨-,⟨n1,-⟩,-⟩,⟨-,-,-,-,-,v0,v1,v2,v3,v4,v5,v6,v7,-⟩,-⟩:=b2;refine⟨n1,λj hj=>?_,⟨p0,p1⟩,p2,p3⟩
  match j,hj with
  |0,_=>exact v0
  |1,_=>exact v1
  |2,_=>exact v2
  |3,_=>exact v3
  |4,_=>exact v4
  |5,_=>exact v5
  |6,_=>exact v6
  |7,_=>exact v7
  |j+8,h=>omega
 obtain⟨n1,hV,hp0,hp1⟩:=nn;clear b1 b2;have hp:WrP (wx J 10 11 34) 0 500:=hp;have h0:=WrH.init hp n1;have hr:=hp.2.2.2;have hr:(J 11).Z+500<=8000000:=hr;have eb:((FA [.i (J 6).Z,.i (J 7).Z,.b (J 8).X,.b (J 9).X]) 0).X=((J 8).X&&(J 7).Z==3):=rfl;have hW:Cy J=.i (J 0).Z::.f (J 1).F::(pdV J 12++(cw J 6 4 1161++wrC (aR (J 34).G) (J 11).Z.toNat (gk J 12))):=rfl;rw[hW];unfold pdV gk;dsimp only;rw[eb];refine br_ (λq=>?_) λq=>?_
 .rw[q];have ha:=h0.ag;exact⟨rfl,ah,ay af,ha.1,ay af,ah,ha.2⟩
 rw[q];have hB:=bw (J 34).G;have e1:(J 10).O=0:=h0.O;have e2:(J 10).N=rl (J 11).Z.toNat:=h0.N;have e3:(J 11).Z=(((J 11).Z.toNat:Nat):Int):=h0.Z;have e4:(J 34).N=rl (J 11).Z.toNat:=h0.L;have hP0:Packed (J 34).G (aR (J 34).G) (J 11).Z.toNat (rl (J 11).Z.toNat):=h0.P;generalize hnn:(J 11).Z.toNat=n at *;generalize hBB:aR (J 34).G=B at *;have hnr:n+500<=8000000:=ac;refine⟨λj=>∃g,Packed g (cdB B n (cJ J 12)) (n+cdN (cJ J 12)) (rl (n+cdN (cJ J 12)))/\j=aeR J (n+cdN (cJ J 12)) g,br_ (λq1=>?_) (λq1=>?_),?_⟩
 .have eF:cJ J 12=cdF (J 15).X:=by unfold cJ;rw[q1];rfl
  rw[eF];refine⟨kmp (hp.less (show 1<=500 by decide)),ch (cdB B n (cdF (J 15).X)) (n+1),bl,?_⟩
  rw[<-hnn,<-hBB]
  kernel_rfl
 .have eF:cJ J 12=[]:=by unfold cJ;rw[q1];rfl
  rw[eF];refine⟨(J 34).G,hP0,?_⟩;refine Eq.trans (b:=ak (cw J 0 10 304386649) (ak [.s (J 10).O (J 10).N,.i (J 11).Z] (ak (cw J 12 22 k0) [.l (J 34).N (J 34).G]))) af ?_;rw[e1,e2,e3,e4]
  kernel_rfl
 rintro j0 ⟨gg,hgg,hj0⟩;have hF:=KY (J:=J) (o:=12);refine⟨λj=>∃f g,f 0=(cC J 12).2.1/\f 1=(cC J 12).2.2/\Packed g (cdB B n (cJ J 12++(cC J 12).1)) (n+cdN (cJ J 12++(cC J 12).1)) (rl (n+cdN (cJ J 12++(cC J 12).1)))/\j=aex J (n+cdN (cJ J 12++(cC J 12).1)) f g,br_ (λq=>?_) (λq=>?_),?_⟩
 .have q:(J 13).X=false:=by
   have e:(j0 13).X=(J 13).X:=by rw[hj0];kernel_rfl
   rw[e]at q
   simpa using q
  have eG:cC J 12=([],((J 2).Z,(J 3).Z)):=by unfold cC drG;rw[show J (12+1+0)=J 13 from rfl,q];rfl
  rw[eG];refine⟨zAt [.c (.nI .i64 (-63) 63 (j0 2).Z),.c (.nI .i64 (-63) 63 (j0 3).Z),.c (.nI .i64 (-63) 63 (j0 4).Z),.c (.nI .i64 (-63) 63 (j0 5).Z),.c (.nP 1 0),.c (.nI .i64 1 3 (j0 6).Z),.c (.nI .i64 1 3 (j0 7).Z),.c (.nB true true (j0 8).X),.c (.nB true true (j0 9).X),.c (.nP 2 0)],gg,by rw[hj0];kernel_rfl,by rw[hj0];kernel_rfl,?_,?_⟩
  .show Packed gg (cdB B n (cJ J 12++[])) (n+cdN (cJ J 12++[])) (rl (n+cdN (cJ J 12++[])));rw[List.append_nil];exact hgg
  .show _=aex J (n+cdN (cJ J 12++[])) _ gg;rw[List.append_nil,hj0]
   kernel_rfl
 .
  have q:(J 13).X=true:=by
   have e:(j0 13).X=(J 13).X:=by rw[hj0];kernel_rfl
   rw[e]at q
   simpa using q
  have eG:cC J 12=drK J 12 0 (slZ J 12) ((J 2).Z,(J 3).Z) (vnZ J 12):=by unfold cC drG;rw[show J (12+1+0)=J 13 from rfl,q];unfold vnZ;cases(J (12+3)).X<;>rfl
  have eA:cJ J 12++(drK J 12 0 (slZ J 12) ((J 2).Z,(J 3).Z) 0).1=cJ J 12:=List.append_nil _;refine⟨ah,?_⟩;refine bG (vnZ J 12) 5 (λk (x:(Nat->Int) × (Nat->ae) × (Nat->Int))=>True/\x.1 0=(drK J 12 0 (slZ J 12) ((J 2).Z,(J 3).Z) k).2.1/\x.1 1=(drK J 12 0 (slZ J 12) ((J 2).Z,(J 3).Z) k).2.2/\Packed x.2.1 (cdB B n (cJ J 12++(drK J 12 0 (slZ J 12) ((J 2).Z,(J 3).Z) k).1)) (n+cdN (cJ J 12++(drK J 12 0 (slZ J 12) ((J 2).Z,(J 3).Z) k).1)) (rl (n+cdN (cJ J 12++(drK J 12 0 (slZ J 12) ((J 2).Z,(J 3).Z) k).1)))) (λk x=>Ye J k (n+cdN (cJ J 12++(drK J 12 0 (slZ J 12) ((J 2).Z,(J 3).Z) k).1)) x.1 x.2.1) (λ_ _ _=>af) (zAt [.c (.nI .i64 (-63) 63 (j0 2).Z),.c (.nI .i64 (-63) 63 (j0 3).Z),.c (.nI .i64 (-63) 63 (j0 4).Z),.c (.nI .i64 (-63) 63 (j0 5).Z),.c (.nP 1 0),.c (.nI .i64 1 3 (j0 6).Z),.c (.nI .i64 1 3 (j0 7).Z),.c (.nB true true (j0 8).X),.c (.nB true true (j0 9).X),.c (.nP 2 0)],gg,λ_=>0) ?_ ⟨ah,by rw[hj0];kernel_rfl,by rw[hj0];kernel_rfl,?_⟩ λI μ hA k x l hk hx hl=>?_
  .have ev:((FU (cw j0 12 22 k0)) 0).Z=((vnZ J 12:Nat):Int):=by
    have:((FU (cw j0 12 22 k0)) 0).Z=bif (J 15).X then 2 else 1:=by rw[hj0];kernel_rfl
    rw[this];show _=(((bif (J 15).X then 2 else 1:Nat)):Int)
    cases(J 15).X<;>rfl
   rw[ev,eA,hj0];show(_:ae)=_
   kernel_rfl
  .rw[eA];exact hgg
  obtain⟨f,g,h⟩:=x;obtain⟨hh,hf0,hf1,hP⟩:=hx;have hh:True:=hh;have hk2:=JP (J:=J) (o:=12);have hv:=ww (sl:=slZ J 12) (p:=((J 2).Z,(J 3).Z)) hV (show 0<2 by decide) hp0 k ac
  have hn:=yu (sl:=slZ J 12) (p:=((J 2).Z,(J 3).Z)) hV (show 0<2 by decide) hp0 k ac
  have e5:(l 5).Z=k:=by rw[hl];kernel_rfl
  have e4:(l 4).Z=(vnZ J 12:Nat):=by rw[hl];kernel_rfl
  have hf0:f 0=(drK J 12 0 (slZ J 12) ((J 2).Z,(J 3).Z) k).2.1:=hf0;have hf1:f 1=(drK J 12 0 (slZ J 12) ((J 2).Z,(J 3).Z) k).2.2:=hf1;refine br_ (λq1=>?_) λq1=>?_
  .have q1:=ai q1;rw[e5,e4]at q1;have hstep:drK J 12 0 (slZ J 12) ((J 2).Z,(J 3).Z) (k+1)=((drK J 12 0 (slZ J 12) ((J 2).Z,(J 3).Z) k).1++vcC (slZ J 12) ((J 25).F (2*0+k)) (J (12+5+4*0+2*k)).Z (J (12+6+4*0+2*k)).Z (drK J 12 0 (slZ J 12) ((J 2).Z,(J 3).Z) k).2.1 (drK J 12 0 (slZ J 12) ((J 2).Z,(J 3).Z) k).2.2,((J (12+5+4*0+2*k)).Z,(J (12+6+4*0+2*k)).Z)):=rfl;have hV1:=hV (4*0+2*k) ac;have hV2:=hV (1+4*0+2*k) ac;rw[show 12+5+(4*0+2*k)=12+5+4*0+2*k by omega]at hV1
   rw[show 12+5+(1+4*0+2*k)=12+6+4*0+2*k by omega]at hV2
   have es:((NQ (ak [.i (l 11).Z,.i (l 12).Z,.b (l 13).X,.b (l 14).X] (cw l 17 22 k0))) 0).X=slZ J 12:=by rw[hl];kernel_rfl
   generalize hck:cJ J 12++(drK J 12 0 (slZ J 12) ((J 2).Z,(J 3).Z) k).1=ck at *
   have hckn:cdN ck<=127:=by rw[<-hck,aC];omega
   rw[es];refine⟨ah,λj=>∃(f':Nat->Int) (g':Nat->ae) (h':Nat->Int),(f' 0=f 0/\f' 1=f 1)/\True/\Packed g' (cdB B n (ck++(bif slZ J 12 then cdF ((J 25).F (2*0+k)==1)else[]))) (n+cdN (ck++(bif slZ J 12 then cdF ((J 25).F (2*0+k)==1)else[]))) (rl (n+cdN (ck++(bif slZ J 12 then cdF ((J 25).F (2*0+k)==1)else[]))))/\j=.i 0::.i k::tls 1 (Ye J k (n+cdN (ck++(bif slZ J 12 then cdF ((J 25).F (2*0+k)==1)else[]))) f' g'),br_ (λq2=>?_) (λq2=>?_),?_⟩
   .rw[q2,e5,ap]
    have esl:((l 30).F (0+k*1)==1)=((J 25).F (2*0+k)==1):=by
     rw[show(0+k*1)=2*0+k by omega]
     rw[hl]
     kernel_rfl
    rw[esl];have hw:WrH (wx (ak [.b ((J 25).F (2*0+k)==1),.i (l 6).Z,.f (l 7).F,.i ((l 8).F 0),.i ((l 8).F (0+1))] (cw l 9 31 k22)) 11 12 35) 0 B n ck:=o6 hP (by rw[hl];kernel_rfl)
    refine⟨ac,ac,hw.toP hB ac,?_⟩;generalize hr1:qQ _=r1;have hr1:r1=wrC B n (ck++cdF ((J 25).F (2*0+k)==1)):=by rw[<-hr1];exact hw.add hB
    subst hr1;refine⟨zAt [.c (.nI .i64 (-63) 63 ((l 8).F 0)),.c (.nI .i64 (-63) 63 ((l 8).F (0+1))),.c (.nI .i64 (-63) 63 (l 9).Z),.c (.nI .i64 (-63) 63 (l 10).Z),.c (.nP 1 0),.c (.nI .i64 1 3 (l 11).Z),.c (.nI .i64 1 3 (l 12).Z),.c (.nB true true (l 13).X),.c (.nB true true (l 14).X),.c (.nP 2 0)],ch (cdB B n (ck++cdF ((J 25).F (2*0+k)==1))) (n+cdN (ck++cdF ((J 25).F (2*0+k)==1))),λ_=>0,⟨?_,?_⟩,ah,bl,?_⟩
    .rw[hl];kernel_rfl
    .rw[hl];kernel_rfl
    .rw[<-e5];rw[hl];kernel_rfl
   .rw[q2];refine⟨f,g,h,⟨rfl,rfl⟩,hh,?_,?_⟩
    .show Packed g (cdB B n (ck++[])) (n+cdN (ck++[])) (rl (n+cdN (ck++[])));rw[List.append_nil];exact hP
    .show _=Lf.i 0::Lf.i k::tls 1 (Ye J k (n+cdN (ck++[])) f g);rw[List.append_nil,<-e5,hl]
     kernel_rfl
   rintro j3 ⟨f',g',h',⟨hf'0,hf'1⟩,hh',hP',hj3⟩;generalize hc3:ck++(bif slZ J 12 then cdF ((J 25).F (2*0+k)==1)else[])=c3 at *
   have hc3n:cdN c3<=127+1:=by
    rw[<-hc3,aC];have:cdN (bif slZ J 12 then cdF ((J 25).F (2*0+k)==1)else[])<=1:=by cases slZ J 12;exact Nat.zero_le _;exact Nat.le_refl _
    omega
   have k1:(j3 1).Z=k:=by rw[hj3];kernel_rfl
   have kf0:(j3 9).F 0=f' 0:=by rw[hj3];kernel_rfl
   have kf1:(j3 9).F (0+1)=f' 1:=by rw[hj3];kernel_rfl
   rw[k1,kf0,kf1,hf'0,hf'1,hf0,hf1,ap];generalize hzz:zAt [.c (.nI .i64 (-63) 63 (j3 23).Z),.c (.nI .i64 (-63) 63 (j3 24).Z),.c (.nI .i64 (-63) 63 (j3 25).Z),.c (.nI .i64 (-63) 63 (j3 26).Z),.c (.nI .i64 (-63) 63 (j3 27).Z),.c (.nI .i64 (-63) 63 (j3 28).Z),.c (.nI .i64 (-63) 63 (j3 29).Z),.c (.nI .i64 (-63) 63 (j3 30).Z),.a 4 .i64 0 1 (j3 31).F,.c (.nI .i64 0 0 (j3 32).Z),.c (.nB true true (j3 33).X),.c (.nB true true (j3 34).X),.c (.nB true true (j3 35).X),.c (.nB true true (j3 36).X),.c (.nB true true (j3 37).X),.c (.nB true true (j3 38).X),.a 384 .i64 (-4095) 4095 (j3 39).F]=zz
   have hz0:zz (0+k*2)=(J (12+5+4*0+2*k)).Z:=by rw[<-hzz,hj3];rcases(show k=0\/k=1 by omega)with e | e<;>subst e<;>kernel_rfl
   have hz1:zz (0+1+k*2)=(J (12+6+4*0+2*k)).Z:=by rw[<-hzz,hj3];rcases(show k=0\/k=1 by omega)with e | e<;>subst e<;>kernel_rfl
   rw[hz0,hz1];generalize (J (12+5+4*0+2*k)).Z=vx at *;generalize (J (12+6+4*0+2*k)).Z=vy at *;generalize hpp:(drK J 12 0 (slZ J 12) ((J 2).Z,(J 3).Z) k).2=pp at *;have k4:=jB (v:=vx-pp.1) ac ac;have k5:=jB (v:=vy-pp.2) ac ac;have hw1:WrH [.i (vx-pp.1),.s (j3 16).O (j3 16).N,.i (j3 17).Z,.l (j3 40).N (j3 40).G] 1 B n c3:=o6 hP' (by rw[hj3];kernel_rfl)
   refine⟨ac,ac,hw1.toP hB ac,?_⟩;generalize hr1:psW _=r1;have hr1:r1=.i 0::wrC B n (c3++cdS (vx-pp.1)):=by rw[<-hr1];exact congrArg (List.cons (Lf.i 0)) (hw1.add hB)
   subst hr1;have k6:=aC c3 (cdS (vx-pp.1));have hw2:WrH [.i (vy-pp.2),.s (at_ (.i 0::wrC B n (c3++cdS (vx-pp.1))) 1).O (at_ (.i 0::wrC B n (c3++cdS (vx-pp.1))) 1).N,.i (at_ (.i 0::wrC B n (c3++cdS (vx-pp.1))) 2).Z,.l (at_ (.i 0::wrC B n (c3++cdS (vx-pp.1))) 3).N (at_ (.i 0::wrC B n (c3++cdS (vx-pp.1))) 3).G] 1 B n (c3++cdS (vx-pp.1)):=WrH.of hB af;refine⟨hw2.toP hB ac,?_⟩;generalize hr2:psW _=r2;have hr2:r2=.i 0::wrC B n (c3++cdS (vx-pp.1)++cdS (vy-pp.2)):=by rw[<-hr2];exact congrArg (List.cons (Lf.i 0)) (hw2.add hB)
   subst hr2;have k66:(j3 6).Z=k:=by rw[hj3];kernel_rfl
   rw[k66]
   have ecc:cJ J 12++(drK J 12 0 (slZ J 12) ((J 2).Z,(J 3).Z) (k+1)).1=c3++cdS (vx-pp.1)++cdS (vy-pp.2):=by rw[hstep];show cJ J 12++((drK J 12 0 (slZ J 12) ((J 2).Z,(J 3).Z) k).1++vcC (slZ J 12) ((J 25).F (2*0+k)) vx vy pp.1 pp.2)=_;rw[<-List.append_assoc,hck,<-hc3];unfold vcC;simp only[List.append_assoc]
   refine⟨ac,hA k (f,g,h) ((λi0=>zz (i0+k*2)),ch (cdB B n (c3++cdS (vx-pp.1)++cdS (vy-pp.2))) (n+cdN (c3++cdS (vx-pp.1)++cdS (vy-pp.2))),h') _ _ ac ⟨hh',?_,?_,?_⟩ (by rw[hck];exact hl) ?_⟩
   .rw[hstep];exact hz0
   .rw[hstep];exact hz1
   .rw[ecc];exact bl
   .show _=Ye J (k+1) (n+cdN (cJ J 12++(drK J 12 0 (slZ J 12) ((J 2).Z,(J 3).Z) (k+1)).1)) _ _;rw[ecc,hj3,<-hzz];rw[hj3]
    kernel_rfl
  .have q1:=aQ q1;rw[e5,e4]at q1;have ek:k=vnZ J 12:=ac;subst ek;rw[<-eG]at hP hf0 hf1;rw[<-eG]at hl;exact⟨f,g,hf0,hf1,hP,by rw[hl];kernel_rfl⟩
 rintro j1 ⟨f0,gg,hf00,hf01,hgg,hj1⟩;have hG0:=(sd (p:=((J 2).Z,(J 3).Z)) hV (show 0<2 by decide) hp0).2
 have hG0:cdN (cC J 12).1<=126:=hG0;have hFG:cdN (cJ J 12++(cC J 12).1)<=127:=by rw[aC];omega
 refine⟨λj=>∃f f' g,f 0=(cC J 12).2.1/\f 1=(cC J 12).2.2/\f' 0=(jG J 12).2.1/\f' 1=(jG J 12).2.2/\Packed g (cdB B n (cJ J 12++(cC J 12).1++(jG J 12).1)) (n+cdN (cJ J 12++(cC J 12).1++(jG J 12).1)) (rl (n+cdN (cJ J 12++(cC J 12).1++(jG J 12).1)))/\j=aev J (n+cdN (cJ J 12++(cC J 12).1++(jG J 12).1)) f f' g,br_ (λq=>?_) (λq=>?_),?_⟩
 .have q:(J 14).X=false:=by
   have e:(j1 1).X=(J 14).X:=by rw[hj1];kernel_rfl
   rw[e]at q
   simpa using q
  have eG:jG J 12=([],((J 4).Z,(J 5).Z)):=by unfold jG drG;rw[show J (12+1+1)=J 14 from rfl,q];rfl
  rw[eG];refine⟨f0,zAt [.c (.nI .i64 (-63) 63 (j1 6).Z),.c (.nI .i64 (-63) 63 (j1 7).Z),.c (.nP 1 0),.c (.nI .i64 1 3 (j1 8).Z),.c (.nI .i64 1 3 (j1 9).Z),.c (.nB true true (j1 10).X),.c (.nB true true (j1 11).X),.c (.nP 2 0)],gg,hf00,hf01,by rw[hj1];kernel_rfl,by rw[hj1];kernel_rfl,?_,?_⟩
  .show Packed gg (cdB B n (cJ J 12++(cC J 12).1++[])) (n+cdN (cJ J 12++(cC J 12).1++[])) (rl (n+cdN (cJ J 12++(cC J 12).1++[])));rw[List.append_nil];exact hgg
  .show _=aev J (n+cdN (cJ J 12++(cC J 12).1++[])) f0 _ gg;rw[List.append_nil,hj1]
   kernel_rfl
 .
  have q:(J 14).X=true:=by
   have e:(j1 1).X=(J 14).X:=by rw[hj1];kernel_rfl
   rw[e]at q
   simpa using q
  have eG:jG J 12=drK J 12 1 (slZ J 12) ((J 4).Z,(J 5).Z) (vnZ J 12):=by unfold jG drG;rw[show J (12+1+1)=J 14 from rfl,q];unfold vnZ;cases(J (12+3)).X<;>rfl
  have eA:(cJ J 12++(cC J 12).1)++(drK J 12 1 (slZ J 12) ((J 4).Z,(J 5).Z) 0).1=(cJ J 12++(cC J 12).1):=List.append_nil _;refine⟨ah,?_⟩;refine bG (vnZ J 12) 5 (λk (x:(Nat->Int) × (Nat->ae) × (Nat->Int))=>(x.2.2 0=(cC J 12).2.1/\x.2.2 1=(cC J 12).2.2)/\x.1 0=(drK J 12 1 (slZ J 12) ((J 4).Z,(J 5).Z) k).2.1/\x.1 1=(drK J 12 1 (slZ J 12) ((J 4).Z,(J 5).Z) k).2.2/\Packed x.2.1 (cdB B n ((cJ J 12++(cC J 12).1)++(drK J 12 1 (slZ J 12) ((J 4).Z,(J 5).Z) k).1)) (n+cdN ((cJ J 12++(cC J 12).1)++(drK J 12 1 (slZ J 12) ((J 4).Z,(J 5).Z) k).1)) (rl (n+cdN ((cJ J 12++(cC J 12).1)++(drK J 12 1 (slZ J 12) ((J 4).Z,(J 5).Z) k).1)))) (λk x=>Yo J x.2.2 k (n+cdN ((cJ J 12++(cC J 12).1)++(drK J 12 1 (slZ J 12) ((J 4).Z,(J 5).Z) k).1)) x.1 x.2.1) (λ_ _ _=>af) (zAt [.c (.nI .i64 (-63) 63 (j1 6).Z),.c (.nI .i64 (-63) 63 (j1 7).Z),.c (.nP 1 0),.c (.nI .i64 1 3 (j1 8).Z),.c (.nI .i64 1 3 (j1 9).Z),.c (.nB true true (j1 10).X),.c (.nB true true (j1 11).X),.c (.nP 2 0)],gg,f0) ?_ ⟨⟨hf00,hf01⟩,by rw[hj1];kernel_rfl,by rw[hj1];kernel_rfl,?_⟩ λI μ hA k x l hk hx hl=>?_
  .have ev:((FU (cw j1 14 22 k0)) 0).Z=((vnZ J 12:Nat):Int):=by
    have:((FU (cw j1 14 22 k0)) 0).Z=bif (J 15).X then 2 else 1:=by rw[hj1];kernel_rfl
    rw[this];show _=(((bif (J 15).X then 2 else 1:Nat)):Int)
    cases(J 15).X<;>rfl
   rw[ev,eA,hj1];show(_:ae)=_
   kernel_rfl
  .rw[eA];exact hgg
  obtain⟨f,g,h⟩:=x;obtain⟨hh,hf0,hf1,hP⟩:=hx;have hh:(h 0=(cC J 12).2.1/\h 1=(cC J 12).2.2):=hh;have hk2:=JP (J:=J) (o:=12);have hv:=ww (sl:=slZ J 12) (p:=((J 4).Z,(J 5).Z)) hV (show 1<2 by decide) hp1 k ac
  have hn:=yu (sl:=slZ J 12) (p:=((J 4).Z,(J 5).Z)) hV (show 1<2 by decide) hp1 k ac
  have e5:(l 5).Z=k:=by rw[hl];kernel_rfl
  have e4:(l 4).Z=(vnZ J 12:Nat):=by rw[hl];kernel_rfl
  have hf0:f 0=(drK J 12 1 (slZ J 12) ((J 4).Z,(J 5).Z) k).2.1:=hf0;have hf1:f 1=(drK J 12 1 (slZ J 12) ((J 4).Z,(J 5).Z) k).2.2:=hf1;refine br_ (λq1=>?_) λq1=>?_
  .have q1:=ai q1;rw[e5,e4]at q1;have hstep:drK J 12 1 (slZ J 12) ((J 4).Z,(J 5).Z) (k+1)=((drK J 12 1 (slZ J 12) ((J 4).Z,(J 5).Z) k).1++vcC (slZ J 12) ((J 25).F (2*1+k)) (J (12+5+4*1+2*k)).Z (J (12+6+4*1+2*k)).Z (drK J 12 1 (slZ J 12) ((J 4).Z,(J 5).Z) k).2.1 (drK J 12 1 (slZ J 12) ((J 4).Z,(J 5).Z) k).2.2,((J (12+5+4*1+2*k)).Z,(J (12+6+4*1+2*k)).Z)):=rfl;have hV1:=hV (4*1+2*k) ac;have hV2:=hV (1+4*1+2*k) ac;rw[show 12+5+(4*1+2*k)=12+5+4*1+2*k by omega]at hV1
   rw[show 12+5+(1+4*1+2*k)=12+6+4*1+2*k by omega]at hV2
   have es:((NQ (ak [.i (l 10).Z,.i (l 11).Z,.b (l 12).X,.b (l 13).X] (cw l 16 22 k0))) 0).X=slZ J 12:=by rw[hl];kernel_rfl
   generalize hck:(cJ J 12++(cC J 12).1)++(drK J 12 1 (slZ J 12) ((J 4).Z,(J 5).Z) k).1=ck at *
   have hckn:cdN ck<=253:=by rw[<-hck,aC];omega
   rw[es];refine⟨ah,λj=>∃(f':Nat->Int) (g':Nat->ae) (h':Nat->Int),(f' 0=f 0/\f' 1=f 1)/\(h' 0=(cC J 12).2.1/\h' 1=(cC J 12).2.2)/\Packed g' (cdB B n (ck++(bif slZ J 12 then cdF ((J 25).F (2*1+k)==1)else[]))) (n+cdN (ck++(bif slZ J 12 then cdF ((J 25).F (2*1+k)==1)else[]))) (rl (n+cdN (ck++(bif slZ J 12 then cdF ((J 25).F (2*1+k)==1)else[]))))/\j=.i 1::.i k::tls 1 (Yo J h' k (n+cdN (ck++(bif slZ J 12 then cdF ((J 25).F (2*1+k)==1)else[]))) f' g'),br_ (λq2=>?_) (λq2=>?_),?_⟩
   .rw[q2,e5,ap]
    have esl:((l 29).F (0+k*1+2)==1)=((J 25).F (2*1+k)==1):=by
     rw[show(0+k*1+2)=2*1+k by omega]
     rw[hl]
     kernel_rfl
    rw[esl];have hw:WrH (wx (ak [.b ((J 25).F (2*1+k)==1),.i (l 6).Z,.f (l 7).F,.i ((l 8).F 0),.i ((l 8).F (0+1)),.i ((l 9).F 0),.i ((l 9).F (0+1))] (cw l 10 29 k17)) 11 12 35) 0 B n ck:=o6 hP (by rw[hl];kernel_rfl)
    refine⟨ac,ac,hw.toP hB ac,?_⟩;generalize hr1:qQ _=r1;have hr1:r1=wrC B n (ck++cdF ((J 25).F (2*1+k)==1)):=by rw[<-hr1];exact hw.add hB
    subst hr1;refine⟨zAt [.c (.nI .i64 (-63) 63 ((l 9).F 0)),.c (.nI .i64 (-63) 63 ((l 9).F (0+1))),.c (.nP 1 0),.c (.nI .i64 1 3 (l 10).Z),.c (.nI .i64 1 3 (l 11).Z),.c (.nB true true (l 12).X),.c (.nB true true (l 13).X),.c (.nP 2 0)],ch (cdB B n (ck++cdF ((J 25).F (2*1+k)==1))) (n+cdN (ck++cdF ((J 25).F (2*1+k)==1))),zAt [.c (.nI .i64 (-63) 63 ((l 8).F 0)),.c (.nI .i64 (-63) 63 ((l 8).F (0+1))),.c (.nI .i64 (-63) 63 ((l 9).F 0)),.c (.nI .i64 (-63) 63 ((l 9).F (0+1))),.c (.nP 1 0),.c (.nI .i64 1 3 (l 10).Z),.c (.nI .i64 1 3 (l 11).Z),.c (.nB true true (l 12).X),.c (.nB true true (l 13).X),.c (.nP 2 0)],⟨?_,?_⟩,⟨by rw[<-hh.1,hl];kernel_rfl,by rw[<-hh.2,hl];kernel_rfl⟩,bl,?_⟩
    .rw[hl];kernel_rfl
    .rw[hl];kernel_rfl
    .rw[<-e5];rw[hl];kernel_rfl
   .rw[q2];refine⟨f,g,h,⟨rfl,rfl⟩,hh,?_,?_⟩
    .show Packed g (cdB B n (ck++[])) (n+cdN (ck++[])) (rl (n+cdN (ck++[])));rw[List.append_nil];exact hP
    .show _=Lf.i 1::Lf.i k::tls 1 (Yo J h k (n+cdN (ck++[])) f g);rw[List.append_nil,<-e5,hl]
     kernel_rfl
   rintro j3 ⟨f',g',h',⟨hf'0,hf'1⟩,hh',hP',hj3⟩;generalize hc3:ck++(bif slZ J 12 then cdF ((J 25).F (2*1+k)==1)else[])=c3 at *
   have hc3n:cdN c3<=253+1:=by
    rw[<-hc3,aC];have:cdN (bif slZ J 12 then cdF ((J 25).F (2*1+k)==1)else[])<=1:=by cases slZ J 12;exact Nat.zero_le _;exact Nat.le_refl _
    omega
   have k1:(j3 1).Z=k:=by rw[hj3];kernel_rfl
   have kf0:(j3 10).F 0=f' 0:=by rw[hj3];kernel_rfl
   have kf1:(j3 10).F (0+1)=f' 1:=by rw[hj3];kernel_rfl
   rw[k1,kf0,kf1,hf'0,hf'1,hf0,hf1,ap];generalize hzz:zAt [.c (.nI .i64 (-63) 63 (j3 26).Z),.c (.nI .i64 (-63) 63 (j3 27).Z),.c (.nI .i64 (-63) 63 (j3 28).Z),.c (.nI .i64 (-63) 63 (j3 29).Z),.a 4 .i64 0 1 (j3 30).F,.c (.nI .i64 0 0 (j3 31).Z),.c (.nB true true (j3 32).X),.c (.nB true true (j3 33).X),.c (.nB true true (j3 34).X),.c (.nB true true (j3 35).X),.c (.nB true true (j3 36).X),.c (.nB true true (j3 37).X),.a 384 .i64 (-4095) 4095 (j3 38).F]=zz
   have hz0:zz (0+k*2)=(J (12+5+4*1+2*k)).Z:=by rw[<-hzz,hj3];rcases(show k=0\/k=1 by omega)with e | e<;>subst e<;>kernel_rfl
   have hz1:zz (0+1+k*2)=(J (12+6+4*1+2*k)).Z:=by rw[<-hzz,hj3];rcases(show k=0\/k=1 by omega)with e | e<;>subst e<;>kernel_rfl
   rw[hz0,hz1];generalize (J (12+5+4*1+2*k)).Z=vx at *;generalize (J (12+6+4*1+2*k)).Z=vy at *;generalize hpp:(drK J 12 1 (slZ J 12) ((J 4).Z,(J 5).Z) k).2=pp at *;have k4:=jB (v:=vx-pp.1) ac ac;have k5:=jB (v:=vy-pp.2) ac ac;have hw1:WrH [.i (vx-pp.1),.s (j3 15).O (j3 15).N,.i (j3 16).Z,.l (j3 39).N (j3 39).G] 1 B n c3:=o6 hP' (by rw[hj3];kernel_rfl)
   refine⟨ac,ac,hw1.toP hB ac,?_⟩;generalize hr1:psW _=r1;have hr1:r1=.i 0::wrC B n (c3++cdS (vx-pp.1)):=by rw[<-hr1];exact congrArg (List.cons (Lf.i 0)) (hw1.add hB)
   subst hr1;have k6:=aC c3 (cdS (vx-pp.1));have hw2:WrH [.i (vy-pp.2),.s (at_ (.i 0::wrC B n (c3++cdS (vx-pp.1))) 1).O (at_ (.i 0::wrC B n (c3++cdS (vx-pp.1))) 1).N,.i (at_ (.i 0::wrC B n (c3++cdS (vx-pp.1))) 2).Z,.l (at_ (.i 0::wrC B n (c3++cdS (vx-pp.1))) 3).N (at_ (.i 0::wrC B n (c3++cdS (vx-pp.1))) 3).G] 1 B n (c3++cdS (vx-pp.1)):=WrH.of hB af;refine⟨hw2.toP hB ac,?_⟩;generalize hr2:psW _=r2;have hr2:r2=.i 0::wrC B n (c3++cdS (vx-pp.1)++cdS (vy-pp.2)):=by rw[<-hr2];exact congrArg (List.cons (Lf.i 0)) (hw2.add hB)
   subst hr2;have k66:(j3 6).Z=k:=by rw[hj3];kernel_rfl
   rw[k66]
   have ecc:(cJ J 12++(cC J 12).1)++(drK J 12 1 (slZ J 12) ((J 4).Z,(J 5).Z) (k+1)).1=c3++cdS (vx-pp.1)++cdS (vy-pp.2):=by rw[hstep];show(cJ J 12++(cC J 12).1)++((drK J 12 1 (slZ J 12) ((J 4).Z,(J 5).Z) k).1++vcC (slZ J 12) ((J 25).F (2*1+k)) vx vy pp.1 pp.2)=_;rw[<-List.append_assoc,hck,<-hc3];unfold vcC;simp only[List.append_assoc]
   refine⟨ac,hA k (f,g,h) ((λi0=>zz (i0+k*2)),ch (cdB B n (c3++cdS (vx-pp.1)++cdS (vy-pp.2))) (n+cdN (c3++cdS (vx-pp.1)++cdS (vy-pp.2))),h') _ _ ac ⟨hh',?_,?_,?_⟩ (by rw[hck];exact hl) ?_⟩
   .rw[hstep];exact hz0
   .rw[hstep];exact hz1
   .rw[ecc];exact bl
   .show _=Yo J h' (k+1) (n+cdN ((cJ J 12++(cC J 12).1)++(drK J 12 1 (slZ J 12) ((J 4).Z,(J 5).Z) (k+1)).1)) _ _;rw[ecc,hj3,<-hzz];rw[hj3]
    kernel_rfl
  .have q1:=aQ q1;rw[e5,e4]at q1;have ek:k=vnZ J 12:=ac;subst ek;rw[<-eG]at hP hf0 hf1;rw[<-eG]at hl;exact⟨h,f,g,hh.1,hh.2,hf0,hf1,hP,by rw[hl];kernel_rfl⟩
 rintro j2 ⟨f,f',g,hf0,hf1,hf2,hf3,hP,hj2⟩;have ea:(j2 5).F 0=f 0:=by rw[hj2];kernel_rfl
 have eb1:(j2 5).F (0+1)=f 1:=by rw[hj2];kernel_rfl
 have ec:(j2 6).F 0=f' 0:=by rw[hj2];kernel_rfl
 have ed:(j2 6).F (0+1)=f' 1:=by rw[hj2];kernel_rfl
 rw[ea,eb1,ec,ed,hf0,hf1,hf2,hf3];have hw:WrH (wx j2 11 12 35) 0 B n (cJ J 12++(cC J 12).1++(jG J 12).1):=o6 hP (by rw[hj2];kernel_rfl)
 have ha:=hw.ag;exact⟨rfl,ah,ay (by rw[hj2];kernel_rfl),ha.1,ay (by rw[hj2];kernel_rfl),ah,ha.2⟩⟩
abbrev afg:List AB:=[.run 351 Sc,.run 349 Y2,.dead,.dyn 5 0 0 1000000 0 g0 false]
abbrev acv:CT:=Ck lB [false,false,true,false] afg Zp Cy
theorem IR:CO acv:=CXk lB (TX ⟨uv,zE,m9,K3,Kz,vn,ah⟩ ah) SY
end
end Go.Proofs.YtldmjbgplgoedaaGreatDoor
