import Derived.Test.YtldmjbgplgoedaaGreatDoorRp21
set_option linter.all false
namespace Go.Proofs.YtldmjbgplgoedaaGreatDoor
noncomputable section
open Go.RowKit U
def mtL:List Int:=[8,8,8,8,8,8,8,8,12,10,6,3,-3,-6,-10,-12,8,4,-4,-8,-8,-4,4,8,10,-3,-12,-6,6,12,3,-10,8,-8,-8,8,8,-8,-8,8,6,-12,3,10,-10,-3,12,-6,4,-8,8,-4,-4,8,-8,4,3,-6,10,-12,12,-10,6,-3]
def mtF (i:Nat):Int:=mtL.getD i 0
def QS (_:ae):ae:=[.f mtF]
abbrev P3:SP:=mkS ⟨[.sA [r31]],[]⟩ 318 Tryz.f318 [] [] []
theorem ID J R:TR P3 J R (R [.i 0,.f (zAt [.c (.nI .i64 8 8 8),.c (.nI .i64 8 8 8),.c (.nI .i64 8 8 8),.c (.nI .i64 8 8 8),.c (.nI .i64 8 8 8),.c (.nI .i64 8 8 8),.c (.nI .i64 8 8 8),.c (.nI .i64 8 8 8),.c (.nI .i64 12 12 12),.c (.nI .i64 10 10 10),.c (.nI .i64 6 6 6),.c (.nI .i64 3 3 3),.c (.nI .i64 (-3) (-3) (-3)),.c (.nI .i64 (-6) (-6) (-6)),.c (.nI .i64 (-10) (-10) (-10)),.c (.nI .i64 (-12) (-12) (-12)),.c (.nI .i64 8 8 8),.c (.nI .i64 4 4 4),.c (.nI .i64 (-4) (-4) (-4)),.c (.nI .i64 (-8) (-8) (-8)),.c (.nI .i64 (-8) (-8) (-8)),.c (.nI .i64 (-4) (-4) (-4)),.c (.nI .i64 4 4 4),.c (.nI .i64 8 8 8),.c (.nI .i64 10 10 10),.c (.nI .i64 (-3) (-3) (-3)),.c (.nI .i64 (-12) (-12) (-12)),.c (.nI .i64 (-6) (-6) (-6)),.c (.nI .i64 6 6 6),.c (.nI .i64 12 12 12),.c (.nI .i64 3 3 3),.c (.nI .i64 (-10) (-10) (-10)),.c (.nI .i64 8 8 8),.c (.nI .i64 (-8) (-8) (-8)),.c (.nI .i64 (-8) (-8) (-8)),.c (.nI .i64 8 8 8),.c (.nI .i64 8 8 8),.c (.nI .i64 (-8) (-8) (-8)),.c (.nI .i64 (-8) (-8) (-8)),.c (.nI .i64 8 8 8),.c (.nI .i64 6 6 6),.c (.nI .i64 (-12) (-12) (-12)),.c (.nI .i64 3 3 3),.c (.nI .i64 10 10 10),.c (.nI .i64 (-10) (-10) (-10)),.c (.nI .i64 (-3) (-3) (-3)),.c (.nI .i64 12 12 12),.c (.nI .i64 (-6) (-6) (-6)),.c (.nI .i64 4 4 4),.c (.nI .i64 (-8) (-8) (-8)),.c (.nI .i64 8 8 8),.c (.nI .i64 (-4) (-4) (-4)),.c (.nI .i64 (-4) (-4) (-4)),.c (.nI .i64 8 8 8),.c (.nI .i64 (-8) (-8) (-8)),.c (.nI .i64 4 4 4),.c (.nI .i64 3 3 3),.c (.nI .i64 (-6) (-6) (-6)),.c (.nI .i64 10 10 10),.c (.nI .i64 (-12) (-12) (-12)),.c (.nI .i64 12 12 12),.c (.nI .i64 (-10) (-10) (-10)),.c (.nI .i64 6 6 6),.c (.nI .i64 (-3) (-3) (-3))])]):=af
theorem UG:PF0 P3 QS:=λJ b1 b2=>⟨by
 rw[ID];refine⟨rfl,⟨⟨λi hi=>?_,ah⟩,ah⟩,ah⟩
 revert i
 exact(by decide +kernel:∀i,i<64->zAt [.c (.nI .i64 8 8 8),.c (.nI .i64 8 8 8),.c (.nI .i64 8 8 8),.c (.nI .i64 8 8 8),.c (.nI .i64 8 8 8),.c (.nI .i64 8 8 8),.c (.nI .i64 8 8 8),.c (.nI .i64 8 8 8),.c (.nI .i64 12 12 12),.c (.nI .i64 10 10 10),.c (.nI .i64 6 6 6),.c (.nI .i64 3 3 3),.c (.nI .i64 (-3) (-3) (-3)),.c (.nI .i64 (-6) (-6) (-6)),.c (.nI .i64 (-10) (-10) (-10)),.c (.nI .i64 (-12) (-12) (-12)),.c (.nI .i64 8 8 8),.c (.nI .i64 4 4 4),.c (.nI .i64 (-4) (-4) (-4)),.c (.nI .i64 (-8) (-8) (-8)),.c (.nI .i64 (-8) (-8) (-8)),.c (.nI .i64 (-4) (-4) (-4)),.c (.nI .i64 4 4 4),.c (.nI .i64 8 8 8),.c (.nI .i64 10 10 10),.c (.nI .i64 (-3) (-3) (-3)),.c (.nI .i64 (-12) (-12) (-12)),.c (.nI .i64 (-6) (-6) (-6)),.c (.nI .i64 6 6 6),.c (.nI .i64 12 12 12),.c (.nI .i64 3 3 3),.c (.nI .i64 (-10) (-10) (-10)),.c (.nI .i64 8 8 8),.c (.nI .i64 (-8) (-8) (-8)),.c (.nI .i64 (-8) (-8) (-8)),.c (.nI .i64 8 8 8),.c (.nI .i64 8 8 8),.c (.nI .i64 (-8) (-8) (-8)),.c (.nI .i64 (-8) (-8) (-8)),.c (.nI .i64 8 8 8),.c (.nI .i64 6 6 6),.c (.nI .i64 (-12) (-12) (-12)),.c (.nI .i64 3 3 3),.c (.nI .i64 10 10 10),.c (.nI .i64 (-10) (-10) (-10)),.c (.nI .i64 (-3) (-3) (-3)),.c (.nI .i64 12 12 12),.c (.nI .i64 (-6) (-6) (-6)),.c (.nI .i64 4 4 4),.c (.nI .i64 (-8) (-8) (-8)),.c (.nI .i64 8 8 8),.c (.nI .i64 (-4) (-4) (-4)),.c (.nI .i64 (-4) (-4) (-4)),.c (.nI .i64 8 8 8),.c (.nI .i64 (-8) (-8) (-8)),.c (.nI .i64 4 4 4),.c (.nI .i64 3 3 3),.c (.nI .i64 (-6) (-6) (-6)),.c (.nI .i64 10 10 10),.c (.nI .i64 (-12) (-12) (-12)),.c (.nI .i64 12 12 12),.c (.nI .i64 (-10) (-10) (-10)),.c (.nI .i64 6 6 6),.c (.nI .i64 (-3) (-3) (-3))] i=mtF i)⟩
abbrev ZY:CT:=C0 P3 QS
theorem Lh:CO ZY:=CX0 (TX trivial ah) UG
def YY (_:ae):ae:=[.f nmF]
abbrev OQ:SP:=mkS ⟨[.sA [.a 8 .i64 320 578 z0]],[]⟩ 319 Tryz.f319 [] [] []
theorem ES J R:TR OQ J R (R [.i 0,.f (zAt [.c (.nI .i64 512 512 512),.c (.nI .i64 578 578 578),.c (.nI .i64 320 320 320),.c (.nI .i64 578 578 578),.c (.nI .i64 512 512 512),.c (.nI .i64 578 578 578),.c (.nI .i64 320 320 320),.c (.nI .i64 578 578 578)])]):=af
theorem WZ:PF0 OQ YY:=λJ b1 b2=>⟨by
 rw[ES];refine⟨rfl,⟨⟨λi hi=>?_,ah⟩,ah⟩,ah⟩
 revert i
 exact(by decide +kernel:∀i,i<8->zAt [.c (.nI .i64 512 512 512),.c (.nI .i64 578 578 578),.c (.nI .i64 320 320 320),.c (.nI .i64 578 578 578),.c (.nI .i64 512 512 512),.c (.nI .i64 578 578 578),.c (.nI .i64 320 320 320),.c (.nI .i64 578 578 578)] i=nmF i)⟩
abbrev aeI:CT:=C0 OQ YY
theorem Se:CO aeI:=CX0 (TX trivial ah) WZ
theorem ln0 {a:Nat}:(a:Int)+0=((a+0:Nat):Int):=rfl
theorem ln1 {a:Nat}:(a:Int)+1=((a+1:Nat):Int):=rfl
theorem ln2 {a:Nat}:(a:Int)+2=((a+2:Nat):Int):=rfl
theorem ln3 {a:Nat}:(a:Int)+3=((a+3:Nat):Int):=rfl
theorem ln4 {a:Nat}:(a:Int)+4=((a+4:Nat):Int):=rfl
theorem ln5 {a:Nat}:(a:Int)+5=((a+5:Nat):Int):=rfl
theorem ln6 {a:Nat}:(a:Int)+6=((a+6:Nat):Int):=rfl
theorem ln7 {a:Nat}:(a:Int)+7=((a+7:Nat):Int):=rfl
theorem lm0 {a:Nat}:0+(a:Int)=((0+a:Nat):Int):=rfl
theorem lm8 {a:Nat}:8+(a:Int)=((8+a:Nat):Int):=rfl
theorem YT {a:Nat}:16+(a:Int)=((16+a:Nat):Int):=rfl
theorem Zz {a:Nat}:24+(a:Int)=((24+a:Nat):Int):=rfl
theorem Zx {a:Nat}:32+(a:Int)=((32+a:Nat):Int):=rfl
theorem ZA {a:Nat}:40+(a:Int)=((40+a:Nat):Int):=rfl
theorem Zk {a:Nat}:48+(a:Int)=((48+a:Nat):Int):=rfl
theorem Zy {a:Nat}:56+(a:Int)=((56+a:Nat):Int):=rfl
def oG (f:Nat->Int):Int:=0+f 0+f 1+f 2+f 3+f 4+f 5+f 6+f 7
theorem ir {g F:Nat->Int} {n m:Nat} {v:Int} (hg:∀i,i<n->g i=F i) (hm:m=n) (hv:v=F n):∀i,i<n+1->upd g m v i=F i:=λi hi=>by
 subst hm;unfold upd
 by_cases e:i=m
 .rw[if_pos e,e,hv]
 .rw[if_neg e];exact hg i ac
def rwL:List Int:=[64,62,48,62,64,62,48,62]
def rwS (j:Nat):Int:=rwL.getD j 0
theorem uy {j:Nat} (hj:j<8) {a:Nat->Int} {B:Int} (h:∀l,l<8->-B<=a l/\a l<=B) : -(rwS j*B)<=oG (λl=>mtF (j*8+l)*a l)/\oG (λl=>mtF (j*8+l)*a l)<=rwS j*B:=by
 have h0:=h 0 afH;have h1:=h 1 afH;have h2:=h 2 afH;have h3:=h 3 afH;have h4:=h 4 afH;have h5:=h 5 afH;have h6:=h 6 afH;have h7:=h 7 afH;unfold oG;rcases(show j=0\/j=1\/j=2\/j=3\/j=4\/j=5\/j=6\/j=7 by omega)with rfl | rfl | rfl | rfl | rfl | rfl | rfl | rfl
 all_goals simp only[rwS,rwL,mtF,mtL,List.getD_cons_zero,List.getD_cons_succ,Nat.reduceMul,Nat.reduceAdd];omega
def fwR (x:Nat->Int) (i:Nat):Int:=oG λl=>mtF (i % 8*8+l)*x (8*(i / 8)+l)
def fwF (x:Nat->Int) (i:Nat):Int:=oG λk=>mtF (i / 8*8+k)*fwR x (8*k+i % 8)
def YV (J:ae):ae:=[.f (fwF (J 0).F),.i 0]
theorem pV {k j:Nat} (h:j<8):(8*k+j) / 8=k/\(8*k+j) % 8=j:=ac
theorem Si {x:Nat->Int} (h:∀i,i<64->-255<=x i/\x i<=255) {i:Nat} (hi:i<64) : -(rwS (i % 8)*255)<=fwR x i/\fwR x i<=rwS (i % 8)*255:=uy ac λl hl=>h _ ac
theorem JM {x:Nat->Int} (h:∀i,i<64->-255<=x i/\x i<=255) {i:Nat} (hi:i<64) : -(rwS (i / 8)*(rwS (i % 8)*255))<=fwF x i/\fwF x i<=rwS (i / 8)*(rwS (i % 8)*255):=uy ac λl hl=>by have:=Si h (i:=8*l+i % 8) ac;rw[(pV (k:=l) (j:=i % 8) ac).2]at this;exact this
theorem SW:∀i,i<64->0<=rwS (i / 8)*(rwS (i % 8)*255)/\rwS (i / 8)*(rwS (i % 8)*255)<=1044480:=by decide +kernel
abbrev Nk:SP:=mkS ⟨[.sA Qw,aD 0 0],[]⟩ 265 Tryz.f265 [.tX (.sA ajp)] [] [(17,.unroll 70),(33,.unroll 70),(2,.head ⟨[(1,tXO (.nP 0 0)),(2,tXO (.nP 1 0)),(17,.tX (.sA ajp)),(18,aj 0 1048576)],[.run 124 ajp,.run 124 [r11]],[]⟩),(10,.head ⟨[(1,tXO (.nP 0 0)),(2,tXO (.nP 1 0)),(6,tXO (.nP 2 0)),(7,tXO (.nP 3 0)),(30,aj 0 1048576)],[.run 124 ajp,.run 124 [r11],.run 307 [r31],.run 124 XF],[]⟩),(13,.head ⟨[(1,tXO (.nP 0 0)),(2,tXO (.nP 1 0)),(6,tXO (.nP 2 0)),(7,tXO (.nP 3 0)),(8,aj 0 1048576),(30,aj 0 1048576),(33,aj 0 1048576)],[.run 124 ajp,.run 124 [r11],.run 307 [r31],.run 124 XF],[]⟩),(26,.head ⟨[(2,tXO (.nP 0 0)),(6,tXO (.nP 1 0)),(7,tXO (.nP 2 0)),(12,tXO (.nP 3 0)),(62,aj 0 1048576)],[.run 124 [r11],.run 307 [r31],.run 124 XF,.run 124 pe],[]⟩),(29,.head ⟨[(2,tXO (.nP 0 0)),(6,tXO (.nP 1 0)),(7,tXO (.nP 2 0)),(12,tXO (.nP 3 0)),(13,aj 0 1048576),(62,aj 0 1048576),(65,aj 0 1048576)],[.run 124 [r11],.run 307 [r31],.run 124 XF,.run 124 pe],[]⟩)] [ZY]
theorem B4 J R:TR Nk J R (∃(I0:ae->Prop) (μ0:ae->Nat),I0 [.f (J 0).F,.i 0,.f (J 0).F,.f (λ_=>0)]/\∀l0,I0 l0->((decide ((l0 1).Z<64))->((l0 1).Z<64)/\(((l0 1).Z+1)<=1048576)/\Ag I0 μ0 l0 [.f (l0 0).F,.i ((l0 1).Z+1),.f (l0 2).F,.f (l0 3).F])/\((decide ((l0 1).Z<64))=false->let x0:ae:=[];let x1:ae:=QS x0;∃(I1:ae->Prop) (μ1:ae->Nat),I1 [.i 0,.f (l0 2).F,.f (l0 3).F,.f (x1 0).F,.f (λ_=>0)]/\∀l1,I1 l1->((decide ((l1 0).Z<8))->∃(I2:ae->Prop) (μ2:ae->Nat),I2 [.i (l1 0).Z,.i (l1 0).Z,.i 0,.f (l1 1).F,.f (l1 2).F,.f (l1 3).F,.f (l1 4).F]/\∀l2,I2 l2->((decide ((l2 2).Z<8))->(0<=(l2 2).Z)/\((l2 2).Z<8)/\(0<=((8*(l2 0).Z)+0))/\(((8*(l2 0).Z)+0)<64)/\(0<=(l2 2).Z)/\((l2 2).Z<8)/\(0<=((8*(l2 0).Z)+1))/\(((8*(l2 0).Z)+1)<64)/\(0<=(l2 2).Z)/\((l2 2).Z<8)/\(0<=((8*(l2 0).Z)+2))/\(((8*(l2 0).Z)+2)<64)/\(0<=(l2 2).Z)/\((l2 2).Z<8)/\(0<=((8*(l2 0).Z)+3))/\(((8*(l2 0).Z)+3)<64)/\(0<=(l2 2).Z)/\((l2 2).Z<8)/\(0<=((8*(l2 0).Z)+4))/\(((8*(l2 0).Z)+4)<64)/\(0<=(l2 2).Z)/\((l2 2).Z<8)/\(0<=((8*(l2 0).Z)+5))/\(((8*(l2 0).Z)+5)<64)/\(0<=(l2 2).Z)/\((l2 2).Z<8)/\(0<=((8*(l2 0).Z)+6))/\(((8*(l2 0).Z)+6)<64)/\(0<=(l2 2).Z)/\((l2 2).Z<8)/\(0<=((8*(l2 0).Z)+7))/\(((8*(l2 0).Z)+7)<64)/\(0<=((8*(l2 0).Z)+(l2 2).Z))/\(((8*(l2 0).Z)+(l2 2).Z)<64)/\(((l2 2).Z+1)<=1048576)/\Ag I2 μ2 l2 [.i (l2 0).Z,.i (l2 1).Z,.i ((l2 2).Z+1),.f (l2 3).F,.f (l2 4).F,.f (l2 5).F,.f (upd (l2 6).F (((8*(l2 0).Z)+(l2 2).Z).toNat*1) ((((((((0+(((l2 5).F (0+(((l2 2).Z.toNat*8)+0)))*((l2 3).F (0+(((8*(l2 0).Z)+0).toNat*1)))))+(((l2 5).F (0+(((l2 2).Z.toNat*8)+1)))*((l2 3).F (0+(((8*(l2 0).Z)+1).toNat*1)))))+(((l2 5).F (0+(((l2 2).Z.toNat*8)+2)))*((l2 3).F (0+(((8*(l2 0).Z)+2).toNat*1)))))+(((l2 5).F (0+(((l2 2).Z.toNat*8)+3)))*((l2 3).F (0+(((8*(l2 0).Z)+3).toNat*1)))))+(((l2 5).F (0+(((l2 2).Z.toNat*8)+4)))*((l2 3).F (0+(((8*(l2 0).Z)+4).toNat*1)))))+(((l2 5).F (0+(((l2 2).Z.toNat*8)+5)))*((l2 3).F (0+(((8*(l2 0).Z)+5).toNat*1)))))+(((l2 5).F (0+(((l2 2).Z.toNat*8)+6)))*((l2 3).F (0+(((8*(l2 0).Z)+6).toNat*1)))))+(((l2 5).F (0+(((l2 2).Z.toNat*8)+7)))*((l2 3).F (0+(((8*(l2 0).Z)+7).toNat*1))))))])/\((decide ((l2 2).Z<8))=false->(((l2 1).Z+1)<=1048576)/\Ag I1 μ1 l1 [.i ((l2 1).Z+1),.f (l2 3).F,.f (l2 4).F,.f (l2 5).F,.f (l2 6).F]))/\((decide ((l1 0).Z<8))=false->∃(I2:ae->Prop) (μ2:ae->Nat),I2 [.i 0,.f (l1 2).F,.f (l1 3).F,.f (l1 4).F,.f (λ_=>0)]/\∀l2,I2 l2->((decide ((l2 0).Z<8))->∃(I3:ae->Prop) (μ3:ae->Nat),I3 [.i (l2 0).Z,.i (l2 0).Z,.i 0,.f (l2 1).F,.f (l2 2).F,.f (l2 3).F,.f (l2 4).F]/\∀l3,I3 l3->((decide ((l3 2).Z<8))->(0<=(l3 0).Z)/\((l3 0).Z<8)/\(0<=(0+(l3 2).Z))/\((0+(l3 2).Z)<64)/\(0<=(l3 0).Z)/\((l3 0).Z<8)/\(0<=(8+(l3 2).Z))/\((8+(l3 2).Z)<64)/\(0<=(l3 0).Z)/\((l3 0).Z<8)/\(0<=(16+(l3 2).Z))/\((16+(l3 2).Z)<64)/\(0<=(l3 0).Z)/\((l3 0).Z<8)/\(0<=(24+(l3 2).Z))/\((24+(l3 2).Z)<64)/\(0<=(l3 0).Z)/\((l3 0).Z<8)/\(0<=(32+(l3 2).Z))/\((32+(l3 2).Z)<64)/\(0<=(l3 0).Z)/\((l3 0).Z<8)/\(0<=(40+(l3 2).Z))/\((40+(l3 2).Z)<64)/\(0<=(l3 0).Z)/\((l3 0).Z<8)/\(0<=(48+(l3 2).Z))/\((48+(l3 2).Z)<64)/\(0<=(l3 0).Z)/\((l3 0).Z<8)/\(0<=(56+(l3 2).Z))/\((56+(l3 2).Z)<64)/\(0<=((8*(l3 0).Z)+(l3 2).Z))/\(((8*(l3 0).Z)+(l3 2).Z)<64)/\(((l3 2).Z+1)<=1048576)/\Ag I3 μ3 l3 [.i (l3 0).Z,.i (l3 1).Z,.i ((l3 2).Z+1),.f (l3 3).F,.f (l3 4).F,.f (l3 5).F,.f (upd (l3 6).F (((8*(l3 0).Z)+(l3 2).Z).toNat*1) ((((((((0+(((l3 4).F (0+(((l3 0).Z.toNat*8)+0)))*((l3 5).F (0+((0+(l3 2).Z).toNat*1)))))+(((l3 4).F (0+(((l3 0).Z.toNat*8)+1)))*((l3 5).F (0+((8+(l3 2).Z).toNat*1)))))+(((l3 4).F (0+(((l3 0).Z.toNat*8)+2)))*((l3 5).F (0+((16+(l3 2).Z).toNat*1)))))+(((l3 4).F (0+(((l3 0).Z.toNat*8)+3)))*((l3 5).F (0+((24+(l3 2).Z).toNat*1)))))+(((l3 4).F (0+(((l3 0).Z.toNat*8)+4)))*((l3 5).F (0+((32+(l3 2).Z).toNat*1)))))+(((l3 4).F (0+(((l3 0).Z.toNat*8)+5)))*((l3 5).F (0+((40+(l3 2).Z).toNat*1)))))+(((l3 4).F (0+(((l3 0).Z.toNat*8)+6)))*((l3 5).F (0+((48+(l3 2).Z).toNat*1)))))+(((l3 4).F (0+(((l3 0).Z.toNat*8)+7)))*((l3 5).F (0+((56+(l3 2).Z).toNat*1))))))])/\((decide ((l3 2).Z<8))=false->(((l3 1).Z+1)<=1048576)/\Ag I2 μ2 l2 [.i ((l3 1).Z+1),.f (l3 3).F,.f (l3 4).F,.f (l3 5).F,.f (l3 6).F]))/\((decide ((l2 0).Z<8))=false-> (∀i,i<64->(-2097152)<=(l2 4).F i/\(l2 4).F i<=2097152)/\R [.i 0,.f (l2 4).F,.i 0])))):=af
theorem aiO:PF0 Nk YV:=λJ b1 b2=>⟨by
 rw[B4];obtain⟨⟨c0,-⟩,-⟩:=b1;have cx:∀i,i<64->-255<=(J 0).F i/\(J 0).F i<=255:=c0;clear c0;simp only[YV,QS,bx,bE,Z_i,X_b,F_f,O_s,N_s,N_l,G_l];generalize (J 0).F=x at *;refine jo 64 1 (λr s=>set_ s 1 (.i r)) (λi _=>rfl) rfl λI μ hA r hr=>?_;simp only[bA,bz,bx,bE,Z_i,X_b,F_f,O_s,N_s,N_l,G_l,ap]at hA ⊢;refine br_ (λq=>?_) λ_=>?_
 .have q:=ai q
  repeat (refine And.intro ao ?_)
  exact hA r _ ac rfl
 refine aZ 8 0 (λk (g:Nat->Int)=>∀i,i<8*k->g i=fwR x i) (λs k g=>set_ (set_ s 0 (.i k)) 4 (.f g)) (λi _ _=>rfl) _ rfl (λi hi=>absurd hi ac) λI μ hA k g hk hg=>?_;simp only[bA,bz,bx,bE,Z_i,X_b,F_f,O_s,N_s,N_l,G_l,ap]at hA ⊢;refine br_ (λq=>?_) λq=>?_
 .have q:=ai q;refine aZ 8 2 (λj (g:Nat->Int)=>∀i,i<8*k+j->g i=fwR x i) (λs j g=>set_ (set_ s 2 (.i j)) 6 (.f g)) (λi _ _=>rfl) g rfl (λi hi=>hg i hi) λI1 μ1 hA1 j g1 hj hg1=>?_;simp only[bA,bz,bx,bE,Z_i,X_b,F_f,O_s,N_s,N_l,G_l,ap,K6,ln0,ln1,ln2,ln3,ln4,ln5,ln6,ln7,lm0,lm8,YT,Zz,Zx,ZA,Zk,Zy,jl,Nat.mul_one,Nat.zero_add]at hA1 ⊢;refine br_ (λq1=>?_) λq1=>?_
  .have q1:=ai q1
   repeat (refine And.intro ao ?_)
   refine hA1 j g1 _ _ ac (ir hg1 rfl ?_) rfl;obtain⟨d,m⟩:=pV (k:=k) (j:=j) ac;show _=fwR x (8*k+j);unfold fwR oG;rw[d,m]
  .have q1:=aQ q1
   repeat (refine And.intro ao ?_)
   exact hA k g g1 _ ac (λi hi=>hg1 i ac) rfl
 have q:=aQ q;have hrow:∀i,i<64->g i=fwR x i:=λi hi=>hg i ac;refine aZ 8 0 (λk (y:Nat->Int)=>∀i,i<8*k->y i=fwF x i) (λs k y=>set_ (set_ s 0 (.i k)) 4 (.f y)) (λi _ _=>rfl) _ rfl (λi hi=>absurd hi ac) λI μ hA k y hk hy=>?_;simp only[bA,bz,bx,bE,Z_i,X_b,F_f,O_s,N_s,N_l,G_l,ap]at hA ⊢;refine br_ (λq=>?_) λq=>?_
 .have q:=ai q;refine aZ 8 2 (λj (y:Nat->Int)=>∀i,i<8*k+j->y i=fwF x i) (λs j y=>set_ (set_ s 2 (.i j)) 6 (.f y)) (λi _ _=>rfl) y rfl (λi hi=>hy i hi) λI1 μ1 hA1 j y1 hj hy1=>?_;simp only[bA,bz,bx,bE,Z_i,X_b,F_f,O_s,N_s,N_l,G_l,ap,K6,ln0,ln1,ln2,ln3,ln4,ln5,ln6,ln7,lm0,lm8,YT,Zz,Zx,ZA,Zk,Zy,jl,Nat.mul_one,Nat.zero_add]at hA1 ⊢;refine br_ (λq1=>?_) λq1=>?_
  .have q1:=ai q1
   repeat (refine And.intro ao ?_)
   refine hA1 j y1 _ _ ac (ir hy1 rfl ?_) rfl;obtain⟨d,m⟩:=pV (k:=k) (j:=j) ac;show _=fwF x (8*k+j);unfold fwF oG;rw[d,m,hrow _ ac,hrow _ ac,hrow _ ac,hrow _ ac,hrow _ ac,hrow _ ac,hrow _ ac,hrow _ ac];simp only[Nat.mul_zero,Nat.zero_add,Nat.mul_one,Nat.reduceMul]
  .have q1:=aQ q1
   repeat (refine And.intro ao ?_)
   exact hA k y y1 _ ac (λi hi=>hy1 i ac) rfl
 have q:=aQ q;refine⟨λi hi=>?_,rfl,⟨⟨λi hi=>hy i ac,ah⟩,rfl,ah⟩,ah⟩;rw[hy i ac];have:=JM cx hi;have:=SW i hi;omega⟩
abbrev acF:CT:=C0 Nk YV
theorem Vo:CO acF:=CX0 (TX ⟨Lh,ah⟩ ah) aiO
def Yb (s:Int):Int:=(2*s+547363225600) / 1094726451200
def S4 (J:ae):ae:=[.i (Yb (J 0).Z)]
abbrev O1:SP:=mkS ⟨[aD (-900000) 900000],[]⟩ 320 Tryz.f320 [aj (-100000000000000000) 100000000000000000] [] []
theorem HQ J R:TR O1 J R (BR (decide ((Int.tmod ((2*(J 0).Z)+547363225600) 1094726451200)<0)) (R [.i 0,.i ((Int.tdiv ((2*(J 0).Z)+547363225600) 1094726451200)-1)]) (R [.i 0,.i (Int.tdiv ((2*(J 0).Z)+547363225600) 1094726451200)])):=af
theorem TQ:PF0 O1 S4:=λJ b1 b2=>⟨by
 rw[HQ];unfold S4 Yb;generalize (J 0).Z=s at *;generalize 2*s+547363225600=d;have t:=Int.mul_tdiv_add_tmod d 1094726451200;have m1:=Int.tmod_lt_of_pos d (show(0:Int)<1094726451200 by decide)
 have m2:=Int.lt_tmod_of_pos d (show(0:Int)<1094726451200 by decide)
 have e:=Int.emod_add_mul_ediv d 1094726451200;have e1:=Int.emod_nonneg d (show(1094726451200:Int)≠0 by decide)
 have e2:=Int.emod_lt_of_pos d (show(0:Int)<1094726451200 by decide)
 generalize Int.tdiv d 1094726451200=td at *;generalize Int.tmod d 1094726451200=tm at *;refine br_ (λq=>?_) λq=>?_
 .have q:=ai q;exact⟨rfl,⟨by show td-1=d / 1094726451200;omega,ah⟩,ah⟩
 .have q:=aQ q;exact⟨rfl,⟨by show td=d / 1094726451200;omega,ah⟩,ah⟩⟩
abbrev aeA:CT:=C0 O1 S4
theorem SO:CO aeA:=CX0 (TX trivial ah) TQ
def mmF (i:Nat):Int:=mtF i*(739840 / nmF (i / 8))
theorem zA:∀i,i<64->-18496<=mmF i/\mmF i<=18496:=by decide +kernel
theorem R7:∀i,i<64->-12<=mtF i/\mtF i<=12:=by decide +kernel
def clZ (v:Int):Int:=min (max v (-2097152)) 2097152
def ivR (y:Nat->Int) (i:Nat):Int:=oG λj=>mmF (i % 8+8*j)*clZ (y (8*(i / 8)+j))
def ivF (y:Nat->Int) (i:Nat):Int:=Yb (oG λk=>mmF (i / 8+8*k)*ivR y (8*k+i % 8))
def Us (J:ae):ae:=[.f (ivF (J 0).F)]
abbrev Nt:SP:=mkS ⟨[.sA QR],[]⟩ 247 Tryz.f247 [.tX (.sA YO)] [] [(20,.unroll 70),(36,.unroll 70),(3,.head ⟨[(1,tXO (.nP 0 0)),(2,tXO (.nP 1 0)),(3,tXO (.nP 2 0)),(18,.tX (.sA [.a 8 .i64 320 578 z0])),(19,aj 0 1048576)],[.run 124 YO,.run 124 [r11],.run 307 aic],[]⟩),(6,.head ⟨[(1,tXO (.nP 0 0)),(2,tXO (.nP 1 0)),(3,tXO (.nP 2 0)),(4,aj 0 1048576),(5,aj 320 578),(18,.tX (.sA [.a 8 .i64 320 578 z0])),(19,aj 0 1048576),(23,aj 0 1048576)],[.run 124 YO,.run 124 [r11],.run 307 aic],[]⟩),(13,.head ⟨[(1,tXO (.nP 0 0)),(2,tXO (.nP 1 0)),(3,tXO (.nP 2 0)),(7,tXO (.nP 3 0)),(38,aj 0 1048576)],[.run 124 YO,.run 124 [r11],.run 307 aic,.run 384 aef],[]⟩),(16,.head ⟨[(1,tXO (.nP 0 0)),(2,tXO (.nP 1 0)),(3,tXO (.nP 2 0)),(7,tXO (.nP 3 0)),(8,aj 0 1048576),(38,aj 0 1048576),(41,aj 0 1048576)],[.run 124 YO,.run 124 [r11],.run 307 aic,.run 384 aef],[]⟩),(29,.head ⟨[(2,tXO (.nP 0 0)),(3,tXO (.nP 1 0)),(7,tXO (.nP 2 0)),(12,tXO (.nP 3 0)),(72,aj 0 1048576)],[.run 124 [r11],.run 307 aic,.run 384 aef,.run 124 QR],[]⟩),(32,.head ⟨[(2,tXO (.nP 0 0)),(3,tXO (.nP 1 0)),(7,tXO (.nP 2 0)),(12,tXO (.nP 3 0)),(13,aj 0 1048576),(72,aj 0 1048576),(75,aj 0 1048576)],[.run 124 [r11],.run 307 aic,.run 384 aef,.run 124 QR],[]⟩)] [ZY,aeI,aeA]
theorem GG J R:TR Nt J R (let x0:ae:=[];let x1:ae:=QS x0;let x2:ae:=[];let x3:ae:=YY x2;∃(I0:ae->Prop) (μ0:ae->Nat),I0 [.f (x3 0).F,.i 0,.f (J 0).F,.f (λ_=>0),.f (x1 0).F]/\∀l0,I0 l0->((decide ((l0 1).Z<8))->((l0 1).Z<8)/\∃(I1:ae->Prop) (μ1:ae->Nat),I1 [.i (l0 1).Z,.i ((l0 0).F (l0 1).Z.toNat),.f (l0 0).F,.i (l0 1).Z,.i 0,.f (l0 2).F,.f (l0 3).F,.f (l0 4).F]/\∀l1,I1 l1->((decide ((l1 4).Z<8))->(0<=(l1 0).Z)/\((l1 0).Z<8)/\(0<=(l1 4).Z)/\((l1 4).Z<8)/\(0<=(l1 0).Z)/\((l1 0).Z<8)/\(0<=(l1 4).Z)/\((l1 4).Z<8)/\(((l1 4).Z+1)<=1048576)/\(∀i,i<64->(-18496)<=(upd (l1 7).F (((l1 0).Z.toNat*8)+((l1 4).Z.toNat*1)) (((l1 7).F (0+(((l1 0).Z.toNat*8)+((l1 4).Z.toNat*1))))*(Int.tdiv 739840 (l1 1).Z))) i/\(upd (l1 7).F (((l1 0).Z.toNat*8)+((l1 4).Z.toNat*1)) (((l1 7).F (0+(((l1 0).Z.toNat*8)+((l1 4).Z.toNat*1))))*(Int.tdiv 739840 (l1 1).Z))) i<=18496)/\let k0:=((l1 0).Z.toNat*8)+((l1 4).Z.toNat*1);Ag I1 μ1 l1 [.i (l1 0).Z,.i (l1 1).Z,.f (l1 2).F,.i (l1 3).Z,.i ((l1 4).Z+1),.f (l1 5).F,.f (l1 6).F,.f (upd (l1 7).F k0 (((l1 7).F (0+k0))*(Int.tdiv 739840 (l1 1).Z)))])/\((decide ((l1 4).Z<8))=false->(((l1 3).Z+1)<=1048576)/\Ag I0 μ0 l0 [.f (l1 2).F,.i ((l1 3).Z+1),.f (l1 5).F,.f (l1 6).F,.f (l1 7).F]))/\((decide ((l0 1).Z<8))=false->∃(I1:ae->Prop) (μ1:ae->Nat),I1 [.i 0,.f (l0 2).F,.f (l0 3).F,.f (l0 4).F,.f (λ_=>0)]/\∀l1,I1 l1->((decide ((l1 0).Z<8))->∃(I2:ae->Prop) (μ2:ae->Nat),I2 [.i (l1 0).Z,.i (l1 0).Z,.i 0,.f (l1 1).F,.f (l1 2).F,.f (l1 3).F,.f (l1 4).F]/\∀l2,I2 l2->((decide ((l2 2).Z<8))->(0<=(l2 2).Z)/\((l2 2).Z<8)/\(0<=((8*(l2 0).Z)+0))/\(((8*(l2 0).Z)+0)<64)/\(0<=(l2 2).Z)/\((l2 2).Z<8)/\(0<=((8*(l2 0).Z)+1))/\(((8*(l2 0).Z)+1)<64)/\(0<=(l2 2).Z)/\((l2 2).Z<8)/\(0<=((8*(l2 0).Z)+2))/\(((8*(l2 0).Z)+2)<64)/\(0<=(l2 2).Z)/\((l2 2).Z<8)/\(0<=((8*(l2 0).Z)+3))/\(((8*(l2 0).Z)+3)<64)/\(0<=(l2 2).Z)/\((l2 2).Z<8)/\(0<=((8*(l2 0).Z)+4))/\(((8*(l2 0).Z)+4)<64)/\(0<=(l2 2).Z)/\((l2 2).Z<8)/\(0<=((8*(l2 0).Z)+5))/\(((8*(l2 0).Z)+5)<64)/\(0<=(l2 2).Z)/\((l2 2).Z<8)/\(0<=((8*(l2 0).Z)+6))/\(((8*(l2 0).Z)+6)<64)/\(0<=(l2 2).Z)/\((l2 2).Z<8)/\(0<=((8*(l2 0).Z)+7))/\(((8*(l2 0).Z)+7)<64)/\(0<=((8*(l2 0).Z)+(l2 2).Z))/\(((8*(l2 0).Z)+(l2 2).Z)<64)/\(((l2 2).Z+1)<=1048576)/\Ag I2 μ2 l2 [.i (l2 0).Z,.i (l2 1).Z,.i ((l2 2).Z+1),.f (l2 3).F,.f (l2 4).F,.f (l2 5).F,.f (upd (l2 6).F (((8*(l2 0).Z)+(l2 2).Z).toNat*1) ((((((((0+(((l2 5).F (0+((l2 2).Z.toNat*1)))*(min (max ((l2 3).F (0+(((8*(l2 0).Z)+0).toNat*1))) (-2097152)) 2097152)))+(((l2 5).F ((0+((l2 2).Z.toNat*1))+8))*(min (max ((l2 3).F (0+(((8*(l2 0).Z)+1).toNat*1))) (-2097152)) 2097152)))+(((l2 5).F ((0+((l2 2).Z.toNat*1))+16))*(min (max ((l2 3).F (0+(((8*(l2 0).Z)+2).toNat*1))) (-2097152)) 2097152)))+(((l2 5).F ((0+((l2 2).Z.toNat*1))+24))*(min (max ((l2 3).F (0+(((8*(l2 0).Z)+3).toNat*1))) (-2097152)) 2097152)))+(((l2 5).F ((0+((l2 2).Z.toNat*1))+32))*(min (max ((l2 3).F (0+(((8*(l2 0).Z)+4).toNat*1))) (-2097152)) 2097152)))+(((l2 5).F ((0+((l2 2).Z.toNat*1))+40))*(min (max ((l2 3).F (0+(((8*(l2 0).Z)+5).toNat*1))) (-2097152)) 2097152)))+(((l2 5).F ((0+((l2 2).Z.toNat*1))+48))*(min (max ((l2 3).F (0+(((8*(l2 0).Z)+6).toNat*1))) (-2097152)) 2097152)))+(((l2 5).F ((0+((l2 2).Z.toNat*1))+56))*(min (max ((l2 3).F (0+(((8*(l2 0).Z)+7).toNat*1))) (-2097152)) 2097152))))])/\((decide ((l2 2).Z<8))=false->(((l2 1).Z+1)<=1048576)/\Ag I1 μ1 l1 [.i ((l2 1).Z+1),.f (l2 3).F,.f (l2 4).F,.f (l2 5).F,.f (l2 6).F]))/\((decide ((l1 0).Z<8))=false->∃(I2:ae->Prop) (μ2:ae->Nat),I2 [.i 0,.f (l1 2).F,.f (l1 3).F,.f (l1 4).F,.f (λ_=>0)]/\∀l2,I2 l2->((decide ((l2 0).Z<8))->∃(I3:ae->Prop) (μ3:ae->Nat),I3 [.i (l2 0).Z,.i (l2 0).Z,.i 0,.f (l2 1).F,.f (l2 2).F,.f (l2 3).F,.f (l2 4).F]/\∀l3,I3 l3->((decide ((l3 2).Z<8))->(0<=(l3 0).Z)/\((l3 0).Z<8)/\(0<=(0+(l3 2).Z))/\((0+(l3 2).Z)<64)/\(0<=(l3 0).Z)/\((l3 0).Z<8)/\(0<=(8+(l3 2).Z))/\((8+(l3 2).Z)<64)/\(0<=(l3 0).Z)/\((l3 0).Z<8)/\(0<=(16+(l3 2).Z))/\((16+(l3 2).Z)<64)/\(0<=(l3 0).Z)/\((l3 0).Z<8)/\(0<=(24+(l3 2).Z))/\((24+(l3 2).Z)<64)/\(0<=(l3 0).Z)/\((l3 0).Z<8)/\(0<=(32+(l3 2).Z))/\((32+(l3 2).Z)<64)/\(0<=(l3 0).Z)/\((l3 0).Z<8)/\(0<=(40+(l3 2).Z))/\((40+(l3 2).Z)<64)/\(0<=(l3 0).Z)/\((l3 0).Z<8)/\(0<=(48+(l3 2).Z))/\((48+(l3 2).Z)<64)/\(0<=(l3 0).Z)/\((l3 0).Z<8)/\(0<=(56+(l3 2).Z))/\((56+(l3 2).Z)<64)/\let x4:ae:=[.i ((((((((0+(((l3 4).F (0+((l3 0).Z.toNat*1)))*((l3 5).F (0+((0+(l3 2).Z).toNat*1)))))+(((l3 4).F ((0+((l3 0).Z.toNat*1))+8))*((l3 5).F (0+((8+(l3 2).Z).toNat*1)))))+(((l3 4).F ((0+((l3 0).Z.toNat*1))+16))*((l3 5).F (0+((16+(l3 2).Z).toNat*1)))))+(((l3 4).F ((0+((l3 0).Z.toNat*1))+24))*((l3 5).F (0+((24+(l3 2).Z).toNat*1)))))+(((l3 4).F ((0+((l3 0).Z.toNat*1))+32))*((l3 5).F (0+((32+(l3 2).Z).toNat*1)))))+(((l3 4).F ((0+((l3 0).Z.toNat*1))+40))*((l3 5).F (0+((40+(l3 2).Z).toNat*1)))))+(((l3 4).F ((0+((l3 0).Z.toNat*1))+48))*((l3 5).F (0+((48+(l3 2).Z).toNat*1)))))+(((l3 4).F ((0+((l3 0).Z.toNat*1))+56))*((l3 5).F (0+((56+(l3 2).Z).toNat*1)))))];let x5:ae:=S4 x4;(0<=((8*(l3 0).Z)+(l3 2).Z))/\(((8*(l3 0).Z)+(l3 2).Z)<64)/\(((l3 2).Z+1)<=1048576)/\Ag I3 μ3 l3 [.i (l3 0).Z,.i (l3 1).Z,.i ((l3 2).Z+1),.f (l3 3).F,.f (l3 4).F,.f (l3 5).F,.f (upd (l3 6).F (((8*(l3 0).Z)+(l3 2).Z).toNat*1) (x5 0).Z)])/\((decide ((l3 2).Z<8))=false->(((l3 1).Z+1)<=1048576)/\Ag I2 μ2 l2 [.i ((l3 1).Z+1),.f (l3 3).F,.f (l3 4).F,.f (l3 5).F,.f (l3 6).F]))/\((decide ((l2 0).Z<8))=false-> R [.i 0,.f (l2 4).F])))):=af
theorem VQ:PF0 Nt Us:=λJ b1 b2=>⟨by
 rw[GG];simp only[Us,QS,YY,S4,bx,bE,Z_i,X_b,F_f,O_s,N_s,N_l,G_l];generalize (J 0).F=x at *;refine aZ 8 1 (λr (g:Nat->Int)=>∀i,i<64->g i=if i<8*r then mmF i else mtF i) (λs r g=>set_ (set_ s 1 (.i r)) 4 (.f g)) (λi _ _=>rfl) _ rfl (λi hi=>by rw[if_neg ac]) λI μ hA r g hr hg=>?_
 simp only[bA,bz,bx,bE,Z_i,X_b,F_f,O_s,N_s,N_l,G_l,ap]at hA ⊢;refine br_ (λq=>?_) λq=>?_
 .have q:=ai q;refine⟨ao,?_⟩;refine aZ 8 4 (λk (g:Nat->Int)=>∀i,i<64->g i=if i<8*r+k then mmF i else mtF i) (λs k g=>set_ (set_ s 4 (.i k)) 7 (.f g)) (λi _ _=>rfl) g rfl (λi hi=>hg i hi) λI1 μ1 hA1 k g1 hk hg1=>?_
  simp only[bA,bz,bx,bE,Z_i,X_b,F_f,O_s,N_s,N_l,G_l,ap,Nat.mul_one,Nat.zero_add]at hA1 ⊢;refine br_ (λq1=>?_) λq1=>?_
  .have q1:=ai q1
   have st:∀i,i<64->upd g1 (r*8+k) (g1 (r*8+k)*Int.tdiv 739840 (nmF r)) i=if i<8*r+(k+1)then mmF i else mtF i:=λi hi=>by
    unfold upd
    by_cases e:i=r*8+k
    .rw[if_pos e,if_pos ac,hg1 _ ac,if_neg ac,e];unfold mmF;rw[show(r*8+k) / 8=r by omega]
     rcases nm3 r ac with e | e | e<;>rw[e]<;>rfl
    .rw[if_neg e,hg1 i hi]
     by_cases e2:i<8*r+k
     .rw[if_pos e2,if_pos ac]
     .rw[if_neg e2,if_neg ac]
   have bd:∀i,i<64->-18496<=upd g1 (r*8+k) (g1 (r*8+k)*Int.tdiv 739840 (nmF r)) i/\upd g1 (r*8+k) (g1 (r*8+k)*Int.tdiv 739840 (nmF r)) i<=18496:=λi hi=>by
    rw[st i hi];have:=zA i hi;have:=R7 i hi
    split<;>omega
   repeat (refine And.intro ao ?_)
   exact hA1 k g1 _ _ ac st rfl
  .have q1:=aQ q1
   repeat (refine And.intro ao ?_)
   refine hA r g g1 _ ac (λi hi=>?_) rfl;rw[hg1 i hi,show k=8 by omega]
   rfl
 have q:=aQ q;have hm:∀i,i<64->g i=mmF i:=λi hi=>by rw[hg i hi,if_pos ac]
 refine aZ 8 0 (λk (g:Nat->Int)=>∀i,i<8*k->g i=ivR x i) (λs k g=>set_ (set_ s 0 (.i k)) 4 (.f g)) (λi _ _=>rfl) _ rfl (λi hi=>absurd hi ac) λI μ hA k h hk hg=>?_;simp only[bA,bz,bx,bE,Z_i,X_b,F_f,O_s,N_s,N_l,G_l,ap]at hA ⊢;refine br_ (λq=>?_) λq=>?_
 .have q:=ai q;refine aZ 8 2 (λj (g:Nat->Int)=>∀i,i<8*k+j->g i=ivR x i) (λs j g=>set_ (set_ s 2 (.i j)) 6 (.f g)) (λi _ _=>rfl) h rfl (λi hi=>hg i hi) λI1 μ1 hA1 j g1 hj hg1=>?_;simp only[bA,bz,bx,bE,Z_i,X_b,F_f,O_s,N_s,N_l,G_l,ap,K6,ln0,ln1,ln2,ln3,ln4,ln5,ln6,ln7,lm0,lm8,YT,Zz,Zx,ZA,Zk,Zy,jl,Nat.mul_one,Nat.zero_add]at hA1 ⊢;refine br_ (λq1=>?_) λq1=>?_
  .have q1:=ai q1
   repeat (refine And.intro ao ?_)
   refine hA1 j g1 _ _ ac (ir hg1 rfl ?_) rfl;obtain⟨d,m⟩:=pV (k:=k) (j:=j) ac;show _=ivR x (8*k+j);unfold ivR oG clZ;rw[d,m,hm _ ac,hm _ ac,hm _ ac,hm _ ac,hm _ ac,hm _ ac,hm _ ac,hm _ ac];simp only[Nat.mul_zero,Nat.add_zero,Nat.mul_one,Nat.reduceMul]
  .have q1:=aQ q1
   repeat (refine And.intro ao ?_)
   exact hA k h g1 _ ac (λi hi=>hg1 i ac) rfl
 have q:=aQ q;have hrow:∀i,i<64->h i=ivR x i:=λi hi=>hg i ac;refine aZ 8 0 (λk (y:Nat->Int)=>∀i,i<8*k->y i=ivF x i) (λs k y=>set_ (set_ s 0 (.i k)) 4 (.f y)) (λi _ _=>rfl) _ rfl (λi hi=>absurd hi ac) λI μ hA k y hk hy=>?_;simp only[bA,bz,bx,bE,Z_i,X_b,F_f,O_s,N_s,N_l,G_l,ap]at hA ⊢;refine br_ (λq=>?_) λq=>?_
 .have q:=ai q;refine aZ 8 2 (λj (y:Nat->Int)=>∀i,i<8*k+j->y i=ivF x i) (λs j y=>set_ (set_ s 2 (.i j)) 6 (.f y)) (λi _ _=>rfl) y rfl (λi hi=>hy i hi) λI1 μ1 hA1 j y1 hj hy1=>?_;simp only[bA,bz,bx,bE,Z_i,X_b,F_f,O_s,N_s,N_l,G_l,ap,K6,ln0,ln1,ln2,ln3,ln4,ln5,ln6,ln7,lm0,lm8,YT,Zz,Zx,ZA,Zk,Zy,jl,Nat.mul_one,Nat.zero_add]at hA1 ⊢;refine br_ (λq1=>?_) λq1=>?_
  .have q1:=ai q1
   repeat (refine And.intro ao ?_)
   refine hA1 j y1 _ _ ac (ir hy1 rfl ?_) rfl;obtain⟨d,m⟩:=pV (k:=k) (j:=j) ac;show _=ivF x (8*k+j);unfold ivF oG;rw[d,m,hm _ ac,hm _ ac,hm _ ac,hm _ ac,hm _ ac,hm _ ac,hm _ ac,hm _ ac,hrow _ ac,hrow _ ac,hrow _ ac,hrow _ ac,hrow _ ac,hrow _ ac,hrow _ ac,hrow _ ac];simp only[Nat.mul_zero,Nat.add_zero,Nat.zero_add,Nat.mul_one,Nat.reduceMul]
  .have q1:=aQ q1
   repeat (refine And.intro ao ?_)
   exact hA k y y1 _ ac (λi hi=>hy1 i ac) rfl
 have q:=aQ q;exact⟨rfl,⟨⟨λi hi=>hy i ac,ah⟩,ah⟩,ah⟩⟩
abbrev adQ:CT:=C0 Nt Us
theorem S3:CO adQ:=CX0 (TX ⟨Lh,Se,SO,ah⟩ ah) VQ
end
end Go.Proofs.YtldmjbgplgoedaaGreatDoor
