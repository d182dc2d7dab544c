import Derived.Test.YtldmjbgplgoedaaGreatDoorRp01
import Derived.Test.YtldmjbgplgoedaaGreatDoorRp38
set_option linter.all false
namespace Go.Proofs.YtldmjbgplgoedaaGreatDoor
noncomputable section
open Go.RowKit U
def PX (w:World) (b:Nat):Prop:=∃es cl,w.heap[b]? = some (.map es cl)/\∀e∈es.toList,∃z:Int,e.key=.int .i64 z
theorem vH (w:World) (b:Nat) (o:Obj):Keep (one b) w { w with heap:=w.heap.setIfInBounds b o } :=⟨rfl,rfl,rfl,by simp,λk _ hn=>by simp[Array.getElem?_setIfInBounds_ne (λe:b=k=>hn e.symm)]⟩
theorem kD (x:Int):∀(es:List MapEntry) (i:Nat),(∀e∈es,∃z:Int,e.key=.int .i64 z)->Instr.findNow (.int .i64) (.int .i64 x) es i=some none\/∃j v e,Instr.findNow (.int .i64) (.int .i64 x) es i=some (some (i+j,v))/\es[j]? = some e/\e.key=.int .i64 x
 |[],_,_=>.inl rfl
 |e::es,i,h=>by
  obtain⟨z,hz⟩:=h e List.mem_cons_self;have hr:=kD x es (i+1) λe he=>h e (List.mem_cons_of_mem _ he);rw[Instr.findNow,hz];simp only[Instr.sameNow,if_true];cases hxz:x==z
  .rcases hr with hr | ⟨j,v,e',h1,h2,h3⟩
   .exact .inl hr
   .exact .inr ⟨j+1,v,e',by rw[h1,Nat.add_assoc,Nat.add_comm 1 j],h2,h3⟩
  .exact .inr ⟨0,_,e,rfl,rfl,by rw[hz,eq_of_beq hxz]⟩
theorem EE {P:Program} {w:World} {b:Nat} (hb:PX w b) {t K E:TypeId} (ht:P.underlying t=some (.map K E)) (hK:P.underlying K=some (.int .i64)) (x y:Int) :
 ∃w',(Instr.mapUpdate t (.map (some b)) (.int .i64 x) (.int .i64 y)).run P w=.ok () w'/\Keep (one b) w w'/\PX w' b:=by
 obtain⟨es,cl,hb,hes⟩:=hb;have hlt:b<w.heap.size:=(Array.getElem?_eq_some_iff.1 hb).1;have hg:(getObj b).run P w=.ok (.map es cl) w:=by simp[getObj,Sem.run,hb]
 have hset:∀o,(setObj b o).run P w=.ok () { w with heap:=w.heap.setIfInBounds b o }:=λo=>by simp[setObj,Sem.run,hb]
 have hc:(Instr.checkKey false 10000 K (.int .i64 x)).run P w=.ok () w:=by
  unfold Instr.checkKey
  simp[run_underlying hK]
 have hk:(Instr.keyThatStays (.int .i64 x) (.int .i64 x)).run P w=.ok (.int .i64 x) w:=by
  have e:Instr.sameBits 10000 (.int .i64 x) (.int .i64 x)=true:=by simp[Instr.sameBits]
  unfold Instr.keyThatStays;rw[if_pos e];rfl
 have hfr:∀r,Instr.findNow (.int .i64) (.int .i64 x) es.toList 0=some r->(Instr.findKey K (.int .i64 x) es.toList).run P w=.ok r w:=λr hr=>by
  unfold Instr.findKey
  simp[run_underlying hK,hr]
 have fin:∀es' cl',(∀e∈es'.toList,∃z:Int,e.key=.int .i64 z)->∃w',(setObj b (.map es' cl')).run P w=.ok () w'/\Keep (one b) w w'/\PX w' b:=λes' cl' h=>⟨_,hset _,vH _ _ _,es',cl',by simp[hlt],h⟩
 unfold Instr.mapUpdate;rcases kD x es.toList 0 hes with hr | ⟨i,v,en,hr,h1,h2⟩
 .simp only[Sem.run_bind,run_underlying ht,Result.andThen_ok,hg,hc,hfr _ hr];refine fin _ _ λe he=>?_;rw[Array.toList_push,List.mem_append]at he;rcases he with he | he
  .exact hes e he
  .rw[List.mem_singleton]at he;subst he;exact⟨x,rfl⟩
 .rw[Nat.zero_add]at hr;rw[Array.getElem?_toList]at h1;simp only[Sem.run_bind,run_underlying ht,Result.andThen_ok,hg,hc,hfr _ hr,h1,Option.map_some,Option.getD_some,h2,hk];refine fin _ _ λe he=>?_;obtain⟨j,hj⟩:=List.mem_iff_getElem?.1 he;rw[Array.getElem?_toList,Array.getElem?_modify]at hj
  split at hj
  .cases e2:es[j]? with
   |none=>rw[e2]at hj;cases hj
   |some en =>rw[e2]at hj;cases hj;exact⟨x,rfl⟩
  .exact hes e (by rw[Array.mem_toList_iff];exact Array.mem_of_getElem? hj)
theorem rP {P:Program} {ops:Array Oper} {rest:List Oper} {op:Oper} {a:Act} {w:World} {Q:Exit->Act->World->Prop} {b:Nat} (t:TypeId) (m x y:Operand) (ho:op.op=.mapUpdate t m x y) (hgd:op.guard=none) (K E:TypeId) (ht:P.underlying t=some (.map K E)) (hK:P.underlying K=some (.int .i64))
 (hm:a.eval m=.map (some b)) (h:PX w b) (k v:Int) (hx:a.eval x=.int .i64 k) (hy:a.eval y=.int .i64 v)
 (hn:∀w',Keep (one b) w w'->PX w' b->wpList P ops Q rest (a.put op.dst undef) w'):wpList P ops Q (op::rest) a w :=
 wpList_plain hgd λK' hK'=>by obtain⟨w',hrun,h1,h2⟩:=EE h ht hK k v;unfold Oper.wp execOp;simp only[ho,hm,hx,hy,Sem.run_bind,hrun,Result.andThen_ok,Sem.run_pure];exact hK' _ _ (hn w' h1 h2)
set_option maxRecDepth 100000 in
set_option maxHeartbeats 4000000 in
theorem BU (n:Nat) (hn:n<=1000) (w:World):Calls Tryz.prog 87 #[.int .i64 n] w λe w'=>∃r,e=.returned (.map (some r))/\Keep PP w w':=by
 have hmm:=@run_makeMap Tryz.prog
 go_enter Tryz.func87,Tryz.ntmps87
 go_wp2_with (fail)
 obtain⟨w1,hw1⟩:∃w1,w1=w.alloc (.map #[] 0):=⟨_,rfl⟩;have B1:=Lib.hid (show PX w1 w.heap.size from⟨#[],0,hw1 ▸ heap_alloc_new w _,λe he=>by simp at he⟩)
 have K1:=Lib.hid (show Keep PP w w1 from hw1 ▸ (Keep.refl _ _).alloc _);rw[<-hw1];clear hw1 hmm
 go_loopw [7] (λi wr=>∃k:Nat,k<=n/\i=.int .i64 k/\Keep (one w.heap.size) w1 wr/\PX wr w.heap.size) (λi _=>n-(intOf i).toNat)
 case atStart=>exact⟨0,Nat.zero_le _,rfl,Keep.refl _ _,B1.out⟩
 case round =>
  obtain⟨k,hk,rfl,hk1,hb⟩:=hrel;have KK:=Lib.hid hk1;have BB:=Lib.hid hb;clear hk1 hb
  by_cases hlt:k<n
  .have hlt':(k:Int)<n:=ac;have tk1:True:=trivial
   go_wp2_with ((have _t:=tk1;refine rP 175 (.tmp 10) (.tmp 12) (.tmp 13) rfl rfl _ _ Tryz.underlying175 Tryz.underlying3 rfl BB.out _ _ rfl rfl ?_;intro w2 k2_ b2_;have K2:=Lib.hid k2_;have B2:=Lib.hid b2_;clear k2_ b2_;go_frame;clear _t tk1))
   go_roundw
   case rel=>exact⟨k+1,hlt,by go_num,KK.out.trans K2.out,B2.out⟩
   case measure=>simp[intOf];omega
  .obtain rfl:k=n:=ac;have hnl:¬ ((k:Int)<(k:Int)):=ac
   go_wp2
   go_ret
   exact⟨⟨_,rfl⟩,K1.out.own KK.out (Nat.le_refl _)⟩
end
end Go.Proofs.YtldmjbgplgoedaaGreatDoor
namespace Go.Proofs.YtldmjbgplgoedaaGreatDoor
noncomputable section
open Go.RowKit U
def kP (J:ae) (o:Nat) (w h:Int):Bool:=(J o).Z==0||(fmB (J o).Z (J (o+1)).Z (J (o+2)).N (J (o+3)).N (J (o+4)).N&&((J o).Z==w&&(J (o+1)).Z==h))
def B3 (J:ae):ae:=[.b (kP J 0 (J 5).Z (J 6).Z)]
abbrev CZ:SP:=mkS ⟨[bm],[]⟩ 157 Tryz.f157 [.tX (.sA sFM),gp,gp] [] [] [fmC]
theorem GA J R:TR CZ J R ((((J 0).Z==0)->R [.i 0,.b true])/\(((J 0).Z==0)=false->let x0:ae:=[.i (J 0).Z,.i (J 1).Z,.l (J 2).N (J 2).G,.l (J 3).N (J 3).G,.l (J 4).N (J 4).G];let x1:ae:=fmW x0;((x1 0).X->(((J 0).Z==(J 5).Z)->R [.i 0,.b ((J 1).Z==(J 6).Z)])/\(((J 0).Z==(J 5).Z)=false->R [.i 0,.b false]))/\((x1 0).X=false-> R [.i 0,.b false]))):=af
theorem Ss:PF0 CZ B3:=λJ b1 b2=>⟨by rw[GA];dsimp only;have key:∀b:Bool,b=((J 0).Z==0||(fmB (J 0).Z (J 1).Z (J 2).N (J 3).N (J 4).N&&((J 0).Z==(J 5).Z&&(J 1).Z==(J 6).Z)))->(hd [.i 0,.b b]).Z=0/\agW KX CZ.Y (tl [.i 0,.b b]) (B3 J):=λb e=>⟨rfl,⟨e,ah⟩,ah⟩;have e1:((fmW [.i (J 0).Z,.i (J 1).Z,.l (J 2).N (J 2).G,.l (J 3).N (J 3).G,.l (J 4).N (J 4).G]) 0).X=fmB (J 0).Z (J 1).Z (J 2).N (J 3).N (J 4).N:=af;rw[e1];clear e1 b1 b2;generalize fmB (J 0).Z (J 1).Z (J 2).N (J 3).N (J 4).N=a at *;refine⟨λh=>key _ (by rw[h];rfl),λh=>⟨λh1=>⟨λh2=>key _ (by rw[h,h1,h2];rfl),λh2=>key _ (by rw[h,h1,h2];rfl)⟩,λh1=>key _ (by rw[h,h1];rfl)⟩⟩⟩
abbrev acD:CT:=C0 CZ B3
theorem Ud:CO acD:=CX0 (TX ⟨TM,ah⟩ ah) Ss
def dcZ (J:ae):Int:=bif !ftB (ak (cw J 0 15 k3) [.b (J 30).X]) 0 9 15 then 1 else bif !kP J 15 (J 0).Z (J 1).Z then 1 else bif !kP J 20 (J 0).Z (J 1).Z then 1 else bif !kP J 25 (J 0).Z (Int.tdiv (J 1).Z 2)then 1 else bif (J 9).Z !=1&&(J 15).Z==0 then 6 else bif (J 9).Z==3&&(J 20).Z==0 then 6 else bif (J 9).Z==2&&((J 30).X&&(J 25).Z==0)then 6 else 0
def abR (J:ae):ae:=[.i (dcZ J)]
abbrev GC:SP:=mkS ⟨[aD 0 8],[]⟩ 85 Tryz.f85 [.tX (.sA Zf),.tX (.sA ac6),.tX (.sA ZO),aN] [] [] [Yr,acD]
theorem CQ J R:TR GC J R (let x0:ae:=(ak (cw J 0 15 k3) [.b (J 30).X]);let x1:ae:=Oc x0;((!(x1 0).X)->R [.i 0,.i 1])/\((!(x1 0).X)=false->let x2:ae:=[.i (J 15).Z,.i (J 16).Z,.l (J 17).N (J 17).G,.l (J 18).N (J 18).G,.l (J 19).N (J 19).G,.i (J 0).Z,.i (J 1).Z];let x3:ae:=B3 x2;((!(x3 0).X)->R [.i 0,.i 1])/\((!(x3 0).X)=false->let x4:ae:=[.i (J 20).Z,.i (J 21).Z,.l (J 22).N (J 22).G,.l (J 23).N (J 23).G,.l (J 24).N (J 24).G,.i (J 0).Z,.i (J 1).Z];let x5:ae:=B3 x4;((!(x5 0).X)->R [.i 0,.i 1])/\((!(x5 0).X)=false->let x6:ae:=[.i (J 25).Z,.i (J 26).Z,.l (J 27).N (J 27).G,.l (J 28).N (J 28).G,.l (J 29).N (J 29).G,.i (J 0).Z,.i (Int.tdiv (J 1).Z 2)];let x7:ae:=B3 x6;((!(x7 0).X)->R [.i 0,.i 1])/\((!(x7 0).X)=false->(((J 9).Z !=1)->(((J 15).Z==0)->R [.i 0,.i 6])/\(((J 15).Z==0)=false->(((J 9).Z==3)->(((J 20).Z==0)->R [.i 0,.i 6])/\(((J 20).Z==0)=false->(((J 9).Z==2)->((J 30).X->(((J 25).Z==0)->R [.i 0,.i 6])/\(((J 25).Z==0)=false->R [.i 0,.i 0]))/\((J 30).X=false->R [.i 0,.i 0]))/\(((J 9).Z==2)=false->R [.i 0,.i 0])))/\(((J 9).Z==3)=false->(((J 9).Z==2)->((J 30).X->(((J 25).Z==0)->R [.i 0,.i 6])/\(((J 25).Z==0)=false->R [.i 0,.i 0]))/\((J 30).X=false->R [.i 0,.i 0]))/\(((J 9).Z==2)=false->R [.i 0,.i 0]))))/\(((J 9).Z !=1)=false->(((J 9).Z==3)->(((J 20).Z==0)->R [.i 0,.i 6])/\(((J 20).Z==0)=false->(((J 9).Z==2)->((J 30).X->(((J 25).Z==0)->R [.i 0,.i 6])/\(((J 25).Z==0)=false->R [.i 0,.i 0]))/\((J 30).X=false->R [.i 0,.i 0]))/\(((J 9).Z==2)=false->R [.i 0,.i 0])))/\(((J 9).Z==3)=false->(((J 9).Z==2)->((J 30).X->(((J 25).Z==0)->R [.i 0,.i 6])/\(((J 25).Z==0)=false->R [.i 0,.i 0]))/\((J 30).X=false->R [.i 0,.i 0]))/\(((J 9).Z==2)=false-> R [.i 0,.i 0])))))))):=af
theorem Vk (J:ae) (R:ae->Prop) (key:∀b:Int,b=dcZ J->R [.i 0,.i b]):Sa (TS GC J) R:=⟨by
 rw[CQ];dsimp only;have e1:((Oc (ak (cw J 0 15 k3) [.b (J 30).X])) 0).X=ftB (ak (cw J 0 15 k3) [.b (J 30).X]) 0 9 15:=af;have e2:((B3 [.i (J 15).Z,.i (J 16).Z,.l (J 17).N (J 17).G,.l (J 18).N (J 18).G,.l (J 19).N (J 19).G,.i (J 0).Z,.i (J 1).Z]) 0).X=kP J 15 (J 0).Z (J 1).Z:=af;have e3:((B3 [.i (J 20).Z,.i (J 21).Z,.l (J 22).N (J 22).G,.l (J 23).N (J 23).G,.l (J 24).N (J 24).G,.i (J 0).Z,.i (J 1).Z]) 0).X=kP J 20 (J 0).Z (J 1).Z:=af;have e4:((B3 [.i (J 25).Z,.i (J 26).Z,.l (J 27).N (J 27).G,.l (J 28).N (J 28).G,.l (J 29).N (J 29).G,.i (J 0).Z,.i (Int.tdiv (J 1).Z 2)]) 0).X=kP J 25 (J 0).Z (Int.tdiv (J 1).Z 2):=af;rw[e1,e2,e3,e4];clear e1 e2 e3 e4;unfold dcZ at key;generalize ftB (ak (cw J 0 15 k3) [.b (J 30).X]) 0 9 15=a at *;generalize kP J 15 (J 0).Z (J 1).Z=b at *;generalize kP J 20 (J 0).Z (J 1).Z=c at *;generalize kP J 25 (J 0).Z (Int.tdiv (J 1).Z 2)=d at *;generalize ((J 15).Z==0)=e at *;generalize ((J 20).Z==0)=f at *;generalize ((J 25).Z==0)=g at *;generalize ((J 9).Z !=1)=t1 at *;generalize ((J 9).Z==2)=t2 at *;generalize ((J 9).Z==3)=t3 at *;generalize (J 30).X=s at *
 repeat' (first|apply And.intro | intro _)
 all_goals (refine key _ ?_;simp_all)⟩
theorem UV:PF0 GC abR:=λJ _ _=>Vk J _ λb e=>⟨rfl,⟨e,ah⟩,ah⟩
abbrev aen:CT:=C0 GC abR
theorem Vu:CO aen:=CX0 (TX ⟨xR,Ud,ah⟩ ah) UV
end
end Go.Proofs.YtldmjbgplgoedaaGreatDoor
namespace Go.Proofs.YtldmjbgplgoedaaGreatDoor
noncomputable section
open Go.RowKit U
def adP (_:ae):ae:=[]
abbrev afm:List AT:=[aj 0 4]
abbrev afv:List AB:=[]
abbrev ae7:Wy:=⟨[.sO .nU],[]⟩
abbrev acI:CT:=CS0 87 afm afv ae7 adP
theorem R3:cV KX Tryz.prog GX acI:=⟨λ_ _=>af,λJ c w vs Q hG hm hv hQ=>by
 match vs,hv with
 |[],hv=>exact absurd (show 1=0 from hv.1) afH
 |_::_::t,hv=>exact absurd (show 1=t.length+1+1 from hv.1) ac
 |[v],hv =>have h:=(allAt_cons.1 hv).1;obtain⟨rfl,h1,h2,-⟩:=is_I.1 (show(AV.nI .i64 0 4 (hd J).Z).is KX c v from h);obtain⟨n,hn⟩:=Int.eq_ofNat_of_zero_le h1;rw[hn];refine Calls.mono (BU n ac w) ?_;rintro e w' ⟨r,rfl,k⟩;exact⟨_,rfl,_,_,hQ,c,hm.keep k,is_U.2 rfl⟩⟩
end
end Go.Proofs.YtldmjbgplgoedaaGreatDoor
namespace Go.Proofs.YtldmjbgplgoedaaGreatDoor
noncomputable section
open Go.RowKit U
def Tj (J:ae):Int:=bif (J 10).Z==3 then(J 1).Z else Int.tdiv (J 1).Z 2
def ZE (J:ae):ae:=[.i (Tj J)]
abbrev Ma:SP:=mkS ⟨[aD 8 64],[]⟩ 83 Tryz.f83 [.tX (.sA acr),.tX (.sA ack)] [] []
theorem C4 J R:TR Ma J R (BR ((J 10).Z==3) (R [.i 0,.i (J 1).Z]) (R [.i 0,.i (Int.tdiv (J 1).Z 2)])):=af
theorem S8:PF0 Ma ZE:=λJ b1 b2=>⟨by rw[C4];exact⟨λh=>⟨rfl,⟨(Bm h _ _).symm,ah⟩,ah⟩,λh=>⟨rfl,⟨(A8 h _ _).symm,ah⟩,ah⟩⟩⟩
abbrev adH:CT:=C0 Ma ZE
theorem Uu:CO adH:=CX0 (TX trivial ah) S8
def cnF (J:ae) (s:Int):ae:=[.i (J 15).Z,.i (J 16).Z,.l (J 17).N (J 17).G,.l (J 18).N (J 18).G,.l (J 19).N (J 19).G,.i s]
def cnL (J:ae):ae:=[.i (J 0).Z,.i (Tj J),.i 128,.i 128,.i 128]
def Yn (J:ae):Prop:=((J 15).Z=0->iA (cnL J))/\((J 15).Z≠0->(2<=(J 15).Z/\2<=(J 16).Z/\1<=(J 17).N/\1<=(J 18).N/\1<=(J 19).N)/\((J 10).Z=1->dp (cnF J 0))/\((J 10).Z=2->dp (cnF J 1)))
def sN (J:ae):ae:=bif (J 15).Z==0 then eY (cnL J)else bif (J 10).Z==1 then dP (cnF J 0)else bif (J 10).Z==2 then dP (cnF J 1)else[.i (J 15).Z,.i (J 16).Z,.l ((kQ [.l (J 17).N (J 17).G]) 0).N ((kQ [.l (J 17).N (J 17).G]) 0).G,.l ((kQ [.l (J 18).N (J 18).G]) 0).N ((kQ [.l (J 18).N (J 18).G]) 0).G,.l ((kQ [.l (J 19).N (J 19).G]) 0).N ((kQ [.l (J 19).N (J 19).G]) 0).G,.i 0]
abbrev Pw:SP:=mkS ⟨[.sA sFF,aD 0 0],[]⟩ 86 Tryz.f86 [.tX (.sA acr),.tX (.sA ack),.tX (.sA sFM)] [] [] [adH,iU,qX,X7]
theorem G5 J R:TR Pw J R ((((J 15).Z==0)->let x0:ae:=(cw J 0 15 k3);let x1:ae:=ZE x0;let x2:ae:=[.i (J 0).Z,.i (x1 0).Z,.i 128,.i 128,.i 128];(iA x2)/\let x3:ae:=eY x2;R (ak [.i 0] (cw x3 0 6 51465)))/\(((J 15).Z==0)=false->(((J 10).Z==1)->(2<=(J 15).Z)/\(2<=(J 16).Z)/\(1<=(J 17).N)/\(1<=(J 18).N)/\(1<=(J 19).N)/\let x4:ae:=(ak (cw J 15 5 18697) [.i 0]);(dp x4)/\let x5:ae:=dP x4;R (ak [.i 0] (cw x5 0 6 51465)))/\(((J 10).Z==1)=false->(((J 10).Z==2)->(2<=(J 15).Z)/\(2<=(J 16).Z)/\(1<=(J 17).N)/\(1<=(J 18).N)/\(1<=(J 19).N)/\let x6:ae:=(ak (cw J 15 5 18697) [.i 1]);(dp x6)/\let x7:ae:=dP x6;R (ak [.i 0] (cw x7 0 6 51465)))/\(((J 10).Z==2)=false-> (1<=(J 17).N)/\let x8:ae:=[.l (J 17).N (J 17).G];let x9:ae:=kQ x8;(1<=(J 18).N)/\let x10:ae:=[.l (J 18).N (J 18).G];let x11:ae:=kQ x10;(1<=(J 19).N)/\let x12:ae:=[.l (J 19).N (J 19).G];let x13:ae:=kQ x12;(2<=(J 15).Z)/\(2<=(J 16).Z)/\((x11 0).N<=1024)/\((x13 0).N<=1024)/\R [.i 0,.i (J 15).Z,.i (J 16).Z,.l (x9 0).N (x9 0).G,.l (x11 0).N (x11 0).G,.l (x13 0).N (x13 0).G,.i 0])))):=af
theorem Su:PF1 Pw Yn sN:=λJ b1 b2 ⟨p1,p2⟩=>⟨by
 rw[G5];dsimp only;obtain⟨-,-,⟨-,-,-,⟨-,n1,-⟩,⟨-,n2,-⟩,-⟩,-⟩:=b1;have n1:(J 18).N<=1024:=n1;have n2:(J 19).N<=1024:=n2;refine⟨λh=>?_,λh=>?_⟩
 .have q:=p1 (eq_of_beq h);rw[show sN J=eY (cnL J)from Bm h _ _];exact⟨kmp q,rfl,⟨ay af,(by show(_:Int)=_;kernel_rfl),ah⟩,ah⟩
 .obtain⟨⟨q1,q2,q3,q4,q5⟩,q6,q7⟩:=p2 (by simpa using h)
  refine⟨λh1=>?_,λh1=>⟨λh2=>?_,λh2=>?_⟩⟩
  .rw[show sN J=dP (cnF J 0) by unfold sN;rw[h,h1];rfl]
   exact⟨q1,q2,q3,q4,q5,kmp (q6 (eq_of_beq h1)),rfl,⟨ay af,(by show(_:Int)=_;kernel_rfl),ah⟩,ah⟩
  .rw[show sN J=dP (cnF J 1) by unfold sN;rw[h,h1,h2];rfl]
   exact⟨q1,q2,q3,q4,q5,kmp (q7 (eq_of_beq h2)),rfl,⟨ay af,(by show(_:Int)=_;kernel_rfl),ah⟩,ah⟩
  .rw[show sN J=[.i (J 15).Z,.i (J 16).Z,.l ((kQ [.l (J 17).N (J 17).G]) 0).N ((kQ [.l (J 17).N (J 17).G]) 0).G,.l ((kQ [.l (J 18).N (J 18).G]) 0).N ((kQ [.l (J 18).N (J 18).G]) 0).G,.l ((kQ [.l (J 19).N (J 19).G]) 0).N ((kQ [.l (J 19).N (J 19).G]) 0).G,.i 0] by unfold sN;rw[h,h1,h2];rfl]
   exact⟨q3,q4,q5,q1,q2,kmp n1,kmp n2,rfl,⟨ay af,(by show(_:Int)=_;kernel_rfl),ah⟩,ah⟩⟩
abbrev adL:CT:=C1 Pw Yn sN
theorem Uz:CO adL:=CX1 (TX ⟨Uu,cE,dh,xT,ah⟩ ah) Su
theorem Vb (J:ae) (o p:Nat):0<=rwZ J o p/\rwZ J o p<=4:=by
 unfold rwZ;cases h:pvB J o p
 .exact⟨show(0:Int)<=0 by decide,show(0:Int)<=4 by decide⟩
 .have v:=(Lz h).hH;generalize (J (o+1)).Z=H at *;rw[Int.tdiv_eq_ediv_of_nonneg (a:=H) (b:=16) ac,Int.tdiv_eq_ediv_of_nonneg (a:=H) (b:=2) ac,Int.tdiv_eq_ediv_of_nonneg (a:=H / 2) (b:=16) ac];cases(J (p+1)).Z==3
  .exact⟨show 0<=H / 2 / 16 by omega,show H / 2 / 16<=4 by omega⟩
  .exact⟨show 0<=H / 16 by omega,show H / 16<=4 by omega⟩
def deA (J:ae):ae:=cw J 0 31 3182254324443694484343267913
def deC (J:ae):ae:=cw J 0 20 657852247843316297
def Y0 (J:ae):Prop:=dcZ (deA J)=0->Yn (deC J)
def J7 (J:ae):ae:=bif dcZ (deA J)!=0 then[.i 0,.i 0,.l 0 (λ_=>[]),.l 0 (λ_=>[]),.l 0 (λ_=>[]),.l 0 (λ_=>[]),.i (dcZ (deA J))] else ak (cZ (sN (deC J))) [.l (rwZ J 0 9).toNat (λ_=>[.b false]),.i 0]
def deH (J:ae) (i:Nat):ae:=ak [.b (J 30).X,.s 0 (rwZ J 0 9).toNat,.i (((rwZ J 0 9).toNat:Nat):Int),.i (i:Int)] (ak (cw J 0 30 706374245872933934545019465) (ak [.f (λ_=>0)] (ak (cZ (sN (deC J))) [.l (rwZ J 0 9).toNat (λ_=>[.b false])])))
abbrev N1:SP:=mkS ⟨[.sA sFM,.sO (.nR 2 0 4 0 g0),aD 0 8],[]⟩ 35 Tryz.f35 [.tX (.sA acr),.tX (.sA aeD),.tX (.sA ZO),aN] [] [(10,.head ⟨[(3,aN),(4,tXO (.nP 0 0)),(5,tXO (.nP 1 0)),(6,tXO (.nP 2 0)),(8,tXO (.nP 3 0)),(12,tXO (.nP 4 0)),(14,tXO (.nD 5 2 0 4 0 0)),(15,.tX (.sO .nU)),(59,aj 0 4),(60,aj 0 1048576)],[.run 26 acr,.run 41 aeD,.run 33 ZO,.run 31 ad5,.run 31 sFF,.dyn 4 2 0 4 0 g0 false],[]⟩)] [aen,adL,Yh,acI,Yr,A9,Tz,Z0,aaZ,Wd,C9,HD,BK,abJ,aag] [(aw 88 Tryz.f88),(aw 89 Tryz.f89),(aw 159 Tryz.f159),(aw 230 Tryz.f230),(aw 160 Tryz.f160),(aw 91 Tryz.f91),(aw 98 Tryz.f98),(aw 161 Tryz.f161),(aw 232 Tryz.f232),(aw 299 Tryz.f299),(aw 164 Tryz.f164),(aw 300 Tryz.f300),(aw 233 Tryz.f233),(aw 301 Tryz.f301),(aw 239 Tryz.f239),(aw 302 Tryz.f302),(aw 234 Tryz.f234),(aw 304 Tryz.f304),(aw 306 Tryz.f306),(aw 310 Tryz.f310),(aw 307 Tryz.f307),(aw 235 Tryz.f235),(aw 236 Tryz.f236),(aw 237 Tryz.f237),(aw 308 Tryz.f308),(aw 350 Tryz.f350),(aw 351 Tryz.f351),(aw 352 Tryz.f352),(aw 365 Tryz.f365),(aw 366 Tryz.f366),(aw 309 Tryz.f309),(aw 162 Tryz.f162)]
theorem DR J R:TR N1 J R (let x0:ae:=(cw J 0 31 3182254324443694484343267913);let x1:ae:=abR x0;(((x1 0).Z !=0)->R [.i 0,.i 0,.i 0,.l 0 (λ_=>[]),.l 0 (λ_=>[]),.l 0 (λ_=>[]),.l 0 (λ_=>[]),.i (x1 0).Z])/\(((x1 0).Z !=0)=false->let x2:ae:=(cw J 0 20 657852247843316297);(Yn x2)/\let x3:ae:=sN x2;let x4:ae:=(cw J 0 15 k3);let x5:ae:=GY x4;let x6:ae:=[.i (((x5 0).Z.toNat:Nat):Int)];let x7:ae:=adP x6;∃(I0:ae->Prop) (μ0:ae->Nat),I0 (ak [.b (J 30).X,.s 0 (x5 0).Z.toNat,.i (((x5 0).Z.toNat:Nat):Int),.i 0] (ak (cw J 0 30 706374245872933934545019465) (ak [.f (λ_=>0)] (ak (cw x3 0 5 18697) [.l (x5 0).Z.toNat (λ_=>[.b false])]))))/\∀l0,I0 l0->((decide ((l0 3).Z<(l0 2).Z))->(((l0 3).Z+1)<=1048576)/\Ag I0 μ0 l0 (ak (ak (cw l0 0 3 106) [.i ((l0 3).Z+1)]) (cw l0 4 37 1483244754144220676205694729626185)))/\((decide ((l0 3).Z<(l0 2).Z))=false-> (((l0 1).O+(l0 1).N)<=(l0 40).N)/\R (ak [.i 0] (ak (cw l0 35 5 18697) [.l (l0 1).N (λi0=>(l0 40).G ((l0 1).O+i0)),.i 0]))))):=af
theorem Xe:PF1 N1 Y0 J7:=λJ _ _ hp=>⟨by
 rw[DR];dsimp only;refine⟨λh=>?_,λh=>?_⟩
 .rw[show J7 J=[.i 0,.i 0,.l 0 (λ_=>[]),.l 0 (λ_=>[]),.l 0 (λ_=>[]),.l 0 (λ_=>[]),.i (dcZ (deA J))] from Bm (kmp h) _ _];exact⟨rfl,⟨ay af,⟨rfl,λ_ _=>rfl⟩,(by show(_:Int)=_;kernel_rfl),ah⟩,ah⟩
 .have h:(dcZ (deA J)!=0)=false:=kmp h;rw[show J7 J=ak (cZ (sN (deC J))) [.l (rwZ J 0 9).toNat (λ_=>[.b false]),.i 0] from A8 h _ _];have hz:dcZ (deA J)=0:=by simpa using h
  refine⟨kmp (hp hz),?_⟩;have hr:((GY (cw J 0 15 k3)) 0).Z=rwZ J 0 9:=af;have h4:=(Vb J 0 9).2;refine bG (X:=Unit) (rwZ J 0 9).toNat 3 (λ_ _=>True) (λi _=>deH J i) (λ_ _ _=>rfl) () af trivial λI μ hA i _ l hi _ hl=>?_;subst hl;refine⟨λh=>?_,λh=>?_⟩
  .have h:decide ((i:Int)<(((rwZ J 0 9).toNat:Nat):Int))=true:=kmp h;have h:=of_decide_eq_true h;exact⟨show(i:Int)+1<=1048576 by omega,hA i () () _ _ ac trivial rfl af⟩
  .have e0:0+(rwZ J 0 9).toNat<=(rwZ J 0 9).toNat:=ac;exact⟨kmp e0,rfl,⟨ay af,⟨af,λ_ _=>af⟩,(by show(_:Int)=_;kernel_rfl),ah⟩,ah⟩⟩
abbrev adh:CT:=C1 N1 Y0 J7
theorem Ra:CO adh:=CX1 (TX ⟨Vu,Uz,xp,R3,xR,hJ,uv,K3,Kz,tf,rcnI_ct,wE,Az,I5,Lo,ah⟩ (FK (FK (FK (FK (FK (FK (FK (FK (FK (FK (FK (FK (FK (FK (FK (FK (FK (FK (FK (FK (FK (FK (FK (FK (FK (FK (FK (FK (FK (FK (FK (FK ah))))))))))))))))))))))))))))))))) Xe
end
end Go.Proofs.YtldmjbgplgoedaaGreatDoor
