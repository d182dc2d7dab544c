/- States that coding the reconstructions of a film again stays within the bound of them, and that the same film is always coded in the same way (14.3): the statement Rows.EncoderRepeatsCardSaid is proved here, as it is given, with no condition of its own. -/
import Derived.Test.YtldmjbgplgoedaaGreatDoorRp51
import Derived.OpenShut
import Derived.Deep.Slices
import Derived.ChangeArms
import Derived.DataReads
import Derived.ProofKit
import Derived.LaidMore
import Derived.Test.YtldmjbgplgoedaaGreatDoorCards
import Derived.Test.YtldmjbgplgoedaaGreatDoorRows
import Derived.Test.YtldmjbgplgoedaaGreatDoorTie
import Derived.Stop.Joined
import Derived.Lib.SmallJoins
import Derived.Below
import Derived.Carry
import Derived.ChangeSame
import Derived.SevenTiedAt
set_option linter.all false
namespace Go.Proofs.YtldmjbgplgoedaaGreatDoor
noncomputable section
open Go.RowKit U
def cW (w:World):Cx:=⟨λ_=>none,λb=>match w.heap[b]? with
 |some (.cells cs ty _)=>some (ty,cs)
 |_=>none,λ_=>0,[]⟩
theorem abe {w:World} {b:Nat} {cs:Array Value} {ty:TypeId} {fz:Nat × Nat} (h:w.heap[b]? = some (.cells cs ty fz)):(cW w).F b=some (ty,cs):=by
 show(match w.heap[b]? with
  |some (.cells cs ty _)=>some (ty,cs)
  |_=>none)=_
 rw[h]
theorem Vi (K:KT) (w:World):AM K w (cW w) (cW w) [] w:=⟨rfl,rfl,rfl,Nat.le_refl _,λ_ _ _=>rfl,Cx.le_refl _,λj id e=>(by cases e),λi j id x y e=>(by cases e),λj id e=>(by cases e),λ_ e=>.inl e,λj id ab e=>(by cases e),λb ty cs e=>by
 have e:(match w.heap[b]? with
  |some (.cells cs ty _)=>some (ty,cs)
  |_=>none)=some (ty,cs):=e
 split at e
 .rename_i cs' ty' fz h;cases e;exact⟨fz,h⟩
 .cases e⟩
def RowE (w:World) (sz:Nat) (E:List Value->ae->Prop) (v:Value) (n:Nat) (g:Nat->ae):Prop :=∃A m,v=.slice A n m/\n<=m/\m<=maxLen/\(A=none->m=0)/\∀a,A=some a->0<m->∃o ty cs fz,a=⟨a.block,o,none⟩/\w.heap[a.block]? = some (.cells cs ty fz)/\o+m*sz<=cs.size/\∀i,i<n->E (elo cs sz (o+i*sz)) (g i)
theorem RowE.is {w:World} {κ a b n sz:Nat} {E:List Value->ae->Prop} {v:Value} {g:Nat->ae} (h:RowE w sz E v n g) (hs:(aK KX κ).m=sz) (ha:a<=n) (hb:n<=b) (hE:∀i,i<n->∀cs,E cs (g i)->RsOk KX (cW w) (ax (aK KX κ).rs (g i)) cs):(AV.nR κ a b n g).is KX (cW w) v:=by
 subst hs;obtain⟨A,m,h1,h2,h3,h4,h5⟩:=h
 exact is_R.2 ⟨A,m,h1,ha,hb,h2,h3,h4,λad e hm=>by obtain⟨o,ty,cs,fz,g1,g2,g3,g4⟩:=h5 ad e hm;exact⟨o,ty,cs,g1,abe g2,g3,λi hi=>hE i hi _ (g4 i hi)⟩⟩
section
variable {H:Type} {enc:TypeId × Value->H} {w:World}
def Trd (enc:TypeId × Value->H) (w:World) (t:TypeId) (cs:List Value):Prop:=∃fuel x,DataW.trod enc Tryz.prog w 0 (λ_=>true) true fuel t cs=some x
theorem Trd.int {t:TypeId} {k:IntKind} {cs:List Value} (h:Trd enc w t cs) (ht:Tryz.prog.underlying t=some (.int k)):∃z,cs=[.int k z]/\(Lit.int k z).wf=true:=by obtain⟨fuel,x,h⟩:=h;obtain⟨n,e,-,hw⟩:=DataW.trod_int ht h;exact⟨n,e,hw⟩
theorem Trd.bool {t:TypeId} {cs:List Value} (h:Trd enc w t cs) (ht:Tryz.prog.underlying t=some .bool):∃b,cs=[.bool b]:=by obtain⟨fuel,x,h⟩:=h;obtain⟨n,e,-⟩:=DataW.trod_bool ht h;exact⟨n,e⟩
theorem Trd.fld {t:TypeId} {cs:List Value} {fs:Array Field} (h:Trd enc w t cs) (ht:Tryz.prog.underlying t=some (.struct fs)) (i o n:Nat) (ty:TypeId) (hi:(fs[i]?).map (λf=>(f.type,f.offset))=some (ty,o)) (hn:Tryz.prog.cellsOf ty=n) :
 Trd enc w ty ((cs.drop o).take n):=by
 obtain⟨fuel,x,h⟩:=h;obtain⟨xs,m,-,-,hl,hxl,hf⟩:=DataW.trod_struct ht h
 cases hq:fs[i]? with
 |none=>rw[hq]at hi;cases hi
 |some f =>
  rw[hq]at hi;simp only[Option.map_some,Option.some.injEq,Prod.mk.injEq]at hi;obtain⟨rfl,rfl⟩:=hi;have hil:i<xs.length:=by rw[hxl];exact(Array.getElem?_eq_some_iff.1 hq).1
  have:=hf i f hq;rw[List.getElem?_eq_getElem hil,hn]at this;exact⟨m,_,this⟩
theorem Trd.len {t:TypeId} {cs:List Value} {fs:Array Field} (h:Trd enc w t cs) (ht:Tryz.prog.underlying t=some (.struct fs)):cs.length=Tryz.prog.cellsOf t:=by obtain⟨fuel,x,h⟩:=h;obtain⟨xs,m,-,-,hl,-⟩:=DataW.trod_struct ht h;exact hl
theorem Trd.arr {t e:TypeId} {n:Nat} {cs:List Value} (h:Trd enc w t cs) (ht:Tryz.prog.underlying t=some (.array n e)) (he:Tryz.prog.underlying e=some (.int .u8)) (hc:Tryz.prog.cellsOf e=1) (hn:Tryz.prog.cellsOf t=n):∃f:Nat->Int,cs.length=n/\∀i,i<n->cs[i]? = some (.int .u8 (f i))/\0<=f i/\f i<=255:=by
 obtain⟨fuel,x,h⟩:=h;obtain⟨xs,m,-,-,hl,hx,hg⟩:=DataW.trod_array ht h;have hl':cs.length=n:=hl.trans hn
 refine⟨λi=>match cs[i]? with | some (.int _ z)=>z | _=>0,hl',λi hi=>?_⟩
 have:=hg i hi;rw[List.getElem?_eq_getElem ac,hc,Nat.mul_one]at this;obtain⟨z,hz,-,wz⟩:=DataW.trod_int he this
 have h0:cs[i]? = some (.int .u8 z):=by
  have h0:=congrArg (·[0]?) hz
  simpa[List.getElem?_take,List.getElem?_drop]using h0
 have e:(match cs[i]? with | some (.int _ z)=>z | _=>0)=z:=by rw[h0]
 show cs[i]? = some (.int .u8 (match cs[i]? with | some (.int _ z)=>z | _=>0))/\0<=(match cs[i]? with | some (.int _ z)=>z | _=>0)/\(match cs[i]? with | some (.int _ z)=>z | _=>0)<=255
 rw[e];exact⟨h0,bounds_u8 wz⟩
theorem Trd.slice {t e:TypeId} {sz:Nat} {cs:List Value} (h:Trd enc w t cs) (ht:Tryz.prog.underlying t=some (.slice e)) (hc:Tryz.prog.cellsOf e=sz) (hsz:0<sz) (E:List Value->ae->Prop) (hx:∀cs,Trd enc w e cs->cs.length=sz->∃J,E cs J) :
 ∃v n g,cs=[v]/\RowE w sz E v n g/\n<=maxLen:=by
 obtain⟨fuel,x,h⟩:=h;rcases Go.Deep.open_slice ht h with ⟨rfl,-⟩ | ⟨a,len,cap,m,n,D,Pl,rfl,-,hl,hm,hmm,-,hel⟩
 .exact⟨_,0,λ_=>[],rfl,⟨none,0,rfl,Nat.le_refl _,Nat.zero_le _,λ_=>rfl,λa e=>by cases e⟩,Nat.zero_le _⟩
 simp only[if_true]at hmm;subst hmm;rw[hc]at hel
 have key:∀i,i<m->∃J:ae,∃cs',w.cells? 0 (a.add (i*sz)) sz=some cs'/\E cs' J:=λi hi=>by obtain⟨cs',g1,g2⟩:=hel i hi;obtain⟨J,hE⟩:=hx cs' ⟨_,_,g2⟩ (World.cells?_some g1).2.1;exact⟨J,cs',g1,hE⟩
 let g:Nat->ae:=λi=>if hi:i<m then(key i hi).choose else[]
 have hg:∀i,i<m->∃cs',w.cells? 0 (a.add (i*sz)) sz=some cs'/\E cs' (g i):=λi hi=>by
  have:=(key i hi).choose_spec;show ∃cs',w.cells? 0 (a.add (i*sz)) sz=some cs'/\E cs' (if hi:i<m then(key i hi).choose else[])
  rw[dif_pos hi];exact this
 refine⟨_,len,g,rfl,⟨some a,m,rfl,hl,hm,λe=>(by cases e),λad e hm0=>?_⟩,ac⟩
 cases e;obtain⟨b,o,sp⟩:=a
 have hsp:sp=none:=by
  obtain⟨cs',g1,-⟩:=hg 0 hm0;obtain⟨-,g2,g3⟩:=World.cells?_some g1;have g4:=g3 0 hsz;rw[List.getElem?_eq_getElem ac]at g4
  simpa[Addr.add]using World.cell?_spot g4
 subst hsp
 have cell:∀i,i<m->∃cs',E cs' (g i)/\cs'.length=sz/\∀j,j<sz->w.cell? ⟨b,o+i*sz+j,none⟩=cs'[j]?:=λi hi=>by
  obtain⟨cs',g1,gE⟩:=hg i hi;obtain⟨-,g2,g3⟩:=World.cells?_some g1;refine⟨cs',gE,g2,λj hj=>?_⟩;have g4:=g3 j hj
  rwa [Go.WideShapes.add_plain,Go.WideShapes.add_plain]at g4
 obtain⟨CS,ty,fz,hh⟩:∃CS ty fz,w.heap[b]? = some (.cells CS ty fz):=by
  obtain⟨cs',-,g2,g3⟩:=cell 0 hm0;have g4:=g3 0 hsz;rw[List.getElem?_eq_getElem ac]at g4;unfold World.cell? at g4
  split at g4
  .rename_i c t f hq;exact⟨c,t,f,hq⟩
  .cases g4
 have cellC:∀k,w.cell? ⟨b,k,none⟩=CS[k]?:=λk=>by unfold World.cell?;dsimp only;rw[hh];rfl
 have hsize:o+m*sz<=CS.size:=by
  obtain⟨cs',-,g2,g3⟩:=cell (m-1) ac;have g4:=g3 (sz-1) ac;rw[List.getElem?_eq_getElem ac,cellC]at g4;have:=(Array.getElem?_eq_some_iff.1 g4).1
  have e:(m-1)*sz+sz=m*sz:=by have h1:(m-1+1)*sz=(m-1)*sz+sz:=Nat.succ_mul _ _;rw[<-h1,Nat.sub_add_cancel hm0]
  omega
 refine⟨o,ty,CS,fz,rfl,hh,hsize,λi hi=>?_⟩;obtain⟨cs',gE,g2,g3⟩:=cell i ac
 have:elo CS sz (o+i*sz)=cs':=by
  apply List.ext_getElem?
  intro j;show((CS.toList.drop (o+i*sz)).take sz)[j]? = cs'[j]?
  by_cases hj:j<sz
  .rw[List.getElem?_take,if_pos hj,List.getElem?_drop,Array.getElem?_toList,<-cellC,g3 j hj]
  .rw[List.getElem?_eq_none (by rw[List.length_take];omega),List.getElem?_eq_none ac]
 rw[this];exact gE
def EB (cs:List Value) (J:ae):Prop:=∃z,cs=[.int .u8 z]/\J=[.i z]/\0<=z/\z<=255
def EI (cs:List Value) (J:ae):Prop:=∃z,cs=[.int .i64 z]/\J=[.i z]/\-9223372036854775808<=z/\z<=9223372036854775807
def EF (w:World) (cs:List Value) (J:ae):Prop:=∃W H v1 v2 v3 n1 n2 n3 g1 g2 g3,cs=[.int .i64 W,.int .i64 H,v1,v2,v3]/\J=[.i W,.i H,.l n1 g1,.l n2 g2,.l n3 g3]/\(-9223372036854775808<=W/\W<=9223372036854775807)/\(-9223372036854775808<=H/\H<=9223372036854775807)/\(RowE w 1 EB v1 n1 g1/\n1<=maxLen)/\(RowE w 1 EB v2 n2 g2/\n2<=maxLen)/\RowE w 1 EB v3 n3 g3/\n3<=maxLen
theorem Trd.i64 {cs:List Value} {t:TypeId} (h:Trd enc w t cs) (ht:Tryz.prog.underlying t=some (.int .i64)):∃z,cs=[.int .i64 z]/\-9223372036854775808<=z/\z<=9223372036854775807:=by obtain⟨z,e,hw⟩:=h.int ht;exact⟨z,e,bounds_i64 hw⟩
theorem Trd.bytes {cs:List Value} (h:Trd enc w 29 cs):∃v n g,cs=[v]/\RowE w 1 EB v n g/\n<=maxLen :=h.slice Tryz.underlying29 af afH EB λcs hc _=>by obtain⟨z,e,hw⟩:=hc.int Tryz.underlying5;exact⟨_,z,e,rfl,bounds_u8 hw⟩
theorem Trd.ints {cs:List Value} (h:Trd enc w 58 cs):∃v n g,cs=[v]/\RowE w 1 EI v n g/\n<=maxLen :=h.slice Tryz.underlying58 af afH EI λcs hc _=>by obtain⟨z,e,hw⟩:=hc.i64 Tryz.underlying3;exact⟨_,z,e,rfl,hw⟩
theorem oF (l:List Value) (a n:Nat):l.drop a=(l.drop a).take n++l.drop (a+n):=by rw[<-List.drop_drop,List.take_append_drop]
theorem Trd.frame {cs:List Value} (h:Trd enc w 31 cs):∃J,EF w cs J:=by
 have hl:=h.len Tryz.underlying31;have hl:cs.length=5:=hl.trans af;obtain⟨W,e0,w0⟩:=(h.fld Tryz.underlying31 0 0 1 3 rfl af).i64 Tryz.underlying3;obtain⟨Hh,e1,w1⟩:=(h.fld Tryz.underlying31 1 1 1 3 rfl af).i64 Tryz.underlying3;obtain⟨v1,n1,g1,e2,r1⟩:=(h.fld Tryz.underlying31 2 2 1 29 rfl af).bytes;obtain⟨v2,n2,g2,e3,r2⟩:=(h.fld Tryz.underlying31 3 3 1 29 rfl af).bytes;obtain⟨v3,n3,g3,e4,r3⟩:=(h.fld Tryz.underlying31 4 4 1 29 rfl af).bytes;refine⟨_,W,Hh,v1,v2,v3,n1,n2,n3,g1,g2,g3,?_,rfl,w0,w1,r1,r2,r3⟩;have s4:cs.drop 4=[v3]:=by rw[<-e4,List.take_of_length_le (by rw[List.length_drop];omega)]
 have hcs:cs=(cs.drop 0).take 1++((cs.drop 1).take 1++((cs.drop 2).take 1++((cs.drop 3).take 1++cs.drop 4))):=by rw[<-oF cs 3 1,<-oF cs 2 1,<-oF cs 1 1,<-oF cs 0 1,List.drop_zero]
 rw[hcs,e0,e1,e2,e3,s4];rfl
theorem Trd.frames {cs:List Value} (h:Trd enc w 37 cs):∃v n g,cs=[v]/\RowE w 5 (EF w) v n g/\n<=maxLen :=h.slice Tryz.underlying37 af afH (EF w) λcs hc _=>hc.frame
end
end
end Go.Proofs.YtldmjbgplgoedaaGreatDoor
namespace Go.Proofs.YtldmjbgplgoedaaGreatDoor
open Go.RowKit U
section
variable {H:Type} {enc:TypeId × Value->H} {w:World}
theorem rsI {c:Cx} {z:Int} (h : -9223372036854775808<=z/\z<=9223372036854775807):RsOk KX c [.c (.nI .i64 (-9223372036854775808) 9223372036854775807 z)] [.int .i64 z]:=RsOk.one (is_I.2 ⟨rfl,h.1,h.2,h⟩)
theorem rsB {c:Cx} {b:Bool}:RsOk KX c [.c (.nB true true b)] [.bool b]:=RsOk.one (is_B.2 ⟨rfl,λ_=>rfl,λ_=>rfl⟩)
theorem rsU {c:Cx} {f:Nat->Int} {cs:List Value} (h:cs.length=64/\∀i,i<64->cs[i]? = some (.int .u8 (f i))/\0<=f i/\f i<=255):RsOk KX c [.a 64 .u8 0 255 f] cs:=RsOk.ints h.1 λi hi=>⟨(h.2 i hi).1,(h.2 i hi).2.1,(h.2 i hi).2.2,(h.2 i hi).2⟩
theorem Trd.seq {cs:List Value} (h:Trd enc w 26 cs):∃W Hh N D I BR Bf fa fe,RsOk KX (cW w) [.c (.nI .i64 (-9223372036854775808) 9223372036854775807 W),.c (.nI .i64 (-9223372036854775808) 9223372036854775807 Hh),.c (.nI .i64 (-9223372036854775808) 9223372036854775807 N),.c (.nI .i64 (-9223372036854775808) 9223372036854775807 D),.c (.nB true true I),.c (.nI .i64 (-9223372036854775808) 9223372036854775807 BR),.c (.nI .i64 (-9223372036854775808) 9223372036854775807 Bf),.a 64 .u8 0 255 fa,.a 64 .u8 0 255 fe] cs:=by
 have hl:cs.length=135:=(h.len Tryz.underlying26).trans af;obtain⟨W,e0,w0⟩:=(h.fld Tryz.underlying26 0 0 1 3 rfl af).i64 Tryz.underlying3;obtain⟨Hh,e1,w1⟩:=(h.fld Tryz.underlying26 1 1 1 3 rfl af).i64 Tryz.underlying3;have hr:=h.fld Tryz.underlying26 2 2 2 23 rfl af;have hrl:((cs.drop 2).take 2).length=2:=(hr.len Tryz.underlying23).trans af;obtain⟨N,n0,wn⟩:=(hr.fld Tryz.underlying23 0 0 1 2 rfl af).i64 Tryz.underlying2;obtain⟨D,d0,wd⟩:=(hr.fld Tryz.underlying23 1 1 1 2 rfl af).i64 Tryz.underlying2;obtain⟨I,e4⟩:=(h.fld Tryz.underlying26 3 4 1 4 rfl af).bool Tryz.underlying4;obtain⟨BR,e5,w5⟩:=(h.fld Tryz.underlying26 4 5 1 3 rfl af).i64 Tryz.underlying3;obtain⟨Bf,e6,w6⟩:=(h.fld Tryz.underlying26 5 6 1 3 rfl af).i64 Tryz.underlying3;obtain⟨fa,e7⟩:=(h.fld Tryz.underlying26 6 7 64 24 rfl af).arr Tryz.underlying24 Tryz.underlying5 af af;obtain⟨fe,e8⟩:=(h.fld Tryz.underlying26 7 71 64 24 rfl af).arr Tryz.underlying24 Tryz.underlying5 af af;refine⟨W,Hh,N,D,I,BR,Bf,fa,fe,?_⟩
 have e2:(cs.drop 2).take 2=[.int .i64 N,.int .i64 D]:=by
  have s1:((cs.drop 2).take 2).drop 1=[.int .i64 D]:=(List.take_of_length_le (i:=1) (l:=((cs.drop 2).take 2).drop 1) (by rw[List.length_drop,hrl];decide)).symm.trans d0
  have:=oF ((cs.drop 2).take 2) 0 1;rw[n0,s1]at this;exact this
 have s8:cs.drop 71=(cs.drop 71).take 64:=(List.take_of_length_le (by rw[List.length_drop];omega)).symm
 have hcs:cs=(cs.drop 0).take 1++((cs.drop 1).take 1++((cs.drop 2).take 2++((cs.drop 4).take 1++((cs.drop 5).take 1++((cs.drop 6).take 1++((cs.drop 7).take 64++(cs.drop 71).take 64)))))):=by rw[<-s8,<-oF cs 7 64,<-oF cs 6 1,<-oF cs 5 1,<-oF cs 4 1,<-oF cs 2 2,<-oF cs 1 1,<-oF cs 0 1,List.drop_zero]
 rw[hcs,e0,e1,e2,e4,e5,e6];exact(rsI w0).append ((rsI w1).append (((rsI wn).append (rsI wd)).append (rsB.append ((rsI w5).append ((rsI w6).append ((rsU e7).append (rsU e8)))))))
theorem Trd.film {cs:List Value} (h:Trd enc w 62 cs):∃vF n g vT k t b1 b2 b3 q,Trd enc w 26 (cs.take 135)/\cs=cs.take 135++[vF,vT,.bool b1,.bool b2,.bool b3,.int .i64 q]/\(RowE w 5 (EF w) vF n g/\n<=maxLen)/\(RowE w 1 EI vT k t/\k<=maxLen)/\-9223372036854775808<=q/\q<=9223372036854775807:=by
 have hl:cs.length=141:=(h.len Tryz.underlying62).trans af;have e0:=h.fld Tryz.underlying62 0 0 135 26 rfl af;obtain⟨vF,n,g,e1,r1⟩:=(h.fld Tryz.underlying62 1 135 1 37 rfl af).frames;obtain⟨vT,k,t,e2,r2⟩:=(h.fld Tryz.underlying62 2 136 1 58 rfl af).ints;have ho:=h.fld Tryz.underlying62 3 137 3 60 rfl af;have hol:((cs.drop 137).take 3).length=3:=(ho.len Tryz.underlying60).trans af;obtain⟨b1,f1⟩:=(ho.fld Tryz.underlying60 0 0 1 4 rfl af).bool Tryz.underlying4;obtain⟨b2,f2⟩:=(ho.fld Tryz.underlying60 1 1 1 4 rfl af).bool Tryz.underlying4;obtain⟨b3,f3⟩:=(ho.fld Tryz.underlying60 2 2 1 4 rfl af).bool Tryz.underlying4;obtain⟨q,e4,w4⟩:=(h.fld Tryz.underlying62 4 140 1 3 rfl af).i64 Tryz.underlying3;refine⟨vF,n,g,vT,k,t,b1,b2,b3,q,e0,?_,r1,r2,w4⟩
 have e3:(cs.drop 137).take 3=[.bool b1,.bool b2,.bool b3]:=by
  have s1:((cs.drop 137).take 3).drop 2=[.bool b3]:=(List.take_of_length_le (i:=1) (l:=((cs.drop 137).take 3).drop 2) (by rw[List.length_drop,hol];decide)).symm.trans f3
  have h0:=oF ((cs.drop 137).take 3) 0 1;have h1:=oF ((cs.drop 137).take 3) 1 1;rw[f2,s1]at h1;rw[f1,h1]at h0;exact h0
 have s4:cs.drop 140=[.int .i64 q]:=by rw[<-e4,List.take_of_length_le (by rw[List.length_drop];omega)]
 have hcs:cs=(cs.drop 0).take 135++((cs.drop 135).take 1++((cs.drop 136).take 1++((cs.drop 137).take 3++cs.drop 140))):=by rw[<-oF cs 137 3,<-oF cs 136 1,<-oF cs 135 1,<-oF cs 0 135,List.drop_zero]
 rw[e1,e2,e3,s4]at hcs;exact hcs
theorem EB.rs {cs:List Value} {J:ae} (h:EB cs J):RsOk KX (cW w) (ax (aK KX 0).rs J) cs:=by obtain⟨z,rfl,rfl,hz⟩:=h;exact RsOk.one (is_I.2 ⟨rfl,hz.1,hz.2,hz⟩)
theorem EI.rs {cs:List Value} {J:ae} (h:EI cs J):RsOk KX (cW w) (ax (aK KX 1).rs J) cs:=by obtain⟨z,rfl,rfl,hz⟩:=h;exact rsI hz
theorem EF.rs {b:Nat} {cs:List Value} {J:ae} (h:EF w cs J) (h2:(J 2).N<=b) (h3:(J 3).N<=b) (h4:(J 4).N<=b):RsOk KX (cW w) [.c (.nI .i64 (-9223372036854775808) 9223372036854775807 (J 0).Z),.c (.nI .i64 (-9223372036854775808) 9223372036854775807 (J 1).Z),.c (.nR 0 0 b (J 2).N (J 2).G),.c (.nR 0 0 b (J 3).N (J 3).G),.c (.nR 0 0 b (J 4).N (J 4).G)] cs:=by obtain⟨W,Hh,v1,v2,v3,n1,n2,n3,g1,g2,g3,rfl,rfl,w0,w1,⟨r1,-⟩,⟨r2,-⟩,r3,-⟩:=h;have k:∀ {v:Value} {n:Nat} {g:Nat->ae},RowE w 1 EB v n g->n<=b->RsOk KX (cW w) [.c (.nR 0 0 b n g)] [v]:=λr hb=>RsOk.one (r.is (κ:=0) af (Nat.zero_le _) hb λi hi cs hE=>hE.rs);exact(rsI w0).append ((rsI w1).append ((k r1 h2).append ((k r2 h3).append (k r3 h4))))
theorem EF.max {cs:List Value} {J:ae} (h:EF w cs J):(J 2).N<=9223372036854775807/\(J 3).N<=9223372036854775807/\(J 4).N<=9223372036854775807:=by obtain⟨W,Hh,v1,v2,v3,n1,n2,n3,g1,g2,g3,rfl,rfl,w0,w1,⟨-,r1⟩,⟨-,r2⟩,-,r3⟩:=h;exact⟨r1,r2,r3⟩
theorem zv {c':Cx} {m:List AB} {w':World} (h:AM KX w (cW w) c' m w'):Keep PP w w':=⟨h.os,h.tape,h.output,h.size,λb hb _=>h.frame b hb λj e=>by cases e⟩
theorem Xj (hG:GOk KX GX (cW w)) {cs:Array Value} (h:Trd enc w 62 cs.toList):Calls Tryz.prog 7 #[.agg cs] w λe w'=>e=.returned (.bool true)/\Keep PP w w':=by
 obtain⟨vF,n,g,vT,k,t,b1,b2,b3,q,hs,hcs,⟨rF,nF⟩,⟨rT,nT⟩,hq⟩:=h.film;obtain⟨W,Hh,N,D,I,BR,Bf,fa,fe,hS⟩:=hs.seq;have hT:(AV.nR 1 0 9223372036854775807 k t).is KX (cW w) vT:=rT.is af (Nat.zero_le _) nT λi hi cs hE=>hE.rs
 have fin:∀ {x:AV},x.is KX (cW w) vF->∀ {rs:Rs},rs=[.c (.nI .i64 (-9223372036854775808) 9223372036854775807 W),.c (.nI .i64 (-9223372036854775808) 9223372036854775807 Hh),.c (.nI .i64 (-9223372036854775808) 9223372036854775807 N),.c (.nI .i64 (-9223372036854775808) 9223372036854775807 D),.c (.nB true true I),.c (.nI .i64 (-9223372036854775808) 9223372036854775807 BR),.c (.nI .i64 (-9223372036854775808) 9223372036854775807 Bf),.a 64 .u8 0 255 fa,.a 64 .u8 0 255 fe]++[.c x,.c (.nR 1 0 9223372036854775807 k t),.c (.nB true true b1),.c (.nB true true b2),.c (.nB true true b3),.c (.nI .i64 (-9223372036854775808) 9223372036854775807 q)]->(AS.sA rs).is KX (cW w) (.agg cs):=λ{x} hx {rs} e=>by
  subst e;refine⟨cs.toList,by simp,?_⟩
  rw[hcs];exact hS.append ((RsOk.one hx).append ((RsOk.one hT).append (rsB.append (rsB.append (rsB.append (rsI hq))))))
 by_cases hk:n<=4/\∀i,i<n->((g i) 2).N<=1048576/\((g i) 3).N<=1048576/\((g i) 4).N<=1048576
 .have hF:(AV.nR 5 0 4 n g).is KX (cW w) vF:=rF.is af (Nat.zero_le _) hk.1 λi hi cs hE=>hE.rs (hk.2 i hi).1 (hk.2 i hi).2.1 (hk.2 i hi).2.2;refine Calls.mono (rpe_ct.ok [.i W,.i Hh,.i N,.i D,.b I,.i BR,.i Bf,.f fa,.f fe,.l n g,.l k t,.b b1,.b b2,.b b3,.i q] (cW w) w [.agg cs] (λo=>o=.val [] (tXO (.nB false true true))) ⟨hG,rfl⟩ (Vi KX w) (allAt_cons.2 ⟨fin hF rfl,rfl,λi s v e=>absurd (show([]:List AT)[i]? = some s from e) (by simp)⟩) rfl) ?_
  rintro e w' ⟨v,rfl,m,y,ho,c',hA,hv⟩;cases ho;obtain⟨rfl,-⟩:=is_B.1 (show(AV.nB false true true).is KX c' v from hv);exact⟨rfl,zv hA⟩
 .have hF:(AV.nR 16 0 9223372036854775807 n g).is KX (cW w) vF:=rF.is af (Nat.zero_le _) nF λi hi cs hE=>hE.rs hE.max.1 hE.max.2.1 hE.max.2.2
  have hP:4<n\/¬ ∀i,i<n->lg1 (g i):=by
   rcases Nat.lt_or_ge 4 n with h6 | h6
   .exact .inl h6
   .refine .inr λha=>hk ⟨h6,λi hi=>?_⟩;obtain⟨a1,a2,a3⟩:=ha i hi;exact⟨ac,ac,ac⟩
  refine Calls.mono (rpx_ct.ok [.i W,.i Hh,.i N,.i D,.b I,.i BR,.i Bf,.f fa,.f fe,.l n g,.l k t,.b b1,.b b2,.b b3,.i q] (cW w) w [.agg cs] (λo=>o=.val [] (tXO (.nB false true true))) ⟨hG,rfl⟩ (Vi KX w) (allAt_cons.2 ⟨fin hF rfl,rfl,λi s v e=>absurd (show([]:List AT)[i]? = some s from e) (by simp)⟩) ⟨hP,rfl⟩) ?_
  rintro e w' ⟨v,rfl,m,y,ho,c',hA,hv⟩;cases ho;obtain⟨rfl,-⟩:=is_B.1 (show(AV.nB false true true).is KX c' v from hv);exact⟨rfl,zv hA⟩
end
end Go.Proofs.YtldmjbgplgoedaaGreatDoor
namespace Go.Proofs.YtldmjbgplgoedaaGreatDoor
open Go.RowKit U
theorem tY {H:Type} {enc:TypeId × Value->H} {w:World} {b:Nat} {sp:Nat->Bool} {hl:Bool} {fuel t e:Nat} {cs:List Value} {k:IntKind} {L:List Int} {p:List MemPlace}
 (hd:DataW.trod enc Tryz.prog w b sp hl fuel t cs=some (.agg (L.map λn=>.lit (.int k n)),p)) (ht:Tryz.prog.underlying t=some (.array 64 e)) (he:Tryz.prog.underlying e=some (.int k)) (hc:Tryz.prog.cellsOf e=1) (hn:Tryz.prog.cellsOf t=64) (hL:L.length=64) :
 cs.length=64/\∀r,r<64->cs[r]? = some (.int k (L.getD r 0)):=by
 obtain⟨xs,m,_,ex,hl1,hl2,hel⟩:=DataW.trod_array ht hd;refine⟨hl1.trans hn,λr hr=>?_⟩;have hE:=hel r hr;rw[hc,Nat.mul_one,List.getElem?_eq_getElem ac]at hE;obtain⟨z,e1,e2,_⟩:=DataW.trod_int he hE;have e3:(xs.map (·.1))=L.map λn=>.lit (.int k n):=(DataW.agg.inj (Prod.mk.inj ex).1).symm;have e4:(xs.map (·.1))[r]? = (L.map λn=>(DataW.lit (.int k n):DataW H))[r]?:=by rw[e3]
 rw[List.getElem?_map,List.getElem?_map,List.getElem?_eq_getElem (by omega:r<xs.length),List.getElem?_eq_getElem (by omega:r<L.length),e2]at e4
 have hz:z=L.getD r 0:=by simp only[Option.map_some,Option.some.injEq,DataW.lit.injEq,Lit.int.injEq,true_and]at e4;rw[e4,List.getD,List.getElem?_eq_getElem (by omega:r<L.length)];rfl
 rw[<-hz];have h0:((cs.drop r).take 1)[0]? = some (.int k z):=by rw[e1];rfl
 simpa using h0
theorem s7 {w:World} {nm:String} {g:Nat} {cs:Array Value} (hg:Tryz.prog.globalNamed nm=some g) (hv:w.var? Tryz.prog nm=some cs):∃ty fz,w.heap[g]? = some (.cells cs ty fz):=by
 unfold World.var? at hv;rw[hg]at hv;simp only[Option.bind_some]at hv
 split at hv
 .rename_i c t f hq;cases hv;exact⟨t,f,hq⟩
 .cases hv
theorem Rn {w:World} {ca cd:Array Value} (ha:∃ty fz,w.heap[1]? = some (.cells ca ty fz)) (hd:∃ty fz,w.heap[0]? = some (.cells cd ty fz)) (ra:ca.toList.length=64/\∀r,r<64->ca.toList[r]? = some (.int .i64 (Qy r))) (rd:cd.toList.length=64/\∀r,r<64->cd.toList[r]? = some (.int .u8 (AQ r))):GOk KX GX (cW w):=by
 have ba:∀i,i<64->0<=Qy i/\Qy i<=63:=by decide +kernel
 have bd:∀i,i<64->8<=AQ i/\AQ i<=83:=by decide +kernel
 intro g rs h;unfold GX iQ at h
 split at h
 .rename_i hq;cases h;cases beq_iff'.1 hq;obtain⟨ty,fz,ha⟩:=ha;exact⟨ty,ca,abe ha,RsOk.ints ra.1 λi hi=>⟨ra.2 i hi,(ba i hi).1,(ba i hi).2,by have:=ba i hi;exact⟨by show(-9223372036854775808:Int)<=_;omega,by show _<=(9223372036854775807:Int);omega⟩⟩⟩
 .unfold iQ at h
  split at h
  .rename_i hq;cases h;cases beq_iff'.1 hq;obtain⟨ty,fz,hd⟩:=hd;exact⟨ty,cd,abe hd,RsOk.ints rd.1 λi hi=>⟨rd.2 i hi,(bd i hi).1,(bd i hi).2,by have:=bd i hi;exact⟨by show(0:Int)<=_;omega,by show _<=(255:Int);omega⟩⟩⟩
  .unfold iQ at h;cases h
end Go.Proofs.YtldmjbgplgoedaaGreatDoor
/- States that coding the reconstructions of a film again stays within the bound of them, and that the same film is always coded in the same way (14.3): the statement Rows.EncoderRepeatsCardSaid is proved here, as it is given, with no condition of its own. -/
namespace Go.Proofs.YtldmjbgplgoedaaGreatDoor
open Go.ChangeShapes Go.WideShapes Go.ChangeAt Go.RowKit Go.Joins Go.Deep
open Go.Proofs.YtldmjbgplgoedaaGreatDoor
theorem Try_own:ownKnob Tryz.prog.godebug=none:=af
theorem rC:laidOutB Tryz.prog=true:=af
theorem door_met (os:Os) (args:Array Value):laidMetH Tryz.prog Rows.encoderRepeatsRow.laid ((World.doorLaid Tryz.prog 4000 os).forCall (λ_ _=>0) ⟨#[],args,[]⟩).memory :=laidMetH_of_parts3 (fuel:=8) (laidMet_of_run' 8 af af) af af
section
variable {H:Type} {enc:TypeId × Value->H} {P:Program} {w:World} {base:Nat} {held:Bool}
theorem pg {f:Func} {s:ChangeSpec} {apart fresh handsOn again:Bool} {W W':World} {args:Array Value} {v:Value} {ds gs:List (DataW H)} {before pa pv:List MemPlace}
 (hW:DataW.Whole enc P f.params.toList s.vars apart W args.toList ds gs before)
 (hres:∀(b:Nat) (sp:Nat->Bool) (hd:Bool),DataW.TrodAll enc P W' b sp hd f.resultTypes.toList (v.resultList f.resultTypes.size) (s.fn H (ds++gs)).results [])
 (hargs:∀sp:Nat->Bool,(∀p∈before,sp p.block=true)->DataW.TrodAll enc P W' 0 sp true f.params.toList args.toList (s.fn H (ds++gs)).args pa)
 (hvars:∀sp:Nat->Bool,(∀p∈before,sp p.block=true)->DataW.TrodVars enc P W' sp s.vars (s.fn H (ds++gs)).vars pv)
 (hps:before=pa++pv) (hb:Below W.heap.size W W')
 (hok:∀(j:Nat) (t:TypeId) (r:Value),f.resultTypes[j]? = some t->(v.resultList f.resultTypes.size)[j]? = some r->Value.okWide P W' .any 0 t r) :
 s.post enc P f apart fresh handsOn again W args v W':=by
 have hlt:∀p∈before,p.block<W.heap.size:=λp hp=>hW.lt p hp;have hold:∀p∈before,(λb=>decide (b<W.heap.size)) p.block=true:=λp hp=>by simpa using hlt p hp
 refine⟨ds,gs,before,[],pa,pv,hW,hres _ _ _,hargs _ hold,hvars _ hold,World.keptBut_mono (λp hp=>⟨hp,?_⟩) (hb.frame (·∈before)),λ_=>?_⟩
 .rw[hps,List.mem_append]at hp;exact Or.inr hp
 .obtain⟨_,_,_,_,_,hz,hn⟩:=hW;refine⟨hok,_,_,([]++pa)++pv,⟨[]++pa,pv,trodAll_append (hargs _ (λ_ _=>rfl)) (hres _ _ _),hvars _ (λ_ _=>rfl),rfl,?_,?_⟩,?_⟩
  .intro b off hp;have hin:MemPlace.cell b off∈before:=by rw[hps];simpa using hp
   rw[hb.frozen (hlt _ hin)];exact hz b off hin
  .intro ha;have:=hn ha;rw[hps]at this
   simpa using this
  .intro p hp _;rw[hps]
   simpa using hp
end
theorem G2 {W:World} (h:laidMetH Tryz.prog Rows.encoderRepeatsRow.laid W):GOk KX GX (cW W):=by
 rw[MakeChecks.laidMetH_plain _ _ _ af]at h;obtain⟨ps,⟨g,t,cs,fuel,p,q,hg,ht,hv,hd,⟨g',t',cs',fuel',p',q',hg',ht',hv',hd',_,_⟩,_⟩,_,_⟩:=h;obtain rfl:=Option.some.inj ((show Tryz.prog.globalNamed "cutroom/quant.alternateScan" = some 1 by kernel_rfl).symm.trans hg)
 obtain rfl:=Option.some.inj ((show Tryz.prog.globalNamed "cutroom/quant.defaultIntra" = some 0 by kernel_rfl).symm.trans hg')
 obtain rfl:=Option.some.inj ((show(Tryz.prog.globals[1]?).map (·.type)=some 124 by kernel_rfl).symm.trans ht)
 obtain rfl:=Option.some.inj ((show(Tryz.prog.globals[0]?).map (·.type)=some 24 by kernel_rfl).symm.trans ht')
 exact Rn (s7 hg hv) (s7 hg' hv') (tY (L:=altL) hd Tryz.underlying124 Tryz.underlying3 af af af) (tY (L:=dinL) hd' Tryz.underlying24 Tryz.underlying5 af af af)
def E7:Array Value:=(List.replicate 4 (Value.int .i64 0)++([Value.bool false,Value.int .i64 0,Value.int .i64 0]++(List.replicate 128 (Value.int .u8 0)++[Value.slice none 0 0,Value.slice none 0 0,Value.bool false,Value.bool false,Value.bool false,Value.int .i64 0]))).toArray
set_option maxRecDepth 100000 in
theorem XU (os:Os) (started:os.Started) (H:Type) (enc:TypeId × Value->H) :
 ReturnsInHanded {} Tryz.checked os 7 .any (λw args=>(Rows.encoderRepeatsSpec.pre enc Tryz.prog Tryz.f7 [] false w args/\laidMetH Tryz.prog Rows.encoderRepeatsRow.laid w)/\sizedMet enc Tryz.prog Tryz.f7 (OpenSpec.ofChange Rows.encoderRepeatsSpec) false w args)
  (Rows.encoderRepeatsSpec.post enc Tryz.prog Tryz.f7 false true false false):=by
 refine returnsInHanded_of_change_and (C:=Tryz.checked) (X:=λw _=>laidMetH Tryz.prog Rows.encoderRepeatsRow.laid w) (λ_ _ _ hh h=>h.of_heap hh) Try_own started af Tryz.func7 (ChangeSpec.witness_shaped (enc:=enc) (C:=Tryz.checked) (os:=os) (X:=λw _=>laidMetH Tryz.prog Rows.encoderRepeatsRow.laid w) false (World.doorLaid Tryz.prog 4000 os) #[.agg E7] 8 rfl (World.shaped_of_RefB af af) af af af (door_met os _)) ?_
 intro W base args ds gs before hval0 hW _ _ hL _;have hval:∀(j:Nat) t v,Tryz.f7.params[j]? = some t->args[j]? = some v->Value.okWide Tryz.prog W .any base t v:=hval0;have hW':=hW;obtain⟨p,q,hA0,hV,rfl,hfz,hnd⟩:=hW;have hA:DataW.TrodAll enc Tryz.prog W 0 (λ_=>true) true Tryz.f7.params.toList args.toList ds p:=hA0;rw[Tryz.params7]at hA hval;obtain⟨v0,d0,rfl,rfl,h0⟩:=trodAll_one hA;obtain⟨rfl,rfl⟩:=trodVars_none hV;obtain⟨cs,rfl,-⟩:=okWide_struct Tryz.underlying62 (hval 0 62 v0 rfl rfl);clear hA0 hval0
 have hT:Trd enc W 62 cs.toList:=by obtain⟨fuel,hf⟩:=h0;exact⟨fuel,_,hf⟩
 refine(Xj (G2 hL) hT).mono λe W' ⟨he,hk⟩=>?_;subst he;have hb:Below W.heap.size W W' :=⟨hk.os,hk.tape,hk.output,hk.size,λk h=>hk.block k h (λe=>e)⟩;have hlt:∀x∈p++[],x.block<W.heap.size:=λx hx=>hW'.lt x hx;refine⟨_,rfl,pg (pa:=p) (pv:=[]) hW' (λ_ _ _=>trodAll_mk1 (shut_bool Tryz.underlying4 true)) (λsp hsp=>?_) (λ_ _=>rfl) rfl hb (ok_one af rfl (okWide_bool_mk Tryz.underlying4 true))⟩;exact trodAll_mk1 (WideElems.Trod_stays rC af (of_decide_eq_true af) h0 (λx hx=>hb.same (hlt x (by simp[hx]))) (λx hx=>hsp x (by simp[hx])))
theorem bg {a b:Bool} (h:a=true) (g:b=true):(a&&b)=true:=by rw[h,g];rfl
theorem aaP:(Rows.encoderRepeatsRow.wf (OpenSpec.ofChange Rows.encoderRepeatsSpec))=true:=af
theorem abq:(laidOutB Tryz.pinned.checked.prog)=true:=af
theorem aah:(mapsRowed Tryz.pinned.checked.prog)=true:=af
theorem ZK:(Tryz.f7.params.all (Tryz.pinned.checked.prog.readableRec ·))=true:=af
theorem aby:(namedTie Tryz.pinned.checked.prog Rows.encoderRepeatsRow.named Rows.encoderRepeatsSpec.vars)=true:=af
theorem acc:((Rows.encoderRepeatsRow.stops==[]))=true:=af
theorem aat:((Tryz.pinned.checked.prog.stops==[]))=true:=af
theorem acj:((Rows.encoderRepeatsRow.knobs==[]))=true:=af
theorem abO:((Tryz.pinned.checked.prog.stopKnobs==[]))=true:=af
theorem abN:((Rows.encoderRepeatsRow.inPlace==Tryz.pinned.checked.prog.inPlace 7))=true:=af
theorem WF:((Rows.encoderRepeatsRow.unfollowed==Tryz.pinned.checked.prog.unfollowed 7))=true:=af
theorem Vv:((Rows.encoderRepeatsRow.recurses==Tryz.pinned.checked.prog.recurses 7))=true:=af
theorem WA:((Rows.encoderRepeatsRow.named==Tryz.pinned.checked.prog.varsNamed 7))=true:=af
theorem Wn:((Rows.encoderRepeatsRow.maps==(Tryz.f7.params.toList++Rows.encoderRepeatsSpec.plain.varTypes Tryz.pinned.checked.prog).any (Tryz.pinned.checked.prog.mapsRec ·)))=true:=af
theorem VT:((Rows.encoderRepeatsRow.ifaces==(Tryz.f7.params.toList++Rows.encoderRepeatsSpec.plain.varTypes Tryz.pinned.checked.prog).any (Tryz.pinned.checked.prog.ifacesRec ·)))=true:=af
theorem Tc:((Rows.encoderRepeatsRow.mapsOut==Tryz.pinned.checked.prog.mapsAmong Tryz.f7.resultTypes.toList))=true:=af
theorem Ui:((Rows.encoderRepeatsRow.loops==(Tryz.f7.params.toList++Rows.encoderRepeatsSpec.plain.varTypes Tryz.pinned.checked.prog).any (Tryz.pinned.checked.prog.loopsFrom ·)))=true:=af
theorem Xb:((Rows.encoderRepeatsRow.wideKeys==(Tryz.f7.params.toList++Rows.encoderRepeatsSpec.plain.varTypes Tryz.pinned.checked.prog++Tryz.f7.resultTypes.toList).any (Tryz.pinned.checked.prog.wideKeysFrom ·)))=true:=af
theorem Xo:(Rows.encoderRepeatsSpec.vars.all (Tryz.pinned.checked.prog.varReadable ·))=true:=af
theorem WN:(Tryz.f7.resultTypes.all (λt=>Tryz.pinned.checked.prog.readableRec t&&decide (t<Tryz.pinned.checked.prog.types.size)))=true:=af
theorem S0:((Rows.encoderRepeatsRow.ifacesOut==Tryz.f7.resultTypes.toList.any (Tryz.pinned.checked.prog.ifacesRec ·)))=true:=af
theorem T6:((Rows.encoderRepeatsRow.loopsOut==Tryz.f7.resultTypes.toList.any (Tryz.pinned.checked.prog.loopsFrom ·)))=true:=af
theorem TY:((Rows.encoderRepeatsRow.plainKeys==Tryz.pinned.checked.prog.plainKeys))=true:=af
theorem Vq:(Rows.encoderRepeatsRow.shortTexts.isNone)=true:=af
theorem UU:(Tryz.pinned.checked.prog.stopsHeard)=true:=af
theorem Tx:(Tryz.pinned.checked.prog.mayEnter)=true:=af
theorem U2:((Rows.encoderRepeatsRow.lifted==Tryz.pinned.checked.prog.liftsFinal))=true:=af
theorem S5:((Tryz.pinned.checked.prog.make==some Rows.encoderRepeatsRow.make))=true:=af
theorem ST:((Rows.encoderRepeatsRow.kinds==(if Rows.encoderRepeatsRow.domain.isEmpty then[] else Tryz.f7.params.toList.map λt=>match Tryz.pinned.checked.prog.underlying t with | some (.int k)=>some k | _=>none)))=true:=af
theorem VP:((Rows.encoderRepeatsRow.pinned==Rows.encoderRepeatsRow.pinnedBy))=true:=af
theorem Tg:((Rows.encoderRepeatsRow.veiled==(Tryz.f7.params.toList++Rows.encoderRepeatsSpec.plain.varTypes Tryz.pinned.checked.prog++Tryz.f7.resultTypes.toList).any (Tryz.pinned.checked.prog.veiledRec ·)))=true:=af
theorem Rt:(Rows.encoderRepeatsRow.veiledFits Tryz.pinned.checked.prog Tryz.f7.params.toList (Tryz.f7.params.toList++Rows.encoderRepeatsSpec.plain.varTypes Tryz.pinned.checked.prog++Tryz.f7.resultTypes.toList))=true:=af
set_option maxRecDepth 100000 in
theorem Av:joinedFacts Tryz.pinned.checked.prog 7 Tryz.f7 Rows.encoderRepeatsSpec Rows.encoderRepeatsRow=true:=bg (bg (bg (bg (bg (bg (bg (bg (bg (bg (bg (bg (bg (bg (bg (bg (bg (bg (bg (bg (bg (bg (bg (bg (bg (bg (bg (bg (bg (bg (bg aaP abq) aah) ZK) aby) acc) aat) acj) abO) abN) WF) Vv) WA) Wn) VT) Tc) Ui) Xb) Xo) WN) S0) T6) TY) Vq) UU) Tx) U2) S5) ST) VP) Tg) Rt
theorem ee_named:Tryz.pinned.checked.prog.funcNamed Rows.encoderRepeatsRow.func=some 7:=af
theorem M9:Rows.encoderRepeatsRow.wfByText (OpenSpec.ofChange Rows.encoderRepeatsSpec)=true:=af
theorem N8:Tryz.pinned.checked.prog.mainIs=some (true,"5b3e5f33ffaf00f16aeb6b8456e7fa3c75639b46f363b2864f5ef6b8fe09f81b".toList):=af
theorem HL:true=Tryz.pinned.checked.prog.looks []:=af
theorem N2:false=Rows.encoderRepeatsRow.goesBy Tryz.pinned.checked.prog:=af
theorem Er:(Tryz.prog.wantsStandIn 62)=false:=af
theorem Pc:Tryz.f7.isInstance Tryz.pinned.checked.prog Rows.encoderRepeatsRow.origin Rows.encoderRepeatsRow.targs:=of_decide_eq_true af
theorem P4:Tryz.f7.isWrapper Tryz.pinned.checked.prog Rows.encoderRepeatsRow.wrapper Rows.encoderRepeatsRow.mainSum:=by unfold Func.isWrapper;first|(rw[if_pos (by decide +kernel)];kernel_rfl) | (rw[if_neg (by decide +kernel)];exact⟨rfl,rfl⟩)
theorem adN:Rows.EncoderRepeatsSaid :=OpenClaim.holds_of_wide 7 Tryz.f7 rfl rfl rfl rfl rfl rfl rfl ⟨rfl,rfl,rfl,rfl,rfl⟩ rfl rfl rfl rfl rfl ee_named Tryz.func7 Av Pc P4 (λos started H enc _=>XU os started H enc)
theorem encoderRepeats_holds:Rows.EncoderRepeatsCardSaid :=
 Claim7.holds_tied_plain_at .later [] [.data,.data] true (true,"5b3e5f33ffaf00f16aeb6b8456e7fa3c75639b46f363b2864f5ef6b8fe09f81b") true
  adN (λ_ h=>by cases h) M9 (λ_ h=>by cases h) encoderRepeats_row_tie rfl ⟨rfl,rfl⟩ N8 rfl
  (λf fn hf hfn=>by
   obtain rfl:f=7:=Option.some.inj (ee_named.symm.trans hf) |>.symm;obtain rfl:fn=Tryz.f7:=(Option.some.inj (Tryz.func7.symm.trans hfn)).symm
   exact⟨HL,λj t ht=>by
    rw[Tryz.params7]at ht;have hm:t∈[62]:=by simpa using Array.mem_of_getElem? ht
    rw[List.mem_singleton]at hm;rw[hm];exact Er⟩)
  N2
end Go.Proofs.YtldmjbgplgoedaaGreatDoor
