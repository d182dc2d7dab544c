import Derived.Test.YtldmjbgplgoedaaGreatDoorRp48
import Derived.Laws.BytesString
set_option linter.all false
namespace Go.Proofs.YtldmjbgplgoedaaGreatDoor
noncomputable section
open Go.RowKit U
theorem Ks {c c0:Cx} {w w0:World} {mem:List AB} {a b n:Nat} {g:Nat->ae} {v:Value} (hm:AM KX w0 c0 c mem w) (h:(AV.nR 0 a b n g).is KX c v):∃A m,v=.slice A n m/\Row w PP 1 A n m (((List.range n).map (cel g)).map (Value.int .u8)):=by
 obtain⟨A,m,rfl,-,-,h3,h4,h5,h6⟩:=is_R.1 h;refine⟨A,m,rfl,⟨by simp,h3,h4,λh0=>?_⟩⟩
 cases A with
 |none =>have:=h5 rfl;omega
 |some x =>
  obtain⟨e,ty,cs,hx,hF,hs,hq⟩:=h6 x rfl ac;have hB:=hm.fr _ _ _ hF;refine⟨x.block,e,by rw[<-hx],id,λj u hj=>?_⟩
  rw[List.getElem?_map]at hj;obtain⟨z,hz,rfl⟩:=Option.map_eq_some_iff.1 hj;rw[List.getElem?_map]at hz;obtain⟨k,hk,rfl⟩:=Option.map_eq_some_iff.1 hz;obtain⟨hj1,hj2⟩:=List.getElem?_eq_some_iff.1 hk;rw[List.getElem_range]at hj2;rw[List.length_range]at hj1;subst hj2;have hs:e+m*1<=cs.size:=hs;rw[hB.cell];have hi:e+j<cs.size:=ac;rw[Array.getElem?_eq_getElem hi]
  have q:=(hq j hj1).2 0 (.nI .u8 0 255 ((g j) 0).Z) cs[e+j] rfl (by show((cs.toList.drop (e+j*1)).take 1)[0]? = _;rw[List.getElem?_take,if_pos afH,List.getElem?_drop,Array.getElem?_toList,show e+j*1+0=e+j by omega,Array.getElem?_eq_getElem hi])
  rw[(is_I.1 q).1]
def Ly (zs:List Int):ByteArray:=zs.foldl (λr n=>r.push (UInt8.ofNat n.toNat)) ByteArray.empty
theorem oS {P:Program} {w:World} {S:Nat->Prop} {src dst e:TypeId} {A:Option Addr} {n c:Nat} {zs:List Int} (hs:P.underlying src=some (.slice e)) (he:P.underlying e=some (.int .u8)) (hd:P.underlying dst=some .string)
 (hr:Row w S 1 A n c (zs.map (Value.int .u8))):(convert src dst (.slice A n c)).run P w=.ok (.string (Ly zs)) w:=by
 rw[run_convert_bytes_string w src dst e A n c hs he hd];have hl:zs.length=n:=by have:=hr.len;simpa using this
 rcases Nat.eq_zero_or_pos n with h0 | h0
 .subst h0;have:zs=[]:=List.eq_nil_of_length_eq_zero hl;subst this
  cases A with
  |none=>simp[Conv.bytesToString,Ly]
  |some a=>exact run_bytesToString w a 0 c [] (by simp[loadCells,loadCellsFrom])
 .obtain⟨b,o,rfl,_,hc⟩:=hr.at_ h0;have:=run_loadCells_list (P:=P) w ⟨b,o,none⟩ (zs.map (Value.int .u8)) (λj v hv=>by rw[Addr.add_mid];exact hc j v hv)
  simp only[List.length_map,hl]at this;exact run_bytesToString w _ n c zs this
def Jn (J:ae):Prop:=(J 0).N=(J 1).N/\∀i,i<(J 0).N->cel (J 0).G i=cel (J 1).G i
def X1 (_:ae):ae:=[.b true]
abbrev aeU:List AT:=[tXO (.nR 0 1 4096 0 g0),tXO (.nR 0 1 4096 0 g0)]
abbrev afr:List AB:=[]
abbrev ae9:Wy:=⟨[.sO (.nB false true true)],[]⟩
theorem HE {A B:Option Addr} {n a b:Nat} {zs:List Int} {w:World} (r1:Row w PP 1 A n a (zs.map (Value.int .u8))) (r2:Row w PP 1 B n b (zs.map (Value.int .u8))):Calls Tryz.prog 53 #[.slice A n a,.slice B n b] w λe w'=>e=.returned (.bool true)/\w'=w:=by
 obtain⟨s,hs⟩:∃s,s=Ly zs:=⟨_,rfl⟩;have a1:(convert 29 9 (.slice A n a)).run Tryz.prog w=.ok (.string s) w:=by rw[hs];exact oS Tryz.underlying29 Tryz.underlying5 Tryz.underlying9 r1
 have a2:(convert 29 9 (.slice B n b)).run Tryz.prog w=.ok (.string s) w:=by rw[hs];exact oS Tryz.underlying29 Tryz.underlying5 Tryz.underlying9 r2
 clear hs r1 r2
 go_enter Tryz.func53,Tryz.ntmps53
 go_wp2
 go_ret
 exact⟨rfl,rfl⟩
abbrev acU:CT:=CS 53 aeU afr ae9 Jn X1
theorem SE:cV KX Tryz.prog GX acU:=⟨λ_ _=>af,λJ c w vs Q hG hm hv hQ=>by
 match vs,hv with
 |[],hv=>exact absurd (show 2=0 from hv.1) afH
 |[_],hv=>exact absurd (show 2=1 from hv.1) afH
 |_::_::_::t,hv=>exact absurd (show 2=t.length+1+1+1 from hv.1) ac
 |[v,v'],hv =>
  obtain⟨h1,h2⟩:=allAt_cons.1 hv;have h2:=(allAt_cons.1 h2).1;obtain⟨A,m,rfl,r1⟩:=Ks hm (show(AV.nR 0 1 4096 (J 0).N (J 0).G).is KX c v from h1);obtain⟨B,m',rfl,r2⟩:=Ks hm (show(AV.nR 0 1 4096 (J 1).N (J 1).G).is KX c v' from h2);obtain⟨⟨e1,e2⟩,hQ⟩:=(show Jn J/\_ from hQ)
  have e:(List.range (J 1).N).map (cel (J 1).G)=(List.range (J 0).N).map (cel (J 0).G):=by rw[<-e1];exact List.map_congr_left λi hi=>(e2 i (List.mem_range.1 hi)).symm
  rw[e,<-e1]at r2;rw[<-e1];refine Calls.mono (HE r1 r2) ?_;rintro _ _ ⟨rfl,rfl⟩;exact⟨_,rfl,_,_,hQ,c,hm,is_B.2 ⟨rfl,λh=>(by cases(show true=false from h)),λ_=>rfl⟩⟩⟩
end
end Go.Proofs.YtldmjbgplgoedaaGreatDoor
namespace Go.Proofs.YtldmjbgplgoedaaGreatDoor
noncomputable section
open Go.RowKit U
def lg1 (f:ae):Prop:=(f 2).N<=5000/\(f 3).N<=2000/\(f 4).N<=2000
instance (f:ae):Decidable (lg1 f):=inferInstanceAs (Decidable (_/\_/\_))
def lgB (J:ae):Bool:=decide (∀i,i<(J 0).N->lg1 ((J 0).G i))
def Y1 (J:ae):ae:=[.b (lgB J)]
abbrev Ec:SP:=mkS ⟨[bm],[]⟩ 9 Tryz.f9 [tXO (.nR 5 0 6 0 g0)] [] [(2,.head ⟨[(0,tXO (.nR 5 0 6 0 g0)),(3,aj 0 1048576)],[],[]⟩)]
theorem Ee J R:TR Ec J R (∃(I0:ae->Prop) (μ0:ae->Nat),I0 [.l (J 0).N (J 0).G,.i 0]/\∀l0,I0 l0-> BR (decide ((l0 1).Z<(((l0 0).N:Nat):Int))) (((l0 1).Z<(((l0 0).N:Nat):Int))/\BR (decide (5000<(((((l0 0).G (l0 1).Z.toNat) 2).N:Nat):Int))) (R [.i 0,.b false]) (((l0 1).Z<(((l0 0).N:Nat):Int))/\BR (decide (2000<(((((l0 0).G (l0 1).Z.toNat) 3).N:Nat):Int))) (R [.i 0,.b false]) (((l0 1).Z<(((l0 0).N:Nat):Int))/\BR (decide (2000<(((((l0 0).G (l0 1).Z.toNat) 4).N:Nat):Int))) (R [.i 0,.b false]) ((((l0 1).Z+1)<=1048576)/\Ag I0 μ0 l0 [.l (l0 0).N (l0 0).G,.i ((l0 1).Z+1)])))) (R [.i 0,.b true])):=af
theorem Q8:PF0 Ec Y1:=λJ b1 _=>⟨by
 rw[Ee];obtain⟨⟨-,h6,-⟩,-⟩:=b1;have h6:(J 0).N<=6:=h6;have fin:∀ {x:Bool},x=lgB J->(hd [Lf.i 0,.b x]).Z=0/\agW KX Ec.Y (tl [Lf.i 0,.b x]) (Y1 J):=λh=>⟨rfl,⟨h,ah⟩,ah⟩;refine bG (X:=Unit) (J 0).N 1 (λi _=>∀k,k<i->lg1 ((J 0).G k)) (λi _=>[.l (J 0).N (J 0).G,.i (i:Int)]) (λ_ _ _=>rfl) () rfl (λk hk=>absurd hk (Nat.not_lt_zero k)) λI μ hA i _ l hi hx hl=>?_;subst hl;refine⟨λh=>?_,λh=>?_⟩
 .have h:(i:Int)<(((J 0).N:Nat):Int):=of_decide_eq_true h;refine⟨h,λh2=>fin (decide_eq_false λk=>?_).symm,λh2=>⟨h,λh3=>fin (decide_eq_false λk=>?_).symm,λh3=>⟨h,λh4=>fin (decide_eq_false λk=>?_).symm,λh4=>?_⟩⟩⟩
  .have h2:(5000:Int)<(((((J 0).G i) 2).N:Nat):Int):=of_decide_eq_true h2;have:=(k i ac).1;omega
  .have h3:(2000:Int)<(((((J 0).G i) 3).N:Nat):Int):=of_decide_eq_true h3;have:=(k i ac).2.1;omega
  .have h4:(2000:Int)<(((((J 0).G i) 4).N:Nat):Int):=of_decide_eq_true h4;have:=(k i ac).2.2;omega
  .have h2:¬ (5000:Int)<(((((J 0).G i) 2).N:Nat):Int):=of_decide_eq_false h2;have h3:¬ (2000:Int)<(((((J 0).G i) 3).N:Nat):Int):=of_decide_eq_false h3;have h4:¬ (2000:Int)<(((((J 0).G i) 4).N:Nat):Int):=of_decide_eq_false h4;have hi':(i:Int)+1<=1048576:=ac;refine⟨hi',hA i () () _ _ ac (λk hk=>?_) rfl rfl⟩
   by_cases e:k=i
   .subst e;exact⟨ac,ac,ac⟩
   .exact hx k ac
 .have h:¬ (i:Int)<(((J 0).N:Nat):Int):=of_decide_eq_false h;exact fin (decide_eq_true λk hk=>hx k ac).symm⟩
abbrev adz:CT:=C0 Ec Y1
theorem Ut:CO adz:=CX0 (TX trivial ah) Q8
def Ya (J:ae):ae:=[.b (lgB J)]
abbrev Dh:SP:=mkS ⟨[bm],[]⟩ 9 Tryz.f9 [tXO (.nR 16 0 6 0 g0)] [] [(2,.head ⟨[(0,tXO (.nR 16 0 6 0 g0)),(3,aj 0 1048576)],[],[]⟩)]
theorem GF J R:TR Dh J R (∃(I0:ae->Prop) (μ0:ae->Nat),I0 [.l (J 0).N (J 0).G,.i 0]/\∀l0,I0 l0-> BR (decide ((l0 1).Z<(((l0 0).N:Nat):Int))) (((l0 1).Z<(((l0 0).N:Nat):Int))/\BR (decide (5000<(((((l0 0).G (l0 1).Z.toNat) 2).N:Nat):Int))) (R [.i 0,.b false]) (((l0 1).Z<(((l0 0).N:Nat):Int))/\BR (decide (2000<(((((l0 0).G (l0 1).Z.toNat) 3).N:Nat):Int))) (R [.i 0,.b false]) (((l0 1).Z<(((l0 0).N:Nat):Int))/\BR (decide (2000<(((((l0 0).G (l0 1).Z.toNat) 4).N:Nat):Int))) (R [.i 0,.b false]) ((((l0 1).Z+1)<=1048576)/\Ag I0 μ0 l0 [.l (l0 0).N (l0 0).G,.i ((l0 1).Z+1)])))) (R [.i 0,.b true])):=af
theorem VK:PF0 Dh Ya:=λJ b1 _=>⟨by
 rw[GF];obtain⟨⟨-,h6,-⟩,-⟩:=b1;have h6:(J 0).N<=6:=h6;have fin:∀ {x:Bool},x=lgB J->(hd [Lf.i 0,.b x]).Z=0/\agW KX Dh.Y (tl [Lf.i 0,.b x]) (Ya J):=λh=>⟨rfl,⟨h,ah⟩,ah⟩;refine bG (X:=Unit) (J 0).N 1 (λi _=>∀k,k<i->lg1 ((J 0).G k)) (λi _=>[.l (J 0).N (J 0).G,.i (i:Int)]) (λ_ _ _=>rfl) () rfl (λk hk=>absurd hk (Nat.not_lt_zero k)) λI μ hA i _ l hi hx hl=>?_;subst hl;refine⟨λh=>?_,λh=>?_⟩
 .have h:(i:Int)<(((J 0).N:Nat):Int):=of_decide_eq_true h;refine⟨h,λh2=>fin (decide_eq_false λk=>?_).symm,λh2=>⟨h,λh3=>fin (decide_eq_false λk=>?_).symm,λh3=>⟨h,λh4=>fin (decide_eq_false λk=>?_).symm,λh4=>?_⟩⟩⟩
  .have h2:(5000:Int)<(((((J 0).G i) 2).N:Nat):Int):=of_decide_eq_true h2;have:=(k i ac).1;omega
  .have h3:(2000:Int)<(((((J 0).G i) 3).N:Nat):Int):=of_decide_eq_true h3;have:=(k i ac).2.1;omega
  .have h4:(2000:Int)<(((((J 0).G i) 4).N:Nat):Int):=of_decide_eq_true h4;have:=(k i ac).2.2;omega
  .have h2:¬ (5000:Int)<(((((J 0).G i) 2).N:Nat):Int):=of_decide_eq_false h2;have h3:¬ (2000:Int)<(((((J 0).G i) 3).N:Nat):Int):=of_decide_eq_false h3;have h4:¬ (2000:Int)<(((((J 0).G i) 4).N:Nat):Int):=of_decide_eq_false h4;have hi':(i:Int)+1<=1048576:=ac;refine⟨hi',hA i () () _ _ ac (λk hk=>?_) rfl rfl⟩
   by_cases e:k=i
   .subst e;exact⟨ac,ac,ac⟩
   .exact hx k ac
 .have h:¬ (i:Int)<(((J 0).N:Nat):Int):=of_decide_eq_false h;exact fin (decide_eq_true λk hk=>hx k ac).symm⟩
abbrev ad9:CT:=C0 Dh Ya
theorem Sl:CO ad9:=CX0 (TX trivial ah) VK
def acu (_:ae):ae:=[.i 16,.i 16,.i 25,.i 1,.b false,.i 100000,.i 100000,.f (λ_=>16),.f (λ_=>16)]
abbrev O3:SP:=mkS ⟨[.sA acr],[]⟩ 41 Tryz.f41 [] [] [(3,.head ⟨[(0,tXO (.nP 0 0)),(1,tXO (.nP 1 0)),(2,aj 0 1048576)],[.run 26 [.a 4 .i64 0 0 z0,r6,.a 2 .i64 0 0 z0,.a 128 .u8 0 0 z0],.run 26 [r37,r37,am 25 25,r33,r6,am 100000 100000,am 100000 100000,.a 128 .u8 0 16 z0]],[]⟩)]
theorem Ey J R:TR O3 J R (∃(I0:ae->Prop) (μ0:ae->Nat),I0 [.i 0,.f (λ_=>0),.b false,.f (λ_=>0),.f (λ_=>0),.i 16,.i 16,.i 25,.i 1,.b false,.i 100000,.i 100000,.f (λ_=>0)]/\∀l0,I0 l0-> BR (decide ((l0 0).Z<64)) ((0<=(l0 0).Z)/\((l0 0).Z<64)/\(0<=(l0 0).Z)/\((l0 0).Z<64)/\(((l0 0).Z+1)<=1048576)/\Ag I0 μ0 l0 (ak [.i ((l0 0).Z+1)] (ak (cw l0 1 11 1243911891) [.f (zAt [.a 64 .u8 0 16 (upd (l0 12).F ((l0 0).Z.toNat*1) 16),.a 64 .u8 0 16 (upd (λi0=>(l0 12).F (i0+64)) ((l0 0).Z.toNat*1) 16)])]))) (R (ak [.i 0] (ak (cw l0 5 8 6595145) [.f (λi0=>(l0 12).F (i0+64))])))):=af
theorem zz0 {k k':IntKind} {a b a' b':Int} {f g:Nat->Int} {j:Nat} (h:j<64):zAt [.a 64 k a b f,.a 64 k' a' b' g] j=f j:=by unfold zAt;dsimp only;rw[blt_iff.2 h]
theorem zz1 {k k':IntKind} {a b a' b':Int} {f g:Nat->Int} {j:Nat} (h:j<64):zAt [.a 64 k a b f,.a 64 k' a' b' g] (j+64)=g j:=by unfold zAt;dsimp only;rw[blt_no.2 ac];dsimp only;rw[Nat.add_sub_cancel];unfold zAt;dsimp only;rw[blt_iff.2 h]
theorem VH:PF0 O3 acu:=λJ _ _=>⟨by
 rw[Ey];refine bG (X:=Nat->Int) 64 0 (λi F=>∀k,k<i->F k=16/\F (k+64)=16) (λi F=>[.i (i:Int),.f (λ_=>0),.b false,.f (λ_=>0),.f (λ_=>0),.i 16,.i 16,.i 25,.i 1,.b false,.i 100000,.i 100000,.f F]) (λ_ _ _=>rfl) (λ_=>0) rfl (λk hk=>absurd hk (Nat.not_lt_zero k)) λI μ hA i F l hi hx hl=>?_;subst hl;refine⟨λh=>?_,λh=>?_⟩
 .have h:(i:Int)<64:=of_decide_eq_true h;have h0:0<=(i:Int):=Int.natCast_nonneg i;have hi':(i:Int)+1<=1048576:=ac;refine⟨h0,h,h0,h,hi',hA i F (zAt [.a 64 .u8 0 16 (upd F ((i:Int).toNat*1) 16),.a 64 .u8 0 16 (upd (λi0=>F (i0+64)) ((i:Int).toNat*1) 16)]) _ _ ac (λk hk=>?_) rfl rfl⟩;rw[zz0 ac,zz1 ac,Int.toNat_natCast,Nat.mul_one];unfold upd
  by_cases e:k=i
  .rw[if_pos e,if_pos e];exact⟨rfl,rfl⟩
  .rw[if_neg e,if_neg e];exact hx k ac
 .have h:¬ (i:Int)<64:=of_decide_eq_false h;have hx':∀k,k<64->F k=16/\F (k+64)=16:=λk hk=>hx k ac;exact⟨rfl,⟨⟨rfl,rfl,rfl,rfl,rfl,rfl,rfl,λk hk=>(hx' k hk).1,λk hk=>(hx' k hk).2,ah⟩,ah⟩,ah⟩⟩
abbrev acY:CT:=C0 O3 acu
theorem Uj:CO acY:=CX0 (TX trivial ah) VH
def akD (J:ae):ae:=[.i (J 0).Z,.i (J 1).Z,.l 256 (λ_=>[.i (J 2).Z]),.l 64 (λ_=>[.i (J 3).Z]),.l 64 (λ_=>[.i (J 4).Z])]
abbrev Mr:SP:=mkS ⟨[.sA sFF],[]⟩ 40 Tryz.f40 [aj 16 16,aj 16 16,tXO (.nI .u8 128 128 0),tXO (.nI .u8 128 128 0),tXO (.nI .u8 128 128 0)] [] [(3,.head ⟨[(2,tXO (.nI .u8 128 128 0)),(3,tXO (.nI .u8 128 128 0)),(4,tXO (.nI .u8 128 128 0)),(10,tXO (.nP 0 0)),(11,tXO (.nP 1 0)),(12,aj 0 1048576)],[.run 31 ad5,.run 31 aep,.dyn 5 0 256 256 0 g0 false,.dyn 5 0 64 64 0 g0 false,.dyn 5 0 64 64 0 g0 false],[]⟩),(7,.head ⟨[(3,tXO (.nI .u8 128 128 0)),(4,tXO (.nI .u8 128 128 0)),(10,tXO (.nP 0 0)),(11,tXO (.nP 1 0)),(13,aj 0 1048576)],[.run 31 ad5,.run 31 aep,.dyn 5 0 256 256 0 g0 false,.dyn 5 0 64 64 0 g0 false,.dyn 5 0 64 64 0 g0 false],[]⟩)] [] [(aw 104 Tryz.f104)]
theorem HC J R:TR Mr J R (∃(I0:ae->Prop) (μ0:ae->Nat),I0 (ak (cw J 2 3 73) [.i 0,.f (λ_=>0),.i (J 0).Z,.i (J 1).Z,.s 0 256,.s 0 64,.s 0 64,.l 256 (λ_=>[.i 0]),.l 64 (λ_=>[.i 0]),.l 64 (λ_=>[.i 0])])/\∀l0,I0 l0->((decide ((l0 3).Z<256))->((l0 3).Z<(((l0 7).N:Nat):Int))/\(((l0 7).O+(l0 3).Z.toNat)<(l0 10).N)/\(((l0 3).Z+1)<=1048576)/\Ag I0 μ0 l0 (ak (cw l0 0 3 73) (ak [.i ((l0 3).Z+1)] (ak (cw l0 4 6 186955) [.l (l0 10).N (upd (l0 10).G ((l0 7).O+(l0 3).Z.toNat) [.i (l0 0).Z]),.l (l0 11).N (l0 11).G,.l (l0 12).N (l0 12).G]))))/\((decide ((l0 3).Z<256))=false->∃(I1:ae->Prop) (μ1:ae->Nat),I1 (ak [.i (l0 1).Z,.i (l0 2).Z,.i 0] (cw l0 4 9 76733003))/\∀l1,I1 l1->((decide ((l1 2).Z<64))->((l1 2).Z<(((l1 7).N:Nat):Int))/\(((l1 7).O+(l1 2).Z.toNat)<(l1 10).N)/\((l1 2).Z<(((l1 8).N:Nat):Int))/\(((l1 8).O+(l1 2).Z.toNat)<(l1 11).N)/\(((l1 2).Z+1)<=1048576)/\Ag I1 μ1 l1 (ak [.i (l1 0).Z,.i (l1 1).Z,.i ((l1 2).Z+1)] (ak (cw l1 3 7 1235531) [.l (l1 10).N (upd (l1 10).G ((l1 7).O+(l1 2).Z.toNat) [.i (l1 0).Z]),.l (l1 11).N (upd (l1 11).G ((l1 8).O+(l1 2).Z.toNat) [.i (l1 1).Z])])))/\((decide ((l1 2).Z<64))=false-> (((l1 6).O+(l1 6).N)<=(l1 9).N)/\(((l1 7).O+(l1 7).N)<=(l1 10).N)/\(((l1 8).O+(l1 8).N)<=(l1 11).N)/\R [.i 0,.i (l1 4).Z,.i (l1 5).Z,.l (l1 6).N (λi0=>(l1 9).G ((l1 6).O+i0)),.l (l1 7).N (λi0=>(l1 10).G ((l1 7).O+i0)),.l (l1 8).N (λi0=>(l1 11).G ((l1 8).O+i0))]))):=af
theorem UN:PF0 Mr akD:=λJ _ _=>⟨by
 rw[HC];refine bG (X:=Nat->ae) 256 3 (λi G=>∀k,k<i->G k=[.i (J 2).Z]) (λi G=>[.i (J 2).Z,.i (J 3).Z,.i (J 4).Z,.i (i:Int),.f (λ_=>0),.i (J 0).Z,.i (J 1).Z,.s 0 256,.s 0 64,.s 0 64,.l 256 G,.l 64 (λ_=>[.i 0]),.l 64 (λ_=>[.i 0])]) (λ_ _ _=>rfl) (λ_=>[.i 0]) rfl (λk hk=>absurd hk (Nat.not_lt_zero k)) λI μ hA i G l hi hx hl=>?_;subst hl;refine⟨λh=>?_,λh=>?_⟩
 .have h:(i:Int)<256:=of_decide_eq_true h;have h2:0+(i:Int).toNat<256:=ac;have hi':(i:Int)+1<=1048576:=ac;refine⟨h,h2,hi',hA i G (upd G (0+(i:Int).toNat) [.i (J 2).Z]) _ _ ac (λk hk=>?_) rfl rfl⟩;rw[Int.toNat_natCast,Nat.zero_add];unfold upd
  by_cases e:k=i
  .rw[if_pos e]
  .rw[if_neg e];exact hx k ac
 .have h:¬ (i:Int)<256:=of_decide_eq_false h;have hx':∀k,k<256->G k=[.i (J 2).Z]:=λk hk=>hx k ac;clear hA I μ;refine bG (X:=(Nat->ae) × (Nat->ae)) 64 2 (λi G=>∀k,k<i->G.1 k=[.i (J 3).Z]/\G.2 k=[.i (J 4).Z]) (λi g=>[.i (J 3).Z,.i (J 4).Z,.i (i:Int),.f (λ_=>0),.i (J 0).Z,.i (J 1).Z,.s 0 256,.s 0 64,.s 0 64,.l 256 G,.l 64 g.1,.l 64 g.2]) (λ_ _ _=>rfl) (λ_=>[.i 0],λ_=>[.i 0]) rfl (λk hk=>absurd hk (Nat.not_lt_zero k)) λI μ hA j g l hj hy hl=>?_;subst hl;refine⟨λh=>?_,λh=>?_⟩
  .have h:(j:Int)<64:=of_decide_eq_true h;have h2:0+(j:Int).toNat<64:=ac;have hj':(j:Int)+1<=1048576:=ac;refine⟨h,h2,h,h2,hj',hA j g (upd g.1 (0+(j:Int).toNat) [.i (J 3).Z],upd g.2 (0+(j:Int).toNat) [.i (J 4).Z]) _ _ ac (λk hk=>?_) rfl rfl⟩;rw[Int.toNat_natCast,Nat.zero_add];unfold upd;dsimp only
   by_cases e:k=j
   .rw[if_pos e,if_pos e];exact⟨rfl,rfl⟩
   .rw[if_neg e,if_neg e];exact hy k ac
  .have h:¬ (j:Int)<64:=of_decide_eq_false h;have hy':∀k,k<64->g.1 k=[.i (J 3).Z]/\g.2 k=[.i (J 4).Z]:=λk hk=>hy k ac;refine⟨Nat.le_refl _,Nat.le_refl _,Nat.le_refl _,rfl,⟨⟨rfl,rfl,⟨rfl,λk hk=>?_⟩,⟨rfl,λk hk=>?_⟩,⟨rfl,λk hk=>?_⟩,ah⟩,ah⟩,ah⟩
   .show ax _ (G (0+k))=_;rw[Nat.zero_add,hx' k hk];rfl
   .show ax _ (g.1 (0+k))=_;rw[Nat.zero_add,(hy' k hk).1];rfl
   .show ax _ (g.2 (0+k))=_;rw[Nat.zero_add,(hy' k hk).2];rfl⟩
abbrev adJ:CT:=C0 Mr akD
theorem RE:CO adJ:=CX0 (TX trivial (FK ah)) UN
structure aaO (J:ae):Prop where
 w:(J 0).Z=(J 5).Z
 h:(J 1).Z=(J 6).Z
 a:Jn [.l (J 2).N (J 2).G,.l (J 7).N (J 7).G]
 b:Jn [.l (J 3).N (J 3).G,.l (J 8).N (J 8).G]
 c:Jn [.l (J 4).N (J 4).G,.l (J 9).N (J 9).G]
def aa5 (_:ae):ae:=[.b true]
abbrev N7:SP:=mkS ⟨[.sO (.nB false true false)],[]⟩ 17 Tryz.f17 [.tX (.sA sFF),.tX (.sA sFF)] [] [] [acU]
theorem FJ J R:TR N7 J R (BR ((J 0).Z==(J 5).Z) (BR ((J 1).Z==(J 6).Z) (LET ([.l (J 2).N (J 2).G,.l (J 7).N (J 7).G]) λx0=>(Jn x0)/\LET (X1 x0) λx1=>LET ([.l (J 3).N (J 3).G,.l (J 8).N (J 8).G]) λx2=>(Jn x2)/\LET (X1 x2) λx3=>LET ([.l (J 4).N (J 4).G,.l (J 9).N (J 9).G]) λx4=>(Jn x4)/\LET (X1 x4) λx5=>R [.i 0,.b (x5 0).X]) (False)) (False)):=af
theorem Uh:PF1 N7 aaO aa5:=λJ _ _ hp=>⟨by rw[FJ];have w:=hp.w;have h:=hp.h;exact⟨λ_=>⟨λ_=>aH rfl ⟨hp.a,aH rfl (aH rfl ⟨hp.b,aH rfl (aH rfl ⟨hp.c,aH rfl ⟨rfl,⟨rfl,ah⟩,ah⟩⟩)⟩)⟩,λe=>ne_of_beq_false e h⟩,λe=>ne_of_beq_false e w⟩⟩
abbrev adt:CT:=C1 N7 aaO aa5
theorem VA:CO adt:=CX1 (TX ⟨SE,ah⟩ ah) Uh
end
end Go.Proofs.YtldmjbgplgoedaaGreatDoor
