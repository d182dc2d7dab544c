import Derived.Test.YtldmjbgplgoedaaGreatDoorEe50
import Derived.Laws.BytesString
import Derived.OpenShut
import Derived.Deep.Slices
import Derived.ChangeArms
import Derived.DataReads
set_option linter.all false
namespace Go.Proofs.YtldmjbgplgoedaaGreatDoor
noncomputable section
open Go.RowKit U
theorem Ks {c c0:Cx} {w w0:World} {mem:List AB} {a b n:Nat} {g:Nat->ae} {v:Value} (hm:AM KX w0 c0 c mem w) (h:(AV.nR 0 a b n g).is KX c v):∃A m,v=.slice A n m/\Row w eR 1 A n m (((List.range n).map (cel g)).map (Value.int .u8)):=by
 obtain⟨A,m,rfl,-,-,h3,h4,h5,h6⟩:=is_R.1 h;refine⟨A,m,rfl,⟨by simp,h3,h4,λh0=>?_⟩⟩
 cases A with
 |none =>have:=h5 rfl;omega
 |some x =>
  obtain⟨e,ty,cs,hx,hF,hs,hq⟩:=h6 x rfl ac;have hB:=hm.fr _ _ _ hF;refine⟨x.block,e,by rw[<-hx],id,λj u hj=>?_⟩
  rw[List.getElem?_map]at hj;obtain⟨z,hz,rfl⟩:=Option.map_eq_some_iff.1 hj;rw[List.getElem?_map]at hz;obtain⟨k,hk,rfl⟩:=Option.map_eq_some_iff.1 hz;obtain⟨hj1,hj2⟩:=List.getElem?_eq_some_iff.1 hk;rw[List.getElem_range]at hj2;rw[List.length_range]at hj1;subst hj2;have hs:e+m*1<=cs.size:=hs;rw[hB.cell];have hi:e+j<cs.size:=ac;rw[Array.getElem?_eq_getElem hi]
  have q:=(hq j hj1).2 0 (.nI .u8 0 255 ((g j) 0).Z) cs[e+j] rfl (by show((cs.toList.drop (e+j*1)).take 1)[0]? = _;rw[List.getElem?_take,if_pos afH,List.getElem?_drop,Array.getElem?_toList,show e+j*1+0=e+j by omega,Array.getElem?_eq_getElem hi])
  rw[(is_I.1 q).1]
def Ly (zs:List Int):ByteArray:=zs.foldl (λr n=>r.push (UInt8.ofNat n.toNat)) ByteArray.empty
theorem oS {P:Program} {w:World} {S:Nat->Prop} {src dst e:TypeId} {A:Option Addr} {n c:Nat} {zs:List Int} (hs:P.underlying src=some (.slice e)) (he:P.underlying e=some (.int .u8)) (hd:P.underlying dst=some .string)
 (hr:Row w S 1 A n c (zs.map (Value.int .u8))):(convert src dst (.slice A n c)).run P w=.ok (.string (Ly zs)) w:=by
 rw[run_convert_bytes_string w src dst e A n c hs he hd];have hl:zs.length=n:=by have:=hr.len;simpa using this
 rcases Nat.eq_zero_or_pos n with h0 | h0
 .subst h0;have:zs=[]:=List.eq_nil_of_length_eq_zero hl;subst this
  cases A with
  |none=>simp[Conv.bytesToString,Ly]
  |some a=>exact run_bytesToString w a 0 c [] (by simp[loadCells,loadCellsFrom])
 .obtain⟨b,o,rfl,_,hc⟩:=hr.at_ h0;have:=run_loadCells_list (P:=P) w ⟨b,o,none⟩ (zs.map (Value.int .u8)) (λj v hv=>by rw[Addr.add_mid];exact hc j v hv)
  simp only[List.length_map,hl]at this;exact run_bytesToString w _ n c zs this
def Jn (J:ae):Prop:=(J 0).N=(J 1).N/\∀i,i<(J 0).N->cel (J 0).G i=cel (J 1).G i
def X1 (_:ae):ae:=[.b true]
abbrev aeU:List AT:=[tXO (.nR 0 1 4096 0 g0),tXO (.nR 0 1 4096 0 g0)]
abbrev afr:List AB:=[]
abbrev ae9:Wy:=⟨[.sO (.nB false true true)],[]⟩
theorem HE {A B:Option Addr} {n a b:Nat} {zs:List Int} {w:World} (r1:Row w eR 1 A n a (zs.map (Value.int .u8))) (r2:Row w eR 1 B n b (zs.map (Value.int .u8))):Calls Tryz.prog 53 #[.slice A n a,.slice B n b] w λe w'=>e=.returned (.bool true)/\w'=w:=by
 obtain⟨s,hs⟩:∃s,s=Ly zs:=⟨_,rfl⟩;have a1:(convert 29 9 (.slice A n a)).run Tryz.prog w=.ok (.string s) w:=by rw[hs];exact oS Tryz.underlying29 Tryz.underlying5 Tryz.underlying9 r1
 have a2:(convert 29 9 (.slice B n b)).run Tryz.prog w=.ok (.string s) w:=by rw[hs];exact oS Tryz.underlying29 Tryz.underlying5 Tryz.underlying9 r2
 clear hs r1 r2
 go_enter Tryz.func53,Tryz.ntmps53
 go_wp2
 go_ret
 exact⟨rfl,rfl⟩
abbrev acU:CT:=CS 53 aeU afr ae9 Jn X1
theorem SE:cV KX Tryz.prog GX acU:=⟨λ_ _=>af,λJ c w vs Q hG hm hv hQ=>by
 match vs,hv with
 |[],hv=>exact absurd (show 2=0 from hv.1) afH
 |[_],hv=>exact absurd (show 2=1 from hv.1) afH
 |_::_::_::t,hv=>exact absurd (show 2=t.length+1+1+1 from hv.1) ac
 |[v,v'],hv =>
  obtain⟨h1,h2⟩:=allAt_cons.1 hv;have h2:=(allAt_cons.1 h2).1;obtain⟨A,m,rfl,r1⟩:=Ks hm (show(AV.nR 0 1 4096 (J 0).N (J 0).G).is KX c v from h1);obtain⟨B,m',rfl,r2⟩:=Ks hm (show(AV.nR 0 1 4096 (J 1).N (J 1).G).is KX c v' from h2);obtain⟨⟨e1,e2⟩,hQ⟩:=(show Jn J/\_ from hQ)
  have e:(List.range (J 1).N).map (cel (J 1).G)=(List.range (J 0).N).map (cel (J 0).G):=by rw[<-e1];exact List.map_congr_left λi hi=>(e2 i (List.mem_range.1 hi)).symm
  rw[e,<-e1]at r2;rw[<-e1];refine Calls.mono (HE r1 r2) ?_;rintro _ _ ⟨rfl,rfl⟩;exact⟨_,rfl,_,_,hQ,c,hm,is_B.2 ⟨rfl,λh=>(by cases(show true=false from h)),λ_=>rfl⟩⟩⟩
end
end Go.Proofs.YtldmjbgplgoedaaGreatDoor
namespace Go.Proofs.YtldmjbgplgoedaaGreatDoor
noncomputable section
open Go.RowKit U
def lg1 (f:ae):Prop:=(f 2).N<=5000/\(f 3).N<=2000/\(f 4).N<=2000
instance (f:ae):Decidable (lg1 f):=inferInstanceAs (Decidable (_/\_/\_))
def lgB (J:ae):Bool:=decide (∀i,i<(J 0).N->lg1 ((J 0).G i))
def Y1 (J:ae):ae:=[.b (lgB J)]
abbrev Ec:SP:=mkS ⟨[bm],[]⟩ 9 Tryz.f9 [tXO (.nR 5 0 6 0 g0)] [] [(2,.head ⟨[(0,tXO (.nR 5 0 6 0 g0)),(3,aj 0 1048576)],[],[]⟩)]
theorem Ee J R:TR Ec J R (∃(I0:ae->Prop) (μ0:ae->Nat),I0 [.l (J 0).N (J 0).G,.i 0]/\∀l0,I0 l0 -> BR (decide ((l0 1).Z<(((l0 0).N:Nat):Int)))
(((l0 1).Z<(((l0 0).N:Nat):Int))/\BR (decide (5000<(((((l0 0).G (l0 1).Z.toNat) 2).N:Nat):Int)))
(R [.i 0,.b false])
(((l0 1).Z<(((l0 0).N:Nat):Int))/\BR (decide (2000<(((((l0 0).G (l0 1).Z.toNat) 3).N:Nat):Int)))
(R [.i 0,.b false])
(((l0 1).Z<(((l0 0).N:Nat):Int))/\BR (decide (2000<(((((l0 0).G (l0 1).Z.toNat) 4).N:Nat):Int)))
(R [.i 0,.b false])
((((l0 1).Z+1)<=1048576)/\Ag I0 μ0 l0 [.l (l0 0).N (l0 0).G,.i ((l0 1).Z+1)]))))
(R [.i 0,.b true])):=af
theorem Q8:PF0 Ec Y1:=λJ b1 _=>⟨by
 rw[Ee];obtain⟨⟨-,h6,-⟩,-⟩:=b1;have h6:(J 0).N<=6:=h6;have fin:∀ {x:Bool},x=lgB J->(hd [Lf.i 0,.b x]).Z=0/\agW KX Ec.Y (tl [Lf.i 0,.b x]) (Y1 J):=λh=>⟨rfl,⟨h,ah⟩,ah⟩;refine bG (X:=Unit) (J 0).N 1 (λi _=>∀k,k<i->lg1 ((J 0).G k)) (λi _=>[.l (J 0).N (J 0).G,.i (i:Int)]) (λ_ _ _=>rfl) () rfl (λk hk=>absurd hk (Nat.not_lt_zero k)) λI μ hA i _ l hi hx hl=>?_;subst hl;refine⟨λh=>?_,λh=>?_⟩
 .have h:(i:Int)<(((J 0).N:Nat):Int):=of_decide_eq_true h;refine⟨h,λh2=>fin (decide_eq_false λk=>?_).symm,λh2=>⟨h,λh3=>fin (decide_eq_false λk=>?_).symm,λh3=>⟨h,λh4=>fin (decide_eq_false λk=>?_).symm,λh4=>?_⟩⟩⟩
  .have h2:(5000:Int)<(((((J 0).G i) 2).N:Nat):Int):=of_decide_eq_true h2;have:=(k i ac).1;omega
  .have h3:(2000:Int)<(((((J 0).G i) 3).N:Nat):Int):=of_decide_eq_true h3;have:=(k i ac).2.1;omega
  .have h4:(2000:Int)<(((((J 0).G i) 4).N:Nat):Int):=of_decide_eq_true h4;have:=(k i ac).2.2;omega
  .have h2:¬ (5000:Int)<(((((J 0).G i) 2).N:Nat):Int):=of_decide_eq_false h2;have h3:¬ (2000:Int)<(((((J 0).G i) 3).N:Nat):Int):=of_decide_eq_false h3;have h4:¬ (2000:Int)<(((((J 0).G i) 4).N:Nat):Int):=of_decide_eq_false h4;have hi':(i:Int)+1<=1048576:=ac;refine⟨hi',hA i () () _ _ ac (λk hk=>?_) rfl rfl⟩
   by_cases e:k=i
   .subst e;exact⟨ac,ac,ac⟩
   .exact hx k ac
 .have h:¬ (i:Int)<(((J 0).N:Nat):Int):=of_decide_eq_false h;exact fin (decide_eq_true λk hk=>hx k ac).symm⟩
abbrev adz:CT:=C0 Ec Y1
theorem Ut:CO adz:=CX0 (TX trivial ah) Q8
def Ya (J:ae):ae:=[.b (lgB J)]
abbrev Dh:SP:=mkS ⟨[bm],[]⟩ 9 Tryz.f9 [tXO (.nR 16 0 6 0 g0)] [] [(2,.head ⟨[(0,tXO (.nR 16 0 6 0 g0)),(3,aj 0 1048576)],[],[]⟩)]
theorem GF J R:TR Dh J R (∃(I0:ae->Prop) (μ0:ae->Nat),I0 [.l (J 0).N (J 0).G,.i 0]/\∀l0,I0 l0 -> BR (decide ((l0 1).Z<(((l0 0).N:Nat):Int)))
(((l0 1).Z<(((l0 0).N:Nat):Int))/\BR (decide (5000<(((((l0 0).G (l0 1).Z.toNat) 2).N:Nat):Int)))
(R [.i 0,.b false])
(((l0 1).Z<(((l0 0).N:Nat):Int))/\BR (decide (2000<(((((l0 0).G (l0 1).Z.toNat) 3).N:Nat):Int)))
(R [.i 0,.b false])
(((l0 1).Z<(((l0 0).N:Nat):Int))/\BR (decide (2000<(((((l0 0).G (l0 1).Z.toNat) 4).N:Nat):Int)))
(R [.i 0,.b false])
((((l0 1).Z+1)<=1048576)/\Ag I0 μ0 l0 [.l (l0 0).N (l0 0).G,.i ((l0 1).Z+1)]))))
(R [.i 0,.b true])):=af
theorem VK:PF0 Dh Ya:=λJ b1 _=>⟨by
 rw[GF];obtain⟨⟨-,h6,-⟩,-⟩:=b1;have h6:(J 0).N<=6:=h6;have fin:∀ {x:Bool},x=lgB J->(hd [Lf.i 0,.b x]).Z=0/\agW KX Dh.Y (tl [Lf.i 0,.b x]) (Ya J):=λh=>⟨rfl,⟨h,ah⟩,ah⟩;refine bG (X:=Unit) (J 0).N 1 (λi _=>∀k,k<i->lg1 ((J 0).G k)) (λi _=>[.l (J 0).N (J 0).G,.i (i:Int)]) (λ_ _ _=>rfl) () rfl (λk hk=>absurd hk (Nat.not_lt_zero k)) λI μ hA i _ l hi hx hl=>?_;subst hl;refine⟨λh=>?_,λh=>?_⟩
 .have h:(i:Int)<(((J 0).N:Nat):Int):=of_decide_eq_true h;refine⟨h,λh2=>fin (decide_eq_false λk=>?_).symm,λh2=>⟨h,λh3=>fin (decide_eq_false λk=>?_).symm,λh3=>⟨h,λh4=>fin (decide_eq_false λk=>?_).symm,λh4=>?_⟩⟩⟩
  .have h2:(5000:Int)<(((((J 0).G i) 2).N:Nat):Int):=of_decide_eq_true h2;have:=(k i ac).1;omega
  .have h3:(2000:Int)<(((((J 0).G i) 3).N:Nat):Int):=of_decide_eq_true h3;have:=(k i ac).2.1;omega
  .have h4:(2000:Int)<(((((J 0).G i) 4).N:Nat):Int):=of_decide_eq_true h4;have:=(k i ac).2.2;omega
  .have h2:¬ (5000:Int)<(((((J 0).G i) 2).N:Nat):Int):=of_decide_eq_false h2;have h3:¬ (2000:Int)<(((((J 0).G i) 3).N:Nat):Int):=of_decide_eq_false h3;have h4:¬ (2000:Int)<(((((J 0).G i) 4).N:Nat):Int):=of_decide_eq_false h4;have hi':(i:Int)+1<=1048576:=ac;refine⟨hi',hA i () () _ _ ac (λk hk=>?_) rfl rfl⟩
   by_cases e:k=i
   .subst e;exact⟨ac,ac,ac⟩
   .exact hx k ac
 .have h:¬ (i:Int)<(((J 0).N:Nat):Int):=of_decide_eq_false h;exact fin (decide_eq_true λk hk=>hx k ac).symm⟩
abbrev ad9:CT:=C0 Dh Ya
theorem Sl:CO ad9:=CX0 (TX trivial ah) VK
def acu (_:ae):ae:=[.i 16,.i 16,.i 25,.i 1,.b false,.i 100000,.i 100000,.f (λ_=>16),.f (λ_=>16)]
abbrev O3:SP:=mkS ⟨[.sA uL],[]⟩ 41 Tryz.f41 [] [] [(3,.head ⟨[(0,tXO (.nP 0 0)),(1,tXO (.nP 1 0)),(2,aj 0 1048576)],[.run 26 [.a 4 .i64 0 0 z0,r5,.a 2 .i64 0 0 z0,.a 128 .u8 0 0 z0],.run 26 [r37,r37,am 25 25,r33,r5,am 100000 100000,am 100000 100000,.a 128 .u8 0 16 z0]],[]⟩)]
theorem Ey J R:TR O3 J R (∃(I0:ae->Prop) (μ0:ae->Nat),I0 [.i 0,.f (λ_=>0),.b false,.f (λ_=>0),.f (λ_=>0),.i 16,.i 16,.i 25,.i 1,.b false,.i 100000,.i 100000,.f (λ_=>0)]/\∀l0,I0 l0 -> BR (decide ((l0 0).Z<64))
((0<=(l0 0).Z)/\((l0 0).Z<64)/\(0<=(l0 0).Z)/\((l0 0).Z<64)/\(((l0 0).Z+1)<=1048576)/\Ag I0 μ0 l0 [.i ((l0 0).Z+1),.f (l0 1).F,.b (l0 2).X,.f (l0 3).F,.f (l0 4).F,.i (l0 5).Z,.i (l0 6).Z,.i (l0 7).Z,.i (l0 8).Z,.b (l0 9).X,.i (l0 10).Z,.i (l0 11).Z,.f (zAt [.a 64 .u8 0 16 (upd (l0 12).F ((l0 0).Z.toNat*1) 16),.a 64 .u8 0 16 (upd (λi0=>(l0 12).F (i0+64)) ((l0 0).Z.toNat*1) 16)])])
(R [.i 0,.i (l0 5).Z,.i (l0 6).Z,.i (l0 7).Z,.i (l0 8).Z,.b (l0 9).X,.i (l0 10).Z,.i (l0 11).Z,.f (l0 12).F,.f (λi0=>(l0 12).F (i0+64))])):=af
theorem zz0 {k k':IntKind} {a b a' b':Int} {f g:Nat->Int} {j:Nat} (h:j<64):zAt [.a 64 k a b f,.a 64 k' a' b' g] j=f j:=by unfold zAt;dsimp only;rw[blt_iff.2 h]
theorem zz1 {k k':IntKind} {a b a' b':Int} {f g:Nat->Int} {j:Nat} (h:j<64):zAt [.a 64 k a b f,.a 64 k' a' b' g] (j+64)=g j:=by unfold zAt;dsimp only;rw[blt_no.2 ac];dsimp only;rw[Nat.add_sub_cancel];unfold zAt;dsimp only;rw[blt_iff.2 h]
theorem VH:PF0 O3 acu:=λJ _ _=>⟨by
 rw[Ey];refine bG (X:=Nat->Int) 64 0 (λi F=>∀k,k<i->F k=16/\F (k+64)=16) (λi F=>[.i (i:Int),.f (λ_=>0),.b false,.f (λ_=>0),.f (λ_=>0),.i 16,.i 16,.i 25,.i 1,.b false,.i 100000,.i 100000,.f F]) (λ_ _ _=>rfl) (λ_=>0) rfl (λk hk=>absurd hk (Nat.not_lt_zero k)) λI μ hA i F l hi hx hl=>?_;subst hl;refine⟨λh=>?_,λh=>?_⟩
 .have h:(i:Int)<64:=of_decide_eq_true h;have h0:0<=(i:Int):=Int.natCast_nonneg i;have hi':(i:Int)+1<=1048576:=ac;refine⟨h0,h,h0,h,hi',hA i F (zAt [.a 64 .u8 0 16 (upd F ((i:Int).toNat*1) 16),.a 64 .u8 0 16 (upd (λi0=>F (i0+64)) ((i:Int).toNat*1) 16)]) _ _ ac (λk hk=>?_) rfl rfl⟩;rw[zz0 ac,zz1 ac,Int.toNat_natCast,Nat.mul_one];unfold upd
  by_cases e:k=i
  .rw[if_pos e,if_pos e];exact⟨rfl,rfl⟩
  .rw[if_neg e,if_neg e];exact hx k ac
 .have h:¬ (i:Int)<64:=of_decide_eq_false h;have hx':∀k,k<64->F k=16/\F (k+64)=16:=λk hk=>hx k ac;exact⟨rfl,⟨⟨rfl,rfl,rfl,rfl,rfl,rfl,rfl,λk hk=>(hx' k hk).1,λk hk=>(hx' k hk).2,ah⟩,ah⟩,ah⟩⟩
abbrev acY:CT:=C0 O3 acu
theorem Uj:CO acY:=CX0 (TX trivial ah) VH
def ab0 (J:ae):ae:=[.i (J 0).Z,.i (J 1).Z,.l 256 (λ_=>[.i (J 2).Z]),.l 64 (λ_=>[.i (J 3).Z]),.l 64 (λ_=>[.i (J 4).Z])]
abbrev Mr:SP:=mkS ⟨[.sA sFF],[]⟩ 40 Tryz.f40 [aj 16 16,aj 16 16,tXO (.nI .u8 128 128 0),tXO (.nI .u8 128 128 0),tXO (.nI .u8 128 128 0)] [] [(3,.head ⟨[(2,tXO (.nI .u8 128 128 0)),(3,tXO (.nI .u8 128 128 0)),(4,tXO (.nI .u8 128 128 0)),(10,tXO (.nP 0 0)),(11,tXO (.nP 1 0)),(12,aj 0 1048576)],[.run 31 v9,.run 31 ac0,.dyn 5 0 256 256 0 g0 false,.dyn 5 0 64 64 0 g0 false,.dyn 5 0 64 64 0 g0 false],[]⟩),(7,.head ⟨[(3,tXO (.nI .u8 128 128 0)),(4,tXO (.nI .u8 128 128 0)),(10,tXO (.nP 0 0)),(11,tXO (.nP 1 0)),(13,aj 0 1048576)],[.run 31 v9,.run 31 ac0,.dyn 5 0 256 256 0 g0 false,.dyn 5 0 64 64 0 g0 false,.dyn 5 0 64 64 0 g0 false],[]⟩)] [] [(aw 104 Tryz.f104)]
theorem HC J R:TR Mr J R (∃(I0:ae->Prop) (μ0:ae->Nat),I0 [.i (J 2).Z,.i (J 3).Z,.i (J 4).Z,.i 0,.f (λ_=>0),.i (J 0).Z,.i (J 1).Z,.s 0 256,.s 0 64,.s 0 64,.l 256 (λ_=>[.i 0]),.l 64 (λ_=>[.i 0]),.l 64 (λ_=>[.i 0])]/\∀l0,I0 l0 ->
 ((decide ((l0 3).Z<256))->
  ((l0 3).Z<(((l0 7).N:Nat):Int))/\(((l0 7).O+(l0 3).Z.toNat)<(l0 10).N)/\(((l0 3).Z+1)<=1048576)/\Ag I0 μ0 l0 [.i (l0 0).Z,.i (l0 1).Z,.i (l0 2).Z,.i ((l0 3).Z+1),.f (l0 4).F,.i (l0 5).Z,.i (l0 6).Z,.s (l0 7).O (l0 7).N,.s (l0 8).O (l0 8).N,.s (l0 9).O (l0 9).N,.l (l0 10).N (upd (l0 10).G ((l0 7).O+(l0 3).Z.toNat) [.i (l0 0).Z]),.l (l0 11).N (l0 11).G,.l (l0 12).N (l0 12).G]) /\
 ((decide ((l0 3).Z<256))=false ->
  ∃(I1:ae->Prop) (μ1:ae->Nat),I1 [.i (l0 1).Z,.i (l0 2).Z,.i 0,.f (l0 4).F,.i (l0 5).Z,.i (l0 6).Z,.s (l0 7).O (l0 7).N,.s (l0 8).O (l0 8).N,.s (l0 9).O (l0 9).N,.l (l0 10).N (l0 10).G,.l (l0 11).N (l0 11).G,.l (l0 12).N (l0 12).G]/\∀l1,I1 l1 ->
   ((decide ((l1 2).Z<64))->
    ((l1 2).Z<(((l1 7).N:Nat):Int))/\(((l1 7).O+(l1 2).Z.toNat)<(l1 10).N)/\((l1 2).Z<(((l1 8).N:Nat):Int))/\(((l1 8).O+(l1 2).Z.toNat)<(l1 11).N)/\(((l1 2).Z+1)<=1048576)/\Ag I1 μ1 l1 [.i (l1 0).Z,.i (l1 1).Z,.i ((l1 2).Z+1),.f (l1 3).F,.i (l1 4).Z,.i (l1 5).Z,.s (l1 6).O (l1 6).N,.s (l1 7).O (l1 7).N,.s (l1 8).O (l1 8).N,.l (l1 9).N (l1 9).G,.l (l1 10).N (upd (l1 10).G ((l1 7).O+(l1 2).Z.toNat) [.i (l1 0).Z]),.l (l1 11).N (upd (l1 11).G ((l1 8).O+(l1 2).Z.toNat) [.i (l1 1).Z])]) /\
   ((decide ((l1 2).Z<64))=false -> (((l1 6).O+(l1 6).N)<=(l1 9).N)/\(((l1 7).O+(l1 7).N)<=(l1 10).N)/\(((l1 8).O+(l1 8).N)<=(l1 11).N)/\R [.i 0,.i (l1 4).Z,.i (l1 5).Z,.l (l1 6).N (λi0=>(l1 9).G ((l1 6).O+i0)),.l (l1 7).N (λi0=>(l1 10).G ((l1 7).O+i0)),.l (l1 8).N (λi0=>(l1 11).G ((l1 8).O+i0))]))):=af
theorem UN:PF0 Mr ab0:=λJ _ _=>⟨by
 rw[HC];refine bG (X:=Nat->ae) 256 3 (λi G=>∀k,k<i->G k=[.i (J 2).Z]) (λi G=>[.i (J 2).Z,.i (J 3).Z,.i (J 4).Z,.i (i:Int),.f (λ_=>0),.i (J 0).Z,.i (J 1).Z,.s 0 256,.s 0 64,.s 0 64,.l 256 G,.l 64 (λ_=>[.i 0]),.l 64 (λ_=>[.i 0])]) (λ_ _ _=>rfl) (λ_=>[.i 0]) rfl (λk hk=>absurd hk (Nat.not_lt_zero k)) λI μ hA i G l hi hx hl=>?_;subst hl;refine⟨λh=>?_,λh=>?_⟩
 .have h:(i:Int)<256:=of_decide_eq_true h;have h2:0+(i:Int).toNat<256:=ac;have hi':(i:Int)+1<=1048576:=ac;refine⟨h,h2,hi',hA i G (upd G (0+(i:Int).toNat) [.i (J 2).Z]) _ _ ac (λk hk=>?_) rfl rfl⟩;rw[Int.toNat_natCast,Nat.zero_add];unfold upd
  by_cases e:k=i
  .rw[if_pos e]
  .rw[if_neg e];exact hx k ac
 .have h:¬ (i:Int)<256:=of_decide_eq_false h;have hx':∀k,k<256->G k=[.i (J 2).Z]:=λk hk=>hx k ac;clear hA I μ;refine bG (X:=(Nat->ae) × (Nat->ae)) 64 2 (λi G=>∀k,k<i->G.1 k=[.i (J 3).Z]/\G.2 k=[.i (J 4).Z]) (λi g=>[.i (J 3).Z,.i (J 4).Z,.i (i:Int),.f (λ_=>0),.i (J 0).Z,.i (J 1).Z,.s 0 256,.s 0 64,.s 0 64,.l 256 G,.l 64 g.1,.l 64 g.2]) (λ_ _ _=>rfl) (λ_=>[.i 0],λ_=>[.i 0]) rfl (λk hk=>absurd hk (Nat.not_lt_zero k)) λI μ hA j g l hj hy hl=>?_;subst hl;refine⟨λh=>?_,λh=>?_⟩
  .have h:(j:Int)<64:=of_decide_eq_true h;have h2:0+(j:Int).toNat<64:=ac;have hj':(j:Int)+1<=1048576:=ac;refine⟨h,h2,h,h2,hj',hA j g (upd g.1 (0+(j:Int).toNat) [.i (J 3).Z],upd g.2 (0+(j:Int).toNat) [.i (J 4).Z]) _ _ ac (λk hk=>?_) rfl rfl⟩;rw[Int.toNat_natCast,Nat.zero_add];unfold upd;dsimp only
   by_cases e:k=j
   .rw[if_pos e,if_pos e];exact⟨rfl,rfl⟩
   .rw[if_neg e,if_neg e];exact hy k ac
  .have h:¬ (j:Int)<64:=of_decide_eq_false h;have hy':∀k,k<64->g.1 k=[.i (J 3).Z]/\g.2 k=[.i (J 4).Z]:=λk hk=>hy k ac;refine⟨Nat.le_refl _,Nat.le_refl _,Nat.le_refl _,rfl,⟨⟨rfl,rfl,⟨rfl,λk hk=>?_⟩,⟨rfl,λk hk=>?_⟩,⟨rfl,λk hk=>?_⟩,ah⟩,ah⟩,ah⟩
   .show ax _ (G (0+k))=_;rw[Nat.zero_add,hx' k hk];rfl
   .show ax _ (g.1 (0+k))=_;rw[Nat.zero_add,(hy' k hk).1];rfl
   .show ax _ (g.2 (0+k))=_;rw[Nat.zero_add,(hy' k hk).2];rfl⟩
abbrev adJ:CT:=C0 Mr ab0
theorem RE:CO adJ:=CX0 (TX trivial (FK ah)) UN
structure aaO (J:ae):Prop where
 w:(J 0).Z=(J 5).Z
 h:(J 1).Z=(J 6).Z
 a:Jn [.l (J 2).N (J 2).G,.l (J 7).N (J 7).G]
 b:Jn [.l (J 3).N (J 3).G,.l (J 8).N (J 8).G]
 c:Jn [.l (J 4).N (J 4).G,.l (J 9).N (J 9).G]
def aa5 (_:ae):ae:=[.b true]
abbrev N7:SP:=mkS ⟨[.sO (.nB false true false)],[]⟩ 17 Tryz.f17 [.tX (.sA sFF),.tX (.sA sFF)] [] [] [acU]
theorem FJ J R:TR N7 J R (BR ((J 0).Z==(J 5).Z)
(BR ((J 1).Z==(J 6).Z)
(LET ([.l (J 2).N (J 2).G,.l (J 7).N (J 7).G]) λx0=>(Jn x0)/\LET (X1 x0) λx1=>LET ([.l (J 3).N (J 3).G,.l (J 8).N (J 8).G]) λx2=>(Jn x2)/\LET (X1 x2) λx3=>LET ([.l (J 4).N (J 4).G,.l (J 9).N (J 9).G]) λx4=>(Jn x4)/\LET (X1 x4) λx5=>R [.i 0,.b (x5 0).X])
(False))
(False)):=af
theorem Uh:PF1 N7 aaO aa5:=λJ _ _ hp=>⟨by rw[FJ];have w:=hp.w;have h:=hp.h;exact⟨λ_=>⟨λ_=>aH rfl ⟨hp.a,aH rfl (aH rfl ⟨hp.b,aH rfl (aH rfl ⟨hp.c,aH rfl ⟨rfl,⟨rfl,ah⟩,ah⟩⟩)⟩)⟩,λe=>ne_of_beq_false e h⟩,λe=>ne_of_beq_false e w⟩⟩
abbrev adt:CT:=C1 N7 aaO aa5
theorem VA:CO adt:=CX1 (TX ⟨SE,ah⟩ ah) Uh
end
end Go.Proofs.YtldmjbgplgoedaaGreatDoor
namespace Go.Proofs.YtldmjbgplgoedaaGreatDoor
noncomputable section
open Go.RowKit U
theorem aan (k:Nat):fwF (λ_=>0) k=0:=by
 unfold fwF fwR oG
 simp
theorem aeN {s:Int} (h:0<s):qzF 0 s=0:=by unfold qzF lvF;rw[if_neg ac,Int.zero_emod,if_neg ac,Int.zero_ediv]
theorem aaG (i:Nat):ivF (λ_=>0) i=0:=by
 have c:clZ 0=0:=afH;unfold ivF ivR oG;simp only[c,Int.mul_zero,Int.add_zero]
 decide
theorem RH {cd:Nat->Bool} {fd:Bool} {r:Nat->Nat->Int} (h:∀n,n<6->∀k,r n k=0):∀n,n<=6->∀c i,adF cd fd r (λ_ _=>128) n c i=128
 |0,_,_,_=>rfl
 |n+1,hn,c,i=>by
  have ih:=RH (cd:=cd) (fd:=fd) h n ac;unfold adF
  split
  .unfold rpZ jK
   split
   .show min (max (adF cd fd r (λ_ _=>128) n c _+r n _) 0) 255=128;rw[ih,h n ac]
    decide
   .exact ih c i
  .exact ih c i
def awA:ae:=[.i 16,.i 16,.i 25,.i 1,.b false,.i 100000,.i 100000,.f (λ_=>16),.f (λ_=>16),.i 1,.i 3,.i 0,.b true,.b false,.b false,.b false,.i 16,.i 16,.l 256 (λ_=>[.i 128]),.l 64 (λ_=>[.i 128]),.l 64 (λ_=>[.i 128]),.i 0,.i 0,.l 0 (λ_=>[]),.l 0 (λ_=>[]),.l 0 (λ_=>[]),.i 0,.i 0,.l 0 (λ_=>[]),.l 0 (λ_=>[]),.l 0 (λ_=>[]),.i 0,.i 0,.l 0 (λ_=>[]),.l 0 (λ_=>[]),.l 0 (λ_=>[]),.i 8]
theorem acJ:wa awA:=⟨⟨af,af,af⟩,af⟩
theorem afA:piN awA=1:=af
def awR:ae:=piA 0 (piC (cn (piI awA)) 0)
theorem K5:sa awR:=sh acJ (k:=0) (by rw[afA];decide)
theorem afC:roN awR=1:=af
def awK:ae:=roK awR 0
theorem aeW:gZ awK=cw (qE (iz awK (vD (BW awK)))) 0 29 k8:=by
 obtain⟨m,h1,h2,-⟩:=o9 K5 (k:=0) (by rw[afC];decide) (pk K5 0 (Nat.zero_le _))
 have e:(awK 21).Z=1:=af
 cases h2 with
 |intra=>exact h1
 |skip h _=>exact absurd e h
 |inter m h _=>exact absurd e h
def awT:ae:=PS (BW awK)
theorem afj:∀n,n<6->alX awT (alD awT) n=λ_=>0:=lt6 (funext λk=>af) (funext λk=>af) (funext λk=>af) (funext λk=>af) (funext λk=>af) (funext λk=>af)
theorem WS:∀b:Bool,∀k,unF b k<64:=λb k=>by
 rcases Nat.lt_or_ge k 64 with h | h
 .revert k;cases b<;>decide
 .cases b
  .show unzL.getD k 0<64;rw[List.getD_eq_getElem?_getD,List.getElem?_eq_none (by exact h)];decide
  .show unaL.getD k 0<64;rw[List.getD_eq_getElem?_getD,List.getElem?_eq_none (by exact h)];decide
theorem ZM {n p:Nat} (hn:n<6) (hp:p<64):alV awT (alD awT) (p+n*64)=0:=by have e1:(p+n*64) / 64=n:=ac;have e2:(p+n*64) % 64=p:=ac;have eM:(awT 10).F=λ_=>16:=af;have eq:(awT 30).Z=8:=af;unfold alV lvL;rw[e1,e2,afj n hn,aan,eM,eq];refine aeN ?_;have:=(IU (w:=16) (q:=8) (k:=(scF (awT 29).X p).toNat) afH afH afH afH (Kt hp)).1;exact Int.lt_of_lt_of_le afH this
theorem ae3 {al:Bool} {m:Nat->Int} {q:Int}:∀n,n<6->∀k,adR (alV awT (alD awT)) al m q n k=0:=λn hn k=>by
 unfold adR;rw[show(λk=>alV awT (alD awT) (unF al k+n*64)*stF (m k) q k)=λ_=>0 from funext λk=>by rw[ZM hn (WS al k),Int.zero_mul]]
 exact aaG k
def awF (c i:Nat):Int:=rcF (bAt [true,true,true,true,true,true]) (alD awT) (alV awT (alD awT)) false (λ_=>16) 8 (λ_ _=>128) c i
theorem afD (c i:Nat):awF c i=128:=RH (λn hn k=>ae3 n hn k) 6 (Nat.le_refl _) c i
def awE:ae:=cw (qE (iz awK (vD (BW awK)))) 0 29 k8
def awS:ae:=JC (roM awR 0 (li (roR awR 0 awE (roS awR 0).2)) (roS awR 0).2)
theorem aeY:pM awA=ak [.i 1,.i 3,.i 0,.b true,.b false,.b false,.l 1 ((pM awA) 6).G] (ak (cZ (JC (roM awR 0 (li (roR awR 0 (gZ awK) (roS awR 0).2)) (roS awR 0).2))) [.i 0]):=af
theorem abk {g:Nat->ae} {c w i:Nat} (hw:0<w) (hi:i<w*w):cel (rz (jK g (rz (awF c)) 0 w w w)) i=128:=by
 show jK g (rz (awF c)) 0 w w w i=128;unfold jK;rw[if_pos ⟨Nat.zero_le _,by rw[Nat.sub_zero];exact Nat.div_lt_of_lt_mul hi,Nat.mod_lt _ hw⟩]
 exact afD c _
theorem T0:pM awA=ak [.i 1,.i 3,.i 0,.b true,.b false,.b false,.l 1 ((pM awA) 6).G] (ak (cZ awS) [.i 0]):=by have:=aeY;rw[aeW]at this;exact this
end
end Go.Proofs.YtldmjbgplgoedaaGreatDoor
namespace Go.Proofs.YtldmjbgplgoedaaGreatDoor
noncomputable section
open Go.RowKit U
def Zr (_:ae):ae:=[.b true]
abbrev Md:SP:=mkS ⟨[.sO (.nB false true false)],[]⟩ 12 Tryz.f12 [] [] [] [adJ,acY,aaA,adt]
theorem DS J R:TR Md J R (LET ([.i 16,.i 16,.i 128,.i 128,.i 128]) λx0=>LET (ab0 x0) λx1=>LET ([]) λx2=>LET (acu x2) λx3=>LET ([.i (x3 0).Z,.i (x3 1).Z,.i (x3 2).Z,.i (x3 3).Z,.b (x3 4).X,.i (x3 5).Z,.i (x3 6).Z,.f (x3 7).F,.f (x3 8).F,.i 1,.i 3,.i 0,.b true,.b false,.b false,.b false,.i (x1 0).Z,.i (x1 1).Z,.l (x1 2).N (x1 2).G,.l (x1 3).N (x1 3).G,.l (x1 4).N (x1 4).G,.i 0,.i 0,.l 0 (λ_=>[]),.l 0 (λ_=>[]),.l 0 (λ_=>[]),.i 0,.i 0,.l 0 (λ_=>[]),.l 0 (λ_=>[]),.l 0 (λ_=>[]),.i 0,.i 0,.l 0 (λ_=>[]),.l 0 (λ_=>[]),.l 0 (λ_=>[]),.i 8]) λx4=>(wa x4)/\LET (pM x4) λx5=>BR ((((x5 6).N:Nat):Int)==1)
(LET ([.i (x1 0).Z,.i (x1 1).Z,.l (x1 2).N (x1 2).G,.l (x1 3).N (x1 3).G,.l (x1 4).N (x1 4).G,.i (x5 7).Z,.i (x5 8).Z,.l (x5 9).N (x5 9).G,.l (x5 10).N (x5 10).G,.l (x5 11).N (x5 11).G]) λx6=>(aaO x6)/\LET (aa5 x6) λx7=>R [.i 0,.b (x7 0).X])
(False)):=af
theorem UJ:PF0 Md Zr:=λJ _ _=>⟨by
 rw[DS];refine aH rfl (aH rfl (aH rfl (aH rfl (aH (w:=awA) af ⟨acJ,aH T0 ⟨λ_=>aH rfl ⟨⟨af,af,⟨af,λi hi=>?_⟩,⟨af,λi hi=>?_⟩,⟨af,λi hi=>?_⟩⟩,aH rfl ⟨rfl,⟨rfl,ah⟩,ah⟩⟩,λh=>?_⟩⟩))))
 .have hi:i<16*16:=kmp hi;exact kmp (abk (g:=(at_ (roS awR 0).2 2).G) (c:=0) (w:=16) afH hi).symm
 .have hi:i<8*8:=kmp hi;exact kmp (abk (g:=(at_ (roS awR 0).2 3).G) (c:=1) (w:=8) afH hi).symm
 .have hi:i<8*8:=kmp hi;exact kmp (abk (g:=(at_ (roS awR 0).2 4).G) (c:=2) (w:=8) afH hi).symm
 .have h:true=false:=kmp h;cases h⟩
abbrev aaV:CT:=C0 Md Zr
theorem Jh:CO aaV:=CX0 (TX ⟨RE,Uj,Kc,VA,ah⟩ ah) UJ
end
end Go.Proofs.YtldmjbgplgoedaaGreatDoor
namespace Go.Proofs.YtldmjbgplgoedaaGreatDoor
noncomputable section
open Go.RowKit U
def abZ (_:ae):ae:=[.b true]
abbrev HS:SP:=mkS ⟨[.sO (.nB false true false)],[]⟩ 4 Tryz.f4 [.tX (.sA [r7,r7,r7,r7,r0,r7,r7,r4,r4,.c (.nR 5 0 6 0 g0),.c (.nR 1 0 9223372036854775807 0 g0),r0,r0,r0,r7])] [] [] [adz,aaW,ab1,aaV] [(aw 20 Tryz.f20)]
theorem IC J R:TR HS J R (LET ([.l (J 9).N (J 9).G]) λx0=>LET (Y1 x0) λx1=>BR (!(x1 0).X)
(R [.i 0,.b true])
(LET ((cw J 0 15 5657065726537)) λx2=>(Zo x2)/\LET (uk x2) λx3=>LET ((cw J 0 15 5657065726537)) λx4=>LET (YH x4) λx5=>BR ((x5 0).X)
(LET ([]) λx6=>LET (Zr x6) λx7=>BR ((x3 2).Z==0)
((((((x3 1).N:Nat):Int)==(((J 9).N:Nat):Int))=true)/\R [.i 0,.b ((((x3 1).N:Nat):Int)==(((J 9).N:Nat):Int))])
(False))
(LET ([]) λx6=>LET (Zr x6) λx7=>BR ((x3 2).Z==1)
(BR ((((x3 0).N:Nat):Int)==0)
((((((x3 1).N:Nat):Int)==0)=true)/\R [.i 0,.b ((((x3 1).N:Nat):Int)==0)])
(False))
(False)))):=af
theorem VG:PF0 HS abZ:=λJ b1 _=>⟨by
 rw[IC];obtain⟨⟨-,-,-,-,-,-,-,-,-,⟨-,h9,-⟩,-⟩,-⟩:=b1;have h9:(J 9).N<=6:=h9;have fin:∀ {x:Bool},x=true->(hd [Lf.i 0,.b x]).Z=0/\agW KX HS.Y (tl [Lf.i 0,.b x]) (abZ J):=λh=>⟨rfl,⟨h,ah⟩,ah⟩;obtain⟨q1,q2,q3⟩:=(aaY (cw J 0 15 5657065726537) (kmp h9)).out;refine aH rfl (aH rfl ⟨λ_=>fin rfl,λ_=>aH rfl ⟨ah,aH rfl (aH rfl (aH (w:=[.b (jJ (cw J 0 15 5657065726537))]) rfl ⟨λg=>aH rfl (aH rfl ⟨λ_=>?_,λh=>?_⟩),λg=>aH rfl (aH rfl ⟨λ_=>⟨λ_=>?_,λh=>?_⟩,λh=>?_⟩)⟩))⟩⟩)
 .have g:jJ (cw J 0 15 5657065726537)=true:=g;rw[g]at q2;have q2:((uk (cw J 0 15 5657065726537)) 1).N=(J 9).N:=kmp q2;have e:(((((uk (cw J 0 15 5657065726537)) 1).N:Nat):Int)==(((J 9).N:Nat):Int))=true:=by rw[q2,beq_self_eq_true]
  exact⟨e,fin e⟩
 .have g:jJ (cw J 0 15 5657065726537)=true:=g;rw[g]at q1;have q1:((uk (cw J 0 15 5657065726537)) 2).Z=0:=q1;have h:(((uk (cw J 0 15 5657065726537)) 2).Z==0)=false:=h;rw[q1]at h;cases h
 .have g:jJ (cw J 0 15 5657065726537)=false:=g;rw[g]at q2;have q2:((uk (cw J 0 15 5657065726537)) 1).N=0:=q2;have e:(((((uk (cw J 0 15 5657065726537)) 1).N:Nat):Int)==0)=true:=by rw[q2];rfl
  exact⟨e,fin e⟩
 .have g:jJ (cw J 0 15 5657065726537)=false:=g;have q3:=q3 g;have h:(((((uk (cw J 0 15 5657065726537)) 0).N:Nat):Int)==0)=false:=h;rw[q3]at h;cases h
 .have g:jJ (cw J 0 15 5657065726537)=false:=g;rw[g]at q1;have q1:((uk (cw J 0 15 5657065726537)) 2).Z=1:=q1;have h:(((uk (cw J 0 15 5657065726537)) 2).Z==1)=false:=h;rw[q1]at h;cases h⟩
abbrev afl:CT:=C0 HS abZ
theorem ere_ct:CO afl:=CX0 (TX ⟨Ut,Ls,Je,Jh,ah⟩ (FK ah)) VG
def adN (J:ae):Prop:=6<(J 9).N\/¬ ∀i,i<(J 9).N->lg1 ((J 9).G i)
def adW (_:ae):ae:=[.b true]
abbrev PP:SP:=mkS ⟨[.sO (.nB false true false)],[]⟩ 4 Tryz.f4 [.tX (.sA [r7,r7,r7,r7,r0,r7,r7,r4,r4,.c (.nR 16 0 9223372036854775807 0 g0),.c (.nR 1 0 9223372036854775807 0 g0),r0,r0,r0,r7])] [] [] [ad9,aaW,ab1,aaV] [(aw 20 Tryz.f20)]
theorem FH J R:TR PP J R (((decide (6<(((J 9).N:Nat):Int)))->
 R [.i 0,.b true]) /\
((decide (6<(((J 9).N:Nat):Int)))=false ->
 ((J 9).N<=6)/\LET ([.l (J 9).N (J 9).G]) λx0=>LET (Ya x0) λx1=>((!(x1 0).X)->
  R [.i 0,.b true]) /\
 ((!(x1 0).X)=false -> False))):=af
theorem XU:PF1 PP adN adW:=λJ _ _ hp=>⟨by
 rw[FH];refine⟨λ_=>⟨rfl,⟨rfl,ah⟩,ah⟩,λh=>?_⟩;have h:¬ (6:Int)<(((J 9).N:Nat):Int):=of_decide_eq_false h;refine⟨ac,aH rfl (aH (w:=[.b (lgB [.l (J 9).N (J 9).G])]) rfl ⟨λ_=>⟨rfl,⟨rfl,ah⟩,ah⟩,λg=>?_⟩)⟩;have g:lgB [.l (J 9).N (J 9).G]=true:=by simpa using(show(!lgB [.l (J 9).N (J 9).G])=false from g)
 have g:=of_decide_eq_true g;rcases hp with hp | hp
 .omega
 .exact hp g⟩
abbrev afy:CT:=C1 PP adN adW
theorem err_ct:CO afy:=CX1 (TX ⟨Sl,Ls,Je,Jh,ah⟩ (FK ah)) XU
end
end Go.Proofs.YtldmjbgplgoedaaGreatDoor
namespace Go.Proofs.YtldmjbgplgoedaaGreatDoor
noncomputable section
open Go.RowKit U
def cW (w:World):Cx:=⟨λ_=>none,λb=>match w.heap[b]? with
 |some (.cells cs ty _)=>some (ty,cs)
 |_=>none,λ_=>0,[]⟩
theorem abe {w:World} {b:Nat} {cs:Array Value} {ty:TypeId} {fz:Nat × Nat} (h:w.heap[b]? = some (.cells cs ty fz)):(cW w).F b=some (ty,cs):=by
 show(match w.heap[b]? with
  |some (.cells cs ty _)=>some (ty,cs)
  |_=>none)=_
 rw[h]
theorem Vi (K:KT) (w:World):AM K w (cW w) (cW w) [] w:=⟨rfl,rfl,rfl,Nat.le_refl _,λ_ _ _=>rfl,Cx.le_refl _,λj id e=>(by cases e),λi j id x y e=>(by cases e),λj id e=>(by cases e),λ_ e=>.inl e,λj id ab e=>(by cases e),λb ty cs e=>by
 have e:(match w.heap[b]? with
  |some (.cells cs ty _)=>some (ty,cs)
  |_=>none)=some (ty,cs):=e
 split at e
 .rename_i cs' ty' fz h;cases e;exact⟨fz,h⟩
 .cases e⟩
def RowE (w:World) (sz:Nat) (E:List Value->ae->Prop) (v:Value) (n:Nat) (g:Nat->ae):Prop :=∃A m,v=.slice A n m/\n<=m/\m<=maxLen/\(A=none->m=0)/\∀a,A=some a->0<m->∃o ty cs fz,a=⟨a.block,o,none⟩/\w.heap[a.block]? = some (.cells cs ty fz)/\o+m*sz<=cs.size/\∀i,i<n->E (elo cs sz (o+i*sz)) (g i)
theorem RowE.is {w:World} {κ a b n sz:Nat} {E:List Value->ae->Prop} {v:Value} {g:Nat->ae} (h:RowE w sz E v n g) (hs:(aK KX κ).m=sz) (ha:a<=n) (hb:n<=b) (hE:∀i,i<n->∀cs,E cs (g i)->RsOk KX (cW w) (ax (aK KX κ).rs (g i)) cs):(AV.nR κ a b n g).is KX (cW w) v:=by
 subst hs;obtain⟨A,m,h1,h2,h3,h4,h5⟩:=h
 exact is_R.2 ⟨A,m,h1,ha,hb,h2,h3,h4,λad e hm=>by obtain⟨o,ty,cs,fz,g1,g2,g3,g4⟩:=h5 ad e hm;exact⟨o,ty,cs,g1,abe g2,g3,λi hi=>hE i hi _ (g4 i hi)⟩⟩
section
variable {H:Type} {enc:TypeId × Value->H} {w:World}
def Trd (enc:TypeId × Value->H) (w:World) (t:TypeId) (cs:List Value):Prop:=∃fuel x,DataW.trod enc Tryz.prog w 0 (λ_=>true) true fuel t cs=some x
theorem Trd.int {t:TypeId} {k:IntKind} {cs:List Value} (h:Trd enc w t cs) (ht:Tryz.prog.underlying t=some (.int k)):∃z,cs=[.int k z]/\(Lit.int k z).wf=true:=by obtain⟨fuel,x,h⟩:=h;obtain⟨n,e,-,hw⟩:=DataW.trod_int ht h;exact⟨n,e,hw⟩
theorem Trd.bool {t:TypeId} {cs:List Value} (h:Trd enc w t cs) (ht:Tryz.prog.underlying t=some .bool):∃b,cs=[.bool b]:=by obtain⟨fuel,x,h⟩:=h;obtain⟨n,e,-⟩:=DataW.trod_bool ht h;exact⟨n,e⟩
theorem Trd.fld {t:TypeId} {cs:List Value} {fs:Array Field} (h:Trd enc w t cs) (ht:Tryz.prog.underlying t=some (.struct fs)) (i o n:Nat) (ty:TypeId) (hi:(fs[i]?).map (λf=>(f.type,f.offset))=some (ty,o)) (hn:Tryz.prog.cellsOf ty=n) :
 Trd enc w ty ((cs.drop o).take n):=by
 obtain⟨fuel,x,h⟩:=h;obtain⟨xs,m,-,-,hl,hxl,hf⟩:=DataW.trod_struct ht h
 cases hq:fs[i]? with
 |none=>rw[hq]at hi;cases hi
 |some f =>
  rw[hq]at hi;simp only[Option.map_some,Option.some.injEq,Prod.mk.injEq]at hi;obtain⟨rfl,rfl⟩:=hi;have hil:i<xs.length:=by rw[hxl];exact(Array.getElem?_eq_some_iff.1 hq).1
  have:=hf i f hq;rw[List.getElem?_eq_getElem hil,hn]at this;exact⟨m,_,this⟩
theorem Trd.len {t:TypeId} {cs:List Value} {fs:Array Field} (h:Trd enc w t cs) (ht:Tryz.prog.underlying t=some (.struct fs)):cs.length=Tryz.prog.cellsOf t:=by obtain⟨fuel,x,h⟩:=h;obtain⟨xs,m,-,-,hl,-⟩:=DataW.trod_struct ht h;exact hl
theorem Trd.arr {t e:TypeId} {n:Nat} {cs:List Value} (h:Trd enc w t cs) (ht:Tryz.prog.underlying t=some (.array n e)) (he:Tryz.prog.underlying e=some (.int .u8)) (hc:Tryz.prog.cellsOf e=1) (hn:Tryz.prog.cellsOf t=n):∃f:Nat->Int,cs.length=n/\∀i,i<n->cs[i]? = some (.int .u8 (f i))/\0<=f i/\f i<=255:=by
 obtain⟨fuel,x,h⟩:=h;obtain⟨xs,m,-,-,hl,hx,hg⟩:=DataW.trod_array ht h;have hl':cs.length=n:=hl.trans hn
 refine⟨λi=>match cs[i]? with | some (.int _ z)=>z | _=>0,hl',λi hi=>?_⟩
 have:=hg i hi;rw[List.getElem?_eq_getElem ac,hc,Nat.mul_one]at this;obtain⟨z,hz,-,wz⟩:=DataW.trod_int he this
 have h0:cs[i]? = some (.int .u8 z):=by
  have h0:=congrArg (·[0]?) hz
  simpa[List.getElem?_take,List.getElem?_drop]using h0
 have e:(match cs[i]? with | some (.int _ z)=>z | _=>0)=z:=by rw[h0]
 show cs[i]? = some (.int .u8 (match cs[i]? with | some (.int _ z)=>z | _=>0))/\0<=(match cs[i]? with | some (.int _ z)=>z | _=>0)/\(match cs[i]? with | some (.int _ z)=>z | _=>0)<=255
 rw[e];exact⟨h0,bounds_u8 wz⟩
theorem Trd.slice {t e:TypeId} {sz:Nat} {cs:List Value} (h:Trd enc w t cs) (ht:Tryz.prog.underlying t=some (.slice e)) (hc:Tryz.prog.cellsOf e=sz) (hsz:0<sz) (E:List Value->ae->Prop) (hx:∀cs,Trd enc w e cs->cs.length=sz->∃J,E cs J) :
 ∃v n g,cs=[v]/\RowE w sz E v n g/\n<=maxLen:=by
 obtain⟨fuel,x,h⟩:=h;rcases Go.Deep.open_slice ht h with ⟨rfl,-⟩ | ⟨a,len,cap,m,n,D,Pl,rfl,-,hl,hm,hmm,-,hel⟩
 .exact⟨_,0,λ_=>[],rfl,⟨none,0,rfl,Nat.le_refl _,Nat.zero_le _,λ_=>rfl,λa e=>by cases e⟩,Nat.zero_le _⟩
 simp only[if_true]at hmm;subst hmm;rw[hc]at hel
 have key:∀i,i<m->∃J:ae,∃cs',w.cells? 0 (a.add (i*sz)) sz=some cs'/\E cs' J:=λi hi=>by obtain⟨cs',g1,g2⟩:=hel i hi;obtain⟨J,hE⟩:=hx cs' ⟨_,_,g2⟩ (World.cells?_some g1).2.1;exact⟨J,cs',g1,hE⟩
 let g:Nat->ae:=λi=>if hi:i<m then(key i hi).choose else[]
 have hg:∀i,i<m->∃cs',w.cells? 0 (a.add (i*sz)) sz=some cs'/\E cs' (g i):=λi hi=>by
  have:=(key i hi).choose_spec;show ∃cs',w.cells? 0 (a.add (i*sz)) sz=some cs'/\E cs' (if hi:i<m then(key i hi).choose else[])
  rw[dif_pos hi];exact this
 refine⟨_,len,g,rfl,⟨some a,m,rfl,hl,hm,λe=>(by cases e),λad e hm0=>?_⟩,ac⟩
 cases e;obtain⟨b,o,sp⟩:=a
 have hsp:sp=none:=by
  obtain⟨cs',g1,-⟩:=hg 0 hm0;obtain⟨-,g2,g3⟩:=World.cells?_some g1;have g4:=g3 0 hsz;rw[List.getElem?_eq_getElem ac]at g4
  simpa[Addr.add]using World.cell?_spot g4
 subst hsp
 have cell:∀i,i<m->∃cs',E cs' (g i)/\cs'.length=sz/\∀j,j<sz->w.cell? ⟨b,o+i*sz+j,none⟩=cs'[j]?:=λi hi=>by
  obtain⟨cs',g1,gE⟩:=hg i hi;obtain⟨-,g2,g3⟩:=World.cells?_some g1;refine⟨cs',gE,g2,λj hj=>?_⟩;have g4:=g3 j hj
  rwa [Go.WideShapes.add_plain,Go.WideShapes.add_plain]at g4
 obtain⟨CS,ty,fz,hh⟩:∃CS ty fz,w.heap[b]? = some (.cells CS ty fz):=by
  obtain⟨cs',-,g2,g3⟩:=cell 0 hm0;have g4:=g3 0 hsz;rw[List.getElem?_eq_getElem ac]at g4;unfold World.cell? at g4
  split at g4
  .rename_i c t f hq;exact⟨c,t,f,hq⟩
  .cases g4
 have cellC:∀k,w.cell? ⟨b,k,none⟩=CS[k]?:=λk=>by unfold World.cell?;dsimp only;rw[hh];rfl
 have hsize:o+m*sz<=CS.size:=by
  obtain⟨cs',-,g2,g3⟩:=cell (m-1) ac;have g4:=g3 (sz-1) ac;rw[List.getElem?_eq_getElem ac,cellC]at g4;have:=(Array.getElem?_eq_some_iff.1 g4).1
  have e:(m-1)*sz+sz=m*sz:=by have h1:(m-1+1)*sz=(m-1)*sz+sz:=Nat.succ_mul _ _;rw[<-h1,Nat.sub_add_cancel hm0]
  omega
 refine⟨o,ty,CS,fz,rfl,hh,hsize,λi hi=>?_⟩;obtain⟨cs',gE,g2,g3⟩:=cell i ac
 have:elo CS sz (o+i*sz)=cs':=by
  apply List.ext_getElem?
  intro j;show((CS.toList.drop (o+i*sz)).take sz)[j]? = cs'[j]?
  by_cases hj:j<sz
  .rw[List.getElem?_take,if_pos hj,List.getElem?_drop,Array.getElem?_toList,<-cellC,g3 j hj]
  .rw[List.getElem?_eq_none (by rw[List.length_take];omega),List.getElem?_eq_none ac]
 rw[this];exact gE
def EB (cs:List Value) (J:ae):Prop:=∃z,cs=[.int .u8 z]/\J=[.i z]/\0<=z/\z<=255
def EI (cs:List Value) (J:ae):Prop:=∃z,cs=[.int .i64 z]/\J=[.i z]/\-9223372036854775808<=z/\z<=9223372036854775807
def EF (w:World) (cs:List Value) (J:ae):Prop:=∃W H v1 v2 v3 n1 n2 n3 g1 g2 g3,cs=[.int .i64 W,.int .i64 H,v1,v2,v3]/\J=[.i W,.i H,.l n1 g1,.l n2 g2,.l n3 g3]/\(-9223372036854775808<=W/\W<=9223372036854775807)/\(-9223372036854775808<=H/\H<=9223372036854775807)/\(RowE w 1 EB v1 n1 g1/\n1<=maxLen)/\(RowE w 1 EB v2 n2 g2/\n2<=maxLen)/\RowE w 1 EB v3 n3 g3/\n3<=maxLen
theorem Trd.i64 {cs:List Value} {t:TypeId} (h:Trd enc w t cs) (ht:Tryz.prog.underlying t=some (.int .i64)):∃z,cs=[.int .i64 z]/\-9223372036854775808<=z/\z<=9223372036854775807:=by obtain⟨z,e,hw⟩:=h.int ht;exact⟨z,e,bounds_i64 hw⟩
theorem Trd.bytes {cs:List Value} (h:Trd enc w 29 cs):∃v n g,cs=[v]/\RowE w 1 EB v n g/\n<=maxLen :=h.slice Tryz.underlying29 af afH EB λcs hc _=>by obtain⟨z,e,hw⟩:=hc.int Tryz.underlying5;exact⟨_,z,e,rfl,bounds_u8 hw⟩
theorem Trd.ints {cs:List Value} (h:Trd enc w 58 cs):∃v n g,cs=[v]/\RowE w 1 EI v n g/\n<=maxLen :=h.slice Tryz.underlying58 af afH EI λcs hc _=>by obtain⟨z,e,hw⟩:=hc.i64 Tryz.underlying3;exact⟨_,z,e,rfl,hw⟩
theorem oF (l:List Value) (a n:Nat):l.drop a=(l.drop a).take n++l.drop (a+n):=by rw[<-List.drop_drop,List.take_append_drop]
theorem Trd.frame {cs:List Value} (h:Trd enc w 31 cs):∃J,EF w cs J:=by
 have hl:=h.len Tryz.underlying31;have hl:cs.length=5:=hl.trans af;obtain⟨W,e0,w0⟩:=(h.fld Tryz.underlying31 0 0 1 3 rfl af).i64 Tryz.underlying3;obtain⟨Hh,e1,w1⟩:=(h.fld Tryz.underlying31 1 1 1 3 rfl af).i64 Tryz.underlying3;obtain⟨v1,n1,g1,e2,r1⟩:=(h.fld Tryz.underlying31 2 2 1 29 rfl af).bytes;obtain⟨v2,n2,g2,e3,r2⟩:=(h.fld Tryz.underlying31 3 3 1 29 rfl af).bytes;obtain⟨v3,n3,g3,e4,r3⟩:=(h.fld Tryz.underlying31 4 4 1 29 rfl af).bytes;refine⟨_,W,Hh,v1,v2,v3,n1,n2,n3,g1,g2,g3,?_,rfl,w0,w1,r1,r2,r3⟩;have s4:cs.drop 4=[v3]:=by rw[<-e4,List.take_of_length_le (by rw[List.length_drop];omega)]
 have hcs:cs=(cs.drop 0).take 1++((cs.drop 1).take 1++((cs.drop 2).take 1++((cs.drop 3).take 1++cs.drop 4))):=by rw[<-oF cs 3 1,<-oF cs 2 1,<-oF cs 1 1,<-oF cs 0 1,List.drop_zero]
 rw[hcs,e0,e1,e2,e3,s4];rfl
theorem Trd.frames {cs:List Value} (h:Trd enc w 37 cs):∃v n g,cs=[v]/\RowE w 5 (EF w) v n g/\n<=maxLen :=h.slice Tryz.underlying37 af afH (EF w) λcs hc _=>hc.frame
end
end
end Go.Proofs.YtldmjbgplgoedaaGreatDoor
