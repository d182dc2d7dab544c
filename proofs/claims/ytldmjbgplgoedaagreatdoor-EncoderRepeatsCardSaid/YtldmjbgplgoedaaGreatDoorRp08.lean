import Derived.Test.YtldmjbgplgoedaaGreatDoorRp07
import Derived.DeepKeys
set_option linter.all false
namespace Go.Proofs.YtldmjbgplgoedaaGreatDoor
open Go.RowKit
section
variable {P:Program} {K:KT} {w0 w w':World} {c0 c c':Cx} {mem mem':List AB}
theorem Elts.cat {κ n m:Nat} {g h:Nat->List Lf} {cs ds rest:List Value} (h1:Elts K c κ n g cs) (h2:Elts K c κ m h ds) (hc:cs.length=n*(aK K κ).m) (hd:ds.length=m*(aK K κ).m):∀e,e<n+m->RsOk K c (ax (aK K κ).rs (aE n g h e)) (((cs++ds++rest).drop (e*(aK K κ).m)).take (aK K κ).m):=λe he=>by
 have q1:=eI (m:=(aK K κ).m) he;rw[Nat.add_mul]at q1;unfold aE;rw[List.drop_append_of_le_length (by simp only[List.length_append];omega),List.take_append_of_le_length (by simp only[List.length_drop,List.length_append];omega)]
 by_cases hj:e<n
 .have q2:=eI (m:=(aK K κ).m) hj;rw[if_pos hj,List.drop_append_of_le_length ac,List.take_append_of_le_length (by rw[List.length_drop];omega)]
  exact h1 e hj
 .have q3:e*(aK K κ).m=cs.length+(e-n)*(aK K κ).m:=by rw[hc,<-Nat.add_mul];congr 1;omega
  rw[if_neg hj,q3,<-List.drop_drop,List.drop_append_of_le_length (Nat.le_refl _),List.drop_length,List.nil_append];exact h2 (e-n) ac
theorem rS {t tx ty:TypeId} {x y:AT} {u v:Value} {p:Nat} {e:Eff} (h:AM K w0 c0 c mem w) (hx:x.is K c u) (hy:y.is K c v) (he:mV P t tx x y=some e) (hp:bC e.ps) :
 ∃q w',(Builtin.append_ #[t,tx] ty #[u,v]).run P w=.ok q w'/\EOk K w0 c0 c mem p e q w':=by
 unfold mV at he
 split at he
 .rename_i i j κ a b o n lo hi z hi' hint;obtain⟨hu,i,hie,his,hib⟩:=n6 hi';cases he;have hz:z=0:=hp.1;subst hz;obtain⟨rfl,-⟩:=is_I.1 (show(AV.nI .i64 lo hi 0).is K c v from hy);obtain⟨id,cap,hj,rfl,q1,q2,q3,q4,q5⟩:=is_D.1 (show(AV.nD j κ a b o n).is K c u from hx);unfold Ld at hint
  split at hint
  .rename_i hk;refine⟨_,w,?_,EOk.quiet h hx⟩;have h1:(asInt (.int .i64 0)).run P w=.ok 0 w:=by simp[asInt,asIntOf]
   have h2:(storeCells (Addr.add ⟨id,o*(aK K κ).m,none⟩ (n*i.size)) ([]:List Value)).run P w=.ok () w:=by simp[storeCells]
   simp[Builtin.append_,run_underlying hu,run_underlying hk,sizeOf,typeInfo,hie,h1,h2,q3,show IntKind.i64.wrap 0=0 from rfl]
  .cases hint
 .cases he
set_option maxHeartbeats 1000000 in
theorem ny {M:List (TypeId × Nat)} {t tx ty:TypeId} {x y:AT} {u v:Value} {p:Nat} {e:Eff} (h:AM K w0 c0 c mem w) (hx:x.is K c u) (hy:y.is K c v) (he:cz K P M t tx x y mem p=some e) (hr:af2 c mem p e.nw.length) (hp:bC e.ps) :
 ∃q w',(Builtin.append_ #[t,tx] ty #[u,v]).run P w=.ok q w'/\EOk K w0 c0 c mem p e q w':=by
 have hmx:maxLen=9223372036854775807:=afH;unfold cz at he
 split at he
 .rename_i et m bytes ex hi hsx;obtain⟨hu,i,hie,his,hib⟩:=n6 hi;obtain⟨ex1,ex2⟩:=ex;obtain⟨hux,-⟩:=dl hsx
  split at he
  .rename_i zr κ hz hκ;obtain⟨i',z,hi',hzz,hzr⟩:=fC hz;rw[hie]at hi';cases hi'
   split at he
   .rename_i s hk g;rw[both_iff,both_iff]at g;have g1:=beq_iff'.1 g.1;have g2:=beq_iff'.1 g.2.1;have g3:=ble_iff.1 g.2.2;have hzs:z.cells.size=m:=by have:=(hzr K c).1;rw[Array.length_toList]at this;omega
    have grow:∀ {A:Option Addr} {n cap:Nat} {olds:List Value} {g':Nat->List Lf} {a b:Nat},af2 c mem p 1->bC s.ps->n<=1073741824->n+s.n<=1073741824->n<=cap->cap<=maxLen->¬ n+s.n<=cap->a<=n+s.n->n+s.n<=b->olds.length=n*m->Elts K c κ n g' olds->(Builtin.firstCells i.size n (.slice A n cap)).run P w.drew=.ok olds.toArray w.drew ->
     ∃q w',(Builtin.append_ #[t,tx] ty #[.slice A n cap,v]).run P w=.ok q w'/\∃c',c.le c'/\(∀i,i<p\/p+1<=i->c'.ρ i=c.ρ i)/\AM K w0 c0 c' (mem.set p (.dyn et κ a b (n+s.n) (aE n g' s.g) false)) w'/\(AT.tX (.sO (.nD p κ a b 0 (n+s.n)))).is K c' q:=λ{A n cap olds g' a b} hr hps hn1 hn2 hnc hcm hroom ha hb o1 o2 o3=>by
     subst g1;obtain⟨hm0,B,cp,rfl,m1,m2,m3,m4,cs,c1,c2,c3,c4⟩:=jZ h hy hk hps
     have hSrc:Src P i.size tx (.slice B s.n cp) s.n cs w:=by
      cases B with
      |none =>
       have h0:=c3 rfl;have:cs=[]:=List.eq_nil_of_length_eq_zero (by rw[c1,h0,Nat.zero_mul])
       rw[this,h0];exact Src.ofNil w hux cp
      |some bd =>exact Src.ofSlice w hux bd s.n cp cs (by rw[his];exact c1) (λj u hu=>c4 bd rfl j u hu) (c2.one hm0 c1)
     have hfit:Builtin.nextslicecap (n+s.n) cap*i.bytes<=281474976710656:=by have h1:=nextslicecap_le (need:=n+s.n) (old:=cap) ac;have h2:Builtin.nextslicecap (n+s.n) cap*i.bytes<=(2*1073741824)*65536:=Nat.mul_le_mul ac ac;omega
     have hrun:=run_append_grow_src (P:=P) w t tx ty et i z hu hie hzz A n cap olds o3 (.slice B s.n cp) s.n cs hSrc ac ac hfit;have hge:=grownCap_ge w (n+s.n) cap et;have hcl:=grownCap_le_maxLen w (n+s.n) cap et ac;have hd:AM K w0 c0 c mem w.drew:=h.keep (Keep.drew (Keep.refl _ _));have hzlen:(Builtin.zeroCells z.cells (grownCap w (n+s.n) cap et-(n+s.n))).size=(grownCap w (n+s.n) cap et-(n+s.n))*(aK K κ).m:=by rw[size_zeroCells,hzs]
     have hall:((olds++cs).toArray++Builtin.zeroCells z.cells (grownCap w (n+s.n) cap et-(n+s.n))).size=grownCap w (n+s.n) cap et*(aK K κ).m:=by
      have hsplit:(grownCap w (n+s.n) cap et-(n+s.n))*(aK K κ).m+(n+s.n)*(aK K κ).m=grownCap w (n+s.n) cap et*(aK K κ).m:=by rw[<-Nat.add_mul];congr 1;omega
      have e3:(n+s.n)*(aK K κ).m=n*(aK K κ).m+s.n*(aK K κ).m:=Nat.add_mul _ _ _;rw[Array.size_append,hzlen,List.size_toArray,List.length_append,o1,c1];omega
     obtain⟨r1,r2⟩:=hr 0 ac
     have hal:=hd.allocAt (N:=((olds++cs).toArray++Builtin.zeroCells z.cells (grownCap w (n+s.n) cap et-(n+s.n))).size) r1 r2 (rx (κ:=κ) (a:=a) (b:=b) (n:=n+s.n) (g:=aE n g' s.g) (ty:=et) hd r2 ha hb (by rw[hall];exact Nat.mul_le_mul_right _ hge) λe he=>by show RsOk K c _ ((((olds++cs).toArray++_).toList.drop (e*(aK K κ).m)).take (aK K κ).m);rw[Array.toList_append];exact Elts.cat o2 c2 o1 c1 e he)
     exact⟨_,_,hrun,_,hd.le_new _ r2,λi hi=>Cx.at_ne c _ _ ac,hal,is_D.2 ⟨w.heap.size,grownCap w (n+s.n) cap et,Cx.at_self _ _ _ _,by simp,ha,hb,hge,hcl,by rw[Nat.zero_add];show _<=(Cx.at_ _ _ _ _).sz _;rw[show w.heap.size=w.drew.heap.size from rfl,Cx.at_sz,hall];exact Nat.le_refl _⟩⟩
    split at he
    .rename_i x
     split at he
     .rename_i j κ' a b o n;rw[aP]at he
      split at he
      .rename_i ty' κ'' a2 b2 n' g' fz hb
       split at he
       .rename_i e1;rw[both_iff,both_iff,both_iff]at e1;obtain⟨⟨e1,e2,e3⟩,e4⟩:=e1;have e1:=beq_iff'.1 e1;have e2:=beq_iff'.1 e2;have e3:=beq_iff'.1 e3;have e4:b+s.b<=1073741824:=ble_iff.1 e4;subst e1 e2 e3;cases he;obtain⟨p1,p2⟩:=allP_app.1 hp;have ho:o=0:=p2.1;have hn:n=n':=p2.2.1;subst ho hn;obtain⟨id,cap,hj,rfl,q1,q2,q3,q4,q5⟩:=is_D.1 hx;rw[Nat.zero_add]at q5;obtain⟨f1,f2,bs,f3,f4,f5,f6,f7⟩:=h.kn j id _ hj hb;have f7:c.F id=none:=f7;obtain⟨hm0,B,cp,hv,m1,m2,m3,m4,cs,c1,c2,c3,c4⟩:=jZ h hy hk p1;obtain⟨r1,r2⟩:=hr 0 (by simp)
        rw[Nat.add_zero]at r1 r2;have hjp:j≠p:=λe=>by rw[e]at hj;rw[r2]at hj;cases hj
        by_cases hroom:n+s.n<=cap
        .
         have hSrc:Src P i.size tx (.slice B s.n cp) s.n cs w:=by
          cases B with
          |none =>
           have h0:=c3 rfl;have:cs=[]:=List.eq_nil_of_length_eq_zero (by rw[c1,h0,Nat.zero_mul])
           rw[this,h0];exact Src.ofNil w hux cp
          |some bd =>exact Src.ofSlice w hux bd s.n cp cs (by rw[his,<-g1];exact c1) (λj u hu=>c4 bd rfl j u hu) (c2.one hm0 c1)
         have hN:(n+s.n)*(aK K κ).m<=bs.size:=by rw[f4];exact Nat.le_trans (Nat.mul_le_mul_right _ hroom) q5
         rw[Nat.add_mul]at hN;have hln:n*(aK K κ).m+cs.length<=bs.size:=by rw[c1];exact hN
         have ht:=f3.there (n*(aK K κ).m) cs.length hln;have hrun:=run_append_room_src (P:=P) w t tx ty ty' i hu hie id 0 n cap (.slice B s.n cp) s.n cs hSrc hroom (λj hj=>by rw[his,<-g1,Nat.zero_add];exact(ht j hj).1) (λj hj=>by rw[his,<-g1,Nat.zero_add];exact(ht j hj).2)
         rw[his,<-g1,Nat.zero_add]at hrun;rw[hv,Nat.zero_mul];have ea:Nat.add a s.a<=n+s.n:=by show a+s.a<=n+s.n;omega
         have eb:n+s.n<=Nat.add b s.b:=by show n+s.n<=b+s.b;omega
         refine⟨_,_,hrun,c.at_ p id (c.sz id),Cx.le_put _ _ r2 λ_ _=>rfl,λi hi=>Cx.at_ne c _ _ (λe=>by simp only[List.length_singleton]at hi;omega),h.move hj hb rfl r1 r2 (Keep.setCells w id _ _) (λb e=>⟨e,f7⟩) ⟨ea,eb,_,f3.setCells id _ _,by rw[bj,Cx.at_sz];exact f4,by rw[bj,Nat.add_mul];exact hN,λe he=>?_,f7⟩,is_D.2 ⟨id,cap,Cx.at_self _ _ _ _,by rw[Nat.zero_mul],ea,eb,hroom,q4,by rw[Cx.at_sz,Nat.zero_add];exact q5⟩⟩
         refine RsOk.mono (Cx.le_put _ _ r2 λ_ _=>rfl) ?_;unfold aE
         by_cases hen:e<n
         .have:=eI (m:=(aK K κ).m) hen;rw[if_pos hen,rU hln (.inl this)];exact f6 e hen
         .rw[if_neg hen,JJ (n:=s.n) hln c1 ac ac];exact c2 (e-n) ac
        .
         have ho:((bs.toList.drop (0*(aK K κ).m)).take (n*(aK K κ).m)).length=n*(aK K κ).m:=by rw[Nat.zero_mul,List.drop_zero,List.length_take,Array.length_toList];omega
         have hel:Elts K c κ n g' ((bs.toList.drop (0*(aK K κ).m)).take (n*(aK K κ).m)):=λe he=>by rw[m7 he,<-Nat.add_mul,Nat.zero_add];exact f6 e he
         obtain⟨q,w',k1,c',k2,k3,k4,k5⟩:=grow (A:=some ⟨id,0*(aK K κ).m,none⟩) (g':=g') (a:=a+s.a) (b:=b+s.b) hr p1 ac ac q3 q4 hroom ac ac (by rw[ho,g1]) hel (run_firstCells_some w.drew i.size n _ n cap _ (by rw[ho,his,g1]) λj u hu=>by
          rw[Addr.add_mid];rw[List.getElem?_take]at hu
          split at hu
          .rw[List.getElem?_drop]at hu;show w.cell? _=_;rw[f3.cell]
           simpa using hu
          .cases hu)
         refine⟨q,w',k1,c',k2,k3,?_,k5⟩;have:=k4.kill j;rw[List.set_comm _ _ (Ne.symm hjp)]at this;exact this
       .cases he
      .cases he
     .split at he
      .rename_i e1;rw[both_iff]at e1;have e2:=dG e1.1;have e3:=ble_iff.1 e1.2;subst e2;cases he;obtain⟨rfl,-⟩:=is_K.1 hx;obtain⟨hp,hp2⟩:=allP_app.1 hp;obtain⟨hm0,B,cp,hv,m1,m2,m3,m4,cs,c1,c2,c3,c4⟩:=jZ h hy hk hp;obtain⟨h0,-⟩:=jw hp2 (λe=>by have:=ble_iff.1 e;omega)
       obtain⟨r1,r2⟩:=hr 0 (by simp)
       rw[Nat.add_zero]at r1 r2;have hcat:aE 0 (λ_=>[]) s.g=s.g:=by funext i;simp[aE]
       obtain⟨q,w',k1,c',k2,k3,k4,k5⟩:=grow (A:=none) (n:=0) (cap:=0) (olds:=[]) (g':=λ_=>[]) (a:=s.a) (b:=s.b) hr hp ac ac (Nat.le_refl _) ac ac ac ac (by simp) (λe he=>ac) (run_firstCells_none w.drew _ _ _ _)
       rw[hcat,Nat.zero_add]at k4;rw[Nat.zero_add]at k5;exact⟨q,w',k1,c',k2,k3,k4,k5⟩
      .cases he
     .split at he
      .rename_i e1;have e3:=ble_iff.1 e1;cases he;obtain⟨A,rfl⟩:=is_E.1 hx;obtain⟨hp,hp2⟩:=allP_app.1 hp;obtain⟨hm0,B,cp,hv,m1,m2,m3,m4,cs,c1,c2,c3,c4⟩:=jZ h hy hk hp;obtain⟨h0,-⟩:=jw hp2 (λe=>by have:=ble_iff.1 e;omega)
       obtain⟨r1,r2⟩:=hr 0 (by simp)
       rw[Nat.add_zero]at r1 r2;have hcat:aE 0 (λ_=>[]) s.g=s.g:=by funext i;simp[aE]
       obtain⟨q,w',k1,c',k2,k3,k4,k5⟩:=grow (A:=A) (n:=0) (cap:=0) (olds:=[]) (g':=λ_=>[]) (a:=s.a) (b:=s.b) hr hp ac ac (Nat.le_refl _) ac ac ac ac (by simp) (λe he=>ac) (by
        cases A with
        |none=>exact run_firstCells_none w.drew _ _ _ _
        |some ad=>exact run_firstCells_some w.drew _ _ _ _ _ [] (by simp) (by simp))
       rw[hcat,Nat.zero_add]at k4;rw[Nat.zero_add]at k5;exact⟨q,w',k1,c',k2,k3,k4,k5⟩
      .cases he
     .cases he
    .cases he
   .cases he
  .cases he
 .exact rS h hx hy he hp
theorem sC {t t2 ty:TypeId} {x y:AT} {u v:Value} {p:Nat} {e:Eff} (h:AM K w0 c0 c mem w) (hx:x.is K c u) (hy:y.is K c v) (he:fk K P t x y mem=some e) (hp:bC e.ps) :
 ∃q w',(Builtin.copy_ #[t,t2] ty #[u,v]).run P w=.ok q w'/\EOk K w0 c0 c mem p e q w':=by
 have hmx:maxLen=9223372036854775807:=afH;unfold fk at he
 split at he
 .rename_i et m j κ a b o n hs;obtain⟨hu,hsz⟩:=dl hs;rw[aP]at he
  split at he
  .rename_i ty' κ' a' b' n' g fz s hb hk
   split at he
   .rename_i e1;rw[both_iff,both_iff]at e1;have e2:=beq_iff'.1 e1.1;have e3:=beq_iff'.1 e1.2.1;have e4:=beq_iff'.1 e1.2.2;subst e2 e4;cases he;obtain⟨p1,p2⟩:=allP_app.1 hp;have hon:o+n<=n':=p2.1;obtain⟨id,cap,hj,rfl,q1,q2,q3,q4,-⟩:=is_D.1 hx;obtain⟨hm0,B,cp,rfl,m1,m2,m3,m4,cs,c1,c2,c3,c4⟩:=jZ h hy hk p1;obtain⟨f1,f2,bs,f3,f4,f5,f6,f7⟩:=h.kn j id _ hj hb;have f7:c.F id=none:=f7;have hmn:Nat.min s.n n=min s.n n:=rfl
    have hres:∀q:Nat,q=Nat.min s.n n->(AT.tX (.sO (mkI .i64 (Int.ofNat (Qq s.a a)) (Int.ofNat (Qq s.b b)) ((min s.n n:Nat):Int)))).is K c (goInt q):=λq hq=>by rw[hq];exact jp (by rw[xz];simp only[Int.ofNat_eq_natCast];omega) (by rw[xz];simp only[Int.ofNat_eq_natCast];omega) ⟨by simp only[low];omega,by simp only[top];omega⟩
    have hel:=λe he=>c2 e he;rw[e3,Nat.mul_one]at c1 f5;have hcl:(cs.take (Nat.min s.n n)).length=Nat.min s.n n:=by rw[List.length_take];omega
    have hln:o+(cs.take (Nat.min s.n n)).length<=bs.size:=ac;have hone:∀v∈cs.take (Nat.min s.n n),v.oneCell'=true:=λv hv=>c2.one hm0 (by rw[e3,Nat.mul_one];exact c1) v (List.mem_of_mem_take hv)
    have hst:AM K w0 c0 c (mem.set j (.dyn ty' κ a' b' n' (jD o (min s.n n) s.g g) false)) (w.setCells id o (cs.take (Nat.min s.n n))):=by
     refine h.storeAt hj hb rfl (Keep.setCells w id _ _) (λb e=>⟨e,f7⟩) ⟨f1,f2,_,f3.setCells id _ _,by rw[bj];exact f4,by rw[bj,e3,Nat.mul_one];exact f5,λe he=>?_,f7⟩
     unfold jD;have hel:=λi hi=>c2 i hi;rw[e3]at f6 hel ⊢
     by_cases h1:o<=e/\e<o+min s.n n
     .have q:=JJ (cs:=bs) (e0:=o) (n:=Nat.min s.n n) (m:=1) (e:=e) (vs:=cs.take (Nat.min s.n n)) (by rw[Nat.mul_one];exact hln) (by rw[hcl,Nat.mul_one]) h1.1 ac
      rw[Nat.mul_one]at q;rw[if_pos h1,q];have:=hel (e-o) ac;rw[List.drop_take,List.take_take,Nat.min_eq_left ac];exact this
     .rw[if_neg h1,rU hln (by rw[hcl];omega)]
      exact f6 e he
    rw[e3,Nat.mul_one];have ht:=f3.there o (cs.take (Nat.min s.n n)).length hln
    by_cases h0:Nat.min s.n n=0
    .have hnil:cs.take (Nat.min s.n n)=[]:=by rw[h0];rfl
     rw[hnil]at hst;exact⟨_,w,run_copy_none (P:=P) w t t2 ty et (some ⟨id,o,none⟩) B n cap s.n cp hu hsz h0,c,Cx.le_refl _,λ_ _=>rfl,hst,hres 0 h0.symm⟩
    .cases B with
     |none=>have:=c3 rfl;omega
     |some bd =>
      have hc:=c4 bd rfl
      have:=run_copy_cells (P:=P) w t t2 ty et id o n cap bd s.n cp (cs.take (Nat.min s.n n)) hu hsz hcl (λi v hv=>by
       rw[List.getElem?_take]at hv
       split at hv
       .exact hc i v hv
       .cases hv) (λi hi=>(ht i hi).1) (λi hi=>(ht i hi).2) hone
      exact⟨_,_,this,c,Cx.le_refl _,λ_ _=>rfl,hst,hres _ hcl⟩
   .cases he
  .cases he
 .cases he
end
end Go.Proofs.YtldmjbgplgoedaaGreatDoor
namespace Go.Proofs.YtldmjbgplgoedaaGreatDoor
open Go.RowKit
def kindsT (P:Program):Nat->TypeId->Option (List (Option IntKind))
 |0,_=>none
 |d+1,t=>match P.underlying t with
  |some .bool=>some [none]
  |some (.int k)=>some [some k]
  |some (.array n e)=>match kindsT P d e with
   |some ks=>match Nat.beq ks.length (P.cellsOf e),Nat.beq (n*ks.length) (P.cellsOf t)with
    |true,true=>some (List.replicate n ks).flatten
    |_,_=>none
   |none=>none
  |some (.struct fs)=>match fs.toList.mapM (λf=>kindsT P d f.type)with
   |some kss=>match placed P fs.toList kss 0,Nat.beq kss.flatten.length (P.cellsOf t)with
    |true,true=>some kss.flatten
    |_,_=>none
   |none=>none
  |_=>none
 where
 placed (P:Program):List Field->List (List (Option IntKind))->Nat->Bool
  |[],[],_=>true
  |f::fs,ks::kss,o=>Nat.beq f.offset o&&Nat.beq ks.length (P.cellsOf f.type)&&placed P fs kss (o+ks.length)
  |_,_,_=>false
def kt:Value->Lit
 |.bool b=>.bool b
 |.int k n=>.int k n
 |_=>.nil
def wl:Option IntKind->Value->Prop
 |none,.bool _=>True
 |some k,.int k' n=>k'=k/\inR k n
 |_,_=>False
inductive HasKs:List (Option IntKind)->List Value->Prop where
 |nil:HasKs [] []
 |cons {k:Option IntKind} {v:Value} {ks:List (Option IntKind)} {vs:List Value}:wl k v->HasKs ks vs->HasKs (k::ks) (v::vs)
theorem HasKs.len {ks:List (Option IntKind)} {vs:List Value} (h:HasKs ks vs):ks.length=vs.length:=by induction h<;>simp_all
theorem HasKs.split:∀ {a b:List (Option IntKind)} {vs:List Value},HasKs (a++b) vs->HasKs a (vs.take a.length)/\HasKs b (vs.drop a.length)
 |[],b,vs,h=>⟨.nil,h⟩
 |k::a,b,vs,h=>by
  cases h with
  |cons h1 h2 =>obtain⟨g1,g2⟩:=HasKs.split h2;exact⟨.cons h1 g1,g2⟩
theorem Wa (k:IntKind) (n:Int) (h:inR k n):k.min<=n/\n<=k.max:=by cases k<;>simp only[inR,low,top]at h<;>simp only[IntKind.min,IntKind.max,IntKind.bits,IntKind.signed,if_true,if_false,Bool.false_eq_true,Nat.reduceSub,Int.reducePow]<;>omega
theorem tn {f:List Value->Option (List Lit)} {ke:List (Option IntKind)} {cs:List Value} {s:Nat} (hs:ke.length=s) (hf:∀vs,HasKs ke vs->f vs=some (vs.map kt)):∀n o,HasKs (List.replicate n ke).flatten (cs.drop (o*s)) ->
 ((List.range' o n).mapM λi=>f ((cs.drop (i*s)).take s)).map List.flatten=some ((cs.drop (o*s)).map kt)
 |0,o,h=>by
  have:cs.drop (o*s)=[]:=by have:=h.len;exact List.eq_nil_of_length_eq_zero this.symm
  rw[this];rfl
 |n+1,o,h=>by
  rw[List.replicate_succ,List.flatten_cons]at h;obtain⟨h1,h2⟩:=h.split;rw[hs]at h1 h2;rw[List.drop_drop,show o*s+s=(o+1)*s by rw[Nat.succ_mul]]at h2
  have ih:=tn hs hf n (o+1) h2;rw[List.range'_succ,List.mapM_cons,hf _ h1]
  cases hq:(List.range' (o+1) n).mapM λi=>f ((cs.drop (i*s)).take s)with
  |none=>rw[hq]at ih;cases ih
  |some r =>rw[hq]at ih;simp only[Option.map_some,Option.some.injEq]at ih;simp only[bind,Option.bind_some,pure,Option.map_some,Option.some.injEq,List.flatten_cons,ih];rw[<-List.map_append,show(o+1)*s=o*s+s by rw[Nat.succ_mul],<-List.drop_drop,List.take_append_drop]
theorem s9 {P:Program} {d:Nat} {cs:List Value} (hf:∀(t:TypeId) ks vs,P.keyTypeAt d t=true->kindsT P d t=some ks->HasKs ks vs->P.keyLits d t vs=some (vs.map kt)):∀(fs:List Field) (kss:List (List (Option IntKind))) (o:Nat),(∀f∈fs,P.keyTypeAt d f.type=true) ->
 fs.mapM (λf=>kindsT P d f.type)=some kss->kindsT.placed P fs kss o=true->HasKs kss.flatten (cs.drop o) ->
 (fs.mapM λf=>P.keyLits d f.type ((cs.drop f.offset).take (P.cellsOf f.type))).map List.flatten=some ((cs.drop o).map kt)
 |[],kss,o,_,h1,h2,h=>by simp only[List.mapM_nil,pure,Option.some.injEq]at h1;subst h1;have:cs.drop o=[]:=List.eq_nil_of_length_eq_zero h.len.symm;rw[this];rfl
 |f::fs,kss,o,hk,h1,h2,h=>by
  rw[List.mapM_cons]at h1;simp only[bind,Option.bind_eq_some_iff,pure,Option.some.injEq]at h1;obtain⟨ks,g1,kss',g2,rfl⟩:=h1;simp only[kindsT.placed,Bool.and_eq_true]at h2;obtain⟨⟨e1,e2⟩,e3⟩:=h2;have e1:=Nat.eq_of_beq_eq_true e1;have e2:=Nat.eq_of_beq_eq_true e2;rw[List.flatten_cons]at h;obtain⟨q1,q2⟩:=h.split;rw[List.drop_drop]at q2;have ih:=s9 hf fs kss' (o+ks.length) (λf hf=>hk f (List.mem_cons_of_mem _ hf)) g2 e3 q2;rw[List.mapM_cons,e1,<-e2,hf f.type ks _ (hk f (List.mem_cons_self ..)) g1 q1]
  cases hq:fs.mapM λf=>P.keyLits d f.type ((cs.drop f.offset).take (P.cellsOf f.type))with
  |none=>rw[hq]at ih;cases ih
  |some r =>rw[hq]at ih;simp only[Option.map_some,Option.some.injEq]at ih;simp only[bind,Option.bind_some,pure,Option.map_some,Option.some.injEq,List.flatten_cons,ih];rw[<-List.map_append,<-List.drop_drop,List.take_append_drop]
theorem fY {P:Program}:∀(d:Nat) (t:TypeId) (ks:List (Option IntKind)) (cs:List Value),P.keyTypeAt d t=true->kindsT P d t=some ks->HasKs ks cs->P.keyLits d t cs=some (cs.map kt)
 |0,_,_,_,_,h,_=>by simp[kindsT]at h
 |d+1,t,ks,cs,hk,h,hs=>by
  unfold kindsT at h;unfold Program.keyLits;unfold Program.keyTypeAt at hk
  split at h
  .rename_i hu;simp only[Option.some.injEq]at h;subst h
   cases hs with
   |cons h1 h2 =>cases h2;rename_i v;cases v<;>simp only[wl]at h1;simp only[hu];rfl
  .rename_i k hu;simp only[Option.some.injEq]at h;subst h
   cases hs with
   |cons h1 h2 =>
    cases h2;rename_i v;cases v<;>simp only[wl]at h1;obtain⟨rfl,h1⟩:=h1;obtain⟨m1,m2⟩:=Wa _ _ h1;simp only[hu]
    simp[Lit.wf,m1,m2,kt]
  .rename_i n e hu;rw[hu]at hk
   split at h
   .rename_i ke hke
    split at h
    .rename_i e1 e2;have e1:=Nat.eq_of_beq_eq_true e1;have e2:=Nat.eq_of_beq_eq_true e2;simp only[Option.some.injEq]at h;subst h;simp only[hu];have hlen:=hs.len;rw[List.length_flatten,List.map_replicate,List.sum_replicate_nat]at hlen;have hl:cs.length=P.cellsOf t:=by rw[<-hlen,e2]
     rw[if_pos hl,List.range_eq_range'];have:=tn (s:=P.cellsOf e) e1 (λvs hv=>fY d e ke vs hk hke hv) n 0 (by rw[Nat.zero_mul];exact hs)
     rw[Nat.zero_mul]at this;exact this
    .cases h
   .cases h
  .rename_i fs hu;rw[hu]at hk;simp only[Bool.and_eq_true]at hk;obtain⟨⟨hk1,-⟩,-⟩:=hk;rw[Array.all_eq_true_iff_forall_mem]at hk1
   split at h
   .rename_i kss hkss
    split at h
    .rename_i e1 e2;have e2:=Nat.eq_of_beq_eq_true e2;simp only[Option.some.injEq]at h;subst h;simp only[hu];have hl:cs.length=P.cellsOf t:=by rw[<-hs.len,e2]
     rw[if_pos ⟨hl,Array.all_eq_true_iff_forall_mem.2 λf hf=>by have:=hk1 f hf;simp only[Bool.and_eq_true]at this;exact this.1⟩]
     exact s9 (λt ks vs g1 g2 g3=>fY d t ks vs g1 g2 g3) fs.toList kss 0 (λf hf=>by
      have:=hk1 f (by simpa using hf)
      simp only[Bool.and_eq_true]at this;exact this.2) hkss e1 hs
    .cases h
   .cases h
  .cases h
def Aa (x:AV) (k:Option IntKind):Bool:=match x,k with
 |.nI k _ _ _,some k'=>ik k k'
 |.nB _ _ _,none=>true
 |_,_=>false
def YN (k:IntKind):Nat->List (Option IntKind)->Option (List (Option IntKind))
 |0,ks=>some ks
 |n+1,ks=>match ks with
  |some k'::ks=>match ik k k' with
   |true=>YN k n ks
   |false=>none
  |_=>none
def gB:Rs->List (Option IntKind)->Bool
 |[],ks=>match ks with
  |[]=>true
  |_=>false
 |x::l,ks=>match x with
  |.c y=>match ks with
   |k::ks=>aJ (Aa y k) (gB l ks)
   |[]=>false
  |.a n k _ _ _=>match YN k n ks with
   |some ks=>gB l ks
   |none=>false
structure E3 where
 f:Bool
 t:Bool
 x:Bool
def aae (p q:E3):E3:=match p.f with
 |false=>q
 |true=>match q.f with
  |false=>p
  |true=>match aJ p.t q.t with
   |true=>⟨true,true,p.x&&q.x⟩
   |false=>⟨true,false,false⟩
def eqV (x y:AV):Option E3:=match x,y with
 |.nI _ a b z,.nI _ c d u=>match aJ (ieq a b) (aJ (ieq c d) (ieq a c))with
  |true=>some ⟨false,true,true⟩
  |false=>match aJ (ile a d) (ile c b)with
   |true=>some ⟨true,true,z==u⟩
   |false=>some ⟨true,false,false⟩
 |.nB f t x,.nB f' t' y=>match f,t,f',t' with
  |false,_,_,_=>some ⟨f',t',y⟩
  |_,_,false,_=>some ⟨f,t,x⟩
  |_,false,_,_=>some ⟨t',f',!y⟩
  |_,_,_,false=>some ⟨t,f,!x⟩
  |true,true,true,true=>some ⟨true,true,x==y⟩
 |_,_=>none
def bu (n:Nat) (f g:Nat->Int):Bool:=(List.range n).all λi=>f i==g i
def eqA (n:Nat) (a b:Int) (f:Nat->Int) (c d:Int) (g:Nat->Int):E3:=match aJ (ieq a b) (aJ (ieq c d) (ieq a c))with
 |true=>⟨false,true,true⟩
 |false=>⟨true,true,bu n f g⟩
def QT (p q:Option E3):Option E3:=match p,q with
 |some p,some q=>some (aae p q)
 |_,_=>none
def Lr:Nat->Rs->Rs->Option E3
 |0,a,b=>match a,b with
  |[],[]=>some ⟨false,true,true⟩
  |_,_=>none
 |n+1,a,b=>match a,b with
  |[],[]=>some ⟨false,true,true⟩
  |.a m k lo hi f::a',.a l k' lo' hi' g::b'=>match Nat.beq m l with
   |true=>QT (match ik k k' with
    |true=>some (eqA m lo hi f lo' hi' g)
    |false=>none) (Lr n a' b')
   |false=>QT (eqV (lT (.a m k lo hi f::a') 0) (lT (.a l k' lo' hi' g::b') 0)) (Lr n (bc (.a m k lo hi f::a') 1) (bc (.a l k' lo' hi' g::b') 1))
  |[],_::_=>none
  |_::_,[]=>none
  |x::a,y::b=>QT (eqV (lT (x::a) 0) (lT (y::b) 0)) (Lr n (bc (x::a) 1) (bc (y::b) 1))
def fL:Nat:=8
def mk3 (e:E3):AV:=mkB e.f e.t e.x
def PJ (P:Program) (t:TypeId) (a b:Rs):Option AV:=match kindsT P fL t,P.keyTypeAt fL t,pX P t,P.eqGuardType P.depth t with
 |some ks,true,some (some n),false=>match aJ (gB a ks) (gB b ks),Nat.beq ks.length n with
  |true,true=>match Lr (n+1) a b with
   |some e=>some (mk3 e)
   |none=>none
  |_,_=>none
 |_,_,_,_=>none
section
variable {P:Program} {K:KT} {w:World} {c:Cx}
theorem Nb {k:Option IntKind} {u v:Value} (h:wl k u) (h':wl k v) (e:kt u=kt v):u=v:=by cases k<;>cases u<;>simp only[wl]at h<;>cases v<;>simp only[wl]at h'<;>simp_all [kt]
theorem sW:∀ {ks:List (Option IntKind)} {us vs:List Value},HasKs ks us->HasKs ks vs->us.map kt=vs.map kt->us=vs
 |[],_,_,h,h',_=>by cases h;cases h';rfl
 |k::ks,_,_,h,h',e=>by
  cases h with
  |cons a b =>
   cases h' with
   |cons a' b' =>simp only[List.map_cons,List.cons.injEq]at e;rw[Nb a a' e.1,sW b b' e.2]
theorem kw {t:TypeId} {n:Nat} {l:List Value} (h:pX P t=some (some n)) (hl:l.length=n):(Value.agg l.toArray).formed P t=true:=by
 obtain⟨d,hu,hd,hs⟩:=jE h;have hc:P.cellsOf t=n:=by simp[Program.cellsOf,hs]
 unfold Value.formed;cases d<;>simp_all
theorem HasKs.cut {ks:List (Option IntKind)} {vs:List Value} (h:HasKs ks vs) (n:Nat) (hn:n<=ks.length):HasKs (ks.take n) (vs.take n)/\HasKs (ks.drop n) (vs.drop n):=by
 have h':HasKs (ks.take n++ks.drop n) vs:=by rw[List.take_append_drop];exact h
 have:=h'.split
 rwa [List.length_take,Nat.min_eq_left hn]at this
theorem vh (l:Rs):bc l 0=l:=by cases l<;>rfl
theorem Au {x:AV} {k:Option IntKind} {v:Value} (h:Aa x k=true) (hx:x.is K c v):wl k v:=by
 cases x<;>cases k<;>simp only[Aa,Bool.false_eq_true]at h
 .obtain⟨rfl,-,-,h4⟩:=is_I.1 hx;have h:=dD h;subst h;exact⟨rfl,h4⟩
 .obtain⟨rfl,-⟩:=is_B.1 hx;trivial
theorem Aq {k:IntKind}:∀(n:Nat) (ks ks':List (Option IntKind)) (us:List Value),YN k n ks=some ks'->us.length=n->(∀u∈us,∃z,u=Value.int k z/\inR k z)->∀vs,HasKs ks' vs->HasKs ks (us++vs)
 |0,ks,ks',us,h,hl,_,vs,hv=>by cases h;have:us=[]:=List.eq_nil_of_length_eq_zero hl;subst this;exact hv
 |n+1,ks,ks',us,h,hl,hu,vs,hv=>by
  unfold YN at h
  split at h
  .rename_i k' ks
   split at h
   .rename_i e;have e:=dD e;subst e
    cases us with
    |nil=>simp at hl
    |cons u us =>obtain⟨z,rfl,hz⟩:=hu u (List.mem_cons_self ..);exact .cons ⟨rfl,hz⟩ (Aq n _ _ us h (by simpa using hl) (λu hu'=>hu u (List.mem_cons_of_mem _ hu')) vs hv)
   .cases h
  .cases h
theorem fX:∀(l:Rs) (ks:List (Option IntKind)) (vs:List Value),gB l ks=true->RsOk K c l vs->HasKs ks vs
 |[],ks,vs,h,hx=>by
  have:vs=[]:=List.eq_nil_of_length_eq_zero (by rw[hx.1];rfl)
  subst this
  cases ks with
  |nil=>exact .nil
  |cons k ks=>cases h
 |.c y::l,ks,vs,h,hx=>by
  unfold gB at h;simp only at h
  split at h
  .rename_i k ks;rw[both_iff]at h;have hl:=hx.1;simp only[aV,bi]at hl
   cases vs with
   |nil=>simp at hl;omega
   |cons v vs =>exact .cons (Au h.1 (by have:=hx.get (i:=0) (v:=v) rfl;exact this)) (fX l ks vs h.2 (by have:=hx.drop 1;unfold bc at this;simp only[vh]at this;exact this))
  .cases h
 |.a n k lo hi f::l,ks,vs,h,hx=>by
  unfold gB at h;simp only at h
  split at h
  .rename_i ks' hk;have hl:=hx.1;simp only[aV,bi]at hl;obtain⟨q1,q2⟩:=dc (A:=⟨k,lo,hi,f⟩) (n:=n) (by unfold uS;simp only[ble_iff.2 (Nat.le_refl n)]) hx
   have hd:=hx.drop n
   have hdr:bc (.a n k lo hi f::l) n=match n with
    |0=>.a n k lo hi f::l
    |_+1=>l:=by
    cases n with
    |zero=>rfl
    |succ n =>unfold bc;simp only[ble_iff.2 (Nat.le_refl (n+1)),Nat.sub_self];cases l<;>rfl
   have hrest:RsOk K c l (vs.drop n):=by
    cases n with
    |zero =>refine⟨by rw[List.drop_zero];omega,λi x v h1 h2=>hx.2 i x v (by simpa[aq,az]using h1) (by simpa using h2)⟩
    |succ n=>rw[hdr]at hd;exact hd
   rw[<-List.take_append_drop n vs];refine Aq n ks ks' _ hk (by rw[List.length_take];omega) (λu hu=>?_) _ (fX l ks' _ h hrest)
   obtain⟨i,hi⟩:=List.getElem?_of_mem hu;rw[List.getElem?_take]at hi
   split at hi
   .rename_i hin;obtain⟨r1,r2,r3,r4⟩:=q2 i hin;rw[r1]at hi;cases hi;exact⟨_,rfl,r4⟩
   .cases hi
  .cases h
def E3.ok (e:E3) (p:Prop):Prop:=(p->e.t=true)/\(¬ p->e.f=true)/\(e.f=true->e.t=true->(e.x=true↔p))
theorem Ps {p q:E3} {A B:Prop} (h1:p.ok A) (h2:q.ok B):(aae p q).ok (A/\B):=by
 obtain⟨a1,a2,a3⟩:=h1;obtain⟨b1,b2,b3⟩:=h2;unfold aae
 split
 .rename_i e;have hA:A:=Classical.byContradiction λh=>by have:=a2 h;rw[e]at this;cases this
  exact⟨λh=>b1 h.2,λh=>b2 λhb=>h ⟨hA,hb⟩,λe1 e2=>(b3 e1 e2).trans ⟨λh=>⟨hA,h⟩,λh=>h.2⟩⟩
 .rename_i e
  split
  .rename_i e2;have hB:B:=Classical.byContradiction λh=>by have:=b2 h;rw[e2]at this;cases this
   exact⟨λh=>a1 h.1,λh=>a2 λha=>h ⟨ha,hB⟩,λe1 e2=>(a3 e1 e2).trans ⟨λh=>⟨h,hB⟩,λh=>h.1⟩⟩
  .rename_i e2
   split
   .rename_i e3;rw[both_iff]at e3;exact⟨λ_=>rfl,λ_=>rfl,λ_ _=>by rw[Bool.and_eq_true,a3 e e3.1,b3 e2 e3.2]⟩
   .rename_i e3;refine⟨λh=>?_,λ_=>rfl,λ_ h=>by cases h⟩
    rw[both_iff.2 ⟨a1 h.1,b1 h.2⟩]at e3;cases e3
theorem J8 {x y:AV} {u v:Value} {k:Option IntKind} {e:E3} (hk:wl k u) (hk':wl k v) (hx:x.is K c u) (hy:y.is K c v) (he:eqV x y=some e):e.ok (u=v):=by
 unfold eqV at he
 split at he
 .rename_i k1 a b z k2 c' d z';obtain⟨rfl,a1,a2,-⟩:=is_I.1 hx;obtain⟨rfl,b1,b2,-⟩:=is_I.1 hy
  have hkk:k1=k2:=by
   cases k with
   |none=>exact hk.elim
   |some k=>exact hk.1.trans hk'.1.symm
  subst hkk;have hiff:(Value.int k1 z=Value.int k1 z')↔z=z':=⟨λe=>by cases e;rfl,λe=>by rw[e]⟩
  split at he
  .rename_i g;rw[both_iff,both_iff]at g;have:=ieq_iff.1 g.1;have:=ieq_iff.1 g.2.1;have:=ieq_iff.1 g.2.2;cases he;exact⟨λ_=>rfl,λh=>absurd (hiff.2 ac) h,λh=>by cases h⟩
  .split at he
   .cases he;exact⟨λ_=>rfl,λ_=>rfl,λ_ _=>by rw[hiff];exact beq_iff_eq⟩
   .rename_i g;cases he;refine⟨λh=>?_,λ_=>rfl,λ_ h=>by cases h⟩
    have:=hiff.1 h;rw[both_iff.2 ⟨ile_iff.2 ac,ile_iff.2 ac⟩]at g;cases g
 .rename_i f t x f' t' y;obtain⟨rfl,a1,a2⟩:=is_B.1 hx;obtain⟨rfl,b1,b2⟩:=is_B.1 hy;have hiff:(Value.bool x=Value.bool y)↔x=y:=⟨λe=>by cases e;rfl,λe=>by rw[e]⟩
  unfold E3.ok;rw[hiff]
  split at he<;>cases he<;>cases x<;>cases y<;>simp_all
 .cases he
theorem eqArr_ok {n:Nat} {f g:Nat->Int}:bu n f g=true↔∀i,i<n->f i=g i:=by unfold bu;rw[List.all_eq_true];exact⟨λh i hi=>by have:=h i (List.mem_range.2 hi);exact beq_iff_eq.1 this,λh i hi=>beq_iff_eq.2 (h i (List.mem_range.1 hi))⟩
theorem RsOk.split1 {x:Run} {l:Rs} {vs:List Value} (h:RsOk K c (x::l) vs):RsOk K c [x] (vs.take (bi x))/\RsOk K c l (vs.drop (bi x)):=by
 have hl:=h.1;rw[aV]at hl
 have e:∀i,i<bi x->(aq (x::l))[i]? = (aq [x])[i]?:=λi hi=>by rw[aq,aq,aq,List.append_nil,List.getElem?_append_left (by rw[aB];exact hi)]
 refine⟨⟨by rw[List.length_take];simp only[aV];omega,λi y v hy hv=>?_⟩,⟨by rw[List.length_drop];omega,λi y v hy hv=>?_⟩⟩
 .rw[List.getElem?_take]at hv
  split at hv
  .rename_i hi;exact h.2 i y v (by rw[e i hi];exact hy) hv
  .cases hv
 .rw[List.getElem?_drop]at hv;refine h.2 _ y v ?_ hv;rw[aq,List.getElem?_append_right (by rw[aB];omega),aB,Nat.add_sub_cancel_left]
  exact hy
theorem VN {n:Nat} {k:IntKind} {a b c1 d:Int} {f g:Nat->Int} {us vs:List Value} (hx:RsOk K c [.a n k a b f] us) (hy:RsOk K c [.a n k c1 d g] vs):(eqA n a b f c1 d g).ok (us=vs):=by
 obtain⟨-,p2⟩:=dc (A:=⟨k,a,b,f⟩) (n:=n) (by unfold uS;simp only[ble_iff.2 (Nat.le_refl n)]) hx
 obtain⟨-,q2⟩:=dc (A:=⟨k,c1,d,g⟩) (n:=n) (by unfold uS;simp only[ble_iff.2 (Nat.le_refl n)]) hy
 have lu:us.length=n:=hx.1;have lv:vs.length=n:=hy.1
 have hiff:us=vs↔∀i,i<n->f i=g i:=by
  constructor
  .intro e i hi;have h1:=(p2 i hi).1;have h2:=(q2 i hi).1;rw[e,h2]at h1;simp only[Option.some.injEq,Value.int.injEq,true_and]at h1;exact h1.symm
  .intro e
   apply List.ext_getElem?
   intro i
   by_cases hi:i<n
   .rw[(p2 i hi).1,(q2 i hi).1];simp only at e ⊢;rw[e i hi]
   .rw[List.getElem?_eq_none ac,List.getElem?_eq_none ac]
 unfold eqA
 split
 .rename_i h;rw[both_iff,both_iff]at h;have:=ieq_iff.1 h.1;have:=ieq_iff.1 h.2.1;have:=ieq_iff.1 h.2.2;refine⟨λ_=>rfl,λhn=>absurd (hiff.2 λi hi=>?_) hn,λh=>by cases h⟩
  obtain⟨-,r1,r2,-⟩:=p2 i hi;obtain⟨-,s1,s2,-⟩:=q2 i hi;simp only at r1 r2 s1 s2;omega
 .exact⟨λ_=>rfl,λ_=>rfl,λ_ _=>by rw[hiff];exact eqArr_ok⟩
theorem y7 {p q:Option E3} {e:E3} {A B:Prop} (h:QT p q=some e) (h1:∀p',p=some p'->p'.ok A) (h2:∀q',q=some q'->q'.ok B):e.ok (A/\B):=by
 unfold QT at h
 split at h
 .cases h;exact Ps (h1 _ rfl) (h2 _ rfl)
 .cases h
theorem E3.ok_iff {e:E3} {A B:Prop} (h:e.ok A) (hab:A↔B):e.ok B:=by unfold E3.ok at h ⊢;rw[<-hab];exact h
theorem kF:∀(l:Rs) (i:Nat),(aq l).length<=i->lT l i=.nU
 |[],_,_=>rfl
 |.c y::l,0,h=>by simp[aq,az]at h
 |.c y::l,i+1,h=>by unfold lT;exact kF l i (by simp[aq,az]at h;omega)
 |.a n k lo hi f::l,i,h=>by
  rw[aq,List.length_append,aB]at h;simp only[bi]at h;unfold lT;simp only[blt_no.2 (show n<=i by omega)]
  exact kF l _ ac
theorem LG:∀(n:Nat) (a b:Rs) (ks:List (Option IntKind)) (us vs:List Value) (e:E3),HasKs ks us->HasKs ks vs->RsOk K c a us->RsOk K c b vs->Lr n a b=some e->e.ok (us=vs):=by
 have nil:∀ {us vs:List Value},RsOk K c [] us->RsOk K c [] vs->E3.ok ⟨false,true,true⟩ (us=vs):=λ{us vs} hx hy=>by
  have e1:us=[]:=List.eq_nil_of_length_eq_zero (by rw[hx.1];rfl)
  have e2:vs=[]:=List.eq_nil_of_length_eq_zero (by rw[hy.1];rfl)
  subst e1 e2;exact⟨λ_=>rfl,λh=>absurd rfl h,λh=>by cases h⟩
 intro n
 induction n with
 |zero =>
  intro a b ks us vs e hk hk' hx hy he;unfold Lr at he
  split at he
  .cases he;exact nil hx hy
  .cases he
 |succ n ih =>
  intro a b ks us vs e hk hk' hx hy he
  have one:∀ {a b:Rs} {e:E3},RsOk K c a us->RsOk K c b vs->QT (eqV (lT a 0) (lT b 0)) (Lr n (bc a 1) (bc b 1))=some e->e.ok (us=vs):=λ{a b e} hx hy he=>by
   have e1:=hk.len;have e2:=hk'.len
   cases hk with
   |nil =>
    cases hk';rw[kF a 0 (by rw[aF,<-hx.1];exact Nat.le_refl _)]at he
    cases he
   |@cons k u ks us h1 h2 =>
    cases hk' with
    |@cons _ v _ vs g1 g2 =>
     have:=y7 (A:=u=v) (B:=us=vs) he (λp hp=>J8 h1 g1 (hx.get (i:=0) rfl) (hy.get (i:=0) rfl) hp) λq hq=>ih _ _ ks us vs q h2 g2 (by have:=hx.drop 1;simpa using this) (by have:=hy.drop 1;simpa using this) hq
     exact E3.ok_iff this (by rw[List.cons.injEq])
  unfold Lr at he
  split at he
  .cases he;exact nil hx hy
  .rename_i m k lo hi f a' l k' lo' hi' g b'
   split at he
   .rename_i hm;have hm:=beq_iff'.1 hm;subst hm;obtain⟨x1,x2⟩:=hx.split1;obtain⟨y1,y2⟩:=hy.split1;simp only[bi]at x1 x2 y1 y2;have lk:=hk.len;have lu:=hx.1;simp only[aV,bi]at lu;obtain⟨k1,k2⟩:=hk.cut m ac;obtain⟨k3,k4⟩:=hk'.cut m ac
    have:=y7 (A:=us.take m=vs.take m) (B:=us.drop m=vs.drop m) he (λp hp=>by
     split at hp
     .rename_i e;have e:=dD e;subst e;cases hp;exact VN x1 y1
     .cases hp) λq hq=>ih _ _ _ _ _ q k2 k4 x2 y2 hq
    refine E3.ok_iff this ⟨λh=>?_,λh=>by rw[h];exact⟨rfl,rfl⟩⟩
    rw[<-List.take_append_drop m us,<-List.take_append_drop m vs,h.1,h.2]
   .exact one hx hy he
  .cases he
  .cases he
  .exact one hx hy he
theorem ag5 {e:E3} {p:Prop} {q:Bool} (h:e.ok p) (hq:q=true↔p):(mk3 e).is K c (.bool q):=by
 obtain⟨h1,h2,h3⟩:=h;unfold mk3
 by_cases hft:e.f=true/\e.t=true
 .have:q=e.x:=by have:=h3 hft.1 hft.2;cases hx:e.x<;>cases q<;>simp_all
  rw[this];exact jv (λ_=>hft.1) (λ_=>hft.2)
 .unfold mkB
  split
  .rename_i e1 e2
   have:q=false:=by
    cases q
    .rfl
    .have:=h1 (hq.1 rfl);rw[e2]at this;cases this
   subst this;exact is_B.2 ⟨rfl,by simp,by simp⟩
  .rename_i e1 e2
   have:q=true:=by
    cases q
    .have:=h2 (λhp=>by have:=hq.2 hp;cases this);rw[e1]at this;cases this
    .rfl
   subst this;exact is_B.2 ⟨rfl,by simp,by simp⟩
  .rename_i hn1 hn2;refine absurd ?_ hft;cases hf:e.f<;>cases ht:e.t
   .exfalso
    by_cases hp:p
    .have:=h1 hp;rw[ht]at this;cases this
    .have:=h2 hp;rw[hf]at this;cases this
   .exact absurd ht (λ_=>hn2 hf ht)
   .exact absurd ht (λ_=>hn1 hf ht)
   .exact⟨rfl,rfl⟩
theorem zJ {t:TypeId} {x y:Rs} {u v:Value} {z:AV} (a b:Operand) (hx:(AS.sA x).is K c u) (hy:(AS.sA y).is K c v) (h:PJ P t x y=some z):∃r:Bool,(Op.equal t u v).run P w=.ok r w/\z.is K c (.bool r)/\(eqGuard .eql t a b u v).run P w=.ok () w/\(eqGuard .neq t a b u v).run P w=.ok () w/\∃xs ys,u=.agg xs/\v=.agg ys:=by
 unfold PJ at h
 split at h
 .rename_i ks n hk hkt ha hg
  split at h
  .rename_i e1 e4;rw[both_iff]at e1;have e4:=beq_iff'.1 e4
   split at h
   .rename_i e he;cases h;obtain⟨us,rfl,hus⟩:=hx;obtain⟨vs,rfl,hvs⟩:=hy;have k1:=fX _ _ _ e1.1 hus;have k2:=fX _ _ _ e1.2 hvs;have l1:=fY fL t ks _ hkt hk k1;have l2:=fY fL t ks _ hkt hk k2;obtain⟨q,hq,hiff⟩:=run_equalIn_deep (Op.maxDepth-fL) fL t hkt w fL fL (.agg us.toArray) (.agg vs.toArray) _ _ (kw ha (by rw[<-k1.len,e4])) (kw ha (by rw[<-k2.len,e4])) l1 l2
    rw[Nat.sub_add_cancel afH]at hq
    have hqe:q=true↔us=vs:=by rw[hiff];exact⟨λe=>sW k1 k2 e,λe=>by rw[e]⟩
    exact⟨q,hq,ag5 (LG _ _ _ _ _ _ _ k1 k2 hus hvs he) hqe,by simp[eqGuard,hg],by simp[eqGuard,hg],_,_,rfl,rfl⟩
   .cases h
  .cases h
 .cases h
end
end Go.Proofs.YtldmjbgplgoedaaGreatDoor
