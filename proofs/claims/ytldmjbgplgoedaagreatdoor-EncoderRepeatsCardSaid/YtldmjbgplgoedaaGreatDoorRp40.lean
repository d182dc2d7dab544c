import Derived.Test.YtldmjbgplgoedaaGreatDoorRp16
import Derived.Defers
import Derived.Recover
import Derived.Test.YtldmjbgplgoedaaGreatDoorRp39
set_option linter.all false
namespace Go.Proofs.YtldmjbgplgoedaaGreatDoor
open Go.RowKit
def Cx.wD (c:Cx) (D:List Deferred):Cx:=⟨c.ρ,c.F,c.sz,D⟩
section
variable {K:KT} {c c0:Cx} {D:List Deferred}
theorem JE (q:Rs->List Value->Prop):isB K (c.wD D) q=isB K c q:=by
 funext x v
 cases x<;>rfl
theorem IY:∀d,isD K (c.wD D) d=isD K c d
 |0=>JE _
 |d+1=>by show isB K (c.wD D) (rsF (isD K (c.wD D) d))=isB K c (rsF (isD K c d));rw[IY d,JE]
theorem RO:AV.is K (c.wD D)=AV.is K c:=by
 funext x v
 unfold AV.is;simp only[IY]
theorem ri:RsOk K (c.wD D)=RsOk K c:=by unfold RsOk;rw[RO]
theorem UT {x:AS} {v:Value}:x.is K (c.wD D) v=x.is K c v:=by cases x<;>simp only[AS.is,RO,ri]
theorem GZ {l:List AS} {vs:List Value}:allIs K (c.wD D) l vs=allIs K c l vs:=by unfold allIs;simp only[UT]
theorem W6 {x:AT} {v:Value}:x.is K (c.wD D) v=x.is K c v:=by cases x<;>simp only[AT.is,UT,GZ]
theorem NU {w:World} {id:Nat} {b:AB}:abOk K (c.wD D) w id b=abOk K c w id b:=by cases b<;>simp only[abOk,ri]<;>rfl
theorem GOk.wD {G:GT} (h:GOk K G c):GOk K G (c.wD D):=λg rs e=>by obtain⟨ty,cs,h1,h2⟩:=h g rs e;exact⟨ty,cs,h1,by rw[ri];exact h2⟩
theorem AM.wD {mem:List AB} {w0 w:World} (h:AM K w0 c0 c mem w):AM K w0 (c0.wD D) (c.wD D) mem w :=⟨h.os,h.tape,h.output,h.size,h.frame,⟨h.le.ρ,h.le.F,h.le.sz,rfl⟩,h.dom,h.nd,h.new,h.newF,λj id ab e1 e2=>by rw[NU];exact h.kn j id ab e1 e2,h.fr⟩
theorem Cx.wD_wD {D':List Deferred}:(c.wD D).wD D'=c.wD D':=rfl
theorem Cx.wD_self (h:c.D=D):c.wD D=c:=by subst h;cases c;rfl
end
def aap (gd n:Nat) (o:Oper) (st:ASt):Bool:=match o.guard,o.dst,o.op with
 |none,none,.defer c=>match c.callee,c.args.toList with
  |.value (.tmp u),[]=>match st.get u with
   |.tF g [] us=>aJ (Nat.beq g gd) (Nat.beq us.length n)
   |_=>false
  |_,_=>false
 |_,_,_=>false
def aey (P:Program) (E:EN) (fi:FI) (L0:Nat) (t:T):T:=t.bind λo=>match o with
 |.norm st=>Lp P E fi.fn.results.toList fi.res fi.mv L0 st
 |.ret st=>Lp P E fi.fn.results.toList fi.res fi.mv L0 st
 |_=>.fail
def Pn (t:T) (f:ASt->T):T:=t.bind λo=>match o with
 |.norm st=>f st
 |_=>.fail
def pj (P:Program) (E:EN) (gd n:Nat) (fi:FI) (args:List AT) (mem:List AB):T:=match fi.fn.body with
 |some (.seq r0 (.seq (.region _ ops false) rest))=>match ops.toList with
  |[o1,o2]=>match Nat.ble args.length fi.fn.ntmps with
   |true=>Pn (bk P E ⟨fi.fn.ntmps,mem.length,fi.ls⟩ r0 ⟨mK 0 args T3.no,mem⟩) λst=>Pn (ow P E fi.fn.ntmps ops o1 st) λst=>match aap gd n o2 st with
    |true=>aey P E fi mem.length (bk P E ⟨fi.fn.ntmps,mem.length,fi.ls⟩ rest st)
    |false=>.fail
   |false=>.fail
  |_=>.fail
 |_=>.fail
def Zt (P:Program) (gd n:Nat):Prop:=aS P gd/\∀(us:List Value) (w:World),us.length=n->CallsD P gd us.toArray .returning w λe u' w'=>(∃v,e=.returned v)/\u'=.returning/\w'=w
section
variable {P:Program} {E:EN} {K:KT} {G:GT} {M:List (TypeId × Nat)} {w0 w w':World} {c0 c c':Cx} {N:Nat} {st:ASt} {a:Act} {mem:List AB}
theorem El {gd n:Nat} {o:Oper} (h:aap gd n o st=true) (hr:AR K N c st.tm a):o.guard=none/\o.dst=none/\∃us:List Value,us.length=n/\(execOp a.eval o).run P w=.ok (.defer ⟨.fn (.func gd) us.toArray,#[]⟩) w:=by
 unfold aap at h
 split at h
 .rename_i cc hg hd ho
  split at h
  .rename_i u hc ha
   split at h
   .rename_i g us e;obtain⟨h1,h2⟩:=both_iff.1 h;have h1:=beq_iff'.1 h1;have h2:=beq_iff'.1 h2;subst h1;have hi:=hr.is_ u;have e':st.tm.get u=_:=e;rw[e']at hi;obtain⟨vs,ts,hv,g1,g2⟩:=hi;have q1:vs=[]:=List.eq_nil_of_length_eq_zero (by simpa using g1.1.symm)
    subst q1;refine⟨hg,hd,ts,by rw[<-g2.1,h2],?_⟩
    have ha':cc.args=#[]:=by
     apply Array.toList_inj.1
     exact ha
    unfold execOp;rw[ho];show(do pure (Next.defer (<-resolve a.eval cc o.type)):Sem Next).run P w=_
    unfold resolve;rw[hc,ha'];show(do pure (Next.defer (<-Deferred.ofValue (a.tmps.getD u undef) (Array.map a.eval #[]))):Sem Next).run P w=_
    rw[hv]
    simp[Deferred.ofValue]
   .cases h
  .cases h
 .cases h
theorem qO (hE:EOK P E) (mix:P.follows .mixedOrders=true) {gd n:Nat} (hI:Zt P gd n) {fi:FI} (hf:P.funcs[fi.f]? = some fi.fn) {args:List AT} {Q:Lv->Prop} (h:(pj P E gd n fi args mem).sat Q) (hG:GOk E.K E.G c) (hD:c.D=[]) (hm:AM E.K w c c mem w) {vs:List Value} (hv:allAt E.K c args vs) :
 Calls P fi.f vs.toArray w λe w'=>∃v,e=.returned v/\∃m y,Q (.val m y)/\∃c',AM E.K w c c' m w'/\y.is E.K c' v:=by
 unfold pj at h
 split at h
 .rename_i r0 id ops rest hb
  split at h
  .rename_i o1 o2 hops
   split at h
   .rename_i hl;have hl:=ble_iff.1 hl;unfold Pn at h;rw[T.sat_bind]at h;have hX:∀ {c:Cx},GOk E.K E.G c->AM E.K w c c mem w->XOk P E c ⟨fi.fn.ntmps,mem.length,fi.ls⟩:=λhG hm=>⟨hE,hG,mix,λj id e=>(hm.dom j id e).1⟩;have hsz:vs.toArray.size=args.length:=by simp[hv.1]
    refine calls_of_wp_defers hf hb (wp_seq (jd (hX hG hm) r0 h (st:=⟨mK 0 args T3.no,mem⟩) ⟨c,hm,?_⟩ ?_))
    .refine⟨by simp only[Array.size_append,Array.size_replicate];omega,hD.symm,λt=>?_⟩
     rcases jV args 0 T3.no t with e | ⟨x,-,e1,e2⟩ | e
     .rw[e];trivial
     .rw[e2];rw[Nat.sub_zero]at e1;have hlt:t<args.length:=(List.getElem?_eq_some_iff.1 e1).1;have hlt':t<vs.length:=by rw[<-hv.1];exact hlt
      have hvt:=List.getElem?_eq_getElem hlt'
      have:(vs.toArray++Array.replicate (fi.fn.ntmps-vs.toArray.size) undef).getD t undef=vs[t]:=by
       rw[Array.getD_eq_getD_getElem?,Array.getElem?_append_left (by simpa using hlt')]
       simp[hlt']
      show x.is E.K c (Array.getD _ t undef);rw[this];exact hv.2 t x _ e1 hvt
     .rw[e,T3.get_no];trivial
    .intro o ho
     cases o with
     |norm st1 =>
      intro a1 w1 hr1;refine wp_seq (wp_region_list ?_);rw[hops];simp only at ho;rw[T.sat_bind]at ho;refine lQ hE hG ho hr1 λst2 a2 w2 ho2 hr2=>?_;simp only at ho2
      split at ho2
      .rename_i hdef;obtain⟨c2,hm2,ha2⟩:=hr2;obtain⟨hg,hd,us,hus,hrun⟩:=El (P:=P) (w:=w2) hdef ha2;have hD2:a2.defers=[]:=ha2.df.trans (hm2.le.D.trans hD);refine wpList_step λK hK=>?_;rw[if_pos (by simp[Region.wanted,hg])]
       unfold Oper.wp;rw[hrun,Oper.upon_defer,hd,hD2];refine hK _ _ ?_
       let d:Deferred:=⟨.fn (.func gd) us.toArray,#[]⟩
       have hG':GOk E.K E.G (c.wD [d]):=hG.wD;have hm':AM E.K w (c.wD [d]) (c.wD [d]) mem w:=hm.wD;have hr':Rel E.K w (c.wD [d]) fi.fn.ntmps st2 ({ a2 with defers:=[d] }.put none undef) w2:=⟨c2.wD [d],hm2.wD,ha2.sz,rfl,λt=>by rw[W6];exact ha2.is_ t⟩
       unfold aey at ho2;rw[T.sat_bind]at ho2
       have fin:∀(s:ASt) (a:Act) (w':World),(Lp P E fi.fn.results.toList fi.res fi.mv mem.length s).sat Q->Rel E.K w (c.wD [d]) fi.fn.ntmps s a w'->Leaves P fi.fn a.tmps (λe w'=>∃v,e=.returned v/\∃m y,Q (.val m y)/\∃c',AM E.K w c c' m w'/\y.is E.K c' v) a.defers .returning w':=λs a w' h ⟨c',h2,h3⟩=>by
        unfold Lp at h
        split at h
        .rename_i ps r g1
         split at h
         rename_i qs mem1 y1 hfr
         split at h
         .rename_i y mem2 hreb;rw[bh,aM]at h;obtain⟨⟨p1,p2⟩,hQ⟩:=h;obtain⟨us',k1,k2⟩:=dK (hG'.le h2.le) h2 h3 _ g1 p1
          have hvv:(results fi.fn a.tmps).run P w'=.ok (if h:us'.toArray.size=1 then us'.toArray[0] else .tuple us'.toArray) w':=by
           unfold results;rw[Array.mapM_eq_mapM_toList,map_eq_pure_bind];simp only[Sem.run_bind,Sem.run_pure]
           erw [k1]
           rfl
          have hft:=xC (s:=fi.res) h2 (zV k2);rw[hfr]at hft;obtain⟨c1,f1,f2,f3,f4⟩:=hft p2;obtain⟨c3,r1,r2⟩:=f2.rebaseM hE.hK (λj id e=>(hm'.dom j id e).1) hreb (vs:=[_]) (allAt_cons.2 ⟨f4,rfl,λ_ _ _ e=>by simp at e⟩)
          have hdf:a.defers=[d]:=h3.df.trans h2.le.D;rw[hdf];refine leaves_cons (by simp) (f:=gd) (args:=us.toArray) ?_ ?_
          .show(callFunc gd (#[]++us.toArray)).run P w'=_;rw[Array.empty_append];exact hI.1 _ _
          .refine(hI.2 us w' hus).mono λe u' w''=>?_;rintro⟨⟨v,rfl⟩,rfl,rfl⟩;refine⟨_,hvv,_,rfl,mem2,y,hQ,c3.wD [],?_,?_⟩
           .have:=r1.wD (D:=[]);rw[Cx.wD_wD,Cx.wD_self hD]at this;exact this
           .rw[W6];exact(allAt_cons.1 r2).1
         .exact h.elim
        .exact h.elim
       refine jd (hX hG' hm') rest ho2 hr' ?_;intro o ho3
       cases o with
       |norm s=>exact λa w' hr=>fin s a w' ho3 hr
       |ret s=>exact λa w' hr=>fin s a w' ho3 hr
       |exit i s=>exact ho3.elim
       |_=>trivial
      .exact ho2.elim
     |ret s=>exact ho.elim
     |exit i s=>exact ho.elim
     |_=>trivial
   .exact h.elim
  .exact h.elim
 .exact h.elim
theorem IL {tb:List CT} {FT:List FI} (hT:TOk P K G tb FT) (k:Nat) {gd n:Nat} (hI:Zt P gd n) {fi:FI} (hc:aS P fi.f) (hf:P.funcs[fi.f]? = some fi.fn) {args:List AT} {mem:List AB} {y:Wy} {Pr:List Lf->Prop} {W:List Lf->List Lf} (d:Nat)
 (hr:∀ls,kj (aY (au args ls) (an mem (tls (aG args) ls))) (l6 0 mem.length)=true)
 (h:∀(ls:List Lf),bTs K d (au args ls)->bBs K d (an mem (tls (aG args) ls))->Pr ls->Sa (VG [y] (pj P ⟨K,G,M,inl P K G M tb FT k⟩ gd n fi (au args ls) (an mem (tls (aG args) ls)))) (λl=>(hd l).Z=0/\agW K y (tl l) (W ls))):cV K P G (CS fi.f args mem y Pr W):=by
 refine⟨hc,λls c w vs Q g1 g2 g3 g4=>?_⟩
 have b2:bBs K d (an mem (tls (aG args) ls)):=sT (c:=c) (w:=w) λi b e=>by
  have hi:i<mem.length:=by have:=(List.getElem?_eq_some_iff.1 e).1;rw[bF]at this;exact this
  have hd:Def c (aY (au args ls) (an mem (tls (aG args) ls))):=cX g2 _ _ _ (fF g3);obtain⟨id,hid⟩:=hd i (subN_iff.1 (hr ls) i (jH _ 0 i ac ac));exact⟨id,g2.kn i id b hid e⟩
 obtain⟨hP,hQ⟩:=g4;have hs:=dg (λl (h:(hd l).Z=0/\agW K y (tl l) (W ls))=>Oz (Q:=Q) (ws:=[]) h.1 h.2 hQ) (h ls (kx g3) b2 hP).out;refine(qO (E:=⟨K,G,M,inl P K G M tb FT k⟩) ⟨hT.hK,hT.hG,zG hT k⟩ hT.mix hI hf (jL hs) g1.1 g1.2 g2 g3).mono λe w' ⟨v,he,m,y,hQ,c',k2,k3⟩=>?_;obtain⟨ps,l,e1,e2,e3⟩:=hQ;obtain⟨m',y',q1,q2,q3⟩:=uc e1 e2 e3 k2 k3;exact⟨v,he,m',y',q1,c',q2,q3⟩
end
end Go.Proofs.YtldmjbgplgoedaaGreatDoor
namespace Go.Proofs.YtldmjbgplgoedaaGreatDoor
noncomputable section
open Go.RowKit U
def Fm (J:ae) (o:Nat) (W H:Int):Prop:=fmB (J o).Z (J (o+1)).Z (J (o+2)).N (J (o+3)).N (J (o+4)).N=true/\(J o).Z=W/\(J (o+1)).Z=H
def lG (J:ae) (o:Nat) (W H ty st:Int) (se:Bool):Prop:=(ty≠1->Fm J o W H)/\(ty=3->Fm J (o+5) W H)/\(ty=2->se=true->Fm J (o+10) W (H / 2))
structure Geo (W H st:Int) (il se:Bool):Prop where
 w:16<=W/\W<=64/\W % 16=0
 h:16<=H/\H<=64/\H % 16=0
 i32:il=true->H % 32=0
 cx:eQ st il se
def rHt (st H:Int):Int:=bif st==3 then H else H / 2
theorem z9 {st H:Int} (h:st=3):rHt st H=H:=by rw[h];rfl
theorem zt {st H:Int} (h:st≠3):rHt st H=H / 2:=by unfold rHt;rw[show(st==3)=false by simpa using h];rfl
theorem jh {W H st:Int} {il se:Bool} (g:Geo W H st il se):16<=rHt st H/\rHt st H<=64/\rHt st H % 16=0:=by
 have h:=g.h
 by_cases e:st=3
 .rw[z9 e];omega
 .rw[zt e];have:=g.i32 (g.cx.1 e);omega
def Dir (d ty:Int):Prop:=(d=0/\ty≠1)\/(d=1/\ty=3)
theorem zI {F:ae} {W H:Int} (h:Fm F 0 W H) (h4:H % 4=0):Fm (dP F) 0 W (H / 2):=by
 obtain⟨h,h0,h1⟩:=h;have h0:(F 0).Z=W:=h0;have h1:(F 1).Z=H:=h1;have h:fmB (F 0).Z (F 1).Z (F 2).N (F 3).N (F 4).N=true:=h;obtain⟨w,k,e1,e2,l1,l2,l3,l4,-,-,-⟩:=dN h;rw[h0]at e1;rw[h1]at e2;show fmB (((F 0).Z.toNat:Nat):Int) (((F 1).Z.toNat / 2:Nat):Int) ((F 0).Z.toNat*((F 1).Z.toNat / 2)) ((F 0).Z.toNat / 2*((F 1).Z.toNat / 2 / 2)) ((F 0).Z.toNat / 2*((F 1).Z.toNat / 2 / 2))=true/\(((F 0).Z.toNat:Nat):Int)=W/\(((F 1).Z.toNat / 2:Nat):Int)=H / 2;rw[h0,h1];subst e1 e2;obtain⟨j,rfl⟩:∃j,k=2*j:=⟨k / 2,ac⟩;rw[Int.toNat_natCast,Int.toNat_natCast,show 2*(2*j) / 2=2*j by omega,show 2*w / 2=w by omega,show 2*j / 2=j by omega]
 exact⟨wP l1 l2 ac ac,rfl,ac⟩
theorem ab7 {L:ae} {d W h:Int} {o:Nat} (ho:rfO d (L 0).Z (L 1).Z (L 3).X (L 20).Z=o) (hB:rfB d (L 0).Z (L 1).Z (L 3).X (L 20).Z) (hc:eQ (L 1).Z (L 2).X (L 3).X) (hF:Fm L o W h) (hw:W % 16=0) (hh:h % 16=0):rfP d L/\Fm (rfW d L) 0 W h:=by unfold rfP rfW;rw[if_pos hB,ho];obtain⟨f,w,k⟩:=hF;exact⟨⟨hc,⟨f,w.symm ▸ hw,k.symm ▸ hh⟩,λn=>absurd hB n⟩,f,w,k⟩
theorem adq {L:ae} {d W h:Int} {o:Nat} (ho:rfO d (L 0).Z (L 1).Z (L 3).X (L 20).Z=o) (hB:¬ rfB d (L 0).Z (L 1).Z (L 3).X (L 20).Z) (hc:eQ (L 1).Z (L 2).X (L 3).X) (hF:Fm L o W h) (hw:W % 16=0) (hh:h % 32=0):rfP d L/\Fm (rfW d L) 0 W (h / 2):=by unfold rfP rfW;rw[if_neg hB,ho];have hF':Fm ([.i (L o).Z,.i (L (o+1)).Z,.l (L (o+2)).N (L (o+2)).G,.l (L (o+3)).N (L (o+3)).G,.l (L (o+4)).N (L (o+4)).G,.i (L 20).Z]) 0 W h:=hF;obtain⟨f,w,k⟩:=hF;exact⟨⟨hc,⟨f,w.symm ▸ hw,k.symm ▸ (show h % 16=0 by omega)⟩,λ_=>k.symm ▸ hh⟩,zI hF' ac⟩
theorem Xw {L:ae} {d W H:Int} (g:Geo W H (L 1).Z (L 2).X (L 3).X) (r:lG L 4 W H (L 0).Z (L 1).Z (L 3).X) (hd:Dir d (L 0).Z):rfP d L/\Fm (rfW d L) 0 W (rHt (L 1).Z H):=by
 have hw:=g.w;have hh:=g.h
 by_cases e:(L 1).Z=3
 .rw[z9 e];have hB:rfB d (L 0).Z (L 1).Z (L 3).X (L 20).Z:=.inl e;rcases hd with ⟨rfl,t⟩ | ⟨rfl,t⟩
  .exact ab7 (o:=4) (by unfold rfO;rw[if_neg afH,if_neg λh=>h.1 e]) hB g.cx (r.1 t) hw.2.2 hh.2.2
  .exact ab7 (o:=9) (by unfold rfO;rw[if_pos rfl]) hB g.cx (r.2.1 t) hw.2.2 hh.2.2
 .rw[zt e];have h32:=g.i32 (g.cx.1 e);rcases hd with ⟨rfl,t⟩ | ⟨rfl,t⟩
  .by_cases q:(L 3).X=true/\(L 0).Z=2/\(L 20).Z≠paZ (L 1).Z
   .exact ab7 (o:=14) (by unfold rfO;rw[if_neg afH,if_pos ⟨e,q⟩]) (.inr ⟨afH,q⟩) g.cx (r.2.2 q.2.1 q.1) hw.2.2 ac
   .exact adq (o:=4) (by unfold rfO;rw[if_neg afH,if_neg λh=>q h.2]) (λh=>h.elim e λh=>q h.2) g.cx (r.1 t) hw.2.2 h32
  .exact adq (o:=9) (by unfold rfO;rw[if_pos rfl]) (λh=>h.elim e λh=>h.1 rfl) g.cx (r.2.1 t) hw.2.2 h32
theorem Fm.rf {L:ae} {o:Nat} {W H:Int} (h:Fm L o W H):gl L o:=by obtain⟨f,-,-⟩:=h;obtain⟨a,b,c,d,e⟩:=ql f;refine⟨a,b,c,d,e,?_⟩;unfold fmB at f;exact(of_decide_eq_true f).2.2.2.2.2.2.1
theorem JK {K:ae} {d s W H:Int} (g:Geo W H (K 1).Z (K 2).X (K 3).X) (r:lG K 4 W H (K 0).Z (K 1).Z (K 3).X) (hd:Dir d (K 0).Z):rfP d (rfD d K s)/\Fm (rfW d (rfD d K s)) 0 W (rHt (K 1).Z H) :=Xw (L:=rfD d K s) (kmp g) (kmp r) (kmp hd)
theorem xZ {K:ae} {d s vx vy W H:Int} {L:ae} (hF:Fm (rfW d (rfD d K s)) 0 W (rHt (K 1).Z H)) (g:Geo W H (K 1).Z (K 2).X (K 3).X) (hx:0<=(K 19).Z/\(K 19).Z<W / 16) (hy:0<=(K 20).Z/\(K 20).Z<rHt (K 1).Z H / 16) (hL:pdA d s vx vy K=L):oD L:=by
 subst hL;obtain⟨f,w,h⟩:=hF;have w:((rfW d (rfD d K s)) 0).Z=W:=w;have h:((rfW d (rfD d K s)) 1).Z=rHt (K 1).Z H:=h;have gw:=g.w;have gh:=jh g;refine⟨f,?_,?_,?_,?_,.inr rfl⟩
 .show 16*(min (max (K 19).Z (-1)) 128) % 2=0;omega
 .show 16*(min (max (K 20).Z (-1)) 128) % 2=0;omega
 .show 16*(min (max (K 19).Z (-1)) 128)<=((rfW d (rfD d K s)) 0).Z-16;rw[w];omega
 .show 16*(min (max (K 20).Z (-1)) 128)<=((rfW d (rfD d K s)) 1).Z-16;rw[h];omega
theorem wG {K:ae} {d s v0 v1 v2 v3 W H:Int} {sl:Nat->Int} (hF:Fm (rfW d (rfD d K s)) 0 W (rHt (K 1).Z H)) (g:Geo W H (K 1).Z (K 2).X (K 3).X) (hf:(K 2).X=true/\(K 1).Z=3) (hx:0<=(K 19).Z/\(K 19).Z<W / 16) (hy:0<=(K 20).Z/\(K 20).Z<rHt (K 1).Z H / 16):Bz (pdB d s v0 v1 v2 v3 sl K):=by
 obtain⟨f,w,h⟩:=hF;have w:((rfW d (rfD d K s)) 0).Z=W:=w;have h:((rfW d (rfD d K s)) 1).Z=rHt (K 1).Z H:=h;have gw:=g.w;have gh:=g.i32 hf.1;rw[z9 hf.2]at h hy;refine⟨f,?_,?_,?_,?_⟩
 .show((rfW d (rfD d K s)) 0).Z % 16=0;rw[w];omega
 .show((rfW d (rfD d K s)) 1).Z % 32=0;rw[h];omega
 .show(K 19).Z<((rfW d (rfD d K s)) 0).Z / 16;rw[w];omega
 .show(K 20).Z<((rfW d (rfD d K s)) 1).Z / 16;rw[h];omega
theorem ag7 {K:ae} {W H:Int} (g:Geo W H (K 1).Z (K 2).X (K 3).X) (r:lG K 4 W H (K 0).Z (K 1).Z (K 3).X) (hx:0<=(K 19).Z/\(K 19).Z<W / 16) (hy:0<=(K 20).Z/\(K 20).Z<rHt (K 1).Z H / 16) (hu:(K 22).X=true\/(K 23).X=true) (hu1:(K 22).X->(K 0).Z≠1) (hu2:(K 23).X->(K 0).Z=3) (hf:(K 24).X->(K 2).X=true/\(K 1).Z=3):KM K:=by
 refine⟨hu,λh=>?_,λh=>?_⟩
 .obtain⟨a,b⟩:=JK (s:=(K 34).F 0) g r (.inl ⟨rfl,hu1 h⟩);refine⟨a,?_⟩;cases e:(K 24).X
  .exact xZ b g hx hy rfl
  .exact wG b g (hf e) hx hy
 .obtain⟨a,b⟩:=JK (s:=(K 34).F 2) g r (.inr ⟨rfl,hu2 h⟩);refine⟨a,?_⟩;cases e:(K 24).X
  .exact xZ b g hx hy rfl
  .exact wG b g (hf e) hx hy
def CdF (c:ae) (o:Nat) (W H:Int):Prop:=Geo W H (c (o+1)).Z (c (o+2)).X (c (o+3)).X/\DJ c o/\((c o).Z=1\/(c o).Z=2\/(c o).Z=3)/\lG c (o+25) W H (c o).Z (c (o+1)).Z (c (o+3)).X/\Fm c (o+20) W (rHt (c (o+1)).Z H)/\(vmP (c (o+11)).F/\vmP (c (o+12)).F) /\ (((c o).Z≠1->(c (o+1)).Z≠3\/(c (o+2)).X->gl c (o+50)/\gl c (o+55))/\((c o).Z=3->(c (o+1)).Z≠3\/(c (o+2)).X->gl c (o+60)/\gl c (o+65)))/\((c o).Z≠1->(c (o+1)).Z=3->gl c (o+40))/\((c o).Z=3->(c (o+1)).Z=3->gl c (o+45))
def Zc (c:ae) (o:Nat) (W H mx my:Int):Prop:=(0<=mx/\mx<W / 16)/\0<=my/\my<rHt (c (o+1)).Z H / 16
def rcL (m:ae) (mx my:Int) (J:ae):ae:=ak (cw m 0 22 k0) (ak [.i mx,.i my] (cw J 8 75 k1))
theorem G1 {J:ae} {W H mx my:Int} (h:CdF J 8 W H) (hp:Zc J 8 W H mx my) (ht:(J 8).Z≠1):pm (rcL skZ mx my J):=by
 obtain⟨g,-,-,r,-,v,-,-,-⟩:=h
 have hK:KM (pU (Qr (rcL skZ mx my J))):=ag7 (W:=W) (H:=H) (kmp g) (kmp r) (kmp hp.1) (kmp hp.2) (.inl af) (λ_=>kmp ht) (λe=>eq_of_beq (kmp e)) (λe=>by have e:false=true:=kmp e;cases e)
 exact⟨λ_=>⟨⟨⟨⟨af,af,af⟩,lt8 af af af af af af af af,λ_ _=>af⟩,af,lt6 af af af af af af,λ_ _=>af⟩,⟨kmp g.cx,kmp ht⟩,kmp v.1,kmp v.2,hK⟩,λe=>absurd (kmp e:(0:Int)=1) afH,λe=>absurd (kmp e:(0:Int)=2) afH⟩
theorem yl {J e:ae} {W H mx my:Int} (h:CdF J 8 W H) (hp:Zc J 8 W H mx my) (ht:(J 8).Z≠1) (he:PnE (J 8).Z (J 9).Z (J 10).X e):pm (rcL e mx my J):=by
 obtain⟨g,-,t,r,-,v,-,-,-⟩:=h;have u:=he.uses
 have h2:(e 2).X->(J 8).Z=3:=λk=>by
  rcases t with t | t | t
  .exact absurd t ht
  .have:=(u.1 t).2;rw[k]at this;cases this
  .exact t
 have hK:KM (qD (Qr (rcL e mx my J))):=ag7 (W:=W) (H:=H) (kmp g) (kmp r) (kmp hp.1) (kmp hp.2) (kmp u.2.1) (λ_=>kmp ht) (kmp h2) (kmp u.2.2)
 have hc:XI (J 9).Z (J 10).X (e 4).X (bAt (coB e 0)) (e 21).F:=by
  refine⟨λn hn=>?_,λk=>?_⟩
  .rw[he.cod n hn,jT (f':=λ_=>0) (g':=λ_=>0) (λi hi=>he.lev _ ac) λ_ _=>rfl];rfl
  .rw[he.dct]at k;cases k
 have k2:((Qr (rcL e mx my J)) 8).Z=2:=kmp he.kind;exact⟨λk=>absurd (k2.symm.trans k) afH,λk=>absurd (k2.symm.trans k) afH,λ_=>⟨⟨kmp g.cx,kmp ht,⟨kmp u,kmp he.d0,kmp he.d1⟩,kmp hc⟩,kmp v.1,kmp v.2,hK⟩⟩
theorem TJ {J:ae} {W H:Int} (h:CdF J 8 W H) (hp:Zc J 8 W H (J 0).Z (J 1).Z) (hs:VB J 4/\VB J 6):KA J:=by
 have hh:=h;obtain⟨g,cd,t,r,⟨s1,s2,s3⟩,v,⟨f0,f1⟩,w0,w1⟩:=hh;have gw:=g.w;have gh:=jh g;obtain⟨px,py⟩:=hp;have s2:(J 28).Z=W:=s2;have s3:(J 29).Z=rHt (J 9).Z H:=s3;have py:0<=(J 1).Z/\(J 1).Z<rHt (J 9).Z H / 16:=py;have c13:(J 8).Z=(J 21).Z:=cd.1;have c14:(J 9).Z=(J 22).Z:=cd.2.1;have c8:(J 10).X=(J 16).X:=cd.2.2.1;refine⟨⟨s1,?_,?_,?_,?_⟩,cd,v,?_⟩
 .show(J 28).Z % 16=0;rw[s2];exact gw.2.2
 .show(J 29).Z % 16=0;rw[s3];exact gh.2.2
 .show(J 0).Z<(J 28).Z / 16;rw[s2];exact px.2
 .show(J 1).Z<(J 29).Z / 16;rw[s3];exact py.2
 .rcases t with t | t
  .exact .inl (c13 ▸ t)
  .have ht:(J 8).Z≠1:=by rcases t with t | t<;>rw[t]<;>decide
   refine .inr ⟨c13 ▸ t,kmp (G1 h ⟨px,py⟩ ht),?_,λe he=>?_⟩
   .rcases t with t | t
    .exact .inl ⟨kmp (c13 ▸ t),kmp hs.1,λk=>kmp (f0 ht (by
      have k:(J 22).Z≠3\/(J 16).X=true:=kmp k;rw[<-c14,<-c8]at k
      exact k)),λk=>kmp (w0 ht (by
      have k:(J 22).Z=3:=kmp k;rw[<-c14]at k;exact k))⟩
    .have q:∀ {a:Prop},(((pnK (yi J)) 27).Z≠3\/((pnK (yi J)) 21).X=true)->((J 9).Z≠3\/(J 10).X=true):=λk=>by have k:(J 22).Z≠3\/(J 16).X=true:=kmp k;rw[<-c14,<-c8]at k;exact k
     have q':((pnK (yi J)) 27).Z=3->(J 9).Z=3:=λk=>by have k:(J 22).Z=3:=kmp k;rw[<-c14]at k;exact k
     exact .inr ⟨kmp (c13 ▸ t),⟨kmp hs.1,λk=>kmp (f0 ht (q (a:=True) k)),λk=>kmp (w0 ht (q' k))⟩,⟨kmp hs.2,λk=>kmp (f1 t (q (a:=True) k)),λk=>kmp (w1 t (q' k))⟩⟩
   .have he:PnE (J 8).Z (J 9).Z (J 10).X e:=by rw[c13,c14,c8];exact he
    exact kmp (yl h ⟨px,py⟩ ht he)
end
end Go.Proofs.YtldmjbgplgoedaaGreatDoor
namespace Go.Proofs.YtldmjbgplgoedaaGreatDoor
open Go.RowKit U
structure Mw (J:ae):Prop where
 ft:ftB J 0 9 15=true
 src:Fm J 16 (J 0).Z (rHt (J 10).Z (J 1).Z)
 refs:lG J 21 (J 0).Z (J 1).Z (J 9).Z (J 10).Z (J 15).X
theorem jr {J:ae} (h:ftB J 0 9 15=true):Geo (J 0).Z (J 1).Z (J 10).Z (J 4).X (J 15).X/\(1<=(J 9).Z/\(J 9).Z<=3)/\(1<=(J 10).Z/\(J 10).Z<=3)/\(vmP (J 7).F/\vmP (J 8).F):=by
 obtain⟨h1,h2⟩:=Bool.and_eq_true_iff.1 h;have v:=Lz h1;obtain⟨h3,h4⟩:=Bool.and_eq_true_iff.1 h1;obtain⟨h5,h6⟩:=Bool.and_eq_true_iff.1 h4;unfold cvB at h5;obtain⟨-,c1,c2⟩:=of_decide_eq_true h5;refine⟨⟨v.hW,v.hH,v.hil,λn=>?_,λe=>?_⟩,c1,c2,v.hx,v.hy⟩
 .have h6:((J 4).X||((J 10).Z==3&&((J 12).X&&!(J 13).X)))=true:=h6;rw[show((J 10).Z==3)=false by simpa using n]at h6
  simpa using h6
 .have h2:(!((J 15).X&&(J 10).Z==3))=true:=h2;rw[show((J 10).Z==3)=true by simpa using e]at h2
  simpa using h2
theorem gP {J w0 w1 a b c d:ae} (h:Mw J) (f0:(J 9).Z≠1->(J 10).Z≠3\/(J 4).X->gl a 0/\gl b 0) (f1:(J 9).Z=3->(J 10).Z≠3\/(J 4).X->gl c 0/\gl d 0) (g0:(J 9).Z≠1->(J 10).Z=3->gl w0 0) (g1:(J 9).Z=3->(J 10).Z=3->gl w1 0):CdF (nwB J w0 w1 a b c d) 0 (J 0).Z (J 1).Z/\Fm (nwB J w0 w1 a b c d) 70 (J 0).Z (rHt (J 10).Z (J 1).Z):=by
 obtain⟨g,t,s,v⟩:=jr h.ft;have hty:(J 9).Z=1\/(J 9).Z=2\/(J 9).Z=3:=ac;refine⟨⟨kmp g,⟨af,af,af,kmp g.cx⟩,kmp hty,kmp h.refs,kmp h.src,kmp v,⟨kmp f0,kmp f1⟩,kmp g0,kmp g1⟩,?_⟩
 have hf:Fm (eY [.i (J 16).Z,.i (J 17).Z,.i 0,.i 0,.i 0]) 0 (J 0).Z (rHt (J 10).Z (J 1).Z):=by
  obtain⟨-,e0,e1⟩:=h.src;have e0:(J 16).Z=(J 0).Z:=e0;have e1:(J 17).Z=rHt (J 10).Z (J 1).Z:=e1;have gw:=g.w;have gh:=jh g;refine⟨?_,e0,e1⟩;show fmB (J 16).Z (J 17).Z ((J 16).Z*(J 17).Z).toNat ((J 16).Z / 2*((J 17).Z / 2)).toNat ((J 16).Z / 2*((J 17).Z / 2)).toNat=true;rw[e0,e1];generalize (J 0).Z=W at *;generalize rHt (J 10).Z (J 1).Z=H at *;obtain⟨w,rfl⟩:∃w:Nat,W=((2*w:Nat):Int):=⟨(W / 2).toNat,ac⟩;obtain⟨k,rfl⟩:∃k:Nat,H=((2*k:Nat):Int):=⟨(H / 2).toNat,ac⟩;rw[show((2*w:Nat):Int) / 2=(w:Int) by omega,show((2*k:Nat):Int) / 2=(k:Int) by omega,<-Int.natCast_mul,<-Int.natCast_mul,Int.toNat_natCast,Int.toNat_natCast]
  exact wP ac ac ac ac
 exact kmp hf
theorem agY {J:ae} (h:Mw J) {d s:Int} (hd:Dir d (J 9).Z):rfP d (nwA J d s)/\Fm (rfW d (nwA J d s)) 0 (J 0).Z (rHt (J 10).Z (J 1).Z) :=Xw (L:=nwA J d s) (kmp (jr h.ft).1) (kmp h.refs) (kmp hd)
theorem mi {r:ae} {s W H:Int} (h:Fm r 0 W H) (h4:H % 4=0):dp (ak (cZ r) [.i s])/\gl (nwF r s) 0:=by have h':Fm (ak (cZ r) [.i s]) 0 W H:=kmp h;have h1:((ak (cZ r) [.i s]) 1).Z=H:=h'.2.2;exact⟨⟨h'.1,h1.symm ▸ h4⟩,(zI h' h4).rf⟩
theorem xE {J:ae} (h:Mw J):abI J/\CdF (cn J) 0 (J 0).Z (J 1).Z/\Fm (cn J) 70 (J 0).Z (rHt (J 10).Z (J 1).Z):=by
 obtain⟨g,t,s,v⟩:=jr h.ft;have gw:=g.w;have gh:=jh g
 have hl:nwL J:=by
  obtain⟨-,e0,e1⟩:=h.src;have e0:(J 16).Z=(J 0).Z:=e0;have e1:(J 17).Z=rHt (J 10).Z (J 1).Z:=e1;refine⟨?_,?_⟩
  .show(J 16).Z % 2=0;omega
  .show(J 17).Z % 2=0;omega
 have r0:∀s,(J 9).Z≠1->rfP 0 (nwA J 0 s)/\Fm (qr J s) 0 (J 0).Z (rHt (J 10).Z (J 1).Z):=λs e=>agY h (.inl ⟨rfl,e⟩);have r1:∀s,(J 9).Z=3->rfP 1 (nwA J 1 s)/\Fm (Cf J s) 0 (J 0).Z (rHt (J 10).Z (J 1).Z):=λs e=>agY h (.inr ⟨rfl,e⟩)
 have f4:(J 4).X->(J 10).Z=3->rHt (J 10).Z (J 1).Z % 4=0:=λi k=>by have:=g.i32 i;rw[z9 k];omega
 rcases(show(J 9).Z=1\/(J 9).Z=2\/(J 9).Z=3 by omega)with e | e | e
 .have n1:¬ (J 9).Z≠1:=λk=>k e;have n3:¬ (J 9).Z=3:=ac;rw[show cn J=QG J by unfold cn;rw[e];rfl]
  exact⟨.inl ⟨e,hl⟩,gP h (λk=>absurd k n1) (λk=>absurd k n3) (λk=>absurd k n1) λk=>absurd k n3⟩
 .have n1:(J 9).Z≠1:=ac;have n3:¬ (J 9).Z=3:=ac;obtain⟨p0,m0⟩:=r0 0 n1;obtain⟨p1,m1⟩:=r0 1 n1
  by_cases st:(J 10).Z=3
  .cases il:(J 4).X
   .rw[show cn J=uP J by unfold cn;rw[e,st,il];rfl]
    exact⟨.inr (.inl ⟨e,.inr ⟨st,.inr ⟨il,hl,p0,p1⟩⟩⟩),gP h (λ_ k=>absurd k (by rw[il];rintro(k | k);exact k st;cases k)) (λk=>absurd k n3) (λ_ _=>m1.rf) λk=>absurd k n3⟩
   .rw[show cn J=vg J by unfold cn;rw[e,st,il];rfl]
    obtain⟨q0,z0⟩:=mi (s:=0) m0 (f4 il st);obtain⟨q1,z1⟩:=mi (s:=1) m1 (f4 il st);exact⟨.inr (.inl ⟨e,.inr ⟨st,.inl ⟨il,hl,p0,q0,p1,q1⟩⟩⟩),gP h (λ_ _=>⟨z0,z1⟩) (λk=>absurd k n3) (λ_ _=>m1.rf) λk=>absurd k n3⟩
  .rw[show cn J=vK J by unfold cn;rw[e,show((J 10).Z !=3)=true by simpa using st];rfl]
   exact⟨.inr (.inl ⟨e,.inl ⟨st,hl,p0,p1⟩⟩),gP h (λ_ _=>⟨m0.rf,m1.rf⟩) (λk=>absurd k n3) (λ_ k=>absurd k st) λk=>absurd k n3⟩
 .have n1:(J 9).Z≠1:=ac;obtain⟨p0,m0⟩:=r0 0 n1;obtain⟨p1,m1⟩:=r0 1 n1;obtain⟨p2,m2⟩:=r1 0 e;obtain⟨p3,m3⟩:=r1 1 e
  by_cases st:(J 10).Z=3
  .cases il:(J 4).X
   .rw[show cn J=vp J by unfold cn;rw[e,st,il];rfl]
    have no:¬ ((J 10).Z≠3\/(J 4).X=true):=by rw[il];rintro(k | k);exact k st;cases k
    exact⟨.inr (.inr ⟨e,.inr ⟨st,.inr ⟨il,hl,p0,p1,p2,p3⟩⟩⟩),gP h (λ_ k=>absurd k no) (λ_ k=>absurd k no) (λ_ _=>m1.rf) λ_ _=>m3.rf⟩
   .rw[show cn J=uH J by unfold cn;rw[e,st,il];rfl]
    obtain⟨q0,z0⟩:=mi (s:=0) m0 (f4 il st);obtain⟨q1,z1⟩:=mi (s:=1) m1 (f4 il st);obtain⟨q2,z2⟩:=mi (s:=0) m2 (f4 il st);obtain⟨q3,z3⟩:=mi (s:=1) m3 (f4 il st);exact⟨.inr (.inr ⟨e,.inr ⟨st,.inl ⟨il,hl,p0,q0,p1,q1,p2,q2,p3,q3⟩⟩⟩),gP h (λ_ _=>⟨z0,z1⟩) (λ_ _=>⟨z2,z3⟩) (λ_ _=>m1.rf) λ_ _=>m3.rf⟩
  .rw[show cn J=vX J by unfold cn;rw[e,show((J 10).Z !=3)=true by simpa using st];rfl]
   exact⟨.inr (.inr ⟨e,.inl ⟨st,hl,p0,p1,p2,p3⟩⟩),gP h (λ_ _=>⟨m0.rf,m1.rf⟩) (λ_ _=>⟨m2.rf,m3.rf⟩) (λ_ k=>absurd k st) λ_ k=>absurd k st⟩
theorem TO (J:ae):∃w0 w1 a b c d,cn J=nwB J w0 w1 a b c d:=by
 unfold cn;cases(J 9).Z==1
 .cases(J 9).Z==2
  .cases(J 10).Z !=3
   .cases(J 4).X
    .exact⟨_,_,_,_,_,_,rfl⟩
    .exact⟨_,_,_,_,_,_,rfl⟩
   .exact⟨_,_,_,_,_,_,rfl⟩
  .cases(J 10).Z !=3
   .cases(J 4).X
    .exact⟨_,_,_,_,_,_,rfl⟩
    .exact⟨_,_,_,_,_,_,rfl⟩
   .exact⟨_,_,_,_,_,_,rfl⟩
 .exact⟨_,_,_,_,_,_,rfl⟩
theorem Nm {J:ae} {W H:Int} (h:CdF J 1 W H) (hW:(J 5).Z=W) (hf:ftB J 5 14 4=true) (hr:Fm J 71 W (rHt (J 2).Z H)) (hy:0<=(J 0).Z/\(J 0).Z<rHt (J 2).Z H / 16) (hz:(J 0).Z<rwZ J 5 14):sa J:=by
 have hh:=h;obtain⟨g,cd,t,r,⟨s1,s2,s3⟩,v,⟨f0,f1⟩,w0,w1⟩:=hh;have s2:(J 21).Z=W:=s2;obtain⟨m1,m2,m3⟩:=hr;have m2:(J 71).Z=W:=m2;have m3:(J 72).Z=rHt (J 2).Z H:=m3;have gw:=g.w;have gh:=jh g;have gh:16<=rHt (J 2).Z H/\rHt (J 2).Z H<=64/\rHt (J 2).Z H % 16=0:=gh;refine⟨⟨⟨ac,ac⟩,ac,ac⟩,hf,hz,m1,ac,⟨ac,ac⟩,cd,λk hk st fr hs=>?_⟩
 have hk':(k:Int)<W / 16:=by have:Int.tdiv (J 21).Z 16=(J 21).Z / 16:=Int.tdiv_eq_ediv_of_nonneg ac;unfold roN at hk;rw[this,s2]at hk;omega
 have pl:Zc J 1 W H k (J 0).Z:=⟨⟨ac,hk'⟩,hy⟩;exact TJ (J:=roC J k st fr) (W:=W) (H:=H) (kmp h) (kmp pl) ⟨kmp hs.1,kmp hs.2⟩
end Go.Proofs.YtldmjbgplgoedaaGreatDoor
