import Derived.Test.YtldmjbgplgoedaaGreatDoorRp04
import Derived.Laws.Tables
import Derived.Great.BuildSlice
import Derived.Laws.MakeOwn
set_option linter.all false
namespace Go.Proofs.YtldmjbgplgoedaaGreatDoor
open Go.RowKit
def fg (P:Program) (s:TypeId) (x:AT) (f:Nat):Option AT:=match x,aci P s f with
 |.tX (.sO x),some d=>match x with
  |.nP j o=>some (.tX (.sO (.nP j (Nat.add o d))))
  |.nX j κ o i=>some (.tX (.sO (.nX j κ (Nat.add o d) i)))
  |.nQ κ o ls=>some (.tX (.sO (.nQ κ (Nat.add o d) ls)))
  |.nG g o=>some (.tX (.sO (.nG g (Nat.add o d))))
  |_=>none
 |_,_=>none
def inB (a b z:Int) (nlo:Nat) (n:Nat):List Prop:=match ile 0 a,ile (Int.add b 1) (Int.ofNat nlo)with
 |true,true=>[]
 |true,false=>[z<(n:Int)]
 |false,true=>[0<=z]
 |false,false=>[0<=z,z<(n:Int)]
theorem lZ {a b z:Int} {nlo n:Nat} (h1:a<=z) (h2:z<=b) (h3:nlo<=n) (h:bC (inB a b z nlo n)):0<=z/\z<(n:Int):=by
 unfold inB at h
 split at h
 .rename_i e1 e2;have e1:=ile_iff.1 e1;have e2:=ile_iff.1 e2;have e2:b+1<=(nlo:Int):=e2;omega
 .rename_i e1 e2;have e1:=ile_iff.1 e1;exact⟨ac,h.1⟩
 .rename_i e1 e2;have e2:=ile_iff.1 e2;have e2:b+1<=(nlo:Int):=e2;exact⟨h.1,ac⟩
 .exact⟨h.1,h.2.1⟩
def bW (K:KT) (P:Program) (t:TypeId) (x i:AT):Option (List Prop × AT):=match x,i with
 |.tX (.sO x),.tX (.sO (.nI _ a b z))=>match x with
  |.nS j o n _=>match slT P t,aJ (ile 0 a) (ile (Int.add b 1) (Int.ofNat n)),ieq a b with
   |some (_,m),true,true=>some ([],.tX (.sO (.nP j (Nat.add o (Nat.mul a.toNat m)))))
   |some (_,m),true,false=>some ([],.tX (.sO (.nY j o (Nat.mul n m) (Nat.mul a.toNat m) (Nat.mul b.toNat m) (z.toNat*m))))
   |_,_,_=>none
  |.nR κ lo _ n g=>match slT P t with
   |some (_,m)=>match Nat.beq m (aK K κ).m with
    |true=>some (inB a b z lo n,.tX (.sO (.nQ κ 0 (g z.toNat))))
    |false=>none
   |none=>none
  |.nD j κ lo _ o n=>match slT P t with
   |some (_,m)=>match Nat.beq m (aK K κ).m with
    |true=>some (inB a b z lo n,.tX (.sO (.nX j κ 0 (o+z.toNat))))
    |false=>none
   |none=>none
  |.nP j o=>match arT P t with
   |some (n,m)=>match aJ (ile 0 a) (ile (Int.add b 1) (Int.ofNat n)),ieq a b with
    |true,true=>some ([],.tX (.sO (.nP j (Nat.add o (Nat.mul a.toNat m)))))
    |true,false=>some ([],.tX (.sO (.nY j o (Nat.mul n m) (Nat.mul a.toNat m) (Nat.mul b.toNat m) (z.toNat*m))))
    |_,_=>none
   |none=>none
  |.nY j o len ea eb e=>match arT P t with
   |some (n,m)=>match aJ (ile 0 a) (ile (Int.add b 1) (Int.ofNat n))with
    |true=>some ([],.tX (.sO (.nY j o len (Nat.add ea (Nat.mul a.toNat m)) (Nat.add eb (Nat.mul b.toNat m)) (e+z.toNat*m))))
    |_=>none
   |none=>none
  |.nX j κ d i=>match arT P t with
   |some (n,m)=>match aJ (ile 0 a) (ile (Int.add b 1) (Int.ofNat n)),ieq a b with
    |true,true=>some ([],.tX (.sO (.nX j κ (Nat.add d (Nat.mul a.toNat m)) i)))
    |_,_=>none
   |none=>none
  |.nQ κ d ls=>match arT P t with
   |some (n,m)=>match aJ (ile 0 a) (ile (Int.add b 1) (Int.ofNat n)),ieq a b with
    |true,true=>some ([],.tX (.sO (.nQ κ (Nat.add d (Nat.mul a.toNat m)) ls)))
    |_,_=>none
   |none=>none
  |.nG g o=>match arT P t with
   |some (n,m)=>match aJ (ile 0 a) (ile (Int.add b 1) (Int.ofNat n)),ieq a b with
    |true,true=>some ([],.tX (.sO (.nG g (Nat.add o (Nat.mul a.toNat m)))))
    |_,_=>none
   |none=>none
  |_=>none
 |_,_=>none
def n7 (rs:Rs) (o:Nat) (g:Option Nat):Option AT:=match g with
 |none=>match Nat.blt o (aV rs)with
  |true=>some (.tX (.sO (lT rs o)))
  |false=>none
 |some n=>match Nat.ble (Nat.add o n) (aV rs)with
  |true=>some (.tX (.sA (hY (bc rs o) n)))
  |false=>none
def adb (P:Program) (s:TypeId) (f:Nat):Option (Nat × Option Nat):=match P.underlying s with
 |some (.struct fs)=>match fs[f]? with
  |some fd=>match pX P fd.type with
   |some g=>some (fd.offset,g)
   |none=>none
  |none=>none
 |_=>none
def oB (P:Program) (s:TypeId) (x:AT) (f:Nat):Option AT:=match x,adb P s f with
 |.tX (.sA rs),some (o,g)=>n7 rs o g
 |_,_=>none
def arK (P:Program) (t:TypeId):Option (Nat × Option Nat × Nat):=match P.underlying t with
 |some (.array n e)=>match pX P e,P.info? e with
  |some g,some i=>some (n,g,i.size)
  |_,_=>none
 |_=>none
def yr (s:ByteArray) (z:Int):Int:=match s[z.toNat]? with
 |some q=>(q.toNat:Int)
 |none=>0
def ov (P:Program) (t:TypeId) (x i:AT):Option (List Prop × AT):=match x,i with
 |.tX (.sA rs),.tX (.sO (.nI _ a b z))=>match arK P t with
  |some (n,g,m)=>match ieq a b with
   |true=>match aJ (ile 0 a) (ile (Int.add b 1) (Int.ofNat n)),n7 rs (Nat.mul a.toNat m) g with
    |true,some y=>some ([],y)
    |_,_=>none
   |false=>match g with
    |none=>match Nat.beq m 1,uS rs n with
     |true,some A=>some (inB a b z n n,.tX (.sO (.nI A.k A.lo A.hi (A.f z.toNat))))
     |true,none=>match kB rs n with
      |some bs=>some (inB a b z n n,.tX (.sO (.nB true true (bAt bs z.toNat))))
      |none=>none
     |_,_=>none
    |some s=>match Nat.beq m s,uS rs (Nat.mul n m)with
     |true,some A=>some (inB a b z n n,.tX (.sA [.a m A.k A.lo A.hi (λx=>A.f (x+z.toNat*m))]))
     |_,_=>none
  |none=>none
 |.tX (.sO (.nK (.string s))),.tX (.sO (.nI _ a b z))=>match P.underlying t with
  |some .string=>some (inB a b z s.size s.size,.tX (.sO (mkI .u8 (match ieq a b with
   |true=>yr s a
   |false=>0) (match ieq a b with
   |true=>yr s a
   |false=>255) (yr s z))))
  |_=>none
 |_,_=>none
def oZ:List AS->Nat->Option AS
 |[],_=>none
 |b::l,n=>match n with
  |0=>some b
  |n+1=>oZ l n
def iZ (x:AT) (i:Nat):Option AT:=match x with
 |.tT l=>match oZ l i with
  |some s=>some (.tX s)
  |none=>none
 |_=>none
section
variable {P:Program} {K:KT} {w0 w w':World} {c0 c c':Cx} {mem mem':List AB}
theorem jy {s:TypeId} {x y:AT} {f:Nat} {v:Value} (hx:x.is K c v) (hy:fg P s x f=some y):∃u,(Instr.fieldAt s v f).run P w=.ok u w/\y.is K c u:=by
 unfold fg at hy
 split at hy
 .rename_i x d hd
  split at hy
  .cases hy;obtain⟨id,hj,rfl⟩:=is_P.1 hx;exact⟨_,uT hd id _,is_P.2 ⟨id,hj,rfl⟩⟩
  .cases hy;obtain⟨id,hj,rfl⟩:=is_X.1 hx;exact⟨_,uT hd id _,is_X.2 ⟨id,hj,by rw[Nat.add_assoc];rfl⟩⟩
  .cases hy;obtain⟨id,e,ty,cs,rfl,h⟩:=is_Q.1 hx;exact⟨_,uT hd id _,is_Q.2 ⟨id,e,ty,cs,by rw[Nat.add_assoc];rfl,h⟩⟩
  .cases hy;obtain⟨rfl,h⟩:=is_G.1 hx;exact⟨_,uT hd _ _,is_G.2 ⟨rfl,h⟩⟩
  .cases hy
 .cases hy
theorem cQ {b:Int} {n:Nat} (h:ile (Int.add b 1) (Int.ofNat n)=true):b<(n:Int):=by have h:=ile_iff.1 h;have h:b+1<=(n:Int):=h;omega
theorem cq {t:TypeId} {x i y:AT} {u v:Value} {ps:List Prop} (hx:x.is K c v) (hi:i.is K c u) (hy:bW K P t x i=some (ps,y)) (hp:bC ps):∃r,(Instr.indexAt t v u).run P w=.ok r w/\y.is K c r:=by
 have sl:∀ {e:TypeId} {m n q:Nat} {k:IntKind} {z:Int} {id o:Nat},P.underlying t=some (.slice e)->(P.info? e).map (·.size)=some m->0<=z->z<(n:Int)->(Instr.indexAt t (.slice (some ⟨id,o,none⟩) n q) (.int k z)).run P w=.ok (.pointer (some ⟨id,o+z.toNat*m,none⟩)) w:=λ{e m n q k z id o} hu hsz h0 h2=>by simp[Instr.indexAt,run_underlying hu,asIntOf,h0,h2,gT hsz,Addr.add_mid]
 have ar:∀ {e:TypeId} {m n:Nat} {k:IntKind} {z:Int} {id o:Nat},P.underlying t=some (.array n e)->(P.info? e).map (·.size)=some m->0<=z->z<(n:Int)->(Instr.indexAt t (.pointer (some ⟨id,o,none⟩)) (.int k z)).run P w=.ok (.pointer (some ⟨id,o+z.toNat*m,none⟩)) w:=λ{e m n k z id o} hu hsz h0 h2=>by simp[Instr.indexAt,run_underlying hu,asIntOf,Instr.sureAddr,h0,h2,gT hsz,Addr.add_mid]
 have mono:∀ {a b z:Int} {m:Nat},0<=a->a<=z->z<=b->a.toNat*m<=z.toNat*m/\z.toNat*m<=b.toNat*m:=λ{a b z m} h0 h1 h2=>⟨Nat.mul_le_mul_right m ac,Nat.mul_le_mul_right m ac⟩;unfold bW at hy
 split at hy
 .rename_i x k a b z;obtain⟨rfl,z1,z2,z3⟩:=is_I.1 hi
  split at hy
  .rename_i j o n cap;obtain⟨id,hj,rfl,-⟩:=is_S.1 hx
   split at hy
   .rename_i e m hs hb hab;have hab:=ieq_iff.1 hab;rw[both_iff]at hb;have h0:=ile_iff.1 hb.1;have h2:=cQ hb.2;cases hy;obtain⟨hu,hsz⟩:=dl hs;have hz:z=a:=ac;subst hz;exact⟨_,sl hu hsz h0 ac,is_P.2 ⟨id,hj,rfl⟩⟩
   .rename_i e m hs hb hab;rw[both_iff]at hb;have h0:=ile_iff.1 hb.1;have h2:=cQ hb.2;cases hy;obtain⟨hu,hsz⟩:=dl hs;obtain⟨m1,m2⟩:=mono (m:=m) h0 z1 z2;exact⟨_,sl hu hsz ac ac,is_Y.2 ⟨id,hj,rfl,m1,m2⟩⟩
   .cases hy
  .rename_i κ lo hi n g;obtain⟨A,q,rfl,g1,g2,g3,g4,g5,g6⟩:=is_R.1 hx
   split at hy
   .rename_i e m hs
    split at hy
    .rename_i hm;have hm:=beq_iff'.1 hm;cases hy;obtain⟨hu,hsz⟩:=dl hs;obtain⟨i1,i2⟩:=lZ z1 z2 g1 hp
     cases A with
     |none=>have:=g5 rfl;omega
     |some ad =>
      obtain⟨el,ty,cs,q1,q2,q3,q4⟩:=g6 ad rfl ac;rw[q1];refine⟨_,sl hu hsz i1 i2,is_Q.2 ⟨ad.block,el+z.toNat*(aK K κ).m,ty,cs,by rw[hm,Nat.add_zero],q2,?_,q4 _ ac⟩⟩
      have:=Nat.mul_le_mul_right (aK K κ).m (show z.toNat+1<=q by omega)
      rw[Nat.add_mul,Nat.one_mul]at this;omega
    .cases hy
   .cases hy
  .rename_i j κ lo hi o n;obtain⟨id,q,hj,rfl,g1,g2,g3,g4,-⟩:=is_D.1 hx
   split at hy
   .rename_i e m hs
    split at hy
    .rename_i hm;have hm:=beq_iff'.1 hm;cases hy;obtain⟨hu,hsz⟩:=dl hs;obtain⟨i1,i2⟩:=lZ z1 z2 g1 hp;exact⟨_,sl hu hsz i1 i2,is_X.2 ⟨id,hj,by rw[hm,Nat.add_mul,Nat.add_zero]⟩⟩
    .cases hy
   .cases hy
  .rename_i j o;obtain⟨id,hj,rfl⟩:=is_P.1 hx
   split at hy
   .rename_i n m hs;obtain⟨e,hu,hsz⟩:=gC hs
    split at hy
    .rename_i hb hab;have hab:=ieq_iff.1 hab;rw[both_iff]at hb;have h0:=ile_iff.1 hb.1;have h2:=cQ hb.2;cases hy;have hz:z=a:=ac;subst hz;exact⟨_,ar hu hsz h0 ac,is_P.2 ⟨id,hj,rfl⟩⟩
    .rename_i hb hab;rw[both_iff]at hb;have h0:=ile_iff.1 hb.1;have h2:=cQ hb.2;cases hy;obtain⟨m1,m2⟩:=mono (m:=m) h0 z1 z2;exact⟨_,ar hu hsz ac ac,is_Y.2 ⟨id,hj,rfl,m1,m2⟩⟩
    .cases hy
   .cases hy
  .rename_i j o len ea eb e;obtain⟨id,hj,rfl,e1,e2⟩:=is_Y.1 hx
   split at hy
   .rename_i n m hs;obtain⟨e,hu,hsz⟩:=gC hs
    split at hy
    .rename_i hb;rw[both_iff]at hb;have h0:=ile_iff.1 hb.1;have h2:=cQ hb.2;cases hy;obtain⟨m1,m2⟩:=mono (m:=m) h0 z1 z2;exact⟨_,ar hu hsz ac ac,is_Y.2 ⟨id,hj,by rw[Nat.add_assoc],Nat.add_le_add e1 m1,Nat.add_le_add e2 m2⟩⟩
    .cases hy
   .cases hy
  .rename_i j κ d i;obtain⟨id,hj,rfl⟩:=is_X.1 hx
   split at hy
   .rename_i n m hs;obtain⟨e,hu,hsz⟩:=gC hs
    split at hy
    .rename_i hb hab;have hab:=ieq_iff.1 hab;rw[both_iff]at hb;have h0:=ile_iff.1 hb.1;have h2:=cQ hb.2;cases hy;have hz:z=a:=ac;subst hz;exact⟨_,ar hu hsz h0 ac,is_X.2 ⟨id,hj,by rw[Nat.add_assoc];rfl⟩⟩
    .cases hy
   .cases hy
  .rename_i κ d ls;obtain⟨id,el,ty,cs,rfl,hq⟩:=is_Q.1 hx
   split at hy
   .rename_i n m hs;obtain⟨e,hu,hsz⟩:=gC hs
    split at hy
    .rename_i hb hab;have hab:=ieq_iff.1 hab;rw[both_iff]at hb;have h0:=ile_iff.1 hb.1;have h2:=cQ hb.2;cases hy;have hz:z=a:=ac;subst hz;exact⟨_,ar hu hsz h0 ac,is_Q.2 ⟨id,el,ty,cs,by rw[Nat.add_assoc];rfl,hq⟩⟩
    .cases hy
   .cases hy
  .rename_i g o;obtain⟨rfl,hq⟩:=is_G.1 hx
   split at hy
   .rename_i n m hs;obtain⟨e,hu,hsz⟩:=gC hs
    split at hy
    .rename_i hb hab;have hab:=ieq_iff.1 hab;rw[both_iff]at hb;have h0:=ile_iff.1 hb.1;have h2:=cQ hb.2;cases hy;have hz:z=a:=ac;subst hz;exact⟨_,ar hu hsz h0 ac,is_G.2 ⟨rfl,hq⟩⟩
    .cases hy
   .cases hy
  .cases hy
 .cases hy
def aeK (P:Program) (t:TypeId) (x:AV):Option Nat:=match x with
 |.nS _ _ n _=>some n
 |.nP .. | .nY .. | .nX .. | .nQ .. | .nG ..=>match arT P t with
  |some (n,_)=>some n
  |none=>none
 |_=>none
def fH (K:KT) (P:Program) (t:TypeId) (x i:AT):Option (List Prop × AT):=match x,i with
 |.tX (.sO x),.tX (.sO (.nI k a b z))=>match aeK P t x with
  |some n=>match aJ (ile 0 a) (ile (Int.add b 1) (Int.ofNat n))with
   |true=>bW K P t (.tX (.sO x)) (.tX (.sO (.nI k a b z)))
   |false=>match bW K P t (.tX (.sO x)) (.tX (.sO (.nI k (fc a 0) (lj b (Int.sub (Int.ofNat n) 1)) z)))with
    |some (ps,y)=>some ((0<=z)::(z<(n:Int))::ps,y)
    |none=>none
  |none=>bW K P t (.tX (.sO x)) (.tX (.sO (.nI k a b z)))
 |_,_=>none
theorem jC {t:TypeId} {x i y:AT} {u v:Value} {ps:List Prop} (hx:x.is K c v) (hi:i.is K c u) (hy:fH K P t x i=some (ps,y)) (hp:bC ps):∃r,(Instr.indexAt t v u).run P w=.ok r w/\y.is K c r:=by
 unfold fH at hy
 split at hy
 .rename_i x k a b z
  split at hy
  .rename_i n _
   split at hy
   .exact cq hx hi hy hp
   .split at hy
    .rename_i ps' y' e;cases hy;obtain⟨h1,h2,h3,h4⟩:=is_I.1 hi;refine cq hx (i:=.tX (.sO (.nI k (fc a 0) (lj b (Int.sub (Int.ofNat n) 1)) z))) (is_I.2 ⟨h1,?_,?_,h4⟩) e hp.2.2
     .rw[co];have:=hp.1;omega
     .rw[cD];have q:z<(n:Int):=hp.2.1;have:Int.sub (Int.ofNat n) 1=(n:Int)-1:=rfl;rw[this];omega
    .cases hy
  .exact cq hx hi hy hp
 .cases hy
theorem mT {e:TypeId} {vs:List Value} {o:Nat} {v:Value} (hg:pX P e=some none) (hv:vs[o]? = some v):(part e vs.toArray o).run P w=.ok v w:=by
 obtain⟨d',hu,hd,-⟩:=mP hg
 have hagg:(isAgg e).run P w=.ok false w:=by unfold isAgg;rw[Sem.run_bind,run_underlying hu w];cases d'<;>simp_all
 have hc:vs.toArray[o]? = some v:=by rw[List.getElem?_toArray,hv]
 simp only[part,Sem.run_bind,hagg,Result.andThen_ok,Bool.false_eq_true,if_false,hc,Sem.run_pure]
theorem sI {e:TypeId} {vs:List Value} {o n:Nat} (hg:pX P e=some (some n)):(part e vs.toArray o).run P w=.ok (.agg ((vs.drop o).take n).toArray) w:=by
 obtain⟨d',hu,hd,hsz⟩:=jE hg
 have hagg:(isAgg e).run P w=.ok true w:=by unfold isAgg;rw[Sem.run_bind,run_underlying hu w];cases d'<;>simp_all
 have hxe:vs.toArray.extract o (o+n)=((vs.drop o).take n).toArray:=by simp only[List.extract_toArray,List.extract_eq_take_drop,Nat.add_sub_cancel_left]
 simp only[part,Sem.run_bind,hagg,Result.andThen_ok,if_true,gT hsz,hxe,Sem.run_pure]
theorem kM {e:TypeId} {rs:Rs} {vs:List Value} {o:Nat} {g:Option Nat} {y:AT} (hx:RsOk K c rs vs) (hg:pX P e=some g) (h:n7 rs o g=some y):∃r,(part e vs.toArray o).run P w=.ok r w/\y.is K c r:=by
 have hl:=hx.1;unfold n7 at h
 split at h
 .split at h
  .rename_i ho;have ho:=blt_iff.1 ho;cases h;have hv:=List.getElem?_eq_getElem (show o<vs.length by omega)
   exact⟨_,mT hg hv,hx.get hv⟩
  .cases h
 .rename_i n
  split at h
  .rename_i ho;cases h;exact⟨_,sI hg,_,rfl,(hx.drop o).take n⟩
  .cases h
theorem pD {s:TypeId} {f:Nat} {x y:AT} {v:Value} (hx:x.is K c v) (h:oB P s x f=some y):∃r,(Instr.field s v f).run P w=.ok r w/\y.is K c r:=by
 unfold oB at h
 split at h
 .rename_i rs o g hf;obtain⟨vs,rfl,hvs⟩:=hx;unfold adb at hf
  split at hf
  .rename_i fs hu
   split at hf
   .rename_i fd hfd
    split at hf
    .rename_i g2 hg;simp only[Option.some.injEq,Prod.mk.injEq]at hf;obtain⟨rfl,rfl⟩:=hf;obtain⟨r,r1,r2⟩:=kM (P:=P) (w:=w) (e:=fd.type) hvs hg h;refine⟨r,?_,r2⟩;simp only[Instr.field,Sem.run_bind,run_underlying hu,Result.andThen_ok,hfd,asAgg,Sem.run_pure,r1]
    .cases hf
   .cases hf
  .cases hf
 .cases h
theorem oO {t:TypeId} {x i y:AT} {v u:Value} {ps:List Prop} (hx:x.is K c v) (hi:i.is K c u) (h:ov P t x i=some (ps,y)) (hp:bC ps):∃r,(Instr.index t v u).run P w=.ok r w/\y.is K c r:=by
 unfold ov at h
 split at h
 .rename_i rs k a b z;obtain⟨vs,rfl,hvs⟩:=hx;obtain⟨rfl,z1,z2,-⟩:=is_I.1 hi
  split at h
  .rename_i n g m ha
   obtain⟨e,hu,hg,hs⟩:∃e,P.underlying t=some (.array n e)/\pX P e=some g/\(P.info? e).map (·.size)=some m:=by
    unfold arK at ha
    split at ha
    .rename_i n2 e hu
     split at ha
     .rename_i g2 i2 hg hi2;simp only[Option.some.injEq,Prod.mk.injEq]at ha;obtain⟨rfl,rfl,rfl⟩:=ha;exact⟨e,hu,hg,by rw[hi2];rfl⟩
     .cases ha
    .cases ha
   have fin:∀r,0<=z->z<(n:Int)->(part e vs.toArray (z.toNat*m)).run P w=.ok r w->(Instr.index t (.agg vs.toArray) (.int k z)).run P w=.ok r w:=λr b1 b2 hr=>by simp only[Instr.index,asIntOf,Sem.run_bind,Sem.run_pure,Result.andThen_ok,run_underlying hu,b1,b2,and_self,if_true,gT hs,hr]
   split at h
   .rename_i hab;have hab:=ieq_iff.1 hab
    split at h
    .rename_i y' hb hy;rw[both_iff]at hb;have h0:=ile_iff.1 hb.1;have h2:=cQ hb.2;cases h;have hz:a=z:=ac;subst hz;obtain⟨r,r1,r2⟩:=kM (P:=P) (w:=w) (e:=e) hvs hg hy;exact⟨r,fin r h0 ac r1,r2⟩
    .cases h
   .split at h
    .split at h
     .rename_i A hm hA;have hm:=beq_iff'.1 hm;subst hm;cases h;obtain⟨i1,i2⟩:=lZ z1 z2 (Nat.le_refl n) hp;obtain⟨q1,q2⟩:=dc hA hvs;obtain⟨r1,r2,r3,r4⟩:=q2 z.toNat ac;exact⟨_,fin _ i1 i2 (mT hg (by rw[Nat.mul_one];exact r1)),is_I.2 ⟨rfl,r2,r3,r4⟩⟩
     .rename_i hm _;have hm:=beq_iff'.1 hm;subst hm
      split at h
      .rename_i bs hbs;cases h;obtain⟨i1,i2⟩:=lZ z1 z2 (Nat.le_refl n) hp;obtain⟨-,q1,q2⟩:=ig hbs hvs;exact⟨_,fin _ i1 i2 (mT hg (by rw[Nat.mul_one];exact q2 z.toNat ac)),is_B.2 ⟨rfl,λ_=>rfl,λ_=>rfl⟩⟩
      .cases h
     .cases h
    .rename_i s
     split at h
     .rename_i A hm hA;have hm:=beq_iff'.1 hm;subst hm;cases h;obtain⟨i1,i2⟩:=lZ z1 z2 (Nat.le_refl n) hp;obtain⟨q1,q2⟩:=dc hA hvs;have q1:n*m<=vs.length:=q1;have hzm:=eI (m:=m) (show z.toNat<n by omega)
      refine⟨_,fin _ i1 i2 (sI hg),_,rfl,RsOk.ints (by rw[List.length_take,List.length_drop];omega) λi hi=>?_⟩
      rw[List.getElem?_take,if_pos hi,List.getElem?_drop,Nat.add_comm];exact q2 (i+z.toNat*m) (show _<n*m by omega)
     .cases h
  .cases h
 .rename_i s k a b z;obtain⟨rfl,-⟩:=is_K.1 hx;obtain⟨rfl,z1,z2,-⟩:=is_I.1 hi
  split at h
  .rename_i hu;cases h;obtain⟨i1,i2⟩:=lZ z1 z2 (Nat.le_refl s.size) hp;have hlt:z.toNat<s.size:=ac;have hq:s[z.toNat]? = some (s[z.toNat]'hlt):=by rw[getElem?_pos s z.toNat hlt]
   have fin:(Instr.index t (.string s) (.int k z)).run P w=.ok (.int .u8 ((s[z.toNat]'hlt).toNat:Int)) w:=by simp[Instr.index,asIntOf,run_underlying hu,i1,hq]
   have hb:=(s[z.toNat]'hlt).toNat_lt;have e1:yr s z=((s[z.toNat]'hlt).toNat:Int):=by unfold yr;rw[hq]
   refine⟨_,fin,?_⟩;rw[<-e1];refine jp ?_ ?_ ⟨by rw[e1];show(0:Int)<=_;omega,by rw[e1];show _<=(255:Int);omega⟩
   .split
    .rename_i hab;have:=ieq_iff.1 hab;rw[show z=a by omega];exact Int.le_refl _
    .rw[e1];omega
   .split
    .rename_i hab;have:=ieq_iff.1 hab;rw[show z=a by omega];exact Int.le_refl _
    .rw[e1];omega
  .cases h
 .cases h
theorem qc:∀(l:List AS) (n:Nat),oZ l n=l[n]?
 |[],n=>by simp[oZ]
 |b::l,0=>rfl
 |b::l,n+1=>by rw[oZ];simp only[List.getElem?_cons_succ];exact qc l n
theorem afy {x y:AT} {i:Nat} {v:Value} (hx:x.is K c v) (h:iZ x i=some y):∃r,(Instr.extract v i).run P w=.ok r w/\y.is K c r:=by
 unfold iZ at h
 split at h
 .rename_i l;obtain⟨vs,rfl,hl,hvs⟩:=hx;rw[qc]at h
  split at h
  .rename_i s hs;cases h;have hi:=(List.getElem?_eq_some_iff.1 hs).1;have hv:vs[i]? = some (vs[i]'(ac)):=List.getElem?_eq_getElem _;refine⟨_,?_,hvs i s _ hs hv⟩
   simp[Instr.extract,hv]
  .cases h
 .cases h
def JG (a b n:Nat):AT:=.tX (.sO (mkI .i64 (Int.ofNat a) (Int.ofNat b) (n:Int)))
def W9 (v:Value):Bool:=PE (.slice none 0 0) v
def yT (P:Program) (t:TypeId) (x:AT):Option AT:=match P.underlying t with
 |some (.slice _)=>match x with
  |.tX (.sO (.nR _ a b n _))=>some (JG a b n)
  |.tX (.sO (.nD _ _ a b _ n))=>some (JG a b n)
  |.tX (.sO (.nS _ _ n _))=>some (JG n n n)
  |.tX (.sO (.nK v))=>match W9 v with
   |true=>some (JG 0 0 0)
   |false=>none
  |_=>none
 |some (.array n _)=>match Nat.ble n 9223372036854775807 with
  |true=>some (JG n n n)
  |false=>none
 |some (.pointer r)=>match arT P r with
  |some (n,_)=>match Nat.ble n 9223372036854775807 with
   |true=>some (JG n n n)
   |false=>none
  |none=>none
 |some .string=>match x with
  |.tX (.sO (.nK (.string s)))=>match Nat.ble s.size 9223372036854775807 with
   |true=>some (JG s.size s.size s.size)
   |false=>none
  |_=>none
 |_=>none
theorem gW {a b n:Nat} (h1:a<=n) (h2:n<=b) (h3:n<=9223372036854775807):(JG a b n).is K c (goInt n) :=jp (Int.ofNat_le.2 h1) (Int.ofNat_le.2 h2) ⟨by simp only[low];omega,by simp only[top];omega⟩
theorem vI {t ty:TypeId} {x y:AT} {v:Value} (hx:x.is K c v) (h:yT P t x=some y):∃r,(Builtin.len_ #[t] ty #[v]).run P w=.ok r w/\y.is K c r:=by
 have hmx:maxLen=9223372036854775807:=afH;unfold yT at h
 split at h
 .rename_i e hu
  split at h
  .cases h;obtain⟨A,m,rfl,g1,g2,g3,g4,-⟩:=is_R.1 hx;exact⟨goInt _,by simp[Builtin.len_,run_underlying hu],gW g1 g2 ac⟩
  .cases h;obtain⟨id,m,-,rfl,g1,g2,g3,g4,-⟩:=is_D.1 hx;exact⟨goInt _,by simp[Builtin.len_,run_underlying hu],gW g1 g2 ac⟩
  .cases h;obtain⟨id,hj,rfl,g1,g2⟩:=is_S.1 hx;exact⟨goInt _,by simp[Builtin.len_,run_underlying hu],gW (Nat.le_refl _) (Nat.le_refl _) ac⟩
  .split at h
   .rename_i e;have e:=dG e;cases h;obtain⟨rfl,-⟩:=is_K.1 hx;subst e;exact⟨goInt 0,by simp[Builtin.len_,run_underlying hu],gW (Nat.le_refl _) (Nat.le_refl _) (Nat.zero_le _)⟩
   .cases h
  .cases h
 .rename_i n e hu
  split at h
  .rename_i hb;have hb:=ble_iff.1 hb;cases h;exact⟨goInt n,by simp[Builtin.len_,run_underlying hu],gW (Nat.le_refl _) (Nat.le_refl _) hb⟩
  .cases h
 .rename_i r hu
  split at h
  .rename_i n sz ha
   split at h
   .rename_i hb;have hb:=ble_iff.1 hb;cases h;obtain⟨e,hu2,-⟩:=gC ha;exact⟨goInt n,by simp[Builtin.len_,run_underlying hu,run_underlying hu2],gW (Nat.le_refl _) (Nat.le_refl _) hb⟩
   .cases h
  .cases h
 .rename_i hu
  split at h
  .rename_i s
   split at h
   .rename_i hb;have hb:=ble_iff.1 hb;cases h;obtain⟨rfl,-⟩:=is_K.1 hx;exact⟨goInt s.size,by simp[Builtin.len_,run_underlying hu],gW (Nat.le_refl _) (Nat.le_refl _) hb⟩
   .cases h
  .cases h
 .cases h
def mU (f:Int->Int->Int) (F:Int->Int->Int) (k:IntKind) (a b z:Int):List AT->Option AT
 |[]=>some (.tX (.sO (mkI k a b z)))
 |x::l=>match x with
  |.tX (.sO (.nI k' a' b' z'))=>match ik k k' with
   |true=>mU f F k (f a a') (f b b') (F z z') l
   |false=>none
  |_=>none
def fV (f:Int->Int->Int) (F:Int->Int->Int) (l:List AT):Option AT:=match l with
 |.tX (.sO (.nI k a b z))::l=>mU f F k a b z l
 |_=>none
def allAt (K:KT) (c:Cx) (l:List AT) (vs:List Value):Prop:=l.length=vs.length/\∀(i:Nat) (s:AT) (v:Value),l[i]? = some s->vs[i]? = some v->s.is K c v
theorem allAt_cons {s:AT} {l:List AT} {v:Value} {vs:List Value}:allAt K c (s::l) (v::vs)↔s.is K c v/\allAt K c l vs:=by
 constructor
 .rintro⟨h1,h2⟩;exact⟨h2 0 _ _ rfl rfl,by simpa using h1,λi s v h3 h4=>h2 (i+1) s v (by simpa using h3) (by simpa using h4)⟩
 .rintro⟨h1,h2,h3⟩;refine⟨by simp[h2],λi s v h4 h5=>?_⟩
  cases i with
  |zero=>simp only[List.getElem?_cons_zero,Option.some.injEq]at h4 h5;subst h4 h5;exact h1
  |succ i=>exact h3 i s v (by simpa using h4) (by simpa using h5)
theorem gI {f F:Int->Int->Int} {g:Value->Value->Sem Value} (hg:∀k k' x y,g (.int k x) (.int k' y)=pure (.int k (F x y))) (hlo:∀a a' x x':Int,a<=x->a'<=x'->f a a'<=F x x') (hhi:∀a a' x x':Int,x<=a->x'<=a'->F x x'<=f a a')
 (hin:∀k x y,inR k x->inR k y->inR k (F x y)):∀(l:List AT) (vs:List Value) (k:IntKind) (a b z:Int) (y:AT),allAt K c l vs->a<=z->z<=b->inR k z->mU f F k a b z l=some y->∃r,(vs.foldlM g (Value.int k z)).run P w=.ok r w/\y.is K c r
 |[],vs,k,a,b,z,y,h,h1,h2,h3,hy=>by
  have:vs=[]:=List.eq_nil_of_length_eq_zero (by rw[<-h.1];rfl)
  subst this;cases hy;exact⟨.int k z,by simp,jp h1 h2 h3⟩
 |x::l,[],k,a,b,z,y,h,_,_,_,_=>by have:=h.1;simp at this
 |x::l,v::vs,k,a,b,z,y,h,h1,h2,h3,hy=>by
  unfold mU at hy;rw[allAt_cons]at h
  split at hy
  .rename_i k' a' b' z'
   split at hy
   .rename_i e;have e:=dD e;subst e;obtain⟨hv,h⟩:=h;obtain⟨rfl,g1,g2,g3⟩:=is_I.1 hv;rw[List.foldlM_cons,hg,pure_bind];exact gI hg hlo hhi hin l vs k _ _ _ y h (hlo _ _ _ _ h1 g1) (hhi _ _ _ _ h2 g2) (hin _ _ _ h3 g3) hy
   .cases hy
  .cases hy
theorem Ln (x y:Int):(if y > x then y else x)=max x y:=by split<;>omega
theorem Kr (x y:Int):(if y<x then y else x)=min x y:=by split<;>omega
theorem vr {ts:Array TypeId} {ty:TypeId} {l:List AT} {vs:List Value} {y:AT} (h:allAt K c l vs) (hy:fV fc max l=some y):∃r,(Builtin.max_ ts ty vs.toArray).run P w=.ok r w/\y.is K c r:=by
 unfold fV at hy
 split at hy
 .rename_i k a b z l'
  cases vs with
  |nil=>have:=h.1;simp at this
  |cons v vs =>rw[allAt_cons]at h;obtain⟨hv,h⟩:=h;obtain⟨rfl,h1,h2,h3⟩:=is_I.1 hv;exact gI (P:=P) (F:=max) (g:=Builtin.max2) (λ_ _ x y=>by rw[<-Ln];rfl) (λa a' x x' q1 q2=>by rw[co];omega) (λa a' x x' q1 q2=>by rw[co];omega) (λk x y q1 q2=>by rw[<-Ln];split<;>assumption) l' vs k a b z y h h1 h2 h3 hy
 .cases hy
theorem vM {ts:Array TypeId} {ty:TypeId} {l:List AT} {vs:List Value} {y:AT} (h:allAt K c l vs) (hy:fV lj min l=some y):∃r,(Builtin.min_ ts ty vs.toArray).run P w=.ok r w/\y.is K c r:=by
 unfold fV at hy
 split at hy
 .rename_i k a b z l'
  cases vs with
  |nil=>have:=h.1;simp at this
  |cons v vs =>rw[allAt_cons]at h;obtain⟨hv,h⟩:=h;obtain⟨rfl,h1,h2,h3⟩:=is_I.1 hv;exact gI (P:=P) (F:=min) (g:=Builtin.min2) (λ_ _ x y=>by rw[<-Kr];rfl) (λa a' x x' q1 q2=>by rw[cD];omega) (λa a' x x' q1 q2=>by rw[cD];omega) (λk x y q1 q2=>by rw[<-Kr];split<;>assumption) l' vs k a b z y h h1 h2 h3 hy
 .cases hy
end
end Go.Proofs.YtldmjbgplgoedaaGreatDoor
