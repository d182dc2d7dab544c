import Derived.Test.YtldmjbgplgoedaaGreatDoorRp29
set_option linter.all false
namespace Go.Proofs.YtldmjbgplgoedaaGreatDoor
noncomputable section
open Go.RowKit U
def mW:List Bool->List AB->List AB->List AB
 |true::ks,a::A,m=>a::mW ks A m
 |false::ks,_::A,b::m=>b::mW ks A m
 |_,_,m=>m
def iI:List Bool->List AB->List AB->ae->ae->List AB
 |true::ks,a::A,m,v,w=>cH a v::iI ks A m (tls (nlB a) v) w
 |false::ks,a::A,b::m,v,w=>cH b w::iI ks A m (tls (nlB a) v) (tls (nlB b) w)
 |_,_,m,_,w=>an m w
def Rj:List Bool->List AB->List AB->ae->ae->ae
 |true::ks,a::A,m,v,w=>pre (nlB a) v++Rj ks A m (tls (nlB a) v) w
 |false::ks,a::A,b::m,v,w=>pre (nlB b) w++Rj ks A m (tls (nlB a) v) (tls (nlB b) w)
 |_,_,_,_,w=>w
def X6:List Bool->List AB->List AB->ae->ae
 |true::ks,a::A,m,t=>X6 ks A m (tls (nlB a) t)
 |false::ks,_::A,b::m,t=>pre (nlB b) t++X6 ks A m (tls (nlB b) t)
 |_,_,_,t=>t
def agM (K:KT):List Bool->List AB->List AB->ae->ae->ae->Prop
 |true::ks,a::A,m,t,v,w=>agB K a t v/\agM K ks A m (tls (nlB a) t) (tls (nlB a) v) w
 |false::ks,a::A,b::m,t,v,w=>agB K b t w/\agM K ks A m (tls (nlB b) t) (tls (nlB a) v) (tls (nlB b) w)
 |_,_,m,t,_,w=>lV K m t w
def agT (K:KT):List Bool->List AB->List AB->ae->ae->Prop
 |true::ks,a::A,m,t,v=>agB K a t v/\agT K ks A m (tls (nlB a) t) (tls (nlB a) v)
 |false::ks,a::A,b::m,t,v=>agT K ks A m (tls (nlB b) t) (tls (nlB a) v)
 |_,_,_,_,_=>True
section
variable {K:KT}
theorem mX:∀(ks:List Bool) (A m:List AB) (v w:ae),an (mW ks A m) (Rj ks A m v w)=iI ks A m v w
 |[],_,_,_,_=>rfl
 |true::ks,[],m,v,w=>rfl
 |true::ks,a::A,m,v,w=>by show cH a (pre (nlB a) v++_)::an (mW ks A m) (tls (nlB a) (pre (nlB a) v++_))=_;rw[kV,bP,mX ks];rfl
 |false::ks,[],m,v,w=>rfl
 |false::ks,_::A,[],v,w=>rfl
 |false::ks,a::A,b::m,v,w=>by show cH b (pre (nlB b) w++_)::an (mW ks A m) (tls (nlB b) (pre (nlB b) w++_))=_;rw[kV,bP,mX ks];rfl
theorem y9:∀ {ks:List Bool} {A m:List AB} {t v w:ae},agM K ks A m t v w->lV K (mW ks A m) t (Rj ks A m v w)
 |[],_,_,_,_,_,h=>h
 |true::ks,[],m,_,_,_,h=>h
 |true::ks,a::A,m,t,v,w,h=>by show agB K a t (pre (nlB a) v++_)/\lV K (mW ks A m) _ (tls (nlB a) (pre (nlB a) v++_));rw[bP];exact⟨ot h.1,y9 h.2⟩
 |false::ks,[],m,_,_,_,h=>h
 |false::ks,_::A,[],_,_,_,h=>h
 |false::ks,a::A,b::m,t,v,w,h=>by show agB K b t (pre (nlB b) w++_)/\lV K (mW ks A m) _ (tls (nlB b) (pre (nlB b) w++_));rw[bP];exact⟨ot h.1,y9 h.2⟩
theorem agx (b:AB) (l:ae):agB K b l l:=(bI [b] l).1
theorem zo {b:AB} {l x:ae}:agB K b l (pre (nlB b) l++x):=ot (agx b l)
theorem zF:∀ {ks:List Bool} {A m:List AB} {t v:ae},agT K ks A m t v->agM K ks A m t v (X6 ks A m t)
 |[],_,_,_,_,_=>bI _ _
 |true::ks,[],m,_,_,_=>bI _ _
 |true::ks,a::A,m,t,v,h=>⟨h.1,zF h.2⟩
 |false::ks,[],m,_,_,_=>bI _ _
 |false::ks,_::A,[],_,_,_=>bI _ _
 |false::ks,a::A,b::m,t,v,h=>by show agB K b t (pre (nlB b) t++_)/\agM K ks A m _ _ (tls (nlB b) (pre (nlB b) t++_));rw[bP];exact⟨zo,zF h⟩
end
def CK (f:FuncId) (args:List AT) (mem:List AB) (ks:List Bool) (sk:List AS) (msk:List AB) (Pr:ae->Prop) (W:ae->ae):CT:=⟨f,args,mem,λJ=>.vc (Pr J) (.done (.val (iI ks mem msk (tls (aG args) J) (tls (nlL sk) (W J))) (wg (cF sk (W J)))))⟩
def qS (K:KT) (ks:List Bool) (A:List AB) (sk:List AS) (msk:List AB) (v W l:ae):Prop:=(hd l).Z=0/\agL K sk (tl l) W/\agM K ks A msk (tls (nlL sk) (tl l)) v (tls (nlL sk) W)
section
variable {P:Program} {K:KT} {G:GT} {M:List (TypeId × Nat)}
theorem SG {ks:List Bool} {A:List AB} {sk:List AS} {msk:List AB} {v W l:ae} {Q:Lv->Prop} (h:qS K ks A sk msk v W l) (hQ:Q (.val (iI ks A msk v (tls (nlL sk) W)) (wg (cF sk W)))):upW K [⟨sk,mW ks A msk⟩] Q l:=by
 obtain⟨h1,h2,h3⟩:=h;refine Oz (l':=pre (nlL sk) W++Rj ks A msk v (tls (nlL sk) W)) h1 ⟨mu h2,?_⟩ ?_
 .show lV K (mW ks A msk) (tls (nlL sk) (tl l)) (tls (nlL sk) _);rw[bP];exact y9 h3
 .unfold uu;simp only[ky,bP,mX];exact hQ
theorem Sv {tb:List CT} {FT:List FI} (hT:TOk P K G tb FT) (n:Nat) {fi:FI} (hc:aS P fi.f) (hf:P.funcs[fi.f]? = some fi.fn) {args:List AT} {mem:List AB} (ks:List Bool) {sk:List AS} {msk:List AB} {Pr:ae->Prop} {W:ae->ae} (d:Nat)
 (hr:∀J,kj (aY (au args J) (an mem (tls (aG args) J))) (l6 0 mem.length)=true)
 (h:∀(J:ae),bTs K d (au args J)->bBs K d (an mem (tls (aG args) J))->Pr J->Sa (VG [⟨sk,mW ks mem msk⟩] (gR P ⟨K,G,M,inl P K G M tb FT n⟩ fi (au args J) (an mem (tls (aG args) J)))) (qS K ks mem sk msk (tls (aG args) J) (W J))):cV K P G (CK fi.f args mem ks sk msk Pr W) :=
 xO hT n hc hf d [⟨sk,mW ks mem msk⟩] hr λJ Q b1 b2 ⟨hP,hQ⟩=>dg (λl hl=>SG hl hQ) (h J b1 b2 hP).out
def gO (ks:List Bool) (A:List AB) (sk:List AS) (msk:List AB) (l:ae):ae:=pre (nlL sk) (tl l)++X6 ks A msk (tls (nlL sk) (tl l))
theorem acq {tb:List CT} {FT:List FI} (hT:TOk P K G tb FT) (n:Nat) {fi:FI} (hc:aS P fi.f) (hf:P.funcs[fi.f]? = some fi.fn) {args:List AT} {mem:List AB} (ks:List Bool) {sk:List AS} {msk:List AB} {Pr:ae->Prop} {Q:ae->ae->Prop} (d:Nat)
 (hr:∀J,kj (aY (au args J) (an mem (tls (aG args) J))) (l6 0 mem.length)=true)
 (h:∀(J:ae),bTs K d (au args J)->bBs K d (an mem (tls (aG args) J))->Pr J->Sa1 (VG [⟨sk,mW ks mem msk⟩] (gR P ⟨K,G,M,inl P K G M tb FT n⟩ fi (au args J) (an mem (tls (aG args) J)))) (λl=>(hd l).Z=0/\agT K ks mem msk (tls (nlL sk) (tl l)) (tls (aG args) J)/\Q J (gO ks mem sk msk l))):cV K P G (CK fi.f args mem ks sk msk Pr λJ=>gO ks mem sk msk (evW (VG [⟨sk,mW ks mem msk⟩] (gR P ⟨K,G,M,inl P K G M tb FT n⟩ fi (au args J) (an mem (tls (aG args) J)))))) :=
 Sv hT n hc hf ks d hr λJ b1 b2 hP=>⟨dg (λl ⟨h1,h2⟩=>⟨h2.1,by rw[h1];exact Bp,by rw[<-h1];unfold gO;rw[bP];exact zF h2.2.1⟩) (T.sat1_W (h J b1 b2 hP).out)⟩
end
abbrev PFk (s:SP) (ks:List Bool) (S:List AB) (P:ae->Prop) (W:ae->ae):Prop:=∀J,bTs KX 1 (au s.A J)->bBs KX 1 (an s.M (tls (aG s.A) J))->P J->Sa (TS s J) (qS KX ks s.M s.Y.sk S (tls (aG s.A) J) (W J))
abbrev Ck (s:SP) (ks:List Bool) (S:List AB) (P:ae->Prop) (W:ae->ae):CT:=CK s.i.f s.A s.M ks s.Y.sk S P W
theorem CXk (s:SP) {ks:List Bool} {sk:List AS} {S S':List AB} {P:ae->Prop} {W:ae->ae} (O:TOk Tryz.prog KX GX s.b s.t) (pf:∀J,bTs KX 1 (au s.A J)->bBs KX 1 (an s.M (tls (aG s.A) J))->P J->Sa (TS s J) (qS KX ks s.M sk S' (tls (aG s.A) J) (W J))) (e:(⟨sk,mW ks s.M S⟩:Wy)=s.Y:=by kernel_rfl) (eS:S'=S:=by kernel_rfl) (h1:aS Tryz.prog s.i.f:=by intro _ _;kernel_rfl) (h2:Tryz.prog.funcs[s.i.f]? = some s.i.fn:=by kernel_rfl) (h3:∀J,kj (aY (au s.A J) (an s.M (tls (aG s.A) J))) (l6 0 s.M.length)=true:=by intro _;kernel_rfl):CO (CK s.i.f s.A s.M ks sk S P W) :=Sv (M:=MX) O 8 h1 h2 ks 1 h3 λJ b1 b2 b3=>by have h:=pf J b1 b2 b3;unfold TS TT at h;subst eS;rw[e];exact h
theorem CXe (s:SP) {ks:List Bool} {sk:List AS} {S S':List AB} {P:ae->Prop} {Q:ae->ae->Prop} {W:ae->ae} (O:TOk Tryz.prog KX GX s.b s.t) (pf:∀J,bTs KX 1 (au s.A J)->bBs KX 1 (an s.M (tls (aG s.A) J))->P J->Sa1 (TS s J) (λl=>(hd l).Z=0/\agT KX ks s.M S' (tls (nlL sk) (tl l)) (tls (aG s.A) J)/\Q J (gO ks s.M sk S' l))) (e:(⟨sk,mW ks s.M S⟩:Wy)=s.Y:=by kernel_rfl) (eS:S'=S:=by kernel_rfl) (eW:W=(λJ=>gO ks s.M sk S (evW (TS s J))):=by kernel_rfl) (h1:aS Tryz.prog s.i.f:=by intro _ _;kernel_rfl) (h2:Tryz.prog.funcs[s.i.f]? = some s.i.fn:=by kernel_rfl) (h3:∀J,kj (aY (au s.A J) (an s.M (tls (aG s.A) J))) (l6 0 s.M.length)=true:=by intro _;kernel_rfl):CO (CK s.i.f s.A s.M ks sk S P W):=by
 subst eS eW;unfold TS TT;rw[<-e]
 exact acq (M:=MX) (Q:=Q) O 8 h1 h2 ks 1 h3 λJ b1 b2 b3=>by have h:=pf J b1 b2 b3;unfold TS TT at h;rw[e];exact h
end
end Go.Proofs.YtldmjbgplgoedaaGreatDoor
namespace Go.Proofs.YtldmjbgplgoedaaGreatDoor
noncomputable section
open Go.RowKit U
def wx (J:ae) (a b c:Nat):ae:=[.s (J a).O (J a).N,.i (J b).Z,.l (J c).N (J c).G]
def hlZ (J:ae) (o:Nat):Bool:=(J o).Z==1||!((!(J (o+15)).X)&&((!(J (o+16)).X)&&((!(J (o+17)).X)&&((!(J (o+18)).X)&&((!(J (o+19)).X)&&(!(J (o+20)).X))))))
def pA (_:ae):Prop:=True
def j9 (J:ae):ae:=[.b (hlZ J 0)]
abbrev FL:SP:=mkS ⟨[bm],[.run 127 sMA]⟩ 311 Tryz.f311 [tXO (.nP 0 0)] [.run 127 sMA] []
theorem Dx J R:TR FL J R (BR ((J 0).Z==1) (R (ak [.i 0,.b true] (cw J 0 22 k0))) (R (ak [.i 0,.b (!((!(J 15).X)&&((!(J 16).X)&&((!(J 17).X)&&((!(J 18).X)&&((!(J 19).X)&&(!(J 20).X)))))))] (cw J 0 22 k0)))):=af
theorem Xx:PFk FL [true] [] pA j9:=λJ b1 b2 hp=>⟨by
 rw[Dx];have e:j9 J=[.b (hlZ J 0)]:=rfl;unfold hlZ at e;rw[e];refine br_ (λq=>?_) λq=>?_
 .rw[q];exact⟨rfl,⟨rfl,ah⟩,ay af,ah⟩
 .rw[q];exact⟨rfl,⟨rfl,ah⟩,ay af,ah⟩⟩
abbrev aeO:List AB:=[]
abbrev Ny:CT:=Ck FL [true] aeO pA j9
theorem md:CO Ny:=CXk FL (TX trivial ah) Xx
def FA (J:ae):ae:=[.b ((J 2).X&&(J 1).Z==3)]
abbrev Mj:SP:=mkS ⟨[bm],[]⟩ 303 Tryz.f303 [.tX (.sA VC)] [] []
theorem GS J R:TR Mj J R (BR ((J 2).X) (R [.i 0,.b ((J 1).Z==3)]) (R [.i 0,.b false])):=af
theorem Xg:PF0 Mj FA:=λJ b1 b2=>⟨by
 rw[GS];unfold FA;refine br_ (λq=>?_) λq=>?_
 .rw[q];exact aT rfl rfl
 .rw[q];exact aT rfl rfl⟩
abbrev Tz:CT:=C0 Mj FA
theorem uv:CO Tz:=CX0 (TX trivial ah) Xg
def Yp (_:ae):Prop:=True
def NQ (J:ae):ae:=[.b ((J 7).X||(J 1).Z !=3)]
abbrev Ca:SP:=mkS ⟨[bm],[.run 127 sMA]⟩ 333 Tryz.f333 [.tX (.sA VC),tXO (.nP 0 0)] [.run 127 sMA] [] [] [(aw 249 Tryz.f249)]
theorem DM J R:TR Ca J R (BR ((J 7).X) (R (ak [.i 0,.b true] (cw J 4 22 k0))) (R (ak [.i 0,.b ((J 1).Z !=3)] (cw J 4 22 k0)))):=af
theorem Vz:PFk Ca [true] [] Yp NQ:=λJ b1 b2 hp=>⟨by
 rw[DM];unfold NQ;refine br_ (λq=>?_) λq=>?_
 .rw[q];exact⟨rfl,⟨rfl,ah⟩,ay af,ah⟩
 .rw[q];exact⟨rfl,⟨rfl,ah⟩,ay af,ah⟩⟩
abbrev afe:List AB:=[]
abbrev aaZ:CT:=Ck Ca [true] afe Yp NQ
theorem Kz:CO aaZ:=CXk Ca (TX trivial (FK ah)) Vz
def Yw (_:ae):Prop:=True
def FU (J:ae):ae:=[.i (bif (J 3).X then 2 else 1)]
abbrev Em:SP:=mkS ⟨[aD 1 2],[.run 127 sMA]⟩ 305 Tryz.f305 [tXO (.nP 0 0)] [.run 127 sMA] []
theorem BM J R:TR Em J R (BR ((J 3).X) (R (ak [.i 0,.i 2] (cw J 0 22 k0))) (R (ak [.i 0,.i 1] (cw J 0 22 k0)))):=af
theorem XK:PFk Em [true] [] Yw FU:=λJ b1 b2 hp=>⟨by
 rw[BM];unfold FU;refine br_ (λq=>?_) λq=>?_
 .rw[q];exact⟨rfl,⟨rfl,ah⟩,ay af,ah⟩
 .rw[q];exact⟨rfl,⟨rfl,ah⟩,ay af,ah⟩⟩
abbrev afi:List AB:=[]
abbrev Z0:CT:=Ck Em [true] afi Yw FU
theorem K3:CO Z0:=CXk Em (TX trivial ah) XK
def cdF (b:Bool):Cd:=[(bif b then 1 else 0,1)]
theorem YD {v:Int} (h0:0<=v) (h1:v<=1):v / pw 1=0:=Int.ediv_eq_zero_of_lt h0 (by unfold pw;show v<2;omega)
def Ow (J:ae):Prop:=WrP (wx J 11 12 35) 0 1
def qQ (J:ae):ae:=wrA (wx J 11 12 35) 0 (cdF (J 0).X)
abbrev lE:SP:=mkS ⟨[],[.run 351 Sc,.run 349 Y2,.run 127 sMA,.dead,.dyn 5 0 0 1000000 0 g0 false]⟩ 332 Tryz.f332 [tXO (.nP 0 0),aN] [.run 351 Sc,.run 349 uX,.run 127 sMA,.dyn 5 0 0 1000000 0 g0 false] [] [yc] [] (.tT []) [3]
theorem CE J R:TR lE J R (BR ((J 0).X) (let x0:ae:=[.i 1,.i 1,.s (J 11).O (J 11).N,.i (J 12).Z,.l (J 35).N (J 35).G];(jA x0)/\let x1:ae:=jc x0;R (ak (ak [.i 0] (ak (cw J 1 10 304386649) [.s (x1 1).O (x1 1).N,.i (x1 2).Z])) (ak (cw J 13 22 k0) [.l (x1 3).N (x1 3).G]))) (let x2:ae:=[.i 0,.i 1,.s (J 11).O (J 11).N,.i (J 12).Z,.l (J 35).N (J 35).G];(jA x2)/\let x3:ae:=jc x2;R (ak (ak [.i 0] (ak (cw J 1 10 304386649) [.s (x3 1).O (x3 1).N,.i (x3 2).Z])) (ak (cw J 13 22 k0) [.l (x3 3).N (x3 3).G])))):=af
theorem V4:∀J,bTs KX 1 (au lE.A J)->bBs KX 1 (an lE.M (tls (aG lE.A) J))->Ow J->Sa (TS lE J) (qS KX [true,false,true,false] lE.M lE.Y.sk [.run 349 [.c (.nD 4 0 0 1000000 0 0),am 0 8000000],.dead,.dyn 5 0 0 1000000 0 g0 false] (tls (aG lE.A) J) (qQ J)):=λJ b1 b2 hp=>⟨by
 rw[CE];unfold qQ;have hp:WrP (wx J 11 12 35) 0 1:=hp;refine br_ (λq=>?_) λq=>?_
 .rw[q];refine⟨⟨YD (v:=1) afH afH,hp⟩,?_⟩;refine⟨rfl,ah,ay af,ay af,ay af,ah,⟨af,λ_ _=>af⟩,ah⟩
 .rw[q];refine⟨⟨YD (v:=0) afH afH,hp⟩,?_⟩;refine⟨rfl,ah,ay af,ay af,ay af,ah,⟨af,λ_ _=>af⟩,ah⟩⟩
abbrev ae5:List AB:=[.run 349 Y2,.dead,.dyn 5 0 0 1000000 0 g0 false]
abbrev Yu:CT:=Ck lE [true,false,true,false] ae5 Ow qQ
theorem zE:CO Yu:=CXk lE (TX ⟨gx,ah⟩ ah) V4
def Pk (_:ae):Prop:=True
def af7 (J:ae):ae:=wrC (λ_=>0) 0 (cdF (J 0).X)
abbrev gq:SP:=mkS ⟨[],[.run 351 Sc,.run 349 uX,.run 127 sMA,.dyn 5 0 0 1000000 0 g0 false]⟩ 332 Tryz.f332 [tXO (.nP 0 0),aN] [.run 351 Sc,.run 349 ad3,.run 127 sMA] [] [vL]
theorem xj J R:TR gq J R (BR ((J 0).X) (let x0:ae:=[.i 1,.i 1,.i (J 11).Z];BR (Jd x0) ((iy x0)/\let x1:ae:=iw x0;False) ((g8 x0)/\let x1:ae:=fK x0;R (ak (ak [.i 0] (ak (cw J 1 10 304386649) [.s (x1 1).O (x1 1).N,.i (x1 2).Z])) (ak (cw J 12 22 k0) [.l (x1 3).N (x1 3).G])))) (let x2:ae:=[.i 0,.i 1,.i (J 11).Z];BR (Jd x2) ((iy x2)/\let x3:ae:=iw x2;False) ((g8 x2)/\let x3:ae:=fK x2;R (ak (ak [.i 0] (ak (cw J 1 10 304386649) [.s (x3 1).O (x3 1).N,.i (x3 2).Z])) (ak (cw J 12 22 k0) [.l (x3 3).N (x3 3).G]))))):=af
theorem ME:∀J,bTs KX 1 (au gq.A J)->bBs KX 1 (an gq.M (tls (aG gq.A) J))->Pk J->Sa (TS gq J) (qS KX [true,false,true] gq.M gq.Y.sk [.run 349 [.c (.nD 3 0 0 1000000 0 0),am 0 8000000],.dyn 5 0 0 1000000 0 g0 false] (tls (aG gq.A) J) (af7 J)):=λJ b1 b2 hp=>⟨by
 rw[xj];unfold af7;refine br_ (λq=>?_) λq=>?_
 .rw[q];refine br_ (λq1=>?_) λq1=>⟨YD (v:=1) afH afH,?_⟩
  .cases q1
  .refine⟨rfl,ah,ay af,ay af,ay af,⟨af,λ_ _=>af⟩,ah⟩
 .rw[q];refine br_ (λq1=>?_) λq1=>⟨YD (v:=0) afH afH,?_⟩
  .cases q1
  .refine⟨rfl,ah,ay af,ay af,ay af,⟨af,λ_ _=>af⟩,ah⟩⟩
abbrev ZF:List AB:=[.run 349 uX,.dyn 5 0 0 1000000 0 g0 false]
abbrev yC:CT:=Ck gq [true,false,true] ZF Pk af7
theorem m9:CO yC:=CXk gq (TX ⟨putN_ct,ah⟩ ah) ME
def kdZ (J:ae) (o:Nat):Int:=bif (J o).Z==1 then(bif (J 6).Z==2 then 3 else 7)else bif (J o).Z==2 then(bif (J (o+1)).X&&!(J (o+2)).X then(bif hlZ J o then 2 else 1)else bif (!(J (o+1)).X)&&(J (o+2)).X then(bif hlZ J o then 4 else 3)else(bif hlZ J o then 6 else 5))else 0
theorem Vh {J:ae} {o:Nat}:0<=kdZ J o/\kdZ J o<=7:=by unfold kdZ;generalize ((J o).Z==1)=a;generalize ((J 6).Z==2)=b;generalize ((J o).Z==2)=c;generalize (J (o+1)).X=d;generalize (J (o+2)).X=e;generalize hlZ J o=f;cases a<;>cases b<;>cases c<;>cases d<;>cases e<;>cases f<;>decide
theorem WrH.ag {l:ae} {o n:Nat} {B:Nat->Int} {c:Cd} (h:WrH l o B n c):mL KX [.c (.nD 0 0 0 0 0 0),am 0 0] (tls o l) (wrC B n c)/\lV KX [.dyn 5 0 0 1000000 0 g0 false] (tls (o+2) l) (tls 2 (wrC B n c)):=by
 have e0:hd (tls o l)=l o:=de o l 0;have e1:hd (tl (tls o l))=l (o+1):=de o l 1;have e2:hd (tls (o+2) l)=l (o+2):=de (o+2) l 0;refine⟨⟨⟨?_,?_⟩,?_,ah⟩,⟨?_,λi hi=>?_⟩,ah⟩
 .rw[e0];exact h.O
 .rw[e0];exact h.N
 .rw[e1];exact h.Z
 .rw[e2];exact h.L
 .rw[e2]at hi ⊢;show[Run.c (AV.nI .u8 0 255 (((l (o+2)).G i) 0).Z)]=[Run.c (AV.nI .u8 0 255 (jj (cdB B n c) (n+cdN c) i))];rw[h.P.2 i (by rw[<-h.L];exact hi)]
def ee (J:ae) (o:Nat):Cd:=bif (J 6).Z==1 then[] else cdU (kdZ J o)
def kdP (J:ae):Prop:=WrP (wx J 10 11 34) 0 31
def kdW (J:ae):ae:=wrA (wx J 10 11 34) 0 (ee J 12)
abbrev AW:SP:=mkS ⟨[],[.run 351 Sc,.run 349 Y2,.run 127 sMA,.dead,.dyn 5 0 0 1000000 0 g0 false]⟩ 269 Tryz.f269 [tXO (.nP 0 0)] [.run 351 Sc,.run 349 uX,.run 127 sMA,.dyn 5 0 0 1000000 0 g0 false] [(30000,.head ⟨[(0,tXO (.nP 0 0)),(2,aj 0 7)],[.run 351 Sc,.run 349 Y2,.run 127 sMA,.dead,.dyn 5 0 0 1000000 0 g0 false],[3]⟩)] [Ny,puC] [] (.tT []) [3]
theorem M8 J R:TR AW J R ((((J 6).Z==1)->R (ak [.i 0] (cw J 0 35 k2)))/\(((J 6).Z==1)=false->∃J0:ae->Prop,((((J 12).Z==1)->(((J 6).Z==2)->J0 (ak [.i 3] (cw J 0 35 k2)))/\(((J 6).Z==2)=false->(((J 12).Z==1)->J0 (ak [.i 7] (cw J 0 35 k2)))/\(((J 12).Z==1)=false->(((J 12).Z==2)->(((J 13).X&&(!(J 14).X))->let x0:ae:=(cw J 12 22 k0);(pA x0)/\let x1:ae:=j9 x0;((x1 0).X->J0 (ak [.i 2] (cw J 0 35 k2)))/\((x1 0).X=false->J0 (ak [.i 1] (cw J 0 35 k2))))/\(((J 13).X&&(!(J 14).X))=false->(((!(J 13).X)&&(J 14).X)->let x0:ae:=(cw J 12 22 k0);(pA x0)/\let x1:ae:=j9 x0;((x1 0).X->J0 (ak [.i 4] (cw J 0 35 k2)))/\((x1 0).X=false->J0 (ak [.i 3] (cw J 0 35 k2))))/\(((!(J 13).X)&&(J 14).X)=false->let x0:ae:=(cw J 12 22 k0);(pA x0)/\let x1:ae:=j9 x0;((x1 0).X->J0 (ak [.i 6] (cw J 0 35 k2)))/\((x1 0).X=false->J0 (ak [.i 5] (cw J 0 35 k2))))))/\(((J 12).Z==2)=false->J0 (ak [.i 0] (cw J 0 35 k2))))))/\(((J 12).Z==1)=false->(((J 12).Z==1)->J0 (ak [.i 7] (cw J 0 35 k2)))/\(((J 12).Z==1)=false->(((J 12).Z==2)->(((J 13).X&&(!(J 14).X))->let x0:ae:=(cw J 12 22 k0);(pA x0)/\let x1:ae:=j9 x0;((x1 0).X->J0 (ak [.i 2] (cw J 0 35 k2)))/\((x1 0).X=false->J0 (ak [.i 1] (cw J 0 35 k2))))/\(((J 13).X&&(!(J 14).X))=false->(((!(J 13).X)&&(J 14).X)->let x0:ae:=(cw J 12 22 k0);(pA x0)/\let x1:ae:=j9 x0;((x1 0).X->J0 (ak [.i 4] (cw J 0 35 k2)))/\((x1 0).X=false->J0 (ak [.i 3] (cw J 0 35 k2))))/\(((!(J 13).X)&&(J 14).X)=false->let x0:ae:=(cw J 12 22 k0);(pA x0)/\let x1:ae:=j9 x0;((x1 0).X->J0 (ak [.i 6] (cw J 0 35 k2)))/\((x1 0).X=false->J0 (ak [.i 5] (cw J 0 35 k2))))))/\(((J 12).Z==2)=false->J0 (ak [.i 0] (cw J 0 35 k2))))))/\∀j0,J0 j0->let x2:ae:=[.i (j0 0).Z,.s (j0 11).O (j0 11).N,.i (j0 12).Z,.l (j0 35).N (j0 35).G];(puP x2)/\let x3:ae:=puW x2;R (ak (ak [.i 0] (ak (cw j0 1 10 304386649) [.s (x3 1).O (x3 1).N,.i (x3 2).Z])) (ak (cw j0 13 22 k0) [.l (x3 3).N (x3 3).G])))):=af
def kdJ (J:ae) (z:Int):ae:=ak [.i z] (cw J 0 35 k2)
theorem ZT:∀J,bTs KX 1 (au AW.A J)->bBs KX 1 (an AW.M (tls (aG AW.A) J))->kdP J->Sa (TS AW J) (qS KX [true,false,true,false] AW.M AW.Y.sk [.run 349 [.c (.nD 4 0 0 1000000 0 0),am 0 8000000],.dead,.dyn 5 0 0 1000000 0 g0 false] (tls (aG AW.A) J) (kdW J)):=λJ b1 b2 hp=>⟨by
 rw[M8]
 have n1:0<=(J 11).Z:=by obtain⟨-,⟨-,⟨n1,-⟩,-⟩,-⟩:=b2;exact n1
 have hp:WrP (wx J 10 11 34) 0 31:=hp;unfold kdW ee;dsimp only;have eh:((j9 (cw J 12 22 k0)) 0).X=hlZ J 12:=af;refine br_ (λq0=>?_) λq0=>?_
 .rw[q0];have ha:=(WrH.init hp n1).ag;exact⟨rfl,ah,ay af,ha.1,ay af,ah,ha.2⟩
 rw[q0];refine⟨λj=>j=kdJ J (kdZ J 12),br_ (λq=>br_ (λq2=>(congrArg (kdJ J) (show _=kdZ J 12 by simp only[kdZ,q,q2,cond_true,cond_false]))) λq2=>br_ (λq'=>(congrArg (kdJ J) (show _=kdZ J 12 by simp only[kdZ,q,q2,cond_true,cond_false]))) λq'=>absurd (q.symm.trans q') afH) (λq=>br_ (λq'=>absurd (q.symm.trans q') afH) λq'=>br_ (λq3=>br_ (λq4=>⟨ah,br_ (λq6=>by rw[eh]at q6;exact(congrArg (kdJ J) (show _=kdZ J 12 by simp only[kdZ,q,q3,q4,q6,cond_true,cond_false]))) λq6=>by rw[eh]at q6;exact(congrArg (kdJ J) (show _=kdZ J 12 by simp only[kdZ,q,q3,q4,q6,cond_true,cond_false]))⟩) λq4=>br_ (λq5=>⟨ah,br_ (λq6=>by rw[eh]at q6;exact(congrArg (kdJ J) (show _=kdZ J 12 by simp only[kdZ,q,q3,q4,q5,q6,cond_true,cond_false]))) λq6=>by rw[eh]at q6;exact(congrArg (kdJ J) (show _=kdZ J 12 by simp only[kdZ,q,q3,q4,q5,q6,cond_true,cond_false]))⟩) λq5=>⟨ah,br_ (λq6=>by rw[eh]at q6;exact(congrArg (kdJ J) (show _=kdZ J 12 by simp only[kdZ,q,q3,q4,q5,q6,cond_true,cond_false]))) λq6=>by rw[eh]at q6;exact(congrArg (kdJ J) (show _=kdZ J 12 by simp only[kdZ,q,q3,q4,q5,q6,cond_true,cond_false]))⟩) λq3=>(congrArg (kdJ J) (show _=kdZ J 12 by simp only[kdZ,q,q3,cond_true,cond_false]))),?_⟩
 intro j0 hj;subst hj;refine⟨kmp (show WrP (wx J 10 11 34) 0 31 from hp),?_⟩;refine⟨rfl,ah,ay af,ay af,ay af,ah,⟨af,λ_ _=>af⟩,ah⟩⟩
abbrev kdS:List AB:=[.run 349 Y2,.dead,.dyn 5 0 0 1000000 0 g0 false]
abbrev kdC:CT:=Ck AW [true,false,true,false] kdS kdP kdW
theorem ZR:CO kdC:=CXk AW (TX ⟨md,EK,ah⟩ ah) ZT
def Z3 (_:ae):Prop:=True
def Y5 (J:ae):ae:=wrC (λ_=>0) 0 (cdU (kdZ J 11))
abbrev lr:SP:=mkS ⟨[],[.run 351 ZN,.run 349 uX,.run 127 sMA,.dyn 5 0 0 1000000 0 g0 false]⟩ 269 Tryz.f269 [tXO (.nP 0 0)] [.run 351 ZN,.run 349 ad3,.run 127 sMA] [(30000,.head ⟨[(0,tXO (.nP 0 0)),(2,aj 0 7)],[.run 351 ZN,.run 349 ad3,.run 127 sMA],[]⟩)] [Ny,ZX]
theorem Dd J R:TR lr J R (∃J0:ae->Prop,((((J 11).Z==1)->(((J 6).Z==2)->J0 (ak [.i 3] (cw J 0 33 k5)))/\(((J 6).Z==2)=false->(((J 11).Z==1)->J0 (ak [.i 7] (cw J 0 33 k5)))/\(((J 11).Z==1)=false->(((J 11).Z==2)->(((J 12).X&&(!(J 13).X))->let x0:ae:=(cw J 11 22 k0);(pA x0)/\let x1:ae:=j9 x0;((x1 0).X->J0 (ak [.i 2] (cw J 0 33 k5)))/\((x1 0).X=false->J0 (ak [.i 1] (cw J 0 33 k5))))/\(((J 12).X&&(!(J 13).X))=false->(((!(J 12).X)&&(J 13).X)->let x0:ae:=(cw J 11 22 k0);(pA x0)/\let x1:ae:=j9 x0;((x1 0).X->J0 (ak [.i 4] (cw J 0 33 k5)))/\((x1 0).X=false->J0 (ak [.i 3] (cw J 0 33 k5))))/\(((!(J 12).X)&&(J 13).X)=false->let x0:ae:=(cw J 11 22 k0);(pA x0)/\let x1:ae:=j9 x0;((x1 0).X->J0 (ak [.i 6] (cw J 0 33 k5)))/\((x1 0).X=false->J0 (ak [.i 5] (cw J 0 33 k5))))))/\(((J 11).Z==2)=false->J0 (ak [.i 0] (cw J 0 33 k5))))))/\(((J 11).Z==1)=false->(((J 11).Z==1)->J0 (ak [.i 7] (cw J 0 33 k5)))/\(((J 11).Z==1)=false->(((J 11).Z==2)->(((J 12).X&&(!(J 13).X))->let x0:ae:=(cw J 11 22 k0);(pA x0)/\let x1:ae:=j9 x0;((x1 0).X->J0 (ak [.i 2] (cw J 0 33 k5)))/\((x1 0).X=false->J0 (ak [.i 1] (cw J 0 33 k5))))/\(((J 12).X&&(!(J 13).X))=false->(((!(J 12).X)&&(J 13).X)->let x0:ae:=(cw J 11 22 k0);(pA x0)/\let x1:ae:=j9 x0;((x1 0).X->J0 (ak [.i 4] (cw J 0 33 k5)))/\((x1 0).X=false->J0 (ak [.i 3] (cw J 0 33 k5))))/\(((!(J 12).X)&&(J 13).X)=false->let x0:ae:=(cw J 11 22 k0);(pA x0)/\let x1:ae:=j9 x0;((x1 0).X->J0 (ak [.i 6] (cw J 0 33 k5)))/\((x1 0).X=false->J0 (ak [.i 5] (cw J 0 33 k5))))))/\(((J 11).Z==2)=false->J0 (ak [.i 0] (cw J 0 33 k5))))))/\∀j0,J0 j0->let x2:ae:=[.i (j0 0).Z,.i (j0 11).Z];(Rh x2)/\let x3:ae:=Qs x2;R (ak (ak [.i 0] (ak (cw j0 1 10 304386649) [.s (x3 1).O (x3 1).N,.i (x3 2).Z])) (ak (cw j0 12 22 k0) [.l (x3 3).N (x3 3).G]))):=af
def AY (J:ae) (z:Int):ae:=ak [.i z] (cw J 0 33 k5)
theorem UF:∀J,bTs KX 1 (au lr.A J)->bBs KX 1 (an lr.M (tls (aG lr.A) J))->Z3 J->Sa (TS lr J) (qS KX [true,false,true] lr.M lr.Y.sk [.run 349 [.c (.nD 3 0 0 1000000 0 0),am 0 8000000],.dyn 5 0 0 1000000 0 g0 false] (tls (aG lr.A) J) (Y5 J)):=λJ b1 b2 hp=>⟨by
 rw[Dd];dsimp only;have eh:((j9 (cw J 11 22 k0)) 0).X=hlZ J 11:=af;refine⟨λj=>j=AY J (kdZ J 11),br_ (λq=>br_ (λq2=>(congrArg (AY J) (show _=kdZ J 11 by simp only[kdZ,q,q2,cond_true,cond_false]))) λq2=>br_ (λq'=>(congrArg (AY J) (show _=kdZ J 11 by simp only[kdZ,q,q2,cond_true,cond_false]))) λq'=>absurd (q.symm.trans q') afH) (λq=>br_ (λq'=>absurd (q.symm.trans q') afH) λq'=>br_ (λq3=>br_ (λq4=>⟨ah,br_ (λq6=>by rw[eh]at q6;exact(congrArg (AY J) (show _=kdZ J 11 by simp only[kdZ,q,q3,q4,q6,cond_true,cond_false]))) λq6=>by rw[eh]at q6;exact(congrArg (AY J) (show _=kdZ J 11 by simp only[kdZ,q,q3,q4,q6,cond_true,cond_false]))⟩) λq4=>br_ (λq5=>⟨ah,br_ (λq6=>by rw[eh]at q6;exact(congrArg (AY J) (show _=kdZ J 11 by simp only[kdZ,q,q3,q4,q5,q6,cond_true,cond_false]))) λq6=>by rw[eh]at q6;exact(congrArg (AY J) (show _=kdZ J 11 by simp only[kdZ,q,q3,q4,q5,q6,cond_true,cond_false]))⟩) λq5=>⟨ah,br_ (λq6=>by rw[eh]at q6;exact(congrArg (AY J) (show _=kdZ J 11 by simp only[kdZ,q,q3,q4,q5,q6,cond_true,cond_false]))) λq6=>by rw[eh]at q6;exact(congrArg (AY J) (show _=kdZ J 11 by simp only[kdZ,q,q3,q4,q5,q6,cond_true,cond_false]))⟩) λq3=>(congrArg (AY J) (show _=kdZ J 11 by simp only[kdZ,q,q3,cond_true,cond_false]))),?_⟩
 intro j0 hj;subst hj;refine⟨ah,?_⟩;refine⟨rfl,ah,ay af,ay af,ay af,⟨af,λ_ _=>af⟩,ah⟩⟩
abbrev aeP:List AB:=[.run 349 uX,.dyn 5 0 0 1000000 0 g0 false]
abbrev ad2:CT:=Ck lr [true,false,true] aeP Z3 Y5
theorem UO:CO ad2:=CXk lr (TX ⟨md,ahc,ah⟩ ah) UF
def fR (J:ae) (o:Nat):Cd:=bif hlZ J o then(bif (J 8).X&&(J 7).Z==3 then cdF (J (o+4)).X else[])++cdS (J (o+14)).Z else[]
def chP (J:ae):Prop:=WrP (wx J 10 11 34) 0 40
def chW (J:ae):ae:=wrA (wx J 10 11 34) 0 (fR J 12)
abbrev AX:SP:=mkS ⟨[],[.run 351 Sc,.run 349 Y2,.run 127 sMA,.dead,.dyn 5 0 0 1000000 0 g0 false]⟩ 271 Tryz.f271 [tXO (.nP 0 0)] [.run 351 Sc,.run 349 uX,.run 127 sMA,.dyn 5 0 0 1000000 0 g0 false] [] [Ny,Tz,Yu,yC,psC] [] (.tT []) [3]
theorem Nx J R:TR AX J R (let x0:ae:=(cw J 12 22 k0);(pA x0)/\let x1:ae:=j9 x0;((!(x1 0).X)->R (ak [.i 0] (cw J 0 35 k2)))/\((!(x1 0).X)=false->let x2:ae:=[.i (J 6).Z,.i (J 7).Z,.b (J 8).X,.b (J 9).X];let x3:ae:=FA x2;((x3 0).X->let x4:ae:=(ak [.b (J 16).X] (cw J 0 35 k2));(Ow x4)/\let x5:ae:=qQ x4;let x6:ae:=[.i (J 26).Z,.s (x5 0).O (x5 0).N,.i (x5 1).Z,.l (x5 2).N (x5 2).G];(psP x6)/\let x7:ae:=psW x6;R (ak [.i 0,.i ((J 0).Z+(J 26).Z),.f (J 1).F,.i (J 2).Z,.i (J 3).Z,.i (J 4).Z,.i (J 5).Z,.i (J 6).Z,.i (J 7).Z,.b (J 8).X,.b (J 9).X,.s (x7 1).O (x7 1).N,.i (x7 2).Z] (ak (cw J 12 22 k0) [.l (x7 3).N (x7 3).G])))/\((x3 0).X=false-> let x8:ae:=[.i (J 26).Z,.s (J 10).O (J 10).N,.i (J 11).Z,.l (J 34).N (J 34).G];(psP x8)/\let x9:ae:=psW x8;R (ak [.i 0,.i ((J 0).Z+(J 26).Z),.f (J 1).F,.i (J 2).Z,.i (J 3).Z,.i (J 4).Z,.i (J 5).Z,.i (J 6).Z,.i (J 7).Z,.b (J 8).X,.b (J 9).X,.s (x9 1).O (x9 1).N,.i (x9 2).Z] (ak (cw J 12 22 k0) [.l (x9 3).N (x9 3).G]))))):=af
theorem aaw:∀J,bTs KX 1 (au AX.A J)->bBs KX 1 (an AX.M (tls (aG AX.A) J))->chP J->Sa (TS AX J) (qS KX [true,false,true,false] AX.M AX.Y.sk [.run 349 [.c (.nD 4 0 0 1000000 0 0),am 0 8000000],.dead,.dyn 5 0 0 1000000 0 g0 false] (tls (aG AX.A) J) (chW J)):=λJ b1 b2 hp=>⟨by
 rw[Nx]
 have d:(J 26).Z=0/\0<=(J 11).Z:=by obtain⟨-,⟨-,⟨n1,-⟩,-⟩,⟨-,-,-,-,-,-,-,-,-,-,-,-,-,-,⟨d1,d2⟩,-⟩,-⟩:=b2;exact⟨Int.le_antisymm d2 d1,n1⟩
 obtain⟨d,n1⟩:=d;clear b1 b2;have hp:WrP (wx J 10 11 34) 0 40:=hp;have eh:((j9 (cw J 12 22 k0)) 0).X=hlZ J 12:=af;have eb:((FA [.i (J 6).Z,.i (J 7).Z,.b (J 8).X,.b (J 9).X]) 0).X=((J 8).X&&(J 7).Z==3):=rfl;have e26:J (12+14)=J 26:=rfl;unfold chW fR;dsimp only;rw[eh,eb,e26,d,Int.add_zero];refine⟨ah,br_ (λq=>?_) λq=>br_ (λq1=>?_) λq1=>?_⟩
 .have q:hlZ J 12=false:=by simpa using q
  rw[q];have ha:=(WrH.init hp n1).ag;exact⟨rfl,ah,ay af,ha.1,ay af,ah,ha.2⟩
 .have q:hlZ J 12=true:=by simpa using q
  rw[q,q1];have h1:WrH [.i 0,.s ((qQ (ak [.b (J 16).X] (cw J 0 35 k2))) 0).O ((qQ (ak [.b (J 16).X] (cw J 0 35 k2))) 0).N,.i ((qQ (ak [.b (J 16).X] (cw J 0 35 k2))) 1).Z,.l ((qQ (ak [.b (J 16).X] (cw J 0 35 k2))) 2).N ((qQ (ak [.b (J 16).X] (cw J 0 35 k2))) 2).G] 1 (aR (J 34).G) (J 11).Z.toNat (cdF (J 16).X):=WrH.of (bw _) af;have hr:=hp.2.2.2;have hr:(J 11).Z+40<=8000000:=hr;refine⟨kmp (hp.less (show 1<=40 by decide)),h1.toP (bw _) (by show(J 11).Z.toNat+(1+0)+31<=8000000;omega),?_⟩
  generalize hr1:psW _=r1;have hr1:r1=.i 0::wrC (aR (J 34).G) (J 11).Z.toNat (cdF (J 16).X++cdS 0):=by rw[<-hr1];exact congrArg (List.cons (Lf.i 0)) (h1.add (bw _))
  subst hr1;refine⟨rfl,ah,ay af,ay af,ay af,ah,⟨af,λ_ _=>af⟩,ah⟩
 .have q:hlZ J 12=true:=by simpa using q
  rw[q,q1];refine⟨kmp (hp.less (show 31<=40 by decide)),?_⟩
  refine⟨rfl,ah,ay af,ay af,ay af,ah,⟨af,λ_ _=>af⟩,ah⟩⟩
abbrev chS:List AB:=[.run 349 Y2,.dead,.dyn 5 0 0 1000000 0 g0 false]
abbrev chC:CT:=Ck AX [true,false,true,false] chS chP chW
theorem S1:CO chC:=CXk AX (TX ⟨md,uv,zE,m9,vn,ah⟩ ah) aaw
end
end Go.Proofs.YtldmjbgplgoedaaGreatDoor
