import Derived.Test.YtknbgnpeiohifaaGreatDoorGClo1
namespace Go.Proofs.YtknbgnpeiohifaaGreatDoor.Abs
open Go.RowKit
set_option linter.all false
abbrev oX:=aI
abbrev VOp:=bY
structure Lh where
 N:Int->Int->Prop
 Q:List Int->VOp->bL->Prop
structure GnO (X:Lh) (r:Int) (k N:Int) (to fr:List Int) (r':Int):Prop where
 sh:sJ k=some ((to.length:Int),(fr.length:Int))
 to:to=[]/\r'=r ∨ to=[r]/\r'=r+1 ∨ to=[r,r+1]/\r'=r+2
 fr:∀u ∈ fr,0<=u/\u<r
 r:0<=r/\r'<=32768
 n:X.N k N
inductive Ql (X:Lh) (W:List Int):Int->List VOp->List bL->Int->Prop
 | nil {r}:Ql X W r [] [] r
 | op {r r1 r2 k N to fr os ns}:k ≠ 28->k ≠ 30->k ≠ 31->GnO X r k N to fr r1->Ql X W r1 os ns r2->Ql X W r (Jx k N to fr::os) ns r2
 | noted {r r1 r2 k N to fr n os ns}:k=28 ∨ k=30 ∨ k=31->GnO X r k N to fr r1->X.Q W (Jx k N to fr) n->Ql X W r1 os ns r2->Ql X W r (Jx k N to fr::os) (n::ns) r2
section
variable {X:Lh} {W:List Int} {r r1 r2:Int} {os os':List VOp} {ns ns':List bL}
theorem GnO.le {k N:Int} {to fr:List Int} (h:GnO X r k N to fr r1):r<=r1/\r1<=r+2:=by
 rcases h.to with ⟨_,h⟩ | ⟨_,h⟩ | ⟨_,h⟩ <;> omega
theorem Ql.app (h:Ql X W r os ns r1) (k:Ql X W r1 os' ns' r2):Ql X W r (os++os') (ns++ns') r2:=by
 induction h with
 | nil=>exact k
 | op h1 h2 h3 h4 _ ih=>exact .op h1 h2 h3 h4 (ih k)
 | noted h1 h2 h3 _ ih=>exact .noted h1 h2 h3 (ih k)
theorem Ql.le (h:Ql X W r os ns r1):r<=r1/\r1<=r+2*os.length:=by
 induction h with
 | nil=>exact ⟨Uj _,zd⟩
 | op _ _ _ h _ ih=>have:=h.le;rw [qB];omega
 | noted _ h _ _ ih=>have:=h.le;rw [qB];omega
structure YG (m:oX):Prop where
 c:0<=m.cW/\m.cW<=16384
 r:0<=m.dK/\m.dK<=2*m.cW
structure Gp (X:Lh) (W:List Int) (k:Nat) (m m':oX):Prop where
 f:m'.f_=m.f_
 c:m'.c_=m.c_
 x:m'.x_=m.x_
 lo:m'.p_.iH.length<=m.p_.iH.length+k
 ln:m'.p_.cO.length<=m.p_.cO.length+k
 e:m'.e_=0->m.e_=0
 ok:m'.e_=0->YG m->YG m'/\∃os ns,m'.p_.iH=m.p_.iH++os/\m'.p_.cO=m.p_.cO++ns/\m'.cW=m.cW+os.length/\Ql X W m.dK os ns m'.dK
theorem Gp.refl (m:oX):Gp X W 0 m m:=⟨rfl,rfl,rfl,uZ _,uZ _,λh=>h,λ_ h=>⟨h,[],[],(Fu _).symm,(Fu _).symm,zd,.nil⟩⟩
theorem Gp.trans {m m1 m2:oX} {a b:Nat} (h:Gp X W a m m1) (k:Gp X W b m1 m2):Gp X W (a+b) m m2:=
 ⟨k.f.trans h.f,k.c.trans h.c,k.x.trans h.x,by have:=h.lo;have:=k.lo;omega,by have:=h.ln;have:=k.ln;omega,λe=>h.e (k.e e),λe hm=>by
  obtain ⟨m1',os,ns,a1,a2,a3,a4⟩:=h.ok (k.e e) hm;obtain ⟨m2',os',ns',b1,b2,b3,b4⟩:=k.ok e m1';exact ⟨m2',os++os',ns++ns',by rw [b1,a1,Mi],by rw [b2,a2,Mi],by rw [b3,a3,oY];omega,a4.app b4⟩⟩
theorem Gp.more {m m1:oX} {a b:Nat} (h:Gp X W a m m1) (hb:a<=b):Gp X W b m m1:=⟨h.f,h.c,h.x,by have:=h.lo;omega,by have:=h.ln;omega,h.e,h.ok⟩
def Mo (m:oX):Prop:=m.e_=0->YG m
theorem Gp.mo {m m1:oX} {a:Nat} (h:Gp X W a m m1) (hm:Mo m):Mo m1:=λe=>(h.ok e (hm (h.e e))).1
def xP (m:oX) (u:Int):Prop:=m.e_=0->0<=u/\u<m.dK
theorem xP.mono {m m1:oX} {a:Nat} {u:Int} (hu:xP m u) (h:Gp X W a m m1) (hm:Mo m):xP m1 u:=λe=>by
 have he:=h.e e;obtain ⟨_,os,ns,_,_,_,h4⟩:=h.ok e (hm he);have:=hu he;have:=h4.le;omega
def regTo (m:oX):Nat->List Int × oX
 | 0=>([],m)
 | 1=>([m.dK],{ m with dK:=IntKind.i64.wrap (m.dK+1) })
 | _=>([m.dK,IntKind.i64.wrap (m.dK+1)],{ m with dK:=IntKind.i64.wrap (IntKind.i64.wrap (m.dK+1)+1) })
theorem opl_eq {x1:Int × Int} {j:Nat} (hj:x1.1=j) (h2:j<=2) {n:Nat} (hn:4<n) (m:oX):lJ x1 n [] (0:Int) m =
  some (regTo m j):=by
 obtain ⟨k,rfl⟩:∃k,n=k+4:=⟨n - 4,zb⟩;have w1:IntKind.i64.wrap (0+1)=1:=zc
 have w2:IntKind.i64.wrap (1+1)=2:=zc
 match j,h2 with
 | 0,_=>rw [lJ,hj];rfl
 | 1,_=>
   rw [lJ,hj,cX zc,wP zd,w1,lJ,hj,cE zc];rfl
 | 2,_=>
   rw [lJ,hj,cX zc,wP zd,w1,lJ,hj,cX zc,wP zd,w2,lJ,hj,cE zc];rfl
structure OpP (X:Lh) (m:oX) (k N:Int) (fr:List Int) (j:Nat) (to:List Int) (m':oX):Prop where
 len:to.length=j
 r:∀u ∈ to,xP m' u
 f:m'.f_=m.f_
 c:m'.c_=m.c_
 x:m'.x_=m.x_
 lo:m'.p_.iH.length<=m.p_.iH.length+1
 ns:m'.p_.cO=m.p_.cO
 e:m'.e_=0->m.e_=0
 ok:m'.e_=0->YG m'/\m'.p_.iH=m.p_.iH++[Jx k N to fr]/\m'.cW=m.cW+1/\GnO X m.dK k N to fr m'.dK
theorem ZT {p:Prop} (h:(161:Int)=0):p:=cM h zc
theorem OA {k N:Int} {j i:Nat} {fr:List Int} (hk:sJ k=some ((j:Int),(i:Int))) (hj:j<=2) {n:Nat} (hn:4<n) {m:oX} (hm:Mo m) (hl:m.p_.iH.length<=1000000000) (hN:X.N k N) (hi:fr.length=i) (hfr:∀u ∈ fr,xP m u) :
  aW (fJ n m k N fr) λr=>OpP X m k N fr j r.1 r.2:=by
 unfold fJ;rw [hk,iX,opl_eq (x1:=((j:Int),(i:Int))) rfl hj hn m,iX]
 obtain ⟨to,m1,hto,e0⟩:∃(to:List Int) (m1:oX),regTo m j=(to,m1)/\(to.length=j/\m1={ m with dK:=m1.dK }/\(YG m->m.cW<16384->(to=[]/\m1.dK=m.dK ∨ to=[m.dK]/\m1.dK=m.dK+1 ∨ to=[m.dK,m.dK+1]/\m1.dK=m.dK+2))):=by
  refine ⟨_,_,rfl,?_⟩
  match j,hj with
  | 0,_=>exact ⟨rfl,rfl,λ_ _=>.inl ⟨rfl,rfl⟩⟩
  | 1,_=>exact ⟨rfl,rfl,λh h2=>.inr (.inl ⟨rfl,by have:=h.r;show IntKind.i64.wrap (m.dK+1)=_;rw [IntKind.wrap_i64];omega⟩)⟩
  | 2,_=>
    refine ⟨rfl,rfl,λh h2=>.inr (.inr ?_)⟩;have:=h.r;have e:IntKind.i64.wrap (m.dK+1)=m.dK+1:=by rw [IntKind.wrap_i64];omega
    refine ⟨by show [m.dK,IntKind.i64.wrap (m.dK+1)]=_;rw [e],?_⟩;show IntKind.i64.wrap (IntKind.i64.wrap (m.dK+1)+1)=_;rw [e,IntKind.wrap_i64];omega
 obtain ⟨h1,h2,h3⟩:=e0;rw [hto];simp only;have e1:m1.cW=m.cW:=by rw [h2]
 have e2:m1.p_=m.p_:=by rw [h2]
 have e3:m1.e_=m.e_:=by rw [h2]
 refine aW.iteb (λhc=>.some ?_) λhc=>aW.eqn rfl (aW.need (by rw [e2];simp only [vO];omega) (.some ?_))
 ·refine ⟨h1,λu _ e=>ZT e,by rw [h2],by rw [h2],by rw [h2],by simp only [e2];omega,by simp only [e2],λe=>ZT e,λe=>ZT e⟩
 ·have hc:=Lj hc;rw [e1] at hc
  have key:m.e_=0->YG m/\IntKind.i64.wrap (m.cW+1)=m.cW+1/\m.cW<16384:=λe=>by
   have:=hm e;have h4:=this.c;rw [dB zb zb] at hc;exact ⟨this,dB zb zb,zb⟩
  refine ⟨h1,λu hu e=>?_,by rw [h2],by rw [h2],by rw [h2],by simp only [e2,oY,vO];omega,by simp only [e2],λe=>by rw [←e3];exact e,λe=>?_⟩
  ·have e:m.e_=0:=by rw [←e3];exact e
   obtain ⟨k1,k2,k3⟩:=key e;have hr:=k1.r;show 0<=u/\u<m1.dK
   rcases h3 k1 k3 with ⟨q1,q2⟩ | ⟨q1,q2⟩ | ⟨q1,q2⟩
   ·rw [q1] at hu;cases hu
   ·rw [q1] at hu;rw [zU.1 hu];omega
   ·rw [q1] at hu;simp only [Di,St,or_false] at hu;omega
  ·have e:m.e_=0:=by rw [←e3];exact e
   obtain ⟨k1,k2,k3⟩:=key e;have hr:=k1.r;have hc2:=k1.c;have hcc:IntKind.i64.wrap (m1.cW+1)=m.cW+1:=by rw [e1];exact k2
   have hq:=h3 k1 k3;refine ⟨⟨?_,?_⟩,by simp only [e2],hcc,⟨by rw [h1,hi];exact hk,hq,λu hu=>hfr u hu e,?_,hN⟩⟩
   ·show 0<=IntKind.i64.wrap (m1.cW+1)/\IntKind.i64.wrap (m1.cW+1)<=16384;rw [hcc];omega
   ·show 0<=m1.dK/\m1.dK<=2*IntKind.i64.wrap (m1.cW+1);rw [hcc]
    rcases hq with ⟨_,q2⟩ | ⟨_,q2⟩ | ⟨_,q2⟩ <;> omega
   ·show 0<=m.dK/\m1.dK<=32768
    rcases hq with ⟨_,q2⟩ | ⟨_,q2⟩ | ⟨_,q2⟩ <;> omega
theorem one_tot {k N:Int} {i:Nat} {fr:List Int} (hk:sJ k=some (((1:Nat):Int),(i:Int))) {n:Nat} (hn:4<n) {m:oX} (hm:Mo m) (hl:m.p_.iH.length<=1000000000) (hN:X.N k N) (hi:fr.length=i) (hfr:∀u ∈ fr,xP m u) :
  aW (aY n m k N fr) λr=>OpP X m k N fr 1 [r.1] r.2:=by
 unfold aY;refine (OA hk zc hn hm hl hN hi hfr).bind λr hr=>?_;obtain ⟨u,hu⟩:=OH hr.len;rw [hu] at hr ⊢;exact aW.eqn rfl (.some hr)
theorem OpP.gp {m m':oX} {k N:Int} {fr to:List Int} {j:Nat} (h:OpP X m k N fr j to m') (hk:k ≠ 28/\k ≠ 30/\k ≠ 31):Gp X W 1 m m':=
 ⟨h.f,h.c,h.x,h.lo,by rw [h.ns];omega,h.e,λe hm=>by
  obtain ⟨h1,h2,h3,h4⟩:=h.ok e;exact ⟨h1,_,[],h2,by rw [h.ns,Fu],h3,.op hk.1 hk.2.1 hk.2.2 h4 .nil⟩⟩
theorem OpP.note {m m':oX} {k N:Int} {fr to:List Int} {j:Nat} (h:OpP X m k N fr j to m') (hk:k=28 ∨ k=30 ∨ k=31) {nt:bL} (hq:X.Q W (Jx k N to fr) nt) (hl:m.p_.cO.length<=1000000000):aW (jE m' nt) λm2=>Gp X W 1 m m2/\∀u,xP m' u->xP m2 u:=by
 unfold jE;refine aW.need (by rw [h.ns];simp only [vO];omega) (.some ⟨⟨h.f,h.c,h.x,h.lo,by simp only [h.ns,oY,vO];omega,h.e,λe hm=>?_⟩,λu hu e=>hu e⟩);obtain ⟨h1,h2,h3,h4⟩:=h.ok e;exact ⟨⟨h1.c,h1.r⟩,_,[nt],h2,by simp only [h.ns],h3,.noted hk h4 hq .nil⟩
end
def TK (W:List Int) (t:aF):Prop:=Sh false t/\tm t<=2000/\∀k ∈ tv t,k ∈ W
def NG (X:Lh) (o:Int):Prop:=X.N 2 (IntKind.u32.wrap o)/\X.N 3 (IntKind.u32.wrap o)/\X.N 4 (IntKind.u32.wrap o)
structure OfP (X:Lh) (c:aL) (i:Int) (u:aK) (o:Int):Prop where
 g:(u.bJ=1/\(∃t,aZ c.aX i=some t/\t.dJ=1)/\o<0) ∨ NG X o
 d:u.bJ=3->X.N 2 (IntKind.u32.wrap (IntKind.u32.wrap o+4))/\X.N 3 (IntKind.u32.wrap (IntKind.i64.wrap (o+4)))
 z:u.bJ=4->X.N 30 (IntKind.u32.wrap u.jR)
structure IW (X:Lh) (f:aJ) (c:aL) (x:aP):Prop where
 ta:∀(i:Int) u,aZ f.aQ i=some u->u.bJ=1->∃t,aZ c.aX i=some t/\Sh false t/\tm t<=2000
 tl:c.aX.length=f.aQ.length
 wl:Df c.tK/\Df c.kZ/\OL c.tK c.kZ
 off:∀(i:Int) u,aZ f.aQ i=some u->∃o,aZ x.zS i=some o/\OfP X c i u o
 n0:∀k:Int,5<=k/\k<=31/\k ≠ 18/\k ≠ 19/\k ≠ 20/\k ≠ 30->X.N k 0
 n1:∀v,vK v->X.N 1 v
 ns:∀k v:Int,k=18 ∨ k=19 ∨ k=20->1<=v->v<=31->X.N k v
 k4:∀(i:Int) u,aZ f.aQ i=some u->u.bJ=4->Bo u.jR
 fl:c.gM.length<=250
 bd:∀k:Nat,k<c.gM.length->∃b,aZ x.xQ (k:Int)=some b/\X.N 2 (IntKind.u32.wrap b)/\X.N 3 (IntKind.u32.wrap b)
 res:∀(sc:List Int) y,TX f.aQ sc y->KC y.bR f.bO->X.N 3 (IntKind.u32.wrap x.bO)/\(y.bR=3->X.N 3 (IntKind.u32.wrap (IntKind.i64.wrap (x.bO+4))))
 q1:∀(W:List Int) (a i:Int) u t,aZ f.aQ i=some u->u.bJ=4->TK W t->X.Q W (Jx 30 (IntKind.u32.wrap u.jR) [] [a]) ⟨1,t,aF.Z,u.jR⟩
 q2:∀(W:List Int) (a:Int) t,TK W t->X.Q W (Jx 31 0 [] [a]) ⟨2,t,aF.Z,0⟩
 q3:∀(W:List Int) (q a b:Int) s t,TK W s->TK W t->X.Q W (Jx 28 0 [q] [a,b]) ⟨3,s,t,0⟩
def PW (vs:List aK) (T:List aF) (sc W:List Int):Prop:=∀v ∈ sc,∀u,aZ vs v=some u->u.bJ=1->∃t,aZ T v=some t/\∀k ∈ tv t,k ∈ W
def LK (T:List aF) (x:aB):Prop:=∀z ∈ lkd x,tm (Dn T z)<=2000
theorem LK.sub {T:List aF} {x y:aB} (h:LK T x) (hy:y ∈ x.aN):LK T y:=λz hz=>h z (by rw [RF];exact GC _ (Tt hy hz))
theorem LK.op {T:List aF} {x y:aB} (h:LK T x) (hy:y ∈ x.aN) (ho:x.dJ=[105,110,100,101,120] ∨ x.dJ=[47] ∨ x.dJ=[37]):tm (Dn T y)<=2000:=h y (by rw [RF,cX ho];exact IU _ hy)
section
variable {X:Lh} {f:aJ} {c:aL} {x:aP} {sc W:List Int} {n:Nat}
theorem IW.tok (h:IW X f c x):Cj false f.aQ sc c.aX:=⟨h.tl,λv _ u hu hk=>h.ta v u hu hk⟩
theorem ZI (hP:PW f.aQ c.aX sc W) {y:aB} (h:Kl f.aQ sc y):∀k ∈ tv (Dn c.aX y),k ∈ W:=by
 induction h with
 | num=>rw [HR];exact λk hk=>by rw [tv,cE zc,Pz] at hk;cases hk
 | var h1 h2 h3=>
   obtain ⟨t,k1,k2⟩:=hP _ h1 _ h2 h3;rw [LE k1];exact k2
 | un h _ ih=>
   obtain ⟨n1,n2,_⟩:=Sign1.ne h;rw [Dc n1 n2,Bu,Bu,tv,Pz,Pz,Fu,cE (by have:=ZO h;omega)];exact ih
 | bin h _ _ i1 i2=>
   obtain ⟨n1,n2,_⟩:=h.ne;rw [Dc n1 n2,Bu,Bu,Bu,tv,Pz,Pz,Pz,Fu,cE (by have:=ZN h;omega)];rw [AE];exact λk hk=>(yU.1 hk).elim (i1 k) (i2 k)
theorem Sh.con1 {t:aF} (h:Sh false t) (h1:t.dJ=1):∃w,t=⟨1,w,[]⟩/\vK w:=by
 cases h with
 | con a b=>exact ⟨_,rfl,a,b⟩
 | z e=>cases e
 | var=>exact cM h1 zd
 | un ho=>simp only at h1;omega
 | bin ho=>simp only at h1;omega
theorem OB (h:IW X f c x) (hP:PW f.aQ c.aX sc W) {y:aB} (hy:Kl f.aQ sc y) (hb:xz y<=100000000) (hn:xz y+2100<n) :
  aW (gO n c y) λr=>(tm (Dn c.aX y)<=2000->TK W r.1)/\(r.1.dJ=1->vK r.1.N_)/\∀w,Dn c.aX y=⟨1,w,[]⟩->r.1.dJ=1:=by
 refine (VA (h.tok (sc:=sc)) hy hb hn).mono λr hr=>?_;have hs:=(Jl (h.tok (sc:=sc)) hy).1
 rcases hr with ⟨_,h2,h3,h4,h5⟩ | ⟨_,h2,h3⟩
 ·refine ⟨λ_=>⟨h4,h5,λk hk=>?_⟩,λh1=>?_,λw e=>?_⟩
  ·obtain ⟨r',e',_,_,k5⟩:=Pv hs n zb;rw [h3] at e';cases e'
   exact ZI hP hy k (k5 k hk)
  ·obtain ⟨w,e,hw⟩:=h4.con1 h1;rw [e];exact hw
  ·rw [e] at h3;obtain ⟨m,rfl⟩:∃m,n=m+2:=⟨n - 2,zb⟩;have e:pY (m+2) ⟨1,w,[]⟩=some ⟨1,w,[]⟩:=rfl;rw [e] at h3
   injection h3 with h3
   rw [←h3]
 ·rw [h3];exact ⟨λh=>zb,λh=>cM h zc,λw e=>by rw [e,tm,wY] at h2;omega⟩
structure Mqx (f:aJ) (c:aL) (x:aP) (k:Nat) (m:oX):Prop where
 f:m.f_=f
 c:m.c_=c
 x:m.x_=x
 mo:Mo m
 lo:m.p_.iH.length+k<=1000000000
 ln:m.p_.cO.length+k<=1000000000
theorem Mqx.go {m m1:oX} {B a b:Nat} (h:Mqx f c x B m) (g:Gp X W a m m1) (hab:a+b<=B):Mqx f c x b m1:=
 ⟨g.f.trans h.f,g.c.trans h.c,g.x.trans h.x,g.mo h.mo,by have:=g.lo;have:=h.lo;omega,by have:=g.ln;have:=h.ln;omega⟩
def S1 (X:Lh) (W:List Int) (a:Nat) (m0 m:oX) (r:Int × oX):Prop:=Gp X W a m0 r.2/\xP r.2 r.1/\∀u,xP m u->xP r.2 u
def S2 (X:Lh) (W:List Int) (a:Nat) (m0 m:oX) (r:Int × Int × oX):Prop:=Gp X W a m0 r.2.2/\(xP r.2.2 r.1/\xP r.2.2 r.2.1)/\∀u,xP m u->xP r.2.2 u
theorem kA {m0 m:oX} {B a:Nat} (hm:Mqx f c x B m0) (g:Gp X W a m0 m) (hn:2000<n) {k N:Int} {fr:List Int} (hN:X.N k N) (hfr:∀u ∈ fr,xP m u) (hk:sJ k=some (((1:Nat):Int),(fr.length:Int)):=by rfl) (hne:k ≠ 28/\k ≠ 30/\k ≠ 31:=by decide) (hab:a+1<=B:=by omega) :
  aW (aY n m k N fr) (S1 X W (a+1) m0 m):=by
 have hm2:=hm.go (b:=1) g hab;refine (one_tot hk zb hm2.mo (by have:=hm2.lo;omega) hN rfl hfr).mono λr hr=>⟨g.trans (hr.gp hne),hr.r _ Gr,λu hu=>hu.mono (hr.gp (W:=W) hne) hm2.mo⟩
theorem YZ {m0 m:oX} {B a:Nat} (hm:Mqx f c x B m0) (g:Gp X W a m0 m) (hn:2000<n) {k N:Int} {fr:List Int} (hN:X.N k N) (hfr:∀u ∈ fr,xP m u) {β:Type} {K:Int × Int × oX->Option β} {Q:β->Prop} (h:∀r,S2 X W (a+1) m0 m r->aW (K r) Q) (hk:sJ k=some (((2:Nat):Int),(fr.length:Int)):=by rfl) (hne:k ≠ 28/\k ≠ 30/\k ≠ 31:=by decide) (hab:a+1<=B:=by omega) :
  aW ((fJ n m k N fr).bind λr=>(aZ r.1 (0:Int)).bind λu=>(aZ r.1 (1:Int)).bind λv=>K (u,v,r.2)) Q:=by
 have hm2:=hm.go (b:=1) g hab;refine (OA hk zc zb hm2.mo (by have:=hm2.lo;omega) hN rfl hfr).bind λr hr=>?_;obtain ⟨u,v,hu⟩:=zal hr.len;have h1:=hr.r u (by rw [hu];exact PH);have h2:=hr.r v (by rw [hu];exact Nm _ PH);rw [hu];exact aW.eqn rfl (aW.eqn rfl (h (u,v,r.2) ⟨g.trans (hr.gp hne),⟨h1,h2⟩,λu hu=>hu.mono (hr.gp (W:=W) hne) hm2.mo⟩))
theorem put_g {m0 m:oX} {B a:Nat} (hm:Mqx f c x B m0) (g:Gp X W a m0 m) (hn:2000<n) {k N:Int} {fr:List Int} (hN:X.N k N) (hfr:∀u ∈ fr,xP m u) (hk:sJ k=some (((0:Nat):Int),(fr.length:Int)):=by rfl) (hne:k ≠ 28/\k ≠ 30/\k ≠ 31:=by decide) (hab:a+1<=B:=by omega) :
  aW (fJ n m k N fr) λr=>Gp X W (a+1) m0 r.2/\∀u,xP m u->xP r.2 u:=by
 have hm2:=hm.go (b:=1) g hab;exact (OA hk zc zb hm2.mo (by have:=hm2.lo;omega) hN rfl hfr).mono λr hr=>⟨g.trans (hr.gp hne),λu hu=>hu.mono (hr.gp (W:=W) hne) hm2.mo⟩
theorem ZS {m0 m:oX} {B a j:Nat} (hm:Mqx f c x B m0) (g:Gp X W a m0 m) (hn:2000<n) {k N:Int} {fr:List Int} {nt:bL} (hN:X.N k N) (hfr:∀u ∈ fr,xP m u) (hj:j<=2) (hk:sJ k=some ((j:Int),(fr.length:Int))) (hne:k=28 ∨ k=30 ∨ k=31) (hQ:∀to:List Int,to.length=j->X.Q W (Jx k N to fr) nt) (hab:a+1<=B:=by omega) :
  aW (fJ n m k N fr) λr=>r.1.length=j/\aW (jE r.2 nt) λm2=>Gp X W (a+1) m0 m2/\(∀u ∈ r.1,xP m2 u)/\∀u,xP m u->xP m2 u:=by
 have hm2:=hm.go (b:=1) g hab;refine (OA hk hj zb hm2.mo (by have:=hm2.lo;omega) hN rfl hfr).mono λr hr=>⟨hr.len,?_⟩;exact (hr.note (W:=W) hne (hQ _ hr.len) (by have:=hm2.ln;omega)).mono λm2 h2=>⟨g.trans h2.1,λu hu=>h2.2 u (hr.r u hu),λu hu=>hu.mono h2.1 hm2.mo⟩
theorem all4 {α:Type} {P:α->Prop} {p q r s:α} (h1:P p) (h2:P q) (h3:P r) (h4:P s):∀u ∈ [p,q,r,s],P u:=λu hu=>by
 rcases Di.1 hu with rfl | hu
 ·exact h1
 ·exact za8 h2 h3 h4 u hu
theorem Wf {o:cB} {n:Nat} (hn:2000<n) (h:o=[124] ∨ o=[94] ∨ o=[38] ∨ o=[43] ∨ o=[45] ∨ o=[42] ∨ o=[60] ∨ o=[61,61]):∃k:Int,EG n o=some k/\sJ k=some (((1:Nat):Int),((2:Nat):Int))/\(k ≠ 28/\k ≠ 30/\k ≠ 31)/\5<=k/\k<=31/\k ≠ 18/\k ≠ 19/\k ≠ 20/\k ≠ 30:=by
 obtain ⟨m,rfl⟩:∃m,n=m+10:=⟨n - 10,zb⟩
 rcases h with rfl | rfl | rfl | rfl | rfl | rfl | rfl | rfl
 ·exact ⟨8,rfl,rfl,zc,zc⟩
 ·exact ⟨9,rfl,rfl,zc,zc⟩
 ·exact ⟨7,rfl,rfl,zc,zc⟩
 ·exact ⟨10,rfl,rfl,zc,zc⟩
 ·exact ⟨11,rfl,rfl,zc,zc⟩
 ·exact ⟨12,rfl,rfl,zc,zc⟩
 ·exact ⟨21,rfl,rfl,zc,zc⟩
 ·exact ⟨22,rfl,rfl,zc,zc⟩
end
structure Ey (f:aJ) (c:aL) (sc:List Int) (y:aB):Prop where
 t:TX f.aQ sc y
 l:LK c.aX y
 z:xz y<=50000000
def E1 (X:Lh) (f:aJ) (c:aL) (x:aP) (sc W:List Int) (P:aB->Prop) (d n:Nat) (g:oX->aB->Option (Int × oX)):Prop:=
 ∀m y,Mqx f c x (8*xz y) m->Ey f c sc y->P y->2*xz y+d<=n->aW (g m y) λr=>Gp X W (8*xz y) m r.2/\xP r.2 r.1
def E2 (X:Lh) (f:aJ) (c:aL) (x:aP) (sc W:List Int) (P:aB->Prop) (d n:Nat) (g:oX->aB->Option (Int × Int × oX)):Prop:=
 ∀m y,Mqx f c x (8*xz y) m->Ey f c sc y->P y->2*xz y+d<=n->aW (g m y) λr=>Gp X W (8*xz y) m r.2.2/\xP r.2.2 r.1/\xP r.2.2 r.2.1
abbrev dd:Nat:=200000000
section
variable {X:Lh} {f:aJ} {c:aL} {x:aP} {sc W:List Int} {n:Nat}
theorem Ey.sub {y z:aB} (h:Ey f c sc y) (hz:z ∈ y.aN):Ey f c sc z:=⟨h.t.list.1 z hz,h.l.sub hz,by have:=h.z;have:=Dg y;have:=yI hz;omega⟩
theorem E1.go {P:aB->Prop} {d:Nat} {g:oX->aB->Option (Int × oX)} (h:E1 X f c x sc W P d n g) {m0 m:oX} {B a:Nat} (hm:Mqx f c x B m0) (gp:Gp X W a m0 m) {y z:aB} (hy:Ey f c sc y) (hz:z ∈ y.aN) (hP:P z) (hn:2*xz z+d<=n:=by omega) (hab:a+8*xz z<=B:=by omega) :
  aW (g m z) (S1 X W (a+8*xz z) m0 m):=
 (h m z (hm.go gp hab) (hy.sub hz) hP hn).mono λr hr=>⟨gp.trans hr.1,hr.2,λu hu=>hu.mono hr.1 (hm.go (b:=0) gp zb).mo⟩
theorem E2.go {P:aB->Prop} {d:Nat} {g:oX->aB->Option (Int × Int × oX)} (h:E2 X f c x sc W P d n g) {m0 m:oX} {B a:Nat} (hm:Mqx f c x B m0) (gp:Gp X W a m0 m) {y z:aB} (hy:Ey f c sc y) (hz:z ∈ y.aN) (hP:P z) (hn:2*xz z+d<=n:=by omega) (hab:a+8*xz z<=B:=by omega) :
  aW (g m z) (S2 X W (a+8*xz z) m0 m):=
 (h m z (hm.go gp hab) (hy.sub hz) hP hn).mono λr hr=>⟨gp.trans hr.1,hr.2,λu hu=>hu.mono hr.1 (hm.go (b:=0) gp zb).mo⟩
theorem Ww (hC:IW X f c x) (hP:PW f.aQ c.aX sc W) {m:oX} (hm:m.c_=c) {y:aB} (hy:Ey f c sc y) (hn:dd<=n):aW (mA n m y) λr=>(r.2=true->vK r.1/\y.bR=1)/\(y.bR=1->∀w,Dn c.aX y=⟨1,w,[]⟩->r.2=true):=by
 unfold mA;have hz:=hy.z;refine aW.iteb (λh=>.some ⟨λh=>(nomatch h),λh2=>cM h2 (by simpa using h)⟩) λh=>?_;have h:y.bR=1:=by simpa using h
 rw [hm];refine (OB hC hP (hy.t.pub h) zb (by unfold dd at hn;omega)).bind λr hr=>.some ⟨λh2=>⟨hr.2.1 (by simpa using h2),h⟩,λ_ w e=>by simpa using hr.2.2 w e⟩
theorem SF (hC:IW X f c x) (hP:PW f.aQ c.aX sc W) {m0 m:oX} {B a:Nat} (hm:Mqx f c x B m0) (g:Gp X W a m0 m) {y:aB} (hy:Ey f c sc y) (ht:y.bR=1) (hs:tm (Dn c.aX y)<=2000) {i v:Int} {u:aK} (hv:aZ f.aQ v=some u) (hk:u.bJ=4) (hi:xP m i) (hn:dd<=n) (hab:a+1<=B:=by omega) :
  aW (oF n m y i v) λr=>Gp X W (a+1) m0 r/\∀u,xP m u->xP r u:=by
 have hm2:=hm.go (b:=1) g hab;have hz:=hy.z;unfold dd at hn;unfold oF;rw [hm2.f,hv,iX];refine aW.bind (P:=λ_=>True) ?_ λb _=>aW.iteb (λ_=>.some ⟨g.more zb,λ_ h=>h⟩) λ_=>?_
 ·unfold sG;rw [hm2.c];exact (Ot hC.tok (hy.t.pub ht) zb hC.wl.1 hC.wl.2.1 hC.wl.2.2 zb).bind λr _=>.some trivial
 ·rw [hm2.c];refine (OB hC hP (hy.t.pub ht) zb zb).bind λt ht=>?_;obtain ⟨o,_,ho⟩:=hC.off v u hv;refine (ZS hm g zb (j:=0) (nt:=⟨1,t.1,aF.Z,u.jR⟩) (ho.z hk) (yM hi) zc rfl zc λto hto=>?_).bind λr hr=>(hr.2).bind λq hq=>.some ⟨hq.1,hq.2.2⟩;rw [List.length_eq_zero_iff.1 hto];exact hC.q1 W i v u t.1 hv hk (ht.1 hs)
theorem za9 (hC:IW X f c x) {m0 m:oX} {B a:Nat} (hm:Mqx f c x B m0) (g:Gp X W a m0 m) {v:Int} {u:aK} (hv:aZ f.aQ v=some u) (hk:u.bJ=4) (hn:dd<=n) (hab:a+1<=B:=by omega) :
  aW (nD n m v) (S1 X W (a+1) m0 m):=by
 have hm2:=hm.go (b:=1) g hab;obtain ⟨o,h1,ho⟩:=hC.off v u hv;have hg:NG X o:=ho.g.resolve_left λh=>by rw [hk] at h;exact cM h.1 zc
 unfold nD;unfold dd at hn;rw [hm2.x,h1,iX];exact aW.iteb (λ_=>(kA hm g zb hg.1 oD).bind λr hr=>.some hr) λ_=>(kA hm g zb hg.2.2 oD).bind λr hr=>.some hr
theorem by_g (hC:IW X f c x) {m0 m:oX} {B a:Nat} (hm:Mqx f c x B m0) (g:Gp X W a m0 m) {o:cB} {r k:Int} (hr:xP m r) (hk:0<=k/\k<=31) (hn:dd<=n) (hab:a+1<=B:=by omega) :
  aW (rY n m o r k) (S1 X W (a+1) m0 m):=by
 unfold rY;unfold dd at hn;refine aW.iteb (λ_=>.some ⟨g.more zb,hr,λ_ h=>h⟩) λh0=>?_;have h0:k ≠ 0:=by simpa using h0
 refine aW.iteb (λ_=>(kA hm g zb (hC.ns 18 k zc zb zb) (yM hr)).bind λr hr=>.some hr) λ_=>aW.iteb (λ_=>(kA hm g zb (hC.ns 19 k zc zb zb) (yM hr)).bind λr hr=>.some hr) λ_=>(kA hm g zb (hC.ns 20 _ zc ?_ ?_) (yM hr)).bind λr hr=>.some hr
 ·rw [IntKind.wrap_u32];omega
 ·rw [IntKind.wrap_u32];omega
end
section
variable {X:Lh} {f:aJ} {c:aL} {x:aP} {sc W:List Int} {n:Nat}
def PD (y:aB):Prop:=y.bR ≠ 3
def Nk (y:aB):Prop:=y.bR=3
def Lg (l:List cB) (y:aB):Prop:=y.dJ ∈ l
theorem yS {y z:aB} {l:List aB} (h:y.aN=z::l):z ∈ y.aN:=by rw [h];exact PH
theorem HG {y z z':aB} {l:List aB} (h:y.aN=z::z'::l):z' ∈ y.aN:=by rw [h];exact Nm _ PH
theorem Zb {y z z' z2:aB} {l:List aB} (h:y.aN=z::z'::z2::l):z2 ∈ y.aN:=by rw [h];exact Nm _ (Nm _ PH)
theorem load_b (hC:IW X f c x) (hP:PW f.aQ c.aX sc W) {g:oX->aB->Option (Int × oX)} (hg:E1 X f c x sc W PD (dd+2) n g) (hn:dd<=n):E1 X f c x sc W (Lg [[105,110,100,101,120]]) (dd+1) (n+1) (uH g n):=by
 intro m y hm hy ho hd;have ho:=zU.1 ho;obtain ⟨ht,hl,hz⟩:=hy;cases ht with
 | @index v u i a h1 h2 h3 h4 h5 h6=>
   have hy:Ey f c sc ⟨[105,110,100,101,120],2,0,v,[i],a⟩:=⟨.index h1 h2 h3 h4 h5 h6,hl,hz⟩;have e:xz ⟨[105,110,100,101,120],2,0,v,[i],a⟩=1+xz i:=by rw [xz,nG,nG];omega
   rw [e] at hm hd ⊢;unfold uH;refine aW.eqn (v:=i) rfl ((hg.go hm (.refl m) hy Gr (by unfold PD;omega)).bind λr1 ⟨g1,w1,t1⟩=>?_);refine (SF hC hP hm g1 (hy.sub Gr) h5 (hl.op Gr (.inl rfl)) h2 h3 w1 hn).bind λm2 ⟨g2,t2⟩=>?_;refine (za9 hC hm g2 h2 h3 hn).bind λr3 ⟨g3,w3,t3⟩=>?_;refine (kA hm g3 (by unfold dd at hn;omega) (hC.n0 5 zc) (BZ w3 (t3 _ (t2 _ w1)))).bind λr4 ⟨g4,w4,_⟩=>.some ⟨g4.more zb,w4⟩
 | num=>exact cM ho (by simp only;decide)
 | var=>exact cM ho (by simp only;decide)
 | un h=>rcases h with rfl | rfl <;> exact cM ho (by simp only;decide)
 | bin _ _ h=>
   exfalso
   simp only at ho;subst ho
   rcases h with ⟨h,_⟩ | ⟨h,_⟩ | ⟨h,_⟩ | ⟨h,_⟩ | ⟨h,_⟩ <;> revert h <;> decide
 | sel=>exact cM ho (by simp only;decide)
 | long=>exact cM ho (by simp only;decide)
 | wide=>exact cM ho (by simp only;decide)
 | half h=>rcases h with rfl | rfl <;> exact cM ho (by simp only;decide)
theorem Ir {y:aB} (h:TX f.aQ sc y) (ho:y.dJ ∈ AK):∃a b,y.aN=[a,b]/\TX f.aQ sc a/\TX f.aQ sc b/\Qn y.dJ a b y.bR/\xz y=1+xz a+xz b:=by
 cases h with
 | bin h1 h2 h3=>exact ⟨_,_,rfl,h1,h2,h3,by rw [xz,nG,nG,nG];omega⟩
 | num=>exact cM ho (by simp only;decide)
 | var=>exact cM ho (by simp only;decide)
 | index=>exact cM ho (by simp only;decide)
 | un h=>rcases h with rfl | rfl <;> exact cM ho (by simp only;decide)
 | sel=>exact cM ho (by simp only;decide)
 | long=>exact cM ho (by simp only;decide)
 | wide=>exact cM ho (by simp only;decide)
 | half h=>rcases h with rfl | rfl <;> exact cM ho (by simp only;decide)
theorem zaI (hC:IW X f c x) (hP:PW f.aQ c.aX sc W) {g:oX->aB->Option (Int × oX)} (hg:E1 X f c x sc W PD (dd+2) n g) (hn:dd<=n):E1 X f c x sc W (Lg [[47],[37]]) (dd+1) (n+1) (rW g n):=by
 intro m y hm hy ho hd
 have hin:y.dJ ∈ AK:=by
  unfold Lg at ho;simp only [Di,St,or_false] at ho
  rcases ho with h | h <;> rw [h] <;> decide
 have hop:y.dJ=[105,110,100,101,120] ∨ y.dJ=[47] ∨ y.dJ=[37]:=by
  unfold Lg at ho;simp only [Di,St,or_false] at ho;exact .inr ho
 obtain ⟨a,b,hl,ha,hb,ht,hz⟩:=Ir hy.t hin
 have hty:a.bR=1/\b.bR=1:=by
  rcases ht with ⟨_,h1,h2,_⟩ | ⟨h,_⟩ | ⟨h,_⟩ | ⟨h,_⟩ | ⟨h,_⟩
  ·exact ⟨h1,h2⟩
  all_goals exfalso;rcases hop with h2 | h2 | h2 <;> rw [h2] at h <;> revert h <;> decide
 rw [hz] at hm hd ⊢;have ia:=yS hl;have ib:=HG hl;have za:=hy.z;unfold dd at hn;unfold rW;rw [hl];refine aW.eqn (v:=a) rfl ((hg.go hm (.refl m) hy ia (by unfold PD;omega)).bind λr1 ⟨g1,w1,t1⟩=>?_);refine aW.eqn (v:=b) rfl ((hg.go hm g1 hy ib (by unfold PD;omega)).bind λr2 ⟨g2,w2,t2⟩=>?_);rw [(hm.go (b:=0) g2 zb).c];refine (OB hC hP (ha.pub hty.1) zb zb).bind λs hs=>(OB hC hP (hb.pub hty.2) zb zb).bind λt htt=>?_;have ks:=hs.1 (hy.l.op ia hop);have kt:=htt.1 (hy.l.op ib hop);have w1':=t2 _ w1
 have fin:∀ {β:Type} {m1:oX} {k:Nat} {Q:β->Prop} {K:Int->oX->Option β},Gp X W k m m1->k+1<=8*(1+xz a+xz b)->xP m1 r1.1->xP m1 r2.1->(∀q m2,Gp X W (k+1) m m2->xP m2 q->xP m2 r1.1->xP m2 r2.1->aW (K q m2) Q)->aW ((aY n m1 28 0 [r1.1,r2.1]).bind λr=>(jE r.2 ⟨3,s.1,t.1,0⟩).bind λm2=>K r.1 m2) Q:=λ{β m1 k Q K} gg hk v1 v2 h=>by
  unfold aY;refine aW.bind (P:=λr=>aW (jE r.2 ⟨3,s.1,t.1,0⟩) λm2=>Gp X W (k+1) m m2/\xP m2 r.1/\∀u,xP m1 u->xP m2 u) ?_ λr hr=>hr.bind λm2 h2=>h _ _ h2.1 h2.2.1 (h2.2.2 _ v1) (h2.2.2 _ v2);refine (ZS hm gg zb (j:=1) (nt:=⟨3,s.1,t.1,0⟩) (hC.n0 28 zc) (BZ v1 v2) zc rfl zc λto hto=>?_).bind λr hr=>?_
  ·obtain ⟨q,rfl⟩:=OH hto;exact hC.q3 W q _ _ _ _ ks kt
  ·obtain ⟨q,hq⟩:=OH hr.1;have h2:=hr.2;rw [hq] at h2 ⊢;exact aW.eqn rfl (.some (h2.mono λm2 h3=>⟨h3.1,h3.2.1 q Gr,h3.2.2⟩))
 have tail:∀ {m2:oX} {k:Nat} {q:Int},Gp X W k m m2->k+1<=8*(1+xz a+xz b)->xP m2 q->xP m2 r1.1->xP m2 r2.1->aW (if (decide (y.dJ=[37]))=true then (aY n m2 29 0 [r1.1,q,r2.1]).bind λx39=>some (x39.1,x39.2) else some (q,m2)) λr=>Gp X W (8*(1+xz a+xz b)) m r.2/\xP r.2 r.1:=λgg hk v0 v1 v2=>by
  refine aW.iteb (λ_=>(kA hm gg zb (hC.n0 29 zc) (za8 v1 v0 v2)).bind λr hr=>.some ⟨hr.1.more zb,hr.2.1⟩) λ_=>.some ⟨gg.more zb,v0⟩
 refine aW.bind (P:=λ_=>True) (aW.iteb (λ_=>.some trivial) λ_=>.some trivial) λb' _=>aW.iteb (λ_=>?_) λ_=>?_
 ·refine (ZS hm g2 zb (j:=0) (nt:=⟨2,t.1,aF.Z,0⟩) (hC.n0 31 zc) (yM w2) zc rfl zc λto hto=>?_).bind λr hr=>hr.2.bind λm3 h3=>?_
  ·rw [List.length_eq_zero_iff.1 hto];exact hC.q2 W _ _ kt
  ·exact fin h3.1 zb (h3.2.2 _ w1') (h3.2.2 _ w2) λq m4 g4 v0 v1 v2=>tail g4 zb v0 v1 v2
 ·exact fin g2 zb w1' w2 λq m4 g4 v0 v1 v2=>tail g4 zb v0 v1 v2
theorem shift_b (hC:IW X f c x) (hP:PW f.aQ c.aX sc W) {g:oX->aB->Option (Int × oX)} (hg:E1 X f c x sc W PD (dd+2) n g) (hn:dd<=n):E1 X f c x sc W (λy=>Lg [[60,60],[62,62],[60,60,60]] y/\PD y) (dd+1) (n+1) (tC g n):=by
 intro m y hm hy ho hd;obtain ⟨ho,hp⟩:=ho;unfold Lg at ho;simp only [Di,St,or_false] at ho;have hin:y.dJ ∈ AK:=by rcases ho with h | h | h <;> rw [h] <;> decide
 obtain ⟨a,b,hl,ha,hb,ht,hz⟩:=Ir hy.t hin
 have hty:b.bR=1/\a.bR ≠ 3:=by
  unfold PD at hp
  rcases ht with ⟨h,_⟩ | ⟨_,h1,_,h2⟩ | ⟨h,_⟩ | ⟨h,_⟩ | ⟨h,_⟩
  rotate_left
  ·exact ⟨h1,by rw [←h2];exact hp⟩
  all_goals exfalso;rcases ho with h2 | h2 | h2 <;> rw [h2] at h <;> revert h <;> decide
 rw [hz] at hm hd ⊢;have ia:=yS hl;have ib:=HG hl;have hn':=hn;unfold dd at hn';unfold tC;rw [hl];refine aW.eqn (v:=a) rfl ((hg.go hm (.refl m) hy ia hty.2).bind λr1 ⟨g1,w1,t1⟩=>?_);refine aW.eqn (v:=b) rfl ((Ww hC hP (hm.go (b:=0) g1 zb).c (hy.sub ib) hn).bind λk hk=>?_);refine aW.iteb (λh=>?_) λh=>?_
 ·obtain ⟨hw,_⟩:=hk.1 h;refine (by_g hC hm g1 w1 (k:=k.1.tmod 32) ?_ hn).bind λr hr=>.some ⟨hr.1.more zb,hr.2.1⟩;have:=hw.1;rw [xek this];omega
 ·refine (hg.go hm g1 hy ib (by unfold PD;omega)).bind λr2 ⟨g2,w2,t2⟩=>?_;refine (kA hm g2 zb (hC.n1 31 (by unfold vK;omega)) oD).bind λr3 ⟨g3,w3,t3⟩=>?_;refine (kA hm g3 zb (hC.n0 7 zc) (BZ (t3 _ w2) w3)).bind λr4 ⟨g4,w4,t4⟩=>?_;have w1':=t4 _ (t3 _ (t2 _ w1));refine aW.iteb (λ_=>(kA hm g4 zb (hC.n0 13 zc) (BZ w1' w4)).bind λr hr=>.some ⟨hr.1.more zb,hr.2.1⟩) λ_=>aW.iteb (λ_=>(kA hm g4 zb (hC.n0 14 zc) (BZ w1' w4)).bind λr hr=>.some ⟨hr.1.more zb,hr.2.1⟩) λ_=>?_;refine (kA hm g4 zb (hC.n1 32 (by unfold vK;omega)) oD).bind λr5 ⟨g5,w5,t5⟩=>?_;refine (kA hm g5 zb (hC.n0 11 zc) (BZ w5 (t5 _ w4))).bind λr6 ⟨g6,w6,t6⟩=>?_;exact (kA hm g6 zb (hC.n0 15 zc) (BZ (t6 _ (t5 _ w1')) w6)).bind λr hr=>.some ⟨hr.1.more zb,hr.2.1⟩
end
section
variable {X:Lh} {f:aJ} {c:aL} {x:aP} {sc W:List Int} {n:Nat}
theorem Wh {a b:Int}:uO a b=3 ↔ a=3/\b=3:=by
 unfold uO
 constructor
 ·intro h
  split at h
  ·omega
  ·split at h <;> omega
 ·rintro ⟨rfl,rfl⟩;rfl
theorem WB {o:cB} {a b:aB} {t:Int} (h:Qn o a b t) (ht:t=3):((o=[60,60] ∨ o=[62,62] ∨ o=[60,60,60])/\a.bR=3/\b.N_<=63) ∨ ((o=[124] ∨ o=[94] ∨ o=[38] ∨ o=[43] ∨ o=[45])/\a.bR=3/\b.bR=3):=by
 rcases h with ⟨_,_,_,h⟩ | ⟨h,_,h2,h3⟩ | ⟨_,h,h2,_⟩ | ⟨_,_,h⟩ | ⟨h,h2,_⟩
 ·omega
 ·exact .inl ⟨h,zb,(h2 zb).2⟩
 ·exact cM ht h2
 ·exfalso;split at h <;> omega
 ·exact .inr ⟨h,Wh.1 (h2.symm.trans ht)⟩
theorem N_nn {vs:List aK} {y:aB} (h:TX vs sc y):0<=y.N_:=by
 cases h with
 | num h1 h2=>exact h1
 | _=>exact Uj _
theorem XY (hC:IW X f c x) {g:oX->aB->Option (Int × Int × oX)} (hg:E2 X f c x sc W Nk (dd+2) n g) (hn:dd<=n):E1 X f c x sc W (λy=>y.dJ ∈ AK/\∀a b,y.aN=[a,b]->a.bR=3/\b.bR=3) (dd+1) (n+1) (qO g n):=by
 intro m y hm hy ho hd;obtain ⟨hin,ho⟩:=ho;obtain ⟨a,b,hl,ha,hb,ht,hz⟩:=Ir hy.t hin;obtain ⟨ta,tb⟩:=ho a b hl;rw [hz] at hm hd ⊢;unfold dd at hn;unfold qO;rw [hl];refine aW.eqn (v:=a) rfl ((hg.go hm (.refl m) hy (yS hl) ta).bind λr1 ⟨g1,⟨u1,v1⟩,t1⟩=>?_);refine aW.eqn (v:=b) rfl ((hg.go hm g1 hy (HG hl) tb).bind λr2 ⟨g2,⟨u2,v2⟩,t2⟩=>?_);refine aW.iteb (λ_=>(kA hm g2 zb (hC.n0 25 zc) (all4 (t2 _ u1) (t2 _ v1) u2 v2)).bind λr hr=>.some ⟨hr.1.more zb,hr.2.1⟩) λ_=>?_;refine (kA hm g2 zb (hC.n0 9 zc) (BZ (t2 _ u1) u2)).bind λr3 ⟨g3,w3,t3⟩=>?_;refine (kA hm g3 zb (hC.n0 9 zc) (BZ (t3 _ (t2 _ v1)) (t3 _ v2))).bind λr4 ⟨g4,w4,t4⟩=>?_;refine (kA hm g4 zb (hC.n0 8 zc) (BZ (t4 _ w3) w4)).bind λr5 ⟨g5,w5,t5⟩=>?_;refine (kA hm g5 zb (hC.n1 0 .z) oD).bind λr6 ⟨g6,w6,t6⟩=>?_;exact (kA hm g6 zb (hC.n0 22 zc) (BZ (t6 _ w5) w6)).bind λr hr=>.some ⟨hr.1.more zb,hr.2.1⟩
theorem Uz {y:aB} (h:TX f.aQ sc y) (ho:y.dJ=[110,111,116] ∨ y.dJ=[110,101,103]):∃a,y.aN=[a]/\a.bR=y.bR/\xz y=1+xz a:=by
 cases h with
 | un h1 h2=>exact ⟨_,rfl,rfl,by rw [xz,nG,nG];omega⟩
 | bin _ _ h=>
   exfalso
   simp only at ho
   rcases ho with rfl | rfl <;> rcases h with ⟨h,_⟩ | ⟨h,_⟩ | ⟨h,_⟩ | ⟨h,_⟩ | ⟨h,_⟩ <;> revert h <;> decide
 | half h=>exfalso;rcases h with rfl | rfl <;> revert ho <;> simp only <;> decide
 | num=>exact cM ho (by simp only;decide)
 | var=>exact cM ho (by simp only;decide)
 | index=>exact cM ho (by simp only;decide)
 | sel=>exact cM ho (by simp only;decide)
 | long=>exact cM ho (by simp only;decide)
 | wide=>exact cM ho (by simp only;decide)
theorem US (hC:IW X f c x) {g:oX->aB->Option (Int × Int × oX)} (hg:E2 X f c x sc W Nk (dd+2) n g) (hn:dd<=n):E2 X f c x sc W (λy=>y.dJ=[110,101,103]/\Nk y) (dd+1) (n+1) (pL g n):=by
 intro m y hm hy ho hd;obtain ⟨a,hl,ht,hz⟩:=Uz hy.t (.inr ho.1);rw [hz] at hm hd ⊢;unfold dd at hn;unfold pL;rw [hl];refine aW.eqn (v:=a) rfl ((hg.go hm (.refl m) hy (yS hl) (ht.trans ho.2)).bind λr1 ⟨g1,⟨u1,v1⟩,t1⟩=>?_);refine (kA hm g1 zb (hC.n1 0 .z) oD).bind λr2 ⟨g2,w2,t2⟩=>?_;refine (kA hm g2 zb (hC.n1 0 .z) oD).bind λr3 ⟨g3,w3,t3⟩=>?_;exact YZ hm g3 zb (hC.n0 24 zc) (all4 (t3 _ w2) w3 (t3 _ (t2 _ u1)) (t3 _ (t2 _ v1))) (K:=λr=>some (r.1,r.2.1,r.2.2)) λr hr=>.some ⟨hr.1.more zb,hr.2.1⟩
theorem sum_b (hC:IW X f c x) {g:oX->aB->Option (Int × Int × oX)} (hg:E2 X f c x sc W Nk (dd+2) n g) (hn:dd<=n) {k:Int} (hk:k=23 ∨ k=24):E2 X f c x sc W (λy=>(y.dJ=[43] ∨ y.dJ=[45])/\Nk y) (dd+1) (n+1) (λm y=>sP g n m k y):=by
 intro m y hm hy ho hd;obtain ⟨ho,hp⟩:=ho;obtain ⟨a,b,hl,ha,hb,ht,hz⟩:=Ir hy.t (by rcases ho with h | h <;> rw [h] <;> decide)
 have hty:a.bR=3/\b.bR=3:=by
  rcases WB ht hp with ⟨h,_⟩ | ⟨_,h⟩
  ·exfalso;rcases ho with h2 | h2 <;> rw [h2] at h <;> revert h <;> decide
  ·exact h
 rw [hz] at hm hd ⊢;unfold dd at hn;show aW (sP g n m k y) _;unfold sP;rw [hl];refine aW.eqn (v:=a) rfl ((hg.go hm (.refl m) hy (yS hl) hty.1).bind λr1 ⟨g1,⟨u1,v1⟩,t1⟩=>?_);refine aW.eqn (v:=b) rfl ((hg.go hm g1 hy (HG hl) hty.2).bind λr2 ⟨g2,⟨u2,v2⟩,t2⟩=>?_);have fin:=λ(h1:X.N k 0) (h2:sJ k=some (((2:Nat):Int),((4:Nat):Int))) (h3:k ≠ 28/\k ≠ 30/\k ≠ 31)=>YZ (n:=n) hm g2 zb h1 (all4 (t2 _ u1) (t2 _ v1) u2 v2) (K:=λr=>some (r.1,r.2.1,r.2.2)) (Q:=λr=>Gp X W (8*(1+xz a+xz b)) m r.2.2/\xP r.2.2 r.1/\xP r.2.2 r.2.1) (λr hr=>.some ⟨hr.1.more zb,hr.2.1⟩) h2 h3
 rcases hk with rfl | rfl
 ·exact fin (hC.n0 23 zc) rfl zc
 ·exact fin (hC.n0 24 zc) rfl zc
theorem both_b (hC:IW X f c x) {g:oX->aB->Option (Int × Int × oX)} (hg:E2 X f c x sc W Nk (dd+2) n g) (hn:dd<=n):E2 X f c x sc W (λy=>(y.dJ=[124] ∨ y.dJ=[94] ∨ y.dJ=[38])/\Nk y) (dd+1) (n+1) (uI g n):=by
 intro m y hm hy ho hd;obtain ⟨ho,hp⟩:=ho;obtain ⟨a,b,hl,ha,hb,ht,hz⟩:=Ir hy.t (by rcases ho with h | h | h <;> rw [h] <;> decide)
 have hty:a.bR=3/\b.bR=3:=by
  rcases WB ht hp with ⟨h,_⟩ | ⟨_,h⟩
  ·exfalso;rcases ho with h2 | h2 | h2 <;> rw [h2] at h <;> revert h <;> decide
  ·exact h
 rw [hz] at hm hd ⊢;have hn':=hn;unfold dd at hn';obtain ⟨k,ke,k1,k2,k3⟩:=Wf (n:=n) (o:=y.dJ) zb (by rcases ho with h | h | h;exact .inl h;exact .inr (.inl h);exact .inr (.inr (.inl h)));unfold uI;rw [hl,ke];refine aW.eqn (v:=a) rfl ((hg.go hm (.refl m) hy (yS hl) hty.1).bind λr1 ⟨g1,⟨u1,v1⟩,t1⟩=>?_);refine aW.eqn (v:=b) rfl ((hg.go hm g1 hy (HG hl) hty.2).bind λr2 ⟨g2,⟨u2,v2⟩,t2⟩=>?_);refine aW.eqn rfl ((kA hm g2 zb (hC.n0 k k3) (BZ (t2 _ u1) u2) k1 k2).bind λr3 ⟨g3,w3,t3⟩=>aW.eqn rfl ?_);exact (kA hm g3 zb (hC.n0 k k3) (BZ (t3 _ (t2 _ v1)) (t3 _ v2)) k1 k2).bind λr hr=>.some ⟨hr.1.more zb,hr.2.2 _ w3,hr.2.1⟩
theorem Pk (hC:IW X f c x) {m0 m:oX} {B a:Nat} (hm:Mqx f c x B m0) (g:Gp X W a m0 m) {k u v:Int} (hk:xP m k) (hu:xP m u) (hv:xP m v) (hn:dd<=n) (hab:a+3<=B:=by omega) :
  aW (mB n m k u v) (S1 X W (a+3) m0 m):=by
 unfold dd at hn;unfold mB;refine (kA hm g zb (hC.n0 9 zc) (BZ hu hv)).bind λr1 ⟨g1,w1,t1⟩=>?_;refine (kA hm g1 zb (hC.n0 7 zc) (BZ w1 (t1 _ hk))).bind λr2 ⟨g2,w2,t2⟩=>?_;exact (kA hm g2 zb (hC.n0 9 zc) (BZ w2 (t2 _ (t1 _ hv)))).bind λr hr=>.some ⟨hr.1,hr.2.1,λu h=>hr.2.2 _ (t2 _ (t1 _ h))⟩
theorem OS (hC:IW X f c x) {m0 m:oX} {B a:Nat} (hm:Mqx f c x B m0) (g:Gp X W a m0 m) {u v i j:Int} (hu:xP m u) (hv:xP m v) (hi:1<=i/\i<=31) (hj:1<=j/\j<=31) (hn:dd<=n) (hab:a+3<=B:=by omega) :
  aW (iA n m u i v j) (S1 X W (a+3) m0 m):=by
 unfold dd at hn;unfold iA;refine (kA hm g zb (hC.ns 18 i zc hi.1 hi.2) (yM hu)).bind λr1 ⟨g1,w1,t1⟩=>?_;refine (kA hm g1 zb (hC.ns 19 j zc hj.1 hj.2) (yM (t1 _ hv))).bind λr2 ⟨g2,w2,t2⟩=>?_;exact (kA hm g2 zb (hC.n0 8 zc) (BZ (t2 _ w1) w2)).bind λr hr=>.some ⟨hr.1,hr.2.1,λu h=>hr.2.2 _ (t2 _ (t1 _ h))⟩
theorem w32s {k:Int} (h:1<=k) (h2:k<=31):1<=IntKind.u32.wrap (32 - k)/\IntKind.u32.wrap (32 - k)<=31:=by rw [IntKind.wrap_u32];omega
theorem up_g (hC:IW X f c x) {m0 m:oX} {B a:Nat} (hm:Mqx f c x B m0) (g:Gp X W a m0 m) {u v k:Int} (hu:xP m u) (hv:xP m v) (hk:1<=k/\k<=63) (hn:dd<=n) (hab:a+6<=B:=by omega) :
  aW (vW n m u v k) λr=>Gp X W (a+6) m0 r.2.2/\xP r.2.2 r.1/\xP r.2.2 r.2.1:=by
 have hn':=hn;unfold dd at hn';unfold vW;refine aW.iteb (λh=>?_) λh=>?_
 ·have h:=xG h;refine (OS hC hm g hv hu ⟨hk.1,zb⟩ (w32s hk.1 zb) hn).bind λr1 ⟨g1,w1,t1⟩=>?_;exact (kA hm g1 zb (hC.ns 18 k zc hk.1 zb) (yM (t1 _ hu))).bind λr hr=>.some ⟨hr.1.more zb,hr.2.1,hr.2.2 _ w1⟩
 ·have h:=Lj h;refine (by_g hC hm g hu (k:=IntKind.u32.wrap (k - 32)) (by rw [IntKind.wrap_u32];omega) hn).bind λr1 ⟨g1,w1,t1⟩=>?_;exact (kA hm g1 zb (hC.n1 0 .z) oD).bind λr hr=>.some ⟨hr.1.more zb,hr.2.1,hr.2.2 _ w1⟩
theorem down_g (hC:IW X f c x) {m0 m:oX} {B a:Nat} (hm:Mqx f c x B m0) (g:Gp X W a m0 m) {u v k:Int} (hu:xP m u) (hv:xP m v) (hk:1<=k/\k<=63) (hn:dd<=n) (hab:a+6<=B:=by omega) :
  aW (uA n m u v k) λr=>Gp X W (a+6) m0 r.2.2/\xP r.2.2 r.1/\xP r.2.2 r.2.1:=by
 have hn':=hn;unfold dd at hn';unfold uA;refine aW.iteb (λh=>?_) λh=>?_
 ·have h:=xG h;have hw:=w32s hk.1 (by omega:k<=31);refine (kA hm g zb (hC.ns 19 k zc hk.1 zb) (yM hu)).bind λr1 ⟨g1,w1,t1⟩=>?_;refine (kA hm g1 zb (hC.ns 18 _ zc hw.1 hw.2) (yM (t1 _ hv))).bind λr2 ⟨g2,w2,t2⟩=>?_;refine (kA hm g2 zb (hC.n0 8 zc) (BZ (t2 _ w1) w2)).bind λr3 ⟨g3,w3,t3⟩=>?_;exact (kA hm g3 zb (hC.ns 19 k zc hk.1 zb) (yM (t3 _ (t2 _ (t1 _ hv))))).bind λr hr=>.some ⟨hr.1.more zb,hr.2.2 _ w3,hr.2.1⟩
 ·have h:=Lj h;refine (by_g hC hm g hv (k:=IntKind.u32.wrap (k - 32)) (by rw [IntKind.wrap_u32];omega) hn).bind λr1 ⟨g1,w1,t1⟩=>?_;exact (kA hm g1 zb (hC.n1 0 .z) oD).bind λr hr=>.some ⟨hr.1.more zb,hr.2.2 _ w1,hr.2.1⟩
theorem Za (hC:IW X f c x) {m0 m:oX} {B a:Nat} (hm:Mqx f c x B m0) (g:Gp X W a m0 m) {u v k:Int} (hu:xP m u) (hv:xP m v) (hk:1<=k/\k<=63) (hn:dd<=n) (hab:a+6<=B:=by omega) :
  aW (qV n m u v k) λr=>Gp X W (a+6) m0 r.2.2/\xP r.2.2 r.1/\xP r.2.2 r.2.1:=by
 unfold qV
 have key:∀ {p q i:Int},xP m p->xP m q->1<=i/\i<=31->aW ((iA n m q i p (IntKind.u32.wrap (32 - i))).bind λx3=>(iA n x3.2 p i q (IntKind.u32.wrap (32 - i))).bind λx5=>some (x5.1,x3.1,x5.2)) λr=>Gp X W (a+6) m0 r.2.2/\xP r.2.2 r.1/\xP r.2.2 r.2.1:=λ{p q i} hp hq hi=>by
  have hw:=w32s hi.1 hi.2;refine (OS hC hm g hq hp hi hw hn).bind λr1 ⟨g1,w1,t1⟩=>?_;exact (OS hC hm g1 (t1 _ hp) (t1 _ hq) hi hw hn).bind λr hr=>.some ⟨hr.1,hr.2.1,hr.2.2 _ w1⟩
 refine aW.iteb (λh=>?_) λh=>?_
 ·have h:=xG h;have e:IntKind.u32.wrap (k - 32)=k - 32:=by rw [IntKind.wrap_u32];omega
  rw [e];refine aW.iteb (λ_=>.some ⟨g.more zb,hv,hu⟩) λh2=>?_;have h2:k - 32 ≠ 0:=by simpa using h2
  exact key hv hu ⟨zb,zb⟩
 ·have h:=Lj h;refine aW.iteb (λ_=>.some ⟨g.more zb,hu,hv⟩) λh2=>key hu hv ⟨hk.1,zb⟩
theorem moved_b (hC:IW X f c x) {g:oX->aB->Option (Int × Int × oX)} (hg:E2 X f c x sc W Nk (dd+2) n g) (hn:dd<=n):E2 X f c x sc W (λy=>(y.dJ=[60,60] ∨ y.dJ=[62,62] ∨ y.dJ=[60,60,60])/\Nk y) (dd+1) (n+1) (tD g n):=by
 intro m y hm hy ho hd;obtain ⟨ho,hp⟩:=ho;obtain ⟨a,b,hl,ha,hb,ht,hz⟩:=Ir hy.t (by rcases ho with h | h | h <;> rw [h] <;> decide)
 have hty:a.bR=3/\b.N_<=63:=by
  rcases WB ht hp with ⟨_,h⟩ | ⟨h,_⟩
  ·exact h
  ·exfalso;rcases ho with h2 | h2 | h2 <;> rw [h2] at h <;> revert h <;> decide
 have hzb:=IX b;rw [hz] at hm hd ⊢;unfold tD;rw [hl];refine aW.eqn (v:=a) rfl ((hg.go hm (.refl m) hy (yS hl) hty.1).bind λr1 ⟨g1,⟨u1,v1⟩,t1⟩=>?_);refine aW.eqn (v:=b) rfl ?_;have h0:=N_nn hb;refine aW.iteb (λ_=>.some ⟨g1.more zb,u1,v1⟩) λh=>?_;have h:b.N_ ≠ 0:=by simpa using h
 refine aW.iteb (λ_=>(up_g hC hm g1 u1 v1 ⟨zb,hty.2⟩ hn).bind λr hr=>.some ⟨hr.1.more zb,hr.2⟩) λ_=>aW.iteb (λ_=>(down_g hC hm g1 u1 v1 ⟨zb,hty.2⟩ hn).bind λr hr=>.some ⟨hr.1.more zb,hr.2⟩) λ_=>(Za hC hm g1 u1 v1 ⟨zb,hty.2⟩ hn).bind λr hr=>.some ⟨hr.1.more zb,hr.2⟩
theorem VN {y:aB} (h:TX f.aQ sc y) (ho:y.dJ=[115,101,108,101,99,116]):∃k a b,y.aN=[k,a,b]/\Sc k.bR/\y.bR=Iw (uO a.bR b.bR)/\uO a.bR b.bR ≠ 0/\xz y=1+xz k+xz a+xz b:=by
 cases h with
 | sel h1 h2 h3 h4 h5=>exact ⟨_,_,_,rfl,h4,rfl,h5,by rw [xz,nG,nG,nG,nG];omega⟩
 | un h=>exfalso;rcases h with rfl | rfl <;> revert ho <;> simp only <;> decide
 | bin _ _ h=>
   exfalso
   simp only at ho;subst ho
   rcases h with ⟨h,_⟩ | ⟨h,_⟩ | ⟨h,_⟩ | ⟨h,_⟩ | ⟨h,_⟩ <;> revert h <;> decide
 | half h=>exfalso;rcases h with rfl | rfl <;> revert ho <;> simp only <;> decide
 | num=>exact cM ho (by simp only;decide)
 | var=>exact cM ho (by simp only;decide)
 | index=>exact cM ho (by simp only;decide)
 | long=>exact cM ho (by simp only;decide)
 | wide=>exact cM ho (by simp only;decide)
theorem secT_3 {t:Int} (h:Iw t=3):t=3:=by unfold Iw at h;split at h <;> omega
theorem UM (hC:IW X f c x) {g:oX->aB->Option (Int × Int × oX)} {gw:oX->aB->Option (Int × oX)} (hw:E1 X f c x sc W PD (dd+2) n gw) (hg:E2 X f c x sc W Nk (dd+2) n g) (hn:dd<=n):E2 X f c x sc W (λy=>y.dJ=[115,101,108,101,99,116]/\Nk y) (dd+1) (n+1) (pK gw g n):=by
 intro m y hm hy ho hd;obtain ⟨ho,hp⟩:=ho;obtain ⟨k,a,b,hl,hk,ht,_,hz⟩:=VN hy.t ho;obtain ⟨ta,tb⟩:=Wh.1 (secT_3 (ht.symm.trans hp));have:=IX k;rw [hz] at hm hd ⊢;have hn':=hn;unfold dd at hn';unfold pK;rw [hl];refine aW.eqn (v:=k) rfl ((hw.go hm (.refl m) hy (yS hl) (by unfold PD;unfold Sc at hk;omega)).bind λr0 ⟨g0,w0,t0⟩=>?_);refine (kA hm g0 zb (hC.n0 27 zc) (yM w0)).bind λr1 ⟨g1,w1,t1⟩=>?_;refine aW.eqn (v:=a) rfl ((hg.go hm g1 hy (HG hl) ta).bind λr2 ⟨g2,⟨u2,v2⟩,t2⟩=>?_);refine aW.eqn (v:=b) rfl ((hg.go hm g2 hy (Zb hl) tb).bind λr3 ⟨g3,⟨u3,v3⟩,t3⟩=>?_);have w1':=t3 _ (t2 _ w1);refine (Pk hC hm g3 w1' (t3 _ u2) u3 hn).bind λr4 ⟨g4,w4,t4⟩=>?_;exact (Pk hC hm g4 (t4 _ w1') (t4 _ (t3 _ v2)) (t4 _ v3) hn).bind λr hr=>.some ⟨hr.1.more zb,hr.2.2 _ w4,hr.2.1⟩
end
section
variable {X:Lh} {f:aJ} {c:aL} {x:aP} {sc W:List Int} {n:Nat}
theorem one_of {y:aB} {o:cB} (h:y.dJ=o):Lg [o] y:=zU.2 h
theorem word_b (hC:IW X f c x) (hP:PW f.aQ c.aX sc W) {gl gw gs gd gc:oX->aB->Option (Int × oX)} {gp:oX->aB->Option (Int × Int × oX)} (hn:dd<=n)
  (hl:E1 X f c x sc W (Lg [[105,110,100,101,120]]) (dd+1) n gl) (hw:E1 X f c x sc W PD (dd+2) n gw) (hs:E1 X f c x sc W (λy=>Lg [[60,60],[62,62],[60,60,60]] y/\PD y) (dd+1) n gs) (hd:E1 X f c x sc W (Lg [[47],[37]]) (dd+1) n gd) (hp:E2 X f c x sc W Nk (dd+2) n gp) (hc:E1 X f c x sc W (λy=>y.dJ ∈ AK/\∀a b,y.aN=[a,b]->a.bR=3/\b.bR=3) (dd+1) n gc):E1 X f c x sc W PD (dd+2) (n+1) (uF gl gw gs gd gp gc n):=by
 intro m y hm hy h3 hdn;have hn':=hn;unfold dd at hn';have hzp:=IX y;unfold uF;refine (Ww hC hP hm.c hy hn).bind λk hk=>aW.iteb (λh=>?_) λh=>?_
 ·obtain ⟨h1,_⟩:=hk.1 h;exact (kA hm (.refl m) zb (hC.n1 k.1 h1) oD).bind λr hr=>.some ⟨hr.1.more zb,hr.2.1⟩
 have hk:=hk.2;have nc:∀ {p:Prop} (w:Int),y.bR=1->Dn c.aX y=⟨1,w,[]⟩->p:=λw h1 h2=>by rw [hk h1 w h2] at h;cases h
 have same:∀ {P:aB->Prop} {g:oX->aB->Option (Int × oX)},E1 X f c x sc W P (dd+1) n g->P y->aW ((g m y).bind λr=>some (r.1,r.2)) λr=>Gp X W (8*xz y) m r.2/\xP r.2 r.1:=λhg hP=>(hg m y hm hy hP zb).bind λr hr=>.some hr
 have un:∀ {k:Int},(y.dJ=[110,111,116] ∨ y.dJ=[110,101,103])->X.N k 0->sJ k=some (((1:Nat):Int),((1:Nat):Int))->k ≠ 28/\k ≠ 30/\k ≠ 31->aW ((aZ y.aN 0).bind λx19=>(gw m x19).bind λx20=>(aY n x20.2 k 0 [x20.1]).bind λx21=>some (x21.1,x21.2)) λr=>Gp X W (8*xz y) m r.2/\xP r.2 r.1:=λho h1 h2 h4=>by
  obtain ⟨a,e,ht,hz⟩:=Uz hy.t ho;rw [e];refine aW.eqn (v:=a) rfl ((hw.go hm (.refl m) hy (yS e) (by unfold PD at h3 ⊢;rw [ht];exact h3)).bind λr1 ⟨g1,w1,t1⟩=>?_);exact (kA hm g1 zb h1 (yM w1) h2 h4).bind λr hr=>.some ⟨hr.1.more zb,hr.2.1⟩
 have half:(y.dJ=[108,111] ∨ y.dJ=[104,105])->∃a,y.aN=[a]/\a.bR=3/\xz y=1+xz a:=λho=>by
  have ht:=hy.t;cases ht with
  | half q1 q2 q3=>exact ⟨_,rfl,q3,by rw [xz,nG,nG];omega⟩
  | un h=>exfalso;rcases h with rfl | rfl <;> revert ho <;> simp only <;> decide
  | bin _ _ h=>
    exfalso
    simp only at ho
    rcases ho with rfl | rfl <;> rcases h with ⟨h,_⟩ | ⟨h,_⟩ | ⟨h,_⟩ | ⟨h,_⟩ | ⟨h,_⟩ <;> revert h <;> decide
  | num=>exact cM ho (by simp only;decide)
  | var=>exact cM ho (by simp only;decide)
  | index=>exact cM ho (by simp only;decide)
  | sel=>exact cM ho (by simp only;decide)
  | long=>exact cM ho (by simp only;decide)
  | wide=>exact cM ho (by simp only;decide)
 refine aW.iteb (λho=>?_) λn1=>?_
 ·have ho:=xG ho;have ht:=hy.t;cases ht with
  | @var v u a h1 h2 h4=>
    obtain ⟨o,e,ho⟩:=hC.off v u h2
    have hg:NG X o:=ho.g.resolve_left λ⟨q1,⟨t,q2,q3⟩,_⟩=>by
     obtain ⟨t2,q4,q5,_⟩:=hC.ta v u h2 q1;rw [q2] at q4;cases q4
     obtain ⟨w,rfl,_⟩:=q5.con1 q3;exact nc w q1 (LE q2)
    rw [hm.x];refine aW.eqn e ((kA hm (.refl m) zb hg.1 oD).bind λr hr=>.some ⟨hr.1.more zb,hr.2.1⟩)
  | un h=>exfalso;rcases h with rfl | rfl <;> revert ho <;> simp only <;> decide
  | bin _ _ h=>
    exfalso
    simp only at ho;subst ho
    rcases h with ⟨h,_⟩ | ⟨h,_⟩ | ⟨h,_⟩ | ⟨h,_⟩ | ⟨h,_⟩ <;> revert h <;> decide
  | half h=>exfalso;rcases h with rfl | rfl <;> revert ho <;> simp only <;> decide
  | num=>exact cM ho (by simp only;decide)
  | index=>exact cM ho (by simp only;decide)
  | sel=>exact cM ho (by simp only;decide)
  | long=>exact cM ho (by simp only;decide)
  | wide=>exact cM ho (by simp only;decide)
 refine aW.iteb (λho=>same hl (one_of (xG ho))) λn2=>?_;refine aW.iteb (λho=>un (.inl (xG ho)) (hC.n0 16 zc) rfl zc) λn3=>?_;refine aW.iteb (λho=>un (.inr (xG ho)) (hC.n0 17 zc) rfl zc) λn4=>?_;have inl:∀ {o:cB} {l:List cB},y.dJ=o->o ∈ l->Lg l y:=λh h2=>by unfold Lg;rw [h];exact h2
 refine aW.iteb (λho=>same hs ⟨inl (xG ho) zc,h3⟩) λn5=>?_;refine aW.iteb (λho=>same hs ⟨inl (xG ho) zc,h3⟩) λn6=>?_;refine aW.iteb (λho=>same hs ⟨inl (xG ho) zc,h3⟩) λn7=>?_;refine aW.iteb (λho=>same hd (inl (xG ho) zc)) λn8=>?_;refine aW.iteb (λho=>same hd (inl (xG ho) zc)) λn9=>?_;refine aW.iteb (λho=>?_) λn10=>aW.iteb (λho=>?_) λn11=>?_
 ·obtain ⟨a,e,ht,hz⟩:=half (.inl (xG ho));rw [e];exact aW.eqn (v:=a) rfl ((hp.go hm (.refl m) hy (yS e) ht).bind λr hr=>.some ⟨hr.1.more zb,hr.2.1.1⟩)
 ·obtain ⟨a,e,ht,hz⟩:=half (.inr (xG ho));rw [e];exact aW.eqn (v:=a) rfl ((hp.go hm (.refl m) hy (yS e) ht).bind λr hr=>.some ⟨hr.1.more zb,hr.2.1.2⟩)
 refine aW.iteb (λho=>?_) λn12=>?_
 ·obtain ⟨k,a,b,e,hk,ht,h0,hz⟩:=VN hy.t (xG ho)
  have hab:a.bR ≠ 3/\b.bR ≠ 3:=by
   have h4:uO a.bR b.bR ≠ 3:=λh4=>h3 (by rw [ht,h4];rfl);unfold uO at h0 h4
   constructor
   ·intro h5;rw [h5] at h0 h4;split at h0
    ·rw [cX ‹_›] at h4;exact h4 rfl
    ·split at h0 <;> omega
   ·intro h5;rw [h5] at h0 h4;split at h0
    ·rename_i h6;rw [cX h6] at h4;exact h4 h6.1
    ·split at h0 <;> omega
  have:=IX k;rw [e];refine aW.eqn (v:=k) rfl ((hw.go hm (.refl m) hy (yS e) (by unfold PD;unfold Sc at hk;omega)).bind λr0 ⟨g0,w0,t0⟩=>?_);refine (kA hm g0 zb (hC.n0 27 zc) (yM w0)).bind λr1 ⟨g1,w1,t1⟩=>?_;refine aW.eqn (v:=a) rfl ((hw.go hm g1 hy (HG e) hab.1).bind λr2 ⟨g2,w2,t2⟩=>?_);refine aW.eqn (v:=b) rfl ((hw.go hm g2 hy (Zb e) hab.2).bind λr3 ⟨g3,w3,t3⟩=>?_);exact (Pk hC hm g3 (t3 _ (t2 _ w1)) (t3 _ w2) w3 hn).bind λr hr=>.some ⟨hr.1.more zb,hr.2.1⟩
 simp only [decide_eq_false_iff_not] at n1 n2 n3 n4 n5 n6 n7 n8 n9 n10 n11 n12
 have hb:y.dJ ∈ AK:=by
  have ht:=hy.t;cases ht with
  | num=>exact nc _ rfl (HR (T:=c.aX))
  | var=>exact cM rfl n1
  | index=>exact cM rfl n2
  | un h=>rcases h with rfl | rfl;exact cM rfl n3;exact cM rfl n4
  | bin _ _ h=>rcases h with ⟨h | h,_⟩ | ⟨h | h | h,_⟩ | ⟨h,_⟩ | ⟨h | h,_⟩ | ⟨h | h | h | h | h,_⟩ <;> subst h <;> simp only <;> decide
  | sel=>exact cM rfl n12
  | long=>exact cM rfl h3
  | wide=>exact cM rfl h3
  | half h=>rcases h with rfl | rfl;exact cM rfl n10;exact cM rfl n11
 obtain ⟨a,b,e,ha,hbb,ht,hz⟩:=Ir hy.t hb;rw [e];refine aW.eqn (v:=a) rfl (aW.iteb (λh=>?_) λh=>?_)
 ·have h:a.bR=3:=by simpa using h
  refine same hc ⟨hb,λa' b' e'=>?_⟩;rw [e] at e';cases e'
  refine ⟨h,?_⟩
  rcases ht with ⟨q,_⟩ | ⟨q,_⟩ | ⟨_,q,_,q2⟩ | ⟨_,q,_⟩ | ⟨_,q,q2⟩
  ·rcases q with q | q;exact cM q n8;exact cM q n9
  ·rcases q with q | q | q;exact cM q n5;exact cM q n6;exact cM q n7
  ·rw [h] at q;unfold uO at q;split at q;omega;split at q <;> omega
  ·rw [h] at q;unfold uO at q;split at q;omega;split at q <;> omega
  ·rw [h] at q;unfold uO at q;split at q;omega;split at q <;> omega
 ·have h:a.bR ≠ 3:=by simpa using h
  have hbt:b.bR ≠ 3:=by
   intro hb3
   rcases ht with ⟨q,_⟩ | ⟨q,_⟩ | ⟨_,q,_,q2⟩ | ⟨_,q,_⟩ | ⟨_,q,q2⟩
   ·rcases q with q | q;exact cM q n8;exact cM q n9
   ·rcases q with q | q | q;exact cM q n5;exact cM q n6;exact cM q n7
   ·rw [hb3] at q;unfold uO at q;split at q;omega;split at q <;> omega
   ·rw [hb3] at q;unfold uO at q;split at q;omega;split at q <;> omega
   ·rw [hb3] at q;unfold uO at q;split at q;omega;split at q <;> omega
  obtain ⟨k,ke,k1,k2,k3⟩:=Wf (n:=n) (o:=y.dJ) zb (by
   simp only [AK,Di,St,or_false] at hb
   rcases hb with h | h | h | h | h | h | h | h | h | h | h | h | h
   ·exact .inl h
   ·exact .inr (.inl h)
   ·exact .inr (.inr (.inl h))
   ·exact .inr (.inr (.inr (.inr (.inr (.inr (.inr h))))))
   ·exact .inr (.inr (.inr (.inr (.inr (.inr (.inl h))))))
   ·exact cM h n5
   ·exact cM h n6
   ·exact cM h n7
   ·exact .inr (.inr (.inr (.inl h)))
   ·exact .inr (.inr (.inr (.inr (.inl h))))
   ·exact .inr (.inr (.inr (.inr (.inr (.inl h)))))
   ·exact cM h n8
   ·exact cM h n9)
  refine (hw.go hm (.refl m) hy (yS e) h).bind λr1 ⟨g1,w1,t1⟩=>?_;refine aW.eqn (v:=b) rfl ((hw.go hm g1 hy (HG e) hbt).bind λr2 ⟨g2,w2,t2⟩=>aW.eqn ke ?_);exact (kA hm g2 zb (hC.n0 k k3) (BZ (t2 _ w1) w2) k1 k2).bind λr hr=>.some ⟨hr.1.more zb,hr.2.1⟩
end
section
variable {X:Lh} {f:aJ} {c:aL} {x:aP} {sc W:List Int} {n:Nat}
theorem pair_b (hC:IW X f c x) {gp go gm gs gb:oX->aB->Option (Int × Int × oX)} {gu:oX->Int->aB->Option (Int × Int × oX)} {gw:oX->aB->Option (Int × oX)} (hn:dd<=n)
  (hp:E2 X f c x sc W Nk (dd+2) n gp) (ho:E2 X f c x sc W (λy=>y.dJ=[110,101,103]/\Nk y) (dd+1) n go) (hu:∀k:Int,k=23 ∨ k=24->E2 X f c x sc W (λy=>(y.dJ=[43] ∨ y.dJ=[45])/\Nk y) (dd+1) n (λm y=>gu m k y)) (hm':E2 X f c x sc W (λy=>(y.dJ=[60,60] ∨ y.dJ=[62,62] ∨ y.dJ=[60,60,60])/\Nk y) (dd+1) n gm) (hs:E2 X f c x sc W (λy=>y.dJ=[115,101,108,101,99,116]/\Nk y) (dd+1) n gs) (hw:E1 X f c x sc W PD (dd+2) n gw) (hb:E2 X f c x sc W (λy=>(y.dJ=[124] ∨ y.dJ=[94] ∨ y.dJ=[38])/\Nk y) (dd+1) n gb):E2 X f c x sc W Nk (dd+2) (n+1) (uG gp go gu gm gs gw gb n):=by
 intro m y hm hy h3 hdn;have hn':=hn;unfold dd at hn';have hzp:=IX y;unfold uG;have same:∀ {P:aB->Prop} {g:oX->aB->Option (Int × Int × oX)},E2 X f c x sc W P (dd+1) n g->P y->aW ((g m y).bind λr=>some (r.1,r.2.1,r.2.2)) λr=>Gp X W (8*xz y) m r.2.2/\xP r.2.2 r.1/\xP r.2.2 r.2.1:=λhg hP=>(hg m y hm hy hP zb).bind λr hr=>.some hr;unfold Nk at h3;refine aW.iteb (λho=>?_) λn1=>?_
 ·have ho:=xG ho;have ht:=hy.t;cases ht with
  | @var v u a h1 h2 h4=>
    obtain ⟨o,e,ho⟩:=hC.off v u h2;have hk:u.bJ=3:=h3;have hg:NG X o:=ho.g.resolve_left λ⟨q1,_⟩=>by rw [hk] at q1;exact cM q1 zc
    have hz:xz ⟨[118,97,114],u.bJ,0,v,[],a⟩=1:=by rw [xz,nG]
    rw [hz] at hm ⊢;rw [hm.x];refine aW.eqn e ((kA (W:=W) hm (.refl m) zb hg.1 oD).bind λr1 ⟨g1,w1,t1⟩=>?_);exact (kA hm g1 zb (ho.d hk).1 oD).bind λr hr=>.some ⟨hr.1.more zb,hr.2.2 _ w1,hr.2.1⟩
  | un h=>exfalso;rcases h with rfl | rfl <;> revert ho <;> simp only <;> decide
  | bin _ _ h=>
    exfalso
    simp only at ho;subst ho
    rcases h with ⟨h,_⟩ | ⟨h,_⟩ | ⟨h,_⟩ | ⟨h,_⟩ | ⟨h,_⟩ <;> revert h <;> decide
  | half h=>exfalso;rcases h with rfl | rfl <;> revert ho <;> simp only <;> decide
  | num=>exact cM ho (by simp only;decide)
  | index=>exact cM ho (by simp only;decide)
  | sel=>exact cM ho (by simp only;decide)
  | long=>exact cM ho (by simp only;decide)
  | wide=>exact cM ho (by simp only;decide)
 refine aW.iteb (λho=>?_) λn2=>?_
 ·obtain ⟨a,e,ht,hz⟩:=Uz hy.t (.inl (xG ho));rw [e];refine aW.eqn (v:=a) rfl ((hp.go hm (.refl m) hy (yS e) (ht.trans h3)).bind λr1 ⟨g1,⟨u1,v1⟩,t1⟩=>?_);refine (kA hm g1 zb (hC.n0 16 zc) (yM u1)).bind λr2 ⟨g2,w2,t2⟩=>?_;exact (kA hm g2 zb (hC.n0 16 zc) (yM (t2 _ v1))).bind λr hr=>.some ⟨hr.1.more zb,hr.2.2 _ w2,hr.2.1⟩
 refine aW.iteb (λh=>same ho ⟨xG h,h3⟩) λn3=>?_;refine aW.iteb (λh=>same (hu 23 (.inl rfl)) ⟨.inl (xG h),h3⟩) λn4=>?_;refine aW.iteb (λh=>same (hu 24 (.inr rfl)) ⟨.inr (xG h),h3⟩) λn5=>?_;refine aW.iteb (λh=>same hm' ⟨.inl (xG h),h3⟩) λn6=>?_;refine aW.iteb (λh=>same hm' ⟨.inr (.inl (xG h)),h3⟩) λn7=>?_;refine aW.iteb (λh=>same hm' ⟨.inr (.inr (xG h)),h3⟩) λn8=>?_;refine aW.iteb (λh=>same hs ⟨xG h,h3⟩) λn9=>?_;refine aW.iteb (λhq=>?_) λn10=>aW.iteb (λhq=>?_) λn11=>?_
 ·have ho:=xG hq;clear hq
  have:∃a,y.aN=[a]/\Sc a.bR/\xz y=1+xz a:=by
   have ht:=hy.t;cases ht with
   | long q1 q2=>exact ⟨_,rfl,q2,by rw [xz,nG,nG];omega⟩
   | un h=>exfalso;rcases h with rfl | rfl <;> revert ho <;> simp only <;> decide
   | bin _ _ h=>
     exfalso
     simp only at ho;subst ho
     rcases h with ⟨h,_⟩ | ⟨h,_⟩ | ⟨h,_⟩ | ⟨h,_⟩ | ⟨h,_⟩ <;> revert h <;> decide
   | half h=>exfalso;rcases h with rfl | rfl <;> revert ho <;> simp only <;> decide
   | num=>exact cM ho (by simp only;decide)
   | var=>exact cM ho (by simp only;decide)
   | index=>exact cM ho (by simp only;decide)
   | sel=>exact cM ho (by simp only;decide)
   | wide=>exact cM ho (by simp only;decide)
  obtain ⟨a,e,hk,hz⟩:=this;rw [e];refine aW.eqn (v:=a) rfl ((hw.go hm (.refl m) hy (yS e) (by unfold PD;unfold Sc at hk;omega)).bind λr1 ⟨g1,w1,t1⟩=>?_);exact (kA hm g1 zb (hC.n1 0 .z) oD).bind λr hr=>.some ⟨hr.1.more zb,hr.2.2 _ w1,hr.2.1⟩
 ·have ho:=xG hq;clear hq
  have:∃a b,y.aN=[a,b]/\Sc a.bR/\Sc b.bR/\xz y=1+xz a+xz b:=by
   have ht:=hy.t;cases ht with
   | wide q1 q2 q3 q4=>exact ⟨_,_,rfl,q3,q4,by rw [xz,nG,nG,nG];omega⟩
   | un h=>exfalso;rcases h with rfl | rfl <;> revert ho <;> simp only <;> decide
   | bin _ _ h=>
     exfalso
     simp only at ho;subst ho
     rcases h with ⟨h,_⟩ | ⟨h,_⟩ | ⟨h,_⟩ | ⟨h,_⟩ | ⟨h,_⟩ <;> revert h <;> decide
   | half h=>exfalso;rcases h with rfl | rfl <;> revert ho <;> simp only <;> decide
   | num=>exact cM ho (by simp only;decide)
   | var=>exact cM ho (by simp only;decide)
   | index=>exact cM ho (by simp only;decide)
   | sel=>exact cM ho (by simp only;decide)
   | long=>exact cM ho (by simp only;decide)
  obtain ⟨a,b,e,hk,hk2,hz⟩:=this;rw [e];refine aW.eqn (v:=a) rfl ((hw.go hm (.refl m) hy (yS e) (by unfold PD;unfold Sc at hk;omega)).bind λr1 ⟨g1,w1,t1⟩=>?_);refine aW.eqn (v:=b) rfl ((hw.go hm g1 hy (HG e) (by unfold PD;unfold Sc at hk2;omega)).bind λr2 ⟨g2,w2,t2⟩=>?_);exact YZ hm g2 zb (hC.n0 26 zc) (BZ (t2 _ w1) w2) (K:=λr=>some (r.1,r.2.1,r.2.2)) λr hr=>.some ⟨hr.1.more zb,hr.2.1⟩
 simp only [decide_eq_false_iff_not] at n1 n2 n3 n4 n5 n6 n7 n8 n9 n10 n11;refine same hb ⟨?_,h3⟩;have ht:=hy.t;cases ht with
 | num=>exact cM (show (1:Int)=3 from h3) zc
 | var=>exact cM rfl n1
 | index=>exact cM (show (2:Int)=3 from h3) zc
 | un h=>rcases h with rfl | rfl;exact cM rfl n2;exact cM rfl n3
 | bin q1 q2 h=>
   rcases WB h h3 with ⟨q | q | q,_⟩ | ⟨q | q | q | q | q,_⟩
   ·exact cM q n6
   ·exact cM q n7
   ·exact cM q n8
   ·exact .inl q
   ·exact .inr (.inl q)
   ·exact .inr (.inr q)
   ·exact cM q n4
   ·exact cM q n5
 | sel=>exact cM rfl n9
 | long=>exact cM rfl n10
 | wide=>exact cM rfl n11
 | half h=>exact cM (show (2:Int)=3 from h3) zc
theorem wgrp (hC:IW X f c x) (hP:PW f.aQ c.aX sc W):∀n:Nat,E1 X f c x sc W PD (dd+2) n (bE n).1/\E1 X f c x sc W (Lg [[105,110,100,101,120]]) (dd+1) n (bE n).2.1/\E1 X f c x sc W (λy=>Lg [[60,60],[62,62],[60,60,60]] y/\PD y) (dd+1) n (bE n).2.2.1/\E1 X f c x sc W (Lg [[47],[37]]) (dd+1) n (bE n).2.2.2.1/\E2 X f c x sc W Nk (dd+2) n (bE n).2.2.2.2.1 ∧
  E1 X f c x sc W (λy=>y.dJ ∈ AK/\∀a b,y.aN=[a,b]->a.bR=3/\b.bR=3) (dd+1) n (bE n).2.2.2.2.2.1/\E2 X f c x sc W (λy=>y.dJ=[110,101,103]/\Nk y) (dd+1) n (bE n).2.2.2.2.2.2.1/\(∀k:Int,k=23 ∨ k=24->E2 X f c x sc W (λy=>(y.dJ=[43] ∨ y.dJ=[45])/\Nk y) (dd+1) n (λm y=>(bE n).2.2.2.2.2.2.2.1 m k y))/\E2 X f c x sc W (λy=>(y.dJ=[60,60] ∨ y.dJ=[62,62] ∨ y.dJ=[60,60,60])/\Nk y) (dd+1) n (bE n).2.2.2.2.2.2.2.2.1 ∧
  E2 X f c x sc W (λy=>y.dJ=[115,101,108,101,99,116]/\Nk y) (dd+1) n (bE n).2.2.2.2.2.2.2.2.2.1/\E2 X f c x sc W (λy=>(y.dJ=[124] ∨ y.dJ=[94] ∨ y.dJ=[38])/\Nk y) (dd+1) n (bE n).2.2.2.2.2.2.2.2.2.2
 | 0=>by
   have h1:∀ {P:aB->Prop} {d:Nat} {g},E1 X f c x sc W P (dd+d) 0 g:=λm y _ _ _ h=>by unfold dd at h;omega
   have h2:∀ {P:aB->Prop} {d:Nat} {g},E2 X f c x sc W P (dd+d) 0 g:=λm y _ _ _ h=>by unfold dd at h;omega
   exact ⟨h1,h1,h1,h1,h2,h1,h2,λ_ _=>h2,h2,h2,h2⟩
 | n+1=>by
   obtain ⟨a1,a2,a3,a4,a5,a6,a7,a8,a9,a10,a11⟩:=wgrp hC hP n
   by_cases hn:dd<=n
   ·exact ⟨word_b hC hP hn a2 a1 a3 a4 a5 a6,load_b hC hP a1 hn,shift_b hC hP a1 hn,zaI hC hP a1 hn,pair_b hC hn a5 a7 a8 a9 a10 a1 a11,XY hC a5 hn,US hC a5 hn,λk hk=>sum_b hC a5 hn hk,moved_b hC a5 hn,UM hC a1 a5 hn,both_b hC a5 hn⟩
   ·have h1:∀ {P:aB->Prop} {d:Nat} {g},E1 X f c x sc W P (dd+d) (n+1) g:=λm y _ _ _ h=>by have:=IX y;omega
    have h2:∀ {P:aB->Prop} {d:Nat} {g},E2 X f c x sc W P (dd+d) (n+1) g:=λm y _ _ _ h=>by have:=IX y;omega
    exact ⟨h1,h1,h1,h1,h2,h1,h2,λ_ _=>h2,h2,h2,h2⟩
end
section
variable {X:Lh} {f:aJ} {c:aL} {x:aP} {sc W:List Int} {n:Nat}
theorem aW.skip {α:Type} {b:Bool} {p q:Option α} {Q:α->Prop} (h:b=false) (k:aW q Q):aW (if b=true then p else q) Q:=by rw [cE (by rw [h];decide)];exact k
theorem aW.take {α:Type} {b:Bool} {p q:Option α} {Q:α->Prop} (h:b=true) (k:aW p Q):aW (if b=true then p else q) Q:=by rw [cX h];exact k
theorem GE (hC:IW X f c x) (hP:PW f.aQ c.aX sc W) {m0 m:oX} {B a:Nat} (hm:Mqx f c x B m0) (gp:Gp X W a m0 m) {y:aB} (hy:Ey f c sc y) (h3:y.bR ≠ 3) (hn:2*dd<=n) (hab:a+8*xz y<=B:=by omega):aW (kV n m y) (S1 X W (a+8*xz y) m0 m):=
 ((wgrp hC hP n).1 m y (hm.go gp hab) hy h3 (by have:=hy.z;unfold dd at hn ⊢;omega)).mono λr hr=>⟨gp.trans hr.1,hr.2,λu hu=>hu.mono hr.1 (hm.go (b:=0) gp zb).mo⟩
theorem ZL (hC:IW X f c x) (hP:PW f.aQ c.aX sc W) {m0 m:oX} {B a:Nat} (hm:Mqx f c x B m0) (gp:Gp X W a m0 m) {y:aB} (hy:Ey f c sc y) (h3:y.bR=3) (hn:2*dd<=n) (hab:a+8*xz y<=B:=by omega):aW (vX n m y) (S2 X W (a+8*xz y) m0 m):=
 ((wgrp hC hP n).2.2.2.2.1 m y (hm.go gp hab) hy h3 (by have:=hy.z;unfold dd at hn ⊢;omega)).mono λr hr=>⟨gp.trans hr.1,hr.2,λu hu=>hu.mono hr.1 (hm.go (b:=0) gp zb).mo⟩
theorem KR {m0 m:oX} {B a:Nat} (hm:Mqx f c x B m0) (g:Gp X W a m0 m) (hn:2*dd<=n) {o r:Int} (hN:X.N 3 (IntKind.u32.wrap o)) (hr:xP m r) (hab:a+1<=B:=by omega):aW (jX n m o r) λm2=>Gp X W (a+1) m0 m2/\∀u,xP m u->xP m2 u:=by
 unfold jX;unfold dd at hn;exact (put_g hm g zb hN (yM hr)).bind λr hr=>.some hr
theorem VM (hC:IW X f c x) (hP:PW f.aQ c.aX sc W) {m0 m:oX} {B a:Nat} (hm:Mqx f c x B m0) (gp:Gp X W a m0 m) {y:aB} (hy:Ey f c sc y) {o:Int} (h1:X.N 3 (IntKind.u32.wrap o)) (h2:y.bR=3->X.N 3 (IntKind.u32.wrap (IntKind.i64.wrap (o+4)))) (hn:2*dd<=n) (hab:a+8*xz y+2<=B:=by omega):aW (kD n m y o) λr=>Gp X W (a+8*xz y+2) m0 r:=by
 unfold kD;refine aW.iteb (λh=>?_) λh=>?_
 ·have h:y.bR=3:=by simpa using h
  refine (ZL hC hP hm gp hy h hn).bind λr ⟨g1,⟨u1,v1⟩,t1⟩=>?_;refine (KR hm g1 hn h1 u1).bind λm2 ⟨g2,t2⟩=>?_;exact (KR hm g2 hn (h2 h) (t2 _ v1)).bind λm3 h3=>.some h3.1
 ·have h:y.bR ≠ 3:=by simpa using h
  refine (GE hC hP hm gp hy h hn).bind λr ⟨g1,u1,t1⟩=>?_;exact (KR hm g1 hn h1 u1).bind λm2 h2=>.some (h2.1.more zb)
theorem arr_l1 {m0:oX} {B a:Nat} (hm:Mqx f c x B m0) {u:aK} (hu:Bo u.jR) {s:aA} {o:Int} (ho:aZ x.zS s.fB=some o) (hA:∀k:Int,0<=k->k<u.jR->X.N 3 (IntKind.u32.wrap (IntKind.i64.wrap (o+IntKind.i64.wrap (4*k))))) {z:Int × oX} (hn:2*dd<=n) (hB:a+1025<=B):∀(k v:Nat) (m:oX),u.jR<v+k->(v:Int)<=u.jR->Gp X W (a+v) m0 m->xP m z.1->aW (vN n u s z k (v:Int) m) λr=>Gp X W (a+1025) m0 r:=by
 have hu':u.jR<=1024:=by rcases hu with h | h <;> omega
 intro k
 induction k with
 | zero=>intro v m h1 h2;omega
 | succ k ih=>
   intro v m h1 h2 g hz;unfold vN;refine aW.iteb (λh=>?_) λh=>.some (g.more zb);have h:=xG h;have hm2:=hm.go (b:=0) g zb;rw [hm2.x];refine aW.eqn ho ((KR hm g hn (hA v zb h) hz).bind λm2 ⟨g2,t2⟩=>?_);rw [dB (n:=(v:Int)+1) zb zb,show ((v:Int)+1)=((v+1:Nat):Int) by omega];exact ih (v+1) m2 zb zb g2 (t2 _ hz)
inductive LnS (X:Lh) (f:aJ) (c:aL) (x:aP) (sc:List Int):aA->Prop
 | bind {o v y a}:o=[108,101,116] ∨ o=[118,97,114] ∨ o=[115,101,116]->Ey f c sc y->(∀off,aZ x.zS v=some off->0<=off->X.N 3 (IntKind.u32.wrap off)/\(y.bR=3->X.N 3 (IntKind.u32.wrap (IntKind.i64.wrap (off+4)))))->(∃off,aZ x.zS v=some off)->LnS X f c x sc ⟨o,v,0,[y],[],[],a⟩
 | arr {v u o a}:aZ f.aQ v=some u->Bo u.jR->aZ x.zS v=some o->(∀k:Int,0<=k->k<u.jR->X.N 3 (IntKind.u32.wrap (IntKind.i64.wrap (o+IntKind.i64.wrap (4*k)))))->LnS X f c x sc ⟨[97,114,114],v,0,[],[],[],a⟩
 | put {v u i y a}:aZ f.aQ v=some u->u.bJ=4->Ey f c sc i->i.bR=1->tm (Dn c.aX i)<=2000->Ey f c sc y->y.bR ≠ 3->LnS X f c x sc ⟨[112,117,116],v,0,[i,y],[],[],a⟩
 | ret {y a}:Ey f c sc y->KC y.bR f.bO->LnS X f c x sc ⟨[114,101,116,117,114,110],-1,0,[y],[],[],a⟩
theorem line_g (hC:IW X f c x) (hP:PW f.aQ c.aX sc W) {s:aA} (hs:LnS X f c x sc s) {m:oX} {B:Nat} (hm:Mqx f c x B m) (hB:8*nG s.aN+1030<=B) (hn:2*dd<=n):aW (qW n m s) λr=>Gp X W (8*nG s.aN+1030) m r:=by
 unfold qW;have hn':=hn;unfold dd at hn';cases hs with
 | @bind o v y a ho hy hN hoff=>
   obtain ⟨off,eo⟩:=hoff;rw [nG,nG] at hB ⊢
   have key:aW ((aZ m.x_.zS v).bind λx3=>if (decide ((0:Int)<=x3))=true then (aZ [y] (0:Int)).bind λx9=>(kD n m x9 x3).bind λx10=>some x10 else some m) λr=>Gp X W (8*(xz y+0)+1030) m r:=by
    rw [hm.x];refine aW.eqn eo (aW.iteb (λh=>?_) λ_=>.some ((Gp.refl m).more zb));obtain ⟨q1,q2⟩:=hN off eo (xG h);exact aW.eqn rfl ((VM hC hP hm (.refl m) hy q1 q2 hn).bind λr hr=>.some (hr.more zb))
   refine aW.iteb (λ_=>key) λn1=>aW.iteb (λ_=>key) λn2=>aW.iteb (λ_=>key) λn3=>?_
   exfalso
   rcases ho with h | h | h
   ·exact Lj n1 h
   ·exact Lj n2 h
   ·exact Lj n3 h
 | @arr v u o a hv hk ho hA=>
   refine aW.skip rfl (aW.skip rfl (aW.skip rfl (aW.skip rfl (aW.take rfl ?_))));refine (kA (W:=W) hm (.refl m) zb (hC.n1 0 .z) oD).bind λr1 ⟨g1,w1,t1⟩=>?_;have hm1:=hm.go (b:=0) g1 zb;rw [hm1.f];refine aW.eqn hv ?_;exact (arr_l1 (a:=0+1) (z:=r1) (s:=⟨[97,114,114],v,0,[],[],[],a⟩) hm hk ho hA hn zb n 0 r1.2 (by rcases hk with h | h <;> omega) (by rcases hk with h | h <;> omega) g1 w1).bind λr hr=>.some (hr.more zb)
 | @put v u i y a hv hk hi hti hli hy hty=>
   rw [nG,nG,nG] at hB ⊢;refine aW.skip rfl (aW.skip rfl (aW.skip rfl (aW.skip rfl (aW.skip rfl (aW.take rfl ?_)))));refine aW.eqn (v:=i) rfl ((GE hC hP hm (.refl m) hi zb hn).bind λr1 ⟨g1,w1,t1⟩=>?_);refine (SF hC hP hm g1 hi hti hli hv hk w1 (by unfold dd;omega)).bind λm2 ⟨g2,t2⟩=>?_;refine aW.eqn (v:=y) rfl ((GE hC hP hm g2 hy hty hn).bind λr3 ⟨g3,w3,t3⟩=>?_);refine (za9 hC hm g3 hv hk (by unfold dd;omega)).bind λr4 ⟨g4,w4,t4⟩=>?_;exact (put_g hm g4 zb (hC.n0 6 zc) (za8 w4 (t4 _ (t3 _ (t2 _ w1))) (t4 _ w3))).bind λr hr=>.some (hr.1.more zb)
 | @ret y a hy hft=>
   rw [nG,nG] at hB ⊢;refine aW.skip rfl (aW.skip rfl (aW.skip rfl (aW.take rfl ?_)));obtain ⟨q1,q2⟩:=hC.res sc y hy.t hft;rw [hm.x];exact aW.eqn rfl ((VM hC hP hm (.refl m) hy q1 q2 hn).bind λr hr=>.some (hr.more zb))
end
mutual
def arS:aA->List Int
 | ⟨o,v,_,_,b,e,_⟩=>(if o=[97,114,114] then [v] else [])++(arL b++arL e)
def arL:List aA->List Int
 | []=>[]
 | s::l=>arS s++arL l
end
mutual
def nOp:bB->Nat
 | ⟨_,a,b,d,_,_,_,_,l,e⟩=>a.iH.length+b.iH.length+d.iH.length+CF l+CF e
def CF:List bB->Nat
 | []=>0
 | x::l=>nOp x+CF l
end
theorem zaa (a b:List bB):CF (a++b)=CF a+CF b:=by
 induction a with
 | nil=>rw [AE,CF,Lk]
 | cons x a ih=>rw [Ri,CF,CF,ih,xdr]
inductive YF (X:Lh):List Int->bB->Prop
 | line {W os ns r}:Ql X W 0 os ns r->YF X W ⟨1,⟨os,ns⟩,cU.Z,cU.Z,aF.Z,aF.Z,aF.Z,0,[],[]⟩
 | Ln {W os ns r a t b e}:Ql X W 0 os ns r->GnO X r 31 0 [] [a] r->TK W t->t.dJ ≠ 1->(∀n ∈ b,YF X W n)->(∀n ∈ e,YF X W n)->b.length<=100000000->e.length<=100000000->YF X W ⟨2,⟨os++[Jx 31 0 [] [a]],ns⟩,⟨[],[]⟩,⟨[],[]⟩,t,⟨0,0,[]⟩,⟨0,0,[]⟩,0,b,e⟩
 | Ba {W w os ns r os2 ns2 r2 a os3 ns3 r3 lo hi b}:Ql X W 0 os ns r->Ql X W 0 os2 ns2 r2->GnO X r2 31 0 [] [a] r2->Ql X W 0 os3 ns3 r3->TK W lo->TK W hi->4<=w->w<=254->w ∉ W->(∀n ∈ b,YF X (W++[w]) n)->b.length<=100000000->YF X W ⟨3,⟨os,ns⟩,⟨os2++[Jx 31 0 [] [a]],ns2⟩,⟨os3,ns3⟩,⟨0,0,[]⟩,lo,hi,w,b,[]⟩
def bgm (m:oX):oX:={ m with p_:=⟨[],[]⟩,dK:=0 }
theorem JO (m:oX):kE m=some (bgm m):=rfl
structure Mb (f:aJ) (c:aL) (x:aP) (m:oX):Prop where
 f:m.f_=f
 c:m.c_=c
 x:m.x_=x
 mo:Mo m
structure Sm (X:Lh) (W:List Int) (m:oX) (out:List bB) (r:List bB × oX) (K:Nat):Prop where
 f:r.2.f_=m.f_
 c:r.2.c_=m.c_
 x:r.2.x_=m.x_
 e:r.2.e_=0->m.e_=0
 ok:r.2.e_=0->YG m->YG r.2/\∃ns,r.1=out++ns/\(∀n ∈ ns,YF X W n)/\r.2.cW=m.cW+CF ns
 len:r.1.length<=out.length+K
section
variable {X:Lh} {f:aJ} {c:aL} {x:aP} {sc W:List Int} {n:Nat}
theorem Mb.bg {m:oX} (h:Mb f c x m) {B:Nat} (hB:B<=1000000000):Mqx f c x B (bgm m):=
 ⟨h.f,h.c,h.x,λe=>⟨(h.mo e).c,by have:=(h.mo e).c;show (0:Int)<=0/\(0:Int)<=2*m.cW;omega⟩,by simpa [bgm] using hB,by simpa [bgm] using hB⟩
theorem Mb.of {m m1:oX} (h:Mb f c x m) {a:Nat} (g:Gp X W a (bgm m) m1) (hB:a<=1000000000):Mb f c x m1:=⟨g.f.trans h.f,g.c.trans h.c,g.x.trans h.x,g.mo (h.bg hB).mo⟩
theorem Mb.bl {m:oX} (h:Mb f c x m) {out:List bB} {r:List bB × oX} {K:Nat} (g:Sm X W m out r K):Mb f c x r.2:=⟨g.f.trans h.f,g.c.trans h.c,g.x.trans h.x,λe=>(g.ok e (h.mo (g.e e))).1⟩
theorem Sm.refl (m:oX) (out:List bB):Sm X W m out (out,m) 0:=⟨rfl,rfl,rfl,λh=>h,λ_ h=>⟨h,[],(Fu _).symm,oD,by rw [CF];simp⟩,uZ _⟩
theorem Sm.app {m:oX} {out:List bB} {r z:List bB × oX} {K K2:Nat} (h:Sm X W m [] r K) (k:Sm X W r.2 (out++r.1) z K2):Sm X W m out z (K+K2):=
 ⟨k.f.trans h.f,k.c.trans h.c,k.x.trans h.x,λe=>h.e (k.e e),λe hm=>by
  obtain ⟨m1,ns,a1,a2,a3⟩:=h.ok (k.e e) hm;obtain ⟨m2,ns',b1,b2,b3⟩:=k.ok e m1;rw [AE] at a1;refine ⟨m2,ns++ns',by rw [b1,a1,Mi],λn hn=>(yU.1 hn).elim (a2 n) (b2 n),by rw [b3,a3,zaa];omega⟩,by have:=h.len;have:=k.len;simp only [oY,sY] at *;omega⟩
theorem Gp.part {m m1:oX} {a:Nat} (h:Gp X W a (bgm m) m1) (e:m1.e_=0) (hm:YG m):YG m1/\Ql X W 0 m1.p_.iH m1.p_.cO m1.dK/\m1.cW=m.cW+m1.p_.iH.length:=by
 obtain ⟨h1,os,ns,h2,h3,h4,h5⟩:=h.ok e ⟨hm.c,by have:=hm.c;show (0:Int)<=0/\(0:Int)<=2*m.cW;omega⟩;rw [show (bgm m).p_.iH=[] from rfl,AE] at h2;rw [show (bgm m).p_.cO=[] from rfl,AE] at h3;rw [h2,h3];exact ⟨h1,h5,h4⟩
theorem Zn (hC:IW X f c x) {m m1:oX} {a:Nat} (hm:Mb f c x m) (g:Gp X W a (bgm m) m1) {r:Int} (hr:xP m1 r) (hn:2*dd<=n) (hB:a+1<=1000000000):aW (fJ n m1 31 0 [r]) λq=>Mb f c x q.2/\q.2.f_=m.f_/\q.2.c_=m.c_/\q.2.x_=m.x_/\(q.2.e_=0->m1.e_=0/\m.e_=0)/\(q.2.e_=0->YG m->YG q.2/\q.2.cW=m.cW+q.2.p_.iH.length/\∃rr,Ql X W 0 m1.p_.iH m1.p_.cO rr/\GnO X rr 31 0 [] [r] rr/\q.2.p_=⟨m1.p_.iH++[Jx 31 0 [] [r]],m1.p_.cO⟩):=by
 unfold dd at hn;have h1:=(hm.bg (B:=a+1) hB).go (b:=1) g (uZ _);refine (OA (X:=X) (j:=0) (i:=1) rfl zc zb h1.mo (by have:=h1.lo;omega) (hC.n0 31 zc) rfl (yM hr)).mono λq hq=>?_;have hto:=List.length_eq_zero_iff.1 hq.len;refine ⟨⟨hq.f.trans (g.f.trans hm.f),hq.c.trans (g.c.trans hm.c),hq.x.trans (g.x.trans hm.x),λe=>(hq.ok e).1⟩,hq.f.trans g.f,hq.c.trans g.c,hq.x.trans g.x,λe=>⟨hq.e e,g.e (hq.e e)⟩,λe hmm=>?_⟩;obtain ⟨k1,k2,k3,k4⟩:=hq.ok e;rw [hto] at k2 k4;obtain ⟨p1,p2,p3⟩:=g.part (hq.e e) hmm;refine ⟨k1,by rw [k3,p3,k2,oY];simp;omega,m1.dK,p2,?_,?_⟩
 ·have e2:q.2.dK=m1.dK:=by
   rcases k4.to with ⟨_,h⟩ | ⟨h,_⟩ | ⟨h,_⟩
   ·exact h
   ·cases h
   ·cases h
  rw [e2] at k4;exact k4
 ·rw [←k2,←hq.ns]
end
structure Hq (X:Lh) (f:aJ) (c:aL) (x:aP) (L dv:List Int) (kf:Nat) (ss:List aA):Prop where
 q:∀y ∈ RD ss,QX c.aX L y
 l:∀p ∈ RE ss,LtX c.aX L dv p
 fr:∀(j:Nat) v,(wZ ss)[j]? = some v->aZ c.aX v=some ⟨2,((4+kf+j:Nat):Int),[]⟩/\kN c v=some ((4+kf+j:Nat):Int)/\kf+j<c.gM.length
 ar:∀v ∈ arL ss,∀u o,aZ f.aQ v=some u->aZ x.zS v=some o->∀k:Int,0<=k->k<u.jR->X.N 3 (IntKind.u32.wrap (IntKind.i64.wrap (o+IntKind.i64.wrap (4*k))))
 z:wF ss<=50000000
section
variable {X:Lh} {f:aJ} {c:aL} {x:aP} {sc W L dv:List Int} {n kf:Nat} {s:aA} {l:List aA}
theorem TY:arL (s::l)=(if s.dJ=[97,114,114] then [s.fB] else [])++(arL s.bH++(arL s.eG++arL l)):=by
 cases s;rw [arL,arS];simp only [Mi]
theorem Hq.parts (h:Hq X f c x L dv kf (s::l)):(∀y ∈ LY s,QX c.aX L y)/\(∀p ∈ ltO s,LtX c.aX L dv p)/\(∀v ∈ (if s.dJ=[97,114,114] then [s.fB] else []),v ∈ arL (s::l))/\Hq X f c x L dv (kf+(DP s).length) s.bH/\Hq X f c x L dv (kf+(DP s).length+(wZ s.bH).length) s.eG/\Hq X f c x L dv (kf+(DP s).length+(wZ s.bH).length+(wZ s.eG).length) l:=by
 obtain ⟨_,d2,d3,d4⟩:=Eu s l;have hz:=h.z;rw [yW] at hz;have m1:∀ {α:Type} {a b c d:List α} {y:α},y ∈ a->y ∈ a++(b++(c++d)):=λh=>GC _ h;have m2:∀ {α:Type} {a b c d:List α} {y:α},y ∈ b->y ∈ a++(b++(c++d)):=λh=>IU _ (GC _ h);have m3:∀ {α:Type} {a b c d:List α} {y:α},y ∈ c->y ∈ a++(b++(c++d)):=λh=>IU _ (IU _ (GC _ h));have m4:∀ {α:Type} {a b c d:List α} {y:α},y ∈ d->y ∈ a++(b++(c++d)):=λh=>IU _ (IU _ (IU _ h));have q:=h.q;have l':=h.l;have fr:=h.fr;have ar:=h.ar;rw [d3] at q;rw [d4] at l';rw [d2] at fr;rw [TY] at ar;refine ⟨λy hy=>q y (m1 hy),λp hp=>l' p (m1 hp),λv hv=>by rw [TY];exact m1 hv,⟨λy hy=>q y (m2 hy),λp hp=>l' p (m2 hp),λj v hv=>?_,λv hv=>ar v (m2 hv),zb⟩,⟨λy hy=>q y (m3 hy),λp hp=>l' p (m3 hp),λj v hv=>?_,λv hv=>ar v (m3 hv),zb⟩,⟨λy hy=>q y (m4 hy),λp hp=>l' p (m4 hp),λj v hv=>?_,λv hv=>ar v (m4 hv),zb⟩⟩
 ·have:=fr ((DP s).length+j) v (by rw [Mh zb,xdo,Py (xW.1 hv).1];exact hv)
  rwa [show 4+kf+((DP s).length+j)=4+(kf+(DP s).length)+j by omega,←xdr kf] at this
 ·have:=fr ((DP s).length+((wZ s.bH).length+j)) v (by rw [Mh zb,xdo,Mh zb,xdo,Py (xW.1 hv).1];exact hv)
  rwa [show 4+kf+((DP s).length+((wZ s.bH).length+j))=4+(kf+(DP s).length+(wZ s.bH).length)+j by omega,show kf+((DP s).length+((wZ s.bH).length+j))=kf+(DP s).length+(wZ s.bH).length+j by omega] at this
 ·have:=fr ((DP s).length+((wZ s.bH).length+((wZ s.eG).length+j))) v (by rw [Mh zb,xdo,Mh zb,xdo,Mh zb,xdo];exact hv)
  rwa [show 4+kf+((DP s).length+((wZ s.bH).length+((wZ s.eG).length+j)))=4+(kf+(DP s).length+(wZ s.bH).length+(wZ s.eG).length)+j by omega,show kf+((DP s).length+((wZ s.bH).length+((wZ s.eG).length+j)))=kf+(DP s).length+(wZ s.bH).length+(wZ s.eG).length+j by omega] at this
theorem Hq.ey (h:Hq X f c x L dv kf (s::l)) {y:aB} (hy:y ∈ s.aN) (ht:TX f.aQ sc y):Ey f c sc y:=by
 have hz:=h.z;rw [yW] at hz;have:=yI hy;refine ⟨ht,λz hz=>(h.parts.1 z ?_).2.2.1,zb⟩;unfold LY;exact IU _ (Tt hy hz)
end
def QK (n:Nat) (s:aA) (out:List bB) (m:oX):Option ((List bB × oX) ⊕ (List bB × oX)):=
 if (m.e_ != (0:Int))=true then some (.inr ([],m))
 else if (decide (s.dJ=[105,102]))=true then (kI n m s).bind λx=>iN (out.length+x.1.length<=1073741824) <| some (.inl (out++x.1,x.2))
 else if (decide (s.dJ=[102,111,114]))=true then (lZ n m s).bind λx=>iN (out.length+[x.1].length<=1073741824) <| some (.inl (out++[x.1],x.2))
 else (kE m).bind λx30=>(qW n x30 s).bind λx=>
  if (decide ((0:Int)<(x.p_.iH.length:Int)))=true then iN (out.length+[(bB.mk (1:Int) x.p_ cU.Z cU.Z aF.Z aF.Z aF.Z (0:Int) [] [])].length<=1073741824) <| some (.inl (out++[(bB.mk (1:Int) x.p_ cU.Z cU.Z aF.Z aF.Z aF.Z (0:Int) [] [])],x))
  else some (.inl (out,x))
theorem bl_step {n:Nat} {full:List aA} {k v:Nat} {s:aA} {out:List bB} {m:oX} {Q:(List bB × oX) ⊕ (List bB × oX)->Prop} (hg:full[v]? = some s) (hl:full.length<=100000000)
  (h:aW (QK n s out m) λz=>(∀d,z=.inl d->aW (jK (kI n) (lZ n) n full k d.1 ((v+1:Nat):Int) d.2) Q)/\∀d,z=.inr d->Q (.inr d)):aW (jK (kI n) (lZ n) n full (k+1) out (v:Int) m) Q:=by
 have hlt:=(xW.1 hg).1;unfold jK;refine aW.iteb (λ_=>?_) λh=>cM h (by rw [Ah zb];decide);refine aW.bind (aW.eqn (pU hg) h) λz hz=>?_;rw [show IntKind.i64.wrap ((v:Int)+1)=((v+1:Nat):Int) by rw [dB zb zb];omega];exact aW.elim (λd e=>hz.1 d e) λd e=>.some (hz.2 d e)
def BlG (X:Lh) (f:aJ) (c:aL) (x:aP) (L dv sc:List Int) (ss:List aA):Prop:=
 ∀(W:List Int) (kf n:Nat) (full:List aA) (k v:Nat) (out:List bB) (m:oX),Mb f c x m->PW f.aQ c.aX sc W->(∀w ∈ W,w<4+kf)->Hq X f c x L dv kf ss->400000000+4*wF ss+10<=n->full.drop v=ss->v<=full.length->full.length<=100000000->ss.length<k->out.length+wF ss<=100000000 ->
  aW (jK (kI n) (lZ n) n full k out (v:Int) m) λz=>Sm X W m out (z.elim id id) (wF ss)
section
variable {X:Lh} {f:aJ} {c:aL} {x:aP} {sc sc2 W L dv:List Int} {n kf:Nat} {s:aA} {l:List aA}
theorem BlG.blk (h:BlG X f c x L dv sc l) {m:oX} (hm:Mb f c x m) (hP:PW f.aQ c.aX sc W) (hW:∀w ∈ W,w<4+kf) (hq:Hq X f c x L dv kf l) (hn:400000000+4*wF l+11<=n):aW (pM n m l) λr=>Sm X W m [] r (wF l):=by
 have hlen:=JS l;have hz:=hq.z;obtain ⟨k,rfl⟩:∃k,n=k+1:=⟨n - 1,zb⟩;show aW (tE (kI k) (lZ k) k m l) _;unfold tE;refine (h W kf k l k 0 [] m hm hP hW hq zb rfl (Ko _) zb zb (by simp only [sY];omega)).bind λz hz=>?_;cases z with
 | inl r=>exact .some hz
 | inr r=>exact .some hz
theorem Sm.more {m:oX} {out:List bB} {r:List bB × oX} {K K2:Nat} (h:Sm X W m out r K) (hk:K<=K2):Sm X W m out r K2:=⟨h.f,h.c,h.x,h.e,h.ok,No h.len zb⟩
theorem Rn:wF (s::l)=tz s+wF l:=by rw [wF]
theorem za3 (hR:BlG X f c x L dv sc2 l) (kf:Nat) {full:List aA} {k v:Nat} {out:List bB} {m:oX} (hm:Mb f c x m) (hP:PW f.aQ c.aX sc2 W) (hW:∀w ∈ W,w<4+kf) (hq:Hq X f c x L dv kf l) (hn:400000000+4*wF (s::l)+10<=n) (hd:full.drop v=s::l) (hl:full.length<=100000000) (hk:(s::l).length<k) (ho:out.length+wF (s::l)<=100000000)
  (h:aW (QK n s out m) λz=>(∃r,z=.inl (out++r.1,r.2)/\Sm X W m [] r (tz s)) ∨ (m.e_ ≠ 0/\z=.inr ([],m))):aW (jK (kI n) (lZ n) n full k out (v:Int) m) λz=>Sm X W m out (z.elim id id) (wF (s::l)):=by
 obtain ⟨g1,g2,g3⟩:=LX hd;rw [Rn] at hn ho ⊢;obtain ⟨k,rfl⟩:∃j,k=j+1:=⟨k - 1,by rw [qB] at hk;omega⟩;refine bl_step g1 hl (h.mono λz hz=>⟨λd e=>?_,λd e=>?_⟩)
 ·subst e
  rcases hz with ⟨r,e,hr⟩ | ⟨_,e⟩
  ·injection e with e
   subst e;have:=hr.len;rw [sY,Lk] at this;exact (hR W kf n full k (v+1) (out++r.1) r.2 (hm.bl hr) hP hW hq zb g2 g3 hl (by rw [qB] at hk;omega) (by rw [oY];omega)).mono λz hz=>hr.app hz
  ·cases e
 ·subst e
  rcases hz with ⟨r,e,hr⟩ | ⟨h0,e⟩
  ·cases e
  ·injection e with e
   subst e;exact ⟨rfl,rfl,rfl,λe=>cM e h0,λe=>cM e h0,Ko _⟩
theorem XH (hC:IW X f c x) (hP:PW f.aQ c.aX sc W) (hs:LnS X f c x sc s) (h1:s.dJ ≠ [105,102]) (h2:s.dJ ≠ [102,111,114]) {m:oX} {out:List bB} (hm:Mb f c x m) (hz:nG s.aN<=50000000) (hn:2*dd<=n) (ho:out.length<=100000000):aW (QK n s out m) λz=>(∃r,z=.inl (out++r.1,r.2)/\Sm X W m [] r (tz s)) ∨ (m.e_ ≠ 0/\z=.inr ([],m)):=by
 have hts:=YY s;unfold QK;refine aW.iteb (λh=>.some (.inr ⟨by simpa using h,rfl⟩)) λh=>aW.skip (SB h1) (aW.skip (SB h2) (aW.eqn (JO m) ?_));refine (line_g hC hP hs (hm.bg (B:=8*nG s.aN+1030) zb) (uZ _) hn).bind λq g=>aW.iteb (λhp=>aW.need (by simp only [vO];omega) (.some (.inl ⟨([⟨1,q.p_,cU.Z,cU.Z,aF.Z,aF.Z,aF.Z,0,[],[]⟩],q),rfl,g.f,g.c,g.x,g.e,λe hmm=>?_,by simp only [qB,sY];omega⟩))) λhp=>.some (.inl ⟨([],q),by rw [Fu],g.f,g.c,g.x,g.e,λe hmm=>?_,Ko _⟩)
 ·obtain ⟨k1,k2,k3⟩:=g.part e hmm;refine ⟨k1,_,(AE _).symm,yM (.line k2),?_⟩;rw [k3,CF,nOp];have e1:cU.Z.iH=[]:=rfl;rw [e1,CF,sY];omega
 ·obtain ⟨k1,k2,k3⟩:=g.part e hmm;have hp:=Lj hp;exact ⟨k1,[],rfl,oD,by rw [k3,CF];omega⟩
theorem TL (hC:IW X f c x) (hP:PW f.aQ c.aX sc W) {y:aB} {b e:List aA} {a:Int} (hB:BlG X f c x L dv sc b) (hE:BlG X f c x L dv sc e) (hW:∀w ∈ W,w<4+kf) (hq:Hq X f c x L dv kf (⟨[105,102],-1,0,[y],b,e,a⟩::l)) (hy:TX f.aQ sc y) (ht:y.bR=1) {m:oX} (hm:Mb f c x m) (hn:400000000+4*tz ⟨[105,102],-1,0,[y],b,e,a⟩+10<=n):aW (kI n m ⟨[105,102],-1,0,[y],b,e,a⟩) λr=>Sm X W m [] r (tz ⟨[105,102],-1,0,[y],b,e,a⟩):=by
 obtain ⟨q1,_,_,q4,q5,_⟩:=hq.parts;have hey:=hq.ey (y:=y) (sc:=sc) Gr hy;have hz:=hq.z;have hz2:=hey.z;rw [yW] at hz;rw [tz] at hn ⊢;simp only at hz q4 q5;have hfo:DP ⟨[105,102],-1,0,[y],b,e,a⟩=[]:=by unfold DP;rw [cE (by simp only;decide)]
 rw [hfo,sY,Qp] at q4 q5;have hsm:=(q1 y (by unfold LY;refine GC _ ?_;rw [cX (.inr (.inl rfl))];exact Gr)).2.2.1;obtain ⟨k,rfl⟩:∃k,n=k+1:=⟨n - 1,zb⟩;have hWe:∀w ∈ W,w<4+((kf+(wZ b).length:Nat):Int):=λw hw=>by have:=hW w hw;omega
 have e0:∀s,kI (k+1) m s=rX (pM k) k m s:=λs=>rfl;rw [e0];unfold rX;refine aW.eqn (v:=y) rfl ?_;rw [hm.c];refine (OB hC hP (hy.pub ht) zb zb).bind λt htk=>aW.iteb (λh=>aW.iteb (λ_=>?_) λ_=>?_) λh=>?_
 ·exact (hB.blk hm hP hW q4 zb).bind λr hr=>.some (hr.more zb)
 ·exact (hE.blk hm hP hWe q5 zb).bind λr hr=>.some (hr.more zb)
 ·have h:t.1.dJ ≠ 1:=by simpa using h
  refine aW.eqn (JO m) ?_;refine (GE hC hP (hm.bg (B:=8*xz y) zb) (.refl _) hey zb (by unfold dd;omega)).bind λr1 ⟨g1,w1,_⟩=>?_;refine (Zn hC hm g1 w1 (by unfold dd;omega) zb).bind λq hq'=>?_;obtain ⟨p1,p2,p3,p4,p5,p6⟩:=hq';refine (hB.blk p1 hP hW q4 zb).bind λrb hb=>(hE.blk (p1.bl hb) hP hWe q5 zb).bind λre he=>.some ?_;refine ⟨he.f.trans (hb.f.trans p2),he.c.trans (hb.c.trans p3),he.x.trans (hb.x.trans p4),λe=>(p5 (hb.e (he.e e))).2,λe hmm=>?_,by simp only [qB,sY];omega⟩;have eb:=he.e e;obtain ⟨m1,c1,rr,l1,l2,l3⟩:=p6 (hb.e eb) hmm;obtain ⟨m2,ns,b1,b2,b3⟩:=hb.ok eb m1;obtain ⟨m3,ns',e1,e2,e3⟩:=he.ok e m2;rw [AE] at b1 e1;refine ⟨m3,_,(AE _).symm,yM ?_,?_⟩
  ·rw [l3,b1,e1];have q1:=hb.len;have q2:=he.len;rw [b1,sY,Lk] at q1;rw [e1,sY,Lk] at q2;exact .Ln l1 l2 (htk.1 hsm) h b2 e2 zb zb
  ·rw [e3,b3,c1,CF,nOp,CF,b1,e1];simp only [sY];omega
theorem TG (hC:IW X f c x) (hP:PW f.aQ c.aX sc W) {y z:aB} {b:List aA} {v a:Int} {u:aK} (hB:BlG X f c x L dv (sc++[v]) b) (hW:∀w ∈ W,w<4+kf) (hq:Hq X f c x L dv kf (⟨[102,111,114],v,0,[y,z],b,[],a⟩::l)) (hy:TX f.aQ sc y) (ht:y.bR=1) (hz:TX f.aQ sc z) (ht2:z.bR=1) (hu:aZ f.aQ v=some u) (hk:u.bJ=1) {m:oX} (hm:Mb f c x m) (hn:400000000+4*tz ⟨[102,111,114],v,0,[y,z],b,[],a⟩+10<=n):aW (lZ n m ⟨[102,111,114],v,0,[y,z],b,[],a⟩) λr=>Sm X W m [] ([r.1],r.2) (tz ⟨[102,111,114],v,0,[y,z],b,[],a⟩):=by
 obtain ⟨q1,_,_,q4,_,_⟩:=hq.parts;have ey:=hq.ey (y:=y) (sc:=sc) PH hy;have ez:=hq.ey (y:=z) (sc:=sc) (Nm _ Gr) hz;have hzz:=hq.z;have hy2:=ey.z;have hz2:=ez.z;have hfl:=hC.fl;rw [yW] at hzz;rw [tz] at hn ⊢;simp only at hzz q4;have hfo:DP ⟨[102,111,114],v,0,[y,z],b,[],a⟩=[v]:=by unfold DP;rw [cX rfl]
 rw [hfo,vO] at q4;have hd:LY ⟨[102,111,114],v,0,[y,z],b,[],a⟩=[y,z]++Kz [y,z]:=by unfold LY;rw [cX (.inr (.inr rfl))]
 have sy:=(q1 y (by rw [hd];exact GC _ PH)).2.2.1;have sz':=(q1 z (by rw [hd];exact GC _ (Nm _ Gr))).2.2.1;obtain ⟨f1,f2,f3⟩:=hq.fr 0 v (by rw [(Eu _ l).2.1,hfo];rfl);rw [Qp] at f1 f2 f3;obtain ⟨k,rfl⟩:∃k,n=k+1:=⟨n - 1,zb⟩;obtain ⟨o,eo,ho⟩:=hC.off v u hu
 have hg:NG X o:=ho.g.resolve_left λ⟨_,⟨t,h2,h3⟩,_⟩=>by
  rw [f1] at h2;cases h2;exact cM h3 zd
 obtain ⟨bo,eb,hb2,hb3⟩:=hC.bd kf f3;have hdd:2*dd<=k:=by unfold dd;omega
 have hk2:2000<k:=zb
 show aW (rU (pM k) k m _) _;unfold rU;rw [hm.c,hm.x];refine aW.eqn f2 (aW.eqn (v:=y) rfl ?_);refine (OB hC hP (hy.pub ht) zb zb).bind λt htk=>aW.eqn (v:=z) rfl ((OB hC hP (hz.pub ht2) zb zb).bind λt2 htk2=>aW.eqn eo ?_);have e4:IntKind.i64.wrap (((4+kf:Nat):Int) - 4)=(kf:Int):=by rw [dB zb zb];omega
 rw [e4];refine aW.eqn eb (aW.eqn (JO m) ?_);have hmb:=hm.bg (B:=8*xz y+8*xz z+2) zb;refine (GE hC hP hmb (.refl _) ey zb hdd).bind λr1 ⟨g1,w1,s1⟩=>?_;refine (GE hC hP hmb g1 ez zb hdd).bind λr2 ⟨g2,w2,s2⟩=>?_;refine (KR hmb g2 hdd hg.2.1 (s2 _ w1)).bind λm3 ⟨g3,s3⟩=>?_;refine (KR hmb g3 hdd hb3 (s3 _ w2)).bind λm4 ⟨g4,s4⟩=>?_;have hm4:=hm.of g4 zb;refine aW.eqn (JO m4) ?_;have hmb4:=hm4.bg (B:=10) zb;refine (kA (W:=W) hmb4 (.refl _) hk2 hg.1 oD).bind λr5 ⟨g5,w5,s5⟩=>?_;refine (kA hmb4 g5 hk2 hb2 oD).bind λr6 ⟨g6,w6,s6⟩=>?_;refine (kA hmb4 g6 hk2 (hC.n0 21 zc) (BZ (s6 _ w5) w6)).bind λr7 ⟨g7,w7,s7⟩=>?_;refine (Zn hC hm4 g7 w7 hdd zb).bind λq8 hq8=>?_;obtain ⟨p1,p2,p3,p4,p5,p6⟩:=hq8;refine aW.eqn (JO q8.2) ?_;have hmb8:=p1.bg (B:=10) zb;refine (kA (W:=W) hmb8 (.refl _) hk2 hg.1 oD).bind λr9 ⟨g9,w9,s9⟩=>?_;refine (kA hmb8 g9 hk2 (hC.n1 1 .i) oD).bind λrA ⟨gA,wA,sA⟩=>?_;refine (kA hmb8 gA hk2 (hC.n0 10 zc) (BZ (sA _ w9) wA)).bind λrB ⟨gB,wB,sB⟩=>?_;refine (KR hmb8 gB hdd hg.2.1 wB).bind λmC ⟨gC,sC⟩=>?_;have hmC:=p1.of gC zb;have hwn:((4+kf:Nat):Int) ∉ W:=λh=>by have:=hW _ h;omega
 have hPb:PW f.aQ c.aX (sc++[v]) (W++[((4+kf:Nat):Int)]):=λi hi u' hu' hk'=>by
  rcases yU.1 hi with hi | hi
  ·obtain ⟨t',h1,h2⟩:=hP i hi u' hu' hk';exact ⟨t',h1,λk hk=>GC _ (h2 k hk)⟩
  ·rw [zU.1 hi]
   exact ⟨_,f1,λk hk=>by
    rw [tv,cX rfl,Pz,Fu] at hk;exact IU _ hk⟩
 have hWb:∀w ∈ W++[((4+kf:Nat):Int)],w<4+((kf+1:Nat):Int):=λw hw=>by
  rcases yU.1 hw with hw | hw
  ·have:=hW w hw;omega
  ·rw [zU.1 hw];omega
 refine (hB.blk hmC hPb hWb q4 zb).bind λrD hD=>.some ?_;refine ⟨hD.f.trans (gC.f.trans (p2.trans g4.f)),hD.c.trans (gC.c.trans (p3.trans g4.c)),hD.x.trans (gC.x.trans (p4.trans g4.x)),λe=>g4.e (p5 (gC.e (hD.e e))).2,λe hmm=>?_,by simp only [qB,sY];omega⟩;have eC:=hD.e e;have e8:=gC.e eC;have e4':=(p5 e8).2;obtain ⟨x1,x2,x3⟩:=g4.part e4' hmm;obtain ⟨y1,y2,rr,y3,y4,y5⟩:=p6 e8 x1;obtain ⟨z1,z2,z3⟩:=gC.part eC y1;obtain ⟨d1,ns,d2,d3,d4⟩:=hD.ok e z1;rw [AE] at d2;refine ⟨d1,_,(AE _).symm,yM ?_,?_⟩
 ·rw [y5,d2];have q1:=hD.len;rw [d2,sY,Lk] at q1;exact .Ba x2 y3 y4 z2 (htk.1 sy) (htk2.1 sz') zb zb hwn d3 zb
 ·rw [d4,z3,y2,x3,CF,nOp,CF,d2];omega
end
section
variable {X:Lh} {f:aJ} {c:aL} {x:aP} {sc W L dv:List Int} {n kf:Nat}
theorem PW.snoc (h:PW f.aQ c.aX sc W) {v:Int} {u:aK} (hu:aZ f.aQ v=some u) (hk:u.bJ ≠ 1):PW f.aQ c.aX (sc++[v]) W:=λi hi u' hu' hk'=>by
 rcases yU.1 hi with hi | hi
 ·exact h i hi u' hu' hk'
 ·rw [zU.1 hi,hu] at hu';cases hu';exact cM hk' hk
theorem Kj (hC:IW X f c x) {s:aA} {l:List aA} {sc2:List Int} (h1:s.dJ ≠ [105,102]) (h2:s.dJ ≠ [102,111,114]) (hB:s.bH=[]) (hE:s.eG=[]) (hs:∀kf,Hq X f c x L dv kf (s::l)->LnS X f c x sc s) (hP:∀W kf,Hq X f c x L dv kf (s::l)->PW f.aQ c.aX sc W->PW f.aQ c.aX sc2 W) (hR:BlG X f c x L dv sc2 l):BlG X f c x L dv sc (s::l):=by
 intro W kf n full k v out m hm hp hW hq hn hd hv hl hk ho;have hz:=hq.z;rw [yW] at hz;have hfo:DP s=[]:=by unfold DP;rw [cE h2]
 have hq2:=hq.parts.2.2.2.2.2;rw [hfo,hB,hE,wZ,sY,Qp] at hq2;exact za3 hR kf hm (hP W kf hq hp) hW hq2 hn hd hl hk ho (XH hC hp (hs kf hq) h1 h2 hm zb (by unfold dd;omega) zb)
theorem zay (hC:IW X f c x) {res:Int} {lf:Bool} {sc sc':List Int} {ss:List aA} {vs:List aK} (hv:vs=f.aQ) (hr:res=f.bO) (h:FB vs res lf sc ss sc'):BlG X f c x L dv sc ss:=by
 induction h with
 | nil=>
   intro W kf n full k v out m hm hp hW hq hn hd hv hl hk ho;obtain ⟨k,rfl⟩:∃j,k=j+1:=⟨k - 1,zb⟩;have:=List.drop_eq_nil_iff.1 hd;unfold jK;exact aW.skip (SB zb) (.some ((Sm.refl m out).more (Ko _)))
 | @let_ l sc y v u a ss sc' h1 h2 h3 h4 hr ih=>
   subst hv;refine Kj hC (by simp only;decide) (by simp only;decide) rfl rfl (λkf hq=>.bind (.inl rfl) (hq.ey (y:=y) Gr h1) (λoff e h0=>⟨?_,λh=>cM (h2.symm.trans h) zc⟩) ?_) (λW kf hq hp i hi u' hu' hk'=>?_) ih
   ·obtain ⟨o,eo,ho⟩:=hC.off v u h3;rw [e] at eo;cases eo
    exact (ho.g.resolve_left λ⟨_,_,h⟩=>zb).2.1
   ·obtain ⟨o,eo,_⟩:=hC.off v u h3;exact ⟨o,eo⟩
   ·rcases yU.1 hi with hi | hi
    ·exact hp i hi u' hu' hk'
    ·rw [zU.1 hi];obtain ⟨_,_,t,e1,e2⟩:=hq.parts.2.1 (v,y) (by unfold ltO;rw [cX rfl];exact Gr);exact ⟨t,e1,λk hk=>ZI hp (h1.pub h2) k (e2 k hk)⟩
 | @var_ l sc y v u a ss sc' h1 h2 h3 h4 hr ih=>
   subst hv;refine Kj hC (by simp only;decide) (by simp only;decide) rfl rfl (λkf hq=>.bind (.inr (.inl rfl)) (hq.ey (y:=y) Gr h1) (λoff e h0=>?_) ?_) (λW kf hq hp=>hp.snoc h2 zb) ih
   ·obtain ⟨o,eo,ho⟩:=hC.off v u h2;rw [e] at eo;cases eo
    refine ⟨(ho.g.resolve_left λ⟨h,_⟩=>zb).2.1,λh=>(ho.d ?_).2⟩;unfold KC at h4;omega
   ·obtain ⟨o,eo,_⟩:=hC.off v u h2;exact ⟨o,eo⟩
 | @set l sc y v u a ss sc' h1 h2 h3 h4 hr ih=>
   subst hv;refine Kj hC (by simp only;decide) (by simp only;decide) rfl rfl (λkf hq=>.bind (.inr (.inr rfl)) (hq.ey (y:=y) Gr h1) (λoff e h0=>?_) ?_) (λW kf hq hp=>hp.snoc h2 zb) ih
   ·obtain ⟨o,eo,ho⟩:=hC.off v u h2;rw [e] at eo;cases eo
    refine ⟨(ho.g.resolve_left λ⟨h,_⟩=>zb).2.1,λh=>(ho.d ?_).2⟩;unfold KC at h4;omega
   ·obtain ⟨o,eo,_⟩:=hC.off v u h2;exact ⟨o,eo⟩
 | @arr l sc v u a ss sc' h1 h2 hr ih=>
   subst hv;refine Kj hC (by simp only;decide) (by simp only;decide) rfl rfl (λkf hq=>?_) (λW kf hq hp=>hp.snoc h1 zb) ih;obtain ⟨o,eo,_⟩:=hC.off v u h1;exact .arr h1 (hC.k4 v u h1 h2) eo (hq.ar v (hq.parts.2.2.1 v (by rw [cX rfl];exact Gr)) u o h1 eo)
 | @put l sc v u i y a ss sc' h0 h1 h2 h3 h4 h5 h6 h7 hr ih=>
   subst hv;refine Kj hC (by simp only;decide) (by simp only;decide) rfl rfl (λkf hq=>.put h1 h2 (hq.ey (y:=i) PH h3) h4 ?_ (hq.ey (y:=y) (Nm _ Gr) h6) (by unfold KC at h7;omega)) (λW kf hq hp=>hp) ih;exact (hq.parts.1 i (by unfold LY;rw [cE (by simp only;decide),cX rfl];exact GC _ PH)).2.2.1
 | @Ln l sc y b e a sc1 sc2 ss sc' h1 h2 hb he hr ib ie ih=>
   subst hv;intro W kf n full k v out m hm hp hW hq hn hd hv hl hk ho;have hfo:DP ⟨[105,102],-1,0,[y],b,e,a⟩=[]:=by unfold DP;rw [cE (by simp only;decide)]
   have hq2:=hq.parts.2.2.2.2.2;rw [hfo,sY,Qp] at hq2;simp only at hq2;have hn2:=hn;have ho2:=ho;rw [Rn] at hn2 ho2;refine za3 ih (kf+(wZ b).length+(wZ e).length) hm hp (λw hw=>by have:=hW w hw;omega) hq2 hn hd hl hk ho ?_;unfold QK;refine aW.iteb (λh=>.some (.inr ⟨by simpa using h,rfl⟩)) λh=>aW.take rfl ?_;refine (TL hC hp ib ie hW hq h1 h2 hm zb).bind λr hr=>?_;have:=hr.len;rw [sY,Lk] at this;exact aW.need zb (.some (.inl ⟨r,rfl,hr⟩))
 | @Ba l sc y z v u b a sc1 ss sc' h1 h2 h3 h4 h5 h6 hb hr ib ih=>
   subst hv;intro W kf n full k w out m hm hp hW hq hn hd hv hl hk ho;have hfo:DP ⟨[102,111,114],v,0,[y,z],b,[],a⟩=[v]:=by unfold DP;rw [cX rfl]
   have hq2:=hq.parts.2.2.2.2.2;rw [hfo,vO] at hq2;simp only [wZ,sY,Qp] at hq2;have hn2:=hn;have ho2:=ho;rw [Rn] at hn2 ho2;refine za3 ih (kf+1+(wZ b).length) hm hp (λw hw=>by have:=hW w hw;omega) hq2 hn hd hl hk ho ?_;unfold QK;refine aW.iteb (λh=>.some (.inr ⟨by simpa using h,rfl⟩)) λh=>aW.skip rfl (aW.take rfl ?_);refine (TG hC hp ib hW hq h1 h2 h3 h4 h5 h6 hm zb).bind λr hr=>?_;exact aW.need (by simp only [vO];omega) (.some (.inl ⟨([r.1],r.2),rfl,hr⟩))
 | @ret sc y a h1 h2=>
   subst hv hr;refine Kj hC (by simp only;decide) (by simp only;decide) rfl rfl (λkf hq=>.ret (hq.ey (y:=y) Gr h1) h2) (λW kf hq hp=>hp) (sc2:=sc) ?_;intro W kf n full k v out m hm hp hW hq hn hd hv hl hk ho;obtain ⟨k,rfl⟩:∃j,k=j+1:=⟨k - 1,zb⟩;have:=List.drop_eq_nil_iff.1 hd;unfold jK;exact aW.skip (SB zb) (.some ((Sm.refl m out).more (Ko _)))
theorem Yr (hC:IW X f c x) {lf:Bool} {sc':List Int} (h:FB f.aQ f.bO lf sc f.bH sc') (hP:PW f.aQ c.aX sc [0,1,2,3]) (hq:Hq X f c x L dv 0 f.bH) (hn:800000000<=n):aW (DN n f c x) λr=>r.2=0->(∀n ∈ r.1,YF X [0,1,2,3] n)/\CF r.1<=16384/\r.1.length<=100000000:=by
 unfold DN;have hz:=hq.z;have hm:Mb f c x ⟨f,c,x,⟨[],[]⟩,0,0,0⟩:=⟨rfl,rfl,rfl,λ_=>⟨yz,yz⟩⟩;refine ((zay hC rfl rfl h).blk hm hP (λw hw=>?_) hq zb).bind λr hr=>aW.iteb (λh0=>.some λe=>cM e (by simpa using h0)) λh0=>.some λ_=>?_
 ·simp only [Di,St,or_false] at hw;omega
 ·have h0:r.2.e_=0:=by simpa using h0
  obtain ⟨k1,ns,k2,k3,k4⟩:=hr.ok h0 (hm.mo rfl);rw [AE] at k2;rw [k2];have:=k1.c;have e0:(aI.mk f c x ⟨[],[]⟩ 0 0 0).cW=0:=rfl;rw [e0] at k4;have hlen:=hr.len;rw [k2,sY,Lk] at hlen;exact ⟨k3,zb,zb⟩
end
theorem OU {α:Type} {l:List α} {i:Int} {x:α} (h:aZ l i=some x):x ∈ l:=by
 unfold aZ at h
 split at h
 ·exact GB h
 ·cases h
def K4 (u:aK):Prop:=u.bJ=4->Bo u.jR
theorem Sk.k4 {as own:List Int} {fW:Int} {ps vs vs':List aK} {xs:List aB} {i:Nat} {o:List aA} (h:Sk as fW ps vs xs i o own vs') (hp:∀u ∈ ps,K4 u):(∀u ∈ vs,K4 u)->∀u ∈ vs',K4 u:=by
 induction h with
 | nil=>exact λh=>h
 | arr _ _ ih=>exact ih
 | val _ hu _ ih=>exact λh=>ih λu hu'=>(yU.1 hu').elim (h u) λe=>by rw [zU.1 e];exact hp _ (GB hu)
theorem MO.k4 {p:bM} {vs v:List aK} {as:List Int} {b:aA} {l o:List aA} (hP:∀i f,aZ p.bC i=some f->(∀u ∈ f.aQ,K4 u)/\f.bO ≠ 4) (h:MO p vs l as b o v):(∀u ∈ vs,K4 u)->(b.dJ=[118,97,114]->b.iO ≠ 4)->∀u ∈ v,K4 u:=by
 induction h with
 | nil=>exact λh _=>h
 | call h1 h2 h3 h4 h5 h6 h7 i1 i2=>
   intro hv hb;obtain ⟨q1,q2⟩:=hP _ _ h2;refine i2 (i1 (λu hu=>(yU.1 hu).elim (h3.k4 q1 hv u) λhu=>q1 u (Yw hu)) ?_) hb;unfold SN
   split
   ·split
    ·exact hb
    ·exact hb
   ·split
    ·exact λ_=>q2
    ·exact λh=>cM h zd
 | ret _ _ _ _ ih=>exact ih
 | retv _ _ h3 _ ih=>exact λhv hb=>ih (λu hu=>(yU.1 hu).elim (hv u) λe=>by rw [zU.1 e];exact λh=>cM h (hb h3)) hb
 | other _ _ _ _ _ i1 i2 i3=>exact λhv hb=>i3 (i2 (i1 hv hb) hb) hb
theorem of_flat {c:aE} {rk:Int->Nat} (hp:PO c rk) {n:Nat} {i:Int} {r:aJ × Int} (hn:200000000<=n) (h:xK n c.p_ i=some r) (he:r.2=0) (h2:∃fn,aZ c.p_.bC i=some fn/\Sj fn r.1):(∀u ∈ r.1.aQ,K4 u)/\∃p:Nat,r.1.aT=p/\p<=r.1.aQ.length/\r.1.aQ.length<=4096/\(r.1.bO=0 ∨ r.1.bO=2 ∨ r.1.bO=3)/\(r.1.eK=true->DU (r.1.aQ.take p) 0<=4)/\wF r.1.bH<=50000000/\∃sc',FB r.1.aQ r.1.bO true (pC p) r.1.bH sc':=by
 obtain ⟨fn0,_,hf0⟩:=h2;obtain ⟨k,fn,_,hfn,hr,hpre,hfb,sc',hFB⟩:=WM hp h he;have hm:=GB hfn;obtain ⟨v1,v2,v3⟩:=hp.co.vl fn hm;obtain ⟨_,k2⟩:=hp.co.ki fn hm;have e1:r.1.aT=fn.aT:=by rw [hr]
 have e2:r.1.bO=fn.bO:=by rw [hr]
 have e3:r.1.eK=fn.eK:=by rw [hr]
 have hlen:=hpre.length_le;refine ⟨hfb.k4 (λi g hg=>⟨λu hu=>((hp.co.ki g (OU hg)).1 u hu).2.2,by have:=(hp.co.ki g (OU hg)).2;omega⟩) (λu hu=>((hp.co.ki fn hm).1 u hu).2.2) (λh=>cM h zc),fn.aT.toNat,by rw [e1];omega,zb,hf0.v,by rw [e2];exact k2,λh=>?_,hf0.tz,sc',by rw [e2];exact hFB⟩;rw [e3] at h;have:=hp.ex fn hm h;obtain ⟨rest,hrest⟩:=hpre;rw [←hrest,List.take_append_of_le_length zb];exact this
structure O15 (f:aJ) (p:Nat):Prop where
 par:f.aT=p
 pl:p<=f.aQ.length
 v:f.aQ.length<=4096
 res:f.bO=0 ∨ f.bO=2 ∨ f.bO=3
 tz:wF f.bH<=50000000
 fb:∃sc',FB f.aQ f.bO true (pC p) f.bH sc'
 dv:(BX f.bH).Perm (xM f.aQ p f.aQ.length)
 k4:∀u ∈ f.aQ,K4 u
theorem O15.dok {f:aJ} {p:Nat} (h:O15 f p):DOk (pC p) (BX f.bH):=by
 refine ⟨h.dv.nodup_iff.2 UR,λv hv=>?_⟩;obtain ⟨k,rfl,h1,h2,_⟩:=Tj.1 (h.dv.mem_iff.1 hv);exact ⟨λhm=>by have:=Eb hm;omega,zb⟩
section
variable {c:aL} {v:Int}
theorem Word_in {t:aF} (ht:aZ c.aX v=some t):kN c v=(some (t.dJ != (2:Int))).bind λy2=>if y2=true then some (-1:Int) else (some t).bind λx14=>
  (if (decide ((IntKind.i64.wrap x14.N_)<(4:Int)))=true then
     if ((IntKind.i64.wrap x14.N_) == v)=true then some true
     else if (decide ((4:Int)<=(IntKind.i64.wrap x14.N_)))=true then if (decide ((IntKind.i64.wrap ((IntKind.i64.wrap x14.N_) - (4:Int)))<(c.gM.length:Int)))=true then (aZ c.gM (IntKind.i64.wrap ((IntKind.i64.wrap x14.N_) - (4:Int)))).bind λx24=>some (x24 == v) else some false else some false
    else if (decide ((4:Int)<=(IntKind.i64.wrap x14.N_)))=true then if (decide ((IntKind.i64.wrap ((IntKind.i64.wrap x14.N_) - (4:Int)))<(c.gM.length:Int)))=true then (aZ c.gM (IntKind.i64.wrap ((IntKind.i64.wrap x14.N_) - (4:Int)))).bind λx31=>some (x31 == v) else some false else some false).bind λy19=>
  if y19=true then some (IntKind.i64.wrap x14.N_) else some (-1:Int):=by
 obtain ⟨h0,h1⟩:=zM ht;unfold kN;rw [cE (by rw [Da];omega),cE (by rw [Da];omega),ht];rfl
theorem zba {k:Nat} (ht:aZ c.aX v=some ⟨2,((4+k:Nat):Int),[]⟩) (hk:c.gM[k]? = some v) (h:k<=250):kN c v=some ((4+k:Nat):Int):=by
 have hl:=(xW.1 hk).1;rw [Word_in ht,iX,cE zd,iX];simp only;rw [dB (n:=((4+k:Nat):Int)) zb zb,dB (n:=((4+k:Nat):Int) - 4) zb zb,cE (by rw [Da];omega),cX (Ah zb),cX (Ah zb),show ((4+k:Nat):Int) - 4=(k:Int) by omega,pU hk,iX,iX,cX zd]
end
structure CW (f:aJ) (p:Nat) (c:aL):Prop where
 p4:p<=4
 fl:(wZ f.bH).length<=250
 fors:c.gM=wZ f.bH
 terms:c.aX.length=f.aQ.length
 wl:Df c.tK/\Df c.kZ/\OL c.tK c.kZ
 word:∀(k:Nat) v,(wZ f.bH)[k]? = some v->kN c v=some ((4+k:Nat):Int)
 fr:∀(k:Nat) v,(wZ f.bH)[k]? = some v->aZ c.aX v=some ⟨2,((4+k:Nat):Int),[]⟩
 par:∀(i:Nat) u,f.aQ[i]? = some u->u.bJ=1->i<p->aZ c.aX (i:Int)=some ⟨2,(i:Int),[]⟩
 loc:∀(i:Nat) u,f.aQ[i]? = some u->u.bJ=1->p<=i->∃t,aZ c.aX (i:Int)=some t/\Sh false t/\tm t<=2000
 qx:∀x ∈ RD f.bH,QX c.aX (pC p++BX f.bH) x
 lt:∀q ∈ RE f.bH,LtX c.aX (pC p++BX f.bH) (BX f.bH) q
theorem VD {XR:Pr} {f:aJ} {p:Nat} (ho:O15 f p) {c:aL} (h:FK XR f p (c,0)):CW f p c:=by
 generalize hr:(c,(0:Int))=r at h
 cases h with
 | count=>injection hr with _ hr;cases hr
 | size=>injection hr with _ hr;cases hr
 | @ok y0 y sc' hI hT hB h4 hL _=>
   injection hr with hr;subst hr
   have hF:y.c_.gM=wZ f.bH:=by rw [hB.fors,hI.fors,AE]
   obtain ⟨d1,d2,d3,d4⟩:=hB.ok ho.dok λv hv=>(Eb hv).1
   have hmem:∀(i:Nat),(i:Int) ∈ BX f.bH ↔ p<=i/\i<f.aQ.length/\∃u,f.aQ[i]? = some u/\u.bJ=1:=λi=>by
    rw [ho.dv.mem_iff,Tj]
    constructor
    ·rintro ⟨k,e,h1,h2,h3⟩;obtain rfl:k=i:=zb
     exact ⟨h1,h2,h3⟩
    ·rintro ⟨h1,h2,h3⟩;exact ⟨i,rfl,h1,h2,h3⟩
   have hfr:∀(k:Nat) v,(wZ f.bH)[k]? = some v->aZ y.c_.aX v=some ⟨2,((4+k:Nat):Int),[]⟩:=λk v hk=>by
    have:=d2 k v hk
    rwa [hI.fors,sY,Qp] at this
   refine ⟨h4,hL,hF,hT.len,hB.w hI.w,λk v hk=>?_,hfr,λi u hu hk hi=>?_,λi u hu hk hi=>?_,d3,d4⟩
   ·have hlt:=(xW.1 hk).1;exact zba (hfr k v hk) (by rw [hF];exact hk) zb
   ·have hlt:=(xW.1 hu).1;rw [hB.un i zb λhm=>by have:=(hmem i).1 hm;omega,pU (hI.t i hlt)];unfold Ps;rw [hu];simp only
    rw [cX ⟨hi,hk⟩]
   ·have hlt:=(xW.1 hu).1;exact d1 _ ((hmem i).2 ⟨hi,hlt,u,hu,hk⟩)
section
variable {f:aJ} {c:aL}
structure WdR (f:aJ) (c:aL) (i:Int) (u:aK) (w:Int):Prop where
 z:w=0->u.bJ=1/\∃t,aZ c.aX i=some t/\t.dJ=1
 b:0<=w/\w<=1024
 d:u.bJ=3->w=2
 a:u.bJ=4->f.aT<=i->w=u.jR
theorem YP (hl:c.aX.length=f.aQ.length) (h4:∀u ∈ f.aQ,K4 u) {i:Nat} {u:aK} (hu:f.aQ[i]? = some u):aW (BU f c (i:Int)) (WdR f c (i:Int) u):=by
 have hi:=(xW.1 hu).1;have ht:aZ c.aX (i:Int)=some (c.aX[i]'(by omega)):=pU (yN zb);have h4:=h4 u (GB hu);unfold BU;refine aW.eqn (pU hu) (aW.bind (P:=λy=>y=true->u.bJ=1/\∃t,aZ c.aX (i:Int)=some t/\t.dJ=1) (aW.iteb (λh=>aW.eqn ht (.some λh2=>⟨by simpa using h,_,ht,by simpa using h2⟩)) λ_=>.some λh=>nomatch h) λy hy=>aW.iteb (λh=>?_) λ_=>aW.iteb (λh=>?_) λh3=>?_)
 ·have:=(hy h).1;exact .some ⟨λ_=>hy h,zc,λh=>zb,λh=>zb⟩
 ·have:u.bJ=3:=by simpa using h
  exact .some ⟨λh=>cM h zc,zc,λ_=>rfl,λh=>zb⟩
 ·have h3:u.bJ ≠ 3:=by simpa using h3
  refine aW.bind (P:=λy=>y=true ↔ u.bJ=4/\f.aT<=(i:Int)) (aW.iteb (λh=>.some (by rw [Da];exact ⟨λq=>⟨by simpa using h,q⟩,λq=>q.2⟩)) λh=>.some ⟨λh=>(nomatch h),λq=>cM q.1 (by simpa using h)⟩) λy hy=>aW.iteb (λh=>?_) λh=>?_
  ·have hk:=hy.1 h;have:=h4 hk.1;unfold Bo at this;exact .some ⟨λh=>zb,zb,λh=>cM h h3,λ_ _=>rfl⟩
  ·exact .some ⟨λh=>cM h zc,zc,λh=>cM h h3,λh1 h2=>cM (hy.2 ⟨h1,h2⟩) (by rw [h];decide)⟩
def GvR (a w o a':Int):Prop:=w=0/\o=-1/\a'=a ∨ 0<w/\o=a/\a'=a+4*w
theorem Pe {g:eM} {w:Int} (ha:0<=g.fW/\g.fW<=1000000000) (hw:0<=w/\w<=1024):aW (mD g w) λr=>GvR g.fW w r.1 r.2.fW:=by
 unfold mD;refine aW.iteb (λh=>.some (.inl ⟨by simpa using h,rfl,rfl⟩)) λh=>.some (.inr ?_);have h:w ≠ 0:=by simpa using h
 refine ⟨zb,rfl,?_⟩;simp only;rw [dB (n:=4*w) zb zb,dB zb zb]
def AtR (v:Nat) (a:Int):Prop:=0<=a/\a<=4096*v/\a % 4=0
def Yq (f:aJ) (c:aL) (l:List Int) (a:Int):Prop:=∀(i:Nat) o,l[i]? = some o->∃u w,f.aQ[i]? = some u/\WdR f c (i:Int) u w/\(w=0/\o=-1 ∨ 0<w/\0<=o/\o % 4=0/\o+4*w<=a)
def BdR (l:List Int) (a:Int):Prop:=∀b ∈ l,0<=b/\b % 4=0/\b+4<=a
theorem Yq.mono {l:List Int} {a b:Int} (h:Yq f c l a) (hb:a<=b):Yq f c l b:=λi o ho=>by
 obtain ⟨u,w,h1,h2,h3⟩:=h i o ho;exact ⟨u,w,h1,h2,zb⟩
theorem lay_l1 (hl:c.aX.length=f.aQ.length) (hv:f.aQ.length<=4096) (h4:∀u ∈ f.aQ,K4 u):∀(k v:Nat) (g:eM) (x:aP),f.aQ.length<v+k->v<=f.aQ.length->x.zS.length=v->AtR v g.fW->Yq f c x.zS g.fW ->
  aW (DD f c k (v:Int) g x) λr=>r.2.xQ=x.xQ/\r.2.zS.length=f.aQ.length/\AtR f.aQ.length r.1.fW/\Yq f c r.2.zS r.1.fW:=by
 intro k
 induction k with
 | zero=>intro v g x h1 h2;omega
 | succ k ih=>
   intro v g x h1 h2 h3 ha hO;unfold DD
   by_cases hlt:v<f.aQ.length
   ·have hu:=yN hlt;have ha':=ha;unfold AtR at ha';refine aW.take (Ah zb) ((YP hl h4 hu).bind λw hw=>(Pe zb hw.b).bind λr hr=>aW.need (by simp only [vO];omega) ?_);rw [dB (n:=(v:Int)+1) zb zb,show ((v:Int)+1)=((v+1:Nat):Int) by omega];have hb:=hw.b;unfold GvR at hr;refine ih (v+1) r.2 _ zb zb (by simp only [oY,vO];omega) (by unfold AtR;omega) λi o hi=>?_
    by_cases hiv:i<v
    ·rw [Py zb] at hi;exact hO.mono zb i o hi
    ·obtain rfl:i=v:=by
      have:=(xW.1 hi).1;simp only [oY,vO] at this;omega
     rw [Mh zb,h3,xec] at hi;obtain rfl:r.1=o:=by simpa using hi
     exact ⟨_,w,hu,hw,zb⟩
   ·refine aW.skip (SB zb) (.some ⟨rfl,h3.trans zb,?_,hO⟩);obtain rfl:v=f.aQ.length:=zb
    exact ha
theorem lay_l2 (hf:c.gM.length<=250) {B:Nat} (hB:B<=4096):∀(k v:Nat) (g:eM) (x:aP),c.gM.length<v+k->v<=c.gM.length->x.xQ.length=v->AtR (B+v) g.fW->BdR x.xQ g.fW ->
  aW (DC c k (v:Int) g x) λr=>r.2.zS=x.zS/\r.2.xQ.length=c.gM.length/\AtR (B+c.gM.length) r.1.fW/\g.fW<=r.1.fW/\BdR r.2.xQ r.1.fW:=by
 intro k
 induction k with
 | zero=>intro v g x h1 h2;omega
 | succ k ih=>
   intro v g x h1 h2 h3 ha hO;unfold DC
   by_cases hlt:v<c.gM.length
   ·have ha':=ha;unfold AtR at ha';refine aW.take (Ah zb) ((Pe zb zc).bind λr hr=>aW.need (by simp only [vO];omega) ?_);rw [dB (n:=(v:Int)+1) zb zb,show ((v:Int)+1)=((v+1:Nat):Int) by omega];unfold GvR at hr;refine (ih (v+1) r.2 _ zb zb (by simp only [oY,vO];omega) (by unfold AtR;omega) λb hb=>?_).mono λz hz=>⟨hz.1,hz.2.1,hz.2.2.1,by have:=hz.2.2.2.1;omega,hz.2.2.2.2⟩
    rcases yU.1 hb with hb | hb
    ·have:=hO b hb;omega
    ·rw [zU.1 hb];omega
   ·refine aW.skip (SB zb) (.some ⟨rfl,h3.trans zb,?_,Uj _,hO⟩);obtain rfl:v=c.gM.length:=zb
    exact ha
structure LayR (f:aJ) (c:aL) (x:aP):Prop where
 ol:x.zS.length=f.aQ.length
 off:Yq f c x.zS x.KL
 bl:x.xQ.length=c.gM.length
 bd:BdR x.xQ x.KL
 base:x.KL<=1016
 res:f.bO=2 ∨ f.bO=3->0<=x.bO/\x.bO % 4=0/\x.bO+4<=x.KL/\(f.bO=3->x.bO+8<=x.KL)
theorem Lay_tot (hl:c.aX.length=f.aQ.length) (hv:f.aQ.length<=4096) (h4:∀u ∈ f.aQ,K4 u) (hf:c.gM.length<=250) {n:Nat} (hn:100000<=n):aW (DO n f c) λr=>r.2=0->LayR f c r.1:=by
 unfold DO;refine (lay_l1 hl hv h4 n 0 ⟨0⟩ ⟨[],[],0,0⟩ zb (Ko _) rfl (by unfold AtR;decide) λi o h=>nomatch h).bind λy ⟨a1,a2,a3,a4⟩=>?_;refine (lay_l2 hf hv n 0 y.1 y.2 zb (Ko _) (by rw [a1];rfl) a3 λb hb=>by rw [a1] at hb;cases hb).bind λz ⟨b1,b2,b3,b4,b5⟩=>?_
 have ht:aW (BV f) λw=>(0<=w/\w<=2)/\(f.bO=2->w=1)/\(f.bO=3->w=2):=by
  unfold BV;refine aW.iteb (λh=>.some ?_) λh=>aW.iteb (λh2=>.some ?_) λh2=>.some ?_
  ·have h:f.bO=2:=by simpa using h
   omega
  ·have h2:f.bO=3:=by simpa using h2
   omega
  ·have h:f.bO ≠ 2:=by simpa using h
   have h2:f.bO ≠ 3:=by simpa using h2
   omega
 unfold AtR at b3;refine ht.bind λw ⟨hw,h2,h3⟩=>(Pe zb zb).bind λr hr=>aW.iteb (λ_=>.some λh=>cM h zc) λh=>.some λ_=>?_;have h:=Lj h;unfold GvR at hr;refine ⟨by simp only [b1];exact a2,by simp only [b1];exact a4.mono zb,b2,λb hb=>?_,yz,λh=>?_⟩
 ·have:=b5 b hb;simp only;omega
 ·simp only;omega
end
section
variable {f:aJ} {p:Nat} {c:aL} {x:aP} {X:Lh}
theorem CW.pw (h:CW f p c):PW f.aQ c.aX (pC p) [0,1,2,3]:=λv hv u hu hk=>by
 obtain ⟨h0,h1⟩:=Eb hv;obtain ⟨k,rfl⟩:∃k:Nat,v=k:=⟨v.toNat,zb⟩;have h4:=h.p4;refine ⟨_,h.par k u (yJ hu) hk zb,λi hi=>?_⟩;rw [tv,cX rfl,Pz,Fu] at hi;rw [zU.1 hi];have:(k:Int)=0 ∨ (k:Int)=1 ∨ (k:Int)=2 ∨ (k:Int)=3:=zb
 simpa using this
theorem CW.ta (h:CW f p c) (i:Int) (u:aK) (hu:aZ f.aQ i=some u) (hk:u.bJ=1):∃t,aZ c.aX i=some t/\Sh false t/\tm t<=2000:=by
 obtain ⟨h0,h1⟩:=zM hu;obtain ⟨k,rfl⟩:∃k:Nat,i=k:=⟨i.toNat,zb⟩;have h4:=h.p4
 by_cases hp:k<p
 ·exact ⟨_,h.par k u (yJ hu) hk hp,.var zb zb,by rw [tm,wY];omega⟩
 ·exact h.loc k u (yJ hu) hk zb
theorem CW.hq (ho:O15 f p) (h:CW f p c) (ar:∀v ∈ arL f.bH,∀u o,aZ f.aQ v=some u->aZ x.zS v=some o->∀k:Int,0<=k->k<u.jR->X.N 3 (IntKind.u32.wrap (IntKind.i64.wrap (o+IntKind.i64.wrap (4*k))))):Hq X f c x (pC p++BX f.bH) (BX f.bH) 0 f.bH:=
 ⟨h.qx,h.lt,λj v hv=>⟨by rw [Qp];exact h.fr j v hv,by rw [Qp];exact h.word j v hv,by rw [h.fors,Lk];exact (xW.1 hv).1⟩,ar,ho.tz⟩
def XOkG (X:Lh):Prop:=∀f p c x,O15 f p->CW f p c->LayR f c x->IW X f c x/\Hq X f c x (pC p++BX f.bH) (BX f.bH) 0 f.bH
theorem ZQ (hX:XOkG X) {n:Nat} (hn:800000000<=n) (s:cB) (i:Int):aW (oE n s i) λr=>r.2=true->(∀n ∈ r.1.l_,YF X [0,1,2,3] n)/\CF r.1.l_<=16384/\r.1.l_.length<=100000000:=by
 unfold oE;refine aW.iteb (λ_=>.some λh=>(nomatch h)) λhs=>?_;have hs:=Lj hs;refine (Yu (n:=n) (s:=s) zb zb).bind λr hr=>?_;refine aW.iteb (λ_=>.some λh=>(nomatch h)) λhe=>?_;have he:r.2.1=0:=by simpa using he
 obtain ⟨d,rk,hc,hp⟩:=hr he;obtain ⟨r2,e2,h2,_⟩:=zbq hp.pg (n:=n) (i:=i) hp.rkN zb;rw [hc] at e2;rw [e2,iX];refine aW.iteb (λ_=>.some λh=>(nomatch h)) λh3=>?_;have h3:r2.2=0:=by simpa using h3
 rw [←hc] at e2;obtain ⟨k4,p,a1,a2,a3,a4,a5,a6,sc',a7⟩:=of_flat hp zb e2 h3 (h2 h3);have hd:=Flat_dv hp e2 h3;rw [a1,GD] at hd;have ho:O15 r2.1 p:=⟨a1,a2,a3,a4,a6,⟨sc',a7⟩,hd,k4⟩;refine (Yt a1 a2 a3 a6 a7 zb).bind λr3 hr3=>aW.iteb (λ_=>.some λh=>(nomatch h)) λh4=>?_;have h4:r3.2=0:=by simpa using h4
 have hcw:CW r2.1 p r3.1:=by
  have:(r3.1,(0:Int))=r3:=by rw [←h4]
  refine VD (XR:=XT) ho ?_;rw [this];exact hr3
 refine (Lay_tot hcw.terms a3 k4 (by rw [hcw.fors];exact hcw.fl) zb).bind λr4 hr4=>aW.iteb (λ_=>.some λh=>(nomatch h)) λh5=>?_;have h5:r4.2=0:=by simpa using h5
 obtain ⟨g1,g2⟩:=hX _ p _ _ ho hcw (hr4 h5);refine (Yr g1 a7 hcw.pw g2 hn).bind λr5 hr5=>.some λh=>?_;exact hr5 (by simpa using h)
end
def X0:Lh:=⟨λ_ _=>True,λW _ n=>TK W n.A_/\(n.bJ=3->TK W n.B_)⟩
theorem x0_ok:XOkG X0:=λf p c x ho hc hl=>⟨⟨hc.ta,hc.terms,hc.wl,λi u hu=>by
  obtain ⟨h0,h1⟩:=zM hu;obtain ⟨k,rfl⟩:∃k:Nat,i=k:=⟨i.toNat,zb⟩;have:=hl.ol;exact ⟨x.zS[k]'(by omega),pU (yN zb),.inr ⟨trivial,trivial,trivial⟩,λ_=>⟨trivial,trivial⟩,λ_=>trivial⟩,
 λ_ _=>trivial,λ_ _=>trivial,λ_ _ _ _ _=>trivial,λi u hu=>ho.k4 u (OU hu),by rw [hc.fors];exact hc.fl,λk hk=>by
  have:=hl.bl;exact ⟨x.xQ[k]'(by omega),pU (yN zb),trivial,trivial⟩,
 λ_ _ _ _=>⟨trivial,λ_=>trivial⟩,λ_ _ _ _ _ _ _ h=>⟨h,λe=>cM e zd⟩,λ_ _ _ h=>⟨h,λe=>cM e zd⟩,λ_ _ _ _ _ _ h k=>⟨h,λ_=>k⟩⟩,hc.hq ho λ_ _ _ _ _ _ _ _ _=>trivial⟩
theorem Ry {n:Nat} {l:List aF} (h:∀x ∈ l,(fD n).1 x=some true) (hl:l.length<=2) (hn:3<=n):(fD (n+3)).2.1 l=some false:=by
 show dU (eB (uW (fD n).1 n) (n+1)) (n+2) l=_
 have hk:∀k v:Nat,l.length<v+k->v<=l.length->fF (uW (fD n).1 n) l k (v:Int)=some (.inl ()):=by
  intro k
  induction k with
  | zero=>intro v h1 h2;omega
  | succ k ih=>
    intro v h1 h2;unfold fF
    by_cases hv:v<l.length
    ·rw [cX (Ah zb),pU (yN hv),iX];unfold uW;rw [h _ (NY hv),iX,iX,cE zc,dB (n:=(v:Int)+1) zb zb,show ((v:Int)+1)=((v+1:Nat):Int) by omega];exact ih (v+1) zb zb
    ·rw [cE (by rw [Da];omega)]
 have:=hk (n+1) 0 zb (Ko _);rw [show ((0:Nat):Int)=0 from rfl] at this;unfold dU eB;rw [this];rfl
theorem Tb {t:aF} (h:Sh false t):∀n,4*tm t+8<=n->(fD n).1 t=some true:=by
 have step:∀ {t:aF} {n:Nat},1<=t.dJ->t.dJ<=17->BN t.dJ=some (t.aN.length:Int)->(2<t.dJ->t.N_=0)->(t.dJ=2->t.N_<=255)->(fD n).2.1 t.aN=some false->(fD (n+1)).1 t=some true:=by
  intro t n h1 h2 h3 h4 h5 h6;show yX (fD n).2.1 n t=_;unfold yX;rw [cE (by rw [Da];omega),cE (by rw [Da];omega),h3,iX,cE zd]
  have hb:(if (t.dJ == (2:Int))=true then some (decide ((255:Int)<t.N_)) else some false)=some false:=by
   by_cases h:t.dJ=2
   ·rw [cX (by simpa using h),SB (by have:=h5 h;omega)]
   ·rw [cE (by simpa using h)]
  rw [hb]
  by_cases h:2<t.dJ
  ·rw [cX (Ah h),h4 h,cE zc,iX,cE zc,h6];rfl
  ·rw [cE (by rw [Da];exact h),iX,cE zc,h6];rfl
 have nl:∀ {n:Nat},6<=n->(fD n).2.1 []=some false:=λ{n} hn=>by
  obtain ⟨m,rfl⟩:∃m,n=m+3:=⟨n - 3,zb⟩;exact Ry (λx hx=>nomatch hx) zd zb
 induction h with
 | z e=>cases e
 | con=>
   intro n hn;obtain ⟨m,rfl⟩:∃m,n=m+1:=⟨n - 1,zb⟩;exact step (by simp only;decide) (by simp only;decide) rfl (λh=>cM h (by simp only;decide)) (λh=>cM h (by simp only;decide)) (nl (by rw [tm,wY] at hn;omega))
 | var h1 h2=>
   intro n hn;obtain ⟨m,rfl⟩:∃m,n=m+1:=⟨n - 1,zb⟩;exact step (by simp only;decide) (by simp only;decide) rfl (λh=>cM h (by simp only;decide)) (λ_=>h2) (nl (by rw [tm,wY] at hn;omega))
 | @un o x ho hx ih=>
   intro n hn;rw [tm,wY,wY] at hn;obtain ⟨m,rfl⟩:∃m,n=m+3+1:=⟨n - 4,zb⟩;refine step yz yz ?_ (λ_=>rfl) (λh=>cM h yz) (Ry (λy hy=>?_) zd zb)
   ·rcases ho with rfl | rfl <;> rfl
   ·rw [zU.1 hy];exact ih m zb
 | @bin o x y h1 h2 hx hy i1 i2=>
   intro n hn;rw [tm,wY,wY,wY] at hn;obtain ⟨m,rfl⟩:∃m,n=m+3+1:=⟨n - 4,zb⟩;refine step yz yz ?_ (λ_=>rfl) (λh=>cM h yz) (Ry (λz hz=>?_) zd zb)
   ·unfold BN;rw [cE (by rw [Da];simp only;omega),cE (by rw [Da];simp only;omega)];rfl
   ·rcases Di.1 hz with rfl | hz
    ·exact i1 m zb
    ·rw [zU.1 hz];exact i2 m zb
theorem EM {t:aF} (h:Sh false t) (hz:tm t<=2000) {n:Nat} (hn:200000000<=n):kP n t=some true:=by
 unfold kP;rw [Uh _ _ zb zb,iX,cX (Ah zb)];show (((fD n).1 t).bind _).bind _=_;rw [Tb h n zb];rfl
theorem Qs {W:List Int} (hW:W.length<=20000) {t:aF} (h0:0<=t.N_/\t.N_<=255):∀k v:Nat,W.length<v+k->v<=W.length->rJ W t k (v:Int)=some (if t.N_ ∈ W.drop v then .inr true else .inl ()):=by
 have ew:IntKind.i64.wrap t.N_=t.N_:=dB zb zb;intro k
 induction k with
 | zero=>intro v h1 h2;omega
 | succ k ih=>
   intro v h h2;unfold rJ
   by_cases hv:v<W.length
   ·rw [cX (Ah zb),pU (yN hv),iX,ew,Sq hv]
    by_cases e:W[v]=t.N_
    ·rw [cX (by simpa using e),cX (by rw [e];exact PH)]
    ·rw [cE (by simpa using e),dB (n:=(v:Int)+1) zb zb,show ((v:Int)+1)=((v+1:Nat):Int) by omega,ih (v+1) zb zb]
     by_cases h2:t.N_ ∈ W.drop (v+1)
     ·rw [cX h2,cX (Nm _ h2)]
     ·rw [cE h2,cE];exact λh3=>(Di.1 h3).elim (λh4=>e h4.symm) h2
   ·rw [cE (by rw [Da];omega),WR zb,cE zd]
theorem WY {rc:aF->List Int->Option Bool} {W:List Int} {t:aF} (h:∀x ∈ t.aN,rc x W=some true) (hl:t.aN.length<=2):∀k v:Nat,t.aN.length<v+k->v<=t.aN.length->rH rc t W k (v:Int)=some (.inl ()):=by
 intro k
 induction k with
 | zero=>intro v h1 h2;omega
 | succ k ih=>
   intro v h0 h2;unfold rH
   by_cases hv:v<t.aN.length
   ·rw [cX (Ah zb),pU (yN hv),iX,h _ (NY hv),iX,cE zc,dB (n:=(v:Int)+1) zb zb,show ((v:Int)+1)=((v+1:Nat):Int) by omega];exact ih (v+1) zb zb
   ·rw [cE (by rw [Da];omega)]
theorem Eq {W:List Int} (hW:W.length<=20000) {t:aF} (h:Sh false t):∀n,tm t+20002<=n->(∀k ∈ tv t,k ∈ W)->dF n t W=some true:=by
 have step:∀ {t:aF} {n:Nat},t.dJ ≠ 2->t.aN.length<=2->10<=n->(∀x ∈ t.aN,dF n x W=some true)->dF (n+1) t W=some true:=by
  intro t n h1 h2 h3 h4;show gY (dF n) n t W=_;unfold gY;have:=WY h4 h2 n 0 zb (Ko _);rw [show ((0:Nat):Int)=0 from rfl] at this;rw [cE (by simpa using h1),this];rfl
 induction h with
 | z e=>cases e
 | con=>
   intro n hn hk;obtain ⟨m,rfl⟩:∃m,n=m+1:=⟨n - 1,zb⟩;exact step (by simp only;decide) zd zb λx hx=>nomatch hx
 | @var i h1 h2=>
   intro n hn hk;obtain ⟨m,rfl⟩:∃m,n=m+1:=⟨n - 1,zb⟩;show gY (dF m) m _ W=_;unfold gY;have:=Qs hW (t:=⟨2,i,[]⟩) ⟨h1,h2⟩ m 0 zb (Ko _);rw [show ((0:Nat):Int)=0 from rfl,DH,cX (hk i (by rw [tv,cX rfl,Pz];exact PH))] at this;rw [cX (by rfl),this];rfl
 | @un o x ho hx ih=>
   intro n hn hk;rw [tm,wY,wY] at hn;rw [tv,Pz,Pz,Fu] at hk;obtain ⟨m,rfl⟩:∃m,n=m+1:=⟨n - 1,zb⟩;refine step yz zd zb λy hy=>?_;rw [zU.1 hy];exact ih m zb λk h=>hk k (IU _ h)
 | @bin o x y h1 h2 hx hy i1 i2=>
   intro n hn hk;rw [tm,wY,wY,wY] at hn;rw [tv,Pz,Pz,Pz,Fu] at hk;obtain ⟨m,rfl⟩:∃m,n=m+1:=⟨n - 1,zb⟩;refine step yz zd zb λz hz=>?_
   rcases Di.1 hz with rfl | hz
   ·exact i1 m zb λk h=>hk k (IU _ (GC _ h))
   ·rw [zU.1 hz];exact i2 m zb λk h=>hk k (IU _ (IU _ h))
theorem Ts {W:List Int} (hW:W.length<=20000) {w:Int} (h0:4<=w) (h1:w<=254) (hw:w ∉ W) {n:Nat} (hn:20002<=n) {K:aF->Option Bool} (hK:∀t,K t=(dF n t W).bind λx=>some x):(Cc w).bind K=some false:=by
 have ew:IntKind.u32.wrap w=w:=by rw [IntKind.wrap_u32];omega
 unfold Cc;rw [iX,hK,ew];obtain ⟨m,rfl⟩:∃m,n=m+1:=⟨n - 1,zb⟩;show (gY (dF m) m _ W).bind _=_;unfold gY;have:=Qs hW (t:=⟨2,w,[]⟩) ⟨yz,yz⟩ m 0 zb (Ko _);rw [show ((0:Nat):Int)=0 from rfl,DH,cE hw] at this;rw [cX (by rfl),this];rfl
theorem Ql.nts {W:List Int} {r r2:Int} {os:List VOp} {ns:List bL} (h:Ql X0 W r os ns r2):(∀n ∈ ns,TK W n.A_/\(n.bJ=3->TK W n.B_))/\ns.length<=os.length:=by
 induction h with
 | nil=>exact ⟨oD,uZ _⟩
 | op _ _ _ _ _ ih=>exact ⟨ih.1,by rw [qB];omega⟩
 | noted _ _ h _ ih=>exact ⟨λn hn=>(Di.1 hn).elim (λe=>e ▸ h) (ih.1 n),by simp only [qB];omega⟩
section
variable {W:List Int} {n:Nat}
theorem Zf (hn:200000000<=n) (hW:W.length<=20000) {p:cU} (h:∀n ∈ p.cO,TK W n.A_/\(n.bJ=3->TK W n.B_)) (hl:p.cO.length<=20000):∀k v:Nat,p.cO.length<v+k->v<=p.cO.length->rG n p W k (v:Int)=some (.inl ()):=by
 intro k
 induction k with
 | zero=>intro v h1 h2;omega
 | succ k ih=>
   intro v h1 h2;unfold rG
   by_cases hv:v<p.cO.length
   ·obtain ⟨⟨a1,a2,a3⟩,hb⟩:=h _ (NY hv);rw [cX (Ah zb),pU (yN hv),iX,EM a1 a2 hn,iX,cE zc,Eq hW a1 n zb a3,iX,cE zc]
    have e:(if (p.cO[v].bJ == (3:Int))=true then (kP n p.cO[v].B_).bind λx56=>if (!x56)=true then some true else (dF n p.cO[v].B_ W).bind λx59=>some (!x59) else some false)=some false:=by
     by_cases hk:p.cO[v].bJ=3
     ·obtain ⟨b1,b2,b3⟩:=hb hk;rw [cX (by simpa using hk),EM b1 b2 hn,iX,cE zc,Eq hW b1 n zb b3];rfl
     ·rw [cE (by simpa using hk)]
    rw [e,iX,cE zc,dB (n:=(v:Int)+1) zb zb,show ((v:Int)+1)=((v+1:Nat):Int) by omega];exact ih (v+1) zb zb
   ·rw [cE (by rw [Da];omega)]
theorem Zg (hn:200000000<=n) (hW:W.length<=20000) {x:bB} (h:∀p ∈ [x.JQ,x.Rc,x.Rb],(∀n ∈ p.cO,TK W n.A_/\(n.bJ=3->TK W n.B_))/\p.cO.length<=20000):∀k v:Nat,3<v+k->v<=3->nO n x W k (v:Int)=some (.inl ()):=by
 intro k
 induction k with
 | zero=>intro v h1 h2;omega
 | succ k ih=>
   intro v h1 h2;unfold nO
   by_cases hv:v<3
   ·have hv':v < [x.JQ,x.Rc,x.Rb].length:=hv;obtain ⟨a1,a2⟩:=h _ (NY hv');have:=Zf hn hW a1 a2 n 0 zb (Ko _);rw [show ((0:Nat):Int)=0 from rfl] at this;rw [cX (Ah zb),pU (yN hv'),iX,this,iX,dB (n:=(v:Int)+1) zb zb,show ((v:Int)+1)=((v+1:Nat):Int) by omega];exact ih (v+1) zb zb
   ·rw [cE (by rw [Da];omega)]
def TmN (rc:List bB->List Int->Option Bool) (n:Nat) (W:List Int) (x:bB):Prop:=∀(a0:List bB) (k v:Nat),a0[v]? = some x->a0.length<=100000000->jN rc n a0 W (k+1) (v:Int)=jN rc n a0 W k ((v+1:Nat):Int)
theorem ZZ {x:bB} {l:List bB} (h:x ∈ l):nOp x<=CF l:=by
 induction l with
 | nil=>cases h
 | cons y l ih=>
   rw [CF]
   rcases Di.1 h with rfl | h
   ·omega
   ·have:=ih h;omega
theorem Qt {n:Nat} (hn:2<=n):fX n [] W=some true:=by
 obtain ⟨m,rfl⟩:∃m,n=m+2:=⟨n - 2,zb⟩;rfl
theorem NR {m:Nat}:(∀n ∈ (⟨[],[]⟩:cU).cO,TK W n.A_/\(n.bJ=3->TK W n.B_))/\(⟨[],[]⟩:cU).cO.length<=m:=⟨oD,Ko _⟩
theorem Xz {x:bB} (hx:YF X0 W x) (hn:300000000<=n) (hW:W.length+nOp x<=20000) (ih:∀(W:List Int) (l:List bB),(∀y ∈ l,YF X0 W y)->l.length<=100000000->W.length+CF l<=20000->CF l<nOp x->fX n l W=some true):TmN (fX n) n W x:=by
 intro a0 k v hv hl;have hlt:=(xW.1 hv).1
 have two:∀(p q r:cU) (hp:(∀n ∈ p.cO,TK W n.A_/\(n.bJ=3->TK W n.B_))/\p.cO.length<=20000) (hq:(∀n ∈ q.cO,TK W n.A_/\(n.bJ=3->TK W n.B_))/\q.cO.length<=20000) (hr:(∀n ∈ r.cO,TK W n.A_/\(n.bJ=3->TK W n.B_))/\r.cO.length<=20000),x.JQ=p->x.Rc=q->x.Rb=r->nO n x W n (0:Int)=some (.inl ()):=λp q r hp hq hr e1 e2 e3=>by
  have:=Zg (W:=W) (n:=n) zb zb (x:=x) (by rw [e1,e2,e3];exact za8 hp hq hr) n 0 zb (Ko _)
  rwa [show ((0:Nat):Int)=0 from rfl] at this
 have ew:IntKind.i64.wrap ((v:Int)+1)=((v+1:Nat):Int):=by rw [dB zb zb];omega
 conv=>lhs;unfold jN
 rw [cX (Ah zb),pU hv,iX,ew];cases hx with
 | @line _ os ns r g=>
   obtain ⟨g1,g2⟩:=g.nts;rw [nOp] at hW;simp only at hW;rw [two ⟨os,ns⟩ ⟨[],[]⟩ ⟨[],[]⟩ ⟨g1,yz⟩ NR NR rfl rfl rfl,iX];simp only [xed];rw [cE zc,cE zc,Qt zb];rfl
 | @Ln _ os ns r a t b e g ho ht h1 hb he lb le=>
   obtain ⟨g1,g2⟩:=g.nts;obtain ⟨t1,t2,t3⟩:=ht;rw [nOp] at hW ih;simp only [oY,vO,sY] at hW ih;rw [two ⟨os++[Jx 31 0 [] [a]],ns⟩ ⟨[],[]⟩ ⟨[],[]⟩ ⟨g1,yz⟩ NR NR rfl rfl rfl,iX];simp only [xed];rw [cX zc,EM t1 t2 zb,iX,cE zc,Eq zb t1 n zb t3,iX,cE zc,iX,cE (by simpa using h1),ih W b hb lb zb zb,iX,cE zc,ih W e he le zb zb];rfl
 | @Ba _ w os ns r os2 ns2 r2 a os3 ns3 r3 lo hi b g g' ho g'' hlo hhi h4 h5 hw hb lb=>
   obtain ⟨g1,g2⟩:=g.nts;obtain ⟨g3,g4⟩:=g'.nts;obtain ⟨g5,g6⟩:=g''.nts;obtain ⟨t1,t2,t3⟩:=hlo;obtain ⟨u1,u2,u3⟩:=hhi;rw [nOp] at hW ih;simp only [oY,vO,sY] at hW ih;rw [two ⟨os,ns⟩ ⟨os2++[Jx 31 0 [] [a]],ns2⟩ ⟨os3,ns3⟩ ⟨g1,yz⟩ ⟨g3,yz⟩ ⟨g5,yz⟩ rfl rfl rfl,iX];simp only [xed];rw [cE zc,cX zc,EM t1 t2 zb,iX,cE zc,EM u1 u2 zb,iX,cE zc,Eq zb t1 n zb t3,iX,cE zc,Eq zb u1 n zb u3,iX,cE zc,cE (by rw [Da];omega),Ts zb h4 h5 hw (n:=n) zb λt=>rfl,iX,cE zc,wP zb,wP (by simp only [vO];omega),ih (W++[w]) b hb lb (by simp only [oY,vO];omega) zb,iX,cE zc,Qt zb];rfl
theorem UB:∀(n:Nat) (W:List Int) (l:List bB),(∀y ∈ l,YF X0 W y)->l.length<=100000000->W.length+CF l<=20000->300000001+CF l<=n->fX n l W=some true:=by
 intro n
 induction n with
 | zero=>intro W l h1 h2 h3 h4;omega
 | succ n ih=>
   intro W l h1 h2 h3 h4
   have hx:∀x ∈ l,TmN (fX n) n W x:=λx hx=>by
    have:=ZZ hx;exact Xz (h1 x hx) zb zb λW' l' a1 a2 a3 a4=>ih W' l' a1 a2 a3 zb
   have hk:∀k v:Nat,l.length<v+k->v<=l.length->jN (fX n) n l W k (v:Int)=some (.inl ()):=by
    intro k
    induction k with
    | zero=>intro v a1 a2;omega
    | succ k ihk=>
      intro v a1 a2
      by_cases hv:v<l.length
      ·rw [hx _ (NY hv) l k v (yN hv) h2];exact ihk (v+1) zb zb
      ·unfold jN;rw [cE (by rw [Da];omega)]
   have:=hk n 0 zb (Ko _);rw [show ((0:Nat):Int)=0 from rfl] at this;show oH (fX n) n l W=_;unfold oH;rw [this];rfl
end
theorem Qf {n:Nat} (hn:800000000<=n) (ha:mL n=some true) (s:cB) (i:Int):nP n s i=some true:=by
 unfold nP;rw [ha,iX,cE zc];obtain ⟨⟨r,b⟩,e,hr⟩:=ZQ x0_ok hn s i;rw [e,iX];cases b with
 | false=>rfl
 | true=>
   obtain ⟨h1,h2,h3⟩:=hr rfl;rw [cE zd,UB n _ _ h1 h3 (by simp only [qB,sY];simp only at h2;omega) (by simp only at h2;simp only;omega)];rfl
theorem za7:mL 800000000=some true:=ze
theorem TJ:∃n,∀(s:cB) (i:Int),nP n s i=some true:=⟨_,Qf (uZ _) za7⟩
