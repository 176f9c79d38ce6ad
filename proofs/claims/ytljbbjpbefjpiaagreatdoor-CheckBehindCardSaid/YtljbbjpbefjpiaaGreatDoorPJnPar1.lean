import Derived.Lib.ItoaNum
import Derived.Test.YtljbbjpbefjpiaaGreatDoorPBh1
namespace Go.Proofs.YtljbbjpbefjpiaaGreatDoor.Abs.Jn
open Go.RowKit
set_option linter.all false
structure PI (p:aA):Prop where
 lo:0<=p.fA
 hi:p.fA<p.l_.length
 big:p.l_.length<=65537
 toks:∃l z,p.l_=l++[z]/\Gu l/\z.bT=4
structure Gd (p p':aA):Prop where
 inv:PI p'
 l:p'.l_=p.l_
 at':p.fA<=p'.fA
 err':p.e_ ≠ 0->p'.e_=p.e_/\p'.fA=p.fA
structure GA (p p':aA):Prop extends Gd p p' where
 adv:p'.e_=0->p.fA<p'.fA
theorem Gd.err {p q:aA} (h:Gd p q):p.e_ ≠ 0->q.e_ ≠ 0/\q.fA=p.fA:=λhe=>⟨by rw [(h.err' he).1];exact he,(h.err' he).2⟩
theorem Gd.refl {p:aA} (h:PI p):Gd p p:=⟨h,rfl,NR _,λh=>⟨rfl,rfl⟩⟩
theorem Gd.trans {p q r:aA} (h:Gd p q) (k:Gd q r):Gd p r:=⟨k.inv,k.l.trans h.l,Int.le_trans h.at' k.at',λhe=>⟨(k.err' (h.err he).1).1.trans (h.err' he).1,(k.err' (h.err he).1).2.trans (h.err' he).2⟩⟩
theorem Gd.e0 {p q:aA} (h:Gd p q) (he:q.e_=0):p.e_=0:=Classical.byContradiction λhn=>(h.err hn).1 he
theorem Gd.ga {p q r:aA} (h:Gd p q) (k:GA q r):GA p r:=⟨h.trans k.toGd,λhe=>Int.lt_of_le_of_lt h.at' (k.adv he)⟩
theorem GA.gd {p q r:aA} (h:GA p q) (k:Gd q r):GA p r:=⟨h.toGd.trans k,λhe=>Int.lt_of_lt_of_le (h.adv (k.e0 he)) k.at'⟩
theorem GA.ga {p q r:aA} (h:GA p q) (k:GA q r):GA p r:=h.gd k.toGd
theorem Gd.len {p q:aA} (h:Gd p q):q.l_.length=p.l_.length:=by rw [h.l]
section
variable {p:aA} {n:Nat}
theorem nI (h:PI p):bD (cG p) λt=>t.bT ≠ 4->p.fA+1<p.l_.length:=by
 unfold cG;refine bD.bind' (bD.idx h.lo h.hi λx hx=>.some λhk=>?_);obtain ⟨l,z,h1,h2,h3⟩:=h.toks;have h4:=h.lo;have h5:=h.hi;rw [h1] at hx h5 ⊢;simp only [mK,mQ] at h5 ⊢
 by_cases h6:p.fA.toNat=l.length
 ·rw [NW (by omega),h6,Nat.sub_self] at hx;simp at hx
  subst hx;exact absurd h3 hk
 ·omega
theorem sL (h:PI p) {e:Int} (he:e ≠ 0):bD (fF p e) λq=>Gd p q/\q.e_ ≠ 0:=by
 unfold fF;refine bD.iteb (λh1=>?_) λh1=>.some ⟨.refl h,by simpa using h1⟩;simp only [beq_iff_eq] at h1;exact (nI h).bind λt _=>.some ⟨⟨⟨h.lo,h.hi,h.big,h.toks⟩,rfl,NR _,λhn=>absurd h1 hn⟩,he⟩
theorem oX (h:PI p) {k:Int}:bD (dR p k) λr=>Gd p r.2/\r.1.aL=[]:=by
 unfold dR;have hp:PI { p with nV:=(IntKind.i64.wrap (p.nV+(1:Int))) }:=⟨h.lo,h.hi,h.big,h.toks⟩;have hg:Gd p { p with nV:=(IntKind.i64.wrap (p.nV+(1:Int))) }:=⟨hp,rfl,NR _,λhn=>⟨rfl,rfl⟩⟩;refine bD.iteb (λh1=>?_) λh1=>?_
 ·exact (sL hp (by decide)).bind λq ⟨g,_⟩=>(nI g.inv).bind λt _=>.some ⟨hg.trans g,rfl⟩
 ·exact (nI hp).bind λt _=>.some ⟨hg,rfl⟩
theorem Ij (l:List cB) (s:cB) (hl:l.length<1000):∀(c:Nat) (v:Nat),l.length<v+c->v<=l.length->(∀y ∈ l.take v,decide (s=y)=false) ->
  bD (iL l s c v) λr=>match r with | .inl _=>(l.any λy=>decide (s=y))=false | .inr k=>0<=k/\(l.any λy=>decide (s=y))=true:=by
 intro c
 induction c with
 | zero=>intro v h1 h2;omega
 | succ c ih=>
   intro v h1 h2 h3;unfold iL;refine bD.iteb (λh4=>?_) (λh4=>?_)
   ·simp only [uH] at h4;refine bD.bind' (bD.idx (by omega) h4 λx hx=>?_);rw [yV] at hx;refine bD.iteb (λh5=>.some ⟨by omega,?_⟩) (λh5=>?_)
    ·exact xeq.2 ⟨x,Fw hx,h5⟩
    ·rw [cZ (by omega) (by omega)];refine ih (v+1) (by omega) (by omega) ?_;rw [take_step' hx];intro y hy
     rcases BQ.1 hy with hy | hy
     ·exact h3 y hy
     ·rw [DX.1 hy];exact h5
   ·refine .some ?_;simp only [decide_eq_false_iff_not] at h4;rw [xdq (by omega)] at h3;exact List.any_eq_false.2 λy hy=>by simp [h3 y hy]
def Bc (s:cB):Bool:=cE.any λy=>decide (s=y)
theorem CA {s:cB} (hn:13<n):rX n s=some (Bc s):=by
 unfold rX iM jK;obtain ⟨r,e,hr⟩:=Ij cE s (by decide) n 0 (by have:cE.length=13:=rfl;omega) (by omega) (by simp);rw [show ((0:Nat):Int)=0 from rfl] at e;rw [e,bU];unfold Bc;cases r with
 | inl _=>rw [hr];rfl
 | inr k=>
   rw [hr.2];simp only [xeg,bU,Option.some.injEq,uH];exact hr.1
theorem zV (h:PI p) (hn:13<n) {s:cB}:bD (fX n p s) λb=>b=true->p.e_=0/\p.fA+1<p.l_.length:=by
 unfold fX;refine (nI h).bind λt ht=>?_;refine bD.bind (P:=λb=>b=true->p.e_=0/\p.fA+1<p.l_.length) ?_ λb hb=>.some hb;refine bD.iteb (λh1=>?_) λh1=>.some λh=>by cases h
 simp only [beq_iff_eq] at h1;refine bD.iteb (λh2=>?_) λh2=>.some λh=>by cases h
 refine bD.iteb (λh3=>.some λ_=>⟨h1,ht ?_⟩) λh3=>?_
 ·simp only [beq_iff_eq] at h3;omega
 refine bD.iteb (λh4=>?_) λh4=>.some λh=>by cases h
 rw [CA hn,bU];refine .some λ_=>⟨h1,ht ?_⟩;simp only [beq_iff_eq] at h4;omega
theorem BS (h:PI p) (he:p.e_=0) (hk:p.fA+1<p.l_.length):IntKind.i64.wrap (p.fA+(1:Int))=p.fA+1/\GA p { p with fA:=p.fA+1 }:=by
 have h1:=h.lo;have h2:=h.big;refine ⟨cZ (by omega) (by omega),⟨⟨⟨by simp only;omega,by simpa using hk,h.big,h.toks⟩,rfl,by simp only;omega,λhn=>absurd he hn⟩,λ_=>by simp only;omega⟩⟩
theorem dZ (h:PI p) (hn:13<n) {s:cB}:bD (bE n p s) λr=>Gd p r.2/\(r.1=true->p.e_=0/\GA p r.2/\r.2.e_=0)/\(r.1=false->r.2=p):=by
 unfold bE;refine (zV h hn).bind λb hb=>?_;refine bD.iteb (λh1=>.some ⟨.refl h,(λh=>by cases h),λ_=>rfl⟩) λh1=>?_;simp only [Bool.not_eq_false'] at h1;obtain ⟨h2,h3⟩:=hb h1;obtain ⟨h4,h5⟩:=BS h h2 h3;rw [h4];exact .some ⟨h5.toGd,λ_=>⟨h2,h5,h2⟩,λh=>by cases h⟩
theorem dM (h:PI p) (hn:13<n) {s:cB}:bD (aX n p s) λq=>GA p q:=by
 unfold aX;refine (dZ h hn).bind λr ⟨h1,h2,h3⟩=>?_;refine bD.iteb (λh4=>?_) λh4=>.some (h2 (by simpa using h4)).2.1;exact (sL h1.inv (by decide)).bind λq ⟨g,he⟩=>.some ⟨h1.trans g,λh=>absurd h he⟩
theorem oY (h:PI p) (hn:13<n):bD (dD n p) λr=>GA p r.2:=by
 unfold dD;refine (nI h).bind λt ht=>?_;refine bD.bind (P:=λb=>b=false->p.e_=0/\t.bT=1) ?_ λb hb=>?_
 ·refine bD.iteb (λh1=>.some λh=>by cases h) λh1=>?_;refine bD.iteb (λh2=>.some λh=>by cases h) λh2=>?_;rw [CA hn,bU];exact .some λ_=>⟨by simpa using h1,by simpa using h2⟩
 ·refine bD.iteb (λh1=>?_) λh1=>?_
  ·exact (sL h (by decide)).bind λq ⟨g,he⟩=>.some ⟨g,λh=>absurd h he⟩
  ·obtain ⟨h2,h3⟩:=hb h1;obtain ⟨h4,h5⟩:=BS h h2 (ht (by omega));rw [h4];exact .some h5
theorem wS (h:PI p):bD (gG p) λr=>GA p r.2:=by
 unfold gG;refine (nI h).bind λt ht=>?_;refine bD.bind (P:=λb=>b=false->p.e_=0/\t.bT=2) ?_ λb hb=>?_
 ·refine bD.iteb (λh1=>.some λh=>by cases h) λh1=>.some λh=>⟨by simpa using h1,by simpa using h⟩
 ·refine bD.iteb (λh1=>?_) λh1=>?_
  ·exact (sL h (by decide)).bind λq ⟨g,he⟩=>.some ⟨g,λh=>absurd h he⟩
  ·obtain ⟨h2,h3⟩:=hb h1;obtain ⟨h4,h5⟩:=BS h h2 (ht (by omega));rw [h4];exact .some h5
theorem Dg (h:PI p) (hn:13<n):bD (iH n p) λr=>GA p r.2:=by
 unfold iH;exact (dM h hn).bind λq g1=>(wS g1.inv).bind λr g2=>(dM g2.inv hn).bind λs g3=>.some (g1.ga (g2.ga g3))
theorem Hv (hn:13<n):∀(c:Nat) (v:Nat) (p:aA) (x y:aB),3<v+c->v<=3->PI p->bD (fJ n c v p x y) λr=>match r with | .inl s=>Gd p s.1 | .inr s=>Gd p s.2:=by
 intro c
 induction c with
 | zero=>intro v p x y h1 h2;omega
 | succ c ih=>
   intro v p x y h1 h2 h;unfold fJ;refine bD.iteb (λh4=>?_) λh4=>.some (.refl h);simp only [uH] at h4;refine bD.bind' (bD.idx (by omega) (by have:gC.length=3:=rfl;omega) λz hz=>?_);refine (dZ h hn).bind λr ⟨g1,g2,g3⟩=>?_;refine bD.iteb (λ_=>.some g1) λ_=>?_;rw [cZ (by omega) (by omega)];refine (ih (v+1) r.2 x y (by omega) (by omega) g1.inv).mono λs hs=>?_;cases s with
   | inl s=>exact g1.trans hs
   | inr s=>exact g1.trans hs
theorem FK (h:PI p) (hn:13<n):bD (eJ n p) λr=>GA p r.2:=by
 unfold eJ;refine (oX h).bind λr ⟨g1,_⟩=>(oY g1.inv hn).bind λs g2=>(dM g2.inv hn).bind λq g3=>?_;refine (Hv hn n 0 q _ _ (by omega) (by omega) g3.inv).bind λy hy=>?_;have g4:=g1.ga (g2.ga g3);refine bD.elim (λz e=>?_) λz e=>?_
 ·subst e;exact (oX hy.inv).bind λr ⟨g5,_⟩=>(Dg g5.inv hn).bind λs g6=>.some ((g4.gd hy).ga (g5.ga g6))
 ·subst e;exact .some (g4.gd hy)
theorem Bb (hn:13<n):∀(c:Nat) (l:List aB) (p:aA),PI p->(p.l_.length:Int) - p.fA<c->(l.length:Int)<=p.fA->bD (dO n c l p) λr=>Gd p r.2/\(r.1.length:Int)<=r.2.fA+1:=by
 intro c
 induction c with
 | zero=>intro l p h h1 h2;have:=h.hi;omega
 | succ c ih=>
   intro l p h h1 h2;have k1:=h.lo;have k2:=h.hi;have k3:=h.big;unfold dO;refine bD.iteb (λh4=>?_) λh4=>.some ⟨.refl h,by simp only;omega⟩;refine (FK h hn).bind λx g1=>?_;refine bD.need (by simp only [mQ];omega) ?_;refine (dZ g1.inv hn).bind λr ⟨g2,g3,_⟩=>?_;have m1:=g1.at';have m2:=g2.at';refine bD.iteb (λh5=>.some ⟨g1.toGd.trans g2,by simp only [mK,mQ];omega⟩) λh5=>?_;have g4:=g3 (by simpa using h5);have g5:=g1.ga g4.2.1;have m3:=g1.adv g4.1;have m4:=g1.toGd.trans g2;refine (ih _ r.2 g2.inv (by rw [m4.len];omega) (by simp only [mK,mQ];omega)).mono λs ⟨s1,s2⟩=>⟨g5.toGd.trans s1,s2⟩
theorem vP (h:PI p) (hn:13<n) (hb:(p.l_.length:Int) - p.fA<n):bD (cH n p) λr=>GA p r.2/\r.1.length<=65538:=by
 unfold cH;refine (dM h hn).bind λq g1=>(dZ g1.inv hn).bind λr ⟨g2,g3,g4⟩=>?_;refine bD.iteb (λh5=>.some ⟨g1.gd g2,by simp⟩) λh5=>?_;have m1:=g1.at';have m2:=g2.at';have g5:=g1.gd g2;have k0:=g2.inv.lo;refine bD.bind (P:=λy=>Gd r.2 y.2/\y.1.length<=65538) ?_ λy ⟨g6,m3⟩=>?_
 ·refine (Bb hn n [] r.2 g2.inv (by rw [g5.len];omega) (by simpa using k0)).bind λy ⟨y1,y2⟩=>.some ⟨y1,?_⟩;have k1:=y1.inv.hi;have k2:=y1.inv.big;show y.1.length<=_;omega
 ·exact (dM g6.inv hn).bind λs g7=>.some ⟨(g5.gd g6).ga g7,m3⟩
theorem BH (h:PI p) {a:Int}:bD (iJ p a) λq=>Gd p q:=by
 unfold iJ;refine bD.iteb (λ_=>?_) λ_=>.some (.refl h);exact (sL h (by decide)).bind λq ⟨g,_⟩=>.some g
theorem Ht (h:PI p) (hn:13<n) (x:List cB) (hx:x.length=3):∀(c:Nat) (v:Nat),3<v+c->v<=3->bD (gP n x p c v) λr=>match r with | .inl _=>True | .inr t=>p.e_=0:=by
 intro c
 induction c with
 | zero=>intro v h1 h2;omega
 | succ c ih=>
   intro v h1 h2;unfold gP;refine bD.iteb (λh4=>?_) λh4=>.some trivial;simp only [uH] at h4;refine bD.bind' (bD.idx (by omega) (by omega) λz hz=>?_);refine bD.bind (P:=λb=>b=true->p.e_=0) ?_ λb hb=>?_
   ·refine bD.iteb (λ_=>?_) λ_=>.some λh=>by cases h
    exact (zV h hn).bind λb hb=>.some λh=>(hb h).1
   ·refine bD.iteb (λh5=>.some (hb h5)) λh5=>?_;rw [cZ (by omega) (by omega)];exact ih (v+1) (by omega) (by omega)
theorem Bl (h:PI p) (hn:13<n) {a:Int} (h0:0<=a) (h1:a<7):bD (iI n p a) λt=>t ≠ []->p.e_=0:=by
 unfold iI;refine bD.bind' (bD.idx h0 (by have:cQ.length=7:=rfl;omega) λx hx=>?_)
 have hl:x.length=3:=by
  have:(cQ.all λy=>y.length == 3)=true:=by decide
  simpa using EG.1 this x (Fw hx)
 refine (Ht h hn x hl n 0 (by omega) (by omega)).bind λy hy=>bD.elim (λ_ _=>.some λh=>absurd rfl h) λz e=>?_;subst e;exact .some λ_=>hy
end
end Go.Proofs.YtljbbjpbefjpiaaGreatDoor.Abs.Jn
namespace Go.Proofs.YtljbbjpbefjpiaaGreatDoor.Abs.Jn
open Go.RowKit
set_option linter.all false
def Lf (p:aA):Int:=16*((p.l_.length:Int) - p.fA)
theorem Gd.lf {p q:aA} (h:Gd p q):Lf q<=Lf p:=by have:=h.at';unfold Lf;rw [h.len];omega
theorem GA.lf {p q:aA} (h:GA p q) (he:q.e_=0):Lf q+16<=Lf p:=by have:=h.adv he;unfold Lf;rw [h.toGd.len];omega
theorem PI.lf {p:aA} (h:PI p):16<=Lf p:=by have:=h.hi;unfold Lf;omega
def CF (n:Nat) (k:Int) (f:aA->Int->Option (aB × aA)):Prop:=∀p a,PI p->Lf p+k<=n->bD (f p a) λr=>GA p r.2
def SE (n:Nat) (f:aA->Int->Int->Option (aB × aA)):Prop:=∀p a b,PI p->0<=a->a<=7->Lf p+29 - a<=n->bD (f p a b) λr=>GA p r.2
def OkA (n:Nat) (f:aA->Int->Option ((List aB) × aA)):Prop:=∀p a,PI p->Lf p+25<=n->bD (f p a) λr=>GA p r.2
section
variable {n:Nat} {p:aA}
theorem HI (hn:13<n) {f:aA->Int->Int->Option (aB × aA)} {a1 a2:Int} (h0:0<=a1) (h6:a1<7) {k:Int} (hf:∀p,PI p->Lf p<=k->bD (f p (a1+1) a2) λr=>GA p r.2) :
  ∀(c:Nat) (t:cB) (p:aA) (x:aB),PI p->Lf p<=k->1<=c->(t ≠ []->Lf p+1<=c)->bD (cT f n a1 a2 c t p x) λr=>Gd p r.1:=by
 intro c
 induction c with
 | zero=>intro t p x h hl h1;omega
 | succ c ih=>
   intro t p x h hl h1 h2;unfold cT;refine bD.iteb (λh4=>?_) λh4=>.some (.refl h);simp only [ne_eq,uH] at h4;have h5:=h2 h4;have h6':=h.lf;refine (oX h).bind λr ⟨g1,_⟩=>(dM g1.inv hn).bind λq g2=>?_;have l1:=g1.lf;have l2:=g2.toGd.lf;rw [cZ (n:=a1+1) (by omega) (by omega)];refine (hf q g2.inv (by omega)).bind λs g3=>?_;have g4:=g1.ga (g2.ga g3);refine bD.iteb (λ_=>.some g4.toGd) λ_=>?_;refine (Bl g3.inv hn h0 h6).bind λt' ht=>?_;have l3:=g3.toGd.lf;refine (ih t' s.2 _ g3.inv (by omega) (by omega) λhne=>?_).mono λr g5=>g4.toGd.trans g5;have l4:=g4.lf (ht hne);omega
theorem JK (hn:13<n) {fo:aA->Int->Option (aB × aA)} {fl:aA->Int->Int->Option (aB × aA)} (ho:CF n 21 fo) (hl:SE n fl):SE (n+1) (eP fo fl n):=by
 intro p a b h h0 h7 hb;unfold eP;refine bD.iteb (λh1=>?_) λh1=>?_
 ·simp only [beq_iff_eq] at h1;exact (ho p b h (by omega)).bind λr g=>.some g
 ·simp only [beq_eq_false_iff_ne,ne_eq] at h1;rw [cZ (n:=a+1) (by omega) (by omega)];refine (hl p (a+1) b h (by omega) (by omega) (by omega)).bind λr g=>?_;have l1:=g.toGd.lf;have l2:=g.inv.lf;refine (Bl g.inv hn h0 (by omega)).bind λt ht=>?_;refine (HI hn h0 (by omega) (k:=Lf r.2) (λq hq hk=>hl q (a+1) b hq (by omega) (by omega) (by omega)) n t r.2 r.1 g.inv (NR _) (by omega) (λ_=>by omega)).bind λs g2=>.some (g.gd g2)
theorem Mx {fl:aA->Int->Int->Option (aB × aA)} (hl:SE n fl):CF (n+1) 30 (gI fl n):=by
 intro p a h hb;unfold gI;exact (hl p 0 a h (by omega) (by omega) (by omega)).bind λr g=>.some g
theorem Dp {fe:aA->Int->Option (aB × aA)} (he:CF n 30 fe):CF (n+1) 31 (dI fe n):=by
 intro p a h hb;unfold dI;exact (he p _ h (by omega)).bind λr g=>.some g
theorem xQ (hn:13<n) {fo:aA->Int->Option (aB × aA)} {k:Int} {a:Int} (hf:∀p,PI p->Lf p<=k->bD (fo p a) λr=>GA p r.2):∀(c:Nat) (l:List aB) (p:aA),PI p->(p.e_=0->Lf p<=k)->(p.l_.length:Int) - p.fA<c->(l.length:Int)<=p.fA->bD (cF fo n a c l p) λr=>Gd p r.2/\(r.1.length:Int)<=r.2.fA+1:=by
 intro c
 induction c with
 | zero=>intro l p h _ h1 h2;have:=h.hi;omega
 | succ c ih=>
   intro l p h hk h1 h2;have k1:=h.lo;have k2:=h.hi;have k3:=h.big;unfold cF;refine bD.iteb (λh4=>?_) λh4=>.some ⟨.refl h,by simp only;omega⟩;simp only [beq_iff_eq] at h4;refine (hf p h (hk h4)).bind λx g1=>?_;refine bD.need (by simp only [mQ];omega) ?_;refine (dZ g1.inv hn).bind λr ⟨g2,g3,_⟩=>?_;have m1:=g1.at';have m2:=g2.at';refine bD.iteb (λh5=>.some ⟨g1.toGd.trans g2,by simp only [mK,mQ];omega⟩) λh5=>?_;have g4:=g3 (by simpa using h5);have g5:=g1.ga g4.2.1;have m3:=g1.adv g4.1;have m4:=g1.toGd.trans g2;have m5:=g5.toGd.lf;have m6:=hk h4;refine (ih _ r.2 g2.inv (λ_=>by omega) (by rw [m4.len];omega) (by simp only [mK,mQ];omega)).mono λs ⟨s1,s2⟩=>⟨g5.toGd.trans s1,s2⟩
theorem zQ (hn:13<n) {fo:aA->Int->Option (aB × aA)} (ho:CF n 31 fo):OkA (n+1) (cK fo n):=by
 intro p a h hb;unfold cK;refine (dM h hn).bind λq g1=>(dZ g1.inv hn).bind λr ⟨g2,g3,g4⟩=>?_;refine bD.iteb (λh5=>.some (g1.gd g2)) λh5=>?_;have m1:=g1.at';have m2:=g2.at';have g5:=g1.gd g2;have k0:=g2.inv.lo;have k1:=g5.toGd.lf;have k2:=h.lf;refine bD.bind (P:=λy=>Gd r.2 y.2) ?_ λy g6=>?_
 ·refine (xQ hn (k:=(n:Int) - 31) (λq hq hk=>ho q a hq (by omega)) n [] r.2 g2.inv (λhe=>?_) ?_ (by simpa using k0)).bind λy ⟨y1,y2⟩=>.some y1
  ·have:=g5.lf he;omega
  ·unfold Lf at hb k1;rw [g5.toGd.len] at k1 ⊢;have:=h.hi;omega
 ·exact (dM g6.inv hn).bind λs g7=>.some ((g5.gd g6).ga g7)
theorem El (hn:13<n) {fo:aA->Int->Option (aB × aA)} {k:Int} (hf:∀p a,PI p->Lf p<=k->bD (fo p a) λr=>GA p r.2) {a1:Int}:∀(c:Nat) (v:Nat) (p:aA) (x y:aB),2<v+c->v<=2->PI p->Lf p<=k+16->bD (fG fo n a1 c v p x y) λr=>match r with | .inl s=>Gd p s.1 | .inr s=>GA p s.2:=by
 intro c
 induction c with
 | zero=>intro v p x y h1 h2;omega
 | succ c ih=>
   intro v p x y h1 h2 h hk;unfold fG;refine bD.iteb (λh4=>?_) λh4=>.some (.refl h);simp only [uH] at h4;refine bD.bind' (bD.idx (by omega) (by have:fH.length=2:=rfl;omega) λz hz=>?_);refine (dZ h hn).bind λr ⟨g1,g2,g3⟩=>?_;refine bD.iteb (λh5=>?_) λh5=>?_
   ·obtain ⟨_,g4,g5⟩:=g2 h5;have l1:=g4.lf g5;exact (hf r.2 _ g1.inv (by omega)).bind λs g6=>.some (g4.ga g6)
   ·rw [cZ (by omega) (by omega)];have l1:=g1.lf;refine (ih (v+1) r.2 x y (by omega) (by omega) g1.inv (by omega)).mono λs hs=>?_;cases s with
    | inl s=>exact g1.trans hs
    | inr s=>exact g1.ga hs
theorem DI (hn:13<n) {fe fo:aA->Int->Option (aB × aA)} {fa:aA->Int->Option ((List aB) × aA)} (he:CF n 30 fe) (ho:CF n 21 fo) (ha:OkA n fa):CF (n+1) 21 (bV fe fo fa n):=by
 intro p a h hb;unfold bV;refine (BH h).bind λq g1=>(dZ g1.inv hn).bind λr ⟨g2,g3,_⟩=>?_;have m1:=g1.lf;have m2:=g2.lf;have m3:=h.lf;refine bD.iteb (λh5=>?_) λh5=>?_
 ·obtain ⟨_,g4,g5⟩:=g3 h5;have l1:=g4.lf g5;exact (he r.2 _ g2.inv (by omega)).bind λs g6=>(dM g6.inv hn).bind λt g7=>.some (g1.ga (g4.ga (g6.ga g7)))
 ·refine (oX g2.inv).bind λs ⟨g4,_⟩=>?_;have m4:=g4.lf;refine (El hn (k:=(n:Int) - 21) (λq b hq hk=>ho q b hq (by omega)) n 0 s.2 _ _ (by omega) (by omega) g4.inv (by omega)).bind λy hy=>?_;have g5:=g1.trans (g2.trans g4);refine bD.elim (λz e=>?_) λz e=>?_
  ·subst e;have hy':Gd s.2 z.1:=hy;have g6:=g5.trans hy';refine bD.bind (P:=λ_=>True) ?_ λb _=>?_
   ·refine bD.iteb (λ_=>?_) λ_=>.some trivial;exact (nI hy'.inv).bind λt _=>.some trivial
   ·refine bD.iteb (λ_=>?_) λ_=>?_
    ·exact (wS hy'.inv).bind λt g7=>.some (g6.ga g7)
    ·refine (oY hy'.inv hn).bind λt g7=>?_;have g8:=g6.ga g7;have l8:=g8.toGd.lf;refine bD.bind (P:=λy=>GA p y.1) ?_ λy hy=>.some hy;refine (zV g7.inv hn).bind λb hb=>bD.iteb (λh9=>?_) λh9=>?_
     ·have l9:=g8.lf (hb h9).1;exact (ha t.2 a g7.inv (by omega)).bind λu g9=>.some (g8.ga g9)
     ·refine (dZ g7.inv hn).bind λu ⟨g9,g10,_⟩=>bD.iteb (λh10=>?_) λh10=>.some (g8.gd g9);obtain ⟨_,g11,g12⟩:=g10 h10;have l9:=g11.lf g12;exact (he u.2 _ g9.inv (by omega)).bind λv g13=>(dM g13.inv hn).bind λw g14=>.some (g8.ga (g11.ga (g13.ga g14)))
  ·subst e;exact .some (g5.ga hy)
theorem Et:∀n:Nat,OkA n (aJ n).1/\CF n 30 (aJ n).2.1/\SE n (aJ n).2.2.1/\CF n 21 (aJ n).2.2.2.1/\CF n 31 (aJ n).2.2.2.2:=by
 have small:∀n:Nat,n<=14->OkA n (aJ n).1/\CF n 30 (aJ n).2.1/\SE n (aJ n).2.2.1/\CF n 21 (aJ n).2.2.2.1/\CF n 31 (aJ n).2.2.2.2:=by
  intro n hn;refine ⟨λp a h hb=>?_,λp a h hb=>?_,λp a b h h0 h7 hb=>?_,λp a h hb=>?_,λp a h hb=>?_⟩ <;> (have:=h.lf;omega)
 intro n
 induction n with
 | zero=>exact small 0 (by omega)
 | succ n ih=>
   by_cases hn:13<n
   ·obtain ⟨i1,i2,i3,i4,i5⟩:=ih;exact ⟨zQ hn i5,Mx i3,JK hn i4 i3,DI hn i2 i4 i1,Dp i2⟩
   ·exact small (n+1) (by omega)
theorem nS (h:PI p) {a:Int} (hb:Lf p+30<=n):bD (cM n p a) λr=>GA p r.2:=(Et n).2.1 p a h hb
theorem BC (h:PI p) {x:aB} {a:Int} (hb:Lf p+30<=n):bD (fK n p x a) λr=>GA p r.2:=by
 have hn:13<n:=by have:=h.lf;omega
 unfold fK;refine (oY h hn).bind λr g1=>(dM g1.inv hn).bind λq g2=>?_;have l1:=g1.toGd.lf;have l2:=g2.toGd.lf;exact (nS g2.inv (by omega)).bind λs g3=>(dM g3.inv hn).bind λt g4=>.some (g1.ga (g2.ga (g3.ga g4)))
theorem Dk (h:PI p) {a:Int} (hb:Lf p+30<=n):bD (fW n p a) λr=>GA p r.2:=by
 unfold fW;exact (nS h hb).bind λr g=>.some g
theorem Ba (hn:13<n) {a:Int}:∀(c:Nat) (l:List aB) (p:aA),PI p->Lf p+30<=n->(p.l_.length:Int) - p.fA<c->(l.length:Int)<=p.fA->bD (cN n a c l p) λr=>Gd p r.2/\(r.1.length:Int)<=r.2.fA+1:=by
 intro c
 induction c with
 | zero=>intro l p h _ h1 h2;have:=h.hi;omega
 | succ c ih=>
   intro l p h hk h1 h2;have k1:=h.lo;have k2:=h.hi;have k3:=h.big;unfold cN;refine bD.iteb (λh4=>?_) λh4=>.some ⟨.refl h,by simp only;omega⟩;refine (Dk h hk).bind λx g1=>?_;refine bD.need (by simp only [mQ];omega) ?_;refine (dZ g1.inv hn).bind λr ⟨g2,g3,_⟩=>?_;have m1:=g1.at';have m2:=g2.at';refine bD.iteb (λh5=>.some ⟨g1.toGd.trans g2,by simp only [mK,mQ];omega⟩) λh5=>?_;have g4:=g3 (by simpa using h5);have g5:=g1.ga g4.2.1;have m3:=g1.adv g4.1;have m4:=g1.toGd.trans g2;have m5:=g5.toGd.lf;refine (ih _ r.2 g2.inv (by omega) (by rw [m4.len];omega) (by simp only [mK,mQ];omega)).mono λs ⟨s1,s2⟩=>⟨g5.toGd.trans s1,s2⟩
theorem zP (h:PI p) {a:Int} (hb:Lf p+30<=n):bD (cX n p a) λr=>GA p r.2:=by
 have hn:13<n:=by have:=h.lf;omega
 unfold cX;refine (dM h hn).bind λq g1=>(dZ g1.inv hn).bind λr ⟨g2,g3,g4⟩=>?_;refine bD.iteb (λh5=>.some (g1.gd g2)) λh5=>?_;have g5:=g1.gd g2;have k0:=g2.inv.lo;have k1:=g5.toGd.lf;refine bD.bind (P:=λy=>Gd r.2 y.2) ?_ λy g6=>?_
 ·refine (Ba hn n [] r.2 g2.inv (by omega) ?_ (by simpa using k0)).bind λy ⟨y1,y2⟩=>.some y1;unfold Lf at hb k1;rw [g5.toGd.len] at k1 ⊢;have:=h.hi;omega
 ·exact (dM g6.inv hn).bind λs g7=>.some ((g5.gd g6).ga g7)
theorem FI (h:PI p) {x:aB} {a:Int} (hb:Lf p+30<=n):bD (fI n p x a) λr=>GA p r.2:=by
 have hn:13<n:=by have:=h.lf;omega
 unfold fI;refine (oY h hn).bind λr g1=>?_;have l1:=g1.toGd.lf;refine bD.bind (P:=λy=>GA p y.1) ?_ λy hy=>?_
 case refine_2=>
  have hy':GA p y.1:=hy;exact (dM hy'.inv hn).bind λs g=>.some (hy'.ga g)
 refine (zV g1.inv hn).bind λb _=>bD.iteb (λ_=>?_) λ_=>?_
 ·exact (zP g1.inv (by omega)).bind λs g2=>.some (g1.ga g2)
 ·refine (dZ g1.inv hn).bind λs ⟨g2,_,_⟩=>?_;have l2:=g2.lf;refine bD.iteb (λ_=>?_) λ_=>?_
  ·refine (nS g2.inv (by omega)).bind λt g3=>(dM g3.inv hn).bind λu g4=>(dM g4.inv hn).bind λv g5=>?_;have l3:=g3.toGd.lf;have l4:=g4.toGd.lf;have l5:=g5.toGd.lf;refine (nS g5.inv (by omega)).bind λw g6=>bD.need (by simp) (.some (g1.gd (g2.trans (g3.toGd.trans (g4.toGd.trans (g5.toGd.trans g6.toGd))))))
  ·refine (dM g2.inv hn).bind λv g5=>?_;have l5:=g5.toGd.lf;exact (nS g5.inv (by omega)).bind λw g6=>.some (g1.gd (g2.trans (g5.toGd.trans g6.toGd)))
end
def PU (n:Nat) (k:Int) (f:aA->aB->Int->Option (aB × aA)):Prop:=∀p x a,PI p->Lf p+k<=n->bD (f p x a) λr=>GA p r.2
section
variable {n:Nat} {p:aA}
theorem Ie (hn:13<n) {fs:aA->Int->Option (aB × aA)} {k:Int} {a:Int} (hf:∀p,PI p->Lf p<=k->bD (fs p a) λr=>GA p r.2):∀(c:Nat) (p:aA) (x:aB),PI p->(p.e_=0->Lf p<=k)->(p.l_.length:Int) - p.fA<c->1<=c->(p.e_=0->(x.aL.length:Int)<=p.fA)->(x.aL.length:Int)<=65538->bD (dJ fs n a c p x) λr=>Gd p r.1:=by
 intro c
 induction c with
 | zero=>intro p x h _ h1 h2;omega
 | succ c ih=>
   intro p x h hk h1 h2 h3 h4;have k1:=h.lo;have k2:=h.hi;have k3:=h.big;unfold dJ;refine bD.bind (P:=λb=>b=true->p.e_=0) ?_ λb hb=>?_
   ·refine bD.iteb (λhe=>?_) λ_=>.some λh=>by cases h
    exact (zV h hn).bind λb hb=>.some λ_=>by simpa using he
   ·refine bD.iteb (λh5=>?_) λh5=>.some (.refl h);have he:=hb h5;refine (hf p h (hk he)).bind λr g=>?_;have m1:=g.at';have m2:=hk he;have m3:=h3 he;have m4:=g.toGd.lf;have m5:=g.inv.hi;have m6:=g.toGd.len;refine bD.need (by simp only [mQ];omega) ?_
    by_cases he2:r.2.e_=0
    ·have m7:=g.adv he2;refine (ih r.2 _ g.inv (λ_=>by omega) (by rw [m6];omega) (by omega) (λ_=>by simp only [mK,mQ];omega) (by simp only [mK,mQ];omega)).mono λs g2=>g.toGd.trans g2
    ·cases c with
     | zero=>omega
     | succ c=>
       unfold dJ;rw [if_neg (by simpa using he2),bU,if_neg (by decide)];exact .some g.toGd
theorem GY {fs:aA->Int->Option (aB × aA)} (hs:CF n 45 fs):CF (n+1) 46 (dC fs n):=by
 intro p a h hb;have hn:13<n:=by have:=h.lf;omega
 unfold dC;refine (BH h).bind λq g1=>(oX g1.inv).bind λr ⟨g2,e⟩=>(dM g2.inv hn).bind λt g3=>?_;have g4:=g1.trans g2;have g5:=g4.ga g3;have l5:=g5.toGd.lf;have k0:=g3.inv.lo;refine (Ie hn (k:=(n:Int) - 45) (λq hq hk=>hs q a hq (by omega)) n t r.1 g3.inv (λhe=>?_) ?_ (by omega) (λ_=>by rw [e];simpa using k0) (by rw [e];simp)).bind λy g6=>(dM g6.inv hn).bind λs g7=>.some ((g5.gd g6).ga g7)
 ·have:=g5.lf he;omega
 ·unfold Lf at hb l5;rw [g5.toGd.len] at l5 ⊢;have:=h.hi;omega
theorem HX {fb:aA->Int->Option (aB × aA)} (hf:CF n 46 fb):PU (n+1) 47 (eD fb n):=by
 intro p x a h hb;have hn:13<n:=by have:=h.lf;omega
 unfold eD;refine (nS h (by omega)).bind λr g1=>?_;have l1:=g1.toGd.lf;refine (hf r.2 _ g1.inv (by omega)).bind λs g2=>bD.need (by simp) ((dZ g2.inv hn).bind λt ⟨g3,_,_⟩=>?_);have l2:=g2.toGd.lf;have l3:=g3.lf;refine bD.iteb (λ_=>?_) λ_=>.some ((g1.ga g2).gd g3);exact (hf t.2 _ g3.inv (by omega)).bind λu g4=>bD.need (by simp) (.some (((g1.ga g2).gd g3).ga g4))
theorem Ml {fb:aA->Int->Option (aB × aA)} (hf:CF n 46 fb):PU (n+1) 47 (gH fb n):=by
 intro p x a h hb;have hn:13<n:=by have:=h.lf;omega
 unfold gH;refine (oY h hn).bind λr g1=>(dM g1.inv hn).bind λs g2=>?_;have l1:=g1.toGd.lf;have l2:=g2.toGd.lf;refine (nS g2.inv (by omega)).bind λt g3=>(dM g3.inv hn).bind λu g4=>?_;have l3:=g3.toGd.lf;have l4:=g4.toGd.lf;refine (nS g4.inv (by omega)).bind λv g5=>bD.need (by simp) ?_;have l5:=g5.toGd.lf;exact (hf v.2 _ g5.inv (by omega)).bind λw g6=>bD.need (by simp) (.some (g1.ga (g2.ga (g3.ga (g4.ga (g5.ga g6))))))
theorem De {fc fl:aA->aB->Int->Option (aB × aA)} (hc:PU n 47 fc) (hl:PU n 47 fl):CF (n+1) 45 (bF fc fl n):=by
 intro p a h hb;have hn:13<n:=by have:=h.lf;omega
 unfold bF;refine (oX h).bind λr ⟨g1,_⟩=>?_;have l1:=g1.lf;refine bD.bind (P:=λy=>match y with | .inl y=>GA p y.1 | .inr y=>GA p y.2) ?_ λy hy=>?_
 ·refine (dZ g1.inv hn).bind λt1 ⟨a1,b1,_⟩=>bD.iteb (λh1=>?_) λh1=>?_
  ·have m1:=a1.lf;exact (BC a1.inv (by omega)).bind λu g2=>.some (g1.ga (a1.ga g2))
  have m1:=a1.lf;refine (dZ a1.inv hn).bind λt2 ⟨a2,b2,_⟩=>bD.iteb (λh2=>?_) λh2=>?_
  ·have m2:=a2.lf;exact (BC a2.inv (by omega)).bind λu g2=>.some (g1.ga (a1.ga (a2.ga g2)))
  have m2:=a2.lf;refine (dZ a2.inv hn).bind λt3 ⟨a3,b3,_⟩=>bD.iteb (λh3=>?_) λh3=>?_
  ·exact (oY a3.inv hn).bind λu g2=>(Dg g2.inv hn).bind λv g3=>.some (g1.ga (a1.ga (a2.ga (a3.ga (g2.ga g3)))))
  have m3:=a3.lf;refine (dZ a3.inv hn).bind λt4 ⟨a4,b4,_⟩=>bD.iteb (λh4=>?_) λh4=>?_
  ·have m4:=a4.lf;exact (nS a4.inv (by omega)).bind λu g2=>.some (g1.ga (a1.ga (a2.ga (a3.ga (a4.ga g2)))))
  have m4:=a4.lf;refine (dZ a4.inv hn).bind λt5 ⟨a5,b5,_⟩=>bD.iteb (λh5=>?_) λh5=>?_
  ·obtain ⟨_,c1,c2⟩:=b5 h5;have m5:=c1.lf c2;exact (hc t5.2 _ _ a5.inv (by omega)).bind λu g2=>.some (g1.ga (a1.ga (a2.ga (a3.ga (a4.ga (a5.ga g2))))))
  have m5:=a5.lf;refine (dZ a5.inv hn).bind λt6 ⟨a6,b6,_⟩=>bD.iteb (λh6=>?_) λh6=>?_
  ·obtain ⟨_,c1,c2⟩:=b6 h6;have m6:=c1.lf c2;exact (hl t6.2 _ _ a6.inv (by omega)).bind λu g2=>.some (g1.ga (a1.ga (a2.ga (a3.ga (a4.ga (a5.ga (a6.ga g2)))))))
  have m6:=a6.lf;exact (FI a6.inv (by omega)).bind λu g2=>.some (g1.ga (a1.ga (a2.ga (a3.ga (a4.ga (a5.ga (a6.ga g2)))))))
 ·refine bD.elim (λz e=>?_) λz e=>?_
  ·subst e;have hy':GA p z.1:=hy;exact (dM hy'.inv hn).bind λs g=>.some (hy'.ga g)
  ·subst e;exact .some hy
theorem Cw:∀n:Nat,CF n 46 (bR n).1/\CF n 45 (bR n).2.1/\PU n 47 (bR n).2.2.1/\PU n 47 (bR n).2.2.2:=by
 intro n
 induction n with
 | zero=>refine ⟨λp a h hb=>?_,λp a h hb=>?_,λp x a h hb=>?_,λp x a h hb=>?_⟩ <;> (have:=h.lf;omega)
 | succ n ih=>
   obtain ⟨i1,i2,i3,i4⟩:=ih;exact ⟨GY i2,De i3 i4,HX i1,Ml i1⟩
theorem rP (h:PI p) {a:Int} (hb:Lf p+46<=n):bD (bN n p a) λr=>GA p r.2:=(Cw n).1 p a h hb
theorem Cx (h:PI p) (hb:Lf p+46<=n):bD (eC n p) λr=>GA p r.2:=by
 have hn:13<n:=by have:=h.lf;omega
 have hr:(p.l_.length:Int) - p.fA<n:=by
  have:=h.hi;unfold Lf at hb;omega
 unfold eC;refine (oX h).bind λr ⟨g1,_⟩=>(dZ g1.inv hn).bind λt ⟨g2,_,_⟩=>?_;have g3:=g1.trans g2
 have key:∀q:aA,GA p q->(q.l_.length:Int) - q.fA<n:=by
  intro q g;have:=g.toGd.lf;unfold Lf at this hb;have:=h.hi;have:=g.inv.hi;omega
 refine bD.iteb (λ_=>?_) λ_=>?_
 ·refine (dM g2.inv hn).bind λu g4=>(oY g4.inv hn).bind λv g5=>?_;have g6:=g3.ga (g4.ga g5);refine (vP g5.inv hn (key _ g6)).bind λw ⟨g7,hw⟩=>(dZ g7.inv hn).bind λx ⟨g8,_,_⟩=>?_;have g9:=(g6.ga g7).gd g8;have l9:=g9.toGd.lf;refine bD.iteb (λ_=>?_) λ_=>?_
  ·refine (dZ g8.inv hn).bind λy ⟨g10,_,_⟩=>?_;have l10:=g10.lf;refine bD.iteb (λ_=>?_) λ_=>?_
   ·exact (rP g10.inv (by omega)).bind λz g11=>bD.need (by simp only [mQ];omega) (.some ((g9.gd g10).ga g11))
   ·refine (dM g10.inv hn).bind λy' g11=>?_;have l11:=g11.toGd.lf;exact (rP g11.inv (by omega)).bind λz g12=>bD.need (by simp only [mQ];omega) (.some (((g9.gd g10).ga g11).ga g12))
  ·exact (rP g8.inv (by omega)).bind λz g11=>bD.need (by simp only [mQ];omega) (.some (g9.ga g11))
 ·refine (dM g2.inv hn).bind λu g4=>(oY g4.inv hn).bind λv g5=>?_;have g6:=g3.ga (g4.ga g5);refine (vP g5.inv hn (key _ g6)).bind λw ⟨g7,hw⟩=>(dZ g7.inv hn).bind λx ⟨g8,_,_⟩=>?_;have g9:=(g6.ga g7).gd g8;have l9:=g9.toGd.lf;refine bD.iteb (λ_=>?_) λ_=>?_
  ·refine (dZ g8.inv hn).bind λy ⟨g10,_,_⟩=>?_;have l10:=g10.lf;refine bD.iteb (λ_=>?_) λ_=>?_
   ·exact (rP g10.inv (by omega)).bind λz g11=>bD.need (by simp only [mQ];omega) (.some ((g9.gd g10).ga g11))
   ·refine (dM g10.inv hn).bind λy' g11=>?_;have l11:=g11.toGd.lf;exact (rP g11.inv (by omega)).bind λz g12=>bD.need (by simp only [mQ];omega) (.some (((g9.gd g10).ga g11).ga g12))
  ·exact (rP g8.inv (by omega)).bind λz g11=>bD.need (by simp only [mQ];omega) (.some (g9.ga g11))
end
end Go.Proofs.YtljbbjpbefjpiaaGreatDoor.Abs.Jn
namespace Go.Proofs.YtljbbjpbefjpiaaGreatDoor.Abs.Jn
open Go.RowKit
set_option linter.all false
def jE (p:aA):dT:=(p.l_[p.fA.toNat]?).getD ⟨0,0,[],0⟩
def mI (p:aA) (e:Int):aA:=if p.e_=0 then { p with e_:=e,yW:=(jE p).eO } else p
def DZ (p:aA):aA:={ p with nV:=(IntKind.i64.wrap (p.nV+(1:Int))) }
def eN (p:aA):aA:=if 16384<(DZ p).nV then mI (DZ p) 136 else DZ p
def oV (p:aA) (s:cB):Bool:=p.e_ == 0 && (decide ((jE p).bQ=s) && ((jE p).bT == 3 || ((jE p).bT == 1 && Bc s)))
def MN (p:aA):aA:={ p with fA:=(IntKind.i64.wrap (p.fA+(1:Int))) }
def mD (p:aA) (s:cB):aA:=if oV p s=true then MN p else p
def mL (p:aA) (s:cB):aA:=if oV p s=true then MN p else mI p 110
def IO (p:aA):Bool:=p.e_ != 0 || ((jE p).bT != 1 || Bc (jE p).bQ)
def nA (p:aA):cB × aA:=if IO p=true then ([],mI p 110) else ((jE p).bQ,MN p)
def OW (p:aA):Bool:=p.e_ != 0 || (jE p).bT != 2
def DY (p:aA):Int × aA:=if OW p=true then (0,mI p 110) else ((jE p).kL,MN p)
def mX (p:aA) (a:Int):aA:=if 64<a then mI p 111 else p
section
variable {p:aA} {n:Nat}
theorem sE (h:PI p):cG p=some (jE p):=by
 obtain ⟨t,e,_⟩:=nI h;rw [e];unfold cG at e;obtain ⟨t',e1,e2⟩:=aH e;cases e2;obtain ⟨_,_,e3⟩:=cO e1;unfold jE;rw [e3];rfl
theorem DR (h:PI p) {e:Int}:fF p e=some (mI p e):=by
 unfold fF mI
 by_cases h1:p.e_=0
 ·rw [if_pos (by simpa using h1),if_pos h1,sE h];rfl
 ·rw [if_neg (by simpa using h1),if_neg h1]
theorem PI.cnt (h:PI p):PI (DZ p):=⟨h.lo,h.hi,h.big,h.toks⟩
theorem Jm:jE (DZ p)=jE p:=rfl
theorem yX {e:Int}:jE (mI p e)=jE p:=by unfold mI;split <;> rfl
theorem DQ (h:PI p) {e:Int} (he:e ≠ 0):Gd p (mI p e)/\(mI p e).e_ ≠ 0:=(sL h he).get (DR h)
theorem iF (h:PI p) {k:Int}:dR p k=some (⟨k,(jE p).eO,[],0,[]⟩,eN p):=by
 have h2:=h.cnt;unfold dR eN
 by_cases h1:16384<(DZ p).nV
 ·have:=(DQ h2 (e:=136) (by decide)).1;rw [if_pos (by simpa [DZ] using h1),if_pos h1,show ({ p with nV:=(IntKind.i64.wrap (p.nV+(1:Int))) }:aA)=DZ p from rfl,DR h2,bU,sE this.inv,bU,yX,Jm]
 ·rw [if_neg (by simpa [DZ] using h1),if_neg h1,show ({ p with nV:=(IntKind.i64.wrap (p.nV+(1:Int))) }:aA)=DZ p from rfl,sE h2,bU,Jm]
theorem Dq (h:PI p) (hn:13<n) {s:cB}:fX n p s=some (oV p s):=by
 unfold fX oV;rw [sE h,bU,CA hn];cases p.e_ == 0 <;> cases decide ((jE p).bQ=s) <;> cases (jE p).bT == 3 <;> cases (jE p).bT == 1 <;> rfl
theorem eU (h:PI p) (hn:13<n) {s:cB}:bE n p s=some (oV p s,mD p s):=by
 unfold bE mD;rw [Dq h hn,bU];cases oV p s <;> rfl
theorem eI (h:PI p) (hn:13<n) {s:cB}:aX n p s=some (mL p s):=by
 unfold aX mL;rw [eU h hn,bU];unfold mD;cases oV p s
 ·simp only [kW,if_true,BN,if_false];rw [DR h];rfl
 ·rfl
theorem qF (h:PI p) (hn:13<n):dD n p=some (nA p):=by
 unfold dD nA IO;rw [sE h,bU,CA hn,DR h];cases p.e_ != 0 <;> cases (jE p).bT != 1 <;> cases Bc (jE p).bQ <;> rfl
theorem number_eq' (h:PI p):gG p=some (DY p):=by
 unfold gG DY OW;rw [sE h,bU,DR h];cases p.e_ != 0 <;> cases (jE p).bT != 2 <;> rfl
theorem rG (h:PI p) {a:Int}:iJ p a=some (mX p a):=by
 unfold iJ mX;rw [DR h]
 by_cases h1:64<a
 ·rw [if_pos (by simpa using h1),if_pos h1];rfl
 ·rw [if_neg (by simpa using h1),if_neg h1]
theorem kF (h:PI p):Gd p (eN p):=((oX (k:=0) h).get (iF h)).1
theorem gL (h:PI p) {s:cB}:Gd p (mD p s)/\(oV p s=true->p.e_=0/\GA p (mD p s)/\(mD p s).e_=0)/\(oV p s=false->mD p s=p):=(dZ (n:=14) h (by decide)).get (eU h (by decide))
theorem dY (h:PI p) {s:cB}:GA p (mL p s):=(dM (n:=14) h (by decide)).get (eI h (by decide))
theorem oT (h:PI p):GA p (nA p).2:=(oY (n:=14) h (by decide)).get (qF h (by decide))
theorem Em (h:PI p):GA p (DY p).2:=(wS h).get (number_eq' h)
theorem DU (h:PI p) {a:Int}:Gd p (mX p a):=(BH h).get (rG h)
theorem take_nd {s:cB}:(mD p s).nV=p.nV:=by unfold mD;split <;> rfl
end
section
variable {p:aA} {n:Nat}
def Hm (p:aA):Int × aA:=((DY (mL p [91])).1,mL (DY (mL p [91])).2 [93])
theorem GR (h:PI p) (hn:13<n):iH n p=some (Hm p):=by
 unfold iH Hm;rw [eI h hn,bU,number_eq' (dY h).inv,bU,eI (Em (dY h).inv).inv hn];rfl
theorem GQ (h:PI p):GA p (Hm p).2:=(dY h).ga ((Em (dY h).inv).ga (dY (Em (dY h).inv).inv))
def tN (p:aA) (l:List cB):cB:=(l.find? λy=>decide (y ≠ []) && oV p y).getD []
theorem LS (h:PI p) (hn:13<n) (x:List cB) (hx:x.length=3):∀(c:Nat) (v:Nat),3<v+c->v<=3->(∀y ∈ x.take v,(decide (y ≠ []) && oV p y)=false) ->
  bD (gP n x p c v) λr=>match r with | .inl _=>x.find? (λy=>decide (y ≠ []) && oV p y)=none | .inr t=>x.find? (λy=>decide (y ≠ []) && oV p y)=some t:=by
 intro c
 induction c with
 | zero=>intro v h1 h2;omega
 | succ c ih=>
   intro v h1 h2 h3;unfold gP;refine bD.iteb (λh4=>?_) λh4=>?_
   ·simp only [uH] at h4;refine bD.bind' (bD.idx (by omega) (by omega) λz hz=>?_);rw [yV] at hz;rw [Dq h hn,bU]
    have hy:(if (decide (z ≠ ([]:cB)))=true then some (oV p z) else some false)=some (decide (z ≠ []) && oV p z):=by
     cases decide (z ≠ ([]:cB)) <;> rfl
    rw [hy,bU];refine bD.iteb (λh5=>.some (Ny h3 hz h5)) λh5=>?_;rw [cZ (by omega) (by omega)];refine ih (v+1) (by omega) (by omega) ?_;rw [take_step' hz];intro y hy
    rcases BQ.1 hy with hy | hy
    ·exact h3 y hy
    ·rw [DX.1 hy];exact h5
   ·refine .some ?_;simp only [decide_eq_false_iff_not] at h4;rw [xdq (by omega)] at h3;exact List.find?_eq_none.2 λy hy=>by simpa using h3 y hy
def Es (a:Int):List cB:=(bY cQ a).getD []
theorem Dh (h:PI p) (hn:13<n) {a:Int} (h0:0<=a) (h1:a<7):iI n p a=some (tN p (Es a)):=by
 unfold iI tN Es;have hl:cQ.length=7:=rfl
 obtain ⟨x,e,hx⟩:bD (bY cQ a) λx=>x.length=3:=bD.idx h0 (by omega) λx hx=>by
  have:(cQ.all λy=>y.length == 3)=true:=by decide
  simpa using EG.1 this x (Fw hx)
 rw [e,bU];obtain ⟨r,e2,hr⟩:=LS h hn x hx n 0 (by omega) (by omega) (by simp);rw [show ((0:Nat):Int)=0 from rfl] at e2;rw [e2,bU];simp only [xdy];cases r with
 | inl _=>rw [hr];rfl
 | inr t=>rw [hr];rfl
theorem Jw {l:List cB} (hs:tN p l ≠ []):p.e_=0:=by
 unfold tN at hs;cases h:l.find? (λy=>decide (y ≠ []) && oV p y) with
 | none=>rw [h] at hs;exact absurd rfl hs
 | some y=>
   have:=List.find?_some h;simp only [BO] at this;have:=this.2;unfold oV at this;simp only [BO,beq_iff_eq] at this;exact this.1
end
end Go.Proofs.YtljbbjpbefjpiaaGreatDoor.Abs.Jn
namespace Go.Proofs.YtljbbjpbefjpiaaGreatDoor.Abs.Jn
open Go.RowKit
set_option linter.all false
def Na (n:Nat) (q:aA) (at0 n0 n2 n4:Int):Option (aB × aA):=
 (aX n q ([102,110]:cB)).bind λx8=>
 (dD n x8).bind λx10=>
 (cH n x10.2).bind λx12=>
 (bE n x12.2 ([45,62]:cB)).bind λx14=>
 if x14.1=true then
  (bE n x14.2 ([117,51,50]:cB)).bind λx17=>
  if x17.1=true then
   (bN n x17.2 (1:Int)).bind λx20=>
   iU (x12.1.length+[x20.1].length<=1073741824) <|
   some (⟨2,at0,x10.1,n2,x12.1++[x20.1]⟩,x20.2)
  else
   (aX n x17.2 ([117,54,52]:cB)).bind λx25=>
   (bN n x25 (1:Int)).bind λx27=>
   iU (x12.1.length+[x27.1].length<=1073741824) <|
   some (⟨2,at0,x10.1,n4,x12.1++[x27.1]⟩,x27.2)
 else
  (bN n x14.2 (1:Int)).bind λx32=>
  iU (x12.1.length+[x32.1].length<=1073741824) <|
  some (⟨2,at0,x10.1,n0,x12.1++[x32.1]⟩,x32.2)
def tailP' (n:Nat) (q:aA) (x:aB) (n0 n2 n4:Int):Option (aB × aA):=
 (aX n q ([102,110]:cB)).bind λx8=>
 (dD n x8).bind λx10=>
 (cH n x10.2).bind λx12=>
 (bE n x12.2 ([45,62]:cB)).bind λx14=>
 if x14.1=true then
  (bE n x14.2 ([117,51,50]:cB)).bind λx17=>
  if x17.1=true then
   (bN n x17.2 (1:Int)).bind λx20=>
   iU (x12.1.length+[x20.1].length<=1073741824) <|
   some ({ x with bQ:=x10.1,kL:=n2,aL:=x12.1++[x20.1] },x20.2)
  else
   (aX n x17.2 ([117,54,52]:cB)).bind λx25=>
   (bN n x25 (1:Int)).bind λx27=>
   iU (x12.1.length+[x27.1].length<=1073741824) <|
   some ({ x with bQ:=x10.1,kL:=n4,aL:=x12.1++[x27.1] },x27.2)
 else
  (bN n x14.2 (1:Int)).bind λx32=>
  iU (x12.1.length+[x32.1].length<=1073741824) <|
  some ({ x with bQ:=x10.1,kL:=n0,aL:=x12.1++[x32.1] },x32.2)
theorem yO (n:Nat) (p:aA):eC n p=((dR p (2:Int)).bind λx2=>(bE n x2.2 ([101,120,112,111,114,116]:cB)).bind λx5=>
  if x5.1=true then tailP' n x5.2 x2.1 1 (orK .u32 (1:Int) (2:Int)) (orK .u32 (1:Int) (4:Int)) else tailP' n x5.2 x2.1 x2.1.kL (orK .u32 x2.1.kL (2:Int)) (orK .u32 x2.1.kL (4:Int))):=rfl
section
variable {n:Nat} {p:aA}
theorem mA {s:cB} (h:oV p s=false):mD p s=p:=by unfold mD;rw [h];rfl
theorem wY (h:PI p) (hn:13<n) {fo:aA->Int->Option (aB × aA)} {a:Int} {c:Nat} {x y:aB}:fG fo n a (c+3) 0 p x y =
  if oV p [126]=true then (fo (mD p [126]) (IntKind.i64.wrap (a+1))).bind λr=>some (.inr ({ x with bT:=18,bQ:=[126],aL:=[r.1] },r.2))
  else if oV p [45]=true then (fo (mD p [45]) (IntKind.i64.wrap (a+1))).bind λr=>some (.inr ({ x with bT:=18,bQ:=[45],aL:=[r.1] },r.2))
  else some (.inl (p,x,y)):=by
 have w1:IntKind.i64.wrap ((0:Int)+1)=1:=by decide
 have w2:IntKind.i64.wrap ((1:Int)+1)=2:=by decide
 have i0:bY fH 0=some [126]:=rfl;have i1:bY fH 1=some [45]:=rfl;unfold fG;rw [if_pos (by decide),i0,bU,eU h hn,bU,w1]
 by_cases h1:oV p [126]=true
 ·rw [if_pos h1,if_pos h1]
 ·rw [if_neg h1,if_neg h1,mA (by simpa using h1)];unfold fG;rw [if_pos (by decide),i1,bU,eU h hn,bU,w2]
  by_cases h2:oV p [45]=true
  ·rw [if_pos h2,if_pos h2]
  ·rw [if_neg h2,if_neg h2,mA (by simpa using h2)];unfold fG;rw [if_neg (by decide)]
theorem Dm (h:PI p) (hn:13<n) {c:Nat} {x y:aB}:fJ n (c+4) 0 p x y =
  some (if oV p [112,117,98]=true then .inr ({ y with kL:=1 },mD p [112,117,98]) else if oV p [117,51,50]=true then .inr ({ y with kL:=2 },mD p [117,51,50]) else if oV p [117,54,52]=true then .inr ({ y with kL:=3 },mD p [117,54,52]) else .inl (p,x,y)):=by
 have i0:bY gC 0=some [112,117,98]:=rfl;have i1:bY gC 1=some [117,51,50]:=rfl;have i2:bY gC 2=some [117,54,52]:=rfl;have w0:IntKind.i64.wrap ((0:Int)+1)=1:=by decide
 have w1:IntKind.i64.wrap ((1:Int)+1)=2:=by decide
 have w2:IntKind.i64.wrap ((2:Int)+1)=3:=by decide
 have u0:IntKind.u32.wrap (IntKind.i64.wrap ((1:Int)+0))=1:=by decide
 have u1:IntKind.u32.wrap 2=2:=by decide
 have u2:IntKind.u32.wrap (IntKind.i64.wrap ((1:Int)+2))=3:=by decide
 unfold fJ;rw [if_pos (by decide),i0,bU,eU h hn,bU,w0,u0]
 by_cases h0:oV p [112,117,98]=true
 ·rw [if_pos h0,if_pos h0]
 rw [if_neg h0,if_neg h0,mA (by simpa using h0)];unfold fJ;rw [if_pos (by decide),i1,bU,eU h hn,bU,w1,u1]
 by_cases h1:oV p [117,51,50]=true
 ·rw [if_pos h1,if_pos h1]
 rw [if_neg h1,if_neg h1,mA (by simpa using h1)];unfold fJ;rw [if_pos (by decide),i2,bU,eU h hn,bU,w2,u2]
 by_cases h2:oV p [117,54,52]=true
 ·rw [if_pos h2,if_pos h2]
 rw [if_neg h2,if_neg h2,mA (by simpa using h2)];unfold fJ;rw [if_neg (by decide)]
end
end Go.Proofs.YtljbbjpbefjpiaaGreatDoor.Abs.Jn
namespace Go.Proofs.YtljbbjpbefjpiaaGreatDoor.Abs.Jn
open Go.RowKit
set_option linter.all false
abbrev tG:=dT
abbrev Nd:=aB
def pC (t:tG) (s:cB):Prop:=t.bQ=s/\(t.bT=3 ∨ (t.bT=1/\Bc s=true))
def Iv (l:List tG) (s:cB):Prop:=∃t r,l=t::r/\pC t s
def GW (t:tG):Prop:=t.bT=1/\Bc t.bQ=false
inductive EK
 | op
 | lev (l:Nat)
 | tail (l:Nat) (x:Nd)
 | args
 | items
inductive DE (D:Int):EK->Int->List tG->List Nd->List tG->Prop
 | paren {d t ts x u us}:d<=D->pC t [40]->DE D (.lev 0) (d+1) ts [x] (u::us)->pC u [41]->DE D .op d (t::ts) [x] us
 | un {d t s ts x us}:d<=D->(s=[126] ∨ s=[45])->pC t s->DE D .op (d+1) ts [x] us->DE D .op d (t::ts) [⟨18,t.eO,s,0,[x]⟩] us
 | num {d t ts}:d<=D->t.bT=2->DE D .op d (t::ts) [⟨14,t.eO,[],t.kL,[]⟩] ts
 | ref {d t ts}:d<=D->GW t->¬ Iv ts [40]->¬ Iv ts [91]->DE D .op d (t::ts) [⟨15,t.eO,t.bQ,0,[]⟩] ts
 | call {d t ts xs us}:d<=D->GW t->DE D .args d ts xs us->DE D .op d (t::ts) [⟨17,t.eO,t.bQ,0,xs⟩] us
 | index {d t u us x v vs}:d<=D->GW t->pC u [91]->DE D (.lev 0) (d+1) us [x] (v::vs)->pC v [93]->DE D .op d (t::u::us) [⟨16,t.eO,t.bQ,0,[x]⟩] vs
 | last {d ts x us}:DE D .op d ts [x] us->DE D (.lev 7) d ts [x] us
 | lev {l d ts x us y vs}:l<7->DE D (.lev (l+1)) d ts [x] us->DE D (.tail l x) d us [y] vs->DE D (.lev l) d ts [y] vs
 | stop {l:Nat} {x d us}:l<7->(∀s ∈ Es l,s ≠ []->¬ Iv us s)->DE D (.tail l x) d us [x] us
 | one {s x d u us y vs}:s ∈ Es 3->s ≠ []->pC u s->DE D (.lev 4) d us [y] vs->DE D (.tail 3 x) d (u::us) [⟨19,u.eO,s,0,[x,y]⟩] vs
 | more {l:Nat} {s x d u us y vs z ws}:l<7->l ≠ 3->s ∈ Es l->s ≠ []->pC u s->DE D (.lev (l+1)) d us [y] vs->DE D (.tail l ⟨19,u.eO,s,0,[x,y]⟩) d vs [z] ws->DE D (.tail l x) d (u::us) [z] ws
 | none {d t u us}:pC t [40]->pC u [41]->DE D .args d (t::u::us) [] us
 | args {d t ts xs us}:pC t [40]->¬ Iv ts [41]->DE D .items d ts xs us->DE D .args d (t::ts) xs us
 | item {d ts x u us}:DE D (.lev 0) (d+1) ts [x] (u::us)->pC u [41]->DE D .items d ts [x] us
 | items {d ts x u us xs vs}:DE D (.lev 0) (d+1) ts [x] (u::us)->pC u [44]->DE D .items d us xs vs->DE D .items d ts (x::xs) vs
inductive SK
 | block
 | stmts
 | stmt
inductive DS (D:Int):SK->Int->List tG->List Nd->List tG->Prop
 | block {d t ts xs u us}:d<=D->pC t [123]->DS D .stmts d ts xs (u::us)->pC u [125]->DS D .block d (t::ts) [⟨4,t.eO,[],0,xs⟩] us
 | nil {d ts}:Iv ts [125]->DS D .stmts d ts [] ts
 | cons {d ts x us xs vs}:¬ Iv ts [125]->DS D .stmt d ts [x] us->DS D .stmts d us xs vs->DS D .stmts d ts (x::xs) vs
 | bind {d t k s u v vs x w ws}:(k=5/\s=[108,101,116] ∨ k=6/\s=[118,97,114])->pC t s->GW u->pC v [61]->DE D (.lev 0) (d+1) vs [x] (w::ws)->pC w [59]->DS D .stmt d (t::u::v::vs) [⟨k,t.eO,u.bQ,0,[x]⟩] ws
 | arr {d t u v w z y ys}:pC t [97,114,114]->GW u->pC v [91]->w.bT=2->pC z [93]->pC y [59]->DS D .stmt d (t::u::v::w::z::y::ys) [⟨7,t.eO,u.bQ,w.kL,[]⟩] ys
 | ret {d t ts x u us}:pC t [114,101,116,117,114,110]->DE D (.lev 0) (d+1) ts [x] (u::us)->pC u [59]->DS D .stmt d (t::ts) [⟨13,t.eO,[],0,[x]⟩] us
 | choice {d t ts c us b vs}:pC t [105,102]->DE D (.lev 0) (d+1) ts [c] us->DS D .block (d+1) us [b] vs->¬ Iv vs [101,108,115,101]->DS D .stmt d (t::ts) [⟨11,t.eO,[],0,[c,b]⟩] vs
 | choice2 {d t ts c us b v vs b' ws}:pC t [105,102]->DE D (.lev 0) (d+1) ts [c] us->DS D .block (d+1) us [b] (v::vs)->pC v [101,108,115,101]->DS D .block (d+1) vs [b'] ws->DS D .stmt d (t::ts) [⟨11,t.eO,[],0,[c,b,b']⟩] ws
 | loop {d t u v vs a w ws b xs k ys}:pC t [102,111,114]->GW u->pC v [105,110]->DE D (.lev 0) (d+1) vs [a] (w::ws)->pC w [46,46]->DE D (.lev 0) (d+1) ws [b] xs->DS D .block (d+1) xs [k] ys->DS D .stmt d (t::u::v::vs) [⟨12,t.eO,u.bQ,0,[a,b,k]⟩] ys
 | call {d t ts xs u us}:GW t->DE D .args (d+1) ts xs (u::us)->pC u [59]->DS D .stmt d (t::ts) [⟨10,t.eO,t.bQ,0,xs⟩] us
 | put {d t u us i v w ws x y ys}:GW t->pC u [91]->DE D (.lev 0) (d+2) us [i] (v::w::ws)->pC v [93]->pC w [61]->DE D (.lev 0) (d+1) ws [x] (y::ys)->pC y [59]->DS D .stmt d (t::u::us) [⟨9,t.eO,t.bQ,0,[i,x]⟩] ys
 | set {d t u us x v vs}:GW t->pC u [61]->DE D (.lev 0) (d+1) us [x] (v::vs)->pC v [59]->DS D .stmt d (t::u::us) [⟨8,t.eO,t.bQ,0,[x]⟩] vs
inductive Ga:List tG->Nd->List tG->Prop
 | word {t u k s v vs}:GW t->pC u [58]->(k=1/\s=[112,117,98] ∨ k=2/\s=[117,51,50] ∨ k=3/\s=[117,54,52])->pC v s->Ga (t::u::v::vs) ⟨3,t.eO,t.bQ,k,[]⟩ vs
 | arr {t u v w x xs}:GW t->pC u [58]->pC v [91]->w.bT=2->pC x [93]->Ga (t::u::v::w::x::xs) ⟨3,t.eO,t.bQ,4,[⟨14,v.eO,[],w.kL,[]⟩]⟩ xs
inductive sR:Bool->List tG->List Nd->List tG->Prop
 | none {t u us}:pC t [40]->pC u [41]->sR true (t::u::us) [] us
 | args {t ts xs us}:pC t [40]->¬ Iv ts [41]->sR false ts xs us->sR true (t::ts) xs us
 | item {ts x u us}:Ga ts x (u::us)->pC u [41]->sR false ts [x] us
 | items {ts x u us xs vs}:Ga ts x (u::us)->pC u [44]->sR false us xs vs->sR false ts (x::xs) vs
inductive ED:List tG->Int->List tG->Prop
 | none {ts}:¬ Iv ts [45,62]->ED ts 0 ts
 | short {t u us}:pC t [45,62]->pC u [117,51,50]->ED (t::u::us) 2 us
 | long {t u us}:pC t [45,62]->pC u [117,54,52]->ED (t::u::us) 4 us
inductive DF (D:Int):List tG->Nd->List tG->Prop
 | plain {t u us xs vs r ws b ys}:pC t [102,110]->GW u->sR true us xs vs->ED vs r ws->DS D .block 1 ws [b] ys->DF D (t::u::us) ⟨2,t.eO,u.bQ,r,xs++[b]⟩ ys
 | exp {e t u us xs vs r ws b ys}:pC e [101,120,112,111,114,116]->pC t [102,110]->GW u->sR true us xs vs->ED vs r ws->DS D .block 1 ws [b] ys->DF D (e::t::u::us) ⟨2,e.eO,u.bQ,r+1,xs++[b]⟩ ys
inductive Kf (D:Int):List tG->List Nd->List tG->Prop
 | nil {ts}:Kf D ts [] ts
 | cons {ts x us xs vs}:DF D ts x us->Kf D us xs vs->Kf D ts (x::xs) vs
end Go.Proofs.YtljbbjpbefjpiaaGreatDoor.Abs.Jn
namespace Go.Proofs.YtljbbjpbefjpiaaGreatDoor.Abs.Jn
open Go.RowKit
set_option linter.all false
def bO (p:aA):List tG:=p.l_.drop p.fA.toNat
section
variable {p:aA} {n:Nat} {s:cB}
theorem uP (h:PI p):bO p=jE p::p.l_.drop (p.fA.toNat+1):=by
 have h1:=h.lo;have h2:=h.hi;have h3:p.fA.toNat<p.l_.length:=by omega
 unfold bO jE;rw [NP h3,yP h3];rfl
theorem BL (h:PI p):bO p=jE p::bO (MN p):=by
 have h1:=h.lo;have h2:=h.hi;have h3:=h.big;rw [uP h];show _=_::p.l_.drop (IntKind.i64.wrap (p.fA+1)).toNat;rw [cZ (by omega) (by omega),show (p.fA+1).toNat=p.fA.toNat+1 by omega]
theorem mC (hb:oV p s=true):p.e_=0/\pC (jE p) s:=by
 unfold oV at hb;simp only [BO,Kq,beq_iff_eq,uH] at hb;exact ⟨hb.1,hb.2.1,hb.2.2⟩
theorem RE (he:p.e_=0) (ht:pC (jE p) s):oV p s=true:=by
 unfold oV;simp only [BO,Kq,beq_iff_eq,uH];exact ⟨he,ht.1,ht.2⟩
theorem BF (h:PI p) (he:p.e_=0):Iv (bO p) s ↔ oV p s=true:=by
 constructor
 ·rintro ⟨t,r,e,ht⟩;rw [uP h] at e;cases e;exact RE he ht
 ·intro hb;exact ⟨_,_,uP h,(mC hb).2⟩
theorem Ay (h:PI p) (he:p.e_=0) (hb:oV p s=false):¬ Iv (bO p) s:=λhd=>by
 rw [(BF h he).1 hd] at hb;cases hb
theorem mY (h:PI p) (hb:oV p s=true):bO p=jE p::bO (mD p s):=by
 unfold mD;rw [if_pos hb];exact BL h
theorem Fh (p:aA) {e:Int} (he:e ≠ 0):(mI p e).e_ ≠ 0:=by
 unfold mI
 split
 ·exact he
 ·assumption
theorem mB (h:PI p) (he:(mL p s).e_=0):p.e_=0/\pC (jE p) s/\bO p=jE p::bO (mL p s):=by
 unfold mL at he ⊢
 by_cases hb:oV p s=true
 ·rw [if_pos hb];exact ⟨(mC hb).1,(mC hb).2,BL h⟩
 ·rw [if_neg hb] at he;exact absurd he (Fh _ (by decide))
theorem yL (h:PI p) (he:(nA p).2.e_=0):p.e_=0/\GW (jE p)/\(nA p).1=(jE p).bQ/\bO p=jE p::bO (nA p).2:=by
 unfold nA at he ⊢
 by_cases hb:IO p=true
 ·rw [if_pos hb] at he;exact absurd he (Fh _ (by decide))
 ·rw [if_neg hb];unfold IO at hb;simp only [Kq,not_or,bne_iff_ne,ne_eq,Decidable.not_not,Bool.not_eq_true] at hb;exact ⟨hb.1,⟨hb.2.1,hb.2.2⟩,rfl,BL h⟩
theorem Rk (h:PI p) (he:(DY p).2.e_=0):p.e_=0/\(jE p).bT=2/\(DY p).1=(jE p).kL/\bO p=jE p::bO (DY p).2:=by
 unfold DY at he ⊢
 by_cases hb:OW p=true
 ·rw [if_pos hb] at he;exact absurd he (Fh _ (by decide))
 ·rw [if_neg hb];unfold OW at hb;simp only [Kq,not_or,bne_iff_ne,ne_eq,Decidable.not_not] at hb;exact ⟨hb.1,hb.2,rfl,BL h⟩
theorem Nf (h:PI p) (he:(Hm p).2.e_=0):p.e_=0/\∃v w,pC (jE p) [91]/\v.bT=2/\pC w [93]/\(Hm p).1=v.kL/\bO p=jE p::v::w::bO (Hm p).2:=by
 unfold Hm at he ⊢;have g1:=dY h (s:=[91]);have g2:=Em g1.inv;obtain ⟨a1,a2,a3⟩:=mB g2.inv he;obtain ⟨b1,b2,b3,b4⟩:=Rk g1.inv a1;obtain ⟨c1,c2,c3⟩:=mB h b1;exact ⟨c1,_,_,c2,b2,a2,b3,by rw [c3,b4,a3]⟩
theorem qO:jE (eN p)=jE p:=by unfold eN;split;rw [yX,Jm];rfl
theorem OO {e:Int}:bO (mI p e)=bO p:=by unfold mI;split <;> rfl
theorem qN:bO (eN p)=bO p:=by unfold eN;split;rw [OO];rfl;rfl
theorem NE {a:Int} (he:(mX p a).e_=0):p.e_=0/\a<=64/\mX p a=p:=by
 unfold mX at he ⊢
 by_cases h:64<a
 ·rw [if_pos h] at he;exact absurd he (Fh _ (by decide))
 ·rw [if_neg h] at he ⊢;exact ⟨he,by omega,rfl⟩
theorem Nh {l:List cB} (hs:tN p l ≠ []):tN p l ∈ l/\oV p (tN p l)=true:=by
 unfold tN at hs ⊢;cases h:l.find? (λy=>decide (y ≠ []) && oV p y) with
 | none=>rw [h] at hs;exact absurd rfl hs
 | some y=>
   have h1:=List.find?_some h;have h2:=xfc h;simp only [BO] at h1;exact ⟨h2,h1.2⟩
theorem sign_no {l:List cB} (h:PI p) (he:p.e_=0) (hs:tN p l=[]):∀s ∈ l,s ≠ []->¬ Iv (bO p) s:=by
 intro s h1 h2 h3;have h4:=(BF h he).1 h3;unfold tN at hs;cases h5:l.find? (λy=>decide (y ≠ []) && oV p y) with
 | none=>
   have:=List.find?_eq_none.1 h5 s h1;rw [h4] at this;simp [h2] at this
 | some y=>
   rw [h5] at hs;have h6:=List.find?_some h5;simp only [xdy] at hs;rw [hs] at h6;simp at h6
end
def SdE (n:Nat) (k:Int) (K:EK) (f:aA->Int->Option (aB × aA)):Prop:=∀p a,PI p->0<=a->a<=1000->Lf p+k<=n->bD (f p a) λr=>GA p r.2/\(r.2.e_=0->DE 64 K a (bO p) [r.1] (bO r.2))
def SdL (n:Nat) (f:aA->Int->Int->Option (aB × aA)):Prop:=∀p (l:Nat) b,PI p->l<=7->0<=b->b<=1000->Lf p+29 - l<=n->bD (f p l b) λr=>GA p r.2/\(r.2.e_=0->DE 64 (.lev l) b (bO p) [r.1] (bO r.2))
def SdA (n:Nat) (f:aA->Int->Option ((List aB) × aA)):Prop:=∀p a,PI p->0<=a->a<=900->Lf p+25<=n->bD (f p a) λr=>GA p r.2/\(r.2.e_=0->DE 64 .args a (bO p) r.1 (bO r.2))
section
variable {n:Nat} {p:aA}
theorem Om (hn:13<n) {f:aA->Int->Int->Option (aB × aA)} {l:Nat} {a2:Int} (h6:l<7) {k:Int} (hf:∀p,PI p->Lf p<=k->bD (f p ((l:Int)+1) a2) λr=>GA p r.2/\(r.2.e_=0->DE 64 (.lev (l+1)) a2 (bO p) [r.1] (bO r.2))) :
  ∀(c:Nat) (p:aA) (x:aB),PI p->Lf p<=k->1<=c->(tN p (Es l) ≠ []->Lf p+1<=c)->bD (cT f n l a2 c (tN p (Es l)) p x) λr=>Gd p r.1/\(r.1.e_=0->DE 64 (.tail l x) a2 (bO p) [r.2] (bO r.1)):=by
 intro c
 induction c with
 | zero=>intro p x h hl h1;omega
 | succ c ih=>
   intro p x h hl h1 h2;unfold cT;refine bD.iteb (λh4=>?_) λh4=>.some ⟨.refl h,λhe=>.stop h6 (sign_no h he (by simpa using h4))⟩;simp only [ne_eq,uH] at h4;have h5:=h2 h4;have h6':=h.lf;have he:=Jw h4;obtain ⟨i1,i2⟩:=Nh h4;have g1:=kF h;have g2:=dY g1.inv (s:=tN p (Es l));have l1:=g1.lf;have l2:=g2.toGd.lf;rw [iF h,bU,eI g1.inv hn,bU,cZ (n:=(l:Int)+1) (by omega) (by omega)];refine (hf _ g2.inv (by omega)).bind λs ⟨g3,d3⟩=>?_;have g4:=g1.ga (g2.ga g3)
   have key:s.2.e_=0->∃us,bO p=jE p::us/\pC (jE p) (tN p (Es l))/\DE 64 (.lev (l+1)) a2 us [s.1] (bO s.2):=by
    intro hq;have d4:=d3 hq;obtain ⟨e1,e2,e3⟩:=mB g1.inv (g3.toGd.e0 hq);rw [qO] at e2 e3;rw [qN] at e3;exact ⟨_,e3,e2,d4⟩
   refine bD.iteb (λh7=>?_) λh7=>?_
   ·have h8:l=3:=by simp only [beq_iff_eq] at h7;omega
    subst h8;refine .some ⟨g4.toGd,λhq=>?_⟩;obtain ⟨us,k1,k2,k3⟩:=key hq;rw [k1];exact .one i1 h4 k2 k3
   ·have h8:l ≠ 3:=λe=>by subst e;simp at h7
    rw [Dh g3.inv hn (by omega) (by omega),bU];have l3:=g3.toGd.lf;refine (ih s.2 _ g3.inv (by omega) (by omega) λhne=>?_).mono λr ⟨g5,d5⟩=>⟨g4.toGd.trans g5,λhq=>?_⟩
    ·have l4:=g4.lf (Jw hne);omega
    ·obtain ⟨us,k1,k2,k3⟩:=key (g5.e0 hq);rw [k1];exact .more h6 h8 i1 h4 k2 k3 (d5 hq)
theorem QJ (hn:13<n) {fo:aA->Int->Option (aB × aA)} {fl:aA->Int->Int->Option (aB × aA)} (ho:SdE n 21 .op fo) (hl:SdL n fl):SdL (n+1) (eP fo fl n):=by
 intro p l b h h7 hb0 hb1 hb;unfold eP;refine bD.iteb (λh1=>?_) λh1=>?_
 ·have h8:l=7:=by simp only [beq_iff_eq] at h1;omega
  subst h8;exact (ho p b h hb0 hb1 (by omega)).bind λr ⟨g,d⟩=>.some ⟨g,λhq=>.last (d hq)⟩
 ·have h8:l ≠ 7:=λe=>by subst e;simp at h1
  rw [cZ (n:=(l:Int)+1) (by omega) (by omega)];refine (hl p (l+1) b h (by omega) hb0 hb1 (by omega)).bind λr ⟨g,d⟩=>?_;have l1:=g.toGd.lf;have l2:=g.inv.lf;rw [Dh g.inv hn (by omega) (by omega),bU];refine (Om hn (by omega) (k:=Lf r.2) (λq hq hk=>hl q (l+1) b hq (by omega) hb0 hb1 (by omega)) n r.2 r.1 g.inv (NR _) (by omega) (λ_=>by omega)).bind λs ⟨g2,d2⟩=>.some ⟨g.gd g2,λhq=>.lev (by omega) (d (g2.e0 hq)) (d2 hq)⟩
theorem sexpr_b {fl:aA->Int->Int->Option (aB × aA)} (hl:SdL n fl):SdE (n+1) 30 (.lev 0) (gI fl n):=by
 intro p a h h0 h1 hb;unfold gI;exact (hl p 0 a h (by omega) h0 h1 (by omega)).bind λr g=>.some g
theorem Jt {fe:aA->Int->Option (aB × aA)} (he:SdE n 30 (.lev 0) fe):∀p a,PI p->0<=a->a<=999->Lf p+31<=n+1->bD (dI fe n p a) λr=>GA p r.2/\(r.2.e_=0->DE 64 (.lev 0) (a+1) (bO p) [r.1] (bO r.2)):=by
 intro p a h h0 h1 hb;unfold dI;rw [cZ (n:=a+1) (by omega) (by omega)];exact (he p _ h (by omega) (by omega) (by omega)).bind λr g=>.some g
theorem FC (hn:13<n) {fo:aA->Int->Option (aB × aA)} {k:Int} {a:Int} (hf:∀p,PI p->Lf p<=k->bD (fo p a) λr=>GA p r.2/\(r.2.e_=0->DE 64 (.lev 0) (a+1) (bO p) [r.1] (bO r.2))):∀(c:Nat) (l:List aB) (p:aA),PI p->(p.e_=0->Lf p<=k)->(p.l_.length:Int) - p.fA<c->(l.length:Int)<=p.fA->bD (cF fo n a c l p) λr=>Gd p r.2/\(r.1.length:Int)<=r.2.fA+1/\∀us,r.2.e_=0->pC (jE r.2) [41]->bO r.2=jE r.2::us->∃xs,r.1=l++xs/\DE 64 .items a (bO p) xs us:=by
 intro c
 induction c with
 | zero=>intro l p h _ h1 h2;have:=h.hi;omega
 | succ c ih=>
   intro l p h hk h1 h2;have k1:=h.lo;have k2:=h.hi;have k3:=h.big;unfold cF;refine bD.iteb (λh4=>?_) λh4=>.some ⟨.refl h,by simp only;omega,λus he=>by rw [show (l,p).2.e_=p.e_ from rfl] at he;rw [he] at h4;cases h4⟩;simp only [beq_iff_eq] at h4;refine (hf p h (hk h4)).bind λx ⟨g1,d1⟩=>?_;refine bD.need (by simp only [mQ];omega) ?_;obtain ⟨g2,g3,g3'⟩:=gL g1.inv (s:=[44]);rw [eU g1.inv hn,bU];have m1:=g1.at';have m2:=g2.at';refine bD.iteb (λh5=>.some ⟨g1.toGd.trans g2,by simp only [mK,mQ];omega,λus he ht hr=>?_⟩) λh5=>?_
   ·have h6:=g3' (by simpa using h5);simp only [h6] at he ht hr;have d2:=d1 he;rw [hr] at d2;exact ⟨[x.1],rfl,.item d2 ht⟩
   ·have h5':oV x.2 [44]=true:=by simpa using h5
    have g4:=g3 h5';have g5:=g1.ga g4.2.1;have m3:=g1.adv g4.1;have m4:=g1.toGd.trans g2;have m5:=g5.toGd.lf;have m6:=hk h4;refine (ih _ _ g2.inv (λ_=>by omega) (by rw [m4.len];omega) (by simp only [mK,mQ];omega)).mono λs ⟨s1,s2,s3⟩=>⟨g5.toGd.trans s1,s2,λus he ht hr=>?_⟩;obtain ⟨xs,e,d3⟩:=s3 us he ht hr;have d2:=d1 g4.1;rw [mY g1.inv h5'] at d2;exact ⟨x.1::xs,by rw [e];simp,.items d2 (mC h5').2 d3⟩
theorem GB (hn:13<n) {fo:aA->Int->Option (aB × aA)} (ho:∀p a,PI p->0<=a->a<=999->Lf p+31<=n->bD (fo p a) λr=>GA p r.2/\(r.2.e_=0->DE 64 (.lev 0) (a+1) (bO p) [r.1] (bO r.2))):SdA (n+1) (cK fo n):=by
 intro p a h h0 h1 hb;unfold cK;have g1:=dY h (s:=[40]);obtain ⟨g2,g3,g4⟩:=gL g1.inv (s:=[41]);rw [eI h hn,bU,eU g1.inv hn,bU];refine bD.iteb (λh5=>.some ⟨g1.gd g2,λhe=>?_⟩) λh5=>?_
 ·have h5':oV (mL p [40]) [41]=true:=h5;obtain ⟨a1,a2,a3⟩:=mB h (mC h5').1;rw [a3,mY g1.inv h5'];exact .none a2 (mC h5').2
 have m1:=g1.at';have m2:=g2.at';have g5:=g1.gd g2;have k0:=g2.inv.lo;have k1:=g5.toGd.lf;have k2:=h.lf;have h5':oV (mL p [40]) [41]=false:=h5;rw [g4 h5'] at g5 k0 k1 ⊢;refine bD.bind (P:=λy=>Gd (mL p [40]) y.2/\∀us,y.2.e_=0->pC (jE y.2) [41]->bO y.2=jE y.2::us->DE 64 .items a (bO (mL p [40])) y.1 us) ?_ λy ⟨g6,d6⟩=>?_
 ·refine (FC hn (k:=(n:Int) - 31) (λq hq hk=>ho q a hq h0 (by omega) (by omega)) n [] (mL p [40]) g1.inv (λhe=>?_) ?_ (by simpa using k0)).bind λy ⟨y1,y2,y3⟩=>.some ⟨y1,λus he ht hr=>?_⟩
  ·have:=g1.lf he;omega
  ·unfold Lf at hb k1;rw [g5.toGd.len] at k1 ⊢;have:=h.hi;omega
  ·obtain ⟨xs,e,d⟩:=y3 us he ht hr;rw [iV] at e;rw [show (y.1,y.2).1=y.1 from rfl,e];exact d
 ·have g7:=dY g6.inv (s:=[41]);rw [eI g6.inv hn,bU];refine .some ⟨(g5.gd g6).ga g7,λhe=>?_⟩;obtain ⟨a1,a2,a3⟩:=mB g6.inv he;have e1:=g6.e0 a1;obtain ⟨b1,b2,b3⟩:=mB h e1;rw [b3];exact .args b2 (Ay g1.inv e1 h5') (d6 _ a1 a2 a3)
theorem Pj {e e':Int} (he:e ≠ 0):mI (mI p e) e'=mI p e:=by
 have:=Fh p he;rw [mI,if_neg this]
theorem IW {a:Int}:mX (mX p a) a=mX p a:=by
 unfold mX
 by_cases h:64<a
 ·rw [if_pos h,if_pos h,Pj (by decide)]
 ·rw [if_neg h,if_neg h]
theorem EV (h:PI p) {fe fo:aA->Int->Option (aB × aA)} {fa:aA->Int->Option ((List aB) × aA)} {a:Int}:bV fe fo fa n p a=bV fe fo fa n (mX p a) a:=by
 unfold bV;rw [rG h,rG (DU h).inv,IW]
theorem LO (hn:13<n) {fe fo:aA->Int->Option (aB × aA)} {fa:aA->Int->Option ((List aB) × aA)} (he':CF n 30 fe) (ho':CF n 21 fo) (ha':OkA n fa) (he:SdE n 30 (.lev 0) fe) (ho:SdE n 21 .op fo) (ha:SdA n fa):SdE (n+1) 21 .op (bV fe fo fa n):=by
 intro p a h h0 h1 hb
 by_cases hd:64<a
 ·rw [EV h];have g1:=DU h (a:=a);have l1:=g1.lf;refine (DI hn he' ho' ha' (mX p a) a g1.inv (by omega)).mono λr g=>⟨g1.ga g,λhq=>?_⟩;exact absurd (NE (g.toGd.e0 hq)).2.1 (by omega)
 unfold bV;have hdp:mX p a=p:=by unfold mX;rw [if_neg hd]
 rw [rG h,bU,hdp,eU h hn,bU];have m3:=h.lf;rw [cZ (n:=a+1) (by omega) (by omega)];obtain ⟨g2,g3,g3'⟩:=gL h (s:=[40]);refine bD.iteb (λh5=>?_) λh5=>?_
 ·have h5':oV p [40]=true:=h5;obtain ⟨_,g4,g5⟩:=g3 h5';have l1:=g4.lf g5;refine (he _ _ g2.inv (by omega) (by omega) (by omega)).bind λs ⟨g6,d6⟩=>?_;have g7:=dY g6.inv (s:=[41]);rw [eI g6.inv hn,bU];refine .some ⟨g4.ga (g6.ga g7),λhq=>?_⟩;obtain ⟨a1,a2,a3⟩:=mB g6.inv hq;have d7:=d6 a1;rw [a3] at d7;rw [mY h h5'];exact .paren (by omega) (mC h5').2 d7 a2
 have h5':oV p [40]=false:=h5;simp only [g3' h5'];have g4:=kF h;rw [iF h,bU];obtain ⟨c,hc⟩:∃d,n=d+3:=⟨n - 3,by omega⟩;have hl:=λx y=>wY g4.inv hn (fo:=fo) (a:=a) (c:=c) (x:=x) (y:=y);simp only [←hc] at hl;rw [hl,cZ (n:=a+1) (by omega) (by omega)];have m4:=g4.lf
 have un:∀s:cB,(s=[126] ∨ s=[45])->oV (eN p) s=true->bD ((fo (mD (eN p) s) (a+1)).bind λr=>some (Sum.inr ({ (⟨15,(jE p).eO,[],0,[]⟩:aB) with bT:=18,bQ:=s,aL:=[r.1] },r.2))) λy:(aA × aB × aB) ⊕ (aB × aA)=>∃r,y=.inr r/\GA p r.2/\(r.2.e_=0->DE 64 .op a (bO p) [r.1] (bO r.2)):=by
  intro s hs hb;obtain ⟨t1,t2,t3⟩:=gL g4.inv (s:=s);obtain ⟨_,t4,t5⟩:=t2 hb;have l1:=t4.lf t5;refine (ho _ _ t1.inv (by omega) (by omega) (by omega)).bind λr ⟨g6,d6⟩=>.some ⟨_,rfl,g4.ga (t4.ga g6),λhq=>?_⟩;have e1:=(mC hb).2;rw [qO] at e1;have e2:=mY g4.inv hb;rw [qN,qO] at e2;rw [e2];exact .un (by omega) hs e1 (d6 hq)
 by_cases b1:oV (eN p) [126]=true
 ·rw [if_pos b1];refine (un _ (.inl rfl) b1).bind ?_;rintro _ ⟨r,rfl,k1,k2⟩;exact .some ⟨k1,k2⟩
 rw [if_neg b1]
 by_cases b2:oV (eN p) [45]=true
 ·rw [if_pos b2];refine (un _ (.inr rfl) b2).bind ?_;rintro _ ⟨r,rfl,k1,k2⟩;exact .some ⟨k1,k2⟩
 rw [if_neg b2,bU];simp only [Qj]
 have hcond:(if ((eN p).e_ == (0:Int))=true then (cG (eN p)).bind λx72=>some (x72.bT == (2:Int)) else some false)=some ((eN p).e_ == 0 && (jE p).bT == 2):=by
  rw [sE g4.inv,qO];cases (eN p).e_ == (0:Int) <;> rfl
 rw [hcond,bU];refine bD.iteb (λh6=>?_) λh6=>?_
 ·rw [number_eq' g4.inv,bU];refine .some ⟨g4.ga (Em g4.inv),λhq=>?_⟩;obtain ⟨a1,a2,a3,a4⟩:=Rk g4.inv hq;rw [qO] at a2 a3 a4;rw [qN] at a4;simp only [a3];rw [a4];exact .num (by omega) a2
 rw [qF g4.inv hn,bU];have g8:=oT g4.inv;have g9:=g4.ga g8;have l8:=g9.toGd.lf
 have hnm:(nA (eN p)).2.e_=0->GW (jE p)/\(nA (eN p)).1=(jE p).bQ/\bO p=jE p::bO (nA (eN p)).2:=by
  intro hq;obtain ⟨a1,a2,a3,a4⟩:=yL g4.inv hq;rw [qO] at a2 a3 a4;rw [qN] at a4;exact ⟨a2,a3,a4⟩
 rw [Dq g8.inv hn,bU];refine bD.bind' (bD.iteb (λh9=>?_) λh9=>?_)
 ·obtain ⟨e1,e2⟩:=mC h9;have l9:=g9.lf e1;refine (ha _ a g8.inv h0 (by omega) (by omega)).bind λu ⟨g10,d10⟩=>.some (.some ⟨g9.ga g10,λhq=>?_⟩);obtain ⟨c1,c2,c3⟩:=hnm e1;simp only [c2];rw [c3];exact .call (by omega) c1 (d10 hq)
 ·obtain ⟨t1,t2,t3⟩:=gL g8.inv (s:=[91]);rw [eU g8.inv hn,bU];refine bD.iteb (λh10=>?_) λh10=>?_
  ·have h10':oV (nA (eN p)).2 [91]=true:=h10;obtain ⟨e1,t4,t5⟩:=t2 h10';have l9:=(g9.ga t4).lf t5;refine (he _ _ t1.inv (by omega) (by omega) (by omega)).bind λv ⟨g13,d13⟩=>?_;have g14:=dY g13.inv (s:=[93]);rw [eI g13.inv hn,bU];refine .some (.some ⟨g9.ga (t4.ga (g13.ga g14)),λhq=>?_⟩);obtain ⟨a1,a2,a3⟩:=mB g13.inv hq;obtain ⟨c1,c2,c3⟩:=hnm e1;have d14:=d13 a1;rw [a3] at d14;simp only [c2];rw [c3,mY g8.inv h10'];exact .index (by omega) c1 (mC h10').2 d14 a2
  ·have h10':oV (nA (eN p)).2 [91]=false:=h10;rw [t3 h10'];refine .some (.some ⟨g9,λhq=>?_⟩);obtain ⟨c1,c2,c3⟩:=hnm hq;simp only [c2];rw [c3];exact .ref (by omega) c1 (Ay g8.inv hq h9) (Ay g8.inv hq h10')
theorem sgrp_ok:∀n:Nat,SdA n (aJ n).1/\SdE n 30 (.lev 0) (aJ n).2.1/\SdL n (aJ n).2.2.1/\SdE n 21 .op (aJ n).2.2.2.1/\(∀p a,PI p->0<=a->a<=999->Lf p+31<=n->bD ((aJ n).2.2.2.2 p a) λr=>GA p r.2/\(r.2.e_=0->DE 64 (.lev 0) (a+1) (bO p) [r.1] (bO r.2))):=by
 have small:∀n:Nat,n<=14->SdA n (aJ n).1/\SdE n 30 (.lev 0) (aJ n).2.1/\SdL n (aJ n).2.2.1/\SdE n 21 .op (aJ n).2.2.2.1/\(∀p a,PI p->0<=a->a<=999->Lf p+31<=n->bD ((aJ n).2.2.2.2 p a) λr=>GA p r.2/\(r.2.e_=0->DE 64 (.lev 0) (a+1) (bO p) [r.1] (bO r.2))):=by
  intro n hn;refine ⟨λp a h _ _ hb=>?_,λp a h _ _ hb=>?_,λp a b h _ _ _ hb=>?_,λp a h _ _ hb=>?_,λp a h _ _ hb=>?_⟩ <;> (have:=h.lf;omega)
 intro n
 induction n with
 | zero=>exact small 0 (by omega)
 | succ n ih=>
   by_cases hn:13<n
   ·obtain ⟨i1,i2,i3,i4,i5⟩:=ih;obtain ⟨j1,j2,j3,j4,j5⟩:=Et n;exact ⟨GB hn i5,sexpr_b i3,QJ hn i4 i3,LO hn j2 j4 j1 i2 i4 i1,Jt i2⟩
   ·exact small (n+1) (by omega)
theorem EO (h:PI p) {a:Int} (h0:0<=a) (h1:a<=1000) (hb:Lf p+30<=n):bD (cM n p a) λr=>GA p r.2/\(r.2.e_=0->DE 64 (.lev 0) a (bO p) [r.1] (bO r.2)):=(sgrp_ok n).2.1 p a h h0 h1 hb
end
end Go.Proofs.YtljbbjpbefjpiaaGreatDoor.Abs.Jn
namespace Go.Proofs.YtljbbjpbefjpiaaGreatDoor.Abs.Jn
open Go.RowKit
set_option linter.all false
section
variable {n:Nat} {p:aA}
theorem QF (h:PI p) (hn:13<n):bD (eJ n p) λr=>GA p r.2/\(r.2.e_=0->Ga (bO p) r.1 (bO r.2)):=by
 have g1:=kF h;have g2:=oT g1.inv;have g3:=dY g2.inv (s:=[58]);have g4:=g1.ga (g2.ga g3);unfold eJ;rw [iF h,bU,qF g1.inv hn,bU,eI g2.inv hn,bU]
 have key:∀us,(mL (nA (eN p)).2 [58]).e_=0->bO (mL (nA (eN p)).2 [58])=us->∃u,GW (jE p)/\pC u [58]/\(nA (eN p)).1=(jE p).bQ/\bO p=jE p::u::us:=by
  intro us he hr;obtain ⟨a1,a2,a3⟩:=mB g2.inv he;obtain ⟨b1,b2,b3,b4⟩:=yL g1.inv a1;rw [qO] at b2 b3 b4;rw [qN] at b4;exact ⟨_,b2,a2,b3,by rw [b4,a3,hr]⟩
 generalize mL (nA (eN p)).2 [58]=q at g3 g4 key ⊢
 obtain ⟨c,hc⟩:∃d,n=d+4:=⟨n - 4,by omega⟩;have hl:=λx y=>Dm g3.inv hn (c:=c) (x:=x) (y:=y);simp only [←hc] at hl;rw [hl,bU]
 have kw:∀(k:Int) (s:cB),(k=1/\s=[112,117,98] ∨ k=2/\s=[117,51,50] ∨ k=3/\s=[117,54,52])->oV q s=true->GA p (mD q s)/\((mD q s).e_=0->Ga (bO p) ⟨3,(jE p).eO,(nA (eN p)).1,k,[]⟩ (bO (mD q s))):=by
  intro k s hk hb;obtain ⟨t1,t2,t3⟩:=(gL g3.inv (s:=s)).2.1 hb;refine ⟨g4.ga t2,λhq=>?_⟩;obtain ⟨u,a1,a2,a3,a4⟩:=key _ t1 (mY g3.inv hb);rw [a3,a4];exact .word a1 a2 hk (mC hb).2
 by_cases b1:oV q [112,117,98]=true
 ·rw [if_pos b1];exact .some (kw 1 _ (.inl ⟨rfl,rfl⟩) b1)
 rw [if_neg b1]
 by_cases b2:oV q [117,51,50]=true
 ·rw [if_pos b2];exact .some (kw 2 _ (.inr (.inl ⟨rfl,rfl⟩)) b2)
 rw [if_neg b2]
 by_cases b3:oV q [117,54,52]=true
 ·rw [if_pos b3];exact .some (kw 3 _ (.inr (.inr ⟨rfl,rfl⟩)) b3)
 rw [if_neg b3];simp only [Qj];have g5:=kF g3.inv;have g6:=GQ g5.inv;rw [iF g3.inv,bU,GR g5.inv hn,bU];refine .some ⟨g4.ga (g5.ga g6),λhq=>?_⟩;obtain ⟨c1,v,w,c2,c3,c4,c5,c6⟩:=Nf g5.inv hq;rw [qO] at c2 c6;rw [qN] at c6;obtain ⟨u,a1,a2,a3,a4⟩:=key _ (g5.e0 c1) c6;simp only [a3,c5];rw [a4];exact .arr a1 a2 c2 c3 c4
theorem LN (hn:13<n):∀(c:Nat) (l:List aB) (p:aA),PI p->(p.l_.length:Int) - p.fA<c->(l.length:Int)<=p.fA->bD (dO n c l p) λr=>Gd p r.2/\(r.1.length:Int)<=r.2.fA+1/\∀us,r.2.e_=0->pC (jE r.2) [41]->bO r.2=jE r.2::us->∃xs,r.1=l++xs/\sR false (bO p) xs us:=by
 intro c
 induction c with
 | zero=>intro l p h h1 h2;have:=h.hi;omega
 | succ c ih=>
   intro l p h h1 h2;have k1:=h.lo;have k2:=h.hi;have k3:=h.big;unfold dO;refine bD.iteb (λh4=>?_) λh4=>.some ⟨.refl h,by simp only;omega,λus he=>by rw [show (l,p).2.e_=p.e_ from rfl] at he;rw [he] at h4;cases h4⟩;simp only [beq_iff_eq] at h4;refine (QF h hn).bind λx ⟨g1,d1⟩=>?_;refine bD.need (by simp only [mQ];omega) ?_;obtain ⟨g2,g3,g3'⟩:=gL g1.inv (s:=[44]);rw [eU g1.inv hn,bU];have m1:=g1.at';have m2:=g2.at';refine bD.iteb (λh5=>.some ⟨g1.toGd.trans g2,by simp only [mK,mQ];omega,λus he ht hr=>?_⟩) λh5=>?_
   ·have h6:=g3' (by simpa using h5);simp only [h6] at he ht hr;have d2:=d1 he;rw [hr] at d2;exact ⟨[x.1],rfl,.item d2 ht⟩
   ·have h5':oV x.2 [44]=true:=by simpa using h5
    have g4:=g3 h5';have g5:=g1.ga g4.2.1;have m3:=g1.adv g4.1;have m4:=g1.toGd.trans g2;refine (ih _ _ g2.inv (by rw [m4.len];omega) (by simp only [mK,mQ];omega)).mono λs ⟨s1,s2,s3⟩=>⟨g5.toGd.trans s1,s2,λus he ht hr=>?_⟩;obtain ⟨xs,e,d3⟩:=s3 us he ht hr;have d2:=d1 g4.1;rw [mY g1.inv h5'] at d2;exact ⟨x.1::xs,by rw [e];simp,.items d2 (mC h5').2 d3⟩
theorem Nb (h:PI p) (hn:13<n) (hb:(p.l_.length:Int) - p.fA<n):bD (cH n p) λr=>GA p r.2/\(r.1.length:Int)<=r.2.fA+1/\(r.2.e_=0->sR true (bO p) r.1 (bO r.2)):=by
 unfold cH;have g1:=dY h (s:=[40]);obtain ⟨g2,g3,g4⟩:=gL g1.inv (s:=[41]);have k0:=g1.inv.lo;have k9:=g2.inv.lo;rw [eI h hn,bU,eU g1.inv hn,bU];refine bD.iteb (λh5=>.some ⟨g1.gd g2,by simp only [iT];omega,λhe=>?_⟩) λh5=>?_
 ·have h5':oV (mL p [40]) [41]=true:=h5;obtain ⟨a1,a2,a3⟩:=mB h (mC h5').1;rw [a3,mY g1.inv h5'];exact .none a2 (mC h5').2
 have h5':oV (mL p [40]) [41]=false:=h5;rw [g4 h5'];refine bD.bind (P:=λy=>Gd (mL p [40]) y.2/\(y.1.length:Int)<=y.2.fA+1/\∀us,y.2.e_=0->pC (jE y.2) [41]->bO y.2=jE y.2::us->sR false (bO (mL p [40])) y.1 us) ?_ λy ⟨g6,n6,d6⟩=>?_
 ·refine (LN hn n [] (mL p [40]) g1.inv (by have:=g1.at';rw [g1.toGd.len];omega) (by simpa using k0)).bind λy ⟨y1,y2,y3⟩=>.some ⟨y1,y2,λus he ht hr=>?_⟩;obtain ⟨xs,e,d⟩:=y3 us he ht hr;rw [iV] at e;rw [show (y.1,y.2).1=y.1 from rfl,e];exact d
 ·have g7:=dY g6.inv (s:=[41]);have m7:=g7.at';rw [eI g6.inv hn,bU];refine .some ⟨(g1.gd g6).ga g7,by simp only;omega,λhe=>?_⟩;obtain ⟨a1,a2,a3⟩:=mB g6.inv he;have e1:=g6.e0 a1;obtain ⟨b1,b2,b3⟩:=mB h e1;rw [b3];exact .args b2 (Ay g1.inv e1 h5') (d6 _ a1 a2 a3)
theorem QE (h:PI p) {a:Int} (h0:0<=a) (h1:a<=900) (hb:Lf p+30<=n):bD (fW n p a) λr=>GA p r.2/\(r.2.e_=0->DE 64 (.lev 0) (a+1+1) (bO p) [r.1] (bO r.2)):=by
 unfold fW;rw [cZ (n:=a+2) (by omega) (by omega),show a+2=a+1+1 by omega];exact (EO h (by omega) (by omega) hb).bind λr g=>.some g
theorem Ok (hn:13<n) {a:Int} (h0:0<=a) (h9:a<=900):∀(c:Nat) (l:List aB) (p:aA),PI p->Lf p+30<=n->(p.l_.length:Int) - p.fA<c->(l.length:Int)<=p.fA->bD (cN n a c l p) λr=>Gd p r.2/\(r.1.length:Int)<=r.2.fA+1/\∀us,r.2.e_=0->pC (jE r.2) [41]->bO r.2=jE r.2::us->∃xs,r.1=l++xs/\DE 64 .items (a+1) (bO p) xs us:=by
 intro c
 induction c with
 | zero=>intro l p h _ h1 h2;have:=h.hi;omega
 | succ c ih=>
   intro l p h hk h1 h2;have k1:=h.lo;have k2:=h.hi;have k3:=h.big;unfold cN;refine bD.iteb (λh4=>?_) λh4=>.some ⟨.refl h,by simp only;omega,λus he=>by rw [show (l,p).2.e_=p.e_ from rfl] at he;rw [he] at h4;cases h4⟩;simp only [beq_iff_eq] at h4;refine (QE h h0 h9 hk).bind λx ⟨g1,d1⟩=>?_;refine bD.need (by simp only [mQ];omega) ?_;obtain ⟨g2,g3,g3'⟩:=gL g1.inv (s:=[44]);rw [eU g1.inv hn,bU];have m1:=g1.at';have m2:=g2.at';refine bD.iteb (λh5=>.some ⟨g1.toGd.trans g2,by simp only [mK,mQ];omega,λus he ht hr=>?_⟩) λh5=>?_
   ·have h6:=g3' (by simpa using h5);simp only [h6] at he ht hr;have d2:=d1 he;rw [hr] at d2;exact ⟨[x.1],rfl,.item d2 ht⟩
   ·have h5':oV x.2 [44]=true:=by simpa using h5
    have g4:=g3 h5';have g5:=g1.ga g4.2.1;have m3:=g1.adv g4.1;have m4:=g1.toGd.trans g2;have m5:=g5.toGd.lf;refine (ih _ _ g2.inv (by omega) (by rw [m4.len];omega) (by simp only [mK,mQ];omega)).mono λs ⟨s1,s2,s3⟩=>⟨g5.toGd.trans s1,s2,λus he ht hr=>?_⟩;obtain ⟨xs,e,d3⟩:=s3 us he ht hr;have d2:=d1 g4.1;rw [mY g1.inv h5'] at d2;exact ⟨x.1::xs,by rw [e];simp,.items d2 (mC h5').2 d3⟩
theorem splist (h:PI p) {a:Int} (h0:0<=a) (h9:a<=900) (hb:Lf p+30<=n):bD (cX n p a) λr=>GA p r.2/\(r.2.e_=0->DE 64 .args (a+1) (bO p) r.1 (bO r.2)):=by
 have hn:13<n:=by have:=h.lf;omega
 unfold cX;have g1:=dY h (s:=[40]);obtain ⟨g2,g3,g4⟩:=gL g1.inv (s:=[41]);rw [eI h hn,bU,eU g1.inv hn,bU];refine bD.iteb (λh5=>.some ⟨g1.gd g2,λhe=>?_⟩) λh5=>?_
 ·have h5':oV (mL p [40]) [41]=true:=h5;obtain ⟨a1,a2,a3⟩:=mB h (mC h5').1;rw [a3,mY g1.inv h5'];exact .none a2 (mC h5').2
 have k0:=g1.inv.lo;have k1:=g1.toGd.lf;have h5':oV (mL p [40]) [41]=false:=h5;rw [g4 h5'];refine bD.bind (P:=λy=>Gd (mL p [40]) y.2/\∀us,y.2.e_=0->pC (jE y.2) [41]->bO y.2=jE y.2::us->DE 64 .items (a+1) (bO (mL p [40])) y.1 us) ?_ λy ⟨g6,d6⟩=>?_
 ·refine (Ok hn h0 h9 n [] (mL p [40]) g1.inv (by omega) ?_ (by simpa using k0)).bind λy ⟨y1,y2,y3⟩=>.some ⟨y1,λus he ht hr=>?_⟩
  ·unfold Lf at hb k1;rw [g1.toGd.len] at k1 ⊢;have:=h.hi;omega
  ·obtain ⟨xs,e,d⟩:=y3 us he ht hr;rw [iV] at e;rw [show (y.1,y.2).1=y.1 from rfl,e];exact d
 ·have g7:=dY g6.inv (s:=[41]);rw [eI g6.inv hn,bU];refine .some ⟨(g1.gd g6).ga g7,λhe=>?_⟩;obtain ⟨a1,a2,a3⟩:=mB g6.inv he;have e1:=g6.e0 a1;obtain ⟨b1,b2,b3⟩:=mB h e1;rw [b3];exact .args b2 (Ay g1.inv e1 h5') (d6 _ a1 a2 a3)
theorem QG (h:PI p) {x:aB} {a:Int} (h0:0<=a) (h9:a<=900) (hb:Lf p+30<=n):bD (fK n p x (a+1)) λr=>GA p r.2/\(r.2.e_=0->∀t s,(x.bT=5/\s=[108,101,116] ∨ x.bT=6/\s=[118,97,114])->pC t s->x=⟨x.bT,t.eO,[],0,[]⟩->DS 64 .stmt a (t::bO p) [r.1] (bO r.2)):=by
 have hn:13<n:=by have:=h.lf;omega
 have g1:=oT h;have g2:=dY g1.inv (s:=[61]);have l1:=g1.toGd.lf;have l2:=g2.toGd.lf;unfold fK;rw [qF h hn,bU,eI g1.inv hn,bU];refine (EO g2.inv (by omega) (by omega) (by omega)).bind λs ⟨g3,d3⟩=>?_;have g4:=dY g3.inv (s:=[59]);rw [eI g3.inv hn,bU];refine .some ⟨g1.ga (g2.ga (g3.ga g4)),λhq t s' hk ht hx=>?_⟩;obtain ⟨a1,a2,a3⟩:=mB g3.inv hq;have d4:=d3 a1;obtain ⟨b1,b2,b3⟩:=mB g1.inv (g3.toGd.e0 a1);obtain ⟨c1,c2,c3,c4⟩:=yL h b1;rw [a3] at d4;rw [c4,b3];simp only [c3];rw [hx];exact .bind hk ht c2 b2 d4 a2
theorem splain (h:PI p) {x:aB} (hx:x=⟨8,(jE p).eO,[],0,[]⟩) {a:Int} (h0:0<=a) (h9:a<=900) (hb:Lf p+30<=n):bD (fI n p x a) λr=>GA p r.2/\(r.2.e_=0->DS 64 .stmt a (bO p) [r.1] (bO r.2)):=by
 have hn:13<n:=by have:=h.lf;omega
 subst hx;have g1:=oT h;have l1:=g1.toGd.lf;unfold fI;rw [qF h hn,bU,cZ (n:=a+1) (by omega) (by omega),cZ (n:=a+2) (by omega) (by omega)];refine bD.bind (P:=λy=>GA p y.1/\∀us,y.1.e_=0->pC (jE y.1) [59]->bO y.1=jE y.1::us->DS 64 .stmt a (bO p) [y.2] us) ?_ λy ⟨g,d⟩=>?_
 case refine_2=>
  have g2:=dY g.inv (s:=[59]);rw [eI g.inv hn,bU];refine .some ⟨g.ga g2,λhq=>?_⟩;obtain ⟨a1,a2,a3⟩:=mB g.inv hq;exact d _ a1 a2 a3
 rw [Dq g1.inv hn,bU];refine bD.iteb (λh3=>?_) λh3=>?_
 ·refine (splist g1.inv h0 h9 (by omega)).bind λs ⟨g2,d2⟩=>.some ⟨g1.ga g2,λus he ht hr=>?_⟩;obtain ⟨c1,c2,c3,c4⟩:=yL h (mC h3).1;have d3:=d2 he;simp only at hr;rw [hr] at d3;simp only [c3];rw [c4];exact .call c2 d3 ht
 ·obtain ⟨t1,t2,t3⟩:=gL g1.inv (s:=[91]);rw [eU g1.inv hn,bU];have l2:=t1.lf;refine bD.iteb (λh4=>?_) λh4=>?_
  ·have h4':oV (nA p).2 [91]=true:=h4;refine (EO t1.inv (by omega) (by omega) (by omega)).bind λs ⟨g2,d2⟩=>?_;have g3:=dY g2.inv (s:=[93]);have g4:=dY g3.inv (s:=[61]);have l3:=g2.toGd.lf;have l4:=g3.toGd.lf;have l5:=g4.toGd.lf;rw [eI g2.inv hn,bU,eI g3.inv hn,bU];refine (EO g4.inv (by omega) (by omega) (by omega)).bind λw ⟨g5,d5⟩=>bD.need (by simp) (.some ⟨(g1.gd t1).ga (g2.ga (g3.ga (g4.ga g5))),λus he ht hr=>?_⟩);obtain ⟨c1,c2,c3,c4⟩:=yL h (mC h4').1;have d6:=d5 he;obtain ⟨a1,a2,a3⟩:=mB g3.inv (g5.toGd.e0 he);obtain ⟨b1,b2,b3⟩:=mB g2.inv a1;have d7:=d2 b1;rw [b3,a3] at d7;simp only at hr;rw [hr] at d6;simp only [c3];rw [c4,mY g1.inv h4'];exact .put c2 (mC h4').2 d7 b2 a2 d6 ht
  ·have h4':oV (nA p).2 [91]=false:=h4;rw [t3 h4'];have g4:=dY g1.inv (s:=[61]);have l5:=g4.toGd.lf;rw [eI g1.inv hn,bU];refine (EO g4.inv (by omega) (by omega) (by omega)).bind λw ⟨g5,d5⟩=>.some ⟨g1.ga (g4.ga g5),λus he ht hr=>?_⟩;have d6:=d5 he;obtain ⟨a1,a2,a3⟩:=mB g1.inv (g5.toGd.e0 he);obtain ⟨c1,c2,c3,c4⟩:=yL h a1;simp only at hr;rw [hr] at d6;simp only [c3];rw [c4,a3];exact .set c2 a2 d6 ht
end
end Go.Proofs.YtljbbjpbefjpiaaGreatDoor.Abs.Jn
namespace Go.Proofs.YtljbbjpbefjpiaaGreatDoor.Abs.Jn
open Go.RowKit
set_option linter.all false
def SdS (n:Nat) (k b:Int) (K:SK) (f:aA->Int->Option (aB × aA)):Prop:=∀p a,PI p->0<=a->a<=b->Lf p+k<=n->bD (f p a) λr=>GA p r.2/\(r.2.e_=0->DS 64 K a (bO p) [r.1] (bO r.2))
def SdW (n:Nat) (w:cB) (f:aA->aB->Int->Option (aB × aA)):Prop:=∀p x a,PI p->0<=a->a<=99->Lf p+47<=n->bD (f p x a) λr=>GA p r.2/\(r.2.e_=0->∀t,pC t w->x=⟨8,t.eO,[],0,[]⟩->DS 64 .stmt a (t::bO p) [r.1] (bO r.2))
section
variable {n:Nat} {p:aA}
theorem OE (hn:13<n) {fs:aA->Int->Option (aB × aA)} {k:Int} {a:Int} (hf:∀p,PI p->Lf p<=k->bD (fs p a) λr=>GA p r.2/\(r.2.e_=0->DS 64 .stmt a (bO p) [r.1] (bO r.2))):∀(c:Nat) (p:aA) (x:aB),PI p->(p.e_=0->Lf p<=k)->(p.l_.length:Int) - p.fA<c->1<=c->(p.e_=0->(x.aL.length:Int)<=p.fA)->(x.aL.length:Int)<=65538->bD (dJ fs n a c p x) λr=>Gd p r.1/\(r.1.e_=0->∃xs,r.2={ x with aL:=x.aL++xs }/\DS 64 .stmts a (bO p) xs (bO r.1)):=by
 intro c
 induction c with
 | zero=>intro p x h _ h1 h2;omega
 | succ c ih=>
   intro p x h hk h1 h2 h3 h4;have k1:=h.lo;have k2:=h.hi;have k3:=h.big
   have hcond:(if (p.e_ == (0:Int))=true then (fX n p ([125]:cB)).bind λx19=>some (!x19) else some false)=some (p.e_ == 0 && !oV p [125]):=by
    rw [Dq h hn];cases p.e_ == (0:Int) <;> rfl
   unfold dJ;rw [hcond,bU];refine bD.iteb (λh5=>?_) λh5=>.some ⟨.refl h,λhe=>⟨[],by rw [jR];cases x;rfl,.nil ?_⟩⟩
   ·simp only [BO,beq_iff_eq,NU] at h5;obtain ⟨he,hb5⟩:=h5;refine (hf p h (hk he)).bind λr ⟨g,d⟩=>?_;have m1:=g.at';have m2:=hk he;have m3:=h3 he;have m4:=g.toGd.lf;have m5:=g.inv.hi;have m6:=g.toGd.len;refine bD.need (by simp only [mQ];omega) ?_
    by_cases he2:r.2.e_=0
    ·have m7:=g.adv he2;refine (ih r.2 _ g.inv (λ_=>by omega) (by rw [m6];omega) (by omega) (λ_=>by simp only [mK,mQ];omega) (by simp only [mK,mQ];omega)).mono λs ⟨g2,d2⟩=>⟨g.toGd.trans g2,λhq=>?_⟩;obtain ⟨xs,e,d3⟩:=d2 hq;exact ⟨r.1::xs,by rw [e];simp,.cons (Ay h he hb5) (d he2) d3⟩
    ·cases c with
     | zero=>omega
     | succ c=>
       unfold dJ;rw [if_neg (by simpa using he2),bU,if_neg (by decide)];exact .some ⟨g.toGd,λhq=>absurd hq he2⟩
   ·rw [show (p,x).1=p from rfl] at he;rw [he] at h5;exact (BF h he).2 (by simpa using h5)
theorem If (h:PI p) {fs:aA->Int->Option (aB × aA)} {a:Int}:dC fs n p a=dC fs n (mX p a) a:=by
 unfold dC;rw [rG h,rG (DU h).inv,IW]
theorem QU {fs:aA->Int->Option (aB × aA)} (hs':CF n 45 fs) (hs:SdS n 45 99 .stmt fs):SdS (n+1) 46 100 .block (dC fs n):=by
 intro p a h h0 h9 hb;have hn:13<n:=by have:=h.lf;omega
 by_cases hd:64<a
 ·rw [If h];have g1:=DU h (a:=a);have l1:=g1.lf;refine (GY hs' (mX p a) a g1.inv (by omega)).mono λr g=>⟨g1.ga g,λhq=>?_⟩;exact absurd (NE (g.toGd.e0 hq)).2.1 (by omega)
 unfold dC;have hdp:mX p a=p:=by unfold mX;rw [if_neg hd]
 have g2:=kF h;have g3:=dY g2.inv (s:=[123]);rw [rG h,bU,hdp,iF h,bU,eI g2.inv hn,bU];have g5:=g2.ga g3;have l5:=g5.toGd.lf;have k0:=g3.inv.lo;refine (OE hn (k:=(n:Int) - 45) (λq hq hk=>hs q a hq h0 (by omega) (by omega)) n (mL (eN p) [123]) ⟨4,(jE p).eO,[],0,[]⟩ g3.inv (λhe=>?_) ?_ (by omega) (λ_=>by simpa using k0) (by simp)).bind λy ⟨g6,d6⟩=>?_
 ·have:=g5.lf he;omega
 ·unfold Lf at hb l5;rw [g5.toGd.len] at l5 ⊢;have:=h.hi;omega
 have g7:=dY g6.inv (s:=[125]);rw [eI g6.inv hn,bU];refine .some ⟨(g5.gd g6).ga g7,λhq=>?_⟩;obtain ⟨a1,a2,a3⟩:=mB g6.inv hq;obtain ⟨xs,e,d7⟩:=d6 a1;obtain ⟨b1,b2,b3⟩:=mB g2.inv (g6.e0 a1);rw [qO] at b2 b3;rw [qN] at b3;rw [a3] at d7;simp only [e,iV];rw [b3];exact .block (by omega) b2 d7 a2
theorem OC {fb:aA->Int->Option (aB × aA)} (hf:SdS n 46 100 .block fb):SdW (n+1) [105,102] (eD fb n):=by
 intro p x a h h0 h9 hb;have hn:13<n:=by have:=h.lf;omega
 unfold eD;rw [cZ (n:=a+1) (by omega) (by omega)];refine (EO h (by omega) (by omega) (by omega)).bind λr ⟨g1,d1⟩=>?_;have l1:=g1.toGd.lf;refine (hf r.2 _ g1.inv (by omega) (by omega) (by omega)).bind λs ⟨g2,d2⟩=>bD.need (by simp) ?_;obtain ⟨g3,t2,t3⟩:=gL g2.inv (s:=[101,108,115,101]);rw [eU g2.inv hn,bU];have l2:=g2.toGd.lf;have l3:=g3.lf;refine bD.iteb (λh4=>?_) λh4=>?_
 ·have h4':oV s.2 [101,108,115,101]=true:=h4;refine (hf _ _ g3.inv (by omega) (by omega) (by omega)).bind λu ⟨g4,d4⟩=>bD.need (by simp) (.some ⟨((g1.ga g2).gd g3).ga g4,λhq t ht hx=>?_⟩);have e2:=(mC h4').1;have d5:=d2 e2;rw [mY g2.inv h4'] at d5;rw [hx];exact .choice2 ht (d1 (g2.toGd.e0 e2)) d5 (mC h4').2 (d4 hq)
 ·have h4':oV s.2 [101,108,115,101]=false:=h4;rw [t3 h4'];refine .some ⟨g1.ga g2,λhq t ht hx=>?_⟩;rw [hx];exact .choice ht (d1 (g2.toGd.e0 hq)) (d2 hq) (Ay g2.inv hq h4')
theorem sloop_b {fb:aA->Int->Option (aB × aA)} (hf:SdS n 46 100 .block fb):SdW (n+1) [102,111,114] (gH fb n):=by
 intro p x a h h0 h9 hb;have hn:13<n:=by have:=h.lf;omega
 have g1:=oT h;have g2:=dY g1.inv (s:=[105,110]);have l1:=g1.toGd.lf;have l2:=g2.toGd.lf;unfold gH;rw [cZ (n:=a+1) (by omega) (by omega),qF h hn,bU,eI g1.inv hn,bU];refine (EO g2.inv (by omega) (by omega) (by omega)).bind λt ⟨g3,d3⟩=>?_;have g4:=dY g3.inv (s:=[46,46]);have l3:=g3.toGd.lf;have l4:=g4.toGd.lf;rw [eI g3.inv hn,bU];refine (EO g4.inv (by omega) (by omega) (by omega)).bind λv ⟨g5,d5⟩=>bD.need (by simp) ?_;have l5:=g5.toGd.lf;refine (hf v.2 _ g5.inv (by omega) (by omega) (by omega)).bind λw ⟨g6,d6⟩=>bD.need (by simp) (.some ⟨g1.ga (g2.ga (g3.ga (g4.ga (g5.ga g6)))),λhq z hz hx=>?_⟩);have e5:=g6.toGd.e0 hq;obtain ⟨a1,a2,a3⟩:=mB g3.inv (g5.toGd.e0 e5);have d7:=d3 a1;rw [a3] at d7;obtain ⟨b1,b2,b3⟩:=mB g1.inv (g3.toGd.e0 a1);obtain ⟨c1,c2,c3,c4⟩:=yL h b1;rw [hx];simp only [c3];rw [c4,b3];exact .loop hz c2 b2 d7 a2 (d5 e5) (d6 hq)
theorem Jr {fc fl:aA->aB->Int->Option (aB × aA)} (hc:SdW n [105,102] fc) (hl:SdW n [102,111,114] fl):SdS (n+1) 45 99 .stmt (bF fc fl n):=by
 intro p a h h0 h9 hb;have hn:13<n:=by have:=h.lf;omega
 unfold bF;have g1:=kF h;have l1:=g1.lf;rw [iF h,bU,cZ (n:=a+1) (by omega) (by omega)]
 have hr:∀s,oV (eN p) s=true->pC (jE p) s/\bO p=jE p::bO (mD (eN p) s):=by
  intro s hs;have e1:=(mC hs).2;have e2:=mY g1.inv hs;rw [qO] at e1 e2;rw [qN] at e2;exact ⟨e1,e2⟩
 refine bD.bind (P:=λy=>match y with | .inl z=>GA p z.1/\∀us,z.1.e_=0->pC (jE z.1) [59]->bO z.1=jE z.1::us->DS 64 .stmt a (bO p) [z.2] us | .inr z=>GA p z.2/\(z.2.e_=0->DS 64 .stmt a (bO p) [z.1] (bO z.2))) ?_ λy hy=>?_
 ·rw [eU g1.inv hn,bU];refine bD.iteb (λh1=>?_) λh1=>?_
  ·have h1':oV (eN p) [108,101,116]=true:=h1;obtain ⟨t1,t2,t3⟩:=gL g1.inv (s:=[108,101,116]);have m1:=t1.lf;refine (QG t1.inv h0 (by omega) (by omega)).bind λu ⟨g2,d2⟩=>.some ⟨g1.ga (t1.ga g2),λhq=>?_⟩;rw [(hr _ h1').2];exact d2 hq (jE p) _ (.inl ⟨rfl,rfl⟩) (hr _ h1').1 rfl
  have h1':oV (eN p) [108,101,116]=false:=h1;rw [mA h1',eU g1.inv hn,bU];refine bD.iteb (λh1=>?_) λh1=>?_
  ·have h1':oV (eN p) [118,97,114]=true:=h1;obtain ⟨t1,t2,t3⟩:=gL g1.inv (s:=[118,97,114]);have m1:=t1.lf;refine (QG t1.inv h0 (by omega) (by omega)).bind λu ⟨g2,d2⟩=>.some ⟨g1.ga (t1.ga g2),λhq=>?_⟩;rw [(hr _ h1').2];exact d2 hq (jE p) _ (.inr ⟨rfl,rfl⟩) (hr _ h1').1 rfl
  have h1':oV (eN p) [118,97,114]=false:=h1;rw [mA h1',eU g1.inv hn,bU];refine bD.iteb (λh1=>?_) λh1=>?_
  ·have h1':oV (eN p) [97,114,114]=true:=h1;obtain ⟨t1,t2,t3⟩:=gL g1.inv (s:=[97,114,114]);have g2:=oT t1.inv;have g3:=GQ g2.inv;rw [qF t1.inv hn,bU,GR g2.inv hn,bU];refine .some ⟨g1.ga (t1.ga (g2.ga g3)),λus he ht hrr=>?_⟩;obtain ⟨c1,v,w,c2,c3,c4,c5,c6⟩:=Nf g2.inv he;obtain ⟨b1,b2,b3,b4⟩:=yL t1.inv c1;rw [(hr _ h1').2,b4,c6];simp only at hrr;rw [hrr];simp only [b3,c5];exact .arr (hr _ h1').1 b2 c2 c3 c4 ht
  have h1':oV (eN p) [97,114,114]=false:=h1;rw [mA h1',eU g1.inv hn,bU];refine bD.iteb (λh1=>?_) λh1=>?_
  ·have h1':oV (eN p) [114,101,116,117,114,110]=true:=h1;obtain ⟨t1,t2,t3⟩:=gL g1.inv (s:=[114,101,116,117,114,110]);have m1:=t1.lf;refine (EO t1.inv (by omega) (by omega) (by omega)).bind λu ⟨g2,d2⟩=>.some ⟨g1.ga (t1.ga g2),λus he ht hrr=>?_⟩;have d3:=d2 he;simp only at hrr;rw [hrr] at d3;rw [(hr _ h1').2];exact .ret (hr _ h1').1 d3 ht
  have h1':oV (eN p) [114,101,116,117,114,110]=false:=h1;rw [mA h1',eU g1.inv hn,bU];refine bD.iteb (λh1=>?_) λh1=>?_
  ·have h1':oV (eN p) [105,102]=true:=h1;obtain ⟨t1,t2,t3⟩:=gL g1.inv (s:=[105,102]);obtain ⟨_,t4,t5⟩:=t2 h1';have m1:=(g1.ga t4).lf t5;refine (hc _ _ a t1.inv h0 h9 (by omega)).bind λu ⟨g2,d2⟩=>.some ⟨g1.ga (t1.ga g2),λhq=>?_⟩;rw [(hr _ h1').2];exact d2 hq (jE p) (hr _ h1').1 rfl
  have h1':oV (eN p) [105,102]=false:=h1;rw [mA h1',eU g1.inv hn,bU];refine bD.iteb (λh1=>?_) λh1=>?_
  ·have h1':oV (eN p) [102,111,114]=true:=h1;obtain ⟨t1,t2,t3⟩:=gL g1.inv (s:=[102,111,114]);obtain ⟨_,t4,t5⟩:=t2 h1';have m1:=(g1.ga t4).lf t5;refine (hl _ _ a t1.inv h0 h9 (by omega)).bind λu ⟨g2,d2⟩=>.some ⟨g1.ga (t1.ga g2),λhq=>?_⟩;rw [(hr _ h1').2];exact d2 hq (jE p) (hr _ h1').1 rfl
  have h1':oV (eN p) [102,111,114]=false:=h1;rw [mA h1'];refine (splain g1.inv (by rw [qO]) h0 (by omega) (by omega)).bind λu ⟨g2,d2⟩=>.some ⟨g1.ga g2,λhq=>?_⟩;have d3:=d2 hq;rw [qN] at d3;exact d3
 ·refine bD.elim (λz e=>?_) λz e=>?_
  ·subst e;obtain ⟨g,d⟩:GA p z.1/\∀us,z.1.e_=0->pC (jE z.1) [59]->bO z.1=jE z.1::us->DS 64 .stmt a (bO p) [z.2] us:=hy;have g2:=dY g.inv (s:=[59]);rw [eI g.inv hn,bU];refine .some ⟨g.ga g2,λhq=>?_⟩;obtain ⟨a1,a2,a3⟩:=mB g.inv hq;exact d _ a1 a2 a3
  ·subst e;exact .some hy
theorem QN:∀n:Nat,SdS n 46 100 .block (bR n).1/\SdS n 45 99 .stmt (bR n).2.1/\SdW n [105,102] (bR n).2.2.1/\SdW n [102,111,114] (bR n).2.2.2:=by
 intro n
 induction n with
 | zero=>refine ⟨λp a h _ _ hb=>?_,λp a h _ _ hb=>?_,λp x a h _ _ hb=>?_,λp x a h _ _ hb=>?_⟩ <;> (have:=h.lf;omega)
 | succ n ih=>
   obtain ⟨i1,i2,i3,i4⟩:=ih;obtain ⟨j1,j2,j3,j4⟩:=Cw n;exact ⟨QU j2 i2,Jr i3 i4,OC i1,sloop_b i1⟩
theorem LX (h:PI p) {a:Int} (h0:0<=a) (h9:a<=100) (hb:Lf p+46<=n):bD (bN n p a) λr=>GA p r.2/\(r.2.e_=0->DS 64 .block a (bO p) [r.1] (bO r.2)):=(QN n).1 p a h h0 h9 hb
theorem stail (h:PI p) (hb:Lf p+46<=n) {at0 n0 n2 n4:Int} (e2:n2=2+n0) (e4:n4=4+n0):bD (Na n p at0 n0 n2 n4) λr=>GA p r.2/\(r.2.e_=0->∃t u us xs vs k ws b,bO p=t::u::us/\pC t [102,110]/\GW u/\sR true us xs vs/\ED vs k ws/\DS 64 .block 1 ws [b] (bO r.2)/\r.1=⟨2,at0,u.bQ,k+n0,xs++[b]⟩):=by
 have hn:13<n:=by have:=h.lf;omega
 have hr:(p.l_.length:Int) - p.fA<n:=by
  have:=h.hi;unfold Lf at hb;omega
 have g1:=dY h (s:=[102,110]);have g2:=oT g1.inv;have g3:=g1.ga g2
 have key:∀q:aA,GA p q->(q.l_.length:Int) - q.fA<n:=by
  intro q g;have:=g.toGd.lf;unfold Lf at this hb;have:=h.hi;have:=g.inv.hi;omega
 unfold Na;rw [eI h hn,bU,qF g1.inv hn,bU];refine (Nb g2.inv hn (key _ g3)).bind λw ⟨g7,hw,d7⟩=>?_;have g8:=g3.ga g7;have k8:=g8.inv.hi;have k9:=g8.inv.big
 have pre:w.2.e_=0->∃t u us,bO p=t::u::us/\pC t [102,110]/\GW u/\(nA (mL p [102,110])).1=u.bQ/\sR true us w.1 (bO w.2):=by
  intro he;obtain ⟨b1,b2,b3,b4⟩:=yL g1.inv (g7.toGd.e0 he);obtain ⟨a1,a2,a3⟩:=mB h b1;exact ⟨_,_,_,by rw [a3,b4],a2,b2,b3,d7 he⟩
 rw [eU g7.inv hn,bU];obtain ⟨t1,t2,t3⟩:=gL g7.inv (s:=[45,62]);have l8:=(g8.gd t1).toGd.lf;refine bD.iteb (λh1=>?_) λh1=>?_
 ·have h1':oV w.2 [45,62]=true:=h1;obtain ⟨e0,_,_⟩:=t2 h1';rw [eU t1.inv hn,bU];obtain ⟨u1,u2,u3⟩:=gL t1.inv (s:=[117,51,50]);have l9:=((g8.gd t1).gd u1).toGd.lf;refine bD.iteb (λh2=>?_) λh2=>?_
  ·have h2':oV (mD w.2 [45,62]) [117,51,50]=true:=h2;refine (LX u1.inv (by omega) (by omega) (by omega)).bind λz ⟨g11,d11⟩=>bD.need (by simp only [mQ];omega) (.some ⟨((g8.gd t1).gd u1).ga g11,λhq=>?_⟩);obtain ⟨t,u,us,p1,p2,p3,p4,p5⟩:=pre e0;refine ⟨t,u,us,w.1,_,2,_,z.1,p1,p2,p3,p5,?_,d11 hq,by simp only [p4,e2]⟩;rw [mY g7.inv h1',mY t1.inv h2'];exact .short (mC h1').2 (mC h2').2
  ·have h2':oV (mD w.2 [45,62]) [117,51,50]=false:=h2;rw [u3 h2'];have g10:=dY t1.inv (s:=[117,54,52]);have l10:=((g8.gd t1).ga g10).toGd.lf;rw [eI t1.inv hn,bU];refine (LX g10.inv (by omega) (by omega) (by omega)).bind λz ⟨g11,d11⟩=>bD.need (by simp only [mQ];omega) (.some ⟨((g8.gd t1).ga g10).ga g11,λhq=>?_⟩);obtain ⟨t,u,us,p1,p2,p3,p4,p5⟩:=pre e0;obtain ⟨a1,a2,a3⟩:=mB t1.inv (g11.toGd.e0 hq);refine ⟨t,u,us,w.1,_,4,_,z.1,p1,p2,p3,p5,?_,d11 hq,by simp only [p4,e4]⟩;rw [mY g7.inv h1',a3];exact .long (mC h1').2 a2
 ·have h1':oV w.2 [45,62]=false:=h1;rw [t3 h1'];have l10:=g8.toGd.lf;refine (LX g7.inv (by omega) (by omega) (by omega)).bind λz ⟨g11,d11⟩=>bD.need (by simp only [mQ];omega) (.some ⟨g8.ga g11,λhq=>?_⟩);have e0:=g11.toGd.e0 hq;obtain ⟨t,u,us,p1,p2,p3,p4,p5⟩:=pre e0;exact ⟨t,u,us,w.1,_,0,_,z.1,p1,p2,p3,p5,.none (Ay g7.inv e0 h1'),d11 hq,by simp only [p4,Int.zero_add]⟩
theorem Ox (h:PI p) (hb:Lf p+46<=n):bD (eC n p) λr=>GA p r.2/\(r.2.e_=0->DF 64 (bO p) r.1 (bO r.2)):=by
 have hn:13<n:=by have:=h.lf;omega
 have g1:=kF h;obtain ⟨t1,t2,t3⟩:=gL g1.inv (s:=[101,120,112,111,114,116]);have g2:=g1.trans t1;have l2:=g2.lf;rw [yO,iF h,bU];simp only;rw [eU g1.inv hn,bU];simp only
 by_cases hA:oV (eN p) [101,120,112,111,114,116]=true
 ·rw [if_pos hA];refine (stail t1.inv (by omega) (at0:=(jE p).eO) (n0:=1) (n2:=3) (n4:=5) rfl rfl).mono λr ⟨g,d⟩=>⟨g2.ga g,λhq=>?_⟩;obtain ⟨t,u,us,xs,vs,k,ws,b,p1,p2,p3,p4,p5,p6,p7⟩:=d hq;have e1:=(mC hA).2;have e2:=mY g1.inv hA;rw [qO] at e1 e2;rw [qN] at e2;rw [p7,e2,p1];exact .exp e1 p2 p3 p4 p5 p6
 ·rw [if_neg hA];refine (stail t1.inv (by omega) (at0:=(jE p).eO) (n0:=0) (n2:=2) (n4:=4) rfl rfl).mono λr ⟨g,d⟩=>⟨g2.ga g,λhq=>?_⟩;obtain ⟨t,u,us,xs,vs,k,ws,b,p1,p2,p3,p4,p5,p6,p7⟩:=d hq;have hA':oV (eN p) [101,120,112,111,114,116]=false:=by simpa using hA
  rw [t3 hA',qN] at p1;rw [p7,p1,xeh]
  have e3:(jE p).eO=t.eO:=by
   rw [uP h] at p1
   injection p1 with q1 q2
   rw [q1]
  rw [e3];exact .plain p2 p3 p4 p5 p6
theorem tok4 (h:PI p) (hk:(jE p).bT=4):bO p=[jE p]:=by
 have h0:=h.lo;have h1:=h.hi;obtain ⟨l,z,e,hl,hz⟩:=h.toks;rw [uP h]
 congr 1
 have h2:p.l_.length=l.length+1:=by rw [e,mK,mQ]
 apply xei;apply Classical.byContradiction;intro hn;have h3:p.fA.toNat<l.length:=by omega
 have h4:jE p=l[p.fA.toNat]:=by
  unfold jE;rw [e,Kr h3,yP h3];rfl
 have h5:=(hl _ (xdr h3)).1;rw [←h4,hk] at h5;omega
theorem OI:∀(c:Nat) (p:aA) (x:aB),PI p->Lf p+46<=n->(p.l_.length:Int) - p.fA<c->1<=c->(p.e_=0->(x.aL.length:Int)<=p.fA)->(x.aL.length:Int)<=65538->bD (lJ n c p x) λr=>Gd p r.1/\(r.1.e_=0->∃xs,r.2={ x with aL:=x.aL++xs }/\Kf 64 (bO p) xs (bO r.1)/\(jE r.1).bT=4):=by
 intro c
 induction c with
 | zero=>intro p x h _ h1 h2;omega
 | succ c ih=>
   intro p x h hk h1 h2 h3 h4;have k1:=h.lo;have k2:=h.hi;have k3:=h.big
   have hcond:(if (p.e_ == (0:Int))=true then (cG p).bind λx19=>some (x19.bT != (4:Int)) else some false)=some (p.e_ == 0 && (jE p).bT != 4):=by
    rw [sE h];cases p.e_ == (0:Int) <;> rfl
   unfold lJ;rw [hcond,bU];refine bD.iteb (λh5=>?_) λh5=>.some ⟨.refl h,λhe=>⟨[],by rw [jR];cases x;rfl,.nil,?_⟩⟩
   ·have he:p.e_=0:=by
     simp only [BO,beq_iff_eq] at h5;exact h5.1
    refine (Ox h hk).bind λr ⟨g,d⟩=>?_;have m1:=g.at';have m3:=h3 he;have m4:=g.toGd.lf;have m5:=g.inv.hi;have m6:=g.toGd.len;refine bD.need (by simp only [mQ];omega) ?_
    by_cases he2:r.2.e_=0
    ·have m7:=g.adv he2;refine (ih r.2 _ g.inv (by omega) (by rw [m6];omega) (by omega) (λ_=>by simp only [mK,mQ];omega) (by simp only [mK,mQ];omega)).mono λs ⟨g2,d2⟩=>⟨g.toGd.trans g2,λhq=>?_⟩;obtain ⟨xs,e,d3,d4⟩:=d2 hq;exact ⟨r.1::xs,by rw [e];simp,.cons (d he2) d3,d4⟩
    ·cases c with
     | zero=>omega
     | succ c=>
       unfold lJ;rw [if_neg (by simpa using he2),bU,if_neg (by decide)];exact .some ⟨g.toGd,λhq=>absurd hq he2⟩
   ·rw [show (p,x).1=p from rfl] at he ⊢;rw [he] at h5;simpa using h5
end
theorem QV {n:Nat} {s:cB} (hn:16*s.length+200<n):bD (mG n s) λr=>r.2.1=0->∃l w fs z,mV n s=some (l,0,w)/\Kf 64 l fs [z]/\z.bT=4/\∃t us,l=t::us/\r.1=⟨1,t.eO,[],0,fs⟩:=by
 unfold mG;obtain ⟨x,ex,hx⟩:=EC (n:=n) (s:=s) (by omega) (by omega);rw [ex,bU];refine bD.iteb (λh1=>.some λh=>?_) λh1=>?_
 ·rw [show x.2.1=0 from h] at h1;cases h1
 obtain ⟨l,h2,h3,h4,h5⟩:=hx (by simpa using h1);have hp:PI (aA.mk x.1 0 0 0 0):=⟨by simp only;omega,by simp only [h2,mK,mQ];omega,by simp only [h2,mK,mQ];omega,⟨l,_,h2,h3,rfl⟩⟩
 have hl:Lf (aA.mk x.1 0 0 0 0)<=16*s.length+16:=by
  unfold Lf;simp only [h2,mK,mQ];omega
 have g1:=kF hp;have l1:=g1.lf;have k0:=g1.inv.lo;have k1:=g1.inv.hi;have k2:=g1.inv.lf;rw [iF hp,bU];refine (OI n _ ⟨1,(jE (aA.mk x.1 0 0 0 0)).eO,[],0,[]⟩ g1.inv (by omega) (by unfold Lf at l1 hl;omega) (by omega) (λ_=>by simpa using k0) (by simp)).bind λy ⟨g2,d2⟩=>?_;refine bD.iteb (λh6=>.some λh=>?_) λh6=>.some λ_=>?_
 ·rw [show y.1.e_=0 from h] at h6;cases h6
 ·have he:y.1.e_=0:=by simpa using h6
  obtain ⟨xs,e,d3,d4⟩:=d2 he;rw [tok4 g2.inv d4,qN] at d3;have hc:=uP hp;refine ⟨x.1,x.2.2,xs,_,?_,d3,d4,_,_,hc,?_⟩
  ·have:x.2.1=0:=by simpa using h1
   rw [←this]
  ·show y.2=_;rw [e];rfl
end Go.Proofs.YtljbbjpbefjpiaaGreatDoor.Abs.Jn
namespace Go.Proofs.YtljbbjpbefjpiaaGreatDoor.Abs.Jn
open Go.RowKit
set_option linter.all false
structure Lv (p:aA) (ts:List tG) (N:Int):Prop where
 pi:PI p
 e0:p.e_=0
 rs:bO p=ts
 nd:p.nV=N
 lo:0<=N
 hi:N<=16384
def MS (D N:Int) (q:aA):Prop:=(q.e_=136/\16384<N) ∨ (q.e_=111/\64<D)
def Rs (D N:Int) (us:List tG) (q:aA) (ok:Prop):Prop:=(Lv q us N/\ok) ∨ MS D N q
section
variable {p q:aA} {t:tG} {ts us:List tG} {N M D d:Int} {s:cB} {n m:Nat}
theorem MS.ne (h:MS D N q):q.e_ ≠ 0:=by
 rcases h with h | h <;> (rw [h.1];decide)
theorem MS.mono (h:MS D N q) (k:N<=M):MS D M q:=by
 rcases h with h | h
 ·exact .inl ⟨h.1,by omega⟩
 ·exact .inr h
theorem MS.gd (h:MS D N q) (g:Gd q p):MS D N p:=by
 have:=(g.err' h.ne).1
 rcases h with h | h
 ·exact .inl ⟨this.trans h.1,h.2⟩
 ·exact .inr ⟨this.trans h.1,h.2⟩
theorem Rs.mono {ok ok':Prop} (h:Rs D N us q ok) (k:ok->ok'):Rs D N us q ok':=by
 rcases h with ⟨h1,h2⟩ | h
 ·exact .inl ⟨h1,k h2⟩
 ·exact .inr h
theorem GW.not (h:GW t):¬ pC t s:=by
 rintro ⟨h1,h2 | ⟨h2,h3⟩⟩
 ·have:=h.1;omega
 ·rw [←h1,h.2] at h3;cases h3
theorem GV (h:t.bT=2):¬ pC t s:=by
 rintro ⟨h1,h2 | ⟨h2,h3⟩⟩ <;> omega
theorem pC.two {s':cB} (h:pC t s) (k:pC t s'):s=s':=h.1.symm.trans k.1
theorem HS:Iv (t::ts) s ↔ pC t s:=by
 constructor
 ·rintro ⟨u,r,e,h⟩;cases e;exact h
 ·exact λh=>⟨_,_,rfl,h⟩
theorem Lv.tok (h:Lv p (t::ts) N):jE p=t:=by
 have:=h.rs;rw [uP h.pi] at this
 injection this
theorem Lv.iB (h:Lv p (t::ts) N) (ht:pC t s):oV p s=true:=RE h.e0 (by rw [h.tok];exact ht)
theorem Lv.nB (h:Lv p ts N) (hn:¬ Iv ts s):oV p s=false:=by
 rw [Bool.eq_false_iff];intro hb;exact hn (by rw [←h.rs];exact (BF h.pi h.e0).2 hb)
theorem Lv.nB' (h:Lv p (t::ts) N) (hn:¬ pC t s):oV p s=false:=h.nB λk=>hn (HS.1 k)
theorem Lv.take (h:Lv p (t::ts) N) (ht:pC t s):Lv (mD p s) ts N:=by
 have hb:=h.iB ht;obtain ⟨g1,g2,_⟩:=gL h.pi (s:=s);refine ⟨g1.inv,(g2 hb).2.2,?_,take_nd.trans h.nd,h.lo,h.hi⟩;have:=h.rs;rw [mY h.pi hb] at this
 injection this
theorem OY (hb:oV p s=true):mL p s=mD p s:=by unfold mL mD;rw [if_pos hb,if_pos hb]
theorem Lv.need (h:Lv p (t::ts) N) (ht:pC t s):Lv (mL p s) ts N:=by
 rw [OY (h.iB ht)];exact h.take ht
theorem Lv.name (h:Lv p (t::ts) N) (ht:GW t):(nA p).1=t.bQ/\Lv (nA p).2 ts N:=by
 have hb:IO p=false:=by
  unfold IO;rw [h.tok,h.e0,ht.1,ht.2];rfl
 have e:nA p=((jE p).bQ,MN p):=by unfold nA;rw [hb];rfl
 have g:=(oT h.pi).inv;have hr:=h.rs;rw [BL h.pi] at hr;rw [e] at g ⊢;refine ⟨by rw [h.tok],g,h.e0,?_,h.nd,h.lo,h.hi⟩
 injection hr
theorem Lv.num (h:Lv p (t::ts) N) (ht:t.bT=2):(DY p).1=t.kL/\Lv (DY p).2 ts N:=by
 have hb:OW p=false:=by
  unfold OW;rw [h.tok,h.e0,ht];rfl
 have e:DY p=((jE p).kL,MN p):=by unfold DY;rw [hb];rfl
 have g:=(Em h.pi).inv;have hr:=h.rs;rw [BL h.pi] at hr;rw [e] at g ⊢;refine ⟨by rw [h.tok],g,h.e0,?_,h.nd,h.lo,h.hi⟩
 injection hr
theorem Lv.cnt (h:Lv p ts N):(DZ p).nV=N+1:=by
 have h1:=h.lo;have h2:=h.hi;show IntKind.i64.wrap (p.nV+1)=_;rw [h.nd,cZ (by omega) (by omega)]
theorem Lv.node (h:Lv p ts N) (hN:N<16384):Lv (eN p) ts (N+1):=by
 have h1:=h.lo
 have e:eN p=DZ p:=by
  unfold eN;rw [h.cnt,if_neg (by omega)]
 rw [e];exact ⟨h.pi.cnt,h.e0,h.rs,h.cnt,by omega,by omega⟩
theorem Lv.full (h:Lv p ts N) (hN:¬ N<16384):eN p=DZ (mI p 136)/\(mI p 136).e_=136:=by
 have h1:=h.hi;have e0:=h.e0
 constructor
 ·unfold eN;rw [h.cnt,if_pos (by omega)];unfold mI;rw [if_pos e0,if_pos (show (DZ p).e_=0 from e0)];rfl
 ·unfold mI;rw [if_pos e0]
theorem BA (he:q.e_ ≠ 0):eN q=DZ q:=by
 unfold eN
 split
 ·unfold mI;rw [if_neg (show ¬ (DZ q).e_=0 from he)]
 ·rfl
theorem sJ (he:q.e_ ≠ 0):oV q s=false:=by
 unfold oV;rw [show (q.e_ == 0)=false by simpa using he];rfl
theorem uO (he:q.e_ ≠ 0):mD q s=q:=mA (sJ he)
theorem BB (he:q.e_ ≠ 0):mL q s=q:=by
 unfold mL mI;rw [sJ he,if_neg he];rfl
theorem FE {l:List cB} (he:q.e_ ≠ 0):tN q l=[]:=Classical.byContradiction λh=>he (Jw h)
theorem Rs.need {u:tG} {ok:Prop} (h:Rs D N (u::us) q ok) (hu:pC u s):Rs D N us (mL q s) ok:=by
 rcases h with ⟨h1,h2⟩ | h
 ·exact .inl ⟨h1.need hu,h2⟩
 ·rw [BB h.ne];exact .inr h
theorem Ng {l:List cB} (h:Lv p (t::ts) N) (hs:s ∈ l) (hne:s ≠ []) (ht:pC t s):tN p l=s:=by
 unfold tN;cases h5:l.find? (λy=>decide (y ≠ []) && oV p y) with
 | none=>
   have:=List.find?_eq_none.1 h5 s hs;rw [h.iB ht] at this;simp [hne] at this
 | some y=>
   have h6:=List.find?_some h5;simp only [BO] at h6;have h7:=(mC h6.2).2;rw [h.tok] at h7;exact h7.two ht
theorem Oq {l:List cB} (h:Lv p ts N) (hn:∀s ∈ l,s ≠ []->¬ Iv ts s):tN p l=[]:=by
 apply Classical.byContradiction;intro hs;obtain ⟨h1,h2⟩:=Nh hs;exact hn _ h1 hs (by rw [←h.rs];exact (BF h.pi h.e0).2 h2)
theorem DJ (h:PI p) (he:p.e_=0) (hd:64<d) (hb:Lf p+21<=(n:Int)):bD (dB n p d) λr=>GA p r.2/\r.2.e_=111:=by
 obtain ⟨m,rfl⟩:∃m,n=m+1:=⟨n - 1,by have:=h.lf;omega⟩;have g1:=DU h (a:=d);have l1:=g1.lf
 have e1:(mX p d).e_=111:=by
  unfold mX mI;rw [if_pos hd,if_pos he]
 have h2:=(Et (m+1)).2.2.2.1 (mX p d) d g1.inv (by omega);have e:dB (m+1) p d=(aJ (m+1)).2.2.2.1 (mX p d) d:=EV h;rw [e];exact h2.mono λr g=>⟨g1.ga g,(g.toGd.err' (by rw [e1];decide)).1.trans e1⟩
theorem EW (h:Lv p ts N) (hN:¬ N<16384) (hd:¬ 64<d) (h5:oV p [40]=false) (hb:Lf p+21<=(n:Int)):bD (dB n p d) λr=>GA p r.2/\r.2.e_=136:=by
 obtain ⟨m,rfl⟩:∃m,n=m+1:=⟨n - 1,by have:=h.pi.lf;omega⟩;have hn:13<m:=by have:=h.pi.lf;omega
 obtain ⟨e1,e2⟩:=h.full hN;obtain ⟨g1,_⟩:=DQ h.pi (e:=136) (by decide);have l1:=g1.lf;have hne:(mI p 136).e_ ≠ 0:=by rw [e2];decide
 have h2:=(Et (m+1)).2.2.2.1 (mI p 136) d g1.inv (by omega)
 have e:dB (m+1) p d=(aJ (m+1)).2.2.2.1 (mI p 136) d:=by
  show bV _ _ _ m p d=bV _ _ _ m (mI p 136) d;unfold bV;have d1:mX p d=p:=by unfold mX;rw [if_neg hd]
  have d2:mX (mI p 136) d=mI p 136:=by unfold mX;rw [if_neg hd]
  rw [rG h.pi,rG g1.inv,d1,d2,bU,bU,eU h.pi hn,eU g1.inv hn,bU,bU];rw [h5,sJ hne,mA h5,uO hne,if_neg (by simp),if_neg (by simp),iF h.pi,iF g1.inv,bU,bU,e1,BA hne,yX]
 rw [e];exact h2.mono λr g=>⟨g1.ga g,(g.toGd.err' hne).1.trans e2⟩
theorem Rh (h:Lv p (t::ts) N) (h0:0<=d) (hd:¬ 64<d) (ht:pC t [40]) (hm:13<m):dB (m+1) p d=(cM m (mD p [40]) (d+1)).bind λx=>(aX m x.2 [41]).bind λy=>some (x.1,y):=by
 show bV _ _ _ m p d=_;unfold bV;have d1:mX p d=p:=by unfold mX;rw [if_neg hd]
 rw [rG h.pi,d1,bU,eU h.pi hm,bU,if_pos (h.iB ht),cZ (n:=d+1) (by omega) (by omega)];rfl
theorem op_un (h:Lv p (t::ts) N) (hN:N<16384) (h0:0<=d) (hd:¬ 64<d) (hs:s=[126] ∨ s=[45]) (ht:pC t s) (hm:13<m):dB (m+1) p d=(dB m (mD (eN p) s) (d+1)).bind λr=>some (⟨18,t.eO,s,0,[r.1]⟩,r.2):=by
 show bV _ _ _ m p d=_;unfold bV;have d1:mX p d=p:=by unfold mX;rw [if_neg hd]
 have h5:oV p [40]=false:=h.nB' λk=>by rcases hs with rfl | rfl <;> exact absurd (ht.two k) (by decide)
 have g4:=kF h.pi;have v4:=h.node hN;obtain ⟨c,hc⟩:∃e,m=e+3:=⟨m - 3,by omega⟩;have hl:=λx y=>wY g4.inv hm (fo:=(aJ m).2.2.2.1) (a:=d) (c:=c) (x:=x) (y:=y);simp only [←hc] at hl;rw [rG h.pi,d1,bU,eU h.pi hm,bU,h5,mA h5,if_neg (by simp),iF h.pi,bU,hl,cZ (n:=d+1) (by omega) (by omega),h.tok]
 rcases hs with rfl | rfl
 ·rw [if_pos (v4.iB ht)];show ((dB m _ _).bind _).bind _=_;cases dB m (mD (eN p) [126]) (d+1) <;> rfl
 ·rw [if_neg (by rw [v4.nB' λk=>absurd (ht.two k) (by decide)];decide),if_pos (v4.iB ht)];show ((dB m _ _).bind _).bind _=_;cases dB m (mD (eN p) [45]) (d+1) <;> rfl
theorem op_num (h:Lv p (t::ts) N) (hN:N<16384) (hd:¬ 64<d) (hk:t.bT=2) (hm:13<m):dB (m+1) p d=some (⟨14,t.eO,[],t.kL,[]⟩,(DY (eN p)).2):=by
 show bV _ _ _ m p d=_;unfold bV;have d1:mX p d=p:=by unfold mX;rw [if_neg hd]
 have h5:oV p [40]=false:=h.nB' (GV hk);have g4:=kF h.pi;have v4:=h.node hN;obtain ⟨c,hc⟩:∃e,m=e+3:=⟨m - 3,by omega⟩;have hl:=λx y=>wY g4.inv hm (fo:=(aJ m).2.2.2.1) (a:=d) (c:=c) (x:=x) (y:=y);simp only [←hc] at hl;rw [rG h.pi,d1,bU,eU h.pi hm,bU,h5,mA h5,if_neg (by simp),iF h.pi,bU,hl,if_neg (by rw [v4.nB' (GV hk)];decide),if_neg (by rw [v4.nB' (GV hk)];decide),bU];simp only [Qj]
 have hcond:(if ((eN p).e_ == (0:Int))=true then (cG (eN p)).bind λx72=>some (x72.bT == (2:Int)) else some false)=some ((eN p).e_ == 0 && (jE p).bT == 2):=by
  rw [sE g4.inv,qO];cases (eN p).e_ == (0:Int) <;> rfl
 rw [hcond,v4.e0,h.tok,hk,bU,if_pos (by decide),number_eq' g4.inv,bU,(v4.num hk).1]
theorem JE (h:Lv p (t::ts) N) (hN:N<16384) (h0:0<=d) (hd:¬ 64<d) (hk:GW t) (hm:13<m):dB (m+1) p d =
  if oV (nA (eN p)).2 [40]=true then (kH m (nA (eN p)).2 d).bind λx=>some (⟨17,t.eO,t.bQ,0,x.1⟩,x.2)
  else if oV (nA (eN p)).2 [91]=true then (cM m (mD (nA (eN p)).2 [91]) (d+1)).bind λx=>(aX m x.2 [93]).bind λy=>some (⟨16,t.eO,t.bQ,0,[x.1]⟩,y)
  else some (⟨15,t.eO,t.bQ,0,[]⟩,(nA (eN p)).2):=by
 show bV _ _ _ m p d=_;unfold bV;have d1:mX p d=p:=by unfold mX;rw [if_neg hd]
 have h5:oV p [40]=false:=h.nB' hk.not;have g4:=kF h.pi;have v4:=h.node hN;have g8:=oT g4.inv;obtain ⟨c,hc⟩:∃e,m=e+3:=⟨m - 3,by omega⟩;have hl:=λx y=>wY g4.inv hm (fo:=(aJ m).2.2.2.1) (a:=d) (c:=c) (x:=x) (y:=y);simp only [←hc] at hl;rw [rG h.pi,d1,bU,eU h.pi hm,bU,h5,mA h5,if_neg (by simp),iF h.pi,bU,hl,if_neg (by rw [v4.nB' hk.not];decide),if_neg (by rw [v4.nB' hk.not];decide),bU];simp only [Qj]
 have hcond:(if ((eN p).e_ == (0:Int))=true then (cG (eN p)).bind λx72=>some (x72.bT == (2:Int)) else some false)=some ((eN p).e_ == 0 && (jE p).bT == 2):=by
  rw [sE g4.inv,qO];cases (eN p).e_ == (0:Int) <;> rfl
 rw [hcond,v4.e0,h.tok,hk.1,bU,if_neg (by simp),qF g4.inv hm,bU,cZ (n:=d+1) (by omega) (by omega),(v4.name hk).1];rw [Dq g8.inv hm,bU]
 by_cases b1:oV (nA (eN p)).2 [40]=true
 ·rw [if_pos b1,if_pos b1];show ((kH m _ _).bind _).bind _=_;cases kH m (nA (eN p)).2 d <;> rfl
 ·rw [if_neg b1,if_neg b1,eU g8.inv hm,bU]
  by_cases b2:oV (nA (eN p)).2 [91]=true
  ·rw [if_pos b2,if_pos b2];show ((cM m _ _).bind _).bind _=_;cases cM m (mD (nA (eN p)).2 [91]) (d+1) with
   | none=>rfl
   | some x=>
     simp only [bU];cases aX m x.2 [93] <;> rfl
  ·rw [if_neg b2,if_neg b2,mA (by simpa using b2)];rfl
end
end Go.Proofs.YtljbbjpbefjpiaaGreatDoor.Abs.Jn
namespace Go.Proofs.YtljbbjpbefjpiaaGreatDoor.Abs.Jn
open Go.RowKit
set_option linter.all false
def CE (D:Int):EK->Int->List tG->List Nd->List tG->Prop
 | .op,d,ts,xs,us=>∀(n:Nat) p N,Lv p ts N->0<=d->d<=D+3->Lf p+21<=n->bD (dB n p d) λr=>GA p r.2/\Rs D (N+pM xs) us r.2 (xs=[r.1])
 | .lev l,d,ts,xs,us=>∀(n:Nat) p N,Lv p ts N->0<=d->d<=D+3->l<=7->Lf p+29 - l<=n->bD (kR n p l d) λr=>GA p r.2/\Rs D (N+pM xs) us r.2 (xs=[r.1])
 | .tail l x,d,ts,xs,us=>∀(n c:Nat) p N,13<n->Lv p ts N->0<=d->d<=D+3->Lf p+28 - l<=n->1<=c->(tN p (Es l) ≠ []->Lf p+1<=c)->bD (cT (kR n) n l d c (tN p (Es l)) p x) λr=>Gd p r.1/\Rs D (N+pM xs - sz x) us r.1 (xs=[r.2])
 | .args,d,ts,xs,us=>(∀(n:Nat) p N,Lv p ts N->0<=d->d<=D+2->Lf p+25<=n->bD (kH n p d) fun r=>GA p r.2/\Rs D (N+pM xs) us r.2 (xs=r.1)) ∧
    ∀a,d=a+1->∀(n:Nat) p N,Lv p ts N->0<=a->d<=D+2->Lf p+30<=n->bD (cX n p a) λr=>GA p r.2/\Rs D (N+pM xs) us r.2 (xs=r.1)
 | .items,d,ts,xs,us=>(∀(n c:Nat) p N l,Lv p ts N->0<=d->d<=D+2->Lf p+31<=n->(p.l_.length:Int) - p.fA<c->(l.length:Int)<=p.fA->bD (cF (qX n) n d c l p) fun r=>Gd p r.2/\((∃u,pC u [41]/\Lv r.2 (u::us) (N+pM xs)/\r.1=l++xs) ∨ MS D (N+pM xs) r.2)) ∧
    ∀a,d=a+1->∀(n c:Nat) p N l,Lv p ts N->0<=a->d<=D+2->Lf p+30<=n->(p.l_.length:Int) - p.fA<c->(l.length:Int)<=p.fA->bD (cN n a c l p) λr=>Gd p r.2/\((∃u,pC u [41]/\Lv r.2 (u::us) (N+pM xs)/\r.1=l++xs) ∨ MS D (N+pM xs) r.2)
theorem DE.tail_sz {D:Int} {K d ts xs us} (h:DE D K d ts xs us):match K with | .tail l x=>∀y,xs=[y]->sz x<=sz y | _=>True:=by
 induction h with
 | stop=>intro y e;cases e;exact NR _
 | one h1 h2 h3 h4 ih=>
   intro y e;cases e
   rw [fD,yZ];have:=iW (by assumption:Nd);rename_i x _ _ _ y _;have:=iW y;omega
 | more h1 h2 h3 h4 h5 h6 h7 ih1 ih2=>
   intro z e;have:=ih2 z e;rw [fD,yZ] at this;rename_i x _ _ _ y _ _ _;have:=iW y;omega
 | _=>trivial
theorem DE.args_hd {D d ts xs us} (h:DE D .args d ts xs us):∃t r,ts=t::r/\pC t [40]:=by
 cases h with
 | none h1 h2=>exact ⟨_,_,rfl,h1⟩
 | args h1 h2 h3=>exact ⟨_,_,rfl,h1⟩
section
variable {D d:Int} {ts us:List tG} {x:Nd} {N:Int} {n m:Nat} {p:aA}
theorem CE.expr (h:CE D (.lev 0) d ts [x] us) (hv:Lv p ts N) (h0:0<=d) (h1:d<=D+3) (hb:Lf p+30<=n):bD (cM n p d) λr=>GA p r.2/\Rs D (N+sz x) us r.2 (r.1=x):=by
 obtain ⟨m,rfl⟩:∃m,n=m+1:=⟨n - 1,by have:=hv.pi.lf;omega⟩;show bD (gI (kR m) m p d) _;unfold gI;have h':∀(n:Nat) p N,Lv p ts N->0<=d->d<=D+3->(0:Nat)<=7->Lf p+29 - (0:Nat)<=n->bD (kR n p (0:Nat) d) λr=>GA p r.2/\Rs D (N+pM [x]) us r.2 ([x]=[r.1]):=h;refine (h' m p N hv h0 h1 (by omega) (by omega)).bind λr ⟨g,k⟩=>.some ⟨g,?_⟩;rw [gW] at k;exact k.mono λe=>by injection e with e _;exact e.symm
theorem IC {t:tG} {s:cB} {l c:Nat} (h:Lv p (t::ts) N) (hN:¬ N<16384) (hl:l<7) (hn:13<n) (hd:0<=d) (hs:s ≠ []) (hb:Lf p+28 - l<=n) (hc:Lf p+1<=c):bD (cT (kR n) n l d c s p x) λr=>Gd p r.1/\r.1.e_=136:=by
 have l0:=h.pi.lf;obtain ⟨c,rfl⟩:∃e,c=e+1:=⟨c - 1,by omega⟩;obtain ⟨c,rfl⟩:∃e,c=e+1:=⟨c - 1,by omega⟩;obtain ⟨e1,e2⟩:=h.full hN;have e3:(eN p).e_=136:=by rw [e1];exact e2
 have hne:(eN p).e_ ≠ 0:=by rw [e3];decide
 have g1:=kF h.pi;have l1:=g1.lf;unfold cT;rw [if_pos (by simpa using hs),iF h.pi,bU,eI g1.inv hn,bU,BB hne,cZ (n:=(l:Int)+1) (by omega) (by omega)];refine ((Et n).2.2.1 (eN p) ((l:Int)+1) d g1.inv (by omega) (by omega) (by omega)).bind λr g2=>?_;have e4:=(g2.toGd.err' hne).1.trans e3;refine bD.iteb (λ_=>.some ⟨g1.trans g2.toGd,e4⟩) λ_=>?_;rw [Dh g2.inv hn (by omega) (by omega),bU,FE (by rw [e4];decide)];unfold cT;rw [if_neg (by simp)];exact .some ⟨g1.trans g2.toGd,e4⟩
end
theorem DE.run {D:Int} (hD:D<=1099511627776) {K d ts xs us} (h:DE D K d ts xs us):CE D K d ts xs us:=by
 induction h with
 | @paren d t ts x u us hd ht h1 hu ih=>
   intro n p N hv h0 h3 hb;obtain ⟨m,rfl⟩:∃m,n=m+1:=⟨n - 1,by have:=hv.pi.lf;omega⟩;have hm:13<m:=by have:=hv.pi.lf;omega
   by_cases h64:64<d
   ·exact (DJ hv.pi hv.e0 h64 hb).mono λr ⟨g,e⟩=>⟨g,.inr (.inr ⟨e,by omega⟩)⟩
   rw [Rh hv h0 h64 ht hm];obtain ⟨_,g2,e2⟩:=(gL hv.pi (s:=[40])).2.1 (hv.iB ht);have l2:=g2.lf e2;refine (ih.expr (hv.take ht) (by omega) (by omega) (by omega)).bind λr ⟨g3,k⟩=>?_;have g4:=dY g3.inv (s:=[41]);rw [eI g3.inv hm,bU];exact .some ⟨g2.ga (g3.ga g4),by rw [gW];exact (k.need hu).mono λe=>by rw [e]⟩
 | @un d t s ts x us hd hs ht h1 ih=>
   intro n p N hv h0 h3 hb;obtain ⟨m,rfl⟩:∃m,n=m+1:=⟨n - 1,by have:=hv.pi.lf;omega⟩;have hm:13<m:=by have:=hv.pi.lf;omega
   have hz:=iW x;rw [gW,fD,gW]
   by_cases h64:64<d
   ·exact (DJ hv.pi hv.e0 h64 hb).mono λr ⟨g,e⟩=>⟨g,.inr (.inr ⟨e,by omega⟩)⟩
   have h5:oV p [40]=false:=hv.nB' λk=>by rcases hs with rfl | rfl <;> exact absurd (ht.two k) (by decide)
   by_cases hN:N<16384
   ·rw [op_un hv hN h0 h64 hs ht hm];have v4:=hv.node hN;have g1:=kF hv.pi;obtain ⟨_,g2,e2⟩:=(gL v4.pi (s:=s)).2.1 (v4.iB ht);have l1:=g1.lf;have l2:=g2.lf e2;refine (ih m _ _ (v4.take ht) (by omega) (by omega) (by omega)).bind λr ⟨g3,k⟩=>.some ⟨g1.ga (g2.ga g3),?_⟩;rw [gW,xej] at k;exact k.mono λe=>by rw [e]
   ·exact (EW hv hN h64 h5 hb).mono λr ⟨g,e⟩=>⟨g,.inr (.inl ⟨e,by omega⟩)⟩
 | @num d t ts hd hk=>
   intro n p N hv h0 h3 hb;obtain ⟨m,rfl⟩:∃m,n=m+1:=⟨n - 1,by have:=hv.pi.lf;omega⟩;have hm:13<m:=by have:=hv.pi.lf;omega
   rw [gW,fD,kM]
   by_cases h64:64<d
   ·exact (DJ hv.pi hv.e0 h64 hb).mono λr ⟨g,e⟩=>⟨g,.inr (.inr ⟨e,by omega⟩)⟩
   by_cases hN:N<16384
   ·rw [op_num hv hN h64 hk hm];have v4:=hv.node hN;have g1:=kF hv.pi;exact .some ⟨g1.ga (Em g1.inv),.inl ⟨(v4.num hk).2,rfl⟩⟩
   ·exact (EW hv hN h64 (hv.nB' (GV hk)) hb).mono λr ⟨g,e⟩=>⟨g,.inr (.inl ⟨e,by omega⟩)⟩
 | @ref d t ts hd hk h40 h91=>
   intro n p N hv h0 h3 hb;obtain ⟨m,rfl⟩:∃m,n=m+1:=⟨n - 1,by have:=hv.pi.lf;omega⟩;have hm:13<m:=by have:=hv.pi.lf;omega
   rw [gW,fD,kM]
   by_cases h64:64<d
   ·exact (DJ hv.pi hv.e0 h64 hb).mono λr ⟨g,e⟩=>⟨g,.inr (.inr ⟨e,by omega⟩)⟩
   by_cases hN:N<16384
   ·have v4:=hv.node hN;have v8:=(v4.name hk).2;have g1:=kF hv.pi;rw [JE hv hN h0 h64 hk hm,if_neg (by rw [v8.nB h40];decide),if_neg (by rw [v8.nB h91];decide)];exact .some ⟨g1.ga (oT g1.inv),.inl ⟨v8,rfl⟩⟩
   ·exact (EW hv hN h64 (hv.nB' hk.not) hb).mono λr ⟨g,e⟩=>⟨g,.inr (.inl ⟨e,by omega⟩)⟩
 | @call d t ts xs us hd hk h1 ih=>
   intro n p N hv h0 h3 hb;obtain ⟨m,rfl⟩:∃m,n=m+1:=⟨n - 1,by have:=hv.pi.lf;omega⟩;have hm:13<m:=by have:=hv.pi.lf;omega
   have hz:=lY xs;rw [gW,fD]
   by_cases h64:64<d
   ·exact (DJ hv.pi hv.e0 h64 hb).mono λr ⟨g,e⟩=>⟨g,.inr (.inr ⟨e,by omega⟩)⟩
   by_cases hN:N<16384
   ·have v4:=hv.node hN;have v8:=(v4.name hk).2;have g1:=kF hv.pi;have g2:=g1.ga (oT g1.inv);have l2:=g2.lf v8.e0;obtain ⟨t',ts',e,ht'⟩:=h1.args_hd;rw [JE hv hN h0 h64 hk hm,if_pos (by rw [e] at v8;exact v8.iB ht')];refine (ih.1 m _ _ v8 h0 (by omega) (by omega)).bind λr ⟨g3,k⟩=>.some ⟨g2.ga g3,?_⟩;rw [xej] at k;exact k.mono λe=>by rw [e]
   ·exact (EW hv hN h64 (hv.nB' hk.not) hb).mono λr ⟨g,e⟩=>⟨g,.inr (.inl ⟨e,by omega⟩)⟩
 | @index d t u us x v vs hd hk hu h1 hv' ih=>
   intro n p N hv h0 h3 hb;obtain ⟨m,rfl⟩:∃m,n=m+1:=⟨n - 1,by have:=hv.pi.lf;omega⟩;have hm:13<m:=by have:=hv.pi.lf;omega
   have hz:=iW x;rw [gW,fD,gW]
   by_cases h64:64<d
   ·exact (DJ hv.pi hv.e0 h64 hb).mono λr ⟨g,e⟩=>⟨g,.inr (.inr ⟨e,by omega⟩)⟩
   by_cases hN:N<16384
   ·have v4:=hv.node hN;have v8:=(v4.name hk).2;have g1:=kF hv.pi;have g2:=g1.ga (oT g1.inv);have l2:=g2.lf v8.e0;obtain ⟨g3,_,_⟩:=gL v8.pi (s:=[91]);have l3:=g3.lf;rw [JE hv hN h0 h64 hk hm,if_neg (by rw [v8.nB' λk=>absurd (hu.two k) (by decide)];decide),if_pos (v8.iB hu)];refine (ih.expr (v8.take hu) (by omega) (by omega) (by omega)).bind λr ⟨g4,k⟩=>?_;have g5:=dY g4.inv (s:=[93]);rw [eI g4.inv hm,bU];refine .some ⟨g2.ga (g3.ga (g4.ga g5)),?_⟩;rw [xej] at k;exact (k.need hv').mono λe=>by rw [e]
   ·exact (EW hv hN h64 (hv.nB' hk.not) hb).mono λr ⟨g,e⟩=>⟨g,.inr (.inl ⟨e,by omega⟩)⟩
 | @last d ts x us h1 ih=>
   intro n p N hv h0 h3 _ hb;obtain ⟨m,rfl⟩:∃m,n=m+1:=⟨n - 1,by have:=hv.pi.lf;omega⟩;show bD (eP (dB m) (kR m) m p (7:Nat) d) _;unfold eP;rw [if_pos (by simp)];exact (ih m p N hv h0 h3 (by omega)).bind λr k=>.some k
 | @lev l d ts x us y vs hl h1 h2 ih1 ih2=>
   intro n p N hv h0 h3 _ hb;obtain ⟨m,rfl⟩:∃m,n=m+1:=⟨n - 1,by have:=hv.pi.lf;omega⟩;have hm:13<m:=by have:=hv.pi.lf;omega
   show bD (eP (dB m) (kR m) m p l d) _;unfold eP;rw [if_neg (by simp only [beq_iff_eq];omega),cZ (n:=(l:Int)+1) (by omega) (by omega)];refine (ih1 m p N hv h0 h3 (by omega) (by omega)).bind λr ⟨g,k⟩=>?_;have l1:=g.toGd.lf;have l2:=g.inv.lf;rw [Dh g.inv hm (by omega) (by omega),bU];have hz:=h2.tail_sz y rfl
   rcases k with ⟨v,e⟩ | k
   ·have e':r.1=x:=by injection e with e _;exact e.symm
    rw [e'];refine (ih2 m m r.2 _ hm v h0 h3 (by omega) (by omega) (λ_=>by omega)).bind λs ⟨g2,k2⟩=>.some ⟨g.gd g2,?_⟩;rw [gW,gW,show N+sz x+sz y - sz x=N+sz y by omega] at k2;rw [gW];exact k2
   ·obtain ⟨c,rfl⟩:∃e,m=e+1:=⟨m - 1,by omega⟩;rw [FE k.ne];unfold cT;rw [if_neg (by simp)];exact .some ⟨g,.inr (k.mono (by rw [gW,gW];omega))⟩
 | @stop l x d us hl hn=>
   intro n c p N hm hv h0 h3 hb hc hs;obtain ⟨c,rfl⟩:∃e,c=e+1:=⟨c - 1,by omega⟩;rw [Oq hv hn];unfold cT;rw [if_neg (by simp)];refine .some ⟨.refl hv.pi,.inl ⟨?_,rfl⟩⟩;rw [gW,show N+sz x - sz x=N by omega];exact hv
 | @one s x d u us y vs hs hne hu h1 ih=>
   intro n c p N hm hv h0 h3 hb hc hcs;have e1:=Ng hv hs hne hu;rw [show tN p (Es (3:Nat))=s from e1] at hcs ⊢;have hc':=hcs hne;have hz:=iW y;have hz2:N+pM [⟨19,u.eO,s,0,[x,y]⟩] - sz x=N+1+sz y:=by rw [gW,fD,yZ];omega
   rw [hz2]
   by_cases hN:N<16384
   ·obtain ⟨c,rfl⟩:∃e,c=e+1:=⟨c - 1,by omega⟩;have v1:=hv.node hN;have g1:=kF hv.pi;have g2:=dY g1.inv (s:=s);have l1:=g1.lf;have l2:=g2.toGd.lf;unfold cT;rw [if_pos (by simpa using hne),iF hv.pi,bU,eI g1.inv hm,bU,hv.tok,cZ (n:=((3:Nat):Int)+1) (by omega) (by omega)];refine (ih n _ _ (v1.need hu) h0 h3 (by omega) (by omega)).bind λr ⟨g3,k⟩=>?_;rw [if_pos (by simp)];refine .some ⟨g1.trans (g2.ga g3).toGd,?_⟩;rw [gW] at k;exact k.mono λe=>by injection e with e _;rw [e]
   ·exact (IC hv hN (by omega) hm h0 hne hb hc').mono λr ⟨g,e⟩=>⟨g,.inr (.inl ⟨e,by omega⟩)⟩
 | @more l s x d u us y vs z ws hl hl3 hs hne hu h1 h2 ih1 ih2=>
   intro n c p N hm hv h0 h3 hb hc hcs;have e1:=Ng hv hs hne hu;rw [e1] at hcs ⊢;have hc':=hcs hne;have hz:=iW y;have hz2:=h2.tail_sz z rfl;rw [fD,yZ] at hz2;have l0:=hv.pi.lf;rw [gW]
   by_cases hN:N<16384
   ·obtain ⟨c,rfl⟩:∃e,c=e+1:=⟨c - 1,by omega⟩;have v1:=hv.node hN;have g1:=kF hv.pi;have g2:=dY g1.inv (s:=s);have l1:=g1.lf;have l2:=g2.toGd.lf;unfold cT;rw [if_pos (by simpa using hne),iF hv.pi,bU,eI g1.inv hm,bU,hv.tok,cZ (n:=(l:Int)+1) (by omega) (by omega)];refine (ih1 n _ _ (v1.need hu) h0 h3 (by omega) (by omega)).bind λr ⟨g3,k⟩=>?_;have l3:=g3.toGd.lf;rw [if_neg (by simp only [beq_iff_eq];omega),Dh g3.inv hm (by omega) (by omega),bU];have g4:=g1.ga (g2.ga g3)
    rcases k with ⟨v,e⟩ | k
    ·have e':r.1=y:=by injection e with e _;exact e.symm
     rw [e'];have l4:=g4.lf v.e0;refine (ih2 n c r.2 _ hm v h0 h3 (by omega) (by omega) (λ_=>by omega)).mono λw ⟨g5,k5⟩=>⟨g4.toGd.trans g5,?_⟩;rw [gW,gW,fD,yZ,show N+1+sz y+sz z - (1+(sz x+sz y))=N+sz z - sz x by omega] at k5;exact k5
    ·obtain ⟨c,rfl⟩:∃e,c=e+1:=⟨c - 1,by omega⟩;rw [FE k.ne];unfold cT;rw [if_neg (by simp)];exact .some ⟨g4.toGd,.inr (k.mono (by rw [gW];omega))⟩
   ·exact (IC hv hN hl hm h0 hne hb hc').mono λr ⟨g,e⟩=>⟨g,.inr (.inl ⟨e,by omega⟩)⟩
 | @none d t u us ht hu=>
   refine ⟨λn p N hv h0 h3 hb=>?_,λa ha n p N hv h0 h3 hb=>?_⟩
   ·obtain ⟨m,rfl⟩:∃m,n=m+1:=⟨n - 1,by have:=hv.pi.lf;omega⟩;have hm:13<m:=by have:=hv.pi.lf;omega
    show bD (cK _ m p d) _;unfold cK;have v1:=hv.need ht;rw [eI hv.pi hm,bU,eU v1.pi hm,bU,if_pos (v1.iB hu)];exact .some ⟨(dY hv.pi).gd (gL v1.pi).1,.inl ⟨by rw [kM,xeh];exact v1.take hu,rfl⟩⟩
   ·have hm:13<n:=by have:=hv.pi.lf;omega
    unfold cX;have v1:=hv.need ht;rw [eI hv.pi hm,bU,eU v1.pi hm,bU,if_pos (v1.iB hu)];exact .some ⟨(dY hv.pi).gd (gL v1.pi).1,.inl ⟨by rw [kM,xeh];exact v1.take hu,rfl⟩⟩
 | @args d t ts xs us ht hn h1 ih=>
   refine ⟨λn p N hv h0 h3 hb=>?_,λa ha n p N hv h0 h3 hb=>?_⟩
   ·obtain ⟨m,rfl⟩:∃m,n=m+1:=⟨n - 1,by have:=hv.pi.lf;omega⟩;have hm:13<m:=by have:=hv.pi.lf;omega
    show bD (cK (qX m) m p d) _;unfold cK;have v1:=hv.need ht;have g1:=dY hv.pi (s:=[40]);have l1:=g1.lf v1.e0;have k0:=v1.pi.lo;have h5:=v1.nB hn;rw [eI hv.pi hm,bU,eU v1.pi hm,bU,h5,if_neg (by simp),mA h5];refine bD.bind (P:=λy=>Gd (mL p [40]) y.2/\((∃u,pC u [41]/\Lv y.2 (u::us) (N+pM xs)/\y.1=xs) ∨ MS D (N+pM xs) y.2)) ((ih.1 m m _ N [] v1 h0 h3 (by omega) (by unfold Lf at hb l1;have:=hv.pi.hi;rw [g1.toGd.len] at l1 ⊢;omega) (by simpa using k0)).bind λy ⟨y1,y2⟩=>.some ⟨y1,y2⟩) λy ⟨g6,k6⟩=>?_;have g7:=dY g6.inv (s:=[41]);rw [eI g6.inv hm,bU];refine .some ⟨(g1.gd g6).ga g7,?_⟩
    rcases k6 with ⟨u,hu,v6,e⟩ | k6
    ·exact .inl ⟨v6.need hu,e.symm⟩
    ·exact .inr (by rw [show (y.1,mL y.2 [41]).2=y.2 from BB k6.ne];exact k6)
   ·have hm:13<n:=by have:=hv.pi.lf;omega
    unfold cX;have v1:=hv.need ht;have g1:=dY hv.pi (s:=[40]);have l1:=g1.lf v1.e0;have k0:=v1.pi.lo;have h5:=v1.nB hn;rw [eI hv.pi hm,bU,eU v1.pi hm,bU,h5,if_neg (by simp),mA h5];refine bD.bind (P:=λy=>Gd (mL p [40]) y.2/\((∃u,pC u [41]/\Lv y.2 (u::us) (N+pM xs)/\y.1=xs) ∨ MS D (N+pM xs) y.2)) ((ih.2 a ha n n _ N [] v1 h0 h3 (by omega) (by unfold Lf at hb l1;have:=hv.pi.hi;rw [g1.toGd.len] at l1 ⊢;omega) (by simpa using k0)).bind λy ⟨y1,y2⟩=>.some ⟨y1,y2⟩) λy ⟨g6,k6⟩=>?_;have g7:=dY g6.inv (s:=[41]);rw [eI g6.inv hm,bU];refine .some ⟨(g1.gd g6).ga g7,?_⟩
    rcases k6 with ⟨u,hu,v6,e⟩ | k6
    ·exact .inl ⟨v6.need hu,e.symm⟩
    ·exact .inr (by rw [show (y.1,mL y.2 [41]).2=y.2 from BB k6.ne];exact k6)
 | @item d ts x u us h1 hu ih=>
   have hu4:¬ pC u [44]:=λk=>absurd (hu.two k) (by decide);refine ⟨λn c p N l hv h0 h3 hb hc hl=>?_,λa ha n c p N l hv h0 h3 hb hc hl=>?_⟩
   ·have k1:=hv.pi.lo;have k2:=hv.pi.hi;have k3:=hv.pi.big;obtain ⟨c,rfl⟩:∃e,c=e+1:=⟨c - 1,by omega⟩;obtain ⟨m,rfl⟩:∃m,n=m+1:=⟨n - 1,by have:=hv.pi.lf;omega⟩;have hm:13<m+1:=by have:=hv.pi.lf;omega
    unfold cF;rw [if_pos (by rw [hv.e0];decide)];refine bD.bind (P:=λr=>GA p r.2/\Rs D (N+sz x) (u::us) r.2 (r.1=x)) ?_ λr ⟨g,k⟩=>?_
    ·show bD (dI (cM m) m p d) _;unfold dI;rw [cZ (n:=d+1) (by omega) (by omega)];exact (ih.expr hv (by omega) (by omega) (by omega)).bind λr k=>.some k
    ·rw [dN (by simp only [mQ];omega),eU g.inv hm,bU];rw [gW]
     rcases k with ⟨v,e⟩ | k
     ·have h5:=v.nB' hu4;rw [h5,mA h5,if_pos (by simp)];exact .some ⟨g.toGd,.inl ⟨u,hu,v,by rw [e]⟩⟩
     ·rw [sJ k.ne,uO k.ne,if_pos (by simp)];exact .some ⟨g.toGd,.inr k⟩
   ·have k1:=hv.pi.lo;have k2:=hv.pi.hi;have k3:=hv.pi.big;obtain ⟨c,rfl⟩:∃e,c=e+1:=⟨c - 1,by omega⟩;have hm:13<n:=by have:=hv.pi.lf;omega
    unfold cN;rw [if_pos (by rw [hv.e0];decide)];refine bD.bind (P:=λr=>GA p r.2/\Rs D (N+sz x) (u::us) r.2 (r.1=x)) ?_ λr ⟨g,k⟩=>?_
    ·unfold fW;rw [cZ (n:=a+2) (by omega) (by omega),show a+2=d+1 by omega];exact (ih.expr hv (by omega) (by omega) (by omega)).bind λr k=>.some k
    ·rw [dN (by simp only [mQ];omega),eU g.inv hm,bU];rw [gW]
     rcases k with ⟨v,e⟩ | k
     ·have h5:=v.nB' hu4;rw [h5,mA h5,if_pos (by simp)];exact .some ⟨g.toGd,.inl ⟨u,hu,v,by rw [e]⟩⟩
     ·rw [sJ k.ne,uO k.ne,if_pos (by simp)];exact .some ⟨g.toGd,.inr k⟩
 | @items d ts x u us xs vs h1 hu h2 ih ih2=>
   have hz:=lY xs;refine ⟨λn c p N l hv h0 h3 hb hc hl=>?_,λa ha n c p N l hv h0 h3 hb hc hl=>?_⟩
   ·have k1:=hv.pi.lo;have k2:=hv.pi.hi;have k3:=hv.pi.big;obtain ⟨c,rfl⟩:∃e,c=e+1:=⟨c - 1,by omega⟩;have hm:13<n:=by have:=hv.pi.lf;omega
    unfold cF;rw [if_pos (by rw [hv.e0];decide)];refine bD.bind (P:=λr=>GA p r.2/\Rs D (N+sz x) (u::us) r.2 (r.1=x)) ?_ λr ⟨g,k⟩=>?_
    ·obtain ⟨m,rfl⟩:∃m,n=m+1:=⟨n - 1,by have:=hv.pi.lf;omega⟩;show bD (dI (cM m) m p d) _;unfold dI;rw [cZ (n:=d+1) (by omega) (by omega)];exact (ih.expr hv (by omega) (by omega) (by omega)).bind λr k=>.some k
    ·rw [dN (by simp only [mQ];omega),eU g.inv hm,bU];rw [pO]
     rcases k with ⟨v,e⟩ | k
     ·have g2:=g.gd (gL v.pi (s:=[44])).1;have v2:=v.take hu;have a1:=g.at';have a2:=g2.adv v2.e0;have a3:=g2.toGd.len;have l2:=g2.toGd.lf;rw [v.iB hu,if_neg (by simp)];refine (ih2.1 n c _ _ (l++[r.1]) v2 h0 h3 (by omega) (by omega) (by simp only [mK,mQ];omega)).mono λw ⟨g5,k5⟩=>⟨g2.toGd.trans g5,?_⟩;rw [xej] at k5
      rcases k5 with ⟨u',hu',v',e'⟩ | k5
      ·exact .inl ⟨u',hu',v',by rw [e',e];simp⟩
      ·exact .inr k5
     ·rw [sJ k.ne,uO k.ne,if_pos (by simp)];exact .some ⟨g.toGd,.inr (k.mono (by omega))⟩
   ·have k1:=hv.pi.lo;have k2:=hv.pi.hi;have k3:=hv.pi.big;obtain ⟨c,rfl⟩:∃e,c=e+1:=⟨c - 1,by omega⟩;have hm:13<n:=by have:=hv.pi.lf;omega
    unfold cN;rw [if_pos (by rw [hv.e0];decide)];refine bD.bind (P:=λr=>GA p r.2/\Rs D (N+sz x) (u::us) r.2 (r.1=x)) ?_ λr ⟨g,k⟩=>?_
    ·unfold fW;rw [cZ (n:=a+2) (by omega) (by omega),show a+2=d+1 by omega];exact (ih.expr hv (by omega) (by omega) (by omega)).bind λr k=>.some k
    ·rw [dN (by simp only [mQ];omega),eU g.inv hm,bU];rw [pO]
     rcases k with ⟨v,e⟩ | k
     ·have g2:=g.gd (gL v.pi (s:=[44])).1;have v2:=v.take hu;have a1:=g.at';have a2:=g2.adv v2.e0;have a3:=g2.toGd.len;have l2:=g2.toGd.lf;rw [v.iB hu,if_neg (by simp)];refine (ih2.2 a ha n c _ _ (l++[r.1]) v2 h0 h3 (by omega) (by omega) (by simp only [mK,mQ];omega)).mono λw ⟨g5,k5⟩=>⟨g2.toGd.trans g5,?_⟩;rw [xej] at k5
      rcases k5 with ⟨u',hu',v',e'⟩ | k5
      ·exact .inl ⟨u',hu',v',by rw [e',e];simp⟩
      ·exact .inr k5
     ·rw [sJ k.ne,uO k.ne,if_pos (by simp)];exact .some ⟨g.toGd,.inr (k.mono (by omega))⟩
end Go.Proofs.YtljbbjpbefjpiaaGreatDoor.Abs.Jn
namespace Go.Proofs.YtljbbjpbefjpiaaGreatDoor.Abs.Jn
open Go.RowKit
set_option linter.all false
def CS (D:Int):SK->Int->List tG->List Nd->List tG->Prop
 | .block,d,ts,xs,us=>∀(n:Nat) p N,Lv p ts N->0<=d->d<=D+1->Lf p+46<=n->bD (bN n p d) λr=>GA p r.2/\Rs D (N+pM xs) us r.2 (xs=[r.1])
 | .stmt,d,ts,xs,us=>∀(n:Nat) p N,Lv p ts N->0<=d->d<=D->Lf p+45<=n->bD (lN n p d) λr=>GA p r.2/\Rs D (N+pM xs) us r.2 (xs=[r.1])
 | .stmts,d,ts,xs,us=>∀(n c:Nat) p N x,Lv p ts N->0<=d->d<=D->Lf p+45<=n->(p.l_.length:Int) - p.fA<c->(x.aL.length:Int)<=p.fA->bD (dJ (lN n) n d c p x) λr=>Gd p r.1/\Rs D (N+pM xs) us r.1 (r.2={ x with aL:=x.aL++xs })
section
variable {p q:aA} {t:tG} {ts us vs:List tG} {N M D d:Int} {s w:cB} {n m:Nat} {x:Nd} {ok:Prop}
theorem oG {β:Type} {A B:Bool × aA->Option β} (v:Lv q (t::ts) N) (hn:¬ pC t w) (hm:13<m):((bE m q w).bind λx=>if x.1=true then A x else B x)=B (false,q):=by
 have h:=v.nB' hn;rw [eU v.pi hm,bU,h,mA h,if_neg (by simp)]
theorem CZ {β:Type} {A B:Bool × aA->Option β} (v:Lv q (t::ts) N) (ht:pC t w) (hm:13<m):((bE m q w).bind λx=>if x.1=true then A x else B x)=A (true,mD q w):=by
 have h:=v.iB ht;rw [eU v.pi hm,bU,h,if_pos rfl]
theorem Rs.cast (h:Rs D N us q ok) (e:N=M):Rs D M us q ok:=by rw [←e];exact h
theorem Rs.expr (k:Rs D N us q ok) (g:PI q) (ih:CE D (.lev 0) d us [x] vs) (h0:0<=d) (h1:d<=D+3) (hb:Lf q+30<=n):bD (cM n q d) λr=>GA q r.2/\Rs D (N+sz x) vs r.2 (ok/\r.1=x):=by
 rcases k with ⟨v,o⟩ | k
 ·exact (ih.expr v h0 h1 hb).mono λr ⟨g,k⟩=>⟨g,k.mono λe=>⟨o,e⟩⟩
 ·exact (nS g hb).mono λr g=>⟨g,.inr ((k.gd g.toGd).mono (by have:=iW x;omega))⟩
theorem Rs.block (k:Rs D N us q ok) (g:PI q) (ih:CS D .block d us [x] vs) (h0:0<=d) (h1:d<=D+1) (hb:Lf q+46<=n):bD (bN n q d) λr=>GA q r.2/\Rs D (N+sz x) vs r.2 (ok/\r.1=x):=by
 rcases k with ⟨v,o⟩ | k
 ·refine (ih n q N v h0 h1 hb).mono λr ⟨g,k⟩=>⟨g,?_⟩;rw [gW] at k;exact k.mono λe=>⟨o,by injection e with e _;exact e.symm⟩
 ·exact (rP g hb).mono λr g=>⟨g,.inr ((k.gd g.toGd).mono (by have:=iW x;omega))⟩
theorem Sb {u v w:tG} {vs ws:List tG} {y:Nd} (hv:Lv p (u::v::vs) N) (hu:GW u) (hv1:pC v [61]) (ih:CE D (.lev 0) (d+1) vs [x] (w::ws)) (hw:pC w [59]) (h0:0<=d) (h1:d<=D) (hb:Lf p+30<=n):bD (fK n p y (d+1)) λr=>GA p r.2/\Rs D (N+sz x) ws r.2 (r.1={ y with bQ:=u.bQ,aL:=[x] }):=by
 have hn:13<n:=by have:=hv.pi.lf;omega
 have v1:=(hv.name hu).2;have v2:=v1.need hv1;have g1:=oT hv.pi;have g2:=dY g1.inv (s:=[61]);have l1:=g1.toGd.lf;have l2:=g2.toGd.lf;unfold fK;rw [qF hv.pi hn,bU,eI g1.inv hn,bU,(hv.name hu).1];refine (ih.expr v2 (by omega) (by omega) (by omega)).bind λr ⟨g3,k⟩=>?_;have g4:=dY g3.inv (s:=[59]);rw [eI g3.inv hn,bU];exact .some ⟨g1.ga (g2.ga (g3.ga g4)),(k.need hw).mono λe=>by rw [e]⟩
theorem yG (h:Lv p ts N) (hN:¬ N<16384) (hb:Lf p+45<=n):bD (lN n p d) λr=>GA p r.2/\r.2.e_=136:=by
 obtain ⟨m,rfl⟩:∃m,n=m+1:=⟨n - 1,by have:=h.pi.lf;omega⟩;obtain ⟨e1,e2⟩:=h.full hN;obtain ⟨g1,_⟩:=DQ h.pi (e:=136) (by decide);have l1:=g1.lf;have hne:(mI p 136).e_ ≠ 0:=by rw [e2];decide
 have h2:=(Cw (m+1)).2.1 (mI p 136) d g1.inv (by omega)
 have e:lN (m+1) p d=(bR (m+1)).2.1 (mI p 136) d:=by
  show bF _ _ m p d=bF _ _ m (mI p 136) d;unfold bF;rw [iF h.pi,iF g1.inv,bU,bU,e1,BA hne,yX]
 rw [e];exact h2.mono λr g=>⟨g1.ga g,(g.toGd.err' hne).1.trans e2⟩
theorem BT {semi:tG} {nd:Nd} (hs:pC semi [59]) (hm:13<m) (y:(aA × aB) ⊕ (aB × aA)) (hy:match y with | .inl z=>GA p z.1/\Rs D N (semi::us) z.1 (z.2=nd) | .inr z=>GA p z.2/\Rs D N us z.2 (z.1=nd)) :
  bD (y.elim (λy5a=>(aX m y5a.1 ([59]:cB)).bind λx43=>some (y5a.2,x43)) (λy5a=>some y5a)) λr=>GA p r.2/\Rs D N us r.2 ([nd]=[r.1]):=by
 cases y with
 | inl z=>
   obtain ⟨g,k⟩:GA p z.1/\Rs D N (semi::us) z.1 (z.2=nd):=hy;have g2:=dY g.inv (s:=[59]);show bD ((aX m z.1 ([59]:cB)).bind λx43=>some (z.2,x43)) _;rw [eI g.inv hm,bU];exact .some ⟨g.ga g2,(k.need hs).mono λe=>by rw [e]⟩
 | inr z=>
   obtain ⟨g,k⟩:GA p z.2/\Rs D N us z.2 (z.1=nd):=hy;exact .some ⟨g,k.mono λe=>by rw [e]⟩
def Gi:tG:=⟨3,0,[59],0⟩
theorem BY:pC Gi [59]:=⟨rfl,.inl rfl⟩
theorem bl_deep (h:PI p) (he:p.e_=0) (hd:64<d) (hb:Lf p+46<=n):bD (bN n p d) λr=>GA p r.2/\r.2.e_=111:=by
 obtain ⟨m,rfl⟩:∃m,n=m+1:=⟨n - 1,by have:=h.lf;omega⟩;have g1:=DU h (a:=d);have l1:=g1.lf
 have e1:(mX p d).e_=111:=by
  unfold mX mI;rw [if_pos hd,if_pos he]
 have h2:=(Cw (m+1)).1 (mX p d) d g1.inv (by omega);have e:bN (m+1) p d=(bR (m+1)).1 (mX p d) d:=If h;rw [e];exact h2.mono λr g=>⟨g1.ga g,(g.toGd.err' (by rw [e1];decide)).1.trans e1⟩
theorem bl_full (h:Lv p ts N) (hN:¬ N<16384) (hd:¬ 64<d) (hb:Lf p+46<=n):bD (bN n p d) λr=>GA p r.2/\r.2.e_=136:=by
 obtain ⟨m,rfl⟩:∃m,n=m+1:=⟨n - 1,by have:=h.pi.lf;omega⟩;obtain ⟨e1,e2⟩:=h.full hN;obtain ⟨g1,_⟩:=DQ h.pi (e:=136) (by decide);have l1:=g1.lf;have hne:(mI p 136).e_ ≠ 0:=by rw [e2];decide
 have h2:=(Cw (m+1)).1 (mI p 136) d g1.inv (by omega)
 have e:bN (m+1) p d=(bR (m+1)).1 (mI p 136) d:=by
  show dC _ m p d=dC _ m (mI p 136) d;unfold dC;have d1:mX p d=p:=by unfold mX;rw [if_neg hd]
  have d2:mX (mI p 136) d=mI p 136:=by unfold mX;rw [if_neg hd]
  rw [rG h.pi,rG g1.inv,d1,d2,bU,bU,iF h.pi,iF g1.inv,bU,bU,e1,BA hne,yX]
 rw [e];exact h2.mono λr g=>⟨g1.ga g,(g.toGd.err' hne).1.trans e2⟩
end
theorem DS.run {D:Int} (hD:D<=1099511627776) {K d ts xs us} (h:DS D K d ts xs us):CS D K d ts xs us:=by
 induction h with
 | @block d t ts xs u us hd ht h1 hu ih=>
   intro n p N hv h0 h3 hb;obtain ⟨m,rfl⟩:∃m,n=m+1:=⟨n - 1,by have:=hv.pi.lf;omega⟩;have hm:13<m:=by have:=hv.pi.lf;omega
   have hz:=lY xs;rw [gW,fD]
   by_cases h64:64<d
   ·exact (bl_deep hv.pi hv.e0 h64 hb).mono λr ⟨g,e⟩=>⟨g,.inr (.inr ⟨e,by omega⟩)⟩
   by_cases hN:N<16384
   ·have v1:=hv.node hN;have v2:=v1.need ht;have g1:=kF hv.pi;have g2:=g1.ga (dY v1.pi (s:=[123]));have d1:mX p d=p:=by unfold mX;rw [if_neg h64]
    have l2:=g2.lf v2.e0;have k0:=v2.pi.lo;show bD (dC (lN m) m p d) _;unfold dC;rw [rG hv.pi,d1,bU,iF hv.pi,bU,eI v1.pi hm,bU,hv.tok];refine (ih m m _ _ ⟨4,t.eO,[],0,[]⟩ v2 h0 (by omega) (by omega) (by unfold Lf at hb l2;have:=hv.pi.hi;rw [g2.toGd.len] at l2 ⊢;omega) (by simpa using k0)).bind λy ⟨g3,k⟩=>?_;have g4:=dY g3.inv (s:=[125]);rw [eI g3.inv hm,bU];exact .some ⟨(g2.gd g3).ga g4,((k.need hu).mono λe=>by rw [e];rfl).cast (by omega)⟩
   ·exact (bl_full hv hN h64 hb).mono λr ⟨g,e⟩=>⟨g,.inr (.inl ⟨e,by omega⟩)⟩
 | @nil d ts h1=>
   intro n c p N x hv h0 h3 hb hc hl;have k2:=hv.pi.hi;obtain ⟨c,rfl⟩:∃e,c=e+1:=⟨c - 1,by omega⟩;have hn:13<n:=by have:=hv.pi.lf;omega
   have hcb:oV p [125]=true:=(BF hv.pi hv.e0).1 (by rw [hv.rs];exact h1);unfold dJ;rw [Dq hv.pi hn,hcb,hv.e0,if_pos (by simp),bU,bU,if_neg (by simp)];exact .some ⟨.refl hv.pi,.inl ⟨by rw [kM,xeh];exact hv,by rw [jR];cases x;rfl⟩⟩
 | @cons d ts y us xs vs h1 h2 h3 ih1 ih2=>
   intro n c p N x hv h0 h3 hb hc hl;have k1:=hv.pi.lo;have k2:=hv.pi.hi;have k3:=hv.pi.big;obtain ⟨c,rfl⟩:∃e,c=e+1:=⟨c - 1,by omega⟩;have hn:13<n:=by have:=hv.pi.lf;omega
   unfold dJ;rw [Dq hv.pi hn,hv.nB h1,hv.e0,if_pos (by simp),bU,bU,if_pos (by simp)];refine (ih1 n p N hv h0 h3 hb).bind λr ⟨g,k⟩=>?_;have m1:=g.at';have m5:=g.inv.hi;have m6:=g.toGd.len;have l1:=g.toGd.lf;have hz:=lY xs;rw [gW] at k;rw [pO,dN (by simp only [mQ];omega)]
   rcases k with ⟨v,e⟩ | k
   ·have e':r.1=y:=by injection e with e _;exact e.symm
    have m7:=g.adv v.e0;rw [e'];refine (ih2 n c r.2 _ _ v h0 h3 (by omega) (by omega) (by simp only [mK,mQ];omega)).mono λw ⟨g5,k5⟩=>⟨g.toGd.trans g5,?_⟩;exact (k5.mono λe=>by rw [e];simp).cast (by omega)
   ·have m8:=hv.pi.lf;obtain ⟨c,rfl⟩:∃e,c=e+1:=⟨c - 1,by omega⟩;unfold dJ;rw [if_neg (by simpa using k.ne),bU,if_neg (by simp)];exact .some ⟨g.toGd,.inr (k.mono (by omega))⟩
 | @bind d t k s u v vs x w ws hk ht hu hv1 h1 hw=>
   intro n p N hv h0 h3 hb;have ih:=h1.run hD;have hz:=iW x;rw [gW,fD,gW]
   by_cases hN:N<16384
   ·obtain ⟨m,rfl⟩:∃m,n=m+1:=⟨n - 1,by have:=hv.pi.lf;omega⟩;have hm:13<m:=by have:=hv.pi.lf;omega
    have v1:=hv.node hN;have g1:=kF hv.pi;have l1:=g1.lf;show bD (bF (hY m) (jF m) m p d) _;unfold bF;rw [iF hv.pi,bU,hv.tok,cZ (n:=d+1) (by omega) (by omega)];refine bD.bind (P:=λy=>match y with | .inl z=>GA p z.1/\Rs D (N+(1+sz x)) (Gi::ws) z.1 (z.2=⟨k,t.eO,u.bQ,0,[x]⟩) | .inr z=>GA p z.2/\Rs D (N+(1+sz x)) ws z.2 (z.1=⟨k,t.eO,u.bQ,0,[x]⟩)) ?_ λy hy=>BT BY hm y hy;have g2:=(gL v1.pi (s:=s)).1;have l2:=g2.lf
    rcases hk with ⟨rfl,rfl⟩ | ⟨rfl,rfl⟩
    ·rw [CZ v1 ht hm];exact (Sb (v1.take ht) hu hv1 ih hw h0 h3 (by omega)).bind λr ⟨g3,k⟩=>.some ⟨g1.ga (g2.ga g3),k.cast (by omega)⟩
    ·rw [oG v1 (λk=>absurd (ht.two k) (by decide)) hm,CZ v1 ht hm];exact (Sb (v1.take ht) hu hv1 ih hw h0 h3 (by omega)).bind λr ⟨g3,k⟩=>.some ⟨g1.ga (g2.ga g3),k.cast (by omega)⟩
   ·exact (yG hv hN hb).mono λr ⟨g,e⟩=>⟨g,.inr (.inl ⟨e,by omega⟩)⟩
 | @arr d t u v w z y ys ht hu hv1 hw hz1 hy=>
   intro n p N hv h0 h3 hb;rw [gW,fD,kM]
   by_cases hN:N<16384
   ·obtain ⟨m,rfl⟩:∃m,n=m+1:=⟨n - 1,by have:=hv.pi.lf;omega⟩;have hm:13<m:=by have:=hv.pi.lf;omega
    have v1:=hv.node hN;have g1:=kF hv.pi;show bD (bF (hY m) (jF m) m p d) _;unfold bF;rw [iF hv.pi,bU,hv.tok];refine bD.bind (P:=λq=>match q with | .inl z=>GA p z.1/\Rs D (N+(1+0)) (y::ys) z.1 (z.2=⟨7,t.eO,u.bQ,w.kL,[]⟩) | .inr z=>GA p z.2/\Rs D (N+(1+0)) ys z.2 (z.1=⟨7,t.eO,u.bQ,w.kL,[]⟩)) ?_ λq hq=>BT hy hm q hq;have g2:=(gL v1.pi (s:=[97,114,114])).1;have v2:=v1.take ht;have v3:=(v2.name hu).2;have g3:=oT v2.pi;have g4:=GQ v3.pi;have v4:=v3.need hv1;have v5:=(v4.num hw).2;have v6:=v5.need hz1;rw [oG v1 (λk=>absurd (ht.two k) (by decide)) hm,oG v1 (λk=>absurd (ht.two k) (by decide)) hm,CZ v1 ht hm];rw [qF v2.pi hm,bU,GR v3.pi hm,bU,(v2.name hu).1];refine .some ⟨g1.ga (g2.ga (g3.ga g4)),.inl ⟨v6,?_⟩⟩;show ({ (⟨8,t.eO,[],0,[]⟩:aB) with bT:=7,bQ:=u.bQ,kL:=(DY (mL (nA (mD (eN p) [97,114,114])).2 [91])).1 }:aB)=_;rw [(v4.num hw).1]
   ·exact (yG hv hN hb).mono λr ⟨g,e⟩=>⟨g,.inr (.inl ⟨e,by omega⟩)⟩
 | @ret d t ts x u us ht h1 hu=>
   intro n p N hv h0 h3 hb;have ih:=h1.run hD;have hz:=iW x;rw [gW,fD,gW]
   by_cases hN:N<16384
   ·obtain ⟨m,rfl⟩:∃m,n=m+1:=⟨n - 1,by have:=hv.pi.lf;omega⟩;have hm:13<m:=by have:=hv.pi.lf;omega
    have v1:=hv.node hN;have g1:=kF hv.pi;have l1:=g1.lf;show bD (bF (hY m) (jF m) m p d) _;unfold bF;rw [iF hv.pi,bU,hv.tok,cZ (n:=d+1) (by omega) (by omega)];refine bD.bind (P:=λq=>match q with | .inl z=>GA p z.1/\Rs D (N+(1+sz x)) (u::us) z.1 (z.2=⟨13,t.eO,[],0,[x]⟩) | .inr z=>GA p z.2/\Rs D (N+(1+sz x)) us z.2 (z.1=⟨13,t.eO,[],0,[x]⟩)) ?_ λq hq=>BT hu hm q hq;have g2:=(gL v1.pi (s:=[114,101,116,117,114,110])).1;have l2:=g2.lf;rw [oG v1 (λk=>absurd (ht.two k) (by decide)) hm,oG v1 (λk=>absurd (ht.two k) (by decide)) hm,oG v1 (λk=>absurd (ht.two k) (by decide)) hm,CZ v1 ht hm];exact (ih.expr (v1.take ht) (by omega) (by omega) (by omega)).bind λr ⟨g3,k⟩=>.some ⟨g1.ga (g2.ga g3),(k.mono λe=>by rw [e]).cast (by omega)⟩
   ·exact (yG hv hN hb).mono λr ⟨g,e⟩=>⟨g,.inr (.inl ⟨e,by omega⟩)⟩
 | @choice d t ts c us b vs ht h1 h2 hn ih2=>
   intro n p N hv h0 h3 hb;have ih:=h1.run hD;have hz:=iW c;have hz2:=iW b;rw [gW,fD,yZ]
   by_cases hN:N<16384
   ·obtain ⟨m,rfl⟩:∃m,n=m+1:=⟨n - 1,by have:=hv.pi.lf;omega⟩;have hm:13<m:=by have:=hv.pi.lf;omega
    have v1:=hv.node hN;have g1:=kF hv.pi;have l1:=g1.lf;show bD (bF (hY m) (jF m) m p d) _;unfold bF;rw [iF hv.pi,bU,hv.tok];refine bD.bind (P:=λq=>match q with | .inl z=>GA p z.1/\Rs D (N+(1+(sz c+sz b))) (Gi::vs) z.1 (z.2=⟨11,t.eO,[],0,[c,b]⟩) | .inr z=>GA p z.2/\Rs D (N+(1+(sz c+sz b))) vs z.2 (z.1=⟨11,t.eO,[],0,[c,b]⟩)) ?_ λq hq=>BT BY hm q hq;obtain ⟨g2,t2,_⟩:=gL v1.pi (s:=[105,102]);obtain ⟨_,g2',e2⟩:=t2 (v1.iB ht);have l2:=g2'.lf e2;rw [oG v1 (λk=>absurd (ht.two k) (by decide)) hm,oG v1 (λk=>absurd (ht.two k) (by decide)) hm,oG v1 (λk=>absurd (ht.two k) (by decide)) hm,oG v1 (λk=>absurd (ht.two k) (by decide)) hm,CZ v1 ht hm];obtain ⟨m',rfl⟩:∃e,m=e+1:=⟨m - 1,by omega⟩;have hm':13<m':=by have:=hv.pi.lf;omega
    refine bD.bind (P:=λr=>GA (mD (eN p) [105,102]) r.2/\Rs D (N+(1+(sz c+sz b))) vs r.2 (r.1=⟨11,t.eO,[],0,[c,b]⟩)) ?_ λr ⟨g3,k⟩=>.some ⟨g1.ga (g2.ga g3),k⟩;show bD (eD (bN m') m' (mD (eN p) [105,102]) _ d) _;unfold eD;rw [cZ (n:=d+1) (by omega) (by omega)];refine (ih.expr (v1.take ht) (by omega) (by omega) (by omega)).bind λr ⟨g3,k3⟩=>?_;have l3:=g3.toGd.lf;refine (k3.block g3.inv ih2 (by omega) (by omega) (by omega)).bind λr2 ⟨g4,k4⟩=>bD.need (by simp) ?_;rw [eU g4.inv hm',bU]
    have hb2:oV r2.2 [101,108,115,101]=false:=by
     rcases k4 with ⟨v4,_⟩ | k4
     ·exact v4.nB hn
     ·exact sJ k4.ne
    rw [hb2,mA hb2,if_neg (by simp)];exact .some ⟨g3.ga g4,(k4.mono λ⟨e1,e2⟩=>by rw [e1,e2];rfl).cast (by omega)⟩
   ·exact (yG hv hN hb).mono λr ⟨g,e⟩=>⟨g,.inr (.inl ⟨e,by omega⟩)⟩
 | @choice2 d t ts c us b v vs b' ws ht h1 h2 he h4 ih2 ih4=>
   intro n p N hv h0 h3 hb;have ih:=h1.run hD;have hz:=iW c;have hz2:=iW b;have hz3:=iW b';rw [gW,fD,Gh]
   by_cases hN:N<16384
   ·obtain ⟨m,rfl⟩:∃m,n=m+1:=⟨n - 1,by have:=hv.pi.lf;omega⟩;have hm:13<m:=by have:=hv.pi.lf;omega
    have v1:=hv.node hN;have g1:=kF hv.pi;have l1:=g1.lf;show bD (bF (hY m) (jF m) m p d) _;unfold bF;rw [iF hv.pi,bU,hv.tok];refine bD.bind (P:=λq=>match q with | .inl z=>GA p z.1/\Rs D (N+(1+(sz c+sz b+sz b'))) (Gi::ws) z.1 (z.2=⟨11,t.eO,[],0,[c,b,b']⟩) | .inr z=>GA p z.2/\Rs D (N+(1+(sz c+sz b+sz b'))) ws z.2 (z.1=⟨11,t.eO,[],0,[c,b,b']⟩)) ?_ λq hq=>BT BY hm q hq;obtain ⟨g2,t2,_⟩:=gL v1.pi (s:=[105,102]);obtain ⟨_,g2',e2⟩:=t2 (v1.iB ht);have l2:=g2'.lf e2;rw [oG v1 (λk=>absurd (ht.two k) (by decide)) hm,oG v1 (λk=>absurd (ht.two k) (by decide)) hm,oG v1 (λk=>absurd (ht.two k) (by decide)) hm,oG v1 (λk=>absurd (ht.two k) (by decide)) hm,CZ v1 ht hm];obtain ⟨m',rfl⟩:∃e,m=e+1:=⟨m - 1,by omega⟩;have hm':13<m':=by have:=hv.pi.lf;omega
    refine bD.bind (P:=λr=>GA (mD (eN p) [105,102]) r.2/\Rs D (N+(1+(sz c+sz b+sz b'))) ws r.2 (r.1=⟨11,t.eO,[],0,[c,b,b']⟩)) ?_ λr ⟨g3,k⟩=>.some ⟨g1.ga (g2.ga g3),k⟩;show bD (eD (bN m') m' (mD (eN p) [105,102]) _ d) _;unfold eD;rw [cZ (n:=d+1) (by omega) (by omega)];refine (ih.expr (v1.take ht) (by omega) (by omega) (by omega)).bind λr ⟨g3,k3⟩=>?_;have l3:=g3.toGd.lf;refine (k3.block g3.inv ih2 (by omega) (by omega) (by omega)).bind λr2 ⟨g4,k4⟩=>bD.need (by simp) ?_;have l4:=g4.toGd.lf;rw [eU g4.inv hm',bU]
    rcases k4 with ⟨v4,e3,e4⟩ | k4
    ·rw [v4.iB he,if_pos rfl];have g5:=(gL v4.pi (s:=[101,108,115,101])).1;have l5:=g5.lf;refine (ih4 m' _ _ (v4.take he) (by omega) (by omega) (by omega)).bind λr3 ⟨g6,k6⟩=>bD.need (by simp) (.some ⟨(g3.ga g4).ga (g5.ga g6),?_⟩);rw [gW] at k6;exact (k6.mono λe=>by injection e with e _;rw [e3,e4,←e];rfl).cast (by omega)
    ·rw [sJ k4.ne,uO k4.ne,if_neg (by simp)];exact .some ⟨g3.ga g4,.inr (k4.mono (by omega))⟩
   ·exact (yG hv hN hb).mono λr ⟨g,e⟩=>⟨g,.inr (.inl ⟨e,by omega⟩)⟩
 | @loop d t u v vs a w ws b xs k ys ht hu hv1 h1 hw h2 h3' ih3=>
   intro n p N hv h0 h3 hb;have ih:=h1.run hD;have ih2:=h2.run hD;have hz:=iW a;have hz2:=iW b;have hz3:=iW k;rw [gW,fD,Gh]
   by_cases hN:N<16384
   ·obtain ⟨m,rfl⟩:∃m,n=m+1:=⟨n - 1,by have:=hv.pi.lf;omega⟩;have hm:13<m:=by have:=hv.pi.lf;omega
    have v1:=hv.node hN;have g1:=kF hv.pi;have l1:=g1.lf;show bD (bF (hY m) (jF m) m p d) _;unfold bF;rw [iF hv.pi,bU,hv.tok];refine bD.bind (P:=λq=>match q with | .inl z=>GA p z.1/\Rs D (N+(1+(sz a+sz b+sz k))) (Gi::ys) z.1 (z.2=⟨12,t.eO,u.bQ,0,[a,b,k]⟩) | .inr z=>GA p z.2/\Rs D (N+(1+(sz a+sz b+sz k))) ys z.2 (z.1=⟨12,t.eO,u.bQ,0,[a,b,k]⟩)) ?_ λq hq=>BT BY hm q hq;obtain ⟨g2,t2,_⟩:=gL v1.pi (s:=[102,111,114]);obtain ⟨_,g2',e2⟩:=t2 (v1.iB ht);have l2:=g2'.lf e2;rw [oG v1 (λk=>absurd (ht.two k) (by decide)) hm,oG v1 (λk=>absurd (ht.two k) (by decide)) hm,oG v1 (λk=>absurd (ht.two k) (by decide)) hm,oG v1 (λk=>absurd (ht.two k) (by decide)) hm,oG v1 (λk=>absurd (ht.two k) (by decide)) hm,CZ v1 ht hm];obtain ⟨m',rfl⟩:∃e,m=e+1:=⟨m - 1,by omega⟩;have hm':13<m':=by have:=hv.pi.lf;omega
    refine bD.bind (P:=λr=>GA (mD (eN p) [102,111,114]) r.2/\Rs D (N+(1+(sz a+sz b+sz k))) ys r.2 (r.1=⟨12,t.eO,u.bQ,0,[a,b,k]⟩)) ?_ λr ⟨g3,k⟩=>.some ⟨g1.ga (g2.ga g3),k⟩;show bD (gH (bN m') m' (mD (eN p) [102,111,114]) _ d) _;unfold gH;have v2:=v1.take ht;have v3:=(v2.name hu).2;have g3:=oT v2.pi;have g4:=dY v3.pi (s:=[105,110]);have l3:=g3.toGd.lf;have l4:=g4.toGd.lf;rw [cZ (n:=d+1) (by omega) (by omega),qF v2.pi hm',bU,eI v3.pi hm',bU,(v2.name hu).1];refine (ih.expr (v3.need hv1) (by omega) (by omega) (by omega)).bind λr ⟨g5,k5⟩=>?_;have g6:=dY g5.inv (s:=[46,46]);have l5:=g5.toGd.lf;have l6:=g6.toGd.lf;rw [eI g5.inv hm',bU];refine ((k5.need hw).expr g6.inv ih2 (by omega) (by omega) (by omega)).bind λr2 ⟨g7,k7⟩=>bD.need (by simp) ?_;have l7:=g7.toGd.lf;refine (k7.block g7.inv ih3 (by omega) (by omega) (by omega)).bind λr3 ⟨g8,k8⟩=>bD.need (by simp) (.some ⟨g3.ga (g4.ga (g5.ga (g6.ga (g7.ga g8)))),?_⟩);exact (k8.mono λ⟨⟨e1,e2⟩,e3⟩=>by rw [e1,e2,e3];rfl).cast (by omega)
   ·exact (yG hv hN hb).mono λr ⟨g,e⟩=>⟨g,.inr (.inl ⟨e,by omega⟩)⟩
 | @call d t ts xs u us ht h1 hu=>
   intro n p N hv h0 h3 hb;have ih:=(h1.run hD).2;have hz:=lY xs;rw [gW,fD]
   by_cases hN:N<16384
   ·obtain ⟨m,rfl⟩:∃m,n=m+1:=⟨n - 1,by have:=hv.pi.lf;omega⟩;have hm:13<m:=by have:=hv.pi.lf;omega
    have v1:=hv.node hN;have g1:=kF hv.pi;have l1:=g1.lf;show bD (bF (hY m) (jF m) m p d) _;unfold bF;rw [iF hv.pi,bU,hv.tok];refine bD.bind (P:=λq=>match q with | .inl z=>GA p z.1/\Rs D (N+(1+pM xs)) (Gi::us) z.1 (z.2=⟨10,t.eO,t.bQ,0,xs⟩) | .inr z=>GA p z.2/\Rs D (N+(1+pM xs)) us z.2 (z.1=⟨10,t.eO,t.bQ,0,xs⟩)) ?_ λq hq=>BT BY hm q hq;rw [oG v1 ht.not hm,oG v1 ht.not hm,oG v1 ht.not hm,oG v1 ht.not hm,oG v1 ht.not hm,oG v1 ht.not hm];refine bD.bind (P:=λr=>GA (eN p) r.2/\Rs D (N+(1+pM xs)) us r.2 (r.1=⟨10,t.eO,t.bQ,0,xs⟩)) ?_ λr ⟨g3,k⟩=>.some ⟨g1.ga g3,k⟩;have v2:=(v1.name ht).2;have g2:=oT v1.pi;have l2:=g2.toGd.lf;obtain ⟨t',ts',e,ht'⟩:=h1.args_hd;have hb1:oV (nA (eN p)).2 [40]=true:=by rw [e] at v2;exact v2.iB ht'
    unfold fI;rw [qF v1.pi hm,bU,Dq g2.inv hm,bU,if_pos hb1,(v1.name ht).1];refine bD.bind (P:=λy=>GA (nA (eN p)).2 y.1/\Rs D (N+(1+pM xs)) (u::us) y.1 (y.2=⟨10,t.eO,t.bQ,0,xs⟩)) ?_ λy ⟨g3,k⟩=>?_
    ·exact (ih d rfl m _ _ v2 h0 (by omega) (by omega)).bind λr ⟨g3,k⟩=>.some ⟨g3,(k.mono λe=>by rw [e]).cast (by omega)⟩
    ·have g4:=dY g3.inv (s:=[59]);rw [eI g3.inv hm,bU];exact .some ⟨g2.ga (g3.ga g4),k.need hu⟩
   ·exact (yG hv hN hb).mono λr ⟨g,e⟩=>⟨g,.inr (.inl ⟨e,by omega⟩)⟩
 | @put d t u us i v w ws x y ys ht hu h1 hv1 hw h2 hy=>
   intro n p N hv h0 h3 hb;have ih:=h1.run hD;have ih2:=h2.run hD;have hz:=iW i;have hz2:=iW x;rw [gW,fD,yZ]
   by_cases hN:N<16384
   ·obtain ⟨m,rfl⟩:∃m,n=m+1:=⟨n - 1,by have:=hv.pi.lf;omega⟩;have hm:13<m:=by have:=hv.pi.lf;omega
    have v1:=hv.node hN;have g1:=kF hv.pi;have l1:=g1.lf;show bD (bF (hY m) (jF m) m p d) _;unfold bF;rw [iF hv.pi,bU,hv.tok];refine bD.bind (P:=λq=>match q with | .inl z=>GA p z.1/\Rs D (N+(1+(sz i+sz x))) (Gi::ys) z.1 (z.2=⟨9,t.eO,t.bQ,0,[i,x]⟩) | .inr z=>GA p z.2/\Rs D (N+(1+(sz i+sz x))) ys z.2 (z.1=⟨9,t.eO,t.bQ,0,[i,x]⟩)) ?_ λq hq=>BT BY hm q hq;rw [oG v1 ht.not hm,oG v1 ht.not hm,oG v1 ht.not hm,oG v1 ht.not hm,oG v1 ht.not hm,oG v1 ht.not hm];refine bD.bind (P:=λr=>GA (eN p) r.2/\Rs D (N+(1+(sz i+sz x))) ys r.2 (r.1=⟨9,t.eO,t.bQ,0,[i,x]⟩)) ?_ λr ⟨g3,k⟩=>.some ⟨g1.ga g3,k⟩;have v2:=(v1.name ht).2;have g2:=oT v1.pi;have l2:=g2.toGd.lf;have hb1:oV (nA (eN p)).2 [40]=false:=v2.nB' λk=>absurd (hu.two k) (by decide);unfold fI;rw [qF v1.pi hm,bU,Dq g2.inv hm,bU,hb1,if_neg (by simp),(v1.name ht).1,CZ v2 hu hm,cZ (n:=d+1) (by omega) (by omega),cZ (n:=d+2) (by omega) (by omega)];refine bD.bind (P:=λy'=>GA (nA (eN p)).2 y'.1/\Rs D (N+(1+(sz i+sz x))) (y::ys) y'.1 (y'.2=⟨9,t.eO,t.bQ,0,[i,x]⟩)) ?_ λy ⟨g3,k⟩=>?_
    ·have g3:=(gL v2.pi (s:=[91])).1;have l3:=g3.lf;refine (ih.expr (v2.take hu) (by omega) (by omega) (by omega)).bind λr ⟨g4,k4⟩=>?_;have g5:=dY g4.inv (s:=[93]);have g6:=dY g5.inv (s:=[61]);have l4:=g4.toGd.lf;have l5:=g5.toGd.lf;have l6:=g6.toGd.lf;rw [eI g4.inv hm,bU,eI g5.inv hm,bU];refine (((k4.need hv1).need hw).expr g6.inv ih2 (by omega) (by omega) (by omega)).bind λr2 ⟨g7,k7⟩=>bD.need (by simp) (.some ⟨g3.ga (g4.ga (g5.ga (g6.ga g7))),?_⟩);exact (k7.mono λ⟨e1,e2⟩=>by rw [e1,e2];rfl).cast (by omega)
    ·have g4:=dY g3.inv (s:=[59]);rw [eI g3.inv hm,bU];exact .some ⟨g2.ga (g3.ga g4),k.need hy⟩
   ·exact (yG hv hN hb).mono λr ⟨g,e⟩=>⟨g,.inr (.inl ⟨e,by omega⟩)⟩
 | @set d t u us x v vs ht hu h1 hv1=>
   intro n p N hv h0 h3 hb;have ih:=h1.run hD;have hz:=iW x;rw [gW,fD,gW]
   by_cases hN:N<16384
   ·obtain ⟨m,rfl⟩:∃m,n=m+1:=⟨n - 1,by have:=hv.pi.lf;omega⟩;have hm:13<m:=by have:=hv.pi.lf;omega
    have v1:=hv.node hN;have g1:=kF hv.pi;have l1:=g1.lf;show bD (bF (hY m) (jF m) m p d) _;unfold bF;rw [iF hv.pi,bU,hv.tok];refine bD.bind (P:=λq=>match q with | .inl z=>GA p z.1/\Rs D (N+(1+sz x)) (Gi::vs) z.1 (z.2=⟨8,t.eO,t.bQ,0,[x]⟩) | .inr z=>GA p z.2/\Rs D (N+(1+sz x)) vs z.2 (z.1=⟨8,t.eO,t.bQ,0,[x]⟩)) ?_ λq hq=>BT BY hm q hq;rw [oG v1 ht.not hm,oG v1 ht.not hm,oG v1 ht.not hm,oG v1 ht.not hm,oG v1 ht.not hm,oG v1 ht.not hm];refine bD.bind (P:=λr=>GA (eN p) r.2/\Rs D (N+(1+sz x)) vs r.2 (r.1=⟨8,t.eO,t.bQ,0,[x]⟩)) ?_ λr ⟨g3,k⟩=>.some ⟨g1.ga g3,k⟩;have v2:=(v1.name ht).2;have g2:=oT v1.pi;have l2:=g2.toGd.lf;have hb1:oV (nA (eN p)).2 [40]=false:=v2.nB' λk=>absurd (hu.two k) (by decide);unfold fI;rw [qF v1.pi hm,bU,Dq g2.inv hm,bU,hb1,if_neg (by simp),(v1.name ht).1,oG v2 (λk=>absurd (hu.two k) (by decide)) hm,cZ (n:=d+1) (by omega) (by omega)];refine bD.bind (P:=λy'=>GA (nA (eN p)).2 y'.1/\Rs D (N+(1+sz x)) (v::vs) y'.1 (y'.2=⟨8,t.eO,t.bQ,0,[x]⟩)) ?_ λy ⟨g3,k⟩=>?_
    ·have g3:=dY v2.pi (s:=[61]);have l3:=g3.toGd.lf;rw [eI v2.pi hm,bU];exact (ih.expr (v2.need hu) (by omega) (by omega) (by omega)).bind λr ⟨g4,k4⟩=>.some ⟨g3.ga g4,(k4.mono λe=>by rw [e]).cast (by omega)⟩
    ·have g4:=dY g3.inv (s:=[59]);rw [eI g3.inv hm,bU];exact .some ⟨g2.ga (g3.ga g4),k.need hv1⟩
   ·exact (yG hv hN hb).mono λr ⟨g,e⟩=>⟨g,.inr (.inl ⟨e,by omega⟩)⟩
end Go.Proofs.YtljbbjpbefjpiaaGreatDoor.Abs.Jn
namespace Go.Proofs.YtljbbjpbefjpiaaGreatDoor.Abs.Jn
open Go.RowKit
set_option linter.all false
section
variable {p q:aA} {t:tG} {ts us vs:List tG} {N M D d:Int} {s w:cB} {n m:Nat} {x:Nd} {xs:List Nd} {ok:Prop}
theorem Sa (h:Ga ts x us) (hv:Lv p ts N) (hn:13<n):bD (eJ n p) λr=>GA p r.2/\Rs D (N+sz x) us r.2 (r.1=x):=by
 have hz:=iW x
 by_cases hN:N<16384
 ·have v1:=hv.node hN;have g1:=kF hv.pi;obtain ⟨c,hc⟩:∃d,n=d+4:=⟨n - 4,by omega⟩;unfold eJ;cases h with
  | @word t u k s v vs ht hu hk hs=>
    have v2:=(v1.name ht).2;have g2:=oT v1.pi;have v3:=v2.need hu;have g3:=dY v2.pi (s:=[58]);have hl:=λx y=>Dm v3.pi hn (c:=c) (x:=x) (y:=y);simp only [←hc] at hl;rw [iF hv.pi,bU,qF v1.pi hn,bU,eI v2.pi hn,bU,hl,bU,(v1.name ht).1,hv.tok];rw [fD,kM];have g4:=(gL v3.pi (s:=s)).1;have v4:=v3.take hs;have fin:Rs D (N+(1+0)) us (mD (mL (nA (eN p)).2 [58]) s) True:=.inl ⟨v4,trivial⟩
    rcases hk with ⟨rfl,rfl⟩ | ⟨rfl,rfl⟩ | ⟨rfl,rfl⟩
    ·rw [if_pos (v3.iB hs)];exact .some ⟨(g1.ga (g2.ga g3)).gd g4,fin.mono λ_=>rfl⟩
    ·rw [if_neg (by rw [v3.nB' λk=>absurd (hs.two k) (by decide)];decide),if_pos (v3.iB hs)];exact .some ⟨(g1.ga (g2.ga g3)).gd g4,fin.mono λ_=>rfl⟩
    ·rw [if_neg (by rw [v3.nB' λk=>absurd (hs.two k) (by decide)];decide),if_neg (by rw [v3.nB' λk=>absurd (hs.two k) (by decide)];decide),if_pos (v3.iB hs)];exact .some ⟨(g1.ga (g2.ga g3)).gd g4,fin.mono λ_=>rfl⟩
  | @arr t u v w x' ys ht hu hv1 hw hx=>
    have v2:=(v1.name ht).2;have g2:=oT v1.pi;have v3:=v2.need hu;have g3:=dY v2.pi (s:=[58]);have g5:=kF v3.pi;have g6:=GQ g5.inv;have hl:=λx y=>Dm v3.pi hn (c:=c) (x:=x) (y:=y);simp only [←hc] at hl;rw [iF hv.pi,bU,qF v1.pi hn,bU,eI v2.pi hn,bU,hl,bU,(v1.name ht).1,hv.tok];rw [if_neg (by rw [v3.nB' λk=>absurd (hv1.two k) (by decide)];decide),if_neg (by rw [v3.nB' λk=>absurd (hv1.two k) (by decide)];decide),if_neg (by rw [v3.nB' λk=>absurd (hv1.two k) (by decide)];decide)];simp only [Qj];rw [iF v3.pi,bU,GR g5.inv hn,bU,v3.tok];rw [fD,gW,fD,kM]
    by_cases hN2:N+1<16384
    ·have v5:=v3.node hN2;have v6:=v5.need hv1;have v7:=(v6.num hw).2;have v8:=v7.need hx;refine .some ⟨g1.ga (g2.ga (g3.ga (g5.ga g6))),.inl ⟨by rw [show N+(1+(1+0))=N+1+1 by omega];exact v8,?_⟩⟩;show (⟨3,t.eO,t.bQ,4,[⟨14,v.eO,[],(DY (mL (eN (mL (nA (eN p)).2 [58])) [91])).1,[]⟩]⟩:aB)=_;rw [(v6.num hw).1]
    ·obtain ⟨e1,e2⟩:=v3.full hN2;have e3:(eN (mL (nA (eN p)).2 [58])).e_=136:=by rw [e1];exact e2
     refine .some ⟨g1.ga (g2.ga (g3.ga (g5.ga g6))),.inr (.inl ⟨(g6.toGd.err' (by rw [e3];decide)).1.trans e3,by omega⟩)⟩
 ·obtain ⟨e1,e2⟩:=hv.full hN;obtain ⟨g1,_⟩:=DQ hv.pi (e:=136) (by decide);have hne:(mI p 136).e_ ≠ 0:=by rw [e2];decide
  have e:eJ n p=eJ n (mI p 136):=by
   unfold eJ;rw [iF hv.pi,iF g1.inv,bU,bU,e1,BA hne,yX]
  rw [e];exact (QF g1.inv hn).mono λr ⟨g,_⟩=>⟨g1.ga g,.inr (.inl ⟨(g.toGd.err' hne).1.trans e2,by omega⟩)⟩
def CPs (D:Int):Bool->List tG->List Nd->List tG->Prop
 | true,ts,xs,us=>∀(n:Nat) p N,13<n->Lv p ts N->(p.l_.length:Int) - p.fA<n->bD (cH n p) λr=>GA p r.2/\(r.1.length:Int)<=r.2.fA+1/\Rs D (N+pM xs) us r.2 (r.1=xs)
 | false,ts,xs,us=>∀(n c:Nat) p N l,13<n->Lv p ts N->(p.l_.length:Int) - p.fA<c->(l.length:Int)<=p.fA->bD (dO n c l p) λr=>Gd p r.2/\((∃u,pC u [41]/\Lv r.2 (u::us) (N+pM xs)/\r.1=l++xs) ∨ MS D (N+pM xs) r.2)
theorem sR.run {b:Bool} (h:sR b ts xs us):CPs D b ts xs us:=by
 induction h with
 | @none t u us ht hu=>
   intro n p N hn hv hb;have v1:=hv.need ht;have g1:=dY hv.pi (s:=[40]);have g2:=(gL v1.pi (s:=[41])).1;have k0:=g2.inv.lo;unfold cH;rw [eI hv.pi hn,bU,eU v1.pi hn,bU,if_pos (v1.iB hu)];exact .some ⟨g1.gd g2,by simp only [iT];omega,.inl ⟨by rw [kM,xeh];exact v1.take hu,rfl⟩⟩
 | @args t ts xs us ht hn1 h1 ih=>
   intro n p N hn hv hb;refine ((Nb hv.pi hn hb).and (P:=λr=>Rs D (N+pM xs) us r.2 (r.1=xs)) ?_).mono λr ⟨⟨g,l,_⟩,k⟩=>⟨g,l,k⟩;have v1:=hv.need ht;have g1:=dY hv.pi (s:=[40]);have k0:=v1.pi.lo;have k1:=g1.adv v1.e0;have h5:=v1.nB hn1;unfold cH;rw [eI hv.pi hn,bU,eU v1.pi hn,bU,h5,if_neg (by simp),mA h5];refine bD.bind (P:=λy=>Gd (mL p [40]) y.2/\((∃u,pC u [41]/\Lv y.2 (u::us) (N+pM xs)/\y.1=xs) ∨ MS D (N+pM xs) y.2)) ((ih n n _ N [] hn v1 (by rw [g1.toGd.len];omega) (by simpa using k0)).bind λy ⟨y1,y2⟩=>.some ⟨y1,y2⟩) λy ⟨g6,k6⟩=>?_;rw [eI g6.inv hn,bU];refine .some ?_
   rcases k6 with ⟨u,hu,v6,e⟩ | k6
   ·exact .inl ⟨v6.need hu,e⟩
   ·exact .inr (by rw [show (y.1,mL y.2 [41]).2=y.2 from BB k6.ne];exact k6)
 | @item ts x u us h1 hu=>
   have hu4:¬ pC u [44]:=λk=>absurd (hu.two k) (by decide);intro n c p N l hn hv hc hl;have k1:=hv.pi.lo;have k2:=hv.pi.hi;have k3:=hv.pi.big;obtain ⟨c,rfl⟩:∃e,c=e+1:=⟨c - 1,by omega⟩;unfold dO;rw [if_pos (by rw [hv.e0];decide)];refine (Sa (D:=D) h1 hv hn).bind λr ⟨g,k⟩=>?_;rw [dN (by simp only [mQ];omega),eU g.inv hn,bU];rw [gW]
   rcases k with ⟨v,e⟩ | k
   ·have h5:=v.nB' hu4;rw [h5,mA h5,if_pos (by simp)];exact .some ⟨g.toGd,.inl ⟨u,hu,v,by rw [e]⟩⟩
   ·rw [sJ k.ne,uO k.ne,if_pos (by simp)];exact .some ⟨g.toGd,.inr k⟩
 | @items ts x u us xs vs h1 hu h2 ih2=>
   have hz:=lY xs;intro n c p N l hn hv hc hl;have k1:=hv.pi.lo;have k2:=hv.pi.hi;have k3:=hv.pi.big;obtain ⟨c,rfl⟩:∃e,c=e+1:=⟨c - 1,by omega⟩;unfold dO;rw [if_pos (by rw [hv.e0];decide)];refine (Sa (D:=D) h1 hv hn).bind λr ⟨g,k⟩=>?_;rw [dN (by simp only [mQ];omega),eU g.inv hn,bU];rw [pO]
   rcases k with ⟨v,e⟩ | k
   ·have g2:=g.gd (gL v.pi (s:=[44])).1;have v2:=v.take hu;have a1:=g.at';have a2:=g2.adv v2.e0;have a3:=g2.toGd.len;rw [v.iB hu,if_neg (by simp)];refine (ih2 n c _ _ (l++[r.1]) hn v2 (by omega) (by simp only [mK,mQ];omega)).mono λw ⟨g5,k5⟩=>⟨g2.toGd.trans g5,?_⟩;rw [xej] at k5
    rcases k5 with ⟨u',hu',v',e'⟩ | k5
    ·exact .inl ⟨u',hu',v',by rw [e',e];simp⟩
    ·exact .inr k5
   ·rw [sJ k.ne,uO k.ne,if_pos (by simp)];exact .some ⟨g.toGd,.inr (k.mono (by omega))⟩
theorem ctail (hD:D<=1099511627776) (hD0:0<=D) {t u:tG} {us vs ws ys:List tG} {b:Nd} {k at0 n0 n2 n4:Int} (ht:pC t [102,110]) (hu:GW u) (h1:sR true us xs vs) (h2:ED vs k ws) (h3:DS D .block 1 ws [b] ys) (hv:Lv p (t::u::us) N) (hb:Lf p+46<=n) (e2:n2=2+n0) (e4:n4=4+n0) :
  bD (Na n p at0 n0 n2 n4) λr=>GA p r.2/\Rs D (N+pM xs+sz b) ys r.2 (r.1=⟨2,at0,u.bQ,k+n0,xs++[b]⟩):=by
 have hn:13<n:=by have:=hv.pi.lf;omega
 have v1:=hv.need ht;have v2:=(v1.name hu).2;have g1:=dY hv.pi (s:=[102,110]);have g2:=oT v1.pi;have g3:=g1.ga g2;have ih:=h3.run hD;unfold Na;rw [eI hv.pi hn,bU,qF v1.pi hn,bU,(v1.name hu).1];refine (h1.run (D:=D) n _ _ hn v2 (by have:=g3.toGd.lf;have:=hv.pi.hi;have:=v2.pi.hi;unfold Lf at *;omega)).bind λw ⟨g7,hw,k7⟩=>?_;have g8:=g3.ga g7;have k8:=g8.inv.hi;have k9:=g8.inv.big;have l8:=g8.toGd.lf;rw [eU g7.inv hn,bU]
 have plain:oV w.2 [45,62]=false->(k7':Rs D (N+pM xs) ws w.2 (w.1=xs/\k=0))->bD (if (oV w.2 [45,62],mD w.2 [45,62]).1=true then
   (bE n (oV w.2 [45,62],mD w.2 [45,62]).2 [117,51,50]).bind λx17=>
     if x17.1=true then (bN n x17.2 1).bind λx20=>iU (w.1.length+[x20.1].length<=1073741824) (some (⟨2,at0,u.bQ,n2,w.1++[x20.1]⟩,x20.2))
     else (aX n x17.2 [117,54,52]).bind λx25=>(bN n x25 1).bind λx27=>iU (w.1.length+[x27.1].length<=1073741824) (some (⟨2,at0,u.bQ,n4,w.1++[x27.1]⟩,x27.2))
   else (bN n (oV w.2 [45,62],mD w.2 [45,62]).2 1).bind λx32=>iU (w.1.length+[x32.1].length<=1073741824) (some (⟨2,at0,u.bQ,n0,w.1++[x32.1]⟩,x32.2)):Option (aB × aA)) λr=>GA p r.2/\Rs D (N+pM xs+sz b) ys r.2 (r.1=⟨2,at0,u.bQ,k+n0,xs++[b]⟩):=by
  intro hf k7';rw [hf,mA hf,if_neg (by simp)];refine (k7'.block g7.inv ih (by omega) (by omega) (by omega)).bind λz ⟨g11,k11⟩=>bD.need (by simp only [mQ];omega) (.some ⟨g8.ga g11,k11.mono λ⟨⟨e1,e3⟩,e5⟩=>by rw [e1,e3,e5,Int.zero_add]⟩)
 rcases k7 with ⟨v7,e7⟩ | k7
 ·cases h2 with
  | none h=>exact plain (v7.nB h) (.inl ⟨v7,e7,rfl⟩)
  | @short t' u' us' ht' hu'=>
    have v8:=v7.take ht';have g9:=(gL v7.pi (s:=[45,62])).1;have g10:=(gL v8.pi (s:=[117,51,50])).1;have l9:=g9.lf;have l10:=g10.lf;rw [v7.iB ht',if_pos rfl,eU v8.pi hn,bU,v8.iB hu',if_pos rfl];refine ((show Rs D _ _ _ True from .inl ⟨v8.take hu',trivial⟩).block g10.inv ih (by omega) (by omega) (by omega)).bind λz ⟨g11,k11⟩=>bD.need (by simp only [mQ];omega) (.some ⟨(g8.gd (g9.trans g10)).ga g11,k11.mono λ⟨_,e5⟩=>by rw [e7,e5,e2]⟩)
  | @long t' u' us' ht' hu'=>
    have v8:=v7.take ht';have g9:=(gL v7.pi (s:=[45,62])).1;have g10:=dY v8.pi (s:=[117,54,52]);have l9:=g9.lf;have l10:=g10.toGd.lf;have hf:=v8.nB' (s:=[117,51,50]) λk=>absurd (hu'.two k) (by decide);rw [v7.iB ht',if_pos rfl,eU v8.pi hn,bU,hf,if_neg (by simp),mA hf,eI v8.pi hn,bU];refine ((show Rs D _ _ _ True from .inl ⟨v8.need hu',trivial⟩).block g10.inv ih (by omega) (by omega) (by omega)).bind λz ⟨g11,k11⟩=>bD.need (by simp only [mQ];omega) (.some ⟨(g8.gd g9).ga (g10.ga g11),k11.mono λ⟨_,e5⟩=>by rw [e7,e5,e4]⟩)
 ·exact plain (sJ k7.ne) (.inr k7)
theorem DF.run (hD:D<=1099511627776) (hD0:0<=D) (h:DF D ts x us) (hv:Lv p ts N) (hb:Lf p+46<=n):bD (eC n p) λr=>GA p r.2/\Rs D (N+sz x) us r.2 (r.1=x):=by
 have hn:13<n:=by have:=hv.pi.lf;omega
 have hz:=iW x
 by_cases hN:N<16384
 ·have v1:=hv.node hN;have g1:=kF hv.pi;have g2:=(gL v1.pi (s:=[101,120,112,111,114,116])).1;have l1:=g1.lf;have l2:=g2.lf;rw [yO,iF hv.pi,bU];simp only;rw [eU v1.pi hn,bU];simp only;cases h with
  | @plain t u us' xs vs r ws b ys ht hu h1 h2 h3=>
    have hf:=v1.nB' (s:=[101,120,112,111,114,116]) λk=>absurd (ht.two k) (by decide);rw [hf,if_neg (by simp),mA hf,hv.tok,fD,Aw,gW];refine bD.mono (ctail hD hD0 (at0:=t.eO) (n0:=0) (n2:=2) (n4:=4) ht hu h1 h2 h3 v1 (by omega) rfl rfl) λr' ⟨g,k⟩=>⟨g1.ga g,(k.mono λe=>by rw [e,xeh]).cast (by omega)⟩
  | @exp e' t u us' xs vs r ws b ys he ht hu h1 h2 h3=>
    rw [v1.iB he,if_pos rfl,hv.tok,fD,Aw,gW];refine bD.mono (ctail hD hD0 (at0:=e'.eO) (n0:=1) (n2:=3) (n4:=5) ht hu h1 h2 h3 (v1.take he) (by omega) rfl rfl) λr' ⟨g,k⟩=>⟨g1.ga (g2.ga g),k.cast (by omega)⟩
 ·obtain ⟨e1,e2⟩:=hv.full hN;obtain ⟨g1,_⟩:=DQ hv.pi (e:=136) (by decide);have l1:=g1.lf;have hne:(mI p 136).e_ ≠ 0:=by rw [e2];decide
  have e:eC n p=eC n (mI p 136):=by
   rw [yO,yO,iF hv.pi,iF g1.inv,bU,bU,e1,BA hne,yX]
  rw [e];exact (Cx g1.inv (by omega)).mono λr g=>⟨g1.ga g,.inr (.inl ⟨(g.toGd.err' hne).1.trans e2,by omega⟩)⟩
theorem DF.hd (h:DF D ts x us):∃t r,ts=t::r/\t.bT ≠ 4:=by
 cases h with
 | plain ht=>exact ⟨_,_,rfl,by rcases ht.2 with h | h <;> omega⟩
 | exp ht=>exact ⟨_,_,rfl,by rcases ht.2 with h | h <;> omega⟩
theorem Kf.run (hD:D<=1099511627776) (hD0:0<=D) (h:Kf D ts xs us):∀z,us=[z]->z.bT=4->∀(c:Nat) p N x,Lv p ts N->Lf p+46<=n->(p.l_.length:Int) - p.fA<c->(x.aL.length:Int)<=p.fA->bD (lJ n c p x) λr=>Gd p r.1/\Rs D (N+pM xs) us r.1 (r.2={ x with aL:=x.aL++xs }):=by
 induction h with
 | @nil ts=>
   intro z hz hk c p N x hv hb hc hl;subst hz;have k2:=hv.pi.hi;obtain ⟨c,rfl⟩:∃e,c=e+1:=⟨c - 1,by omega⟩;unfold lJ;rw [sE hv.pi,hv.tok,hv.e0,if_pos (by simp),bU,bU,hk,if_neg (by simp)];exact .some ⟨.refl hv.pi,.inl ⟨by rw [kM,xeh];exact hv,by rw [jR];cases x;rfl⟩⟩
 | @cons ts y us xs vs h1 h2 ih=>
   intro z hz hk c p N x hv hb hc hl;have k1:=hv.pi.lo;have k2:=hv.pi.hi;have k3:=hv.pi.big;obtain ⟨c,rfl⟩:∃e,c=e+1:=⟨c - 1,by omega⟩;obtain ⟨t,r',e,hk'⟩:=h1.hd;unfold lJ;rw [sE hv.pi,hv.e0,if_pos (by simp),bU,bU,if_pos (by subst e;rw [hv.tok];simpa using hk')];refine (h1.run hD hD0 hv hb).bind λr ⟨g,k⟩=>?_;have m1:=g.at';have m5:=g.inv.hi;have m6:=g.toGd.len;have l1:=g.toGd.lf;have hz':=lY xs;rw [pO,dN (by simp only [mQ];omega)]
   rcases k with ⟨v,e⟩ | k
   ·have m7:=g.adv v.e0;rw [e];refine (ih z hz hk c r.2 _ _ v (by omega) (by omega) (by simp only [mK,mQ];omega)).mono λw ⟨g5,k5⟩=>⟨g.toGd.trans g5,?_⟩;exact (k5.mono λe=>by rw [e];simp).cast (by omega)
   ·have m8:=hv.pi.lf
    by_cases hc0:c=0
    ·exfalso
     unfold Lf at m8;subst hc0;omega
    obtain ⟨c,rfl⟩:∃e,c=e+1:=⟨c - 1,by omega⟩;unfold lJ;rw [if_neg (by simpa using k.ne),bU,if_neg (by simp)];exact .some ⟨g.toGd,.inr (k.mono (by omega))⟩
end
theorem cParse {n:Nat} {s:cB} {D:Int} (hD:D<=1099511627776) (hD0:0<=D) (hn:16*s.length+200<n) {l:List tG} {w:Int} {fs:List Nd} {z:tG} (hl:mV n s=some (l,0,w)) (hd:Kf D l fs [z]) (hz:z.bT=4):bD (mG n s) λr=>(∃t us,l=t::us/\r=(⟨1,t.eO,[],0,fs⟩,0,0)/\1+pM fs<=16384) ∨ (r.2.1=136/\16384<1+pM fs) ∨ (r.2.1=111/\64<D):=by
 unfold mG;obtain ⟨x,ex,hx⟩:=EC (n:=n) (s:=s) (by omega) (by omega);rw [hl] at ex;cases ex;rw [hl,bU,if_neg (by simp)];obtain ⟨l',h2,h3,h4,h5⟩:=hx rfl;have hp:PI (aA.mk l 0 0 0 0):=⟨by simp only;omega,by simp only;rw [show l=_ from h2];simp only [mK,mQ];omega,by simp only;rw [show l=_ from h2];simp only [mK,mQ];omega,⟨l',_,h2,h3,rfl⟩⟩
 have hlf:Lf (aA.mk l 0 0 0 0)<=16*s.length+16:=by
  unfold Lf;simp only;rw [show l=_ from h2];simp only [mK,mQ];omega
 have hv:Lv (aA.mk l 0 0 0 0) l 0:=⟨hp,rfl,rfl,rfl,by omega,by omega⟩;have v1:=hv.node (by omega);have g1:=kF hp;have l1:=g1.lf;have k0:=g1.inv.lo;have k1:=g1.inv.hi;rw [iF hp,bU];refine (hd.run hD hD0 z rfl hz n _ _ ⟨1,(jE (aA.mk l 0 0 0 0)).eO,[],0,[]⟩ v1 (by omega) (by unfold Lf at l1 hlf;omega) (by simpa using k0)).bind λy ⟨g2,k2⟩=>?_;have hN:(0:Int)+1+pM fs=1+pM fs:=by omega
 rcases k2 with ⟨v,e⟩ | k2
 ·rw [if_neg (by rw [v.e0];decide)];refine .some (.inl ⟨_,_,by have:=uP hp;exact this,?_,by have:=v.hi;omega⟩);rw [e];rfl
 ·rw [if_pos (by simpa using k2.ne)];rw [hN] at k2;exact .some (.inr k2)
end Go.Proofs.YtljbbjpbefjpiaaGreatDoor.Abs.Jn
namespace Go.Proofs.YtljbbjpbefjpiaaGreatDoor.Abs.Jn
open Go.RowKit
set_option linter.all false
def Kj (d:Int) (t:tG):tG:={ t with eO:=t.eO+d }
mutual
def Ov (d:Int):Nd->Nd
 | ⟨k,a,t,n,l⟩=>⟨k,a+d,t,n,shL d l⟩
def shL (d:Int):List Nd->List Nd
 | []=>[]
 | x::l=>Ov d x::shL d l
end
theorem shL_map (d:Int) (l:List Nd):shL d l=l.map (Ov d):=by
 induction l with
 | nil=>rw [shL];rfl
 | cons x l ih=>rw [shL,ih];rfl
theorem qI (d k a:Int) (t:cB) (n:Int) (l:List Nd):Ov d ⟨k,a,t,n,l⟩=⟨k,a+d,t,n,l.map (Ov d)⟩:=by rw [Ov,shL_map]
theorem Cv {d:Int} {ts:List tG} {s:cB}:Iv (ts.map (Kj d)) s ↔ Iv ts s:=by
 cases ts with
 | nil=>exact Iff.rfl
 | cons t ts=>
   constructor
   ·rintro ⟨u,r,e,h⟩;rw [iG] at e
    injection e with e1 e2
    rw [←e1] at h;exact ⟨_,_,rfl,h⟩
   ·rintro ⟨u,r,e,h⟩
    injection e with e1 e2
    rw [e1];exact ⟨_,_,rfl,h⟩
def shK (d:Int):EK->EK
 | .tail l x=>.tail l (Ov d x)
 | k=>k
theorem DE.sh {D:Int} {K a ts xs us} (d:Int) (h:DE D K a ts xs us):DE D (shK d K) a (ts.map (Kj d)) (xs.map (Ov d)) (us.map (Kj d)):=by
 induction h with
 | paren hd ht h1 hu ih=>exact .paren hd ht ih hu
 | un hd hs ht h1 ih=>simp only [iG,jA,qI];exact .un hd hs ht ih
 | num hd hk=>simp only [iG,jA,qI];exact .num hd hk
 | ref hd hk h1 h2=>simp only [iG,jA,qI];exact .ref hd hk (λk=>h1 (Cv.1 k)) (λk=>h2 (Cv.1 k))
 | call hd hk h1 ih=>simp only [iG,jA,qI];exact .call hd hk ih
 | index hd hk hu h1 hv ih=>simp only [iG,jA,qI];exact .index hd hk hu ih hv
 | last h1 ih=>exact .last ih
 | lev hl h1 h2 ih1 ih2=>exact .lev hl ih1 ih2
 | stop hl hn=>exact .stop hl λs h1 h2 k=>hn s h1 h2 (Cv.1 k)
 | one hs hne hu h1 ih=>simp only [iG,jA,qI];exact .one hs hne hu ih
 | more hl h3 hs hne hu h1 h2 ih1 ih2=>
   simp only [shK,iG,jA,qI] at ih2;exact .more hl h3 hs hne hu ih1 ih2
 | none ht hu=>exact .none ht hu
 | args ht hn h1 ih=>exact .args ht (λk=>hn (Cv.1 k)) ih
 | item h1 hu ih=>exact .item ih hu
 | items h1 hu h2 ih1 ih2=>exact .items ih1 hu ih2
theorem DS.sh {D:Int} {K a ts xs us} (d:Int) (h:DS D K a ts xs us):DS D K a (ts.map (Kj d)) (xs.map (Ov d)) (us.map (Kj d)):=by
 induction h with
 | block hd ht h1 hu ih=>simp only [iG,jA,qI];exact .block hd ht ih hu
 | nil h1=>exact .nil (Cv.2 h1)
 | cons h1 h2 h3 ih1 ih2=>exact .cons (λk=>h1 (Cv.1 k)) ih1 ih2
 | bind hk ht hu hv h1 hw=>simp only [iG,jA,qI];exact .bind hk ht hu hv (h1.sh d) hw
 | arr ht hu hv hw hz hy=>simp only [iG,jA,qI];exact .arr ht hu hv hw hz hy
 | ret ht h1 hu=>simp only [iG,jA,qI];exact .ret ht (h1.sh d) hu
 | choice ht h1 h2 hn ih=>simp only [iG,jA,qI];exact .choice ht (h1.sh d) ih (λk=>hn (Cv.1 k))
 | choice2 ht h1 h2 he h3 ih1 ih2=>simp only [iG,jA,qI];exact .choice2 ht (h1.sh d) ih1 he ih2
 | loop ht hu hv h1 hw h2 h3 ih=>simp only [iG,jA,qI];exact .loop ht hu hv (h1.sh d) hw (h2.sh d) ih
 | call ht h1 hu=>simp only [iG,jA,qI];exact .call ht (h1.sh d) hu
 | put ht hu h1 hv hw h2 hy=>simp only [iG,jA,qI];exact .put ht hu (h1.sh d) hv hw (h2.sh d) hy
 | set ht hu h1 hv=>simp only [iG,jA,qI];exact .set ht hu (h1.sh d) hv
theorem Ga.sh {ts x us} (d:Int) (h:Ga ts x us):Ga (ts.map (Kj d)) (Ov d x) (us.map (Kj d)):=by
 cases h with
 | word ht hu hk hs=>simp only [iG,jA,qI];exact .word ht hu hk hs
 | arr ht hu hv hw hx=>simp only [iG,jA,qI];exact .arr ht hu hv hw hx
theorem sR.sh {b ts xs us} (d:Int) (h:sR b ts xs us):sR b (ts.map (Kj d)) (xs.map (Ov d)) (us.map (Kj d)):=by
 induction h with
 | none ht hu=>exact .none ht hu
 | args ht hn h1 ih=>exact .args ht (λk=>hn (Cv.1 k)) ih
 | item h1 hu=>exact .item (h1.sh d) hu
 | items h1 hu h2 ih=>exact .items (h1.sh d) hu ih
theorem ED.sh {ts k us} (d:Int) (h:ED ts k us):ED (ts.map (Kj d)) k (us.map (Kj d)):=by
 cases h with
 | none h=>exact .none λk=>h (Cv.1 k)
 | short ht hu=>exact .short ht hu
 | long ht hu=>exact .long ht hu
theorem DF.sh {D ts x us} (d:Int) (h:DF D ts x us):DF D (ts.map (Kj d)) (Ov d x) (us.map (Kj d)):=by
 cases h with
 | plain ht hu h1 h2 h3=>
   simp only [iG,qI,MW,jA];exact .plain ht hu (h1.sh d) (h2.sh d) (h3.sh d)
 | exp he ht hu h1 h2 h3=>
   simp only [iG,qI,MW,jA];exact .exp he ht hu (h1.sh d) (h2.sh d) (h3.sh d)
theorem Kf.sh {D ts xs us} (d:Int) (h:Kf D ts xs us):Kf D (ts.map (Kj d)) (xs.map (Ov d)) (us.map (Kj d)):=by
 induction h with
 | nil=>exact .nil
 | cons h1 h2 ih=>exact .cons (h1.sh d) ih
def LA (us us':List tG):Prop:=∀s,Iv us s ↔ Iv us' s
theorem LA.cons {t:tG} {us us':List tG}:LA (t::us) (t::us'):=by
 intro s
 constructor <;> (rintro ⟨u,r,e,h⟩;cases e;exact ⟨_,_,rfl,h⟩)
theorem LA.app {w us us':List tG} (h:LA us us'):LA (w++us) (w++us'):=by
 cases w with
 | nil=>exact h
 | cons t w=>exact .cons
theorem DE.pre {D:Int} {K a ts xs us} (h:DE D K a ts xs us):∃w,ts=w++us/\∀us',LA us us'->DE D K a (w++us') xs us':=by
 induction h with
 | @paren d t ts x u us hd ht h1 hu ih=>
   obtain ⟨w,rfl,ih⟩:=ih;refine ⟨t::(w++[u]),by simp,λus' _=>?_⟩;rw [iC,xM];exact .paren hd ht (ih (u::us') .cons) hu
 | @un d t s ts x us hd hs ht h1 ih=>
   obtain ⟨w,rfl,ih⟩:=ih;exact ⟨t::w,rfl,λus' hl=>.un hd hs ht (ih us' hl)⟩
 | @num d t ts hd hk=>exact ⟨[t],rfl,λus' hl=>.num hd hk⟩
 | @ref d t ts hd hk h1 h2=>exact ⟨[t],rfl,λus' hl=>.ref hd hk (λk=>h1 ((hl _).2 k)) (λk=>h2 ((hl _).2 k))⟩
 | @call d t ts xs us hd hk h1 ih=>
   obtain ⟨w,rfl,ih⟩:=ih;exact ⟨t::w,rfl,λus' hl=>.call hd hk (ih us' hl)⟩
 | @index d t u us x v vs hd hk hu h1 hv ih=>
   obtain ⟨w,rfl,ih⟩:=ih;refine ⟨t::u::(w++[v]),by simp,λus' _=>?_⟩;rw [iC,iC,xM];exact .index hd hk hu (ih (v::us') .cons) hv
 | last h1 ih=>
   obtain ⟨w,rfl,ih⟩:=ih;exact ⟨w,rfl,λus' hl=>.last (ih us' hl)⟩
 | lev hl h1 h2 ih1 ih2=>
   obtain ⟨w2,rfl,ih2⟩:=ih2;obtain ⟨w1,rfl,ih1⟩:=ih1;refine ⟨w1++w2,by rw [xM],λus' hl'=>?_⟩;rw [xM];exact .lev hl (ih1 _ hl'.app) (ih2 us' hl')
 | stop hl hn=>exact ⟨[],rfl,λus' hl'=>.stop hl λs h1 h2 k=>hn s h1 h2 ((hl' _).2 k)⟩
 | @one s x d u us y vs hs hne hu h1 ih=>
   obtain ⟨w,rfl,ih⟩:=ih;exact ⟨u::w,rfl,λus' hl=>.one hs hne hu (ih us' hl)⟩
 | @more l s x d u us y vs z ws hl h3 hs hne hu h1 h2 ih1 ih2=>
   obtain ⟨w2,rfl,ih2⟩:=ih2;obtain ⟨w1,rfl,ih1⟩:=ih1;refine ⟨u::(w1++w2),by simp,λus' hl'=>?_⟩;rw [iC,xM];exact .more hl h3 hs hne hu (ih1 _ hl'.app) (ih2 us' hl')
 | @none d t u us ht hu=>exact ⟨[t,u],rfl,λus' _=>.none ht hu⟩
 | @args d t ts xs us ht hn h1 ih=>
   obtain ⟨w,rfl,ih⟩:=ih;refine ⟨t::w,rfl,λus' hl=>.args ht (λk=>hn ((hl.app _).2 k)) (ih us' hl)⟩
 | @item d ts x u us h1 hu ih=>
   obtain ⟨w,rfl,ih⟩:=ih;refine ⟨w++[u],by simp,λus' _=>?_⟩;rw [xM];exact .item (ih (u::us') .cons) hu
 | @items d ts x u us xs vs h1 hu h2 ih1 ih2=>
   obtain ⟨w2,rfl,ih2⟩:=ih2;obtain ⟨w1,rfl,ih1⟩:=ih1;refine ⟨w1++u::w2,by simp,λus' hl=>?_⟩;rw [xM];exact .items (ih1 (u::(w2++us')) .cons) hu (ih2 us' hl)
theorem DS.pre {D:Int} {K a ts xs us} (h:DS D K a ts xs us):∃w,ts=w++us/\∀us',(K=.block ∨ LA us us')->DS D K a (w++us') xs us':=by
 induction h with
 | @block d t ts xs u us hd ht h1 hu ih=>
   obtain ⟨w,rfl,ih⟩:=ih;refine ⟨t::(w++[u]),by simp,λus' _=>?_⟩;rw [iC,xM];exact .block hd ht (ih (u::us') (.inr .cons)) hu
 | nil h1=>
   refine ⟨[],rfl,λus' hl=>.nil ?_⟩
   rcases hl with hl | hl
   ·cases hl
   ·exact (hl _).1 h1
 | cons h1 h2 h3 ih1 ih2=>
   obtain ⟨w2,rfl,ih2⟩:=ih2;obtain ⟨w1,rfl,ih1⟩:=ih1;refine ⟨w1++w2,by rw [xM],λus' hl=>?_⟩
   rcases hl with hl | hl
   ·cases hl
   rw [xM];exact .cons (λk=>h1 ((hl.app.app _).2 k)) (ih1 _ (.inr hl.app)) (ih2 us' (.inr hl))
 | @bind d t k s u v vs x w ws hk ht hu hv h1 hw=>
   obtain ⟨w1,rfl,ih⟩:=h1.pre;refine ⟨t::u::v::(w1++[w]),by simp,λus' _=>?_⟩;rw [iC,iC,iC,xM];exact .bind hk ht hu hv (ih (w::us') .cons) hw
 | @arr d t u v w z y ys ht hu hv hw hz hy=>exact ⟨[t,u,v,w,z,y],rfl,λus' _=>.arr ht hu hv hw hz hy⟩
 | @ret d t ts x u us ht h1 hu=>
   obtain ⟨w1,rfl,ih⟩:=h1.pre;refine ⟨t::(w1++[u]),by simp,λus' _=>?_⟩;rw [iC,xM];exact .ret ht (ih (u::us') .cons) hu
 | @choice d t ts c us b vs ht h1 h2 hn ih=>
   obtain ⟨w2,rfl,ih⟩:=ih;obtain ⟨w1,rfl,ih1⟩:=h1.pre;refine ⟨t::(w1++w2),by simp,λus' hl=>?_⟩
   rcases hl with hl | hl
   ·cases hl
   rw [iC,xM];exact .choice ht (ih1 _ hl.app) (ih us' (.inl rfl)) (λk=>hn ((hl _).2 k))
 | @choice2 d t ts c us b v vs b' ws ht h1 h2 he h3 ih1 ih2=>
   obtain ⟨w3,rfl,ih3⟩:=ih2;obtain ⟨w2,rfl,ih2⟩:=ih1;obtain ⟨w1,rfl,ih1⟩:=h1.pre;refine ⟨t::(w1++(w2++v::w3)),by simp,λus' hl=>?_⟩;rw [iC,xM,xM];have e:LA (w2++v::(w3++ws)) (w2++v::(w3++us')):=LA.app .cons;exact .choice2 ht (ih1 _ e) (ih2 (v::(w3++us')) (.inl rfl)) he (ih3 us' (.inl rfl))
 | @loop d t u v vs a w ws b xs k ys ht hu hv h1 hw h2 h3 ih=>
   obtain ⟨w3,rfl,ih3⟩:=ih;obtain ⟨w2,rfl,ih2⟩:=h2.pre;obtain ⟨w1,rfl,ih1⟩:=h1.pre;refine ⟨t::u::v::(w1++w::(w2++w3)),by simp,λus' hl=>?_⟩;rw [iC,iC,iC,xM,iC,xM]
   rcases hl with hl | hl
   ·cases hl
   exact .loop ht hu hv (ih1 _ .cons) hw (ih2 _ hl.app) (ih3 us' (.inl rfl))
 | @call d t ts xs u us ht h1 hu=>
   obtain ⟨w1,rfl,ih⟩:=h1.pre;refine ⟨t::(w1++[u]),by simp,λus' _=>?_⟩;rw [iC,xM];exact .call ht (ih (u::us') .cons) hu
 | @put d t u us i v w ws x y ys ht hu h1 hv hw h2 hy=>
   obtain ⟨w2,rfl,ih2⟩:=h2.pre;obtain ⟨w1,rfl,ih1⟩:=h1.pre;refine ⟨t::u::(w1++v::w::(w2++[y])),by simp,λus' _=>?_⟩;rw [iC,iC,xM,iC,iC,xM];exact .put ht hu (ih1 _ .cons) hv hw (ih2 (y::us') .cons) hy
 | @set d t u us x v vs ht hu h1 hv=>
   obtain ⟨w1,rfl,ih⟩:=h1.pre;refine ⟨t::u::(w1++[v]),by simp,λus' _=>?_⟩;rw [iC,iC,xM];exact .set ht hu (ih (v::us') .cons) hv
theorem Ga.pre {ts x us} (h:Ga ts x us):∃w,ts=w++us/\∀us',Ga (w++us') x us':=by
 cases h with
 | @word t u k s v vs ht hu hk hs=>exact ⟨[t,u,v],rfl,λus'=>.word ht hu hk hs⟩
 | @arr t u v w x xs ht hu hv hw hx=>exact ⟨[t,u,v,w,x],rfl,λus'=>.arr ht hu hv hw hx⟩
theorem sR.pre {b ts xs us} (h:sR b ts xs us):∃w,ts=w++us/\∀us',LA us us'->sR b (w++us') xs us':=by
 induction h with
 | @none t u us ht hu=>exact ⟨[t,u],rfl,λus' _=>.none ht hu⟩
 | @args t ts xs us ht hn h1 ih=>
   obtain ⟨w,rfl,ih⟩:=ih;exact ⟨t::w,rfl,λus' hl=>.args ht (λk=>hn ((hl.app _).2 k)) (ih us' hl)⟩
 | @item ts x u us h1 hu=>
   obtain ⟨w,rfl,ih⟩:=h1.pre;refine ⟨w++[u],by simp,λus' _=>?_⟩;rw [xM];exact .item (ih (u::us')) hu
 | @items ts x u us xs vs h1 hu h2 ih2=>
   obtain ⟨w2,rfl,ih2⟩:=ih2;obtain ⟨w1,rfl,ih1⟩:=h1.pre;refine ⟨w1++u::w2,by simp,λus' hl=>?_⟩;rw [xM];exact .items (ih1 (u::(w2++us'))) hu (ih2 us' hl)
theorem ED.pre {ts k us} (h:ED ts k us):∃w,ts=w++us/\∀us',LA us us'->ED (w++us') k us':=by
 cases h with
 | none h=>exact ⟨[],rfl,λus' hl=>.none λk=>h ((hl _).2 k)⟩
 | @short t u us ht hu=>exact ⟨[t,u],rfl,λus' _=>.short ht hu⟩
 | @long t u us ht hu=>exact ⟨[t,u],rfl,λus' _=>.long ht hu⟩
theorem DS.block_hd {D:Int} {a ts xs us} (h:DS D .block a ts xs us):∃t r,ts=t::r:=by
 cases h with
 | block hd ht h1 hu=>exact ⟨_,_,rfl⟩
theorem DF.pre {D ts x us} (h:DF D ts x us):∃w,ts=w++us/\∀us',DF D (w++us') x us':=by
 have key:∀ {us1:List tG} {xs vs k ws b ys},sR true us1 xs vs->ED vs k ws->DS D .block 1 ws [b] ys->∃w1 w2 w3,us1=w1++(w2++(w3++ys))/\∀us',sR true (w1++(w2++(w3++us'))) xs (w2++(w3++us'))/\ED (w2++(w3++us')) k (w3++us')/\DS D .block 1 (w3++us') [b] us':=by
  intro us1 xs vs k ws b ys h1 h2 h3;obtain ⟨t,r,e⟩:=h3.block_hd;obtain ⟨w3,rfl,i3⟩:=h3.pre;obtain ⟨w2,rfl,i2⟩:=h2.pre;obtain ⟨w1,rfl,i1⟩:=h1.pre;refine ⟨w1,w2,w3,rfl,λus'=>?_⟩
  have hla:LA (w3++ys) (w3++us'):=by
   cases w3 with
   | cons t w=>exact .cons
   | nil=>
     exfalso
     have:=i3 [] (.inl rfl);obtain ⟨t,r,e⟩:=this.block_hd;cases e
  exact ⟨i1 _ hla.app,i2 _ hla,i3 us' (.inl rfl)⟩
 cases h with
 | @plain t u us1 xs vs k ws b ys ht hu h1 h2 h3=>
   obtain ⟨w1,w2,w3,rfl,hk⟩:=key h1 h2 h3;refine ⟨t::u::(w1++(w2++w3)),by simp,λus'=>?_⟩;rw [iC,iC,xM,xM];exact .plain ht hu (hk us').1 (hk us').2.1 (hk us').2.2
 | @exp e t u us1 xs vs k ws b ys he ht hu h1 h2 h3=>
   obtain ⟨w1,w2,w3,rfl,hk⟩:=key h1 h2 h3;refine ⟨e::t::u::(w1++(w2++w3)),by simp,λus'=>?_⟩;rw [iC,iC,iC,xM,xM];exact .exp he ht hu (hk us').1 (hk us').2.1 (hk us').2.2
theorem Kf.pre {D ts xs us} (h:Kf D ts xs us):∃w,ts=w++us/\∀us',Kf D (w++us') xs us':=by
 induction h with
 | nil=>exact ⟨[],rfl,λ_=>.nil⟩
 | cons h1 h2 ih=>
   obtain ⟨w2,rfl,ih2⟩:=ih;obtain ⟨w1,rfl,ih1⟩:=h1.pre;refine ⟨w1++w2,by rw [xM],λus'=>?_⟩;rw [xM];exact .cons (ih1 _) (ih2 us')
theorem Kf.app {D ts xs us ys vs} (h:Kf D ts xs us) (k:Kf D us ys vs):Kf D ts (xs++ys) vs:=by
 induction h with
 | nil=>exact k
 | cons h1 h2 ih=>exact .cons h1 (ih k)
end Go.Proofs.YtljbbjpbefjpiaaGreatDoor.Abs.Jn
namespace Go.Proofs.YtljbbjpbefjpiaaGreatDoor.Abs.Jn
open Go.RowKit
set_option linter.all false
theorem Fe (l:cB) (c:UInt8):Lib.indexByte l c=-1 ∨ ∃o:Nat,Lib.indexByte l c=o/\o<l.length:=by
 induction l with
 | nil=>exact .inl rfl
 | cons b l ih=>
   unfold Lib.indexByte
   by_cases hb:(b == c)=true
   ·rw [if_pos hb];exact .inr ⟨0,rfl,by simp⟩
   ·rw [if_neg hb]
    rcases ih with ih | ⟨o,ih,ho⟩
    ·rw [ih];exact .inl rfl
    ·rw [ih,if_neg (by simp only [beq_iff_eq];omega)];exact .inr ⟨o+1,by omega,by rw [gK];omega⟩
theorem ib_app {l r:cB} {c:UInt8} {o:Nat} (h:Lib.indexByte l c=o):Lib.indexByte (l++r) c=o:=by
 induction l generalizing o with
 | nil=>unfold Lib.indexByte at h;omega
 | cons b l ih=>
   rw [iC];unfold Lib.indexByte at h ⊢
   by_cases hb:(b == c)=true
   ·rw [if_pos hb] at h ⊢;exact h
   ·rw [if_neg hb] at h ⊢
    rcases Fe l c with e | ⟨o',e,_⟩
    ·rw [e,if_pos (by decide)] at h;omega
    ·rw [ih e];rw [e] at h;exact h
theorem ib_end {l r:cB} {c:UInt8} (h:Lib.indexByte l c=-1):Lib.indexByte (l++c::r) c=(l.length:Int):=by
 induction l with
 | nil=>unfold Lib.indexByte;rw [iV];simp
 | cons b l ih=>
   rw [iC];unfold Lib.indexByte at h ⊢
   by_cases hb:(b == c)=true
   ·rw [if_pos hb] at h;omega
   ·rw [if_neg hb] at h ⊢
    rcases Fe l c with e | ⟨o',e,_⟩
    ·rw [ih e,if_neg (by simp only [beq_iff_eq];omega),gK];omega
    ·rw [e,if_neg (by simp only [beq_iff_eq];omega)] at h;omega
inductive Sk (s:cB):Nat->Nat->Prop
 | out:Sk s s.length s.length
 | bl {v k x}:s[v]? = some x->FO x.toNat=true->Sk s (v+1) k->Sk s v k
 | rem {v k x o}:s[v]? = some x->FO x.toNat=false->(s.drop v).take 2=[47,47]->Lib.indexByte (s.drop v) 10=((o:Nat):Int)->Sk s (v+o) k->Sk s v k
 | remE {v x}:s[v]? = some x->FO x.toNat=false->(s.drop v).take 2=[47,47]->Lib.indexByte (s.drop v) 10=-1->Sk s v s.length
 | tok {v x}:s[v]? = some x->FO x.toNat=false->(s.drop v).take 2 ≠ [47,47]->Sk s v v
theorem rem_pos {s:cB} {v o:Nat} (h:(s.drop v).take 2=[47,47]) (ho:Lib.indexByte (s.drop v) 10=(o:Int)):0<o:=by
 rcases Nat.eq_zero_or_pos o with h0 | h0
 ·subst h0;have h8:=(Lib.indexByte_some ho).1;have h12:=congrArg (·[0]?) h;simp only [xew (show 0<2 by decide)] at h12;rw [h8] at h12
  revert h12;decide
 ·exact h0
theorem Sk_l1 (s:cB) (hs:s.length<4611686018427387904):∀(c:Nat) (v:Nat),s.length<v+c->v<=s.length->bD (sY s c v) (λr=>∃k:Nat,Sk s v k/\v<=k/\k<=s.length/\(r=.inl (k:Int) ∨ r=.inr (k:Int))):=by
 intro c
 induction c with
 | zero=>intro v h1 h2;omega
 | succ c ih=>
   intro v h1 h2;unfold sY;refine bD.iteb (λh4=>?_) (λh4=>?_)
   rotate_left
   ·simp only [decide_eq_false_iff_not] at h4;obtain rfl:v=s.length:=by omega
    exact .some ⟨_,.out,tM _,tM _,.inl rfl⟩
   simp only [uH] at h4;refine bD.bind' (bD.idx (by omega) h4 λx hx=>?_);rw [yV] at hx;rw [Ls,bU];refine bD.iteb (λh5=>?_) (λh5=>?_)
   ·rw [cZ (by omega) (by omega)];exact (ih (v+1) (by omega) (by omega)).mono λr ⟨k,h5',h6,h7,h8⟩=>⟨k,.bl hx h5 h5',by omega,h7,h8⟩
   ·refine bD.need ⟨by omega,by omega⟩ ?_;rw [yV,sW,bU];refine bD.iteb (λh6=>?_) (λh6=>.some ⟨v,.tok hx h5 (by simpa using h6),by omega,h2,.inr rfl⟩);simp only [uH] at h6;refine bD.need ⟨by omega,by omega⟩ ?_;rw [vW,bU]
    rcases Fe (s.drop v) 10 with e | ⟨o,e,ho⟩
    ·rw [show (Int.toNat 10).toUInt8=(10:UInt8) from rfl,e];rw [if_pos (by decide)];exact .some ⟨s.length,.remE hx h5 h6 e,h2,tM _,.inr rfl⟩
    ·rw [show (Int.toNat 10).toUInt8=(10:UInt8) from rfl,e];rw [if_neg (by simp only [uH];omega)];have h11:=rem_pos h6 e;rw [Gw] at ho;rw [cZ (by omega) (by omega)];exact (ih (v+o) (by omega) (by omega)).mono λr ⟨k,h5',h7,h8,h9⟩=>⟨k,.rem hx h5 h6 e h5',by omega,h8,h9⟩
theorem MP {n:Nat} {s:cB} {v:Nat} (hs:s.length<4611686018427387904) (hn:s.length<v+n) (hv:v<=s.length):bD (tY n s v) λr=>∃k:Nat,Sk s v k/\v<=k/\k<=s.length/\r=k:=by
 unfold tY;refine (Sk_l1 s hs n v hn hv).bind λr ⟨k,h0,h1,h2,h3⟩=>?_
 rcases h3 with rfl | rfl <;> exact .some ⟨k,h0,h1,h2,rfl⟩
theorem Sk.det {s:cB} {v k k':Nat} (h:Sk s v k) (h':Sk s v k'):k=k':=by
 induction h with
 | out=>
   cases h' with
   | out=>rfl
   | bl h1=>have:=(uD.1 h1).1;omega
   | rem h1=>have:=(uD.1 h1).1;omega
   | remE h1=>have:=(uD.1 h1).1;omega
   | tok h1=>have:=(uD.1 h1).1;omega
 | bl h1 h2 h3 ih=>
   cases h' with
   | out=>have:=(uD.1 h1).1;omega
   | bl k1 k2 k3=>exact ih k3
   | rem k1 k2=>rw [h1] at k1;cases k1;rw [h2] at k2;cases k2
   | remE k1 k2=>rw [h1] at k1;cases k1;rw [h2] at k2;cases k2
   | tok k1 k2=>rw [h1] at k1;cases k1;rw [h2] at k2;cases k2
 | rem h1 h2 h3 h4 h5 ih=>
   cases h' with
   | out=>have:=(uD.1 h1).1;omega
   | bl k1 k2 k3=>rw [h1] at k1;cases k1;rw [h2] at k2;cases k2
   | rem k1 k2 k3 k4 k5=>rw [h4] at k4;have:=Int.ofNat_inj.1 k4;subst this;exact ih k5
   | remE k1 k2 k3 k4=>rw [h4] at k4;omega
   | tok k1 k2 k3=>exact absurd h3 k3
 | remE h1 h2 h3 h4=>
   cases h' with
   | out=>rfl
   | bl k1 k2 k3=>rw [h1] at k1;cases k1;rw [h2] at k2;cases k2
   | rem k1 k2 k3 k4 k5=>rw [h4] at k4;omega
   | remE k1 k2 k3 k4=>rfl
   | tok k1 k2 k3=>exact absurd h3 k3
 | tok h1 h2 h3=>
   cases h' with
   | out=>rfl
   | bl k1 k2 k3=>rw [h1] at k1;cases k1;rw [h2] at k2;cases k2
   | rem k1 k2 k3 k4 k5=>exact absurd k3 h3
   | remE k1 k2 k3 k4=>exact absurd k3 h3
   | tok k1 k2 k3=>rfl
theorem Nc {n:Nat} {s:cB} {v k:Nat} (hs:s.length<4611686018427387904) (hn:s.length<v+n) (hv:v<=s.length) (h:Sk s v k):tY n s v=some (k:Int)/\v<=k/\k<=s.length:=by
 obtain ⟨r,e,k',h1,h2,h3,rfl⟩:=MP hs hn hv;obtain rfl:=h.det h1;exact ⟨e,h2,h3⟩
inductive Tk (n:Nat) (s:cB):Nat->List tG->Prop
 | nil:Tk n s s.length []
 | cons {v t k l}:v<s.length->oZ n s v=some (t,0)->Sk s (v+t.bQ.length) k->Tk n s k l->Tk n s v (t::l)
section
variable {n:Nat} {s:cB}
theorem Tk_l1 (hs:s.length<=65536) (hn:s.length<n) (hn2:26<n):∀(c:Nat) (l:List tG) (v:Nat) {r:List tG},v<=s.length->oU n s c l v=some (.inl r)->∃l',r=l++l'/\Tk n s v l':=by
 intro c
 induction c with
 | zero=>intro l v r _ h;cases h
 | succ c ih=>
   intro l v r hv h;unfold oU at h
   by_cases h5:v<s.length
   ·rw [if_pos (by simp only [uH];omega)] at h;obtain ⟨x,ex,hx⟩:=EX (n:=n) (s:=s) (v:=v) (by omega) hn hn2 h5;rw [ex,bU] at h
    by_cases h6:x.2=0
    ·rw [if_neg (by simpa using h6)] at h;obtain ⟨k1,k2,k3,k4,_⟩:=hx h6;obtain ⟨hq,h⟩:=dK h;rw [cZ (by omega) (by omega)] at h;obtain ⟨r',e,k,h7,h8,h9,rfl⟩:=MP (n:=n) (s:=s) (v:=v+x.1.bQ.length) (by omega) (by omega) k4;rw [show ((v:Int)+(x.1.bQ.length:Int))=((v+x.1.bQ.length:Nat):Int) by omega,e,bU] at h;obtain ⟨l',e',h'⟩:=ih _ k h9 h;refine ⟨x.1::l',by rw [e'];simp,.cons h5 ?_ h7 h'⟩;rw [ex,←h6]
    ·rw [if_pos (by simpa using h6)] at h;cases h
   ·rw [if_neg (by simp only [uH];omega)] at h;cases h;obtain rfl:v=s.length:=by omega
    exact ⟨[],by simp,.nil⟩
theorem Tk.run (hs:s.length<=65536) (hn:s.length<n) (hn2:26<n) {v:Nat} {l':List tG} (h:Tk n s v l'):∀(c:Nat) (l:List tG),s.length<v+c->l.length<=v->oU n s c l v=some (.inl (l++l')):=by
 induction h with
 | nil=>
   intro c l hc hl;obtain ⟨c,rfl⟩:∃e,c=e+1:=⟨c - 1,by omega⟩;unfold oU;rw [if_neg (by simp only [uH];omega),jR]
 | @cons v t k l' h1 h2 h3 h4 ih=>
   intro c l hc hl;obtain ⟨c,rfl⟩:∃e,c=e+1:=⟨c - 1,by omega⟩;obtain ⟨x,ex,hx⟩:=EX (n:=n) (s:=s) (v:=v) (by omega) hn hn2 h1;rw [h2] at ex;cases ex
   obtain ⟨k1,k2,k3,k4,_⟩:=hx rfl;obtain ⟨e,h8,h9⟩:=Nc (n:=n) (by omega) (by omega) k4 h3;unfold oU;rw [if_pos (by simp only [uH];omega),h2,bU,if_neg (by simp),dN (by simp only [mQ];omega),cZ (by simp only at k4 ⊢;omega) (by simp only at k4 ⊢;omega)];simp only;rw [show ((v:Int)+(t.bQ.length:Int))=((v+t.bQ.length:Nat):Int) by omega,e,bU,ih c _ (by simp only at k3;omega) (by simp only [mK,mQ] at k3 ⊢;omega),xM];rfl
theorem Jc (hn:s.length<n) (hn2:26<n) {l:List tG} {w:Int} (h:mV n s=some (l,0,w)):s.length<=65536/\∃k l',l=l'++[⟨4,s.length,[],0⟩]/\Sk s 0 k/\Tk n s k l':=by
 unfold mV at h
 by_cases h1:(65536:Int)<s.length
 ·rw [if_pos (by simpa using h1)] at h;cases h
 rw [if_neg (by simpa using h1)] at h;obtain ⟨r,e,k,h7,h8,h9,rfl⟩:=MP (n:=n) (s:=s) (v:=0) (by omega) (by omega) (by omega);rw [show ((0:Nat):Int)=0 from rfl] at e;rw [e,bU] at h;obtain ⟨y,ey,h⟩:=aH h;cases y with
 | inl y=>
   obtain ⟨hq,h⟩:=dK (show iU _ _=_ from h);cases h;obtain ⟨l',e',h'⟩:=Tk_l1 (by omega) hn hn2 n [] k h9 ey;exact ⟨by omega,k,l',by rw [e'];rfl,h7,h'⟩
 | inr y=>
   obtain ⟨z,ez,hz⟩:=FW (by omega) hn hn2 n [] k (by omega) h9 (by simp [Gu]) (by simp);rw [ey] at ez;cases ez
   have h':some y=some (l,(0:Int),w):=h;cases h';exact absurd rfl hz
theorem Jd (hs:s.length<=65536) (hn:s.length<n) (hn2:26<n) {k:Nat} {l':List tG} (h0:Sk s 0 k) (h:Tk n s k l'):mV n s=some (l'++[⟨4,s.length,[],0⟩],0,0):=by
 unfold mV;obtain ⟨e,h8,h9⟩:=Nc (n:=n) (by omega) (by omega) (by omega) h0;rw [show ((0:Nat):Int)=0 from rfl] at e;have h1:=h.run hs hn hn2 n [] (by omega) (by simp);obtain ⟨z,ez,hz⟩:=FW hs hn hn2 n [] k (by omega) h9 (by simp [Gu]) (by simp);rw [h1] at ez;cases ez
 have h2:([]++l').length<=s.length:=hz.2;rw [iV] at h1 h2;rw [if_neg (by simp only [uH];omega),e,bU,h1,bU];show iU _ _=_;rw [dN (by simp only [mQ];omega)]
end
section
variable {a b:cB}
theorem FN (v:Nat):(a++10::b).drop (a.length+1+v)=b.drop v:=by
 rw [show a.length+1+v=a.length+(1+v) by omega,xek,show a.length+(1+v) - a.length=v+1 by omega,xei (by omega)];simp
theorem KZ (v:Nat):(a++10::b)[a.length+1+v]? = b[v]? := by
 rw [NW (by omega),show a.length+1+v - a.length=v+1 by omega];simp
theorem Cu {v:Nat} (h:v<=a.length):(a++10::b).drop v=a.drop v++10::b:=by
 rw [xek,show v - a.length=0 by omega,jU]
theorem HP {v:Nat} (h:v<a.length):(a++10::b)[v]? = a[v]? := Kr h
theorem Sk.right {v k:Nat} (h:Sk b v k):Sk (a++10::b) (a.length+1+v) (a.length+1+k):=by
 induction h with
 | out=>
   have:a.length+1+b.length=(a++10::b).length:=by rw [mK,gK];omega
   rw [this];exact .out
 | bl h1 h2 h3 ih=>exact .bl ((KZ _).trans h1) h2 ih
 | rem h1 h2 h3 h4 h5 ih=>exact .rem ((KZ _).trans h1) h2 (by rw [FN];exact h3) (by rw [FN];exact h4) (by rw [Nat.add_assoc];exact ih)
 | remE h1 h2 h3 h4=>
   have:a.length+1+b.length=(a++10::b).length:=by rw [mK,gK];omega
   rw [this];exact .remE ((KZ _).trans h1) h2 (by rw [FN];exact h3) (by rw [FN];exact h4)
 | tok h1 h2 h3=>exact .tok ((KZ _).trans h1) h2 (by rw [FN];exact h3)
theorem j_nl {k:Nat} (h:Sk (a++10::b) (a.length+1) k):Sk (a++10::b) a.length k:=by
 refine .bl (x:=10) ?_ (by decide) h;rw [NW (tM _),Nat.sub_self];rfl
theorem Sk.left {v k X:Nat} (h:Sk a v k) (hX:Sk (a++10::b) (a.length+1) X):v<=a.length->Sk (a++10::b) v (if k<a.length then k else X):=by
 have two:∀ {v:Nat},(a.drop v).take 2=[47,47]->(a.drop v++10::b).take 2=[47,47]:=by
  intro v h;have h1:=congrArg List.length h;rw [In] at h1;simp only [gK,iT] at h1;rw [xey (by omega)];exact h
 induction h with
 | out=>intro _;rw [if_neg (xec _)];exact j_nl hX
 | bl h1 h2 h3 ih=>
   intro hv;have hv':=(uD.1 h1).1;exact .bl ((HP hv').trans h1) h2 (ih (by omega))
 | @rem v k x o h1 h2 h3 h4 h5 ih=>
   intro hv;have hv':=(uD.1 h1).1
   have ho:o<(a.drop v).length:=by
    rcases Fe (a.drop v) 10 with e | ⟨o',e,ho⟩
    ·rw [h4] at e;omega
    ·rw [h4] at e;omega
   rw [Gw] at ho;refine .rem (o:=o) ((HP hv').trans h1) h2 ?_ ?_ (ih (by omega))
   ·rw [Cu hv];exact two h3
   ·rw [Cu hv];exact ib_app h4
 | @remE v x h1 h2 h3 h4=>
   intro hv;have hv':=(uD.1 h1).1;rw [if_neg (xec _)];refine .rem (o:=a.length - v) ((HP hv').trans h1) h2 ?_ ?_ ?_
   ·rw [Cu hv];exact two h3
   ·rw [Cu hv,ib_end h4,Gw]
   ·rw [show v+(a.length - v)=a.length by omega];exact j_nl hX
 | @tok v x h1 h2 h3=>
   intro hv;have hv':=(uD.1 h1).1;rw [if_pos hv'];refine .tok ((HP hv').trans h1) h2 ?_;rw [Cu hv];intro e;apply h3
   by_cases h9:2<=(a.drop v).length
   ·rw [xey h9] at e;exact e
   ·exfalso
    have h10:(a.drop v).length=1:=by rw [Gw] at h9 ⊢;omega
    obtain ⟨y,hy⟩:=List.length_eq_one_iff.1 h10;rw [hy] at e;simp at e
theorem Mi {n:Nat} {v:Nat} {t:tG} (h:oZ n b v=some (t,0)):oZ n (a++10::b) ((a.length+1+v:Nat):Int)=some (Kj ((a.length:Int)+1) t,0):=by
 unfold oZ at h ⊢;obtain ⟨hq,h⟩:=dK h;rw [dN (by rw [mK,gK];omega)];simp only [yV] at h ⊢;rw [FN]
 have hi:bY (a++10::b) ((a.length+1+v:Nat):Int)=bY b v:=by
  unfold bY;rw [if_pos (by omega),if_pos (by omega),yV,yV,KZ]
 rw [hi];obtain ⟨x2,e2,h⟩:=aH h;obtain ⟨x7,e7,h⟩:=aH h;obtain ⟨x8,e8,h⟩:=aH h;rw [e2,bU,e7,bU,e8,bU];have hat:((a.length+1+v:Nat):Int)=(v:Int)+((a.length:Int)+1):=by omega
 by_cases c8:x8=true
 ·rw [if_pos c8] at h ⊢
  by_cases c9:(decide ((32:Int)<(x2.length:Int)))=true
  ·rw [if_pos c9] at h;cases h
  ·rw [if_neg c9] at h ⊢;cases h
   rw [hat];rfl
 ·rw [if_neg c8] at h ⊢;obtain ⟨x16,e16,h⟩:=aH h;rw [e16,bU]
  by_cases c16:x16=true
  ·rw [if_pos c16] at h ⊢;obtain ⟨x19,e19,h⟩:=aH h;rw [e19,bU]
   by_cases c9:(!x19.2)=true
   ·rw [if_pos c9] at h;cases h
   ·rw [if_neg c9] at h ⊢;cases h
    rw [hat];rfl
  ·rw [if_neg c16] at h ⊢;obtain ⟨_,h⟩:=dK h;rw [dN (by rw [mK,gK];omega)];obtain ⟨x22,e22,h⟩:=aH h;rw [e22,bU]
   by_cases c9:(decide (x22=([]:cB)))=true
   ·rw [if_pos c9] at h;cases h
   ·rw [if_neg c9] at h ⊢;cases h
    rw [hat];rfl
theorem OX {n:Nat} {v:Nat} {t:tG} (hs:a.length+b.length<1000000) (hn:a.length+b.length+100<n) (hv:v<a.length) (h:oZ n a v=some (t,0)):oZ n (a++10::b) v=some (t,0):=by
 unfold oZ at h ⊢;obtain ⟨hq,h⟩:=dK h;have hq':(0:Int)<=v/\(v:Int)<=((a++10::b).length:Int):=by rw [mK,gK];omega
 rw [dN hq'];simp only [yV] at h ⊢;rw [GN (by rw [Gw];omega) (by rw [Gw];omega)] at h;rw [GN (by rw [Gw,mK,gK];omega) (by rw [Gw,mK,gK];omega)];rw [GS (by omega)] at h;rw [GS (by omega)]
 have hw:((a++10::b).drop v).takeWhile Fy=(a.drop v).takeWhile Fy:=by
  rw [Cu (by omega)]
  generalize a.drop v=l
  induction l with
  | nil=>rw [iV,xez (by decide)];rfl
  | cons x l ih=>
    rw [iC]
    by_cases hx:Fy x=true
    ·rw [List.takeWhile_cons_of_pos hx,List.takeWhile_cons_of_pos hx,ih]
    ·rw [xez hx,xez hx]
 have hsn:wM ((a++10::b).drop v)=wM (a.drop v):=by
  rw [Cu (by omega)];unfold wM
  congr 1
  have hall:∀y ∈ eY,decide ((a.drop v++10::b).take y.length=y)=decide ((a.drop v).take y.length=y):=by
   intro y hy;have h10:(eY.all λy=>!(y.contains 10))=true:=by decide
   have h11:=EG.1 h10 y hy;simp only [NU,List.contains_eq_mem,decide_eq_false_iff_not] at h11;apply decide_eq_decide.2
   by_cases hl:y.length<=(a.drop v).length
   ·rw [xey hl]
   ·constructor
    ·intro e
     exfalso
     apply h11;rw [←e,List.take_append];apply xen;obtain ⟨k,hk⟩:∃k,y.length - (a.drop v).length=k+1:=⟨y.length - (a.drop v).length - 1,by omega⟩;rw [hk,kN];exact NQ
    ·intro e
     exfalso
     have:=congrArg List.length e;rw [In] at this;omega
  have gen:∀l:List cB,(∀y ∈ l,decide ((a.drop v++10::b).take y.length=y)=decide ((a.drop v).take y.length=y))->l.find? (λy=>decide ((a.drop v++10::b).take y.length=y))=l.find? (λy=>decide ((a.drop v).take y.length=y)):=by
   intro l
   induction l with
   | nil=>intro _;rfl
   | cons y l ih=>
     intro h;rw [List.find?_cons,List.find?_cons,h y NQ,ih λz hz=>h z (Jk _ hz)]
  exact gen _ hall
 have hi:bY (a++10::b) v=bY a v:=by
  unfold bY;rw [if_pos (by omega),if_pos (by omega),yV,HP hv]
 rw [hw,hsn,hi];obtain ⟨x2,e2,h⟩:=aH h;obtain ⟨x7,e7,h⟩:=aH h;obtain ⟨x8,e8,h⟩:=aH h;rw [e2,bU,e7,bU,e8,bU]
 by_cases c8:x8=true
 ·rw [if_pos c8] at h ⊢;exact h
 ·rw [if_neg c8] at h ⊢;obtain ⟨x16,e16,h⟩:=aH h;rw [e16,bU]
  by_cases c16:x16=true
  ·rw [if_pos c16] at h ⊢;exact h
  ·rw [if_neg c16] at h ⊢;obtain ⟨_,h⟩:=dK h;rw [dN hq'];exact h
theorem Tk.right {n:Nat} {v:Nat} {l:List tG} (h:Tk n b v l):Tk n (a++10::b) (a.length+1+v) (l.map (Kj ((a.length:Int)+1))):=by
 induction h with
 | nil=>
   have:a.length+1+b.length=(a++10::b).length:=by rw [mK,gK];omega
   rw [this];exact .nil
 | cons h1 h2 h3 h4 ih=>
   refine .cons (by rw [mK,gK];omega) (Mi h2) ?_ ih;have:=h3.right (a:=a)
   rwa [←Nat.add_assoc] at this
theorem Tk.left {n:Nat} {v X:Nat} {l r:List tG} (h:Tk n a v l) (hs:a.length+b.length<1000000) (hn:a.length+b.length+100<n) (hX:Sk (a++10::b) (a.length+1) X) (hr:Tk n (a++10::b) X r):Tk n (a++10::b) (if v<a.length then v else X) (l++r):=by
 induction h with
 | nil=>rw [if_neg (xec _)];exact hr
 | @cons v t k l h1 h2 h3 h4 ih=>
   rw [if_pos h1];obtain ⟨x,ex,hx⟩:=EX (n:=n) (s:=a) (v:=v) (by omega) (by omega) (by omega) h1;rw [h2] at ex;cases ex
   obtain ⟨k1,k2,k3,k4,_⟩:=hx rfl;exact .cons (by rw [mK,gK];omega) (OX hs hn h1 h2) (h3.left hX k4) ih
theorem Lw {n:Nat} {la lb:List tG} {wa wb:Int} (hs:a.length+b.length<65000) (hn:a.length+b.length+100<n) (ha:mV n a=some (la,0,wa)) (hb:mV n b=some (lb,0,wb)):∃ta tb,la=ta++[⟨4,a.length,[],0⟩]/\lb=tb++[⟨4,b.length,[],0⟩]/\mV n (a++10::b)=some (ta++lb.map (Kj ((a.length:Int)+1)),0,0):=by
 obtain ⟨_,ka,ta,e1,s1,t1⟩:=Jc (by omega) (by omega) ha;obtain ⟨_,kb,tb,e2,s2,t2⟩:=Jc (by omega) (by omega) hb;have hX:=s2.right (a:=a);have hr:=t2.right (a:=a);rw [xdv] at hX;have h1:=s1.left hX (by omega);have h2:=t1.left (by omega) hn hX hr;have hl:(a++10::b).length=a.length+b.length+1:=by rw [mK,gK];omega
 have h3:=Jd (n:=n) (by omega) (by omega) (by omega) h1 h2;refine ⟨ta,tb,e1,e2,h3.trans ?_⟩;rw [e2,MW,xM,hl]
 congr 4
 show [(⟨4,_,[],0⟩:tG)]=[⟨4,(b.length:Int)+((a.length:Int)+1),[],0⟩]
 congr 2
 omega
end
end Go.Proofs.YtljbbjpbefjpiaaGreatDoor.Abs.Jn
namespace Go.Proofs.YtljbbjpbefjpiaaGreatDoor.Abs.Jn
open Go.RowKit
set_option linter.all false
section
variable {n:Nat} {s:cB}
end
abbrev AT:=Int × cB × Int
def absT (t:tG):AT:=(t.bT,t.bQ,t.kL)
def Nx (s:cB) (k:Int) (t:cB) (u:Int):Prop:=∀(n:Nat) (a:cB) (v:Nat),a.length<1000000->a.length+100<n->v<a.length->a.drop v=s->oZ n a v=some (⟨k,v,t,u⟩,0)
inductive Lx:cB->List AT->Prop
 | nil:Lx [] []
 | bl {b r ts}:FO b.toNat=true->Lx r ts->Lx (b::r) ts
 | tok {b r k t u bO ts}:b::r=t++bO->FO b.toNat=false->(b::r).take 2 ≠ [47,47]->Nx (b::r) k t u->Lx bO ts->Lx (b::r) ((k,t,u)::ts)
theorem Dr {a r:cB} {v:Nat} {b:UInt8} (h:a.drop v=b::r):a[v]? = some b:=by
 have:=congrArg (λl=>l[0]?) h;simpa [xeb] using this
theorem Lx.tk {r:cB} {ats:List AT} (h:Lx r ats):∀(n:Nat) (a:cB) (v:Nat),a.length<1000000->a.length+100<n->v<=a.length->a.drop v=r->∃k l,Sk a v k/\Tk n a k l/\l.map absT=ats:=by
 induction h with
 | nil=>
   intro n a v _ _ hv hr
   have:v=a.length:=by
    have:=congrArg List.length hr;rw [Gw] at this;simp at this
    omega
   subst this;exact ⟨_,[],.out,.nil,rfl⟩
 | @bl b r ts hb h ih=>
   intro n a v ha hn hv hr
   have hlt:v<a.length:=by
    have:=congrArg List.length hr;rw [Gw] at this;simp at this
    omega
   have hg:a[v]? = some b:=Dr hr;have hr':a.drop (v+1)=r:=by rw [←List.drop_drop,hr];rfl
   obtain ⟨k,l,h1,h2,h3⟩:=ih n a (v+1) ha hn hlt hr';exact ⟨k,l,.bl hg hb h1,h2,h3⟩
 | @tok b r k t u bO ts he hb h2 hx h ih=>
   intro n a v ha hn hv hr;have hlen:=congrArg List.length hr;rw [Gw] at hlen;have hlt:v<a.length:=by simp at hlen;omega
   have hg:a[v]? = some b:=Dr hr;have hr':a.drop (v+t.length)=bO:=by rw [←List.drop_drop,hr,he,List.drop_left]
   have hle:v+t.length<=a.length:=by rw [he,mK] at hlen;omega
   obtain ⟨k',l,h3,h4,h5⟩:=ih n a (v+t.length) ha hn hle hr';refine ⟨v,⟨k,v,t,u⟩::l,.tok hg hb (by rw [hr];exact h2),.cons hlt (hx n a v ha hn hlt hr) h3 h4,?_⟩;rw [iG,h5];rfl
theorem Lx.tokens {s:cB} {ats:List AT} (h:Lx s ats) {n:Nat} (hs:s.length<=65536) (hn:s.length+100<n):∃l,mV n s=some (l++[⟨4,s.length,[],0⟩],0,0)/\l.map absT=ats:=by
 obtain ⟨k,l,h1,h2,h3⟩:=h.tk n s 0 (by omega) (by omega) (by omega) rfl;exact ⟨l,Jd hs (by omega) (by omega) h1 h2,h3⟩
def nw (r:cB):Prop:=∀c r',r=c::r'->Fy c=false
theorem Eb {t r:cB} (h:∀b ∈ t,Fy b=true) (hr:nw r):(t++r).takeWhile Fy=t:=by
 rw [List.takeWhile_append_of_pos h];cases r with
 | nil=>simp
 | cons c r=>rw [xez (by rw [hr c r rfl];decide),jR]
theorem Hy {n:Nat} {a:cB} {v:Nat} (ha:a.length<1000000) (hn:a.length+100<n) (hv:v<a.length) {b:UInt8} {r:cB} (hd:a.drop v=b::r):zR n (a.drop v)=some ((b::r).takeWhile Fy)/\bY a (v:Int)=some b/\((0:Int)<=v/\(v:Int)<=a.length):=by
 refine ⟨by rw [hd,GN (by rw [←hd,Gw];omega) (by rw [←hd,Gw];omega)],?_,by omega⟩;unfold bY;rw [if_pos (by omega),yV,Dr hd]
theorem Nx_name {b:UInt8} {t r:cB} (hb:CN b.toNat=true) (ht:∀c ∈ b::t,Fy c=true) (hl:(b::t).length<=32) (hr:nw r):Nx (b::t++r) 1 (b::t) 0:=by
 intro n a v ha hn hv hd;obtain ⟨h1,h2,h3⟩:=Hy ha hn hv (b:=b) (r:=t++r) hd;have hw:=Eb ht hr;unfold oZ;rw [dN h3,yV,h1,bU,h2,bU,BM,bU,if_pos hb,show (b::(t++r)).takeWhile Fy=b::t from hw,if_neg (by simp only [uH];omega)]
def dv (s:cB):Nat:=s.foldl (λa b=>a*10+(b.toNat - 48)) 0
theorem GX (s:cB) (b:UInt8):dv (s++[b])=dv s*10+(b.toNat - 48):=by
 unfold dv;rw [List.foldl_append];rfl
theorem JO {k:Nat} (h:k<10):(UInt8.ofNat (48+k)).toNat=48+k:=by
 rw [UInt8.toNat_ofNat'];omega
theorem RV (u:Nat):dv (Lib.decDigits u)=u/\(∀b ∈ Lib.decDigits u,yD b.toNat=true)/\Lib.decDigits u ≠ []:=by
 induction u using Nat.strongRecOn with
 | ind u ih=>
   rw [Lib.decDigits]
   split
   ·rename_i h;refine ⟨?_,?_,by simp⟩
    ·show 0*10+((UInt8.ofNat (48+u)).toNat - 48)=u;rw [JO h];omega
    ·intro b hb;rw [DX.1 hb,JO h];simp only [yD,BO,uH];omega
   ·rename_i h;obtain ⟨h1,h2,h3⟩:=ih (u / 10) (by omega);have hm:u % 10<10:=Nat.mod_lt _ (by decide);refine ⟨?_,?_,by simp⟩
    ·rw [GX,h1,JO hm];omega
    ·intro b hb
     rcases BQ.1 hb with hb | hb
     ·exact h2 b hb
     ·rw [DX.1 hb,JO hm];simp only [yD,BO,uH];omega
theorem ib_dig {b:UInt8} (h:yD b.toNat=true):Lib.indexByte [48,49,50,51,52,53,54,55,56,57] b=((b.toNat - 48:Nat):Int):=by
 have key:∀k:Fin 10,Lib.indexByte [48,49,50,51,52,53,54,55,56,57] (UInt8.ofNat (48+k.val))=(k.val:Int):=by decide
 simp only [yD,BO,uH] at h;have hk:=key ⟨b.toNat - 48,by omega⟩
 have hb:UInt8.ofNat (48+(b.toNat - 48))=b:=by
  rw [show 48+(b.toNat - 48)=b.toNat by omega];simp
 simp only [hb] at hk;exact hk
theorem dv_mono (s r:cB):dv s<=dv (s++r):=by
 induction r generalizing s with
 | nil=>rw [jR];exact tM _
 | cons b r ih=>
   have:=ih (s++[b]);rw [GX,xM] at this;exact Ki (by omega) this
theorem Oa (s:cB) (hs:∀b ∈ s,yD b.toNat=true) (hv:dv s<=4294967295) (hl:s.length<1000000):∀(c v:Nat),s.length<v+c->v<=s.length->tE s c (dv (s.take v)) v=some (.inl (dv s:Int)):=by
 intro c
 induction c with
 | zero=>intro v h1 h2;omega
 | succ c ih=>
   intro v h1 h2;unfold tE
   by_cases h4:v<s.length
   ·have hx:s[v]? = some s[v]:=yP h4
    have hi:bY s (v:Int)=some s[v]:=by
     unfold bY;rw [if_pos (by omega),yV,hx]
    have hd:=hs _ (xdr h4);have hst:=take_step' hx
    have hm:dv (s.take (v+1))<=dv s:=by
     have:=dv_mono (s.take (v+1)) (s.drop (v+1))
     rwa [xex] at this
    rw [hst,GX] at hm;have hib:=ib_dig hd;have htk:(([48,49,50,51,52,53,54,55,56,57,97,98,99,100,101,102]:cB).take (10:Int).toNat)=[48,49,50,51,52,53,54,55,56,57]:=by decide
    have hbb:((s[v].toNat:Int).toNat).toUInt8=s[v]:=by simp
    rw [if_pos (by simp only [uH];omega),dN (by decide),hi,bU,vW,htk,hbb,hib,bU];rw [cZ (n:=(dv (s.take v):Int)*10) (by omega) (by omega),cZ (by omega) (by omega),if_neg (by simp only [uH];omega),bU,if_neg (by simp only [uH];omega),cZ (n:=(v:Int)+1) (by omega) (by omega)];have:=ih (v+1) (by omega) (by omega);rw [hst,GX] at this;rw [←this]
    congr 1
   ·rw [if_neg (by simp only [uH];omega),xdq (by omega)]
theorem lod_dig {b:UInt8} (h:yD b.toNat=true):Fy b=true:=by
 unfold Fy;rw [h];simp
theorem dig_let {c:Int} (h:yD c=true):CN c=false:=by
 simp only [yD,BO,uH] at h;simp only [CN,xdn,Bool.and_eq_false_iff,decide_eq_false_iff_not,beq_eq_false_iff_ne];omega
theorem Nx_num {u:Nat} (hu:u<=4294967295) {r:cB} (hr:nw r):Nx (Lib.decDigits u++r) 2 (Lib.decDigits u) u:=by
 obtain ⟨h1,h2,h3⟩:=RV u;cases hs:Lib.decDigits u with
 | nil=>exact absurd hs h3
 | cons b t=>
   rw [hs] at h1 h2;intro n a v ha hn hv hd;obtain ⟨k1,k2,k3⟩:=Hy ha hn hv (b:=b) (r:=t++r) hd;have hw:=Eb (t:=b::t) (λc hc=>lod_dig (h2 c hc)) hr;have hb:=h2 b NQ
   have hl:(b::t).length<1000000:=by
    have:=congrArg List.length hd;rw [Gw,mK] at this;omega
   have hp:(b::t).take ([48,120]:cB).length ≠ ([48,120]:cB):=by
    intro e;cases t with
    | nil=>exact absurd (congrArg List.length e) (by simp)
    | cons c t=>
      have e2:[b,c]=([48,120]:cB):=e
      injection e2 with e3 e4
      injection e4 with e4
      have:=h2 c (by simp);rw [e4] at this
      revert this;decide
   have hn2:(b::t).length<n:=by
    have:=congrArg List.length hd;rw [Gw,mK] at this;omega
   have hval:uW n (b::t)=some ((u:Int),true):=by
    unfold uW;rw [Ft,bU,if_neg hp,if_neg (by simp)];have:=Oa (b::t) h2 (by rw [h1];exact hu) hl n 0 (by omega) (by omega);rw [show dv ((b::t).take 0)=0 from rfl,h1] at this;rw [show ((0:Nat):Int)=0 from rfl] at this;rw [this,bU];show some (IntKind.u32.wrap (u:Int),decide ((b::t) ≠ []))=_;have hwu:IntKind.u32.wrap (u:Int)=u:=by rw [IntKind.wrap_u32];omega
    rw [hwu];simp
   unfold oZ;rw [dN k3,yV,k1,bU,k2,bU,BM,bU,if_neg (by rw [dig_let hb];decide),Fs,bU,if_pos hb,show (b::(t++r)).takeWhile Fy=b::t from hw,hval,bU,if_neg (by simp)]
theorem NN {b:UInt8} {t r:cB} (h1:CN b.toNat=false) (h2:yD b.toNat=false) (hs:wM (b::t++r)=b::t):Nx (b::t++r) 3 (b::t) 0:=by
 intro n a v ha hn hv hd;obtain ⟨k1,k2,k3⟩:=Hy ha hn hv (b:=b) (r:=t++r) hd;unfold oZ;rw [dN k3,yV,k1,bU,k2,bU,BM,bU,if_neg (by rw [h1];decide),Fs,bU,if_neg (by rw [h2];decide),dN k3,GS (by omega),bU,hd,hs,if_neg (by simp)]
def Rn (t:cB):Prop:=(∃b t',t=b::t'/\CN b.toNat=true)/\(∀c ∈ t,Fy c=true)/\t.length<=32
theorem Lx.sp {r:cB} {ts:List AT} (h:Lx r ts):Lx (32::r) ts:=.bl (by decide) h
theorem OZ {c:Int} (h:CN c=true):FO c=false/\c ≠ 47:=by
 simp only [CN,Kq,BO,uH,beq_iff_eq] at h;refine ⟨?_,by omega⟩;simp only [FO,xdn,beq_eq_false_iff_ne];omega
theorem Pr {c:Int} (h:yD c=true):FO c=false/\c ≠ 47:=by
 simp only [yD,BO,uH] at h;refine ⟨?_,by omega⟩;simp only [FO,xdn,beq_eq_false_iff_ne];omega
theorem Mh {b:UInt8} {r:cB} (h:(b.toNat:Int) ≠ 47):(b::r).take 2 ≠ [47,47]:=by
 intro e;rw [kN] at e
 injection e with e1 _
 rw [e1] at h;exact h rfl
theorem Lx.name {t r:cB} {ts:List AT} (ht:Rn t) (hr:nw r) (h:Lx r ts):Lx (t++r) ((1,t,0)::ts):=by
 obtain ⟨⟨b,t',rfl,hb⟩,h2,h3⟩:=ht;obtain ⟨h4,h5⟩:=OZ hb;exact .tok rfl h4 (Mh h5) (Nx_name hb h2 h3 hr) h
theorem Lx.num {u:Nat} {r:cB} {ts:List AT} (hu:u<=4294967295) (hr:nw r) (h:Lx r ts):Lx (Lib.decDigits u++r) ((2,Lib.decDigits u,u)::ts):=by
 obtain ⟨h1,h2,h3⟩:=RV u;have hx:=Nx_num hu hr;cases hs:Lib.decDigits u with
 | nil=>exact absurd hs h3
 | cons b t=>
   rw [hs] at h2 hx;obtain ⟨h4,h5⟩:=Pr (h2 b NQ);exact .tok rfl h4 (Mh h5) hx h
theorem Lx.s1 {c:UInt8} {r:cB} {ts:List AT} (hc:c ∈ ([40,41,123,125,91,93,44,59,58,126]:cB)) (h:Lx r ts):Lx (c::r) ((3,[c],0)::ts):=by
 have h1:∀c ∈ ([40,41,123,125,91,93,44,59,58,126]:cB),CN c.toNat=false/\yD c.toNat=false/\FO c.toNat=false/\(c.toNat:Int) ≠ 47:=by decide
 obtain ⟨a1,a2,a3,a4⟩:=h1 c hc
 have hs:wM ([c]++r)=[c]:=by
  simp only [BP,kE,or_false] at hc
  rcases hc with rfl | rfl | rfl | rfl | rfl | rfl | rfl | rfl | rfl | rfl <;> simp [wM,eY,List.find?]
 exact .tok rfl a3 (Mh a4) (NN (t:=[]) a1 a2 hs) h
theorem Lx.sb {t r:cB} {ts:List AT} (ht:t ∈ eY) (h:Lx r ts):Lx (t++32::r) ((3,t,0)::ts):=by
 simp only [eY,BP,kE,or_false] at ht
 rcases ht with rfl | rfl | rfl | rfl | rfl | rfl | rfl | rfl | rfl | rfl | rfl | rfl | rfl | rfl | rfl | rfl | rfl | rfl | rfl | rfl | rfl | rfl | rfl | rfl | rfl | rfl <;>
  exact .tok rfl (by decide) (by simp) (NN (by decide) (by decide) (by simp [wM,eY,List.find?])) h.sp
end Go.Proofs.YtljbbjpbefjpiaaGreatDoor.Abs.Jn
namespace Go.Proofs.YtljbbjpbefjpiaaGreatDoor.Abs.Jn
open Go.RowKit
set_option linter.all false
def LD (ds:cB):cB:=[102,110,32,122,122,57,40,120,58,32,117,51,50,41,32,45,62,32,117,51,50,32,123,32,114,101,116,117,114,110,32,120,32,43,32]++(ds++[59,32,125])
def zzA (ds:cB) (u:Int):List AT:=[(1,[102,110],0),(1,MU,0),(3,[40],0),(1,[120],0),(3,[58],0),(1,[117,51,50],0),(3,[41],0),(3,[45,62],0),(1,[117,51,50],0),(3,[123],0),(1,[114,101,116,117,114,110],0),(1,[120],0),(3,[43],0),(2,ds,u),(3,[59],0),(3,[125],0)]
theorem Ax {c:UInt8} {r:cB} (h:Fy c=false):nw (c::r):=λa b e=>by cases e;exact h
theorem wT {t:cB} (h:(match t with | b::_=>CN b.toNat | []=>false)=true) (h2:t.all Fy=true) (h3:t.length<=32):Rn t:=by
 refine ⟨?_,λc hc=>EG.1 h2 c hc,h3⟩;cases t with
 | nil=>cases h
 | cons b r=>exact ⟨b,r,rfl,h⟩
theorem zz_lex {u:Nat} (hu:u<=4294967295):Lx (LD (Lib.decDigits u)) (zzA (Lib.decDigits u) u):=by
 have e:LD (Lib.decDigits u)=[102,110]++32::(MU++40::([120]++58::32::([117,51,50]++41::32::(([45,62]:cB)++32::([117,51,50]++32::123::32::([114,101,116,117,114,110]++32::([120]++32::([43]++32::(Lib.decDigits u++59::32::125::[]))))))))):=by
  unfold LD MU;simp only [xM,iC,iV]
 rw [e];unfold zzA;refine .name (wT rfl rfl (by decide)) (Ax rfl) (.sp ?_);refine .name (wT rfl rfl (by decide)) (Ax rfl) (.s1 (by decide) ?_);refine .name (wT rfl rfl (by decide)) (Ax rfl) (.s1 (by decide) (.sp ?_));refine .name (wT rfl rfl (by decide)) (Ax rfl) (.s1 (by decide) (.sp ?_));refine .sb (by decide) ?_;refine .name (wT rfl rfl (by decide)) (Ax rfl) (.sp (.s1 (by decide) (.sp ?_)));refine .name (wT rfl rfl (by decide)) (Ax rfl) (.sp ?_);refine .name (wT rfl rfl (by decide)) (Ax rfl) (.sp ?_);refine .sb (by decide) ?_;exact .num hu (Ax rfl) (.s1 (by decide) (.sp (.s1 (by decide) .nil)))
def bld (p:Nat->Int):Nat->List AT->List tG
 | _,[]=>[]
 | i,a::l=>⟨a.1,p i,a.2.1,a.2.2⟩::bld p (i+1) l
theorem Ja {p q:Nat->Int}:∀(l:List AT) (k:Nat),(∀i,k<=i->p i=q i)->bld p k l=bld q k l
 | [],_,_=>rfl
 | a::l,k,h=>by rw [bld,bld,h k (tM _),Ja l (k+1) λi hi=>h i (by omega)]
theorem Sp:∀(ats:List AT) (l:List tG) (k:Nat),l.map absT=ats->∃p,l=bld p k ats
 | [],l,k,h=>⟨λ_=>0,by rw [List.map_eq_nil_iff] at h;rw [h];rfl⟩
 | a::ats,[],k,h=>by cases h
 | a::ats,t::l,k,h=>by
   simp only [iG,List.cons.injEq] at h;obtain ⟨p,hp⟩:=Sp ats l (k+1) h.2;refine ⟨λi=>if i=k then t.eO else p i,?_⟩;rw [bld,←h.1,if_pos rfl,hp]
   congr 1
   exact Ja ats (k+1) λi hi=>(if_neg (by omega)).symm
theorem GP {k a u:Int} {tx:cB} {ts:List tG} {l:Nat} (h:tx ∉ Es l):∀s ∈ Es l,s ≠ []->¬ Iv (⟨k,a,tx,u⟩::ts) s:=λs hs _ hd=>h (by rw [show tx=s from (HS.1 hd).1];exact hs)
theorem No {k a u:Int} {tx:cB} {ts:List tG} {s:cB} (h:tx ≠ s):¬ Iv (⟨k,a,tx,u⟩::ts) s:=λhd=>h (HS.1 hd).1
theorem zz_der (p:Nat->Int) (ds:cB) (u e:Int):Kf 64 (bld p 0 (zzA ds u)++[⟨4,e,[],0⟩]) [PW (p 0) (p 3) (p 9) (p 10) (p 12) (p 11) (p 13) u] [⟨4,e,[],0⟩]:=by
 refine .cons (.plain (u:=⟨1,p 1,MU,0⟩) (xs:=[⟨3,p 3,[120],2,[]⟩]) ⟨rfl,.inr ⟨rfl,rfl⟩⟩ ⟨rfl,rfl⟩ (.args ⟨rfl,.inl rfl⟩ (No (by decide)) (.item (.word (t:=⟨1,p 3,[120],0⟩) ⟨rfl,rfl⟩ ⟨rfl,.inl rfl⟩ (.inr (.inl ⟨rfl,rfl⟩)) ⟨rfl,.inr ⟨rfl,rfl⟩⟩) ⟨rfl,.inl rfl⟩)) (.short ⟨rfl,.inl rfl⟩ ⟨rfl,.inr ⟨rfl,rfl⟩⟩) ?_) .nil;refine .block (t:=⟨3,p 9,[123],0⟩) (by decide) ⟨rfl,.inl rfl⟩ (.cons (No (by decide)) (.ret (t:=⟨1,p 10,[114,101,116,117,114,110],0⟩) (u:=⟨3,p 14,[59],0⟩) ⟨rfl,.inr ⟨rfl,rfl⟩⟩ ?_ ⟨rfl,.inl rfl⟩) (.nil ⟨⟨3,p 15,[125],0⟩,_,rfl,⟨rfl,.inl rfl⟩⟩)) ⟨rfl,.inl rfl⟩;have l7:∀r,DE 64 (.lev 7) 2 (⟨1,p 11,[120],0⟩::⟨3,p 12,[43],0⟩::r) [⟨15,p 11,[120],0,[]⟩] (⟨3,p 12,[43],0⟩::r):=λr=>.last (.ref (t:=⟨1,p 11,[120],0⟩) (by decide) ⟨rfl,rfl⟩ (No (by decide)) (No (by decide)));have l6:∀r,DE 64 (.lev 6) 2 (⟨1,p 11,[120],0⟩::⟨3,p 12,[43],0⟩::r) [⟨15,p 11,[120],0,[]⟩] (⟨3,p 12,[43],0⟩::r):=λr=>.lev (by decide) (l7 r) (.stop (by decide) (GP (by decide)));have n6:∀r,DE 64 (.lev 6) 2 (⟨2,p 13,ds,u⟩::⟨3,p 14,[59],0⟩::r) [⟨14,p 13,[],u,[]⟩] (⟨3,p 14,[59],0⟩::r):=λr=>.lev (by decide) (.last (.num (t:=⟨2,p 13,ds,u⟩) (by decide) rfl)) (.stop (by decide) (GP (by decide)));have l5:∀r,DE 64 (.lev 5) 2 (⟨1,p 11,[120],0⟩::⟨3,p 12,[43],0⟩::⟨2,p 13,ds,u⟩::⟨3,p 14,[59],0⟩::r) [⟨19,p 12,[43],0,[⟨15,p 11,[120],0,[]⟩,⟨14,p 13,[],u,[]⟩]⟩] (⟨3,p 14,[59],0⟩::r):=λr=>.lev (by decide) (l6 _) (.more (s:=[43]) (u:=⟨3,p 12,[43],0⟩) (by decide) (by decide) (by decide) (by decide) ⟨rfl,.inl rfl⟩ (n6 r) (.stop (by decide) (GP (by decide))));have up:∀(l:Nat) ts y r,l<7->([59]:cB) ∉ Es l->DE 64 (.lev (l+1)) 2 ts [y] (⟨3,p 14,[59],0⟩::r)->DE 64 (.lev l) 2 ts [y] (⟨3,p 14,[59],0⟩::r):=λl ts y r h h2 k=>.lev h k (.stop h (GP h2));exact up 0 _ _ _ (by decide) (by decide) (up 1 _ _ _ (by decide) (by decide) (up 2 _ _ _ (by decide) (by decide) (up 3 _ _ _ (by decide) (by decide) (up 4 _ _ _ (by decide) (by decide) (l5 _)))))
theorem zz_sh (s a b c d e f g x:Int):Ov s (PW a b c d e f g x)=PW (a+s) (b+s) (c+s) (d+s) (e+s) (f+s) (g+s) x:=by
 unfold PW zzB;simp only [qI,iG,jA]
theorem JQ:∀(k u:Nat),u<10 ^ k->1<=k->(Lib.decDigits u).length<=k:=by
 intro k
 induction k with
 | zero=>intro u _ h;omega
 | succ k ih=>
   intro u h _;rw [Lib.decDigits]
   split
   ·simp
   ·have hk:1<=k:=by
     cases k with
     | zero=>simp at h;omega
     | succ k=>omega
    have:=ih (u / 10) (by rw [Nat.pow_succ] at h;omega) hk;simp only [mK,mQ];omega
theorem Ko {n:Nat} (hn:90000<=n) {a:cB} (hl:a.length<=2000) {u:Nat} (hu:u<=4294967295) {x:aB} {w:Int} (hp:mG n a=some (x,0,w)):(a++10::LD (Lib.decDigits u)).length<=2100/\∃r,mG n (a++10::LD (Lib.decDigits u))=some r/\(r.2.1=136 ∨ r.2.1=0/\∃b c d e f g k,r.1.aL=x.aL++[PW b c d e f g k u]):=by
 have hd:=JQ 11 u (by omega) (by decide)
 have hz:(LD (Lib.decDigits u)).length<=60:=by
  unfold LD;simp only [mK,gK,iT];omega
 have hL:(a++10::LD (Lib.decDigits u)).length<=2100:=by rw [mK,gK];omega
 refine ⟨hL,?_⟩;obtain ⟨la,wa,fa,za,a1,a2,a3,ta,ua,a4,a5⟩:=(QV (by omega)).get hp rfl;obtain ⟨l,b1,b2⟩:=(zz_lex hu).tokens (n:=n) (by omega) (by omega);obtain ⟨p,rfl⟩:=Sp _ l 0 b2;have bd:=zz_der p (Lib.decDigits u) u ((LD (Lib.decDigits u)).length:Int);obtain ⟨xa,xb,e1,e2,e3⟩:=Lw (by omega) (by omega) a1 b1;obtain ⟨w1,q1,q2⟩:=a2.pre
 have hw:w1=xa:=by
  rw [e1] at q1;exact (List.append_inj' q1.symm (by simp)).1
 have b2':=bd.sh ((a.length:Int)+1);have hD:=(q2 _).app b2';rw [hw] at hD;obtain ⟨r,er,_⟩:=QV (n:=n) (s:=a++10::LD (Lib.decDigits u)) (by omega);refine ⟨r,er,?_⟩
 rcases (cParse (D:=64) (by decide) (by decide) (by omega) e3 hD rfl).get er with ⟨t,us,_,h6,h7⟩ | ⟨h6,h7⟩ | ⟨_,h6⟩
 ·right
  have a5:x=⟨1,ta.eO,[],0,fa⟩:=a5;rw [h6,a5];refine ⟨rfl,p 0+((a.length:Int)+1),p 3+((a.length:Int)+1),p 9+((a.length:Int)+1),p 10+((a.length:Int)+1),p 12+((a.length:Int)+1),p 11+((a.length:Int)+1),p 13+((a.length:Int)+1),?_⟩;rw [←zz_sh];rfl
 ·exact .inl h6
 ·omega
