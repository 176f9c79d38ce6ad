import Derived.Test.YtnnomaboaiokeaaGreatDoorLTot
namespace Go.Proofs.YtnnomaboaiokeaaGreatDoor.Abs
open IntKind (i64 u32 u64 u8)
open Go.RowKit
set_option linter.all false
mutual
def xz:aF->Nat
 | ⟨_,_,_,_,l,_⟩=>1+qP l
def qP:List aF->Nat
 | []=>0
 | x::l=>xz x+qP l
end
mutual
def tz:aC->Nat
 | ⟨_,_,_,l,b,e,_⟩=>1+qP l+uJ b+uJ e
def uJ:List aC->Nat
 | []=>0
 | x::l=>tz x+uJ l
end
theorem AZ (x:aF):xz x=1+qP x.aP:=by cases x;rw [xz]
theorem yC (x:aC):tz x=1+qP x.aP+uJ x.bV+uJ x.gT:=by cases x;rw [tz]
theorem Lz (a b:List aF):qP (a++b)=qP a+qP b:=by
 induction a with
 | nil=>rw [gK,qP,Cv]
 | cons x a ih=>rw [iH,qP,qP,ih,GB]
theorem tzL_app (a b:List aC):uJ (a++b)=uJ a+uJ b:=by
 induction a with
 | nil=>rw [gK,uJ,Cv]
 | cons x a ih=>rw [iH,uJ,uJ,ih,GB]
theorem xz_pos (x:aF):1<=xz x:=by rw [AZ];omega
theorem tz_pos (x:aC):1<=tz x:=by rw [yC];omega
theorem zE (l:List aF):l.length<=qP l:=by
 induction l with
 | nil=>exact Kt _
 | cons x l ih=>have:=xz_pos x;rw [dW,qP];omega
theorem GE (l:List aC):l.length<=uJ l:=by
 induction l with
 | nil=>exact Kt _
 | cons x l ih=>have:=tz_pos x;rw [dW,uJ];omega
theorem Ay {l:List aF} {x:aF} (h:x ∈ l):xz x<=qP l:=by
 obtain ⟨a,b,rfl⟩:=Se h;rw [Lz,qP];omega
theorem LA {l:List aC} {x:aC} (h:x ∈ l):tz x<=uJ l:=by
 obtain ⟨a,b,rfl⟩:=Se h;rw [tzL_app,uJ];omega
def Ez (n:Int):Prop:=1<=n/\n<=255 ∨ 255<n/\n<=1024/\n % 4=0
def EH (v:aL):Prop:=1<=v.bT/\v.bT<=4/\(v.bT=4->Ez v.pB)
theorem Sr {s:cJ}:EH ⟨s,1,0⟩:=⟨(by decide:(1:Int)<=1),(by decide:(1:Int)<=4),λh=>absurd h (by simp)⟩
theorem Sq {s:cJ} {n:Int} (h:Ez n):EH ⟨s,4,n⟩:=⟨(by decide:(1:Int)<=4),(by decide:(4:Int)<=4),λ_=>h⟩
theorem varOkW {s:cJ} {k:Int} (h1:1<=k) (h2:k<=3):EH ⟨s,k,0⟩:=⟨h1,(by simp only;omega),λh=>by simp only at h;omega⟩
def yM (a b:Int):Int:=if a=b/\1<=a/\a<=3 then a else if a=1/\b=2 ∨ a=2/\b=1 then 2 else 0
def HA (t:Int):Int:=if t=1 then 2 else t
def ScT (t:Int):Prop:=t=1 ∨ t=2
def Kl (t k:Int):Prop:=t=k ∨ t=1/\k=2
def NT (o:cJ) (x y:aF) (t:Int):Prop:=
 ((o=[47] ∨ o=[37])/\x.cK=1/\y.cK=1/\t=1) ∨
 ((o=[60,60] ∨ o=[62,62] ∨ o=[60,60,60])/\y.cK=1/\(x.cK=3->y.iB=[110,117,109]/\y.N_<=63)/\t=x.cK) ∨
 (o=[42]/\t=yM x.cK y.cK/\t ≠ 3/\t ≠ 0) ∨
 ((o=[61,61] ∨ o=[60])/\yM x.cK y.cK ≠ 0/\t=if yM x.cK y.cK=3 then 2 else yM x.cK y.cK) ∨
 ((o=[124] ∨ o=[94] ∨ o=[38] ∨ o=[43] ∨ o=[45])/\t=yM x.cK y.cK/\t ≠ 0)
inductive TX (vs:List aL) (sc:List Int):aF->Prop
 | num {n a}:TX vs sc ⟨[110,117,109],1,n,-1,[],a⟩
 | var {v u a}:v ∈ sc->bN vs v=some u->u.bT ≠ 4->TX vs sc ⟨[118,97,114],u.bT,0,v,[],a⟩
 | index {v u i a}:v ∈ sc->bN vs v=some u->u.bT=4->TX vs sc i->i.cK=1->(i.iB=[110,117,109]->i64.wrap i.N_<u.pB)->TX vs sc ⟨[105,110,100,101,120],2,0,v,[i],a⟩
 | un {o x a}:(o=[110,111,116] ∨ o=[110,101,103])->TX vs sc x->TX vs sc ⟨o,x.cK,0,-1,[x],a⟩
 | bin {o x y t a}:TX vs sc x->TX vs sc y->NT o x y t->TX vs sc ⟨o,t,0,-1,[x,y],a⟩
 | sel {c x y a}:TX vs sc c->TX vs sc x->TX vs sc y->ScT c.cK->yM x.cK y.cK ≠ 0->TX vs sc ⟨[115,101,108,101,99,116],HA (yM x.cK y.cK),0,-1,[c,x,y],a⟩
 | long {x a}:TX vs sc x->ScT x.cK->TX vs sc ⟨[108,111,110,103],3,0,-1,[x],a⟩
 | wide {x y a}:TX vs sc x->TX vs sc y->ScT x.cK->ScT y.cK->TX vs sc ⟨[119,105,100,101],3,0,-1,[x,y],a⟩
 | half {o x a}:(o=[108,111] ∨ o=[104,105])->TX vs sc x->x.cK=3->TX vs sc ⟨o,2,0,-1,[x],a⟩
inductive Gz (vs:List aL) (sc:List Int) (p:aL):aF->Prop
 | arr {v u a}:p.bT=4->v ∈ sc->bN vs v=some u->u.bT=4->u.pB=p.pB->Gz vs sc p ⟨[118,97,114],4,0,v,[],a⟩
 | pub {x}:p.bT=1->TX vs sc x->x.cK=1->Gz vs sc p x
 | val {x}:p.bT ≠ 1->p.bT ≠ 4->TX vs sc x->Kl x.cK p.bT->Gz vs sc p x
def Cr (vs:List aL) (sc:List Int) (ps:List aL) (l:List aF):Prop:=l.length=ps.length/\∀(i:Nat) p x,ps[i]? = some p->l[i]? = some x->Gz vs sc p x
abbrev RH:=Int->Int->List aL->Prop
inductive TB (sg:RH) (vs:List aL) (res:Int):Bool->Nat->List Int->List aC->Nat->List Int->Prop
 | nil {l n sc}:TB sg vs res l n sc [] n sc
 | let_ {l n sc x u a ss n' sc'}:TX vs sc x->x.cK=1->vs[n]? = some u->u.bT=1->TB sg vs res l (n+1) (sc++[(n:Int)]) ss n' sc'->TB sg vs res l n sc (⟨[108,101,116],n,0,[x],[],[],a⟩::ss) n' sc'
 | var_ {l n sc x u a ss n' sc'}:TX vs sc x->vs[n]? = some u->u.bT=HA x.cK->TB sg vs res l (n+1) (sc++[(n:Int)]) ss n' sc'->TB sg vs res l n sc (⟨[118,97,114],n,0,[x],[],[],a⟩::ss) n' sc'
 | arr {l n sc u a ss n' sc'}:vs[n]? = some u->u.bT=4->TB sg vs res l (n+1) (sc++[(n:Int)]) ss n' sc'->TB sg vs res l n sc (⟨[97,114,114],n,0,[],[],[],a⟩::ss) n' sc'
 | callv {l n sc f r ps xs u a ss n' sc'}:sg f r ps->Cr vs sc ps xs->r ≠ 0->vs[n]? = some u->u.bT=r->TB sg vs res l (n+1) (sc++[(n:Int)]) ss n' sc'->TB sg vs res l n sc (⟨[99,97,108,108],n,f,xs,[],[],a⟩::ss) n' sc'
 | set {l n sc v u x a ss n' sc'}:v ∈ sc->bN vs v=some u->(u.bT=2 ∨ u.bT=3)->TX vs sc x->Kl x.cK u.bT->TB sg vs res l n sc ss n' sc'->TB sg vs res l n sc (⟨[115,101,116],v,0,[x],[],[],a⟩::ss) n' sc'
 | calls {l n sc v u f r ps xs a ss n' sc'}:v ∈ sc->bN vs v=some u->(u.bT=2 ∨ u.bT=3)->sg f r ps->Cr vs sc ps xs->r=u.bT->TB sg vs res l n sc ss n' sc'->TB sg vs res l n sc (⟨[99,97,108,108],v,f,xs,[],[],a⟩::ss) n' sc'
 | put {l n sc v u i x a ss n' sc'}:v ∈ sc->bN vs v=some u->u.bT=4->TX vs sc i->i.cK=1->(i.iB=[110,117,109]->i64.wrap i.N_<u.pB)->TX vs sc x->Kl x.cK 2->TB sg vs res l n sc ss n' sc'->TB sg vs res l n sc (⟨[112,117,116],v,0,[i,x],[],[],a⟩::ss) n' sc'
 | do_ {l n sc f r ps xs a ss n' sc'}:sg f r ps->Cr vs sc ps xs->TB sg vs res l n sc ss n' sc'->TB sg vs res l n sc (⟨[99,97,108,108],-1,f,xs,[],[],a⟩::ss) n' sc'
 | if_ {l n sc c b e a n1 sc1 n2 sc2 ss n' sc'}:TX vs sc c->c.cK=1->TB sg vs res false n sc b n1 sc1->TB sg vs res false n1 sc e n2 sc2->TB sg vs res l n2 sc ss n' sc'->TB sg vs res l n sc (⟨[105,102],-1,0,[c],b,e,a⟩::ss) n' sc'
 | for_ {l n sc x y u b a n1 sc1 ss n' sc'}:TX vs sc x->x.cK=1->TX vs sc y->y.cK=1->vs[n]? = some u->u.bT=1->TB sg vs res false (n+1) (sc++[(n:Int)]) b n1 sc1->TB sg vs res l n1 sc ss n' sc'->TB sg vs res l n sc (⟨[102,111,114],n,0,[x,y],b,[],a⟩::ss) n' sc'
 | ret {n sc x a}:TX vs sc x->res ≠ 0->Kl x.cK res->TB sg vs res true n sc [⟨[114,101,116,117,114,110],-1,0,[x],[],[],a⟩] n sc
 | retc {n sc f ps xs a}:sg f res ps->res ≠ 0->Cr vs sc ps xs->TB sg vs res true n sc [⟨[99,97,108,108],-2,f,xs,[],[],a⟩] n sc
section
variable {vs vs':List aL} {sc sc':List Int}
theorem kM {α:Type} {l l':List α} (h:l <+: l') {i:Int} {x:α} (e:bN l i=some x):bN l' i=some x:=by
 obtain ⟨r,rfl⟩:=h;unfold bN at e ⊢
 split at e
 ·rename_i h0;rw [if_pos h0,ME (vE.1 e).1];exact e
 ·cases e
theorem FL {α:Type} {l l':List α} (h:l <+: l') {i:Nat} {x:α} (e:l[i]? = some x):l'[i]? = some x:=by
 obtain ⟨r,rfl⟩:=h;rw [ME (vE.1 e).1];exact e
theorem TX.mono (hv:vs <+: vs') (hs:∀v ∈ sc,v ∈ sc') {x:aF} (h:TX vs sc x):TX vs' sc' x:=by
 induction h with
 | num=>exact .num
 | var h1 h2 h3=>exact .var (hs _ h1) (kM hv h2) h3
 | index h1 h2 h3 _ h5 h6 ih=>exact .index (hs _ h1) (kM hv h2) h3 ih h5 h6
 | un h1 _ ih=>exact .un h1 ih
 | bin _ _ h ih1 ih2=>exact .bin ih1 ih2 h
 | sel _ _ _ h1 h2 ih1 ih2 ih3=>exact .sel ih1 ih2 ih3 h1 h2
 | long _ h ih=>exact .long ih h
 | wide _ _ h1 h2 ih1 ih2=>exact .wide ih1 ih2 h1 h2
 | half h1 _ h2 ih=>exact .half h1 ih h2
theorem Gz.mono (hv:vs <+: vs') (hs:∀v ∈ sc,v ∈ sc') {p:aL} {x:aF} (h:Gz vs sc p x):Gz vs' sc' p x:=by
 cases h with
 | arr h1 h2 h3 h4 h5=>exact .arr h1 (hs _ h2) (kM hv h3) h4 h5
 | pub h1 h2 h3=>exact .pub h1 (h2.mono hv hs) h3
 | val h1 h2 h3 h4=>exact .val h1 h2 (h3.mono hv hs) h4
theorem Cr.mono (hv:vs <+: vs') (hs:∀v ∈ sc,v ∈ sc') {ps:List aL} {l:List aF} (h:Cr vs sc ps l):Cr vs' sc' ps l:=⟨h.1,λi p x h1 h2=>(h.2 i p x h1 h2).mono hv hs⟩
theorem Io (a b:Int):yM a b=0 ∨ 1<=yM a b/\yM a b<=3:=by
 unfold yM
 repeat' split <;> omega
theorem TX.range (hv:∀v ∈ vs,EH v) {x:aF} (h:TX vs sc x):1<=x.cK/\x.cK<=3:=by
 induction h with
 | num=>exact ⟨by simp only;decide,by simp only;decide⟩
 | @var v u a h1 h2 h3=>
   have hm:u ∈ vs:=by
    unfold bN at h2
    split at h2
    ·exact ET h2
    ·cases h2
   have:=hv u hm;exact ⟨this.1,by have:=this.2.1;simp only;omega⟩
 | index _ _ _ _ _ _ _=>exact ⟨by simp only;decide,by simp only;decide⟩
 | un _ _ ih=>exact ih
 | @bin o x y t a _ _ hb ih1 ih2=>
   have:=Io x.cK y.cK;simp only
   rcases hb with ⟨_,_,_,h⟩ | ⟨_,_,_,h⟩ | ⟨_,h,_,h0⟩ | ⟨_,h0,h⟩ | ⟨_,h,h0⟩
   ·omega
   ·omega
   ·omega
   ·split at h <;> omega
   ·omega
 | @sel c x y a _ _ _ _ h _ _ _=>
   have:=Io x.cK y.cK;simp only;unfold HA
   split <;> omega
 | long _ _ _=>exact ⟨by simp only;decide,by simp only;decide⟩
 | wide _ _ _ _ _ _=>exact ⟨by simp only;decide,by simp only;decide⟩
 | half _ _ _ _=>exact ⟨by simp only;decide,by simp only;decide⟩
variable {sg sg':RH} {res:Int} {l:Bool} {n n':Nat} {ss:List aC}
theorem TB.mono (hg:∀k r ps,sg k r ps->sg' k r ps) (hv:vs <+: vs') (h:TB sg vs res l n sc ss n' sc'):TB sg' vs' res l n sc ss n' sc':=by
 have hs:∀ {sc:List Int} v,v ∈ sc->v ∈ sc:=λ_ h=>h
 induction h with
 | nil=>exact .nil
 | let_ h1 h2 h3 h4 _ ih=>exact .let_ (h1.mono hv hs) h2 (FL hv h3) h4 ih
 | var_ h1 h3 h4 _ ih=>exact .var_ (h1.mono hv hs) (FL hv h3) h4 ih
 | arr h3 h4 _ ih=>exact .arr (FL hv h3) h4 ih
 | callv h1 h2 h3 h4 h5 _ ih=>exact .callv (hg _ _ _ h1) (h2.mono hv hs) h3 (FL hv h4) h5 ih
 | set h1 h2 h3 h4 h5 _ ih=>exact .set h1 (kM hv h2) h3 (h4.mono hv hs) h5 ih
 | calls h1 h2 h3 h4 h5 h6 _ ih=>exact .calls h1 (kM hv h2) h3 (hg _ _ _ h4) (h5.mono hv hs) h6 ih
 | put h1 h2 h3 h4 h5 h6 h7 h8 _ ih=>exact .put h1 (kM hv h2) h3 (h4.mono hv hs) h5 h6 (h7.mono hv hs) h8 ih
 | do_ h1 h2 _ ih=>exact .do_ (hg _ _ _ h1) (h2.mono hv hs) ih
 | if_ h1 h2 _ _ _ ih1 ih2 ih3=>exact .if_ (h1.mono hv hs) h2 ih1 ih2 ih3
 | for_ h1 h2 h3 h4 h5 h6 _ _ ih1 ih2=>exact .for_ (h1.mono hv hs) h2 (h3.mono hv hs) h4 (FL hv h5) h6 ih1 ih2
 | ret h1 h2 h3=>exact .ret (h1.mono hv hs) h2 h3
 | retc h1 h2 h3=>exact .retc (hg _ _ _ h1) h2 (h3.mono hv hs)
theorem TB.app {n1:Nat} {sc1:List Int} {xs ys:List aC} {l0:Bool} (h:TB sg vs res l0 n sc xs n1 sc1) (h0:l0=false) (k:TB sg vs res l n1 sc1 ys n' sc'):TB sg vs res l n sc (xs++ys) n' sc':=by
 induction h with
 | nil=>exact k
 | let_ h1 h2 h3 h4 _ ih=>exact .let_ h1 h2 h3 h4 (ih h0 k)
 | var_ h1 h3 h4 _ ih=>exact .var_ h1 h3 h4 (ih h0 k)
 | arr h3 h4 _ ih=>exact .arr h3 h4 (ih h0 k)
 | callv h1 h2 h3 h4 h5 _ ih=>exact .callv h1 h2 h3 h4 h5 (ih h0 k)
 | set h1 h2 h3 h4 h5 _ ih=>exact .set h1 h2 h3 h4 h5 (ih h0 k)
 | calls h1 h2 h3 h4 h5 h6 _ ih=>exact .calls h1 h2 h3 h4 h5 h6 (ih h0 k)
 | put h1 h2 h3 h4 h5 h6 h7 h8 _ ih=>exact .put h1 h2 h3 h4 h5 h6 h7 h8 (ih h0 k)
 | do_ h1 h2 _ ih=>exact .do_ h1 h2 (ih h0 k)
 | if_ h1 h2 h3 h4 _ _ _ ih3=>exact .if_ h1 h2 h3 h4 (ih3 h0 k)
 | for_ h1 h2 h3 h4 h5 h6 h7 _ _ ih2=>exact .for_ h1 h2 h3 h4 h5 h6 h7 (ih2 h0 k)
 | ret h1 h2 h3=>cases h0
 | retc h1 h2 h3=>cases h0
end
def Mx (w:aH) (b:Bool) (k a:Int):aH:=if b=true then w else if (w.e_ == (0:Int))=true then ⟨k,a⟩ else w
theorem pA {c:aG} {w:aH} {b:Bool} {k a:Int}:bB c w b k a=some (Mx w b k a):=by
 unfold bB pK Mx;cases b
 ·simp only [jN,if_true,EE,if_false]
  split <;> rfl
 ·simp
theorem fF {w:aH} {b:Bool} {k a:Int} (hk:k ≠ 0) (h:(Mx w b k a).e_=0):w.e_=0/\b=true/\Mx w b k a=w:=by
 unfold Mx at h ⊢;cases b
 ·simp only [EE,if_false] at h ⊢
  split at h
  ·exact absurd h hk
  ·rename_i h2;simp at h2;exact absurd h h2
 ·exact ⟨by simpa using h,rfl,by simp⟩
theorem To {w:aH} {b:Bool} {k a:Int} (hk:k ≠ 0) (h:w.e_ ≠ 0):(Mx w b k a).e_ ≠ 0:=λh2=>h (fF hk h2).1
def tS (c:aG):List aL:=((c.p_.bF[c.f_.toNat]?).map aS.aX).getD []
structure CI (N B:Nat) (c:aG):Prop where
 nf:c.p_.bF.length=N
 nN:N<=16384
 f0:0<=c.f_
 f1:c.f_<N
 a0:0<=c.fL
 a1:c.fL<N
 sc:∀v ∈ c.bI,0<=v/\v<(tS c).length
 sl:c.bI.length<=(tS c).length
 vl:∀f ∈ c.p_.bF,f.aX.length<=250/\0<=f.bC/\f.bC<=f.aX.length
 nc:c.cB.length=N
 cl:∀l ∈ c.cB,l.length<=B/\∀k ∈ l,0<=k/\k<N
 ki:∀f ∈ c.p_.bF,(∀v ∈ f.aX,EH v)/\(f.bR=0 ∨ f.bR=2 ∨ f.bR=3)
section
variable {N B n:Nat} {c:aG} {w:aH} {s:cJ}
theorem CI.cur (h:CI N B c):∃f,c.p_.bF[c.f_.toNat]? = some f/\f ∈ c.p_.bF/\tS c=f.aX/\bN c.p_.bF c.f_=some f:=by
 have hl:c.f_.toNat<c.p_.bF.length:=by have:=h.nf;have:=h.f0;have:=h.f1;omega
 refine ⟨c.p_.bF[c.f_.toNat],vD hl,MD _,?_,?_⟩
 ·unfold tS;rw [vD hl];rfl
 ·unfold bN;rw [if_pos h.f0,vD hl]
theorem CI.vs (h:CI N B c):(tS c).length<=250:=by
 obtain ⟨f,_,hm,e,_⟩:=h.cur;rw [e];exact (h.vl f hm).1
theorem oO {α:Type} {l:List α} {i:Int} (h0:0<=i) (h1:i<l.length):∃x,bN l i=some x/\l[i.toNat]? = some x/\x ∈ l:=by
 have hl:i.toNat<l.length:=by omega
 exact ⟨l[i.toNat],by unfold bN;rw [if_pos h0,vD hl],vD hl,MD _⟩
theorem find_l1 (h:CI N B c):∀(k:Nat) (v:Int),v<k->-1<=v->v<c.bI.length->∃r,kQ c s (k+1) v=some r/\(r=.inl () ∨ ∃i x,r=.inr i/\i ∈ c.bI/\(tS c)[i.toNat]? = some x/\x.fO=s):=by
 obtain ⟨f,hf,hm,hv,hfi⟩:=h.cur;intro k
 induction k with
 | zero=>
   intro v h1 h2 h3;have:v=-1:=by omega
   subst this;exact ⟨_,rfl,.inl rfl⟩
 | succ k ih=>
   intro v h1 h2 h3;unfold kQ
   by_cases h0:0<=v
   ·rw [if_pos (Ar h0),hfi];obtain ⟨i,e1,_,hi⟩:=oO h0 h3;obtain ⟨g0,g1⟩:=h.sc i hi;rw [hv] at g1;obtain ⟨x,e2,e3,_⟩:=oO g0 g1;simp only [iR,e1,e2]
    by_cases hn:x.fO=s
    ·rw [if_pos (Ar hn)];exact ⟨_,rfl,.inr ⟨i,x,rfl,hi,by rw [hv];exact e3,hn⟩⟩
    ·rw [if_neg (by simpa using hn)];have hl:c.bI.length<=250:=KS h.sl h.vs;rw [cZ (by omega) (by omega)];exact ih (v - 1) (by omega) (by omega) (by omega)
   ·rw [if_neg (by simpa using h0)];exact ⟨_,rfl,.inl rfl⟩
theorem NA (h:CI N B c) (hn:300<n):bK (lE n c w s) λr=>r=-1 ∨ ∃x,r ∈ c.bI/\(tS c)[r.toNat]? = some x/\x.fO=s:=by
 have hl:c.bI.length<=250:=KS h.sl h.vs;unfold lE;obtain ⟨m,rfl⟩:∃m,n=m+1:=⟨n - 1,by omega⟩;rw [cZ (by omega) (by omega)];obtain ⟨r,e,hr⟩:=find_l1 (s:=s) h m ((c.bI.length:Int) - 1) (by omega) (by omega) (by omega);rw [e]
 rcases hr with rfl | ⟨i,x,rfl,h1,h2,h3⟩
 ·exact ⟨_,rfl,.inl rfl⟩
 ·exact ⟨_,rfl,.inr ⟨x,h1,h2,h3⟩⟩
theorem DM (h:CI N B c) (hn:300<n) {x:Nd}:bK (gA n c w x) λr=>(r.1=-1 ∨ 0<=r.1/\r.1<(tS c).length)/\(w.e_ ≠ 0->r.2.e_ ≠ 0)/\(r.2.e_=0->r.2=w/\∃v,r.1 ∈ c.bI/\0<=r.1/\(tS c)[r.1.toNat]? = some v/\v.fO=x.cW):=by
 unfold gA;refine (NA (w:=w) (s:=x.cW) h hn).bind λv hv=>?_;rw [pA];refine .some ⟨?_,To (by decide),λhe=>?_⟩
 ·rcases hv with rfl | ⟨y,h1,_,_⟩
  ·exact .inl rfl
  ·exact .inr (h.sc _ h1)
 ·obtain ⟨_,k2,k3⟩:=fF (by decide) he;have hv0:0<=v:=BI k2
  rcases hv with rfl | ⟨y,h1,h2,h3⟩
  ·exact absurd hv0 (by decide)
  ·exact ⟨k3,y,h1,hv0,h2,h3⟩
theorem Bu (h:CI N B c) {v:Int} (hv:v=-1 ∨ 0<=v/\v<(tS c).length):bK (eT c w v) λk=>v=-1/\k=0 ∨ 0<=v/\∃x,(tS c)[v.toNat]? = some x/\k=x.bT:=by
 unfold eT
 rcases hv with rfl | ⟨h0,h1⟩
 ·exact .some (.inl ⟨rfl,rfl⟩)
 ·rw [if_neg (by simp;omega)];obtain ⟨f,_,_,hvs,hfi⟩:=h.cur;rw [hfi];rw [hvs] at h1 ⊢;obtain ⟨x,e1,e2,_⟩:=oO h0 h1;simp only [iR,e1];exact .some (.inr ⟨h0,x,e2,rfl⟩)
def Qx (f:aS):aS:={ f with aX:=[],bV:=[] }
structure Kp (c c':aG):Prop where
 f:c'.f_=c.f_
 a:c'.fL=c.fL
 s:c.bI <+: c'.bI
 v:tS c <+: tS c'
 o:∀i,i ≠ c.f_.toNat->c'.p_.bF[i]? = c.p_.bF[i]?
 g:c'.p_.bF.map Qx=c.p_.bF.map Qx
 k:∀j:Nat,j ≠ c.fL.toNat->c'.cB[j]? = c.cB[j]?
 l:∀l,bN c.cB c.fL=some l->∃l',bN c'.cB c.fL=some l'/\l <+: l'
theorem Kp.refl (c:aG):Kp c c:=⟨rfl,rfl,Qd _,Qd _,λ_ _=>rfl,rfl,λ_ _=>rfl,λl e=>⟨l,e,Qd _⟩⟩
theorem Kp.trans {c1 c2 c3:aG} (h:Kp c1 c2) (k:Kp c2 c3):Kp c1 c3:=⟨k.f.trans h.f,k.a.trans h.a,h.s.trans k.s,h.v.trans k.v,λi hi=>(k.o i (by rw [h.f];exact hi)).trans (h.o i hi),k.g.trans h.g,λj hj=>(k.k j (by rw [h.a];exact hj)).trans (h.k j hj),λl e=>by
 obtain ⟨l1,e1,p1⟩:=h.l l e;obtain ⟨l2,e2,p2⟩:=k.l l1 (by rw [h.a];exact e1);exact ⟨l2,by rw [←h.a];exact e2,p1.trans p2⟩⟩
theorem uA (h:CI N B c) (hn:300<n) {x:aL} {a:Int} (hx:w.e_=0->EH x):bK (eD n c w x a) λr=>CI N B r.2.1/\Kp c r.2.1/\r.2.1.cB=c.cB/\(w.e_ ≠ 0->r.2.2.e_ ≠ 0)/\(r.2.2.e_=0->r.2.2=w/\r.1=(tS c).length/\tS r.2.1=tS c++[x]/\r.2.1.bI=c.bI++[((tS c).length:Int)])/\(r.1=-1 ∨ 0<=r.1/\r.1<(tS r.2.1).length):=by
 unfold eD;refine (NA (w:=w) (s:=x.fO) h hn).bind λv hv=>?_;obtain ⟨f,hf,hm,hvs,hfi⟩:=h.cur;rw [pA,hfi];simp only [iR,pA];refine bK.iteb (λhe=>?_) λhe=>?_
 ·simp only [bne_iff_ne] at he;exact .some ⟨h,.refl c,rfl,λ_=>he,λh2=>absurd h2 he,.inl rfl⟩
 ·simp only [bne_eq_false_iff_eq] at he;obtain ⟨k1,k2,k3⟩:=fF (by decide) he;obtain ⟨j1,j2,j3⟩:=fF (by decide) k1;have hlt:(f.aX.length:Int)<250:=BI k2;have hsl:=h.sl;rw [hvs] at hsl;refine bK.need (by omega) (bK.need (by omega) ?_);have hl:c.f_.toNat<c.p_.bF.length:=by have:=h.nf;have:=h.f0;have:=h.f1;omega
  have hv2:tS { c with p_:=⟨c.p_.bF.set c.f_.toNat { f with aX:=f.aX++[x] }⟩,bI:=c.bI++[(f.aX.length:Int)] }=f.aX++[x]:=by
   unfold tS;simp only;rw [Pl hl];rfl
  refine .some ⟨⟨by simp only [qV];exact h.nf,h.nN,h.f0,h.f1,h.a0,h.a1,?_,?_,?_,h.nc,h.cl,?_⟩,⟨rfl,rfl,MC _ _,?_,λi hi=>?_,?_,λ_ _=>rfl,λl e=>⟨l,e,Qd _⟩⟩,rfl,λhw=>absurd j1 hw,λ_=>⟨by rw [k3,j3],by rw [hvs],by rw [hv2,hvs],by rw [hvs]⟩,.inr ⟨by omega,?_⟩⟩
  ·intro u hu;rw [hv2]
   rcases zK.1 hu with hu | hu
   ·have:=h.sc u hu;rw [hvs] at this;simp only [mS,vM];omega
   ·obtain rfl:=As.1 hu;simp only [mS,vM];omega
  ·rw [hv2];simp only [mS,vM];omega
  ·intro g hg
   rcases Sg hg with hg | rfl
   ·exact h.vl g hg
   ·have:=h.vl f hm;simp only [mS,vM];omega
  ·intro g hg
   rcases Sg hg with hg | rfl
   ·exact h.ki g hg
   ·refine ⟨λv hv=>?_,(h.ki f hm).2⟩
    rcases zK.1 hv with hv | hv
    ·exact (h.ki f hm).1 v hv
    ·obtain rfl:=As.1 hv;exact hx j1
  ·rw [hv2,hvs];exact MC _ _
  ·exact Of (Ne.symm hi)
  ·show List.map Qx (c.p_.bF.set c.f_.toNat _)=_;rw [List.map_set];refine RS λi=>?_
   by_cases e:c.f_.toNat=i
   ·subst e;rw [Pl (by rw [gX];exact hl),gY,hf];rfl
   ·rw [Of e]
  ·rw [hv2];simp only [mS,vM];omega
def sgC (c:aG):RH:=λk r ps=>(∃l,bN c.cB c.fL=some l/\k ∈ l)/\∃f,bN c.p_.bF k=some f/\r=f.bR/\ps=f.aX.take f.bC.toNat
theorem Kp.fn {c':aG} (h:CI N B c) (k:Kp c c') {i:Int} {f:aS} (e:bN c.p_.bF i=some f):∃f',bN c'.p_.bF i=some f'/\f'.fO=f.fO/\f'.dG=f.dG/\f'.bR=f.bR/\f'.bC=f.bC/\f.aX <+: f'.aX/\(i ≠ c.f_->f'=f):=by
 unfold bN at e ⊢
 split at e
 ·rename_i h0;rw [if_pos h0]
  by_cases hi:i=c.f_
  ·subst hi;obtain ⟨f2,e2,hm2,hv2,_⟩:=h.cur;rw [e] at e2;cases e2
   have hlen:c.p_.bF.length=c'.p_.bF.length:=by simpa using (congrArg List.length k.g).symm
   have hlt:=(vE.1 e).1;have e3:c'.p_.bF[c.f_.toNat]? = some (c'.p_.bF[c.f_.toNat]'(by omega)):=vD _
   have hs:Qx (c'.p_.bF[c.f_.toNat]'(by omega))=Qx f:=by
    have:=congrArg (λl=>l[c.f_.toNat]?) k.g;simp only [gY,e3,e,iJ,Option.some.injEq] at this;exact this
   have hv:tS c'=(c'.p_.bF[c.f_.toNat]'(by omega)).aX:=by
    unfold tS;rw [k.f,e3];rfl
   have hp:=k.v;rw [hv2,hv] at hp;simp only [Qx,aS.mk.injEq] at hs;exact ⟨_,e3,hs.1,hs.2.1,hs.2.2.1,hs.2.2.2.1,hp,λh=>absurd rfl h⟩
  ·refine ⟨f,?_,rfl,rfl,rfl,rfl,Qd _,λ_=>rfl⟩;rw [k.o _ (by have:=h.f0;omega)];exact e
 ·cases e
def LK (c:aG):Int:=((c.p_.bF[c.f_.toNat]?).map aS.bR).getD 0
theorem CI.res (h:CI N B c) {f:aS} (e:bN c.p_.bF c.f_=some f):LK c=f.bR:=by
 unfold bN at e;rw [if_pos h.f0] at e;unfold LK;rw [e];rfl
theorem Kp.res {c':aG} (h:CI N B c) (k:Kp c c'):LK c'=LK c:=by
 obtain ⟨f,_,_,_,e⟩:=h.cur;obtain ⟨f',e',_,_,hr,_⟩:=k.fn h e;rw [h.res e,←hr];unfold bN at e';rw [if_pos h.f0] at e';unfold LK;rw [k.f,e'];rfl
theorem CI.vsOk (h:CI N B c):∀v ∈ tS c,EH v:=by
 obtain ⟨f,_,hm,e,_⟩:=h.cur;rw [e];exact (h.ki f hm).1
theorem Jn {α:Type} {l l':List α} (h:l <+: l') {n:Nat} (hn:n<=l.length):l'.take n=l.take n:=by
 obtain ⟨r,rfl⟩:=h;exact List.take_append_of_le_length hn
theorem Kp.sg {c':aG} (h:CI N B c) (k:Kp c c') {i r:Int} {ps:List aL} (e:sgC c i r ps):sgC c' i r ps:=by
 obtain ⟨⟨l,e1,hl⟩,f,e2,rfl,rfl⟩:=e;obtain ⟨l',e3,hp⟩:=k.l l e1;obtain ⟨f',e4,_,_,hr,hps,hv,_⟩:=k.fn h e2
 have hm:f ∈ c.p_.bF:=by
  unfold bN at e2
  split at e2
  ·exact ET e2
  ·cases e2
 have:=h.vl f hm;refine ⟨⟨l',by rw [k.a];exact e3,hp.subset hl⟩,f',e4,hr.symm,?_⟩;rw [hps,Jn hv (by omega)]
end
def RZ (c:aG) (w:aH) (x:aD) (r:aF × aH):Prop:=r.2.e_=0->r.2=w/\TX (tS c) c.bI r.1/\(xz r.1:Int)<=sz x
def WK (w w':aH):Prop:=w'.e_=0->w'=w
theorem WK.refl (w:aH):WK w w:=λ_=>rfl
theorem WK.trans {a b c:aH} (h:WK a b) (k:WK b c):WK a c:=λe=>by
 have h2:=k e;subst h2;exact h e
theorem WK.nd {w:aH} {b:Bool} {k a:Int} (hk:k ≠ 0:=by decide):WK w (Mx w b k a):=λe=>(fF hk e).2.2
theorem JL {a b:Int}:bK (sX a b) λr=>r=yM a b:=by
 unfold sX yM;simp only [beq_iff_eq,BJ]
 repeat' split
 all_goals first | exact .some (by omega) | (simp only [iR,BJ,beq_iff_eq,EE,if_false,if_true];repeat' split) 
 all_goals first | exact .some (by omega) | (exfalso;omega)
theorem DZ {a:Int}:bK (qL a) λr=>r=true->ScT a:=by
 unfold qL;refine bK.bind (P:=λr=>r=true->ScT a) (bK.iteb (λh=>.some λ_=>.inl (by simpa using h)) λ_=>.some λh=>.inr (by simpa using h)) λb h=>.some h
theorem Jq {a:Int}:bK (sV a) λr=>r=HA a:=by
 unfold sV HA;simp only [beq_iff_eq]
 split <;> exact .some rfl
theorem Hj {a b:Int}:bK (sY a b) λr=>r=true->Kl a b:=by
 unfold sY;refine bK.bind (P:=λr=>r=true->Kl a b) (bK.iteb (λh=>.some λ_=>.inl (by simpa using h)) λ_=>bK.iteb (λh=>.some λh2=>.inr ⟨by simpa using h,by simpa using h2⟩) λ_=>.some λh=>nomatch h) λb h=>.some h
theorem La {a:Int}:bK (wJ a) λr=>r=true->Ez a:=by
 unfold wJ Ez;refine bK.bind (P:=λr=>r=true->Ez a) ?_ λb h=>.some h;unfold Ez;simp only [BJ]
 have ht:∀ {b:Bool},255<a->a<=1024->b=(a.tmod 4 == 0)->bK (some b) λr=>r=true->(1<=a/\a<=255 ∨ 255<a/\a<=1024/\a % 4=0):=λh1 h2 h3=>.some λh=>.inr ⟨h1,h2,by
  rw [h3,beq_iff_eq,Int.tmod_eq_emod_of_nonneg (by omega)] at h;exact h⟩
 repeat' split
 all_goals first | exact .some λh=>Bool.noConfusion h | exact .some λ_=>.inl ⟨‹_›,‹_›⟩ | exact ht (by omega) (by omega) rfl
section
variable {N B n:Nat} {c:aG} {w:aH}
theorem vU {x:aF} {k:Int}:bK (cF c w x k) λr=>WK w r.2/\r.1={ x with cK:=k }/\(r.2.e_=0->k ≠ 0):=by
 unfold cF;rw [pA];refine .some ⟨.nd,rfl,λe=>?_⟩;have:=(fF (by decide) e).2.1;simpa using this
theorem Qz {x y z:aF}:bK (gL c w x y z) λr=>WK w r.2/\r.1={ x with cK:=y.cK }/\(r.2.e_=0->z.cK=1/\(y.cK=3->z.iB=[110,117,109]/\z.N_<=63)/\y.cK ≠ 0):=by
 unfold gL;rw [pA];simp only [iR];refine bK.iteb (λh3=>?_) (λh3=>?_)
 ·refine bK.bind (P:=λw'=>WK w w'/\(w'.e_=0->z.cK=1/\z.iB=[110,117,109]/\z.N_<=63)) ?_ λw' hw=>?_
  ·refine bK.iteb (λho=>?_) (λ_=>?_)
   ·rw [pA];refine .some ⟨(WK.nd).trans WK.nd,λe=>?_⟩;obtain ⟨k1,k2,_⟩:=fF (by decide) e;obtain ⟨_,j2,_⟩:=fF (by decide) k1;exact ⟨by simpa using j2,by simpa using ho,by simpa using k2⟩
   ·rw [pA];exact .some ⟨(WK.nd).trans WK.nd,λe=>by have:=(fF (by decide) e).2.1;cases this⟩
  ·refine (vU (c:=c)).bind λr hr=>.some ⟨hw.1.trans hr.1,hr.2.1,λe=>?_⟩;obtain ⟨q1,q2⟩:=hw.2 (by rw [←hr.1 e];exact e);exact ⟨q1,λ_=>q2,hr.2.2 e⟩
 ·refine (vU (c:=c)).bind λr hr=>.some ⟨(WK.nd).trans hr.1,hr.2.1,λe=>?_⟩;obtain ⟨_,j2,_⟩:=fF (k:=133) (by decide) (by rw [←hr.1 e];exact e);exact ⟨by simpa using j2,λh=>absurd h (by simpa using h3),hr.2.2 e⟩
theorem OV {x:aF} {x0 x1 x2:aF} (h:x.aP=[x0,x1,x2]):bK (lL c w x) λk=>k ≠ 0->ScT x0.cK/\yM x1.cK x2.cK ≠ 0/\k=HA (yM x1.cK x2.cK):=by
 unfold lL;rw [h];refine bK.eqn (v:=x1) rfl (bK.eqn (v:=x2) rfl (JL.bind λk hk=>?_));refine bK.bind (P:=λb=>b=false->ScT x0.cK/\k ≠ 0) ?_ λb hb=>?_
 ·refine bK.eqn (v:=x0) rfl (DZ.bind λb hb=>bK.iteb (λ_=>.some λh=>nomatch h) λh=>.some λh2=>⟨hb (by simpa using h),by simpa using h2⟩)
 ·refine bK.iteb (λ_=>.some λh=>absurd rfl h) (λh=>?_);exact Jq.bind λr hr=>.some λ_=>⟨(hb h).1,hk ▸ (hb h).2,hk ▸ hr⟩
theorem DO {s:cJ} {k:Nat} {i:Int} {x:bJ} (h:i<5) (e:bN cL i=some x):vC s (k+1) i=if x.Pv=s then some (.inr x.PQ) else vC s k (i64.wrap (i+1)):=by
 rw [vC,if_pos (Ar h),e];simp only [iR,BJ]
theorem HS {s:cJ} (hn:6<n):bK (uC n s) λv=>0<=v/\v<=3/\(s=[115,101,108,101,99,116]->v=3)/\(s=[119,105,100,101]->v=2)/\(0<v->s=[115,101,108,101,99,116] ∨ s=[108,111,110,103]/\v=1 ∨ s=[108,111]/\v=1 ∨ s=[104,105]/\v=1 ∨ s=[119,105,100,101]):=by
 obtain ⟨m,rfl⟩:∃m,n=m+6:=⟨n - 6,by omega⟩;unfold uC;rw [DO (i:=0) (x:=bJ.mk [115,101,108,101,99,116] 3) (by decide) rfl]
 split
 ·rename_i h;subst h;exact .some ⟨by decide,by decide,λ_=>rfl,λh=>absurd h (by decide),λ_=>.inl rfl⟩
 rename_i h0;rw [show i64.wrap (0+1)=1 from by decide,DO (i:=1) (x:=bJ.mk [108,111,110,103] 1) (by decide) rfl]
 split
 ·rename_i h;subst h;exact .some ⟨by decide,by decide,λh=>absurd h (by decide),λh=>absurd h (by decide),λ_=>.inr (.inl ⟨rfl,rfl⟩)⟩
 rw [show i64.wrap (1+1)=2 from by decide,DO (i:=2) (x:=bJ.mk [108,111] 1) (by decide) rfl]
 split
 ·rename_i h;subst h;exact .some ⟨by decide,by decide,λh=>absurd h (by decide),λh=>absurd h (by decide),λ_=>.inr (.inr (.inl ⟨rfl,rfl⟩))⟩
 rw [show i64.wrap (2+1)=3 from by decide,DO (i:=3) (x:=bJ.mk [104,105] 1) (by decide) rfl]
 split
 ·rename_i h;subst h;exact .some ⟨by decide,by decide,λh=>absurd h (by decide),λh=>absurd h (by decide),λ_=>.inr (.inr (.inr (.inl ⟨rfl,rfl⟩)))⟩
 rw [show i64.wrap (3+1)=4 from by decide,DO (i:=4) (x:=bJ.mk [119,105,100,101] 2) (by decide) rfl]
 split
 ·rename_i h;subst h;exact .some ⟨by decide,by decide,λh=>absurd h (by decide),λ_=>rfl,λ_=>.inr (.inr (.inr (.inr rfl)))⟩
 rename_i h4;rw [show i64.wrap (4+1)=5 from by decide];exact .some ⟨by decide,by decide,λh=>absurd h.symm h0,λh=>absurd h.symm h4,λh=>absurd h (by decide)⟩
end
def UJ (N B n:Nat) (f:aG->aH->aD->Option (aF × aH)):Prop:=∀c w x,CI N B c->WE x->sz x<=20000->3*sz x+301<=n->bK (f c w x) (RZ c w x)
def IN (N B n:Nat) (K:Int) (f:aG->aH->aD->aF->Option (aF × aH)):Prop:=∀c w x y,CI N B c->WE x->x.bT=K->sz x<=20000->3*sz x+300<=n->(∃a,y=⟨[],0,0,-1,[],a⟩)->bK (f c w x y) (RZ c w x)
def UK (N B n:Nat) (f:aG->aH->(List aD)->Option ((List aF) × aH)):Prop:=∀c w xs,CI N B c->(∀x ∈ xs,WE x)->vG xs<=20000->3*vG xs+302<=n->bK (f c w xs) λr=>WK w r.2/\r.1.length=xs.length/\(r.2.e_=0->∀y ∈ r.1,TX (tS c) c.bI y)/\(r.2.e_=0->(qP r.1:Int)<=vG xs)
section
variable {N B n:Nat} {c:aG} {w:aH}
theorem call_l1 {m:Nat} {xs:List Nd} {fe:aG->aH->aD->Option (aF × aH)} (hf:UJ N B m fe) (h:CI N B c) (hx:∀x ∈ xs,WE x) (hs:vG xs<=20000) (hm:3*vG xs+301<=m) :
  ∀(k v:Nat) (ys:List aF) (w:aH),xs.length<v+k->v<=xs.length->ys.length=v->(w.e_=0->∀y ∈ ys,TX (tS c) c.bI y)->bK (qJ fe xs c k ys (v:Int) w) λr=>WK w r.2/\r.1.length=xs.length/\(r.2.e_=0->∀y ∈ r.1,TX (tS c) c.bI y)/\(r.2.e_=0->(qP r.1:Int)<=qP ys+vG (xs.drop v)):=by
 intro k
 induction k with
 | zero=>intro v ys w h1 h2 h3;omega
 | succ k ih=>
   intro v ys w h1 h2 h3 h4;unfold qJ;have hg:=pG xs
   by_cases hv:v<xs.length
   ·rw [if_pos (Ar (by omega))];obtain ⟨x,e,ex,hxm⟩:=oO (l:=xs) (i:=(v:Int)) (by omega) (by omega)
    have hd:xs.drop v=x::xs.drop (v+1):=by
     rw [Di] at ex;obtain ⟨hlt,rfl⟩:=vE.1 ex;exact NW hlt
    rw [e];simp only [iR];have hsz:=Jo hxm;refine (hf c w x h (hx x hxm) (by omega) (by omega)).bind λr hr=>bK.need (by simp only [vM];omega) ?_;rw [cZ (by omega) (by omega),show ((v:Int)+1)=((v+1:Nat):Int) by omega];refine (ih (v+1) _ _ (by omega) (by omega) (by simp only [mS,vM];omega) λe y hy=>?_).mono λq hq=>⟨WK.trans (λe=>(hr e).1) hq.1,hq.2.1,hq.2.2.1,λe=>?_⟩
    ·rcases zK.1 hy with hy | hy
     ·exact h4 (by rw [←(hr e).1];exact e) y hy
     ·obtain rfl:=As.1 hy;exact (hr e).2.1
    ·have h5:=hq.2.2.2 e;have h6:=(hr (by rw [←hq.1 e];exact e)).2.2;rw [Lz,qP,qP] at h5;rw [hd,uN];omega
   ·rw [if_neg (by simp;omega)];exact .some ⟨.refl _,by rw [h3];omega,h4,λ_=>by have:=pG (xs.drop v);simp only;omega⟩
theorem call_b {fe:aG->aH->aD->Option (aF × aH)} (hf:UJ N B n fe):UK N B (n+1) (oV fe n):=by
 intro c w xs h hx hs hn;unfold oV;have hg:=pG xs;exact (call_l1 hf h hx hs (by omega) n 0 [] w (by omega) (by omega) rfl λ_ y hy=>nomatch hy).bind λr hr=>.some ⟨hr.1,hr.2.1,hr.2.2.1,λe=>by have:=hr.2.2.2 e;rw [qP,iE] at this;simp only;omega⟩
theorem cexpr_b {f1 f2 f3 f4:aG->aH->aD->aF->Option (aF × aH)} (h1:IN N B n 16 f1) (h2:IN N B n 18 f2) (h3:IN N B n 19 f3) (h4:IN N B n 17 f4):UJ N B (n+1) (oA f1 f2 f3 f4 n):=by
 intro c w x h hx hs hn;have hp:=qZ x;unfold oA;cases hx with
 | num=>exact .some λ_=>⟨rfl,.num,by rw [AZ,qP,gP,oH];omega⟩
 | ref=>
   simp only [Int.reduceBEq,EE,if_false,if_true];refine (DM (w:=w) h (by omega)).bind λr hr=>?_;refine (Bu (w:=r.2) h hr.1).bind λk hk=>?_;rw [pA];refine .some λe=>?_;obtain ⟨k1,k2,k3⟩:=fF (k:=132) (by decide) e;obtain ⟨j1,u,j2,j3,j4,j5⟩:=hr.2.2 k1;refine ⟨k3.trans j1,?_,by rw [AZ,qP,gP,oH];omega⟩
   rcases hk with ⟨hm,_⟩ | ⟨_,u2,hk2,rfl⟩
   ·omega
   ·exact .var j2 (by unfold bN;rw [if_pos j3];exact hk2) (by simpa using k2)
 | index hy=>
   simp only [Int.reduceBEq,EE,if_false,if_true];exact (h1 c w _ _ h (.index hy) rfl hs (by omega) ⟨_,rfl⟩).bind λr hr=>.some hr
 | un hu hy=>
   simp only [Int.reduceBEq,EE,if_false,if_true];exact (h2 c w _ _ h (.un hu hy) rfl hs (by omega) ⟨_,rfl⟩).bind λr hr=>.some hr
 | bin hl hy hz=>
   simp only [Int.reduceBEq,EE,if_false,if_true];exact (h3 c w _ _ h (.bin hl hy hz) rfl hs (by omega) ⟨_,rfl⟩).bind λr hr=>.some hr
 | call hy=>
   simp only [Int.reduceBEq,EE,if_false];exact (h4 c w _ _ h (.call hy) rfl hs (by omega) ⟨_,rfl⟩).bind λr hr=>.some hr
theorem WE.inv16 {x:Nd} (h:WE x) (k:x.bT=16):∃a s y,x=⟨16,a,s,0,[y]⟩/\WE y:=by
 cases h <;> first | exact ⟨_,_,_,rfl,‹_›⟩ | (simp at k)
theorem WE.inv18 {x:Nd} (h:WE x) (k:x.bT=18):∃a s y,x=⟨18,a,s,0,[y]⟩/\WE y:=by
 cases h <;> first | exact ⟨_,_,_,rfl,‹_›⟩ | (simp at k)
theorem WE.inv19 {x:Nd} (h:WE x) (k:x.bT=19):∃a s y z,x=⟨19,a,s,0,[y,z]⟩/\WE y/\WE z/\s ∈ Hy:=by
 cases h <;> first | exact ⟨_,_,_,_,rfl,‹_›,‹_›,‹_›⟩ | (simp at k)
theorem WE.inv17 {x:Nd} (h:WE x) (k:x.bT=17):∃a s xs,x=⟨17,a,s,0,xs⟩/\∀y ∈ xs,WE y:=by
 cases h <;> first | exact ⟨_,_,_,rfl,‹_›⟩ | (simp at k)
theorem cload_b {fe:aG->aH->aD->Option (aF × aH)} (hf:UJ N B n fe):IN N B (n+1) 16 (nZ fe n):=by
 rintro c w x y h hx hk hs hn ⟨ya,rfl⟩;obtain ⟨a,s,z,rfl,hz⟩:=hx.inv16 hk;rw [gP,sM] at hs hn;have hzp:=qZ z;unfold nZ;refine bK.eqn (v:=z) rfl ?_;refine (hf c w z h hz (by omega) (by omega)).bind λr hr=>?_;refine (DM (w:=r.2) h (by omega)).bind λv hv=>?_;refine (Bu (w:=v.2) h hv.1).bind λk hk=>?_;simp only [pA,iR]
 have key:∀ {w2:aH},WK (Mx (Mx v.2 (k == 4) 132 a) (r.1.cK == 1) 133 r.1.fC) w2->w2.e_=0->w2=w/\(TX (tS c) c.bI r.1/\(xz r.1:Int)<=sz z)/\r.1.cK=1/\∃u,v.1 ∈ c.bI/\bN (tS c) v.1=some u/\u.bT=4:=by
  intro w2 hw2 e;have e2:=hw2 e;subst e2;obtain ⟨k1,k2,k3⟩:=fF (k:=133) (by decide) e;obtain ⟨j1,j2,j3⟩:=fF (k:=132) (by decide) k1;obtain ⟨i1,u,i2,i3,i4,i5⟩:=hv.2.2 j1;obtain ⟨l1,l2⟩:=hr (by rw [←i1];exact j1);refine ⟨by rw [k3,j3,i1,l1],l2,by simpa using k2,u,i2,by unfold bN;rw [if_pos i3];exact i4,?_⟩
  rcases hk with ⟨hm,_⟩ | ⟨_,u2,hk2,rfl⟩
  ·omega
  ·rw [i4] at hk2;cases hk2;simpa using j2
 refine bK.bind' (bK.iteb (λhe=>.some ?_) (λhe=>.some ?_))
 ·refine bK.iteb (λho=>?_) (λho=>.some λe=>?_)
  ·have he2:=(fF (k:=132) (by decide) (fF (k:=133) (by decide) (by simpa using he)).1).1;obtain ⟨_,u,h1,h2,h3,h4⟩:=hv.2.2 he2;obtain ⟨f,_,hm,hvs,hfi⟩:=h.cur;rw [hfi];have hlt:=h.sc _ h1;rw [hvs] at hlt;obtain ⟨u2,e2,_,_⟩:=oO hlt.1 hlt.2;simp only [iR,e2];refine .some λe=>?_;obtain ⟨g1,g2,g3,u3,g4,g5,g6⟩:=key WK.nd e;rw [hvs,e2] at g5;cases g5
   exact ⟨g1,.index g4 (by rw [hvs];exact e2) g6 g2.1 g3 λ_=>(by simpa using (fF (k:=137) (by decide) e).2.1),by rw [AZ,qP,qP,gP,sM];have:=g2.2;omega⟩
  ·obtain ⟨g1,g2,g3,u3,g4,g5,g6⟩:=key (.refl _) e;exact ⟨g1,.index g4 g5 g6 g2.1 g3 λh=>absurd h (by simpa using ho),by rw [AZ,qP,qP,gP,sM];have:=g2.2;omega⟩
 ·refine bK.iteb (λh=>nomatch h) (λ_=>.some λe=>?_);exact absurd e (by simpa using he)
theorem TD {α:Type} {l:List α} (h:l.length=1):∃x,l=[x]:=by
 match l,h with
 | [x],_=>exact ⟨x,rfl⟩
theorem list2 {α:Type} {l:List α} (h:l.length=2):∃x y,l=[x,y]:=by
 match l,h with
 | [x,y],_=>exact ⟨x,y,rfl⟩
theorem list3 {α:Type} {l:List α} (h:l.length=3):∃x y z,l=[x,y,z]:=by
 match l,h with
 | [x,y,z],_=>exact ⟨x,y,z,rfl⟩
theorem Ub {fa:aG->aH->(List aD)->Option ((List aF) × aH)} (hf:UK N B n fa):IN N B (n+1) 18 (nC fa n):=by
 rintro c w x y h hx hk hs hn ⟨ya,rfl⟩;obtain ⟨a,s,z,rfl,hz⟩:=hx.inv18 hk;rw [gP] at hs hn;unfold nC;refine (hf c w [z] h (λu hu=>by obtain rfl:=As.1 hu;exact hz) (by omega) (by omega)).bind λr hr=>?_;obtain ⟨h1,h2,h3,h5⟩:=hr;obtain ⟨u,hu⟩:=TD h2;rw [hu] at h3 h5 ⊢;refine bK.iteb (λ_=>bK.eqn (v:=u) rfl (.some λe=>⟨h1 e,.un (.inr rfl) (h3 e u Tx),by rw [AZ,gP];have:=h5 e;simp only;omega⟩)) (λ_=>bK.eqn (v:=u) rfl (.some λe=>⟨h1 e,.un (.inl rfl) (h3 e u Tx),by rw [AZ,gP];have:=h5 e;simp only;omega⟩))
theorem Rw {fa:aG->aH->(List aD)->Option ((List aF) × aH)} (hf:UK N B n fa):IN N B (n+1) 19 (mK fa n):=by
 rintro c w x y h hx hk hs hn ⟨ya,rfl⟩;obtain ⟨a,s,z,z2,rfl,hz,hz2,hsg⟩:=hx.inv19 hk;rw [gP] at hs hn;unfold mK;refine (hf c w [z,z2] h (λu hu=>by rcases AP.1 hu with rfl | hu;exact hz;obtain rfl:=As.1 hu;exact hz2) (by omega) (by omega)).bind λr hr=>?_;obtain ⟨h1,h2,h3,h5⟩:=hr;obtain ⟨u,u2,hu⟩:=list2 h2;rw [hu] at h3 h5 ⊢;refine bK.eqn (v:=u) rfl (bK.eqn (v:=u2) rfl (JL.bind λk hk=>?_));subst hk;simp only [pA,iR]
 have fin:∀ {o:cJ} {t:Int} {w2:aH},WK r.2 w2->(w2.e_=0->NT o u u2 t)->RZ c w ⟨19,a,s,0,[z,z2]⟩ (⟨o,t,0,-1,[u,u2],ya⟩,w2):=λhw hb e=>by
  have e1:r.2.e_=0:=by rw [←hw e];exact e
  exact ⟨(hw e).trans (h1 e1),.bin (h3 e1 u (by simp)) (h3 e1 u2 (by simp)) (hb e),by rw [AZ,gP];have:=h5 e1;simp only;omega⟩
 have div:∀ {o:cJ},(o=[47] ∨ o=[37])->bK ((cF c (Mx (Mx r.2 (u.cK == 1) 133 u.fC) (u2.cK == 1) 133 u2.fC) ⟨o,0,0,-1,[u,u2],ya⟩ 1).bind λx=>some (x.1,x.2)) (RZ c w ⟨19,a,s,0,[z,z2]⟩):=λho=>
  (vU (c:=c)).bind λr2 hr2=>.some (by
    rw [hr2.2.1];refine fin ((WK.nd).trans ((WK.nd).trans hr2.1)) λe=>?_;obtain ⟨k1,k2,_⟩:=fF (k:=133) (by decide) (by rw [←hr2.1 e];exact e);obtain ⟨_,j2,_⟩:=fF (k:=133) (by decide) k1;exact .inl ⟨ho,by simpa using j2,by simpa using k2,rfl⟩)
 have shf:∀ {o:cJ},(o=[60,60] ∨ o=[62,62] ∨ o=[60,60,60])->bK ((gL c r.2 ⟨o,0,0,-1,[u,u2],ya⟩ u u2).bind λx=>some (x.1,x.2)) (RZ c w ⟨19,a,s,0,[z,z2]⟩):=λho=>
  (Qz (c:=c)).bind λr2 hr2=>.some (by
    rw [hr2.2.1];refine fin hr2.1 λe=>?_;obtain ⟨k1,k2,_⟩:=hr2.2.2 e;exact .inr (.inl ⟨ho,k1,k2,rfl⟩))
 have typ:∀ {o:cJ} {t:Int} {w1:aH},WK r.2 w1->(t ≠ 0->w1.e_=0->NT o u u2 t)->bK ((cF c w1 ⟨o,0,0,-1,[u,u2],ya⟩ t).bind λx=>some (x.1,x.2)) (RZ c w ⟨19,a,s,0,[z,z2]⟩):=λhw hb=>
  (vU (c:=c)).bind λr2 hr2=>.some (by
    rw [hr2.2.1];refine fin (hw.trans hr2.1) λe=>hb (hr2.2.2 e) (by rw [←hr2.1 e];exact e))
 refine bK.iteb (λho=>div (.inl (BI ho))) λn1=>bK.iteb (λho=>div (.inr (BI ho))) λn2=>?_;refine bK.iteb (λho=>shf (.inl (BI ho))) λn3=>bK.iteb (λho=>shf (.inr (.inl (BI ho)))) λn4=>bK.iteb (λho=>shf (.inr (.inr (BI ho)))) λn5=>?_;refine bK.iteb (λho=>typ WK.nd λht e=>.inr (.inr (.inl ⟨BI ho,rfl,by simpa using (fF (k:=132) (by decide) e).2.1,ht⟩))) λn6=>?_;refine bK.iteb (λho=>bK.iteb (λh3=>typ (.refl _) λht e=>?_) λh3=>typ (.refl _) λht e=>?_) λn7=>?_
 ·exact .inr (.inr (.inr (.inl ⟨.inl (BI ho),by rw [beq_iff_eq] at h3;omega,by rw [if_pos (by simpa using h3)]⟩)))
 ·exact .inr (.inr (.inr (.inl ⟨.inl (BI ho),ht,by rw [if_neg (by simpa using h3)]⟩)))
 refine bK.iteb (λho=>bK.iteb (λh3=>typ (.refl _) λht e=>?_) λh3=>typ (.refl _) λht e=>?_) λn8=>?_
 ·exact .inr (.inr (.inr (.inl ⟨.inr (BI ho),by rw [beq_iff_eq] at h3;omega,by rw [if_pos (by simpa using h3)]⟩)))
 ·exact .inr (.inr (.inr (.inl ⟨.inr (BI ho),ht,by rw [if_neg (by simpa using h3)]⟩)))
 refine typ (.refl _) λht e=>.inr (.inr (.inr (.inr ⟨?_,rfl,ht⟩)));simp only [decide_eq_false_iff_not] at n1 n2 n3 n4 n5 n6 n7 n8;simp only [Hy,AP,iK,or_false] at hsg
 rcases hsg with h | h | h | h | h | h | h | h | h | h | h | h | h
 ·exact .inl h
 ·exact .inr (.inl h)
 ·exact .inr (.inr (.inl h))
 ·exact absurd h n7
 ·exact absurd h n8
 ·exact absurd h n3
 ·exact absurd h n4
 ·exact absurd h n5
 ·exact .inr (.inr (.inr (.inl h)))
 ·exact .inr (.inr (.inr (.inr h)))
 ·exact absurd h n6
 ·exact absurd h n1
 ·exact absurd h n2
theorem OX {fa:aG->aH->(List aD)->Option ((List aF) × aH)} (hf:UK N B n fa):IN N B (n+1) 17 (lT fa n):=by
 rintro c w x y h hx hk hs hn ⟨ya,rfl⟩;obtain ⟨a,s,xs,rfl,hz⟩:=hx.inv17 hk;rw [gP] at hs hn;have hp:0<=vG xs:=by have:=pG xs;omega
 unfold lT;refine (HS (s:=s) (by omega)).bind λv hv=>?_;simp only [pA,iR];refine (hf c _ xs h hz (by omega) (by omega)).bind λr hr=>?_;obtain ⟨g1,hrl,g3,g4⟩:=hr;have hwr:=(WK.nd (w:=w)).trans ((WK.nd).trans g1);refine bK.iteb (λhe=>.some λe=>absurd e (by simpa using he)) (λhe=>?_);simp only [bne_eq_false_iff_eq] at he;have h1:=g1 he;obtain ⟨k1,k2,k3⟩:=fF (k:=136) (by decide) (by rw [←h1];exact he);obtain ⟨j1,j2,j3⟩:=fF (k:=130) (by decide) k1;have hl:(xs.length:Int)=v:=by simpa using k2
 have hv0:0<v:=BI j2;have hT:=g3 he;have fin:∀ {x:aF} {w2:aH},WK r.2 w2->(w2.e_=0->TX (tS c) c.bI x)->x.aP=r.1->RZ c w ⟨17,a,s,0,xs⟩ (x,w2):=λhw hb hx e=>⟨(hwr.trans hw) e,hb e,by rw [AZ,gP,hx];have:=g4 he;omega⟩;obtain ⟨_,hv3,hvs,hvw,hall⟩:=hv;have hall:=hall hv0;obtain ⟨u,e,_,hum⟩:=oO (l:=r.1) (i:=0) (by decide) (by omega);rw [e];simp only [iR];refine bK.iteb (λhc=>?_) (λn1=>bK.iteb (λhc=>?_) (λn2=>bK.iteb (λhc=>?_) (λn3=>?_)))
 ·have h3:=hvs (BI hc);obtain ⟨x0,x1,x2,hr3⟩:=list3 (l:=r.1) (by omega);rw [hr3] at hT fin ⊢;refine (OV (c:=c) rfl).bind λk hk=>?_;refine (vU (c:=c)).bind λr2 hr2=>.some ?_;rw [hr2.2.1];refine fin hr2.1 (λe=>?_) rfl;obtain ⟨q1,q2,rfl⟩:=hk (hr2.2.2 e);rw [BI hc];exact .sel (hT _ (by simp)) (hT _ (by simp)) (hT _ (by simp)) q1 q2
 ·have hc1:=BI hc
  have hv1:v=1:=by
   rcases hall with h | h | h | h | h
   ·rw [hc1] at h;exact absurd h (by decide)
   ·exact h.2
   ·exact h.2
   ·exact h.2
   ·rw [hc1] at h;exact absurd h (by decide)
  obtain ⟨x0,hr1⟩:=TD (l:=r.1) (by omega);rw [hr1] at hT e fin ⊢;have hx0:x0=u:=by cases e;rfl
  subst hx0;refine DZ.bind λb hb=>?_;refine (vU (c:=c)).bind λr2 hr2=>.some ?_;rw [hr2.2.1];refine fin ((WK.nd).trans hr2.1) (λe=>?_) rfl;rw [hc1];exact .long (hT _ Tx) (hb (fF (k:=132) (by decide) (by rw [←hr2.1 e];exact e)).2.1)
 ·have h2:=hvw (BI hc);obtain ⟨x0,x1,hr2⟩:=list2 (l:=r.1) (by omega);rw [hr2] at hT e fin ⊢;have hx0:x0=u:=by cases e;rfl
  subst hx0;refine bK.bind (P:=λw'=>WK r.2 w'/\(w'.e_=0->ScT x0.cK/\ScT x1.cK)) (DZ.bind λb hb=>bK.iteb (λhbt=>bK.eqn (v:=x1) rfl ?_) (λ_=>.some ⟨WK.nd,λe=>?_⟩)) λw' hw'=>?_
  ·exact DZ.bind λb2 hb2=>.some ⟨WK.nd,λe=>⟨hb hbt,hb2 (fF (k:=132) (by decide) e).2.1⟩⟩
  ·have:=(fF (k:=132) (by decide) e).2.1;cases this
  ·refine (vU (c:=c)).bind λr2 hr2=>.some ?_;rw [hr2.2.1];refine fin (hw'.1.trans hr2.1) (λe=>?_) rfl;obtain ⟨q1,q2⟩:=hw'.2 (by rw [←hr2.1 e];exact e);rw [BI hc];exact .wide (hT _ (by simp)) (hT _ (by simp)) q1 q2
 ·have hc1:(s=[108,111] ∨ s=[104,105])/\v=1:=by
   rcases hall with h | h | h | h | h
   ·exact absurd h (by simpa using n1)
   ·exact absurd h.1 (by simpa using n2)
   ·exact ⟨.inl h.1,h.2⟩
   ·exact ⟨.inr h.1,h.2⟩
   ·exact absurd h (by simpa using n3)
  obtain ⟨x0,hr1⟩:=TD (l:=r.1) (by omega);rw [hr1] at hT e fin ⊢;have hx0:x0=u:=by cases e;rfl
  subst hx0;refine (vU (c:=c)).bind λr2 hr2=>.some ?_;rw [hr2.2.1];refine fin ((WK.nd).trans hr2.1) (λe=>?_) rfl;exact .half hc1.1 (hT _ Tx) (eq_of_beq (fF (k:=132) (by decide) (by rw [←hr2.1 e];exact e)).2.1)
theorem PL:∀n:Nat,UJ N B n (bY n).1/\IN N B n 16 (bY n).2.1/\IN N B n 18 (bY n).2.2.1/\IN N B n 19 (bY n).2.2.2.1/\IN N B n 17 (bY n).2.2.2.2.1/\UK N B n (bY n).2.2.2.2.2
 | 0=>⟨λc w x _ _ _ h=>by have:=qZ x;omega,λc w x y _ _ _ _ h _=>by have:=qZ x;omega,λc w x y _ _ _ _ h _=>by have:=qZ x;omega,λc w x y _ _ _ _ h _=>by have:=qZ x;omega,λc w x y _ _ _ _ h _=>by have:=qZ x;omega,λc w xs _ _ _ h=>by have:=pG xs;omega⟩
 | n+1=>by
   obtain ⟨g1,g2,g3,g4,g5,g6⟩:=PL n;exact ⟨cexpr_b g2 g3 g4 g5,cload_b g1,Ub g6,Rw g6,OX g6,call_b g1⟩
theorem AW (h:CI N B c) {x:Nd} (hx:WE x) (hs:sz x<=20000) (hn:3*sz x+301<=n):bK (gB n c w x) (RZ c w x):=(PL n).1 c w x h hx hs hn
end
section
variable {N B n:Nat} {c:aG} {w:aH}
theorem uB (h:CI N B c) {x:Nd} (hx:WE x) (hs:sz x<=20000) (hn:3*sz x+301<=n):bK (eJ n c w x) λr=>RZ c w x r/\(r.2.e_=0->r.1.cK=1):=by
 unfold eJ;refine (AW h hx hs hn).bind λr hr=>?_;rw [pA];refine .some ⟨λe=>?_,λe=>by simpa using (fF (k:=133) (by decide) e).2.1⟩;obtain ⟨k1,_,k3⟩:=fF (k:=133) (by decide) e;obtain ⟨j1,j2⟩:=hr k1;exact ⟨k3.trans j1,j2⟩
theorem RZ.wk {x:Nd} {r:aF × aH} (h:RZ c w x r):WK w r.2:=λe=>(h e).1
theorem Find_l1 (fs:List aS) (s:cJ) (hl:fs.length<=16384):∀(k v:Nat),fs.length<v+k->v<=fs.length->∃r,cH fs s k v=some r/\(r=.inl () ∨ ∃(i:Nat) (f:aS),r=.inr (i:Int)/\fs[i]? = some f/\f.fO=s):=by
 intro k
 induction k with
 | zero=>intro v h1 h2;omega
 | succ k ih=>
   intro v h1 h2;unfold cH
   by_cases hv:v<fs.length
   ·rw [if_pos (Ar (by omega))];obtain ⟨f,e,e2,_⟩:=oO (l:=fs) (i:=(v:Int)) (by omega) (by omega);rw [e];simp only [iR,Af]
    by_cases hf:f.fO=s
    ·rw [if_pos (Ar hf)];exact ⟨_,rfl,.inr ⟨v,f,rfl,by simpa using e2,hf⟩⟩
    ·rw [if_neg (by simpa using hf),cZ (by omega) (by omega),show ((v:Int)+1)=((v+1:Nat):Int) by omega];exact ih (v+1) (by omega) (by omega)
   ·rw [if_neg (by simp;omega)];exact ⟨_,rfl,.inl rfl⟩
theorem NR {p:bL} {s:cJ} (hl:p.bF.length<=16384) (hn:16384<n):bK (oZ n p s) λr=>0<=r.1/\(r.2=true->r.1<p.bF.length/\∃f,p.bF[r.1.toNat]? = some f/\f.fO=s):=by
 unfold oZ eW;obtain ⟨r,e,hr⟩:=Find_l1 p.bF s hl n 0 (by omega) (by omega);have e:cH p.bF s n 0=some r:=e;rw [e]
 rcases hr with rfl | ⟨i,f,rfl,h1,h2⟩
 ·exact .some ⟨by decide,λh=>absurd h (by decide)⟩
 ·have hi:i<p.bF.length:=(vE.1 h1).1;refine .some ⟨by simp only;omega,λ_=>⟨by simp only;omega,f,?_,h2⟩⟩;have:(max (i:Int) 0).toNat=i:=by omega
  simp only [this,h1]
theorem function_tot' (h:CI N B c) (hn:16384<n) {x:Nd}:bK (mJ n c w x) λr=>WK w r.2/\(r.2.e_=0->0<=r.1/\r.1<N):=by
 unfold mJ;refine (NR (by have:=h.nf;have:=h.nN;omega) hn).bind λr hr=>?_;rw [pA];refine .some ⟨WK.nd,λe=>?_⟩;have:=(hr.2 (fF (by decide) e).2.1).1;have:=h.nf;exact ⟨hr.1,by omega⟩
theorem Ou (h:CI N B c) {i:Int} (h0:0<=i) (h1:i<N):bK (nX c w i) λr=>∃f,bN c.p_.bF i=some f/\r=f.aX.take f.bC.toNat:=by
 unfold nX;obtain ⟨f,e,_,hm⟩:=oO (l:=c.p_.bF) h0 (by have:=h.nf;omega);rw [e];have hv:=h.vl f hm;simp only [iR];exact bK.need ⟨hv.2.1,hv.2.2⟩ (.some ⟨f,rfl,rfl⟩)
theorem RB (h:CI N B c) (hn:300<n) {x:Nd} {p:aL} (hp:p.bT=4):bK (mE n c w x p.pB) λr=>r.2.e_=0->r.2=w/\Gz (tS c) c.bI p r.1/\(xz r.1:Int)<=sz x:=by
 unfold mE;rw [pA];simp only [iR];refine (DM h hn).bind λv hv=>?_;refine bK.bind (P:=λw'=>w'.e_=0->w'=w/\Gz (tS c) c.bI p ⟨[118,97,114],4,0,v.1,[],x.fC⟩) ?_ λw' hw'=>.some λe=>⟨(hw' e).1,(hw' e).2,by rw [AZ,qP];have:=qZ x;omega⟩;refine (Bu (w:=v.2) h hv.1).bind λk hk=>bK.iteb (λhc=>?_) (λ_=>by rw [pA];exact .some λe=>by have:=(fF (k:=132) (by decide) e).2.1;cases this);have hk4:k=4:=by simpa using hc
 rcases hk with ⟨_,h2⟩ | ⟨h0,u,h1,hku⟩
 ·omega
 obtain ⟨f,_,hm,hvs,hfi⟩:=h.cur;rw [hfi];rw [hvs] at h1;have hlt:v.1.toNat<f.aX.length:=(vE.1 h1).1
 have e2:bN f.aX (max v.1 0)=some u:=by
  rw [show max v.1 0=v.1 by omega];unfold bN;rw [if_pos h0];exact h1
 simp only [iR,e2,pA];refine .some λe=>?_;obtain ⟨k1,k2,k3⟩:=fF (k:=132) (by decide) e;obtain ⟨j1,u3,j2,j3,j4,j5⟩:=hv.2.2 k1;obtain ⟨_,_,i3⟩:=fF (k:=132) (by decide) (by rw [←j1];exact k1);refine ⟨by rw [k3,j1,i3],.arr hp j2 (u:=u) (by rw [hvs];unfold bN;rw [if_pos h0];exact h1) (by omega) (by simpa using k2)⟩
theorem Mg (h:CI N B c) {x:Nd} (hx:WE x) (hs:sz x<=20000) (hn:3*sz x+301<=n) {v:aL}:bK (mL n c w x v) λr=>r.2.e_=0->r.2=w/\Gz (tS c) c.bI v r.1/\(xz r.1:Int)<=sz x:=by
 have hp:=qZ x;unfold mL;refine bK.iteb (λh4=>?_) (λh4=>bK.iteb (λh1=>?_) (λh1=>?_))
 ·exact (RB h (by omega) (by simpa using h4)).bind λr hr=>.some hr
 ·exact (uB h hx hs hn).bind λr hr=>.some λe=>⟨(hr.1 e).1,.pub (by simpa using h1) (hr.1 e).2.1 (hr.2 e),(hr.1 e).2.2⟩
 ·refine (AW h hx hs hn).bind λr hr=>Hj.bind λb hb=>?_;rw [pA];refine .some λe=>?_;obtain ⟨k1,k2,k3⟩:=fF (k:=132) (by decide) e;exact ⟨k3.trans (hr k1).1,.val (by simpa using h1) (by simpa using h4) (hr k1).2.1 (hb k2),(hr k1).2.2⟩
theorem CI.calls (h:CI N B c) {l:List Int} {k:Int} (e:bN c.cB c.fL=some l) (h0:0<=k) (h1:k<N):CI N (B+1) { c with cB:=c.cB.set c.fL.toNat (l++[k]) }:=by
 have hm:l ∈ c.cB:=by
  obtain ⟨l2,e2,_,hm⟩:=oO (l:=c.cB) h.a0 (by rw [h.nc];exact h.a1);rw [e] at e2;cases e2;exact hm
 refine ⟨h.nf,h.nN,h.f0,h.f1,h.a0,h.a1,h.sc,h.sl,h.vl,by simp only [qV];exact h.nc,?_,h.ki⟩;intro l' hl'
 rcases Sg hl' with hl' | rfl
 ·exact ⟨Nat.le_succ_of_le (h.cl l' hl').1,(h.cl l' hl').2⟩
 ·have:=h.cl l hm;refine ⟨by simp only [mS,vM];omega,λu hu=>?_⟩
  rcases zK.1 hu with hu | hu
  ·exact this.2 u hu
  ·obtain rfl:=As.1 hu;exact ⟨h0,h1⟩
theorem CI.more {B':Nat} (h:CI N B c) (hb:B<=B'):CI N B' c:=⟨h.nf,h.nN,h.f0,h.f1,h.a0,h.a1,h.sc,h.sl,h.vl,h.nc,λl hl=>⟨KS (h.cl l hl).1 hb,(h.cl l hl).2⟩,h.ki⟩
theorem Uj {x:Nd} {sh:List aL} {l:List Int} {k4:Int × aH} (h:CI N B { c with cB:=c.cB.set c.fL.toNat (l++[k4.1]) }) (hx:∀y ∈ x.aP,WE y) (hs:vG x.aP<=20000) (hn:3*vG x.aP+301<=n) {w0:aH} (hw0:w0.e_=0->x.aP.length=sh.length) {st0:aC} :
  ∀(k v:Nat) (w:aH) (ys:List aF),x.aP.length<v+k->v<=x.aP.length->ys.length=v->(w.e_=0->w=w0/\∀(i:Nat) p y,sh[i]? = some p->ys[i]? = some y->Gz (tS c) c.bI p y)->WK w0 w->bK (kR n x sh c l k4 k (v:Int) w { st0 with aP:=ys }) λr=>WK w r.1/\(∃zs,r.2={ st0 with aP:=zs }/\(r.1.e_=0->Cr (tS c) c.bI sh zs/\(qP zs:Int)<=qP ys+vG (x.aP.drop v))):=by
 intro k
 induction k with
 | zero=>intro v w ys h1 h2 h3;omega
 | succ k ih=>
   intro v w ys h1 h2 h3 h4 hw;unfold kR;have hg:=pG x.aP
   by_cases hv:v<x.aP.length
   ·rw [if_pos (Ar (by omega))];obtain ⟨y,e,ey,hym⟩:=oO (l:=x.aP) (i:=(v:Int)) (by omega) (by omega)
    have hd:x.aP.drop v=y::x.aP.drop (v+1):=by
     rw [Di] at ey;obtain ⟨hlt,rfl⟩:=vE.1 ey;exact NW hlt
    rw [e];simp only [iR];refine bK.iteb (λhe=>.some ⟨.refl _,ys,rfl,λe=>absurd e (by simpa using he)⟩) (λhe=>?_);simp only [bne_eq_false_iff_eq] at he;have hw':=hw he;have hlen:=hw0 (by rw [←hw'];exact he);obtain ⟨u,e2,e3,_⟩:=oO (l:=sh) (i:=(v:Int)) (by omega) (by omega);rw [e2];simp only [iR];have hsz:=Jo hym;refine (Mg h (hx y hym) (by omega) (by omega)).bind λr hr=>bK.need (by simp only [vM];omega) ?_;rw [cZ (by omega) (by omega),show ((v:Int)+1)=((v+1:Nat):Int) by omega];refine (ih (v+1) r.2 (ys++[r.1]) (by omega) (by omega) (by simp only [mS,vM];omega) (λer=>⟨?_,λi p y hp hy=>?_⟩) (hw.trans λe=>(hr e).1)).mono λq hq=>?_
    ·rw [(hr er).1,hw']
    ·by_cases hi:i<v
     ·rw [ME (by omega)] at hy;exact (h4 he).2 i p y hp hy
     ·have hi2:i=v:=by
       have:=(vE.1 hy).1;simp only [mS,vM] at this;omega
      subst hi2;rw [Oa (by omega),h3,Nat.sub_self] at hy;cases hy;rw [Di] at e3;rw [hp] at e3;cases e3
      exact (hr er).2.1
    ·obtain ⟨hq1,zs,hq2,hq3⟩:=hq;refine ⟨WK.trans (λe=>(hr e).1) hq1,zs,hq2,λeq=>?_⟩;obtain ⟨h5,h6⟩:=hq3 eq;refine ⟨h5,?_⟩;rw [Lz,qP,qP] at h6;rw [hd,uN];have:=(hr (by rw [←hq1 eq];exact eq)).2.2;omega
   ·rw [if_neg (by simp;omega)];refine .some ⟨.refl _,ys,rfl,λe=>⟨⟨?_,(h4 e).2⟩,by have:=pG (x.aP.drop v);omega⟩⟩;have:=hw0 (by rw [←hw e];exact e);omega
theorem FP (h:CI N B c) (hB:B+1<=1073741824) {x:Nd} (hx:∀y ∈ x.aP,WE y) (hs:vG x.aP<=20000) (hn:3*vG x.aP+301<=n) (hn2:20000<n) {st:aC} {v:Int} :
  bK (iY n c w x st v) λr=>CI N (B+1) r.2.1/\Kp c r.2.1/\r.2.1.bI=c.bI/\r.2.1.p_=c.p_/\WK w r.2.2/\(r.2.2.e_=0->0<=r.1.iC/\r.1.iC<N/\∃f xs,r.1=⟨[99,97,108,108],v,r.1.iC,xs,st.bV,st.gT,st.fC⟩/\bN r.2.1.p_.bF r.1.iC=some f/\sgC r.2.1 r.1.iC f.bR (f.aX.take f.bC.toNat)/\Cr (tS c) c.bI (f.aX.take f.bC.toNat) xs/\(qP xs:Int)<=vG x.aP):=by
 have hg:=pG x.aP;unfold iY;refine (function_tot' (w:=w) (x:=x) h (by omega)).bind λr hr=>bK.iteb (λhe=>?_) (λhe=>?_)
 ·simp only [bne_iff_ne] at he;exact .some ⟨h.more (Nat.le_succ B),.refl c,rfl,rfl,hr.1,λe=>absurd e he⟩
 ·simp only [bne_eq_false_iff_eq] at he;obtain ⟨f0,f1⟩:=hr.2 he;obtain ⟨l,e,el,hm⟩:=oO (l:=c.cB) h.a0 (by rw [h.nc];exact h.a1);have h':=h.calls e f0 f1;rw [e];simp only [iR];refine bK.need (by have:=(h.cl l hm).1;omega) ?_;refine (Ou (w:=r.2) h' f0 f1).bind λsh hsh=>?_;obtain ⟨f,hf,rfl⟩:=hsh;rw [pA];simp only [iR];refine (Uj (st0:={ st with iB:=[99,97,108,108],gC:=v,iC:=r.1,aP:=[] }) h' hx hs hn (w0:=Mx r.2 ((x.aP.length:Int) == ((f.aX.take f.bC.toNat).length:Int)) 136 x.fC) (λe=>by have:=(fF (k:=136) (by decide) e).2.1;simp only [beq_iff_eq] at this;omega) n 0 _ [] (by omega) (by omega) rfl (λe=>⟨rfl,λi p y hp hy=>nomatch hy⟩) (.refl _)).bind λq hq=>?_;obtain ⟨hq1,zs,hq2,hq3⟩:=hq;have hal:c.fL.toNat<c.cB.length:=(vE.1 el).1
  have hcl:bN (c.cB.set c.fL.toNat (l++[r.1])) c.fL=some (l++[r.1]):=by
   unfold bN;rw [if_pos h.a0,Pl hal]
  refine .some ⟨h',⟨rfl,rfl,Qd _,Qd _,λ_ _=>rfl,rfl,λj hj=>Of (Ne.symm hj),λl2 e2=>?_⟩,rfl,rfl,hr.1.trans ((WK.nd).trans hq1),λe2=>?_⟩
  ·rw [e] at e2;cases e2
   exact ⟨_,hcl,MC _ _⟩
  ·rw [hq2];exact ⟨f0,f1,f,zs,rfl,hf,⟨⟨_,hcl,Ms _ Tx⟩,f,hf,rfl,rfl⟩,(hq3 e2).1,by have:=(hq3 e2).2;rw [qP,iE] at this;omega⟩
theorem Fy (hn:6<n) {x:Nd}:bK (jL n c w x) λb=>b=true->x.bT=17:=by
 unfold jL;exact bK.bind' (bK.iteb (λhc=>(HS hn).bind λv _=>.some (.some λ_=>by simpa using hc)) (λ_=>.some (.some λh=>nomatch h)))
def St1 (c c':aG) (w':aH) (b:Bool) (s:aC) (x:aD):Prop:=w'.e_=0->TB (sgC c') (tS c') (LK c) b (tS c).length c.bI [s] (tS c').length c'.bI/\(tz s:Int)<=sz x
theorem Fl {α:Type} {l:List α} {x:α}:(l++[x])[l.length]? = some x:=by
 rw [Oa (tJ _),Nat.sub_self];rfl
theorem OW (h:CI N B c) (hB:B+1<=1073741824) {x y:Nd} (hl:x.aP=[y]) (hy:WE y) (hs:sz y<=20000) (hn:3*sz y+301<=n) (hn2:20000<n) {a:Int} {b:Bool} :
  bK (oU n c w x ⟨[],-1,0,[],[],[],a⟩) λr=>CI N (B+1) r.2.1/\Kp c r.2.1/\WK w r.2.2/\St1 c r.2.1 r.2.2 b r.1 x:=by
 unfold oU;rw [hl];refine bK.eqn (v:=y) rfl ?_;refine (Fy (c:=c) (w:=w) (by omega)).bind λb hb=>bK.iteb (λhbt=>?_) (λ_=>?_)
 ·obtain ⟨a,s,xs,rfl,hxs⟩:=hy.inv17 (hb hbt);rw [gP] at hs hn;refine (FP h hB hxs (by simp only;omega) (by simp only;omega) hn2).bind λr hr=>?_;obtain ⟨h1,h2,h3,h4,h5,h6⟩:=hr;refine bK.iteb (λhe=>.some ⟨h1,h2,h5,λe=>absurd e (by simpa using he)⟩) (λhe=>?_);simp only [bne_eq_false_iff_eq] at he;obtain ⟨f0,f1,f,zs,e1,e2,e3,e4,e9⟩:=h6 he
  have hfm:f ∈ r.2.1.p_.bF:=by
   obtain ⟨f',e',_,hm⟩:=oO (l:=r.2.1.p_.bF) f0 (by rw [h1.nf];exact f1);rw [e2] at e';cases e';exact hm
  rw [e2];simp only [iR,pA];have hvs:tS r.2.1=tS c:=by unfold tS;rw [h4,h2.f]
  refine (uA h1 (by omega) λe=>?_).bind λd hd=>.some ⟨hd.1,h2.trans hd.2.1,h5.trans ((WK.nd).trans λe=>(hd.2.2.2.2.1 e).1),λe=>?_⟩
  ·have hr:=(h1.ki f hfm).2;have:=(fF (k:=132) (by decide) e).2.1;simp only [bne_iff_ne,ne_eq] at this;refine ⟨?_,?_,λh=>?_⟩ <;> simp only at * <;> omega
  ·obtain ⟨d1,d2,d3,d4⟩:=hd.2.2.2.2.1 e;have e5:(Mx r.2.2 (f.bR != 0) 132 x.fC).e_=0:=by rw [←d1];exact e
   have hne:=(fF (k:=132) (by decide) e5).2.1;rw [e1];simp only;rw [d2,d3,d4,h3,hvs,mS,vM];exact ⟨.callv (u:=⟨x.cW,f.bR,0⟩) (r:=f.bR) (Kp.sg h1 hd.2.1 e3) (e4.mono (MC _ _) λ_ h=>h) (by simpa using hne) Fl rfl .nil,by rw [yC,EW x,hl,sM,gP];simp only [uJ];simp only at e9;omega⟩
 ·refine (AW h hy hs hn).bind λr hr=>Jq.bind λk hk=>?_;subst hk;refine (uA h (by omega) λe=>?_).bind λd hd=>.some ⟨hd.1.more (Nat.le_succ B),hd.2.1,hr.wk.trans λe=>(hd.2.2.2.2.1 e).1,λe=>?_⟩
  ·have:=(hr e).2.1.range h.vsOk;refine ⟨?_,?_,λh=>?_⟩ <;> simp only [HA] at * <;> split at * <;> omega
  ·obtain ⟨d1,d2,d3,d4⟩:=hd.2.2.2.2.1 e;simp only;rw [d2,d3,d4,mS,vM];have hr0:=hr (by rw [←d1];exact e);exact ⟨.var_ (u:=⟨x.cW,HA r.1.cK,0⟩) (hr0.2.1.mono (MC _ _) λ_ h=>h) Fl rfl .nil,by rw [yC,EW x,hl,sM];simp only [uJ,qP];have:=hr0.2.2;omega⟩
theorem Mc (h:CI N B c) (hn:300<n) {x:Nd}:bK (nD n c w x) λr=>WK w r.2/\(r.1=-1 ∨ 0<=r.1/\r.1<(tS c).length)/\(r.2.e_=0->∃u,r.1 ∈ c.bI/\bN (tS c) r.1=some u/\(u.bT=2 ∨ u.bT=3)):=by
 unfold nD;refine (DM (w:=w) h hn).bind λv hv=>?_;refine (Bu (w:=v.2) h hv.1).bind λk hk=>?_;simp only [pA,iR];have hwv:WK w v.2:=λe=>(hv.2.2 e).1
 have key:(k=2 ∨ k=3)->v.2.e_=0->∃u,v.1 ∈ c.bI/\bN (tS c) v.1=some u/\(u.bT=2 ∨ u.bT=3):=λh2 e=>by
  obtain ⟨_,u,j2,j3,j4,_⟩:=hv.2.2 e
  rcases hk with ⟨hm,_⟩ | ⟨_,u2,hk2,rfl⟩
  ·omega
  ·exact ⟨u2,j2,by unfold bN;rw [if_pos j3];exact hk2,h2⟩
 refine bK.bind' (bK.iteb (λh2=>.some (.some ⟨hwv.trans WK.nd,hv.1,λe=>?_⟩)) (λ_=>.some (.some ⟨hwv.trans WK.nd,hv.1,λe=>?_⟩)))
 ·exact key (.inl (by simpa using h2)) (fF (k:=132) (by decide) e).1
 ·obtain ⟨k1,k2,_⟩:=fF (k:=132) (by decide) e;exact key (.inr (by simpa using k2)) k1
theorem Uc (h:CI N B c) (hB:B+1<=1073741824) {x y:Nd} (hl:x.aP=[y]) (hy:WE y) (hs:sz y<=20000) (hn:3*sz y+301<=n) (hn2:20000<n) {a:Int} {b:Bool} :
  bK (qC n c w x ⟨[],-1,0,[],[],[],a⟩) λr=>CI N (B+1) r.2.1/\Kp c r.2.1/\WK w r.2.2/\St1 c r.2.1 r.2.2 b r.1 x:=by
 unfold qC;refine (Mc (w:=w) h (by omega)).bind λv hv=>?_;rw [hl];refine bK.eqn (v:=y) rfl ?_;refine (Fy (c:=c) (w:=v.2) (by omega)).bind λb hb=>bK.iteb (λhbt=>?_) (λ_=>?_)
 ·obtain ⟨a,s,xs,rfl,hxs⟩:=hy.inv17 (hb hbt);rw [gP] at hs hn;refine (FP h hB hxs (by simp only;omega) (by simp only;omega) hn2).bind λr hr=>?_;obtain ⟨h1,h2,h3,h4,h5,h6⟩:=hr;refine bK.iteb (λhe=>?_) (λhe=>.some ⟨h1,h2,hv.1.trans h5,λe=>absurd e (by simpa using he)⟩);simp only [beq_iff_eq] at he;obtain ⟨f0,f1,f,zs,e1,e2,e3,e4,e9⟩:=h6 he;have hlen:=h2.v.length_le;have hvs:tS r.2.1=tS c:=by unfold tS;rw [h4,h2.f]
  obtain ⟨u,hu1,hu2,hu3⟩:=hv.2.2 (by rw [←h5 he];exact he);refine (Bu (w:=r.2.2) h1 (v:=v.1) (by rcases hv.2.1 with h | h;exact .inl h;exact .inr ⟨h.1,by omega⟩)).bind λk hk=>?_;rw [e2];simp only [iR,pA];refine .some ⟨h1,h2,hv.1.trans (h5.trans WK.nd),λe=>?_⟩;have hr:=(fF (k:=132) (by decide) e).2.1
  have hku:k=u.bT:=by
   have h0:=h.sc _ hu1
   rcases hk with ⟨hm,_⟩ | ⟨h0,u2,hk2,rfl⟩
   ·omega
   ·unfold bN at hu2;rw [if_pos h0,←hvs,hk2] at hu2;cases hu2;rfl
  rw [e1,hvs,h3];exact ⟨.calls hu1 hu2 hu3 e3 e4 (by rw [←hku];simpa using hr) .nil,by rw [yC,EW x,hl,sM,gP];simp only [uJ];simp only at e9;omega⟩
 ·refine (AW h hy hs hn).bind λr hr=>(Bu (w:=r.2) h hv.2.1).bind λk hk=>Hj.bind λb hb=>?_;rw [pA];refine .some ⟨h.more (Nat.le_succ B),.refl c,hv.1.trans (hr.wk.trans WK.nd),λe=>?_⟩;obtain ⟨k1,k2,_⟩:=fF (k:=132) (by decide) e;obtain ⟨u,hu1,hu2,hu3⟩:=hv.2.2 (by rw [←hr.wk k1];exact k1)
  have hku:k=u.bT:=by
   have h0:=h.sc _ hu1
   rcases hk with ⟨hm,_⟩ | ⟨h0,u2,hk2,rfl⟩
   ·omega
   ·unfold bN at hu2;rw [if_pos h0,hk2] at hu2;cases hu2;rfl
  exact ⟨.set hu1 hu2 hu3 (hr k1).2.1 (hku ▸ hb k2) .nil,by rw [yC,EW x,hl,sM];simp only [uJ,qP];have:=(hr k1).2.2;omega⟩
theorem OU (h:CI N B c) {x:Nd} (hx:WE x) (hs:sz x<=20000) (hn:3*sz x+301<=n) {v:Int} (hv:w.e_=0->0<=v/\v<(tS c).length):bK (oT n c w x v) λr=>RZ c w x r/\(r.2.e_=0->r.1.cK=1/\∀u,bN (tS c) v=some u->r.1.iB=[110,117,109]->i64.wrap r.1.N_<u.pB):=by
 unfold oT;refine (uB h hx hs hn).bind λr hr=>?_;obtain ⟨hr,hr1⟩:=hr;refine bK.bind' (bK.iteb (λhe=>.some ?_) (λhe=>.some (bK.iteb (λh=>nomatch h) (λ_=>.some ⟨hr,λe=>absurd e (by simpa using he)⟩))));refine bK.iteb (λho=>?_) (λho=>.some ⟨hr,λe=>⟨hr1 e,λu hu h=>absurd h (by simpa using ho)⟩⟩);have he:r.2.e_=0:=by simpa using he
 obtain ⟨v0,v1⟩:=hv (by rw [←(hr he).1];exact he);obtain ⟨f,_,hm,hvs,hfi⟩:=h.cur;rw [hfi];rw [hvs] at v1;obtain ⟨u,e,_,_⟩:=oO v0 v1;simp only [iR,e,pA];refine .some ⟨λe2=>?_,λe2=>?_⟩
 ·obtain ⟨k1,_,k3⟩:=fF (k:=137) (by decide) e2;exact ⟨k3.trans (hr k1).1,(hr k1).2⟩
 ·obtain ⟨k1,k2,_⟩:=fF (k:=137) (by decide) e2;refine ⟨hr1 k1,λu2 hu _=>?_⟩;rw [hvs,e] at hu;cases hu
  simpa using k2
theorem Ud (h:CI N B c) {x i y:Nd} (hl:x.aP=[i,y]) (hi:WE i) (hy:WE y) (hs:sz i<=20000) (hs2:sz y<=20000) (hn:3*sz i+301<=n) (hn2:3*sz y+301<=n) {a:Int} {b:Bool}:bK (qD n c w x ⟨[],-1,0,[],[],[],a⟩) λr=>WK w r.2/\St1 c c r.2 b r.1 x:=by
 have hp:=qZ i;unfold qD;refine (DM (w:=w) h (by omega)).bind λv hv=>?_;refine (Bu (w:=v.2) h hv.1).bind λk hk=>?_;have hwv:WK w v.2:=λe=>(hv.2.2 e).1;rw [pA,hl];refine bK.eqn (v:=Mx v.2 (k == 4) 132 x.fC) rfl (bK.eqn (v:=i) rfl ?_);refine (OU h hi hs hn (λe=>?_)).bind λr hr=>?_
 ·have:=(fF (k:=132) (by decide) e).1;obtain ⟨_,u,h1,_⟩:=hv.2.2 this;exact h.sc _ h1
 refine bK.eqn (v:=y) rfl ?_;refine (AW h hy hs2 hn2).bind λq hq=>Hj.bind λb hb=>?_;rw [pA];refine .some ⟨hwv.trans ((WK.nd).trans (hr.1.wk.trans (hq.wk.trans WK.nd))),λe=>?_⟩;obtain ⟨k1,k2,_⟩:=fF (k:=132) (by decide) e;have er:r.2.e_=0:=by rw [←hq.wk k1];exact k1
 obtain ⟨j1,j2,_⟩:=fF (k:=132) (by decide) (by rw [←hr.1.wk er];exact er);obtain ⟨_,u,i2,i3,i4,_⟩:=hv.2.2 j1;have hu:bN (tS c) v.1=some u:=by unfold bN;rw [if_pos i3];exact i4
 have hu4:u.bT=4:=by
  rcases hk with ⟨hm,_⟩ | ⟨_,u2,hk2,rfl⟩
  ·omega
  ·rw [i4] at hk2;cases hk2;simpa using j2
 exact ⟨.put i2 hu hu4 (hr.1 er).2.1 (hr.2 er).1 ((hr.2 er).2 u hu) (hq k1).2.1 (hb k2) .nil,by rw [yC,EW x,hl,Ig];simp only [uJ,qP];have:=(hr.1 er).2.2;have:=(hq k1).2.2;omega⟩
def Ho (s:aC):Prop:=s.iB=[114,101,116,117,114,110] ∨ s.iB=[99,97,108,108]/\s.gC=-2
theorem Rx (h:CI N B c) (hB:B+1<=1073741824) {x y:Nd} (hl:x.aP=[y]) (hy:WE y) (hs:sz y<=20000) (hn:3*sz y+301<=n) (hn2:20000<n) {a:Int} {l:Bool} :
  bK (pL n c w x ⟨[],-1,0,[],[],[],a⟩ l) λr=>CI N (B+1) r.2.1/\Kp c r.2.1/\WK w r.2.2/\St1 c r.2.1 r.2.2 l r.1 x/\(r.2.2.e_=0->Ho r.1):=by
 unfold pL;obtain ⟨f,_,hm,hvs,hfi⟩:=h.cur;rw [hfi,hl];refine bK.bind (P:=λw'=>WK w w'/\(w'.e_=0->l=true/\f.bR ≠ 0)) ?_ λw1 hw1=>?_
 ·simp only [iR,pA];refine bK.iteb (λhl=>.some ⟨WK.nd,λe=>⟨hl,?_⟩⟩) (λ_=>.some ⟨WK.nd,λe=>?_⟩)
  ·simpa using (fF (k:=135) (by decide) e).2.1
  ·have:=(fF (k:=135) (by decide) e).2.1;cases this
 refine bK.bind (P:=λb=>b=true->y.bT=17) ?_ λb hb=>bK.iteb (λhbt=>?_) (λ_=>?_)
 ·refine bK.iteb (λ_=>?_) (λ_=>.some λh=>nomatch h);exact bK.eqn (v:=y) rfl ((Fy (c:=c) (w:=w1) (by omega)).bind λb hb=>.some hb)
 ·refine bK.eqn (v:=y) rfl ?_;obtain ⟨a,s,xs,rfl,hxs⟩:=hy.inv17 (hb hbt);rw [gP] at hs hn;refine (FP h hB hxs (by simp only;omega) (by simp only;omega) hn2).bind λr hr=>?_;obtain ⟨h1,h2,h3,h4,h5,h6⟩:=hr;refine bK.iteb (λhe=>?_) (λhe=>.some ⟨h1,h2,hw1.1.trans h5,λe=>absurd e (by simpa using he),λe=>absurd e (by simpa using he)⟩);simp only [beq_iff_eq] at he;obtain ⟨f0,f1,g,zs,e1,e2,e3,e4,e9⟩:=h6 he;obtain ⟨g2,_,_,_,e5⟩:=h1.cur;have hvs':tS r.2.1=tS c:=by unfold tS;rw [h4,h2.f]
  rw [e2,e5];simp only [iR,pA];refine .some ⟨h1,h2,hw1.1.trans (h5.trans WK.nd),λe=>?_,λe=>.inr ?_⟩
  ·obtain ⟨hl2,hne⟩:=hw1.2 (by rw [←h5 he];exact he);subst hl2;have hr:=(fF (k:=132) (by decide) e).2.1
   have hg2:g2=f:=by
    rw [h2.f,h4,hfi] at e5;cases e5;rfl
   have hres:g.bR=LK c:=by
    rw [h.res hfi,←hg2];simpa using hr
   rw [e1,hvs',h3];exact ⟨.retc (hres ▸ e3) (by rw [h.res hfi];exact hne) e4,by rw [yC,EW x,hl,sM,gP];simp only [uJ];simp only at e9;omega⟩
  ·rw [e1];exact ⟨rfl,rfl⟩
 ·refine bK.eqn (v:=y) rfl ?_;refine (AW h hy hs hn).bind λr hr=>bK.eqn (v:=f) rfl (Hj.bind λb hb=>?_);rw [pA];refine .some ⟨h.more (Nat.le_succ B),.refl c,hw1.1.trans (hr.wk.trans WK.nd),λe=>?_,λ_=>.inl rfl⟩;obtain ⟨k1,k2,_⟩:=fF (k:=132) (by decide) e;obtain ⟨hl2,hne⟩:=hw1.2 (by rw [←hr.wk k1];exact k1);subst hl2;exact ⟨.ret (hr k1).2.1 (by rw [h.res hfi];exact hne) (by rw [h.res hfi];exact hb k2),by rw [yC,EW x,hl,sM];simp only [uJ,qP];have:=(hr k1).2.2;omega⟩
end
section
variable {N B n:Nat} {c:aG} {w:aH}
theorem Ik {α:Type} {l l':List α} (h:l <+: l'):l'.take l.length=l:=by
 obtain ⟨r,rfl⟩:=h;rw [List.take_append_of_le_length (tJ _),xev]
theorem CI.scope {c':aG} (h:CI N B c') (h0:CI N B c) (k:Kp c c'):CI N B { c' with bI:=c.bI }/\Kp c { c' with bI:=c.bI }:=by
 refine ⟨⟨h.nf,h.nN,h.f0,h.f1,h.a0,h.a1,λv hv=>?_,?_,h.vl,h.nc,h.cl,h.ki⟩,⟨k.f,k.a,Qd _,k.v,k.o,k.g,k.k,k.l⟩⟩
 ·have h1:=h0.sc v hv;have h2:=k.v.length_le;have:tS { c' with bI:=c.bI }=tS c':=rfl;rw [this];omega
 ·have h1:=h0.sl;have h2:=k.v.length_le;have:tS { c' with bI:=c.bI }=tS c':=rfl;rw [this];show c.bI.length<=_;omega
end
def Lv2 (N B:Nat) (k:Int) (c:aG) (w:aH) (c':aG) (w':aH):Prop:=(∃B':Nat,(B':Int)<=B+k/\CI N B' c')/\Kp c c'/\WK w w'
def StL (c c':aG) (b:Bool) (ss:List aC):Prop:=∃sc',TB (sgC c') (tS c') (LK c) b (tS c).length c.bI ss (tS c').length sc'
def RetL (l:List aD) (ss:List aC):Prop:=∀y,l.getLast? = some y->y.bT=13->∃s,ss.getLast? = some s/\Ho s
def OkSm (N n:Nat) (f:aG->aH->aD->Bool->Option (aC × aG × aH)):Prop:=∀B c w x b,CI N B c->WS x->sz x<=20000->(B:Int)+sz x<=1073741824->3*sz x+20301<=n->bK (f c w x b) λr=>Lv2 N B (sz x) c w r.2.1 r.2.2/\St1 c r.2.1 r.2.2 b r.1 x/\(r.2.2.e_=0->x.bT=13->Ho r.1)
def OkBk (N n:Nat) (f:aG->aH->aD->Bool->Option ((List aC) × aG × aH)):Prop:=∀B c w x b,CI N B c->(∀y ∈ x.aP,WS y)->vG x.aP<=20000->(B:Int)+vG x.aP<=1073741824->3*vG x.aP+20302<=n->bK (f c w x b) λr=>(Lv2 N B (vG x.aP) c w r.2.1 r.2.2/\r.2.1.bI=c.bI)/\(r.2.2.e_=0->StL c r.2.1 b r.1/\RetL x.aP r.1/\(uJ r.1:Int)<=vG x.aP)
section
variable {N B n:Nat} {c:aG} {w:aH}
theorem Rv {m:Nat} {x:Nd} {b:Bool} {fs:aG->aH->aD->Bool->Option (aC × aG × aH)} (hf:OkSm N m fs) (hs:vG x.aP<=20000) (hm:3*vG x.aP+20301<=m) :
  ∀(k v B:Nat) (ys:List aC) (c:aG) (w:aH),x.aP.length<v+k->v<=x.aP.length->ys.length=v->CI N B c->(∀y ∈ x.aP.drop v,WS y)->(B:Int)+vG (x.aP.drop v)<=1073741824->bK (kE fs x b k ys (v:Int) c w) λr=>Lv2 N B (vG (x.aP.drop v)) c w r.2.1 r.2.2/\(r.2.2.e_=0->∃ss,r.1=ys++ss/\TB (sgC r.2.1) (tS r.2.1) (LK c) b (tS c).length c.bI ss (tS r.2.1).length r.2.1.bI/\RetL (x.aP.drop v) ss/\(uJ ss:Int)<=vG (x.aP.drop v))/\(v=x.aP.length->r.1=ys/\r.2.1=c):=by
 intro k
 induction k with
 | zero=>intro v B ys c w h1 h2;omega
 | succ k ih=>
   intro v B ys c w h1 h2 h3 h hx hB;unfold kE;have hg:=pG x.aP;have hg0:=pG (x.aP.drop v)
   by_cases hv:v<x.aP.length
   ·rw [if_pos (Ar (by omega))];have hd:x.aP.drop v=x.aP[v]::x.aP.drop (v+1):=NW hv;have e:bN x.aP (v:Int)=some x.aP[v]:=by unfold bN;rw [if_pos (by omega),Di,vD hv]
    have hsz:=Jo (MD hv);rw [hd,uN] at hB ⊢;have hg1:=pG (x.aP.drop (v+1));have hp:=qZ x.aP[v];rw [e];simp only [iR];refine bK.iteb (λhe=>.some ⟨⟨⟨B,by omega,h⟩,.refl c,.refl w⟩,λe=>absurd e (by simpa using he),λ_=>⟨rfl,rfl⟩⟩) (λhe=>?_);have hst:∀b2,bK (fs c w x.aP[v] b2) λr=>Lv2 N B (sz x.aP[v]) c w r.2.1 r.2.2/\St1 c r.2.1 r.2.2 b2 r.1 x.aP[v]/\(r.2.2.e_=0->(x.aP[v]).bT=13->Ho r.1):=λb2=>hf B c w _ b2 h (hx _ (by rw [hd];exact xej)) (by omega) (by omega) (by omega);refine bK.bind (P:=λr=>Lv2 N B (sz x.aP[v]) c w r.2.1 r.2.2/\∃s b2,r.1=ys++[s]/\St1 c r.2.1 r.2.2 b2 s x.aP[v]/\(b2=true->b=true/\v+1=x.aP.length)/\(r.2.2.e_=0->(x.aP[v]).bT=13->Ho s)) ?_ λr hr=>?_
    ·refine bK.iteb (λhb=>?_) (λ_=>?_)
     ·exact (hst _).bind λr hr=>bK.need (by simp only [vM];omega) (.some ⟨hr.1,r.1,_,rfl,hr.2.1,λh2=>⟨hb,by
       rw [cZ (by omega) (by omega),beq_iff_eq] at h2;omega⟩,hr.2.2⟩)
     ·exact (hst false).bind λr hr=>bK.need (by simp only [vM];omega) (.some ⟨hr.1,r.1,false,rfl,hr.2.1,λh2=>Bool.noConfusion h2,hr.2.2⟩)
    ·obtain ⟨⟨⟨B',hb',h'⟩,hk,hw⟩,s,b2,hr1,hs1,hb2,hrt⟩:=hr;rw [cZ (by omega) (by omega),show ((v:Int)+1)=((v+1:Nat):Int) by omega];refine (ih (v+1) B' _ _ _ (by omega) (by omega) (by rw [hr1,mS,vM];omega) h' (λy hy=>hx y (by rw [hd];exact Mu _ hy)) (by omega)).mono λq hq=>?_;obtain ⟨⟨⟨B2,hbb,h2⟩,hk2,hw2⟩,hT,hend⟩:=hq;refine ⟨⟨⟨B2,by omega,h2⟩,hk.trans hk2,hw.trans hw2⟩,λe=>?_,λh=>by omega⟩;obtain ⟨ss,hq1,hT1,hR,hZ⟩:=hT e;have e2:r.2.2.e_=0:=by rw [←hw2 e];exact e
     refine ⟨s::ss,by rw [hq1,hr1,Je];rfl,?_,?_,by rw [uJ];have:=(hs1 e2).2;omega⟩
     ·have t1:=(hs1 e2).1.mono (λk r ps h=>Kp.sg h' hk2 h) hk2.v;rw [hk.res h] at hT1;cases b2 with
      | false=>exact t1.app rfl hT1
      | true=>
        obtain ⟨rfl,hvl⟩:=hb2 rfl;obtain ⟨q1,q2⟩:=hend hvl
        have hss:ss=[]:=by
         rw [q1] at hq1;simpa using hq1
        subst hss;rw [q2];exact (hs1 e2).1
     ·intro y hy hk13;rw [List.getLast?_cons] at hy;cases hl:(x.aP.drop (v+1)).getLast? with
      | none=>
        rw [hl] at hy;have hnil:=List.getLast?_eq_none_iff.1 hl
        have hv1:v+1=x.aP.length:=by
         have:=List.drop_eq_nil_iff.1 hnil;omega
        obtain ⟨q1,q2⟩:=hend hv1
        have hss:ss=[]:=by
         rw [q1] at hq1;simpa using hq1
        subst hss;cases hy;exact ⟨s,rfl,hrt e2 hk13⟩
      | some y2=>
        rw [hl] at hy;cases hy;obtain ⟨s2,h5,h6⟩:=hR _ hl hk13;exact ⟨s2,by rw [List.getLast?_cons,h5];rfl,h6⟩
   ·rw [if_neg (by simp;omega)];have hnil:x.aP.drop v=[]:=xef (by omega);rw [hnil];exact .some ⟨⟨⟨B,by rw [oH];omega,h⟩,.refl c,.refl w⟩,λe=>⟨[],(iF _).symm,.nil,(λy hy=>nomatch hy),by rw [uJ,oH];decide⟩,λ_=>⟨rfl,rfl⟩⟩
theorem Uk {fs:aG->aH->aD->Bool->Option (aC × aG × aH)} (hf:OkSm N n fs):OkBk N (n+1) (nG fs n):=by
 intro B c w x b h hx hs hB hn;unfold nG;have hg:=pG x.aP;refine (Rv hf hs (by omega) n 0 B [] c w (by omega) (by omega) rfl h (by rw [iE];exact hx) (by rw [iE];exact hB)).bind λr hr=>?_;rw [iE] at hr;obtain ⟨⟨⟨B',hb',h'⟩,hk,hw⟩,hT,_⟩:=hr;have hle:=hk.s.length_le;refine bK.need (by omega) (.some ?_);rw [Ik hk.s];have hB':=(h.more (B':=max B B') (by omega));obtain ⟨k1,k2⟩:=(h'.more (B':=max B B') (by omega)).scope hB' hk;refine ⟨⟨⟨⟨max B B',by omega,k1⟩,k2,hw⟩,rfl⟩,λe=>?_⟩;obtain ⟨ss,e1,e2,e3,e4⟩:=hT e;rw [gK] at e1;rw [e1];exact ⟨⟨_,e2⟩,e3,e4⟩
def OkLp (N n:Nat) (f:aG->aH->aD->aC->Option (aC × aG × aH)):Prop:=∀B c w x st,CI N B c->WS x->x.bT=12->sz x<=20000->(B:Int)+sz x<=1073741824->3*sz x+20300<=n->(∃a,st=⟨[],-1,0,[],[],[],a⟩)->∀b,bK (f c w x st) λr=>Lv2 N B (sz x) c w r.2.1 r.2.2/\St1 c r.2.1 r.2.2 b r.1 x
theorem WS.inv12 {x:Nd} (h:WS x) (k:x.bT=12):∃a s y z b ys,x=⟨12,a,s,0,[y,z,⟨4,b,[],0,ys⟩]⟩/\WE y/\WE z/\∀u ∈ ys,WS u:=by
 cases h with
 | loop h1 h2 h3=>exact ⟨_,_,_,_,_,_,rfl,h1,h2,h3⟩
 | bind hk _=>rcases hk with rfl | rfl <;> simp at k
 | _=>simp at k
theorem cloop_b {fb:aG->aH->aD->Bool->Option ((List aC) × aG × aH)} (hf:OkBk N n fb):OkLp N (n+1) (nY fb n):=by
 rintro B c w x st h hx hk hs hB hn ⟨sa,rfl⟩ bl;obtain ⟨a,s,y,z,b,ys,rfl,hy,hz,hys⟩:=hx.inv12 hk;rw [gP,KW,gP] at hs hB hn ⊢;have h1:=qZ y;have h2:=qZ z;have h3:=pG ys;unfold nY;refine bK.eqn (v:=y) rfl ((uB (w:=w) h hy (by omega) (by omega)).bind λr1 hr1=>?_);refine bK.eqn (v:=z) rfl ((uB (w:=r1.2) h hz (by omega) (by omega)).bind λr2 hr2=>?_);refine (uA (w:=r2.2) h (by omega) λ_=>Sr).bind λd hd=>?_;obtain ⟨d1,d2,d3,d4,d5,d6⟩:=hd;refine bK.eqn (v:=⟨4,b,[],0,ys⟩) rfl ((hf B _ _ _ false d1 hys (by simp only;omega) (by simp only;omega) (by simp only;omega)).bind λq hq=>?_);obtain ⟨⟨⟨⟨B',hb',h'⟩,hk',hw'⟩,hsc⟩,hT⟩:=hq;have hkk:=d2.trans hk';have hle:=hkk.s.length_le;refine bK.need (by omega) (.some ?_);have hmin:(min (c.bI.length:Int) (q.2.1.bI.length:Int)).toNat=c.bI.length:=by omega
 rw [hmin,Ik hkk.s];simp only at hb';obtain ⟨k1,k2⟩:=(h'.more (B':=max B B') (by omega)).scope (h.more (B':=max B B') (by omega)) hkk;refine ⟨⟨⟨max B B',by omega,k1⟩,k2,hr1.1.wk.trans (hr2.1.wk.trans (WK.trans (λe=>(d5 e).1) hw'))⟩,λe=>?_⟩;have ed:d.2.2.e_=0:=by rw [←hw' e];exact e
 obtain ⟨g1,g2,g3,g4⟩:=d5 ed;have e2:r2.2.e_=0:=by rw [←g1];exact ed
 have e1:r1.2.e_=0:=by rw [←hr2.1.wk e2];exact e2
 obtain ⟨⟨sc',hT1⟩,_,hZ⟩:=hT e;rw [d2.res h,g3,g4,mS,vM] at hT1;have hv:tS c <+: tS q.2.1:=hkk.v;have hu:(tS q.2.1)[(tS c).length]? = some ⟨s,1,0⟩:=FL hk'.v (by rw [g3];exact Fl);simp only;rw [g2];refine ⟨.for_ ((hr1.1 e1).2.1.mono hv λ_ h=>h) (hr1.2 e1) ((hr2.1 e2).2.1.mono hv λ_ h=>h) (hr2.2 e2) hu rfl hT1 .nil,?_⟩;rw [yC,gP,KW,gP];simp only [qP,uJ];simp only at hZ;have:=(hr1.1 e1).2.2;have:=(hr2.1 e2).2.2;omega
end
section
variable {N B n:Nat} {c:aG} {w:aH}
theorem Lv2.one {k:Int} {c':aG} {w':aH} (hk:1<=k) (h:CI N (B+1) c'/\Kp c c'/\WK w w'):Lv2 N B k c w c' w':=⟨⟨B+1,by omega,h.1⟩,h.2⟩
theorem Lv2.zero {k:Int} {c':aG} {w':aH} (hk:0<=k) (h:CI N B c') (h2:Kp c c') (h3:WK w w'):Lv2 N B k c w c' w':=⟨⟨B,by omega,h⟩,h2,h3⟩
theorem Tt {a:Int} (h:Ez (i64.wrap (min a 1025))):Ez (i64.wrap a):=by
 by_cases h1:a<=1025
 ·rwa [show min a 1025=a by omega] at h
 ·rw [show min a 1025=1025 by omega,show i64.wrap 1025=1025 by decide] at h;exact absurd h (by unfold Ez;omega)
theorem cstmt_b {fb:aG->aH->aD->Bool->Option ((List aC) × aG × aH)} {fl:aG->aH->aD->aC->Option (aC × aG × aH)} (hf:OkBk N n fb) (hl:OkLp N n fl):OkSm N (n+1) (kL fb fl n):=by
 intro B c w x b h hx hs hB hn;have hp:=qZ x;unfold kL;cases hx with
 | bind hk hy=>
   rw [gP,sM] at hs hB hn hp ⊢
   rcases hk with rfl | rfl
   ·simp only [Int.reduceBEq,EE,if_false,if_true];refine bK.eqn rfl ((uB (w:=w) h hy (by omega) (by omega)).bind λr hr=>?_);refine (uA (w:=r.2) h (by omega) λ_=>Sr).bind λd hd=>.some ⟨.zero (by omega) hd.1 hd.2.1 (hr.1.wk.trans λe=>(hd.2.2.2.2.1 e).1),λe=>?_,λ_ h=>absurd h (by decide)⟩;obtain ⟨d1,d2,d3,d4⟩:=hd.2.2.2.2.1 e;have er:r.2.e_=0:=by rw [←d1];exact e
    simp only;rw [d2,d3,d4,mS,vM];exact ⟨.let_ ((hr.1 er).2.1.mono (MC _ _) λ_ h=>h) (hr.2 er) Fl rfl .nil,by rw [yC,gP,sM];simp only [uJ,qP];have:=(hr.1 er).2.2;omega⟩
   ·simp only [Int.reduceBEq,EE,if_false,if_true];exact (OW h (by omega) rfl hy (by omega) (by omega) (by omega)).bind λr hr=>.some ⟨.one (by omega) ⟨hr.1,hr.2.1,hr.2.2.1⟩,hr.2.2.2,λ_ h=>absurd h (by decide)⟩
 | arr=>
   rw [gP,oH] at hs hB hn hp ⊢;simp only [Int.reduceBEq,EE,if_false,if_true];refine La.bind λk hk=>?_;rw [pA];refine (uA (w:=Mx w k 136 _) h (by omega) λe=>Sq ?_).bind λd hd=>.some ⟨.zero (by omega) hd.1 hd.2.1 ((WK.nd).trans λe=>(hd.2.2.2.2.1 e).1),λe=>?_,λ_ h=>absurd h (by decide)⟩
   ·exact Tt (hk (fF (k:=136) (by decide) e).2.1)
   ·obtain ⟨d1,d2,d3,d4⟩:=hd.2.2.2.2.1 e;simp only;rw [d2,d3,d4,mS,vM];exact ⟨.arr Fl rfl .nil,by rw [yC,gP,oH];simp only [uJ,qP];omega⟩
 | ret hy=>
   rw [gP,sM] at hs hB hn hp ⊢;simp only [Int.reduceBEq,EE,if_false,if_true];exact (Rx h (by omega) rfl hy (by omega) (by omega) (by omega)).bind λr hr=>.some ⟨.one (by omega) ⟨hr.1,hr.2.1,hr.2.2.1⟩,hr.2.2.2.1,λe _=>hr.2.2.2.2 e⟩
 | loop h1 h2 h3=>
   simp only [Int.reduceBEq,EE,if_false,if_true];exact (hl B c w _ _ h (.loop h1 h2 h3) rfl hs hB (by omega) ⟨_,rfl⟩ b).bind λr hr=>.some ⟨hr.1,hr.2,λ_ h=>absurd h (by decide)⟩
 | set hy=>
   rw [gP,sM] at hs hB hn hp ⊢;simp only [Int.reduceBEq,EE,if_false,if_true];exact (Uc h (by omega) rfl hy (by omega) (by omega) (by omega)).bind λr hr=>.some ⟨.one (by omega) ⟨hr.1,hr.2.1,hr.2.2.1⟩,hr.2.2.2,λ_ h=>absurd h (by decide)⟩
 | put hi hy=>
   rw [gP,Ig] at hs hB hn hp ⊢;rename_i i0 y0;have p1:=qZ i0;have p2:=qZ y0;simp only [Int.reduceBEq,EE,if_false,if_true];exact (Ud h rfl hi hy (by omega) (by omega) (by omega) (by omega)).bind λr hr=>.some ⟨.zero (by omega) h (.refl c) hr.1,hr.2,λ_ h=>absurd h (by decide)⟩
 | call hy=>
   rw [gP] at hs hB hn hp ⊢;simp only [Int.reduceBEq,EE,if_false,if_true];refine (FP h (by omega) hy (by simp only;omega) (by simp only;omega) (by omega)).bind λr hr=>.some ⟨.one (by omega) ⟨hr.1,hr.2.1,hr.2.2.2.2.1⟩,λe=>?_,λ_ h=>absurd h (by decide)⟩;obtain ⟨h1,h2,h3,h4,h5,h6⟩:=hr;obtain ⟨f0,f1,f,zs,e1,e2,e3,e4,e9⟩:=h6 e;have hvs:tS r.2.1=tS c:=by unfold tS;rw [h4,h2.f]
   simp only;rw [e1,hvs,h3];exact ⟨.do_ e3 e4 .nil,by rw [yC,gP];simp only [uJ];simp only at e9;omega⟩
 | choice h1 h2=>
   rw [gP,Ig,gP] at hs hB hn hp ⊢;rename_i c0 b0 ys;have p1:=qZ c0;have p2:=pG ys;simp only [Int.reduceBEq,EE,if_false,if_true];refine bK.eqn (v:=c0) rfl ((uB (w:=w) h h1 (by omega) (by omega)).bind λr hr=>?_);refine bK.eqn (v:=⟨4,b0,[],0,ys⟩) rfl ((hf B c _ _ false h h2 (by simp only;omega) (by simp only;omega) (by simp only;omega)).bind λq hq=>?_);obtain ⟨⟨⟨⟨B',hb',h'⟩,hk',hw'⟩,hsc⟩,hT⟩:=hq;simp only at hb';refine bK.need (by simp) ?_;obtain ⟨m,rfl⟩:∃m,n=m+1:=⟨n - 1,by omega⟩;unfold fQ;refine .some ⟨⟨⟨B',by omega,h'⟩,hk',hr.1.wk.trans hw'⟩,λe=>?_,λ_ h=>absurd h (by decide)⟩;have er:r.2.e_=0:=by rw [←hw' e];exact e
   obtain ⟨⟨sc',hT1⟩,_,hZ⟩:=hT e;simp only;rw [hsc];refine ⟨.if_ ((hr.1 er).2.1.mono hk'.v λ_ h=>h) (hr.2 er) hT1 .nil .nil,?_⟩;rw [yC,gP,Ig,gP];simp only [qP,uJ];simp only at hZ;have:=(hr.1 er).2.2;omega
 | choice2 h1 h2 h4=>
   rw [gP,KW,gP,gP] at hs hB hn hp ⊢;rename_i c0 b0 ys b1 zs;have p1:=qZ c0;have p2:=pG ys;have p3:=pG zs;simp only [Int.reduceBEq,EE,if_false,if_true];refine bK.eqn (v:=c0) rfl ((uB (w:=w) h h1 (by omega) (by omega)).bind λr hr=>?_);refine bK.eqn (v:=⟨4,b0,[],0,ys⟩) rfl ((hf B c _ _ false h h2 (by simp only;omega) (by simp only;omega) (by simp only;omega)).bind λq hq=>?_);obtain ⟨⟨⟨⟨B',hb',h'⟩,hk',hw'⟩,hsc⟩,hT⟩:=hq;simp only at hb';refine bK.need (by simp) ?_;obtain ⟨m,rfl⟩:∃m,n=m+1+1:=⟨n - 2,by omega⟩;unfold fQ;refine bK.bind' ?_;refine bK.iteb (λ_=>?_) (λhc=>by simp at hc);refine bK.eqn (v:=⟨4,b1,[],0,zs⟩) rfl ((hf B' q.2.1 _ _ false h' h4 (by simp only;omega) (by simp only;omega) (by simp only;omega)).bind λq2 hq2=>?_);obtain ⟨⟨⟨⟨B2,hb2,h5⟩,hk2,hw2⟩,hsc2⟩,hT2⟩:=hq2;simp only at hb2;unfold fQ;refine .some (.some ⟨⟨⟨B2,by omega,h5⟩,hk'.trans hk2,hr.1.wk.trans (hw'.trans hw2)⟩,λe=>?_,λ_ h=>absurd h (by decide)⟩);have eq:q.2.2.e_=0:=by rw [←hw2 e];exact e
   have er:r.2.e_=0:=by rw [←hw' eq];exact eq
   obtain ⟨⟨sc1,hT1⟩,_,hZ⟩:=hT eq;obtain ⟨⟨sc2,hT3⟩,_,hZ2⟩:=hT2 e;rw [hk'.res h,hsc] at hT3;simp only;rw [hsc2,hsc];refine ⟨.if_ ((hr.1 er).2.1.mono (hk'.trans hk2).v λ_ h=>h) (hr.2 er) (hT1.mono (λ_ _ _ h=>Kp.sg h' hk2 h) hk2.v) hT3 .nil,?_⟩;rw [yC,gP,KW,gP,gP];simp only [qP,uJ];simp only at hZ hZ2;have:=(hr.1 er).2.2;omega
theorem NK:∀n:Nat,OkBk N n (dZ n).1/\OkSm N n (dZ n).2.1/\OkLp N n (dZ n).2.2
 | 0=>⟨λB c w x b _ _ _ _ h=>by have:=pG x.aP;omega,λB c w x b _ _ _ _ h=>by have:=qZ x;omega,λB c w x st _ _ _ _ _ h _ _=>by have:=qZ x;omega⟩
 | n+1=>by
   obtain ⟨g1,g2,g3⟩:=NK n;exact ⟨Uk g2,cstmt_b g1 g3,cloop_b g1⟩
end
structure CO (N B:Nat) (c:aG):Prop where
 nf:c.p_.bF.length=N
 nN:N<=16384
 vl:∀f ∈ c.p_.bF,f.aX.length<=250/\0<=f.bC/\f.bC<=f.aX.length
 nc:c.cB.length=N
 cl:∀l ∈ c.cB,l.length<=B/\∀k ∈ l,0<=k/\k<N
 ki:∀f ∈ c.p_.bF,(∀v ∈ f.aX,EH v)/\(f.bR=0 ∨ f.bR=2 ∨ f.bR=3)
def rB (k:Nat):List Int:=(List.range k).map Int.ofNat
theorem MX (k:Nat):rB (k+1)=rB k++[(k:Int)]:=by
 unfold rB;rw [List.range_succ,Qg];rfl
theorem Ju (k:Nat):(rB k).length=k:=by unfold rB;simp
theorem Jt {k:Nat} {v:Int} (h:v ∈ rB k):0<=v/\v<k:=by
 unfold rB at h;obtain ⟨i,h1,rfl⟩:=Ia.1 h;have:=NZ.1 h1;have h2:Int.ofNat i=(i:Int):=rfl;omega
def Aj:List aL->Int->Int
 | [],n=>n
 | v::l,n=>Aj l (if v.bT=3 then n+(n % 2+1)+1 else n+1)
theorem Sk {f:aS} (hl:(f.aX.take f.bC.toNat).length<=250):∀(k v:Nat) (a:Int),(f.aX.take f.bC.toNat).length<v+k->v<=(f.aX.take f.bC.toNat).length->0<=a->a<=4*(v:Int)->oE f k a (v:Int)=some (Aj ((f.aX.take f.bC.toNat).drop v) a):=by
 intro k
 induction k with
 | zero=>intro v a h1 h2;omega
 | succ k ih=>
   intro v a h1 h2 h3 h4;unfold oE
   by_cases hv:v<(f.aX.take f.bC.toNat).length
   ·rw [if_pos (Ar (by omega))];have hd:(f.aX.take f.bC.toNat).drop v=(f.aX.take f.bC.toNat)[v]::(f.aX.take f.bC.toNat).drop (v+1):=NW hv;have e:bN (f.aX.take f.bC.toNat) (v:Int)=some (f.aX.take f.bC.toNat)[v]:=by unfold bN;rw [if_pos (by omega),Di,vD hv]
    rw [hd,e];simp only [iR,Aj,beq_iff_eq];have h5:=Int.emod_nonneg a (show (2:Int) ≠ 0 by decide);have h6:=Int.emod_lt_of_pos a (show (0:Int)<2 by decide);rw [cZ (n:=(v:Int)+1) (by omega) (by omega),show ((v:Int)+1)=((v+1:Nat):Int) by omega]
    split
    ·rw [Int.tmod_eq_emod_of_nonneg h3,cZ (n:=a % 2+1) (by omega) (by omega),cZ (n:=a+(a % 2+1)) (by omega) (by omega),cZ (by omega) (by omega)];exact ih (v+1) _ (by omega) (by omega) (by omega) (by omega)
    ·rw [cZ (by omega) (by omega)];exact ih (v+1) _ (by omega) (by omega) (by omega) (by omega)
   ·rw [if_neg (by rw [BJ];omega),xef (by omega)];rfl
theorem Sl {f:aS} {n:Nat} (h1:f.aX.length<=250) (h2:0<=f.bC) (h3:f.bC<=f.aX.length) (hn:300<n):sJ n f=some (Aj (f.aX.take f.bC.toNat) 0):=by
 have hl:(f.aX.take f.bC.toNat).length<=250:=by rw [Jc];omega
 unfold sJ;rw [vI ⟨h2,h3⟩];have:=Sk hl n 0 0 (by omega) (by omega) (by omega) (by omega);rw [show ((0:Nat):Int)=0 from rfl,iE] at this;rw [this];rfl
section
variable {N B n:Nat} {c:aG} {w:aH}
theorem CO.ci (h:CO N B c) {i:Int} (h0:0<=i) (h1:i<N) {f:aS} (hf:c.p_.bF[i.toNat]? = some f) {s:List Int} (hs:∀v ∈ s,0<=v/\v<f.aX.length) (hl:s.length<=f.aX.length):CI N B { c with f_:=i,bI:=s,fL:=i }:=by
 have hv:tS { c with f_:=i,bI:=s,fL:=i }=f.aX:=by unfold tS;simp only [hf];rfl
 exact ⟨h.nf,h.nN,h0,h1,h0,h1,by rw [hv];exact hs,by rw [hv];exact hl,h.vl,h.nc,h.cl,h.ki⟩
theorem TY (h:CO N B c) {i:Int} (h0:0<=i) (h1:i<N) {f:aS} (hf:c.p_.bF[i.toNat]? = some f) (hm:f ∈ c.p_.bF):∀(k v:Nat),f.bC<v+k->(v:Int)<=f.bC->bK (iD f k (v:Int) { c with f_:=i,bI:=rB v,fL:=i }) λr=>CI N B r/\r={ c with f_:=i,bI:=rB f.bC.toNat,fL:=i }:=by
 have hp:=h.vl f hm;intro k
 induction k with
 | zero=>intro v h2 h3;omega
 | succ k ih=>
   intro v h2 h3;unfold iD
   by_cases hv:(v:Int)<f.bC
   ·rw [if_pos (Ar hv)];refine bK.need (by simp only [Ju];omega) ?_;rw [cZ (by omega) (by omega),show ((v:Int)+1)=((v+1:Nat):Int) by omega];have:=ih (v+1) (by omega) (by omega);rw [MX] at this;exact this
   ·rw [if_neg (by simpa using hv)];have hv2:v=f.bC.toNat:=by omega
    subst hv2;refine .some ⟨h.ci h0 h1 hf (λu hu=>?_) (by rw [Ju];omega),rfl⟩;have:=Jt hu;omega
theorem Lr (h:CO N B c) {i:Int} (h0:0<=i) (h1:i<N) (hn:300<n) {f:aS} (hf:bN c.p_.bF i=some f):bK (mD n c w i) λr=>CI N B r.1/\r.2=w/\r.1={ c with f_:=i,bI:=rB f.bC.toNat,fL:=i }:=by
 unfold mD;obtain ⟨f',e,e2,hm⟩:=oO (l:=c.p_.bF) h0 (by rw [h.nf];exact h1);rw [hf] at e;cases e
 rw [hf];simp only [iR];have hp:=h.vl f hm;have e3:=TY h h0 h1 e2 hm n 0 (by omega) (by omega);change bK (iD f n 0 { c with f_:=i,bI:=[],fL:=i }) _ at e3;exact e3.bind λr hr=>.some ⟨hr.1,rfl,hr.2⟩
theorem OR {xs:List Nd} (hx:∀x ∈ xs,WP x) (hs:xs.length<=20000) (hn:300<n):∀(k v:Nat) (c:aG) (w:aH),xs.length<v+k->v<=xs.length->CI N B c->bK (jE n xs k (v:Int) c w) λr=>CI N B r.1/\Kp c r.1/\WK w r.2/\r.1.cB=c.cB:=by
 intro k
 induction k with
 | zero=>intro v c w h1 h2;omega
 | succ k ih=>
   intro v c w h1 h2 h;unfold jE
   by_cases hv:v<xs.length
   ·rw [if_pos (Ar (by omega))];refine bK.bind (P:=λr=>CI N B r.1/\Kp c r.1/\WK w r.2/\r.1.cB=c.cB) ?_ λr hr=>?_
    ·obtain ⟨x,e,_,hxm⟩:=oO (l:=xs) (i:=(v:Int)) (by omega) (by omega);rw [e];simp only [iR];cases hx x hxm with
     | @word a s k hk=>
       have hk3:i64.wrap k=k/\1<=k/\k<=3:=by rcases hk with rfl | rfl | rfl <;> decide
       refine bK.bind (P:=λb=>b=false) (bK.iteb (λ_=>.some rfl) (λ_=>.some rfl)) λb hb=>?_;subst hb;refine bK.iteb (λh=>nomatch h) λ_=>(uA (w:=w) h hn λ_=>?_).bind λd hd=>.some ⟨hd.1,hd.2.1,λe=>(hd.2.2.2.2.1 e).1,hd.2.2.1⟩;simp only [hk3.1];exact varOkW hk3.2.1 hk3.2.2
     | @arr a s b n1=>
       have w4:i64.wrap 4=4:=by decide
       simp only [w4,Int.reduceBEq,if_true,vM,Int.natCast_one,Int.reduceLT,decide_true,iR];refine bK.eqn (v:=⟨14,b,[],n1,[]⟩) rfl (La.bind λb2 hb2=>?_);rw [pA];exact (uA (w:=Mx w b2 136 _) h hn λe=>Sq (hb2 (fF (k:=136) (by decide) e).2.1)).bind λd hd=>.some ⟨hd.1,hd.2.1,WK.trans WK.nd λe=>(hd.2.2.2.2.1 e).1,hd.2.2.1⟩
    ·rw [cZ (by omega) (by omega),show ((v:Int)+1)=((v+1:Nat):Int) by omega];exact (ih (v+1) _ _ (by omega) (by omega) hr.1).mono λq hq=>⟨hq.1,hr.2.1.trans hq.2.1,hr.2.2.1.trans hq.2.2.1,hq.2.2.2.trans hr.2.2.2⟩
   ·rw [if_neg (by simp;omega)];exact .some ⟨h,.refl c,.refl w,rfl⟩
structure Hd (f f':aS):Prop where
 n:f'.fO=f.fO
 x:f'.dG=f.dG
 r:f'.bR=f.bR
 b:f'.bV=f.bV
 p:f'.bC=f'.aX.length
theorem Sm {x:Nd} (h:WF x):∃ps b,x.aP=ps++[b]/\(∀p ∈ ps,WP p)/\(∀y ∈ b.aP,WS y)/\b=⟨4,b.fC,[],0,b.aP⟩:=by
 cases h with
 | fn h1 h2=>exact ⟨_,_,rfl,h1,h2,rfl⟩
theorem Px {α:Type} {ps:List α} {b:α} (h:(ps++[b]).length<=20000):(max (i64.wrap (((ps++[b]).length:Int) - 1)) 0)=(ps.length:Int):=by
 simp only [mS,vM] at *;rw [cZ (by omega) (by omega)];omega
theorem Kp.body {c':aG} (h:CI N B c) (k:Kp c c') {f:aS} (e:bN c.p_.bF c.f_=some f) {f':aS} (e':bN c'.p_.bF c'.f_=some f'):f'.fO=f.fO/\f'.dG=f.dG/\f'.bR=f.bR/\f'.bC=f.bC/\f.aX <+: f'.aX:=by
 obtain ⟨f2,e2,g1,g2,g3,g4,g5,_⟩:=k.fn h e;rw [k.f] at e';rw [e'] at e2;cases e2
 exact ⟨g1,g2,g3,g4,g5⟩
theorem Rt (h:CO N B c) {i:Int} (h0:0<=i) (h1:i<N) (hn:20300<n) {f:aS} (hf:bN c.p_.bF i=some f) (hb:f.bV=[]) {x:Nd} (hx:WF x) (hs:x.aP.length<=20000):bK (lD n c w i x) λr=>CO N B r.1/\WK w r.2/\r.1.cB=c.cB/\(∀j:Nat,j ≠ i.toNat->r.1.p_.bF[j]? = c.p_.bF[j]?)/\∃f',bN r.1.p_.bF i=some f'/\f'.fO=f.fO/\f'.dG=f.dG/\f'.bR=f.bR/\f'.bC=f'.aX.length/\(r.2.e_=0->f'.dG=true->Aj f'.aX 0<=4):=by
 obtain ⟨ps,b,hl,hps,_,_⟩:=Sm hx;have hla:=Px (ps:=ps) (b:=b) (by rw [←hl];exact hs);rw [←hl] at hla;unfold lD;refine (Lr (w:=w) h h0 h1 (by omega) hf).bind λr hr=>?_;obtain ⟨g1,g2,g3⟩:=hr;rw [hla];have hll:x.aP.length=ps.length+1:=by rw [hl];simp
 refine bK.need ⟨by omega,by omega⟩ ?_;rw [Di,show x.aP.take ps.length=ps by rw [hl];simp];unfold qH;refine bK.bind (P:=λq=>CO N B q.1/\WK w q.2/\q.1.f_=i/\q.1.cB=c.cB/\(∀j:Nat,j ≠ i.toNat->q.1.p_.bF[j]? = c.p_.bF[j]?)/\∃f',bN q.1.p_.bF i=some f'/\f'.fO=f.fO/\f'.dG=f.dG/\f'.bR=f.bR/\f'.bC=f'.aX.length) ?_ λq hq=>?_
 ·refine (OR hps (by omega) (by omega) n 0 r.1 r.2 (by omega) (by omega) g1).bind λq hq=>?_;obtain ⟨k1,k2,k3,k4⟩:=hq;obtain ⟨f2,ef2,hm2,hv2,e2⟩:=k1.cur;rw [e2];simp only [iR];have hqf:q.1.f_=i:=by rw [k2.f,g3]
  have hrf:bN r.1.p_.bF r.1.f_=some f:=by rw [g3];exact hf
  obtain ⟨b1,b2,b3,b4,b5⟩:=k2.body g1 hrf e2;have hlt:q.1.f_.toNat<q.1.p_.bF.length:=(vE.1 ef2).1;refine .some ⟨⟨by simp only [qV];exact k1.nf,k1.nN,λg hg=>?_,k1.nc,k1.cl,λg hg=>?_⟩,by rw [←g2];exact k3,hqf,by rw [k4,g3],λj hj=>?_,{ f2 with bC:=(f2.aX.length:Int) },?_,b1,b2,b3,rfl⟩
  ·rcases Sg hg with hg | rfl
   ·exact k1.vl g hg
   ·have:=k1.vl f2 hm2;simp only;omega
  ·rcases Sg hg with hg | rfl
   ·exact k1.ki g hg
   ·exact k1.ki f2 hm2
  ·simp only;rw [Of (by rw [hqf];omega),k2.o j (by rw [g3];exact hj),g3]
  ·unfold bN;rw [if_pos h0];simp only
   rw [←hqf,Pl hlt]
 ·obtain ⟨k1,k2,k3,k4,k5,f',k6,k7,k8,k9,k10⟩:=hq;refine bK.iteb (λhe=>?_) (λhe=>.some ⟨k1,k2,k4,k5,f',k6,k7,k8,k9,k10,λe=>absurd e (by simpa using he)⟩);rw [k3,k6];simp only [iR,pA];refine bK.bind' (bK.iteb (λhx=>.some (.some ⟨k1,k2.trans WK.nd,k4,k5,f',k6,k7,k8,k9,k10,λ_ hx2=>?_⟩)) (λhx=>?_))
  ·rw [hx2] at hx;cases hx
  ·have hm:f' ∈ q.1.p_.bF:=by
    unfold bN at k6;rw [if_pos h0] at k6;exact ET k6
   have hv:=k1.vl f' hm;rw [Sl hv.1 hv.2.1 hv.2.2 (by omega)];refine .some (.some ⟨k1,k2.trans WK.nd,k4,k5,f',k6,k7,k8,k9,k10,λe _=>?_⟩);have:=(fF (k:=136) (by decide) e).2.1;rw [k10,Di,xev] at this;exact BI this
def GV (c:aG) (i:Nat):RH:=λk r ps=>(∃l,c.cB[i]? = some l/\k ∈ l)/\∃f,bN c.p_.bF k=some f/\r=f.bR/\ps=f.aX.take f.bC.toNat
structure TF (sg:RH) (f:aS):Prop where
 body:∃sc',TB sg f.aX f.bR true f.bC.toNat (rB f.bC.toNat) f.bV f.aX.length sc'
 ret:f.bR ≠ 0->∃s,f.bV.getLast? = some s/\Ho s
theorem MW {b:Nd} (hl:b.aP.length<=20000):bK (vB b) λr=>r=true->∃y,b.aP.getLast? = some y/\y.bT=13:=by
 unfold vB;refine bK.bind (P:=λr=>r=true->∃y,b.aP.getLast? = some y/\y.bT=13) (bK.iteb (λh=>?_) (λ_=>.some λh=>Bool.noConfusion h)) λr hr=>.some hr;have h0:0<b.aP.length:=by have:=BI h;omega
 rw [cZ (by omega) (by omega)];obtain ⟨y,e,e2,_⟩:=oO (l:=b.aP) (i:=(b.aP.length:Int) - 1) (by omega) (by omega);rw [e];refine .some λh=>⟨y,?_,by simpa using h⟩;rw [List.getLast?_eq_getElem?,←e2]
 congr 1
 omega
theorem Ru (h:CO N B c) {i:Int} (h0:0<=i) (h1:i<N) {f:aS} (hf:bN c.p_.bF i=some f) (hp:f.bC=f.aX.length) {x:Nd} (hx:WF x) (hs:sz x<=20000) (hB:(B:Int)+sz x<=1073741824) (hn:90000<=n):bK (lF n c w i x) λr=>(∃B':Nat,(B':Int)<=B+sz x/\CO N B' r.1)/\WK w r.2/\(∀j:Nat,j ≠ i.toNat->r.1.p_.bF[j]? = c.p_.bF[j]? /\ r.1.cB[j]? = c.cB[j]?)/\∃f',bN r.1.p_.bF i=some f'/\f'.fO=f.fO/\f'.dG=f.dG/\f'.bR=f.bR/\f'.bC=f.bC/\f.aX <+: f'.aX/\(r.2.e_=0->TF (GV r.1 i.toNat) f'/\(uJ f'.bV:Int)<=sz x):=by
 obtain ⟨ps,b,hl,_,hbs,hbe⟩:=Sm hx;have hz:=EW x;have hlen:=pG x.aP;have hla:=Px (ps:=ps) (b:=b) (by rw [←hl];omega);rw [←hl] at hla;have hbz:=Jo (l:=x.aP) (k:=b) (by rw [hl];simp);have hbq:=EW b;have hbg:=pG b.aP;unfold lF;refine (Lr (w:=w) h h0 h1 (by omega) hf).bind λr hr=>?_;obtain ⟨g1,g2,g3⟩:=hr;have hll:x.aP.length=ps.length+1:=by rw [hl];simp
 rw [hla];refine bK.need ⟨by omega,by omega⟩ ?_;obtain ⟨m,rfl⟩:∃m,n=m+1+1:=⟨n - 2,by omega⟩;unfold iP;rw [hla,Di,show x.aP.drop ps.length=[b] by rw [hl];simp];have hrf:r.1.f_=i:=by rw [g3]
 refine bK.bind' ?_;rw [if_pos (by rw [vM];decide)];refine bK.eqn (v:=b) rfl ?_;obtain ⟨f0,ef0,hm0,hv0,e0⟩:=g1.cur;have e0f:bN r.1.p_.bF r.1.f_=some f:=by rw [g3];exact hf
 rw [e0];rw [e0f] at e0;cases e0
 simp only [iR];refine ((NK (m+1+1)).1 B r.1 r.2 b true g1 hbs (by omega) (by omega) (by omega)).bind λq hq=>?_;obtain ⟨⟨⟨⟨B',hb',h'⟩,hk,hw⟩,hsc⟩,hT⟩:=hq;obtain ⟨f2,ef2,hm2,hv2,e2⟩:=h'.cur;obtain ⟨b1,b2,b3,b4,b5⟩:=hk.body g1 e0f e2;have hqf:q.2.1.f_=r.1.f_:=hk.f;rw [hqf] at e2 ef2;rw [e2];simp only [iR];have hlt:r.1.f_.toNat<q.2.1.p_.bF.length:=(vE.1 ef2).1
 have e3:bN (q.2.1.p_.bF.set r.1.f_.toNat { f2 with bV:=q.1 }) r.1.f_=some { f2 with bV:=q.1 }:=by
  unfold bN;rw [if_pos (by rw [hrf];exact h0),Pl hlt]
 rw [e3];simp only [iR,pA]
 have hout:∀w2:aH,WK q.2.2 w2->(w2.e_=0->f.bR ≠ 0->∃s,q.1.getLast? = some s/\Ho s)->bK (iP (m+1+1) x (m+1) (i64.wrap ((0:Int)+1)) { q.2.1 with p_:=⟨q.2.1.p_.bF.set r.1.f_.toNat { f2 with bV:=q.1 }⟩ } w2) (λx_1=>bK (some (x_1.1,x_1.2)) λr=>(∃B':Nat,(B':Int)<=B+sz x/\CO N B' r.1)/\WK w r.2/\(∀j:Nat,j ≠ i.toNat->r.1.p_.bF[j]? = c.p_.bF[j]? /\ r.1.cB[j]? = c.cB[j]?)/\∃f',bN r.1.p_.bF i=some f'/\f'.fO=f.fO/\f'.dG=f.dG/\f'.bR=f.bR/\f'.bC=f.bC/\f.aX <+: f'.aX/\(r.2.e_=0->TF (GV r.1 i.toNat) f'/\(uJ f'.bV:Int)<=sz x)):=by
  intro w2 hw2 hret;unfold iP;rw [hla,Di,show x.aP.drop ps.length=[b] by rw [hl];simp,if_neg (by rw [vM];decide)];refine .some (.some ⟨⟨B',by omega,by simp only [qV];exact h'.nf,h'.nN,λg hg=>?_,h'.nc,h'.cl,λg hg=>?_⟩,by rw [←g2];exact hw.trans hw2,λj hj=>⟨?_,?_⟩,{ f2 with bV:=q.1 },?_,b1,b2,b3,b4,b5,λe=>⟨⟨?_,?_⟩,by have:=(hT (by rw [←hw2 e];exact e)).2.2;simp only;omega⟩⟩)
  ·rcases Sg hg with hg | rfl
   ·exact h'.vl g hg
   ·exact h'.vl f2 hm2
  ·rcases Sg hg with hg | rfl
   ·exact h'.ki g hg
   ·exact h'.ki f2 hm2
  ·simp only;rw [Of (by rw [hrf];omega),hk.o j (by rw [hrf];exact hj),g3]
  ·simp only;rw [hk.k j (by rw [g3];exact hj),g3]
  ·rw [←hrf];exact e3
  ·obtain ⟨⟨sc',hTB⟩,_⟩:=hT (by rw [←hw2 e];exact e);rw [g1.res e0f,hv0,hv2,g3] at hTB;simp only at hTB;have hpp:f.aX.length=f2.bC.toNat:=by rw [b4,hp,Di]
   rw [hpp,←b4,←b3] at hTB;refine ⟨sc',TB.mono (λk r' ps' hsg=>?_) (Qd _) hTB⟩;obtain ⟨⟨l,el,hkl⟩,f3,ef3,rfl,rfl⟩:=hsg;have hat:q.2.1.fL=i:=by rw [hk.a,g3]
   rw [hat] at el;unfold bN at el;rw [if_pos h0] at el;refine ⟨⟨l,el,hkl⟩,?_⟩
   by_cases hki:k=r.1.f_
   ·subst hki;rw [e2] at ef3;cases ef3
    exact ⟨_,e3,rfl,rfl⟩
   ·refine ⟨f3,?_,rfl,rfl⟩;unfold bN at ef3 ⊢
    split at ef3
    ·rename_i hk0;rw [if_pos hk0,Of (by rw [hrf] at hki ⊢;omega)];exact ef3
    ·cases ef3
  ·simp only [b3];exact hret e
 refine bK.bind' (bK.iteb (λhr0=>.some (hout _ WK.nd λe hne=>?_)) (λhr0=>?_))
 ·exact absurd (by rw [beq_iff_eq] at hr0;rw [←b3];exact hr0) hne
 ·refine (MW (b:=b) (by omega)).bind λrb hrb=>.some (hout _ WK.nd λe hne=>?_);obtain ⟨k1,k2,_⟩:=fF (k:=135) (by decide) e;obtain ⟨y,hy1,hy2⟩:=hrb k2;exact (hT k1).2.1 y hy1 hy2
end
def tK (seen:List Int):Nat:=seen.countP (· == 0)
theorem OS {l:List Int} {i:Nat} {v:Int} (h:l[i]? = some 0) (hv:v ≠ 0):tK (l.set i v)+1=tK l:=by
 unfold tK
 induction l generalizing i with
 | nil=>cases h
 | cons x l ih=>
   cases i with
   | zero=>
     simp only [iW,Option.some.injEq] at h;subst h;rw [jA,RQ,RQ];simp [hv]
   | succ i=>
     simp only [iU] at h;have:=ih h;rw [iZ,RQ,RQ];omega
theorem NJ {l:List Int} {i:Nat} {v w:Int} (h:l[i]? = some w) (hv:v ≠ 0) (hw:w ≠ 0):tK (l.set i v)=tK l:=by
 unfold tK
 induction l generalizing i with
 | nil=>cases h
 | cons x l ih=>
   cases i with
   | zero=>
     simp only [iW,Option.some.injEq] at h;subst h;rw [jA,RQ,RQ];simp [hv,hw]
   | succ i=>
     simp only [iU] at h;have:=ih h;rw [iZ,RQ,RQ];omega
def ES (seen:List Int) (k:Int):Prop:=∃v,bN seen k=some v/\v ≠ 0
def RI (c:aG) (to:Int) (seen:List Int) (k:Int):Prop:=∀l,bN c.cB k=some l->∀j ∈ l,j ≠ to/\ES seen j
theorem ES.set {seen:List Int} {k j v:Int} (hv:v ≠ 0) (h:ES seen k) (hj:j.toNat<seen.length):ES (seen.set j.toNat v) k:=by
 obtain ⟨x,h1,h2⟩:=h;unfold bN at h1
 split at h1
 ·rename_i h0
  by_cases e:j.toNat=k.toNat
  ·exact ⟨v,by unfold bN;rw [if_pos h0,←e,Pl hj],hv⟩
  ·exact ⟨x,by unfold bN;rw [if_pos h0,Of e];exact h1,h2⟩
 ·cases h1
theorem ES.unset {seen:List Int} {k j v:Int} (h:ES (seen.set j.toNat v) k) (hj:0<=j):ES seen k ∨ k=j:=by
 obtain ⟨x,h1,h2⟩:=h;unfold bN at h1
 split at h1
 ·rename_i h0
  by_cases e:j.toNat=k.toNat
  ·right;omega
  ·rw [Of e] at h1;exact .inl ⟨x,by unfold bN;rw [if_pos h0];exact h1,h2⟩
 ·cases h1
theorem RI.mono {c:aG} {to:Int} {s s':List Int} {k:Int} (h:RI c to s k) (hs:∀j,ES s j->ES s' j):RI c to s' k:=λl e j hj=>⟨(h l e j hj).1,hs _ (h l e j hj).2⟩
structure Ra (c:aG) (to:Int) (B:Nat) (X:Int) (seen seen':List Int):Prop where
 le:tK seen'<=tK seen
 lo:∀v ∈ seen',0<=v/\v+((tK seen'*B:Nat):Int)<=X
 up:∀k,ES seen k->ES seen' k
 sh:∀k,ES seen' k->ES seen k ∨ RI c to seen' k
section
variable {N B:Nat} {c:aG} {to:Int}
theorem reach_l {rec_:Int->List Int->Option (Bool × List Int)} {n:Nat} (hB:∀l ∈ c.cB,l.length<=B)
  (hrec:∀(k X:Int) (seen:List Int),0<=k->k<N->tK seen<n->seen.length=N->(∀v ∈ seen,0<=v/\v+(((tK seen+1)*B:Nat):Int)<=X)->X<=4611686018427387904->bK (rec_ k seen) λr=>r.2.length=N/\(r.1=false->Ra c to B X seen r.2/\RI c to r.2 k)) :
  ∀(ks seen:List Int) (X:Int),(∀k ∈ ks,0<=k/\k<N)->tK seen<n+1->seen.length=N->(∀v ∈ seen,0<=v/\v+((tK seen*B:Nat):Int)+ks.length<=X)->X<=4611686018427387904->bK (vY rec_ to ks seen) λr=>r.2.length=N/\(r.1=false->Ra c to B X seen r.2/\∀j ∈ ks,j ≠ to/\ES r.2 j):=by
 intro ks
 induction ks with
 | nil=>
   intro seen X h1 h2 h3 h4 h5;exact .some ⟨h3,λ_=>⟨⟨tJ _,λv hv=>by have:=h4 v hv;simp only [eN] at this ⊢;omega,λk h=>h,λk h=>.inl h⟩,λj hj=>nomatch hj⟩⟩
 | cons k ks ih=>
   intro seen X h1 h2 h3 h4 h5;unfold vY;obtain ⟨k0,k1⟩:=h1 k (xej);refine bK.iteb (λ_=>.some ⟨h3,λh=>Bool.noConfusion h⟩) λhkt=>?_;have hkt:k ≠ to:=by simpa using hkt
   obtain ⟨s,e,e2,hsm⟩:=oO (l:=seen) (i:=k) k0 (by omega);have hs:=h4 s hsm;simp only [dW] at hs;rw [e,iR,cZ (by omega) (by omega)];have hkl:k.toNat<seen.length:=by omega
   have hset:∀v ∈ seen.set k.toNat (s+1),0<=v/\v+((tK seen*B:Nat):Int)+ks.length<=X:=λv hv=>by
    rcases Sg hv with hv | rfl
    ·have:=h4 v hv;simp only [dW] at this;omega
    ·omega
   refine bK.iteb (λhs1=>?_) (λhs1=>?_)
   ·have hs0:s=0:=by have:=eq_of_beq hs1;omega
    subst hs0;have hun:=OS (v:=0+1) e2 (by decide);refine (hrec k (X - ks.length) _ k0 k1 (by omega) (by rw [qV];exact h3) (λv hv=>?_) (by omega)).bind λr hr=>?_
    ·have:=hset v hv;rw [hun];omega
    ·refine bK.iteb (λhrt=>.some ⟨hr.1,λh=>Bool.noConfusion h⟩) λhrt=>?_;obtain ⟨hR,hS⟩:=hr.2 hrt;have hle:=hR.le;refine (ih r.2 X (λj hj=>h1 j (Mu _ hj)) (by omega) hr.1 (λv hv=>?_) h5).mono λq hq=>⟨hq.1,λhqf=>?_⟩
     ·have:=hR.lo v hv;omega
     ·obtain ⟨hQ,hJ⟩:=hq.2 hqf;have hsk:ES (seen.set k.toNat (0+1)) k:=⟨0+1,by unfold bN;rw [if_pos k0,Pl hkl],by decide⟩;have hqle:=hQ.le;refine ⟨⟨by omega,hQ.lo,λj hj=>hQ.up j (hR.up j (hj.set (by decide) hkl)),λj hj=>?_⟩,λj hj=>?_⟩
      ·rcases hQ.sh j hj with h | h
       ·rcases hR.sh j h with h | h
        ·rcases h.unset k0 with h | rfl
         ·exact .inl h
         ·exact .inr (hS.mono hQ.up)
        ·exact .inr (h.mono hQ.up)
       ·exact .inr h
      ·rcases AP.1 hj with rfl | hj
       ·exact ⟨hkt,hQ.up _ (hR.up _ hsk)⟩
       ·exact hJ j hj
   ·have hs0:s ≠ 0:=by rintro rfl;simp at hs1
    have hun:=NJ (v:=s+1) e2 (by omega) hs0;refine (ih _ X (λj hj=>h1 j (Mu _ hj)) (by rw [hun];omega) (by rw [qV];exact h3) (λv hv=>by rw [hun];exact hset v hv) h5).mono λq hq=>⟨hq.1,λhqf=>?_⟩;obtain ⟨hQ,hJ⟩:=hq.2 hqf;have hsk:ES (seen.set k.toNat (s+1)) k:=⟨s+1,by unfold bN;rw [if_pos k0,Pl hkl],by omega⟩;have hqle:=hQ.le;rw [hun] at hqle;refine ⟨⟨hqle,hQ.lo,λj hj=>hQ.up j (hj.set (by omega) hkl),λj hj=>?_⟩,λj hj=>?_⟩
    ·rcases hQ.sh j hj with h | h
     ·rcases h.unset k0 with h | rfl
      ·exact .inl h
      ·exact .inl ⟨s,e,hs0⟩
     ·exact .inr h
    ·rcases AP.1 hj with rfl | hj
     ·exact ⟨hkt,hQ.up _ hsk⟩
     ·exact hJ j hj
theorem QM (hN:c.cB.length=N) (hcl:∀l ∈ c.cB,l.length<=B/\∀k ∈ l,0<=k/\k<N) (hB:B<=1073741824):∀(n:Nat) (k X:Int) (seen:List Int),0<=k->k<N->tK seen<n->seen.length=N->(∀v ∈ seen,0<=v/\v+(((tK seen+1)*B:Nat):Int)<=X)->X<=4611686018427387904->bK (kP n c k to seen) λr=>r.2.length=N/\(r.1=false->Ra c to B X seen r.2/\RI c to r.2 k):=by
 intro n
 induction n with
 | zero=>intro k X seen _ _ h;omega
 | succ n ih=>
   intro k X seen k0 k1 h1 h2 h3 h4;unfold kP;obtain ⟨l,e,_,hm⟩:=oO (l:=c.cB) k0 (by omega);obtain ⟨hl1,hl2⟩:=hcl l hm;rw [e,iR];refine bK.need (by omega) ?_;refine (reach_l (λl hl=>(hcl l hl).1) ih l seen X hl2 h1 h2 (λv hv=>?_) h4).mono λr hr=>⟨hr.1,λhf=>?_⟩
   ·have:=h3 v hv;rw [IP] at this;omega
   ·obtain ⟨hR,hJ⟩:=hr.2 hf;refine ⟨hR,λl2 e2 j hj=>?_⟩;rw [e] at e2;cases e2
    exact hJ j hj
inductive Uz (c:aG):Int->Int->Prop
 | one {i k l}:bN c.cB i=some l->k ∈ l->Uz c i k
 | more {i j k l}:Uz c i j->bN c.cB j=some l->k ∈ l->Uz c i k
theorem Uz.cons {i j k:Int} {l:List Int} (h:Uz c j k) (e:bN c.cB i=some l) (hj:j ∈ l):Uz c i k:=by
 induction h with
 | one e2 h2=>exact .more (.one e hj) e2 h2
 | more _ e2 h2 ih=>exact .more ih e2 h2
theorem Id (N:Nat):tK (List.replicate N 0)=N:=by
 unfold tK;rw [List.countP_eq_length.2 (λv hv=>by rw [(xee.1 hv).2];rfl),Ch]
theorem SZ (hN:c.cB.length=N) (hN2:N<=16384) (hcl:∀l ∈ c.cB,l.length<=B/\∀k ∈ l,0<=k/\k<N) (hB:B<=1073741824) {n:Nat} (hn:16384<n) {i:Int} (h0:0<=i) (h1:i<N):bK (kP n c i i (List.replicate N 0)) λr=>r.1=false->¬ Uz c i i:=by
 have hmul:(N+1)*B<=16385*1073741824:=Nat.mul_le_mul (by omega) hB;refine (QM (to:=i) hN hcl hB n i 4611686018427387904 _ h0 h1 (by rw [Id];omega) Ch (λv hv=>?_) (xeb _)).mono λr hr hf hw=>?_
 ·rw [(xee.1 hv).2,Id];omega
 ·obtain ⟨hR,hS⟩:=hr.2 hf
  have hz:∀k,¬ ES (List.replicate N 0) k:=λk ⟨v,e,hv⟩=>by
   unfold bN at e
   split at e
   ·exact hv (xee.1 (ET e)).2
   ·cases e
  have key:∀k,Uz c i k->ES r.2 k/\k ≠ i:=by
   intro k hk
   induction hk with
   | one e hk=>exact ⟨(hS _ e _ hk).2,(hS _ e _ hk).1⟩
   | more _ e hk ih=>
     rcases hR.sh _ ih.1 with h | h
     ·exact absurd h (hz _)
     ·exact ⟨(h _ e _ hk).2,(h _ e _ hk).1⟩
  exact (key i hw).2 rfl
theorem Rr {α:Type} {p q:α->Bool} {l:List α} (h:∀x ∈ l,p x=true->q x=true) {y:α} (hy:y ∈ l) (hq:q y=true) (hp:p y=false):l.countP p<l.countP q:=by
 induction l with
 | nil=>cases hy
 | cons x l ih=>
   rw [RQ,RQ];have hle:l.countP p<=l.countP q:=List.countP_mono_left λx hx=>h x (Mu _ hx)
   rcases AP.1 hy with rfl | hy
   ·rw [hq,hp];simp;omega
   ·have:=ih (λx hx=>h x (Mu _ hx)) hy;have hx:=h x xej;cases h1:p x <;> cases h2:q x <;> simp_all <;> omega
theorem ranks (hN:c.cB.length=N) (hcl:∀l ∈ c.cB,∀k ∈ l,0<=k/\k<N) (hac:∀i:Int,0<=i->i<N->¬ Uz c i i):∃rk:Int->Nat,(∀i,rk i<=N)/\∀i l,bN c.cB i=some l->∀k ∈ l,rk k<rk i:=by
 classical
 refine ⟨λi=>(List.range N).countP λk:Nat=>decide (Uz c i (k:Int)),λi=>KS xfb (by simp),λi l e k hk=>?_⟩
 have hlm:l ∈ c.cB:=by
  unfold bN at e
  split at e
  ·exact ET e
  ·cases e
 obtain ⟨k0,k1⟩:=hcl l hlm k hk;have hkn:((k.toNat:Nat):Int)=k:=by omega
 refine Rr (y:=k.toNat) (λx _ hx=>?_) (NZ.2 (by omega)) ?_ ?_
 ·exact Ar ((BI hx).cons e hk)
 ·rw [hkn];exact Ar (.one e hk)
 ·rw [hkn];exact xep (hac k k0 k1)
end
structure PO (c:aG) (rk:Int->Nat):Prop where
 co:CO c.p_.bF.length 1073741824 c
 n64:c.p_.bF.length<=64
 ex:∀f ∈ c.p_.bF,f.dG=true->Aj (f.aX.take f.bC.toNat) 0<=4
 tf:∀(j:Nat) f,c.p_.bF[j]? = some f->TF (GV c j) f
 sz:∀f ∈ c.p_.bF,uJ f.bV<=3001
 rkN:∀i,rk i<=64
 rk:∀i l,bN c.cB i=some l->∀k ∈ l,rk k<rk i
section
variable {N B n:Nat} {c:aG} {w:aH}
theorem CO.more {B':Nat} (h:CO N B c) (hb:B<=B'):CO N B' c:=⟨h.nf,h.nN,h.vl,h.nc,λl hl=>⟨KS (h.cl l hl).1 hb,(h.cl l hl).2⟩,h.ki⟩
theorem Oz {a:Int}:bK (xS a) λr=>r=0 ∨ r=2 ∨ r=3:=by
 unfold xS
 repeat' split
 ·exact .some (.inr (.inl rfl))
 ·exact .some (.inr (.inr rfl))
 ·exact .some (.inl rfl)
structure D0 (f:aS):Prop where
 v:f.aX=[]
 p:f.bC=0
 b:f.bV=[]
 r:f.bR=0 ∨ f.bR=2 ∨ f.bR=3
theorem Tp {x:Nd} (hl:x.aP.length<=16384) (hn:16384<n):∀(k v:Nat) (c:aG) (w:aH),x.aP.length<v+k->v<=x.aP.length->c.p_.bF.length=v->c.f_=-1->(∀f ∈ c.p_.bF,D0 f)->bK (kD n x k (v:Int) c w) λr=>r.1.p_.bF.length=x.aP.length/\(∀f ∈ r.1.p_.bF,D0 f)/\WK w r.2:=by
 intro k
 induction k with
 | zero=>intro v c w h1 h2;omega
 | succ k ih=>
   intro v c w h1 h2 h3 h4 h5;unfold kD
   by_cases hv:v<x.aP.length
   ·rw [if_pos (Ar (by omega))];obtain ⟨y,e,_,hym⟩:=oO (l:=x.aP) (i:=(v:Int)) (by omega) (by omega);rw [e];simp only [iR];refine (NR (by omega) hn).bind λq hq=>?_;refine bK.bind (P:=λw'=>WK w w') ?_ λw' hw'=>?_
    ·refine bK.iteb (λ_=>?_) (λ_=>?_)
     ·exact (HS (by omega)).bind λa _=>by rw [pA];exact .some WK.nd
     ·rw [pA];exact .some WK.nd
    ·refine Oz.bind λrr hrr=>bK.need (by omega) (bK.need (by omega) ?_);rw [cZ (by omega) (by omega),show ((v:Int)+1)=((v+1:Nat):Int) by omega];refine (ih (v+1) { c with p_:=⟨c.p_.bF++[⟨y.cW,(AO .u32 y.pO (1:Int)) != (0:Int),rr,0,[],[]⟩]⟩ } w' (by omega) (by omega) (by simp only [mS,vM];omega) h4 λf hf=>?_).mono λr hr=>⟨hr.1,hr.2.1,hw'.trans hr.2.2⟩
     rcases zK.1 hf with hf | hf
     ·exact h5 f hf
     ·obtain rfl:=As.1 hf;exact ⟨rfl,rfl,rfl,hrr⟩
   ·rw [if_neg (by rw [BJ];omega)];exact .some ⟨by simp only;omega,h5,.refl w⟩
theorem QT {x:Nd} (hl:x.aP.length<=16384) (hn:16384<n):bK (oS n aG.Z w x) λr=>CO x.aP.length 0 r.1/\(∀f ∈ r.1.p_.bF,D0 f)/\WK w r.2/\(r.2.e_=0->x.aP.length<=64):=by
 unfold oS;rw [pA,iR];refine (Tp hl hn n 0 aG.Z _ (by omega) (by omega) rfl rfl λf hf=>nomatch hf).bind λr hr=>bK.need (by omega) (.some ?_);obtain ⟨h1,h2,h3⟩:=hr;refine ⟨⟨h1,hl,λf hf=>?_,Ch,λl hl=>?_,λf hf=>?_⟩,h2,(WK.nd).trans h3,λe=>?_⟩
 ·rw [(h2 f hf).v,(h2 f hf).p];exact ⟨by decide,by decide,by decide⟩
 ·rw [(xee.1 hl).2];exact ⟨tJ _,λk hk=>nomatch hk⟩
 ·rw [(h2 f hf).v];exact ⟨λv hv=>(by cases hv),(h2 f hf).r⟩
 ·have e2:(Mx w (decide ((x.aP.length:Int)<=64)) 136 x.fC).e_=0:=by rw [←h3 e];exact e
  have:=BI (fF (k:=136) (by decide) e2).2.1;omega
def D1 (f:aS):Prop:=f.bC=f.aX.length/\(f.dG=true->Aj f.aX 0<=4)
theorem vJ {α:Type} {l:List α} {i:Nat} {x:α} (h:l[i]? = some x):bN l (i:Int)=some x:=by
 unfold bN;rw [if_pos (by omega),Di];exact h
theorem AF {α:Type} {l:List α} {i:Nat} {x:α} (h:bN l (i:Int)=some x):l[i]? = some x:=by
 unfold bN at h;rw [if_pos (by omega),Di] at h;exact h
theorem QZ (hn:20300<n):∀(l:List Nd) (i:Nat) (c:aG) (w:aH),CO N B c->i+l.length=N->(∀x ∈ l,WF x/\x.aP.length<=20000)->(∀(j:Nat) f,i<=j->c.p_.bF[j]? = some f->f.bV=[])->(w.e_=0->∀(j:Nat) f,j<i->c.p_.bF[j]? = some f->D1 f)->bK (sW (λi f c w=>lD n c w i f) l i c w) λr=>CO N B r.1/\WK w r.2/\r.1.cB=c.cB/\(r.2.e_=0->∀(j:Nat) f,r.1.p_.bF[j]? = some f->D1 f):=by
 intro l
 induction l with
 | nil=>
   intro i c w h h1 h2 h3 h4;refine .some ⟨h,.refl w,rfl,λe j f hf=>h4 e j f ?_ hf⟩;have hj:j<c.p_.bF.length:=(vE.1 hf).1;have:=h.nf;simp only [eN] at h1;omega
 | cons x l ih=>
   intro i c w h h1 h2 h3 h4;simp only [dW] at h1;unfold sW
   by_cases he:(w.e_ == (0:Int))=true
   ·rw [if_pos he];have he0:w.e_=0:=by simpa using he
    obtain ⟨f,ef,ef2,_⟩:=oO (l:=c.p_.bF) (i:=(i:Int)) (by omega) (by rw [h.nf];omega);obtain ⟨hx1,hx2⟩:=h2 x xej;refine (Rt (w:=w) h (i:=(i:Int)) (by omega) (by omega) hn ef (h3 i f (tJ _) (AF ef)) hx1 hx2).bind λr hr=>?_;obtain ⟨k1,k2,k3,k4,f',k5,k6,k7,k8,k9,k10⟩:=hr;rw [Di] at k4;refine (ih (i+1) r.1 r.2 k1 (by omega) (λy hy=>h2 y (Mu _ hy)) (λj g hj hg=>?_) (λe j g hj hg=>?_)).mono λq hq=>⟨hq.1,k2.trans hq.2.1,hq.2.2.1.trans k3,hq.2.2.2⟩
    ·exact h3 j g (by omega) (by rw [←k4 j (by omega)];exact hg)
    ·by_cases hji:j=i
     ·subst hji;rw [AF k5] at hg;cases hg
      exact ⟨k9,k10 e⟩
     ·exact h4 he0 j g (by omega) (by rw [←k4 j hji];exact hg)
   ·rw [if_neg he];refine (ih (i+1) c w h (by omega) (λy hy=>h2 y (Mu _ hy)) (λj g hj hg=>h3 j g (by omega) hg) (λe=>absurd e (by simpa using he))).mono λq hq=>hq
theorem QA {c c':aG} {i j:Nat} (hv:∀f ∈ c.p_.bF,f.bC<=f.aX.length) (h1:∀k:Nat,k ≠ i->c'.p_.bF[k]? = c.p_.bF[k]?) (h2:c'.cB[j]? = c.cB[j]?) {f f':aS} (e:c.p_.bF[i]? = some f) (e':c'.p_.bF[i]? = some f') (hr:f'.bR=f.bR) (hp:f'.bC=f.bC) (hx:f.aX <+: f'.aX) {k r:Int} {ps:List aL} (h:GV c j k r ps):GV c' j k r ps:=by
 obtain ⟨⟨l,el,hk⟩,g,eg,rfl,rfl⟩:=h;refine ⟨⟨l,by rw [h2];exact el,hk⟩,?_⟩;unfold bN at eg
 split at eg
 ·rename_i h0
  by_cases hki:k.toNat=i
  ·rw [hki,e] at eg;cases eg
   have:=hv f (ET e);refine ⟨f',by unfold bN;rw [if_pos h0,hki];exact e',hr.symm,?_⟩;rw [hp,Jn hx (by omega)]
  ·exact ⟨g,by unfold bN;rw [if_pos h0,h1 _ hki];exact eg,rfl,rfl⟩
 ·cases eg
theorem Pe (hn:90000<=n):∀(l:List Nd) (i B:Nat) (c:aG) (w:aH),CO N B c->i+l.length=N->(∀x ∈ l,WF x/\sz x<=3001)->(B:Int)+vG l<=1073741824->(w.e_=0->∀(j:Nat) f,c.p_.bF[j]? = some f->(f.dG=true->Aj (f.aX.take f.bC.toNat) 0<=4)/\(i<=j->f.bC=f.aX.length)/\(j<i->TF (GV c j) f/\uJ f.bV<=3001))->bK (sW (λi f c w=>lF n c w i f) l i c w) λr=>(∃B':Nat,(B':Int)<=B+vG l/\CO N B' r.1)/\WK w r.2/\(r.2.e_=0->∀(j:Nat) f,r.1.p_.bF[j]? = some f->(f.dG=true->Aj (f.aX.take f.bC.toNat) 0<=4)/\TF (GV r.1 j) f/\uJ f.bV<=3001):=by
 intro l
 induction l with
 | nil=>
   intro i B c w h h1 h2 h3 h4;refine .some ⟨⟨B,by rw [oH];omega,h⟩,.refl w,λe j f hf=>⟨(h4 e j f hf).1,(h4 e j f hf).2.2 ?_⟩⟩;have hj:j<c.p_.bF.length:=(vE.1 hf).1;have:=h.nf;simp only [eN] at h1;omega
 | cons x l ih=>
   intro i B c w h h1 h2 h3 h4;simp only [dW] at h1;rw [uN] at h3 ⊢;have hp:=qZ x;have hg:=pG l;unfold sW
   by_cases he:(w.e_ == (0:Int))=true
   ·rw [if_pos he];have he0:w.e_=0:=by simpa using he
    obtain ⟨f,ef,ef2,hfm⟩:=oO (l:=c.p_.bF) (i:=(i:Int)) (by omega) (by rw [h.nf];omega);obtain ⟨hx1,hx2⟩:=h2 x xej;obtain ⟨q1,q2,_⟩:=h4 he0 i f (AF ef);refine (Ru (w:=w) h (i:=(i:Int)) (by omega) (by omega) ef (q2 (tJ _)) hx1 (by omega) (by omega) hn).bind λr hr=>?_;obtain ⟨⟨B',hb',k1⟩,k2,k4,f',k5,k6,k7,k8,k9,k10,k11⟩:=hr;rw [Di] at k4 k11;refine (ih (i+1) B' r.1 r.2 k1 (by omega) (λy hy=>h2 y (Mu _ hy)) (by omega) (λe j g hg=>?_)).mono λq hq=>?_
    ·by_cases hji:j=i
     ·subst hji;rw [AF k5] at hg;cases hg
      refine ⟨λhx=>?_,λh=>by omega,λ_=>⟨(k11 e).1,by have:=(k11 e).2;omega⟩⟩;rw [k9,Jn k10 (by have:=(h.vl f hfm).2;omega)];exact q1 (by rw [←k7];exact hx)
     ·obtain ⟨a1,a2,a3⟩:=h4 he0 j g (by rw [←(k4 j hji).1];exact hg);refine ⟨a1,λh=>a2 (by omega),λhlt=>?_⟩;obtain ⟨hT,hZ⟩:=a3 (by omega);obtain ⟨sc',hTB⟩:=hT.body;exact ⟨⟨⟨sc',hTB.mono (λk r' ps hs=>QA (λf hf=>(h.vl f hf).2.2) (λk hk=>(k4 k hk).1) (k4 j hji).2 (AF ef) (AF k5) k8 k9 k10 hs) (Qd _)⟩,hT.ret⟩,hZ⟩
    ·obtain ⟨⟨B2,hb2,h5⟩,h6,h7⟩:=hq;exact ⟨⟨B2,by omega,h5⟩,k2.trans h6,h7⟩
   ·rw [if_neg he];refine (ih (i+1) B c w h (by omega) (λy hy=>h2 y (Mu _ hy)) (by omega) (λe=>absurd e (by simpa using he))).mono λq hq=>?_;obtain ⟨⟨B2,hb2,h5⟩,h6,h7⟩:=hq;exact ⟨⟨B2,by omega,h5⟩,h6,h7⟩
theorem cyc_tot (h:CO N B c) (hB:B<=1073741824) (hn:16384<n):∀(l:List Nd) (i:Nat) (w:aH),i+l.length=N->bK (zD n N c l i w) λw'=>WK w w'/\(w'.e_=0->∀j:Int,i<=j->j<N->¬ Uz c j j):=by
 intro l
 induction l with
 | nil=>intro i w h1;exact .some ⟨.refl w,λe j h2 h3=>by simp only [eN] at h1;omega⟩
 | cons x l ih=>
   intro i w h1;simp only [dW] at h1;unfold zD
   by_cases he:(w.e_ == (0:Int))=true
   ·rw [if_pos he];refine (SZ h.nc h.nN h.cl hB hn (i:=(i:Int)) (by omega) (by omega)).bind λr hr=>?_;rw [pA,iR];refine (ih (i+1) _ (by omega)).mono λq hq=>⟨(WK.nd).trans hq.1,λe j h2 h3=>?_⟩
    by_cases hji:j=i
    ·subst hji;have e2:(Mx w (!r.1) 134 x.fC).e_=0:=by rw [←hq.1 e];exact e
     exact hr (by simpa using (fF (k:=134) (by decide) e2).2.1)
    ·exact hq.2 e j (by omega) h3
   ·rw [if_neg he];exact (ih (i+1) w (by omega)).mono λq hq=>⟨hq.1,λe=>absurd (hq.1 e ▸ e) (by simpa using he)⟩
theorem RN {s:cJ} (hs:s.length<=3000) (hn:90000<=n):bK (Ag n s) λr=>r.2.1=0->∃c rk,c.p_=r.1/\PO c rk:=by
 unfold Ag;refine (Nf (n:=n) (s:=s) (by omega)).bind λp hp=>?_;refine bK.iteb (λhe=>.some λe=>absurd e (by simpa using he)) (λhe=>?_);obtain ⟨hw,hz⟩:=hp (by simpa using he);have hg:=pG p.1.aP;refine (QT (w:=⟨0,0⟩) (x:=p.1) (by omega) (by omega)).bind λa ha=>bK.need (by omega) ?_;obtain ⟨a1,a2,a3,a4⟩:=ha
 have hsz:∀x ∈ p.1.aP,sz x<=3001/\x.aP.length<=20000:=λx hx=>by
  have h1:=Jo hx;have h2:=EW x;have h3:=pG x.aP;omega
 refine bK.bind (P:=λb=>(∃B':Nat,(B':Int)<=3001/\CO p.1.aP.length B' b.1)/\WK a.2 b.2/\(b.2.e_=0->∀(j:Nat) f,b.1.p_.bF[j]? = some f->(f.dG=true->Aj (f.aX.take f.bC.toNat) 0<=4)/\TF (GV b.1 j) f/\uJ f.bV<=3001)) ?_ λb hb=>?_
 ·unfold wK;refine (QZ (n:=n) (by omega) p.1.aP 0 a.1 a.2 a1 (by omega) (λx hx=>⟨hw x hx,(hsz x hx).2⟩) (λj f _ hf=>(a2 f (ET hf)).b) (λ_ j f h=>by omega)).bind λq hq=>?_;obtain ⟨q1,q2,q3,q4⟩:=hq;unfold wK;refine (Pe (n:=n) hn p.1.aP 0 0 q.1 q.2 q1 (by omega) (λx hx=>⟨hw x hx,(hsz x hx).1⟩) (by omega) (λe j f hf=>?_)).bind λr hr=>?_
  ·obtain ⟨d1,d2⟩:=q4 e j f hf;refine ⟨λhx=>?_,λ_=>d1,λh=>by omega⟩;rw [d1,Di,xev];exact d2 hx
  ·obtain ⟨⟨B2,hb2,h5⟩,h6,h7⟩:=hr;unfold wK;exact .some ⟨⟨B2,by omega,h5⟩,q2.trans h6,h7⟩
 ·obtain ⟨⟨B',hb',b1⟩,b2,b3⟩:=hb;refine (cyc_tot (n:=n) b1 (by omega) (by omega) p.1.aP 0 b.2 (by omega)).bind λw hw2=>?_;refine bK.iteb (λhe2=>.some λe=>absurd e (by simpa using he2)) (λhe2=>.some λ_=>?_);have he2:w.e_=0:=by simpa using he2
  have eb:b.2.e_=0:=by rw [←hw2.1 he2];exact he2
  have ea:a.2.e_=0:=by rw [←b2 eb];exact eb
  have hN:=b1.nf;obtain ⟨rk,r1,r2⟩:=ranks b1.nc (λl hl=>(b1.cl l hl).2) (λi h0 h1=>hw2.2 he2 i h0 h1);refine ⟨b.1,rk,rfl,⟨by rw [hN];exact b1.more (by omega),by rw [hN];exact a4 ea,λf hf hx=>?_,λj f hf=>(b3 eb j f hf).2.1,λf hf=>?_,λi=>KS (r1 i) (a4 ea),r2⟩⟩
  ·obtain ⟨j,hj⟩:=List.getElem?_of_mem hf;exact (b3 eb j f hj).1 hx
  ·obtain ⟨j,hj⟩:=List.getElem?_of_mem hf;exact (b3 eb j f hj).2.2
end
