import Derived.Test.YtnheknbibdgglaaGreatDoorMTot
namespace Go.Proofs.YtnheknbibdgglaaGreatDoor.Abs
open IntKind (i64 u32 u64 u8)
open Go.RowKit
set_option linter.all false
mutual
def xz:aF->Nat
 | ⟨_,_,_,_,l,_⟩=>1+oY l
def oY:List aF->Nat
 | []=>0
 | x::l=>xz x+oY l
end
mutual
def tz:aA->Nat
 | ⟨_,_,_,l,b,e,_⟩=>1+oY l+uS b+uS e
def uS:List aA->Nat
 | []=>0
 | x::l=>tz x+uS l
end
theorem yZ (x:aF):xz x=1+oY x.aM:=by cases x;rw [xz]
theorem qC (x:aA):tz x=1+oY x.aM+uS x.bR+uS x.iP:=by cases x;rw [tz]
theorem LC (a b:List aF):oY (a++b)=oY a+oY b:=by
 induction a with
 | nil=>rw [wN,oY,ES]
 | cons x a ih=>rw [EP,oY,oY,ih,xee]
theorem tzL_app (a b:List aA):uS (a++b)=uS a+uS b:=by
 induction a with
 | nil=>rw [wN,uS,ES]
 | cons x a ih=>rw [EP,uS,uS,ih,xee]
theorem EQ (x:aF):1<=xz x:=by rw [yZ];omega
theorem tz_pos (x:aA):1<=tz x:=by rw [qC];omega
theorem GQ (l:List aF):l.length<=oY l:=by
 induction l with
 | nil=>exact HI _
 | cons x l ih=>have:=EQ x;rw [jJ,oY];omega
theorem FK (l:List aA):l.length<=uS l:=by
 induction l with
 | nil=>exact HI _
 | cons x l ih=>have:=tz_pos x;rw [jJ,uS];omega
theorem FH {l:List aF} {x:aF} (h:x ∈ l):xz x<=oY l:=by
 obtain ⟨a,b,rfl⟩:=List.append_of_mem h;rw [LC,oY];omega
theorem PU {l:List aA} {x:aA} (h:x ∈ l):tz x<=uS l:=by
 obtain ⟨a,b,rfl⟩:=List.append_of_mem h;rw [tzL_app,uS];omega
def yR (n:Int):Prop:=1<=n/\n<=255 ∨ 255<n/\n<=1024/\n % 4=0
def sE (v:aJ):Prop:=1<=v.bF/\v.bF<=4/\(v.bF=4->yR v.gA)
theorem Tn {s:cQ}:sE ⟨s,1,0⟩:=⟨(by decide:(1:Int)<=1),(by decide:(1:Int)<=4),λh=>dE h zc⟩
theorem Tm {s:cQ} {n:Int} (h:yR n):sE ⟨s,4,n⟩:=⟨(by decide:(1:Int)<=4),(by decide:(4:Int)<=4),λ_=>h⟩
theorem OG {s:cQ} {k:Int} (h1:1<=k) (h2:k<=3):sE ⟨s,k,0⟩:=⟨h1,yz,λh=>by simp only at h;omega⟩
def Ai (a b:Int):Int:=if a=b/\1<=a/\a<=3 then a else if a=1/\b=2 ∨ a=2/\b=1 then 2 else 0
def HP (t:Int):Int:=if t=1 then 2 else t
def ScT (t:Int):Prop:=t=1 ∨ t=2
def Kh (t k:Int):Prop:=t=k ∨ t=1/\k=2
def SO (o:cQ) (x y:aF) (t:Int):Prop:=
 ((o=[47] ∨ o=[37])/\x.cP=1/\y.cP=1/\t=1) ∨
 ((o=[60,60] ∨ o=[62,62] ∨ o=[60,60,60])/\y.cP=1/\(x.cP=3->y.eG=[110,117,109]/\y.N_<=63)/\t=x.cP) ∨
 (o=[42]/\t=Ai x.cP y.cP/\t ≠ 3/\t ≠ 0) ∨
 ((o=[61,61] ∨ o=[60])/\Ai x.cP y.cP ≠ 0/\t=if Ai x.cP y.cP=3 then 2 else Ai x.cP y.cP) ∨
 ((o=[124] ∨ o=[94] ∨ o=[38] ∨ o=[43] ∨ o=[45])/\t=Ai x.cP y.cP/\t ≠ 0)
inductive TX (vs:List aJ) (sc:List Int):aF->Prop
 | num {n a}:0<=n->n<=4294967295->TX vs sc ⟨[110,117,109],1,n,-1,[],a⟩
 | var {v u a}:v ∈ sc->aS vs v=some u->u.bF ≠ 4->TX vs sc ⟨[118,97,114],u.bF,0,v,[],a⟩
 | index {v u i a}:v ∈ sc->aS vs v=some u->u.bF=4->TX vs sc i->i.cP=1->(i.eG=[110,117,109]->i64.wrap i.N_<u.gA)->TX vs sc ⟨[105,110,100,101,120],2,0,v,[i],a⟩
 | un {o x a}:(o=[110,111,116] ∨ o=[110,101,103])->TX vs sc x->TX vs sc ⟨o,x.cP,0,-1,[x],a⟩
 | bin {o x y t a}:TX vs sc x->TX vs sc y->SO o x y t->TX vs sc ⟨o,t,0,-1,[x,y],a⟩
 | sel {c x y a}:TX vs sc c->TX vs sc x->TX vs sc y->ScT c.cP->Ai x.cP y.cP ≠ 0->TX vs sc ⟨[115,101,108,101,99,116],HP (Ai x.cP y.cP),0,-1,[c,x,y],a⟩
 | long {x a}:TX vs sc x->ScT x.cP->TX vs sc ⟨[108,111,110,103],3,0,-1,[x],a⟩
 | wide {x y a}:TX vs sc x->TX vs sc y->ScT x.cP->ScT y.cP->TX vs sc ⟨[119,105,100,101],3,0,-1,[x,y],a⟩
 | half {o x a}:(o=[108,111] ∨ o=[104,105])->TX vs sc x->x.cP=3->TX vs sc ⟨o,2,0,-1,[x],a⟩
inductive Bq (vs:List aJ) (sc:List Int) (p:aJ):aF->Prop
 | arr {v u a}:p.bF=4->v ∈ sc->aS vs v=some u->u.bF=4->u.gA=p.gA->Bq vs sc p ⟨[118,97,114],4,0,v,[],a⟩
 | pub {x}:p.bF=1->TX vs sc x->x.cP=1->Bq vs sc p x
 | val {x}:p.bF ≠ 1->p.bF ≠ 4->TX vs sc x->Kh x.cP p.bF->Bq vs sc p x
def zS (vs:List aJ) (sc:List Int) (ps:List aJ) (l:List aF):Prop:=l.length=ps.length/\∀(i:Nat) p x,ps[i]? = some p->l[i]? = some x->Bq vs sc p x
abbrev Hz:=Int->Int->List aJ->Prop
inductive TB (sg:Hz) (vs:List aJ) (res:Int):Bool->Nat->List Int->List aA->Nat->List Int->Prop
 | nil {l n sc}:TB sg vs res l n sc [] n sc
 | let_ {l n sc x u a ss n' sc'}:TX vs sc x->x.cP=1->vs[n]? = some u->u.bF=1->TB sg vs res l (n+1) (sc++[(n:Int)]) ss n' sc'->TB sg vs res l n sc (⟨[108,101,116],n,0,[x],[],[],a⟩::ss) n' sc'
 | var_ {l n sc x u a ss n' sc'}:TX vs sc x->vs[n]? = some u->u.bF=HP x.cP->TB sg vs res l (n+1) (sc++[(n:Int)]) ss n' sc'->TB sg vs res l n sc (⟨[118,97,114],n,0,[x],[],[],a⟩::ss) n' sc'
 | arr {l n sc u a ss n' sc'}:vs[n]? = some u->u.bF=4->TB sg vs res l (n+1) (sc++[(n:Int)]) ss n' sc'->TB sg vs res l n sc (⟨[97,114,114],n,0,[],[],[],a⟩::ss) n' sc'
 | callv {l n sc f r ps xs u a ss n' sc'}:sg f r ps->zS vs sc ps xs->r ≠ 0->vs[n]? = some u->u.bF=r->TB sg vs res l (n+1) (sc++[(n:Int)]) ss n' sc'->TB sg vs res l n sc (⟨[99,97,108,108],n,f,xs,[],[],a⟩::ss) n' sc'
 | set {l n sc v u x a ss n' sc'}:v ∈ sc->aS vs v=some u->(u.bF=2 ∨ u.bF=3)->TX vs sc x->Kh x.cP u.bF->TB sg vs res l n sc ss n' sc'->TB sg vs res l n sc (⟨[115,101,116],v,0,[x],[],[],a⟩::ss) n' sc'
 | calls {l n sc v u f r ps xs a ss n' sc'}:v ∈ sc->aS vs v=some u->(u.bF=2 ∨ u.bF=3)->sg f r ps->zS vs sc ps xs->r=u.bF->TB sg vs res l n sc ss n' sc'->TB sg vs res l n sc (⟨[99,97,108,108],v,f,xs,[],[],a⟩::ss) n' sc'
 | put {l n sc v u i x a ss n' sc'}:v ∈ sc->aS vs v=some u->u.bF=4->TX vs sc i->i.cP=1->(i.eG=[110,117,109]->i64.wrap i.N_<u.gA)->TX vs sc x->Kh x.cP 2->TB sg vs res l n sc ss n' sc'->TB sg vs res l n sc (⟨[112,117,116],v,0,[i,x],[],[],a⟩::ss) n' sc'
 | do_ {l n sc f r ps xs a ss n' sc'}:sg f r ps->zS vs sc ps xs->TB sg vs res l n sc ss n' sc'->TB sg vs res l n sc (⟨[99,97,108,108],-1,f,xs,[],[],a⟩::ss) n' sc'
 | if_ {l n sc c b e a n1 sc1 n2 sc2 ss n' sc'}:TX vs sc c->c.cP=1->TB sg vs res false n sc b n1 sc1->TB sg vs res false n1 sc e n2 sc2->TB sg vs res l n2 sc ss n' sc'->TB sg vs res l n sc (⟨[105,102],-1,0,[c],b,e,a⟩::ss) n' sc'
 | for_ {l n sc x y u b a n1 sc1 ss n' sc'}:TX vs sc x->x.cP=1->TX vs sc y->y.cP=1->vs[n]? = some u->u.bF=1->TB sg vs res false (n+1) (sc++[(n:Int)]) b n1 sc1->TB sg vs res l n1 sc ss n' sc'->TB sg vs res l n sc (⟨[102,111,114],n,0,[x,y],b,[],a⟩::ss) n' sc'
 | ret {n sc x a}:TX vs sc x->res ≠ 0->Kh x.cP res->TB sg vs res true n sc [⟨[114,101,116,117,114,110],-1,0,[x],[],[],a⟩] n sc
 | retc {n sc f ps xs a}:sg f res ps->res ≠ 0->zS vs sc ps xs->TB sg vs res true n sc [⟨[99,97,108,108],-2,f,xs,[],[],a⟩] n sc
section
variable {vs vs':List aJ} {sc sc':List Int}
theorem gN {α:Type} {l l':List α} (h:l <+: l') {i:Int} {x:α} (e:aS l i=some x):aS l' i=some x:=by
 obtain ⟨r,rfl⟩:=h;unfold aS at e ⊢
 split at e
 ·rename_i h0;rw [cG h0,HH (sG.1 e).1];exact e
 ·cases e
theorem Ga {α:Type} {l l':List α} (h:l <+: l') {i:Nat} {x:α} (e:l[i]? = some x):l'[i]? = some x:=by
 obtain ⟨r,rfl⟩:=h;rw [HH (sG.1 e).1];exact e
theorem TX.mono (hv:vs <+: vs') (hs:∀v ∈ sc,v ∈ sc') {x:aF} (h:TX vs sc x):TX vs' sc' x:=by
 induction h with
 | num h1 h2=>exact .num h1 h2
 | var h1 h2 h3=>exact .var (hs _ h1) (gN hv h2) h3
 | index h1 h2 h3 _ h5 h6 ih=>exact .index (hs _ h1) (gN hv h2) h3 ih h5 h6
 | un h1 _ ih=>exact .un h1 ih
 | bin _ _ h ih1 ih2=>exact .bin ih1 ih2 h
 | sel _ _ _ h1 h2 ih1 ih2 ih3=>exact .sel ih1 ih2 ih3 h1 h2
 | long _ h ih=>exact .long ih h
 | wide _ _ h1 h2 ih1 ih2=>exact .wide ih1 ih2 h1 h2
 | half h1 _ h2 ih=>exact .half h1 ih h2
theorem Bq.mono (hv:vs <+: vs') (hs:∀v ∈ sc,v ∈ sc') {p:aJ} {x:aF} (h:Bq vs sc p x):Bq vs' sc' p x:=by
 cases h with
 | arr h1 h2 h3 h4 h5=>exact .arr h1 (hs _ h2) (gN hv h3) h4 h5
 | pub h1 h2 h3=>exact .pub h1 (h2.mono hv hs) h3
 | val h1 h2 h3 h4=>exact .val h1 h2 (h3.mono hv hs) h4
theorem zS.mono (hv:vs <+: vs') (hs:∀v ∈ sc,v ∈ sc') {ps:List aJ} {l:List aF} (h:zS vs sc ps l):zS vs' sc' ps l:=⟨h.1,λi p x h1 h2=>(h.2 i p x h1 h2).mono hv hs⟩
theorem Is (a b:Int):Ai a b=0 ∨ 1<=Ai a b/\Ai a b<=3:=by
 unfold Ai
 repeat' split <;> omega
theorem TX.range (hv:∀v ∈ vs,sE v) {x:aF} (h:TX vs sc x):1<=x.cP/\x.cP<=3:=by
 induction h with
 | num=>exact ⟨by simp only;decide,by simp only;decide⟩
 | @var v u a h1 h2 h3=>
   have hm:u ∈ vs:=by
    unfold aS at h2
    split at h2
    ·exact zX h2
    ·cases h2
   have:=hv u hm;exact ⟨this.1,by have:=this.2.1;simp only;omega⟩
 | index _ _ _ _ _ _ _=>exact ⟨by simp only;decide,by simp only;decide⟩
 | un _ _ ih=>exact ih
 | @bin o x y t a _ _ hb ih1 ih2=>
   have:=Is x.cP y.cP;simp only
   rcases hb with ⟨_,_,_,h⟩ | ⟨_,_,_,h⟩ | ⟨_,h,_,h0⟩ | ⟨_,h0,h⟩ | ⟨_,h,h0⟩
   ·omega
   ·omega
   ·omega
   ·split at h <;> omega
   ·omega
 | @sel c x y a _ _ _ _ h _ _ _=>
   have:=Is x.cP y.cP;simp only;unfold HP
   split <;> omega
 | long _ _ _=>exact ⟨by simp only;decide,by simp only;decide⟩
 | wide _ _ _ _ _ _=>exact ⟨by simp only;decide,by simp only;decide⟩
 | half _ _ _ _=>exact ⟨by simp only;decide,by simp only;decide⟩
variable {sg sg':Hz} {res:Int} {l:Bool} {n n':Nat} {ss:List aA}
theorem TB.mono (hg:∀k r ps,sg k r ps->sg' k r ps) (hv:vs <+: vs') (h:TB sg vs res l n sc ss n' sc'):TB sg' vs' res l n sc ss n' sc':=by
 have hs:∀ {sc:List Int} v,v ∈ sc->v ∈ sc:=λ_ h=>h
 induction h with
 | nil=>exact .nil
 | let_ h1 h2 h3 h4 _ ih=>exact .let_ (h1.mono hv hs) h2 (Ga hv h3) h4 ih
 | var_ h1 h3 h4 _ ih=>exact .var_ (h1.mono hv hs) (Ga hv h3) h4 ih
 | arr h3 h4 _ ih=>exact .arr (Ga hv h3) h4 ih
 | callv h1 h2 h3 h4 h5 _ ih=>exact .callv (hg _ _ _ h1) (h2.mono hv hs) h3 (Ga hv h4) h5 ih
 | set h1 h2 h3 h4 h5 _ ih=>exact .set h1 (gN hv h2) h3 (h4.mono hv hs) h5 ih
 | calls h1 h2 h3 h4 h5 h6 _ ih=>exact .calls h1 (gN hv h2) h3 (hg _ _ _ h4) (h5.mono hv hs) h6 ih
 | put h1 h2 h3 h4 h5 h6 h7 h8 _ ih=>exact .put h1 (gN hv h2) h3 (h4.mono hv hs) h5 h6 (h7.mono hv hs) h8 ih
 | do_ h1 h2 _ ih=>exact .do_ (hg _ _ _ h1) (h2.mono hv hs) ih
 | if_ h1 h2 _ _ _ ih1 ih2 ih3=>exact .if_ (h1.mono hv hs) h2 ih1 ih2 ih3
 | for_ h1 h2 h3 h4 h5 h6 _ _ ih1 ih2=>exact .for_ (h1.mono hv hs) h2 (h3.mono hv hs) h4 (Ga hv h5) h6 ih1 ih2
 | ret h1 h2 h3=>exact .ret (h1.mono hv hs) h2 h3
 | retc h1 h2 h3=>exact .retc (hg _ _ _ h1) h2 (h3.mono hv hs)
theorem TB.app {n1:Nat} {sc1:List Int} {xs ys:List aA} {l0:Bool} (h:TB sg vs res l0 n sc xs n1 sc1) (h0:l0=false) (k:TB sg vs res l n1 sc1 ys n' sc'):TB sg vs res l n sc (xs++ys) n' sc':=by
 induction h with
 | nil=>exact k
 | let_ h1 h2 h3 h4 _ ih=>exact .let_ h1 h2 h3 h4 (ih h0 k)
 | var_ h1 h3 h4 _ ih=>exact .var_ h1 h3 h4 (ih h0 k)
 | arr h3 h4 _ ih=>exact .arr h3 h4 (ih h0 k)
 | callv h1 h2 h3 h4 h5 _ ih=>exact .callv h1 h2 h3 h4 h5 (ih h0 k)
 | set h1 h2 h3 h4 h5 _ ih=>exact .set h1 h2 h3 h4 h5 (ih h0 k)
 | calls h1 h2 h3 h4 h5 h6 _ ih=>exact .calls h1 h2 h3 h4 h5 h6 (ih h0 k)
 | put h1 h2 h3 h4 h5 h6 h7 h8 _ ih=>exact .put h1 h2 h3 h4 h5 h6 h7 h8 (ih h0 k)
 | do_ h1 h2 _ ih=>exact .do_ h1 h2 (ih h0 k)
 | if_ h1 h2 h3 h4 _ _ _ ih3=>exact .if_ h1 h2 h3 h4 (ih3 h0 k)
 | for_ h1 h2 h3 h4 h5 h6 h7 _ _ ih2=>exact .for_ h1 h2 h3 h4 h5 h6 h7 (ih2 h0 k)
 | ret h1 h2 h3=>cases h0
 | retc h1 h2 h3=>cases h0
end
def MN (w:aH) (b:Bool) (k a:Int):aH:=if b=true then w else if (w.e_ == (0:Int))=true then ⟨k,a⟩ else w
theorem oX {c:aG} {w:aH} {b:Bool} {k a:Int}:aT c w b k a=some (MN w b k a):=by
 unfold aT pG MN;cases b
 ·simp only [Bool.not_false,if_true,Bt,if_false]
  split <;> rfl
 ·simp
theorem gD {w:aH} {b:Bool} {k a:Int} (hk:k ≠ 0) (h:(MN w b k a).e_=0):w.e_=0/\b=true/\MN w b k a=w:=by
 unfold MN at h ⊢;cases b
 ·simp only [Bt,if_false] at h ⊢
  split at h
  ·exact dE h hk
  ·rename_i h2;simp at h2;exact dE h h2
 ·exact ⟨by simpa using h,rfl,zc⟩
theorem Ui {w:aH} {b:Bool} {k a:Int} (hk:k ≠ 0) (h:w.e_ ≠ 0):(MN w b k a).e_ ≠ 0:=λh2=>h (gD hk h2).1
def uB (c:aG):List aJ:=((c.p_.aU[c.f_.toNat]?).map aP.aO).getD []
structure CI (N B:Nat) (c:aG):Prop where
 nf:c.p_.aU.length=N
 nN:N<=16384
 f0:0<=c.f_
 f1:c.f_<N
 a0:0<=c.fU
 a1:c.fU<N
 sc:∀v ∈ c.bI,0<=v/\v<(uB c).length
 sl:c.bI.length<=(uB c).length
 vl:∀f ∈ c.p_.aU,f.aO.length<=250/\0<=f.aQ/\f.aQ<=f.aO.length
 nc:c.cJ.length=N
 cl:∀l ∈ c.cJ,l.length<=B/\∀k ∈ l,0<=k/\k<N
 ki:∀f ∈ c.p_.aU,(∀v ∈ f.aO,sE v)/\(f.bV=0 ∨ f.bV=2 ∨ f.bV=3)
section
variable {N B n:Nat} {c:aG} {w:aH} {s:cQ}
theorem CI.cur (h:CI N B c):∃f,c.p_.aU[c.f_.toNat]? = some f/\f ∈ c.p_.aU/\uB c=f.aO/\aS c.p_.aU c.f_=some f:=by
 have hl:c.f_.toNat<c.p_.aU.length:=by have:=h.nf;have:=h.f0;have:=h.f1;omega
 refine ⟨c.p_.aU[c.f_.toNat],tS hl,Oo _,?_,?_⟩
 ·unfold uB;rw [tS hl];rfl
 ·unfold aS;rw [cG h.f0,tS hl]
theorem CI.vs (h:CI N B c):(uB c).length<=250:=by
 obtain ⟨f,_,hm,e,_⟩:=h.cur;rw [e];exact (h.vl f hm).1
theorem oN {α:Type} {l:List α} {i:Int} (h0:0<=i) (h1:i<l.length):∃x,aS l i=some x/\l[i.toNat]? = some x/\x ∈ l:=by
 have hl:i.toNat<l.length:=za
 exact ⟨l[i.toNat],by unfold aS;rw [cG h0,tS hl],tS hl,Oo _⟩
theorem find_l1 (h:CI N B c):∀(k:Nat) (v:Int),v<k->-1<=v->v<c.bI.length->∃r,kR c s (k+1) v=some r/\(r=.inl () ∨ ∃i x,r=.inr i/\i ∈ c.bI/\(uB c)[i.toNat]? = some x/\x.gS=s):=by
 obtain ⟨f,hf,hm,hv,hfi⟩:=h.cur;intro k
 induction k with
 | zero=>
   intro v h1 h2 h3;have:v=-1:=za
   subst this;exact ⟨_,rfl,.inl rfl⟩
 | succ k ih=>
   intro v h1 h2 h3;unfold kR
   by_cases h0:0<=v
   ·rw [cG (vO h0),hfi];obtain ⟨i,e1,_,hi⟩:=oN h0 h3;obtain ⟨g0,g1⟩:=h.sc i hi;rw [hv] at g1;obtain ⟨x,e2,e3,_⟩:=oN g0 g1;simp only [nA,e1,e2]
    by_cases hn:x.gS=s
    ·rw [cG (vO hn)];exact ⟨_,rfl,.inr ⟨i,x,rfl,hi,by rw [hv];exact e3,hn⟩⟩
    ·rw [bU (by simpa using hn)];have hl:c.bI.length<=250:=KP h.sl h.vs;rw [fD za za];exact ih (v - 1) za za za
   ·rw [bU (by simpa using h0)];exact ⟨_,rfl,.inl rfl⟩
theorem NN (h:CI N B c) (hn:300<n):aW (lC n c w s) λr=>r=-1 ∨ ∃x,r ∈ c.bI/\(uB c)[r.toNat]? = some x/\x.gS=s:=by
 have hl:c.bI.length<=250:=KP h.sl h.vs;unfold lC;obtain ⟨m,rfl⟩:∃m,n=m+1:=⟨n - 1,za⟩;rw [fD za za];obtain ⟨r,e,hr⟩:=find_l1 (s:=s) h m ((c.bI.length:Int) - 1) za za za;rw [e]
 rcases hr with rfl | ⟨i,x,rfl,h1,h2,h3⟩
 ·exact ⟨_,rfl,.inl rfl⟩
 ·exact ⟨_,rfl,.inr ⟨x,h1,h2,h3⟩⟩
theorem DA (h:CI N B c) (hn:300<n) {x:Nd}:aW (iB n c w x) λr=>(r.1=-1 ∨ 0<=r.1/\r.1<(uB c).length)/\(w.e_ ≠ 0->r.2.e_ ≠ 0)/\(r.2.e_=0->r.2=w/\∃v,r.1 ∈ c.bI/\0<=r.1/\(uB c)[r.1.toNat]? = some v/\v.gS=x.dL):=by
 unfold iB;refine (NN (w:=w) (s:=x.dL) h hn).bind λv hv=>?_;rw [oX];refine .some ⟨?_,Ui zb,λhe=>?_⟩
 ·rcases hv with rfl | ⟨y,h1,_,_⟩
  ·exact .inl rfl
  ·exact .inr (h.sc _ h1)
 ·obtain ⟨_,k2,k3⟩:=gD zb he;have hv0:0<=v:=EG k2
  rcases hv with rfl | ⟨y,h1,h2,h3⟩
  ·exact dE hv0 zb
  ·exact ⟨k3,y,h1,hv0,h2,h3⟩
theorem Bh (h:CI N B c) {v:Int} (hv:v=-1 ∨ 0<=v/\v<(uB c).length):aW (fO c w v) λk=>v=-1/\k=0 ∨ 0<=v/\∃x,(uB c)[v.toNat]? = some x/\k=x.bF:=by
 unfold fO
 rcases hv with rfl | ⟨h0,h1⟩
 ·exact .some (.inl ⟨rfl,rfl⟩)
 ·rw [bU (by simp;omega)];obtain ⟨f,_,_,hvs,hfi⟩:=h.cur;rw [hfi];rw [hvs] at h1 ⊢;obtain ⟨x,e1,e2,_⟩:=oN h0 h1;simp only [nA,e1];exact .some (.inr ⟨h0,x,e2,rfl⟩)
def Rm (f:aP):aP:={ f with aO:=[],bR:=[] }
structure Kp (c c':aG):Prop where
 f:c'.f_=c.f_
 a:c'.fU=c.fU
 s:c.bI <+: c'.bI
 v:uB c <+: uB c'
 o:∀i,i ≠ c.f_.toNat->c'.p_.aU[i]? = c.p_.aU[i]?
 g:c'.p_.aU.map Rm=c.p_.aU.map Rm
 k:∀j:Nat,j ≠ c.fU.toNat->c'.cJ[j]? = c.cJ[j]?
 l:∀l,aS c.cJ c.fU=some l->∃l',aS c'.cJ c.fU=some l'/\l <+: l'
theorem Kp.refl (c:aG):Kp c c:=⟨rfl,rfl,Ig _,Ig _,λ_ _=>rfl,rfl,λ_ _=>rfl,λl e=>⟨l,e,Ig _⟩⟩
theorem Kp.trans {c1 c2 c3:aG} (h:Kp c1 c2) (k:Kp c2 c3):Kp c1 c3:=⟨k.f.trans h.f,k.a.trans h.a,h.s.trans k.s,h.v.trans k.v,λi hi=>(k.o i (by rw [h.f];exact hi)).trans (h.o i hi),k.g.trans h.g,λj hj=>(k.k j (by rw [h.a];exact hj)).trans (h.k j hj),λl e=>by
 obtain ⟨l1,e1,p1⟩:=h.l l e;obtain ⟨l2,e2,p2⟩:=k.l l1 (by rw [h.a];exact e1);exact ⟨l2,by rw [←h.a];exact e2,p1.trans p2⟩⟩
theorem uH (h:CI N B c) (hn:300<n) {x:aJ} {a:Int} (hx:w.e_=0->sE x):aW (eU n c w x a) λr=>CI N B r.2.1/\Kp c r.2.1/\r.2.1.cJ=c.cJ/\(w.e_ ≠ 0->r.2.2.e_ ≠ 0)/\(r.2.2.e_=0->r.2.2=w/\r.1=(uB c).length/\uB r.2.1=uB c++[x]/\r.2.1.bI=c.bI++[((uB c).length:Int)])/\(r.1=-1 ∨ 0<=r.1/\r.1<(uB r.2.1).length):=by
 unfold eU;refine (NN (w:=w) (s:=x.gS) h hn).bind λv hv=>?_;obtain ⟨f,hf,hm,hvs,hfi⟩:=h.cur;rw [oX,hfi];simp only [nA,oX];refine aW.iteb (λhe=>?_) λhe=>?_
 ·simp only [bne_iff_ne] at he;exact .some ⟨h,.refl c,rfl,λ_=>he,λh2=>dE h2 he,.inl rfl⟩
 ·simp only [bne_eq_false_iff_eq] at he;obtain ⟨k1,k2,k3⟩:=gD zb he;obtain ⟨j1,j2,j3⟩:=gD zb k1;have hlt:(f.aO.length:Int)<250:=EG k2;have hsl:=h.sl;rw [hvs] at hsl;refine aW.need za (aW.need za ?_);have hl:c.f_.toNat<c.p_.aU.length:=by have:=h.nf;have:=h.f0;have:=h.f1;omega
  have hv2:uB { c with p_:=⟨c.p_.aU.set c.f_.toNat { f with aO:=f.aO++[x] }⟩,bI:=c.bI++[(f.aO.length:Int)] }=f.aO++[x]:=by
   unfold uB;simp only;rw [Ki hl];rfl
  refine .some ⟨⟨by simp only [yS];exact h.nf,h.nN,h.f0,h.f1,h.a0,h.a1,?_,?_,?_,h.nc,h.cl,?_⟩,⟨rfl,rfl,GR _ _,?_,λi hi=>?_,?_,λ_ _=>rfl,λl e=>⟨l,e,Ig _⟩⟩,rfl,λhw=>dE j1 hw,λ_=>⟨by rw [k3,j3],by rw [hvs],by rw [hv2,hvs],by rw [hvs]⟩,.inr ⟨za,?_⟩⟩
  ·intro u hu;rw [hv2]
   rcases BV.1 hu with hu | hu
   ·have:=h.sc u hu;rw [hvs] at this;simp only [nB,tF];omega
   ·obtain rfl:=zA.1 hu;simp only [nB,tF];omega
  ·rw [hv2];simp only [nB,tF];omega
  ·intro g hg
   rcases KM hg with hg | rfl
   ·exact h.vl g hg
   ·have:=h.vl f hm;simp only [nB,tF];omega
  ·intro g hg
   rcases KM hg with hg | rfl
   ·exact h.ki g hg
   ·refine ⟨λv hv=>?_,(h.ki f hm).2⟩
    rcases BV.1 hv with hv | hv
    ·exact (h.ki f hm).1 v hv
    ·obtain rfl:=zA.1 hv;exact hx j1
  ·rw [hv2,hvs];exact GR _ _
  ·exact MM (Ne.symm hi)
  ·show List.map Rm (c.p_.aU.set c.f_.toNat _)=_;rw [xdz];refine OA λi=>?_
   by_cases e:c.f_.toNat=i
   ·subst e;rw [Ki (by rw [wM];exact hl),AJ,hf];rfl
   ·rw [MM e]
  ·rw [hv2];simp only [nB,tF];omega
def sgC (c:aG):Hz:=λk r ps=>(∃l,aS c.cJ c.fU=some l/\k ∈ l)/\∃f,aS c.p_.aU k=some f/\r=f.bV/\ps=f.aO.take f.aQ.toNat
theorem Kp.fn {c':aG} (h:CI N B c) (k:Kp c c') {i:Int} {f:aP} (e:aS c.p_.aU i=some f):∃f',aS c'.p_.aU i=some f'/\f'.gS=f.gS/\f'.eC=f.eC/\f'.bV=f.bV/\f'.aQ=f.aQ/\f.aO <+: f'.aO/\(i ≠ c.f_->f'=f):=by
 unfold aS at e ⊢
 split at e
 ·rename_i h0;rw [cG h0]
  by_cases hi:i=c.f_
  ·subst hi;obtain ⟨f2,e2,hm2,hv2,_⟩:=h.cur;rw [e] at e2;cases e2
   have hlen:c.p_.aU.length=c'.p_.aU.length:=by simpa using (vJ List.length k.g).symm
   have hlt:=(sG.1 e).1;have e3:c'.p_.aU[c.f_.toNat]? = some (c'.p_.aU[c.f_.toNat]'(by omega)):=tS _
   have hs:Rm (c'.p_.aU[c.f_.toNat]'(by omega))=Rm f:=by
    have:=vJ (λl=>l[c.f_.toNat]?) k.g;simp only [AJ,e3,e,FI,Option.some.injEq] at this;exact this
   have hv:uB c'=(c'.p_.aU[c.f_.toNat]'(by omega)).aO:=by
    unfold uB;rw [k.f,e3];rfl
   have hp:=k.v;rw [hv2,hv] at hp;simp only [Rm,aP.mk.injEq] at hs;exact ⟨_,e3,hs.1,hs.2.1,hs.2.2.1,hs.2.2.2.1,hp,λh=>dE rfl h⟩
  ·refine ⟨f,?_,rfl,rfl,rfl,rfl,Ig _,λ_=>rfl⟩;rw [k.o _ (by have:=h.f0;omega)];exact e
 ·cases e
def Mb (c:aG):Int:=((c.p_.aU[c.f_.toNat]?).map aP.bV).getD 0
theorem CI.res (h:CI N B c) {f:aP} (e:aS c.p_.aU c.f_=some f):Mb c=f.bV:=by
 unfold aS at e;rw [cG h.f0] at e;unfold Mb;rw [e];rfl
theorem Kp.res {c':aG} (h:CI N B c) (k:Kp c c'):Mb c'=Mb c:=by
 obtain ⟨f,_,_,_,e⟩:=h.cur;obtain ⟨f',e',_,_,hr,_⟩:=k.fn h e;rw [h.res e,←hr];unfold aS at e';rw [cG h.f0] at e';unfold Mb;rw [k.f,e'];rfl
theorem CI.vsOk (h:CI N B c):∀v ∈ uB c,sE v:=by
 obtain ⟨f,_,hm,e,_⟩:=h.cur;rw [e];exact (h.ki f hm).1
theorem Jj {α:Type} {l l':List α} (h:l <+: l') {n:Nat} (hn:n<=l.length):l'.take n=l.take n:=by
 obtain ⟨r,rfl⟩:=h;exact List.take_append_of_le_length hn
theorem Kp.sg {c':aG} (h:CI N B c) (k:Kp c c') {i r:Int} {ps:List aJ} (e:sgC c i r ps):sgC c' i r ps:=by
 obtain ⟨⟨l,e1,hl⟩,f,e2,rfl,rfl⟩:=e;obtain ⟨l',e3,hp⟩:=k.l l e1;obtain ⟨f',e4,_,_,hr,hps,hv,_⟩:=k.fn h e2
 have hm:f ∈ c.p_.aU:=by
  unfold aS at e2
  split at e2
  ·exact zX e2
  ·cases e2
 have:=h.vl f hm;refine ⟨⟨l',by rw [k.a];exact e3,hp.subset hl⟩,f',e4,hr.symm,?_⟩;rw [hps,Jj hv za]
end
def Ta (c:aG) (w:aH) (x:aB) (r:aF × aH):Prop:=r.2.e_=0->r.2=w/\TX (uB c) c.bI r.1/\(xz r.1:Int)<=sz x
def WK (w w':aH):Prop:=w'.e_=0->w'=w
theorem WK.refl (w:aH):WK w w:=λ_=>rfl
theorem WK.trans {a b c:aH} (h:WK a b) (k:WK b c):WK a c:=λe=>by
 have h2:=k e;subst h2;exact h e
theorem WK.nd {w:aH} {b:Bool} {k a:Int} (hk:k ≠ 0:=by decide):WK w (MN w b k a):=λe=>(gD hk e).2.2
theorem JK {a b:Int}:aW (tC a b) λr=>r=Ai a b:=by
 unfold tC Ai;simp only [beq_iff_eq,GC]
 repeat' split
 all_goals first | exact .some za | (simp only [nA,GC,beq_iff_eq,Bt,if_false,if_true];repeat' split) 
 all_goals first | exact .some za | (exfalso;omega)
theorem DR {a:Int}:aW (qQ a) λr=>r=true->ScT a:=by
 unfold qQ;refine aW.bind (P:=λr=>r=true->ScT a) (aW.iteb (λh=>.some λ_=>.inl (by simpa using h)) λ_=>.some λh=>.inr (by simpa using h)) λb h=>.some h
theorem Jo {a:Int}:aW (tA a) λr=>r=HP a:=by
 unfold tA HP;simp only [beq_iff_eq]
 split <;> exact .some rfl
theorem Hr {a b:Int}:aW (tD a b) λr=>r=true->Kh a b:=by
 unfold tD;refine aW.bind (P:=λr=>r=true->Kh a b) (aW.iteb (λh=>.some λ_=>.inl (by simpa using h)) λ_=>aW.iteb (λh=>.some λh2=>.inr ⟨by simpa using h,by simpa using h2⟩) λ_=>.some λh=>nomatch h) λb h=>.some h
theorem KW {a:Int}:aW (wH a) λr=>r=true->yR a:=by
 unfold wH yR;refine aW.bind (P:=λr=>r=true->yR a) ?_ λb h=>.some h;unfold yR;simp only [GC]
 have ht:∀ {b:Bool},255<a->a<=1024->b=(a.tmod 4 == 0)->aW (some b) λr=>r=true->(1<=a/\a<=255 ∨ 255<a/\a<=1024/\a % 4=0):=λh1 h2 h3=>.some λh=>.inr ⟨h1,h2,by
  rw [h3,beq_iff_eq,Int.tmod_eq_emod_of_nonneg za] at h;exact h⟩
 repeat' split
 all_goals first | exact .some λh=>Bool.noConfusion h | exact .some λ_=>.inl ⟨‹_›,‹_›⟩ | exact ht za za rfl
section
variable {N B n:Nat} {c:aG} {w:aH}
theorem vW {x:aF} {k:Int}:aW (cR c w x k) λr=>WK w r.2/\r.1={ x with cP:=k }/\(r.2.e_=0->k ≠ 0):=by
 unfold cR;rw [oX];refine .some ⟨.nd,rfl,λe=>?_⟩;have:=(gD zb e).2.1;simpa using this
theorem Ro {x y z:aF}:aW (iL c w x y z) λr=>WK w r.2/\r.1={ x with cP:=y.cP }/\(r.2.e_=0->z.cP=1/\(y.cP=3->z.eG=[110,117,109]/\z.N_<=63)/\y.cP ≠ 0):=by
 unfold iL;rw [oX];simp only [nA];refine aW.iteb (λh3=>?_) (λh3=>?_)
 ·refine aW.bind (P:=λw'=>WK w w'/\(w'.e_=0->z.cP=1/\z.eG=[110,117,109]/\z.N_<=63)) ?_ λw' hw=>?_
  ·refine aW.iteb (λho=>?_) (λ_=>?_)
   ·rw [oX];refine .some ⟨(WK.nd).trans WK.nd,λe=>?_⟩;obtain ⟨k1,k2,_⟩:=gD zb e;obtain ⟨_,j2,_⟩:=gD zb k1;exact ⟨by simpa using j2,by simpa using ho,by simpa using k2⟩
   ·rw [oX];exact .some ⟨(WK.nd).trans WK.nd,λe=>by have:=(gD zb e).2.1;cases this⟩
  ·refine (vW (c:=c)).bind λr hr=>.some ⟨hw.1.trans hr.1,hr.2.1,λe=>?_⟩;obtain ⟨q1,q2⟩:=hw.2 (by rw [←hr.1 e];exact e);exact ⟨q1,λ_=>q2,hr.2.2 e⟩
 ·refine (vW (c:=c)).bind λr hr=>.some ⟨(WK.nd).trans hr.1,hr.2.1,λe=>?_⟩;obtain ⟨_,j2,_⟩:=gD (k:=133) zb (by rw [←hr.1 e];exact e);exact ⟨by simpa using j2,λh=>dE h (by simpa using h3),hr.2.2 e⟩
theorem Py {x:aF} {x0 x1 x2:aF} (h:x.aM=[x0,x1,x2]):aW (lJ c w x) λk=>k ≠ 0->ScT x0.cP/\Ai x1.cP x2.cP ≠ 0/\k=HP (Ai x1.cP x2.cP):=by
 unfold lJ;rw [h];refine aW.eqn (v:=x1) rfl (aW.eqn (v:=x2) rfl (JK.bind λk hk=>?_));refine aW.bind (P:=λb=>b=false->ScT x0.cP/\k ≠ 0) ?_ λb hb=>?_
 ·refine aW.eqn (v:=x0) rfl (DR.bind λb hb=>aW.iteb (λ_=>.some λh=>nomatch h) λh=>.some λh2=>⟨hb (by simpa using h),by simpa using h2⟩)
 ·refine aW.iteb (λ_=>.some λh=>dE rfl h) (λh=>?_);exact Jo.bind λr hr=>.some λ_=>⟨(hb h).1,hk ▸ (hb h).2,hk ▸ hr⟩
theorem DD {s:cQ} {k:Nat} {i:Int} {x:bK} (h:i<5) (e:aS dD i=some x):vI s (k+1) i=if x.Qj=s then some (.inr x.QK) else vI s k (i64.wrap (i+1)):=by
 rw [vI,cG (vO h),e];simp only [nA,GC]
theorem Ia {s:cQ} (hn:6<n):aW (uJ n s) λv=>0<=v/\v<=3/\(s=[115,101,108,101,99,116]->v=3)/\(s=[119,105,100,101]->v=2)/\(0<v->s=[115,101,108,101,99,116] ∨ s=[108,111,110,103]/\v=1 ∨ s=[108,111]/\v=1 ∨ s=[104,105]/\v=1 ∨ s=[119,105,100,101]):=by
 obtain ⟨m,rfl⟩:∃m,n=m+6:=⟨n - 6,za⟩;unfold uJ;rw [DD (i:=0) (x:=bK.mk [115,101,108,101,99,116] 3) zb rfl]
 split
 ·rename_i h;subst h;exact .some ⟨zb,zb,λ_=>rfl,λh=>dE h zb,λ_=>.inl rfl⟩
 rename_i h0;rw [show i64.wrap (0+1)=1 from by decide,DD (i:=1) (x:=bK.mk [108,111,110,103] 1) zb rfl]
 split
 ·rename_i h;subst h;exact .some ⟨zb,zb,λh=>dE h zb,λh=>dE h zb,λ_=>.inr (.inl ⟨rfl,rfl⟩)⟩
 rw [show i64.wrap (1+1)=2 from by decide,DD (i:=2) (x:=bK.mk [108,111] 1) zb rfl]
 split
 ·rename_i h;subst h;exact .some ⟨zb,zb,λh=>dE h zb,λh=>dE h zb,λ_=>.inr (.inr (.inl ⟨rfl,rfl⟩))⟩
 rw [show i64.wrap (2+1)=3 from by decide,DD (i:=3) (x:=bK.mk [104,105] 1) zb rfl]
 split
 ·rename_i h;subst h;exact .some ⟨zb,zb,λh=>dE h zb,λh=>dE h zb,λ_=>.inr (.inr (.inr (.inl ⟨rfl,rfl⟩)))⟩
 rw [show i64.wrap (3+1)=4 from by decide,DD (i:=4) (x:=bK.mk [119,105,100,101] 2) zb rfl]
 split
 ·rename_i h;subst h;exact .some ⟨zb,zb,λh=>dE h zb,λ_=>rfl,λ_=>.inr (.inr (.inr (.inr rfl)))⟩
 rename_i h4;rw [show i64.wrap (4+1)=5 from by decide];exact .some ⟨zb,zb,λh=>dE h.symm h0,λh=>dE h.symm h4,λh=>dE h zb⟩
end
def VD (N B n:Nat) (f:aG->aH->aB->Option (aF × aH)):Prop:=∀c w x,CI N B c->WE x->sz x<=20000->3*sz x+301<=n->aW (f c w x) (Ta c w x)
def IM (N B n:Nat) (K:Int) (f:aG->aH->aB->aF->Option (aF × aH)):Prop:=∀c w x y,CI N B c->WE x->x.bF=K->sz x<=20000->3*sz x+300<=n->(∃a,y=⟨[],0,0,-1,[],a⟩)->aW (f c w x y) (Ta c w x)
def VE (N B n:Nat) (f:aG->aH->(List aB)->Option ((List aF) × aH)):Prop:=∀c w xs,CI N B c->(∀x ∈ xs,WE x)->vK xs<=20000->3*vK xs+302<=n->aW (f c w xs) λr=>WK w r.2/\r.1.length=xs.length/\(r.2.e_=0->∀y ∈ r.1,TX (uB c) c.bI y)/\(r.2.e_=0->(oY r.1:Int)<=vK xs)
section
variable {N B n:Nat} {c:aG} {w:aH}
theorem call_l1 {m:Nat} {xs:List Nd} {fe:aG->aH->aB->Option (aF × aH)} (hf:VD N B m fe) (h:CI N B c) (hx:∀x ∈ xs,WE x) (hs:vK xs<=20000) (hm:3*vK xs+301<=m) :
  ∀(k v:Nat) (ys:List aF) (w:aH),xs.length<v+k->v<=xs.length->ys.length=v->(w.e_=0->∀y ∈ ys,TX (uB c) c.bI y)->aW (qN fe xs c k ys (v:Int) w) λr=>WK w r.2/\r.1.length=xs.length/\(r.2.e_=0->∀y ∈ r.1,TX (uB c) c.bI y)/\(r.2.e_=0->(oY r.1:Int)<=oY ys+vK (xs.drop v)):=by
 intro k
 induction k with
 | zero=>intro v ys w h1 h2 h3;omega
 | succ k ih=>
   intro v ys w h1 h2 h3 h4;unfold qN;have hg:=pD xs
   by_cases hv:v<xs.length
   ·rw [cG (vO za)];obtain ⟨x,e,ex,hxm⟩:=oN (l:=xs) (i:=(v:Int)) za za
    have hd:xs.drop v=x::xs.drop (v+1):=by
     rw [wR] at ex;obtain ⟨hlt,rfl⟩:=sG.1 ex;exact On hlt
    rw [e];simp only [nA];have hsz:=Jk hxm;refine (hf c w x h (hx x hxm) za za).bind λr hr=>aW.need (by simp only [tF];omega) ?_;rw [fD za za,show ((v:Int)+1)=((v+1:Nat):Int) by omega];refine (ih (v+1) _ _ za za (by simp only [nB,tF];omega) λe y hy=>?_).mono λq hq=>⟨WK.trans (λe=>(hr e).1) hq.1,hq.2.1,hq.2.2.1,λe=>?_⟩
    ·rcases BV.1 hy with hy | hy
     ·exact h4 (by rw [←(hr e).1];exact e) y hy
     ·obtain rfl:=zA.1 hy;exact (hr e).2.1
    ·have h5:=hq.2.2.2 e;have h6:=(hr (by rw [←hq.1 e];exact e)).2.2;rw [LC,oY,oY] at h5;rw [hd,uV];omega
   ·rw [bU (by simp;omega)];exact .some ⟨.refl _,by rw [h3];omega,h4,λ_=>by have:=pD (xs.drop v);simp only;omega⟩
theorem call_b {fe:aG->aH->aB->Option (aF × aH)} (hf:VD N B n fe):VE N B (n+1) (oT fe n):=by
 intro c w xs h hx hs hn;unfold oT;have hg:=pD xs;exact (call_l1 hf h hx hs za n 0 [] w za za rfl λ_ y hy=>nomatch hy).bind λr hr=>.some ⟨hr.1,hr.2.1,hr.2.2.1,λe=>by have:=hr.2.2.2 e;rw [oY,sR] at this;simp only;omega⟩
theorem cexpr_b {f1 f2 f3 f4:aG->aH->aB->aF->Option (aF × aH)} (h1:IM N B n 16 f1) (h2:IM N B n 18 f2) (h3:IM N B n 19 f3) (h4:IM N B n 17 f4):VD N B (n+1) (nV f1 f2 f3 f4 n):=by
 intro c w x h hx hs hn;have hp:=rH x;unfold nV;cases hx with
 | num n1 n2=>exact .some λ_=>⟨rfl,.num n1 n2,by rw [yZ,oY,iN,oF];omega⟩
 | ref=>
   simp only [Int.reduceBEq,Bt,if_false,if_true];refine (DA (w:=w) h za).bind λr hr=>?_;refine (Bh (w:=r.2) h hr.1).bind λk hk=>?_;rw [oX];refine .some λe=>?_;obtain ⟨k1,k2,k3⟩:=gD (k:=132) zb e;obtain ⟨j1,u,j2,j3,j4,j5⟩:=hr.2.2 k1;refine ⟨k3.trans j1,?_,by rw [yZ,oY,iN,oF];omega⟩
   rcases hk with ⟨hm,_⟩ | ⟨_,u2,hk2,rfl⟩
   ·omega
   ·exact .var j2 (by unfold aS;rw [cG j3];exact hk2) (by simpa using k2)
 | index hy=>
   simp only [Int.reduceBEq,Bt,if_false,if_true];exact (h1 c w _ _ h (.index hy) rfl hs za ⟨_,rfl⟩).bind λr hr=>.some hr
 | un hu hy=>
   simp only [Int.reduceBEq,Bt,if_false,if_true];exact (h2 c w _ _ h (.un hu hy) rfl hs za ⟨_,rfl⟩).bind λr hr=>.some hr
 | bin hl hy hz=>
   simp only [Int.reduceBEq,Bt,if_false,if_true];exact (h3 c w _ _ h (.bin hl hy hz) rfl hs za ⟨_,rfl⟩).bind λr hr=>.some hr
 | call hy=>
   simp only [Int.reduceBEq,Bt,if_false];exact (h4 c w _ _ h (.call hy) rfl hs za ⟨_,rfl⟩).bind λr hr=>.some hr
theorem WE.inv16 {x:Nd} (h:WE x) (k:x.bF=16):∃a s y,x=⟨16,a,s,0,[y]⟩/\WE y:=by
 cases h <;> first | exact ⟨_,_,_,rfl,‹_›⟩ | (simp at k)
theorem WE.inv18 {x:Nd} (h:WE x) (k:x.bF=18):∃a s y,x=⟨18,a,s,0,[y]⟩/\WE y:=by
 cases h <;> first | exact ⟨_,_,_,rfl,‹_›⟩ | (simp at k)
theorem WE.inv19 {x:Nd} (h:WE x) (k:x.bF=19):∃a s y z,x=⟨19,a,s,0,[y,z]⟩/\WE y/\WE z/\s ∈ DN:=by
 cases h <;> first | exact ⟨_,_,_,_,rfl,‹_›,‹_›,‹_›⟩ | (simp at k)
theorem WE.inv17 {x:Nd} (h:WE x) (k:x.bF=17):∃a s xs,x=⟨17,a,s,0,xs⟩/\∀y ∈ xs,WE y:=by
 cases h <;> first | exact ⟨_,_,_,rfl,‹_›⟩ | (simp at k)
theorem cload_b {fe:aG->aH->aB->Option (aF × aH)} (hf:VD N B n fe):IM N B (n+1) 16 (nU fe n):=by
 rintro c w x y h hx hk hs hn ⟨ya,rfl⟩;obtain ⟨a,s,z,rfl,hz⟩:=hx.inv16 hk;rw [iN,sT] at hs hn;have hzp:=rH z;unfold nU;refine aW.eqn (v:=z) rfl ?_;refine (hf c w z h hz za za).bind λr hr=>?_;refine (DA (w:=r.2) h za).bind λv hv=>?_;refine (Bh (w:=v.2) h hv.1).bind λk hk=>?_;simp only [oX,nA]
 have key:∀ {w2:aH},WK (MN (MN v.2 (k == 4) 132 a) (r.1.cP == 1) 133 r.1.fV) w2->w2.e_=0->w2=w/\(TX (uB c) c.bI r.1/\(xz r.1:Int)<=sz z)/\r.1.cP=1/\∃u,v.1 ∈ c.bI/\aS (uB c) v.1=some u/\u.bF=4:=by
  intro w2 hw2 e;have e2:=hw2 e;subst e2;obtain ⟨k1,k2,k3⟩:=gD (k:=133) zb e;obtain ⟨j1,j2,j3⟩:=gD (k:=132) zb k1;obtain ⟨i1,u,i2,i3,i4,i5⟩:=hv.2.2 j1;obtain ⟨l1,l2⟩:=hr (by rw [←i1];exact j1);refine ⟨by rw [k3,j3,i1,l1],l2,by simpa using k2,u,i2,by unfold aS;rw [cG i3];exact i4,?_⟩
  rcases hk with ⟨hm,_⟩ | ⟨_,u2,hk2,rfl⟩
  ·omega
  ·rw [i4] at hk2;cases hk2;simpa using j2
 refine aW.bind' (aW.iteb (λhe=>.some ?_) (λhe=>.some ?_))
 ·refine aW.iteb (λho=>?_) (λho=>.some λe=>?_)
  ·have he2:=(gD (k:=132) zb (gD (k:=133) zb (by simpa using he)).1).1;obtain ⟨_,u,h1,h2,h3,h4⟩:=hv.2.2 he2;obtain ⟨f,_,hm,hvs,hfi⟩:=h.cur;rw [hfi];have hlt:=h.sc _ h1;rw [hvs] at hlt;obtain ⟨u2,e2,_,_⟩:=oN hlt.1 hlt.2;simp only [nA,e2];refine .some λe=>?_;obtain ⟨g1,g2,g3,u3,g4,g5,g6⟩:=key WK.nd e;rw [hvs,e2] at g5;cases g5
   exact ⟨g1,.index g4 (by rw [hvs];exact e2) g6 g2.1 g3 λ_=>(by simpa using (gD (k:=137) zb e).2.1),by rw [yZ,oY,oY,iN,sT];have:=g2.2;omega⟩
  ·obtain ⟨g1,g2,g3,u3,g4,g5,g6⟩:=key (.refl _) e;exact ⟨g1,.index g4 g5 g6 g2.1 g3 λh=>dE h (by simpa using ho),by rw [yZ,oY,oY,iN,sT];have:=g2.2;omega⟩
 ·refine aW.iteb (λh=>nomatch h) (λ_=>.some λe=>?_);exact dE e (by simpa using he)
theorem Ut {α:Type} {l:List α} (h:l.length=1):∃x,l=[x]:=by
 match l,h with
 | [x],_=>exact ⟨x,rfl⟩
theorem list2 {α:Type} {l:List α} (h:l.length=2):∃x y,l=[x,y]:=by
 match l,h with
 | [x,y],_=>exact ⟨x,y,rfl⟩
theorem list3 {α:Type} {l:List α} (h:l.length=3):∃x y z,l=[x,y,z]:=by
 match l,h with
 | [x,y,z],_=>exact ⟨x,y,z,rfl⟩
theorem UQ {fa:aG->aH->(List aB)->Option ((List aF) × aH)} (hf:VE N B n fa):IM N B (n+1) 18 (mV fa n):=by
 rintro c w x y h hx hk hs hn ⟨ya,rfl⟩;obtain ⟨a,s,z,rfl,hz⟩:=hx.inv18 hk;rw [iN] at hs hn;unfold mV;refine (hf c w [z] h (λu hu=>by obtain rfl:=zA.1 hu;exact hz) za za).bind λr hr=>?_;obtain ⟨h1,h2,h3,h5⟩:=hr;obtain ⟨u,hu⟩:=Ut h2;rw [hu] at h3 h5 ⊢;refine aW.iteb (λ_=>aW.eqn (v:=u) rfl (.some λe=>⟨h1 e,.un (.inr rfl) (h3 e u Ul),by rw [yZ,iN];have:=h5 e;simp only;omega⟩)) (λ_=>aW.eqn (v:=u) rfl (.some λe=>⟨h1 e,.un (.inl rfl) (h3 e u Ul),by rw [yZ,iN];have:=h5 e;simp only;omega⟩))
theorem So {fa:aG->aH->(List aB)->Option ((List aF) × aH)} (hf:VE N B n fa):IM N B (n+1) 19 (mJ fa n):=by
 rintro c w x y h hx hk hs hn ⟨ya,rfl⟩;obtain ⟨a,s,z,z2,rfl,hz,hz2,hsg⟩:=hx.inv19 hk;rw [iN] at hs hn;unfold mJ;refine (hf c w [z,z2] h (λu hu=>by rcases Cj.1 hu with rfl | hu;exact hz;obtain rfl:=zA.1 hu;exact hz2) za za).bind λr hr=>?_;obtain ⟨h1,h2,h3,h5⟩:=hr;obtain ⟨u,u2,hu⟩:=list2 h2;rw [hu] at h3 h5 ⊢;refine aW.eqn (v:=u) rfl (aW.eqn (v:=u2) rfl (JK.bind λk hk=>?_));subst hk;simp only [oX,nA]
 have fin:∀ {o:cQ} {t:Int} {w2:aH},WK r.2 w2->(w2.e_=0->SO o u u2 t)->Ta c w ⟨19,a,s,0,[z,z2]⟩ (⟨o,t,0,-1,[u,u2],ya⟩,w2):=λhw hb e=>by
  have e1:r.2.e_=0:=by rw [←hw e];exact e
  exact ⟨(hw e).trans (h1 e1),.bin (h3 e1 u zc) (h3 e1 u2 zc) (hb e),by rw [yZ,iN];have:=h5 e1;simp only;omega⟩
 have div:∀ {o:cQ},(o=[47] ∨ o=[37])->aW ((cR c (MN (MN r.2 (u.cP == 1) 133 u.fV) (u2.cP == 1) 133 u2.fV) ⟨o,0,0,-1,[u,u2],ya⟩ 1).bind λx=>some (x.1,x.2)) (Ta c w ⟨19,a,s,0,[z,z2]⟩):=λho=>
  (vW (c:=c)).bind λr2 hr2=>.some (by
    rw [hr2.2.1];refine fin ((WK.nd).trans ((WK.nd).trans hr2.1)) λe=>?_;obtain ⟨k1,k2,_⟩:=gD (k:=133) zb (by rw [←hr2.1 e];exact e);obtain ⟨_,j2,_⟩:=gD (k:=133) zb k1;exact .inl ⟨ho,by simpa using j2,by simpa using k2,rfl⟩)
 have shf:∀ {o:cQ},(o=[60,60] ∨ o=[62,62] ∨ o=[60,60,60])->aW ((iL c r.2 ⟨o,0,0,-1,[u,u2],ya⟩ u u2).bind λx=>some (x.1,x.2)) (Ta c w ⟨19,a,s,0,[z,z2]⟩):=λho=>
  (Ro (c:=c)).bind λr2 hr2=>.some (by
    rw [hr2.2.1];refine fin hr2.1 λe=>?_;obtain ⟨k1,k2,_⟩:=hr2.2.2 e;exact .inr (.inl ⟨ho,k1,k2,rfl⟩))
 have typ:∀ {o:cQ} {t:Int} {w1:aH},WK r.2 w1->(t ≠ 0->w1.e_=0->SO o u u2 t)->aW ((cR c w1 ⟨o,0,0,-1,[u,u2],ya⟩ t).bind λx=>some (x.1,x.2)) (Ta c w ⟨19,a,s,0,[z,z2]⟩):=λhw hb=>
  (vW (c:=c)).bind λr2 hr2=>.some (by
    rw [hr2.2.1];refine fin (hw.trans hr2.1) λe=>hb (hr2.2.2 e) (by rw [←hr2.1 e];exact e))
 refine aW.iteb (λho=>div (.inl (EG ho))) λn1=>aW.iteb (λho=>div (.inr (EG ho))) λn2=>?_;refine aW.iteb (λho=>shf (.inl (EG ho))) λn3=>aW.iteb (λho=>shf (.inr (.inl (EG ho)))) λn4=>aW.iteb (λho=>shf (.inr (.inr (EG ho)))) λn5=>?_;refine aW.iteb (λho=>typ WK.nd λht e=>.inr (.inr (.inl ⟨EG ho,rfl,by simpa using (gD (k:=132) zb e).2.1,ht⟩))) λn6=>?_;refine aW.iteb (λho=>aW.iteb (λh3=>typ (.refl _) λht e=>?_) λh3=>typ (.refl _) λht e=>?_) λn7=>?_
 ·exact .inr (.inr (.inr (.inl ⟨.inl (EG ho),by rw [beq_iff_eq] at h3;omega,by rw [cG (by simpa using h3)]⟩)))
 ·exact .inr (.inr (.inr (.inl ⟨.inl (EG ho),ht,by rw [bU (by simpa using h3)]⟩)))
 refine aW.iteb (λho=>aW.iteb (λh3=>typ (.refl _) λht e=>?_) λh3=>typ (.refl _) λht e=>?_) λn8=>?_
 ·exact .inr (.inr (.inr (.inl ⟨.inr (EG ho),by rw [beq_iff_eq] at h3;omega,by rw [cG (by simpa using h3)]⟩)))
 ·exact .inr (.inr (.inr (.inl ⟨.inr (EG ho),ht,by rw [bU (by simpa using h3)]⟩)))
 refine typ (.refl _) λht e=>.inr (.inr (.inr (.inr ⟨?_,rfl,ht⟩)));simp only [decide_eq_false_iff_not] at n1 n2 n3 n4 n5 n6 n7 n8;simp only [DN,Cj,MR,or_false] at hsg
 rcases hsg with h | h | h | h | h | h | h | h | h | h | h | h | h
 ·exact .inl h
 ·exact .inr (.inl h)
 ·exact .inr (.inr (.inl h))
 ·exact dE h n7
 ·exact dE h n8
 ·exact dE h n3
 ·exact dE h n4
 ·exact dE h n5
 ·exact .inr (.inr (.inr (.inl h)))
 ·exact .inr (.inr (.inr (.inr h)))
 ·exact dE h n6
 ·exact dE h n1
 ·exact dE h n2
theorem PA {fa:aG->aH->(List aB)->Option ((List aF) × aH)} (hf:VE N B n fa):IM N B (n+1) 17 (lS fa n):=by
 rintro c w x y h hx hk hs hn ⟨ya,rfl⟩;obtain ⟨a,s,xs,rfl,hz⟩:=hx.inv17 hk;rw [iN] at hs hn;have hp:0<=vK xs:=by have:=pD xs;omega
 unfold lS;refine (Ia (s:=s) za).bind λv hv=>?_;simp only [oX,nA];refine (hf c _ xs h hz za za).bind λr hr=>?_;obtain ⟨g1,hrl,g3,g4⟩:=hr;have hwr:=(WK.nd (w:=w)).trans ((WK.nd).trans g1);refine aW.iteb (λhe=>.some λe=>dE e (by simpa using he)) (λhe=>?_);simp only [bne_eq_false_iff_eq] at he;have h1:=g1 he;obtain ⟨k1,k2,k3⟩:=gD (k:=136) zb (by rw [←h1];exact he);obtain ⟨j1,j2,j3⟩:=gD (k:=130) zb k1;have hl:(xs.length:Int)=v:=by simpa using k2
 have hv0:0<v:=EG j2;have hT:=g3 he;have fin:∀ {x:aF} {w2:aH},WK r.2 w2->(w2.e_=0->TX (uB c) c.bI x)->x.aM=r.1->Ta c w ⟨17,a,s,0,xs⟩ (x,w2):=λhw hb hx e=>⟨(hwr.trans hw) e,hb e,by rw [yZ,iN,hx];have:=g4 he;omega⟩;obtain ⟨_,hv3,hvs,hvw,hall⟩:=hv;have hall:=hall hv0;obtain ⟨u,e,_,hum⟩:=oN (l:=r.1) (i:=0) zb za;rw [e];simp only [nA];refine aW.iteb (λhc=>?_) (λn1=>aW.iteb (λhc=>?_) (λn2=>aW.iteb (λhc=>?_) (λn3=>?_)))
 ·have h3:=hvs (EG hc);obtain ⟨x0,x1,x2,hr3⟩:=list3 (l:=r.1) za;rw [hr3] at hT fin ⊢;refine (Py (c:=c) rfl).bind λk hk=>?_;refine (vW (c:=c)).bind λr2 hr2=>.some ?_;rw [hr2.2.1];refine fin hr2.1 (λe=>?_) rfl;obtain ⟨q1,q2,rfl⟩:=hk (hr2.2.2 e);rw [EG hc];exact .sel (hT _ zc) (hT _ zc) (hT _ zc) q1 q2
 ·have hc1:=EG hc
  have hv1:v=1:=by
   rcases hall with h | h | h | h | h
   ·rw [hc1] at h;exact dE h zb
   ·exact h.2
   ·exact h.2
   ·exact h.2
   ·rw [hc1] at h;exact dE h zb
  obtain ⟨x0,hr1⟩:=Ut (l:=r.1) za;rw [hr1] at hT e fin ⊢;have hx0:x0=u:=by cases e;rfl
  subst hx0;refine DR.bind λb hb=>?_;refine (vW (c:=c)).bind λr2 hr2=>.some ?_;rw [hr2.2.1];refine fin ((WK.nd).trans hr2.1) (λe=>?_) rfl;rw [hc1];exact .long (hT _ Ul) (hb (gD (k:=132) zb (by rw [←hr2.1 e];exact e)).2.1)
 ·have h2:=hvw (EG hc);obtain ⟨x0,x1,hr2⟩:=list2 (l:=r.1) za;rw [hr2] at hT e fin ⊢;have hx0:x0=u:=by cases e;rfl
  subst hx0;refine aW.bind (P:=λw'=>WK r.2 w'/\(w'.e_=0->ScT x0.cP/\ScT x1.cP)) (DR.bind λb hb=>aW.iteb (λhbt=>aW.eqn (v:=x1) rfl ?_) (λ_=>.some ⟨WK.nd,λe=>?_⟩)) λw' hw'=>?_
  ·exact DR.bind λb2 hb2=>.some ⟨WK.nd,λe=>⟨hb hbt,hb2 (gD (k:=132) zb e).2.1⟩⟩
  ·have:=(gD (k:=132) zb e).2.1;cases this
  ·refine (vW (c:=c)).bind λr2 hr2=>.some ?_;rw [hr2.2.1];refine fin (hw'.1.trans hr2.1) (λe=>?_) rfl;obtain ⟨q1,q2⟩:=hw'.2 (by rw [←hr2.1 e];exact e);rw [EG hc];exact .wide (hT _ zc) (hT _ zc) q1 q2
 ·have hc1:(s=[108,111] ∨ s=[104,105])/\v=1:=by
   rcases hall with h | h | h | h | h
   ·exact dE h (by simpa using n1)
   ·exact dE h.1 (by simpa using n2)
   ·exact ⟨.inl h.1,h.2⟩
   ·exact ⟨.inr h.1,h.2⟩
   ·exact dE h (by simpa using n3)
  obtain ⟨x0,hr1⟩:=Ut (l:=r.1) za;rw [hr1] at hT e fin ⊢;have hx0:x0=u:=by cases e;rfl
  subst hx0;refine (vW (c:=c)).bind λr2 hr2=>.some ?_;rw [hr2.2.1];refine fin ((WK.nd).trans hr2.1) (λe=>?_) rfl;exact .half hc1.1 (hT _ Ul) (eq_of_beq (gD (k:=132) zb (by rw [←hr2.1 e];exact e)).2.1)
theorem QD:∀n:Nat,VD N B n (cD n).1/\IM N B n 16 (cD n).2.1/\IM N B n 18 (cD n).2.2.1/\IM N B n 19 (cD n).2.2.2.1/\IM N B n 17 (cD n).2.2.2.2.1/\VE N B n (cD n).2.2.2.2.2
 | 0=>⟨λc w x _ _ _ h=>by have:=rH x;omega,λc w x y _ _ _ _ h _=>by have:=rH x;omega,λc w x y _ _ _ _ h _=>by have:=rH x;omega,λc w x y _ _ _ _ h _=>by have:=rH x;omega,λc w x y _ _ _ _ h _=>by have:=rH x;omega,λc w xs _ _ _ h=>by have:=pD xs;omega⟩
 | n+1=>by
   obtain ⟨g1,g2,g3,g4,g5,g6⟩:=QD n;exact ⟨cexpr_b g2 g3 g4 g5,cload_b g1,UQ g6,So g6,PA g6,call_b g1⟩
theorem AH (h:CI N B c) {x:Nd} (hx:WE x) (hs:sz x<=20000) (hn:3*sz x+301<=n):aW (iC n c w x) (Ta c w x):=(QD n).1 c w x h hx hs hn
end
section
variable {N B n:Nat} {c:aG} {w:aH}
theorem uI (h:CI N B c) {x:Nd} (hx:WE x) (hs:sz x<=20000) (hn:3*sz x+301<=n):aW (fI n c w x) λr=>Ta c w x r/\(r.2.e_=0->r.1.cP=1):=by
 unfold fI;refine (AH h hx hs hn).bind λr hr=>?_;rw [oX];refine .some ⟨λe=>?_,λe=>by simpa using (gD (k:=133) zb e).2.1⟩;obtain ⟨k1,_,k3⟩:=gD (k:=133) zb e;obtain ⟨j1,j2⟩:=hr k1;exact ⟨k3.trans j1,j2⟩
theorem Ta.wk {x:Nd} {r:aF × aH} (h:Ta c w x r):WK w r.2:=λe=>(h e).1
theorem Find_l1 (fs:List aP) (s:cQ) (hl:fs.length<=16384):∀(k v:Nat),fs.length<v+k->v<=fs.length->∃r,cW fs s k v=some r/\(r=.inl () ∨ ∃(i:Nat) (f:aP),r=.inr (i:Int)/\fs[i]? = some f/\f.gS=s):=by
 intro k
 induction k with
 | zero=>intro v h1 h2;omega
 | succ k ih=>
   intro v h1 h2;unfold cW
   by_cases hv:v<fs.length
   ·rw [cG (vO za)];obtain ⟨f,e,e2,_⟩:=oN (l:=fs) (i:=(v:Int)) za za;rw [e];simp only [nA,zQ]
    by_cases hf:f.gS=s
    ·rw [cG (vO hf)];exact ⟨_,rfl,.inr ⟨v,f,rfl,by simpa using e2,hf⟩⟩
    ·rw [bU (by simpa using hf),fD za za,show ((v:Int)+1)=((v+1:Nat):Int) by omega];exact ih (v+1) za za
   ·rw [bU (by simp;omega)];exact ⟨_,rfl,.inl rfl⟩
theorem Oh {p:aK} {s:cQ} (hl:p.aU.length<=16384) (hn:16384<n):aW (oU n p s) λr=>0<=r.1/\(r.2=true->r.1<p.aU.length/\∃f,p.aU[r.1.toNat]? = some f/\f.gS=s):=by
 unfold oU fR;obtain ⟨r,e,hr⟩:=Find_l1 p.aU s hl n 0 za za;have e:cW p.aU s n 0=some r:=e;rw [e]
 rcases hr with rfl | ⟨i,f,rfl,h1,h2⟩
 ·exact .some ⟨zb,λh=>dE h zb⟩
 ·have hi:i<p.aU.length:=(sG.1 h1).1;refine .some ⟨yz,λ_=>⟨yz,f,?_,h2⟩⟩;have:(max (i:Int) 0).toNat=i:=za
  simp only [this,h1]
theorem function_tot' (h:CI N B c) (hn:16384<n) {x:Nd}:aW (mI n c w x) λr=>WK w r.2/\(r.2.e_=0->0<=r.1/\r.1<N):=by
 unfold mI;refine (Oh (by have:=h.nf;have:=h.nN;omega) hn).bind λr hr=>?_;rw [oX];refine .some ⟨WK.nd,λe=>?_⟩;have:=(hr.2 (gD zb e).2.1).1;have:=h.nf;exact ⟨hr.1,za⟩
theorem OP (h:CI N B c) {i:Int} (h0:0<=i) (h1:i<N):aW (nS c w i) λr=>∃f,aS c.p_.aU i=some f/\r=f.aO.take f.aQ.toNat:=by
 unfold nS;obtain ⟨f,e,_,hm⟩:=oN (l:=c.p_.aU) h0 (by have:=h.nf;omega);rw [e];have hv:=h.vl f hm;simp only [nA];exact aW.need ⟨hv.2.1,hv.2.2⟩ (.some ⟨f,rfl,rfl⟩)
theorem Sy (h:CI N B c) (hn:300<n) {x:Nd} {p:aJ} (hp:p.bF=4):aW (mE n c w x p.gA) λr=>r.2.e_=0->r.2=w/\Bq (uB c) c.bI p r.1/\(xz r.1:Int)<=sz x:=by
 unfold mE;rw [oX];simp only [nA];refine (DA h hn).bind λv hv=>?_;refine aW.bind (P:=λw'=>w'.e_=0->w'=w/\Bq (uB c) c.bI p ⟨[118,97,114],4,0,v.1,[],x.fV⟩) ?_ λw' hw'=>.some λe=>⟨(hw' e).1,(hw' e).2,by rw [yZ,oY];have:=rH x;omega⟩;refine (Bh (w:=v.2) h hv.1).bind λk hk=>aW.iteb (λhc=>?_) (λ_=>by rw [oX];exact .some λe=>by have:=(gD (k:=132) zb e).2.1;cases this);have hk4:k=4:=by simpa using hc
 rcases hk with ⟨_,h2⟩ | ⟨h0,u,h1,hku⟩
 ·omega
 obtain ⟨f,_,hm,hvs,hfi⟩:=h.cur;rw [hfi];rw [hvs] at h1;have hlt:v.1.toNat<f.aO.length:=(sG.1 h1).1
 have e2:aS f.aO (max v.1 0)=some u:=by
  rw [show max v.1 0=v.1 by omega];unfold aS;rw [cG h0];exact h1
 simp only [nA,e2,oX];refine .some λe=>?_;obtain ⟨k1,k2,k3⟩:=gD (k:=132) zb e;obtain ⟨j1,u3,j2,j3,j4,j5⟩:=hv.2.2 k1;obtain ⟨_,_,i3⟩:=gD (k:=132) zb (by rw [←j1];exact k1);refine ⟨by rw [k3,j1,i3],.arr hp j2 (u:=u) (by rw [hvs];unfold aS;rw [cG h0];exact h1) za (by simpa using k2)⟩
theorem Mz (h:CI N B c) {x:Nd} (hx:WE x) (hs:sz x<=20000) (hn:3*sz x+301<=n) {v:aJ}:aW (mK n c w x v) λr=>r.2.e_=0->r.2=w/\Bq (uB c) c.bI v r.1/\(xz r.1:Int)<=sz x:=by
 have hp:=rH x;unfold mK;refine aW.iteb (λh4=>?_) (λh4=>aW.iteb (λh1=>?_) (λh1=>?_))
 ·exact (Sy h za (by simpa using h4)).bind λr hr=>.some hr
 ·exact (uI h hx hs hn).bind λr hr=>.some λe=>⟨(hr.1 e).1,.pub (by simpa using h1) (hr.1 e).2.1 (hr.2 e),(hr.1 e).2.2⟩
 ·refine (AH h hx hs hn).bind λr hr=>Hr.bind λb hb=>?_;rw [oX];refine .some λe=>?_;obtain ⟨k1,k2,k3⟩:=gD (k:=132) zb e;exact ⟨k3.trans (hr k1).1,.val (by simpa using h1) (by simpa using h4) (hr k1).2.1 (hb k2),(hr k1).2.2⟩
theorem CI.calls (h:CI N B c) {l:List Int} {k:Int} (e:aS c.cJ c.fU=some l) (h0:0<=k) (h1:k<N):CI N (B+1) { c with cJ:=c.cJ.set c.fU.toNat (l++[k]) }:=by
 have hm:l ∈ c.cJ:=by
  obtain ⟨l2,e2,_,hm⟩:=oN (l:=c.cJ) h.a0 (by rw [h.nc];exact h.a1);rw [e] at e2;cases e2;exact hm
 refine ⟨h.nf,h.nN,h.f0,h.f1,h.a0,h.a1,h.sc,h.sl,h.vl,by simp only [yS];exact h.nc,?_,h.ki⟩;intro l' hl'
 rcases KM hl' with hl' | rfl
 ·exact ⟨Nat.le_succ_of_le (h.cl l' hl').1,(h.cl l' hl').2⟩
 ·have:=h.cl l hm;refine ⟨by simp only [nB,tF];omega,λu hu=>?_⟩
  rcases BV.1 hu with hu | hu
  ·exact this.2 u hu
  ·obtain rfl:=zA.1 hu;exact ⟨h0,h1⟩
theorem CI.more {B':Nat} (h:CI N B c) (hb:B<=B'):CI N B' c:=⟨h.nf,h.nN,h.f0,h.f1,h.a0,h.a1,h.sc,h.sl,h.vl,h.nc,λl hl=>⟨KP (h.cl l hl).1 hb,(h.cl l hl).2⟩,h.ki⟩
theorem Va {x:Nd} {sh:List aJ} {l:List Int} {k4:Int × aH} (h:CI N B { c with cJ:=c.cJ.set c.fU.toNat (l++[k4.1]) }) (hx:∀y ∈ x.aM,WE y) (hs:vK x.aM<=20000) (hn:3*vK x.aM+301<=n) {w0:aH} (hw0:w0.e_=0->x.aM.length=sh.length) {st0:aA} :
  ∀(k v:Nat) (w:aH) (ys:List aF),x.aM.length<v+k->v<=x.aM.length->ys.length=v->(w.e_=0->w=w0/\∀(i:Nat) p y,sh[i]? = some p->ys[i]? = some y->Bq (uB c) c.bI p y)->WK w0 w->aW (kS n x sh c l k4 k (v:Int) w { st0 with aM:=ys }) λr=>WK w r.1/\(∃zs,r.2={ st0 with aM:=zs }/\(r.1.e_=0->zS (uB c) c.bI sh zs/\(oY zs:Int)<=oY ys+vK (x.aM.drop v))):=by
 intro k
 induction k with
 | zero=>intro v w ys h1 h2 h3;omega
 | succ k ih=>
   intro v w ys h1 h2 h3 h4 hw;unfold kS;have hg:=pD x.aM
   by_cases hv:v<x.aM.length
   ·rw [cG (vO za)];obtain ⟨y,e,ey,hym⟩:=oN (l:=x.aM) (i:=(v:Int)) za za
    have hd:x.aM.drop v=y::x.aM.drop (v+1):=by
     rw [wR] at ey;obtain ⟨hlt,rfl⟩:=sG.1 ey;exact On hlt
    rw [e];simp only [nA];refine aW.iteb (λhe=>.some ⟨.refl _,ys,rfl,λe=>dE e (by simpa using he)⟩) (λhe=>?_);simp only [bne_eq_false_iff_eq] at he;have hw':=hw he;have hlen:=hw0 (by rw [←hw'];exact he);obtain ⟨u,e2,e3,_⟩:=oN (l:=sh) (i:=(v:Int)) za za;rw [e2];simp only [nA];have hsz:=Jk hym;refine (Mz h (hx y hym) za za).bind λr hr=>aW.need (by simp only [tF];omega) ?_;rw [fD za za,show ((v:Int)+1)=((v+1:Nat):Int) by omega];refine (ih (v+1) r.2 (ys++[r.1]) za za (by simp only [nB,tF];omega) (λer=>⟨?_,λi p y hp hy=>?_⟩) (hw.trans λe=>(hr e).1)).mono λq hq=>?_
    ·rw [(hr er).1,hw']
    ·by_cases hi:i<v
     ·rw [HH za] at hy;exact (h4 he).2 i p y hp hy
     ·have hi2:i=v:=by
       have:=(sG.1 hy).1;simp only [nB,tF] at this;omega
      subst hi2;rw [GT za,h3,Tc] at hy;cases hy;rw [wR] at e3;rw [hp] at e3;cases e3
      exact (hr er).2.1
    ·obtain ⟨hq1,zs,hq2,hq3⟩:=hq;refine ⟨WK.trans (λe=>(hr e).1) hq1,zs,hq2,λeq=>?_⟩;obtain ⟨h5,h6⟩:=hq3 eq;refine ⟨h5,?_⟩;rw [LC,oY,oY] at h6;rw [hd,uV];have:=(hr (by rw [←hq1 eq];exact eq)).2.2;omega
   ·rw [bU (by simp;omega)];refine .some ⟨.refl _,ys,rfl,λe=>⟨⟨?_,(h4 e).2⟩,by have:=pD (x.aM.drop v);omega⟩⟩;have:=hw0 (by rw [←hw e];exact e);omega
theorem Gh (h:CI N B c) (hB:B+1<=1073741824) {x:Nd} (hx:∀y ∈ x.aM,WE y) (hs:vK x.aM<=20000) (hn:3*vK x.aM+301<=n) (hn2:20000<n) {st:aA} {v:Int} :
  aW (jM n c w x st v) λr=>CI N (B+1) r.2.1/\Kp c r.2.1/\r.2.1.bI=c.bI/\r.2.1.p_=c.p_/\WK w r.2.2/\(r.2.2.e_=0->0<=r.1.gI/\r.1.gI<N/\∃f xs,r.1=⟨[99,97,108,108],v,r.1.gI,xs,st.bR,st.iP,st.fV⟩/\aS r.2.1.p_.aU r.1.gI=some f/\sgC r.2.1 r.1.gI f.bV (f.aO.take f.aQ.toNat)/\zS (uB c) c.bI (f.aO.take f.aQ.toNat) xs/\(oY xs:Int)<=vK x.aM):=by
 have hg:=pD x.aM;unfold jM;refine (function_tot' (w:=w) (x:=x) h za).bind λr hr=>aW.iteb (λhe=>?_) (λhe=>?_)
 ·simp only [bne_iff_ne] at he;exact .some ⟨h.more (Nat.le_succ B),.refl c,rfl,rfl,hr.1,λe=>dE e he⟩
 ·simp only [bne_eq_false_iff_eq] at he;obtain ⟨f0,f1⟩:=hr.2 he;obtain ⟨l,e,el,hm⟩:=oN (l:=c.cJ) h.a0 (by rw [h.nc];exact h.a1);have h':=h.calls e f0 f1;rw [e];simp only [nA];refine aW.need (by have:=(h.cl l hm).1;omega) ?_;refine (OP (w:=r.2) h' f0 f1).bind λsh hsh=>?_;obtain ⟨f,hf,rfl⟩:=hsh;rw [oX];simp only [nA];refine (Va (st0:={ st with eG:=[99,97,108,108],cZ:=v,gI:=r.1,aM:=[] }) h' hx hs hn (w0:=MN r.2 ((x.aM.length:Int) == ((f.aO.take f.aQ.toNat).length:Int)) 136 x.fV) (λe=>by have:=(gD (k:=136) zb e).2.1;simp only [beq_iff_eq] at this;omega) n 0 _ [] za za rfl (λe=>⟨rfl,λi p y hp hy=>nomatch hy⟩) (.refl _)).bind λq hq=>?_;obtain ⟨hq1,zs,hq2,hq3⟩:=hq;have hal:c.fU.toNat<c.cJ.length:=(sG.1 el).1
  have hcl:aS (c.cJ.set c.fU.toNat (l++[r.1])) c.fU=some (l++[r.1]):=by
   unfold aS;rw [cG h.a0,Ki hal]
  refine .some ⟨h',⟨rfl,rfl,Ig _,Ig _,λ_ _=>rfl,rfl,λj hj=>MM (Ne.symm hj),λl2 e2=>?_⟩,rfl,rfl,hr.1.trans ((WK.nd).trans hq1),λe2=>?_⟩
  ·rw [e] at e2;cases e2
   exact ⟨_,hcl,GR _ _⟩
  ·rw [hq2];exact ⟨f0,f1,f,zs,rfl,hf,⟨⟨_,hcl,xeh _ Ul⟩,f,hf,rfl,rfl⟩,(hq3 e2).1,by have:=(hq3 e2).2;rw [oY,sR] at this;omega⟩
theorem FC (hn:6<n) {x:Nd}:aW (jV n c w x) λb=>b=true->x.bF=17:=by
 unfold jV;exact aW.bind' (aW.iteb (λhc=>(Ia hn).bind λv _=>.some (.some λ_=>by simpa using hc)) (λ_=>.some (.some λh=>nomatch h)))
def St1 (c c':aG) (w':aH) (b:Bool) (s:aA) (x:aB):Prop:=w'.e_=0->TB (sgC c') (uB c') (Mb c) b (uB c).length c.bI [s] (uB c').length c'.bI/\(tz s:Int)<=sz x
theorem Fq {α:Type} {l:List α} {x:α}:(l++[x])[l.length]? = some x:=by
 rw [GT (tW _),Tc];rfl
theorem Pz (h:CI N B c) (hB:B+1<=1073741824) {x y:Nd} (hl:x.aM=[y]) (hy:WE y) (hs:sz y<=20000) (hn:3*sz y+301<=n) (hn2:20000<n) {a:Int} {b:Bool} :
  aW (oS n c w x ⟨[],-1,0,[],[],[],a⟩) λr=>CI N (B+1) r.2.1/\Kp c r.2.1/\WK w r.2.2/\St1 c r.2.1 r.2.2 b r.1 x:=by
 unfold oS;rw [hl];refine aW.eqn (v:=y) rfl ?_;refine (FC (c:=c) (w:=w) za).bind λb hb=>aW.iteb (λhbt=>?_) (λ_=>?_)
 ·obtain ⟨a,s,xs,rfl,hxs⟩:=hy.inv17 (hb hbt);rw [iN] at hs hn;refine (Gh h hB hxs yz yz hn2).bind λr hr=>?_;obtain ⟨h1,h2,h3,h4,h5,h6⟩:=hr;refine aW.iteb (λhe=>.some ⟨h1,h2,h5,λe=>dE e (by simpa using he)⟩) (λhe=>?_);simp only [bne_eq_false_iff_eq] at he;obtain ⟨f0,f1,f,zs,e1,e2,e3,e4,e9⟩:=h6 he
  have hfm:f ∈ r.2.1.p_.aU:=by
   obtain ⟨f',e',_,hm⟩:=oN (l:=r.2.1.p_.aU) f0 (by rw [h1.nf];exact f1);rw [e2] at e';cases e';exact hm
  rw [e2];simp only [nA,oX];have hvs:uB r.2.1=uB c:=by unfold uB;rw [h4,h2.f]
  refine (uH h1 za λe=>?_).bind λd hd=>.some ⟨hd.1,h2.trans hd.2.1,h5.trans ((WK.nd).trans λe=>(hd.2.2.2.2.1 e).1),λe=>?_⟩
  ·have hr:=(h1.ki f hfm).2;have:=(gD (k:=132) zb e).2.1;simp only [bne_iff_ne,ne_eq] at this;refine ⟨?_,?_,λh=>?_⟩ <;> simp only at * <;> omega
  ·obtain ⟨d1,d2,d3,d4⟩:=hd.2.2.2.2.1 e;have e5:(MN r.2.2 (f.bV != 0) 132 x.fV).e_=0:=by rw [←d1];exact e
   have hne:=(gD (k:=132) zb e5).2.1;rw [e1];simp only;rw [d2,d3,d4,h3,hvs,nB,tF];exact ⟨.callv (u:=⟨x.dL,f.bV,0⟩) (r:=f.bV) (Kp.sg h1 hd.2.1 e3) (e4.mono (GR _ _) λ_ h=>h) (by simpa using hne) Fq rfl .nil,by rw [qC,EV x,hl,sT,iN];simp only [uS];simp only at e9;omega⟩
 ·refine (AH h hy hs hn).bind λr hr=>Jo.bind λk hk=>?_;subst hk;refine (uH h za λe=>?_).bind λd hd=>.some ⟨hd.1.more (Nat.le_succ B),hd.2.1,hr.wk.trans λe=>(hd.2.2.2.2.1 e).1,λe=>?_⟩
  ·have:=(hr e).2.1.range h.vsOk;refine ⟨?_,?_,λh=>?_⟩ <;> simp only [HP] at * <;> split at * <;> omega
  ·obtain ⟨d1,d2,d3,d4⟩:=hd.2.2.2.2.1 e;simp only;rw [d2,d3,d4,nB,tF];have hr0:=hr (by rw [←d1];exact e);exact ⟨.var_ (u:=⟨x.dL,HP r.1.cP,0⟩) (hr0.2.1.mono (GR _ _) λ_ h=>h) Fq rfl .nil,by rw [qC,EV x,hl,sT];simp only [uS,oY];have:=hr0.2.2;omega⟩
theorem Mu (h:CI N B c) (hn:300<n) {x:Nd}:aW (mW n c w x) λr=>WK w r.2/\(r.1=-1 ∨ 0<=r.1/\r.1<(uB c).length)/\(r.2.e_=0->∃u,r.1 ∈ c.bI/\aS (uB c) r.1=some u/\(u.bF=2 ∨ u.bF=3)):=by
 unfold mW;refine (DA (w:=w) h hn).bind λv hv=>?_;refine (Bh (w:=v.2) h hv.1).bind λk hk=>?_;simp only [oX,nA];have hwv:WK w v.2:=λe=>(hv.2.2 e).1
 have key:(k=2 ∨ k=3)->v.2.e_=0->∃u,v.1 ∈ c.bI/\aS (uB c) v.1=some u/\(u.bF=2 ∨ u.bF=3):=λh2 e=>by
  obtain ⟨_,u,j2,j3,j4,_⟩:=hv.2.2 e
  rcases hk with ⟨hm,_⟩ | ⟨_,u2,hk2,rfl⟩
  ·omega
  ·exact ⟨u2,j2,by unfold aS;rw [cG j3];exact hk2,h2⟩
 refine aW.bind' (aW.iteb (λh2=>.some (.some ⟨hwv.trans WK.nd,hv.1,λe=>?_⟩)) (λ_=>.some (.some ⟨hwv.trans WK.nd,hv.1,λe=>?_⟩)))
 ·exact key (.inl (by simpa using h2)) (gD (k:=132) zb e).1
 ·obtain ⟨k1,k2,_⟩:=gD (k:=132) zb e;exact key (.inr (by simpa using k2)) k1
theorem UR (h:CI N B c) (hB:B+1<=1073741824) {x y:Nd} (hl:x.aM=[y]) (hy:WE y) (hs:sz y<=20000) (hn:3*sz y+301<=n) (hn2:20000<n) {a:Int} {b:Bool} :
  aW (qD n c w x ⟨[],-1,0,[],[],[],a⟩) λr=>CI N (B+1) r.2.1/\Kp c r.2.1/\WK w r.2.2/\St1 c r.2.1 r.2.2 b r.1 x:=by
 unfold qD;refine (Mu (w:=w) h za).bind λv hv=>?_;rw [hl];refine aW.eqn (v:=y) rfl ?_;refine (FC (c:=c) (w:=v.2) za).bind λb hb=>aW.iteb (λhbt=>?_) (λ_=>?_)
 ·obtain ⟨a,s,xs,rfl,hxs⟩:=hy.inv17 (hb hbt);rw [iN] at hs hn;refine (Gh h hB hxs yz yz hn2).bind λr hr=>?_;obtain ⟨h1,h2,h3,h4,h5,h6⟩:=hr;refine aW.iteb (λhe=>?_) (λhe=>.some ⟨h1,h2,hv.1.trans h5,λe=>dE e (by simpa using he)⟩);simp only [beq_iff_eq] at he;obtain ⟨f0,f1,f,zs,e1,e2,e3,e4,e9⟩:=h6 he;have hlen:=h2.v.length_le;have hvs:uB r.2.1=uB c:=by unfold uB;rw [h4,h2.f]
  obtain ⟨u,hu1,hu2,hu3⟩:=hv.2.2 (by rw [←h5 he];exact he);refine (Bh (w:=r.2.2) h1 (v:=v.1) (by rcases hv.2.1 with h | h;exact .inl h;exact .inr ⟨h.1,za⟩)).bind λk hk=>?_;rw [e2];simp only [nA,oX];refine .some ⟨h1,h2,hv.1.trans (h5.trans WK.nd),λe=>?_⟩;have hr:=(gD (k:=132) zb e).2.1
  have hku:k=u.bF:=by
   have h0:=h.sc _ hu1
   rcases hk with ⟨hm,_⟩ | ⟨h0,u2,hk2,rfl⟩
   ·omega
   ·unfold aS at hu2;rw [cG h0,←hvs,hk2] at hu2;cases hu2;rfl
  rw [e1,hvs,h3];exact ⟨.calls hu1 hu2 hu3 e3 e4 (by rw [←hku];simpa using hr) .nil,by rw [qC,EV x,hl,sT,iN];simp only [uS];simp only at e9;omega⟩
 ·refine (AH h hy hs hn).bind λr hr=>(Bh (w:=r.2) h hv.2.1).bind λk hk=>Hr.bind λb hb=>?_;rw [oX];refine .some ⟨h.more (Nat.le_succ B),.refl c,hv.1.trans (hr.wk.trans WK.nd),λe=>?_⟩;obtain ⟨k1,k2,_⟩:=gD (k:=132) zb e;obtain ⟨u,hu1,hu2,hu3⟩:=hv.2.2 (by rw [←hr.wk k1];exact k1)
  have hku:k=u.bF:=by
   have h0:=h.sc _ hu1
   rcases hk with ⟨hm,_⟩ | ⟨h0,u2,hk2,rfl⟩
   ·omega
   ·unfold aS at hu2;rw [cG h0,hk2] at hu2;cases hu2;rfl
  exact ⟨.set hu1 hu2 hu3 (hr k1).2.1 (hku ▸ hb k2) .nil,by rw [qC,EV x,hl,sT];simp only [uS,oY];have:=(hr k1).2.2;omega⟩
theorem Pw (h:CI N B c) {x:Nd} (hx:WE x) (hs:sz x<=20000) (hn:3*sz x+301<=n) {v:Int} (hv:w.e_=0->0<=v/\v<(uB c).length):aW (oR n c w x v) λr=>Ta c w x r/\(r.2.e_=0->r.1.cP=1/\∀u,aS (uB c) v=some u->r.1.eG=[110,117,109]->i64.wrap r.1.N_<u.gA):=by
 unfold oR;refine (uI h hx hs hn).bind λr hr=>?_;obtain ⟨hr,hr1⟩:=hr;refine aW.bind' (aW.iteb (λhe=>.some ?_) (λhe=>.some (aW.iteb (λh=>nomatch h) (λ_=>.some ⟨hr,λe=>dE e (by simpa using he)⟩))));refine aW.iteb (λho=>?_) (λho=>.some ⟨hr,λe=>⟨hr1 e,λu hu h=>dE h (by simpa using ho)⟩⟩);have he:r.2.e_=0:=by simpa using he
 obtain ⟨v0,v1⟩:=hv (by rw [←(hr he).1];exact he);obtain ⟨f,_,hm,hvs,hfi⟩:=h.cur;rw [hfi];rw [hvs] at v1;obtain ⟨u,e,_,_⟩:=oN v0 v1;simp only [nA,e,oX];refine .some ⟨λe2=>?_,λe2=>?_⟩
 ·obtain ⟨k1,_,k3⟩:=gD (k:=137) zb e2;exact ⟨k3.trans (hr k1).1,(hr k1).2⟩
 ·obtain ⟨k1,k2,_⟩:=gD (k:=137) zb e2;refine ⟨hr1 k1,λu2 hu _=>?_⟩;rw [hvs,e] at hu;cases hu
  simpa using k2
theorem US (h:CI N B c) {x i y:Nd} (hl:x.aM=[i,y]) (hi:WE i) (hy:WE y) (hs:sz i<=20000) (hs2:sz y<=20000) (hn:3*sz i+301<=n) (hn2:3*sz y+301<=n) {a:Int} {b:Bool}:aW (qE n c w x ⟨[],-1,0,[],[],[],a⟩) λr=>WK w r.2/\St1 c c r.2 b r.1 x:=by
 have hp:=rH i;unfold qE;refine (DA (w:=w) h za).bind λv hv=>?_;refine (Bh (w:=v.2) h hv.1).bind λk hk=>?_;have hwv:WK w v.2:=λe=>(hv.2.2 e).1;rw [oX,hl];refine aW.eqn (v:=MN v.2 (k == 4) 132 x.fV) rfl (aW.eqn (v:=i) rfl ?_);refine (Pw h hi hs hn (λe=>?_)).bind λr hr=>?_
 ·have:=(gD (k:=132) zb e).1;obtain ⟨_,u,h1,_⟩:=hv.2.2 this;exact h.sc _ h1
 refine aW.eqn (v:=y) rfl ?_;refine (AH h hy hs2 hn2).bind λq hq=>Hr.bind λb hb=>?_;rw [oX];refine .some ⟨hwv.trans ((WK.nd).trans (hr.1.wk.trans (hq.wk.trans WK.nd))),λe=>?_⟩;obtain ⟨k1,k2,_⟩:=gD (k:=132) zb e;have er:r.2.e_=0:=by rw [←hq.wk k1];exact k1
 obtain ⟨j1,j2,_⟩:=gD (k:=132) zb (by rw [←hr.1.wk er];exact er);obtain ⟨_,u,i2,i3,i4,_⟩:=hv.2.2 j1;have hu:aS (uB c) v.1=some u:=by unfold aS;rw [cG i3];exact i4
 have hu4:u.bF=4:=by
  rcases hk with ⟨hm,_⟩ | ⟨_,u2,hk2,rfl⟩
  ·omega
  ·rw [i4] at hk2;cases hk2;simpa using j2
 exact ⟨.put i2 hu hu4 (hr.1 er).2.1 (hr.2 er).1 ((hr.2 er).2 u hu) (hq k1).2.1 (hb k2) .nil,by rw [qC,EV x,hl,Im];simp only [uS,oY];have:=(hr.1 er).2.2;have:=(hq k1).2.2;omega⟩
def FG (s:aA):Prop:=s.eG=[114,101,116,117,114,110] ∨ s.eG=[99,97,108,108]/\s.cZ=-2
theorem Sp (h:CI N B c) (hB:B+1<=1073741824) {x y:Nd} (hl:x.aM=[y]) (hy:WE y) (hs:sz y<=20000) (hn:3*sz y+301<=n) (hn2:20000<n) {a:Int} {l:Bool} :
  aW (pH n c w x ⟨[],-1,0,[],[],[],a⟩ l) λr=>CI N (B+1) r.2.1/\Kp c r.2.1/\WK w r.2.2/\St1 c r.2.1 r.2.2 l r.1 x/\(r.2.2.e_=0->FG r.1):=by
 unfold pH;obtain ⟨f,_,hm,hvs,hfi⟩:=h.cur;rw [hfi,hl];refine aW.bind (P:=λw'=>WK w w'/\(w'.e_=0->l=true/\f.bV ≠ 0)) ?_ λw1 hw1=>?_
 ·simp only [nA,oX];refine aW.iteb (λhl=>.some ⟨WK.nd,λe=>⟨hl,?_⟩⟩) (λ_=>.some ⟨WK.nd,λe=>?_⟩)
  ·simpa using (gD (k:=135) zb e).2.1
  ·have:=(gD (k:=135) zb e).2.1;cases this
 refine aW.bind (P:=λb=>b=true->y.bF=17) ?_ λb hb=>aW.iteb (λhbt=>?_) (λ_=>?_)
 ·refine aW.iteb (λ_=>?_) (λ_=>.some λh=>nomatch h);exact aW.eqn (v:=y) rfl ((FC (c:=c) (w:=w1) za).bind λb hb=>.some hb)
 ·refine aW.eqn (v:=y) rfl ?_;obtain ⟨a,s,xs,rfl,hxs⟩:=hy.inv17 (hb hbt);rw [iN] at hs hn;refine (Gh h hB hxs yz yz hn2).bind λr hr=>?_;obtain ⟨h1,h2,h3,h4,h5,h6⟩:=hr;refine aW.iteb (λhe=>?_) (λhe=>.some ⟨h1,h2,hw1.1.trans h5,λe=>dE e (by simpa using he),λe=>dE e (by simpa using he)⟩);simp only [beq_iff_eq] at he;obtain ⟨f0,f1,g,zs,e1,e2,e3,e4,e9⟩:=h6 he;obtain ⟨g2,_,_,_,e5⟩:=h1.cur;have hvs':uB r.2.1=uB c:=by unfold uB;rw [h4,h2.f]
  rw [e2,e5];simp only [nA,oX];refine .some ⟨h1,h2,hw1.1.trans (h5.trans WK.nd),λe=>?_,λe=>.inr ?_⟩
  ·obtain ⟨hl2,hne⟩:=hw1.2 (by rw [←h5 he];exact he);subst hl2;have hr:=(gD (k:=132) zb e).2.1
   have hg2:g2=f:=by
    rw [h2.f,h4,hfi] at e5;cases e5;rfl
   have hres:g.bV=Mb c:=by
    rw [h.res hfi,←hg2];simpa using hr
   rw [e1,hvs',h3];exact ⟨.retc (hres ▸ e3) (by rw [h.res hfi];exact hne) e4,by rw [qC,EV x,hl,sT,iN];simp only [uS];simp only at e9;omega⟩
  ·rw [e1];exact ⟨rfl,rfl⟩
 ·refine aW.eqn (v:=y) rfl ?_;refine (AH h hy hs hn).bind λr hr=>aW.eqn (v:=f) rfl (Hr.bind λb hb=>?_);rw [oX];refine .some ⟨h.more (Nat.le_succ B),.refl c,hw1.1.trans (hr.wk.trans WK.nd),λe=>?_,λ_=>.inl rfl⟩;obtain ⟨k1,k2,_⟩:=gD (k:=132) zb e;obtain ⟨hl2,hne⟩:=hw1.2 (by rw [←hr.wk k1];exact k1);subst hl2;exact ⟨.ret (hr k1).2.1 (by rw [h.res hfi];exact hne) (by rw [h.res hfi];exact hb k2),by rw [qC,EV x,hl,sT];simp only [uS,oY];have:=(hr k1).2.2;omega⟩
end
section
variable {N B n:Nat} {c:aG} {w:aH}
theorem Io {α:Type} {l l':List α} (h:l <+: l'):l'.take l.length=l:=by
 obtain ⟨r,rfl⟩:=h;rw [List.take_append_of_le_length (tW _),xek]
theorem CI.scope {c':aG} (h:CI N B c') (h0:CI N B c) (k:Kp c c'):CI N B { c' with bI:=c.bI }/\Kp c { c' with bI:=c.bI }:=by
 refine ⟨⟨h.nf,h.nN,h.f0,h.f1,h.a0,h.a1,λv hv=>?_,?_,h.vl,h.nc,h.cl,h.ki⟩,⟨k.f,k.a,Ig _,k.v,k.o,k.g,k.k,k.l⟩⟩
 ·have h1:=h0.sc v hv;have h2:=k.v.length_le;have:uB { c' with bI:=c.bI }=uB c':=rfl;rw [this];omega
 ·have h1:=h0.sl;have h2:=k.v.length_le;have:uB { c' with bI:=c.bI }=uB c':=rfl;rw [this];show c.bI.length<=_;omega
end
def Lv2 (N B:Nat) (k:Int) (c:aG) (w:aH) (c':aG) (w':aH):Prop:=(∃B':Nat,(B':Int)<=B+k/\CI N B' c')/\Kp c c'/\WK w w'
def StL (c c':aG) (b:Bool) (ss:List aA):Prop:=∃sc',TB (sgC c') (uB c') (Mb c) b (uB c).length c.bI ss (uB c').length sc'
def RetL (l:List aB) (ss:List aA):Prop:=∀y,l.getLast? = some y->y.bF=13->∃s,ss.getLast? = some s/\FG s
def OkSm (N n:Nat) (f:aG->aH->aB->Bool->Option (aA × aG × aH)):Prop:=∀B c w x b,CI N B c->WS x->sz x<=20000->(B:Int)+sz x<=1073741824->3*sz x+20301<=n->aW (f c w x b) λr=>Lv2 N B (sz x) c w r.2.1 r.2.2/\St1 c r.2.1 r.2.2 b r.1 x/\(r.2.2.e_=0->x.bF=13->FG r.1)
def OkBk (N n:Nat) (f:aG->aH->aB->Bool->Option ((List aA) × aG × aH)):Prop:=∀B c w x b,CI N B c->(∀y ∈ x.aM,WS y)->vK x.aM<=20000->(B:Int)+vK x.aM<=1073741824->3*vK x.aM+20302<=n->aW (f c w x b) λr=>(Lv2 N B (vK x.aM) c w r.2.1 r.2.2/\r.2.1.bI=c.bI)/\(r.2.2.e_=0->StL c r.2.1 b r.1/\RetL x.aM r.1/\(uS r.1:Int)<=vK x.aM)
section
variable {N B n:Nat} {c:aG} {w:aH}
theorem Sn {m:Nat} {x:Nd} {b:Bool} {fs:aG->aH->aB->Bool->Option (aA × aG × aH)} (hf:OkSm N m fs) (hs:vK x.aM<=20000) (hm:3*vK x.aM+20301<=m) :
  ∀(k v B:Nat) (ys:List aA) (c:aG) (w:aH),x.aM.length<v+k->v<=x.aM.length->ys.length=v->CI N B c->(∀y ∈ x.aM.drop v,WS y)->(B:Int)+vK (x.aM.drop v)<=1073741824->aW (kF fs x b k ys (v:Int) c w) λr=>Lv2 N B (vK (x.aM.drop v)) c w r.2.1 r.2.2/\(r.2.2.e_=0->∃ss,r.1=ys++ss/\TB (sgC r.2.1) (uB r.2.1) (Mb c) b (uB c).length c.bI ss (uB r.2.1).length r.2.1.bI/\RetL (x.aM.drop v) ss/\(uS ss:Int)<=vK (x.aM.drop v))/\(v=x.aM.length->r.1=ys/\r.2.1=c):=by
 intro k
 induction k with
 | zero=>intro v B ys c w h1 h2;omega
 | succ k ih=>
   intro v B ys c w h1 h2 h3 h hx hB;unfold kF;have hg:=pD x.aM;have hg0:=pD (x.aM.drop v)
   by_cases hv:v<x.aM.length
   ·rw [cG (vO za)];have hd:x.aM.drop v=x.aM[v]::x.aM.drop (v+1):=On hv;have e:aS x.aM (v:Int)=some x.aM[v]:=by unfold aS;rw [cG za,wR,tS hv]
    have hsz:=Jk (Oo hv);rw [hd,uV] at hB ⊢;have hg1:=pD (x.aM.drop (v+1));have hp:=rH x.aM[v];rw [e];simp only [nA];refine aW.iteb (λhe=>.some ⟨⟨⟨B,za,h⟩,.refl c,.refl w⟩,λe=>dE e (by simpa using he),λ_=>⟨rfl,rfl⟩⟩) (λhe=>?_);have Cc:∀b2,aW (fs c w x.aM[v] b2) λr=>Lv2 N B (sz x.aM[v]) c w r.2.1 r.2.2/\St1 c r.2.1 r.2.2 b2 r.1 x.aM[v]/\(r.2.2.e_=0->(x.aM[v]).bF=13->FG r.1):=λb2=>hf B c w _ b2 h (hx _ (by rw [hd];exact Ja)) za za za;refine aW.bind (P:=λr=>Lv2 N B (sz x.aM[v]) c w r.2.1 r.2.2/\∃s b2,r.1=ys++[s]/\St1 c r.2.1 r.2.2 b2 s x.aM[v]/\(b2=true->b=true/\v+1=x.aM.length)/\(r.2.2.e_=0->(x.aM[v]).bF=13->FG s)) ?_ λr hr=>?_
    ·refine aW.iteb (λhb=>?_) (λ_=>?_)
     ·exact (Cc _).bind λr hr=>aW.need (by simp only [tF];omega) (.some ⟨hr.1,r.1,_,rfl,hr.2.1,λh2=>⟨hb,by
       rw [fD za za,beq_iff_eq] at h2;omega⟩,hr.2.2⟩)
     ·exact (Cc false).bind λr hr=>aW.need (by simp only [tF];omega) (.some ⟨hr.1,r.1,false,rfl,hr.2.1,λh2=>Bool.noConfusion h2,hr.2.2⟩)
    ·obtain ⟨⟨⟨B',hb',h'⟩,hk,hw⟩,s,b2,hr1,hs1,hb2,hrt⟩:=hr;rw [fD za za,show ((v:Int)+1)=((v+1:Nat):Int) by omega];refine (ih (v+1) B' _ _ _ za za (by rw [hr1,nB,tF];omega) h' (λy hy=>hx y (by rw [hd];exact IZ _ hy)) za).mono λq hq=>?_;obtain ⟨⟨⟨B2,hbb,h2⟩,hk2,hw2⟩,hT,hend⟩:=hq;refine ⟨⟨⟨B2,za,h2⟩,hk.trans hk2,hw.trans hw2⟩,λe=>?_,λh=>za⟩;obtain ⟨ss,hq1,hT1,hR,hZ⟩:=hT e;have e2:r.2.2.e_=0:=by rw [←hw2 e];exact e
     refine ⟨s::ss,by rw [hq1,hr1,ML];rfl,?_,?_,by rw [uS];have:=(hs1 e2).2;omega⟩
     ·have t1:=(hs1 e2).1.mono (λk r ps h=>Kp.sg h' hk2 h) hk2.v;rw [hk.res h] at hT1;cases b2 with
      | false=>exact t1.app rfl hT1
      | true=>
        obtain ⟨rfl,hvl⟩:=hb2 rfl;obtain ⟨q1,q2⟩:=hend hvl
        have hss:ss=[]:=by
         rw [q1] at hq1;simpa using hq1
        subst hss;rw [q2];exact (hs1 e2).1
     ·intro y hy hk13;rw [List.getLast?_cons] at hy;cases hl:(x.aM.drop (v+1)).getLast? with
      | none=>
        rw [hl] at hy;have hnil:=List.getLast?_eq_none_iff.1 hl
        have hv1:v+1=x.aM.length:=by
         have:=List.drop_eq_nil_iff.1 hnil;omega
        obtain ⟨q1,q2⟩:=hend hv1
        have hss:ss=[]:=by
         rw [q1] at hq1;simpa using hq1
        subst hss;cases hy;exact ⟨s,rfl,hrt e2 hk13⟩
      | some y2=>
        rw [hl] at hy;cases hy;obtain ⟨s2,h5,h6⟩:=hR _ hl hk13;exact ⟨s2,by rw [List.getLast?_cons,h5];rfl,h6⟩
   ·rw [bU (by simp;omega)];have hnil:x.aM.drop v=[]:=xea za;rw [hnil];exact .some ⟨⟨⟨B,by rw [oF];omega,h⟩,.refl c,.refl w⟩,λe=>⟨[],(ER _).symm,.nil,(λy hy=>nomatch hy),by rw [uS,oF];decide⟩,λ_=>⟨rfl,rfl⟩⟩
theorem Vb {fs:aG->aH->aB->Bool->Option (aA × aG × aH)} (hf:OkSm N n fs):OkBk N (n+1) (mY fs n):=by
 intro B c w x b h hx hs hB hn;unfold mY;have hg:=pD x.aM;refine (Sn hf hs za n 0 B [] c w za za rfl h (by rw [sR];exact hx) (by rw [sR];exact hB)).bind λr hr=>?_;rw [sR] at hr;obtain ⟨⟨⟨B',hb',h'⟩,hk,hw⟩,hT,_⟩:=hr;have hle:=hk.s.length_le;refine aW.need za (.some ?_);rw [Io hk.s];have hB':=(h.more (B':=max B B') za);obtain ⟨k1,k2⟩:=(h'.more (B':=max B B') za).scope hB' hk;refine ⟨⟨⟨⟨max B B',za,k1⟩,k2,hw⟩,rfl⟩,λe=>?_⟩;obtain ⟨ss,e1,e2,e3,e4⟩:=hT e;rw [wN] at e1;rw [e1];exact ⟨⟨_,e2⟩,e3,e4⟩
def OkLp (N n:Nat) (f:aG->aH->aB->aA->Option (aA × aG × aH)):Prop:=∀B c w x st,CI N B c->WS x->x.bF=12->sz x<=20000->(B:Int)+sz x<=1073741824->3*sz x+20300<=n->(∃a,st=⟨[],-1,0,[],[],[],a⟩)->∀b,aW (f c w x st) λr=>Lv2 N B (sz x) c w r.2.1 r.2.2/\St1 c r.2.1 r.2.2 b r.1 x
theorem WS.inv12 {x:Nd} (h:WS x) (k:x.bF=12):∃a s y z b ys,x=⟨12,a,s,0,[y,z,⟨4,b,[],0,ys⟩]⟩/\WE y/\WE z/\∀u ∈ ys,WS u:=by
 cases h with
 | loop h1 h2 h3=>exact ⟨_,_,_,_,_,_,rfl,h1,h2,h3⟩
 | bind hk _=>rcases hk with rfl | rfl <;> simp at k
 | _=>simp at k
theorem cloop_b {fb:aG->aH->aB->Bool->Option ((List aA) × aG × aH)} (hf:OkBk N n fb):OkLp N (n+1) (nT fb n):=by
 rintro B c w x st h hx hk hs hB hn ⟨sa,rfl⟩ bl;obtain ⟨a,s,y,z,b,ys,rfl,hy,hz,hys⟩:=hx.inv12 hk;rw [iN,KT,iN] at hs hB hn ⊢;have h1:=rH y;have h2:=rH z;have h3:=pD ys;unfold nT;refine aW.eqn (v:=y) rfl ((uI (w:=w) h hy za za).bind λr1 hr1=>?_);refine aW.eqn (v:=z) rfl ((uI (w:=r1.2) h hz za za).bind λr2 hr2=>?_);refine (uH (w:=r2.2) h za λ_=>Tn).bind λd hd=>?_;obtain ⟨d1,d2,d3,d4,d5,d6⟩:=hd;refine aW.eqn (v:=⟨4,b,[],0,ys⟩) rfl ((hf B _ _ _ false d1 hys yz yz yz).bind λq hq=>?_);obtain ⟨⟨⟨⟨B',hb',h'⟩,hk',hw'⟩,hsc⟩,hT⟩:=hq;have hkk:=d2.trans hk';have hle:=hkk.s.length_le;refine aW.need za (.some ?_);have hmin:(min (c.bI.length:Int) (q.2.1.bI.length:Int)).toNat=c.bI.length:=za
 rw [hmin,Io hkk.s];simp only at hb';obtain ⟨k1,k2⟩:=(h'.more (B':=max B B') za).scope (h.more (B':=max B B') za) hkk;refine ⟨⟨⟨max B B',za,k1⟩,k2,hr1.1.wk.trans (hr2.1.wk.trans (WK.trans (λe=>(d5 e).1) hw'))⟩,λe=>?_⟩;have ed:d.2.2.e_=0:=by rw [←hw' e];exact e
 obtain ⟨g1,g2,g3,g4⟩:=d5 ed;have e2:r2.2.e_=0:=by rw [←g1];exact ed
 have e1:r1.2.e_=0:=by rw [←hr2.1.wk e2];exact e2
 obtain ⟨⟨sc',hT1⟩,_,hZ⟩:=hT e;rw [d2.res h,g3,g4,nB,tF] at hT1;have hv:uB c <+: uB q.2.1:=hkk.v;have hu:(uB q.2.1)[(uB c).length]? = some ⟨s,1,0⟩:=Ga hk'.v (by rw [g3];exact Fq);simp only;rw [g2];refine ⟨.for_ ((hr1.1 e1).2.1.mono hv λ_ h=>h) (hr1.2 e1) ((hr2.1 e2).2.1.mono hv λ_ h=>h) (hr2.2 e2) hu rfl hT1 .nil,?_⟩;rw [qC,iN,KT,iN];simp only [oY,uS];simp only at hZ;have:=(hr1.1 e1).2.2;have:=(hr2.1 e2).2.2;omega
end
section
variable {N B n:Nat} {c:aG} {w:aH}
theorem Lv2.one {k:Int} {c':aG} {w':aH} (hk:1<=k) (h:CI N (B+1) c'/\Kp c c'/\WK w w'):Lv2 N B k c w c' w':=⟨⟨B+1,za,h.1⟩,h.2⟩
theorem Lv2.zero {k:Int} {c':aG} {w':aH} (hk:0<=k) (h:CI N B c') (h2:Kp c c') (h3:WK w w'):Lv2 N B k c w c' w':=⟨⟨B,za,h⟩,h2,h3⟩
theorem Uk {a:Int} (h:yR (i64.wrap (min a 1025))):yR (i64.wrap a):=by
 by_cases h1:a<=1025
 ·rwa [show min a 1025=a by omega] at h
 ·rw [show min a 1025=1025 by omega,show i64.wrap 1025=1025 by decide] at h;exact dE h (by unfold yR;omega)
theorem cstmt_b {fb:aG->aH->aB->Bool->Option ((List aA) × aG × aH)} {fl:aG->aH->aB->aA->Option (aA × aG × aH)} (hf:OkBk N n fb) (hl:OkLp N n fl):OkSm N (n+1) (kK fb fl n):=by
 intro B c w x b h hx hs hB hn;have hp:=rH x;unfold kK;cases hx with
 | bind hk hy=>
   rw [iN,sT] at hs hB hn hp ⊢
   rcases hk with rfl | rfl
   ·simp only [Int.reduceBEq,Bt,if_false,if_true];refine aW.eqn rfl ((uI (w:=w) h hy za za).bind λr hr=>?_);refine (uH (w:=r.2) h za λ_=>Tn).bind λd hd=>.some ⟨.zero za hd.1 hd.2.1 (hr.1.wk.trans λe=>(hd.2.2.2.2.1 e).1),λe=>?_,λ_ h=>dE h zb⟩;obtain ⟨d1,d2,d3,d4⟩:=hd.2.2.2.2.1 e;have er:r.2.e_=0:=by rw [←d1];exact e
    simp only;rw [d2,d3,d4,nB,tF];exact ⟨.let_ ((hr.1 er).2.1.mono (GR _ _) λ_ h=>h) (hr.2 er) Fq rfl .nil,by rw [qC,iN,sT];simp only [uS,oY];have:=(hr.1 er).2.2;omega⟩
   ·simp only [Int.reduceBEq,Bt,if_false,if_true];exact (Pz h za rfl hy za za za).bind λr hr=>.some ⟨.one za ⟨hr.1,hr.2.1,hr.2.2.1⟩,hr.2.2.2,λ_ h=>dE h zb⟩
 | arr=>
   rw [iN,oF] at hs hB hn hp ⊢;simp only [Int.reduceBEq,Bt,if_false,if_true];refine KW.bind λk hk=>?_;rw [oX];refine (uH (w:=MN w k 136 _) h za λe=>Tm ?_).bind λd hd=>.some ⟨.zero za hd.1 hd.2.1 ((WK.nd).trans λe=>(hd.2.2.2.2.1 e).1),λe=>?_,λ_ h=>dE h zb⟩
   ·exact Uk (hk (gD (k:=136) zb e).2.1)
   ·obtain ⟨d1,d2,d3,d4⟩:=hd.2.2.2.2.1 e;simp only;rw [d2,d3,d4,nB,tF];exact ⟨.arr Fq rfl .nil,by rw [qC,iN,oF];simp only [uS,oY];omega⟩
 | ret hy=>
   rw [iN,sT] at hs hB hn hp ⊢;simp only [Int.reduceBEq,Bt,if_false,if_true];exact (Sp h za rfl hy za za za).bind λr hr=>.some ⟨.one za ⟨hr.1,hr.2.1,hr.2.2.1⟩,hr.2.2.2.1,λe _=>hr.2.2.2.2 e⟩
 | loop h1 h2 h3=>
   simp only [Int.reduceBEq,Bt,if_false,if_true];exact (hl B c w _ _ h (.loop h1 h2 h3) rfl hs hB za ⟨_,rfl⟩ b).bind λr hr=>.some ⟨hr.1,hr.2,λ_ h=>dE h zb⟩
 | set hy=>
   rw [iN,sT] at hs hB hn hp ⊢;simp only [Int.reduceBEq,Bt,if_false,if_true];exact (UR h za rfl hy za za za).bind λr hr=>.some ⟨.one za ⟨hr.1,hr.2.1,hr.2.2.1⟩,hr.2.2.2,λ_ h=>dE h zb⟩
 | put hi hy=>
   rw [iN,Im] at hs hB hn hp ⊢;rename_i i0 y0;have p1:=rH i0;have p2:=rH y0;simp only [Int.reduceBEq,Bt,if_false,if_true];exact (US h rfl hi hy za za za za).bind λr hr=>.some ⟨.zero za h (.refl c) hr.1,hr.2,λ_ h=>dE h zb⟩
 | call hy=>
   rw [iN] at hs hB hn hp ⊢;simp only [Int.reduceBEq,Bt,if_false,if_true];refine (Gh h za hy yz yz za).bind λr hr=>.some ⟨.one za ⟨hr.1,hr.2.1,hr.2.2.2.2.1⟩,λe=>?_,λ_ h=>dE h zb⟩;obtain ⟨h1,h2,h3,h4,h5,h6⟩:=hr;obtain ⟨f0,f1,f,zs,e1,e2,e3,e4,e9⟩:=h6 e;have hvs:uB r.2.1=uB c:=by unfold uB;rw [h4,h2.f]
   simp only;rw [e1,hvs,h3];exact ⟨.do_ e3 e4 .nil,by rw [qC,iN];simp only [uS];simp only at e9;omega⟩
 | choice h1 h2=>
   rw [iN,Im,iN] at hs hB hn hp ⊢;rename_i c0 b0 ys;have p1:=rH c0;have p2:=pD ys;simp only [Int.reduceBEq,Bt,if_false,if_true];refine aW.eqn (v:=c0) rfl ((uI (w:=w) h h1 za za).bind λr hr=>?_);refine aW.eqn (v:=⟨4,b0,[],0,ys⟩) rfl ((hf B c _ _ false h h2 yz yz yz).bind λq hq=>?_);obtain ⟨⟨⟨⟨B',hb',h'⟩,hk',hw'⟩,hsc⟩,hT⟩:=hq;simp only at hb';refine aW.need zc ?_;obtain ⟨m,rfl⟩:∃m,n=m+1:=⟨n - 1,za⟩;unfold gU;refine .some ⟨⟨⟨B',za,h'⟩,hk',hr.1.wk.trans hw'⟩,λe=>?_,λ_ h=>dE h zb⟩;have er:r.2.e_=0:=by rw [←hw' e];exact e
   obtain ⟨⟨sc',hT1⟩,_,hZ⟩:=hT e;simp only;rw [hsc];refine ⟨.if_ ((hr.1 er).2.1.mono hk'.v λ_ h=>h) (hr.2 er) hT1 .nil .nil,?_⟩;rw [qC,iN,Im,iN];simp only [oY,uS];simp only at hZ;have:=(hr.1 er).2.2;omega
 | choice2 h1 h2 h4=>
   rw [iN,KT,iN,iN] at hs hB hn hp ⊢;rename_i c0 b0 ys b1 zs;have p1:=rH c0;have p2:=pD ys;have p3:=pD zs;simp only [Int.reduceBEq,Bt,if_false,if_true];refine aW.eqn (v:=c0) rfl ((uI (w:=w) h h1 za za).bind λr hr=>?_);refine aW.eqn (v:=⟨4,b0,[],0,ys⟩) rfl ((hf B c _ _ false h h2 yz yz yz).bind λq hq=>?_);obtain ⟨⟨⟨⟨B',hb',h'⟩,hk',hw'⟩,hsc⟩,hT⟩:=hq;simp only at hb';refine aW.need zc ?_;obtain ⟨m,rfl⟩:∃m,n=m+1+1:=⟨n - 2,za⟩;unfold gU;refine aW.bind' ?_;refine aW.iteb (λ_=>?_) (λhc=>by simp at hc);refine aW.eqn (v:=⟨4,b1,[],0,zs⟩) rfl ((hf B' q.2.1 _ _ false h' h4 yz yz yz).bind λq2 hq2=>?_);obtain ⟨⟨⟨⟨B2,hb2,h5⟩,hk2,hw2⟩,hsc2⟩,hT2⟩:=hq2;simp only at hb2;unfold gU;refine .some (.some ⟨⟨⟨B2,za,h5⟩,hk'.trans hk2,hr.1.wk.trans (hw'.trans hw2)⟩,λe=>?_,λ_ h=>dE h zb⟩);have eq:q.2.2.e_=0:=by rw [←hw2 e];exact e
   have er:r.2.e_=0:=by rw [←hw' eq];exact eq
   obtain ⟨⟨sc1,hT1⟩,_,hZ⟩:=hT eq;obtain ⟨⟨sc2,hT3⟩,_,hZ2⟩:=hT2 e;rw [hk'.res h,hsc] at hT3;simp only;rw [hsc2,hsc];refine ⟨.if_ ((hr.1 er).2.1.mono (hk'.trans hk2).v λ_ h=>h) (hr.2 er) (hT1.mono (λ_ _ _ h=>Kp.sg h' hk2 h) hk2.v) hT3 .nil,?_⟩;rw [qC,iN,KT,iN,iN];simp only [oY,uS];simp only at hZ hZ2;have:=(hr.1 er).2.2;omega
theorem NU:∀n:Nat,OkBk N n (eQ n).1/\OkSm N n (eQ n).2.1/\OkLp N n (eQ n).2.2
 | 0=>⟨λB c w x b _ _ _ _ h=>by have:=pD x.aM;omega,λB c w x b _ _ _ _ h=>by have:=rH x;omega,λB c w x st _ _ _ _ _ h _ _=>by have:=rH x;omega⟩
 | n+1=>by
   obtain ⟨g1,g2,g3⟩:=NU n;exact ⟨Vb g2,cstmt_b g1 g3,cloop_b g1⟩
end
structure CO (N B:Nat) (c:aG):Prop where
 nf:c.p_.aU.length=N
 nN:N<=16384
 vl:∀f ∈ c.p_.aU,f.aO.length<=250/\0<=f.aQ/\f.aQ<=f.aO.length
 nc:c.cJ.length=N
 cl:∀l ∈ c.cJ,l.length<=B/\∀k ∈ l,0<=k/\k<N
 ki:∀f ∈ c.p_.aU,(∀v ∈ f.aO,sE v)/\(f.bV=0 ∨ f.bV=2 ∨ f.bV=3)
def rJ (k:Nat):List Int:=(List.range k).map Int.ofNat
theorem No (k:Nat):rJ (k+1)=rJ k++[(k:Int)]:=by
 unfold rJ;rw [List.range_succ,xds];rfl
theorem Jr (k:Nat):(rJ k).length=k:=by unfold rJ;simp
theorem GI {k:Nat} {v:Int} (h:v ∈ rJ k):0<=v/\v<k:=by
 unfold rJ at h;obtain ⟨i,h1,rfl⟩:=Iw.1 h;have:=Te.1 h1;have h2:Int.ofNat i=(i:Int):=rfl;omega
def Ck:List aJ->Int->Int
 | [],n=>n
 | v::l,n=>Ck l (if v.bF=3 then n+(n % 2+1)+1 else n+1)
theorem Th {f:aP} (hl:(f.aO.take f.aQ.toNat).length<=250):∀(k v:Nat) (a:Int),(f.aO.take f.aQ.toNat).length<v+k->v<=(f.aO.take f.aQ.toNat).length->0<=a->a<=4*(v:Int)->oA f k a (v:Int)=some (Ck ((f.aO.take f.aQ.toNat).drop v) a):=by
 intro k
 induction k with
 | zero=>intro v a h1 h2;omega
 | succ k ih=>
   intro v a h1 h2 h3 h4;unfold oA
   by_cases hv:v<(f.aO.take f.aQ.toNat).length
   ·rw [cG (vO za)];have hd:(f.aO.take f.aQ.toNat).drop v=(f.aO.take f.aQ.toNat)[v]::(f.aO.take f.aQ.toNat).drop (v+1):=On hv;have e:aS (f.aO.take f.aQ.toNat) (v:Int)=some (f.aO.take f.aQ.toNat)[v]:=by unfold aS;rw [cG za,wR,tS hv]
    rw [hd,e];simp only [nA,Ck,beq_iff_eq];have h5:=Int.emod_nonneg a (show (2:Int) ≠ 0 by decide);have h6:=Int.emod_lt_of_pos a (show (0:Int)<2 by decide);rw [fD (n:=(v:Int)+1) za za,show ((v:Int)+1)=((v+1:Nat):Int) by omega]
    split
    ·rw [Int.tmod_eq_emod_of_nonneg h3,fD (n:=a % 2+1) za za,fD (n:=a+(a % 2+1)) za za,fD za za];exact ih (v+1) _ za za za za
    ·rw [fD za za];exact ih (v+1) _ za za za za
   ·rw [bU (by rw [GC];omega),xea za];rfl
theorem Ti {f:aP} {n:Nat} (h1:f.aO.length<=250) (h2:0<=f.aQ) (h3:f.aQ<=f.aO.length) (hn:300<n):sO n f=some (Ck (f.aO.take f.aQ.toNat) 0):=by
 have hl:(f.aO.take f.aQ.toNat).length<=250:=by rw [EC];omega
 unfold sO;rw [FW ⟨h2,h3⟩];have:=Th hl n 0 0 za za za za;rw [show ((0:Nat):Int)=0 from rfl,sR] at this;rw [this];rfl
section
variable {N B n:Nat} {c:aG} {w:aH}
theorem CO.ci (h:CO N B c) {i:Int} (h0:0<=i) (h1:i<N) {f:aP} (hf:c.p_.aU[i.toNat]? = some f) {s:List Int} (hs:∀v ∈ s,0<=v/\v<f.aO.length) (hl:s.length<=f.aO.length):CI N B { c with f_:=i,bI:=s,fU:=i }:=by
 have hv:uB { c with f_:=i,bI:=s,fU:=i }=f.aO:=by unfold uB;simp only [hf];rfl
 exact ⟨h.nf,h.nN,h0,h1,h0,h1,by rw [hv];exact hs,by rw [hv];exact hl,h.vl,h.nc,h.cl,h.ki⟩
theorem UO (h:CO N B c) {i:Int} (h0:0<=i) (h1:i<N) {f:aP} (hf:c.p_.aU[i.toNat]? = some f) (hm:f ∈ c.p_.aU):∀(k v:Nat),f.aQ<v+k->(v:Int)<=f.aQ->aW (iW f k (v:Int) { c with f_:=i,bI:=rJ v,fU:=i }) λr=>CI N B r/\r={ c with f_:=i,bI:=rJ f.aQ.toNat,fU:=i }:=by
 have hp:=h.vl f hm;intro k
 induction k with
 | zero=>intro v h2 h3;omega
 | succ k ih=>
   intro v h2 h3;unfold iW
   by_cases hv:(v:Int)<f.aQ
   ·rw [cG (vO hv)];refine aW.need (by simp only [Jr];omega) ?_;rw [fD za za,show ((v:Int)+1)=((v+1:Nat):Int) by omega];have:=ih (v+1) za za;rw [No] at this;exact this
   ·rw [bU (by simpa using hv)];have hv2:v=f.aQ.toNat:=za
    subst hv2;refine .some ⟨h.ci h0 h1 hf (λu hu=>?_) (by rw [Jr];omega),rfl⟩;have:=GI hu;omega
theorem Lr (h:CO N B c) {i:Int} (h0:0<=i) (h1:i<N) (hn:300<n) {f:aP} (hf:aS c.p_.aU i=some f):aW (mD n c w i) λr=>CI N B r.1/\r.2=w/\r.1={ c with f_:=i,bI:=rJ f.aQ.toNat,fU:=i }:=by
 unfold mD;obtain ⟨f',e,e2,hm⟩:=oN (l:=c.p_.aU) h0 (by rw [h.nf];exact h1);rw [hf] at e;cases e
 rw [hf];simp only [nA];have hp:=h.vl f hm;have e3:=UO h h0 h1 e2 hm n 0 za za;change aW (iW f n 0 { c with f_:=i,bI:=[],fU:=i }) _ at e3;exact e3.bind λr hr=>.some ⟨hr.1,rfl,hr.2⟩
theorem Pt {xs:List Nd} (hx:∀x ∈ xs,WP x) (hs:xs.length<=20000) (hn:300<n):∀(k v:Nat) (c:aG) (w:aH),xs.length<v+k->v<=xs.length->CI N B c->aW (jP n xs k (v:Int) c w) λr=>CI N B r.1/\Kp c r.1/\WK w r.2/\r.1.cJ=c.cJ:=by
 intro k
 induction k with
 | zero=>intro v c w h1 h2;omega
 | succ k ih=>
   intro v c w h1 h2 h;unfold jP
   by_cases hv:v<xs.length
   ·rw [cG (vO za)];refine aW.bind (P:=λr=>CI N B r.1/\Kp c r.1/\WK w r.2/\r.1.cJ=c.cJ) ?_ λr hr=>?_
    ·obtain ⟨x,e,_,hxm⟩:=oN (l:=xs) (i:=(v:Int)) za za;rw [e];simp only [nA];cases hx x hxm with
     | @word a s k hk=>
       have hk3:i64.wrap k=k/\1<=k/\k<=3:=by rcases hk with rfl | rfl | rfl <;> decide
       refine aW.bind (P:=λb=>b=false) (aW.iteb (λ_=>.some rfl) (λ_=>.some rfl)) λb hb=>?_;subst hb;refine aW.iteb (λh=>nomatch h) λ_=>(uH (w:=w) h hn λ_=>?_).bind λd hd=>.some ⟨hd.1,hd.2.1,λe=>(hd.2.2.2.2.1 e).1,hd.2.2.1⟩;simp only [hk3.1];exact OG hk3.2.1 hk3.2.2
     | @arr a s b n1=>
       have w4:i64.wrap 4=4:=zb
       simp only [w4,Int.reduceBEq,if_true,tF,Int.natCast_one,Int.reduceLT,decide_true,nA];refine aW.eqn (v:=⟨14,b,[],n1,[]⟩) rfl (KW.bind λb2 hb2=>?_);rw [oX];exact (uH (w:=MN w b2 136 _) h hn λe=>Tm (hb2 (gD (k:=136) zb e).2.1)).bind λd hd=>.some ⟨hd.1,hd.2.1,WK.trans WK.nd λe=>(hd.2.2.2.2.1 e).1,hd.2.2.1⟩
    ·rw [fD za za,show ((v:Int)+1)=((v+1:Nat):Int) by omega];exact (ih (v+1) _ _ za za hr.1).mono λq hq=>⟨hq.1,hr.2.1.trans hq.2.1,hr.2.2.1.trans hq.2.2.1,hq.2.2.2.trans hr.2.2.2⟩
   ·rw [bU (by simp;omega)];exact .some ⟨h,.refl c,.refl w,rfl⟩
theorem Tj {x:Nd} (h:WF x):∃ps b,x.aM=ps++[b]/\(∀p ∈ ps,WP p)/\(∀y ∈ b.aM,WS y)/\b=⟨4,b.fV,[],0,b.aM⟩:=by
 cases h with
 | fn h1 h2=>exact ⟨_,_,rfl,h1,h2,rfl⟩
theorem Qp {α:Type} {ps:List α} {b:α} (h:(ps++[b]).length<=20000):(max (i64.wrap (((ps++[b]).length:Int) - 1)) 0)=(ps.length:Int):=by
 simp only [nB,tF] at *;rw [fD za za];omega
theorem Kp.body {c':aG} (h:CI N B c) (k:Kp c c') {f:aP} (e:aS c.p_.aU c.f_=some f) {f':aP} (e':aS c'.p_.aU c'.f_=some f'):f'.gS=f.gS/\f'.eC=f.eC/\f'.bV=f.bV/\f'.aQ=f.aQ/\f.aO <+: f'.aO:=by
 obtain ⟨f2,e2,g1,g2,g3,g4,g5,_⟩:=k.fn h e;rw [k.f] at e';rw [e'] at e2;cases e2
 exact ⟨g1,g2,g3,g4,g5⟩
theorem Sl (h:CO N B c) {i:Int} (h0:0<=i) (h1:i<N) (hn:20300<n) {f:aP} (hf:aS c.p_.aU i=some f) (hb:f.bR=[]) {x:Nd} (hx:WF x) (hs:x.aM.length<=20000):aW (lB n c w i x) λr=>CO N B r.1/\WK w r.2/\r.1.cJ=c.cJ/\(∀j:Nat,j ≠ i.toNat->r.1.p_.aU[j]? = c.p_.aU[j]?)/\∃f',aS r.1.p_.aU i=some f'/\f'.gS=f.gS/\f'.eC=f.eC/\f'.bV=f.bV/\f'.aQ=f'.aO.length/\(r.2.e_=0->f'.eC=true->Ck f'.aO 0<=4):=by
 obtain ⟨ps,b,hl,hps,_,_⟩:=Tj hx;have hla:=Qp (ps:=ps) (b:=b) (by rw [←hl];exact hs);rw [←hl] at hla;unfold lB;refine (Lr (w:=w) h h0 h1 za hf).bind λr hr=>?_;obtain ⟨g1,g2,g3⟩:=hr;rw [hla];have hll:x.aM.length=ps.length+1:=by rw [hl];simp
 refine aW.need ⟨za,za⟩ ?_;rw [wR,show x.aM.take ps.length=ps by rw [hl];simp];unfold qL;refine aW.bind (P:=λq=>CO N B q.1/\WK w q.2/\q.1.f_=i/\q.1.cJ=c.cJ/\(∀j:Nat,j ≠ i.toNat->q.1.p_.aU[j]? = c.p_.aU[j]?)/\∃f',aS q.1.p_.aU i=some f'/\f'.gS=f.gS/\f'.eC=f.eC/\f'.bV=f.bV/\f'.aQ=f'.aO.length) ?_ λq hq=>?_
 ·refine (Pt hps za za n 0 r.1 r.2 za za g1).bind λq hq=>?_;obtain ⟨k1,k2,k3,k4⟩:=hq;obtain ⟨f2,ef2,hm2,hv2,e2⟩:=k1.cur;rw [e2];simp only [nA];have hqf:q.1.f_=i:=by rw [k2.f,g3]
  have hrf:aS r.1.p_.aU r.1.f_=some f:=by rw [g3];exact hf
  obtain ⟨b1,b2,b3,b4,b5⟩:=k2.body g1 hrf e2;have hlt:q.1.f_.toNat<q.1.p_.aU.length:=(sG.1 ef2).1;refine .some ⟨⟨by simp only [yS];exact k1.nf,k1.nN,λg hg=>?_,k1.nc,k1.cl,λg hg=>?_⟩,by rw [←g2];exact k3,hqf,by rw [k4,g3],λj hj=>?_,{ f2 with aQ:=(f2.aO.length:Int) },?_,b1,b2,b3,rfl⟩
  ·rcases KM hg with hg | rfl
   ·exact k1.vl g hg
   ·have:=k1.vl f2 hm2;simp only;omega
  ·rcases KM hg with hg | rfl
   ·exact k1.ki g hg
   ·exact k1.ki f2 hm2
  ·simp only;rw [MM (by rw [hqf];omega),k2.o j (by rw [g3];exact hj),g3]
  ·unfold aS;rw [cG h0];simp only
   rw [←hqf,Ki hlt]
 ·obtain ⟨k1,k2,k3,k4,k5,f',k6,k7,k8,k9,k10⟩:=hq;refine aW.iteb (λhe=>?_) (λhe=>.some ⟨k1,k2,k4,k5,f',k6,k7,k8,k9,k10,λe=>dE e (by simpa using he)⟩);rw [k3,k6];simp only [nA,oX];refine aW.bind' (aW.iteb (λhx=>.some (.some ⟨k1,k2.trans WK.nd,k4,k5,f',k6,k7,k8,k9,k10,λ_ hx2=>?_⟩)) (λhx=>?_))
  ·rw [hx2] at hx;cases hx
  ·have hm:f' ∈ q.1.p_.aU:=by
    unfold aS at k6;rw [cG h0] at k6;exact zX k6
   have hv:=k1.vl f' hm;rw [Ti hv.1 hv.2.1 hv.2.2 za];refine .some (.some ⟨k1,k2.trans WK.nd,k4,k5,f',k6,k7,k8,k9,k10,λe _=>?_⟩);have:=(gD (k:=136) zb e).2.1;rw [k10,wR,xek] at this;exact EG this
def Hb (c:aG) (i:Nat):Hz:=λk r ps=>(∃l,c.cJ[i]? = some l/\k ∈ l)/\∃f,aS c.p_.aU k=some f/\r=f.bV/\ps=f.aO.take f.aQ.toNat
structure TF (sg:Hz) (f:aP):Prop where
 body:∃sc',TB sg f.aO f.bV true f.aQ.toNat (rJ f.aQ.toNat) f.bR f.aO.length sc'
 ret:f.bV ≠ 0->∃s,f.bR.getLast? = some s/\FG s
theorem Nn {b:Nd} (hl:b.aM.length<=20000):aW (vH b) λr=>r=true->∃y,b.aM.getLast? = some y/\y.bF=13:=by
 unfold vH;refine aW.bind (P:=λr=>r=true->∃y,b.aM.getLast? = some y/\y.bF=13) (aW.iteb (λh=>?_) (λ_=>.some λh=>Bool.noConfusion h)) λr hr=>.some hr;have h0:0<b.aM.length:=by have:=EG h;omega
 rw [fD za za];obtain ⟨y,e,e2,_⟩:=oN (l:=b.aM) (i:=(b.aM.length:Int) - 1) za za;rw [e];refine .some λh=>⟨y,?_,by simpa using h⟩;rw [List.getLast?_eq_getElem?,←e2]
 congr 1
 omega
theorem Sm (h:CO N B c) {i:Int} (h0:0<=i) (h1:i<N) {f:aP} (hf:aS c.p_.aU i=some f) (hp:f.aQ=f.aO.length) {x:Nd} (hx:WF x) (hs:sz x<=20000) (hB:(B:Int)+sz x<=1073741824) (hn:90000<=n):aW (lD n c w i x) λr=>(∃B':Nat,(B':Int)<=B+sz x/\CO N B' r.1)/\WK w r.2/\(∀j:Nat,j ≠ i.toNat->r.1.p_.aU[j]? = c.p_.aU[j]? /\ r.1.cJ[j]? = c.cJ[j]?)/\∃f',aS r.1.p_.aU i=some f'/\f'.gS=f.gS/\f'.eC=f.eC/\f'.bV=f.bV/\f'.aQ=f.aQ/\f.aO <+: f'.aO/\(r.2.e_=0->TF (Hb r.1 i.toNat) f'/\(uS f'.bR:Int)<=sz x):=by
 obtain ⟨ps,b,hl,_,hbs,hbe⟩:=Tj hx;have hz:=EV x;have hlen:=pD x.aM;have hla:=Qp (ps:=ps) (b:=b) (by rw [←hl];omega);rw [←hl] at hla;have hbz:=Jk (l:=x.aM) (k:=b) (by rw [hl];simp);have hbq:=EV b;have hbg:=pD b.aM;unfold lD;refine (Lr (w:=w) h h0 h1 za hf).bind λr hr=>?_;obtain ⟨g1,g2,g3⟩:=hr;have hll:x.aM.length=ps.length+1:=by rw [hl];simp
 rw [hla];refine aW.need ⟨za,za⟩ ?_;obtain ⟨m,rfl⟩:∃m,n=m+1+1:=⟨n - 2,za⟩;unfold jG;rw [hla,wR,show x.aM.drop ps.length=[b] by rw [hl];simp];have hrf:r.1.f_=i:=by rw [g3]
 refine aW.bind' ?_;rw [cG (by rw [tF];decide)];refine aW.eqn (v:=b) rfl ?_;obtain ⟨f0,ef0,hm0,hv0,e0⟩:=g1.cur;have e0f:aS r.1.p_.aU r.1.f_=some f:=by rw [g3];exact hf
 rw [e0];rw [e0f] at e0;cases e0
 simp only [nA];refine ((NU (m+1+1)).1 B r.1 r.2 b true g1 hbs za za za).bind λq hq=>?_;obtain ⟨⟨⟨⟨B',hb',h'⟩,hk,hw⟩,hsc⟩,hT⟩:=hq;obtain ⟨f2,ef2,hm2,hv2,e2⟩:=h'.cur;obtain ⟨b1,b2,b3,b4,b5⟩:=hk.body g1 e0f e2;have hqf:q.2.1.f_=r.1.f_:=hk.f;rw [hqf] at e2 ef2;rw [e2];simp only [nA];have hlt:r.1.f_.toNat<q.2.1.p_.aU.length:=(sG.1 ef2).1
 have e3:aS (q.2.1.p_.aU.set r.1.f_.toNat { f2 with bR:=q.1 }) r.1.f_=some { f2 with bR:=q.1 }:=by
  unfold aS;rw [cG (by rw [hrf];exact h0),Ki hlt]
 rw [e3];simp only [nA,oX]
 have hout:∀w2:aH,WK q.2.2 w2->(w2.e_=0->f.bV ≠ 0->∃s,q.1.getLast? = some s/\FG s)->aW (jG (m+1+1) x (m+1) (i64.wrap ((0:Int)+1)) { q.2.1 with p_:=⟨q.2.1.p_.aU.set r.1.f_.toNat { f2 with bR:=q.1 }⟩ } w2) (λx_1=>aW (some (x_1.1,x_1.2)) λr=>(∃B':Nat,(B':Int)<=B+sz x/\CO N B' r.1)/\WK w r.2/\(∀j:Nat,j ≠ i.toNat->r.1.p_.aU[j]? = c.p_.aU[j]? /\ r.1.cJ[j]? = c.cJ[j]?)/\∃f',aS r.1.p_.aU i=some f'/\f'.gS=f.gS/\f'.eC=f.eC/\f'.bV=f.bV/\f'.aQ=f.aQ/\f.aO <+: f'.aO/\(r.2.e_=0->TF (Hb r.1 i.toNat) f'/\(uS f'.bR:Int)<=sz x)):=by
  intro w2 hw2 hret;unfold jG;rw [hla,wR,show x.aM.drop ps.length=[b] by rw [hl];simp,bU (by rw [tF];decide)];refine .some (.some ⟨⟨B',za,by simp only [yS];exact h'.nf,h'.nN,λg hg=>?_,h'.nc,h'.cl,λg hg=>?_⟩,by rw [←g2];exact hw.trans hw2,λj hj=>⟨?_,?_⟩,{ f2 with bR:=q.1 },?_,b1,b2,b3,b4,b5,λe=>⟨⟨?_,?_⟩,by have:=(hT (by rw [←hw2 e];exact e)).2.2;simp only;omega⟩⟩)
  ·rcases KM hg with hg | rfl
   ·exact h'.vl g hg
   ·exact h'.vl f2 hm2
  ·rcases KM hg with hg | rfl
   ·exact h'.ki g hg
   ·exact h'.ki f2 hm2
  ·simp only;rw [MM (by rw [hrf];omega),hk.o j (by rw [hrf];exact hj),g3]
  ·simp only;rw [hk.k j (by rw [g3];exact hj),g3]
  ·rw [←hrf];exact e3
  ·obtain ⟨⟨sc',hTB⟩,_⟩:=hT (by rw [←hw2 e];exact e);rw [g1.res e0f,hv0,hv2,g3] at hTB;simp only at hTB;have hpp:f.aO.length=f2.aQ.toNat:=by rw [b4,hp,wR]
   rw [hpp,←b4,←b3] at hTB;refine ⟨sc',TB.mono (λk r' ps' hsg=>?_) (Ig _) hTB⟩;obtain ⟨⟨l,el,hkl⟩,f3,ef3,rfl,rfl⟩:=hsg;have hat:q.2.1.fU=i:=by rw [hk.a,g3]
   rw [hat] at el;unfold aS at el;rw [cG h0] at el;refine ⟨⟨l,el,hkl⟩,?_⟩
   by_cases hki:k=r.1.f_
   ·subst hki;rw [e2] at ef3;cases ef3
    exact ⟨_,e3,rfl,rfl⟩
   ·refine ⟨f3,?_,rfl,rfl⟩;unfold aS at ef3 ⊢
    split at ef3
    ·rename_i hk0;rw [cG hk0,MM (by rw [hrf] at hki ⊢;omega)];exact ef3
    ·cases ef3
  ·simp only [b3];exact hret e
 refine aW.bind' (aW.iteb (λhr0=>.some (hout _ WK.nd λe hne=>?_)) (λhr0=>?_))
 ·exact dE (by rw [beq_iff_eq] at hr0;rw [←b3];exact hr0) hne
 ·refine (Nn (b:=b) za).bind λrb hrb=>.some (hout _ WK.nd λe hne=>?_);obtain ⟨k1,k2,_⟩:=gD (k:=135) zb e;obtain ⟨y,hy1,hy2⟩:=hrb k2;exact (hT k1).2.1 y hy1 hy2
end
def tT (seen:List Int):Nat:=seen.countP (· == 0)
theorem Pu {l:List Int} {i:Nat} {v:Int} (h:l[i]? = some 0) (hv:v ≠ 0):tT (l.set i v)+1=tT l:=by
 unfold tT
 induction l generalizing i with
 | nil=>cases h
 | cons x l ih=>
   cases i with
   | zero=>
     simp only [KJ,Option.some.injEq] at h;subst h;rw [GD,ST,ST];simp [hv]
   | succ i=>
     simp only [ED] at h;have:=ih h;rw [Ii,ST,ST];omega
theorem NT {l:List Int} {i:Nat} {v w:Int} (h:l[i]? = some w) (hv:v ≠ 0) (hw:w ≠ 0):tT (l.set i v)=tT l:=by
 unfold tT
 induction l generalizing i with
 | nil=>cases h
 | cons x l ih=>
   cases i with
   | zero=>
     simp only [KJ,Option.some.injEq] at h;subst h;rw [GD,ST,ST];simp [hv,hw]
   | succ i=>
     simp only [ED] at h;have:=ih h;rw [Ii,ST,ST];omega
def EN (seen:List Int) (k:Int):Prop:=∃v,aS seen k=some v/\v ≠ 0
def SF (c:aG) (to:Int) (seen:List Int) (k:Int):Prop:=∀l,aS c.cJ k=some l->∀j ∈ l,j ≠ to/\EN seen j
theorem EN.set {seen:List Int} {k j v:Int} (hv:v ≠ 0) (h:EN seen k) (hj:j.toNat<seen.length):EN (seen.set j.toNat v) k:=by
 obtain ⟨x,h1,h2⟩:=h;unfold aS at h1
 split at h1
 ·rename_i h0
  by_cases e:j.toNat=k.toNat
  ·exact ⟨v,by unfold aS;rw [cG h0,←e,Ki hj],hv⟩
  ·exact ⟨x,by unfold aS;rw [cG h0,MM e];exact h1,h2⟩
 ·cases h1
theorem EN.unset {seen:List Int} {k j v:Int} (h:EN (seen.set j.toNat v) k) (hj:0<=j):EN seen k ∨ k=j:=by
 obtain ⟨x,h1,h2⟩:=h;unfold aS at h1
 split at h1
 ·rename_i h0
  by_cases e:j.toNat=k.toNat
  ·right;omega
  ·rw [MM e] at h1;exact .inl ⟨x,by unfold aS;rw [cG h0];exact h1,h2⟩
 ·cases h1
theorem SF.mono {c:aG} {to:Int} {s s':List Int} {k:Int} (h:SF c to s k) (hs:∀j,EN s j->EN s' j):SF c to s' k:=λl e j hj=>⟨(h l e j hj).1,hs _ (h l e j hj).2⟩
structure Ra (c:aG) (to:Int) (B:Nat) (X:Int) (seen seen':List Int):Prop where
 le:tT seen'<=tT seen
 lo:∀v ∈ seen',0<=v/\v+((tT seen'*B:Nat):Int)<=X
 up:∀k,EN seen k->EN seen' k
 sh:∀k,EN seen' k->EN seen k ∨ SF c to seen' k
section
variable {N B:Nat} {c:aG} {to:Int}
theorem reach_l {rec_:Int->List Int->Option (Bool × List Int)} {n:Nat} (hB:∀l ∈ c.cJ,l.length<=B)
  (hrec:∀(k X:Int) (seen:List Int),0<=k->k<N->tT seen<n->seen.length=N->(∀v ∈ seen,0<=v/\v+(((tT seen+1)*B:Nat):Int)<=X)->X<=4611686018427387904->aW (rec_ k seen) λr=>r.2.length=N/\(r.1=false->Ra c to B X seen r.2/\SF c to r.2 k)) :
  ∀(ks seen:List Int) (X:Int),(∀k ∈ ks,0<=k/\k<N)->tT seen<n+1->seen.length=N->(∀v ∈ seen,0<=v/\v+((tT seen*B:Nat):Int)+ks.length<=X)->X<=4611686018427387904->aW (vZ rec_ to ks seen) λr=>r.2.length=N/\(r.1=false->Ra c to B X seen r.2/\∀j ∈ ks,j ≠ to/\EN r.2 j):=by
 intro ks
 induction ks with
 | nil=>
   intro seen X h1 h2 h3 h4 h5;exact .some ⟨h3,λ_=>⟨⟨tW _,λv hv=>by have:=h4 v hv;simp only [mO] at this ⊢;omega,λk h=>h,λk h=>.inl h⟩,λj hj=>nomatch hj⟩⟩
 | cons k ks ih=>
   intro seen X h1 h2 h3 h4 h5;unfold vZ;obtain ⟨k0,k1⟩:=h1 k (Ja);refine aW.iteb (λ_=>.some ⟨h3,λh=>Bool.noConfusion h⟩) λhkt=>?_;have hkt:k ≠ to:=by simpa using hkt
   obtain ⟨s,e,e2,hsm⟩:=oN (l:=seen) (i:=k) k0 za;have hs:=h4 s hsm;simp only [jJ] at hs;rw [e,nA,fD za za];have hkl:k.toNat<seen.length:=za
   have hset:∀v ∈ seen.set k.toNat (s+1),0<=v/\v+((tT seen*B:Nat):Int)+ks.length<=X:=λv hv=>by
    rcases KM hv with hv | rfl
    ·have:=h4 v hv;simp only [jJ] at this;omega
    ·omega
   refine aW.iteb (λhs1=>?_) (λhs1=>?_)
   ·have hs0:s=0:=by have:=eq_of_beq hs1;omega
    subst hs0;have hun:=Pu (v:=0+1) e2 zb;refine (hrec k (X - ks.length) _ k0 k1 za (by rw [yS];exact h3) (λv hv=>?_) za).bind λr hr=>?_
    ·have:=hset v hv;rw [hun];omega
    ·refine aW.iteb (λhrt=>.some ⟨hr.1,λh=>Bool.noConfusion h⟩) λhrt=>?_;obtain ⟨hR,hS⟩:=hr.2 hrt;have hle:=hR.le;refine (ih r.2 X (λj hj=>h1 j (IZ _ hj)) za hr.1 (λv hv=>?_) h5).mono λq hq=>⟨hq.1,λhqf=>?_⟩
     ·have:=hR.lo v hv;omega
     ·obtain ⟨hQ,hJ⟩:=hq.2 hqf;have hsk:EN (seen.set k.toNat (0+1)) k:=⟨0+1,by unfold aS;rw [cG k0,Ki hkl],zb⟩;have hqle:=hQ.le;refine ⟨⟨za,hQ.lo,λj hj=>hQ.up j (hR.up j (hj.set zb hkl)),λj hj=>?_⟩,λj hj=>?_⟩
      ·rcases hQ.sh j hj with h | h
       ·rcases hR.sh j h with h | h
        ·rcases h.unset k0 with h | rfl
         ·exact .inl h
         ·exact .inr (hS.mono hQ.up)
        ·exact .inr (h.mono hQ.up)
       ·exact .inr h
      ·rcases Cj.1 hj with rfl | hj
       ·exact ⟨hkt,hQ.up _ (hR.up _ hsk)⟩
       ·exact hJ j hj
   ·have hs0:s ≠ 0:=by rintro rfl;simp at hs1
    have hun:=NT (v:=s+1) e2 za hs0;refine (ih _ X (λj hj=>h1 j (IZ _ hj)) (by rw [hun];omega) (by rw [yS];exact h3) (λv hv=>by rw [hun];exact hset v hv) h5).mono λq hq=>⟨hq.1,λhqf=>?_⟩;obtain ⟨hQ,hJ⟩:=hq.2 hqf;have hsk:EN (seen.set k.toNat (s+1)) k:=⟨s+1,by unfold aS;rw [cG k0,Ki hkl],za⟩;have hqle:=hQ.le;rw [hun] at hqle;refine ⟨⟨hqle,hQ.lo,λj hj=>hQ.up j (hj.set za hkl),λj hj=>?_⟩,λj hj=>?_⟩
    ·rcases hQ.sh j hj with h | h
     ·rcases h.unset k0 with h | rfl
      ·exact .inl h
      ·exact .inl ⟨s,e,hs0⟩
     ·exact .inr h
    ·rcases Cj.1 hj with rfl | hj
     ·exact ⟨hkt,hQ.up _ hsk⟩
     ·exact hJ j hj
theorem RG (hN:c.cJ.length=N) (hcl:∀l ∈ c.cJ,l.length<=B/\∀k ∈ l,0<=k/\k<N) (hB:B<=1073741824):∀(n:Nat) (k X:Int) (seen:List Int),0<=k->k<N->tT seen<n->seen.length=N->(∀v ∈ seen,0<=v/\v+(((tT seen+1)*B:Nat):Int)<=X)->X<=4611686018427387904->aW (kQ n c k to seen) λr=>r.2.length=N/\(r.1=false->Ra c to B X seen r.2/\SF c to r.2 k):=by
 intro n
 induction n with
 | zero=>intro k X seen _ _ h;omega
 | succ n ih=>
   intro k X seen k0 k1 h1 h2 h3 h4;unfold kQ;obtain ⟨l,e,_,hm⟩:=oN (l:=c.cJ) k0 za;obtain ⟨hl1,hl2⟩:=hcl l hm;rw [e,nA];refine aW.need za ?_;refine (reach_l (λl hl=>(hcl l hl).1) ih l seen X hl2 h1 h2 (λv hv=>?_) h4).mono λr hr=>⟨hr.1,λhf=>?_⟩
   ·have:=h3 v hv;rw [Kk] at this;omega
   ·obtain ⟨hR,hJ⟩:=hr.2 hf;refine ⟨hR,λl2 e2 j hj=>?_⟩;rw [e] at e2;cases e2
    exact hJ j hj
inductive Vw (c:aG):Int->Int->Prop
 | one {i k l}:aS c.cJ i=some l->k ∈ l->Vw c i k
 | more {i j k l}:Vw c i j->aS c.cJ j=some l->k ∈ l->Vw c i k
theorem Vw.cons {i j k:Int} {l:List Int} (h:Vw c j k) (e:aS c.cJ i=some l) (hj:j ∈ l):Vw c i k:=by
 induction h with
 | one e2 h2=>exact .more (.one e hj) e2 h2
 | more _ e2 h2 ih=>exact .more ih e2 h2
theorem Ij (N:Nat):tT (List.replicate N 0)=N:=by
 unfold tT;rw [List.countP_eq_length.2 (λv hv=>by rw [(PR.1 hv).2];rfl),Oy]
theorem TU (hN:c.cJ.length=N) (hN2:N<=16384) (hcl:∀l ∈ c.cJ,l.length<=B/\∀k ∈ l,0<=k/\k<N) (hB:B<=1073741824) {n:Nat} (hn:16384<n) {i:Int} (h0:0<=i) (h1:i<N):aW (kQ n c i i (List.replicate N 0)) λr=>r.1=false->¬ Vw c i i:=by
 have hmul:(N+1)*B<=16385*1073741824:=Nat.mul_le_mul za hB;refine (RG (to:=i) hN hcl hB n i 4611686018427387904 _ h0 h1 (by rw [Ij];omega) Oy (λv hv=>?_) (Oz _)).mono λr hr hf hw=>?_
 ·rw [(PR.1 hv).2,Ij];omega
 ·obtain ⟨hR,hS⟩:=hr.2 hf
  have hz:∀k,¬ EN (List.replicate N 0) k:=λk ⟨v,e,hv⟩=>by
   unfold aS at e
   split at e
   ·exact hv (PR.1 (zX e)).2
   ·cases e
  have key:∀k,Vw c i k->EN r.2 k/\k ≠ i:=by
   intro k hk
   induction hk with
   | one e hk=>exact ⟨(hS _ e _ hk).2,(hS _ e _ hk).1⟩
   | more _ e hk ih=>
     rcases hR.sh _ ih.1 with h | h
     ·exact dE h (hz _)
     ·exact ⟨(h _ e _ hk).2,(h _ e _ hk).1⟩
  exact (key i hw).2 rfl
theorem Sj {α:Type} {p q:α->Bool} {l:List α} (h:∀x ∈ l,p x=true->q x=true) {y:α} (hy:y ∈ l) (hq:q y=true) (hp:p y=false):l.countP p<l.countP q:=by
 induction l with
 | nil=>cases hy
 | cons x l ih=>
   rw [ST,ST];have hle:l.countP p<=l.countP q:=List.countP_mono_left λx hx=>h x (IZ _ hx)
   rcases Cj.1 hy with rfl | hy
   ·rw [hq,hp];simp;omega
   ·have:=ih (λx hx=>h x (IZ _ hx)) hy;have hx:=h x Ja;cases h1:p x <;> cases h2:q x <;> simp_all <;> omega
theorem ranks (hN:c.cJ.length=N) (hcl:∀l ∈ c.cJ,∀k ∈ l,0<=k/\k<N) (hac:∀i:Int,0<=i->i<N->¬ Vw c i i):∃rk:Int->Nat,(∀i,rk i<=N)/\∀i l,aS c.cJ i=some l->∀k ∈ l,rk k<rk i:=by
 classical
 refine ⟨λi=>(List.range N).countP λk:Nat=>decide (Vw c i (k:Int)),λi=>KP List.countP_le_length zc,λi l e k hk=>?_⟩
 have hlm:l ∈ c.cJ:=by
  unfold aS at e
  split at e
  ·exact zX e
  ·cases e
 obtain ⟨k0,k1⟩:=hcl l hlm k hk;have hkn:((k.toNat:Nat):Int)=k:=za
 refine Sj (y:=k.toNat) (λx _ hx=>?_) (Te.2 za) ?_ ?_
 ·exact vO ((EG hx).cons e hk)
 ·rw [hkn];exact vO (.one e hk)
 ·rw [hkn];exact Om (hac k k0 k1)
end
structure PO (c:aG) (rk:Int->Nat):Prop where
 co:CO c.p_.aU.length 1073741824 c
 n64:c.p_.aU.length<=64
 ex:∀f ∈ c.p_.aU,f.eC=true->Ck (f.aO.take f.aQ.toNat) 0<=4
 tf:∀(j:Nat) f,c.p_.aU[j]? = some f->TF (Hb c j) f
 sz:∀f ∈ c.p_.aU,uS f.bR<=3001
 rkN:∀i,rk i<=64
 rk:∀i l,aS c.cJ i=some l->∀k ∈ l,rk k<rk i
section
variable {N B n:Nat} {c:aG} {w:aH}
theorem CO.more {B':Nat} (h:CO N B c) (hb:B<=B'):CO N B' c:=⟨h.nf,h.nN,h.vl,h.nc,λl hl=>⟨KP (h.cl l hl).1 hb,(h.cl l hl).2⟩,h.ki⟩
theorem OV {a:Int}:aW (xL a) λr=>r=0 ∨ r=2 ∨ r=3:=by
 unfold xL
 repeat' split
 ·exact .some (.inr (.inl rfl))
 ·exact .some (.inr (.inr rfl))
 ·exact .some (.inl rfl)
structure D0 (f:aP):Prop where
 v:f.aO=[]
 p:f.aQ=0
 b:f.bR=[]
 r:f.bV=0 ∨ f.bV=2 ∨ f.bV=3
theorem Uj {x:Nd} (hl:x.aM.length<=16384) (hn:16384<n):∀(k v:Nat) (c:aG) (w:aH),x.aM.length<v+k->v<=x.aM.length->c.p_.aU.length=v->c.f_=-1->(∀f ∈ c.p_.aU,D0 f)->aW (kE n x k (v:Int) c w) λr=>r.1.p_.aU.length=x.aM.length/\(∀f ∈ r.1.p_.aU,D0 f)/\WK w r.2:=by
 intro k
 induction k with
 | zero=>intro v c w h1 h2;omega
 | succ k ih=>
   intro v c w h1 h2 h3 h4 h5;unfold kE
   by_cases hv:v<x.aM.length
   ·rw [cG (vO za)];obtain ⟨y,e,_,hym⟩:=oN (l:=x.aM) (i:=(v:Int)) za za;rw [e];simp only [nA];refine (Oh za hn).bind λq hq=>?_;refine aW.bind (P:=λw'=>WK w w') ?_ λw' hw'=>?_
    ·refine aW.iteb (λ_=>?_) (λ_=>?_)
     ·exact (Ia za).bind λa _=>by rw [oX];exact .some WK.nd
     ·rw [oX];exact .some WK.nd
    ·refine OV.bind λrr hrr=>aW.need za (aW.need za ?_);rw [fD za za,show ((v:Int)+1)=((v+1:Nat):Int) by omega];refine (ih (v+1) { c with p_:=⟨c.p_.aU++[⟨y.dL,(yQ .u32 y.nY (1:Int)) != (0:Int),rr,0,[],[]⟩]⟩ } w' za za (by simp only [nB,tF];omega) h4 λf hf=>?_).mono λr hr=>⟨hr.1,hr.2.1,hw'.trans hr.2.2⟩
     rcases BV.1 hf with hf | hf
     ·exact h5 f hf
     ·obtain rfl:=zA.1 hf;exact ⟨rfl,rfl,rfl,hrr⟩
   ·rw [bU (by rw [GC];omega)];exact .some ⟨yz,h5,.refl w⟩
theorem RM {x:Nd} (hl:x.aM.length<=16384) (hn:16384<n):aW (oQ n aG.Z w x) λr=>CO x.aM.length 0 r.1/\(∀f ∈ r.1.p_.aU,D0 f)/\WK w r.2/\(r.2.e_=0->x.aM.length<=64):=by
 unfold oQ;rw [oX,nA];refine (Uj hl hn n 0 aG.Z _ za za rfl rfl λf hf=>nomatch hf).bind λr hr=>aW.need za (.some ?_);obtain ⟨h1,h2,h3⟩:=hr;refine ⟨⟨h1,hl,λf hf=>?_,Oy,λl hl=>?_,λf hf=>?_⟩,h2,(WK.nd).trans h3,λe=>?_⟩
 ·rw [(h2 f hf).v,(h2 f hf).p];exact ⟨zb,zb,zb⟩
 ·rw [(PR.1 hl).2];exact ⟨tW _,λk hk=>nomatch hk⟩
 ·rw [(h2 f hf).v];exact ⟨λv hv=>(by cases hv),(h2 f hf).r⟩
 ·have e2:(MN w (decide ((x.aM.length:Int)<=64)) 136 x.fV).e_=0:=by rw [←h3 e];exact e
  have:=EG (gD (k:=136) zb e2).2.1;omega
def D1 (f:aP):Prop:=f.aQ=f.aO.length/\(f.eC=true->Ck f.aO 0<=4)
theorem vM {α:Type} {l:List α} {i:Nat} {x:α} (h:l[i]? = some x):aS l (i:Int)=some x:=by
 unfold aS;rw [cG za,wR];exact h
theorem At {α:Type} {l:List α} {i:Nat} {x:α} (h:aS l (i:Int)=some x):l[i]? = some x:=by
 unfold aS at h;rw [cG za,wR] at h;exact h
theorem RU (hn:20300<n):∀(l:List Nd) (i:Nat) (c:aG) (w:aH),CO N B c->i+l.length=N->(∀x ∈ l,WF x/\x.aM.length<=20000)->(∀(j:Nat) f,i<=j->c.p_.aU[j]? = some f->f.bR=[])->(w.e_=0->∀(j:Nat) f,j<i->c.p_.aU[j]? = some f->D1 f)->aW (tB (λi f c w=>lB n c w i f) l i c w) λr=>CO N B r.1/\WK w r.2/\r.1.cJ=c.cJ/\(r.2.e_=0->∀(j:Nat) f,r.1.p_.aU[j]? = some f->D1 f):=by
 intro l
 induction l with
 | nil=>
   intro i c w h h1 h2 h3 h4;refine .some ⟨h,.refl w,rfl,λe j f hf=>h4 e j f ?_ hf⟩;have hj:j<c.p_.aU.length:=(sG.1 hf).1;have:=h.nf;simp only [mO] at h1;omega
 | cons x l ih=>
   intro i c w h h1 h2 h3 h4;simp only [jJ] at h1;unfold tB
   by_cases he:(w.e_ == (0:Int))=true
   ·rw [cG he];have he0:w.e_=0:=by simpa using he
    obtain ⟨f,ef,ef2,_⟩:=oN (l:=c.p_.aU) (i:=(i:Int)) za (by rw [h.nf];omega);obtain ⟨hx1,hx2⟩:=h2 x Ja;refine (Sl (w:=w) h (i:=(i:Int)) za za hn ef (h3 i f (tW _) (At ef)) hx1 hx2).bind λr hr=>?_;obtain ⟨k1,k2,k3,k4,f',k5,k6,k7,k8,k9,k10⟩:=hr;rw [wR] at k4;refine (ih (i+1) r.1 r.2 k1 za (λy hy=>h2 y (IZ _ hy)) (λj g hj hg=>?_) (λe j g hj hg=>?_)).mono λq hq=>⟨hq.1,k2.trans hq.2.1,hq.2.2.1.trans k3,hq.2.2.2⟩
    ·exact h3 j g za (by rw [←k4 j za];exact hg)
    ·by_cases hji:j=i
     ·subst hji;rw [At k5] at hg;cases hg
      exact ⟨k9,k10 e⟩
     ·exact h4 he0 j g za (by rw [←k4 j hji];exact hg)
   ·rw [bU he];refine (ih (i+1) c w h za (λy hy=>h2 y (IZ _ hy)) (λj g hj hg=>h3 j g za hg) (λe=>dE e (by simpa using he))).mono λq hq=>hq
theorem Rp {c c':aG} {i j:Nat} (hv:∀f ∈ c.p_.aU,f.aQ<=f.aO.length) (h1:∀k:Nat,k ≠ i->c'.p_.aU[k]? = c.p_.aU[k]?) (h2:c'.cJ[j]? = c.cJ[j]?) {f f':aP} (e:c.p_.aU[i]? = some f) (e':c'.p_.aU[i]? = some f') (hr:f'.bV=f.bV) (hp:f'.aQ=f.aQ) (hx:f.aO <+: f'.aO) {k r:Int} {ps:List aJ} (h:Hb c j k r ps):Hb c' j k r ps:=by
 obtain ⟨⟨l,el,hk⟩,g,eg,rfl,rfl⟩:=h;refine ⟨⟨l,by rw [h2];exact el,hk⟩,?_⟩;unfold aS at eg
 split at eg
 ·rename_i h0
  by_cases hki:k.toNat=i
  ·rw [hki,e] at eg;cases eg
   have:=hv f (zX e);refine ⟨f',by unfold aS;rw [cG h0,hki];exact e',hr.symm,?_⟩;rw [hp,Jj hx za]
  ·exact ⟨g,by unfold aS;rw [cG h0,h1 _ hki];exact eg,rfl,rfl⟩
 ·cases eg
theorem PE (hn:90000<=n):∀(l:List Nd) (i B:Nat) (c:aG) (w:aH),CO N B c->i+l.length=N->(∀x ∈ l,WF x/\sz x<=3001)->(B:Int)+vK l<=1073741824->(w.e_=0->∀(j:Nat) f,c.p_.aU[j]? = some f->(f.eC=true->Ck (f.aO.take f.aQ.toNat) 0<=4)/\(i<=j->f.aQ=f.aO.length)/\(j<i->TF (Hb c j) f/\uS f.bR<=3001))->aW (tB (λi f c w=>lD n c w i f) l i c w) λr=>(∃B':Nat,(B':Int)<=B+vK l/\CO N B' r.1)/\WK w r.2/\(r.2.e_=0->∀(j:Nat) f,r.1.p_.aU[j]? = some f->(f.eC=true->Ck (f.aO.take f.aQ.toNat) 0<=4)/\TF (Hb r.1 j) f/\uS f.bR<=3001):=by
 intro l
 induction l with
 | nil=>
   intro i B c w h h1 h2 h3 h4;refine .some ⟨⟨B,by rw [oF];omega,h⟩,.refl w,λe j f hf=>⟨(h4 e j f hf).1,(h4 e j f hf).2.2 ?_⟩⟩;have hj:j<c.p_.aU.length:=(sG.1 hf).1;have:=h.nf;simp only [mO] at h1;omega
 | cons x l ih=>
   intro i B c w h h1 h2 h3 h4;simp only [jJ] at h1;rw [uV] at h3 ⊢;have hp:=rH x;have hg:=pD l;unfold tB
   by_cases he:(w.e_ == (0:Int))=true
   ·rw [cG he];have he0:w.e_=0:=by simpa using he
    obtain ⟨f,ef,ef2,hfm⟩:=oN (l:=c.p_.aU) (i:=(i:Int)) za (by rw [h.nf];omega);obtain ⟨hx1,hx2⟩:=h2 x Ja;obtain ⟨q1,q2,_⟩:=h4 he0 i f (At ef);refine (Sm (w:=w) h (i:=(i:Int)) za za ef (q2 (tW _)) hx1 za za hn).bind λr hr=>?_;obtain ⟨⟨B',hb',k1⟩,k2,k4,f',k5,k6,k7,k8,k9,k10,k11⟩:=hr;rw [wR] at k4 k11;refine (ih (i+1) B' r.1 r.2 k1 za (λy hy=>h2 y (IZ _ hy)) za (λe j g hg=>?_)).mono λq hq=>?_
    ·by_cases hji:j=i
     ·subst hji;rw [At k5] at hg;cases hg
      refine ⟨λhx=>?_,λh=>za,λ_=>⟨(k11 e).1,by have:=(k11 e).2;omega⟩⟩;rw [k9,Jj k10 (by have:=(h.vl f hfm).2;omega)];exact q1 (by rw [←k7];exact hx)
     ·obtain ⟨a1,a2,a3⟩:=h4 he0 j g (by rw [←(k4 j hji).1];exact hg);refine ⟨a1,λh=>a2 za,λhlt=>?_⟩;obtain ⟨hT,hZ⟩:=a3 za;obtain ⟨sc',hTB⟩:=hT.body;exact ⟨⟨⟨sc',hTB.mono (λk r' ps hs=>Rp (λf hf=>(h.vl f hf).2.2) (λk hk=>(k4 k hk).1) (k4 j hji).2 (At ef) (At k5) k8 k9 k10 hs) (Ig _)⟩,hT.ret⟩,hZ⟩
    ·obtain ⟨⟨B2,hb2,h5⟩,h6,h7⟩:=hq;exact ⟨⟨B2,za,h5⟩,k2.trans h6,h7⟩
   ·rw [bU he];refine (ih (i+1) B c w h za (λy hy=>h2 y (IZ _ hy)) za (λe=>dE e (by simpa using he))).mono λq hq=>?_;obtain ⟨⟨B2,hb2,h5⟩,h6,h7⟩:=hq;exact ⟨⟨B2,za,h5⟩,h6,h7⟩
theorem cyc_tot (h:CO N B c) (hB:B<=1073741824) (hn:16384<n):∀(l:List Nd) (i:Nat) (w:aH),i+l.length=N->aW (yP n N c l i w) λw'=>WK w w'/\(w'.e_=0->∀j:Int,i<=j->j<N->¬ Vw c j j):=by
 intro l
 induction l with
 | nil=>intro i w h1;exact .some ⟨.refl w,λe j h2 h3=>by simp only [mO] at h1;omega⟩
 | cons x l ih=>
   intro i w h1;simp only [jJ] at h1;unfold yP
   by_cases he:(w.e_ == (0:Int))=true
   ·rw [cG he];refine (TU h.nc h.nN h.cl hB hn (i:=(i:Int)) za za).bind λr hr=>?_;rw [oX,nA];refine (ih (i+1) _ za).mono λq hq=>⟨(WK.nd).trans hq.1,λe j h2 h3=>?_⟩
    by_cases hji:j=i
    ·subst hji;have e2:(MN w (!r.1) 134 x.fV).e_=0:=by rw [←hq.1 e];exact e
     exact hr (by simpa using (gD (k:=134) zb e2).2.1)
    ·exact hq.2 e j za h3
   ·rw [bU he];exact (ih (i+1) w za).mono λq hq=>⟨hq.1,λe=>dE (hq.1 e ▸ e) (by simpa using he)⟩
theorem SN {s:cQ} (hs:s.length<=3000) (hn:90000<=n):aW (wJ n s) λr=>r.2.1=0->∃c rk,c.p_=r.1/\PO c rk:=by
 unfold wJ;refine (Nt (n:=n) (s:=s) za).bind λp hp=>?_;refine aW.iteb (λhe=>.some λe=>dE e (by simpa using he)) (λhe=>?_);obtain ⟨hw,hz⟩:=hp (by simpa using he);have hg:=pD p.1.aM;refine (RM (w:=⟨0,0⟩) (x:=p.1) za za).bind λa ha=>aW.need za ?_;obtain ⟨a1,a2,a3,a4⟩:=ha
 have hsz:∀x ∈ p.1.aM,sz x<=3001/\x.aM.length<=20000:=λx hx=>by
  have h1:=Jk hx;have h2:=EV x;have h3:=pD x.aM;omega
 refine aW.bind (P:=λb=>(∃B':Nat,(B':Int)<=3001/\CO p.1.aM.length B' b.1)/\WK a.2 b.2/\(b.2.e_=0->∀(j:Nat) f,b.1.p_.aU[j]? = some f->(f.eC=true->Ck (f.aO.take f.aQ.toNat) 0<=4)/\TF (Hb b.1 j) f/\uS f.bR<=3001)) ?_ λb hb=>?_
 ·unfold wI;refine (RU (n:=n) za p.1.aM 0 a.1 a.2 a1 za (λx hx=>⟨hw x hx,(hsz x hx).2⟩) (λj f _ hf=>(a2 f (zX hf)).b) (λ_ j f h=>za)).bind λq hq=>?_;obtain ⟨q1,q2,q3,q4⟩:=hq;unfold wI;refine (PE (n:=n) hn p.1.aM 0 0 q.1 q.2 q1 za (λx hx=>⟨hw x hx,(hsz x hx).1⟩) za (λe j f hf=>?_)).bind λr hr=>?_
  ·obtain ⟨d1,d2⟩:=q4 e j f hf;refine ⟨λhx=>?_,λ_=>d1,λh=>za⟩;rw [d1,wR,xek];exact d2 hx
  ·obtain ⟨⟨B2,hb2,h5⟩,h6,h7⟩:=hr;unfold wI;exact .some ⟨⟨B2,za,h5⟩,q2.trans h6,h7⟩
 ·obtain ⟨⟨B',hb',b1⟩,b2,b3⟩:=hb;refine (cyc_tot (n:=n) b1 za za p.1.aM 0 b.2 za).bind λw hw2=>?_;refine aW.iteb (λhe2=>.some λe=>dE e (by simpa using he2)) (λhe2=>.some λ_=>?_);have he2:w.e_=0:=by simpa using he2
  have eb:b.2.e_=0:=by rw [←hw2.1 he2];exact he2
  have ea:a.2.e_=0:=by rw [←b2 eb];exact eb
  have hN:=b1.nf;obtain ⟨rk,r1,r2⟩:=ranks b1.nc (λl hl=>(b1.cl l hl).2) (λi h0 h1=>hw2.2 he2 i h0 h1);refine ⟨b.1,rk,rfl,⟨by rw [hN];exact b1.more za,by rw [hN];exact a4 ea,λf hf hx=>?_,λj f hf=>(b3 eb j f hf).2.1,λf hf=>?_,λi=>KP (r1 i) (a4 ea),r2⟩⟩
  ·obtain ⟨j,hj⟩:=List.getElem?_of_mem hf;exact (b3 eb j f hj).1 hx
  ·obtain ⟨j,hj⟩:=List.getElem?_of_mem hf;exact (b3 eb j f hj).2.2
end
