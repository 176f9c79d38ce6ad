import Derived.Test.YtnnomaboaiokeaaGreatDoorITot
namespace Go.Proofs.YtnnomaboaiokeaaGreatDoor.Abs
open IntKind (i64 u32 u64 u8)
open Go.RowKit
set_option linter.all false
mutual
def xz:aF->Nat
 | ⟨_,_,_,_,l,_⟩=>1+rB l
def rB:List aF->Nat
 | []=>0
 | x::l=>xz x+rB l
end
mutual
def tz:aB->Nat
 | ⟨_,_,_,l,b,e,_⟩=>1+rB l+tX b+tX e
def tX:List aB->Nat
 | []=>0
 | x::l=>tz x+tX l
end
theorem Bp (x:aF):xz x=1+rB x.aO:=by cases x;rw [xz]
theorem wF (x:aB):tz x=1+rB x.aO+tX x.bQ+tX x.eW:=by cases x;rw [tz]
theorem LW (a b:List aF):rB (a++b)=rB a+rB b:=by
 induction a with
 | nil=>rw [gC,rB,CU]
 | cons x a ih=>rw [iD,rB,rB,ih,GW]
theorem tzL_app (a b:List aB):tX (a++b)=tX a+tX b:=by
 induction a with
 | nil=>rw [gC,tX,CU]
 | cons x a ih=>rw [iD,tX,tX,ih,GW]
theorem xz_pos (x:aF):1<=xz x:=by rw [Bp];omega
theorem tz_pos (x:aB):1<=tz x:=by rw [wF];omega
theorem vS (l:List aF):l.length<=rB l:=by
 induction l with
 | nil=>exact KH _
 | cons x l ih=>have:=xz_pos x;rw [dT,rB];omega
theorem Ek (l:List aB):l.length<=tX l:=by
 induction l with
 | nil=>exact KH _
 | cons x l ih=>have:=tz_pos x;rw [dT,tX];omega
theorem AV {l:List aF} {x:aF} (h:x ∈ l):xz x<=rB l:=by
 obtain ⟨a,b,rfl⟩:=SU h;rw [LW,rB];omega
theorem Ha {l:List aB} {x:aB} (h:x ∈ l):tz x<=tX l:=by
 obtain ⟨a,b,rfl⟩:=SU h;rw [tzL_app,tX];omega
def EU (n:Int):Prop:=1<=n/\n<=255 ∨ 255<n/\n<=1024/\n % 4=0
def Ef (v:aL):Prop:=1<=v.bS/\v.bS<=4/\(v.bS=4->EU v.qO)
theorem Th {s:cF}:Ef ⟨s,1,0⟩:=⟨(by decide:(1:Int)<=1),(by decide:(1:Int)<=4),λh=>absurd h (by simp)⟩
theorem Tg {s:cF} {n:Int} (h:EU n):Ef ⟨s,4,n⟩:=⟨(by decide:(1:Int)<=4),(by decide:(4:Int)<=4),λ_=>h⟩
theorem varOkW {s:cF} {k:Int} (h1:1<=k) (h2:k<=3):Ef ⟨s,k,0⟩:=⟨h1,(by simp only;omega),λh=>by simp only at h;omega⟩
def zE (a b:Int):Int:=if a=b/\1<=a/\a<=3 then a else if a=1/\b=2 ∨ a=2/\b=1 then 2 else 0
def GE (t:Int):Int:=if t=1 then 2 else t
def ScT (t:Int):Prop:=t=1 ∨ t=2
def KE (t k:Int):Prop:=t=k ∨ t=1/\k=2
def Oz (o:cF) (x y:aF) (t:Int):Prop:=
 ((o=[47] ∨ o=[37])/\x.cK=1/\y.cK=1/\t=1) ∨
 ((o=[60,60] ∨ o=[62,62] ∨ o=[60,60,60])/\y.cK=1/\(x.cK=3->y.fR=[110,117,109]/\y.N_<=63)/\t=x.cK) ∨
 (o=[42]/\t=zE x.cK y.cK/\t ≠ 3/\t ≠ 0) ∨
 ((o=[61,61] ∨ o=[60])/\zE x.cK y.cK ≠ 0/\t=if zE x.cK y.cK=3 then 2 else zE x.cK y.cK) ∨
 ((o=[124] ∨ o=[94] ∨ o=[38] ∨ o=[43] ∨ o=[45])/\t=zE x.cK y.cK/\t ≠ 0)
inductive TX (vs:List aL) (sc:List Int):aF->Prop
 | num {n a}:0<=n->n<=4294967295->TX vs sc ⟨[110,117,109],1,n,-1,[],a⟩
 | var {v u a}:v ∈ sc->bM vs v=some u->u.bS ≠ 4->TX vs sc ⟨[118,97,114],u.bS,0,v,[],a⟩
 | index {v u i a}:v ∈ sc->bM vs v=some u->u.bS=4->TX vs sc i->i.cK=1->(i.fR=[110,117,109]->i64.wrap i.N_<u.qO)->TX vs sc ⟨[105,110,100,101,120],2,0,v,[i],a⟩
 | un {o x a}:(o=[110,111,116] ∨ o=[110,101,103])->TX vs sc x->TX vs sc ⟨o,x.cK,0,-1,[x],a⟩
 | bin {o x y t a}:TX vs sc x->TX vs sc y->Oz o x y t->TX vs sc ⟨o,t,0,-1,[x,y],a⟩
 | sel {c x y a}:TX vs sc c->TX vs sc x->TX vs sc y->ScT c.cK->zE x.cK y.cK ≠ 0->TX vs sc ⟨[115,101,108,101,99,116],GE (zE x.cK y.cK),0,-1,[c,x,y],a⟩
 | long {x a}:TX vs sc x->ScT x.cK->TX vs sc ⟨[108,111,110,103],3,0,-1,[x],a⟩
 | wide {x y a}:TX vs sc x->TX vs sc y->ScT x.cK->ScT y.cK->TX vs sc ⟨[119,105,100,101],3,0,-1,[x,y],a⟩
 | half {o x a}:(o=[108,111] ∨ o=[104,105])->TX vs sc x->x.cK=3->TX vs sc ⟨o,2,0,-1,[x],a⟩
inductive GU (vs:List aL) (sc:List Int) (p:aL):aF->Prop
 | arr {v u a}:p.bS=4->v ∈ sc->bM vs v=some u->u.bS=4->u.qO=p.qO->GU vs sc p ⟨[118,97,114],4,0,v,[],a⟩
 | pub {x}:p.bS=1->TX vs sc x->x.cK=1->GU vs sc p x
 | val {x}:p.bS ≠ 1->p.bS ≠ 4->TX vs sc x->KE x.cK p.bS->GU vs sc p x
def AU (vs:List aL) (sc:List Int) (ps:List aL) (l:List aF):Prop:=l.length=ps.length/\∀(i:Nat) p x,ps[i]? = some p->l[i]? = some x->GU vs sc p x
abbrev PP:=Int->Int->List aL->Prop
inductive TB (sg:PP) (vs:List aL) (res:Int):Bool->Nat->List Int->List aB->Nat->List Int->Prop
 | nil {l n sc}:TB sg vs res l n sc [] n sc
 | let_ {l n sc x u a ss n' sc'}:TX vs sc x->x.cK=1->vs[n]? = some u->u.bS=1->TB sg vs res l (n+1) (sc++[(n:Int)]) ss n' sc'->TB sg vs res l n sc (⟨[108,101,116],n,0,[x],[],[],a⟩::ss) n' sc'
 | var_ {l n sc x u a ss n' sc'}:TX vs sc x->vs[n]? = some u->u.bS=GE x.cK->TB sg vs res l (n+1) (sc++[(n:Int)]) ss n' sc'->TB sg vs res l n sc (⟨[118,97,114],n,0,[x],[],[],a⟩::ss) n' sc'
 | arr {l n sc u a ss n' sc'}:vs[n]? = some u->u.bS=4->TB sg vs res l (n+1) (sc++[(n:Int)]) ss n' sc'->TB sg vs res l n sc (⟨[97,114,114],n,0,[],[],[],a⟩::ss) n' sc'
 | callv {l n sc f r ps xs u a ss n' sc'}:sg f r ps->AU vs sc ps xs->r ≠ 0->vs[n]? = some u->u.bS=r->TB sg vs res l (n+1) (sc++[(n:Int)]) ss n' sc'->TB sg vs res l n sc (⟨[99,97,108,108],n,f,xs,[],[],a⟩::ss) n' sc'
 | set {l n sc v u x a ss n' sc'}:v ∈ sc->bM vs v=some u->(u.bS=2 ∨ u.bS=3)->TX vs sc x->KE x.cK u.bS->TB sg vs res l n sc ss n' sc'->TB sg vs res l n sc (⟨[115,101,116],v,0,[x],[],[],a⟩::ss) n' sc'
 | calls {l n sc v u f r ps xs a ss n' sc'}:v ∈ sc->bM vs v=some u->(u.bS=2 ∨ u.bS=3)->sg f r ps->AU vs sc ps xs->r=u.bS->TB sg vs res l n sc ss n' sc'->TB sg vs res l n sc (⟨[99,97,108,108],v,f,xs,[],[],a⟩::ss) n' sc'
 | put {l n sc v u i x a ss n' sc'}:v ∈ sc->bM vs v=some u->u.bS=4->TX vs sc i->i.cK=1->(i.fR=[110,117,109]->i64.wrap i.N_<u.qO)->TX vs sc x->KE x.cK 2->TB sg vs res l n sc ss n' sc'->TB sg vs res l n sc (⟨[112,117,116],v,0,[i,x],[],[],a⟩::ss) n' sc'
 | do_ {l n sc f r ps xs a ss n' sc'}:sg f r ps->AU vs sc ps xs->TB sg vs res l n sc ss n' sc'->TB sg vs res l n sc (⟨[99,97,108,108],-1,f,xs,[],[],a⟩::ss) n' sc'
 | if_ {l n sc c b e a n1 sc1 n2 sc2 ss n' sc'}:TX vs sc c->c.cK=1->TB sg vs res false n sc b n1 sc1->TB sg vs res false n1 sc e n2 sc2->TB sg vs res l n2 sc ss n' sc'->TB sg vs res l n sc (⟨[105,102],-1,0,[c],b,e,a⟩::ss) n' sc'
 | for_ {l n sc x y u b a n1 sc1 ss n' sc'}:TX vs sc x->x.cK=1->TX vs sc y->y.cK=1->vs[n]? = some u->u.bS=1->TB sg vs res false (n+1) (sc++[(n:Int)]) b n1 sc1->TB sg vs res l n1 sc ss n' sc'->TB sg vs res l n sc (⟨[102,111,114],n,0,[x,y],b,[],a⟩::ss) n' sc'
 | ret {n sc x a}:TX vs sc x->res ≠ 0->KE x.cK res->TB sg vs res true n sc [⟨[114,101,116,117,114,110],-1,0,[x],[],[],a⟩] n sc
 | retc {n sc f ps xs a}:sg f res ps->res ≠ 0->AU vs sc ps xs->TB sg vs res true n sc [⟨[99,97,108,108],-2,f,xs,[],[],a⟩] n sc
section
variable {vs vs':List aL} {sc sc':List Int}
theorem kO {α:Type} {l l':List α} (h:l <+: l') {i:Int} {x:α} (e:bM l i=some x):bM l' i=some x:=by
 obtain ⟨r,rfl⟩:=h;unfold bM at e ⊢
 split at e
 ·rename_i h0;rw [if_pos h0,MW (uG.1 e).1];exact e
 ·cases e
theorem EO {α:Type} {l l':List α} (h:l <+: l') {i:Nat} {x:α} (e:l[i]? = some x):l'[i]? = some x:=by
 obtain ⟨r,rfl⟩:=h;rw [MW (uG.1 e).1];exact e
theorem TX.mono (hv:vs <+: vs') (hs:∀v ∈ sc,v ∈ sc') {x:aF} (h:TX vs sc x):TX vs' sc' x:=by
 induction h with
 | num h1 h2=>exact .num h1 h2
 | var h1 h2 h3=>exact .var (hs _ h1) (kO hv h2) h3
 | index h1 h2 h3 _ h5 h6 ih=>exact .index (hs _ h1) (kO hv h2) h3 ih h5 h6
 | un h1 _ ih=>exact .un h1 ih
 | bin _ _ h ih1 ih2=>exact .bin ih1 ih2 h
 | sel _ _ _ h1 h2 ih1 ih2 ih3=>exact .sel ih1 ih2 ih3 h1 h2
 | long _ h ih=>exact .long ih h
 | wide _ _ h1 h2 ih1 ih2=>exact .wide ih1 ih2 h1 h2
 | half h1 _ h2 ih=>exact .half h1 ih h2
theorem GU.mono (hv:vs <+: vs') (hs:∀v ∈ sc,v ∈ sc') {p:aL} {x:aF} (h:GU vs sc p x):GU vs' sc' p x:=by
 cases h with
 | arr h1 h2 h3 h4 h5=>exact .arr h1 (hs _ h2) (kO hv h3) h4 h5
 | pub h1 h2 h3=>exact .pub h1 (h2.mono hv hs) h3
 | val h1 h2 h3 h4=>exact .val h1 h2 (h3.mono hv hs) h4
theorem AU.mono (hv:vs <+: vs') (hs:∀v ∈ sc,v ∈ sc') {ps:List aL} {l:List aF} (h:AU vs sc ps l):AU vs' sc' ps l:=⟨h.1,λi p x h1 h2=>(h.2 i p x h1 h2).mono hv hs⟩
theorem IH (a b:Int):zE a b=0 ∨ 1<=zE a b/\zE a b<=3:=by
 unfold zE
 repeat' split <;> omega
theorem TX.range (hv:∀v ∈ vs,Ef v) {x:aF} (h:TX vs sc x):1<=x.cK/\x.cK<=3:=by
 induction h with
 | num=>exact ⟨by simp only;decide,by simp only;decide⟩
 | @var v u a h1 h2 h3=>
   have hm:u ∈ vs:=by
    unfold bM at h2
    split at h2
    ·exact CT h2
    ·cases h2
   have:=hv u hm;exact ⟨this.1,by have:=this.2.1;simp only;omega⟩
 | index _ _ _ _ _ _ _=>exact ⟨by simp only;decide,by simp only;decide⟩
 | un _ _ ih=>exact ih
 | @bin o x y t a _ _ hb ih1 ih2=>
   have:=IH x.cK y.cK;simp only
   rcases hb with ⟨_,_,_,h⟩ | ⟨_,_,_,h⟩ | ⟨_,h,_,h0⟩ | ⟨_,h0,h⟩ | ⟨_,h,h0⟩
   ·omega
   ·omega
   ·omega
   ·split at h <;> omega
   ·omega
 | @sel c x y a _ _ _ _ h _ _ _=>
   have:=IH x.cK y.cK;simp only;unfold GE
   split <;> omega
 | long _ _ _=>exact ⟨by simp only;decide,by simp only;decide⟩
 | wide _ _ _ _ _ _=>exact ⟨by simp only;decide,by simp only;decide⟩
 | half _ _ _ _=>exact ⟨by simp only;decide,by simp only;decide⟩
variable {sg sg':PP} {res:Int} {l:Bool} {n n':Nat} {ss:List aB}
theorem TB.mono (hg:∀k r ps,sg k r ps->sg' k r ps) (hv:vs <+: vs') (h:TB sg vs res l n sc ss n' sc'):TB sg' vs' res l n sc ss n' sc':=by
 have hs:∀ {sc:List Int} v,v ∈ sc->v ∈ sc:=λ_ h=>h
 induction h with
 | nil=>exact .nil
 | let_ h1 h2 h3 h4 _ ih=>exact .let_ (h1.mono hv hs) h2 (EO hv h3) h4 ih
 | var_ h1 h3 h4 _ ih=>exact .var_ (h1.mono hv hs) (EO hv h3) h4 ih
 | arr h3 h4 _ ih=>exact .arr (EO hv h3) h4 ih
 | callv h1 h2 h3 h4 h5 _ ih=>exact .callv (hg _ _ _ h1) (h2.mono hv hs) h3 (EO hv h4) h5 ih
 | set h1 h2 h3 h4 h5 _ ih=>exact .set h1 (kO hv h2) h3 (h4.mono hv hs) h5 ih
 | calls h1 h2 h3 h4 h5 h6 _ ih=>exact .calls h1 (kO hv h2) h3 (hg _ _ _ h4) (h5.mono hv hs) h6 ih
 | put h1 h2 h3 h4 h5 h6 h7 h8 _ ih=>exact .put h1 (kO hv h2) h3 (h4.mono hv hs) h5 h6 (h7.mono hv hs) h8 ih
 | do_ h1 h2 _ ih=>exact .do_ (hg _ _ _ h1) (h2.mono hv hs) ih
 | if_ h1 h2 _ _ _ ih1 ih2 ih3=>exact .if_ (h1.mono hv hs) h2 ih1 ih2 ih3
 | for_ h1 h2 h3 h4 h5 h6 _ _ ih1 ih2=>exact .for_ (h1.mono hv hs) h2 (h3.mono hv hs) h4 (EO hv h5) h6 ih1 ih2
 | ret h1 h2 h3=>exact .ret (h1.mono hv hs) h2 h3
 | retc h1 h2 h3=>exact .retc (hg _ _ _ h1) h2 (h3.mono hv hs)
theorem TB.app {n1:Nat} {sc1:List Int} {xs ys:List aB} {l0:Bool} (h:TB sg vs res l0 n sc xs n1 sc1) (h0:l0=false) (k:TB sg vs res l n1 sc1 ys n' sc'):TB sg vs res l n sc (xs++ys) n' sc':=by
 induction h with
 | nil=>exact k
 | let_ h1 h2 h3 h4 _ ih=>exact .let_ h1 h2 h3 h4 (ih h0 k)
 | var_ h1 h3 h4 _ ih=>exact .var_ h1 h3 h4 (ih h0 k)
 | arr h3 h4 _ ih=>exact .arr h3 h4 (ih h0 k)
 | callv h1 h2 h3 h4 h5 _ ih=>exact .callv h1 h2 h3 h4 h5 (ih h0 k)
 | set h1 h2 h3 h4 h5 _ ih=>exact .set h1 h2 h3 h4 h5 (ih h0 k)
 | calls h1 h2 h3 h4 h5 h6 _ ih=>exact .calls h1 h2 h3 h4 h5 h6 (ih h0 k)
 | put h1 h2 h3 h4 h5 h6 h7 h8 _ ih=>exact .put h1 h2 h3 h4 h5 h6 h7 h8 (ih h0 k)
 | do_ h1 h2 _ ih=>exact .do_ h1 h2 (ih h0 k)
 | if_ h1 h2 h3 h4 _ _ _ ih3=>exact .if_ h1 h2 h3 h4 (ih3 h0 k)
 | for_ h1 h2 h3 h4 h5 h6 h7 _ _ ih2=>exact .for_ h1 h2 h3 h4 h5 h6 h7 (ih2 h0 k)
 | ret h1 h2 h3=>cases h0
 | retc h1 h2 h3=>cases h0
end
def MY (w:aH) (b:Bool) (k a:Int):aH:=if b=true then w else if (w.e_ == (0:Int))=true then ⟨k,a⟩ else w
theorem pH {c:aG} {w:aH} {b:Bool} {k a:Int}:bB c w b k a=some (MY w b k a):=by
 unfold bB pP MY;cases b
 ·simp only [jM,if_true,EY,if_false]
  split <;> rfl
 ·simp
theorem fD {w:aH} {b:Bool} {k a:Int} (hk:k ≠ 0) (h:(MY w b k a).e_=0):w.e_=0/\b=true/\MY w b k a=w:=by
 unfold MY at h ⊢;cases b
 ·simp only [EY,if_false] at h ⊢
  split at h
  ·exact absurd h hk
  ·rename_i h2;simp at h2;exact absurd h h2
 ·exact ⟨by simpa using h,rfl,by simp⟩
theorem Uc {w:aH} {b:Bool} {k a:Int} (hk:k ≠ 0) (h:w.e_ ≠ 0):(MY w b k a).e_ ≠ 0:=λh2=>h (fD hk h2).1
def uE (c:aG):List aL:=((c.p_.bF[c.f_.toNat]?).map aT.aX).getD []
structure CI (N B:Nat) (c:aG):Prop where
 nf:c.p_.bF.length=N
 nN:N<=16384
 f0:0<=c.f_
 f1:c.f_<N
 a0:0<=c.fW
 a1:c.fW<N
 sc:∀v ∈ c.bI,0<=v/\v<(uE c).length
 sl:c.bI.length<=(uE c).length
 vl:∀f ∈ c.p_.bF,f.aX.length<=250/\0<=f.bC/\f.bC<=f.aX.length
 nc:c.cC.length=N
 cl:∀l ∈ c.cC,l.length<=B/\∀k ∈ l,0<=k/\k<N
 ki:∀f ∈ c.p_.bF,(∀v ∈ f.aX,Ef v)/\(f.bX=0 ∨ f.bX=2 ∨ f.bX=3)
section
variable {N B n:Nat} {c:aG} {w:aH} {s:cF}
theorem CI.cur (h:CI N B c):∃f,c.p_.bF[c.f_.toNat]? = some f/\f ∈ c.p_.bF/\uE c=f.aX/\bM c.p_.bF c.f_=some f:=by
 have hl:c.f_.toNat<c.p_.bF.length:=by have:=h.nf;have:=h.f0;have:=h.f1;omega
 refine ⟨c.p_.bF[c.f_.toNat],uS hl,Ln _,?_,?_⟩
 ·unfold uE;rw [uS hl];rfl
 ·unfold bM;rw [if_pos h.f0,uS hl]
theorem CI.vs (h:CI N B c):(uE c).length<=250:=by
 obtain ⟨f,_,hm,e,_⟩:=h.cur;rw [e];exact (h.vl f hm).1
theorem oX {α:Type} {l:List α} {i:Int} (h0:0<=i) (h1:i<l.length):∃x,bM l i=some x/\l[i.toNat]? = some x/\x ∈ l:=by
 have hl:i.toNat<l.length:=by omega
 exact ⟨l[i.toNat],by unfold bM;rw [if_pos h0,uS hl],uS hl,Ln _⟩
theorem find_l1 (h:CI N B c):∀(k:Nat) (v:Int),v<k->-1<=v->v<c.bI.length->∃r,kT c s (k+1) v=some r/\(r=.inl () ∨ ∃i x,r=.inr i/\i ∈ c.bI/\(uE c)[i.toNat]? = some x/\x.fM=s):=by
 obtain ⟨f,hf,hm,hv,hfi⟩:=h.cur;intro k
 induction k with
 | zero=>
   intro v h1 h2 h3;have:v=-1:=by omega
   subst this;exact ⟨_,rfl,.inl rfl⟩
 | succ k ih=>
   intro v h1 h2 h3;unfold kT
   by_cases h0:0<=v
   ·rw [if_pos (AB h0),hfi];obtain ⟨i,e1,_,hi⟩:=oX h0 h3;obtain ⟨g0,g1⟩:=h.sc i hi;rw [hv] at g1;obtain ⟨x,e2,e3,_⟩:=oX g0 g1;simp only [iJ,e1,e2]
    by_cases hn:x.fM=s
    ·rw [if_pos (AB hn)];exact ⟨_,rfl,.inr ⟨i,x,rfl,hi,by rw [hv];exact e3,hn⟩⟩
    ·rw [if_neg (by simpa using hn)];have hl:c.bI.length<=250:=Jj h.sl h.vs;rw [cR (by omega) (by omega)];exact ih (v - 1) (by omega) (by omega) (by omega)
   ·rw [if_neg (by simpa using h0)];exact ⟨_,rfl,.inl rfl⟩
theorem Od (h:CI N B c) (hn:300<n):bK (lK n c w s) λr=>r=-1 ∨ ∃x,r ∈ c.bI/\(uE c)[r.toNat]? = some x/\x.fM=s:=by
 have hl:c.bI.length<=250:=Jj h.sl h.vs;unfold lK;obtain ⟨m,rfl⟩:∃m,n=m+1:=⟨n - 1,by omega⟩;rw [cR (by omega) (by omega)];obtain ⟨r,e,hr⟩:=find_l1 (s:=s) h m ((c.bI.length:Int) - 1) (by omega) (by omega) (by omega);rw [e]
 rcases hr with rfl | ⟨i,x,rfl,h1,h2,h3⟩
 ·exact ⟨_,rfl,.inl rfl⟩
 ·exact ⟨_,rfl,.inr ⟨x,h1,h2,h3⟩⟩
theorem Ec (h:CI N B c) (hn:300<n) {x:Nd}:bK (gA n c w x) λr=>(r.1=-1 ∨ 0<=r.1/\r.1<(uE c).length)/\(w.e_ ≠ 0->r.2.e_ ≠ 0)/\(r.2.e_=0->r.2=w/\∃v,r.1 ∈ c.bI/\0<=r.1/\(uE c)[r.1.toNat]? = some v/\v.fM=x.cX):=by
 unfold gA;refine (Od (w:=w) (s:=x.cX) h hn).bind λv hv=>?_;rw [pH];refine .some ⟨?_,Uc (by decide),λhe=>?_⟩
 ·rcases hv with rfl | ⟨y,h1,_,_⟩
  ·exact .inl rfl
  ·exact .inr (h.sc _ h1)
 ·obtain ⟨_,k2,k3⟩:=fD (by decide) he;have hv0:0<=v:=AD k2
  rcases hv with rfl | ⟨y,h1,h2,h3⟩
  ·exact absurd hv0 (by decide)
  ·exact ⟨k3,y,h1,hv0,h2,h3⟩
theorem BK (h:CI N B c) {v:Int} (hv:v=-1 ∨ 0<=v/\v<(uE c).length):bK (eO c w v) λk=>v=-1/\k=0 ∨ 0<=v/\∃x,(uE c)[v.toNat]? = some x/\k=x.bS:=by
 unfold eO
 rcases hv with rfl | ⟨h0,h1⟩
 ·exact .some (.inl ⟨rfl,rfl⟩)
 ·rw [if_neg (by simp;omega)];obtain ⟨f,_,_,hvs,hfi⟩:=h.cur;rw [hfi];rw [hvs] at h1 ⊢;obtain ⟨x,e1,e2,_⟩:=oX h0 h1;simp only [iJ,e1];exact .some (.inr ⟨h0,x,e2,rfl⟩)
def Rj (f:aT):aT:={ f with aX:=[],bQ:=[] }
structure Kp (c c':aG):Prop where
 f:c'.f_=c.f_
 a:c'.fW=c.fW
 s:c.bI <+: c'.bI
 v:uE c <+: uE c'
 o:∀i,i ≠ c.f_.toNat->c'.p_.bF[i]? = c.p_.bF[i]?
 g:c'.p_.bF.map Rj=c.p_.bF.map Rj
 k:∀j:Nat,j ≠ c.fW.toNat->c'.cC[j]? = c.cC[j]?
 l:∀l,bM c.cC c.fW=some l->∃l',bM c'.cC c.fW=some l'/\l <+: l'
theorem Kp.refl (c:aG):Kp c c:=⟨rfl,rfl,QK _,QK _,λ_ _=>rfl,rfl,λ_ _=>rfl,λl e=>⟨l,e,QK _⟩⟩
theorem Kp.trans {c1 c2 c3:aG} (h:Kp c1 c2) (k:Kp c2 c3):Kp c1 c3:=⟨k.f.trans h.f,k.a.trans h.a,h.s.trans k.s,h.v.trans k.v,λi hi=>(k.o i (by rw [h.f];exact hi)).trans (h.o i hi),k.g.trans h.g,λj hj=>(k.k j (by rw [h.a];exact hj)).trans (h.k j hj),λl e=>by
 obtain ⟨l1,e1,p1⟩:=h.l l e;obtain ⟨l2,e2,p2⟩:=k.l l1 (by rw [h.a];exact e1);exact ⟨l2,by rw [←h.a];exact e2,p1.trans p2⟩⟩
theorem uN (h:CI N B c) (hn:300<n) {x:aL} {a:Int} (hx:w.e_=0->Ef x):bK (eB n c w x a) λr=>CI N B r.2.1/\Kp c r.2.1/\r.2.1.cC=c.cC/\(w.e_ ≠ 0->r.2.2.e_ ≠ 0)/\(r.2.2.e_=0->r.2.2=w/\r.1=(uE c).length/\uE r.2.1=uE c++[x]/\r.2.1.bI=c.bI++[((uE c).length:Int)])/\(r.1=-1 ∨ 0<=r.1/\r.1<(uE r.2.1).length):=by
 unfold eB;refine (Od (w:=w) (s:=x.fM) h hn).bind λv hv=>?_;obtain ⟨f,hf,hm,hvs,hfi⟩:=h.cur;rw [pH,hfi];simp only [iJ,pH];refine bK.iteb (λhe=>?_) λhe=>?_
 ·simp only [bne_iff_ne] at he;exact .some ⟨h,.refl c,rfl,λ_=>he,λh2=>absurd h2 he,.inl rfl⟩
 ·simp only [bne_eq_false_iff_eq] at he;obtain ⟨k1,k2,k3⟩:=fD (by decide) he;obtain ⟨j1,j2,j3⟩:=fD (by decide) k1;have hlt:(f.aX.length:Int)<250:=AD k2;have hsl:=h.sl;rw [hvs] at hsl;refine bK.need (by omega) (bK.need (by omega) ?_);have hl:c.f_.toNat<c.p_.bF.length:=by have:=h.nf;have:=h.f0;have:=h.f1;omega
  have hv2:uE { c with p_:=⟨c.p_.bF.set c.f_.toNat { f with aX:=f.aX++[x] }⟩,bI:=c.bI++[(f.aX.length:Int)] }=f.aX++[x]:=by
   unfold uE;simp only;rw [PT hl];rfl
  refine .some ⟨⟨by simp only [rJ];exact h.nf,h.nN,h.f0,h.f1,h.a0,h.a1,?_,?_,?_,h.nc,h.cl,?_⟩,⟨rfl,rfl,LX _ _,?_,λi hi=>?_,?_,λ_ _=>rfl,λl e=>⟨l,e,QK _⟩⟩,rfl,λhw=>absurd j1 hw,λ_=>⟨by rw [k3,j3],by rw [hvs],by rw [hv2,hvs],by rw [hvs]⟩,.inr ⟨by omega,?_⟩⟩
  ·intro u hu;rw [hv2]
   rcases zH.1 hu with hu | hu
   ·have:=h.sc u hu;rw [hvs] at this;simp only [mB,uF];omega
   ·obtain rfl:=zG.1 hu;simp only [mB,uF];omega
  ·rw [hv2];simp only [mB,uF];omega
  ·intro g hg
   rcases SX hg with hg | rfl
   ·exact h.vl g hg
   ·have:=h.vl f hm;simp only [mB,uF];omega
  ·intro g hg
   rcases SX hg with hg | rfl
   ·exact h.ki g hg
   ·refine ⟨λv hv=>?_,(h.ki f hm).2⟩
    rcases zH.1 hv with hv | hv
    ·exact (h.ki f hm).1 v hv
    ·obtain rfl:=zG.1 hv;exact hx j1
  ·rw [hv2,hvs];exact LX _ _
  ·exact OL (Ne.symm hi)
  ·show List.map Rj (c.p_.bF.set c.f_.toNat _)=_;rw [List.map_set];refine SG λi=>?_
   by_cases e:c.f_.toNat=i
   ·subst e;rw [PT (by rw [gZ];exact hl),gW,hf];rfl
   ·rw [OL e]
  ·rw [hv2];simp only [mB,uF];omega
def sgC (c:aG):PP:=λk r ps=>(∃l,bM c.cC c.fW=some l/\k ∈ l)/\∃f,bM c.p_.bF k=some f/\r=f.bX/\ps=f.aX.take f.bC.toNat
theorem Kp.fn {c':aG} (h:CI N B c) (k:Kp c c') {i:Int} {f:aT} (e:bM c.p_.bF i=some f):∃f',bM c'.p_.bF i=some f'/\f'.fM=f.fM/\f'.dF=f.dF/\f'.bX=f.bX/\f'.bC=f.bC/\f.aX <+: f'.aX/\(i ≠ c.f_->f'=f):=by
 unfold bM at e ⊢
 split at e
 ·rename_i h0;rw [if_pos h0]
  by_cases hi:i=c.f_
  ·subst hi;obtain ⟨f2,e2,hm2,hv2,_⟩:=h.cur;rw [e] at e2;cases e2
   have hlen:c.p_.bF.length=c'.p_.bF.length:=by simpa using (congrArg List.length k.g).symm
   have hlt:=(uG.1 e).1;have e3:c'.p_.bF[c.f_.toNat]? = some (c'.p_.bF[c.f_.toNat]'(by omega)):=uS _
   have hs:Rj (c'.p_.bF[c.f_.toNat]'(by omega))=Rj f:=by
    have:=congrArg (λl=>l[c.f_.toNat]?) k.g;simp only [gW,e3,e,iI,Option.some.injEq] at this;exact this
   have hv:uE c'=(c'.p_.bF[c.f_.toNat]'(by omega)).aX:=by
    unfold uE;rw [k.f,e3];rfl
   have hp:=k.v;rw [hv2,hv] at hp;simp only [Rj,aT.mk.injEq] at hs;exact ⟨_,e3,hs.1,hs.2.1,hs.2.2.1,hs.2.2.2.1,hp,λh=>absurd rfl h⟩
  ·refine ⟨f,?_,rfl,rfl,rfl,rfl,QK _,λ_=>rfl⟩;rw [k.o _ (by have:=h.f0;omega)];exact e
 ·cases e
def Ml (c:aG):Int:=((c.p_.bF[c.f_.toNat]?).map aT.bX).getD 0
theorem CI.res (h:CI N B c) {f:aT} (e:bM c.p_.bF c.f_=some f):Ml c=f.bX:=by
 unfold bM at e;rw [if_pos h.f0] at e;unfold Ml;rw [e];rfl
theorem Kp.res {c':aG} (h:CI N B c) (k:Kp c c'):Ml c'=Ml c:=by
 obtain ⟨f,_,_,_,e⟩:=h.cur;obtain ⟨f',e',_,_,hr,_⟩:=k.fn h e;rw [h.res e,←hr];unfold bM at e';rw [if_pos h.f0] at e';unfold Ml;rw [k.f,e'];rfl
theorem CI.vsOk (h:CI N B c):∀v ∈ uE c,Ef v:=by
 obtain ⟨f,_,hm,e,_⟩:=h.cur;rw [e];exact (h.ki f hm).1
theorem JF {α:Type} {l l':List α} (h:l <+: l') {n:Nat} (hn:n<=l.length):l'.take n=l.take n:=by
 obtain ⟨r,rfl⟩:=h;exact List.take_append_of_le_length hn
theorem Kp.sg {c':aG} (h:CI N B c) (k:Kp c c') {i r:Int} {ps:List aL} (e:sgC c i r ps):sgC c' i r ps:=by
 obtain ⟨⟨l,e1,hl⟩,f,e2,rfl,rfl⟩:=e;obtain ⟨l',e3,hp⟩:=k.l l e1;obtain ⟨f',e4,_,_,hr,hps,hv,_⟩:=k.fn h e2
 have hm:f ∈ c.p_.bF:=by
  unfold bM at e2
  split at e2
  ·exact CT e2
  ·cases e2
 have:=h.vl f hm;refine ⟨⟨l',by rw [k.a];exact e3,hp.subset hl⟩,f',e4,hr.symm,?_⟩;rw [hps,JF hv (by omega)]
end
def SP (c:aG) (w:aH) (x:aD) (r:aF × aH):Prop:=r.2.e_=0->r.2=w/\TX (uE c) c.bI r.1/\(xz r.1:Int)<=sz x
def WK (w w':aH):Prop:=w'.e_=0->w'=w
theorem WK.refl (w:aH):WK w w:=λ_=>rfl
theorem WK.trans {a b c:aH} (h:WK a b) (k:WK b c):WK a c:=λe=>by
 have h2:=k e;subst h2;exact h e
theorem WK.nd {w:aH} {b:Bool} {k a:Int} (hk:k ≠ 0:=by decide):WK w (MY w b k a):=λe=>(fD hk e).2.2
theorem Kg {a b:Int}:bK (tM a b) λr=>r=zE a b:=by
 unfold tM zE;simp only [beq_iff_eq,Bq]
 repeat' split
 all_goals first | exact .some (by omega) | (simp only [iJ,Bq,beq_iff_eq,EY,if_false,if_true];repeat' split) 
 all_goals first | exact .some (by omega) | (exfalso;omega)
theorem Et {a:Int}:bK (qX a) λr=>r=true->ScT a:=by
 unfold qX;refine bK.bind (P:=λr=>r=true->ScT a) (bK.iteb (λh=>.some λ_=>.inl (by simpa using h)) λ_=>.some λh=>.inr (by simpa using h)) λb h=>.some h
theorem JI {a:Int}:bK (tK a) λr=>r=GE a:=by
 unfold tK GE;simp only [beq_iff_eq]
 split <;> exact .some rfl
theorem HB {a b:Int}:bK (tN a b) λr=>r=true->KE a b:=by
 unfold tN;refine bK.bind (P:=λr=>r=true->KE a b) (bK.iteb (λh=>.some λ_=>.inl (by simpa using h)) λ_=>bK.iteb (λh=>.some λh2=>.inr ⟨by simpa using h,by simpa using h2⟩) λ_=>.some λh=>nomatch h) λb h=>.some h
theorem Lw {a:Int}:bK (wW a) λr=>r=true->EU a:=by
 unfold wW EU;refine bK.bind (P:=λr=>r=true->EU a) ?_ λb h=>.some h;unfold EU;simp only [Bq]
 have ht:∀ {b:Bool},255<a->a<=1024->b=(a.tmod 4 == 0)->bK (some b) λr=>r=true->(1<=a/\a<=255 ∨ 255<a/\a<=1024/\a % 4=0):=λh1 h2 h3=>.some λh=>.inr ⟨h1,h2,by
  rw [h3,beq_iff_eq,xfo (by omega)] at h;exact h⟩
 repeat' split
 all_goals first | exact .some λh=>Bool.noConfusion h | exact .some λ_=>.inl ⟨‹_›,‹_›⟩ | exact ht (by omega) (by omega) rfl
section
variable {N B n:Nat} {c:aG} {w:aH}
theorem wG {x:aF} {k:Int}:bK (cG c w x k) λr=>WK w r.2/\r.1={ x with cK:=k }/\(r.2.e_=0->k ≠ 0):=by
 unfold cG;rw [pH];refine .some ⟨.nd,rfl,λe=>?_⟩;have:=(fD (by decide) e).2.1;simpa using this
theorem Rk {x y z:aF}:bK (gK c w x y z) λr=>WK w r.2/\r.1={ x with cK:=y.cK }/\(r.2.e_=0->z.cK=1/\(y.cK=3->z.fR=[110,117,109]/\z.N_<=63)/\y.cK ≠ 0):=by
 unfold gK;rw [pH];simp only [iJ];refine bK.iteb (λh3=>?_) (λh3=>?_)
 ·refine bK.bind (P:=λw'=>WK w w'/\(w'.e_=0->z.cK=1/\z.fR=[110,117,109]/\z.N_<=63)) ?_ λw' hw=>?_
  ·refine bK.iteb (λho=>?_) (λ_=>?_)
   ·rw [pH];refine .some ⟨(WK.nd).trans WK.nd,λe=>?_⟩;obtain ⟨k1,k2,_⟩:=fD (by decide) e;obtain ⟨_,j2,_⟩:=fD (by decide) k1;exact ⟨by simpa using j2,by simpa using ho,by simpa using k2⟩
   ·rw [pH];exact .some ⟨(WK.nd).trans WK.nd,λe=>by have:=(fD (by decide) e).2.1;cases this⟩
  ·refine (wG (c:=c)).bind λr hr=>.some ⟨hw.1.trans hr.1,hr.2.1,λe=>?_⟩;obtain ⟨q1,q2⟩:=hw.2 (by rw [←hr.1 e];exact e);exact ⟨q1,λ_=>q2,hr.2.2 e⟩
 ·refine (wG (c:=c)).bind λr hr=>.some ⟨(WK.nd).trans hr.1,hr.2.1,λe=>?_⟩;obtain ⟨_,j2,_⟩:=fD (k:=133) (by decide) (by rw [←hr.1 e];exact e);exact ⟨by simpa using j2,λh=>absurd h (by simpa using h3),hr.2.2 e⟩
theorem PC {x:aF} {x0 x1 x2:aF} (h:x.aO=[x0,x1,x2]):bK (lS c w x) λk=>k ≠ 0->ScT x0.cK/\zE x1.cK x2.cK ≠ 0/\k=GE (zE x1.cK x2.cK):=by
 unfold lS;rw [h];refine bK.eqn (v:=x1) rfl (bK.eqn (v:=x2) rfl (Kg.bind λk hk=>?_));refine bK.bind (P:=λb=>b=false->ScT x0.cK/\k ≠ 0) ?_ λb hb=>?_
 ·refine bK.eqn (v:=x0) rfl (Et.bind λb hb=>bK.iteb (λ_=>.some λh=>nomatch h) λh=>.some λh2=>⟨hb (by simpa using h),by simpa using h2⟩)
 ·refine bK.iteb (λ_=>.some λh=>absurd rfl h) (λh=>?_);exact JI.bind λr hr=>.some λ_=>⟨(hb h).1,hk ▸ (hb h).2,hk ▸ hr⟩
theorem Ee {s:cF} {k:Nat} {i:Int} {x:bJ} (h:i<5) (e:bM cL i=some x):vQ s (k+1) i=if x.Qh=s then some (.inr x.QB) else vQ s k (i64.wrap (i+1)):=by
 rw [vQ,if_pos (AB h),e];simp only [iJ,Bq]
theorem Ik {s:cF} (hn:6<n):bK (uP n s) λv=>0<=v/\v<=3/\(s=[115,101,108,101,99,116]->v=3)/\(s=[119,105,100,101]->v=2)/\(0<v->s=[115,101,108,101,99,116] ∨ s=[108,111,110,103]/\v=1 ∨ s=[108,111]/\v=1 ∨ s=[104,105]/\v=1 ∨ s=[119,105,100,101]):=by
 obtain ⟨m,rfl⟩:∃m,n=m+6:=⟨n - 6,by omega⟩;unfold uP;rw [Ee (i:=0) (x:=bJ.mk [115,101,108,101,99,116] 3) (by decide) rfl]
 split
 ·rename_i h;subst h;exact .some ⟨by decide,by decide,λ_=>rfl,λh=>absurd h (by decide),λ_=>.inl rfl⟩
 rename_i h0;rw [show i64.wrap (0+1)=1 from by decide,Ee (i:=1) (x:=bJ.mk [108,111,110,103] 1) (by decide) rfl]
 split
 ·rename_i h;subst h;exact .some ⟨by decide,by decide,λh=>absurd h (by decide),λh=>absurd h (by decide),λ_=>.inr (.inl ⟨rfl,rfl⟩)⟩
 rw [show i64.wrap (1+1)=2 from by decide,Ee (i:=2) (x:=bJ.mk [108,111] 1) (by decide) rfl]
 split
 ·rename_i h;subst h;exact .some ⟨by decide,by decide,λh=>absurd h (by decide),λh=>absurd h (by decide),λ_=>.inr (.inr (.inl ⟨rfl,rfl⟩))⟩
 rw [show i64.wrap (2+1)=3 from by decide,Ee (i:=3) (x:=bJ.mk [104,105] 1) (by decide) rfl]
 split
 ·rename_i h;subst h;exact .some ⟨by decide,by decide,λh=>absurd h (by decide),λh=>absurd h (by decide),λ_=>.inr (.inr (.inr (.inl ⟨rfl,rfl⟩)))⟩
 rw [show i64.wrap (3+1)=4 from by decide,Ee (i:=4) (x:=bJ.mk [119,105,100,101] 2) (by decide) rfl]
 split
 ·rename_i h;subst h;exact .some ⟨by decide,by decide,λh=>absurd h (by decide),λ_=>rfl,λ_=>.inr (.inr (.inr (.inr rfl)))⟩
 rename_i h4;rw [show i64.wrap (4+1)=5 from by decide];exact .some ⟨by decide,by decide,λh=>absurd h.symm h0,λh=>absurd h.symm h4,λh=>absurd h (by decide)⟩
end
def Vx (N B n:Nat) (f:aG->aH->aD->Option (aF × aH)):Prop:=∀c w x,CI N B c->WE x->sz x<=20000->3*sz x+301<=n->bK (f c w x) (SP c w x)
def Jf (N B n:Nat) (K:Int) (f:aG->aH->aD->aF->Option (aF × aH)):Prop:=∀c w x y,CI N B c->WE x->x.bS=K->sz x<=20000->3*sz x+300<=n->(∃a,y=⟨[],0,0,-1,[],a⟩)->bK (f c w x y) (SP c w x)
def Vy (N B n:Nat) (f:aG->aH->(List aD)->Option ((List aF) × aH)):Prop:=∀c w xs,CI N B c->(∀x ∈ xs,WE x)->vT xs<=20000->3*vT xs+302<=n->bK (f c w xs) λr=>WK w r.2/\r.1.length=xs.length/\(r.2.e_=0->∀y ∈ r.1,TX (uE c) c.bI y)/\(r.2.e_=0->(rB r.1:Int)<=vT xs)
section
variable {N B n:Nat} {c:aG} {w:aH}
theorem call_l1 {m:Nat} {xs:List Nd} {fe:aG->aH->aD->Option (aF × aH)} (hf:Vx N B m fe) (h:CI N B c) (hx:∀x ∈ xs,WE x) (hs:vT xs<=20000) (hm:3*vT xs+301<=m) :
  ∀(k v:Nat) (ys:List aF) (w:aH),xs.length<v+k->v<=xs.length->ys.length=v->(w.e_=0->∀y ∈ ys,TX (uE c) c.bI y)->bK (qV fe xs c k ys (v:Int) w) λr=>WK w r.2/\r.1.length=xs.length/\(r.2.e_=0->∀y ∈ r.1,TX (uE c) c.bI y)/\(r.2.e_=0->(rB r.1:Int)<=rB ys+vT (xs.drop v)):=by
 intro k
 induction k with
 | zero=>intro v ys w h1 h2 h3;omega
 | succ k ih=>
   intro v ys w h1 h2 h3 h4;unfold qV;have hg:=pL xs
   by_cases hv:v<xs.length
   ·rw [if_pos (AB (by omega))];obtain ⟨x,e,ex,hxm⟩:=oX (l:=xs) (i:=(v:Int)) (by omega) (by omega)
    have hd:xs.drop v=x::xs.drop (v+1):=by
     rw [CS] at ex;obtain ⟨hlt,rfl⟩:=uG.1 ex;exact MT hlt
    rw [e];simp only [iJ];have hsz:=JG hxm;refine (hf c w x h (hx x hxm) (by omega) (by omega)).bind λr hr=>bK.need (by simp only [uF];omega) ?_;rw [cR (by omega) (by omega),show ((v:Int)+1)=((v+1:Nat):Int) by omega];refine (ih (v+1) _ _ (by omega) (by omega) (by simp only [mB,uF];omega) λe y hy=>?_).mono λq hq=>⟨WK.trans (λe=>(hr e).1) hq.1,hq.2.1,hq.2.2.1,λe=>?_⟩
    ·rcases zH.1 hy with hy | hy
     ·exact h4 (by rw [←(hr e).1];exact e) y hy
     ·obtain rfl:=zG.1 hy;exact (hr e).2.1
    ·have h5:=hq.2.2.2 e;have h6:=(hr (by rw [←hq.1 e];exact e)).2.2;rw [LW,rB,rB] at h5;rw [hd,vB];omega
   ·rw [if_neg (by simp;omega)];exact .some ⟨.refl _,by rw [h3];omega,h4,λ_=>by have:=pL (xs.drop v);simp only;omega⟩
theorem call_b {fe:aG->aH->aD->Option (aF × aH)} (hf:Vx N B n fe):Vy N B (n+1) (pE fe n):=by
 intro c w xs h hx hs hn;unfold pE;have hg:=pL xs;exact (call_l1 hf h hx hs (by omega) n 0 [] w (by omega) (by omega) rfl λ_ y hy=>nomatch hy).bind λr hr=>.some ⟨hr.1,hr.2.1,hr.2.2.1,λe=>by have:=hr.2.2.2 e;rw [rB,iB] at this;simp only;omega⟩
theorem cexpr_b {f1 f2 f3 f4:aG->aH->aD->aF->Option (aF × aH)} (h1:Jf N B n 16 f1) (h2:Jf N B n 18 f2) (h3:Jf N B n 19 f3) (h4:Jf N B n 17 f4):Vx N B (n+1) (oI f1 f2 f3 f4 n):=by
 intro c w x h hx hs hn;have hp:=rO x;unfold oI;cases hx with
 | num n1 n2=>exact .some λ_=>⟨rfl,.num n1 n2,by rw [Bp,rB,gO,oR];omega⟩
 | ref=>
   simp only [Int.reduceBEq,EY,if_false,if_true];refine (Ec (w:=w) h (by omega)).bind λr hr=>?_;refine (BK (w:=r.2) h hr.1).bind λk hk=>?_;rw [pH];refine .some λe=>?_;obtain ⟨k1,k2,k3⟩:=fD (k:=132) (by decide) e;obtain ⟨j1,u,j2,j3,j4,j5⟩:=hr.2.2 k1;refine ⟨k3.trans j1,?_,by rw [Bp,rB,gO,oR];omega⟩
   rcases hk with ⟨hm,_⟩ | ⟨_,u2,hk2,rfl⟩
   ·omega
   ·exact .var j2 (by unfold bM;rw [if_pos j3];exact hk2) (by simpa using k2)
 | index hy=>
   simp only [Int.reduceBEq,EY,if_false,if_true];exact (h1 c w _ _ h (.index hy) rfl hs (by omega) ⟨_,rfl⟩).bind λr hr=>.some hr
 | un hu hy=>
   simp only [Int.reduceBEq,EY,if_false,if_true];exact (h2 c w _ _ h (.un hu hy) rfl hs (by omega) ⟨_,rfl⟩).bind λr hr=>.some hr
 | bin hl hy hz=>
   simp only [Int.reduceBEq,EY,if_false,if_true];exact (h3 c w _ _ h (.bin hl hy hz) rfl hs (by omega) ⟨_,rfl⟩).bind λr hr=>.some hr
 | call hy=>
   simp only [Int.reduceBEq,EY,if_false];exact (h4 c w _ _ h (.call hy) rfl hs (by omega) ⟨_,rfl⟩).bind λr hr=>.some hr
theorem WE.inv16 {x:Nd} (h:WE x) (k:x.bS=16):∃a s y,x=⟨16,a,s,0,[y]⟩/\WE y:=by
 cases h <;> first | exact ⟨_,_,_,rfl,‹_›⟩ | (simp at k)
theorem WE.inv18 {x:Nd} (h:WE x) (k:x.bS=18):∃a s y,x=⟨18,a,s,0,[y]⟩/\WE y:=by
 cases h <;> first | exact ⟨_,_,_,rfl,‹_›⟩ | (simp at k)
theorem WE.inv19 {x:Nd} (h:WE x) (k:x.bS=19):∃a s y z,x=⟨19,a,s,0,[y,z]⟩/\WE y/\WE z/\s ∈ HR:=by
 cases h <;> first | exact ⟨_,_,_,_,rfl,‹_›,‹_›,‹_›⟩ | (simp at k)
theorem WE.inv17 {x:Nd} (h:WE x) (k:x.bS=17):∃a s xs,x=⟨17,a,s,0,xs⟩/\∀y ∈ xs,WE y:=by
 cases h <;> first | exact ⟨_,_,_,rfl,‹_›⟩ | (simp at k)
theorem cload_b {fe:aG->aH->aD->Option (aF × aH)} (hf:Vx N B n fe):Jf N B (n+1) 16 (oH fe n):=by
 rintro c w x y h hx hk hs hn ⟨ya,rfl⟩;obtain ⟨a,s,z,rfl,hz⟩:=hx.inv16 hk;rw [gO,sZ] at hs hn;have hzp:=rO z;unfold oH;refine bK.eqn (v:=z) rfl ?_;refine (hf c w z h hz (by omega) (by omega)).bind λr hr=>?_;refine (Ec (w:=r.2) h (by omega)).bind λv hv=>?_;refine (BK (w:=v.2) h hv.1).bind λk hk=>?_;simp only [pH,iJ]
 have key:∀ {w2:aH},WK (MY (MY v.2 (k == 4) 132 a) (r.1.cK == 1) 133 r.1.eU) w2->w2.e_=0->w2=w/\(TX (uE c) c.bI r.1/\(xz r.1:Int)<=sz z)/\r.1.cK=1/\∃u,v.1 ∈ c.bI/\bM (uE c) v.1=some u/\u.bS=4:=by
  intro w2 hw2 e;have e2:=hw2 e;subst e2;obtain ⟨k1,k2,k3⟩:=fD (k:=133) (by decide) e;obtain ⟨j1,j2,j3⟩:=fD (k:=132) (by decide) k1;obtain ⟨i1,u,i2,i3,i4,i5⟩:=hv.2.2 j1;obtain ⟨l1,l2⟩:=hr (by rw [←i1];exact j1);refine ⟨by rw [k3,j3,i1,l1],l2,by simpa using k2,u,i2,by unfold bM;rw [if_pos i3];exact i4,?_⟩
  rcases hk with ⟨hm,_⟩ | ⟨_,u2,hk2,rfl⟩
  ·omega
  ·rw [i4] at hk2;cases hk2;simpa using j2
 refine bK.bind' (bK.iteb (λhe=>.some ?_) (λhe=>.some ?_))
 ·refine bK.iteb (λho=>?_) (λho=>.some λe=>?_)
  ·have he2:=(fD (k:=132) (by decide) (fD (k:=133) (by decide) (by simpa using he)).1).1;obtain ⟨_,u,h1,h2,h3,h4⟩:=hv.2.2 he2;obtain ⟨f,_,hm,hvs,hfi⟩:=h.cur;rw [hfi];have hlt:=h.sc _ h1;rw [hvs] at hlt;obtain ⟨u2,e2,_,_⟩:=oX hlt.1 hlt.2;simp only [iJ,e2];refine .some λe=>?_;obtain ⟨g1,g2,g3,u3,g4,g5,g6⟩:=key WK.nd e;rw [hvs,e2] at g5;cases g5
   exact ⟨g1,.index g4 (by rw [hvs];exact e2) g6 g2.1 g3 λ_=>(by simpa using (fD (k:=137) (by decide) e).2.1),by rw [Bp,rB,rB,gO,sZ];have:=g2.2;omega⟩
  ·obtain ⟨g1,g2,g3,u3,g4,g5,g6⟩:=key (.refl _) e;exact ⟨g1,.index g4 g5 g6 g2.1 g3 λh=>absurd h (by simpa using ho),by rw [Bp,rB,rB,gO,sZ];have:=g2.2;omega⟩
 ·refine bK.iteb (λh=>nomatch h) (λ_=>.some λe=>?_);exact absurd e (by simpa using he)
theorem Ur {α:Type} {l:List α} (h:l.length=1):∃x,l=[x]:=by
 match l,h with
 | [x],_=>exact ⟨x,rfl⟩
theorem list2 {α:Type} {l:List α} (h:l.length=2):∃x y,l=[x,y]:=by
 match l,h with
 | [x,y],_=>exact ⟨x,y,rfl⟩
theorem list3 {α:Type} {l:List α} (h:l.length=3):∃x y z,l=[x,y,z]:=by
 match l,h with
 | [x,y,z],_=>exact ⟨x,y,z,rfl⟩
theorem UP {fa:aG->aH->(List aD)->Option ((List aF) × aH)} (hf:Vy N B n fa):Jf N B (n+1) 18 (nI fa n):=by
 rintro c w x y h hx hk hs hn ⟨ya,rfl⟩;obtain ⟨a,s,z,rfl,hz⟩:=hx.inv18 hk;rw [gO] at hs hn;unfold nI;refine (hf c w [z] h (λu hu=>by obtain rfl:=zG.1 hu;exact hz) (by omega) (by omega)).bind λr hr=>?_;obtain ⟨h1,h2,h3,h5⟩:=hr;obtain ⟨u,hu⟩:=Ur h2;rw [hu] at h3 h5 ⊢;refine bK.iteb (λ_=>bK.eqn (v:=u) rfl (.some λe=>⟨h1 e,.un (.inr rfl) (h3 e u Uj),by rw [Bp,gO];have:=h5 e;simp only;omega⟩)) (λ_=>bK.eqn (v:=u) rfl (.some λe=>⟨h1 e,.un (.inl rfl) (h3 e u Uj),by rw [Bp,gO];have:=h5 e;simp only;omega⟩))
theorem Sc {fa:aG->aH->(List aD)->Option ((List aF) × aH)} (hf:Vy N B n fa):Jf N B (n+1) 19 (mS fa n):=by
 rintro c w x y h hx hk hs hn ⟨ya,rfl⟩;obtain ⟨a,s,z,z2,rfl,hz,hz2,hsg⟩:=hx.inv19 hk;rw [gO] at hs hn;unfold mS;refine (hf c w [z,z2] h (λu hu=>by rcases AE.1 hu with rfl | hu;exact hz;obtain rfl:=zG.1 hu;exact hz2) (by omega) (by omega)).bind λr hr=>?_;obtain ⟨h1,h2,h3,h5⟩:=hr;obtain ⟨u,u2,hu⟩:=list2 h2;rw [hu] at h3 h5 ⊢;refine bK.eqn (v:=u) rfl (bK.eqn (v:=u2) rfl (Kg.bind λk hk=>?_));subst hk;simp only [pH,iJ]
 have fin:∀ {o:cF} {t:Int} {w2:aH},WK r.2 w2->(w2.e_=0->Oz o u u2 t)->SP c w ⟨19,a,s,0,[z,z2]⟩ (⟨o,t,0,-1,[u,u2],ya⟩,w2):=λhw hb e=>by
  have e1:r.2.e_=0:=by rw [←hw e];exact e
  exact ⟨(hw e).trans (h1 e1),.bin (h3 e1 u (by simp)) (h3 e1 u2 (by simp)) (hb e),by rw [Bp,gO];have:=h5 e1;simp only;omega⟩
 have div:∀ {o:cF},(o=[47] ∨ o=[37])->bK ((cG c (MY (MY r.2 (u.cK == 1) 133 u.eU) (u2.cK == 1) 133 u2.eU) ⟨o,0,0,-1,[u,u2],ya⟩ 1).bind λx=>some (x.1,x.2)) (SP c w ⟨19,a,s,0,[z,z2]⟩):=λho=>
  (wG (c:=c)).bind λr2 hr2=>.some (by
    rw [hr2.2.1];refine fin ((WK.nd).trans ((WK.nd).trans hr2.1)) λe=>?_;obtain ⟨k1,k2,_⟩:=fD (k:=133) (by decide) (by rw [←hr2.1 e];exact e);obtain ⟨_,j2,_⟩:=fD (k:=133) (by decide) k1;exact .inl ⟨ho,by simpa using j2,by simpa using k2,rfl⟩)
 have shf:∀ {o:cF},(o=[60,60] ∨ o=[62,62] ∨ o=[60,60,60])->bK ((gK c r.2 ⟨o,0,0,-1,[u,u2],ya⟩ u u2).bind λx=>some (x.1,x.2)) (SP c w ⟨19,a,s,0,[z,z2]⟩):=λho=>
  (Rk (c:=c)).bind λr2 hr2=>.some (by
    rw [hr2.2.1];refine fin hr2.1 λe=>?_;obtain ⟨k1,k2,_⟩:=hr2.2.2 e;exact .inr (.inl ⟨ho,k1,k2,rfl⟩))
 have typ:∀ {o:cF} {t:Int} {w1:aH},WK r.2 w1->(t ≠ 0->w1.e_=0->Oz o u u2 t)->bK ((cG c w1 ⟨o,0,0,-1,[u,u2],ya⟩ t).bind λx=>some (x.1,x.2)) (SP c w ⟨19,a,s,0,[z,z2]⟩):=λhw hb=>
  (wG (c:=c)).bind λr2 hr2=>.some (by
    rw [hr2.2.1];refine fin (hw.trans hr2.1) λe=>hb (hr2.2.2 e) (by rw [←hr2.1 e];exact e))
 refine bK.iteb (λho=>div (.inl (AD ho))) λn1=>bK.iteb (λho=>div (.inr (AD ho))) λn2=>?_;refine bK.iteb (λho=>shf (.inl (AD ho))) λn3=>bK.iteb (λho=>shf (.inr (.inl (AD ho)))) λn4=>bK.iteb (λho=>shf (.inr (.inr (AD ho)))) λn5=>?_;refine bK.iteb (λho=>typ WK.nd λht e=>.inr (.inr (.inl ⟨AD ho,rfl,by simpa using (fD (k:=132) (by decide) e).2.1,ht⟩))) λn6=>?_;refine bK.iteb (λho=>bK.iteb (λh3=>typ (.refl _) λht e=>?_) λh3=>typ (.refl _) λht e=>?_) λn7=>?_
 ·exact .inr (.inr (.inr (.inl ⟨.inl (AD ho),by rw [beq_iff_eq] at h3;omega,by rw [if_pos (by simpa using h3)]⟩)))
 ·exact .inr (.inr (.inr (.inl ⟨.inl (AD ho),ht,by rw [if_neg (by simpa using h3)]⟩)))
 refine bK.iteb (λho=>bK.iteb (λh3=>typ (.refl _) λht e=>?_) λh3=>typ (.refl _) λht e=>?_) λn8=>?_
 ·exact .inr (.inr (.inr (.inl ⟨.inr (AD ho),by rw [beq_iff_eq] at h3;omega,by rw [if_pos (by simpa using h3)]⟩)))
 ·exact .inr (.inr (.inr (.inl ⟨.inr (AD ho),ht,by rw [if_neg (by simpa using h3)]⟩)))
 refine typ (.refl _) λht e=>.inr (.inr (.inr (.inr ⟨?_,rfl,ht⟩)));simp only [decide_eq_false_iff_not] at n1 n2 n3 n4 n5 n6 n7 n8;simp only [HR,AE,iH,or_false] at hsg
 rcases hsg with h | h | h | h | h | h | h | h | h | h | h | h | h
 ·exact .inl h
 ·exact .inr (.inl h)
 ·exact .inr (.inr (.inl h))
 ·exact absurd h n7
 ·exact absurd h n8
 ·exact absurd h n3
 ·exact absurd h n4
 ·exact absurd h n5
 ·exact .inr (.inr (.inr (.inl h)))
 ·exact .inr (.inr (.inr (.inr h)))
 ·exact absurd h n6
 ·exact absurd h n1
 ·exact absurd h n2
theorem PF {fa:aG->aH->(List aD)->Option ((List aF) × aH)} (hf:Vy N B n fa):Jf N B (n+1) 17 (mA fa n):=by
 rintro c w x y h hx hk hs hn ⟨ya,rfl⟩;obtain ⟨a,s,xs,rfl,hz⟩:=hx.inv17 hk;rw [gO] at hs hn;have hp:0<=vT xs:=by have:=pL xs;omega
 unfold mA;refine (Ik (s:=s) (by omega)).bind λv hv=>?_;simp only [pH,iJ];refine (hf c _ xs h hz (by omega) (by omega)).bind λr hr=>?_;obtain ⟨g1,hrl,g3,g4⟩:=hr;have hwr:=(WK.nd (w:=w)).trans ((WK.nd).trans g1);refine bK.iteb (λhe=>.some λe=>absurd e (by simpa using he)) (λhe=>?_);simp only [bne_eq_false_iff_eq] at he;have h1:=g1 he;obtain ⟨k1,k2,k3⟩:=fD (k:=136) (by decide) (by rw [←h1];exact he);obtain ⟨j1,j2,j3⟩:=fD (k:=130) (by decide) k1;have hl:(xs.length:Int)=v:=by simpa using k2
 have hv0:0<v:=AD j2;have hT:=g3 he;have fin:∀ {x:aF} {w2:aH},WK r.2 w2->(w2.e_=0->TX (uE c) c.bI x)->x.aO=r.1->SP c w ⟨17,a,s,0,xs⟩ (x,w2):=λhw hb hx e=>⟨(hwr.trans hw) e,hb e,by rw [Bp,gO,hx];have:=g4 he;omega⟩;obtain ⟨_,hv3,hvs,hvw,hall⟩:=hv;have hall:=hall hv0;obtain ⟨u,e,_,hum⟩:=oX (l:=r.1) (i:=0) (by decide) (by omega);rw [e];simp only [iJ];refine bK.iteb (λhc=>?_) (λn1=>bK.iteb (λhc=>?_) (λn2=>bK.iteb (λhc=>?_) (λn3=>?_)))
 ·have h3:=hvs (AD hc);obtain ⟨x0,x1,x2,hr3⟩:=list3 (l:=r.1) (by omega);rw [hr3] at hT fin ⊢;refine (PC (c:=c) rfl).bind λk hk=>?_;refine (wG (c:=c)).bind λr2 hr2=>.some ?_;rw [hr2.2.1];refine fin hr2.1 (λe=>?_) rfl;obtain ⟨q1,q2,rfl⟩:=hk (hr2.2.2 e);rw [AD hc];exact .sel (hT _ (by simp)) (hT _ (by simp)) (hT _ (by simp)) q1 q2
 ·have hc1:=AD hc
  have hv1:v=1:=by
   rcases hall with h | h | h | h | h
   ·rw [hc1] at h;exact absurd h (by decide)
   ·exact h.2
   ·exact h.2
   ·exact h.2
   ·rw [hc1] at h;exact absurd h (by decide)
  obtain ⟨x0,hr1⟩:=Ur (l:=r.1) (by omega);rw [hr1] at hT e fin ⊢;have hx0:x0=u:=by cases e;rfl
  subst hx0;refine Et.bind λb hb=>?_;refine (wG (c:=c)).bind λr2 hr2=>.some ?_;rw [hr2.2.1];refine fin ((WK.nd).trans hr2.1) (λe=>?_) rfl;rw [hc1];exact .long (hT _ Uj) (hb (fD (k:=132) (by decide) (by rw [←hr2.1 e];exact e)).2.1)
 ·have h2:=hvw (AD hc);obtain ⟨x0,x1,hr2⟩:=list2 (l:=r.1) (by omega);rw [hr2] at hT e fin ⊢;have hx0:x0=u:=by cases e;rfl
  subst hx0;refine bK.bind (P:=λw'=>WK r.2 w'/\(w'.e_=0->ScT x0.cK/\ScT x1.cK)) (Et.bind λb hb=>bK.iteb (λhbt=>bK.eqn (v:=x1) rfl ?_) (λ_=>.some ⟨WK.nd,λe=>?_⟩)) λw' hw'=>?_
  ·exact Et.bind λb2 hb2=>.some ⟨WK.nd,λe=>⟨hb hbt,hb2 (fD (k:=132) (by decide) e).2.1⟩⟩
  ·have:=(fD (k:=132) (by decide) e).2.1;cases this
  ·refine (wG (c:=c)).bind λr2 hr2=>.some ?_;rw [hr2.2.1];refine fin (hw'.1.trans hr2.1) (λe=>?_) rfl;obtain ⟨q1,q2⟩:=hw'.2 (by rw [←hr2.1 e];exact e);rw [AD hc];exact .wide (hT _ (by simp)) (hT _ (by simp)) q1 q2
 ·have hc1:(s=[108,111] ∨ s=[104,105])/\v=1:=by
   rcases hall with h | h | h | h | h
   ·exact absurd h (by simpa using n1)
   ·exact absurd h.1 (by simpa using n2)
   ·exact ⟨.inl h.1,h.2⟩
   ·exact ⟨.inr h.1,h.2⟩
   ·exact absurd h (by simpa using n3)
  obtain ⟨x0,hr1⟩:=Ur (l:=r.1) (by omega);rw [hr1] at hT e fin ⊢;have hx0:x0=u:=by cases e;rfl
  subst hx0;refine (wG (c:=c)).bind λr2 hr2=>.some ?_;rw [hr2.2.1];refine fin ((WK.nd).trans hr2.1) (λe=>?_) rfl;exact .half hc1.1 (hT _ Uj) (eq_of_beq (fD (k:=132) (by decide) (by rw [←hr2.1 e];exact e)).2.1)
theorem Qw:∀n:Nat,Vx N B n (cB n).1/\Jf N B n 16 (cB n).2.1/\Jf N B n 18 (cB n).2.2.1/\Jf N B n 19 (cB n).2.2.2.1/\Jf N B n 17 (cB n).2.2.2.2.1/\Vy N B n (cB n).2.2.2.2.2
 | 0=>⟨λc w x _ _ _ h=>by have:=rO x;omega,λc w x y _ _ _ _ h _=>by have:=rO x;omega,λc w x y _ _ _ _ h _=>by have:=rO x;omega,λc w x y _ _ _ _ h _=>by have:=rO x;omega,λc w x y _ _ _ _ h _=>by have:=rO x;omega,λc w xs _ _ _ h=>by have:=pL xs;omega⟩
 | n+1=>by
   obtain ⟨g1,g2,g3,g4,g5,g6⟩:=Qw n;exact ⟨cexpr_b g2 g3 g4 g5,cload_b g1,UP g6,Sc g6,PF g6,call_b g1⟩
theorem Bm (h:CI N B c) {x:Nd} (hx:WE x) (hs:sz x<=20000) (hn:3*sz x+301<=n):bK (gB n c w x) (SP c w x):=(Qw n).1 c w x h hx hs hn
end
section
variable {N B n:Nat} {c:aG} {w:aH}
theorem uO (h:CI N B c) {x:Nd} (hx:WE x) (hs:sz x<=20000) (hn:3*sz x+301<=n):bK (eG n c w x) λr=>SP c w x r/\(r.2.e_=0->r.1.cK=1):=by
 unfold eG;refine (Bm h hx hs hn).bind λr hr=>?_;rw [pH];refine .some ⟨λe=>?_,λe=>by simpa using (fD (k:=133) (by decide) e).2.1⟩;obtain ⟨k1,_,k3⟩:=fD (k:=133) (by decide) e;obtain ⟨j1,j2⟩:=hr k1;exact ⟨k3.trans j1,j2⟩
theorem SP.wk {x:Nd} {r:aF × aH} (h:SP c w x r):WK w r.2:=λe=>(h e).1
theorem Find_l1 (fs:List aT) (s:cF) (hl:fs.length<=16384):∀(k v:Nat),fs.length<v+k->v<=fs.length->∃r,cJ fs s k v=some r/\(r=.inl () ∨ ∃(i:Nat) (f:aT),r=.inr (i:Int)/\fs[i]? = some f/\f.fM=s):=by
 intro k
 induction k with
 | zero=>intro v h1 h2;omega
 | succ k ih=>
   intro v h1 h2;unfold cJ
   by_cases hv:v<fs.length
   ·rw [if_pos (AB (by omega))];obtain ⟨f,e,e2,_⟩:=oX (l:=fs) (i:=(v:Int)) (by omega) (by omega);rw [e];simp only [iJ,Ax]
    by_cases hf:f.fM=s
    ·rw [if_pos (AB hf)];exact ⟨_,rfl,.inr ⟨v,f,rfl,by simpa using e2,hf⟩⟩
    ·rw [if_neg (by simpa using hf),cR (by omega) (by omega),show ((v:Int)+1)=((v+1:Nat):Int) by omega];exact ih (v+1) (by omega) (by omega)
   ·rw [if_neg (by simp;omega)];exact ⟨_,rfl,.inl rfl⟩
theorem Ox {p:bH} {s:cF} (hl:p.bF.length<=16384) (hn:16384<n):bK (pG n p s) λr=>0<=r.1/\(r.2=true->r.1<p.bF.length/\∃f,p.bF[r.1.toNat]? = some f/\f.fM=s):=by
 unfold pG eQ;obtain ⟨r,e,hr⟩:=Find_l1 p.bF s hl n 0 (by omega) (by omega);have e:cJ p.bF s n 0=some r:=e;rw [e]
 rcases hr with rfl | ⟨i,f,rfl,h1,h2⟩
 ·exact .some ⟨by decide,λh=>absurd h (by decide)⟩
 ·have hi:i<p.bF.length:=(uG.1 h1).1;refine .some ⟨by simp only;omega,λ_=>⟨by simp only;omega,f,?_,h2⟩⟩;have:(max (i:Int) 0).toNat=i:=by omega
  simp only [this,h1]
theorem function_tot' (h:CI N B c) (hn:16384<n) {x:Nd}:bK (mR n c w x) λr=>WK w r.2/\(r.2.e_=0->0<=r.1/\r.1<N):=by
 unfold mR;refine (Ox (by have:=h.nf;have:=h.nN;omega) hn).bind λr hr=>?_;rw [pH];refine .some ⟨WK.nd,λe=>?_⟩;have:=(hr.2 (fD (by decide) e).2.1).1;have:=h.nf;exact ⟨hr.1,by omega⟩
theorem OX (h:CI N B c) {i:Int} (h0:0<=i) (h1:i<N):bK (oF c w i) λr=>∃f,bM c.p_.bF i=some f/\r=f.aX.take f.bC.toNat:=by
 unfold oF;obtain ⟨f,e,_,hm⟩:=oX (l:=c.p_.bF) h0 (by have:=h.nf;omega);rw [e];have hv:=h.vl f hm;simp only [iJ];exact bK.need ⟨hv.2.1,hv.2.2⟩ (.some ⟨f,rfl,rfl⟩)
theorem Sg (h:CI N B c) (hn:300<n) {x:Nd} {p:aL} (hp:p.bS=4):bK (mM n c w x p.qO) λr=>r.2.e_=0->r.2=w/\GU (uE c) c.bI p r.1/\(xz r.1:Int)<=sz x:=by
 unfold mM;rw [pH];simp only [iJ];refine (Ec h hn).bind λv hv=>?_;refine bK.bind (P:=λw'=>w'.e_=0->w'=w/\GU (uE c) c.bI p ⟨[118,97,114],4,0,v.1,[],x.eU⟩) ?_ λw' hw'=>.some λe=>⟨(hw' e).1,(hw' e).2,by rw [Bp,rB];have:=rO x;omega⟩;refine (BK (w:=v.2) h hv.1).bind λk hk=>bK.iteb (λhc=>?_) (λ_=>by rw [pH];exact .some λe=>by have:=(fD (k:=132) (by decide) e).2.1;cases this);have hk4:k=4:=by simpa using hc
 rcases hk with ⟨_,h2⟩ | ⟨h0,u,h1,hku⟩
 ·omega
 obtain ⟨f,_,hm,hvs,hfi⟩:=h.cur;rw [hfi];rw [hvs] at h1;have hlt:v.1.toNat<f.aX.length:=(uG.1 h1).1
 have e2:bM f.aX (max v.1 0)=some u:=by
  rw [show max v.1 0=v.1 by omega];unfold bM;rw [if_pos h0];exact h1
 simp only [iJ,e2,pH];refine .some λe=>?_;obtain ⟨k1,k2,k3⟩:=fD (k:=132) (by decide) e;obtain ⟨j1,u3,j2,j3,j4,j5⟩:=hv.2.2 k1;obtain ⟨_,_,i3⟩:=fD (k:=132) (by decide) (by rw [←j1];exact k1);refine ⟨by rw [k3,j1,i3],.arr hp j2 (u:=u) (by rw [hvs];unfold bM;rw [if_pos h0];exact h1) (by omega) (by simpa using k2)⟩
theorem MF (h:CI N B c) {x:Nd} (hx:WE x) (hs:sz x<=20000) (hn:3*sz x+301<=n) {v:aL}:bK (mT n c w x v) λr=>r.2.e_=0->r.2=w/\GU (uE c) c.bI v r.1/\(xz r.1:Int)<=sz x:=by
 have hp:=rO x;unfold mT;refine bK.iteb (λh4=>?_) (λh4=>bK.iteb (λh1=>?_) (λh1=>?_))
 ·exact (Sg h (by omega) (by simpa using h4)).bind λr hr=>.some hr
 ·exact (uO h hx hs hn).bind λr hr=>.some λe=>⟨(hr.1 e).1,.pub (by simpa using h1) (hr.1 e).2.1 (hr.2 e),(hr.1 e).2.2⟩
 ·refine (Bm h hx hs hn).bind λr hr=>HB.bind λb hb=>?_;rw [pH];refine .some λe=>?_;obtain ⟨k1,k2,k3⟩:=fD (k:=132) (by decide) e;exact ⟨k3.trans (hr k1).1,.val (by simpa using h1) (by simpa using h4) (hr k1).2.1 (hb k2),(hr k1).2.2⟩
theorem CI.calls (h:CI N B c) {l:List Int} {k:Int} (e:bM c.cC c.fW=some l) (h0:0<=k) (h1:k<N):CI N (B+1) { c with cC:=c.cC.set c.fW.toNat (l++[k]) }:=by
 have hm:l ∈ c.cC:=by
  obtain ⟨l2,e2,_,hm⟩:=oX (l:=c.cC) h.a0 (by rw [h.nc];exact h.a1);rw [e] at e2;cases e2;exact hm
 refine ⟨h.nf,h.nN,h.f0,h.f1,h.a0,h.a1,h.sc,h.sl,h.vl,by simp only [rJ];exact h.nc,?_,h.ki⟩;intro l' hl'
 rcases SX hl' with hl' | rfl
 ·exact ⟨Nat.le_succ_of_le (h.cl l' hl').1,(h.cl l' hl').2⟩
 ·have:=h.cl l hm;refine ⟨by simp only [mB,uF];omega,λu hu=>?_⟩
  rcases zH.1 hu with hu | hu
  ·exact this.2 u hu
  ·obtain rfl:=zG.1 hu;exact ⟨h0,h1⟩
theorem CI.more {B':Nat} (h:CI N B c) (hb:B<=B'):CI N B' c:=⟨h.nf,h.nN,h.f0,h.f1,h.a0,h.a1,h.sc,h.sl,h.vl,h.nc,λl hl=>⟨Jj (h.cl l hl).1 hb,(h.cl l hl).2⟩,h.ki⟩
theorem UX {x:Nd} {sh:List aL} {l:List Int} {k4:Int × aH} (h:CI N B { c with cC:=c.cC.set c.fW.toNat (l++[k4.1]) }) (hx:∀y ∈ x.aO,WE y) (hs:vT x.aO<=20000) (hn:3*vT x.aO+301<=n) {w0:aH} (hw0:w0.e_=0->x.aO.length=sh.length) {st0:aB} :
  ∀(k v:Nat) (w:aH) (ys:List aF),x.aO.length<v+k->v<=x.aO.length->ys.length=v->(w.e_=0->w=w0/\∀(i:Nat) p y,sh[i]? = some p->ys[i]? = some y->GU (uE c) c.bI p y)->WK w0 w->bK (kU n x sh c l k4 k (v:Int) w { st0 with aO:=ys }) λr=>WK w r.1/\(∃zs,r.2={ st0 with aO:=zs }/\(r.1.e_=0->AU (uE c) c.bI sh zs/\(rB zs:Int)<=rB ys+vT (x.aO.drop v))):=by
 intro k
 induction k with
 | zero=>intro v w ys h1 h2 h3;omega
 | succ k ih=>
   intro v w ys h1 h2 h3 h4 hw;unfold kU;have hg:=pL x.aO
   by_cases hv:v<x.aO.length
   ·rw [if_pos (AB (by omega))];obtain ⟨y,e,ey,hym⟩:=oX (l:=x.aO) (i:=(v:Int)) (by omega) (by omega)
    have hd:x.aO.drop v=y::x.aO.drop (v+1):=by
     rw [CS] at ey;obtain ⟨hlt,rfl⟩:=uG.1 ey;exact MT hlt
    rw [e];simp only [iJ];refine bK.iteb (λhe=>.some ⟨.refl _,ys,rfl,λe=>absurd e (by simpa using he)⟩) (λhe=>?_);simp only [bne_eq_false_iff_eq] at he;have hw':=hw he;have hlen:=hw0 (by rw [←hw'];exact he);obtain ⟨u,e2,e3,_⟩:=oX (l:=sh) (i:=(v:Int)) (by omega) (by omega);rw [e2];simp only [iJ];have hsz:=JG hym;refine (MF h (hx y hym) (by omega) (by omega)).bind λr hr=>bK.need (by simp only [uF];omega) ?_;rw [cR (by omega) (by omega),show ((v:Int)+1)=((v+1:Nat):Int) by omega];refine (ih (v+1) r.2 (ys++[r.1]) (by omega) (by omega) (by simp only [mB,uF];omega) (λer=>⟨?_,λi p y hp hy=>?_⟩) (hw.trans λe=>(hr e).1)).mono λq hq=>?_
    ·rw [(hr er).1,hw']
    ·by_cases hi:i<v
     ·rw [MW (by omega)] at hy;exact (h4 he).2 i p y hp hy
     ·have hi2:i=v:=by
       have:=(uG.1 hy).1;simp only [mB,uF] at this;omega
      subst hi2;rw [Ma (by omega),h3,xes] at hy;cases hy;rw [CS] at e3;rw [hp] at e3;cases e3
      exact (hr er).2.1
    ·obtain ⟨hq1,zs,hq2,hq3⟩:=hq;refine ⟨WK.trans (λe=>(hr e).1) hq1,zs,hq2,λeq=>?_⟩;obtain ⟨h5,h6⟩:=hq3 eq;refine ⟨h5,?_⟩;rw [LW,rB,rB] at h6;rw [hd,vB];have:=(hr (by rw [←hq1 eq];exact eq)).2.2;omega
   ·rw [if_neg (by simp;omega)];refine .some ⟨.refl _,ys,rfl,λe=>⟨⟨?_,(h4 e).2⟩,by have:=pL (x.aO.drop v);omega⟩⟩;have:=hw0 (by rw [←hw e];exact e);omega
theorem Gl (h:CI N B c) (hB:B+1<=1073741824) {x:Nd} (hx:∀y ∈ x.aO,WE y) (hs:vT x.aO<=20000) (hn:3*vT x.aO+301<=n) (hn2:20000<n) {st:aB} {v:Int} :
  bK (iX n c w x st v) λr=>CI N (B+1) r.2.1/\Kp c r.2.1/\r.2.1.bI=c.bI/\r.2.1.p_=c.p_/\WK w r.2.2/\(r.2.2.e_=0->0<=r.1.gJ/\r.1.gJ<N/\∃f xs,r.1=⟨[99,97,108,108],v,r.1.gJ,xs,st.bQ,st.eW,st.eU⟩/\bM r.2.1.p_.bF r.1.gJ=some f/\sgC r.2.1 r.1.gJ f.bX (f.aX.take f.bC.toNat)/\AU (uE c) c.bI (f.aX.take f.bC.toNat) xs/\(rB xs:Int)<=vT x.aO):=by
 have hg:=pL x.aO;unfold iX;refine (function_tot' (w:=w) (x:=x) h (by omega)).bind λr hr=>bK.iteb (λhe=>?_) (λhe=>?_)
 ·simp only [bne_iff_ne] at he;exact .some ⟨h.more (xej B),.refl c,rfl,rfl,hr.1,λe=>absurd e he⟩
 ·simp only [bne_eq_false_iff_eq] at he;obtain ⟨f0,f1⟩:=hr.2 he;obtain ⟨l,e,el,hm⟩:=oX (l:=c.cC) h.a0 (by rw [h.nc];exact h.a1);have h':=h.calls e f0 f1;rw [e];simp only [iJ];refine bK.need (by have:=(h.cl l hm).1;omega) ?_;refine (OX (w:=r.2) h' f0 f1).bind λsh hsh=>?_;obtain ⟨f,hf,rfl⟩:=hsh;rw [pH];simp only [iJ];refine (UX (st0:={ st with fR:=[99,97,108,108],fI:=v,gJ:=r.1,aO:=[] }) h' hx hs hn (w0:=MY r.2 ((x.aO.length:Int) == ((f.aX.take f.bC.toNat).length:Int)) 136 x.eU) (λe=>by have:=(fD (k:=136) (by decide) e).2.1;simp only [beq_iff_eq] at this;omega) n 0 _ [] (by omega) (by omega) rfl (λe=>⟨rfl,λi p y hp hy=>nomatch hy⟩) (.refl _)).bind λq hq=>?_;obtain ⟨hq1,zs,hq2,hq3⟩:=hq;have hal:c.fW.toNat<c.cC.length:=(uG.1 el).1
  have hcl:bM (c.cC.set c.fW.toNat (l++[r.1])) c.fW=some (l++[r.1]):=by
   unfold bM;rw [if_pos h.a0,PT hal]
  refine .some ⟨h',⟨rfl,rfl,QK _,QK _,λ_ _=>rfl,rfl,λj hj=>OL (Ne.symm hj),λl2 e2=>?_⟩,rfl,rfl,hr.1.trans ((WK.nd).trans hq1),λe2=>?_⟩
  ·rw [e] at e2;cases e2
   exact ⟨_,hcl,LX _ _⟩
  ·rw [hq2];exact ⟨f0,f1,f,zs,rfl,hf,⟨⟨_,hcl,MS _ Uj⟩,f,hf,rfl,rfl⟩,(hq3 e2).1,by have:=(hq3 e2).2;rw [rB,iB] at this;omega⟩
theorem FV (hn:6<n) {x:Nd}:bK (jK n c w x) λb=>b=true->x.bS=17:=by
 unfold jK;exact bK.bind' (bK.iteb (λhc=>(Ik hn).bind λv _=>.some (.some λ_=>by simpa using hc)) (λ_=>.some (.some λh=>nomatch h)))
def St1 (c c':aG) (w':aH) (b:Bool) (s:aB) (x:aD):Prop:=w'.e_=0->TB (sgC c') (uE c') (Ml c) b (uE c).length c.bI [s] (uE c').length c'.bI/\(tz s:Int)<=sz x
theorem FI {α:Type} {l:List α} {x:α}:(l++[x])[l.length]? = some x:=by
 rw [Ma (rM _),xes];rfl
theorem PE (h:CI N B c) (hB:B+1<=1073741824) {x y:Nd} (hl:x.aO=[y]) (hy:WE y) (hs:sz y<=20000) (hn:3*sz y+301<=n) (hn2:20000<n) {a:Int} {b:Bool} :
  bK (pD n c w x ⟨[],-1,0,[],[],[],a⟩) λr=>CI N (B+1) r.2.1/\Kp c r.2.1/\WK w r.2.2/\St1 c r.2.1 r.2.2 b r.1 x:=by
 unfold pD;rw [hl];refine bK.eqn (v:=y) rfl ?_;refine (FV (c:=c) (w:=w) (by omega)).bind λb hb=>bK.iteb (λhbt=>?_) (λ_=>?_)
 ·obtain ⟨a,s,xs,rfl,hxs⟩:=hy.inv17 (hb hbt);rw [gO] at hs hn;refine (Gl h hB hxs (by simp only;omega) (by simp only;omega) hn2).bind λr hr=>?_;obtain ⟨h1,h2,h3,h4,h5,h6⟩:=hr;refine bK.iteb (λhe=>.some ⟨h1,h2,h5,λe=>absurd e (by simpa using he)⟩) (λhe=>?_);simp only [bne_eq_false_iff_eq] at he;obtain ⟨f0,f1,f,zs,e1,e2,e3,e4,e9⟩:=h6 he
  have hfm:f ∈ r.2.1.p_.bF:=by
   obtain ⟨f',e',_,hm⟩:=oX (l:=r.2.1.p_.bF) f0 (by rw [h1.nf];exact f1);rw [e2] at e';cases e';exact hm
  rw [e2];simp only [iJ,pH];have hvs:uE r.2.1=uE c:=by unfold uE;rw [h4,h2.f]
  refine (uN h1 (by omega) λe=>?_).bind λd hd=>.some ⟨hd.1,h2.trans hd.2.1,h5.trans ((WK.nd).trans λe=>(hd.2.2.2.2.1 e).1),λe=>?_⟩
  ·have hr:=(h1.ki f hfm).2;have:=(fD (k:=132) (by decide) e).2.1;simp only [bne_iff_ne,ne_eq] at this;refine ⟨?_,?_,λh=>?_⟩ <;> simp only at * <;> omega
  ·obtain ⟨d1,d2,d3,d4⟩:=hd.2.2.2.2.1 e;have e5:(MY r.2.2 (f.bX != 0) 132 x.eU).e_=0:=by rw [←d1];exact e
   have hne:=(fD (k:=132) (by decide) e5).2.1;rw [e1];simp only;rw [d2,d3,d4,h3,hvs,mB,uF];exact ⟨.callv (u:=⟨x.cX,f.bX,0⟩) (r:=f.bX) (Kp.sg h1 hd.2.1 e3) (e4.mono (LX _ _) λ_ h=>h) (by simpa using hne) FI rfl .nil,by rw [wF,Fs x,hl,sZ,gO];simp only [tX];simp only at e9;omega⟩
 ·refine (Bm h hy hs hn).bind λr hr=>JI.bind λk hk=>?_;subst hk;refine (uN h (by omega) λe=>?_).bind λd hd=>.some ⟨hd.1.more (xej B),hd.2.1,hr.wk.trans λe=>(hd.2.2.2.2.1 e).1,λe=>?_⟩
  ·have:=(hr e).2.1.range h.vsOk;refine ⟨?_,?_,λh=>?_⟩ <;> simp only [GE] at * <;> split at * <;> omega
  ·obtain ⟨d1,d2,d3,d4⟩:=hd.2.2.2.2.1 e;simp only;rw [d2,d3,d4,mB,uF];have hr0:=hr (by rw [←d1];exact e);exact ⟨.var_ (u:=⟨x.cX,GE r.1.cK,0⟩) (hr0.2.1.mono (LX _ _) λ_ h=>h) FI rfl .nil,by rw [wF,Fs x,hl,sZ];simp only [tX,rB];have:=hr0.2.2;omega⟩
theorem MB (h:CI N B c) (hn:300<n) {x:Nd}:bK (nJ n c w x) λr=>WK w r.2/\(r.1=-1 ∨ 0<=r.1/\r.1<(uE c).length)/\(r.2.e_=0->∃u,r.1 ∈ c.bI/\bM (uE c) r.1=some u/\(u.bS=2 ∨ u.bS=3)):=by
 unfold nJ;refine (Ec (w:=w) h hn).bind λv hv=>?_;refine (BK (w:=v.2) h hv.1).bind λk hk=>?_;simp only [pH,iJ];have hwv:WK w v.2:=λe=>(hv.2.2 e).1
 have key:(k=2 ∨ k=3)->v.2.e_=0->∃u,v.1 ∈ c.bI/\bM (uE c) v.1=some u/\(u.bS=2 ∨ u.bS=3):=λh2 e=>by
  obtain ⟨_,u,j2,j3,j4,_⟩:=hv.2.2 e
  rcases hk with ⟨hm,_⟩ | ⟨_,u2,hk2,rfl⟩
  ·omega
  ·exact ⟨u2,j2,by unfold bM;rw [if_pos j3];exact hk2,h2⟩
 refine bK.bind' (bK.iteb (λh2=>.some (.some ⟨hwv.trans WK.nd,hv.1,λe=>?_⟩)) (λ_=>.some (.some ⟨hwv.trans WK.nd,hv.1,λe=>?_⟩)))
 ·exact key (.inl (by simpa using h2)) (fD (k:=132) (by decide) e).1
 ·obtain ⟨k1,k2,_⟩:=fD (k:=132) (by decide) e;exact key (.inr (by simpa using k2)) k1
theorem UQ (h:CI N B c) (hB:B+1<=1073741824) {x y:Nd} (hl:x.aO=[y]) (hy:WE y) (hs:sz y<=20000) (hn:3*sz y+301<=n) (hn2:20000<n) {a:Int} {b:Bool} :
  bK (qL n c w x ⟨[],-1,0,[],[],[],a⟩) λr=>CI N (B+1) r.2.1/\Kp c r.2.1/\WK w r.2.2/\St1 c r.2.1 r.2.2 b r.1 x:=by
 unfold qL;refine (MB (w:=w) h (by omega)).bind λv hv=>?_;rw [hl];refine bK.eqn (v:=y) rfl ?_;refine (FV (c:=c) (w:=v.2) (by omega)).bind λb hb=>bK.iteb (λhbt=>?_) (λ_=>?_)
 ·obtain ⟨a,s,xs,rfl,hxs⟩:=hy.inv17 (hb hbt);rw [gO] at hs hn;refine (Gl h hB hxs (by simp only;omega) (by simp only;omega) hn2).bind λr hr=>?_;obtain ⟨h1,h2,h3,h4,h5,h6⟩:=hr;refine bK.iteb (λhe=>?_) (λhe=>.some ⟨h1,h2,hv.1.trans h5,λe=>absurd e (by simpa using he)⟩);simp only [beq_iff_eq] at he;obtain ⟨f0,f1,f,zs,e1,e2,e3,e4,e9⟩:=h6 he;have hlen:=h2.v.length_le;have hvs:uE r.2.1=uE c:=by unfold uE;rw [h4,h2.f]
  obtain ⟨u,hu1,hu2,hu3⟩:=hv.2.2 (by rw [←h5 he];exact he);refine (BK (w:=r.2.2) h1 (v:=v.1) (by rcases hv.2.1 with h | h;exact .inl h;exact .inr ⟨h.1,by omega⟩)).bind λk hk=>?_;rw [e2];simp only [iJ,pH];refine .some ⟨h1,h2,hv.1.trans (h5.trans WK.nd),λe=>?_⟩;have hr:=(fD (k:=132) (by decide) e).2.1
  have hku:k=u.bS:=by
   have h0:=h.sc _ hu1
   rcases hk with ⟨hm,_⟩ | ⟨h0,u2,hk2,rfl⟩
   ·omega
   ·unfold bM at hu2;rw [if_pos h0,←hvs,hk2] at hu2;cases hu2;rfl
  rw [e1,hvs,h3];exact ⟨.calls hu1 hu2 hu3 e3 e4 (by rw [←hku];simpa using hr) .nil,by rw [wF,Fs x,hl,sZ,gO];simp only [tX];simp only at e9;omega⟩
 ·refine (Bm h hy hs hn).bind λr hr=>(BK (w:=r.2) h hv.2.1).bind λk hk=>HB.bind λb hb=>?_;rw [pH];refine .some ⟨h.more (xej B),.refl c,hv.1.trans (hr.wk.trans WK.nd),λe=>?_⟩;obtain ⟨k1,k2,_⟩:=fD (k:=132) (by decide) e;obtain ⟨u,hu1,hu2,hu3⟩:=hv.2.2 (by rw [←hr.wk k1];exact k1)
  have hku:k=u.bS:=by
   have h0:=h.sc _ hu1
   rcases hk with ⟨hm,_⟩ | ⟨h0,u2,hk2,rfl⟩
   ·omega
   ·unfold bM at hu2;rw [if_pos h0,hk2] at hu2;cases hu2;rfl
  exact ⟨.set hu1 hu2 hu3 (hr k1).2.1 (hku ▸ hb k2) .nil,by rw [wF,Fs x,hl,sZ];simp only [tX,rB];have:=(hr k1).2.2;omega⟩
theorem PB (h:CI N B c) {x:Nd} (hx:WE x) (hs:sz x<=20000) (hn:3*sz x+301<=n) {v:Int} (hv:w.e_=0->0<=v/\v<(uE c).length):bK (pC n c w x v) λr=>SP c w x r/\(r.2.e_=0->r.1.cK=1/\∀u,bM (uE c) v=some u->r.1.fR=[110,117,109]->i64.wrap r.1.N_<u.qO):=by
 unfold pC;refine (uO h hx hs hn).bind λr hr=>?_;obtain ⟨hr,hr1⟩:=hr;refine bK.bind' (bK.iteb (λhe=>.some ?_) (λhe=>.some (bK.iteb (λh=>nomatch h) (λ_=>.some ⟨hr,λe=>absurd e (by simpa using he)⟩))));refine bK.iteb (λho=>?_) (λho=>.some ⟨hr,λe=>⟨hr1 e,λu hu h=>absurd h (by simpa using ho)⟩⟩);have he:r.2.e_=0:=by simpa using he
 obtain ⟨v0,v1⟩:=hv (by rw [←(hr he).1];exact he);obtain ⟨f,_,hm,hvs,hfi⟩:=h.cur;rw [hfi];rw [hvs] at v1;obtain ⟨u,e,_,_⟩:=oX v0 v1;simp only [iJ,e,pH];refine .some ⟨λe2=>?_,λe2=>?_⟩
 ·obtain ⟨k1,_,k3⟩:=fD (k:=137) (by decide) e2;exact ⟨k3.trans (hr k1).1,(hr k1).2⟩
 ·obtain ⟨k1,k2,_⟩:=fD (k:=137) (by decide) e2;refine ⟨hr1 k1,λu2 hu _=>?_⟩;rw [hvs,e] at hu;cases hu
  simpa using k2
theorem UR (h:CI N B c) {x i y:Nd} (hl:x.aO=[i,y]) (hi:WE i) (hy:WE y) (hs:sz i<=20000) (hs2:sz y<=20000) (hn:3*sz i+301<=n) (hn2:3*sz y+301<=n) {a:Int} {b:Bool}:bK (qM n c w x ⟨[],-1,0,[],[],[],a⟩) λr=>WK w r.2/\St1 c c r.2 b r.1 x:=by
 have hp:=rO i;unfold qM;refine (Ec (w:=w) h (by omega)).bind λv hv=>?_;refine (BK (w:=v.2) h hv.1).bind λk hk=>?_;have hwv:WK w v.2:=λe=>(hv.2.2 e).1;rw [pH,hl];refine bK.eqn (v:=MY v.2 (k == 4) 132 x.eU) rfl (bK.eqn (v:=i) rfl ?_);refine (PB h hi hs hn (λe=>?_)).bind λr hr=>?_
 ·have:=(fD (k:=132) (by decide) e).1;obtain ⟨_,u,h1,_⟩:=hv.2.2 this;exact h.sc _ h1
 refine bK.eqn (v:=y) rfl ?_;refine (Bm h hy hs2 hn2).bind λq hq=>HB.bind λb hb=>?_;rw [pH];refine .some ⟨hwv.trans ((WK.nd).trans (hr.1.wk.trans (hq.wk.trans WK.nd))),λe=>?_⟩;obtain ⟨k1,k2,_⟩:=fD (k:=132) (by decide) e;have er:r.2.e_=0:=by rw [←hq.wk k1];exact k1
 obtain ⟨j1,j2,_⟩:=fD (k:=132) (by decide) (by rw [←hr.1.wk er];exact er);obtain ⟨_,u,i2,i3,i4,_⟩:=hv.2.2 j1;have hu:bM (uE c) v.1=some u:=by unfold bM;rw [if_pos i3];exact i4
 have hu4:u.bS=4:=by
  rcases hk with ⟨hm,_⟩ | ⟨_,u2,hk2,rfl⟩
  ·omega
  ·rw [i4] at hk2;cases hk2;simpa using j2
 exact ⟨.put i2 hu hu4 (hr.1 er).2.1 (hr.2 er).1 ((hr.2 er).2 u hu) (hq k1).2.1 (hb k2) .nil,by rw [wF,Fs x,hl,Iz];simp only [tX,rB];have:=(hr.1 er).2.2;have:=(hq k1).2.2;omega⟩
def HH (s:aB):Prop:=s.fR=[114,101,116,117,114,110] ∨ s.fR=[99,97,108,108]/\s.fI=-2
theorem Sd (h:CI N B c) (hB:B+1<=1073741824) {x y:Nd} (hl:x.aO=[y]) (hy:WE y) (hs:sz y<=20000) (hn:3*sz y+301<=n) (hn2:20000<n) {a:Int} {l:Bool} :
  bK (pQ n c w x ⟨[],-1,0,[],[],[],a⟩ l) λr=>CI N (B+1) r.2.1/\Kp c r.2.1/\WK w r.2.2/\St1 c r.2.1 r.2.2 l r.1 x/\(r.2.2.e_=0->HH r.1):=by
 unfold pQ;obtain ⟨f,_,hm,hvs,hfi⟩:=h.cur;rw [hfi,hl];refine bK.bind (P:=λw'=>WK w w'/\(w'.e_=0->l=true/\f.bX ≠ 0)) ?_ λw1 hw1=>?_
 ·simp only [iJ,pH];refine bK.iteb (λhl=>.some ⟨WK.nd,λe=>⟨hl,?_⟩⟩) (λ_=>.some ⟨WK.nd,λe=>?_⟩)
  ·simpa using (fD (k:=135) (by decide) e).2.1
  ·have:=(fD (k:=135) (by decide) e).2.1;cases this
 refine bK.bind (P:=λb=>b=true->y.bS=17) ?_ λb hb=>bK.iteb (λhbt=>?_) (λ_=>?_)
 ·refine bK.iteb (λ_=>?_) (λ_=>.some λh=>nomatch h);exact bK.eqn (v:=y) rfl ((FV (c:=c) (w:=w1) (by omega)).bind λb hb=>.some hb)
 ·refine bK.eqn (v:=y) rfl ?_;obtain ⟨a,s,xs,rfl,hxs⟩:=hy.inv17 (hb hbt);rw [gO] at hs hn;refine (Gl h hB hxs (by simp only;omega) (by simp only;omega) hn2).bind λr hr=>?_;obtain ⟨h1,h2,h3,h4,h5,h6⟩:=hr;refine bK.iteb (λhe=>?_) (λhe=>.some ⟨h1,h2,hw1.1.trans h5,λe=>absurd e (by simpa using he),λe=>absurd e (by simpa using he)⟩);simp only [beq_iff_eq] at he;obtain ⟨f0,f1,g,zs,e1,e2,e3,e4,e9⟩:=h6 he;obtain ⟨g2,_,_,_,e5⟩:=h1.cur;have hvs':uE r.2.1=uE c:=by unfold uE;rw [h4,h2.f]
  rw [e2,e5];simp only [iJ,pH];refine .some ⟨h1,h2,hw1.1.trans (h5.trans WK.nd),λe=>?_,λe=>.inr ?_⟩
  ·obtain ⟨hl2,hne⟩:=hw1.2 (by rw [←h5 he];exact he);subst hl2;have hr:=(fD (k:=132) (by decide) e).2.1
   have hg2:g2=f:=by
    rw [h2.f,h4,hfi] at e5;cases e5;rfl
   have hres:g.bX=Ml c:=by
    rw [h.res hfi,←hg2];simpa using hr
   rw [e1,hvs',h3];exact ⟨.retc (hres ▸ e3) (by rw [h.res hfi];exact hne) e4,by rw [wF,Fs x,hl,sZ,gO];simp only [tX];simp only at e9;omega⟩
  ·rw [e1];exact ⟨rfl,rfl⟩
 ·refine bK.eqn (v:=y) rfl ?_;refine (Bm h hy hs hn).bind λr hr=>bK.eqn (v:=f) rfl (HB.bind λb hb=>?_);rw [pH];refine .some ⟨h.more (xej B),.refl c,hw1.1.trans (hr.wk.trans WK.nd),λe=>?_,λ_=>.inl rfl⟩;obtain ⟨k1,k2,_⟩:=fD (k:=132) (by decide) e;obtain ⟨hl2,hne⟩:=hw1.2 (by rw [←hr.wk k1];exact k1);subst hl2;exact ⟨.ret (hr k1).2.1 (by rw [h.res hfi];exact hne) (by rw [h.res hfi];exact hb k2),by rw [wF,Fs x,hl,sZ];simp only [tX,rB];have:=(hr k1).2.2;omega⟩
end
section
variable {N B n:Nat} {c:aG} {w:aH}
theorem ID {α:Type} {l l':List α} (h:l <+: l'):l'.take l.length=l:=by
 obtain ⟨r,rfl⟩:=h;rw [List.take_append_of_le_length (rM _),xey]
theorem CI.scope {c':aG} (h:CI N B c') (h0:CI N B c) (k:Kp c c'):CI N B { c' with bI:=c.bI }/\Kp c { c' with bI:=c.bI }:=by
 refine ⟨⟨h.nf,h.nN,h.f0,h.f1,h.a0,h.a1,λv hv=>?_,?_,h.vl,h.nc,h.cl,h.ki⟩,⟨k.f,k.a,QK _,k.v,k.o,k.g,k.k,k.l⟩⟩
 ·have h1:=h0.sc v hv;have h2:=k.v.length_le;have:uE { c' with bI:=c.bI }=uE c':=rfl;rw [this];omega
 ·have h1:=h0.sl;have h2:=k.v.length_le;have:uE { c' with bI:=c.bI }=uE c':=rfl;rw [this];show c.bI.length<=_;omega
end
def Lv2 (N B:Nat) (k:Int) (c:aG) (w:aH) (c':aG) (w':aH):Prop:=(∃B':Nat,(B':Int)<=B+k/\CI N B' c')/\Kp c c'/\WK w w'
def StL (c c':aG) (b:Bool) (ss:List aB):Prop:=∃sc',TB (sgC c') (uE c') (Ml c) b (uE c).length c.bI ss (uE c').length sc'
def RetL (l:List aD) (ss:List aB):Prop:=∀y,l.getLast? = some y->y.bS=13->∃s,ss.getLast? = some s/\HH s
def OkSm (N n:Nat) (f:aG->aH->aD->Bool->Option (aB × aG × aH)):Prop:=∀B c w x b,CI N B c->WS x->sz x<=20000->(B:Int)+sz x<=1073741824->3*sz x+20301<=n->bK (f c w x b) λr=>Lv2 N B (sz x) c w r.2.1 r.2.2/\St1 c r.2.1 r.2.2 b r.1 x/\(r.2.2.e_=0->x.bS=13->HH r.1)
def OkBk (N n:Nat) (f:aG->aH->aD->Bool->Option ((List aB) × aG × aH)):Prop:=∀B c w x b,CI N B c->(∀y ∈ x.aO,WS y)->vT x.aO<=20000->(B:Int)+vT x.aO<=1073741824->3*vT x.aO+20302<=n->bK (f c w x b) λr=>(Lv2 N B (vT x.aO) c w r.2.1 r.2.2/\r.2.1.bI=c.bI)/\(r.2.2.e_=0->StL c r.2.1 b r.1/\RetL x.aO r.1/\(tX r.1:Int)<=vT x.aO)
section
variable {N B n:Nat} {c:aG} {w:aH}
theorem Sb {m:Nat} {x:Nd} {b:Bool} {fs:aG->aH->aD->Bool->Option (aB × aG × aH)} (hf:OkSm N m fs) (hs:vT x.aO<=20000) (hm:3*vT x.aO+20301<=m) :
  ∀(k v B:Nat) (ys:List aB) (c:aG) (w:aH),x.aO.length<v+k->v<=x.aO.length->ys.length=v->CI N B c->(∀y ∈ x.aO.drop v,WS y)->(B:Int)+vT (x.aO.drop v)<=1073741824->bK (kF fs x b k ys (v:Int) c w) λr=>Lv2 N B (vT (x.aO.drop v)) c w r.2.1 r.2.2/\(r.2.2.e_=0->∃ss,r.1=ys++ss/\TB (sgC r.2.1) (uE r.2.1) (Ml c) b (uE c).length c.bI ss (uE r.2.1).length r.2.1.bI/\RetL (x.aO.drop v) ss/\(tX ss:Int)<=vT (x.aO.drop v))/\(v=x.aO.length->r.1=ys/\r.2.1=c):=by
 intro k
 induction k with
 | zero=>intro v B ys c w h1 h2;omega
 | succ k ih=>
   intro v B ys c w h1 h2 h3 h hx hB;unfold kF;have hg:=pL x.aO;have hg0:=pL (x.aO.drop v)
   by_cases hv:v<x.aO.length
   ·rw [if_pos (AB (by omega))];have hd:x.aO.drop v=x.aO[v]::x.aO.drop (v+1):=MT hv;have e:bM x.aO (v:Int)=some x.aO[v]:=by unfold bM;rw [if_pos (by omega),CS,uS hv]
    have hsz:=JG (Ln hv);rw [hd,vB] at hB ⊢;have hg1:=pL (x.aO.drop (v+1));have hp:=rO x.aO[v];rw [e];simp only [iJ];refine bK.iteb (λhe=>.some ⟨⟨⟨B,by omega,h⟩,.refl c,.refl w⟩,λe=>absurd e (by simpa using he),λ_=>⟨rfl,rfl⟩⟩) (λhe=>?_);have hst:∀b2,bK (fs c w x.aO[v] b2) λr=>Lv2 N B (sz x.aO[v]) c w r.2.1 r.2.2/\St1 c r.2.1 r.2.2 b2 r.1 x.aO[v]/\(r.2.2.e_=0->(x.aO[v]).bS=13->HH r.1):=λb2=>hf B c w _ b2 h (hx _ (by rw [hd];exact xek)) (by omega) (by omega) (by omega);refine bK.bind (P:=λr=>Lv2 N B (sz x.aO[v]) c w r.2.1 r.2.2/\∃s b2,r.1=ys++[s]/\St1 c r.2.1 r.2.2 b2 s x.aO[v]/\(b2=true->b=true/\v+1=x.aO.length)/\(r.2.2.e_=0->(x.aO[v]).bS=13->HH s)) ?_ λr hr=>?_
    ·refine bK.iteb (λhb=>?_) (λ_=>?_)
     ·exact (hst _).bind λr hr=>bK.need (by simp only [uF];omega) (.some ⟨hr.1,r.1,_,rfl,hr.2.1,λh2=>⟨hb,by
       rw [cR (by omega) (by omega),beq_iff_eq] at h2;omega⟩,hr.2.2⟩)
     ·exact (hst false).bind λr hr=>bK.need (by simp only [uF];omega) (.some ⟨hr.1,r.1,false,rfl,hr.2.1,λh2=>Bool.noConfusion h2,hr.2.2⟩)
    ·obtain ⟨⟨⟨B',hb',h'⟩,hk,hw⟩,s,b2,hr1,hs1,hb2,hrt⟩:=hr;rw [cR (by omega) (by omega),show ((v:Int)+1)=((v+1:Nat):Int) by omega];refine (ih (v+1) B' _ _ _ (by omega) (by omega) (by rw [hr1,mB,uF];omega) h' (λy hy=>hx y (by rw [hd];exact LZ _ hy)) (by omega)).mono λq hq=>?_;obtain ⟨⟨⟨B2,hbb,h2⟩,hk2,hw2⟩,hT,hend⟩:=hq;refine ⟨⟨⟨B2,by omega,h2⟩,hk.trans hk2,hw.trans hw2⟩,λe=>?_,λh=>by omega⟩;obtain ⟨ss,hq1,hT1,hR,hZ⟩:=hT e;have e2:r.2.2.e_=0:=by rw [←hw2 e];exact e
     refine ⟨s::ss,by rw [hq1,hr1,GX];rfl,?_,?_,by rw [tX];have:=(hs1 e2).2;omega⟩
     ·have t1:=(hs1 e2).1.mono (λk r ps h=>Kp.sg h' hk2 h) hk2.v;rw [hk.res h] at hT1;cases b2 with
      | false=>exact t1.app rfl hT1
      | true=>
        obtain ⟨rfl,hvl⟩:=hb2 rfl;obtain ⟨q1,q2⟩:=hend hvl
        have hss:ss=[]:=by
         rw [q1] at hq1;simpa using hq1
        subst hss;rw [q2];exact (hs1 e2).1
     ·intro y hy hk13;rw [List.getLast?_cons] at hy;cases hl:(x.aO.drop (v+1)).getLast? with
      | none=>
        rw [hl] at hy;have hnil:=List.getLast?_eq_none_iff.1 hl
        have hv1:v+1=x.aO.length:=by
         have:=List.drop_eq_nil_iff.1 hnil;omega
        obtain ⟨q1,q2⟩:=hend hv1
        have hss:ss=[]:=by
         rw [q1] at hq1;simpa using hq1
        subst hss;cases hy;exact ⟨s,rfl,hrt e2 hk13⟩
      | some y2=>
        rw [hl] at hy;cases hy;obtain ⟨s2,h5,h6⟩:=hR _ hl hk13;exact ⟨s2,by rw [List.getLast?_cons,h5];rfl,h6⟩
   ·rw [if_neg (by simp;omega)];have hnil:x.aO.drop v=[]:=Sw (by omega);rw [hnil];exact .some ⟨⟨⟨B,by rw [oR];omega,h⟩,.refl c,.refl w⟩,λe=>⟨[],(gS _).symm,.nil,(λy hy=>nomatch hy),by rw [tX,oR];decide⟩,λ_=>⟨rfl,rfl⟩⟩
theorem UY {fs:aG->aH->aD->Bool->Option (aB × aG × aH)} (hf:OkSm N n fs):OkBk N (n+1) (nL fs n):=by
 intro B c w x b h hx hs hB hn;unfold nL;have hg:=pL x.aO;refine (Sb hf hs (by omega) n 0 B [] c w (by omega) (by omega) rfl h (by rw [iB];exact hx) (by rw [iB];exact hB)).bind λr hr=>?_;rw [iB] at hr;obtain ⟨⟨⟨B',hb',h'⟩,hk,hw⟩,hT,_⟩:=hr;have hle:=hk.s.length_le;refine bK.need (by omega) (.some ?_);rw [ID hk.s];have hB':=(h.more (B':=max B B') (by omega));obtain ⟨k1,k2⟩:=(h'.more (B':=max B B') (by omega)).scope hB' hk;refine ⟨⟨⟨⟨max B B',by omega,k1⟩,k2,hw⟩,rfl⟩,λe=>?_⟩;obtain ⟨ss,e1,e2,e3,e4⟩:=hT e;rw [gC] at e1;rw [e1];exact ⟨⟨_,e2⟩,e3,e4⟩
def OkLp (N n:Nat) (f:aG->aH->aD->aB->Option (aB × aG × aH)):Prop:=∀B c w x st,CI N B c->WS x->x.bS=12->sz x<=20000->(B:Int)+sz x<=1073741824->3*sz x+20300<=n->(∃a,st=⟨[],-1,0,[],[],[],a⟩)->∀b,bK (f c w x st) λr=>Lv2 N B (sz x) c w r.2.1 r.2.2/\St1 c r.2.1 r.2.2 b r.1 x
theorem WS.inv12 {x:Nd} (h:WS x) (k:x.bS=12):∃a s y z b ys,x=⟨12,a,s,0,[y,z,⟨4,b,[],0,ys⟩]⟩/\WE y/\WE z/\∀u ∈ ys,WS u:=by
 cases h with
 | loop h1 h2 h3=>exact ⟨_,_,_,_,_,_,rfl,h1,h2,h3⟩
 | bind hk _=>rcases hk with rfl | rfl <;> simp at k
 | _=>simp at k
theorem cloop_b {fb:aG->aH->aD->Bool->Option ((List aB) × aG × aH)} (hf:OkBk N n fb):OkLp N (n+1) (oG fb n):=by
 rintro B c w x st h hx hk hs hB hn ⟨sa,rfl⟩ bl;obtain ⟨a,s,y,z,b,ys,rfl,hy,hz,hys⟩:=hx.inv12 hk;rw [gO,Ls,gO] at hs hB hn ⊢;have h1:=rO y;have h2:=rO z;have h3:=pL ys;unfold oG;refine bK.eqn (v:=y) rfl ((uO (w:=w) h hy (by omega) (by omega)).bind λr1 hr1=>?_);refine bK.eqn (v:=z) rfl ((uO (w:=r1.2) h hz (by omega) (by omega)).bind λr2 hr2=>?_);refine (uN (w:=r2.2) h (by omega) λ_=>Th).bind λd hd=>?_;obtain ⟨d1,d2,d3,d4,d5,d6⟩:=hd;refine bK.eqn (v:=⟨4,b,[],0,ys⟩) rfl ((hf B _ _ _ false d1 hys (by simp only;omega) (by simp only;omega) (by simp only;omega)).bind λq hq=>?_);obtain ⟨⟨⟨⟨B',hb',h'⟩,hk',hw'⟩,hsc⟩,hT⟩:=hq;have hkk:=d2.trans hk';have hle:=hkk.s.length_le;refine bK.need (by omega) (.some ?_);have hmin:(min (c.bI.length:Int) (q.2.1.bI.length:Int)).toNat=c.bI.length:=by omega
 rw [hmin,ID hkk.s];simp only at hb';obtain ⟨k1,k2⟩:=(h'.more (B':=max B B') (by omega)).scope (h.more (B':=max B B') (by omega)) hkk;refine ⟨⟨⟨max B B',by omega,k1⟩,k2,hr1.1.wk.trans (hr2.1.wk.trans (WK.trans (λe=>(d5 e).1) hw'))⟩,λe=>?_⟩;have ed:d.2.2.e_=0:=by rw [←hw' e];exact e
 obtain ⟨g1,g2,g3,g4⟩:=d5 ed;have e2:r2.2.e_=0:=by rw [←g1];exact ed
 have e1:r1.2.e_=0:=by rw [←hr2.1.wk e2];exact e2
 obtain ⟨⟨sc',hT1⟩,_,hZ⟩:=hT e;rw [d2.res h,g3,g4,mB,uF] at hT1;have hv:uE c <+: uE q.2.1:=hkk.v;have hu:(uE q.2.1)[(uE c).length]? = some ⟨s,1,0⟩:=EO hk'.v (by rw [g3];exact FI);simp only;rw [g2];refine ⟨.for_ ((hr1.1 e1).2.1.mono hv λ_ h=>h) (hr1.2 e1) ((hr2.1 e2).2.1.mono hv λ_ h=>h) (hr2.2 e2) hu rfl hT1 .nil,?_⟩;rw [wF,gO,Ls,gO];simp only [rB,tX];simp only at hZ;have:=(hr1.1 e1).2.2;have:=(hr2.1 e2).2.2;omega
end
section
variable {N B n:Nat} {c:aG} {w:aH}
theorem Lv2.one {k:Int} {c':aG} {w':aH} (hk:1<=k) (h:CI N (B+1) c'/\Kp c c'/\WK w w'):Lv2 N B k c w c' w':=⟨⟨B+1,by omega,h.1⟩,h.2⟩
theorem Lv2.zero {k:Int} {c':aG} {w':aH} (hk:0<=k) (h:CI N B c') (h2:Kp c c') (h3:WK w w'):Lv2 N B k c w c' w':=⟨⟨B,by omega,h⟩,h2,h3⟩
theorem Ug {a:Int} (h:EU (i64.wrap (min a 1025))):EU (i64.wrap a):=by
 by_cases h1:a<=1025
 ·rwa [show min a 1025=a by omega] at h
 ·rw [show min a 1025=1025 by omega,show i64.wrap 1025=1025 by decide] at h;exact absurd h (by unfold EU;omega)
theorem cstmt_b {fb:aG->aH->aD->Bool->Option ((List aB) × aG × aH)} {fl:aG->aH->aD->aB->Option (aB × aG × aH)} (hf:OkBk N n fb) (hl:OkLp N n fl):OkSm N (n+1) (kN fb fl n):=by
 intro B c w x b h hx hs hB hn;have hp:=rO x;unfold kN;cases hx with
 | bind hk hy=>
   rw [gO,sZ] at hs hB hn hp ⊢
   rcases hk with rfl | rfl
   ·simp only [Int.reduceBEq,EY,if_false,if_true];refine bK.eqn rfl ((uO (w:=w) h hy (by omega) (by omega)).bind λr hr=>?_);refine (uN (w:=r.2) h (by omega) λ_=>Th).bind λd hd=>.some ⟨.zero (by omega) hd.1 hd.2.1 (hr.1.wk.trans λe=>(hd.2.2.2.2.1 e).1),λe=>?_,λ_ h=>absurd h (by decide)⟩;obtain ⟨d1,d2,d3,d4⟩:=hd.2.2.2.2.1 e;have er:r.2.e_=0:=by rw [←d1];exact e
    simp only;rw [d2,d3,d4,mB,uF];exact ⟨.let_ ((hr.1 er).2.1.mono (LX _ _) λ_ h=>h) (hr.2 er) FI rfl .nil,by rw [wF,gO,sZ];simp only [tX,rB];have:=(hr.1 er).2.2;omega⟩
   ·simp only [Int.reduceBEq,EY,if_false,if_true];exact (PE h (by omega) rfl hy (by omega) (by omega) (by omega)).bind λr hr=>.some ⟨.one (by omega) ⟨hr.1,hr.2.1,hr.2.2.1⟩,hr.2.2.2,λ_ h=>absurd h (by decide)⟩
 | arr=>
   rw [gO,oR] at hs hB hn hp ⊢;simp only [Int.reduceBEq,EY,if_false,if_true];refine Lw.bind λk hk=>?_;rw [pH];refine (uN (w:=MY w k 136 _) h (by omega) λe=>Tg ?_).bind λd hd=>.some ⟨.zero (by omega) hd.1 hd.2.1 ((WK.nd).trans λe=>(hd.2.2.2.2.1 e).1),λe=>?_,λ_ h=>absurd h (by decide)⟩
   ·exact Ug (hk (fD (k:=136) (by decide) e).2.1)
   ·obtain ⟨d1,d2,d3,d4⟩:=hd.2.2.2.2.1 e;simp only;rw [d2,d3,d4,mB,uF];exact ⟨.arr FI rfl .nil,by rw [wF,gO,oR];simp only [tX,rB];omega⟩
 | ret hy=>
   rw [gO,sZ] at hs hB hn hp ⊢;simp only [Int.reduceBEq,EY,if_false,if_true];exact (Sd h (by omega) rfl hy (by omega) (by omega) (by omega)).bind λr hr=>.some ⟨.one (by omega) ⟨hr.1,hr.2.1,hr.2.2.1⟩,hr.2.2.2.1,λe _=>hr.2.2.2.2 e⟩
 | loop h1 h2 h3=>
   simp only [Int.reduceBEq,EY,if_false,if_true];exact (hl B c w _ _ h (.loop h1 h2 h3) rfl hs hB (by omega) ⟨_,rfl⟩ b).bind λr hr=>.some ⟨hr.1,hr.2,λ_ h=>absurd h (by decide)⟩
 | set hy=>
   rw [gO,sZ] at hs hB hn hp ⊢;simp only [Int.reduceBEq,EY,if_false,if_true];exact (UQ h (by omega) rfl hy (by omega) (by omega) (by omega)).bind λr hr=>.some ⟨.one (by omega) ⟨hr.1,hr.2.1,hr.2.2.1⟩,hr.2.2.2,λ_ h=>absurd h (by decide)⟩
 | put hi hy=>
   rw [gO,Iz] at hs hB hn hp ⊢;rename_i i0 y0;have p1:=rO i0;have p2:=rO y0;simp only [Int.reduceBEq,EY,if_false,if_true];exact (UR h rfl hi hy (by omega) (by omega) (by omega) (by omega)).bind λr hr=>.some ⟨.zero (by omega) h (.refl c) hr.1,hr.2,λ_ h=>absurd h (by decide)⟩
 | call hy=>
   rw [gO] at hs hB hn hp ⊢;simp only [Int.reduceBEq,EY,if_false,if_true];refine (Gl h (by omega) hy (by simp only;omega) (by simp only;omega) (by omega)).bind λr hr=>.some ⟨.one (by omega) ⟨hr.1,hr.2.1,hr.2.2.2.2.1⟩,λe=>?_,λ_ h=>absurd h (by decide)⟩;obtain ⟨h1,h2,h3,h4,h5,h6⟩:=hr;obtain ⟨f0,f1,f,zs,e1,e2,e3,e4,e9⟩:=h6 e;have hvs:uE r.2.1=uE c:=by unfold uE;rw [h4,h2.f]
   simp only;rw [e1,hvs,h3];exact ⟨.do_ e3 e4 .nil,by rw [wF,gO];simp only [tX];simp only at e9;omega⟩
 | choice h1 h2=>
   rw [gO,Iz,gO] at hs hB hn hp ⊢;rename_i c0 b0 ys;have p1:=rO c0;have p2:=pL ys;simp only [Int.reduceBEq,EY,if_false,if_true];refine bK.eqn (v:=c0) rfl ((uO (w:=w) h h1 (by omega) (by omega)).bind λr hr=>?_);refine bK.eqn (v:=⟨4,b0,[],0,ys⟩) rfl ((hf B c _ _ false h h2 (by simp only;omega) (by simp only;omega) (by simp only;omega)).bind λq hq=>?_);obtain ⟨⟨⟨⟨B',hb',h'⟩,hk',hw'⟩,hsc⟩,hT⟩:=hq;simp only at hb';refine bK.need (by simp) ?_;obtain ⟨m,rfl⟩:∃m,n=m+1:=⟨n - 1,by omega⟩;unfold fO;refine .some ⟨⟨⟨B',by omega,h'⟩,hk',hr.1.wk.trans hw'⟩,λe=>?_,λ_ h=>absurd h (by decide)⟩;have er:r.2.e_=0:=by rw [←hw' e];exact e
   obtain ⟨⟨sc',hT1⟩,_,hZ⟩:=hT e;simp only;rw [hsc];refine ⟨.if_ ((hr.1 er).2.1.mono hk'.v λ_ h=>h) (hr.2 er) hT1 .nil .nil,?_⟩;rw [wF,gO,Iz,gO];simp only [rB,tX];simp only at hZ;have:=(hr.1 er).2.2;omega
 | choice2 h1 h2 h4=>
   rw [gO,Ls,gO,gO] at hs hB hn hp ⊢;rename_i c0 b0 ys b1 zs;have p1:=rO c0;have p2:=pL ys;have p3:=pL zs;simp only [Int.reduceBEq,EY,if_false,if_true];refine bK.eqn (v:=c0) rfl ((uO (w:=w) h h1 (by omega) (by omega)).bind λr hr=>?_);refine bK.eqn (v:=⟨4,b0,[],0,ys⟩) rfl ((hf B c _ _ false h h2 (by simp only;omega) (by simp only;omega) (by simp only;omega)).bind λq hq=>?_);obtain ⟨⟨⟨⟨B',hb',h'⟩,hk',hw'⟩,hsc⟩,hT⟩:=hq;simp only at hb';refine bK.need (by simp) ?_;obtain ⟨m,rfl⟩:∃m,n=m+1+1:=⟨n - 2,by omega⟩;unfold fO;refine bK.bind' ?_;refine bK.iteb (λ_=>?_) (λhc=>by simp at hc);refine bK.eqn (v:=⟨4,b1,[],0,zs⟩) rfl ((hf B' q.2.1 _ _ false h' h4 (by simp only;omega) (by simp only;omega) (by simp only;omega)).bind λq2 hq2=>?_);obtain ⟨⟨⟨⟨B2,hb2,h5⟩,hk2,hw2⟩,hsc2⟩,hT2⟩:=hq2;simp only at hb2;unfold fO;refine .some (.some ⟨⟨⟨B2,by omega,h5⟩,hk'.trans hk2,hr.1.wk.trans (hw'.trans hw2)⟩,λe=>?_,λ_ h=>absurd h (by decide)⟩);have eq:q.2.2.e_=0:=by rw [←hw2 e];exact e
   have er:r.2.e_=0:=by rw [←hw' eq];exact eq
   obtain ⟨⟨sc1,hT1⟩,_,hZ⟩:=hT eq;obtain ⟨⟨sc2,hT3⟩,_,hZ2⟩:=hT2 e;rw [hk'.res h,hsc] at hT3;simp only;rw [hsc2,hsc];refine ⟨.if_ ((hr.1 er).2.1.mono (hk'.trans hk2).v λ_ h=>h) (hr.2 er) (hT1.mono (λ_ _ _ h=>Kp.sg h' hk2 h) hk2.v) hT3 .nil,?_⟩;rw [wF,gO,Ls,gO,gO];simp only [rB,tX];simp only at hZ hZ2;have:=(hr.1 er).2.2;omega
theorem Oo:∀n:Nat,OkBk N n (dY n).1/\OkSm N n (dY n).2.1/\OkLp N n (dY n).2.2
 | 0=>⟨λB c w x b _ _ _ _ h=>by have:=pL x.aO;omega,λB c w x b _ _ _ _ h=>by have:=rO x;omega,λB c w x st _ _ _ _ _ h _ _=>by have:=rO x;omega⟩
 | n+1=>by
   obtain ⟨g1,g2,g3⟩:=Oo n;exact ⟨UY g2,cstmt_b g1 g3,cloop_b g1⟩
end
structure CO (N B:Nat) (c:aG):Prop where
 nf:c.p_.bF.length=N
 nN:N<=16384
 vl:∀f ∈ c.p_.bF,f.aX.length<=250/\0<=f.bC/\f.bC<=f.aX.length
 nc:c.cC.length=N
 cl:∀l ∈ c.cC,l.length<=B/\∀k ∈ l,0<=k/\k<N
 ki:∀f ∈ c.p_.bF,(∀v ∈ f.aX,Ef v)/\(f.bX=0 ∨ f.bX=2 ∨ f.bX=3)
def qR (k:Nat):List Int:=(List.range k).map Int.ofNat
theorem NA (k:Nat):qR (k+1)=qR k++[(k:Int)]:=by
 unfold qR;rw [List.range_succ,MV];rfl
theorem JL (k:Nat):(qR k).length=k:=by unfold qR;simp
theorem Ex {k:Nat} {v:Int} (h:v ∈ qR k):0<=v/\v<k:=by
 unfold qR at h;obtain ⟨i,h1,rfl⟩:=HN.1 h;have:=KO.1 h1;have h2:Int.ofNat i=(i:Int):=rfl;omega
def AF:List aL->Int->Int
 | [],n=>n
 | v::l,n=>AF l (if v.bS=3 then n+(n % 2+1)+1 else n+1)
theorem Ta {f:aT} (hl:(f.aX.take f.bC.toNat).length<=250):∀(k v:Nat) (a:Int),(f.aX.take f.bC.toNat).length<v+k->v<=(f.aX.take f.bC.toNat).length->0<=a->a<=4*(v:Int)->oO f k a (v:Int)=some (AF ((f.aX.take f.bC.toNat).drop v) a):=by
 intro k
 induction k with
 | zero=>intro v a h1 h2;omega
 | succ k ih=>
   intro v a h1 h2 h3 h4;unfold oO
   by_cases hv:v<(f.aX.take f.bC.toNat).length
   ·rw [if_pos (AB (by omega))];have hd:(f.aX.take f.bC.toNat).drop v=(f.aX.take f.bC.toNat)[v]::(f.aX.take f.bC.toNat).drop (v+1):=MT hv;have e:bM (f.aX.take f.bC.toNat) (v:Int)=some (f.aX.take f.bC.toNat)[v]:=by unfold bM;rw [if_pos (by omega),CS,uS hv]
    rw [hd,e];simp only [iJ,AF,beq_iff_eq];have h5:=Int.emod_nonneg a (show (2:Int) ≠ 0 by decide);have h6:=Int.emod_lt_of_pos a (show (0:Int)<2 by decide);rw [cR (n:=(v:Int)+1) (by omega) (by omega),show ((v:Int)+1)=((v+1:Nat):Int) by omega]
    split
    ·rw [xfo h3,cR (n:=a % 2+1) (by omega) (by omega),cR (n:=a+(a % 2+1)) (by omega) (by omega),cR (by omega) (by omega)];exact ih (v+1) _ (by omega) (by omega) (by omega) (by omega)
    ·rw [cR (by omega) (by omega)];exact ih (v+1) _ (by omega) (by omega) (by omega) (by omega)
   ·rw [if_neg (by rw [Bq];omega),Sw (by omega)];rfl
theorem Tb {f:aT} {n:Nat} (h1:f.aX.length<=250) (h2:0<=f.bC) (h3:f.bC<=f.aX.length) (hn:300<n):sV n f=some (AF (f.aX.take f.bC.toNat) 0):=by
 have hl:(f.aX.take f.bC.toNat).length<=250:=by rw [Ji];omega
 unfold sV;rw [uV ⟨h2,h3⟩];have:=Ta hl n 0 0 (by omega) (by omega) (by omega) (by omega);rw [show ((0:Nat):Int)=0 from rfl,iB] at this;rw [this];rfl
section
variable {N B n:Nat} {c:aG} {w:aH}
theorem CO.ci (h:CO N B c) {i:Int} (h0:0<=i) (h1:i<N) {f:aT} (hf:c.p_.bF[i.toNat]? = some f) {s:List Int} (hs:∀v ∈ s,0<=v/\v<f.aX.length) (hl:s.length<=f.aX.length):CI N B { c with f_:=i,bI:=s,fW:=i }:=by
 have hv:uE { c with f_:=i,bI:=s,fW:=i }=f.aX:=by unfold uE;simp only [hf];rfl
 exact ⟨h.nf,h.nN,h0,h1,h0,h1,by rw [hv];exact hs,by rw [hv];exact hl,h.vl,h.nc,h.cl,h.ki⟩
theorem UM (h:CO N B c) {i:Int} (h0:0<=i) (h1:i<N) {f:aT} (hf:c.p_.bF[i.toNat]? = some f) (hm:f ∈ c.p_.bF):∀(k v:Nat),f.bC<v+k->(v:Int)<=f.bC->bK (iC f k (v:Int) { c with f_:=i,bI:=qR v,fW:=i }) λr=>CI N B r/\r={ c with f_:=i,bI:=qR f.bC.toNat,fW:=i }:=by
 have hp:=h.vl f hm;intro k
 induction k with
 | zero=>intro v h2 h3;omega
 | succ k ih=>
   intro v h2 h3;unfold iC
   by_cases hv:(v:Int)<f.bC
   ·rw [if_pos (AB hv)];refine bK.need (by simp only [JL];omega) ?_;rw [cR (by omega) (by omega),show ((v:Int)+1)=((v+1:Nat):Int) by omega];have:=ih (v+1) (by omega) (by omega);rw [NA] at this;exact this
   ·rw [if_neg (by simpa using hv)];have hv2:v=f.bC.toNat:=by omega
    subst hv2;refine .some ⟨h.ci h0 h1 hf (λu hu=>?_) (by rw [JL];omega),rfl⟩;have:=Ex hu;omega
theorem LM (h:CO N B c) {i:Int} (h0:0<=i) (h1:i<N) (hn:300<n) {f:aT} (hf:bM c.p_.bF i=some f):bK (mL n c w i) λr=>CI N B r.1/\r.2=w/\r.1={ c with f_:=i,bI:=qR f.bC.toNat,fW:=i }:=by
 unfold mL;obtain ⟨f',e,e2,hm⟩:=oX (l:=c.p_.bF) h0 (by rw [h.nf];exact h1);rw [hf] at e;cases e
 rw [hf];simp only [iJ];have hp:=h.vl f hm;have e3:=UM h h0 h1 e2 hm n 0 (by omega) (by omega);change bK (iC f n 0 { c with f_:=i,bI:=[],fW:=i }) _ at e3;exact e3.bind λr hr=>.some ⟨hr.1,rfl,hr.2⟩
theorem Py {xs:List Nd} (hx:∀x ∈ xs,WP x) (hs:xs.length<=20000) (hn:300<n):∀(k v:Nat) (c:aG) (w:aH),xs.length<v+k->v<=xs.length->CI N B c->bK (jE n xs k (v:Int) c w) λr=>CI N B r.1/\Kp c r.1/\WK w r.2/\r.1.cC=c.cC:=by
 intro k
 induction k with
 | zero=>intro v c w h1 h2;omega
 | succ k ih=>
   intro v c w h1 h2 h;unfold jE
   by_cases hv:v<xs.length
   ·rw [if_pos (AB (by omega))];refine bK.bind (P:=λr=>CI N B r.1/\Kp c r.1/\WK w r.2/\r.1.cC=c.cC) ?_ λr hr=>?_
    ·obtain ⟨x,e,_,hxm⟩:=oX (l:=xs) (i:=(v:Int)) (by omega) (by omega);rw [e];simp only [iJ];cases hx x hxm with
     | @word a s k hk=>
       have hk3:i64.wrap k=k/\1<=k/\k<=3:=by rcases hk with rfl | rfl | rfl <;> decide
       refine bK.bind (P:=λb=>b=false) (bK.iteb (λ_=>.some rfl) (λ_=>.some rfl)) λb hb=>?_;subst hb;refine bK.iteb (λh=>nomatch h) λ_=>(uN (w:=w) h hn λ_=>?_).bind λd hd=>.some ⟨hd.1,hd.2.1,λe=>(hd.2.2.2.2.1 e).1,hd.2.2.1⟩;simp only [hk3.1];exact varOkW hk3.2.1 hk3.2.2
     | @arr a s b n1=>
       have w4:i64.wrap 4=4:=by decide
       simp only [w4,Int.reduceBEq,if_true,uF,Int.natCast_one,Int.reduceLT,decide_true,iJ];refine bK.eqn (v:=⟨14,b,[],n1,[]⟩) rfl (Lw.bind λb2 hb2=>?_);rw [pH];exact (uN (w:=MY w b2 136 _) h hn λe=>Tg (hb2 (fD (k:=136) (by decide) e).2.1)).bind λd hd=>.some ⟨hd.1,hd.2.1,WK.trans WK.nd λe=>(hd.2.2.2.2.1 e).1,hd.2.2.1⟩
    ·rw [cR (by omega) (by omega),show ((v:Int)+1)=((v+1:Nat):Int) by omega];exact (ih (v+1) _ _ (by omega) (by omega) hr.1).mono λq hq=>⟨hq.1,hr.2.1.trans hq.2.1,hr.2.2.1.trans hq.2.2.1,hq.2.2.2.trans hr.2.2.2⟩
   ·rw [if_neg (by simp;omega)];exact .some ⟨h,.refl c,.refl w,rfl⟩
structure Hd (f f':aT):Prop where
 n:f'.fM=f.fM
 x:f'.dF=f.dF
 r:f'.bX=f.bX
 b:f'.bQ=f.bQ
 p:f'.bC=f'.aX.length
theorem Tc {x:Nd} (h:WF x):∃ps b,x.aO=ps++[b]/\(∀p ∈ ps,WP p)/\(∀y ∈ b.aO,WS y)/\b=⟨4,b.eU,[],0,b.aO⟩:=by
 cases h with
 | fn h1 h2=>exact ⟨_,_,rfl,h1,h2,rfl⟩
theorem Qj {α:Type} {ps:List α} {b:α} (h:(ps++[b]).length<=20000):(max (i64.wrap (((ps++[b]).length:Int) - 1)) 0)=(ps.length:Int):=by
 simp only [mB,uF] at *;rw [cR (by omega) (by omega)];omega
theorem Kp.body {c':aG} (h:CI N B c) (k:Kp c c') {f:aT} (e:bM c.p_.bF c.f_=some f) {f':aT} (e':bM c'.p_.bF c'.f_=some f'):f'.fM=f.fM/\f'.dF=f.dF/\f'.bX=f.bX/\f'.bC=f.bC/\f.aX <+: f'.aX:=by
 obtain ⟨f2,e2,g1,g2,g3,g4,g5,_⟩:=k.fn h e;rw [k.f] at e';rw [e'] at e2;cases e2
 exact ⟨g1,g2,g3,g4,g5⟩
theorem RZ (h:CO N B c) {i:Int} (h0:0<=i) (h1:i<N) (hn:20300<n) {f:aT} (hf:bM c.p_.bF i=some f) (hb:f.bQ=[]) {x:Nd} (hx:WF x) (hs:x.aO.length<=20000):bK (lJ n c w i x) λr=>CO N B r.1/\WK w r.2/\r.1.cC=c.cC/\(∀j:Nat,j ≠ i.toNat->r.1.p_.bF[j]? = c.p_.bF[j]?)/\∃f',bM r.1.p_.bF i=some f'/\f'.fM=f.fM/\f'.dF=f.dF/\f'.bX=f.bX/\f'.bC=f'.aX.length/\(r.2.e_=0->f'.dF=true->AF f'.aX 0<=4):=by
 obtain ⟨ps,b,hl,hps,_,_⟩:=Tc hx;have hla:=Qj (ps:=ps) (b:=b) (by rw [←hl];exact hs);rw [←hl] at hla;unfold lJ;refine (LM (w:=w) h h0 h1 (by omega) hf).bind λr hr=>?_;obtain ⟨g1,g2,g3⟩:=hr;rw [hla];have hll:x.aO.length=ps.length+1:=by rw [hl];simp
 refine bK.need ⟨by omega,by omega⟩ ?_;rw [CS,show x.aO.take ps.length=ps by rw [hl];simp];unfold qT;refine bK.bind (P:=λq=>CO N B q.1/\WK w q.2/\q.1.f_=i/\q.1.cC=c.cC/\(∀j:Nat,j ≠ i.toNat->q.1.p_.bF[j]? = c.p_.bF[j]?)/\∃f',bM q.1.p_.bF i=some f'/\f'.fM=f.fM/\f'.dF=f.dF/\f'.bX=f.bX/\f'.bC=f'.aX.length) ?_ λq hq=>?_
 ·refine (Py hps (by omega) (by omega) n 0 r.1 r.2 (by omega) (by omega) g1).bind λq hq=>?_;obtain ⟨k1,k2,k3,k4⟩:=hq;obtain ⟨f2,ef2,hm2,hv2,e2⟩:=k1.cur;rw [e2];simp only [iJ];have hqf:q.1.f_=i:=by rw [k2.f,g3]
  have hrf:bM r.1.p_.bF r.1.f_=some f:=by rw [g3];exact hf
  obtain ⟨b1,b2,b3,b4,b5⟩:=k2.body g1 hrf e2;have hlt:q.1.f_.toNat<q.1.p_.bF.length:=(uG.1 ef2).1;refine .some ⟨⟨by simp only [rJ];exact k1.nf,k1.nN,λg hg=>?_,k1.nc,k1.cl,λg hg=>?_⟩,by rw [←g2];exact k3,hqf,by rw [k4,g3],λj hj=>?_,{ f2 with bC:=(f2.aX.length:Int) },?_,b1,b2,b3,rfl⟩
  ·rcases SX hg with hg | rfl
   ·exact k1.vl g hg
   ·have:=k1.vl f2 hm2;simp only;omega
  ·rcases SX hg with hg | rfl
   ·exact k1.ki g hg
   ·exact k1.ki f2 hm2
  ·simp only;rw [OL (by rw [hqf];omega),k2.o j (by rw [g3];exact hj),g3]
  ·unfold bM;rw [if_pos h0];simp only
   rw [←hqf,PT hlt]
 ·obtain ⟨k1,k2,k3,k4,k5,f',k6,k7,k8,k9,k10⟩:=hq;refine bK.iteb (λhe=>?_) (λhe=>.some ⟨k1,k2,k4,k5,f',k6,k7,k8,k9,k10,λe=>absurd e (by simpa using he)⟩);rw [k3,k6];simp only [iJ,pH];refine bK.bind' (bK.iteb (λhx=>.some (.some ⟨k1,k2.trans WK.nd,k4,k5,f',k6,k7,k8,k9,k10,λ_ hx2=>?_⟩)) (λhx=>?_))
  ·rw [hx2] at hx;cases hx
  ·have hm:f' ∈ q.1.p_.bF:=by
    unfold bM at k6;rw [if_pos h0] at k6;exact CT k6
   have hv:=k1.vl f' hm;rw [Tb hv.1 hv.2.1 hv.2.2 (by omega)];refine .some (.some ⟨k1,k2.trans WK.nd,k4,k5,f',k6,k7,k8,k9,k10,λe _=>?_⟩);have:=(fD (k:=136) (by decide) e).2.1;rw [k10,CS,xey] at this;exact AD this
def Eo (c:aG) (i:Nat):PP:=λk r ps=>(∃l,c.cC[i]? = some l/\k ∈ l)/\∃f,bM c.p_.bF k=some f/\r=f.bX/\ps=f.aX.take f.bC.toNat
structure TF (sg:PP) (f:aT):Prop where
 body:∃sc',TB sg f.aX f.bX true f.bC.toNat (qR f.bC.toNat) f.bQ f.aX.length sc'
 ret:f.bX ≠ 0->∃s,f.bQ.getLast? = some s/\HH s
theorem Nz {b:Nd} (hl:b.aO.length<=20000):bK (vP b) λr=>r=true->∃y,b.aO.getLast? = some y/\y.bS=13:=by
 unfold vP;refine bK.bind (P:=λr=>r=true->∃y,b.aO.getLast? = some y/\y.bS=13) (bK.iteb (λh=>?_) (λ_=>.some λh=>Bool.noConfusion h)) λr hr=>.some hr;have h0:0<b.aO.length:=by have:=AD h;omega
 rw [cR (by omega) (by omega)];obtain ⟨y,e,e2,_⟩:=oX (l:=b.aO) (i:=(b.aO.length:Int) - 1) (by omega) (by omega);rw [e];refine .some λh=>⟨y,?_,by simpa using h⟩;rw [List.getLast?_eq_getElem?,←e2]
 congr 1
 omega
theorem Sa (h:CO N B c) {i:Int} (h0:0<=i) (h1:i<N) {f:aT} (hf:bM c.p_.bF i=some f) (hp:f.bC=f.aX.length) {x:Nd} (hx:WF x) (hs:sz x<=20000) (hB:(B:Int)+sz x<=1073741824) (hn:90000<=n):bK (lL n c w i x) λr=>(∃B':Nat,(B':Int)<=B+sz x/\CO N B' r.1)/\WK w r.2/\(∀j:Nat,j ≠ i.toNat->r.1.p_.bF[j]? = c.p_.bF[j]? /\ r.1.cC[j]? = c.cC[j]?)/\∃f',bM r.1.p_.bF i=some f'/\f'.fM=f.fM/\f'.dF=f.dF/\f'.bX=f.bX/\f'.bC=f.bC/\f.aX <+: f'.aX/\(r.2.e_=0->TF (Eo r.1 i.toNat) f'/\(tX f'.bQ:Int)<=sz x):=by
 obtain ⟨ps,b,hl,_,hbs,hbe⟩:=Tc hx;have hz:=Fs x;have hlen:=pL x.aO;have hla:=Qj (ps:=ps) (b:=b) (by rw [←hl];omega);rw [←hl] at hla;have hbz:=JG (l:=x.aO) (k:=b) (by rw [hl];simp);have hbq:=Fs b;have hbg:=pL b.aO;unfold lL;refine (LM (w:=w) h h0 h1 (by omega) hf).bind λr hr=>?_;obtain ⟨g1,g2,g3⟩:=hr;have hll:x.aO.length=ps.length+1:=by rw [hl];simp
 rw [hla];refine bK.need ⟨by omega,by omega⟩ ?_;obtain ⟨m,rfl⟩:∃m,n=m+1+1:=⟨n - 2,by omega⟩;unfold iO;rw [hla,CS,show x.aO.drop ps.length=[b] by rw [hl];simp];have hrf:r.1.f_=i:=by rw [g3]
 refine bK.bind' ?_;rw [if_pos (by rw [uF];decide)];refine bK.eqn (v:=b) rfl ?_;obtain ⟨f0,ef0,hm0,hv0,e0⟩:=g1.cur;have e0f:bM r.1.p_.bF r.1.f_=some f:=by rw [g3];exact hf
 rw [e0];rw [e0f] at e0;cases e0
 simp only [iJ];refine ((Oo (m+1+1)).1 B r.1 r.2 b true g1 hbs (by omega) (by omega) (by omega)).bind λq hq=>?_;obtain ⟨⟨⟨⟨B',hb',h'⟩,hk,hw⟩,hsc⟩,hT⟩:=hq;obtain ⟨f2,ef2,hm2,hv2,e2⟩:=h'.cur;obtain ⟨b1,b2,b3,b4,b5⟩:=hk.body g1 e0f e2;have hqf:q.2.1.f_=r.1.f_:=hk.f;rw [hqf] at e2 ef2;rw [e2];simp only [iJ];have hlt:r.1.f_.toNat<q.2.1.p_.bF.length:=(uG.1 ef2).1
 have e3:bM (q.2.1.p_.bF.set r.1.f_.toNat { f2 with bQ:=q.1 }) r.1.f_=some { f2 with bQ:=q.1 }:=by
  unfold bM;rw [if_pos (by rw [hrf];exact h0),PT hlt]
 rw [e3];simp only [iJ,pH]
 have hout:∀w2:aH,WK q.2.2 w2->(w2.e_=0->f.bX ≠ 0->∃s,q.1.getLast? = some s/\HH s)->bK (iO (m+1+1) x (m+1) (i64.wrap ((0:Int)+1)) { q.2.1 with p_:=⟨q.2.1.p_.bF.set r.1.f_.toNat { f2 with bQ:=q.1 }⟩ } w2) (λx_1=>bK (some (x_1.1,x_1.2)) λr=>(∃B':Nat,(B':Int)<=B+sz x/\CO N B' r.1)/\WK w r.2/\(∀j:Nat,j ≠ i.toNat->r.1.p_.bF[j]? = c.p_.bF[j]? /\ r.1.cC[j]? = c.cC[j]?)/\∃f',bM r.1.p_.bF i=some f'/\f'.fM=f.fM/\f'.dF=f.dF/\f'.bX=f.bX/\f'.bC=f.bC/\f.aX <+: f'.aX/\(r.2.e_=0->TF (Eo r.1 i.toNat) f'/\(tX f'.bQ:Int)<=sz x)):=by
  intro w2 hw2 hret;unfold iO;rw [hla,CS,show x.aO.drop ps.length=[b] by rw [hl];simp,if_neg (by rw [uF];decide)];refine .some (.some ⟨⟨B',by omega,by simp only [rJ];exact h'.nf,h'.nN,λg hg=>?_,h'.nc,h'.cl,λg hg=>?_⟩,by rw [←g2];exact hw.trans hw2,λj hj=>⟨?_,?_⟩,{ f2 with bQ:=q.1 },?_,b1,b2,b3,b4,b5,λe=>⟨⟨?_,?_⟩,by have:=(hT (by rw [←hw2 e];exact e)).2.2;simp only;omega⟩⟩)
  ·rcases SX hg with hg | rfl
   ·exact h'.vl g hg
   ·exact h'.vl f2 hm2
  ·rcases SX hg with hg | rfl
   ·exact h'.ki g hg
   ·exact h'.ki f2 hm2
  ·simp only;rw [OL (by rw [hrf];omega),hk.o j (by rw [hrf];exact hj),g3]
  ·simp only;rw [hk.k j (by rw [g3];exact hj),g3]
  ·rw [←hrf];exact e3
  ·obtain ⟨⟨sc',hTB⟩,_⟩:=hT (by rw [←hw2 e];exact e);rw [g1.res e0f,hv0,hv2,g3] at hTB;simp only at hTB;have hpp:f.aX.length=f2.bC.toNat:=by rw [b4,hp,CS]
   rw [hpp,←b4,←b3] at hTB;refine ⟨sc',TB.mono (λk r' ps' hsg=>?_) (QK _) hTB⟩;obtain ⟨⟨l,el,hkl⟩,f3,ef3,rfl,rfl⟩:=hsg;have hat:q.2.1.fW=i:=by rw [hk.a,g3]
   rw [hat] at el;unfold bM at el;rw [if_pos h0] at el;refine ⟨⟨l,el,hkl⟩,?_⟩
   by_cases hki:k=r.1.f_
   ·subst hki;rw [e2] at ef3;cases ef3
    exact ⟨_,e3,rfl,rfl⟩
   ·refine ⟨f3,?_,rfl,rfl⟩;unfold bM at ef3 ⊢
    split at ef3
    ·rename_i hk0;rw [if_pos hk0,OL (by rw [hrf] at hki ⊢;omega)];exact ef3
    ·cases ef3
  ·simp only [b3];exact hret e
 refine bK.bind' (bK.iteb (λhr0=>.some (hout _ WK.nd λe hne=>?_)) (λhr0=>?_))
 ·exact absurd (by rw [beq_iff_eq] at hr0;rw [←b3];exact hr0) hne
 ·refine (Nz (b:=b) (by omega)).bind λrb hrb=>.some (hout _ WK.nd λe hne=>?_);obtain ⟨k1,k2,_⟩:=fD (k:=135) (by decide) e;obtain ⟨y,hy1,hy2⟩:=hrb k2;exact (hT k1).2.1 y hy1 hy2
end
def tW (seen:List Int):Nat:=seen.countP (· == 0)
theorem Pz {l:List Int} {i:Nat} {v:Int} (h:l[i]? = some 0) (hv:v ≠ 0):tW (l.set i v)+1=tW l:=by
 unfold tW
 induction l generalizing i with
 | nil=>cases h
 | cons x l ih=>
   cases i with
   | zero=>
     simp only [iU,Option.some.injEq] at h;subst h;rw [jA,SB,SB];simp [hv]
   | succ i=>
     simp only [iS] at h;have:=ih h;rw [iZ,SB,SB];omega
theorem On {l:List Int} {i:Nat} {v w:Int} (h:l[i]? = some w) (hv:v ≠ 0) (hw:w ≠ 0):tW (l.set i v)=tW l:=by
 unfold tW
 induction l generalizing i with
 | nil=>cases h
 | cons x l ih=>
   cases i with
   | zero=>
     simp only [iU,Option.some.injEq] at h;subst h;rw [jA,SB,SB];simp [hv,hw]
   | succ i=>
     simp only [iS] at h;have:=ih h;rw [iZ,SB,SB];omega
def Fo (seen:List Int) (k:Int):Prop:=∃v,bM seen k=some v/\v ≠ 0
def Sn (c:aG) (to:Int) (seen:List Int) (k:Int):Prop:=∀l,bM c.cC k=some l->∀j ∈ l,j ≠ to/\Fo seen j
theorem Fo.set {seen:List Int} {k j v:Int} (hv:v ≠ 0) (h:Fo seen k) (hj:j.toNat<seen.length):Fo (seen.set j.toNat v) k:=by
 obtain ⟨x,h1,h2⟩:=h;unfold bM at h1
 split at h1
 ·rename_i h0
  by_cases e:j.toNat=k.toNat
  ·exact ⟨v,by unfold bM;rw [if_pos h0,←e,PT hj],hv⟩
  ·exact ⟨x,by unfold bM;rw [if_pos h0,OL e];exact h1,h2⟩
 ·cases h1
theorem Fo.unset {seen:List Int} {k j v:Int} (h:Fo (seen.set j.toNat v) k) (hj:0<=j):Fo seen k ∨ k=j:=by
 obtain ⟨x,h1,h2⟩:=h;unfold bM at h1
 split at h1
 ·rename_i h0
  by_cases e:j.toNat=k.toNat
  ·right;omega
  ·rw [OL e] at h1;exact .inl ⟨x,by unfold bM;rw [if_pos h0];exact h1,h2⟩
 ·cases h1
theorem Sn.mono {c:aG} {to:Int} {s s':List Int} {k:Int} (h:Sn c to s k) (hs:∀j,Fo s j->Fo s' j):Sn c to s' k:=λl e j hj=>⟨(h l e j hj).1,hs _ (h l e j hj).2⟩
structure Ra (c:aG) (to:Int) (B:Nat) (X:Int) (seen seen':List Int):Prop where
 le:tW seen'<=tW seen
 lo:∀v ∈ seen',0<=v/\v+((tW seen'*B:Nat):Int)<=X
 up:∀k,Fo seen k->Fo seen' k
 sh:∀k,Fo seen' k->Fo seen k ∨ Sn c to seen' k
section
variable {N B:Nat} {c:aG} {to:Int}
theorem reach_l {rec_:Int->List Int->Option (Bool × List Int)} {n:Nat} (hB:∀l ∈ c.cC,l.length<=B)
  (hrec:∀(k X:Int) (seen:List Int),0<=k->k<N->tW seen<n->seen.length=N->(∀v ∈ seen,0<=v/\v+(((tW seen+1)*B:Nat):Int)<=X)->X<=4611686018427387904->bK (rec_ k seen) λr=>r.2.length=N/\(r.1=false->Ra c to B X seen r.2/\Sn c to r.2 k)) :
  ∀(ks seen:List Int) (X:Int),(∀k ∈ ks,0<=k/\k<N)->tW seen<n+1->seen.length=N->(∀v ∈ seen,0<=v/\v+((tW seen*B:Nat):Int)+ks.length<=X)->X<=4611686018427387904->bK (wM rec_ to ks seen) λr=>r.2.length=N/\(r.1=false->Ra c to B X seen r.2/\∀j ∈ ks,j ≠ to/\Fo r.2 j):=by
 intro ks
 induction ks with
 | nil=>
   intro seen X h1 h2 h3 h4 h5;exact .some ⟨h3,λ_=>⟨⟨rM _,λv hv=>by have:=h4 v hv;simp only [eI] at this ⊢;omega,λk h=>h,λk h=>.inl h⟩,λj hj=>nomatch hj⟩⟩
 | cons k ks ih=>
   intro seen X h1 h2 h3 h4 h5;unfold wM;obtain ⟨k0,k1⟩:=h1 k (xek);refine bK.iteb (λ_=>.some ⟨h3,λh=>Bool.noConfusion h⟩) λhkt=>?_;have hkt:k ≠ to:=by simpa using hkt
   obtain ⟨s,e,e2,hsm⟩:=oX (l:=seen) (i:=k) k0 (by omega);have hs:=h4 s hsm;simp only [dT] at hs;rw [e,iJ,cR (by omega) (by omega)];have hkl:k.toNat<seen.length:=by omega
   have hset:∀v ∈ seen.set k.toNat (s+1),0<=v/\v+((tW seen*B:Nat):Int)+ks.length<=X:=λv hv=>by
    rcases SX hv with hv | rfl
    ·have:=h4 v hv;simp only [dT] at this;omega
    ·omega
   refine bK.iteb (λhs1=>?_) (λhs1=>?_)
   ·have hs0:s=0:=by have:=eq_of_beq hs1;omega
    subst hs0;have hun:=Pz (v:=0+1) e2 (by decide);refine (hrec k (X - ks.length) _ k0 k1 (by omega) (by rw [rJ];exact h3) (λv hv=>?_) (by omega)).bind λr hr=>?_
    ·have:=hset v hv;rw [hun];omega
    ·refine bK.iteb (λhrt=>.some ⟨hr.1,λh=>Bool.noConfusion h⟩) λhrt=>?_;obtain ⟨hR,hS⟩:=hr.2 hrt;have hle:=hR.le;refine (ih r.2 X (λj hj=>h1 j (LZ _ hj)) (by omega) hr.1 (λv hv=>?_) h5).mono λq hq=>⟨hq.1,λhqf=>?_⟩
     ·have:=hR.lo v hv;omega
     ·obtain ⟨hQ,hJ⟩:=hq.2 hqf;have hsk:Fo (seen.set k.toNat (0+1)) k:=⟨0+1,by unfold bM;rw [if_pos k0,PT hkl],by decide⟩;have hqle:=hQ.le;refine ⟨⟨by omega,hQ.lo,λj hj=>hQ.up j (hR.up j (hj.set (by decide) hkl)),λj hj=>?_⟩,λj hj=>?_⟩
      ·rcases hQ.sh j hj with h | h
       ·rcases hR.sh j h with h | h
        ·rcases h.unset k0 with h | rfl
         ·exact .inl h
         ·exact .inr (hS.mono hQ.up)
        ·exact .inr (h.mono hQ.up)
       ·exact .inr h
      ·rcases AE.1 hj with rfl | hj
       ·exact ⟨hkt,hQ.up _ (hR.up _ hsk)⟩
       ·exact hJ j hj
   ·have hs0:s ≠ 0:=by rintro rfl;simp at hs1
    have hun:=On (v:=s+1) e2 (by omega) hs0;refine (ih _ X (λj hj=>h1 j (LZ _ hj)) (by rw [hun];omega) (by rw [rJ];exact h3) (λv hv=>by rw [hun];exact hset v hv) h5).mono λq hq=>⟨hq.1,λhqf=>?_⟩;obtain ⟨hQ,hJ⟩:=hq.2 hqf;have hsk:Fo (seen.set k.toNat (s+1)) k:=⟨s+1,by unfold bM;rw [if_pos k0,PT hkl],by omega⟩;have hqle:=hQ.le;rw [hun] at hqle;refine ⟨⟨hqle,hQ.lo,λj hj=>hQ.up j (hj.set (by omega) hkl),λj hj=>?_⟩,λj hj=>?_⟩
    ·rcases hQ.sh j hj with h | h
     ·rcases h.unset k0 with h | rfl
      ·exact .inl h
      ·exact .inl ⟨s,e,hs0⟩
     ·exact .inr h
    ·rcases AE.1 hj with rfl | hj
     ·exact ⟨hkt,hQ.up _ hsk⟩
     ·exact hJ j hj
theorem Rx (hN:c.cC.length=N) (hcl:∀l ∈ c.cC,l.length<=B/\∀k ∈ l,0<=k/\k<N) (hB:B<=1073741824):∀(n:Nat) (k X:Int) (seen:List Int),0<=k->k<N->tW seen<n->seen.length=N->(∀v ∈ seen,0<=v/\v+(((tW seen+1)*B:Nat):Int)<=X)->X<=4611686018427387904->bK (kS n c k to seen) λr=>r.2.length=N/\(r.1=false->Ra c to B X seen r.2/\Sn c to r.2 k):=by
 intro n
 induction n with
 | zero=>intro k X seen _ _ h;omega
 | succ n ih=>
   intro k X seen k0 k1 h1 h2 h3 h4;unfold kS;obtain ⟨l,e,_,hm⟩:=oX (l:=c.cC) k0 (by omega);obtain ⟨hl1,hl2⟩:=hcl l hm;rw [e,iJ];refine bK.need (by omega) ?_;refine (reach_l (λl hl=>(hcl l hl).1) ih l seen X hl2 h1 h2 (λv hv=>?_) h4).mono λr hr=>⟨hr.1,λhf=>?_⟩
   ·have:=h3 v hv;rw [Jk] at this;omega
   ·obtain ⟨hR,hJ⟩:=hr.2 hf;refine ⟨hR,λl2 e2 j hj=>?_⟩;rw [e] at e2;cases e2
    exact hJ j hj
inductive Vo (c:aG):Int->Int->Prop
 | one {i k l}:bM c.cC i=some l->k ∈ l->Vo c i k
 | more {i j k l}:Vo c i j->bM c.cC j=some l->k ∈ l->Vo c i k
theorem Vo.cons {i j k:Int} {l:List Int} (h:Vo c j k) (e:bM c.cC i=some l) (hj:j ∈ l):Vo c i k:=by
 induction h with
 | one e2 h2=>exact .more (.one e hj) e2 h2
 | more _ e2 h2 ih=>exact .more ih e2 h2
theorem Iw (N:Nat):tW (List.replicate N 0)=N:=by
 unfold tW;rw [List.countP_eq_length.2 (λv hv=>by rw [(xei.1 hv).2];rfl),BX]
theorem TM (hN:c.cC.length=N) (hN2:N<=16384) (hcl:∀l ∈ c.cC,l.length<=B/\∀k ∈ l,0<=k/\k<N) (hB:B<=1073741824) {n:Nat} (hn:16384<n) {i:Int} (h0:0<=i) (h1:i<N):bK (kS n c i i (List.replicate N 0)) λr=>r.1=false->¬ Vo c i i:=by
 have hmul:(N+1)*B<=16385*1073741824:=Nat.mul_le_mul (by omega) hB;refine (Rx (to:=i) hN hcl hB n i 4611686018427387904 _ h0 h1 (by rw [Iw];omega) BX (λv hv=>?_) (Sy _)).mono λr hr hf hw=>?_
 ·rw [(xei.1 hv).2,Iw];omega
 ·obtain ⟨hR,hS⟩:=hr.2 hf
  have hz:∀k,¬ Fo (List.replicate N 0) k:=λk ⟨v,e,hv⟩=>by
   unfold bM at e
   split at e
   ·exact hv (xei.1 (CT e)).2
   ·cases e
  have key:∀k,Vo c i k->Fo r.2 k/\k ≠ i:=by
   intro k hk
   induction hk with
   | one e hk=>exact ⟨(hS _ e _ hk).2,(hS _ e _ hk).1⟩
   | more _ e hk ih=>
     rcases hR.sh _ ih.1 with h | h
     ·exact absurd h (hz _)
     ·exact ⟨(h _ e _ hk).2,(h _ e _ hk).1⟩
  exact (key i hw).2 rfl
theorem RX {α:Type} {p q:α->Bool} {l:List α} (h:∀x ∈ l,p x=true->q x=true) {y:α} (hy:y ∈ l) (hq:q y=true) (hp:p y=false):l.countP p<l.countP q:=by
 induction l with
 | nil=>cases hy
 | cons x l ih=>
   rw [SB,SB];have hle:l.countP p<=l.countP q:=List.countP_mono_left λx hx=>h x (LZ _ hx)
   rcases AE.1 hy with rfl | hy
   ·rw [hq,hp];simp;omega
   ·have:=ih (λx hx=>h x (LZ _ hx)) hy;have hx:=h x xek;cases h1:p x <;> cases h2:q x <;> simp_all <;> omega
theorem ranks (hN:c.cC.length=N) (hcl:∀l ∈ c.cC,∀k ∈ l,0<=k/\k<N) (hac:∀i:Int,0<=i->i<N->¬ Vo c i i):∃rk:Int->Nat,(∀i,rk i<=N)/\∀i l,bM c.cC i=some l->∀k ∈ l,rk k<rk i:=by
 classical
 refine ⟨λi=>(List.range N).countP λk:Nat=>decide (Vo c i (k:Int)),λi=>Jj xff (by simp),λi l e k hk=>?_⟩
 have hlm:l ∈ c.cC:=by
  unfold bM at e
  split at e
  ·exact CT e
  ·cases e
 obtain ⟨k0,k1⟩:=hcl l hlm k hk;have hkn:((k.toNat:Nat):Int)=k:=by omega
 refine RX (y:=k.toNat) (λx _ hx=>?_) (KO.2 (by omega)) ?_ ?_
 ·exact AB ((AD hx).cons e hk)
 ·rw [hkn];exact AB (.one e hk)
 ·rw [hkn];exact xeo (hac k k0 k1)
end
structure PO (c:aG) (rk:Int->Nat):Prop where
 co:CO c.p_.bF.length 1073741824 c
 n64:c.p_.bF.length<=64
 ex:∀f ∈ c.p_.bF,f.dF=true->AF (f.aX.take f.bC.toNat) 0<=4
 tf:∀(j:Nat) f,c.p_.bF[j]? = some f->TF (Eo c j) f
 sz:∀f ∈ c.p_.bF,tX f.bQ<=3001
 rkN:∀i,rk i<=64
 rk:∀i l,bM c.cC i=some l->∀k ∈ l,rk k<rk i
section
variable {N B n:Nat} {c:aG} {w:aH}
theorem CO.more {B':Nat} (h:CO N B c) (hb:B<=B'):CO N B' c:=⟨h.nf,h.nN,h.vl,h.nc,λl hl=>⟨Jj (h.cl l hl).1 hb,(h.cl l hl).2⟩,h.ki⟩
theorem Pe {a:Int}:bK (yH a) λr=>r=0 ∨ r=2 ∨ r=3:=by
 unfold yH
 repeat' split
 ·exact .some (.inr (.inl rfl))
 ·exact .some (.inr (.inr rfl))
 ·exact .some (.inl rfl)
structure D0 (f:aT):Prop where
 v:f.aX=[]
 p:f.bC=0
 b:f.bQ=[]
 r:f.bX=0 ∨ f.bX=2 ∨ f.bX=3
theorem Ud {x:Nd} (hl:x.aO.length<=16384) (hn:16384<n):∀(k v:Nat) (c:aG) (w:aH),x.aO.length<v+k->v<=x.aO.length->c.p_.bF.length=v->c.f_=-1->(∀f ∈ c.p_.bF,D0 f)->bK (kE n x k (v:Int) c w) λr=>r.1.p_.bF.length=x.aO.length/\(∀f ∈ r.1.p_.bF,D0 f)/\WK w r.2:=by
 intro k
 induction k with
 | zero=>intro v c w h1 h2;omega
 | succ k ih=>
   intro v c w h1 h2 h3 h4 h5;unfold kE
   by_cases hv:v<x.aO.length
   ·rw [if_pos (AB (by omega))];obtain ⟨y,e,_,hym⟩:=oX (l:=x.aO) (i:=(v:Int)) (by omega) (by omega);rw [e];simp only [iJ];refine (Ox (by omega) hn).bind λq hq=>?_;refine bK.bind (P:=λw'=>WK w w') ?_ λw' hw'=>?_
    ·refine bK.iteb (λ_=>?_) (λ_=>?_)
     ·exact (Ik (by omega)).bind λa _=>by rw [pH];exact .some WK.nd
     ·rw [pH];exact .some WK.nd
    ·refine Pe.bind λrr hrr=>bK.need (by omega) (bK.need (by omega) ?_);rw [cR (by omega) (by omega),show ((v:Int)+1)=((v+1:Nat):Int) by omega];refine (ih (v+1) { c with p_:=⟨c.p_.bF++[⟨y.cX,(wC .u32 y.oM (1:Int)) != (0:Int),rr,0,[],[]⟩]⟩ } w' (by omega) (by omega) (by simp only [mB,uF];omega) h4 λf hf=>?_).mono λr hr=>⟨hr.1,hr.2.1,hw'.trans hr.2.2⟩
     rcases zH.1 hf with hf | hf
     ·exact h5 f hf
     ·obtain rfl:=zG.1 hf;exact ⟨rfl,rfl,rfl,hrr⟩
   ·rw [if_neg (by rw [Bq];omega)];exact .some ⟨by simp only;omega,h5,.refl w⟩
theorem RE {x:Nd} (hl:x.aO.length<=16384) (hn:16384<n):bK (pB n aG.Z w x) λr=>CO x.aO.length 0 r.1/\(∀f ∈ r.1.p_.bF,D0 f)/\WK w r.2/\(r.2.e_=0->x.aO.length<=64):=by
 unfold pB;rw [pH,iJ];refine (Ud hl hn n 0 aG.Z _ (by omega) (by omega) rfl rfl λf hf=>nomatch hf).bind λr hr=>bK.need (by omega) (.some ?_);obtain ⟨h1,h2,h3⟩:=hr;refine ⟨⟨h1,hl,λf hf=>?_,BX,λl hl=>?_,λf hf=>?_⟩,h2,(WK.nd).trans h3,λe=>?_⟩
 ·rw [(h2 f hf).v,(h2 f hf).p];exact ⟨by decide,by decide,by decide⟩
 ·rw [(xei.1 hl).2];exact ⟨rM _,λk hk=>nomatch hk⟩
 ·rw [(h2 f hf).v];exact ⟨λv hv=>(by cases hv),(h2 f hf).r⟩
 ·have e2:(MY w (decide ((x.aO.length:Int)<=64)) 136 x.eU).e_=0:=by rw [←h3 e];exact e
  have:=AD (fD (k:=136) (by decide) e2).2.1;omega
def D1 (f:aT):Prop:=f.bC=f.aX.length/\(f.dF=true->AF f.aX 0<=4)
theorem vV {α:Type} {l:List α} {i:Nat} {x:α} (h:l[i]? = some x):bM l (i:Int)=some x:=by
 unfold bM;rw [if_pos (by omega),CS];exact h
theorem zX {α:Type} {l:List α} {i:Nat} {x:α} (h:bM l (i:Int)=some x):l[i]? = some x:=by
 unfold bM at h;rw [if_pos (by omega),CS] at h;exact h
theorem RI (hn:20300<n):∀(l:List Nd) (i:Nat) (c:aG) (w:aH),CO N B c->i+l.length=N->(∀x ∈ l,WF x/\x.aO.length<=20000)->(∀(j:Nat) f,i<=j->c.p_.bF[j]? = some f->f.bQ=[])->(w.e_=0->∀(j:Nat) f,j<i->c.p_.bF[j]? = some f->D1 f)->bK (tL (λi f c w=>lJ n c w i f) l i c w) λr=>CO N B r.1/\WK w r.2/\r.1.cC=c.cC/\(r.2.e_=0->∀(j:Nat) f,r.1.p_.bF[j]? = some f->D1 f):=by
 intro l
 induction l with
 | nil=>
   intro i c w h h1 h2 h3 h4;refine .some ⟨h,.refl w,rfl,λe j f hf=>h4 e j f ?_ hf⟩;have hj:j<c.p_.bF.length:=(uG.1 hf).1;have:=h.nf;simp only [eI] at h1;omega
 | cons x l ih=>
   intro i c w h h1 h2 h3 h4;simp only [dT] at h1;unfold tL
   by_cases he:(w.e_ == (0:Int))=true
   ·rw [if_pos he];have he0:w.e_=0:=by simpa using he
    obtain ⟨f,ef,ef2,_⟩:=oX (l:=c.p_.bF) (i:=(i:Int)) (by omega) (by rw [h.nf];omega);obtain ⟨hx1,hx2⟩:=h2 x xek;refine (RZ (w:=w) h (i:=(i:Int)) (by omega) (by omega) hn ef (h3 i f (rM _) (zX ef)) hx1 hx2).bind λr hr=>?_;obtain ⟨k1,k2,k3,k4,f',k5,k6,k7,k8,k9,k10⟩:=hr;rw [CS] at k4;refine (ih (i+1) r.1 r.2 k1 (by omega) (λy hy=>h2 y (LZ _ hy)) (λj g hj hg=>?_) (λe j g hj hg=>?_)).mono λq hq=>⟨hq.1,k2.trans hq.2.1,hq.2.2.1.trans k3,hq.2.2.2⟩
    ·exact h3 j g (by omega) (by rw [←k4 j (by omega)];exact hg)
    ·by_cases hji:j=i
     ·subst hji;rw [zX k5] at hg;cases hg
      exact ⟨k9,k10 e⟩
     ·exact h4 he0 j g (by omega) (by rw [←k4 j hji];exact hg)
   ·rw [if_neg he];refine (ih (i+1) c w h (by omega) (λy hy=>h2 y (LZ _ hy)) (λj g hj hg=>h3 j g (by omega) hg) (λe=>absurd e (by simpa using he))).mono λq hq=>hq
theorem Rl {c c':aG} {i j:Nat} (hv:∀f ∈ c.p_.bF,f.bC<=f.aX.length) (h1:∀k:Nat,k ≠ i->c'.p_.bF[k]? = c.p_.bF[k]?) (h2:c'.cC[j]? = c.cC[j]?) {f f':aT} (e:c.p_.bF[i]? = some f) (e':c'.p_.bF[i]? = some f') (hr:f'.bX=f.bX) (hp:f'.bC=f.bC) (hx:f.aX <+: f'.aX) {k r:Int} {ps:List aL} (h:Eo c j k r ps):Eo c' j k r ps:=by
 obtain ⟨⟨l,el,hk⟩,g,eg,rfl,rfl⟩:=h;refine ⟨⟨l,by rw [h2];exact el,hk⟩,?_⟩;unfold bM at eg
 split at eg
 ·rename_i h0
  by_cases hki:k.toNat=i
  ·rw [hki,e] at eg;cases eg
   have:=hv f (CT e);refine ⟨f',by unfold bM;rw [if_pos h0,hki];exact e',hr.symm,?_⟩;rw [hp,JF hx (by omega)]
  ·exact ⟨g,by unfold bM;rw [if_pos h0,h1 _ hki];exact eg,rfl,rfl⟩
 ·cases eg
theorem PL (hn:90000<=n):∀(l:List Nd) (i B:Nat) (c:aG) (w:aH),CO N B c->i+l.length=N->(∀x ∈ l,WF x/\sz x<=3001)->(B:Int)+vT l<=1073741824->(w.e_=0->∀(j:Nat) f,c.p_.bF[j]? = some f->(f.dF=true->AF (f.aX.take f.bC.toNat) 0<=4)/\(i<=j->f.bC=f.aX.length)/\(j<i->TF (Eo c j) f/\tX f.bQ<=3001))->bK (tL (λi f c w=>lL n c w i f) l i c w) λr=>(∃B':Nat,(B':Int)<=B+vT l/\CO N B' r.1)/\WK w r.2/\(r.2.e_=0->∀(j:Nat) f,r.1.p_.bF[j]? = some f->(f.dF=true->AF (f.aX.take f.bC.toNat) 0<=4)/\TF (Eo r.1 j) f/\tX f.bQ<=3001):=by
 intro l
 induction l with
 | nil=>
   intro i B c w h h1 h2 h3 h4;refine .some ⟨⟨B,by rw [oR];omega,h⟩,.refl w,λe j f hf=>⟨(h4 e j f hf).1,(h4 e j f hf).2.2 ?_⟩⟩;have hj:j<c.p_.bF.length:=(uG.1 hf).1;have:=h.nf;simp only [eI] at h1;omega
 | cons x l ih=>
   intro i B c w h h1 h2 h3 h4;simp only [dT] at h1;rw [vB] at h3 ⊢;have hp:=rO x;have hg:=pL l;unfold tL
   by_cases he:(w.e_ == (0:Int))=true
   ·rw [if_pos he];have he0:w.e_=0:=by simpa using he
    obtain ⟨f,ef,ef2,hfm⟩:=oX (l:=c.p_.bF) (i:=(i:Int)) (by omega) (by rw [h.nf];omega);obtain ⟨hx1,hx2⟩:=h2 x xek;obtain ⟨q1,q2,_⟩:=h4 he0 i f (zX ef);refine (Sa (w:=w) h (i:=(i:Int)) (by omega) (by omega) ef (q2 (rM _)) hx1 (by omega) (by omega) hn).bind λr hr=>?_;obtain ⟨⟨B',hb',k1⟩,k2,k4,f',k5,k6,k7,k8,k9,k10,k11⟩:=hr;rw [CS] at k4 k11;refine (ih (i+1) B' r.1 r.2 k1 (by omega) (λy hy=>h2 y (LZ _ hy)) (by omega) (λe j g hg=>?_)).mono λq hq=>?_
    ·by_cases hji:j=i
     ·subst hji;rw [zX k5] at hg;cases hg
      refine ⟨λhx=>?_,λh=>by omega,λ_=>⟨(k11 e).1,by have:=(k11 e).2;omega⟩⟩;rw [k9,JF k10 (by have:=(h.vl f hfm).2;omega)];exact q1 (by rw [←k7];exact hx)
     ·obtain ⟨a1,a2,a3⟩:=h4 he0 j g (by rw [←(k4 j hji).1];exact hg);refine ⟨a1,λh=>a2 (by omega),λhlt=>?_⟩;obtain ⟨hT,hZ⟩:=a3 (by omega);obtain ⟨sc',hTB⟩:=hT.body;exact ⟨⟨⟨sc',hTB.mono (λk r' ps hs=>Rl (λf hf=>(h.vl f hf).2.2) (λk hk=>(k4 k hk).1) (k4 j hji).2 (zX ef) (zX k5) k8 k9 k10 hs) (QK _)⟩,hT.ret⟩,hZ⟩
    ·obtain ⟨⟨B2,hb2,h5⟩,h6,h7⟩:=hq;exact ⟨⟨B2,by omega,h5⟩,k2.trans h6,h7⟩
   ·rw [if_neg he];refine (ih (i+1) B c w h (by omega) (λy hy=>h2 y (LZ _ hy)) (by omega) (λe=>absurd e (by simpa using he))).mono λq hq=>?_;obtain ⟨⟨B2,hb2,h5⟩,h6,h7⟩:=hq;exact ⟨⟨B2,by omega,h5⟩,h6,h7⟩
theorem cyc_tot (h:CO N B c) (hB:B<=1073741824) (hn:16384<n):∀(l:List Nd) (i:Nat) (w:aH),i+l.length=N->bK (zV n N c l i w) λw'=>WK w w'/\(w'.e_=0->∀j:Int,i<=j->j<N->¬ Vo c j j):=by
 intro l
 induction l with
 | nil=>intro i w h1;exact .some ⟨.refl w,λe j h2 h3=>by simp only [eI] at h1;omega⟩
 | cons x l ih=>
   intro i w h1;simp only [dT] at h1;unfold zV
   by_cases he:(w.e_ == (0:Int))=true
   ·rw [if_pos he];refine (TM h.nc h.nN h.cl hB hn (i:=(i:Int)) (by omega) (by omega)).bind λr hr=>?_;rw [pH,iJ];refine (ih (i+1) _ (by omega)).mono λq hq=>⟨(WK.nd).trans hq.1,λe j h2 h3=>?_⟩
    by_cases hji:j=i
    ·subst hji;have e2:(MY w (!r.1) 134 x.eU).e_=0:=by rw [←hq.1 e];exact e
     exact hr (by simpa using (fD (k:=134) (by decide) e2).2.1)
    ·exact hq.2 e j (by omega) h3
   ·rw [if_neg he];exact (ih (i+1) w (by omega)).mono λq hq=>⟨hq.1,λe=>absurd (hq.1 e ▸ e) (by simpa using he)⟩
theorem Su {s:cF} (hs:s.length<=3000) (hn:90000<=n):bK (Ay n s) λr=>r.2.1=0->∃c rk,c.p_=r.1/\PO c rk:=by
 unfold Ay;refine (NF (n:=n) (s:=s) (by omega)).bind λp hp=>?_;refine bK.iteb (λhe=>.some λe=>absurd e (by simpa using he)) (λhe=>?_);obtain ⟨hw,hz⟩:=hp (by simpa using he);have hg:=pL p.1.aO;refine (RE (w:=⟨0,0⟩) (x:=p.1) (by omega) (by omega)).bind λa ha=>bK.need (by omega) ?_;obtain ⟨a1,a2,a3,a4⟩:=ha
 have hsz:∀x ∈ p.1.aO,sz x<=3001/\x.aO.length<=20000:=λx hx=>by
  have h1:=JG hx;have h2:=Fs x;have h3:=pL x.aO;omega
 refine bK.bind (P:=λb=>(∃B':Nat,(B':Int)<=3001/\CO p.1.aO.length B' b.1)/\WK a.2 b.2/\(b.2.e_=0->∀(j:Nat) f,b.1.p_.bF[j]? = some f->(f.dF=true->AF (f.aX.take f.bC.toNat) 0<=4)/\TF (Eo b.1 j) f/\tX f.bQ<=3001)) ?_ λb hb=>?_
 ·unfold wX;refine (RI (n:=n) (by omega) p.1.aO 0 a.1 a.2 a1 (by omega) (λx hx=>⟨hw x hx,(hsz x hx).2⟩) (λj f _ hf=>(a2 f (CT hf)).b) (λ_ j f h=>by omega)).bind λq hq=>?_;obtain ⟨q1,q2,q3,q4⟩:=hq;unfold wX;refine (PL (n:=n) hn p.1.aO 0 0 q.1 q.2 q1 (by omega) (λx hx=>⟨hw x hx,(hsz x hx).1⟩) (by omega) (λe j f hf=>?_)).bind λr hr=>?_
  ·obtain ⟨d1,d2⟩:=q4 e j f hf;refine ⟨λhx=>?_,λ_=>d1,λh=>by omega⟩;rw [d1,CS,xey];exact d2 hx
  ·obtain ⟨⟨B2,hb2,h5⟩,h6,h7⟩:=hr;unfold wX;exact .some ⟨⟨B2,by omega,h5⟩,q2.trans h6,h7⟩
 ·obtain ⟨⟨B',hb',b1⟩,b2,b3⟩:=hb;refine (cyc_tot (n:=n) b1 (by omega) (by omega) p.1.aO 0 b.2 (by omega)).bind λw hw2=>?_;refine bK.iteb (λhe2=>.some λe=>absurd e (by simpa using he2)) (λhe2=>.some λ_=>?_);have he2:w.e_=0:=by simpa using he2
  have eb:b.2.e_=0:=by rw [←hw2.1 he2];exact he2
  have ea:a.2.e_=0:=by rw [←b2 eb];exact eb
  have hN:=b1.nf;obtain ⟨rk,r1,r2⟩:=ranks b1.nc (λl hl=>(b1.cl l hl).2) (λi h0 h1=>hw2.2 he2 i h0 h1);refine ⟨b.1,rk,rfl,⟨by rw [hN];exact b1.more (by omega),by rw [hN];exact a4 ea,λf hf hx=>?_,λj f hf=>(b3 eb j f hf).2.1,λf hf=>?_,λi=>Jj (r1 i) (a4 ea),r2⟩⟩
  ·obtain ⟨j,hj⟩:=xfh hf;exact (b3 eb j f hj).1 hx
  ·obtain ⟨j,hj⟩:=xfh hf;exact (b3 eb j f hj).2.2
end
