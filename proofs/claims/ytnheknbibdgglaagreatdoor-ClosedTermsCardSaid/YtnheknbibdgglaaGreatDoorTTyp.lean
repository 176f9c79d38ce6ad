import Derived.Test.YtnheknbibdgglaaGreatDoorTTot
namespace Go.Proofs.YtnheknbibdgglaaGreatDoor.Abs
open IntKind (i64 u32 u64 u8)
open Go.RowKit
set_option linter.all false
mutual
def xz:aD->Nat
 | ⟨_,_,_,_,l,_⟩=>1+pQ l
def pQ:List aD->Nat
 | []=>0
 | x::l=>xz x+pQ l
end
mutual
def tz:aA->Nat
 | ⟨_,_,_,l,b,e,_⟩=>1+pQ l+uN b+uN e
def uN:List aA->Nat
 | []=>0
 | x::l=>tz x+uN l
end
theorem BG (x:aD):xz x=1+pQ x.aL:=by cases x;rw [xz]
theorem zG (x:aA):tz x=1+pQ x.aL+uN x.bH+uN x.eN:=by cases x;rw [tz]
theorem MG (a b:List aD):pQ (a++b)=pQ a+pQ b:=by
 induction a with
 | nil=>rw [Dh,pQ,Lo]
 | cons x a ih=>rw [LV,pQ,pQ,ih,Nat.add_assoc]
theorem tzL_app (a b:List aA):uN (a++b)=uN a+uN b:=by
 induction a with
 | nil=>rw [Dh,uN,Lo]
 | cons x a ih=>rw [LV,uN,uN,ih,Nat.add_assoc]
theorem xz_pos (x:aD):1<=xz x:=by rw [BG];omega
theorem tz_pos (x:aA):1<=tz x:=by rw [zG];omega
theorem Af (l:List aD):l.length<=pQ l:=by
 induction l with
 | nil=>exact Jc _
 | cons x l ih=>have:=xz_pos x;rw [pX,pQ];omega
theorem GN (l:List aA):l.length<=uN l:=by
 induction l with
 | nil=>exact Jc _
 | cons x l ih=>have:=tz_pos x;rw [pX,uN];omega
theorem Bj {l:List aD} {x:aD} (h:x ∈ l):xz x<=pQ l:=by
 obtain ⟨a,b,rfl⟩:=List.append_of_mem h;rw [MG,pQ];omega
theorem MK {l:List aA} {x:aA} (h:x ∈ l):tz x<=uN l:=by
 obtain ⟨a,b,rfl⟩:=List.append_of_mem h;rw [tzL_app,uN];omega
def FF (n:Int):Prop:=1<=n/\n<=255 ∨ 255<n/\n<=1024/\n % 4=0
def EP (v:aJ):Prop:=1<=v.bK/\v.bK<=4/\(v.bK=4->FF v.qZ)
theorem Us {s:bW}:EP ⟨s,1,0⟩:=⟨(by decide:(1:Int)<=1),(by decide:(1:Int)<=4),λh=>absurd h (by simp)⟩
theorem Ur {s:bW} {n:Int} (h:FF n):EP ⟨s,4,n⟩:=⟨(by decide:(1:Int)<=4),(by decide:(4:Int)<=4),λ_=>h⟩
theorem varOkW {s:bW} {k:Int} (h1:1<=k) (h2:k<=3):EP ⟨s,k,0⟩:=⟨h1,(by simp only;omega),λh=>by simp only at h;omega⟩
def zR (a b:Int):Int:=if a=b/\1<=a/\a<=3 then a else if a=1/\b=2 ∨ a=2/\b=1 then 2 else 0
def Hz (t:Int):Int:=if t=1 then 2 else t
def ScT (t:Int):Prop:=t=1 ∨ t=2
def Lm (t k:Int):Prop:=t=k ∨ t=1/\k=2
def Pq (o:bW) (x y:aD) (t:Int):Prop:=
 ((o=[47] ∨ o=[37])/\x.cJ=1/\y.cJ=1/\t=1) ∨
 ((o=[60,60] ∨ o=[62,62] ∨ o=[60,60,60])/\y.cJ=1/\(x.cJ=3->y.dR=[110,117,109]/\y.N_<=63)/\t=x.cJ) ∨
 (o=[42]/\t=zR x.cJ y.cJ/\t ≠ 3/\t ≠ 0) ∨
 ((o=[61,61] ∨ o=[60])/\zR x.cJ y.cJ ≠ 0/\t=if zR x.cJ y.cJ=3 then 2 else zR x.cJ y.cJ) ∨
 ((o=[124] ∨ o=[94] ∨ o=[38] ∨ o=[43] ∨ o=[45])/\t=zR x.cJ y.cJ/\t ≠ 0)
inductive TX (vs:List aJ) (sc:List Int):aD->Prop
 | num {n a}:0<=n->n<=4294967295->TX vs sc ⟨[110,117,109],1,n,-1,[],a⟩
 | var {v u a}:v ∈ sc->aZ vs v=some u->u.bK ≠ 4->TX vs sc ⟨[118,97,114],u.bK,0,v,[],a⟩
 | index {v u i a}:v ∈ sc->aZ vs v=some u->u.bK=4->TX vs sc i->i.cJ=1->(i.dR=[110,117,109]->i64.wrap i.N_<u.qZ)->TX vs sc ⟨[105,110,100,101,120],2,0,v,[i],a⟩
 | un {o x a}:(o=[110,111,116] ∨ o=[110,101,103])->TX vs sc x->TX vs sc ⟨o,x.cJ,0,-1,[x],a⟩
 | bin {o x y t a}:TX vs sc x->TX vs sc y->Pq o x y t->TX vs sc ⟨o,t,0,-1,[x,y],a⟩
 | sel {c x y a}:TX vs sc c->TX vs sc x->TX vs sc y->ScT c.cJ->zR x.cJ y.cJ ≠ 0->TX vs sc ⟨[115,101,108,101,99,116],Hz (zR x.cJ y.cJ),0,-1,[c,x,y],a⟩
 | long {x a}:TX vs sc x->ScT x.cJ->TX vs sc ⟨[108,111,110,103],3,0,-1,[x],a⟩
 | wide {x y a}:TX vs sc x->TX vs sc y->ScT x.cJ->ScT y.cJ->TX vs sc ⟨[119,105,100,101],3,0,-1,[x,y],a⟩
 | half {o x a}:(o=[108,111] ∨ o=[104,105])->TX vs sc x->x.cJ=3->TX vs sc ⟨o,2,0,-1,[x],a⟩
inductive HM (vs:List aJ) (sc:List Int) (p:aJ):aD->Prop
 | arr {v u a}:p.bK=4->v ∈ sc->aZ vs v=some u->u.bK=4->u.qZ=p.qZ->HM vs sc p ⟨[118,97,114],4,0,v,[],a⟩
 | pub {x}:p.bK=1->TX vs sc x->x.cJ=1->HM vs sc p x
 | val {x}:p.bK ≠ 1->p.bK ≠ 4->TX vs sc x->Lm x.cJ p.bK->HM vs sc p x
def Bi (vs:List aJ) (sc:List Int) (ps:List aJ) (l:List aD):Prop:=l.length=ps.length/\∀(i:Nat) p x,ps[i]? = some p->l[i]? = some x->HM vs sc p x
abbrev QS:=Int->Int->List aJ->Prop
inductive TB (sg:QS) (vs:List aJ) (res:Int):Bool->Nat->List Int->List aA->Nat->List Int->Prop
 | nil {l n sc}:TB sg vs res l n sc [] n sc
 | let_ {l n sc x u a ss n' sc'}:TX vs sc x->x.cJ=1->vs[n]? = some u->u.bK=1->TB sg vs res l (n+1) (sc++[(n:Int)]) ss n' sc'->TB sg vs res l n sc (⟨[108,101,116],n,0,[x],[],[],a⟩::ss) n' sc'
 | var_ {l n sc x u a ss n' sc'}:TX vs sc x->vs[n]? = some u->u.bK=Hz x.cJ->TB sg vs res l (n+1) (sc++[(n:Int)]) ss n' sc'->TB sg vs res l n sc (⟨[118,97,114],n,0,[x],[],[],a⟩::ss) n' sc'
 | arr {l n sc u a ss n' sc'}:vs[n]? = some u->u.bK=4->TB sg vs res l (n+1) (sc++[(n:Int)]) ss n' sc'->TB sg vs res l n sc (⟨[97,114,114],n,0,[],[],[],a⟩::ss) n' sc'
 | callv {l n sc f r ps xs u a ss n' sc'}:sg f r ps->Bi vs sc ps xs->r ≠ 0->vs[n]? = some u->u.bK=r->TB sg vs res l (n+1) (sc++[(n:Int)]) ss n' sc'->TB sg vs res l n sc (⟨[99,97,108,108],n,f,xs,[],[],a⟩::ss) n' sc'
 | set {l n sc v u x a ss n' sc'}:v ∈ sc->aZ vs v=some u->(u.bK=2 ∨ u.bK=3)->TX vs sc x->Lm x.cJ u.bK->TB sg vs res l n sc ss n' sc'->TB sg vs res l n sc (⟨[115,101,116],v,0,[x],[],[],a⟩::ss) n' sc'
 | calls {l n sc v u f r ps xs a ss n' sc'}:v ∈ sc->aZ vs v=some u->(u.bK=2 ∨ u.bK=3)->sg f r ps->Bi vs sc ps xs->r=u.bK->TB sg vs res l n sc ss n' sc'->TB sg vs res l n sc (⟨[99,97,108,108],v,f,xs,[],[],a⟩::ss) n' sc'
 | put {l n sc v u i x a ss n' sc'}:v ∈ sc->aZ vs v=some u->u.bK=4->TX vs sc i->i.cJ=1->(i.dR=[110,117,109]->i64.wrap i.N_<u.qZ)->TX vs sc x->Lm x.cJ 2->TB sg vs res l n sc ss n' sc'->TB sg vs res l n sc (⟨[112,117,116],v,0,[i,x],[],[],a⟩::ss) n' sc'
 | do_ {l n sc f r ps xs a ss n' sc'}:sg f r ps->Bi vs sc ps xs->TB sg vs res l n sc ss n' sc'->TB sg vs res l n sc (⟨[99,97,108,108],-1,f,xs,[],[],a⟩::ss) n' sc'
 | Jp {l n sc c b e a n1 sc1 n2 sc2 ss n' sc'}:TX vs sc c->c.cJ=1->TB sg vs res false n sc b n1 sc1->TB sg vs res false n1 sc e n2 sc2->TB sg vs res l n2 sc ss n' sc'->TB sg vs res l n sc (⟨[105,102],-1,0,[c],b,e,a⟩::ss) n' sc'
 | AZ {l n sc x y u b a n1 sc1 ss n' sc'}:TX vs sc x->x.cJ=1->TX vs sc y->y.cJ=1->vs[n]? = some u->u.bK=1->TB sg vs res false (n+1) (sc++[(n:Int)]) b n1 sc1->TB sg vs res l n1 sc ss n' sc'->TB sg vs res l n sc (⟨[102,111,114],n,0,[x,y],b,[],a⟩::ss) n' sc'
 | ret {n sc x a}:TX vs sc x->res ≠ 0->Lm x.cJ res->TB sg vs res true n sc [⟨[114,101,116,117,114,110],-1,0,[x],[],[],a⟩] n sc
 | retc {n sc f ps xs a}:sg f res ps->res ≠ 0->Bi vs sc ps xs->TB sg vs res true n sc [⟨[99,97,108,108],-2,f,xs,[],[],a⟩] n sc
section
variable {vs vs':List aJ} {sc sc':List Int}
theorem kT {α:Type} {l l':List α} (h:l <+: l') {i:Int} {x:α} (e:aZ l i=some x):aZ l' i=some x:=by
 obtain ⟨r,rfl⟩:=h;unfold aZ at e ⊢
 split at e
 ·rename_i h0;rw [if_pos h0,MI (vJ.1 e).1];exact e
 ·cases e
theorem FA {α:Type} {l l':List α} (h:l <+: l') {i:Nat} {x:α} (e:l[i]? = some x):l'[i]? = some x:=by
 obtain ⟨r,rfl⟩:=h;rw [MI (vJ.1 e).1];exact e
theorem TX.mono (hv:vs <+: vs') (hs:∀v ∈ sc,v ∈ sc') {x:aD} (h:TX vs sc x):TX vs' sc' x:=by
 induction h with
 | num h1 h2=>exact .num h1 h2
 | var h1 h2 h3=>exact .var (hs _ h1) (kT hv h2) h3
 | index h1 h2 h3 _ h5 h6 ih=>exact .index (hs _ h1) (kT hv h2) h3 ih h5 h6
 | un h1 _ ih=>exact .un h1 ih
 | bin _ _ h ih1 ih2=>exact .bin ih1 ih2 h
 | sel _ _ _ h1 h2 ih1 ih2 ih3=>exact .sel ih1 ih2 ih3 h1 h2
 | long _ h ih=>exact .long ih h
 | wide _ _ h1 h2 ih1 ih2=>exact .wide ih1 ih2 h1 h2
 | half h1 _ h2 ih=>exact .half h1 ih h2
theorem HM.mono (hv:vs <+: vs') (hs:∀v ∈ sc,v ∈ sc') {p:aJ} {x:aD} (h:HM vs sc p x):HM vs' sc' p x:=by
 cases h with
 | arr h1 h2 h3 h4 h5=>exact .arr h1 (hs _ h2) (kT hv h3) h4 h5
 | pub h1 h2 h3=>exact .pub h1 (h2.mono hv hs) h3
 | val h1 h2 h3 h4=>exact .val h1 h2 (h3.mono hv hs) h4
theorem Bi.mono (hv:vs <+: vs') (hs:∀v ∈ sc,v ∈ sc') {ps:List aJ} {l:List aD} (h:Bi vs sc ps l):Bi vs' sc' ps l:=⟨h.1,λi p x h1 h2=>(h.2 i p x h1 h2).mono hv hs⟩
theorem Jn (a b:Int):zR a b=0 ∨ 1<=zR a b/\zR a b<=3:=by
 unfold zR
 repeat' split <;> omega
theorem TX.range (hv:∀v ∈ vs,EP v) {x:aD} (h:TX vs sc x):1<=x.cJ/\x.cJ<=3:=by
 induction h with
 | num=>exact ⟨by simp only;decide,by simp only;decide⟩
 | @var v u a h1 h2 h3=>
   have hm:u ∈ vs:=by
    unfold aZ at h2
    split at h2
    ·exact FK h2
    ·cases h2
   have:=hv u hm;exact ⟨this.1,by have:=this.2.1;simp only;omega⟩
 | index _ _ _ _ _ _ _=>exact ⟨by simp only;decide,by simp only;decide⟩
 | un _ _ ih=>exact ih
 | @bin o x y t a _ _ hb ih1 ih2=>
   have:=Jn x.cJ y.cJ;simp only
   rcases hb with ⟨_,_,_,h⟩ | ⟨_,_,_,h⟩ | ⟨_,h,_,h0⟩ | ⟨_,h0,h⟩ | ⟨_,h,h0⟩
   ·omega
   ·omega
   ·omega
   ·split at h <;> omega
   ·omega
 | @sel c x y a _ _ _ _ h _ _ _=>
   have:=Jn x.cJ y.cJ;simp only;unfold Hz
   split <;> omega
 | long _ _ _=>exact ⟨by simp only;decide,by simp only;decide⟩
 | wide _ _ _ _ _ _=>exact ⟨by simp only;decide,by simp only;decide⟩
 | half _ _ _ _=>exact ⟨by simp only;decide,by simp only;decide⟩
variable {sg sg':QS} {res:Int} {l:Bool} {n n':Nat} {ss:List aA}
theorem TB.mono (hg:∀k r ps,sg k r ps->sg' k r ps) (hv:vs <+: vs') (h:TB sg vs res l n sc ss n' sc'):TB sg' vs' res l n sc ss n' sc':=by
 have hs:∀ {sc:List Int} v,v ∈ sc->v ∈ sc:=λ_ h=>h
 induction h with
 | nil=>exact .nil
 | let_ h1 h2 h3 h4 _ ih=>exact .let_ (h1.mono hv hs) h2 (FA hv h3) h4 ih
 | var_ h1 h3 h4 _ ih=>exact .var_ (h1.mono hv hs) (FA hv h3) h4 ih
 | arr h3 h4 _ ih=>exact .arr (FA hv h3) h4 ih
 | callv h1 h2 h3 h4 h5 _ ih=>exact .callv (hg _ _ _ h1) (h2.mono hv hs) h3 (FA hv h4) h5 ih
 | set h1 h2 h3 h4 h5 _ ih=>exact .set h1 (kT hv h2) h3 (h4.mono hv hs) h5 ih
 | calls h1 h2 h3 h4 h5 h6 _ ih=>exact .calls h1 (kT hv h2) h3 (hg _ _ _ h4) (h5.mono hv hs) h6 ih
 | put h1 h2 h3 h4 h5 h6 h7 h8 _ ih=>exact .put h1 (kT hv h2) h3 (h4.mono hv hs) h5 h6 (h7.mono hv hs) h8 ih
 | do_ h1 h2 _ ih=>exact .do_ (hg _ _ _ h1) (h2.mono hv hs) ih
 | Jp h1 h2 _ _ _ ih1 ih2 ih3=>exact .Jp (h1.mono hv hs) h2 ih1 ih2 ih3
 | AZ h1 h2 h3 h4 h5 h6 _ _ ih1 ih2=>exact .AZ (h1.mono hv hs) h2 (h3.mono hv hs) h4 (FA hv h5) h6 ih1 ih2
 | ret h1 h2 h3=>exact .ret (h1.mono hv hs) h2 h3
 | retc h1 h2 h3=>exact .retc (hg _ _ _ h1) h2 (h3.mono hv hs)
theorem TB.app {n1:Nat} {sc1:List Int} {xs ys:List aA} {l0:Bool} (h:TB sg vs res l0 n sc xs n1 sc1) (h0:l0=false) (k:TB sg vs res l n1 sc1 ys n' sc'):TB sg vs res l n sc (xs++ys) n' sc':=by
 induction h with
 | nil=>exact k
 | let_ h1 h2 h3 h4 _ ih=>exact .let_ h1 h2 h3 h4 (ih h0 k)
 | var_ h1 h3 h4 _ ih=>exact .var_ h1 h3 h4 (ih h0 k)
 | arr h3 h4 _ ih=>exact .arr h3 h4 (ih h0 k)
 | callv h1 h2 h3 h4 h5 _ ih=>exact .callv h1 h2 h3 h4 h5 (ih h0 k)
 | set h1 h2 h3 h4 h5 _ ih=>exact .set h1 h2 h3 h4 h5 (ih h0 k)
 | calls h1 h2 h3 h4 h5 h6 _ ih=>exact .calls h1 h2 h3 h4 h5 h6 (ih h0 k)
 | put h1 h2 h3 h4 h5 h6 h7 h8 _ ih=>exact .put h1 h2 h3 h4 h5 h6 h7 h8 (ih h0 k)
 | do_ h1 h2 _ ih=>exact .do_ h1 h2 (ih h0 k)
 | Jp h1 h2 h3 h4 _ _ _ ih3=>exact .Jp h1 h2 h3 h4 (ih3 h0 k)
 | AZ h1 h2 h3 h4 h5 h6 h7 _ _ ih2=>exact .AZ h1 h2 h3 h4 h5 h6 h7 (ih2 h0 k)
 | ret h1 h2 h3=>cases h0
 | retc h1 h2 h3=>cases h0
end
def NI (w:aG) (b:Bool) (k a:Int):aG:=if b=true then w else if (w.e_ == (0:Int))=true then ⟨k,a⟩ else w
theorem pP {c:aE} {w:aG} {b:Bool} {k a:Int}:aS c w b k a=some (NI w b k a):=by
 unfold aS qC NI;cases b
 ·simp only [Bool.not_false,if_true,FZ,if_false]
  split <;> rfl
 ·simp
theorem fV {w:aG} {b:Bool} {k a:Int} (hk:k ≠ 0) (h:(NI w b k a).e_=0):w.e_=0/\b=true/\NI w b k a=w:=by
 unfold NI at h ⊢;cases b
 ·simp only [FZ,if_false] at h ⊢
  split at h
  ·exact absurd h hk
  ·rename_i h2;simp at h2;exact absurd h h2
 ·exact ⟨by simpa using h,rfl,by simp⟩
theorem Vv {w:aG} {b:Bool} {k a:Int} (hk:k ≠ 0) (h:w.e_ ≠ 0):(NI w b k a).e_ ≠ 0:=λh2=>h (fV hk h2).1
def uT (c:aE):List aJ:=((c.p_.aV[c.f_.toNat]?).map aQ.aR).getD []
structure CI (N B:Nat) (c:aE):Prop where
 nf:c.p_.aV.length=N
 nN:N<=16384
 f0:0<=c.f_
 f1:c.f_<N
 a0:0<=c.gC
 a1:c.gC<N
 sc:∀v ∈ c.bB,0<=v/\v<(uT c).length
 sl:c.bB.length<=(uT c).length
 vl:∀f ∈ c.p_.aV,f.aR.length<=250/\0<=f.aT/\f.aT<=f.aR.length
 nc:c.bX.length=N
 cl:∀l ∈ c.bX,l.length<=B/\∀k ∈ l,0<=k/\k<N
 ki:∀f ∈ c.p_.aV,(∀v ∈ f.aR,EP v)/\(f.bN=0 ∨ f.bN=2 ∨ f.bN=3)
section
variable {N B n:Nat} {c:aE} {w:aG} {s:bW}
theorem CI.cur (h:CI N B c):∃f,c.p_.aV[c.f_.toNat]? = some f/\f ∈ c.p_.aV/\uT c=f.aR/\aZ c.p_.aV c.f_=some f:=by
 have hl:c.f_.toNat<c.p_.aV.length:=by have:=h.nf;have:=h.f0;have:=h.f1;omega
 refine ⟨c.p_.aV[c.f_.toNat],wB hl,LU _,?_,?_⟩
 ·unfold uT;rw [wB hl];rfl
 ·unfold aZ;rw [if_pos h.f0,wB hl]
theorem CI.vs (h:CI N B c):(uT c).length<=250:=by
 obtain ⟨f,_,hm,e,_⟩:=h.cur;rw [e];exact (h.vl f hm).1
theorem oZ {α:Type} {l:List α} {i:Int} (h0:0<=i) (h1:i<l.length):∃x,aZ l i=some x/\l[i.toNat]? = some x/\x ∈ l:=by
 have hl:i.toNat<l.length:=by omega
 exact ⟨l[i.toNat],by unfold aZ;rw [if_pos h0,wB hl],wB hl,LU _⟩
theorem find_l1 (h:CI N B c):∀(k:Nat) (v:Int),v<k->-1<=v->v<c.bB.length->∃r,kY c s (k+1) v=some r/\(r=.inl () ∨ ∃i x,r=.inr i/\i ∈ c.bB/\(uT c)[i.toNat]? = some x/\x.gP=s):=by
 obtain ⟨f,hf,hm,hv,hfi⟩:=h.cur;intro k
 induction k with
 | zero=>
   intro v h1 h2 h3;have:v=-1:=by omega
   subst this;exact ⟨_,rfl,.inl rfl⟩
 | succ k ih=>
   intro v h1 h2 h3;unfold kY
   by_cases h0:0<=v
   ·rw [if_pos (tA h0),hfi];obtain ⟨i,e1,_,hi⟩:=oZ h0 h3;obtain ⟨g0,g1⟩:=h.sc i hi;rw [hv] at g1;obtain ⟨x,e2,e3,_⟩:=oZ g0 g1;simp only [dV,e1,e2]
    by_cases hn:x.gP=s
    ·rw [if_pos (tA hn)];exact ⟨_,rfl,.inr ⟨i,x,rfl,hi,by rw [hv];exact e3,hn⟩⟩
    ·rw [if_neg (by simpa using hn)];have hl:c.bB.length<=250:=JR h.sl h.vs;rw [cG (by omega) (by omega)];exact ih (v - 1) (by omega) (by omega) (by omega)
   ·rw [if_neg (by simpa using h0)];exact ⟨_,rfl,.inl rfl⟩
theorem OW (h:CI N B c) (hn:300<n):bD (lM n c w s) λr=>r=-1 ∨ ∃x,r ∈ c.bB/\(uT c)[r.toNat]? = some x/\x.gP=s:=by
 have hl:c.bB.length<=250:=JR h.sl h.vs;unfold lM;obtain ⟨m,rfl⟩:∃m,n=m+1:=⟨n - 1,by omega⟩;rw [cG (by omega) (by omega)];obtain ⟨r,e,hr⟩:=find_l1 (s:=s) h m ((c.bB.length:Int) - 1) (by omega) (by omega) (by omega);rw [e]
 rcases hr with rfl | ⟨i,x,rfl,h1,h2,h3⟩
 ·exact ⟨_,rfl,.inl rfl⟩
 ·exact ⟨_,rfl,.inr ⟨x,h1,h2,h3⟩⟩
theorem EL (h:CI N B c) (hn:300<n) {x:Nd}:bD (gZ n c w x) λr=>(r.1=-1 ∨ 0<=r.1/\r.1<(uT c).length)/\(w.e_ ≠ 0->r.2.e_ ≠ 0)/\(r.2.e_=0->r.2=w/\∃v,r.1 ∈ c.bB/\0<=r.1/\(uT c)[r.1.toNat]? = some v/\v.gP=x.cZ):=by
 unfold gZ;refine (OW (w:=w) (s:=x.cZ) h hn).bind λv hv=>?_;rw [pP];refine .some ⟨?_,Vv (by decide),λhe=>?_⟩
 ·rcases hv with rfl | ⟨y,h1,_,_⟩
  ·exact .inl rfl
  ·exact .inr (h.sc _ h1)
 ·obtain ⟨_,k2,k3⟩:=fV (by decide) he;have hv0:0<=v:=By k2
  rcases hv with rfl | ⟨y,h1,h2,h3⟩
  ·exact absurd hv0 (by decide)
  ·exact ⟨k3,y,h1,hv0,h2,h3⟩
theorem Cd (h:CI N B c) {v:Int} (hv:v=-1 ∨ 0<=v/\v<(uT c).length):bD (fF c w v) λk=>v=-1/\k=0 ∨ 0<=v/\∃x,(uT c)[v.toNat]? = some x/\k=x.bK:=by
 unfold fF
 rcases hv with rfl | ⟨h0,h1⟩
 ·exact .some (.inl ⟨rfl,rfl⟩)
 ·rw [if_neg (by simp;omega)];obtain ⟨f,_,_,hvs,hfi⟩:=h.cur;rw [hfi];rw [hvs] at h1 ⊢;obtain ⟨x,e1,e2,_⟩:=oZ h0 h1;simp only [dV,e1];exact .some (.inr ⟨h0,x,e2,rfl⟩)
def Sw (f:aQ):aQ:={ f with aR:=[],bH:=[] }
structure Kp (c c':aE):Prop where
 f:c'.f_=c.f_
 a:c'.gC=c.gC
 s:c.bB <+: c'.bB
 v:uT c <+: uT c'
 o:∀i,i ≠ c.f_.toNat->c'.p_.aV[i]? = c.p_.aV[i]?
 g:c'.p_.aV.map Sw=c.p_.aV.map Sw
 k:∀j:Nat,j ≠ c.gC.toNat->c'.bX[j]? = c.bX[j]?
 l:∀l,aZ c.bX c.gC=some l->∃l',aZ c'.bX c.gC=some l'/\l <+: l'
theorem Kp.refl (c:aE):Kp c c:=⟨rfl,rfl,Sb _,Sb _,λ_ _=>rfl,rfl,λ_ _=>rfl,λl e=>⟨l,e,Sb _⟩⟩
theorem Kp.trans {c1 c2 c3:aE} (h:Kp c1 c2) (k:Kp c2 c3):Kp c1 c3:=⟨k.f.trans h.f,k.a.trans h.a,h.s.trans k.s,h.v.trans k.v,λi hi=>(k.o i (by rw [h.f];exact hi)).trans (h.o i hi),k.g.trans h.g,λj hj=>(k.k j (by rw [h.a];exact hj)).trans (h.k j hj),λl e=>by
 obtain ⟨l1,e1,p1⟩:=h.l l e;obtain ⟨l2,e2,p2⟩:=k.l l1 (by rw [h.a];exact e1);exact ⟨l2,by rw [←h.a];exact e2,p1.trans p2⟩⟩
theorem uZ (h:CI N B c) (hn:300<n) {x:aJ} {a:Int} (hx:w.e_=0->EP x):bD (eM n c w x a) λr=>CI N B r.2.1/\Kp c r.2.1/\r.2.1.bX=c.bX/\(w.e_ ≠ 0->r.2.2.e_ ≠ 0)/\(r.2.2.e_=0->r.2.2=w/\r.1=(uT c).length/\uT r.2.1=uT c++[x]/\r.2.1.bB=c.bB++[((uT c).length:Int)])/\(r.1=-1 ∨ 0<=r.1/\r.1<(uT r.2.1).length):=by
 unfold eM;refine (OW (w:=w) (s:=x.gP) h hn).bind λv hv=>?_;obtain ⟨f,hf,hm,hvs,hfi⟩:=h.cur;rw [pP,hfi];simp only [dV,pP];refine bD.iteb (λhe=>?_) λhe=>?_
 ·simp only [bne_iff_ne] at he;exact .some ⟨h,.refl c,rfl,λ_=>he,λh2=>absurd h2 he,.inl rfl⟩
 ·simp only [bne_eq_false_iff_eq] at he;obtain ⟨k1,k2,k3⟩:=fV (by decide) he;obtain ⟨j1,j2,j3⟩:=fV (by decide) k1;have hlt:(f.aR.length:Int)<250:=By k2;have hsl:=h.sl;rw [hvs] at hsl;refine bD.need (by omega) (bD.need (by omega) ?_);have hl:c.f_.toNat<c.p_.aV.length:=by have:=h.nf;have:=h.f0;have:=h.f1;omega
  have hv2:uT { c with p_:=⟨c.p_.aV.set c.f_.toNat { f with aR:=f.aR++[x] }⟩,bB:=c.bB++[(f.aR.length:Int)] }=f.aR++[x]:=by
   unfold uT;simp only;rw [PL hl];rfl
  refine .some ⟨⟨by simp only [vK];exact h.nf,h.nN,h.f0,h.f1,h.a0,h.a1,?_,?_,?_,h.nc,h.cl,?_⟩,⟨rfl,rfl,MH _ _,?_,λi hi=>?_,?_,λ_ _=>rfl,λl e=>⟨l,e,Sb _⟩⟩,rfl,λhw=>absurd j1 hw,λ_=>⟨by rw [k3,j3],by rw [hvs],by rw [hv2,hvs],by rw [hvs]⟩,.inr ⟨by omega,?_⟩⟩
  ·intro u hu;rw [hv2]
   rcases Cu.1 hu with hu | hu
   ·have:=h.sc u hu;rw [hvs] at this;simp only [mX,sW];omega
   ·obtain rfl:=AV.1 hu;simp only [mX,sW];omega
  ·rw [hv2];simp only [mX,sW];omega
  ·intro g hg
   rcases Uj hg with hg | rfl
   ·exact h.vl g hg
   ·have:=h.vl f hm;simp only [mX,sW];omega
  ·intro g hg
   rcases Uj hg with hg | rfl
   ·exact h.ki g hg
   ·refine ⟨λv hv=>?_,(h.ki f hm).2⟩
    rcases Cu.1 hv with hv | hv
    ·exact (h.ki f hm).1 v hv
    ·obtain rfl:=AV.1 hv;exact hx j1
  ·rw [hv2,hvs];exact MH _ _
  ·exact Pz (Ne.symm hi)
  ·show List.map Sw (c.p_.aV.set c.f_.toNat _)=_;rw [List.map_set];refine Sg λi=>?_
   by_cases e:c.f_.toNat=i
   ·subst e;rw [PL (by rw [Hh];exact hl),HS,hf];rfl
   ·rw [Pz e]
  ·rw [hv2];simp only [mX,sW];omega
def sgC (c:aE):QS:=λk r ps=>(∃l,aZ c.bX c.gC=some l/\k ∈ l)/\∃f,aZ c.p_.aV k=some f/\r=f.bN/\ps=f.aR.take f.aT.toNat
theorem Kp.fn {c':aE} (h:CI N B c) (k:Kp c c') {i:Int} {f:aQ} (e:aZ c.p_.aV i=some f):∃f',aZ c'.p_.aV i=some f'/\f'.gP=f.gP/\f'.dU=f.dU/\f'.bN=f.bN/\f'.aT=f.aT/\f.aR <+: f'.aR/\(i ≠ c.f_->f'=f):=by
 unfold aZ at e ⊢
 split at e
 ·rename_i h0;rw [if_pos h0]
  by_cases hi:i=c.f_
  ·subst hi;obtain ⟨f2,e2,hm2,hv2,_⟩:=h.cur;rw [e] at e2;cases e2
   have hlen:c.p_.aV.length=c'.p_.aV.length:=by simpa using (congrArg List.length k.g).symm
   have hlt:=(vJ.1 e).1;have e3:c'.p_.aV[c.f_.toNat]? = some (c'.p_.aV[c.f_.toNat]'(by omega)):=wB _
   have hs:Sw (c'.p_.aV[c.f_.toNat]'(by omega))=Sw f:=by
    have:=congrArg (λl=>l[c.f_.toNat]?) k.g;simp only [HS,e3,e,NG,Option.some.injEq] at this;exact this
   have hv:uT c'=(c'.p_.aV[c.f_.toNat]'(by omega)).aR:=by
    unfold uT;rw [k.f,e3];rfl
   have hp:=k.v;rw [hv2,hv] at hp;simp only [Sw,aQ.mk.injEq] at hs;exact ⟨_,e3,hs.1,hs.2.1,hs.2.2.1,hs.2.2.2.1,hp,λh=>absurd rfl h⟩
  ·refine ⟨f,?_,rfl,rfl,rfl,rfl,Sb _,λ_=>rfl⟩;rw [k.o _ (by have:=h.f0;omega)];exact e
 ·cases e
def MX (c:aE):Int:=((c.p_.aV[c.f_.toNat]?).map aQ.bN).getD 0
theorem CI.res (h:CI N B c) {f:aQ} (e:aZ c.p_.aV c.f_=some f):MX c=f.bN:=by
 unfold aZ at e;rw [if_pos h.f0] at e;unfold MX;rw [e];rfl
theorem Kp.res {c':aE} (h:CI N B c) (k:Kp c c'):MX c'=MX c:=by
 obtain ⟨f,_,_,_,e⟩:=h.cur;obtain ⟨f',e',_,_,hr,_⟩:=k.fn h e;rw [h.res e,←hr];unfold aZ at e';rw [if_pos h.f0] at e';unfold MX;rw [k.f,e'];rfl
theorem CI.vsOk (h:CI N B c):∀v ∈ uT c,EP v:=by
 obtain ⟨f,_,hm,e,_⟩:=h.cur;rw [e];exact (h.ki f hm).1
theorem Kt {α:Type} {l l':List α} (h:l <+: l') {n:Nat} (hn:n<=l.length):l'.take n=l.take n:=by
 obtain ⟨r,rfl⟩:=h;exact List.take_append_of_le_length hn
theorem Kp.sg {c':aE} (h:CI N B c) (k:Kp c c') {i r:Int} {ps:List aJ} (e:sgC c i r ps):sgC c' i r ps:=by
 obtain ⟨⟨l,e1,hl⟩,f,e2,rfl,rfl⟩:=e;obtain ⟨l',e3,hp⟩:=k.l l e1;obtain ⟨f',e4,_,_,hr,hps,hv,_⟩:=k.fn h e2
 have hm:f ∈ c.p_.aV:=by
  unfold aZ at e2
  split at e2
  ·exact FK e2
  ·cases e2
 have:=h.vl f hm;refine ⟨⟨l',by rw [k.a];exact e3,hp.subset hl⟩,f',e4,hr.symm,?_⟩;rw [hps,Kt hv (by omega)]
end
def Ua (c:aE) (w:aG) (x:aB) (r:aD × aG):Prop:=r.2.e_=0->r.2=w/\TX (uT c) c.bB r.1/\(xz r.1:Int)<=sz x
def WK (w w':aG):Prop:=w'.e_=0->w'=w
theorem WK.refl (w:aG):WK w w:=λ_=>rfl
theorem WK.trans {a b c:aG} (h:WK a b) (k:WK b c):WK a c:=λe=>by
 have h2:=k e;subst h2;exact h e
theorem WK.nd {w:aG} {b:Bool} {k a:Int} (hk:k ≠ 0:=by decide):WK w (NI w b k a):=λe=>(fV hk e).2.2
theorem KR {a b:Int}:bD (tY a b) λr=>r=zR a b:=by
 unfold tY zR;simp only [beq_iff_eq,sX]
 repeat' split
 all_goals first | exact .some (by omega) | (simp only [dV,sX,beq_iff_eq,FZ,if_false,if_true];repeat' split) 
 all_goals first | exact .some (by omega) | (exfalso;omega)
theorem Fc {a:Int}:bD (rK a) λr=>r=true->ScT a:=by
 unfold rK;refine bD.bind (P:=λr=>r=true->ScT a) (bD.iteb (λh=>.some λ_=>.inl (by simpa using h)) λ_=>.some λh=>.inr (by simpa using h)) λb h=>.some h
theorem Kx {a:Int}:bD (tW a) λr=>r=Hz a:=by
 unfold tW Hz;simp only [beq_iff_eq]
 split <;> exact .some rfl
theorem Im {a b:Int}:bD (tZ a b) λr=>r=true->Lm a b:=by
 unfold tZ;refine bD.bind (P:=λr=>r=true->Lm a b) (bD.iteb (λh=>.some λ_=>.inl (by simpa using h)) λ_=>bD.iteb (λh=>.some λh2=>.inr ⟨by simpa using h,by simpa using h2⟩) λ_=>.some λh=>nomatch h) λb h=>.some h
theorem Mi {a:Int}:bD (xH a) λr=>r=true->FF a:=by
 unfold xH FF;refine bD.bind (P:=λr=>r=true->FF a) ?_ λb h=>.some h;unfold FF;simp only [sX]
 have ht:∀ {b:Bool},255<a->a<=1024->b=(a.tmod 4 == 0)->bD (some b) λr=>r=true->(1<=a/\a<=255 ∨ 255<a/\a<=1024/\a % 4=0):=λh1 h2 h3=>.some λh=>.inr ⟨h1,h2,by
  rw [h3,beq_iff_eq,xeb (by omega)] at h;exact h⟩
 repeat' split
 all_goals first | exact .some λh=>Bool.noConfusion h | exact .some λ_=>.inl ⟨‹_›,‹_›⟩ | exact ht (by omega) (by omega) rfl
section
variable {N B n:Nat} {c:aE} {w:aG}
theorem wO {x:aD} {k:Int}:bD (cE c w x k) λr=>WK w r.2/\r.1={ x with cJ:=k }/\(r.2.e_=0->k ≠ 0):=by
 unfold cE;rw [pP];refine .some ⟨.nd,rfl,λe=>?_⟩;have:=(fV (by decide) e).2.1;simpa using this
theorem SA {x y z:aD}:bD (iJ c w x y z) λr=>WK w r.2/\r.1={ x with cJ:=y.cJ }/\(r.2.e_=0->z.cJ=1/\(y.cJ=3->z.dR=[110,117,109]/\z.N_<=63)/\y.cJ ≠ 0):=by
 unfold iJ;rw [pP];simp only [dV];refine bD.iteb (λh3=>?_) (λh3=>?_)
 ·refine bD.bind (P:=λw'=>WK w w'/\(w'.e_=0->z.cJ=1/\z.dR=[110,117,109]/\z.N_<=63)) ?_ λw' hw=>?_
  ·refine bD.iteb (λho=>?_) (λ_=>?_)
   ·rw [pP];refine .some ⟨(WK.nd).trans WK.nd,λe=>?_⟩;obtain ⟨k1,k2,_⟩:=fV (by decide) e;obtain ⟨_,j2,_⟩:=fV (by decide) k1;exact ⟨by simpa using j2,by simpa using ho,by simpa using k2⟩
   ·rw [pP];exact .some ⟨(WK.nd).trans WK.nd,λe=>by have:=(fV (by decide) e).2.1;cases this⟩
  ·refine (wO (c:=c)).bind λr hr=>.some ⟨hw.1.trans hr.1,hr.2.1,λe=>?_⟩;obtain ⟨q1,q2⟩:=hw.2 (by rw [←hr.1 e];exact e);exact ⟨q1,λ_=>q2,hr.2.2 e⟩
 ·refine (wO (c:=c)).bind λr hr=>.some ⟨(WK.nd).trans hr.1,hr.2.1,λe=>?_⟩;obtain ⟨_,j2,_⟩:=fV (k:=133) (by decide) (by rw [←hr.1 e];exact e);exact ⟨by simpa using j2,λh=>absurd h (by simpa using h3),hr.2.2 e⟩
theorem QI {x:aD} {x0 x1 x2:aD} (h:x.aL=[x0,x1,x2]):bD (lV c w x) λk=>k ≠ 0->ScT x0.cJ/\zR x1.cJ x2.cJ ≠ 0/\k=Hz (zR x1.cJ x2.cJ):=by
 unfold lV;rw [h];refine bD.eqn (v:=x1) rfl (bD.eqn (v:=x2) rfl (KR.bind λk hk=>?_));refine bD.bind (P:=λb=>b=false->ScT x0.cJ/\k ≠ 0) ?_ λb hb=>?_
 ·refine bD.eqn (v:=x0) rfl (Fc.bind λb hb=>bD.iteb (λ_=>.some λh=>nomatch h) λh=>.some λh2=>⟨hb (by simpa using h),by simpa using h2⟩)
 ·refine bD.iteb (λ_=>.some λh=>absurd rfl h) (λh=>?_);exact Kx.bind λr hr=>.some λ_=>⟨(hb h).1,hk ▸ (hb h).2,hk ▸ hr⟩
theorem EN {s:bW} {k:Nat} {i:Int} {x:bC} (h:i<5) (e:aZ cK i=some x):wA s (k+1) i=if x.Ru=s then some (.inr x.RR) else wA s k (i64.wrap (i+1)):=by
 rw [wA,if_pos (tA h),e];simp only [dV,sX]
theorem IX {s:bW} (hn:6<n):bD (vB n s) λv=>0<=v/\v<=3/\(s=[115,101,108,101,99,116]->v=3)/\(s=[119,105,100,101]->v=2)/\(0<v->s=[115,101,108,101,99,116] ∨ s=[108,111,110,103]/\v=1 ∨ s=[108,111]/\v=1 ∨ s=[104,105]/\v=1 ∨ s=[119,105,100,101]):=by
 obtain ⟨m,rfl⟩:∃m,n=m+6:=⟨n - 6,by omega⟩;unfold vB;rw [EN (i:=0) (x:=bC.mk [115,101,108,101,99,116] 3) (by decide) rfl]
 split
 ·rename_i h;subst h;exact .some ⟨by decide,by decide,λ_=>rfl,λh=>absurd h (by decide),λ_=>.inl rfl⟩
 rename_i h0;rw [show i64.wrap (0+1)=1 from by decide,EN (i:=1) (x:=bC.mk [108,111,110,103] 1) (by decide) rfl]
 split
 ·rename_i h;subst h;exact .some ⟨by decide,by decide,λh=>absurd h (by decide),λh=>absurd h (by decide),λ_=>.inr (.inl ⟨rfl,rfl⟩)⟩
 rw [show i64.wrap (1+1)=2 from by decide,EN (i:=2) (x:=bC.mk [108,111] 1) (by decide) rfl]
 split
 ·rename_i h;subst h;exact .some ⟨by decide,by decide,λh=>absurd h (by decide),λh=>absurd h (by decide),λ_=>.inr (.inr (.inl ⟨rfl,rfl⟩))⟩
 rw [show i64.wrap (2+1)=3 from by decide,EN (i:=3) (x:=bC.mk [104,105] 1) (by decide) rfl]
 split
 ·rename_i h;subst h;exact .some ⟨by decide,by decide,λh=>absurd h (by decide),λh=>absurd h (by decide),λ_=>.inr (.inr (.inr (.inl ⟨rfl,rfl⟩)))⟩
 rw [show i64.wrap (3+1)=4 from by decide,EN (i:=4) (x:=bC.mk [119,105,100,101] 2) (by decide) rfl]
 split
 ·rename_i h;subst h;exact .some ⟨by decide,by decide,λh=>absurd h (by decide),λ_=>rfl,λ_=>.inr (.inr (.inr (.inr rfl)))⟩
 rename_i h4;rw [show i64.wrap (4+1)=5 from by decide];exact .some ⟨by decide,by decide,λh=>absurd h.symm h0,λh=>absurd h.symm h4,λh=>absurd h (by decide)⟩
end
def WX (N B n:Nat) (f:aE->aG->aB->Option (aD × aG)):Prop:=∀c w x,CI N B c->WE x->sz x<=20000->3*sz x+301<=n->bD (f c w x) (Ua c w x)
def JJ (N B n:Nat) (K:Int) (f:aE->aG->aB->aD->Option (aD × aG)):Prop:=∀c w x y,CI N B c->WE x->x.bK=K->sz x<=20000->3*sz x+300<=n->(∃a,y=⟨[],0,0,-1,[],a⟩)->bD (f c w x y) (Ua c w x)
def WY (N B n:Nat) (f:aE->aG->(List aB)->Option ((List aD) × aG)):Prop:=∀c w xs,CI N B c->(∀x ∈ xs,WE x)->wC xs<=20000->3*wC xs+302<=n->bD (f c w xs) λr=>WK w r.2/\r.1.length=xs.length/\(r.2.e_=0->∀y ∈ r.1,TX (uT c) c.bB y)/\(r.2.e_=0->(pQ r.1:Int)<=wC xs)
section
variable {N B n:Nat} {c:aE} {w:aG}
theorem call_l1 {m:Nat} {xs:List Nd} {fe:aE->aG->aB->Option (aD × aG)} (hf:WX N B m fe) (h:CI N B c) (hx:∀x ∈ xs,WE x) (hs:wC xs<=20000) (hm:3*wC xs+301<=m) :
  ∀(k v:Nat) (ys:List aD) (w:aG),xs.length<v+k->v<=xs.length->ys.length=v->(w.e_=0->∀y ∈ ys,TX (uT c) c.bB y)->bD (rH fe xs c k ys (v:Int) w) λr=>WK w r.2/\r.1.length=xs.length/\(r.2.e_=0->∀y ∈ r.1,TX (uT c) c.bB y)/\(r.2.e_=0->(pQ r.1:Int)<=pQ ys+wC (xs.drop v)):=by
 intro k
 induction k with
 | zero=>intro v ys w h1 h2 h3;omega
 | succ k ih=>
   intro v ys w h1 h2 h3 h4;unfold rH;have hg:=pY xs
   by_cases hv:v<xs.length
   ·rw [if_pos (tA (by omega))];obtain ⟨x,e,ex,hxm⟩:=oZ (l:=xs) (i:=(v:Int)) (by omega) (by omega)
    have hd:xs.drop v=x::xs.drop (v+1):=by
     rw [Dq] at ex;obtain ⟨hlt,rfl⟩:=vJ.1 ex;exact NQ hlt
    rw [e];simp only [dV];have hsz:=Ku hxm;refine (hf c w x h (hx x hxm) (by omega) (by omega)).bind λr hr=>bD.need (by simp only [sW];omega) ?_;rw [cG (by omega) (by omega),show ((v:Int)+1)=((v+1:Nat):Int) by omega];refine (ih (v+1) _ _ (by omega) (by omega) (by simp only [mX,sW];omega) λe y hy=>?_).mono λq hq=>⟨WK.trans (λe=>(hr e).1) hq.1,hq.2.1,hq.2.2.1,λe=>?_⟩
    ·rcases Cu.1 hy with hy | hy
     ·exact h4 (by rw [←(hr e).1];exact e) y hy
     ·obtain rfl:=AV.1 hy;exact (hr e).2.1
    ·have h5:=hq.2.2.2 e;have h6:=(hr (by rw [←hq.1 e];exact e)).2.2;rw [MG,pQ,pQ] at h5;rw [hd,vL];omega
   ·rw [if_neg (by simp;omega)];exact .some ⟨.refl _,by rw [h3];omega,h4,λ_=>by have:=pY (xs.drop v);simp only;omega⟩
theorem call_b {fe:aE->aG->aB->Option (aD × aG)} (hf:WX N B n fe):WY N B (n+1) (pG fe n):=by
 intro c w xs h hx hs hn;unfold pG;have hg:=pY xs;exact (call_l1 hf h hx hs (by omega) n 0 [] w (by omega) (by omega) rfl λ_ y hy=>nomatch hy).bind λr hr=>.some ⟨hr.1,hr.2.1,hr.2.2.1,λe=>by have:=hr.2.2.2 e;rw [pQ,Ct] at this;simp only;omega⟩
theorem cexpr_b {f1 f2 f3 f4:aE->aG->aB->aD->Option (aD × aG)} (h1:JJ N B n 16 f1) (h2:JJ N B n 18 f2) (h3:JJ N B n 19 f3) (h4:JJ N B n 17 f4):WX N B (n+1) (oJ f1 f2 f3 f4 n):=by
 intro c w x h hx hs hn;have hp:=sE x;unfold oJ;cases hx with
 | num n1 n2=>exact .some λ_=>⟨rfl,.num n1 n2,by rw [BG,pQ,iP,oP];omega⟩
 | ref=>
   simp only [Int.reduceBEq,FZ,if_false,if_true];refine (EL (w:=w) h (by omega)).bind λr hr=>?_;refine (Cd (w:=r.2) h hr.1).bind λk hk=>?_;rw [pP];refine .some λe=>?_;obtain ⟨k1,k2,k3⟩:=fV (k:=132) (by decide) e;obtain ⟨j1,u,j2,j3,j4,j5⟩:=hr.2.2 k1;refine ⟨k3.trans j1,?_,by rw [BG,pQ,iP,oP];omega⟩
   rcases hk with ⟨hm,_⟩ | ⟨_,u2,hk2,rfl⟩
   ·omega
   ·exact .var j2 (by unfold aZ;rw [if_pos j3];exact hk2) (by simpa using k2)
 | index hy=>
   simp only [Int.reduceBEq,FZ,if_false,if_true];exact (h1 c w _ _ h (.index hy) rfl hs (by omega) ⟨_,rfl⟩).bind λr hr=>.some hr
 | un hu hy=>
   simp only [Int.reduceBEq,FZ,if_false,if_true];exact (h2 c w _ _ h (.un hu hy) rfl hs (by omega) ⟨_,rfl⟩).bind λr hr=>.some hr
 | bin hl hy hz=>
   simp only [Int.reduceBEq,FZ,if_false,if_true];exact (h3 c w _ _ h (.bin hl hy hz) rfl hs (by omega) ⟨_,rfl⟩).bind λr hr=>.some hr
 | call hy=>
   simp only [Int.reduceBEq,FZ,if_false];exact (h4 c w _ _ h (.call hy) rfl hs (by omega) ⟨_,rfl⟩).bind λr hr=>.some hr
theorem WE.inv16 {x:Nd} (h:WE x) (k:x.bK=16):∃a s y,x=⟨16,a,s,0,[y]⟩/\WE y:=by
 cases h <;> first | exact ⟨_,_,_,rfl,‹_›⟩ | (simp at k)
theorem WE.inv18 {x:Nd} (h:WE x) (k:x.bK=18):∃a s y,x=⟨18,a,s,0,[y]⟩/\WE y:=by
 cases h <;> first | exact ⟨_,_,_,rfl,‹_›⟩ | (simp at k)
theorem WE.inv19 {x:Nd} (h:WE x) (k:x.bK=19):∃a s y z,x=⟨19,a,s,0,[y,z]⟩/\WE y/\WE z/\s ∈ IF:=by
 cases h <;> first | exact ⟨_,_,_,_,rfl,‹_›,‹_›,‹_›⟩ | (simp at k)
theorem WE.inv17 {x:Nd} (h:WE x) (k:x.bK=17):∃a s xs,x=⟨17,a,s,0,xs⟩/\∀y ∈ xs,WE y:=by
 cases h <;> first | exact ⟨_,_,_,rfl,‹_›⟩ | (simp at k)
theorem cload_b {fe:aE->aG->aB->Option (aD × aG)} (hf:WX N B n fe):JJ N B (n+1) 16 (oI fe n):=by
 rintro c w x y h hx hk hs hn ⟨ya,rfl⟩;obtain ⟨a,s,z,rfl,hz⟩:=hx.inv16 hk;rw [iP,tL] at hs hn;have hzp:=sE z;unfold oI;refine bD.eqn (v:=z) rfl ?_;refine (hf c w z h hz (by omega) (by omega)).bind λr hr=>?_;refine (EL (w:=r.2) h (by omega)).bind λv hv=>?_;refine (Cd (w:=v.2) h hv.1).bind λk hk=>?_;simp only [pP,dV]
 have key:∀ {w2:aG},WK (NI (NI v.2 (k == 4) 132 a) (r.1.cJ == 1) 133 r.1.fM) w2->w2.e_=0->w2=w/\(TX (uT c) c.bB r.1/\(xz r.1:Int)<=sz z)/\r.1.cJ=1/\∃u,v.1 ∈ c.bB/\aZ (uT c) v.1=some u/\u.bK=4:=by
  intro w2 hw2 e;have e2:=hw2 e;subst e2;obtain ⟨k1,k2,k3⟩:=fV (k:=133) (by decide) e;obtain ⟨j1,j2,j3⟩:=fV (k:=132) (by decide) k1;obtain ⟨i1,u,i2,i3,i4,i5⟩:=hv.2.2 j1;obtain ⟨l1,l2⟩:=hr (by rw [←i1];exact j1);refine ⟨by rw [k3,j3,i1,l1],l2,by simpa using k2,u,i2,by unfold aZ;rw [if_pos i3];exact i4,?_⟩
  rcases hk with ⟨hm,_⟩ | ⟨_,u2,hk2,rfl⟩
  ·omega
  ·rw [i4] at hk2;cases hk2;simpa using j2
 refine bD.bind' (bD.iteb (λhe=>.some ?_) (λhe=>.some ?_))
 ·refine bD.iteb (λho=>?_) (λho=>.some λe=>?_)
  ·have he2:=(fV (k:=132) (by decide) (fV (k:=133) (by decide) (by simpa using he)).1).1;obtain ⟨_,u,h1,h2,h3,h4⟩:=hv.2.2 he2;obtain ⟨f,_,hm,hvs,hfi⟩:=h.cur;rw [hfi];have hlt:=h.sc _ h1;rw [hvs] at hlt;obtain ⟨u2,e2,_,_⟩:=oZ hlt.1 hlt.2;simp only [dV,e2];refine .some λe=>?_;obtain ⟨g1,g2,g3,u3,g4,g5,g6⟩:=key WK.nd e;rw [hvs,e2] at g5;cases g5
   exact ⟨g1,.index g4 (by rw [hvs];exact e2) g6 g2.1 g3 λ_=>(by simpa using (fV (k:=137) (by decide) e).2.1),by rw [BG,pQ,pQ,iP,tL];have:=g2.2;omega⟩
  ·obtain ⟨g1,g2,g3,u3,g4,g5,g6⟩:=key (.refl _) e;exact ⟨g1,.index g4 g5 g6 g2.1 g3 λh=>absurd h (by simpa using ho),by rw [BG,pQ,pQ,iP,tL];have:=g2.2;omega⟩
 ·refine bD.iteb (λh=>nomatch h) (λ_=>.some λe=>?_);exact absurd e (by simpa using he)
theorem VH {α:Type} {l:List α} (h:l.length=1):∃x,l=[x]:=by
 match l,h with
 | [x],_=>exact ⟨x,rfl⟩
theorem list2 {α:Type} {l:List α} (h:l.length=2):∃x y,l=[x,y]:=by
 match l,h with
 | [x,y],_=>exact ⟨x,y,rfl⟩
theorem list3 {α:Type} {l:List α} (h:l.length=3):∃x y z,l=[x,y,z]:=by
 match l,h with
 | [x,y,z],_=>exact ⟨x,y,z,rfl⟩
theorem Wj {fa:aE->aG->(List aB)->Option ((List aD) × aG)} (hf:WY N B n fa):JJ N B (n+1) 18 (nJ fa n):=by
 rintro c w x y h hx hk hs hn ⟨ya,rfl⟩;obtain ⟨a,s,z,rfl,hz⟩:=hx.inv18 hk;rw [iP] at hs hn;unfold nJ;refine (hf c w [z] h (λu hu=>by obtain rfl:=AV.1 hu;exact hz) (by omega) (by omega)).bind λr hr=>?_;obtain ⟨h1,h2,h3,h5⟩:=hr;obtain ⟨u,hu⟩:=VH h2;rw [hu] at h3 h5 ⊢;refine bD.iteb (λ_=>bD.eqn (v:=u) rfl (.some λe=>⟨h1 e,.un (.inr rfl) (h3 e u VB),by rw [BG,iP];have:=h5 e;simp only;omega⟩)) (λ_=>bD.eqn (v:=u) rfl (.some λe=>⟨h1 e,.un (.inl rfl) (h3 e u VB),by rw [BG,iP];have:=h5 e;simp only;omega⟩))
theorem Tv {fa:aE->aG->(List aB)->Option ((List aD) × aG)} (hf:WY N B n fa):JJ N B (n+1) 19 (mT fa n):=by
 rintro c w x y h hx hk hs hn ⟨ya,rfl⟩;obtain ⟨a,s,z,z2,rfl,hz,hz2,hsg⟩:=hx.inv19 hk;rw [iP] at hs hn;unfold mT;refine (hf c w [z,z2] h (λu hu=>by rcases ES.1 hu with rfl | hu;exact hz;obtain rfl:=AV.1 hu;exact hz2) (by omega) (by omega)).bind λr hr=>?_;obtain ⟨h1,h2,h3,h5⟩:=hr;obtain ⟨u,u2,hu⟩:=list2 h2;rw [hu] at h3 h5 ⊢;refine bD.eqn (v:=u) rfl (bD.eqn (v:=u2) rfl (KR.bind λk hk=>?_));subst hk;simp only [pP,dV]
 have fin:∀ {o:bW} {t:Int} {w2:aG},WK r.2 w2->(w2.e_=0->Pq o u u2 t)->Ua c w ⟨19,a,s,0,[z,z2]⟩ (⟨o,t,0,-1,[u,u2],ya⟩,w2):=λhw hb e=>by
  have e1:r.2.e_=0:=by rw [←hw e];exact e
  exact ⟨(hw e).trans (h1 e1),.bin (h3 e1 u (by simp)) (h3 e1 u2 (by simp)) (hb e),by rw [BG,iP];have:=h5 e1;simp only;omega⟩
 have div:∀ {o:bW},(o=[47] ∨ o=[37])->bD ((cE c (NI (NI r.2 (u.cJ == 1) 133 u.fM) (u2.cJ == 1) 133 u2.fM) ⟨o,0,0,-1,[u,u2],ya⟩ 1).bind λx=>some (x.1,x.2)) (Ua c w ⟨19,a,s,0,[z,z2]⟩):=λho=>
  (wO (c:=c)).bind λr2 hr2=>.some (by
    rw [hr2.2.1];refine fin ((WK.nd).trans ((WK.nd).trans hr2.1)) λe=>?_;obtain ⟨k1,k2,_⟩:=fV (k:=133) (by decide) (by rw [←hr2.1 e];exact e);obtain ⟨_,j2,_⟩:=fV (k:=133) (by decide) k1;exact .inl ⟨ho,by simpa using j2,by simpa using k2,rfl⟩)
 have shf:∀ {o:bW},(o=[60,60] ∨ o=[62,62] ∨ o=[60,60,60])->bD ((iJ c r.2 ⟨o,0,0,-1,[u,u2],ya⟩ u u2).bind λx=>some (x.1,x.2)) (Ua c w ⟨19,a,s,0,[z,z2]⟩):=λho=>
  (SA (c:=c)).bind λr2 hr2=>.some (by
    rw [hr2.2.1];refine fin hr2.1 λe=>?_;obtain ⟨k1,k2,_⟩:=hr2.2.2 e;exact .inr (.inl ⟨ho,k1,k2,rfl⟩))
 have typ:∀ {o:bW} {t:Int} {w1:aG},WK r.2 w1->(t ≠ 0->w1.e_=0->Pq o u u2 t)->bD ((cE c w1 ⟨o,0,0,-1,[u,u2],ya⟩ t).bind λx=>some (x.1,x.2)) (Ua c w ⟨19,a,s,0,[z,z2]⟩):=λhw hb=>
  (wO (c:=c)).bind λr2 hr2=>.some (by
    rw [hr2.2.1];refine fin (hw.trans hr2.1) λe=>hb (hr2.2.2 e) (by rw [←hr2.1 e];exact e))
 refine bD.iteb (λho=>div (.inl (By ho))) λn1=>bD.iteb (λho=>div (.inr (By ho))) λn2=>?_;refine bD.iteb (λho=>shf (.inl (By ho))) λn3=>bD.iteb (λho=>shf (.inr (.inl (By ho)))) λn4=>bD.iteb (λho=>shf (.inr (.inr (By ho)))) λn5=>?_;refine bD.iteb (λho=>typ WK.nd λht e=>.inr (.inr (.inl ⟨By ho,rfl,by simpa using (fV (k:=132) (by decide) e).2.1,ht⟩))) λn6=>?_;refine bD.iteb (λho=>bD.iteb (λh3=>typ (.refl _) λht e=>?_) λh3=>typ (.refl _) λht e=>?_) λn7=>?_
 ·exact .inr (.inr (.inr (.inl ⟨.inl (By ho),by rw [beq_iff_eq] at h3;omega,by rw [if_pos (by simpa using h3)]⟩)))
 ·exact .inr (.inr (.inr (.inl ⟨.inl (By ho),ht,by rw [if_neg (by simpa using h3)]⟩)))
 refine bD.iteb (λho=>bD.iteb (λh3=>typ (.refl _) λht e=>?_) λh3=>typ (.refl _) λht e=>?_) λn8=>?_
 ·exact .inr (.inr (.inr (.inl ⟨.inr (By ho),by rw [beq_iff_eq] at h3;omega,by rw [if_pos (by simpa using h3)]⟩)))
 ·exact .inr (.inr (.inr (.inl ⟨.inr (By ho),ht,by rw [if_neg (by simpa using h3)]⟩)))
 refine typ (.refl _) λht e=>.inr (.inr (.inr (.inr ⟨?_,rfl,ht⟩)));simp only [decide_eq_false_iff_not] at n1 n2 n3 n4 n5 n6 n7 n8;simp only [IF,ES,TU,or_false] at hsg
 rcases hsg with h | h | h | h | h | h | h | h | h | h | h | h | h
 ·exact .inl h
 ·exact .inr (.inl h)
 ·exact .inr (.inr (.inl h))
 ·exact absurd h n7
 ·exact absurd h n8
 ·exact absurd h n3
 ·exact absurd h n4
 ·exact absurd h n5
 ·exact .inr (.inr (.inr (.inl h)))
 ·exact .inr (.inr (.inr (.inr h)))
 ·exact absurd h n6
 ·exact absurd h n1
 ·exact absurd h n2
theorem QK {fa:aE->aG->(List aB)->Option ((List aD) × aG)} (hf:WY N B n fa):JJ N B (n+1) 17 (mA fa n):=by
 rintro c w x y h hx hk hs hn ⟨ya,rfl⟩;obtain ⟨a,s,xs,rfl,hz⟩:=hx.inv17 hk;rw [iP] at hs hn;have hp:0<=wC xs:=by have:=pY xs;omega
 unfold mA;refine (IX (s:=s) (by omega)).bind λv hv=>?_;simp only [pP,dV];refine (hf c _ xs h hz (by omega) (by omega)).bind λr hr=>?_;obtain ⟨g1,hrl,g3,g4⟩:=hr;have hwr:=(WK.nd (w:=w)).trans ((WK.nd).trans g1);refine bD.iteb (λhe=>.some λe=>absurd e (by simpa using he)) (λhe=>?_);simp only [bne_eq_false_iff_eq] at he;have h1:=g1 he;obtain ⟨k1,k2,k3⟩:=fV (k:=136) (by decide) (by rw [←h1];exact he);obtain ⟨j1,j2,j3⟩:=fV (k:=130) (by decide) k1;have hl:(xs.length:Int)=v:=by simpa using k2
 have hv0:0<v:=By j2;have hT:=g3 he;have fin:∀ {x:aD} {w2:aG},WK r.2 w2->(w2.e_=0->TX (uT c) c.bB x)->x.aL=r.1->Ua c w ⟨17,a,s,0,xs⟩ (x,w2):=λhw hb hx e=>⟨(hwr.trans hw) e,hb e,by rw [BG,iP,hx];have:=g4 he;omega⟩;obtain ⟨_,hv3,hvs,hvw,hall⟩:=hv;have hall:=hall hv0;obtain ⟨u,e,_,hum⟩:=oZ (l:=r.1) (i:=0) (by decide) (by omega);rw [e];simp only [dV];refine bD.iteb (λhc=>?_) (λn1=>bD.iteb (λhc=>?_) (λn2=>bD.iteb (λhc=>?_) (λn3=>?_)))
 ·have h3:=hvs (By hc);obtain ⟨x0,x1,x2,hr3⟩:=list3 (l:=r.1) (by omega);rw [hr3] at hT fin ⊢;refine (QI (c:=c) rfl).bind λk hk=>?_;refine (wO (c:=c)).bind λr2 hr2=>.some ?_;rw [hr2.2.1];refine fin hr2.1 (λe=>?_) rfl;obtain ⟨q1,q2,rfl⟩:=hk (hr2.2.2 e);rw [By hc];exact .sel (hT _ (by simp)) (hT _ (by simp)) (hT _ (by simp)) q1 q2
 ·have hc1:=By hc
  have hv1:v=1:=by
   rcases hall with h | h | h | h | h
   ·rw [hc1] at h;exact absurd h (by decide)
   ·exact h.2
   ·exact h.2
   ·exact h.2
   ·rw [hc1] at h;exact absurd h (by decide)
  obtain ⟨x0,hr1⟩:=VH (l:=r.1) (by omega);rw [hr1] at hT e fin ⊢;have hx0:x0=u:=by cases e;rfl
  subst hx0;refine Fc.bind λb hb=>?_;refine (wO (c:=c)).bind λr2 hr2=>.some ?_;rw [hr2.2.1];refine fin ((WK.nd).trans hr2.1) (λe=>?_) rfl;rw [hc1];exact .long (hT _ VB) (hb (fV (k:=132) (by decide) (by rw [←hr2.1 e];exact e)).2.1)
 ·have h2:=hvw (By hc);obtain ⟨x0,x1,hr2⟩:=list2 (l:=r.1) (by omega);rw [hr2] at hT e fin ⊢;have hx0:x0=u:=by cases e;rfl
  subst hx0;refine bD.bind (P:=λw'=>WK r.2 w'/\(w'.e_=0->ScT x0.cJ/\ScT x1.cJ)) (Fc.bind λb hb=>bD.iteb (λhbt=>bD.eqn (v:=x1) rfl ?_) (λ_=>.some ⟨WK.nd,λe=>?_⟩)) λw' hw'=>?_
  ·exact Fc.bind λb2 hb2=>.some ⟨WK.nd,λe=>⟨hb hbt,hb2 (fV (k:=132) (by decide) e).2.1⟩⟩
  ·have:=(fV (k:=132) (by decide) e).2.1;cases this
  ·refine (wO (c:=c)).bind λr2 hr2=>.some ?_;rw [hr2.2.1];refine fin (hw'.1.trans hr2.1) (λe=>?_) rfl;obtain ⟨q1,q2⟩:=hw'.2 (by rw [←hr2.1 e];exact e);rw [By hc];exact .wide (hT _ (by simp)) (hT _ (by simp)) q1 q2
 ·have hc1:(s=[108,111] ∨ s=[104,105])/\v=1:=by
   rcases hall with h | h | h | h | h
   ·exact absurd h (by simpa using n1)
   ·exact absurd h.1 (by simpa using n2)
   ·exact ⟨.inl h.1,h.2⟩
   ·exact ⟨.inr h.1,h.2⟩
   ·exact absurd h (by simpa using n3)
  obtain ⟨x0,hr1⟩:=VH (l:=r.1) (by omega);rw [hr1] at hT e fin ⊢;have hx0:x0=u:=by cases e;rfl
  subst hx0;refine (wO (c:=c)).bind λr2 hr2=>.some ?_;rw [hr2.2.1];refine fin ((WK.nd).trans hr2.1) (λe=>?_) rfl;exact .half hc1.1 (hT _ VB) (eq_of_beq (fV (k:=132) (by decide) (by rw [←hr2.1 e];exact e)).2.1)
theorem RM:∀n:Nat,WX N B n (bR n).1/\JJ N B n 16 (bR n).2.1/\JJ N B n 18 (bR n).2.2.1/\JJ N B n 19 (bR n).2.2.2.1/\JJ N B n 17 (bR n).2.2.2.2.1/\WY N B n (bR n).2.2.2.2.2
 | 0=>⟨λc w x _ _ _ h=>by have:=sE x;omega,λc w x y _ _ _ _ h _=>by have:=sE x;omega,λc w x y _ _ _ _ h _=>by have:=sE x;omega,λc w x y _ _ _ _ h _=>by have:=sE x;omega,λc w x y _ _ _ _ h _=>by have:=sE x;omega,λc w xs _ _ _ h=>by have:=pY xs;omega⟩
 | n+1=>by
   obtain ⟨g1,g2,g3,g4,g5,g6⟩:=RM n;exact ⟨cexpr_b g2 g3 g4 g5,cload_b g1,Wj g6,Tv g6,QK g6,call_b g1⟩
theorem BD (h:CI N B c) {x:Nd} (hx:WE x) (hs:sz x<=20000) (hn:3*sz x+301<=n):bD (hY n c w x) (Ua c w x):=(RM n).1 c w x h hx hs hn
end
section
variable {N B n:Nat} {c:aE} {w:aG}
theorem vA (h:CI N B c) {x:Nd} (hx:WE x) (hs:sz x<=20000) (hn:3*sz x+301<=n):bD (eV n c w x) λr=>Ua c w x r/\(r.2.e_=0->r.1.cJ=1):=by
 unfold eV;refine (BD h hx hs hn).bind λr hr=>?_;rw [pP];refine .some ⟨λe=>?_,λe=>by simpa using (fV (k:=133) (by decide) e).2.1⟩;obtain ⟨k1,_,k3⟩:=fV (k:=133) (by decide) e;obtain ⟨j1,j2⟩:=hr k1;exact ⟨k3.trans j1,j2⟩
theorem Ua.wk {x:Nd} {r:aD × aG} (h:Ua c w x r):WK w r.2:=λe=>(h e).1
theorem Find_l1 (fs:List aQ) (s:bW) (hl:fs.length<=16384):∀(k v:Nat),fs.length<v+k->v<=fs.length->∃r,cH fs s k v=some r/\(r=.inl () ∨ ∃(i:Nat) (f:aQ),r=.inr (i:Int)/\fs[i]? = some f/\f.gP=s):=by
 intro k
 induction k with
 | zero=>intro v h1 h2;omega
 | succ k ih=>
   intro v h1 h2;unfold cH
   by_cases hv:v<fs.length
   ·rw [if_pos (tA (by omega))];obtain ⟨f,e,e2,_⟩:=oZ (l:=fs) (i:=(v:Int)) (by omega) (by omega);rw [e];simp only [dV,AN]
    by_cases hf:f.gP=s
    ·rw [if_pos (tA hf)];exact ⟨_,rfl,.inr ⟨v,f,rfl,by simpa using e2,hf⟩⟩
    ·rw [if_neg (by simpa using hf),cG (by omega) (by omega),show ((v:Int)+1)=((v+1:Nat):Int) by omega];exact ih (v+1) (by omega) (by omega)
   ·rw [if_neg (by simp;omega)];exact ⟨_,rfl,.inl rfl⟩
theorem Pn {p:aW} {s:bW} (hl:p.aV.length<=16384) (hn:16384<n):bD (pM n p s) λr=>0<=r.1/\(r.2=true->r.1<p.aV.length/\∃f,p.aV[r.1.toNat]? = some f/\f.gP=s):=by
 unfold pM fH;obtain ⟨r,e,hr⟩:=Find_l1 p.aV s hl n 0 (by omega) (by omega);have e:cH p.aV s n 0=some r:=e;rw [e]
 rcases hr with rfl | ⟨i,f,rfl,h1,h2⟩
 ·exact .some ⟨by decide,λh=>absurd h (by decide)⟩
 ·have hi:i<p.aV.length:=(vJ.1 h1).1;refine .some ⟨by simp only;omega,λ_=>⟨by simp only;omega,f,?_,h2⟩⟩;have:(max (i:Int) 0).toNat=i:=by omega
  simp only [this,h1]
theorem function_tot' (h:CI N B c) (hn:16384<n) {x:Nd}:bD (mS n c w x) λr=>WK w r.2/\(r.2.e_=0->0<=r.1/\r.1<N):=by
 unfold mS;refine (Pn (by have:=h.nf;have:=h.nN;omega) hn).bind λr hr=>?_;rw [pP];refine .some ⟨WK.nd,λe=>?_⟩;have:=(hr.2 (fV (by decide) e).2.1).1;have:=h.nf;exact ⟨hr.1,by omega⟩
theorem Qc (h:CI N B c) {i:Int} (h0:0<=i) (h1:i<N):bD (oG c w i) λr=>∃f,aZ c.p_.aV i=some f/\r=f.aR.take f.aT.toNat:=by
 unfold oG;obtain ⟨f,e,_,hm⟩:=oZ (l:=c.p_.aV) h0 (by have:=h.nf;omega);rw [e];have hv:=h.vl f hm;simp only [dV];exact bD.need ⟨hv.2.1,hv.2.2⟩ (.some ⟨f,rfl,rfl⟩)
theorem TA (h:CI N B c) (hn:300<n) {x:Nd} {p:aJ} (hp:p.bK=4):bD (mM n c w x p.qZ) λr=>r.2.e_=0->r.2=w/\HM (uT c) c.bB p r.1/\(xz r.1:Int)<=sz x:=by
 unfold mM;rw [pP];simp only [dV];refine (EL h hn).bind λv hv=>?_;refine bD.bind (P:=λw'=>w'.e_=0->w'=w/\HM (uT c) c.bB p ⟨[118,97,114],4,0,v.1,[],x.fM⟩) ?_ λw' hw'=>.some λe=>⟨(hw' e).1,(hw' e).2,by rw [BG,pQ];have:=sE x;omega⟩;refine (Cd (w:=v.2) h hv.1).bind λk hk=>bD.iteb (λhc=>?_) (λ_=>by rw [pP];exact .some λe=>by have:=(fV (k:=132) (by decide) e).2.1;cases this);have hk4:k=4:=by simpa using hc
 rcases hk with ⟨_,h2⟩ | ⟨h0,u,h1,hku⟩
 ·omega
 obtain ⟨f,_,hm,hvs,hfi⟩:=h.cur;rw [hfi];rw [hvs] at h1;have hlt:v.1.toNat<f.aR.length:=(vJ.1 h1).1
 have e2:aZ f.aR (max v.1 0)=some u:=by
  rw [show max v.1 0=v.1 by omega];unfold aZ;rw [if_pos h0];exact h1
 simp only [dV,e2,pP];refine .some λe=>?_;obtain ⟨k1,k2,k3⟩:=fV (k:=132) (by decide) e;obtain ⟨j1,u3,j2,j3,j4,j5⟩:=hv.2.2 k1;obtain ⟨_,_,i3⟩:=fV (k:=132) (by decide) (by rw [←j1];exact k1);refine ⟨by rw [k3,j1,i3],.arr hp j2 (u:=u) (by rw [hvs];unfold aZ;rw [if_pos h0];exact h1) (by omega) (by simpa using k2)⟩
theorem Nu (h:CI N B c) {x:Nd} (hx:WE x) (hs:sz x<=20000) (hn:3*sz x+301<=n) {v:aJ}:bD (mU n c w x v) λr=>r.2.e_=0->r.2=w/\HM (uT c) c.bB v r.1/\(xz r.1:Int)<=sz x:=by
 have hp:=sE x;unfold mU;refine bD.iteb (λh4=>?_) (λh4=>bD.iteb (λh1=>?_) (λh1=>?_))
 ·exact (TA h (by omega) (by simpa using h4)).bind λr hr=>.some hr
 ·exact (vA h hx hs hn).bind λr hr=>.some λe=>⟨(hr.1 e).1,.pub (by simpa using h1) (hr.1 e).2.1 (hr.2 e),(hr.1 e).2.2⟩
 ·refine (BD h hx hs hn).bind λr hr=>Im.bind λb hb=>?_;rw [pP];refine .some λe=>?_;obtain ⟨k1,k2,k3⟩:=fV (k:=132) (by decide) e;exact ⟨k3.trans (hr k1).1,.val (by simpa using h1) (by simpa using h4) (hr k1).2.1 (hb k2),(hr k1).2.2⟩
theorem CI.calls (h:CI N B c) {l:List Int} {k:Int} (e:aZ c.bX c.gC=some l) (h0:0<=k) (h1:k<N):CI N (B+1) { c with bX:=c.bX.set c.gC.toNat (l++[k]) }:=by
 have hm:l ∈ c.bX:=by
  obtain ⟨l2,e2,_,hm⟩:=oZ (l:=c.bX) h.a0 (by rw [h.nc];exact h.a1);rw [e] at e2;cases e2;exact hm
 refine ⟨h.nf,h.nN,h.f0,h.f1,h.a0,h.a1,h.sc,h.sl,h.vl,by simp only [vK];exact h.nc,?_,h.ki⟩;intro l' hl'
 rcases Uj hl' with hl' | rfl
 ·exact ⟨Nat.le_succ_of_le (h.cl l' hl').1,(h.cl l' hl').2⟩
 ·have:=h.cl l hm;refine ⟨by simp only [mX,sW];omega,λu hu=>?_⟩
  rcases Cu.1 hu with hu | hu
  ·exact this.2 u hu
  ·obtain rfl:=AV.1 hu;exact ⟨h0,h1⟩
theorem CI.more {B':Nat} (h:CI N B c) (hb:B<=B'):CI N B' c:=⟨h.nf,h.nN,h.f0,h.f1,h.a0,h.a1,h.sc,h.sl,h.vl,h.nc,λl hl=>⟨JR (h.cl l hl).1 hb,(h.cl l hl).2⟩,h.ki⟩
theorem Ws {x:Nd} {sh:List aJ} {l:List Int} {k4:Int × aG} (h:CI N B { c with bX:=c.bX.set c.gC.toNat (l++[k4.1]) }) (hx:∀y ∈ x.aL,WE y) (hs:wC x.aL<=20000) (hn:3*wC x.aL+301<=n) {w0:aG} (hw0:w0.e_=0->x.aL.length=sh.length) {st0:aA} :
  ∀(k v:Nat) (w:aG) (ys:List aD),x.aL.length<v+k->v<=x.aL.length->ys.length=v->(w.e_=0->w=w0/\∀(i:Nat) p y,sh[i]? = some p->ys[i]? = some y->HM (uT c) c.bB p y)->WK w0 w->bD (kZ n x sh c l k4 k (v:Int) w { st0 with aL:=ys }) λr=>WK w r.1/\(∃zs,r.2={ st0 with aL:=zs }/\(r.1.e_=0->Bi (uT c) c.bB sh zs/\(pQ zs:Int)<=pQ ys+wC (x.aL.drop v))):=by
 intro k
 induction k with
 | zero=>intro v w ys h1 h2 h3;omega
 | succ k ih=>
   intro v w ys h1 h2 h3 h4 hw;unfold kZ;have hg:=pY x.aL
   by_cases hv:v<x.aL.length
   ·rw [if_pos (tA (by omega))];obtain ⟨y,e,ey,hym⟩:=oZ (l:=x.aL) (i:=(v:Int)) (by omega) (by omega)
    have hd:x.aL.drop v=y::x.aL.drop (v+1):=by
     rw [Dq] at ey;obtain ⟨hlt,rfl⟩:=vJ.1 ey;exact NQ hlt
    rw [e];simp only [dV];refine bD.iteb (λhe=>.some ⟨.refl _,ys,rfl,λe=>absurd e (by simpa using he)⟩) (λhe=>?_);simp only [bne_eq_false_iff_eq] at he;have hw':=hw he;have hlen:=hw0 (by rw [←hw'];exact he);obtain ⟨u,e2,e3,_⟩:=oZ (l:=sh) (i:=(v:Int)) (by omega) (by omega);rw [e2];simp only [dV];have hsz:=Ku hym;refine (Nu h (hx y hym) (by omega) (by omega)).bind λr hr=>bD.need (by simp only [sW];omega) ?_;rw [cG (by omega) (by omega),show ((v:Int)+1)=((v+1:Nat):Int) by omega];refine (ih (v+1) r.2 (ys++[r.1]) (by omega) (by omega) (by simp only [mX,sW];omega) (λer=>⟨?_,λi p y hp hy=>?_⟩) (hw.trans λe=>(hr e).1)).mono λq hq=>?_
    ·rw [(hr er).1,hw']
    ·by_cases hi:i<v
     ·rw [MI (by omega)] at hy;exact (h4 he).2 i p y hp hy
     ·have hi2:i=v:=by
       have:=(vJ.1 hy).1;simp only [mX,sW] at this;omega
      subst hi2;rw [Lx (by omega),h3,xdx] at hy;cases hy;rw [Dq] at e3;rw [hp] at e3;cases e3
      exact (hr er).2.1
    ·obtain ⟨hq1,zs,hq2,hq3⟩:=hq;refine ⟨WK.trans (λe=>(hr e).1) hq1,zs,hq2,λeq=>?_⟩;obtain ⟨h5,h6⟩:=hq3 eq;refine ⟨h5,?_⟩;rw [MG,pQ,pQ] at h6;rw [hd,vL];have:=(hr (by rw [←hq1 eq];exact eq)).2.2;omega
   ·rw [if_neg (by simp;omega)];refine .some ⟨.refl _,ys,rfl,λe=>⟨⟨?_,(h4 e).2⟩,by have:=pY (x.aL.drop v);omega⟩⟩;have:=hw0 (by rw [←hw e];exact e);omega
theorem Hc (h:CI N B c) (hB:B+1<=1073741824) {x:Nd} (hx:∀y ∈ x.aL,WE y) (hs:wC x.aL<=20000) (hn:3*wC x.aL+301<=n) (hn2:20000<n) {st:aA} {v:Int} :
  bD (jU n c w x st v) λr=>CI N (B+1) r.2.1/\Kp c r.2.1/\r.2.1.bB=c.bB/\r.2.1.p_=c.p_/\WK w r.2.2/\(r.2.2.e_=0->0<=r.1.iH/\r.1.iH<N/\∃f xs,r.1=⟨[99,97,108,108],v,r.1.iH,xs,st.bH,st.eN,st.fM⟩/\aZ r.2.1.p_.aV r.1.iH=some f/\sgC r.2.1 r.1.iH f.bN (f.aR.take f.aT.toNat)/\Bi (uT c) c.bB (f.aR.take f.aT.toNat) xs/\(pQ xs:Int)<=wC x.aL):=by
 have hg:=pY x.aL;unfold jU;refine (function_tot' (w:=w) (x:=x) h (by omega)).bind λr hr=>bD.iteb (λhe=>?_) (λhe=>?_)
 ·simp only [bne_iff_ne] at he;exact .some ⟨h.more (xdm B),.refl c,rfl,rfl,hr.1,λe=>absurd e he⟩
 ·simp only [bne_eq_false_iff_eq] at he;obtain ⟨f0,f1⟩:=hr.2 he;obtain ⟨l,e,el,hm⟩:=oZ (l:=c.bX) h.a0 (by rw [h.nc];exact h.a1);have h':=h.calls e f0 f1;rw [e];simp only [dV];refine bD.need (by have:=(h.cl l hm).1;omega) ?_;refine (Qc (w:=r.2) h' f0 f1).bind λsh hsh=>?_;obtain ⟨f,hf,rfl⟩:=hsh;rw [pP];simp only [dV];refine (Ws (st0:={ st with dR:=[99,97,108,108],eB:=v,iH:=r.1,aL:=[] }) h' hx hs hn (w0:=NI r.2 ((x.aL.length:Int) == ((f.aR.take f.aT.toNat).length:Int)) 136 x.fM) (λe=>by have:=(fV (k:=136) (by decide) e).2.1;simp only [beq_iff_eq] at this;omega) n 0 _ [] (by omega) (by omega) rfl (λe=>⟨rfl,λi p y hp hy=>nomatch hy⟩) (.refl _)).bind λq hq=>?_;obtain ⟨hq1,zs,hq2,hq3⟩:=hq;have hal:c.gC.toNat<c.bX.length:=(vJ.1 el).1
  have hcl:aZ (c.bX.set c.gC.toNat (l++[r.1])) c.gC=some (l++[r.1]):=by
   unfold aZ;rw [if_pos h.a0,PL hal]
  refine .some ⟨h',⟨rfl,rfl,Sb _,Sb _,λ_ _=>rfl,rfl,λj hj=>Pz (Ne.symm hj),λl2 e2=>?_⟩,rfl,rfl,hr.1.trans ((WK.nd).trans hq1),λe2=>?_⟩
  ·rw [e] at e2;cases e2
   exact ⟨_,hcl,MH _ _⟩
  ·rw [hq2];exact ⟨f0,f1,f,zs,rfl,hf,⟨⟨_,hcl,NO _ VB⟩,f,hf,rfl,rfl⟩,(hq3 e2).1,by have:=(hq3 e2).2;rw [pQ,Ct] at this;omega⟩
theorem GM (hn:6<n) {x:Nd}:bD (jZ n c w x) λb=>b=true->x.bK=17:=by
 unfold jZ;exact bD.bind' (bD.iteb (λhc=>(IX hn).bind λv _=>.some (.some λ_=>by simpa using hc)) (λ_=>.some (.some λh=>nomatch h)))
def St1 (c c':aE) (w':aG) (b:Bool) (s:aA) (x:aB):Prop:=w'.e_=0->TB (sgC c') (uT c') (MX c) b (uT c).length c.bB [s] (uT c').length c'.bB/\(tz s:Int)<=sz x
theorem Gy {α:Type} {l:List α} {x:α}:(l++[x])[l.length]? = some x:=by
 rw [Lx (sZ _),xdx];rfl
theorem QJ (h:CI N B c) (hB:B+1<=1073741824) {x y:Nd} (hl:x.aL=[y]) (hy:WE y) (hs:sz y<=20000) (hn:3*sz y+301<=n) (hn2:20000<n) {a:Int} {b:Bool} :
  bD (pF n c w x ⟨[],-1,0,[],[],[],a⟩) λr=>CI N (B+1) r.2.1/\Kp c r.2.1/\WK w r.2.2/\St1 c r.2.1 r.2.2 b r.1 x:=by
 unfold pF;rw [hl];refine bD.eqn (v:=y) rfl ?_;refine (GM (c:=c) (w:=w) (by omega)).bind λb hb=>bD.iteb (λhbt=>?_) (λ_=>?_)
 ·obtain ⟨a,s,xs,rfl,hxs⟩:=hy.inv17 (hb hbt);rw [iP] at hs hn;refine (Hc h hB hxs (by simp only;omega) (by simp only;omega) hn2).bind λr hr=>?_;obtain ⟨h1,h2,h3,h4,h5,h6⟩:=hr;refine bD.iteb (λhe=>.some ⟨h1,h2,h5,λe=>absurd e (by simpa using he)⟩) (λhe=>?_);simp only [bne_eq_false_iff_eq] at he;obtain ⟨f0,f1,f,zs,e1,e2,e3,e4,e9⟩:=h6 he
  have hfm:f ∈ r.2.1.p_.aV:=by
   obtain ⟨f',e',_,hm⟩:=oZ (l:=r.2.1.p_.aV) f0 (by rw [h1.nf];exact f1);rw [e2] at e';cases e';exact hm
  rw [e2];simp only [dV,pP];have hvs:uT r.2.1=uT c:=by unfold uT;rw [h4,h2.f]
  refine (uZ h1 (by omega) λe=>?_).bind λd hd=>.some ⟨hd.1,h2.trans hd.2.1,h5.trans ((WK.nd).trans λe=>(hd.2.2.2.2.1 e).1),λe=>?_⟩
  ·have hr:=(h1.ki f hfm).2;have:=(fV (k:=132) (by decide) e).2.1;simp only [bne_iff_ne,ne_eq] at this;refine ⟨?_,?_,λh=>?_⟩ <;> simp only at * <;> omega
  ·obtain ⟨d1,d2,d3,d4⟩:=hd.2.2.2.2.1 e;have e5:(NI r.2.2 (f.bN != 0) 132 x.fM).e_=0:=by rw [←d1];exact e
   have hne:=(fV (k:=132) (by decide) e5).2.1;rw [e1];simp only;rw [d2,d3,d4,h3,hvs,mX,sW];exact ⟨.callv (u:=⟨x.cZ,f.bN,0⟩) (r:=f.bN) (Kp.sg h1 hd.2.1 e3) (e4.mono (MH _ _) λ_ h=>h) (by simpa using hne) Gy rfl .nil,by rw [zG,Gf x,hl,tL,iP];simp only [uN];simp only at e9;omega⟩
 ·refine (BD h hy hs hn).bind λr hr=>Kx.bind λk hk=>?_;subst hk;refine (uZ h (by omega) λe=>?_).bind λd hd=>.some ⟨hd.1.more (xdm B),hd.2.1,hr.wk.trans λe=>(hd.2.2.2.2.1 e).1,λe=>?_⟩
  ·have:=(hr e).2.1.range h.vsOk;refine ⟨?_,?_,λh=>?_⟩ <;> simp only [Hz] at * <;> split at * <;> omega
  ·obtain ⟨d1,d2,d3,d4⟩:=hd.2.2.2.2.1 e;simp only;rw [d2,d3,d4,mX,sW];have hr0:=hr (by rw [←d1];exact e);exact ⟨.var_ (u:=⟨x.cZ,Hz r.1.cJ,0⟩) (hr0.2.1.mono (MH _ _) λ_ h=>h) Gy rfl .nil,by rw [zG,Gf x,hl,tL];simp only [uN,pQ];have:=hr0.2.2;omega⟩
theorem Nq (h:CI N B c) (hn:300<n) {x:Nd}:bD (nK n c w x) λr=>WK w r.2/\(r.1=-1 ∨ 0<=r.1/\r.1<(uT c).length)/\(r.2.e_=0->∃u,r.1 ∈ c.bB/\aZ (uT c) r.1=some u/\(u.bK=2 ∨ u.bK=3)):=by
 unfold nK;refine (EL (w:=w) h hn).bind λv hv=>?_;refine (Cd (w:=v.2) h hv.1).bind λk hk=>?_;simp only [pP,dV];have hwv:WK w v.2:=λe=>(hv.2.2 e).1
 have key:(k=2 ∨ k=3)->v.2.e_=0->∃u,v.1 ∈ c.bB/\aZ (uT c) v.1=some u/\(u.bK=2 ∨ u.bK=3):=λh2 e=>by
  obtain ⟨_,u,j2,j3,j4,_⟩:=hv.2.2 e
  rcases hk with ⟨hm,_⟩ | ⟨_,u2,hk2,rfl⟩
  ·omega
  ·exact ⟨u2,j2,by unfold aZ;rw [if_pos j3];exact hk2,h2⟩
 refine bD.bind' (bD.iteb (λh2=>.some (.some ⟨hwv.trans WK.nd,hv.1,λe=>?_⟩)) (λ_=>.some (.some ⟨hwv.trans WK.nd,hv.1,λe=>?_⟩)))
 ·exact key (.inl (by simpa using h2)) (fV (k:=132) (by decide) e).1
 ·obtain ⟨k1,k2,_⟩:=fV (k:=132) (by decide) e;exact key (.inr (by simpa using k2)) k1
theorem Wl (h:CI N B c) (hB:B+1<=1073741824) {x y:Nd} (hl:x.aL=[y]) (hy:WE y) (hs:sz y<=20000) (hn:3*sz y+301<=n) (hn2:20000<n) {a:Int} {b:Bool} :
  bD (qV n c w x ⟨[],-1,0,[],[],[],a⟩) λr=>CI N (B+1) r.2.1/\Kp c r.2.1/\WK w r.2.2/\St1 c r.2.1 r.2.2 b r.1 x:=by
 unfold qV;refine (Nq (w:=w) h (by omega)).bind λv hv=>?_;rw [hl];refine bD.eqn (v:=y) rfl ?_;refine (GM (c:=c) (w:=v.2) (by omega)).bind λb hb=>bD.iteb (λhbt=>?_) (λ_=>?_)
 ·obtain ⟨a,s,xs,rfl,hxs⟩:=hy.inv17 (hb hbt);rw [iP] at hs hn;refine (Hc h hB hxs (by simp only;omega) (by simp only;omega) hn2).bind λr hr=>?_;obtain ⟨h1,h2,h3,h4,h5,h6⟩:=hr;refine bD.iteb (λhe=>?_) (λhe=>.some ⟨h1,h2,hv.1.trans h5,λe=>absurd e (by simpa using he)⟩);simp only [beq_iff_eq] at he;obtain ⟨f0,f1,f,zs,e1,e2,e3,e4,e9⟩:=h6 he;have hlen:=h2.v.length_le;have hvs:uT r.2.1=uT c:=by unfold uT;rw [h4,h2.f]
  obtain ⟨u,hu1,hu2,hu3⟩:=hv.2.2 (by rw [←h5 he];exact he);refine (Cd (w:=r.2.2) h1 (v:=v.1) (by rcases hv.2.1 with h | h;exact .inl h;exact .inr ⟨h.1,by omega⟩)).bind λk hk=>?_;rw [e2];simp only [dV,pP];refine .some ⟨h1,h2,hv.1.trans (h5.trans WK.nd),λe=>?_⟩;have hr:=(fV (k:=132) (by decide) e).2.1
  have hku:k=u.bK:=by
   have h0:=h.sc _ hu1
   rcases hk with ⟨hm,_⟩ | ⟨h0,u2,hk2,rfl⟩
   ·omega
   ·unfold aZ at hu2;rw [if_pos h0,←hvs,hk2] at hu2;cases hu2;rfl
  rw [e1,hvs,h3];exact ⟨.calls hu1 hu2 hu3 e3 e4 (by rw [←hku];simpa using hr) .nil,by rw [zG,Gf x,hl,tL,iP];simp only [uN];simp only at e9;omega⟩
 ·refine (BD h hy hs hn).bind λr hr=>(Cd (w:=r.2) h hv.2.1).bind λk hk=>Im.bind λb hb=>?_;rw [pP];refine .some ⟨h.more (xdm B),.refl c,hv.1.trans (hr.wk.trans WK.nd),λe=>?_⟩;obtain ⟨k1,k2,_⟩:=fV (k:=132) (by decide) e;obtain ⟨u,hu1,hu2,hu3⟩:=hv.2.2 (by rw [←hr.wk k1];exact k1)
  have hku:k=u.bK:=by
   have h0:=h.sc _ hu1
   rcases hk with ⟨hm,_⟩ | ⟨h0,u2,hk2,rfl⟩
   ·omega
   ·unfold aZ at hu2;rw [if_pos h0,hk2] at hu2;cases hu2;rfl
  exact ⟨.set hu1 hu2 hu3 (hr k1).2.1 (hku ▸ hb k2) .nil,by rw [zG,Gf x,hl,tL];simp only [uN,pQ];have:=(hr k1).2.2;omega⟩
theorem QH (h:CI N B c) {x:Nd} (hx:WE x) (hs:sz x<=20000) (hn:3*sz x+301<=n) {v:Int} (hv:w.e_=0->0<=v/\v<(uT c).length):bD (pE n c w x v) λr=>Ua c w x r/\(r.2.e_=0->r.1.cJ=1/\∀u,aZ (uT c) v=some u->r.1.dR=[110,117,109]->i64.wrap r.1.N_<u.qZ):=by
 unfold pE;refine (vA h hx hs hn).bind λr hr=>?_;obtain ⟨hr,hr1⟩:=hr;refine bD.bind' (bD.iteb (λhe=>.some ?_) (λhe=>.some (bD.iteb (λh=>nomatch h) (λ_=>.some ⟨hr,λe=>absurd e (by simpa using he)⟩))));refine bD.iteb (λho=>?_) (λho=>.some ⟨hr,λe=>⟨hr1 e,λu hu h=>absurd h (by simpa using ho)⟩⟩);have he:r.2.e_=0:=by simpa using he
 obtain ⟨v0,v1⟩:=hv (by rw [←(hr he).1];exact he);obtain ⟨f,_,hm,hvs,hfi⟩:=h.cur;rw [hfi];rw [hvs] at v1;obtain ⟨u,e,_,_⟩:=oZ v0 v1;simp only [dV,e,pP];refine .some ⟨λe2=>?_,λe2=>?_⟩
 ·obtain ⟨k1,_,k3⟩:=fV (k:=137) (by decide) e2;exact ⟨k3.trans (hr k1).1,(hr k1).2⟩
 ·obtain ⟨k1,k2,_⟩:=fV (k:=137) (by decide) e2;refine ⟨hr1 k1,λu2 hu _=>?_⟩;rw [hvs,e] at hu;cases hu
  simpa using k2
theorem Wm (h:CI N B c) {x i y:Nd} (hl:x.aL=[i,y]) (hi:WE i) (hy:WE y) (hs:sz i<=20000) (hs2:sz y<=20000) (hn:3*sz i+301<=n) (hn2:3*sz y+301<=n) {a:Int} {b:Bool}:bD (qW n c w x ⟨[],-1,0,[],[],[],a⟩) λr=>WK w r.2/\St1 c c r.2 b r.1 x:=by
 have hp:=sE i;unfold qW;refine (EL (w:=w) h (by omega)).bind λv hv=>?_;refine (Cd (w:=v.2) h hv.1).bind λk hk=>?_;have hwv:WK w v.2:=λe=>(hv.2.2 e).1;rw [pP,hl];refine bD.eqn (v:=NI v.2 (k == 4) 132 x.fM) rfl (bD.eqn (v:=i) rfl ?_);refine (QH h hi hs hn (λe=>?_)).bind λr hr=>?_
 ·have:=(fV (k:=132) (by decide) e).1;obtain ⟨_,u,h1,_⟩:=hv.2.2 this;exact h.sc _ h1
 refine bD.eqn (v:=y) rfl ?_;refine (BD h hy hs2 hn2).bind λq hq=>Im.bind λb hb=>?_;rw [pP];refine .some ⟨hwv.trans ((WK.nd).trans (hr.1.wk.trans (hq.wk.trans WK.nd))),λe=>?_⟩;obtain ⟨k1,k2,_⟩:=fV (k:=132) (by decide) e;have er:r.2.e_=0:=by rw [←hq.wk k1];exact k1
 obtain ⟨j1,j2,_⟩:=fV (k:=132) (by decide) (by rw [←hr.1.wk er];exact er);obtain ⟨_,u,i2,i3,i4,_⟩:=hv.2.2 j1;have hu:aZ (uT c) v.1=some u:=by unfold aZ;rw [if_pos i3];exact i4
 have hu4:u.bK=4:=by
  rcases hk with ⟨hm,_⟩ | ⟨_,u2,hk2,rfl⟩
  ·omega
  ·rw [i4] at hk2;cases hk2;simpa using j2
 exact ⟨.put i2 hu hu4 (hr.1 er).2.1 (hr.2 er).1 ((hr.2 er).2 u hu) (hq k1).2.1 (hb k2) .nil,by rw [zG,Gf x,hl,Jf];simp only [uN,pQ];have:=(hr.1 er).2.2;have:=(hq k1).2.2;omega⟩
def Iv (s:aA):Prop:=s.dR=[114,101,116,117,114,110] ∨ s.dR=[99,97,108,108]/\s.eB=-2
theorem Tw (h:CI N B c) (hB:B+1<=1073741824) {x y:Nd} (hl:x.aL=[y]) (hy:WE y) (hs:sz y<=20000) (hn:3*sz y+301<=n) (hn2:20000<n) {a:Int} {l:Bool} :
  bD (qD n c w x ⟨[],-1,0,[],[],[],a⟩ l) λr=>CI N (B+1) r.2.1/\Kp c r.2.1/\WK w r.2.2/\St1 c r.2.1 r.2.2 l r.1 x/\(r.2.2.e_=0->Iv r.1):=by
 unfold qD;obtain ⟨f,_,hm,hvs,hfi⟩:=h.cur;rw [hfi,hl];refine bD.bind (P:=λw'=>WK w w'/\(w'.e_=0->l=true/\f.bN ≠ 0)) ?_ λw1 hw1=>?_
 ·simp only [dV,pP];refine bD.iteb (λhl=>.some ⟨WK.nd,λe=>⟨hl,?_⟩⟩) (λ_=>.some ⟨WK.nd,λe=>?_⟩)
  ·simpa using (fV (k:=135) (by decide) e).2.1
  ·have:=(fV (k:=135) (by decide) e).2.1;cases this
 refine bD.bind (P:=λb=>b=true->y.bK=17) ?_ λb hb=>bD.iteb (λhbt=>?_) (λ_=>?_)
 ·refine bD.iteb (λ_=>?_) (λ_=>.some λh=>nomatch h);exact bD.eqn (v:=y) rfl ((GM (c:=c) (w:=w1) (by omega)).bind λb hb=>.some hb)
 ·refine bD.eqn (v:=y) rfl ?_;obtain ⟨a,s,xs,rfl,hxs⟩:=hy.inv17 (hb hbt);rw [iP] at hs hn;refine (Hc h hB hxs (by simp only;omega) (by simp only;omega) hn2).bind λr hr=>?_;obtain ⟨h1,h2,h3,h4,h5,h6⟩:=hr;refine bD.iteb (λhe=>?_) (λhe=>.some ⟨h1,h2,hw1.1.trans h5,λe=>absurd e (by simpa using he),λe=>absurd e (by simpa using he)⟩);simp only [beq_iff_eq] at he;obtain ⟨f0,f1,g,zs,e1,e2,e3,e4,e9⟩:=h6 he;obtain ⟨g2,_,_,_,e5⟩:=h1.cur;have hvs':uT r.2.1=uT c:=by unfold uT;rw [h4,h2.f]
  rw [e2,e5];simp only [dV,pP];refine .some ⟨h1,h2,hw1.1.trans (h5.trans WK.nd),λe=>?_,λe=>.inr ?_⟩
  ·obtain ⟨hl2,hne⟩:=hw1.2 (by rw [←h5 he];exact he);subst hl2;have hr:=(fV (k:=132) (by decide) e).2.1
   have hg2:g2=f:=by
    rw [h2.f,h4,hfi] at e5;cases e5;rfl
   have hres:g.bN=MX c:=by
    rw [h.res hfi,←hg2];simpa using hr
   rw [e1,hvs',h3];exact ⟨.retc (hres ▸ e3) (by rw [h.res hfi];exact hne) e4,by rw [zG,Gf x,hl,tL,iP];simp only [uN];simp only at e9;omega⟩
  ·rw [e1];exact ⟨rfl,rfl⟩
 ·refine bD.eqn (v:=y) rfl ?_;refine (BD h hy hs hn).bind λr hr=>bD.eqn (v:=f) rfl (Im.bind λb hb=>?_);rw [pP];refine .some ⟨h.more (xdm B),.refl c,hw1.1.trans (hr.wk.trans WK.nd),λe=>?_,λ_=>.inl rfl⟩;obtain ⟨k1,k2,_⟩:=fV (k:=132) (by decide) e;obtain ⟨hl2,hne⟩:=hw1.2 (by rw [←hr.wk k1];exact k1);subst hl2;exact ⟨.ret (hr k1).2.1 (by rw [h.res hfi];exact hne) (by rw [h.res hfi];exact hb k2),by rw [zG,Gf x,hl,tL];simp only [uN,pQ];have:=(hr k1).2.2;omega⟩
end
section
variable {N B n:Nat} {c:aE} {w:aG}
theorem Jj {α:Type} {l l':List α} (h:l <+: l'):l'.take l.length=l:=by
 obtain ⟨r,rfl⟩:=h;rw [List.take_append_of_le_length (sZ _),xea]
theorem CI.scope {c':aE} (h:CI N B c') (h0:CI N B c) (k:Kp c c'):CI N B { c' with bB:=c.bB }/\Kp c { c' with bB:=c.bB }:=by
 refine ⟨⟨h.nf,h.nN,h.f0,h.f1,h.a0,h.a1,λv hv=>?_,?_,h.vl,h.nc,h.cl,h.ki⟩,⟨k.f,k.a,Sb _,k.v,k.o,k.g,k.k,k.l⟩⟩
 ·have h1:=h0.sc v hv;have h2:=k.v.length_le;have:uT { c' with bB:=c.bB }=uT c':=rfl;rw [this];omega
 ·have h1:=h0.sl;have h2:=k.v.length_le;have:uT { c' with bB:=c.bB }=uT c':=rfl;rw [this];show c.bB.length<=_;omega
end
def Lv2 (N B:Nat) (k:Int) (c:aE) (w:aG) (c':aE) (w':aG):Prop:=(∃B':Nat,(B':Int)<=B+k/\CI N B' c')/\Kp c c'/\WK w w'
def StL (c c':aE) (b:Bool) (ss:List aA):Prop:=∃sc',TB (sgC c') (uT c') (MX c) b (uT c).length c.bB ss (uT c').length sc'
def RetL (l:List aB) (ss:List aA):Prop:=∀y,l.getLast? = some y->y.bK=13->∃s,ss.getLast? = some s/\Iv s
def OkSm (N n:Nat) (f:aE->aG->aB->Bool->Option (aA × aE × aG)):Prop:=∀B c w x b,CI N B c->WS x->sz x<=20000->(B:Int)+sz x<=1073741824->3*sz x+20301<=n->bD (f c w x b) λr=>Lv2 N B (sz x) c w r.2.1 r.2.2/\St1 c r.2.1 r.2.2 b r.1 x/\(r.2.2.e_=0->x.bK=13->Iv r.1)
def OkBk (N n:Nat) (f:aE->aG->aB->Bool->Option ((List aA) × aE × aG)):Prop:=∀B c w x b,CI N B c->(∀y ∈ x.aL,WS y)->wC x.aL<=20000->(B:Int)+wC x.aL<=1073741824->3*wC x.aL+20302<=n->bD (f c w x b) λr=>(Lv2 N B (wC x.aL) c w r.2.1 r.2.2/\r.2.1.bB=c.bB)/\(r.2.2.e_=0->StL c r.2.1 b r.1/\RetL x.aL r.1/\(uN r.1:Int)<=wC x.aL)
section
variable {N B n:Nat} {c:aE} {w:aG}
theorem Tu {m:Nat} {x:Nd} {b:Bool} {fs:aE->aG->aB->Bool->Option (aA × aE × aG)} (hf:OkSm N m fs) (hs:wC x.aL<=20000) (hm:3*wC x.aL+20301<=m) :
  ∀(k v B:Nat) (ys:List aA) (c:aE) (w:aG),x.aL.length<v+k->v<=x.aL.length->ys.length=v->CI N B c->(∀y ∈ x.aL.drop v,WS y)->(B:Int)+wC (x.aL.drop v)<=1073741824->bD (kL fs x b k ys (v:Int) c w) λr=>Lv2 N B (wC (x.aL.drop v)) c w r.2.1 r.2.2/\(r.2.2.e_=0->∃ss,r.1=ys++ss/\TB (sgC r.2.1) (uT r.2.1) (MX c) b (uT c).length c.bB ss (uT r.2.1).length r.2.1.bB/\RetL (x.aL.drop v) ss/\(uN ss:Int)<=wC (x.aL.drop v))/\(v=x.aL.length->r.1=ys/\r.2.1=c):=by
 intro k
 induction k with
 | zero=>intro v B ys c w h1 h2;omega
 | succ k ih=>
   intro v B ys c w h1 h2 h3 h hx hB;unfold kL;have hg:=pY x.aL;have hg0:=pY (x.aL.drop v)
   by_cases hv:v<x.aL.length
   ·rw [if_pos (tA (by omega))];have hd:x.aL.drop v=x.aL[v]::x.aL.drop (v+1):=NQ hv;have e:aZ x.aL (v:Int)=some x.aL[v]:=by unfold aZ;rw [if_pos (by omega),Dq,wB hv]
    have hsz:=Ku (LU hv);rw [hd,vL] at hB ⊢;have hg1:=pY (x.aL.drop (v+1));have hp:=sE x.aL[v];rw [e];simp only [dV];refine bD.iteb (λhe=>.some ⟨⟨⟨B,by omega,h⟩,.refl c,.refl w⟩,λe=>absurd e (by simpa using he),λ_=>⟨rfl,rfl⟩⟩) (λhe=>?_);have GW:∀b2,bD (fs c w x.aL[v] b2) λr=>Lv2 N B (sz x.aL[v]) c w r.2.1 r.2.2/\St1 c r.2.1 r.2.2 b2 r.1 x.aL[v]/\(r.2.2.e_=0->(x.aL[v]).bK=13->Iv r.1):=λb2=>hf B c w _ b2 h (hx _ (by rw [hd];exact xds)) (by omega) (by omega) (by omega);refine bD.bind (P:=λr=>Lv2 N B (sz x.aL[v]) c w r.2.1 r.2.2/\∃s b2,r.1=ys++[s]/\St1 c r.2.1 r.2.2 b2 s x.aL[v]/\(b2=true->b=true/\v+1=x.aL.length)/\(r.2.2.e_=0->(x.aL[v]).bK=13->Iv s)) ?_ λr hr=>?_
    ·refine bD.iteb (λhb=>?_) (λ_=>?_)
     ·exact (GW _).bind λr hr=>bD.need (by simp only [sW];omega) (.some ⟨hr.1,r.1,_,rfl,hr.2.1,λh2=>⟨hb,by
       rw [cG (by omega) (by omega),beq_iff_eq] at h2;omega⟩,hr.2.2⟩)
     ·exact (GW false).bind λr hr=>bD.need (by simp only [sW];omega) (.some ⟨hr.1,r.1,false,rfl,hr.2.1,λh2=>Bool.noConfusion h2,hr.2.2⟩)
    ·obtain ⟨⟨⟨B',hb',h'⟩,hk,hw⟩,s,b2,hr1,hs1,hb2,hrt⟩:=hr;rw [cG (by omega) (by omega),show ((v:Int)+1)=((v+1:Nat):Int) by omega];refine (ih (v+1) B' _ _ _ (by omega) (by omega) (by rw [hr1,mX,sW];omega) h' (λy hy=>hx y (by rw [hd];exact Pt _ hy)) (by omega)).mono λq hq=>?_;obtain ⟨⟨⟨B2,hbb,h2⟩,hk2,hw2⟩,hT,hend⟩:=hq;refine ⟨⟨⟨B2,by omega,h2⟩,hk.trans hk2,hw.trans hw2⟩,λe=>?_,λh=>by omega⟩;obtain ⟨ss,hq1,hT1,hR,hZ⟩:=hT e;have e2:r.2.2.e_=0:=by rw [←hw2 e];exact e
     refine ⟨s::ss,by rw [hq1,hr1,Gb];rfl,?_,?_,by rw [uN];have:=(hs1 e2).2;omega⟩
     ·have t1:=(hs1 e2).1.mono (λk r ps h=>Kp.sg h' hk2 h) hk2.v;rw [hk.res h] at hT1;cases b2 with
      | false=>exact t1.app rfl hT1
      | true=>
        obtain ⟨rfl,hvl⟩:=hb2 rfl;obtain ⟨q1,q2⟩:=hend hvl
        have hss:ss=[]:=by
         rw [q1] at hq1;simpa using hq1
        subst hss;rw [q2];exact (hs1 e2).1
     ·intro y hy hk13;rw [List.getLast?_cons] at hy;cases hl:(x.aL.drop (v+1)).getLast? with
      | none=>
        rw [hl] at hy;have hnil:=List.getLast?_eq_none_iff.1 hl
        have hv1:v+1=x.aL.length:=by
         have:=List.drop_eq_nil_iff.1 hnil;omega
        obtain ⟨q1,q2⟩:=hend hv1
        have hss:ss=[]:=by
         rw [q1] at hq1;simpa using hq1
        subst hss;cases hy;exact ⟨s,rfl,hrt e2 hk13⟩
      | some y2=>
        rw [hl] at hy;cases hy;obtain ⟨s2,h5,h6⟩:=hR _ hl hk13;exact ⟨s2,by rw [List.getLast?_cons,h5];rfl,h6⟩
   ·rw [if_neg (by simp;omega)];have hnil:x.aL.drop v=[]:=TR (by omega);rw [hnil];exact .some ⟨⟨⟨B,by rw [oP];omega,h⟩,.refl c,.refl w⟩,λe=>⟨[],(Ga _).symm,.nil,(λy hy=>nomatch hy),by rw [uN,oP];decide⟩,λ_=>⟨rfl,rfl⟩⟩
theorem Wt {fs:aE->aG->aB->Bool->Option (aA × aE × aG)} (hf:OkSm N n fs):OkBk N (n+1) (nM fs n):=by
 intro B c w x b h hx hs hB hn;unfold nM;have hg:=pY x.aL;refine (Tu hf hs (by omega) n 0 B [] c w (by omega) (by omega) rfl h (by rw [Ct];exact hx) (by rw [Ct];exact hB)).bind λr hr=>?_;rw [Ct] at hr;obtain ⟨⟨⟨B',hb',h'⟩,hk,hw⟩,hT,_⟩:=hr;have hle:=hk.s.length_le;refine bD.need (by omega) (.some ?_);rw [Jj hk.s];have hB':=(h.more (B':=max B B') (by omega));obtain ⟨k1,k2⟩:=(h'.more (B':=max B B') (by omega)).scope hB' hk;refine ⟨⟨⟨⟨max B B',by omega,k1⟩,k2,hw⟩,rfl⟩,λe=>?_⟩;obtain ⟨ss,e1,e2,e3,e4⟩:=hT e;rw [Dh] at e1;rw [e1];exact ⟨⟨_,e2⟩,e3,e4⟩
def OkLp (N n:Nat) (f:aE->aG->aB->aA->Option (aA × aE × aG)):Prop:=∀B c w x st,CI N B c->WS x->x.bK=12->sz x<=20000->(B:Int)+sz x<=1073741824->3*sz x+20300<=n->(∃a,st=⟨[],-1,0,[],[],[],a⟩)->∀b,bD (f c w x st) λr=>Lv2 N B (sz x) c w r.2.1 r.2.2/\St1 c r.2.1 r.2.2 b r.1 x
theorem WS.inv12 {x:Nd} (h:WS x) (k:x.bK=12):∃a s y z b ys,x=⟨12,a,s,0,[y,z,⟨4,b,[],0,ys⟩]⟩/\WE y/\WE z/\∀u ∈ ys,WS u:=by
 cases h with
 | loop h1 h2 h3=>exact ⟨_,_,_,_,_,_,rfl,h1,h2,h3⟩
 | bind hk _=>rcases hk with rfl | rfl <;> simp at k
 | _=>simp at k
theorem cloop_b {fb:aE->aG->aB->Bool->Option ((List aA) × aE × aG)} (hf:OkBk N n fb):OkLp N (n+1) (oH fb n):=by
 rintro B c w x st h hx hk hs hB hn ⟨sa,rfl⟩ bl;obtain ⟨a,s,y,z,b,ys,rfl,hy,hz,hys⟩:=hx.inv12 hk;rw [iP,Me,iP] at hs hB hn ⊢;have h1:=sE y;have h2:=sE z;have h3:=pY ys;unfold oH;refine bD.eqn (v:=y) rfl ((vA (w:=w) h hy (by omega) (by omega)).bind λr1 hr1=>?_);refine bD.eqn (v:=z) rfl ((vA (w:=r1.2) h hz (by omega) (by omega)).bind λr2 hr2=>?_);refine (uZ (w:=r2.2) h (by omega) λ_=>Us).bind λd hd=>?_;obtain ⟨d1,d2,d3,d4,d5,d6⟩:=hd;refine bD.eqn (v:=⟨4,b,[],0,ys⟩) rfl ((hf B _ _ _ false d1 hys (by simp only;omega) (by simp only;omega) (by simp only;omega)).bind λq hq=>?_);obtain ⟨⟨⟨⟨B',hb',h'⟩,hk',hw'⟩,hsc⟩,hT⟩:=hq;have hkk:=d2.trans hk';have hle:=hkk.s.length_le;refine bD.need (by omega) (.some ?_);have hmin:(min (c.bB.length:Int) (q.2.1.bB.length:Int)).toNat=c.bB.length:=by omega
 rw [hmin,Jj hkk.s];simp only at hb';obtain ⟨k1,k2⟩:=(h'.more (B':=max B B') (by omega)).scope (h.more (B':=max B B') (by omega)) hkk;refine ⟨⟨⟨max B B',by omega,k1⟩,k2,hr1.1.wk.trans (hr2.1.wk.trans (WK.trans (λe=>(d5 e).1) hw'))⟩,λe=>?_⟩;have ed:d.2.2.e_=0:=by rw [←hw' e];exact e
 obtain ⟨g1,g2,g3,g4⟩:=d5 ed;have e2:r2.2.e_=0:=by rw [←g1];exact ed
 have e1:r1.2.e_=0:=by rw [←hr2.1.wk e2];exact e2
 obtain ⟨⟨sc',hT1⟩,_,hZ⟩:=hT e;rw [d2.res h,g3,g4,mX,sW] at hT1;have hv:uT c <+: uT q.2.1:=hkk.v;have hu:(uT q.2.1)[(uT c).length]? = some ⟨s,1,0⟩:=FA hk'.v (by rw [g3];exact Gy);simp only;rw [g2];refine ⟨.AZ ((hr1.1 e1).2.1.mono hv λ_ h=>h) (hr1.2 e1) ((hr2.1 e2).2.1.mono hv λ_ h=>h) (hr2.2 e2) hu rfl hT1 .nil,?_⟩;rw [zG,iP,Me,iP];simp only [pQ,uN];simp only at hZ;have:=(hr1.1 e1).2.2;have:=(hr2.1 e2).2.2;omega
end
section
variable {N B n:Nat} {c:aE} {w:aG}
theorem Lv2.one {k:Int} {c':aE} {w':aG} (hk:1<=k) (h:CI N (B+1) c'/\Kp c c'/\WK w w'):Lv2 N B k c w c' w':=⟨⟨B+1,by omega,h.1⟩,h.2⟩
theorem Lv2.zero {k:Int} {c':aE} {w':aG} (hk:0<=k) (h:CI N B c') (h2:Kp c c') (h3:WK w w'):Lv2 N B k c w c' w':=⟨⟨B,by omega,h⟩,h2,h3⟩
theorem VA {a:Int} (h:FF (i64.wrap (min a 1025))):FF (i64.wrap a):=by
 by_cases h1:a<=1025
 ·rwa [show min a 1025=a by omega] at h
 ·rw [show min a 1025=1025 by omega,show i64.wrap 1025=1025 by decide] at h;exact absurd h (by unfold FF;omega)
theorem cstmt_b {fb:aE->aG->aB->Bool->Option ((List aA) × aE × aG)} {fl:aE->aG->aB->aA->Option (aA × aE × aG)} (hf:OkBk N n fb) (hl:OkLp N n fl):OkSm N (n+1) (kS fb fl n):=by
 intro B c w x b h hx hs hB hn;have hp:=sE x;unfold kS;cases hx with
 | bind hk hy=>
   rw [iP,tL] at hs hB hn hp ⊢
   rcases hk with rfl | rfl
   ·simp only [Int.reduceBEq,FZ,if_false,if_true];refine bD.eqn rfl ((vA (w:=w) h hy (by omega) (by omega)).bind λr hr=>?_);refine (uZ (w:=r.2) h (by omega) λ_=>Us).bind λd hd=>.some ⟨.zero (by omega) hd.1 hd.2.1 (hr.1.wk.trans λe=>(hd.2.2.2.2.1 e).1),λe=>?_,λ_ h=>absurd h (by decide)⟩;obtain ⟨d1,d2,d3,d4⟩:=hd.2.2.2.2.1 e;have er:r.2.e_=0:=by rw [←d1];exact e
    simp only;rw [d2,d3,d4,mX,sW];exact ⟨.let_ ((hr.1 er).2.1.mono (MH _ _) λ_ h=>h) (hr.2 er) Gy rfl .nil,by rw [zG,iP,tL];simp only [uN,pQ];have:=(hr.1 er).2.2;omega⟩
   ·simp only [Int.reduceBEq,FZ,if_false,if_true];exact (QJ h (by omega) rfl hy (by omega) (by omega) (by omega)).bind λr hr=>.some ⟨.one (by omega) ⟨hr.1,hr.2.1,hr.2.2.1⟩,hr.2.2.2,λ_ h=>absurd h (by decide)⟩
 | arr=>
   rw [iP,oP] at hs hB hn hp ⊢;simp only [Int.reduceBEq,FZ,if_false,if_true];refine Mi.bind λk hk=>?_;rw [pP];refine (uZ (w:=NI w k 136 _) h (by omega) λe=>Ur ?_).bind λd hd=>.some ⟨.zero (by omega) hd.1 hd.2.1 ((WK.nd).trans λe=>(hd.2.2.2.2.1 e).1),λe=>?_,λ_ h=>absurd h (by decide)⟩
   ·exact VA (hk (fV (k:=136) (by decide) e).2.1)
   ·obtain ⟨d1,d2,d3,d4⟩:=hd.2.2.2.2.1 e;simp only;rw [d2,d3,d4,mX,sW];exact ⟨.arr Gy rfl .nil,by rw [zG,iP,oP];simp only [uN,pQ];omega⟩
 | ret hy=>
   rw [iP,tL] at hs hB hn hp ⊢;simp only [Int.reduceBEq,FZ,if_false,if_true];exact (Tw h (by omega) rfl hy (by omega) (by omega) (by omega)).bind λr hr=>.some ⟨.one (by omega) ⟨hr.1,hr.2.1,hr.2.2.1⟩,hr.2.2.2.1,λe _=>hr.2.2.2.2 e⟩
 | loop h1 h2 h3=>
   simp only [Int.reduceBEq,FZ,if_false,if_true];exact (hl B c w _ _ h (.loop h1 h2 h3) rfl hs hB (by omega) ⟨_,rfl⟩ b).bind λr hr=>.some ⟨hr.1,hr.2,λ_ h=>absurd h (by decide)⟩
 | set hy=>
   rw [iP,tL] at hs hB hn hp ⊢;simp only [Int.reduceBEq,FZ,if_false,if_true];exact (Wl h (by omega) rfl hy (by omega) (by omega) (by omega)).bind λr hr=>.some ⟨.one (by omega) ⟨hr.1,hr.2.1,hr.2.2.1⟩,hr.2.2.2,λ_ h=>absurd h (by decide)⟩
 | put hi hy=>
   rw [iP,Jf] at hs hB hn hp ⊢;rename_i i0 y0;have p1:=sE i0;have p2:=sE y0;simp only [Int.reduceBEq,FZ,if_false,if_true];exact (Wm h rfl hi hy (by omega) (by omega) (by omega) (by omega)).bind λr hr=>.some ⟨.zero (by omega) h (.refl c) hr.1,hr.2,λ_ h=>absurd h (by decide)⟩
 | call hy=>
   rw [iP] at hs hB hn hp ⊢;simp only [Int.reduceBEq,FZ,if_false,if_true];refine (Hc h (by omega) hy (by simp only;omega) (by simp only;omega) (by omega)).bind λr hr=>.some ⟨.one (by omega) ⟨hr.1,hr.2.1,hr.2.2.2.2.1⟩,λe=>?_,λ_ h=>absurd h (by decide)⟩;obtain ⟨h1,h2,h3,h4,h5,h6⟩:=hr;obtain ⟨f0,f1,f,zs,e1,e2,e3,e4,e9⟩:=h6 e;have hvs:uT r.2.1=uT c:=by unfold uT;rw [h4,h2.f]
   simp only;rw [e1,hvs,h3];exact ⟨.do_ e3 e4 .nil,by rw [zG,iP];simp only [uN];simp only at e9;omega⟩
 | choice h1 h2=>
   rw [iP,Jf,iP] at hs hB hn hp ⊢;rename_i c0 b0 ys;have p1:=sE c0;have p2:=pY ys;simp only [Int.reduceBEq,FZ,if_false,if_true];refine bD.eqn (v:=c0) rfl ((vA (w:=w) h h1 (by omega) (by omega)).bind λr hr=>?_);refine bD.eqn (v:=⟨4,b0,[],0,ys⟩) rfl ((hf B c _ _ false h h2 (by simp only;omega) (by simp only;omega) (by simp only;omega)).bind λq hq=>?_);obtain ⟨⟨⟨⟨B',hb',h'⟩,hk',hw'⟩,hsc⟩,hT⟩:=hq;simp only at hb';refine bD.need (by simp) ?_;obtain ⟨m,rfl⟩:∃m,n=m+1:=⟨n - 1,by omega⟩;unfold gN;refine .some ⟨⟨⟨B',by omega,h'⟩,hk',hr.1.wk.trans hw'⟩,λe=>?_,λ_ h=>absurd h (by decide)⟩;have er:r.2.e_=0:=by rw [←hw' e];exact e
   obtain ⟨⟨sc',hT1⟩,_,hZ⟩:=hT e;simp only;rw [hsc];refine ⟨.Jp ((hr.1 er).2.1.mono hk'.v λ_ h=>h) (hr.2 er) hT1 .nil .nil,?_⟩;rw [zG,iP,Jf,iP];simp only [pQ,uN];simp only at hZ;have:=(hr.1 er).2.2;omega
 | choice2 h1 h2 h4=>
   rw [iP,Me,iP,iP] at hs hB hn hp ⊢;rename_i c0 b0 ys b1 zs;have p1:=sE c0;have p2:=pY ys;have p3:=pY zs;simp only [Int.reduceBEq,FZ,if_false,if_true];refine bD.eqn (v:=c0) rfl ((vA (w:=w) h h1 (by omega) (by omega)).bind λr hr=>?_);refine bD.eqn (v:=⟨4,b0,[],0,ys⟩) rfl ((hf B c _ _ false h h2 (by simp only;omega) (by simp only;omega) (by simp only;omega)).bind λq hq=>?_);obtain ⟨⟨⟨⟨B',hb',h'⟩,hk',hw'⟩,hsc⟩,hT⟩:=hq;simp only at hb';refine bD.need (by simp) ?_;obtain ⟨m,rfl⟩:∃m,n=m+1+1:=⟨n - 2,by omega⟩;unfold gN;refine bD.bind' ?_;refine bD.iteb (λ_=>?_) (λhc=>by simp at hc);refine bD.eqn (v:=⟨4,b1,[],0,zs⟩) rfl ((hf B' q.2.1 _ _ false h' h4 (by simp only;omega) (by simp only;omega) (by simp only;omega)).bind λq2 hq2=>?_);obtain ⟨⟨⟨⟨B2,hb2,h5⟩,hk2,hw2⟩,hsc2⟩,hT2⟩:=hq2;simp only at hb2;unfold gN;refine .some (.some ⟨⟨⟨B2,by omega,h5⟩,hk'.trans hk2,hr.1.wk.trans (hw'.trans hw2)⟩,λe=>?_,λ_ h=>absurd h (by decide)⟩);have eq:q.2.2.e_=0:=by rw [←hw2 e];exact e
   have er:r.2.e_=0:=by rw [←hw' eq];exact eq
   obtain ⟨⟨sc1,hT1⟩,_,hZ⟩:=hT eq;obtain ⟨⟨sc2,hT3⟩,_,hZ2⟩:=hT2 e;rw [hk'.res h,hsc] at hT3;simp only;rw [hsc2,hsc];refine ⟨.Jp ((hr.1 er).2.1.mono (hk'.trans hk2).v λ_ h=>h) (hr.2 er) (hT1.mono (λ_ _ _ h=>Kp.sg h' hk2 h) hk2.v) hT3 .nil,?_⟩;rw [zG,iP,Me,iP,iP];simp only [pQ,uN];simp only at hZ hZ2;have:=(hr.1 er).2.2;omega
theorem Pe:∀n:Nat,OkBk N n (eI n).1/\OkSm N n (eI n).2.1/\OkLp N n (eI n).2.2
 | 0=>⟨λB c w x b _ _ _ _ h=>by have:=pY x.aL;omega,λB c w x b _ _ _ _ h=>by have:=sE x;omega,λB c w x st _ _ _ _ _ h _ _=>by have:=sE x;omega⟩
 | n+1=>by
   obtain ⟨g1,g2,g3⟩:=Pe n;exact ⟨Wt g2,cstmt_b g1 g3,cloop_b g1⟩
end
structure CO (N B:Nat) (c:aE):Prop where
 nf:c.p_.aV.length=N
 nN:N<=16384
 vl:∀f ∈ c.p_.aV,f.aR.length<=250/\0<=f.aT/\f.aT<=f.aR.length
 nc:c.bX.length=N
 cl:∀l ∈ c.bX,l.length<=B/\∀k ∈ l,0<=k/\k<N
 ki:∀f ∈ c.p_.aV,(∀v ∈ f.aR,EP v)/\(f.bN=0 ∨ f.bN=2 ∨ f.bN=3)
def rB (k:Nat):List Int:=(List.range k).map Int.ofNat
theorem Oq (k:Nat):rB (k+1)=rB k++[(k:Int)]:=by
 unfold rB;rw [List.range_succ,Ud];rfl
theorem KA (k:Nat):(rB k).length=k:=by unfold rB;simp
theorem Fg {k:Nat} {v:Int} (h:v ∈ rB k):0<=v/\v<k:=by
 unfold rB at h;obtain ⟨i,h1,rfl⟩:=LW.1 h;have:=TS.1 h1;have h2:Int.ofNat i=(i:Int):=rfl;omega
def BH:List aJ->Int->Int
 | [],n=>n
 | v::l,n=>BH l (if v.bK=3 then n+(n % 2+1)+1 else n+1)
theorem Um {f:aQ} (hl:(f.aR.take f.aT.toNat).length<=250):∀(k v:Nat) (a:Int),(f.aR.take f.aT.toNat).length<v+k->v<=(f.aR.take f.aT.toNat).length->0<=a->a<=4*(v:Int)->oN f k a (v:Int)=some (BH ((f.aR.take f.aT.toNat).drop v) a):=by
 intro k
 induction k with
 | zero=>intro v a h1 h2;omega
 | succ k ih=>
   intro v a h1 h2 h3 h4;unfold oN
   by_cases hv:v<(f.aR.take f.aT.toNat).length
   ·rw [if_pos (tA (by omega))];have hd:(f.aR.take f.aT.toNat).drop v=(f.aR.take f.aT.toNat)[v]::(f.aR.take f.aT.toNat).drop (v+1):=NQ hv;have e:aZ (f.aR.take f.aT.toNat) (v:Int)=some (f.aR.take f.aT.toNat)[v]:=by unfold aZ;rw [if_pos (by omega),Dq,wB hv]
    rw [hd,e];simp only [dV,BH,beq_iff_eq];have h5:=Int.emod_nonneg a (show (2:Int) ≠ 0 by decide);have h6:=Int.emod_lt_of_pos a (show (0:Int)<2 by decide);rw [cG (n:=(v:Int)+1) (by omega) (by omega),show ((v:Int)+1)=((v+1:Nat):Int) by omega]
    split
    ·rw [xeb h3,cG (n:=a % 2+1) (by omega) (by omega),cG (n:=a+(a % 2+1)) (by omega) (by omega),cG (by omega) (by omega)];exact ih (v+1) _ (by omega) (by omega) (by omega) (by omega)
    ·rw [cG (by omega) (by omega)];exact ih (v+1) _ (by omega) (by omega) (by omega) (by omega)
   ·rw [if_neg (by rw [sX];omega),TR (by omega)];rfl
theorem Un {f:aQ} {n:Nat} (h1:f.aR.length<=250) (h2:0<=f.aT) (h3:f.aT<=f.aR.length) (hn:300<n):tH n f=some (BH (f.aR.take f.aT.toNat) 0):=by
 have hl:(f.aR.take f.aT.toNat).length<=250:=by rw [JQ];omega
 unfold tH;rw [iR ⟨h2,h3⟩];have:=Um hl n 0 0 (by omega) (by omega) (by omega) (by omega);rw [show ((0:Nat):Int)=0 from rfl,Ct] at this;rw [this];rfl
section
variable {N B n:Nat} {c:aE} {w:aG}
theorem CO.ci (h:CO N B c) {i:Int} (h0:0<=i) (h1:i<N) {f:aQ} (hf:c.p_.aV[i.toNat]? = some f) {s:List Int} (hs:∀v ∈ s,0<=v/\v<f.aR.length) (hl:s.length<=f.aR.length):CI N B { c with f_:=i,bB:=s,gC:=i }:=by
 have hv:uT { c with f_:=i,bB:=s,gC:=i }=f.aR:=by unfold uT;simp only [hf];rfl
 exact ⟨h.nf,h.nN,h0,h1,h0,h1,by rw [hv];exact hs,by rw [hv];exact hl,h.vl,h.nc,h.cl,h.ki⟩
theorem Wf (h:CO N B c) {i:Int} (h0:0<=i) (h1:i<N) {f:aQ} (hf:c.p_.aV[i.toNat]? = some f) (hm:f ∈ c.p_.aV):∀(k v:Nat),f.aT<v+k->(v:Int)<=f.aT->bD (jB f k (v:Int) { c with f_:=i,bB:=rB v,gC:=i }) λr=>CI N B r/\r={ c with f_:=i,bB:=rB f.aT.toNat,gC:=i }:=by
 have hp:=h.vl f hm;intro k
 induction k with
 | zero=>intro v h2 h3;omega
 | succ k ih=>
   intro v h2 h3;unfold jB
   by_cases hv:(v:Int)<f.aT
   ·rw [if_pos (tA hv)];refine bD.need (by simp only [KA];omega) ?_;rw [cG (by omega) (by omega),show ((v:Int)+1)=((v+1:Nat):Int) by omega];have:=ih (v+1) (by omega) (by omega);rw [Oq] at this;exact this
   ·rw [if_neg (by simpa using hv)];have hv2:v=f.aT.toNat:=by omega
    subst hv2;refine .some ⟨h.ci h0 h1 hf (λu hu=>?_) (by rw [KA];omega),rfl⟩;have:=Fg hu;omega
theorem My (h:CO N B c) {i:Int} (h0:0<=i) (h1:i<N) (hn:300<n) {f:aQ} (hf:aZ c.p_.aV i=some f):bD (mL n c w i) λr=>CI N B r.1/\r.2=w/\r.1={ c with f_:=i,bB:=rB f.aT.toNat,gC:=i }:=by
 unfold mL;obtain ⟨f',e,e2,hm⟩:=oZ (l:=c.p_.aV) h0 (by rw [h.nf];exact h1);rw [hf] at e;cases e
 rw [hf];simp only [dV];have hp:=h.vl f hm;have e3:=Wf h h0 h1 e2 hm n 0 (by omega) (by omega);change bD (jB f n 0 { c with f_:=i,bB:=[],gC:=i }) _ at e3;exact e3.bind λr hr=>.some ⟨hr.1,rfl,hr.2⟩
theorem QC {xs:List Nd} (hx:∀x ∈ xs,WP x) (hs:xs.length<=20000) (hn:300<n):∀(k v:Nat) (c:aE) (w:aG),xs.length<v+k->v<=xs.length->CI N B c->bD (jW n xs k (v:Int) c w) λr=>CI N B r.1/\Kp c r.1/\WK w r.2/\r.1.bX=c.bX:=by
 intro k
 induction k with
 | zero=>intro v c w h1 h2;omega
 | succ k ih=>
   intro v c w h1 h2 h;unfold jW
   by_cases hv:v<xs.length
   ·rw [if_pos (tA (by omega))];refine bD.bind (P:=λr=>CI N B r.1/\Kp c r.1/\WK w r.2/\r.1.bX=c.bX) ?_ λr hr=>?_
    ·obtain ⟨x,e,_,hxm⟩:=oZ (l:=xs) (i:=(v:Int)) (by omega) (by omega);rw [e];simp only [dV];cases hx x hxm with
     | @word a s k hk=>
       have hk3:i64.wrap k=k/\1<=k/\k<=3:=by rcases hk with rfl | rfl | rfl <;> decide
       refine bD.bind (P:=λb=>b=false) (bD.iteb (λ_=>.some rfl) (λ_=>.some rfl)) λb hb=>?_;subst hb;refine bD.iteb (λh=>nomatch h) λ_=>(uZ (w:=w) h hn λ_=>?_).bind λd hd=>.some ⟨hd.1,hd.2.1,λe=>(hd.2.2.2.2.1 e).1,hd.2.2.1⟩;simp only [hk3.1];exact varOkW hk3.2.1 hk3.2.2
     | @arr a s b n1=>
       have w4:i64.wrap 4=4:=by decide
       simp only [w4,Int.reduceBEq,if_true,sW,Int.natCast_one,Int.reduceLT,decide_true,dV];refine bD.eqn (v:=⟨14,b,[],n1,[]⟩) rfl (Mi.bind λb2 hb2=>?_);rw [pP];exact (uZ (w:=NI w b2 136 _) h hn λe=>Ur (hb2 (fV (k:=136) (by decide) e).2.1)).bind λd hd=>.some ⟨hd.1,hd.2.1,WK.trans WK.nd λe=>(hd.2.2.2.2.1 e).1,hd.2.2.1⟩
    ·rw [cG (by omega) (by omega),show ((v:Int)+1)=((v+1:Nat):Int) by omega];exact (ih (v+1) _ _ (by omega) (by omega) hr.1).mono λq hq=>⟨hq.1,hr.2.1.trans hq.2.1,hr.2.2.1.trans hq.2.2.1,hq.2.2.2.trans hr.2.2.2⟩
   ·rw [if_neg (by simp;omega)];exact .some ⟨h,.refl c,.refl w,rfl⟩
theorem Uo {x:Nd} (h:WF x):∃ps b,x.aL=ps++[b]/\(∀p ∈ ps,WP p)/\(∀y ∈ b.aL,WS y)/\b=⟨4,b.fM,[],0,b.aL⟩:=by
 cases h with
 | fn h1 h2=>exact ⟨_,_,rfl,h1,h2,rfl⟩
theorem Rz {α:Type} {ps:List α} {b:α} (h:(ps++[b]).length<=20000):(max (i64.wrap (((ps++[b]).length:Int) - 1)) 0)=(ps.length:Int):=by
 simp only [mX,sW] at *;rw [cG (by omega) (by omega)];omega
theorem Kp.body {c':aE} (h:CI N B c) (k:Kp c c') {f:aQ} (e:aZ c.p_.aV c.f_=some f) {f':aQ} (e':aZ c'.p_.aV c'.f_=some f'):f'.gP=f.gP/\f'.dU=f.dU/\f'.bN=f.bN/\f'.aT=f.aT/\f.aR <+: f'.aR:=by
 obtain ⟨f2,e2,g1,g2,g3,g4,g5,_⟩:=k.fn h e;rw [k.f] at e';rw [e'] at e2;cases e2
 exact ⟨g1,g2,g3,g4,g5⟩
theorem Ts (h:CO N B c) {i:Int} (h0:0<=i) (h1:i<N) (hn:20300<n) {f:aQ} (hf:aZ c.p_.aV i=some f) (hb:f.bH=[]) {x:Nd} (hx:WF x) (hs:x.aL.length<=20000):bD (lL n c w i x) λr=>CO N B r.1/\WK w r.2/\r.1.bX=c.bX/\(∀j:Nat,j ≠ i.toNat->r.1.p_.aV[j]? = c.p_.aV[j]?)/\∃f',aZ r.1.p_.aV i=some f'/\f'.gP=f.gP/\f'.dU=f.dU/\f'.bN=f.bN/\f'.aT=f'.aR.length/\(r.2.e_=0->f'.dU=true->BH f'.aR 0<=4):=by
 obtain ⟨ps,b,hl,hps,_,_⟩:=Uo hx;have hla:=Rz (ps:=ps) (b:=b) (by rw [←hl];exact hs);rw [←hl] at hla;unfold lL;refine (My (w:=w) h h0 h1 (by omega) hf).bind λr hr=>?_;obtain ⟨g1,g2,g3⟩:=hr;rw [hla];have hll:x.aL.length=ps.length+1:=by rw [hl];simp
 refine bD.need ⟨by omega,by omega⟩ ?_;rw [Dq,show x.aL.take ps.length=ps by rw [hl];simp];unfold rE;refine bD.bind (P:=λq=>CO N B q.1/\WK w q.2/\q.1.f_=i/\q.1.bX=c.bX/\(∀j:Nat,j ≠ i.toNat->q.1.p_.aV[j]? = c.p_.aV[j]?)/\∃f',aZ q.1.p_.aV i=some f'/\f'.gP=f.gP/\f'.dU=f.dU/\f'.bN=f.bN/\f'.aT=f'.aR.length) ?_ λq hq=>?_
 ·refine (QC hps (by omega) (by omega) n 0 r.1 r.2 (by omega) (by omega) g1).bind λq hq=>?_;obtain ⟨k1,k2,k3,k4⟩:=hq;obtain ⟨f2,ef2,hm2,hv2,e2⟩:=k1.cur;rw [e2];simp only [dV];have hqf:q.1.f_=i:=by rw [k2.f,g3]
  have hrf:aZ r.1.p_.aV r.1.f_=some f:=by rw [g3];exact hf
  obtain ⟨b1,b2,b3,b4,b5⟩:=k2.body g1 hrf e2;have hlt:q.1.f_.toNat<q.1.p_.aV.length:=(vJ.1 ef2).1;refine .some ⟨⟨by simp only [vK];exact k1.nf,k1.nN,λg hg=>?_,k1.nc,k1.cl,λg hg=>?_⟩,by rw [←g2];exact k3,hqf,by rw [k4,g3],λj hj=>?_,{ f2 with aT:=(f2.aR.length:Int) },?_,b1,b2,b3,rfl⟩
  ·rcases Uj hg with hg | rfl
   ·exact k1.vl g hg
   ·have:=k1.vl f2 hm2;simp only;omega
  ·rcases Uj hg with hg | rfl
   ·exact k1.ki g hg
   ·exact k1.ki f2 hm2
  ·simp only;rw [Pz (by rw [hqf];omega),k2.o j (by rw [g3];exact hj),g3]
  ·unfold aZ;rw [if_pos h0];simp only
   rw [←hqf,PL hlt]
 ·obtain ⟨k1,k2,k3,k4,k5,f',k6,k7,k8,k9,k10⟩:=hq;refine bD.iteb (λhe=>?_) (λhe=>.some ⟨k1,k2,k4,k5,f',k6,k7,k8,k9,k10,λe=>absurd e (by simpa using he)⟩);rw [k3,k6];simp only [dV,pP];refine bD.bind' (bD.iteb (λhx=>.some (.some ⟨k1,k2.trans WK.nd,k4,k5,f',k6,k7,k8,k9,k10,λ_ hx2=>?_⟩)) (λhx=>?_))
  ·rw [hx2] at hx;cases hx
  ·have hm:f' ∈ q.1.p_.aV:=by
    unfold aZ at k6;rw [if_pos h0] at k6;exact FK k6
   have hv:=k1.vl f' hm;rw [Un hv.1 hv.2.1 hv.2.2 (by omega)];refine .some (.some ⟨k1,k2.trans WK.nd,k4,k5,f',k6,k7,k8,k9,k10,λe _=>?_⟩);have:=(fV (k:=136) (by decide) e).2.1;rw [k10,Dq,xea] at this;exact By this
def EZ (c:aE) (i:Nat):QS:=λk r ps=>(∃l,c.bX[i]? = some l/\k ∈ l)/\∃f,aZ c.p_.aV k=some f/\r=f.bN/\ps=f.aR.take f.aT.toNat
structure TF (sg:QS) (f:aQ):Prop where
 body:∃sc',TB sg f.aR f.bN true f.aT.toNat (rB f.aT.toNat) f.bH f.aR.length sc'
 ret:f.bN ≠ 0->∃s,f.bH.getLast? = some s/\Iv s
theorem Oo {b:Nd} (hl:b.aL.length<=20000):bD (vZ b) λr=>r=true->∃y,b.aL.getLast? = some y/\y.bK=13:=by
 unfold vZ;refine bD.bind (P:=λr=>r=true->∃y,b.aL.getLast? = some y/\y.bK=13) (bD.iteb (λh=>?_) (λ_=>.some λh=>Bool.noConfusion h)) λr hr=>.some hr;have h0:0<b.aL.length:=by have:=By h;omega
 rw [cG (by omega) (by omega)];obtain ⟨y,e,e2,_⟩:=oZ (l:=b.aL) (i:=(b.aL.length:Int) - 1) (by omega) (by omega);rw [e];refine .some λh=>⟨y,?_,by simpa using h⟩;rw [List.getLast?_eq_getElem?,←e2]
 congr 1
 omega
theorem Tt (h:CO N B c) {i:Int} (h0:0<=i) (h1:i<N) {f:aQ} (hf:aZ c.p_.aV i=some f) (hp:f.aT=f.aR.length) {x:Nd} (hx:WF x) (hs:sz x<=20000) (hB:(B:Int)+sz x<=1073741824) (hn:90000<=n):bD (lN n c w i x) λr=>(∃B':Nat,(B':Int)<=B+sz x/\CO N B' r.1)/\WK w r.2/\(∀j:Nat,j ≠ i.toNat->r.1.p_.aV[j]? = c.p_.aV[j]? /\ r.1.bX[j]? = c.bX[j]?)/\∃f',aZ r.1.p_.aV i=some f'/\f'.gP=f.gP/\f'.dU=f.dU/\f'.bN=f.bN/\f'.aT=f.aT/\f.aR <+: f'.aR/\(r.2.e_=0->TF (EZ r.1 i.toNat) f'/\(uN f'.bH:Int)<=sz x):=by
 obtain ⟨ps,b,hl,_,hbs,hbe⟩:=Uo hx;have hz:=Gf x;have hlen:=pY x.aL;have hla:=Rz (ps:=ps) (b:=b) (by rw [←hl];omega);rw [←hl] at hla;have hbz:=Ku (l:=x.aL) (k:=b) (by rw [hl];simp);have hbq:=Gf b;have hbg:=pY b.aL;unfold lN;refine (My (w:=w) h h0 h1 (by omega) hf).bind λr hr=>?_;obtain ⟨g1,g2,g3⟩:=hr;have hll:x.aL.length=ps.length+1:=by rw [hl];simp
 rw [hla];refine bD.need ⟨by omega,by omega⟩ ?_;obtain ⟨m,rfl⟩:∃m,n=m+1+1:=⟨n - 2,by omega⟩;unfold jM;rw [hla,Dq,show x.aL.drop ps.length=[b] by rw [hl];simp];have hrf:r.1.f_=i:=by rw [g3]
 refine bD.bind' ?_;rw [if_pos (by rw [sW];decide)];refine bD.eqn (v:=b) rfl ?_;obtain ⟨f0,ef0,hm0,hv0,e0⟩:=g1.cur;have e0f:aZ r.1.p_.aV r.1.f_=some f:=by rw [g3];exact hf
 rw [e0];rw [e0f] at e0;cases e0
 simp only [dV];refine ((Pe (m+1+1)).1 B r.1 r.2 b true g1 hbs (by omega) (by omega) (by omega)).bind λq hq=>?_;obtain ⟨⟨⟨⟨B',hb',h'⟩,hk,hw⟩,hsc⟩,hT⟩:=hq;obtain ⟨f2,ef2,hm2,hv2,e2⟩:=h'.cur;obtain ⟨b1,b2,b3,b4,b5⟩:=hk.body g1 e0f e2;have hqf:q.2.1.f_=r.1.f_:=hk.f;rw [hqf] at e2 ef2;rw [e2];simp only [dV];have hlt:r.1.f_.toNat<q.2.1.p_.aV.length:=(vJ.1 ef2).1
 have e3:aZ (q.2.1.p_.aV.set r.1.f_.toNat { f2 with bH:=q.1 }) r.1.f_=some { f2 with bH:=q.1 }:=by
  unfold aZ;rw [if_pos (by rw [hrf];exact h0),PL hlt]
 rw [e3];simp only [dV,pP]
 have hout:∀w2:aG,WK q.2.2 w2->(w2.e_=0->f.bN ≠ 0->∃s,q.1.getLast? = some s/\Iv s)->bD (jM (m+1+1) x (m+1) (i64.wrap ((0:Int)+1)) { q.2.1 with p_:=⟨q.2.1.p_.aV.set r.1.f_.toNat { f2 with bH:=q.1 }⟩ } w2) (λx_1=>bD (some (x_1.1,x_1.2)) λr=>(∃B':Nat,(B':Int)<=B+sz x/\CO N B' r.1)/\WK w r.2/\(∀j:Nat,j ≠ i.toNat->r.1.p_.aV[j]? = c.p_.aV[j]? /\ r.1.bX[j]? = c.bX[j]?)/\∃f',aZ r.1.p_.aV i=some f'/\f'.gP=f.gP/\f'.dU=f.dU/\f'.bN=f.bN/\f'.aT=f.aT/\f.aR <+: f'.aR/\(r.2.e_=0->TF (EZ r.1 i.toNat) f'/\(uN f'.bH:Int)<=sz x)):=by
  intro w2 hw2 hret;unfold jM;rw [hla,Dq,show x.aL.drop ps.length=[b] by rw [hl];simp,if_neg (by rw [sW];decide)];refine .some (.some ⟨⟨B',by omega,by simp only [vK];exact h'.nf,h'.nN,λg hg=>?_,h'.nc,h'.cl,λg hg=>?_⟩,by rw [←g2];exact hw.trans hw2,λj hj=>⟨?_,?_⟩,{ f2 with bH:=q.1 },?_,b1,b2,b3,b4,b5,λe=>⟨⟨?_,?_⟩,by have:=(hT (by rw [←hw2 e];exact e)).2.2;simp only;omega⟩⟩)
  ·rcases Uj hg with hg | rfl
   ·exact h'.vl g hg
   ·exact h'.vl f2 hm2
  ·rcases Uj hg with hg | rfl
   ·exact h'.ki g hg
   ·exact h'.ki f2 hm2
  ·simp only;rw [Pz (by rw [hrf];omega),hk.o j (by rw [hrf];exact hj),g3]
  ·simp only;rw [hk.k j (by rw [g3];exact hj),g3]
  ·rw [←hrf];exact e3
  ·obtain ⟨⟨sc',hTB⟩,_⟩:=hT (by rw [←hw2 e];exact e);rw [g1.res e0f,hv0,hv2,g3] at hTB;simp only at hTB;have hpp:f.aR.length=f2.aT.toNat:=by rw [b4,hp,Dq]
   rw [hpp,←b4,←b3] at hTB;refine ⟨sc',TB.mono (λk r' ps' hsg=>?_) (Sb _) hTB⟩;obtain ⟨⟨l,el,hkl⟩,f3,ef3,rfl,rfl⟩:=hsg;have hat:q.2.1.gC=i:=by rw [hk.a,g3]
   rw [hat] at el;unfold aZ at el;rw [if_pos h0] at el;refine ⟨⟨l,el,hkl⟩,?_⟩
   by_cases hki:k=r.1.f_
   ·subst hki;rw [e2] at ef3;cases ef3
    exact ⟨_,e3,rfl,rfl⟩
   ·refine ⟨f3,?_,rfl,rfl⟩;unfold aZ at ef3 ⊢
    split at ef3
    ·rename_i hk0;rw [if_pos hk0,Pz (by rw [hrf] at hki ⊢;omega)];exact ef3
    ·cases ef3
  ·simp only [b3];exact hret e
 refine bD.bind' (bD.iteb (λhr0=>.some (hout _ WK.nd λe hne=>?_)) (λhr0=>?_))
 ·exact absurd (by rw [beq_iff_eq] at hr0;rw [←b3];exact hr0) hne
 ·refine (Oo (b:=b) (by omega)).bind λrb hrb=>.some (hout _ WK.nd λe hne=>?_);obtain ⟨k1,k2,_⟩:=fV (k:=135) (by decide) e;obtain ⟨y,hy1,hy2⟩:=hrb k2;exact (hT k1).2.1 y hy1 hy2
end
def uJ (seen:List Int):Nat:=seen.countP (· == 0)
theorem QD {l:List Int} {i:Nat} {v:Int} (h:l[i]? = some 0) (hv:v ≠ 0):uJ (l.set i v)+1=uJ l:=by
 unfold uJ
 induction l generalizing i with
 | nil=>cases h
 | cons x l ih=>
   cases i with
   | zero=>
     simp only [xee,Option.some.injEq] at h;subst h;rw [Px,TT,TT];simp [hv]
   | succ i=>
     simp only [xdy] at h;have:=ih h;rw [Ug,TT,TT];omega
theorem Pd {l:List Int} {i:Nat} {v w:Int} (h:l[i]? = some w) (hv:v ≠ 0) (hw:w ≠ 0):uJ (l.set i v)=uJ l:=by
 unfold uJ
 induction l generalizing i with
 | nil=>cases h
 | cons x l ih=>
   cases i with
   | zero=>
     simp only [xee,Option.some.injEq] at h;subst h;rw [Px,TT,TT];simp [hv,hw]
   | succ i=>
     simp only [xdy] at h;have:=ih h;rw [Ug,TT,TT];omega
def FY (seen:List Int) (k:Int):Prop:=∃v,aZ seen k=some v/\v ≠ 0
def TK (c:aE) (to:Int) (seen:List Int) (k:Int):Prop:=∀l,aZ c.bX k=some l->∀j ∈ l,j ≠ to/\FY seen j
theorem FY.set {seen:List Int} {k j v:Int} (hv:v ≠ 0) (h:FY seen k) (hj:j.toNat<seen.length):FY (seen.set j.toNat v) k:=by
 obtain ⟨x,h1,h2⟩:=h;unfold aZ at h1
 split at h1
 ·rename_i h0
  by_cases e:j.toNat=k.toNat
  ·exact ⟨v,by unfold aZ;rw [if_pos h0,←e,PL hj],hv⟩
  ·exact ⟨x,by unfold aZ;rw [if_pos h0,Pz e];exact h1,h2⟩
 ·cases h1
theorem FY.unset {seen:List Int} {k j v:Int} (h:FY (seen.set j.toNat v) k) (hj:0<=j):FY seen k ∨ k=j:=by
 obtain ⟨x,h1,h2⟩:=h;unfold aZ at h1
 split at h1
 ·rename_i h0
  by_cases e:j.toNat=k.toNat
  ·right;omega
  ·rw [Pz e] at h1;exact .inl ⟨x,by unfold aZ;rw [if_pos h0];exact h1,h2⟩
 ·cases h1
theorem TK.mono {c:aE} {to:Int} {s s':List Int} {k:Int} (h:TK c to s k) (hs:∀j,FY s j->FY s' j):TK c to s' k:=λl e j hj=>⟨(h l e j hj).1,hs _ (h l e j hj).2⟩
structure Ra (c:aE) (to:Int) (B:Nat) (X:Int) (seen seen':List Int):Prop where
 le:uJ seen'<=uJ seen
 lo:∀v ∈ seen',0<=v/\v+((uJ seen'*B:Nat):Int)<=X
 up:∀k,FY seen k->FY seen' k
 sh:∀k,FY seen' k->FY seen k ∨ TK c to seen' k
section
variable {N B:Nat} {c:aE} {to:Int}
theorem reach_l {rec_:Int->List Int->Option (Bool × List Int)} {n:Nat} (hB:∀l ∈ c.bX,l.length<=B)
  (hrec:∀(k X:Int) (seen:List Int),0<=k->k<N->uJ seen<n->seen.length=N->(∀v ∈ seen,0<=v/\v+(((uJ seen+1)*B:Nat):Int)<=X)->X<=4611686018427387904->bD (rec_ k seen) λr=>r.2.length=N/\(r.1=false->Ra c to B X seen r.2/\TK c to r.2 k)) :
  ∀(ks seen:List Int) (X:Int),(∀k ∈ ks,0<=k/\k<N)->uJ seen<n+1->seen.length=N->(∀v ∈ seen,0<=v/\v+((uJ seen*B:Nat):Int)+ks.length<=X)->X<=4611686018427387904->bD (wW rec_ to ks seen) λr=>r.2.length=N/\(r.1=false->Ra c to B X seen r.2/\∀j ∈ ks,j ≠ to/\FY r.2 j):=by
 intro ks
 induction ks with
 | nil=>
   intro seen X h1 h2 h3 h4 h5;exact .some ⟨h3,λ_=>⟨⟨sZ _,λv hv=>by have:=h4 v hv;simp only [sY] at this ⊢;omega,λk h=>h,λk h=>.inl h⟩,λj hj=>nomatch hj⟩⟩
 | cons k ks ih=>
   intro seen X h1 h2 h3 h4 h5;unfold wW;obtain ⟨k0,k1⟩:=h1 k (xds);refine bD.iteb (λ_=>.some ⟨h3,λh=>Bool.noConfusion h⟩) λhkt=>?_;have hkt:k ≠ to:=by simpa using hkt
   obtain ⟨s,e,e2,hsm⟩:=oZ (l:=seen) (i:=k) k0 (by omega);have hs:=h4 s hsm;simp only [pX] at hs;rw [e,dV,cG (by omega) (by omega)];have hkl:k.toNat<seen.length:=by omega
   have hset:∀v ∈ seen.set k.toNat (s+1),0<=v/\v+((uJ seen*B:Nat):Int)+ks.length<=X:=λv hv=>by
    rcases Uj hv with hv | rfl
    ·have:=h4 v hv;simp only [pX] at this;omega
    ·omega
   refine bD.iteb (λhs1=>?_) (λhs1=>?_)
   ·have hs0:s=0:=by have:=eq_of_beq hs1;omega
    subst hs0;have hun:=QD (v:=0+1) e2 (by decide);refine (hrec k (X - ks.length) _ k0 k1 (by omega) (by rw [vK];exact h3) (λv hv=>?_) (by omega)).bind λr hr=>?_
    ·have:=hset v hv;rw [hun];omega
    ·refine bD.iteb (λhrt=>.some ⟨hr.1,λh=>Bool.noConfusion h⟩) λhrt=>?_;obtain ⟨hR,hS⟩:=hr.2 hrt;have hle:=hR.le;refine (ih r.2 X (λj hj=>h1 j (Pt _ hj)) (by omega) hr.1 (λv hv=>?_) h5).mono λq hq=>⟨hq.1,λhqf=>?_⟩
     ·have:=hR.lo v hv;omega
     ·obtain ⟨hQ,hJ⟩:=hq.2 hqf;have hsk:FY (seen.set k.toNat (0+1)) k:=⟨0+1,by unfold aZ;rw [if_pos k0,PL hkl],by decide⟩;have hqle:=hQ.le;refine ⟨⟨by omega,hQ.lo,λj hj=>hQ.up j (hR.up j (hj.set (by decide) hkl)),λj hj=>?_⟩,λj hj=>?_⟩
      ·rcases hQ.sh j hj with h | h
       ·rcases hR.sh j h with h | h
        ·rcases h.unset k0 with h | rfl
         ·exact .inl h
         ·exact .inr (hS.mono hQ.up)
        ·exact .inr (h.mono hQ.up)
       ·exact .inr h
      ·rcases ES.1 hj with rfl | hj
       ·exact ⟨hkt,hQ.up _ (hR.up _ hsk)⟩
       ·exact hJ j hj
   ·have hs0:s ≠ 0:=by rintro rfl;simp at hs1
    have hun:=Pd (v:=s+1) e2 (by omega) hs0;refine (ih _ X (λj hj=>h1 j (Pt _ hj)) (by rw [hun];omega) (by rw [vK];exact h3) (λv hv=>by rw [hun];exact hset v hv) h5).mono λq hq=>⟨hq.1,λhqf=>?_⟩;obtain ⟨hQ,hJ⟩:=hq.2 hqf;have hsk:FY (seen.set k.toNat (s+1)) k:=⟨s+1,by unfold aZ;rw [if_pos k0,PL hkl],by omega⟩;have hqle:=hQ.le;rw [hun] at hqle;refine ⟨⟨hqle,hQ.lo,λj hj=>hQ.up j (hj.set (by omega) hkl),λj hj=>?_⟩,λj hj=>?_⟩
    ·rcases hQ.sh j hj with h | h
     ·rcases h.unset k0 with h | rfl
      ·exact .inl h
      ·exact .inl ⟨s,e,hs0⟩
     ·exact .inr h
    ·rcases ES.1 hj with rfl | hj
     ·exact ⟨hkt,hQ.up _ hsk⟩
     ·exact hJ j hj
theorem SP (hN:c.bX.length=N) (hcl:∀l ∈ c.bX,l.length<=B/\∀k ∈ l,0<=k/\k<N) (hB:B<=1073741824):∀(n:Nat) (k X:Int) (seen:List Int),0<=k->k<N->uJ seen<n->seen.length=N->(∀v ∈ seen,0<=v/\v+(((uJ seen+1)*B:Nat):Int)<=X)->X<=4611686018427387904->bD (kX n c k to seen) λr=>r.2.length=N/\(r.1=false->Ra c to B X seen r.2/\TK c to r.2 k):=by
 intro n
 induction n with
 | zero=>intro k X seen _ _ h;omega
 | succ n ih=>
   intro k X seen k0 k1 h1 h2 h3 h4;unfold kX;obtain ⟨l,e,_,hm⟩:=oZ (l:=c.bX) k0 (by omega);obtain ⟨hl1,hl2⟩:=hcl l hm;rw [e,dV];refine bD.need (by omega) ?_;refine (reach_l (λl hl=>(hcl l hl).1) ih l seen X hl2 h1 h2 (λv hv=>?_) h4).mono λr hr=>⟨hr.1,λhf=>?_⟩
   ·have:=h3 v hv;rw [JS] at this;omega
   ·obtain ⟨hR,hJ⟩:=hr.2 hf;refine ⟨hR,λl2 e2 j hj=>?_⟩;rw [e] at e2;cases e2
    exact hJ j hj
inductive WN (c:aE):Int->Int->Prop
 | one {i k l}:aZ c.bX i=some l->k ∈ l->WN c i k
 | more {i j k l}:WN c i j->aZ c.bX j=some l->k ∈ l->WN c i k
theorem WN.cons {i j k:Int} {l:List Int} (h:WN c j k) (e:aZ c.bX i=some l) (hj:j ∈ l):WN c i k:=by
 induction h with
 | one e2 h2=>exact .more (.one e hj) e2 h2
 | more _ e2 h2 ih=>exact .more ih e2 h2
theorem Jd (N:Nat):uJ (List.replicate N 0)=N:=by
 unfold uJ;rw [List.countP_eq_length.2 (λv hv=>by rw [(xdk.1 hv).2];rfl),xdl]
theorem UZ (hN:c.bX.length=N) (hN2:N<=16384) (hcl:∀l ∈ c.bX,l.length<=B/\∀k ∈ l,0<=k/\k<N) (hB:B<=1073741824) {n:Nat} (hn:16384<n) {i:Int} (h0:0<=i) (h1:i<N):bD (kX n c i i (List.replicate N 0)) λr=>r.1=false->¬ WN c i i:=by
 have hmul:(N+1)*B<=16385*1073741824:=Nat.mul_le_mul (by omega) hB;refine (SP (to:=i) hN hcl hB n i 4611686018427387904 _ h0 h1 (by rw [Jd];omega) xdl (λv hv=>?_) (Se _)).mono λr hr hf hw=>?_
 ·rw [(xdk.1 hv).2,Jd];omega
 ·obtain ⟨hR,hS⟩:=hr.2 hf
  have hz:∀k,¬ FY (List.replicate N 0) k:=λk ⟨v,e,hv⟩=>by
   unfold aZ at e
   split at e
   ·exact hv (xdk.1 (FK e)).2
   ·cases e
  have key:∀k,WN c i k->FY r.2 k/\k ≠ i:=by
   intro k hk
   induction hk with
   | one e hk=>exact ⟨(hS _ e _ hk).2,(hS _ e _ hk).1⟩
   | more _ e hk ih=>
     rcases hR.sh _ ih.1 with h | h
     ·exact absurd h (hz _)
     ·exact ⟨(h _ e _ hk).2,(h _ e _ hk).1⟩
  exact (key i hw).2 rfl
theorem Tq {α:Type} {p q:α->Bool} {l:List α} (h:∀x ∈ l,p x=true->q x=true) {y:α} (hy:y ∈ l) (hq:q y=true) (hp:p y=false):l.countP p<l.countP q:=by
 induction l with
 | nil=>cases hy
 | cons x l ih=>
   rw [TT,TT];have hle:l.countP p<=l.countP q:=List.countP_mono_left λx hx=>h x (Pt _ hx)
   rcases ES.1 hy with rfl | hy
   ·rw [hq,hp];simp;omega
   ·have:=ih (λx hx=>h x (Pt _ hx)) hy;have hx:=h x xds;cases h1:p x <;> cases h2:q x <;> simp_all <;> omega
theorem ranks (hN:c.bX.length=N) (hcl:∀l ∈ c.bX,∀k ∈ l,0<=k/\k<N) (hac:∀i:Int,0<=i->i<N->¬ WN c i i):∃rk:Int->Nat,(∀i,rk i<=N)/\∀i l,aZ c.bX i=some l->∀k ∈ l,rk k<rk i:=by
 classical
 refine ⟨λi=>(List.range N).countP λk:Nat=>decide (WN c i (k:Int)),λi=>JR List.countP_le_length (by simp),λi l e k hk=>?_⟩
 have hlm:l ∈ c.bX:=by
  unfold aZ at e
  split at e
  ·exact FK e
  ·cases e
 obtain ⟨k0,k1⟩:=hcl l hlm k hk;have hkn:((k.toNat:Nat):Int)=k:=by omega
 refine Tq (y:=k.toNat) (λx _ hx=>?_) (TS.2 (by omega)) ?_ ?_
 ·exact tA ((By hx).cons e hk)
 ·rw [hkn];exact tA (.one e hk)
 ·rw [hkn];exact Sc (hac k k0 k1)
end
structure PO (c:aE) (rk:Int->Nat):Prop where
 co:CO c.p_.aV.length 1073741824 c
 n64:c.p_.aV.length<=64
 ex:∀f ∈ c.p_.aV,f.dU=true->BH (f.aR.take f.aT.toNat) 0<=4
 tf:∀(j:Nat) f,c.p_.aV[j]? = some f->TF (EZ c j) f
 sz:∀f ∈ c.p_.aV,uN f.bH<=3001
 rkN:∀i,rk i<=64
 rk:∀i l,aZ c.bX i=some l->∀k ∈ l,rk k<rk i
section
variable {N B n:Nat} {c:aE} {w:aG}
theorem CO.more {B':Nat} (h:CO N B c) (hb:B<=B'):CO N B' c:=⟨h.nf,h.nN,h.vl,h.nc,λl hl=>⟨JR (h.cl l hl).1 hb,(h.cl l hl).2⟩,h.ki⟩
theorem Qg {a:Int}:bD (yQ a) λr=>r=0 ∨ r=2 ∨ r=3:=by
 unfold yQ
 repeat' split
 ·exact .some (.inr (.inl rfl))
 ·exact .some (.inr (.inr rfl))
 ·exact .some (.inl rfl)
structure D0 (f:aQ):Prop where
 v:f.aR=[]
 p:f.aT=0
 b:f.bH=[]
 r:f.bN=0 ∨ f.bN=2 ∨ f.bN=3
theorem Vx {x:Nd} (hl:x.aL.length<=16384) (hn:16384<n):∀(k v:Nat) (c:aE) (w:aG),x.aL.length<v+k->v<=x.aL.length->c.p_.aV.length=v->c.f_=-1->(∀f ∈ c.p_.aV,D0 f)->bD (kK n x k (v:Int) c w) λr=>r.1.p_.aV.length=x.aL.length/\(∀f ∈ r.1.p_.aV,D0 f)/\WK w r.2:=by
 intro k
 induction k with
 | zero=>intro v c w h1 h2;omega
 | succ k ih=>
   intro v c w h1 h2 h3 h4 h5;unfold kK
   by_cases hv:v<x.aL.length
   ·rw [if_pos (tA (by omega))];obtain ⟨y,e,_,hym⟩:=oZ (l:=x.aL) (i:=(v:Int)) (by omega) (by omega);rw [e];simp only [dV];refine (Pn (by omega) hn).bind λq hq=>?_;refine bD.bind (P:=λw'=>WK w w') ?_ λw' hw'=>?_
    ·refine bD.iteb (λ_=>?_) (λ_=>?_)
     ·exact (IX (by omega)).bind λa _=>by rw [pP];exact .some WK.nd
     ·rw [pP];exact .some WK.nd
    ·refine Qg.bind λrr hrr=>bD.need (by omega) (bD.need (by omega) ?_);rw [cG (by omega) (by omega),show ((v:Int)+1)=((v+1:Nat):Int) by omega];refine (ih (v+1) { c with p_:=⟨c.p_.aV++[⟨y.cZ,(sJ .u32 y.jO (1:Int)) != (0:Int),rr,0,[],[]⟩]⟩ } w' (by omega) (by omega) (by simp only [mX,sW];omega) h4 λf hf=>?_).mono λr hr=>⟨hr.1,hr.2.1,hw'.trans hr.2.2⟩
     rcases Cu.1 hf with hf | hf
     ·exact h5 f hf
     ·obtain rfl:=AV.1 hf;exact ⟨rfl,rfl,rfl,hrr⟩
   ·rw [if_neg (by rw [sX];omega)];exact .some ⟨by simp only;omega,h5,.refl w⟩
theorem SU {x:Nd} (hl:x.aL.length<=16384) (hn:16384<n):bD (pD n aE.Z w x) λr=>CO x.aL.length 0 r.1/\(∀f ∈ r.1.p_.aV,D0 f)/\WK w r.2/\(r.2.e_=0->x.aL.length<=64):=by
 unfold pD;rw [pP,dV];refine (Vx hl hn n 0 aE.Z _ (by omega) (by omega) rfl rfl λf hf=>nomatch hf).bind λr hr=>bD.need (by omega) (.some ?_);obtain ⟨h1,h2,h3⟩:=hr;refine ⟨⟨h1,hl,λf hf=>?_,xdl,λl hl=>?_,λf hf=>?_⟩,h2,(WK.nd).trans h3,λe=>?_⟩
 ·rw [(h2 f hf).v,(h2 f hf).p];exact ⟨by decide,by decide,by decide⟩
 ·rw [(xdk.1 hl).2];exact ⟨sZ _,λk hk=>nomatch hk⟩
 ·rw [(h2 f hf).v];exact ⟨λv hv=>(by cases hv),(h2 f hf).r⟩
 ·have e2:(NI w (decide ((x.aL.length:Int)<=64)) 136 x.fM).e_=0:=by rw [←h3 e];exact e
  have:=By (fV (k:=136) (by decide) e2).2.1;omega
def D1 (f:aQ):Prop:=f.aT=f.aR.length/\(f.dU=true->BH f.aR 0<=4)
theorem wE {α:Type} {l:List α} {i:Nat} {x:α} (h:l[i]? = some x):aZ l (i:Int)=some x:=by
 unfold aZ;rw [if_pos (by omega),Dq];exact h
theorem Al {α:Type} {l:List α} {i:Nat} {x:α} (h:aZ l (i:Int)=some x):l[i]? = some x:=by
 unfold aZ at h;rw [if_pos (by omega),Dq] at h;exact h
theorem Tc (hn:20300<n):∀(l:List Nd) (i:Nat) (c:aE) (w:aG),CO N B c->i+l.length=N->(∀x ∈ l,WF x/\x.aL.length<=20000)->(∀(j:Nat) f,i<=j->c.p_.aV[j]? = some f->f.bH=[])->(w.e_=0->∀(j:Nat) f,j<i->c.p_.aV[j]? = some f->D1 f)->bD (tX (λi f c w=>lL n c w i f) l i c w) λr=>CO N B r.1/\WK w r.2/\r.1.bX=c.bX/\(r.2.e_=0->∀(j:Nat) f,r.1.p_.aV[j]? = some f->D1 f):=by
 intro l
 induction l with
 | nil=>
   intro i c w h h1 h2 h3 h4;refine .some ⟨h,.refl w,rfl,λe j f hf=>h4 e j f ?_ hf⟩;have hj:j<c.p_.aV.length:=(vJ.1 hf).1;have:=h.nf;simp only [sY] at h1;omega
 | cons x l ih=>
   intro i c w h h1 h2 h3 h4;simp only [pX] at h1;unfold tX
   by_cases he:(w.e_ == (0:Int))=true
   ·rw [if_pos he];have he0:w.e_=0:=by simpa using he
    obtain ⟨f,ef,ef2,_⟩:=oZ (l:=c.p_.aV) (i:=(i:Int)) (by omega) (by rw [h.nf];omega);obtain ⟨hx1,hx2⟩:=h2 x xds;refine (Ts (w:=w) h (i:=(i:Int)) (by omega) (by omega) hn ef (h3 i f (sZ _) (Al ef)) hx1 hx2).bind λr hr=>?_;obtain ⟨k1,k2,k3,k4,f',k5,k6,k7,k8,k9,k10⟩:=hr;rw [Dq] at k4;refine (ih (i+1) r.1 r.2 k1 (by omega) (λy hy=>h2 y (Pt _ hy)) (λj g hj hg=>?_) (λe j g hj hg=>?_)).mono λq hq=>⟨hq.1,k2.trans hq.2.1,hq.2.2.1.trans k3,hq.2.2.2⟩
    ·exact h3 j g (by omega) (by rw [←k4 j (by omega)];exact hg)
    ·by_cases hji:j=i
     ·subst hji;rw [Al k5] at hg;cases hg
      exact ⟨k9,k10 e⟩
     ·exact h4 he0 j g (by omega) (by rw [←k4 j hji];exact hg)
   ·rw [if_neg he];refine (ih (i+1) c w h (by omega) (λy hy=>h2 y (Pt _ hy)) (λj g hj hg=>h3 j g (by omega) hg) (λe=>absurd e (by simpa using he))).mono λq hq=>hq
theorem SB {c c':aE} {i j:Nat} (hv:∀f ∈ c.p_.aV,f.aT<=f.aR.length) (h1:∀k:Nat,k ≠ i->c'.p_.aV[k]? = c.p_.aV[k]?) (h2:c'.bX[j]? = c.bX[j]?) {f f':aQ} (e:c.p_.aV[i]? = some f) (e':c'.p_.aV[i]? = some f') (hr:f'.bN=f.bN) (hp:f'.aT=f.aT) (hx:f.aR <+: f'.aR) {k r:Int} {ps:List aJ} (h:EZ c j k r ps):EZ c' j k r ps:=by
 obtain ⟨⟨l,el,hk⟩,g,eg,rfl,rfl⟩:=h;refine ⟨⟨l,by rw [h2];exact el,hk⟩,?_⟩;unfold aZ at eg
 split at eg
 ·rename_i h0
  by_cases hki:k.toNat=i
  ·rw [hki,e] at eg;cases eg
   have:=hv f (FK e);refine ⟨f',by unfold aZ;rw [if_pos h0,hki];exact e',hr.symm,?_⟩;rw [hp,Kt hx (by omega)]
  ·exact ⟨g,by unfold aZ;rw [if_pos h0,h1 _ hki];exact eg,rfl,rfl⟩
 ·cases eg
theorem QP (hn:90000<=n):∀(l:List Nd) (i B:Nat) (c:aE) (w:aG),CO N B c->i+l.length=N->(∀x ∈ l,WF x/\sz x<=3001)->(B:Int)+wC l<=1073741824->(w.e_=0->∀(j:Nat) f,c.p_.aV[j]? = some f->(f.dU=true->BH (f.aR.take f.aT.toNat) 0<=4)/\(i<=j->f.aT=f.aR.length)/\(j<i->TF (EZ c j) f/\uN f.bH<=3001))->bD (tX (λi f c w=>lN n c w i f) l i c w) λr=>(∃B':Nat,(B':Int)<=B+wC l/\CO N B' r.1)/\WK w r.2/\(r.2.e_=0->∀(j:Nat) f,r.1.p_.aV[j]? = some f->(f.dU=true->BH (f.aR.take f.aT.toNat) 0<=4)/\TF (EZ r.1 j) f/\uN f.bH<=3001):=by
 intro l
 induction l with
 | nil=>
   intro i B c w h h1 h2 h3 h4;refine .some ⟨⟨B,by rw [oP];omega,h⟩,.refl w,λe j f hf=>⟨(h4 e j f hf).1,(h4 e j f hf).2.2 ?_⟩⟩;have hj:j<c.p_.aV.length:=(vJ.1 hf).1;have:=h.nf;simp only [sY] at h1;omega
 | cons x l ih=>
   intro i B c w h h1 h2 h3 h4;simp only [pX] at h1;rw [vL] at h3 ⊢;have hp:=sE x;have hg:=pY l;unfold tX
   by_cases he:(w.e_ == (0:Int))=true
   ·rw [if_pos he];have he0:w.e_=0:=by simpa using he
    obtain ⟨f,ef,ef2,hfm⟩:=oZ (l:=c.p_.aV) (i:=(i:Int)) (by omega) (by rw [h.nf];omega);obtain ⟨hx1,hx2⟩:=h2 x xds;obtain ⟨q1,q2,_⟩:=h4 he0 i f (Al ef);refine (Tt (w:=w) h (i:=(i:Int)) (by omega) (by omega) ef (q2 (sZ _)) hx1 (by omega) (by omega) hn).bind λr hr=>?_;obtain ⟨⟨B',hb',k1⟩,k2,k4,f',k5,k6,k7,k8,k9,k10,k11⟩:=hr;rw [Dq] at k4 k11;refine (ih (i+1) B' r.1 r.2 k1 (by omega) (λy hy=>h2 y (Pt _ hy)) (by omega) (λe j g hg=>?_)).mono λq hq=>?_
    ·by_cases hji:j=i
     ·subst hji;rw [Al k5] at hg;cases hg
      refine ⟨λhx=>?_,λh=>by omega,λ_=>⟨(k11 e).1,by have:=(k11 e).2;omega⟩⟩;rw [k9,Kt k10 (by have:=(h.vl f hfm).2;omega)];exact q1 (by rw [←k7];exact hx)
     ·obtain ⟨a1,a2,a3⟩:=h4 he0 j g (by rw [←(k4 j hji).1];exact hg);refine ⟨a1,λh=>a2 (by omega),λhlt=>?_⟩;obtain ⟨hT,hZ⟩:=a3 (by omega);obtain ⟨sc',hTB⟩:=hT.body;exact ⟨⟨⟨sc',hTB.mono (λk r' ps hs=>SB (λf hf=>(h.vl f hf).2.2) (λk hk=>(k4 k hk).1) (k4 j hji).2 (Al ef) (Al k5) k8 k9 k10 hs) (Sb _)⟩,hT.ret⟩,hZ⟩
    ·obtain ⟨⟨B2,hb2,h5⟩,h6,h7⟩:=hq;exact ⟨⟨B2,by omega,h5⟩,k2.trans h6,h7⟩
   ·rw [if_neg he];refine (ih (i+1) B c w h (by omega) (λy hy=>h2 y (Pt _ hy)) (by omega) (λe=>absurd e (by simpa using he))).mono λq hq=>?_;obtain ⟨⟨B2,hb2,h5⟩,h6,h7⟩:=hq;exact ⟨⟨B2,by omega,h5⟩,h6,h7⟩
theorem cyc_tot (h:CO N B c) (hB:B<=1073741824) (hn:16384<n):∀(l:List Nd) (i:Nat) (w:aG),i+l.length=N->bD (Ae n N c l i w) λw'=>WK w w'/\(w'.e_=0->∀j:Int,i<=j->j<N->¬ WN c j j):=by
 intro l
 induction l with
 | nil=>intro i w h1;exact .some ⟨.refl w,λe j h2 h3=>by simp only [sY] at h1;omega⟩
 | cons x l ih=>
   intro i w h1;simp only [pX] at h1;unfold Ae
   by_cases he:(w.e_ == (0:Int))=true
   ·rw [if_pos he];refine (UZ h.nc h.nN h.cl hB hn (i:=(i:Int)) (by omega) (by omega)).bind λr hr=>?_;rw [pP,dV];refine (ih (i+1) _ (by omega)).mono λq hq=>⟨(WK.nd).trans hq.1,λe j h2 h3=>?_⟩
    by_cases hji:j=i
    ·subst hji;have e2:(NI w (!r.1) 134 x.fM).e_=0:=by rw [←hq.1 e];exact e
     exact hr (by simpa using (fV (k:=134) (by decide) e2).2.1)
    ·exact hq.2 e j (by omega) h3
   ·rw [if_neg he];exact (ih (i+1) w (by omega)).mono λq hq=>⟨hq.1,λe=>absurd (hq.1 e ▸ e) (by simpa using he)⟩
theorem TO {s:bW} (hs:s.length<=3000) (hn:90000<=n):bD (AO n s) λr=>r.2.1=0->∃c rk,c.p_=r.1/\PO c rk:=by
 unfold AO;refine (Oz (n:=n) (s:=s) (by omega)).bind λp hp=>?_;refine bD.iteb (λhe=>.some λe=>absurd e (by simpa using he)) (λhe=>?_);obtain ⟨hw,hz⟩:=hp (by simpa using he);have hg:=pY p.1.aL;refine (SU (w:=⟨0,0⟩) (x:=p.1) (by omega) (by omega)).bind λa ha=>bD.need (by omega) ?_;obtain ⟨a1,a2,a3,a4⟩:=ha
 have hsz:∀x ∈ p.1.aL,sz x<=3001/\x.aL.length<=20000:=λx hx=>by
  have h1:=Ku hx;have h2:=Gf x;have h3:=pY x.aL;omega
 refine bD.bind (P:=λb=>(∃B':Nat,(B':Int)<=3001/\CO p.1.aL.length B' b.1)/\WK a.2 b.2/\(b.2.e_=0->∀(j:Nat) f,b.1.p_.aV[j]? = some f->(f.dU=true->BH (f.aR.take f.aT.toNat) 0<=4)/\TF (EZ b.1 j) f/\uN f.bH<=3001)) ?_ λb hb=>?_
 ·unfold xI;refine (Tc (n:=n) (by omega) p.1.aL 0 a.1 a.2 a1 (by omega) (λx hx=>⟨hw x hx,(hsz x hx).2⟩) (λj f _ hf=>(a2 f (FK hf)).b) (λ_ j f h=>by omega)).bind λq hq=>?_;obtain ⟨q1,q2,q3,q4⟩:=hq;unfold xI;refine (QP (n:=n) hn p.1.aL 0 0 q.1 q.2 q1 (by omega) (λx hx=>⟨hw x hx,(hsz x hx).1⟩) (by omega) (λe j f hf=>?_)).bind λr hr=>?_
  ·obtain ⟨d1,d2⟩:=q4 e j f hf;refine ⟨λhx=>?_,λ_=>d1,λh=>by omega⟩;rw [d1,Dq,xea];exact d2 hx
  ·obtain ⟨⟨B2,hb2,h5⟩,h6,h7⟩:=hr;unfold xI;exact .some ⟨⟨B2,by omega,h5⟩,q2.trans h6,h7⟩
 ·obtain ⟨⟨B',hb',b1⟩,b2,b3⟩:=hb;refine (cyc_tot (n:=n) b1 (by omega) (by omega) p.1.aL 0 b.2 (by omega)).bind λw hw2=>?_;refine bD.iteb (λhe2=>.some λe=>absurd e (by simpa using he2)) (λhe2=>.some λ_=>?_);have he2:w.e_=0:=by simpa using he2
  have eb:b.2.e_=0:=by rw [←hw2.1 he2];exact he2
  have ea:a.2.e_=0:=by rw [←b2 eb];exact eb
  have hN:=b1.nf;obtain ⟨rk,r1,r2⟩:=ranks b1.nc (λl hl=>(b1.cl l hl).2) (λi h0 h1=>hw2.2 he2 i h0 h1);refine ⟨b.1,rk,rfl,⟨by rw [hN];exact b1.more (by omega),by rw [hN];exact a4 ea,λf hf hx=>?_,λj f hf=>(b3 eb j f hf).2.1,λf hf=>?_,λi=>JR (r1 i) (a4 ea),r2⟩⟩
  ·obtain ⟨j,hj⟩:=List.getElem?_of_mem hf;exact (b3 eb j f hj).1 hx
  ·obtain ⟨j,hj⟩:=List.getElem?_of_mem hf;exact (b3 eb j f hj).2.2
end
