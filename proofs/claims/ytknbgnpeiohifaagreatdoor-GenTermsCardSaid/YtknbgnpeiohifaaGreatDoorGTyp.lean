import Derived.Test.YtknbgnpeiohifaaGreatDoorGTot
namespace Go.Proofs.YtknbgnpeiohifaaGreatDoor.Abs
open IntKind (i64 u32 u64 u8)
open Go.RowKit
set_option linter.all false
mutual
def xz:aB->Nat
 | ⟨_,_,_,_,l,_⟩=>1+nG l
def nG:List aB->Nat
 | []=>0
 | x::l=>xz x+nG l
end
mutual
def tz:aA->Nat
 | ⟨_,_,_,l,b,e,_⟩=>1+nG l+wF b+wF e
def wF:List aA->Nat
 | []=>0
 | x::l=>tz x+wF l
end
theorem Dg (x:aB):xz x=1+nG x.aN:=by cases x;rw [xz]
theorem Bz (x:aA):tz x=1+nG x.aN+wF x.bH+wF x.eG:=by cases x;rw [tz]
theorem Rf (a b:List aB):nG (a++b)=nG a+nG b:=by
 induction a with
 | nil=>rw [AE,nG,Lk]
 | cons x a ih=>rw [Ri,nG,nG,ih,xdr]
theorem tzL_app (a b:List aA):wF (a++b)=wF a+wF b:=by
 induction a with
 | nil=>rw [AE,wF,Lk]
 | cons x a ih=>rw [Ri,wF,wF,ih,xdr]
theorem IX (x:aB):1<=xz x:=by rw [Dg];omega
theorem YY (x:aA):1<=tz x:=by rw [Bz];omega
theorem Ca (l:List aB):l.length<=nG l:=by
 induction l with
 | nil=>exact Ko _
 | cons x l ih=>have:=IX x;rw [qB,nG];omega
theorem JS (l:List aA):l.length<=wF l:=by
 induction l with
 | nil=>exact Ko _
 | cons x l ih=>have:=YY x;rw [qB,wF];omega
theorem yI {l:List aB} {x:aB} (h:x ∈ l):xz x<=nG l:=by
 obtain ⟨a,b,rfl⟩:=List.append_of_mem h;rw [Rf,nG];omega
theorem Ro {l:List aA} {x:aA} (h:x ∈ l):tz x<=wF l:=by
 obtain ⟨a,b,rfl⟩:=List.append_of_mem h;rw [tzL_app,wF];omega
def Bo (n:Int):Prop:=1<=n/\n<=255 ∨ 255<n/\n<=1024/\n % 4=0
def Hz (v:aK):Prop:=1<=v.bJ/\v.bJ<=4/\(v.bJ=4->Bo v.jR)
theorem YU {s:cB}:Hz ⟨s,1,0⟩:=⟨(by decide:(1:Int)<=1),(by decide:(1:Int)<=4),λh=>cM h zd⟩
theorem YT {s:cB} {n:Int} (h:Bo n):Hz ⟨s,4,n⟩:=⟨(by decide:(1:Int)<=4),(by decide:(4:Int)<=4),λ_=>h⟩
theorem varOkW {s:cB} {k:Int} (h1:1<=k) (h2:k<=3):Hz ⟨s,k,0⟩:=⟨h1,yz,λh=>by simp only at h;omega⟩
def uO (a b:Int):Int:=if a=b/\1<=a/\a<=3 then a else if a=1/\b=2 ∨ a=2/\b=1 then 2 else 0
def Iw (t:Int):Int:=if t=1 then 2 else t
def Sc (t:Int):Prop:=t=1 ∨ t=2
def KC (t k:Int):Prop:=t=k ∨ t=1/\k=2
def Qn (o:cB) (x y:aB) (t:Int):Prop:=
 ((o=[47] ∨ o=[37])/\x.bR=1/\y.bR=1/\t=1) ∨
 ((o=[60,60] ∨ o=[62,62] ∨ o=[60,60,60])/\y.bR=1/\(x.bR=3->y.dJ=[110,117,109]/\y.N_<=63)/\t=x.bR) ∨
 (o=[42]/\t=uO x.bR y.bR/\t ≠ 3/\t ≠ 0) ∨
 ((o=[61,61] ∨ o=[60])/\uO x.bR y.bR ≠ 0/\t=if uO x.bR y.bR=3 then 2 else uO x.bR y.bR) ∨
 ((o=[124] ∨ o=[94] ∨ o=[38] ∨ o=[43] ∨ o=[45])/\t=uO x.bR y.bR/\t ≠ 0)
inductive TX (vs:List aK) (sc:List Int):aB->Prop
 | num {n a}:0<=n->n<=4294967295->TX vs sc ⟨[110,117,109],1,n,-1,[],a⟩
 | var {v u a}:v ∈ sc->aZ vs v=some u->u.bJ ≠ 4->TX vs sc ⟨[118,97,114],u.bJ,0,v,[],a⟩
 | index {v u i a}:v ∈ sc->aZ vs v=some u->u.bJ=4->TX vs sc i->i.bR=1->(i.dJ=[110,117,109]->i64.wrap i.N_<u.jR)->TX vs sc ⟨[105,110,100,101,120],2,0,v,[i],a⟩
 | un {o x a}:(o=[110,111,116] ∨ o=[110,101,103])->TX vs sc x->TX vs sc ⟨o,x.bR,0,-1,[x],a⟩
 | bin {o x y t a}:TX vs sc x->TX vs sc y->Qn o x y t->TX vs sc ⟨o,t,0,-1,[x,y],a⟩
 | sel {c x y a}:TX vs sc c->TX vs sc x->TX vs sc y->Sc c.bR->uO x.bR y.bR ≠ 0->TX vs sc ⟨[115,101,108,101,99,116],Iw (uO x.bR y.bR),0,-1,[c,x,y],a⟩
 | long {x a}:TX vs sc x->Sc x.bR->TX vs sc ⟨[108,111,110,103],3,0,-1,[x],a⟩
 | wide {x y a}:TX vs sc x->TX vs sc y->Sc x.bR->Sc y.bR->TX vs sc ⟨[119,105,100,101],3,0,-1,[x,y],a⟩
 | half {o x a}:(o=[108,111] ∨ o=[104,105])->TX vs sc x->x.bR=3->TX vs sc ⟨o,2,0,-1,[x],a⟩
inductive Lc (vs:List aK) (sc:List Int) (p:aK):aB->Prop
 | arr {v u a}:p.bJ=4->v ∈ sc->aZ vs v=some u->u.bJ=4->u.jR=p.jR->Lc vs sc p ⟨[118,97,114],4,0,v,[],a⟩
 | pub {x}:p.bJ=1->TX vs sc x->x.bR=1->Lc vs sc p x
 | val {x}:p.bJ ≠ 1->p.bJ ≠ 4->TX vs sc x->KC x.bR p.bJ->Lc vs sc p x
def Dr (vs:List aK) (sc:List Int) (ps:List aK) (l:List aB):Prop:=l.length=ps.length/\∀(i:Nat) p x,ps[i]? = some p->l[i]? = some x->Lc vs sc p x
abbrev Vz:=Int->Int->List aK->Prop
inductive TB (sg:Vz) (vs:List aK) (res:Int):Bool->Nat->List Int->List aA->Nat->List Int->Prop
 | nil {l n sc}:TB sg vs res l n sc [] n sc
 | let_ {l n sc x u a ss n' sc'}:TX vs sc x->x.bR=1->vs[n]? = some u->u.bJ=1->TB sg vs res l (n+1) (sc++[(n:Int)]) ss n' sc'->TB sg vs res l n sc (⟨[108,101,116],n,0,[x],[],[],a⟩::ss) n' sc'
 | var_ {l n sc x u a ss n' sc'}:TX vs sc x->vs[n]? = some u->u.bJ=Iw x.bR->TB sg vs res l (n+1) (sc++[(n:Int)]) ss n' sc'->TB sg vs res l n sc (⟨[118,97,114],n,0,[x],[],[],a⟩::ss) n' sc'
 | arr {l n sc u a ss n' sc'}:vs[n]? = some u->u.bJ=4->TB sg vs res l (n+1) (sc++[(n:Int)]) ss n' sc'->TB sg vs res l n sc (⟨[97,114,114],n,0,[],[],[],a⟩::ss) n' sc'
 | callv {l n sc f r ps xs u a ss n' sc'}:sg f r ps->Dr vs sc ps xs->r ≠ 0->vs[n]? = some u->u.bJ=r->TB sg vs res l (n+1) (sc++[(n:Int)]) ss n' sc'->TB sg vs res l n sc (⟨[99,97,108,108],n,f,xs,[],[],a⟩::ss) n' sc'
 | set {l n sc v u x a ss n' sc'}:v ∈ sc->aZ vs v=some u->(u.bJ=2 ∨ u.bJ=3)->TX vs sc x->KC x.bR u.bJ->TB sg vs res l n sc ss n' sc'->TB sg vs res l n sc (⟨[115,101,116],v,0,[x],[],[],a⟩::ss) n' sc'
 | calls {l n sc v u f r ps xs a ss n' sc'}:v ∈ sc->aZ vs v=some u->(u.bJ=2 ∨ u.bJ=3)->sg f r ps->Dr vs sc ps xs->r=u.bJ->TB sg vs res l n sc ss n' sc'->TB sg vs res l n sc (⟨[99,97,108,108],v,f,xs,[],[],a⟩::ss) n' sc'
 | put {l n sc v u i x a ss n' sc'}:v ∈ sc->aZ vs v=some u->u.bJ=4->TX vs sc i->i.bR=1->(i.dJ=[110,117,109]->i64.wrap i.N_<u.jR)->TX vs sc x->KC x.bR 2->TB sg vs res l n sc ss n' sc'->TB sg vs res l n sc (⟨[112,117,116],v,0,[i,x],[],[],a⟩::ss) n' sc'
 | do_ {l n sc f r ps xs a ss n' sc'}:sg f r ps->Dr vs sc ps xs->TB sg vs res l n sc ss n' sc'->TB sg vs res l n sc (⟨[99,97,108,108],-1,f,xs,[],[],a⟩::ss) n' sc'
 | Ln {l n sc c b e a n1 sc1 n2 sc2 ss n' sc'}:TX vs sc c->c.bR=1->TB sg vs res false n sc b n1 sc1->TB sg vs res false n1 sc e n2 sc2->TB sg vs res l n2 sc ss n' sc'->TB sg vs res l n sc (⟨[105,102],-1,0,[c],b,e,a⟩::ss) n' sc'
 | Ba {l n sc x y u b a n1 sc1 ss n' sc'}:TX vs sc x->x.bR=1->TX vs sc y->y.bR=1->vs[n]? = some u->u.bJ=1->TB sg vs res false (n+1) (sc++[(n:Int)]) b n1 sc1->TB sg vs res l n1 sc ss n' sc'->TB sg vs res l n sc (⟨[102,111,114],n,0,[x,y],b,[],a⟩::ss) n' sc'
 | ret {n sc x a}:TX vs sc x->res ≠ 0->KC x.bR res->TB sg vs res true n sc [⟨[114,101,116,117,114,110],-1,0,[x],[],[],a⟩] n sc
 | retc {n sc f ps xs a}:sg f res ps->res ≠ 0->Dr vs sc ps xs->TB sg vs res true n sc [⟨[99,97,108,108],-2,f,xs,[],[],a⟩] n sc
section
variable {vs vs':List aK} {sc sc':List Int}
theorem lL {α:Type} {l l':List α} (h:l <+: l') {i:Int} {x:α} (e:aZ l i=some x):aZ l' i=some x:=by
 obtain ⟨r,rfl⟩:=h;unfold aZ at e ⊢
 split at e
 ·rename_i h0;rw [cX h0,Py (xW.1 e).1];exact e
 ·cases e
theorem Io {α:Type} {l l':List α} (h:l <+: l') {i:Nat} {x:α} (e:l[i]? = some x):l'[i]? = some x:=by
 obtain ⟨r,rfl⟩:=h;rw [Py (xW.1 e).1];exact e
theorem TX.mono (hv:vs <+: vs') (hs:∀v ∈ sc,v ∈ sc') {x:aB} (h:TX vs sc x):TX vs' sc' x:=by
 induction h with
 | num h1 h2=>exact .num h1 h2
 | var h1 h2 h3=>exact .var (hs _ h1) (lL hv h2) h3
 | index h1 h2 h3 _ h5 h6 ih=>exact .index (hs _ h1) (lL hv h2) h3 ih h5 h6
 | un h1 _ ih=>exact .un h1 ih
 | bin _ _ h ih1 ih2=>exact .bin ih1 ih2 h
 | sel _ _ _ h1 h2 ih1 ih2 ih3=>exact .sel ih1 ih2 ih3 h1 h2
 | long _ h ih=>exact .long ih h
 | wide _ _ h1 h2 ih1 ih2=>exact .wide ih1 ih2 h1 h2
 | half h1 _ h2 ih=>exact .half h1 ih h2
theorem Lc.mono (hv:vs <+: vs') (hs:∀v ∈ sc,v ∈ sc') {p:aK} {x:aB} (h:Lc vs sc p x):Lc vs' sc' p x:=by
 cases h with
 | arr h1 h2 h3 h4 h5=>exact .arr h1 (hs _ h2) (lL hv h3) h4 h5
 | pub h1 h2 h3=>exact .pub h1 (h2.mono hv hs) h3
 | val h1 h2 h3 h4=>exact .val h1 h2 (h3.mono hv hs) h4
theorem Dr.mono (hv:vs <+: vs') (hs:∀v ∈ sc,v ∈ sc') {ps:List aK} {l:List aB} (h:Dr vs sc ps l):Dr vs' sc' ps l:=⟨h.1,λi p x h1 h2=>(h.2 i p x h1 h2).mono hv hs⟩
theorem Na (a b:Int):uO a b=0 ∨ 1<=uO a b/\uO a b<=3:=by
 unfold uO
 repeat' split <;> omega
theorem TX.range (hv:∀v ∈ vs,Hz v) {x:aB} (h:TX vs sc x):1<=x.bR/\x.bR<=3:=by
 induction h with
 | num=>exact ⟨by simp only;decide,by simp only;decide⟩
 | @var v u a h1 h2 h3=>
   have hm:u ∈ vs:=by
    unfold aZ at h2
    split at h2
    ·exact GB h2
    ·cases h2
   have:=hv u hm;exact ⟨this.1,by have:=this.2.1;simp only;omega⟩
 | index _ _ _ _ _ _ _=>exact ⟨by simp only;decide,by simp only;decide⟩
 | un _ _ ih=>exact ih
 | @bin o x y t a _ _ hb ih1 ih2=>
   have:=Na x.bR y.bR;simp only
   rcases hb with ⟨_,_,_,h⟩ | ⟨_,_,_,h⟩ | ⟨_,h,_,h0⟩ | ⟨_,h0,h⟩ | ⟨_,h,h0⟩
   ·omega
   ·omega
   ·omega
   ·split at h <;> omega
   ·omega
 | @sel c x y a _ _ _ _ h _ _ _=>
   have:=Na x.bR y.bR;simp only;unfold Iw
   split <;> omega
 | long _ _ _=>exact ⟨by simp only;decide,by simp only;decide⟩
 | wide _ _ _ _ _ _=>exact ⟨by simp only;decide,by simp only;decide⟩
 | half _ _ _ _=>exact ⟨by simp only;decide,by simp only;decide⟩
variable {sg sg':Vz} {res:Int} {l:Bool} {n n':Nat} {ss:List aA}
theorem TB.mono (hg:∀k r ps,sg k r ps->sg' k r ps) (hv:vs <+: vs') (h:TB sg vs res l n sc ss n' sc'):TB sg' vs' res l n sc ss n' sc':=by
 have hs:∀ {sc:List Int} v,v ∈ sc->v ∈ sc:=λ_ h=>h
 induction h with
 | nil=>exact .nil
 | let_ h1 h2 h3 h4 _ ih=>exact .let_ (h1.mono hv hs) h2 (Io hv h3) h4 ih
 | var_ h1 h3 h4 _ ih=>exact .var_ (h1.mono hv hs) (Io hv h3) h4 ih
 | arr h3 h4 _ ih=>exact .arr (Io hv h3) h4 ih
 | callv h1 h2 h3 h4 h5 _ ih=>exact .callv (hg _ _ _ h1) (h2.mono hv hs) h3 (Io hv h4) h5 ih
 | set h1 h2 h3 h4 h5 _ ih=>exact .set h1 (lL hv h2) h3 (h4.mono hv hs) h5 ih
 | calls h1 h2 h3 h4 h5 h6 _ ih=>exact .calls h1 (lL hv h2) h3 (hg _ _ _ h4) (h5.mono hv hs) h6 ih
 | put h1 h2 h3 h4 h5 h6 h7 h8 _ ih=>exact .put h1 (lL hv h2) h3 (h4.mono hv hs) h5 h6 (h7.mono hv hs) h8 ih
 | do_ h1 h2 _ ih=>exact .do_ (hg _ _ _ h1) (h2.mono hv hs) ih
 | Ln h1 h2 _ _ _ ih1 ih2 ih3=>exact .Ln (h1.mono hv hs) h2 ih1 ih2 ih3
 | Ba h1 h2 h3 h4 h5 h6 _ _ ih1 ih2=>exact .Ba (h1.mono hv hs) h2 (h3.mono hv hs) h4 (Io hv h5) h6 ih1 ih2
 | ret h1 h2 h3=>exact .ret (h1.mono hv hs) h2 h3
 | retc h1 h2 h3=>exact .retc (hg _ _ _ h1) h2 (h3.mono hv hs)
theorem TB.app {n1:Nat} {sc1:List Int} {xs ys:List aA} {l0:Bool} (h:TB sg vs res l0 n sc xs n1 sc1) (h0:l0=false) (k:TB sg vs res l n1 sc1 ys n' sc'):TB sg vs res l n sc (xs++ys) n' sc':=by
 induction h with
 | nil=>exact k
 | let_ h1 h2 h3 h4 _ ih=>exact .let_ h1 h2 h3 h4 (ih h0 k)
 | var_ h1 h3 h4 _ ih=>exact .var_ h1 h3 h4 (ih h0 k)
 | arr h3 h4 _ ih=>exact .arr h3 h4 (ih h0 k)
 | callv h1 h2 h3 h4 h5 _ ih=>exact .callv h1 h2 h3 h4 h5 (ih h0 k)
 | set h1 h2 h3 h4 h5 _ ih=>exact .set h1 h2 h3 h4 h5 (ih h0 k)
 | calls h1 h2 h3 h4 h5 h6 _ ih=>exact .calls h1 h2 h3 h4 h5 h6 (ih h0 k)
 | put h1 h2 h3 h4 h5 h6 h7 h8 _ ih=>exact .put h1 h2 h3 h4 h5 h6 h7 h8 (ih h0 k)
 | do_ h1 h2 _ ih=>exact .do_ h1 h2 (ih h0 k)
 | Ln h1 h2 h3 h4 _ _ _ ih3=>exact .Ln h1 h2 h3 h4 (ih3 h0 k)
 | Ba h1 h2 h3 h4 h5 h6 h7 _ _ ih2=>exact .Ba h1 h2 h3 h4 h5 h6 h7 (ih2 h0 k)
 | ret h1 h2 h3=>cases h0
 | retc h1 h2 h3=>cases h0
end
def Sv (w:aG) (b:Bool) (k a:Int):aG:=if b=true then w else if (w.e_ == (0:Int))=true then ⟨k,a⟩ else w
theorem qZ {c:aE} {w:aG} {b:Bool} {k a:Int}:aS c w b k a=some (Sv w b k a):=by
 unfold aS rZ Sv;cases b
 ·simp only [Bool.not_false,if_true,JR,if_false]
  split <;> rfl
 ·simp
theorem gR {w:aG} {b:Bool} {k a:Int} (hk:k ≠ 0) (h:(Sv w b k a).e_=0):w.e_=0/\b=true/\Sv w b k a=w:=by
 unfold Sv at h ⊢;cases b
 ·simp only [JR,if_false] at h ⊢
  split at h
  ·exact cM h hk
  ·rename_i h2;simp at h2;exact cM h h2
 ·exact ⟨by simpa using h,rfl,zd⟩
theorem ZX {w:aG} {b:Bool} {k a:Int} (hk:k ≠ 0) (h:w.e_ ≠ 0):(Sv w b k a).e_ ≠ 0:=λh2=>h (gR hk h2).1
def xV (c:aE):List aK:=((c.p_.bC[c.f_.toNat]?).map aJ.aQ).getD []
structure CI (N B:Nat) (c:aE):Prop where
 nf:c.p_.bC.length=N
 nN:N<=16384
 f0:0<=c.f_
 f1:c.f_<N
 a0:0<=c.fW
 a1:c.fW<N
 sc:∀v ∈ c.bI,0<=v/\v<(xV c).length
 sl:c.bI.length<=(xV c).length
 vl:∀f ∈ c.p_.bC,f.aQ.length<=250/\0<=f.aT/\f.aT<=f.aQ.length
 nc:c.cF.length=N
 cl:∀l ∈ c.cF,l.length<=B/\∀k ∈ l,0<=k/\k<N
 ki:∀f ∈ c.p_.bC,(∀v ∈ f.aQ,Hz v)/\(f.bO=0 ∨ f.bO=2 ∨ f.bO=3)
section
variable {N B n:Nat} {c:aE} {w:aG} {s:cB}
theorem CI.cur (h:CI N B c):∃f,c.p_.bC[c.f_.toNat]? = some f/\f ∈ c.p_.bC/\xV c=f.aQ/\aZ c.p_.bC c.f_=some f:=by
 have hl:c.f_.toNat<c.p_.bC.length:=by have:=h.nf;have:=h.f0;have:=h.f1;omega
 refine ⟨c.p_.bC[c.f_.toNat],yN hl,NY _,?_,?_⟩
 ·unfold xV;rw [yN hl];rfl
 ·unfold aZ;rw [cX h.f0,yN hl]
theorem CI.vs (h:CI N B c):(xV c).length<=250:=by
 obtain ⟨f,_,hm,e,_⟩:=h.cur;rw [e];exact (h.vl f hm).1
theorem qJ {α:Type} {l:List α} {i:Int} (h0:0<=i) (h1:i<l.length):∃x,aZ l i=some x/\l[i.toNat]? = some x/\x ∈ l:=by
 have hl:i.toNat<l.length:=zb
 exact ⟨l[i.toNat],by unfold aZ;rw [cX h0,yN hl],yN hl,NY _⟩
theorem find_l1 (h:CI N B c):∀(k:Nat) (v:Int),v<k->-1<=v->v<c.bI.length->∃r,lQ c s (k+1) v=some r/\(r=.inl () ∨ ∃i x,r=.inr i/\i ∈ c.bI/\(xV c)[i.toNat]? = some x/\x.iE=s):=by
 obtain ⟨f,hf,hm,hv,hfi⟩:=h.cur;intro k
 induction k with
 | zero=>
   intro v h1 h2 h3;have:v=-1:=zb
   subst this;exact ⟨_,rfl,.inl rfl⟩
 | succ k ih=>
   intro v h1 h2 h3;unfold lQ
   by_cases h0:0<=v
   ·rw [cX (Ah h0),hfi];obtain ⟨i,e1,_,hi⟩:=qJ h0 h3;obtain ⟨g0,g1⟩:=h.sc i hi;rw [hv] at g1;obtain ⟨x,e2,e3,_⟩:=qJ g0 g1;simp only [iX,e1,e2]
    by_cases hn:x.iE=s
    ·rw [cX (Ah hn)];exact ⟨_,rfl,.inr ⟨i,x,rfl,hi,by rw [hv];exact e3,hn⟩⟩
    ·rw [cE (by simpa using hn)];have hl:c.bI.length<=250:=No h.sl h.vs;rw [dB zb zb];exact ih (v - 1) zb zb zb
   ·rw [cE (by simpa using h0)];exact ⟨_,rfl,.inl rfl⟩
theorem TQ (h:CI N B c) (hn:300<n):aW (mI n c w s) λr=>r=-1 ∨ ∃x,r ∈ c.bI/\(xV c)[r.toNat]? = some x/\x.iE=s:=by
 have hl:c.bI.length<=250:=No h.sl h.vs;unfold mI;obtain ⟨m,rfl⟩:∃m,n=m+1:=⟨n - 1,zb⟩;rw [dB zb zb];obtain ⟨r,e,hr⟩:=find_l1 (s:=s) h m ((c.bI.length:Int) - 1) zb zb zb;rw [e]
 rcases hr with rfl | ⟨i,x,rfl,h1,h2,h3⟩
 ·exact ⟨_,rfl,.inl rfl⟩
 ·exact ⟨_,rfl,.inr ⟨x,h1,h2,h3⟩⟩
theorem Hu (h:CI N B c) (hn:300<n) {x:Nd}:aW (iL n c w x) λr=>(r.1=-1 ∨ 0<=r.1/\r.1<(xV c).length)/\(w.e_ ≠ 0->r.2.e_ ≠ 0)/\(r.2.e_=0->r.2=w/\∃v,r.1 ∈ c.bI/\0<=r.1/\(xV c)[r.1.toNat]? = some v/\v.iE=x.dM):=by
 unfold iL;refine (TQ (w:=w) (s:=x.dM) h hn).bind λv hv=>?_;rw [qZ];refine .some ⟨?_,ZX zc,λhe=>?_⟩
 ·rcases hv with rfl | ⟨y,h1,_,_⟩
  ·exact .inl rfl
  ·exact .inr (h.sc _ h1)
 ·obtain ⟨_,k2,k3⟩:=gR zc he;have hv0:0<=v:=xG k2
  rcases hv with rfl | ⟨y,h1,h2,h3⟩
  ·exact cM hv0 zc
  ·exact ⟨k3,y,h1,hv0,h2,h3⟩
theorem Ex (h:CI N B c) {v:Int} (hv:v=-1 ∨ 0<=v/\v<(xV c).length):aW (fU c w v) λk=>v=-1/\k=0 ∨ 0<=v/\∃x,(xV c)[v.toNat]? = some x/\k=x.bJ:=by
 unfold fU
 rcases hv with rfl | ⟨h0,h1⟩
 ·exact .some (.inl ⟨rfl,rfl⟩)
 ·rw [cE (by simp;omega)];obtain ⟨f,_,_,hvs,hfi⟩:=h.cur;rw [hfi];rw [hvs] at h1 ⊢;obtain ⟨x,e1,e2,_⟩:=qJ h0 h1;simp only [iX,e1];exact .some (.inr ⟨h0,x,e2,rfl⟩)
def Xi (f:aJ):aJ:={ f with aQ:=[],bH:=[] }
structure Kp (c c':aE):Prop where
 f:c'.f_=c.f_
 a:c'.fW=c.fW
 s:c.bI <+: c'.bI
 v:xV c <+: xV c'
 o:∀i,i ≠ c.f_.toNat->c'.p_.bC[i]? = c.p_.bC[i]?
 g:c'.p_.bC.map Xi=c.p_.bC.map Xi
 k:∀j:Nat,j ≠ c.fW.toNat->c'.cF[j]? = c.cF[j]?
 l:∀l,aZ c.cF c.fW=some l->∃l',aZ c'.cF c.fW=some l'/\l <+: l'
theorem Kp.refl (c:aE):Kp c c:=⟨rfl,rfl,WQ _,WQ _,λ_ _=>rfl,rfl,λ_ _=>rfl,λl e=>⟨l,e,WQ _⟩⟩
theorem Kp.trans {c1 c2 c3:aE} (h:Kp c1 c2) (k:Kp c2 c3):Kp c1 c3:=⟨k.f.trans h.f,k.a.trans h.a,h.s.trans k.s,h.v.trans k.v,λi hi=>(k.o i (by rw [h.f];exact hi)).trans (h.o i hi),k.g.trans h.g,λj hj=>(k.k j (by rw [h.a];exact hj)).trans (h.k j hj),λl e=>by
 obtain ⟨l1,e1,p1⟩:=h.l l e;obtain ⟨l2,e2,p2⟩:=k.l l1 (by rw [h.a];exact e1);exact ⟨l2,by rw [←h.a];exact e2,p1.trans p2⟩⟩
theorem yD (h:CI N B c) (hn:300<n) {x:aK} {a:Int} (hx:w.e_=0->Hz x):aW (fA n c w x a) λr=>CI N B r.2.1/\Kp c r.2.1/\r.2.1.cF=c.cF/\(w.e_ ≠ 0->r.2.2.e_ ≠ 0)/\(r.2.2.e_=0->r.2.2=w/\r.1=(xV c).length/\xV r.2.1=xV c++[x]/\r.2.1.bI=c.bI++[((xV c).length:Int)])/\(r.1=-1 ∨ 0<=r.1/\r.1<(xV r.2.1).length):=by
 unfold fA;refine (TQ (w:=w) (s:=x.iE) h hn).bind λv hv=>?_;obtain ⟨f,hf,hm,hvs,hfi⟩:=h.cur;rw [qZ,hfi];simp only [iX,qZ];refine aW.iteb (λhe=>?_) λhe=>?_
 ·simp only [bne_iff_ne] at he;exact .some ⟨h,.refl c,rfl,λ_=>he,λh2=>cM h2 he,.inl rfl⟩
 ·simp only [bne_eq_false_iff_eq] at he;obtain ⟨k1,k2,k3⟩:=gR zc he;obtain ⟨j1,j2,j3⟩:=gR zc k1;have hlt:(f.aQ.length:Int)<250:=xG k2;have hsl:=h.sl;rw [hvs] at hsl;refine aW.need zb (aW.need zb ?_);have hl:c.f_.toNat<c.p_.bC.length:=by have:=h.nf;have:=h.f0;have:=h.f1;omega
  have hv2:xV { c with p_:=⟨c.p_.bC.set c.f_.toNat { f with aQ:=f.aQ++[x] }⟩,bI:=c.bI++[(f.aQ.length:Int)] }=f.aQ++[x]:=by
   unfold xV;simp only;rw [VI hl];rfl
  refine .some ⟨⟨by simp only [Db];exact h.nf,h.nN,h.f0,h.f1,h.a0,h.a1,?_,?_,?_,h.nc,h.cl,?_⟩,⟨rfl,rfl,Rg _ _,?_,λi hi=>?_,?_,λ_ _=>rfl,λl e=>⟨l,e,WQ _⟩⟩,rfl,λhw=>cM j1 hw,λ_=>⟨by rw [k3,j3],by rw [hvs],by rw [hv2,hvs],by rw [hvs]⟩,.inr ⟨zb,?_⟩⟩
  ·intro u hu;rw [hv2]
   rcases yU.1 hu with hu | hu
   ·have:=h.sc u hu;rw [hvs] at this;simp only [oY,vO];omega
   ·obtain rfl:=zU.1 hu;simp only [oY,vO];omega
  ·rw [hv2];simp only [oY,vO];omega
  ·intro g hg
   rcases YK hg with hg | rfl
   ·exact h.vl g hg
   ·have:=h.vl f hm;simp only [oY,vO];omega
  ·intro g hg
   rcases YK hg with hg | rfl
   ·exact h.ki g hg
   ·refine ⟨λv hv=>?_,(h.ki f hm).2⟩
    rcases yU.1 hv with hv | hv
    ·exact (h.ki f hm).1 v hv
    ·obtain rfl:=zU.1 hv;exact hx j1
  ·rw [hv2,hvs];exact Rg _ _
  ·exact Uv (Ne.symm hi)
  ·show List.map Xi (c.p_.bC.set c.f_.toNat _)=_;rw [List.map_set];refine Yz λi=>?_
   by_cases e:c.f_.toNat=i
   ·subst e;rw [VI (by rw [Kn];exact hl),KM,hf];rfl
   ·rw [Uv e]
  ·rw [hv2];simp only [oY,vO];omega
def sgC (c:aE):Vz:=λk r ps=>(∃l,aZ c.cF c.fW=some l/\k ∈ l)/\∃f,aZ c.p_.bC k=some f/\r=f.bO/\ps=f.aQ.take f.aT.toNat
theorem Kp.fn {c':aE} (h:CI N B c) (k:Kp c c') {i:Int} {f:aJ} (e:aZ c.p_.bC i=some f):∃f',aZ c'.p_.bC i=some f'/\f'.iE=f.iE/\f'.eK=f.eK/\f'.bO=f.bO/\f'.aT=f.aT/\f.aQ <+: f'.aQ/\(i ≠ c.f_->f'=f):=by
 unfold aZ at e ⊢
 split at e
 ·rename_i h0;rw [cX h0]
  by_cases hi:i=c.f_
  ·subst hi;obtain ⟨f2,e2,hm2,hv2,_⟩:=h.cur;rw [e] at e2;cases e2
   have hlen:c.p_.bC.length=c'.p_.bC.length:=by simpa using (DI List.length k.g).symm
   have hlt:=(xW.1 e).1;have e3:c'.p_.bC[c.f_.toNat]? = some (c'.p_.bC[c.f_.toNat]'(by omega)):=yN _
   have hs:Xi (c'.p_.bC[c.f_.toNat]'(by omega))=Xi f:=by
    have:=DI (λl=>l[c.f_.toNat]?) k.g;simp only [KM,e3,e,PJ,Option.some.injEq] at this;exact this
   have hv:xV c'=(c'.p_.bC[c.f_.toNat]'(by omega)).aQ:=by
    unfold xV;rw [k.f,e3];rfl
   have hp:=k.v;rw [hv2,hv] at hp;simp only [Xi,aJ.mk.injEq] at hs;exact ⟨_,e3,hs.1,hs.2.1,hs.2.2.1,hs.2.2.2.1,hp,λh=>cM rfl h⟩
  ·refine ⟨f,?_,rfl,rfl,rfl,rfl,WQ _,λ_=>rfl⟩;rw [k.o _ (by have:=h.f0;omega)];exact e
 ·cases e
def RB (c:aE):Int:=((c.p_.bC[c.f_.toNat]?).map aJ.bO).getD 0
theorem CI.res (h:CI N B c) {f:aJ} (e:aZ c.p_.bC c.f_=some f):RB c=f.bO:=by
 unfold aZ at e;rw [cX h.f0] at e;unfold RB;rw [e];rfl
theorem Kp.res {c':aE} (h:CI N B c) (k:Kp c c'):RB c'=RB c:=by
 obtain ⟨f,_,_,_,e⟩:=h.cur;obtain ⟨f',e',_,_,hr,_⟩:=k.fn h e;rw [h.res e,←hr];unfold aZ at e';rw [cX h.f0] at e';unfold RB;rw [k.f,e'];rfl
theorem CI.vsOk (h:CI N B c):∀v ∈ xV c,Hz v:=by
 obtain ⟨f,_,hm,e,_⟩:=h.cur;rw [e];exact (h.ki f hm).1
theorem Oo {α:Type} {l l':List α} (h:l <+: l') {n:Nat} (hn:n<=l.length):l'.take n=l.take n:=by
 obtain ⟨r,rfl⟩:=h;exact List.take_append_of_le_length hn
theorem Kp.sg {c':aE} (h:CI N B c) (k:Kp c c') {i r:Int} {ps:List aK} (e:sgC c i r ps):sgC c' i r ps:=by
 obtain ⟨⟨l,e1,hl⟩,f,e2,rfl,rfl⟩:=e;obtain ⟨l',e3,hp⟩:=k.l l e1;obtain ⟨f',e4,_,_,hr,hps,hv,_⟩:=k.fn h e2
 have hm:f ∈ c.p_.bC:=by
  unfold aZ at e2
  split at e2
  ·exact GB e2
  ·cases e2
 have:=h.vl f hm;refine ⟨⟨l',by rw [k.a];exact e3,hp.subset hl⟩,f',e4,hr.symm,?_⟩;rw [hps,Oo hv zb]
end
def YE (c:aE) (w:aG) (x:aC) (r:aB × aG):Prop:=r.2.e_=0->r.2=w/\TX (xV c) c.bI r.1/\(xz r.1:Int)<=sz x
def WK (w w':aG):Prop:=w'.e_=0->w'=w
theorem WK.refl (w:aG):WK w w:=λ_=>rfl
theorem WK.trans {a b c:aG} (h:WK a b) (k:WK b c):WK a c:=λe=>by
 have h2:=k e;subst h2;exact h e
theorem WK.nd {w:aG} {b:Bool} {k a:Int} (hk:k ≠ 0:=by decide):WK w (Sv w b k a):=λe=>(gR hk e).2.2
theorem OR {a b:Int}:aW (wW a b) λr=>r=uO a b:=by
 unfold wW uO;simp only [beq_iff_eq,Da]
 repeat' split
 all_goals first | exact .some zb | (simp only [iX,Da,beq_iff_eq,JR,if_false,if_true];repeat' split) 
 all_goals first | exact .some zb | (exfalso;omega)
theorem HO {a:Int}:aW (tT a) λr=>r=true->Sc a:=by
 unfold tT;refine aW.bind (P:=λr=>r=true->Sc a) (aW.iteb (λh=>.some λ_=>.inl (by simpa using h)) λ_=>.some λh=>.inr (by simpa using h)) λb h=>.some h
theorem Ov {a:Int}:aW (wU a) λr=>r=Iw a:=by
 unfold wU Iw;simp only [beq_iff_eq]
 split <;> exact .some rfl
theorem LU {a b:Int}:aW (wX a b) λr=>r=true->KC a b:=by
 unfold wX;refine aW.bind (P:=λr=>r=true->KC a b) (aW.iteb (λh=>.some λ_=>.inl (by simpa using h)) λ_=>aW.iteb (λh=>.some λh2=>.inr ⟨by simpa using h,by simpa using h2⟩) λ_=>.some λh=>nomatch h) λb h=>.some h
theorem QB {a:Int}:aW (Aw a) λr=>r=true->Bo a:=by
 unfold Aw Bo;refine aW.bind (P:=λr=>r=true->Bo a) ?_ λb h=>.some h;unfold Bo;simp only [Da]
 have ht:∀ {b:Bool},255<a->a<=1024->b=(a.tmod 4 == 0)->aW (some b) λr=>r=true->(1<=a/\a<=255 ∨ 255<a/\a<=1024/\a % 4=0):=λh1 h2 h3=>.some λh=>.inr ⟨h1,h2,by
  rw [h3,beq_iff_eq,xek zb] at h;exact h⟩
 repeat' split
 all_goals first | exact .some λh=>Bool.noConfusion h | exact .some λ_=>.inl ⟨‹_›,‹_›⟩ | exact ht zb zb rfl
section
variable {N B n:Nat} {c:aE} {w:aG}
theorem Ai {x:aB} {k:Int}:aW (cP c w x k) λr=>WK w r.2/\r.1={ x with bR:=k }/\(r.2.e_=0->k ≠ 0):=by
 unfold cP;rw [qZ];refine .some ⟨.nd,rfl,λe=>?_⟩;have:=(gR zc e).2.1;simpa using this
theorem Xj {x y z:aB}:aW (iU c w x y z) λr=>WK w r.2/\r.1={ x with bR:=y.bR }/\(r.2.e_=0->z.bR=1/\(y.bR=3->z.dJ=[110,117,109]/\z.N_<=63)/\y.bR ≠ 0):=by
 unfold iU;rw [qZ];simp only [iX];refine aW.iteb (λh3=>?_) (λh3=>?_)
 ·refine aW.bind (P:=λw'=>WK w w'/\(w'.e_=0->z.bR=1/\z.dJ=[110,117,109]/\z.N_<=63)) ?_ λw' hw=>?_
  ·refine aW.iteb (λho=>?_) (λ_=>?_)
   ·rw [qZ];refine .some ⟨(WK.nd).trans WK.nd,λe=>?_⟩;obtain ⟨k1,k2,_⟩:=gR zc e;obtain ⟨_,j2,_⟩:=gR zc k1;exact ⟨by simpa using j2,by simpa using ho,by simpa using k2⟩
   ·rw [qZ];exact .some ⟨(WK.nd).trans WK.nd,λe=>by have:=(gR zc e).2.1;cases this⟩
  ·refine (Ai (c:=c)).bind λr hr=>.some ⟨hw.1.trans hr.1,hr.2.1,λe=>?_⟩;obtain ⟨q1,q2⟩:=hw.2 (by rw [←hr.1 e];exact e);exact ⟨q1,λ_=>q2,hr.2.2 e⟩
 ·refine (Ai (c:=c)).bind λr hr=>.some ⟨(WK.nd).trans hr.1,hr.2.1,λe=>?_⟩;obtain ⟨_,j2,_⟩:=gR (k:=133) zc (by rw [←hr.1 e];exact e);exact ⟨by simpa using j2,λh=>cM h (by simpa using h3),hr.2.2 e⟩
theorem Vp {x:aB} {x0 x1 x2:aB} (h:x.aN=[x0,x1,x2]):aW (mP c w x) λk=>k ≠ 0->Sc x0.bR/\uO x1.bR x2.bR ≠ 0/\k=Iw (uO x1.bR x2.bR):=by
 unfold mP;rw [h];refine aW.eqn (v:=x1) rfl (aW.eqn (v:=x2) rfl (OR.bind λk hk=>?_));refine aW.bind (P:=λb=>b=false->Sc x0.bR/\k ≠ 0) ?_ λb hb=>?_
 ·refine aW.eqn (v:=x0) rfl (HO.bind λb hb=>aW.iteb (λ_=>.some λh=>nomatch h) λh=>.some λh2=>⟨hb (by simpa using h),by simpa using h2⟩)
 ·refine aW.iteb (λ_=>.some λh=>cM rfl h) (λh=>?_);exact Ov.bind λr hr=>.some λ_=>⟨(hb h).1,hk ▸ (hb h).2,hk ▸ hr⟩
theorem Hx {s:cB} {k:Nat} {i:Int} {x:bK} (h:i<5) (e:aZ cV i=some x):zQ s (k+1) i=if x.VX=s then some (.inr x.WD) else zQ s k (i64.wrap (i+1)):=by
 rw [zQ,cX (Ah h),e];simp only [iX,Da]
theorem MK {s:cB} (hn:6<n):aW (yF n s) λv=>0<=v/\v<=3/\(s=[115,101,108,101,99,116]->v=3)/\(s=[119,105,100,101]->v=2)/\(0<v->s=[115,101,108,101,99,116] ∨ s=[108,111,110,103]/\v=1 ∨ s=[108,111]/\v=1 ∨ s=[104,105]/\v=1 ∨ s=[119,105,100,101]):=by
 obtain ⟨m,rfl⟩:∃m,n=m+6:=⟨n - 6,zb⟩;unfold yF;rw [Hx (i:=0) (x:=bK.mk [115,101,108,101,99,116] 3) zc rfl]
 split
 ·rename_i h;subst h;exact .some ⟨zc,zc,λ_=>rfl,λh=>cM h zc,λ_=>.inl rfl⟩
 rename_i h0;rw [show i64.wrap (0+1)=1 from by decide,Hx (i:=1) (x:=bK.mk [108,111,110,103] 1) zc rfl]
 split
 ·rename_i h;subst h;exact .some ⟨zc,zc,λh=>cM h zc,λh=>cM h zc,λ_=>.inr (.inl ⟨rfl,rfl⟩)⟩
 rw [show i64.wrap (1+1)=2 from by decide,Hx (i:=2) (x:=bK.mk [108,111] 1) zc rfl]
 split
 ·rename_i h;subst h;exact .some ⟨zc,zc,λh=>cM h zc,λh=>cM h zc,λ_=>.inr (.inr (.inl ⟨rfl,rfl⟩))⟩
 rw [show i64.wrap (2+1)=3 from by decide,Hx (i:=3) (x:=bK.mk [104,105] 1) zc rfl]
 split
 ·rename_i h;subst h;exact .some ⟨zc,zc,λh=>cM h zc,λh=>cM h zc,λ_=>.inr (.inr (.inr (.inl ⟨rfl,rfl⟩)))⟩
 rw [show i64.wrap (3+1)=4 from by decide,Hx (i:=4) (x:=bK.mk [119,105,100,101] 2) zc rfl]
 split
 ·rename_i h;subst h;exact .some ⟨zc,zc,λh=>cM h zc,λ_=>rfl,λ_=>.inr (.inr (.inr (.inr rfl)))⟩
 rename_i h4;rw [show i64.wrap (4+1)=5 from by decide];exact .some ⟨zc,zc,λh=>cM h.symm h0,λh=>cM h.symm h4,λh=>cM h zc⟩
end
def zbj (N B n:Nat) (f:aE->aG->aC->Option (aB × aG)):Prop:=∀c w x,CI N B c->WE x->sz x<=20000->3*sz x+301<=n->aW (f c w x) (YE c w x)
def NJ (N B n:Nat) (K:Int) (f:aE->aG->aC->aB->Option (aB × aG)):Prop:=∀c w x y,CI N B c->WE x->x.bJ=K->sz x<=20000->3*sz x+300<=n->(∃a,y=⟨[],0,0,-1,[],a⟩)->aW (f c w x y) (YE c w x)
def zbk (N B n:Nat) (f:aE->aG->(List aC)->Option ((List aB) × aG)):Prop:=∀c w xs,CI N B c->(∀x ∈ xs,WE x)->zW xs<=20000->3*zW xs+302<=n->aW (f c w xs) λr=>WK w r.2/\r.1.length=xs.length/\(r.2.e_=0->∀y ∈ r.1,TX (xV c) c.bI y)/\(r.2.e_=0->(nG r.1:Int)<=zW xs)
section
variable {N B n:Nat} {c:aE} {w:aG}
theorem call_l1 {m:Nat} {xs:List Nd} {fe:aE->aG->aC->Option (aB × aG)} (hf:zbj N B m fe) (h:CI N B c) (hx:∀x ∈ xs,WE x) (hs:zW xs<=20000) (hm:3*zW xs+301<=m) :
  ∀(k v:Nat) (ys:List aB) (w:aG),xs.length<v+k->v<=xs.length->ys.length=v->(w.e_=0->∀y ∈ ys,TX (xV c) c.bI y)->aW (tR fe xs c k ys (v:Int) w) λr=>WK w r.2/\r.1.length=xs.length/\(r.2.e_=0->∀y ∈ r.1,TX (xV c) c.bI y)/\(r.2.e_=0->(nG r.1:Int)<=nG ys+zW (xs.drop v)):=by
 intro k
 induction k with
 | zero=>intro v ys w h1 h2 h3;omega
 | succ k ih=>
   intro v ys w h1 h2 h3 h4;unfold tR;have hg:=rN xs
   by_cases hv:v<xs.length
   ·rw [cX (Ah zb)];obtain ⟨x,e,ex,hxm⟩:=qJ (l:=xs) (i:=(v:Int)) zb zb
    have hd:xs.drop v=x::xs.drop (v+1):=by
     rw [GD] at ex;obtain ⟨hlt,rfl⟩:=xW.1 ex;exact Sq hlt
    rw [e];simp only [iX];have hsz:=Oq hxm;refine (hf c w x h (hx x hxm) zb zb).bind λr hr=>aW.need (by simp only [vO];omega) ?_;rw [dB zb zb,show ((v:Int)+1)=((v+1:Nat):Int) by omega];refine (ih (v+1) _ _ zb zb (by simp only [oY,vO];omega) λe y hy=>?_).mono λq hq=>⟨WK.trans (λe=>(hr e).1) hq.1,hq.2.1,hq.2.2.1,λe=>?_⟩
    ·rcases yU.1 hy with hy | hy
     ·exact h4 (by rw [←(hr e).1];exact e) y hy
     ·obtain rfl:=zU.1 hy;exact (hr e).2.1
    ·have h5:=hq.2.2.2 e;have h6:=(hr (by rw [←hq.1 e];exact e)).2.2;rw [Rf,nG,nG] at h5;rw [hd,yY];omega
   ·rw [cE (by simp;omega)];exact .some ⟨.refl _,by rw [h3];omega,h4,λ_=>by have:=rN (xs.drop v);simp only;omega⟩
theorem call_b {fe:aE->aG->aC->Option (aB × aG)} (hf:zbj N B n fe):zbk N B (n+1) (qS fe n):=by
 intro c w xs h hx hs hn;unfold qS;have hg:=rN xs;exact (call_l1 hf h hx hs zb n 0 [] w zb zb rfl λ_ y hy=>nomatch hy).bind λr hr=>.some ⟨hr.1,hr.2.1,hr.2.2.1,λe=>by have:=hr.2.2.2 e;rw [nG,DH] at this;simp only;omega⟩
theorem cexpr_b {f1 f2 f3 f4:aE->aG->aC->aB->Option (aB × aG)} (h1:NJ N B n 16 f1) (h2:NJ N B n 18 f2) (h3:NJ N B n 19 f3) (h4:NJ N B n 17 f4):zbj N B (n+1) (pS f1 f2 f3 f4 n):=by
 intro c w x h hx hs hn;have hp:=uP x;unfold pS;cases hx with
 | num n1 n2=>exact .some λ_=>⟨rfl,.num n1 n2,by rw [Dg,nG,iZ,qD];omega⟩
 | ref=>
   simp only [Int.reduceBEq,JR,if_false,if_true];refine (Hu (w:=w) h zb).bind λr hr=>?_;refine (Ex (w:=r.2) h hr.1).bind λk hk=>?_;rw [qZ];refine .some λe=>?_;obtain ⟨k1,k2,k3⟩:=gR (k:=132) zc e;obtain ⟨j1,u,j2,j3,j4,j5⟩:=hr.2.2 k1;refine ⟨k3.trans j1,?_,by rw [Dg,nG,iZ,qD];omega⟩
   rcases hk with ⟨hm,_⟩ | ⟨_,u2,hk2,rfl⟩
   ·omega
   ·exact .var j2 (by unfold aZ;rw [cX j3];exact hk2) (by simpa using k2)
 | index hy=>
   simp only [Int.reduceBEq,JR,if_false,if_true];exact (h1 c w _ _ h (.index hy) rfl hs zb ⟨_,rfl⟩).bind λr hr=>.some hr
 | un hu hy=>
   simp only [Int.reduceBEq,JR,if_false,if_true];exact (h2 c w _ _ h (.un hu hy) rfl hs zb ⟨_,rfl⟩).bind λr hr=>.some hr
 | bin hl hy hz=>
   simp only [Int.reduceBEq,JR,if_false,if_true];exact (h3 c w _ _ h (.bin hl hy hz) rfl hs zb ⟨_,rfl⟩).bind λr hr=>.some hr
 | call hy=>
   simp only [Int.reduceBEq,JR,if_false];exact (h4 c w _ _ h (.call hy) rfl hs zb ⟨_,rfl⟩).bind λr hr=>.some hr
theorem WE.inv16 {x:Nd} (h:WE x) (k:x.bJ=16):∃a s y,x=⟨16,a,s,0,[y]⟩/\WE y:=by
 cases h <;> first | exact ⟨_,_,_,rfl,‹_›⟩ | (simp at k)
theorem WE.inv18 {x:Nd} (h:WE x) (k:x.bJ=18):∃a s y,x=⟨18,a,s,0,[y]⟩/\WE y:=by
 cases h <;> first | exact ⟨_,_,_,rfl,‹_›⟩ | (simp at k)
theorem WE.inv19 {x:Nd} (h:WE x) (k:x.bJ=19):∃a s y z,x=⟨19,a,s,0,[y,z]⟩/\WE y/\WE z/\s ∈ AK:=by
 cases h <;> first | exact ⟨_,_,_,_,rfl,‹_›,‹_›,‹_›⟩ | (simp at k)
theorem WE.inv17 {x:Nd} (h:WE x) (k:x.bJ=17):∃a s xs,x=⟨17,a,s,0,xs⟩/\∀y ∈ xs,WE y:=by
 cases h <;> first | exact ⟨_,_,_,rfl,‹_›⟩ | (simp at k)
theorem cload_b {fe:aE->aG->aC->Option (aB × aG)} (hf:zbj N B n fe):NJ N B (n+1) 16 (pR fe n):=by
 rintro c w x y h hx hk hs hn ⟨ya,rfl⟩;obtain ⟨a,s,z,rfl,hz⟩:=hx.inv16 hk;rw [iZ,wH] at hs hn;have hzp:=uP z;unfold pR;refine aW.eqn (v:=z) rfl ?_;refine (hf c w z h hz zb zb).bind λr hr=>?_;refine (Hu (w:=r.2) h zb).bind λv hv=>?_;refine (Ex (w:=v.2) h hv.1).bind λk hk=>?_;simp only [qZ,iX]
 have key:∀ {w2:aG},WK (Sv (Sv v.2 (k == 4) 132 a) (r.1.bR == 1) 133 r.1.gI) w2->w2.e_=0->w2=w/\(TX (xV c) c.bI r.1/\(xz r.1:Int)<=sz z)/\r.1.bR=1/\∃u,v.1 ∈ c.bI/\aZ (xV c) v.1=some u/\u.bJ=4:=by
  intro w2 hw2 e;have e2:=hw2 e;subst e2;obtain ⟨k1,k2,k3⟩:=gR (k:=133) zc e;obtain ⟨j1,j2,j3⟩:=gR (k:=132) zc k1;obtain ⟨i1,u,i2,i3,i4,i5⟩:=hv.2.2 j1;obtain ⟨l1,l2⟩:=hr (by rw [←i1];exact j1);refine ⟨by rw [k3,j3,i1,l1],l2,by simpa using k2,u,i2,by unfold aZ;rw [cX i3];exact i4,?_⟩
  rcases hk with ⟨hm,_⟩ | ⟨_,u2,hk2,rfl⟩
  ·omega
  ·rw [i4] at hk2;cases hk2;simpa using j2
 refine aW.bind' (aW.iteb (λhe=>.some ?_) (λhe=>.some ?_))
 ·refine aW.iteb (λho=>?_) (λho=>.some λe=>?_)
  ·have he2:=(gR (k:=132) zc (gR (k:=133) zc (by simpa using he)).1).1;obtain ⟨_,u,h1,h2,h3,h4⟩:=hv.2.2 he2;obtain ⟨f,_,hm,hvs,hfi⟩:=h.cur;rw [hfi];have hlt:=h.sc _ h1;rw [hvs] at hlt;obtain ⟨u2,e2,_,_⟩:=qJ hlt.1 hlt.2;simp only [iX,e2];refine .some λe=>?_;obtain ⟨g1,g2,g3,u3,g4,g5,g6⟩:=key WK.nd e;rw [hvs,e2] at g5;cases g5
   exact ⟨g1,.index g4 (by rw [hvs];exact e2) g6 g2.1 g3 λ_=>(by simpa using (gR (k:=137) zc e).2.1),by rw [Dg,nG,nG,iZ,wH];have:=g2.2;omega⟩
  ·obtain ⟨g1,g2,g3,u3,g4,g5,g6⟩:=key (.refl _) e;exact ⟨g1,.index g4 g5 g6 g2.1 g3 λh=>cM h (by simpa using ho),by rw [Dg,nG,nG,iZ,wH];have:=g2.2;omega⟩
 ·refine aW.iteb (λh=>nomatch h) (λ_=>.some λe=>?_);exact cM e (by simpa using he)
theorem OH {α:Type} {l:List α} (h:l.length=1):∃x,l=[x]:=by
 match l,h with
 | [x],_=>exact ⟨x,rfl⟩
theorem zal {α:Type} {l:List α} (h:l.length=2):∃x y,l=[x,y]:=by
 match l,h with
 | [x,y],_=>exact ⟨x,y,rfl⟩
theorem list3 {α:Type} {l:List α} (h:l.length=3):∃x y z,l=[x,y,z]:=by
 match l,h with
 | [x,y,z],_=>exact ⟨x,y,z,rfl⟩
theorem zaK {fa:aE->aG->(List aC)->Option ((List aB) × aG)} (hf:zbk N B n fa):NJ N B (n+1) 18 (oR fa n):=by
 rintro c w x y h hx hk hs hn ⟨ya,rfl⟩;obtain ⟨a,s,z,rfl,hz⟩:=hx.inv18 hk;rw [iZ] at hs hn;unfold oR;refine (hf c w [z] h (λu hu=>by obtain rfl:=zU.1 hu;exact hz) zb zb).bind λr hr=>?_;obtain ⟨h1,h2,h3,h5⟩:=hr;obtain ⟨u,hu⟩:=OH h2;rw [hu] at h3 h5 ⊢;refine aW.iteb (λ_=>aW.eqn (v:=u) rfl (.some λe=>⟨h1 e,.un (.inr rfl) (h3 e u Gr),by rw [Dg,iZ];have:=h5 e;simp only;omega⟩)) (λ_=>aW.eqn (v:=u) rfl (.some λe=>⟨h1 e,.un (.inl rfl) (h3 e u Gr),by rw [Dg,iZ];have:=h5 e;simp only;omega⟩))
theorem Yd {fa:aE->aG->(List aC)->Option ((List aB) × aG)} (hf:zbk N B n fa):NJ N B (n+1) 19 (nX fa n):=by
 rintro c w x y h hx hk hs hn ⟨ya,rfl⟩;obtain ⟨a,s,z,z2,rfl,hz,hz2,hsg⟩:=hx.inv19 hk;rw [iZ] at hs hn;unfold nX;refine (hf c w [z,z2] h (λu hu=>by rcases Di.1 hu with rfl | hu;exact hz;obtain rfl:=zU.1 hu;exact hz2) zb zb).bind λr hr=>?_;obtain ⟨h1,h2,h3,h5⟩:=hr;obtain ⟨u,u2,hu⟩:=zal h2;rw [hu] at h3 h5 ⊢;refine aW.eqn (v:=u) rfl (aW.eqn (v:=u2) rfl (OR.bind λk hk=>?_));subst hk;simp only [qZ,iX]
 have fin:∀ {o:cB} {t:Int} {w2:aG},WK r.2 w2->(w2.e_=0->Qn o u u2 t)->YE c w ⟨19,a,s,0,[z,z2]⟩ (⟨o,t,0,-1,[u,u2],ya⟩,w2):=λhw hb e=>by
  have e1:r.2.e_=0:=by rw [←hw e];exact e
  exact ⟨(hw e).trans (h1 e1),.bin (h3 e1 u zd) (h3 e1 u2 zd) (hb e),by rw [Dg,iZ];have:=h5 e1;simp only;omega⟩
 have div:∀ {o:cB},(o=[47] ∨ o=[37])->aW ((cP c (Sv (Sv r.2 (u.bR == 1) 133 u.gI) (u2.bR == 1) 133 u2.gI) ⟨o,0,0,-1,[u,u2],ya⟩ 1).bind λx=>some (x.1,x.2)) (YE c w ⟨19,a,s,0,[z,z2]⟩):=λho=>
  (Ai (c:=c)).bind λr2 hr2=>.some (by
    rw [hr2.2.1];refine fin ((WK.nd).trans ((WK.nd).trans hr2.1)) λe=>?_;obtain ⟨k1,k2,_⟩:=gR (k:=133) zc (by rw [←hr2.1 e];exact e);obtain ⟨_,j2,_⟩:=gR (k:=133) zc k1;exact .inl ⟨ho,by simpa using j2,by simpa using k2,rfl⟩)
 have shf:∀ {o:cB},(o=[60,60] ∨ o=[62,62] ∨ o=[60,60,60])->aW ((iU c r.2 ⟨o,0,0,-1,[u,u2],ya⟩ u u2).bind λx=>some (x.1,x.2)) (YE c w ⟨19,a,s,0,[z,z2]⟩):=λho=>
  (Xj (c:=c)).bind λr2 hr2=>.some (by
    rw [hr2.2.1];refine fin hr2.1 λe=>?_;obtain ⟨k1,k2,_⟩:=hr2.2.2 e;exact .inr (.inl ⟨ho,k1,k2,rfl⟩))
 have typ:∀ {o:cB} {t:Int} {w1:aG},WK r.2 w1->(t ≠ 0->w1.e_=0->Qn o u u2 t)->aW ((cP c w1 ⟨o,0,0,-1,[u,u2],ya⟩ t).bind λx=>some (x.1,x.2)) (YE c w ⟨19,a,s,0,[z,z2]⟩):=λhw hb=>
  (Ai (c:=c)).bind λr2 hr2=>.some (by
    rw [hr2.2.1];refine fin (hw.trans hr2.1) λe=>hb (hr2.2.2 e) (by rw [←hr2.1 e];exact e))
 refine aW.iteb (λho=>div (.inl (xG ho))) λn1=>aW.iteb (λho=>div (.inr (xG ho))) λn2=>?_;refine aW.iteb (λho=>shf (.inl (xG ho))) λn3=>aW.iteb (λho=>shf (.inr (.inl (xG ho)))) λn4=>aW.iteb (λho=>shf (.inr (.inr (xG ho)))) λn5=>?_;refine aW.iteb (λho=>typ WK.nd λht e=>.inr (.inr (.inl ⟨xG ho,rfl,by simpa using (gR (k:=132) zc e).2.1,ht⟩))) λn6=>?_;refine aW.iteb (λho=>aW.iteb (λh3=>typ (.refl _) λht e=>?_) λh3=>typ (.refl _) λht e=>?_) λn7=>?_
 ·exact .inr (.inr (.inr (.inl ⟨.inl (xG ho),by rw [beq_iff_eq] at h3;omega,by rw [cX (by simpa using h3)]⟩)))
 ·exact .inr (.inr (.inr (.inl ⟨.inl (xG ho),ht,by rw [cE (by simpa using h3)]⟩)))
 refine aW.iteb (λho=>aW.iteb (λh3=>typ (.refl _) λht e=>?_) λh3=>typ (.refl _) λht e=>?_) λn8=>?_
 ·exact .inr (.inr (.inr (.inl ⟨.inr (xG ho),by rw [beq_iff_eq] at h3;omega,by rw [cX (by simpa using h3)]⟩)))
 ·exact .inr (.inr (.inr (.inl ⟨.inr (xG ho),ht,by rw [cE (by simpa using h3)]⟩)))
 refine typ (.refl _) λht e=>.inr (.inr (.inr (.inr ⟨?_,rfl,ht⟩)));simp only [decide_eq_false_iff_not] at n1 n2 n3 n4 n5 n6 n7 n8;simp only [AK,Di,St,or_false] at hsg
 rcases hsg with h | h | h | h | h | h | h | h | h | h | h | h | h
 ·exact .inl h
 ·exact .inr (.inl h)
 ·exact .inr (.inr (.inl h))
 ·exact cM h n7
 ·exact cM h n8
 ·exact cM h n3
 ·exact cM h n4
 ·exact cM h n5
 ·exact .inr (.inr (.inr (.inl h)))
 ·exact .inr (.inr (.inr (.inr h)))
 ·exact cM h n6
 ·exact cM h n1
 ·exact cM h n2
theorem Vr {fa:aE->aG->(List aC)->Option ((List aB) × aG)} (hf:zbk N B n fa):NJ N B (n+1) 17 (mW fa n):=by
 rintro c w x y h hx hk hs hn ⟨ya,rfl⟩;obtain ⟨a,s,xs,rfl,hz⟩:=hx.inv17 hk;rw [iZ] at hs hn;have hp:0<=zW xs:=by have:=rN xs;omega
 unfold mW;refine (MK (s:=s) zb).bind λv hv=>?_;simp only [qZ,iX];refine (hf c _ xs h hz zb zb).bind λr hr=>?_;obtain ⟨g1,hrl,g3,g4⟩:=hr;have hwr:=(WK.nd (w:=w)).trans ((WK.nd).trans g1);refine aW.iteb (λhe=>.some λe=>cM e (by simpa using he)) (λhe=>?_);simp only [bne_eq_false_iff_eq] at he;have h1:=g1 he;obtain ⟨k1,k2,k3⟩:=gR (k:=136) zc (by rw [←h1];exact he);obtain ⟨j1,j2,j3⟩:=gR (k:=130) zc k1;have hl:(xs.length:Int)=v:=by simpa using k2
 have hv0:0<v:=xG j2;have hT:=g3 he;have fin:∀ {x:aB} {w2:aG},WK r.2 w2->(w2.e_=0->TX (xV c) c.bI x)->x.aN=r.1->YE c w ⟨17,a,s,0,xs⟩ (x,w2):=λhw hb hx e=>⟨(hwr.trans hw) e,hb e,by rw [Dg,iZ,hx];have:=g4 he;omega⟩;obtain ⟨_,hv3,hvs,hvw,hall⟩:=hv;have hall:=hall hv0;obtain ⟨u,e,_,hum⟩:=qJ (l:=r.1) (i:=0) zc zb;rw [e];simp only [iX];refine aW.iteb (λhc=>?_) (λn1=>aW.iteb (λhc=>?_) (λn2=>aW.iteb (λhc=>?_) (λn3=>?_)))
 ·have h3:=hvs (xG hc);obtain ⟨x0,x1,x2,hr3⟩:=list3 (l:=r.1) zb;rw [hr3] at hT fin ⊢;refine (Vp (c:=c) rfl).bind λk hk=>?_;refine (Ai (c:=c)).bind λr2 hr2=>.some ?_;rw [hr2.2.1];refine fin hr2.1 (λe=>?_) rfl;obtain ⟨q1,q2,rfl⟩:=hk (hr2.2.2 e);rw [xG hc];exact .sel (hT _ zd) (hT _ zd) (hT _ zd) q1 q2
 ·have hc1:=xG hc
  have hv1:v=1:=by
   rcases hall with h | h | h | h | h
   ·rw [hc1] at h;exact cM h zc
   ·exact h.2
   ·exact h.2
   ·exact h.2
   ·rw [hc1] at h;exact cM h zc
  obtain ⟨x0,hr1⟩:=OH (l:=r.1) zb;rw [hr1] at hT e fin ⊢;have hx0:x0=u:=by cases e;rfl
  subst hx0;refine HO.bind λb hb=>?_;refine (Ai (c:=c)).bind λr2 hr2=>.some ?_;rw [hr2.2.1];refine fin ((WK.nd).trans hr2.1) (λe=>?_) rfl;rw [hc1];exact .long (hT _ Gr) (hb (gR (k:=132) zc (by rw [←hr2.1 e];exact e)).2.1)
 ·have h2:=hvw (xG hc);obtain ⟨x0,x1,hr2⟩:=zal (l:=r.1) zb;rw [hr2] at hT e fin ⊢;have hx0:x0=u:=by cases e;rfl
  subst hx0;refine aW.bind (P:=λw'=>WK r.2 w'/\(w'.e_=0->Sc x0.bR/\Sc x1.bR)) (HO.bind λb hb=>aW.iteb (λhbt=>aW.eqn (v:=x1) rfl ?_) (λ_=>.some ⟨WK.nd,λe=>?_⟩)) λw' hw'=>?_
  ·exact HO.bind λb2 hb2=>.some ⟨WK.nd,λe=>⟨hb hbt,hb2 (gR (k:=132) zc e).2.1⟩⟩
  ·have:=(gR (k:=132) zc e).2.1;cases this
  ·refine (Ai (c:=c)).bind λr2 hr2=>.some ?_;rw [hr2.2.1];refine fin (hw'.1.trans hr2.1) (λe=>?_) rfl;obtain ⟨q1,q2⟩:=hw'.2 (by rw [←hr2.1 e];exact e);rw [xG hc];exact .wide (hT _ zd) (hT _ zd) q1 q2
 ·have hc1:(s=[108,111] ∨ s=[104,105])/\v=1:=by
   rcases hall with h | h | h | h | h
   ·exact cM h (by simpa using n1)
   ·exact cM h.1 (by simpa using n2)
   ·exact ⟨.inl h.1,h.2⟩
   ·exact ⟨.inr h.1,h.2⟩
   ·exact cM h (by simpa using n3)
  obtain ⟨x0,hr1⟩:=OH (l:=r.1) zb;rw [hr1] at hT e fin ⊢;have hx0:x0=u:=by cases e;rfl
  subst hx0;refine (Ai (c:=c)).bind λr2 hr2=>.some ?_;rw [hr2.2.1];refine fin ((WK.nd).trans hr2.1) (λe=>?_) rfl;exact .half hc1.1 (hT _ Gr) (eq_of_beq (gR (k:=132) zc (by rw [←hr2.1 e];exact e)).2.1)
theorem Wx:∀n:Nat,zbj N B n (bZ n).1/\NJ N B n 16 (bZ n).2.1/\NJ N B n 18 (bZ n).2.2.1/\NJ N B n 19 (bZ n).2.2.2.1/\NJ N B n 17 (bZ n).2.2.2.2.1/\zbk N B n (bZ n).2.2.2.2.2
 | 0=>⟨λc w x _ _ _ h=>by have:=uP x;omega,λc w x y _ _ _ _ h _=>by have:=uP x;omega,λc w x y _ _ _ _ h _=>by have:=uP x;omega,λc w x y _ _ _ _ h _=>by have:=uP x;omega,λc w x y _ _ _ _ h _=>by have:=uP x;omega,λc w xs _ _ _ h=>by have:=rN xs;omega⟩
 | n+1=>by
   obtain ⟨g1,g2,g3,g4,g5,g6⟩:=Wx n;exact ⟨cexpr_b g2 g3 g4 g5,cload_b g1,zaK g6,Yd g6,Vr g6,call_b g1⟩
theorem DQ (h:CI N B c) {x:Nd} (hx:WE x) (hs:sz x<=20000) (hn:3*sz x+301<=n):aW (iM n c w x) (YE c w x):=(Wx n).1 c w x h hx hs hn
end
section
variable {N B n:Nat} {c:aE} {w:aG}
theorem yE (h:CI N B c) {x:Nd} (hx:WE x) (hs:sz x<=20000) (hn:3*sz x+301<=n):aW (fK n c w x) λr=>YE c w x r/\(r.2.e_=0->r.1.bR=1):=by
 unfold fK;refine (DQ h hx hs hn).bind λr hr=>?_;rw [qZ];refine .some ⟨λe=>?_,λe=>by simpa using (gR (k:=133) zc e).2.1⟩;obtain ⟨k1,_,k3⟩:=gR (k:=133) zc e;obtain ⟨j1,j2⟩:=hr k1;exact ⟨k3.trans j1,j2⟩
theorem YE.wk {x:Nd} {r:aB × aG} (h:YE c w x r):WK w r.2:=λe=>(h e).1
theorem Find_l1 (fs:List aJ) (s:cB) (hl:fs.length<=16384):∀(k v:Nat),fs.length<v+k->v<=fs.length->∃r,cT fs s k v=some r/\(r=.inl () ∨ ∃(i:Nat) (f:aJ),r=.inr (i:Int)/\fs[i]? = some f/\f.iE=s):=by
 intro k
 induction k with
 | zero=>intro v h1 h2;omega
 | succ k ih=>
   intro v h1 h2;unfold cT
   by_cases hv:v<fs.length
   ·rw [cX (Ah zb)];obtain ⟨f,e,e2,_⟩:=qJ (l:=fs) (i:=(v:Int)) zb zb;rw [e];simp only [iX,CV]
    by_cases hf:f.iE=s
    ·rw [cX (Ah hf)];exact ⟨_,rfl,.inr ⟨v,f,rfl,by simpa using e2,hf⟩⟩
    ·rw [cE (by simpa using hf),dB zb zb,show ((v:Int)+1)=((v+1:Nat):Int) by omega];exact ih (v+1) zb zb
   ·rw [cE (by simp;omega)];exact ⟨_,rfl,.inl rfl⟩
theorem Ue {p:bM} {s:cB} (hl:p.bC.length<=16384) (hn:16384<n):aW (qX n p s) λr=>0<=r.1/\(r.2=true->r.1<p.bC.length/\∃f,p.bC[r.1.toNat]? = some f/\f.iE=s):=by
 unfold qX fV;obtain ⟨r,e,hr⟩:=Find_l1 p.bC s hl n 0 zb zb;have e:cT p.bC s n 0=some r:=e;rw [e]
 rcases hr with rfl | ⟨i,f,rfl,h1,h2⟩
 ·exact .some ⟨zc,λh=>cM h zc⟩
 ·have hi:i<p.bC.length:=(xW.1 h1).1;refine .some ⟨yz,λ_=>⟨yz,f,?_,h2⟩⟩;have:(max (i:Int) 0).toNat=i:=zb
  simp only [this,h1]
theorem function_tot' (h:CI N B c) (hn:16384<n) {x:Nd}:aW (nW n c w x) λr=>WK w r.2/\(r.2.e_=0->0<=r.1/\r.1<N):=by
 unfold nW;refine (Ue (by have:=h.nf;have:=h.nN;omega) hn).bind λr hr=>?_;rw [qZ];refine .some ⟨WK.nd,λe=>?_⟩;have:=(hr.2 (gR zc e).2.1).1;have:=h.nf;exact ⟨hr.1,zb⟩
theorem UK (h:CI N B c) {i:Int} (h0:0<=i) (h1:i<N):aW (pP c w i) λr=>∃f,aZ c.p_.bC i=some f/\r=f.aQ.take f.aT.toNat:=by
 unfold pP;obtain ⟨f,e,_,hm⟩:=qJ (l:=c.p_.bC) h0 (by have:=h.nf;omega);rw [e];have hv:=h.vl f hm;simp only [iX];exact aW.need ⟨hv.2.1,hv.2.2⟩ (.some ⟨f,rfl,rfl⟩)
theorem Yi (h:CI N B c) (hn:300<n) {x:Nd} {p:aK} (hp:p.bJ=4):aW (nM n c w x p.jR) λr=>r.2.e_=0->r.2=w/\Lc (xV c) c.bI p r.1/\(xz r.1:Int)<=sz x:=by
 unfold nM;rw [qZ];simp only [iX];refine (Hu h hn).bind λv hv=>?_;refine aW.bind (P:=λw'=>w'.e_=0->w'=w/\Lc (xV c) c.bI p ⟨[118,97,114],4,0,v.1,[],x.gI⟩) ?_ λw' hw'=>.some λe=>⟨(hw' e).1,(hw' e).2,by rw [Dg,nG];have:=uP x;omega⟩;refine (Ex (w:=v.2) h hv.1).bind λk hk=>aW.iteb (λhc=>?_) (λ_=>by rw [qZ];exact .some λe=>by have:=(gR (k:=132) zc e).2.1;cases this);have hk4:k=4:=by simpa using hc
 rcases hk with ⟨_,h2⟩ | ⟨h0,u,h1,hku⟩
 ·omega
 obtain ⟨f,_,hm,hvs,hfi⟩:=h.cur;rw [hfi];rw [hvs] at h1;have hlt:v.1.toNat<f.aQ.length:=(xW.1 h1).1
 have e2:aZ f.aQ (max v.1 0)=some u:=by
  rw [show max v.1 0=v.1 by omega];unfold aZ;rw [cX h0];exact h1
 simp only [iX,e2,qZ];refine .some λe=>?_;obtain ⟨k1,k2,k3⟩:=gR (k:=132) zc e;obtain ⟨j1,u3,j2,j3,j4,j5⟩:=hv.2.2 k1;obtain ⟨_,_,i3⟩:=gR (k:=132) zc (by rw [←j1];exact k1);refine ⟨by rw [k3,j1,i3],.arr hp j2 (u:=u) (by rw [hvs];unfold aZ;rw [cX h0];exact h1) zb (by simpa using k2)⟩
theorem Sa (h:CI N B c) {x:Nd} (hx:WE x) (hs:sz x<=20000) (hn:3*sz x+301<=n) {v:aK}:aW (nY n c w x v) λr=>r.2.e_=0->r.2=w/\Lc (xV c) c.bI v r.1/\(xz r.1:Int)<=sz x:=by
 have hp:=uP x;unfold nY;refine aW.iteb (λh4=>?_) (λh4=>aW.iteb (λh1=>?_) (λh1=>?_))
 ·exact (Yi h zb (by simpa using h4)).bind λr hr=>.some hr
 ·exact (yE h hx hs hn).bind λr hr=>.some λe=>⟨(hr.1 e).1,.pub (by simpa using h1) (hr.1 e).2.1 (hr.2 e),(hr.1 e).2.2⟩
 ·refine (DQ h hx hs hn).bind λr hr=>LU.bind λb hb=>?_;rw [qZ];refine .some λe=>?_;obtain ⟨k1,k2,k3⟩:=gR (k:=132) zc e;exact ⟨k3.trans (hr k1).1,.val (by simpa using h1) (by simpa using h4) (hr k1).2.1 (hb k2),(hr k1).2.2⟩
theorem CI.calls (h:CI N B c) {l:List Int} {k:Int} (e:aZ c.cF c.fW=some l) (h0:0<=k) (h1:k<N):CI N (B+1) { c with cF:=c.cF.set c.fW.toNat (l++[k]) }:=by
 have hm:l ∈ c.cF:=by
  obtain ⟨l2,e2,_,hm⟩:=qJ (l:=c.cF) h.a0 (by rw [h.nc];exact h.a1);rw [e] at e2;cases e2;exact hm
 refine ⟨h.nf,h.nN,h.f0,h.f1,h.a0,h.a1,h.sc,h.sl,h.vl,by simp only [Db];exact h.nc,?_,h.ki⟩;intro l' hl'
 rcases YK hl' with hl' | rfl
 ·exact ⟨Nat.le_succ_of_le (h.cl l' hl').1,(h.cl l' hl').2⟩
 ·have:=h.cl l hm;refine ⟨by simp only [oY,vO];omega,λu hu=>?_⟩
  rcases yU.1 hu with hu | hu
  ·exact this.2 u hu
  ·obtain rfl:=zU.1 hu;exact ⟨h0,h1⟩
theorem CI.more {B':Nat} (h:CI N B c) (hb:B<=B'):CI N B' c:=⟨h.nf,h.nN,h.f0,h.f1,h.a0,h.a1,h.sc,h.sl,h.vl,h.nc,λl hl=>⟨No (h.cl l hl).1 hb,(h.cl l hl).2⟩,h.ki⟩
theorem zaR {x:Nd} {sh:List aK} {l:List Int} {k4:Int × aG} (h:CI N B { c with cF:=c.cF.set c.fW.toNat (l++[k4.1]) }) (hx:∀y ∈ x.aN,WE y) (hs:zW x.aN<=20000) (hn:3*zW x.aN+301<=n) {w0:aG} (hw0:w0.e_=0->x.aN.length=sh.length) {st0:aA} :
  ∀(k v:Nat) (w:aG) (ys:List aB),x.aN.length<v+k->v<=x.aN.length->ys.length=v->(w.e_=0->w=w0/\∀(i:Nat) p y,sh[i]? = some p->ys[i]? = some y->Lc (xV c) c.bI p y)->WK w0 w->aW (lR n x sh c l k4 k (v:Int) w { st0 with aN:=ys }) λr=>WK w r.1/\(∃zs,r.2={ st0 with aN:=zs }/\(r.1.e_=0->Dr (xV c) c.bI sh zs/\(nG zs:Int)<=nG ys+zW (x.aN.drop v))):=by
 intro k
 induction k with
 | zero=>intro v w ys h1 h2 h3;omega
 | succ k ih=>
   intro v w ys h1 h2 h3 h4 hw;unfold lR;have hg:=rN x.aN
   by_cases hv:v<x.aN.length
   ·rw [cX (Ah zb)];obtain ⟨y,e,ey,hym⟩:=qJ (l:=x.aN) (i:=(v:Int)) zb zb
    have hd:x.aN.drop v=y::x.aN.drop (v+1):=by
     rw [GD] at ey;obtain ⟨hlt,rfl⟩:=xW.1 ey;exact Sq hlt
    rw [e];simp only [iX];refine aW.iteb (λhe=>.some ⟨.refl _,ys,rfl,λe=>cM e (by simpa using he)⟩) (λhe=>?_);simp only [bne_eq_false_iff_eq] at he;have hw':=hw he;have hlen:=hw0 (by rw [←hw'];exact he);obtain ⟨u,e2,e3,_⟩:=qJ (l:=sh) (i:=(v:Int)) zb zb;rw [e2];simp only [iX];have hsz:=Oq hym;refine (Sa h (hx y hym) zb zb).bind λr hr=>aW.need (by simp only [vO];omega) ?_;rw [dB zb zb,show ((v:Int)+1)=((v+1:Nat):Int) by omega];refine (ih (v+1) r.2 (ys++[r.1]) zb zb (by simp only [oY,vO];omega) (λer=>⟨?_,λi p y hp hy=>?_⟩) (hw.trans λe=>(hr e).1)).mono λq hq=>?_
    ·rw [(hr er).1,hw']
    ·by_cases hi:i<v
     ·rw [Py zb] at hy;exact (h4 he).2 i p y hp hy
     ·have hi2:i=v:=by
       have:=(xW.1 hy).1;simp only [oY,vO] at this;omega
      subst hi2;rw [Mh zb,h3,xec] at hy;cases hy;rw [GD] at e3;rw [hp] at e3;cases e3
      exact (hr er).2.1
    ·obtain ⟨hq1,zs,hq2,hq3⟩:=hq;refine ⟨WK.trans (λe=>(hr e).1) hq1,zs,hq2,λeq=>?_⟩;obtain ⟨h5,h6⟩:=hq3 eq;refine ⟨h5,?_⟩;rw [Rf,nG,nG] at h6;rw [hd,yY];have:=(hr (by rw [←hq1 eq];exact eq)).2.2;omega
   ·rw [cE (by simp;omega)];refine .some ⟨.refl _,ys,rfl,λe=>⟨⟨?_,(h4 e).2⟩,by have:=rN (x.aN.drop v);omega⟩⟩;have:=hw0 (by rw [←hw e];exact e);omega
theorem Kh (h:CI N B c) (hB:B+1<=1073741824) {x:Nd} (hx:∀y ∈ x.aN,WE y) (hs:zW x.aN<=20000) (hn:3*zW x.aN+301<=n) (hn2:20000<n) {st:aA} {v:Int} :
  aW (kF n c w x st v) λr=>CI N (B+1) r.2.1/\Kp c r.2.1/\r.2.1.bI=c.bI/\r.2.1.p_=c.p_/\WK w r.2.2/\(r.2.2.e_=0->0<=r.1.iO/\r.1.iO<N/\∃f xs,r.1=⟨[99,97,108,108],v,r.1.iO,xs,st.bH,st.eG,st.gI⟩/\aZ r.2.1.p_.bC r.1.iO=some f/\sgC r.2.1 r.1.iO f.bO (f.aQ.take f.aT.toNat)/\Dr (xV c) c.bI (f.aQ.take f.aT.toNat) xs/\(nG xs:Int)<=zW x.aN):=by
 have hg:=rN x.aN;unfold kF;refine (function_tot' (w:=w) (x:=x) h zb).bind λr hr=>aW.iteb (λhe=>?_) (λhe=>?_)
 ·simp only [bne_iff_ne] at he;exact .some ⟨h.more (xdp B),.refl c,rfl,rfl,hr.1,λe=>cM e he⟩
 ·simp only [bne_eq_false_iff_eq] at he;obtain ⟨f0,f1⟩:=hr.2 he;obtain ⟨l,e,el,hm⟩:=qJ (l:=c.cF) h.a0 (by rw [h.nc];exact h.a1);have h':=h.calls e f0 f1;rw [e];simp only [iX];refine aW.need (by have:=(h.cl l hm).1;omega) ?_;refine (UK (w:=r.2) h' f0 f1).bind λsh hsh=>?_;obtain ⟨f,hf,rfl⟩:=hsh;rw [qZ];simp only [iX];refine (zaR (st0:={ st with dJ:=[99,97,108,108],fB:=v,iO:=r.1,aN:=[] }) h' hx hs hn (w0:=Sv r.2 ((x.aN.length:Int) == ((f.aQ.take f.aT.toNat).length:Int)) 136 x.gI) (λe=>by have:=(gR (k:=136) zc e).2.1;simp only [beq_iff_eq] at this;omega) n 0 _ [] zb zb rfl (λe=>⟨rfl,λi p y hp hy=>nomatch hy⟩) (.refl _)).bind λq hq=>?_;obtain ⟨hq1,zs,hq2,hq3⟩:=hq;have hal:c.fW.toNat<c.cF.length:=(xW.1 el).1
  have hcl:aZ (c.cF.set c.fW.toNat (l++[r.1])) c.fW=some (l++[r.1]):=by
   unfold aZ;rw [cX h.a0,VI hal]
  refine .some ⟨h',⟨rfl,rfl,WQ _,WQ _,λ_ _=>rfl,rfl,λj hj=>Uv (Ne.symm hj),λl2 e2=>?_⟩,rfl,rfl,hr.1.trans ((WK.nd).trans hq1),λe2=>?_⟩
  ·rw [e] at e2;cases e2
   exact ⟨_,hcl,Rg _ _⟩
  ·rw [hq2];exact ⟨f0,f1,f,zs,rfl,hf,⟨⟨_,hcl,IU _ Gr⟩,f,hf,rfl,rfl⟩,(hq3 e2).1,by have:=(hq3 e2).2;rw [nG,DH] at this;omega⟩
theorem JN (hn:6<n) {x:Nd}:aW (kL n c w x) λb=>b=true->x.bJ=17:=by
 unfold kL;exact aW.bind' (aW.iteb (λhc=>(MK hn).bind λv _=>.some (.some λ_=>by simpa using hc)) (λ_=>.some (.some λh=>nomatch h)))
def St1 (c c':aE) (w':aG) (b:Bool) (s:aA) (x:aC):Prop:=w'.e_=0->TB (sgC c') (xV c') (RB c) b (xV c).length c.bI [s] (xV c').length c'.bI/\(tz s:Int)<=sz x
theorem JB {α:Type} {l:List α} {x:α}:(l++[x])[l.length]? = some x:=by
 rw [Mh (uZ _),xec];rfl
theorem Vq (h:CI N B c) (hB:B+1<=1073741824) {x y:Nd} (hl:x.aN=[y]) (hy:WE y) (hs:sz y<=20000) (hn:3*sz y+301<=n) (hn2:20000<n) {a:Int} {b:Bool} :
  aW (qR n c w x ⟨[],-1,0,[],[],[],a⟩) λr=>CI N (B+1) r.2.1/\Kp c r.2.1/\WK w r.2.2/\St1 c r.2.1 r.2.2 b r.1 x:=by
 unfold qR;rw [hl];refine aW.eqn (v:=y) rfl ?_;refine (JN (c:=c) (w:=w) zb).bind λb hb=>aW.iteb (λhbt=>?_) (λ_=>?_)
 ·obtain ⟨a,s,xs,rfl,hxs⟩:=hy.inv17 (hb hbt);rw [iZ] at hs hn;refine (Kh h hB hxs yz yz hn2).bind λr hr=>?_;obtain ⟨h1,h2,h3,h4,h5,h6⟩:=hr;refine aW.iteb (λhe=>.some ⟨h1,h2,h5,λe=>cM e (by simpa using he)⟩) (λhe=>?_);simp only [bne_eq_false_iff_eq] at he;obtain ⟨f0,f1,f,zs,e1,e2,e3,e4,e9⟩:=h6 he
  have hfm:f ∈ r.2.1.p_.bC:=by
   obtain ⟨f',e',_,hm⟩:=qJ (l:=r.2.1.p_.bC) f0 (by rw [h1.nf];exact f1);rw [e2] at e';cases e';exact hm
  rw [e2];simp only [iX,qZ];have hvs:xV r.2.1=xV c:=by unfold xV;rw [h4,h2.f]
  refine (yD h1 zb λe=>?_).bind λd hd=>.some ⟨hd.1,h2.trans hd.2.1,h5.trans ((WK.nd).trans λe=>(hd.2.2.2.2.1 e).1),λe=>?_⟩
  ·have hr:=(h1.ki f hfm).2;have:=(gR (k:=132) zc e).2.1;simp only [bne_iff_ne,ne_eq] at this;refine ⟨?_,?_,λh=>?_⟩ <;> simp only at * <;> omega
  ·obtain ⟨d1,d2,d3,d4⟩:=hd.2.2.2.2.1 e;have e5:(Sv r.2.2 (f.bO != 0) 132 x.gI).e_=0:=by rw [←d1];exact e
   have hne:=(gR (k:=132) zc e5).2.1;rw [e1];simp only;rw [d2,d3,d4,h3,hvs,oY,vO];exact ⟨.callv (u:=⟨x.dM,f.bO,0⟩) (r:=f.bO) (Kp.sg h1 hd.2.1 e3) (e4.mono (Rg _ _) λ_ h=>h) (by simpa using hne) JB rfl .nil,by rw [Bz,Jb x,hl,wH,iZ];simp only [wF];simp only at e9;omega⟩
 ·refine (DQ h hy hs hn).bind λr hr=>Ov.bind λk hk=>?_;subst hk;refine (yD h zb λe=>?_).bind λd hd=>.some ⟨hd.1.more (xdp B),hd.2.1,hr.wk.trans λe=>(hd.2.2.2.2.1 e).1,λe=>?_⟩
  ·have:=(hr e).2.1.range h.vsOk;refine ⟨?_,?_,λh=>?_⟩ <;> simp only [Iw] at * <;> split at * <;> omega
  ·obtain ⟨d1,d2,d3,d4⟩:=hd.2.2.2.2.1 e;simp only;rw [d2,d3,d4,oY,vO];have hr0:=hr (by rw [←d1];exact e);exact ⟨.var_ (u:=⟨x.dM,Iw r.1.bR,0⟩) (hr0.2.1.mono (Rg _ _) λ_ h=>h) JB rfl .nil,by rw [Bz,Jb x,hl,wH];simp only [wF,nG];have:=hr0.2.2;omega⟩
theorem RV (h:CI N B c) (hn:300<n) {x:Nd}:aW (oS n c w x) λr=>WK w r.2/\(r.1=-1 ∨ 0<=r.1/\r.1<(xV c).length)/\(r.2.e_=0->∃u,r.1 ∈ c.bI/\aZ (xV c) r.1=some u/\(u.bJ=2 ∨ u.bJ=3)):=by
 unfold oS;refine (Hu (w:=w) h hn).bind λv hv=>?_;refine (Ex (w:=v.2) h hv.1).bind λk hk=>?_;simp only [qZ,iX];have hwv:WK w v.2:=λe=>(hv.2.2 e).1
 have key:(k=2 ∨ k=3)->v.2.e_=0->∃u,v.1 ∈ c.bI/\aZ (xV c) v.1=some u/\(u.bJ=2 ∨ u.bJ=3):=λh2 e=>by
  obtain ⟨_,u,j2,j3,j4,_⟩:=hv.2.2 e
  rcases hk with ⟨hm,_⟩ | ⟨_,u2,hk2,rfl⟩
  ·omega
  ·exact ⟨u2,j2,by unfold aZ;rw [cX j3];exact hk2,h2⟩
 refine aW.bind' (aW.iteb (λh2=>.some (.some ⟨hwv.trans WK.nd,hv.1,λe=>?_⟩)) (λ_=>.some (.some ⟨hwv.trans WK.nd,hv.1,λe=>?_⟩)))
 ·exact key (.inl (by simpa using h2)) (gR (k:=132) zc e).1
 ·obtain ⟨k1,k2,_⟩:=gR (k:=132) zc e;exact key (.inr (by simpa using k2)) k1
theorem zaL (h:CI N B c) (hB:B+1<=1073741824) {x y:Nd} (hl:x.aN=[y]) (hy:WE y) (hs:sz y<=20000) (hn:3*sz y+301<=n) (hn2:20000<n) {a:Int} {b:Bool} :
  aW (tF n c w x ⟨[],-1,0,[],[],[],a⟩) λr=>CI N (B+1) r.2.1/\Kp c r.2.1/\WK w r.2.2/\St1 c r.2.1 r.2.2 b r.1 x:=by
 unfold tF;refine (RV (w:=w) h zb).bind λv hv=>?_;rw [hl];refine aW.eqn (v:=y) rfl ?_;refine (JN (c:=c) (w:=v.2) zb).bind λb hb=>aW.iteb (λhbt=>?_) (λ_=>?_)
 ·obtain ⟨a,s,xs,rfl,hxs⟩:=hy.inv17 (hb hbt);rw [iZ] at hs hn;refine (Kh h hB hxs yz yz hn2).bind λr hr=>?_;obtain ⟨h1,h2,h3,h4,h5,h6⟩:=hr;refine aW.iteb (λhe=>?_) (λhe=>.some ⟨h1,h2,hv.1.trans h5,λe=>cM e (by simpa using he)⟩);simp only [beq_iff_eq] at he;obtain ⟨f0,f1,f,zs,e1,e2,e3,e4,e9⟩:=h6 he;have hlen:=h2.v.length_le;have hvs:xV r.2.1=xV c:=by unfold xV;rw [h4,h2.f]
  obtain ⟨u,hu1,hu2,hu3⟩:=hv.2.2 (by rw [←h5 he];exact he);refine (Ex (w:=r.2.2) h1 (v:=v.1) (by rcases hv.2.1 with h | h;exact .inl h;exact .inr ⟨h.1,zb⟩)).bind λk hk=>?_;rw [e2];simp only [iX,qZ];refine .some ⟨h1,h2,hv.1.trans (h5.trans WK.nd),λe=>?_⟩;have hr:=(gR (k:=132) zc e).2.1
  have hku:k=u.bJ:=by
   have h0:=h.sc _ hu1
   rcases hk with ⟨hm,_⟩ | ⟨h0,u2,hk2,rfl⟩
   ·omega
   ·unfold aZ at hu2;rw [cX h0,←hvs,hk2] at hu2;cases hu2;rfl
  rw [e1,hvs,h3];exact ⟨.calls hu1 hu2 hu3 e3 e4 (by rw [←hku];simpa using hr) .nil,by rw [Bz,Jb x,hl,wH,iZ];simp only [wF];simp only at e9;omega⟩
 ·refine (DQ h hy hs hn).bind λr hr=>(Ex (w:=r.2) h hv.2.1).bind λk hk=>LU.bind λb hb=>?_;rw [qZ];refine .some ⟨h.more (xdp B),.refl c,hv.1.trans (hr.wk.trans WK.nd),λe=>?_⟩;obtain ⟨k1,k2,_⟩:=gR (k:=132) zc e;obtain ⟨u,hu1,hu2,hu3⟩:=hv.2.2 (by rw [←hr.wk k1];exact k1)
  have hku:k=u.bJ:=by
   have h0:=h.sc _ hu1
   rcases hk with ⟨hm,_⟩ | ⟨h0,u2,hk2,rfl⟩
   ·omega
   ·unfold aZ at hu2;rw [cX h0,hk2] at hu2;cases hu2;rfl
  exact ⟨.set hu1 hu2 hu3 (hr k1).2.1 (hku ▸ hb k2) .nil,by rw [Bz,Jb x,hl,wH];simp only [wF,nG];have:=(hr k1).2.2;omega⟩
theorem Vn (h:CI N B c) {x:Nd} (hx:WE x) (hs:sz x<=20000) (hn:3*sz x+301<=n) {v:Int} (hv:w.e_=0->0<=v/\v<(xV c).length):aW (qQ n c w x v) λr=>YE c w x r/\(r.2.e_=0->r.1.bR=1/\∀u,aZ (xV c) v=some u->r.1.dJ=[110,117,109]->i64.wrap r.1.N_<u.jR):=by
 unfold qQ;refine (yE h hx hs hn).bind λr hr=>?_;obtain ⟨hr,hr1⟩:=hr;refine aW.bind' (aW.iteb (λhe=>.some ?_) (λhe=>.some (aW.iteb (λh=>nomatch h) (λ_=>.some ⟨hr,λe=>cM e (by simpa using he)⟩))));refine aW.iteb (λho=>?_) (λho=>.some ⟨hr,λe=>⟨hr1 e,λu hu h=>cM h (by simpa using ho)⟩⟩);have he:r.2.e_=0:=by simpa using he
 obtain ⟨v0,v1⟩:=hv (by rw [←(hr he).1];exact he);obtain ⟨f,_,hm,hvs,hfi⟩:=h.cur;rw [hfi];rw [hvs] at v1;obtain ⟨u,e,_,_⟩:=qJ v0 v1;simp only [iX,e,qZ];refine .some ⟨λe2=>?_,λe2=>?_⟩
 ·obtain ⟨k1,_,k3⟩:=gR (k:=137) zc e2;exact ⟨k3.trans (hr k1).1,(hr k1).2⟩
 ·obtain ⟨k1,k2,_⟩:=gR (k:=137) zc e2;refine ⟨hr1 k1,λu2 hu _=>?_⟩;rw [hvs,e] at hu;cases hu
  simpa using k2
theorem zaM (h:CI N B c) {x i y:Nd} (hl:x.aN=[i,y]) (hi:WE i) (hy:WE y) (hs:sz i<=20000) (hs2:sz y<=20000) (hn:3*sz i+301<=n) (hn2:3*sz y+301<=n) {a:Int} {b:Bool}:aW (tG n c w x ⟨[],-1,0,[],[],[],a⟩) λr=>WK w r.2/\St1 c c r.2 b r.1 x:=by
 have hp:=uP i;unfold tG;refine (Hu (w:=w) h zb).bind λv hv=>?_;refine (Ex (w:=v.2) h hv.1).bind λk hk=>?_;have hwv:WK w v.2:=λe=>(hv.2.2 e).1;rw [qZ,hl];refine aW.eqn (v:=Sv v.2 (k == 4) 132 x.gI) rfl (aW.eqn (v:=i) rfl ?_);refine (Vn h hi hs hn (λe=>?_)).bind λr hr=>?_
 ·have:=(gR (k:=132) zc e).1;obtain ⟨_,u,h1,_⟩:=hv.2.2 this;exact h.sc _ h1
 refine aW.eqn (v:=y) rfl ?_;refine (DQ h hy hs2 hn2).bind λq hq=>LU.bind λb hb=>?_;rw [qZ];refine .some ⟨hwv.trans ((WK.nd).trans (hr.1.wk.trans (hq.wk.trans WK.nd))),λe=>?_⟩;obtain ⟨k1,k2,_⟩:=gR (k:=132) zc e;have er:r.2.e_=0:=by rw [←hq.wk k1];exact k1
 obtain ⟨j1,j2,_⟩:=gR (k:=132) zc (by rw [←hr.1.wk er];exact er);obtain ⟨_,u,i2,i3,i4,_⟩:=hv.2.2 j1;have hu:aZ (xV c) v.1=some u:=by unfold aZ;rw [cX i3];exact i4
 have hu4:u.bJ=4:=by
  rcases hk with ⟨hm,_⟩ | ⟨_,u2,hk2,rfl⟩
  ·omega
  ·rw [i4] at hk2;cases hk2;simpa using j2
 exact ⟨.put i2 hu hu4 (hr.1 er).2.1 (hr.2 er).1 ((hr.2 er).2 u hu) (hq k1).2.1 (hb k2) .nil,by rw [Bz,Jb x,hl,MT];simp only [wF,nG];have:=(hr.1 er).2.2;have:=(hq k1).2.2;omega⟩
def Md (s:aA):Prop:=s.dJ=[114,101,116,117,114,110] ∨ s.dJ=[99,97,108,108]/\s.fB=-2
theorem Ye (h:CI N B c) (hB:B+1<=1073741824) {x y:Nd} (hl:x.aN=[y]) (hy:WE y) (hs:sz y<=20000) (hn:3*sz y+301<=n) (hn2:20000<n) {a:Int} {l:Bool} :
  aW (sD n c w x ⟨[],-1,0,[],[],[],a⟩ l) λr=>CI N (B+1) r.2.1/\Kp c r.2.1/\WK w r.2.2/\St1 c r.2.1 r.2.2 l r.1 x/\(r.2.2.e_=0->Md r.1):=by
 unfold sD;obtain ⟨f,_,hm,hvs,hfi⟩:=h.cur;rw [hfi,hl];refine aW.bind (P:=λw'=>WK w w'/\(w'.e_=0->l=true/\f.bO ≠ 0)) ?_ λw1 hw1=>?_
 ·simp only [iX,qZ];refine aW.iteb (λhl=>.some ⟨WK.nd,λe=>⟨hl,?_⟩⟩) (λ_=>.some ⟨WK.nd,λe=>?_⟩)
  ·simpa using (gR (k:=135) zc e).2.1
  ·have:=(gR (k:=135) zc e).2.1;cases this
 refine aW.bind (P:=λb=>b=true->y.bJ=17) ?_ λb hb=>aW.iteb (λhbt=>?_) (λ_=>?_)
 ·refine aW.iteb (λ_=>?_) (λ_=>.some λh=>nomatch h);exact aW.eqn (v:=y) rfl ((JN (c:=c) (w:=w1) zb).bind λb hb=>.some hb)
 ·refine aW.eqn (v:=y) rfl ?_;obtain ⟨a,s,xs,rfl,hxs⟩:=hy.inv17 (hb hbt);rw [iZ] at hs hn;refine (Kh h hB hxs yz yz hn2).bind λr hr=>?_;obtain ⟨h1,h2,h3,h4,h5,h6⟩:=hr;refine aW.iteb (λhe=>?_) (λhe=>.some ⟨h1,h2,hw1.1.trans h5,λe=>cM e (by simpa using he),λe=>cM e (by simpa using he)⟩);simp only [beq_iff_eq] at he;obtain ⟨f0,f1,g,zs,e1,e2,e3,e4,e9⟩:=h6 he;obtain ⟨g2,_,_,_,e5⟩:=h1.cur;have hvs':xV r.2.1=xV c:=by unfold xV;rw [h4,h2.f]
  rw [e2,e5];simp only [iX,qZ];refine .some ⟨h1,h2,hw1.1.trans (h5.trans WK.nd),λe=>?_,λe=>.inr ?_⟩
  ·obtain ⟨hl2,hne⟩:=hw1.2 (by rw [←h5 he];exact he);subst hl2;have hr:=(gR (k:=132) zc e).2.1
   have hg2:g2=f:=by
    rw [h2.f,h4,hfi] at e5;cases e5;rfl
   have hres:g.bO=RB c:=by
    rw [h.res hfi,←hg2];simpa using hr
   rw [e1,hvs',h3];exact ⟨.retc (hres ▸ e3) (by rw [h.res hfi];exact hne) e4,by rw [Bz,Jb x,hl,wH,iZ];simp only [wF];simp only at e9;omega⟩
  ·rw [e1];exact ⟨rfl,rfl⟩
 ·refine aW.eqn (v:=y) rfl ?_;refine (DQ h hy hs hn).bind λr hr=>aW.eqn (v:=f) rfl (LU.bind λb hb=>?_);rw [qZ];refine .some ⟨h.more (xdp B),.refl c,hw1.1.trans (hr.wk.trans WK.nd),λe=>?_,λ_=>.inl rfl⟩;obtain ⟨k1,k2,_⟩:=gR (k:=132) zc e;obtain ⟨hl2,hne⟩:=hw1.2 (by rw [←hr.wk k1];exact k1);subst hl2;exact ⟨.ret (hr k1).2.1 (by rw [h.res hfi];exact hne) (by rw [h.res hfi];exact hb k2),by rw [Bz,Jb x,hl,wH];simp only [wF,nG];have:=(hr k1).2.2;omega⟩
end
section
variable {N B n:Nat} {c:aE} {w:aG}
theorem MW {α:Type} {l l':List α} (h:l <+: l'):l'.take l.length=l:=by
 obtain ⟨r,rfl⟩:=h;rw [List.take_append_of_le_length (uZ _),xeh]
theorem CI.scope {c':aE} (h:CI N B c') (h0:CI N B c) (k:Kp c c'):CI N B { c' with bI:=c.bI }/\Kp c { c' with bI:=c.bI }:=by
 refine ⟨⟨h.nf,h.nN,h.f0,h.f1,h.a0,h.a1,λv hv=>?_,?_,h.vl,h.nc,h.cl,h.ki⟩,⟨k.f,k.a,WQ _,k.v,k.o,k.g,k.k,k.l⟩⟩
 ·have h1:=h0.sc v hv;have h2:=k.v.length_le;have:xV { c' with bI:=c.bI }=xV c':=rfl;rw [this];omega
 ·have h1:=h0.sl;have h2:=k.v.length_le;have:xV { c' with bI:=c.bI }=xV c':=rfl;rw [this];show c.bI.length<=_;omega
end
def Lv2 (N B:Nat) (k:Int) (c:aE) (w:aG) (c':aE) (w':aG):Prop:=(∃B':Nat,(B':Int)<=B+k/\CI N B' c')/\Kp c c'/\WK w w'
def StL (c c':aE) (b:Bool) (ss:List aA):Prop:=∃sc',TB (sgC c') (xV c') (RB c) b (xV c).length c.bI ss (xV c').length sc'
def RetL (l:List aC) (ss:List aA):Prop:=∀y,l.getLast? = some y->y.bJ=13->∃s,ss.getLast? = some s/\Md s
def OkSm (N n:Nat) (f:aE->aG->aC->Bool->Option (aA × aE × aG)):Prop:=∀B c w x b,CI N B c->WS x->sz x<=20000->(B:Int)+sz x<=1073741824->3*sz x+20301<=n->aW (f c w x b) λr=>Lv2 N B (sz x) c w r.2.1 r.2.2/\St1 c r.2.1 r.2.2 b r.1 x/\(r.2.2.e_=0->x.bJ=13->Md r.1)
def OkBk (N n:Nat) (f:aE->aG->aC->Bool->Option ((List aA) × aE × aG)):Prop:=∀B c w x b,CI N B c->(∀y ∈ x.aN,WS y)->zW x.aN<=20000->(B:Int)+zW x.aN<=1073741824->3*zW x.aN+20302<=n->aW (f c w x b) λr=>(Lv2 N B (zW x.aN) c w r.2.1 r.2.2/\r.2.1.bI=c.bI)/\(r.2.2.e_=0->StL c r.2.1 b r.1/\RetL x.aN r.1/\(wF r.1:Int)<=zW x.aN)
section
variable {N B n:Nat} {c:aE} {w:aG}
theorem Yc {m:Nat} {x:Nd} {b:Bool} {fs:aE->aG->aC->Bool->Option (aA × aE × aG)} (hf:OkSm N m fs) (hs:zW x.aN<=20000) (hm:3*zW x.aN+20301<=m) :
  ∀(k v B:Nat) (ys:List aA) (c:aE) (w:aG),x.aN.length<v+k->v<=x.aN.length->ys.length=v->CI N B c->(∀y ∈ x.aN.drop v,WS y)->(B:Int)+zW (x.aN.drop v)<=1073741824->aW (kX fs x b k ys (v:Int) c w) λr=>Lv2 N B (zW (x.aN.drop v)) c w r.2.1 r.2.2/\(r.2.2.e_=0->∃ss,r.1=ys++ss/\TB (sgC r.2.1) (xV r.2.1) (RB c) b (xV c).length c.bI ss (xV r.2.1).length r.2.1.bI/\RetL (x.aN.drop v) ss/\(wF ss:Int)<=zW (x.aN.drop v))/\(v=x.aN.length->r.1=ys/\r.2.1=c):=by
 intro k
 induction k with
 | zero=>intro v B ys c w h1 h2;omega
 | succ k ih=>
   intro v B ys c w h1 h2 h3 h hx hB;unfold kX;have hg:=rN x.aN;have hg0:=rN (x.aN.drop v)
   by_cases hv:v<x.aN.length
   ·rw [cX (Ah zb)];have hd:x.aN.drop v=x.aN[v]::x.aN.drop (v+1):=Sq hv;have e:aZ x.aN (v:Int)=some x.aN[v]:=by unfold aZ;rw [cX zb,GD,yN hv]
    have hsz:=Oq (NY hv);rw [hd,yY] at hB ⊢;have hg1:=rN (x.aN.drop (v+1));have hp:=uP x.aN[v];rw [e];simp only [iX];refine aW.iteb (λhe=>.some ⟨⟨⟨B,zb,h⟩,.refl c,.refl w⟩,λe=>cM e (by simpa using he),λ_=>⟨rfl,rfl⟩⟩) (λhe=>?_);have Kb:∀b2,aW (fs c w x.aN[v] b2) λr=>Lv2 N B (sz x.aN[v]) c w r.2.1 r.2.2/\St1 c r.2.1 r.2.2 b2 r.1 x.aN[v]/\(r.2.2.e_=0->(x.aN[v]).bJ=13->Md r.1):=λb2=>hf B c w _ b2 h (hx _ (by rw [hd];exact PH)) zb zb zb;refine aW.bind (P:=λr=>Lv2 N B (sz x.aN[v]) c w r.2.1 r.2.2/\∃s b2,r.1=ys++[s]/\St1 c r.2.1 r.2.2 b2 s x.aN[v]/\(b2=true->b=true/\v+1=x.aN.length)/\(r.2.2.e_=0->(x.aN[v]).bJ=13->Md s)) ?_ λr hr=>?_
    ·refine aW.iteb (λhb=>?_) (λ_=>?_)
     ·exact (Kb _).bind λr hr=>aW.need (by simp only [vO];omega) (.some ⟨hr.1,r.1,_,rfl,hr.2.1,λh2=>⟨hb,by
       rw [dB zb zb,beq_iff_eq] at h2;omega⟩,hr.2.2⟩)
     ·exact (Kb false).bind λr hr=>aW.need (by simp only [vO];omega) (.some ⟨hr.1,r.1,false,rfl,hr.2.1,λh2=>Bool.noConfusion h2,hr.2.2⟩)
    ·obtain ⟨⟨⟨B',hb',h'⟩,hk,hw⟩,s,b2,hr1,hs1,hb2,hrt⟩:=hr;rw [dB zb zb,show ((v:Int)+1)=((v+1:Nat):Int) by omega];refine (ih (v+1) B' _ _ _ zb zb (by rw [hr1,oY,vO];omega) h' (λy hy=>hx y (by rw [hd];exact Nm _ hy)) zb).mono λq hq=>?_;obtain ⟨⟨⟨B2,hbb,h2⟩,hk2,hw2⟩,hT,hend⟩:=hq;refine ⟨⟨⟨B2,zb,h2⟩,hk.trans hk2,hw.trans hw2⟩,λe=>?_,λh=>zb⟩;obtain ⟨ss,hq1,hT1,hR,hZ⟩:=hT e;have e2:r.2.2.e_=0:=by rw [←hw2 e];exact e
     refine ⟨s::ss,by rw [hq1,hr1,Mi];rfl,?_,?_,by rw [wF];have:=(hs1 e2).2;omega⟩
     ·have t1:=(hs1 e2).1.mono (λk r ps h=>Kp.sg h' hk2 h) hk2.v;rw [hk.res h] at hT1;cases b2 with
      | false=>exact t1.app rfl hT1
      | true=>
        obtain ⟨rfl,hvl⟩:=hb2 rfl;obtain ⟨q1,q2⟩:=hend hvl
        have hss:ss=[]:=by
         rw [q1] at hq1;simpa using hq1
        subst hss;rw [q2];exact (hs1 e2).1
     ·intro y hy hk13;rw [List.getLast?_cons] at hy;cases hl:(x.aN.drop (v+1)).getLast? with
      | none=>
        rw [hl] at hy;have hnil:=List.getLast?_eq_none_iff.1 hl
        have hv1:v+1=x.aN.length:=by
         have:=List.drop_eq_nil_iff.1 hnil;omega
        obtain ⟨q1,q2⟩:=hend hv1
        have hss:ss=[]:=by
         rw [q1] at hq1;simpa using hq1
        subst hss;cases hy;exact ⟨s,rfl,hrt e2 hk13⟩
      | some y2=>
        rw [hl] at hy;cases hy;obtain ⟨s2,h5,h6⟩:=hR _ hl hk13;exact ⟨s2,by rw [List.getLast?_cons,h5];rfl,h6⟩
   ·rw [cE (by simp;omega)];have hnil:x.aN.drop v=[]:=WR zb;rw [hnil];exact .some ⟨⟨⟨B,by rw [qD];omega,h⟩,.refl c,.refl w⟩,λe=>⟨[],(Fu _).symm,.nil,(λy hy=>nomatch hy),by rw [wF,qD];decide⟩,λ_=>⟨rfl,rfl⟩⟩
theorem zaS {fs:aE->aG->aC->Bool->Option (aA × aE × aG)} (hf:OkSm N n fs):OkBk N (n+1) (oU fs n):=by
 intro B c w x b h hx hs hB hn;unfold oU;have hg:=rN x.aN;refine (Yc hf hs zb n 0 B [] c w zb zb rfl h (by rw [DH];exact hx) (by rw [DH];exact hB)).bind λr hr=>?_;rw [DH] at hr;obtain ⟨⟨⟨B',hb',h'⟩,hk,hw⟩,hT,_⟩:=hr;have hle:=hk.s.length_le;refine aW.need zb (.some ?_);rw [MW hk.s];have hB':=(h.more (B':=max B B') zb);obtain ⟨k1,k2⟩:=(h'.more (B':=max B B') zb).scope hB' hk;refine ⟨⟨⟨⟨max B B',zb,k1⟩,k2,hw⟩,rfl⟩,λe=>?_⟩;obtain ⟨ss,e1,e2,e3,e4⟩:=hT e;rw [AE] at e1;rw [e1];exact ⟨⟨_,e2⟩,e3,e4⟩
def OkLp (N n:Nat) (f:aE->aG->aC->aA->Option (aA × aE × aG)):Prop:=∀B c w x st,CI N B c->WS x->x.bJ=12->sz x<=20000->(B:Int)+sz x<=1073741824->3*sz x+20300<=n->(∃a,st=⟨[],-1,0,[],[],[],a⟩)->∀b,aW (f c w x st) λr=>Lv2 N B (sz x) c w r.2.1 r.2.2/\St1 c r.2.1 r.2.2 b r.1 x
theorem WS.inv12 {x:Nd} (h:WS x) (k:x.bJ=12):∃a s y z b ys,x=⟨12,a,s,0,[y,z,⟨4,b,[],0,ys⟩]⟩/\WE y/\WE z/\∀u ∈ ys,WS u:=by
 cases h with
 | loop h1 h2 h3=>exact ⟨_,_,_,_,_,_,rfl,h1,h2,h3⟩
 | bind hk _=>rcases hk with rfl | rfl <;> simp at k
 | _=>simp at k
theorem cloop_b {fb:aE->aG->aC->Bool->Option ((List aA) × aE × aG)} (hf:OkBk N n fb):OkLp N (n+1) (pQ fb n):=by
 rintro B c w x st h hx hk hs hB hn ⟨sa,rfl⟩ bl;obtain ⟨a,s,y,z,b,ys,rfl,hy,hz,hys⟩:=hx.inv12 hk;rw [iZ,Qx,iZ] at hs hB hn ⊢;have h1:=uP y;have h2:=uP z;have h3:=rN ys;unfold pQ;refine aW.eqn (v:=y) rfl ((yE (w:=w) h hy zb zb).bind λr1 hr1=>?_);refine aW.eqn (v:=z) rfl ((yE (w:=r1.2) h hz zb zb).bind λr2 hr2=>?_);refine (yD (w:=r2.2) h zb λ_=>YU).bind λd hd=>?_;obtain ⟨d1,d2,d3,d4,d5,d6⟩:=hd;refine aW.eqn (v:=⟨4,b,[],0,ys⟩) rfl ((hf B _ _ _ false d1 hys yz yz yz).bind λq hq=>?_);obtain ⟨⟨⟨⟨B',hb',h'⟩,hk',hw'⟩,hsc⟩,hT⟩:=hq;have hkk:=d2.trans hk';have hle:=hkk.s.length_le;refine aW.need zb (.some ?_);have hmin:(min (c.bI.length:Int) (q.2.1.bI.length:Int)).toNat=c.bI.length:=zb
 rw [hmin,MW hkk.s];simp only at hb';obtain ⟨k1,k2⟩:=(h'.more (B':=max B B') zb).scope (h.more (B':=max B B') zb) hkk;refine ⟨⟨⟨max B B',zb,k1⟩,k2,hr1.1.wk.trans (hr2.1.wk.trans (WK.trans (λe=>(d5 e).1) hw'))⟩,λe=>?_⟩;have ed:d.2.2.e_=0:=by rw [←hw' e];exact e
 obtain ⟨g1,g2,g3,g4⟩:=d5 ed;have e2:r2.2.e_=0:=by rw [←g1];exact ed
 have e1:r1.2.e_=0:=by rw [←hr2.1.wk e2];exact e2
 obtain ⟨⟨sc',hT1⟩,_,hZ⟩:=hT e;rw [d2.res h,g3,g4,oY,vO] at hT1;have hv:xV c <+: xV q.2.1:=hkk.v;have hu:(xV q.2.1)[(xV c).length]? = some ⟨s,1,0⟩:=Io hk'.v (by rw [g3];exact JB);simp only;rw [g2];refine ⟨.Ba ((hr1.1 e1).2.1.mono hv λ_ h=>h) (hr1.2 e1) ((hr2.1 e2).2.1.mono hv λ_ h=>h) (hr2.2 e2) hu rfl hT1 .nil,?_⟩;rw [Bz,iZ,Qx,iZ];simp only [nG,wF];simp only at hZ;have:=(hr1.1 e1).2.2;have:=(hr2.1 e2).2.2;omega
end
section
variable {N B n:Nat} {c:aE} {w:aG}
theorem Lv2.one {k:Int} {c':aE} {w':aG} (hk:1<=k) (h:CI N (B+1) c'/\Kp c c'/\WK w w'):Lv2 N B k c w c' w':=⟨⟨B+1,zb,h.1⟩,h.2⟩
theorem Lv2.zero {k:Int} {c':aE} {w':aG} (hk:0<=k) (h:CI N B c') (h2:Kp c c') (h3:WK w w'):Lv2 N B k c w c' w':=⟨⟨B,zb,h⟩,h2,h3⟩
theorem zad {a:Int} (h:Bo (i64.wrap (min a 1025))):Bo (i64.wrap a):=by
 by_cases h1:a<=1025
 ·rwa [show min a 1025=a by omega] at h
 ·rw [show min a 1025=1025 by omega,show i64.wrap 1025=1025 by decide] at h;exact cM h (by unfold Bo;omega)
theorem cstmt_b {fb:aE->aG->aC->Bool->Option ((List aA) × aE × aG)} {fl:aE->aG->aC->aA->Option (aA × aE × aG)} (hf:OkBk N n fb) (hl:OkLp N n fl):OkSm N (n+1) (lK fb fl n):=by
 intro B c w x b h hx hs hB hn;have hp:=uP x;unfold lK;cases hx with
 | bind hk hy=>
   rw [iZ,wH] at hs hB hn hp ⊢
   rcases hk with rfl | rfl
   ·simp only [Int.reduceBEq,JR,if_false,if_true];refine aW.eqn rfl ((yE (w:=w) h hy zb zb).bind λr hr=>?_);refine (yD (w:=r.2) h zb λ_=>YU).bind λd hd=>.some ⟨.zero zb hd.1 hd.2.1 (hr.1.wk.trans λe=>(hd.2.2.2.2.1 e).1),λe=>?_,λ_ h=>cM h zc⟩;obtain ⟨d1,d2,d3,d4⟩:=hd.2.2.2.2.1 e;have er:r.2.e_=0:=by rw [←d1];exact e
    simp only;rw [d2,d3,d4,oY,vO];exact ⟨.let_ ((hr.1 er).2.1.mono (Rg _ _) λ_ h=>h) (hr.2 er) JB rfl .nil,by rw [Bz,iZ,wH];simp only [wF,nG];have:=(hr.1 er).2.2;omega⟩
   ·simp only [Int.reduceBEq,JR,if_false,if_true];exact (Vq h zb rfl hy zb zb zb).bind λr hr=>.some ⟨.one zb ⟨hr.1,hr.2.1,hr.2.2.1⟩,hr.2.2.2,λ_ h=>cM h zc⟩
 | arr=>
   rw [iZ,qD] at hs hB hn hp ⊢;simp only [Int.reduceBEq,JR,if_false,if_true];refine QB.bind λk hk=>?_;rw [qZ];refine (yD (w:=Sv w k 136 _) h zb λe=>YT ?_).bind λd hd=>.some ⟨.zero zb hd.1 hd.2.1 ((WK.nd).trans λe=>(hd.2.2.2.2.1 e).1),λe=>?_,λ_ h=>cM h zc⟩
   ·exact zad (hk (gR (k:=136) zc e).2.1)
   ·obtain ⟨d1,d2,d3,d4⟩:=hd.2.2.2.2.1 e;simp only;rw [d2,d3,d4,oY,vO];exact ⟨.arr JB rfl .nil,by rw [Bz,iZ,qD];simp only [wF,nG];omega⟩
 | ret hy=>
   rw [iZ,wH] at hs hB hn hp ⊢;simp only [Int.reduceBEq,JR,if_false,if_true];exact (Ye h zb rfl hy zb zb zb).bind λr hr=>.some ⟨.one zb ⟨hr.1,hr.2.1,hr.2.2.1⟩,hr.2.2.2.1,λe _=>hr.2.2.2.2 e⟩
 | loop h1 h2 h3=>
   simp only [Int.reduceBEq,JR,if_false,if_true];exact (hl B c w _ _ h (.loop h1 h2 h3) rfl hs hB zb ⟨_,rfl⟩ b).bind λr hr=>.some ⟨hr.1,hr.2,λ_ h=>cM h zc⟩
 | set hy=>
   rw [iZ,wH] at hs hB hn hp ⊢;simp only [Int.reduceBEq,JR,if_false,if_true];exact (zaL h zb rfl hy zb zb zb).bind λr hr=>.some ⟨.one zb ⟨hr.1,hr.2.1,hr.2.2.1⟩,hr.2.2.2,λ_ h=>cM h zc⟩
 | put hi hy=>
   rw [iZ,MT] at hs hB hn hp ⊢;rename_i i0 y0;have p1:=uP i0;have p2:=uP y0;simp only [Int.reduceBEq,JR,if_false,if_true];exact (zaM h rfl hi hy zb zb zb zb).bind λr hr=>.some ⟨.zero zb h (.refl c) hr.1,hr.2,λ_ h=>cM h zc⟩
 | call hy=>
   rw [iZ] at hs hB hn hp ⊢;simp only [Int.reduceBEq,JR,if_false,if_true];refine (Kh h zb hy yz yz zb).bind λr hr=>.some ⟨.one zb ⟨hr.1,hr.2.1,hr.2.2.2.2.1⟩,λe=>?_,λ_ h=>cM h zc⟩;obtain ⟨h1,h2,h3,h4,h5,h6⟩:=hr;obtain ⟨f0,f1,f,zs,e1,e2,e3,e4,e9⟩:=h6 e;have hvs:xV r.2.1=xV c:=by unfold xV;rw [h4,h2.f]
   simp only;rw [e1,hvs,h3];exact ⟨.do_ e3 e4 .nil,by rw [Bz,iZ];simp only [wF];simp only at e9;omega⟩
 | choice h1 h2=>
   rw [iZ,MT,iZ] at hs hB hn hp ⊢;rename_i c0 b0 ys;have p1:=uP c0;have p2:=rN ys;simp only [Int.reduceBEq,JR,if_false,if_true];refine aW.eqn (v:=c0) rfl ((yE (w:=w) h h1 zb zb).bind λr hr=>?_);refine aW.eqn (v:=⟨4,b0,[],0,ys⟩) rfl ((hf B c _ _ false h h2 yz yz yz).bind λq hq=>?_);obtain ⟨⟨⟨⟨B',hb',h'⟩,hk',hw'⟩,hsc⟩,hT⟩:=hq;simp only at hb';refine aW.need zd ?_;obtain ⟨m,rfl⟩:∃m,n=m+1:=⟨n - 1,zb⟩;unfold iB;refine .some ⟨⟨⟨B',zb,h'⟩,hk',hr.1.wk.trans hw'⟩,λe=>?_,λ_ h=>cM h zc⟩;have er:r.2.e_=0:=by rw [←hw' e];exact e
   obtain ⟨⟨sc',hT1⟩,_,hZ⟩:=hT e;simp only;rw [hsc];refine ⟨.Ln ((hr.1 er).2.1.mono hk'.v λ_ h=>h) (hr.2 er) hT1 .nil .nil,?_⟩;rw [Bz,iZ,MT,iZ];simp only [nG,wF];simp only at hZ;have:=(hr.1 er).2.2;omega
 | choice2 h1 h2 h4=>
   rw [iZ,Qx,iZ,iZ] at hs hB hn hp ⊢;rename_i c0 b0 ys b1 zs;have p1:=uP c0;have p2:=rN ys;have p3:=rN zs;simp only [Int.reduceBEq,JR,if_false,if_true];refine aW.eqn (v:=c0) rfl ((yE (w:=w) h h1 zb zb).bind λr hr=>?_);refine aW.eqn (v:=⟨4,b0,[],0,ys⟩) rfl ((hf B c _ _ false h h2 yz yz yz).bind λq hq=>?_);obtain ⟨⟨⟨⟨B',hb',h'⟩,hk',hw'⟩,hsc⟩,hT⟩:=hq;simp only at hb';refine aW.need zd ?_;obtain ⟨m,rfl⟩:∃m,n=m+1+1:=⟨n - 2,zb⟩;unfold iB;refine aW.bind' ?_;refine aW.iteb (λ_=>?_) (λhc=>by simp at hc);refine aW.eqn (v:=⟨4,b1,[],0,zs⟩) rfl ((hf B' q.2.1 _ _ false h' h4 yz yz yz).bind λq2 hq2=>?_);obtain ⟨⟨⟨⟨B2,hb2,h5⟩,hk2,hw2⟩,hsc2⟩,hT2⟩:=hq2;simp only at hb2;unfold iB;refine .some (.some ⟨⟨⟨B2,zb,h5⟩,hk'.trans hk2,hr.1.wk.trans (hw'.trans hw2)⟩,λe=>?_,λ_ h=>cM h zc⟩);have eq:q.2.2.e_=0:=by rw [←hw2 e];exact e
   have er:r.2.e_=0:=by rw [←hw' eq];exact eq
   obtain ⟨⟨sc1,hT1⟩,_,hZ⟩:=hT eq;obtain ⟨⟨sc2,hT3⟩,_,hZ2⟩:=hT2 e;rw [hk'.res h,hsc] at hT3;simp only;rw [hsc2,hsc];refine ⟨.Ln ((hr.1 er).2.1.mono (hk'.trans hk2).v λ_ h=>h) (hr.2 er) (hT1.mono (λ_ _ _ h=>Kp.sg h' hk2 h) hk2.v) hT3 .nil,?_⟩;rw [Bz,iZ,Qx,iZ,iZ];simp only [nG,wF];simp only at hZ hZ2;have:=(hr.1 er).2.2;omega
theorem TU:∀n:Nat,OkBk N n (eX n).1/\OkSm N n (eX n).2.1/\OkLp N n (eX n).2.2
 | 0=>⟨λB c w x b _ _ _ _ h=>by have:=rN x.aN;omega,λB c w x b _ _ _ _ h=>by have:=uP x;omega,λB c w x st _ _ _ _ _ h _ _=>by have:=uP x;omega⟩
 | n+1=>by
   obtain ⟨g1,g2,g3⟩:=TU n;exact ⟨zaS g2,cstmt_b g1 g3,cloop_b g1⟩
end
structure CO (N B:Nat) (c:aE):Prop where
 nf:c.p_.bC.length=N
 nN:N<=16384
 vl:∀f ∈ c.p_.bC,f.aQ.length<=250/\0<=f.aT/\f.aT<=f.aQ.length
 nc:c.cF.length=N
 cl:∀l ∈ c.cF,l.length<=B/\∀k ∈ l,0<=k/\k<N
 ki:∀f ∈ c.p_.bC,(∀v ∈ f.aQ,Hz v)/\(f.bO=0 ∨ f.bO=2 ∨ f.bO=3)
def pC (k:Nat):List Int:=(List.range k).map Int.ofNat
theorem Tg (k:Nat):pC (k+1)=pC k++[(k:Int)]:=by
 unfold pC;rw [List.range_succ,YI];rfl
theorem Oy (k:Nat):(pC k).length=k:=by unfold pC;simp
theorem Eb {k:Nat} {v:Int} (h:v ∈ pC k):0<=v/\v<k:=by
 unfold pC at h;obtain ⟨i,h1,rfl⟩:=Qo.1 h;have:=Yx.1 h1;have h2:Int.ofNat i=(i:Int):=rfl;omega
def DU:List aK->Int->Int
 | [],n=>n
 | v::l,n=>DU l (if v.bJ=3 then n+(n % 2+1)+1 else n+1)
theorem YN {f:aJ} (hl:(f.aQ.take f.aT.toNat).length<=250):∀(k v:Nat) (a:Int),(f.aQ.take f.aT.toNat).length<v+k->v<=(f.aQ.take f.aT.toNat).length->0<=a->a<=4*(v:Int)->qA f k a (v:Int)=some (DU ((f.aQ.take f.aT.toNat).drop v) a):=by
 intro k
 induction k with
 | zero=>intro v a h1 h2;omega
 | succ k ih=>
   intro v a h1 h2 h3 h4;unfold qA
   by_cases hv:v<(f.aQ.take f.aT.toNat).length
   ·rw [cX (Ah zb)];have hd:(f.aQ.take f.aT.toNat).drop v=(f.aQ.take f.aT.toNat)[v]::(f.aQ.take f.aT.toNat).drop (v+1):=Sq hv;have e:aZ (f.aQ.take f.aT.toNat) (v:Int)=some (f.aQ.take f.aT.toNat)[v]:=by unfold aZ;rw [cX zb,GD,yN hv]
    rw [hd,e];simp only [iX,DU,beq_iff_eq];have h5:=Int.emod_nonneg a (show (2:Int) ≠ 0 by decide);have h6:=Int.emod_lt_of_pos a (show (0:Int)<2 by decide);rw [dB (n:=(v:Int)+1) zb zb,show ((v:Int)+1)=((v+1:Nat):Int) by omega]
    split
    ·rw [xek h3,dB (n:=a % 2+1) zb zb,dB (n:=a+(a % 2+1)) zb zb,dB zb zb];exact ih (v+1) _ zb zb zb zb
    ·rw [dB zb zb];exact ih (v+1) _ zb zb zb zb
   ·rw [cE (by rw [Da];omega),WR zb];rfl
theorem YO {f:aJ} {n:Nat} (h1:f.aQ.length<=250) (h2:0<=f.aT) (h3:f.aT<=f.aQ.length) (hn:300<n):wC n f=some (DU (f.aQ.take f.aT.toNat) 0):=by
 have hl:(f.aQ.take f.aT.toNat).length<=250:=by rw [NL];omega
 unfold wC;rw [wP ⟨h2,h3⟩];have:=YN hl n 0 0 zb zb zb zb;rw [show ((0:Nat):Int)=0 from rfl,DH] at this;rw [this];rfl
section
variable {N B n:Nat} {c:aE} {w:aG}
theorem CO.ci (h:CO N B c) {i:Int} (h0:0<=i) (h1:i<N) {f:aJ} (hf:c.p_.bC[i.toNat]? = some f) {s:List Int} (hs:∀v ∈ s,0<=v/\v<f.aQ.length) (hl:s.length<=f.aQ.length):CI N B { c with f_:=i,bI:=s,fW:=i }:=by
 have hv:xV { c with f_:=i,bI:=s,fW:=i }=f.aQ:=by unfold xV;simp only [hf];rfl
 exact ⟨h.nf,h.nN,h0,h1,h0,h1,by rw [hv];exact hs,by rw [hv];exact hl,h.vl,h.nc,h.cl,h.ki⟩
theorem zaG (h:CO N B c) {i:Int} (h0:0<=i) (h1:i<N) {f:aJ} (hf:c.p_.bC[i.toNat]? = some f) (hm:f ∈ c.p_.bC):∀(k v:Nat),f.aT<v+k->(v:Int)<=f.aT->aW (jO f k (v:Int) { c with f_:=i,bI:=pC v,fW:=i }) λr=>CI N B r/\r={ c with f_:=i,bI:=pC f.aT.toNat,fW:=i }:=by
 have hp:=h.vl f hm;intro k
 induction k with
 | zero=>intro v h2 h3;omega
 | succ k ih=>
   intro v h2 h3;unfold jO
   by_cases hv:(v:Int)<f.aT
   ·rw [cX (Ah hv)];refine aW.need (by simp only [Oy];omega) ?_;rw [dB zb zb,show ((v:Int)+1)=((v+1:Nat):Int) by omega];have:=ih (v+1) zb zb;rw [Tg] at this;exact this
   ·rw [cE (by simpa using hv)];have hv2:v=f.aT.toNat:=zb
    subst hv2;refine .some ⟨h.ci h0 h1 hf (λu hu=>?_) (by rw [Oy];omega),rfl⟩;have:=Eb hu;omega
theorem QQ (h:CO N B c) {i:Int} (h0:0<=i) (h1:i<N) (hn:300<n) {f:aJ} (hf:aZ c.p_.bC i=some f):aW (nL n c w i) λr=>CI N B r.1/\r.2=w/\r.1={ c with f_:=i,bI:=pC f.aT.toNat,fW:=i }:=by
 unfold nL;obtain ⟨f',e,e2,hm⟩:=qJ (l:=c.p_.bC) h0 (by rw [h.nf];exact h1);rw [hf] at e;cases e
 rw [hf];simp only [iX];have hp:=h.vl f hm;have e3:=zaG h h0 h1 e2 hm n 0 zb zb;change aW (jO f n 0 { c with f_:=i,bI:=[],fW:=i }) _ at e3;exact e3.bind λr hr=>.some ⟨hr.1,rfl,hr.2⟩
theorem Vj {xs:List Nd} (hx:∀x ∈ xs,WP x) (hs:xs.length<=20000) (hn:300<n):∀(k v:Nat) (c:aE) (w:aG),xs.length<v+k->v<=xs.length->CI N B c->aW (kH n xs k (v:Int) c w) λr=>CI N B r.1/\Kp c r.1/\WK w r.2/\r.1.cF=c.cF:=by
 intro k
 induction k with
 | zero=>intro v c w h1 h2;omega
 | succ k ih=>
   intro v c w h1 h2 h;unfold kH
   by_cases hv:v<xs.length
   ·rw [cX (Ah zb)];refine aW.bind (P:=λr=>CI N B r.1/\Kp c r.1/\WK w r.2/\r.1.cF=c.cF) ?_ λr hr=>?_
    ·obtain ⟨x,e,_,hxm⟩:=qJ (l:=xs) (i:=(v:Int)) zb zb;rw [e];simp only [iX];cases hx x hxm with
     | @word a s k hk=>
       have hk3:i64.wrap k=k/\1<=k/\k<=3:=by rcases hk with rfl | rfl | rfl <;> decide
       refine aW.bind (P:=λb=>b=false) (aW.iteb (λ_=>.some rfl) (λ_=>.some rfl)) λb hb=>?_;subst hb;refine aW.iteb (λh=>nomatch h) λ_=>(yD (w:=w) h hn λ_=>?_).bind λd hd=>.some ⟨hd.1,hd.2.1,λe=>(hd.2.2.2.2.1 e).1,hd.2.2.1⟩;simp only [hk3.1];exact varOkW hk3.2.1 hk3.2.2
     | @arr a s b n1=>
       have w4:i64.wrap 4=4:=zc
       simp only [w4,Int.reduceBEq,if_true,vO,Int.natCast_one,Int.reduceLT,decide_true,iX];refine aW.eqn (v:=⟨14,b,[],n1,[]⟩) rfl (QB.bind λb2 hb2=>?_);rw [qZ];exact (yD (w:=Sv w b2 136 _) h hn λe=>YT (hb2 (gR (k:=136) zc e).2.1)).bind λd hd=>.some ⟨hd.1,hd.2.1,WK.trans WK.nd λe=>(hd.2.2.2.2.1 e).1,hd.2.2.1⟩
    ·rw [dB zb zb,show ((v:Int)+1)=((v+1:Nat):Int) by omega];exact (ih (v+1) _ _ zb zb hr.1).mono λq hq=>⟨hq.1,hr.2.1.trans hq.2.1,hr.2.2.1.trans hq.2.2.1,hq.2.2.2.trans hr.2.2.2⟩
   ·rw [cE (by simp;omega)];exact .some ⟨h,.refl c,.refl w,rfl⟩
theorem YQ {x:Nd} (h:WF x):∃ps b,x.aN=ps++[b]/\(∀p ∈ ps,WP p)/\(∀y ∈ b.aN,WS y)/\b=⟨4,b.gI,[],0,b.aN⟩:=by
 cases h with
 | fn h1 h2=>exact ⟨_,_,rfl,h1,h2,rfl⟩
theorem Wd {α:Type} {ps:List α} {b:α} (h:(ps++[b]).length<=20000):(max (i64.wrap (((ps++[b]).length:Int) - 1)) 0)=(ps.length:Int):=by
 simp only [oY,vO] at *;rw [dB zb zb];omega
theorem Kp.body {c':aE} (h:CI N B c) (k:Kp c c') {f:aJ} (e:aZ c.p_.bC c.f_=some f) {f':aJ} (e':aZ c'.p_.bC c'.f_=some f'):f'.iE=f.iE/\f'.eK=f.eK/\f'.bO=f.bO/\f'.aT=f.aT/\f.aQ <+: f'.aQ:=by
 obtain ⟨f2,e2,g1,g2,g3,g4,g5,_⟩:=k.fn h e;rw [k.f] at e';rw [e'] at e2;cases e2
 exact ⟨g1,g2,g3,g4,g5⟩
theorem Ya (h:CO N B c) {i:Int} (h0:0<=i) (h1:i<N) (hn:20300<n) {f:aJ} (hf:aZ c.p_.bC i=some f) (hb:f.bH=[]) {x:Nd} (hx:WF x) (hs:x.aN.length<=20000):aW (mH n c w i x) λr=>CO N B r.1/\WK w r.2/\r.1.cF=c.cF/\(∀j:Nat,j ≠ i.toNat->r.1.p_.bC[j]? = c.p_.bC[j]?)/\∃f',aZ r.1.p_.bC i=some f'/\f'.iE=f.iE/\f'.eK=f.eK/\f'.bO=f.bO/\f'.aT=f'.aQ.length/\(r.2.e_=0->f'.eK=true->DU f'.aQ 0<=4):=by
 obtain ⟨ps,b,hl,hps,_,_⟩:=YQ hx;have hla:=Wd (ps:=ps) (b:=b) (by rw [←hl];exact hs);rw [←hl] at hla;unfold mH;refine (QQ (w:=w) h h0 h1 zb hf).bind λr hr=>?_;obtain ⟨g1,g2,g3⟩:=hr;rw [hla];have hll:x.aN.length=ps.length+1:=by rw [hl];simp
 refine aW.need ⟨zb,zb⟩ ?_;rw [GD,show x.aN.take ps.length=ps by rw [hl];simp];unfold tP;refine aW.bind (P:=λq=>CO N B q.1/\WK w q.2/\q.1.f_=i/\q.1.cF=c.cF/\(∀j:Nat,j ≠ i.toNat->q.1.p_.bC[j]? = c.p_.bC[j]?)/\∃f',aZ q.1.p_.bC i=some f'/\f'.iE=f.iE/\f'.eK=f.eK/\f'.bO=f.bO/\f'.aT=f'.aQ.length) ?_ λq hq=>?_
 ·refine (Vj hps zb zb n 0 r.1 r.2 zb zb g1).bind λq hq=>?_;obtain ⟨k1,k2,k3,k4⟩:=hq;obtain ⟨f2,ef2,hm2,hv2,e2⟩:=k1.cur;rw [e2];simp only [iX];have hqf:q.1.f_=i:=by rw [k2.f,g3]
  have hrf:aZ r.1.p_.bC r.1.f_=some f:=by rw [g3];exact hf
  obtain ⟨b1,b2,b3,b4,b5⟩:=k2.body g1 hrf e2;have hlt:q.1.f_.toNat<q.1.p_.bC.length:=(xW.1 ef2).1;refine .some ⟨⟨by simp only [Db];exact k1.nf,k1.nN,λg hg=>?_,k1.nc,k1.cl,λg hg=>?_⟩,by rw [←g2];exact k3,hqf,by rw [k4,g3],λj hj=>?_,{ f2 with aT:=(f2.aQ.length:Int) },?_,b1,b2,b3,rfl⟩
  ·rcases YK hg with hg | rfl
   ·exact k1.vl g hg
   ·have:=k1.vl f2 hm2;simp only;omega
  ·rcases YK hg with hg | rfl
   ·exact k1.ki g hg
   ·exact k1.ki f2 hm2
  ·simp only;rw [Uv (by rw [hqf];omega),k2.o j (by rw [g3];exact hj),g3]
  ·unfold aZ;rw [cX h0];simp only
   rw [←hqf,VI hlt]
 ·obtain ⟨k1,k2,k3,k4,k5,f',k6,k7,k8,k9,k10⟩:=hq;refine aW.iteb (λhe=>?_) (λhe=>.some ⟨k1,k2,k4,k5,f',k6,k7,k8,k9,k10,λe=>cM e (by simpa using he)⟩);rw [k3,k6];simp only [iX,qZ];refine aW.bind' (aW.iteb (λhx=>.some (.some ⟨k1,k2.trans WK.nd,k4,k5,f',k6,k7,k8,k9,k10,λ_ hx2=>?_⟩)) (λhx=>?_))
  ·rw [hx2] at hx;cases hx
  ·have hm:f' ∈ q.1.p_.bC:=by
    unfold aZ at k6;rw [cX h0] at k6;exact GB k6
   have hv:=k1.vl f' hm;rw [YO hv.1 hv.2.1 hv.2.2 zb];refine .some (.some ⟨k1,k2.trans WK.nd,k4,k5,f',k6,k7,k8,k9,k10,λe _=>?_⟩);have:=(gR (k:=136) zc e).2.1;rw [k10,GD,xeh] at this;exact xG this
def HM (c:aE) (i:Nat):Vz:=λk r ps=>(∃l,c.cF[i]? = some l/\k ∈ l)/\∃f,aZ c.p_.bC k=some f/\r=f.bO/\ps=f.aQ.take f.aT.toNat
structure TF (sg:Vz) (f:aJ):Prop where
 body:∃sc',TB sg f.aQ f.bO true f.aT.toNat (pC f.aT.toNat) f.bH f.aQ.length sc'
 ret:f.bO ≠ 0->∃s,f.bH.getLast? = some s/\Md s
theorem Tf {b:Nd} (hl:b.aN.length<=20000):aW (zP b) λr=>r=true->∃y,b.aN.getLast? = some y/\y.bJ=13:=by
 unfold zP;refine aW.bind (P:=λr=>r=true->∃y,b.aN.getLast? = some y/\y.bJ=13) (aW.iteb (λh=>?_) (λ_=>.some λh=>Bool.noConfusion h)) λr hr=>.some hr;have h0:0<b.aN.length:=by have:=xG h;omega
 rw [dB zb zb];obtain ⟨y,e,e2,_⟩:=qJ (l:=b.aN) (i:=(b.aN.length:Int) - 1) zb zb;rw [e];refine .some λh=>⟨y,?_,by simpa using h⟩;rw [List.getLast?_eq_getElem?,←e2]
 congr 1
 omega
theorem Yb (h:CO N B c) {i:Int} (h0:0<=i) (h1:i<N) {f:aJ} (hf:aZ c.p_.bC i=some f) (hp:f.aT=f.aQ.length) {x:Nd} (hx:WF x) (hs:sz x<=20000) (hB:(B:Int)+sz x<=1073741824) (hn:90000<=n):aW (mJ n c w i x) λr=>(∃B':Nat,(B':Int)<=B+sz x/\CO N B' r.1)/\WK w r.2/\(∀j:Nat,j ≠ i.toNat->r.1.p_.bC[j]? = c.p_.bC[j]? /\ r.1.cF[j]? = c.cF[j]?)/\∃f',aZ r.1.p_.bC i=some f'/\f'.iE=f.iE/\f'.eK=f.eK/\f'.bO=f.bO/\f'.aT=f.aT/\f.aQ <+: f'.aQ/\(r.2.e_=0->TF (HM r.1 i.toNat) f'/\(wF f'.bH:Int)<=sz x):=by
 obtain ⟨ps,b,hl,_,hbs,hbe⟩:=YQ hx;have hz:=Jb x;have hlen:=rN x.aN;have hla:=Wd (ps:=ps) (b:=b) (by rw [←hl];omega);rw [←hl] at hla;have hbz:=Oq (l:=x.aN) (k:=b) (by rw [hl];simp);have hbq:=Jb b;have hbg:=rN b.aN;unfold mJ;refine (QQ (w:=w) h h0 h1 zb hf).bind λr hr=>?_;obtain ⟨g1,g2,g3⟩:=hr;have hll:x.aN.length=ps.length+1:=by rw [hl];simp
 rw [hla];refine aW.need ⟨zb,zb⟩ ?_;obtain ⟨m,rfl⟩:∃m,n=m+1+1:=⟨n - 2,zb⟩;unfold jZ;rw [hla,GD,show x.aN.drop ps.length=[b] by rw [hl];simp];have hrf:r.1.f_=i:=by rw [g3]
 refine aW.bind' ?_;rw [cX (by rw [vO];decide)];refine aW.eqn (v:=b) rfl ?_;obtain ⟨f0,ef0,hm0,hv0,e0⟩:=g1.cur;have e0f:aZ r.1.p_.bC r.1.f_=some f:=by rw [g3];exact hf
 rw [e0];rw [e0f] at e0;cases e0
 simp only [iX];refine ((TU (m+1+1)).1 B r.1 r.2 b true g1 hbs zb zb zb).bind λq hq=>?_;obtain ⟨⟨⟨⟨B',hb',h'⟩,hk,hw⟩,hsc⟩,hT⟩:=hq;obtain ⟨f2,ef2,hm2,hv2,e2⟩:=h'.cur;obtain ⟨b1,b2,b3,b4,b5⟩:=hk.body g1 e0f e2;have hqf:q.2.1.f_=r.1.f_:=hk.f;rw [hqf] at e2 ef2;rw [e2];simp only [iX];have hlt:r.1.f_.toNat<q.2.1.p_.bC.length:=(xW.1 ef2).1
 have e3:aZ (q.2.1.p_.bC.set r.1.f_.toNat { f2 with bH:=q.1 }) r.1.f_=some { f2 with bH:=q.1 }:=by
  unfold aZ;rw [cX (by rw [hrf];exact h0),VI hlt]
 rw [e3];simp only [iX,qZ]
 have hout:∀w2:aG,WK q.2.2 w2->(w2.e_=0->f.bO ≠ 0->∃s,q.1.getLast? = some s/\Md s)->aW (jZ (m+1+1) x (m+1) (i64.wrap ((0:Int)+1)) { q.2.1 with p_:=⟨q.2.1.p_.bC.set r.1.f_.toNat { f2 with bH:=q.1 }⟩ } w2) (λx_1=>aW (some (x_1.1,x_1.2)) λr=>(∃B':Nat,(B':Int)<=B+sz x/\CO N B' r.1)/\WK w r.2/\(∀j:Nat,j ≠ i.toNat->r.1.p_.bC[j]? = c.p_.bC[j]? /\ r.1.cF[j]? = c.cF[j]?)/\∃f',aZ r.1.p_.bC i=some f'/\f'.iE=f.iE/\f'.eK=f.eK/\f'.bO=f.bO/\f'.aT=f.aT/\f.aQ <+: f'.aQ/\(r.2.e_=0->TF (HM r.1 i.toNat) f'/\(wF f'.bH:Int)<=sz x)):=by
  intro w2 hw2 hret;unfold jZ;rw [hla,GD,show x.aN.drop ps.length=[b] by rw [hl];simp,cE (by rw [vO];decide)];refine .some (.some ⟨⟨B',zb,by simp only [Db];exact h'.nf,h'.nN,λg hg=>?_,h'.nc,h'.cl,λg hg=>?_⟩,by rw [←g2];exact hw.trans hw2,λj hj=>⟨?_,?_⟩,{ f2 with bH:=q.1 },?_,b1,b2,b3,b4,b5,λe=>⟨⟨?_,?_⟩,by have:=(hT (by rw [←hw2 e];exact e)).2.2;simp only;omega⟩⟩)
  ·rcases YK hg with hg | rfl
   ·exact h'.vl g hg
   ·exact h'.vl f2 hm2
  ·rcases YK hg with hg | rfl
   ·exact h'.ki g hg
   ·exact h'.ki f2 hm2
  ·simp only;rw [Uv (by rw [hrf];omega),hk.o j (by rw [hrf];exact hj),g3]
  ·simp only;rw [hk.k j (by rw [g3];exact hj),g3]
  ·rw [←hrf];exact e3
  ·obtain ⟨⟨sc',hTB⟩,_⟩:=hT (by rw [←hw2 e];exact e);rw [g1.res e0f,hv0,hv2,g3] at hTB;simp only at hTB;have hpp:f.aQ.length=f2.aT.toNat:=by rw [b4,hp,GD]
   rw [hpp,←b4,←b3] at hTB;refine ⟨sc',TB.mono (λk r' ps' hsg=>?_) (WQ _) hTB⟩;obtain ⟨⟨l,el,hkl⟩,f3,ef3,rfl,rfl⟩:=hsg;have hat:q.2.1.fW=i:=by rw [hk.a,g3]
   rw [hat] at el;unfold aZ at el;rw [cX h0] at el;refine ⟨⟨l,el,hkl⟩,?_⟩
   by_cases hki:k=r.1.f_
   ·subst hki;rw [e2] at ef3;cases ef3
    exact ⟨_,e3,rfl,rfl⟩
   ·refine ⟨f3,?_,rfl,rfl⟩;unfold aZ at ef3 ⊢
    split at ef3
    ·rename_i hk0;rw [cX hk0,Uv (by rw [hrf] at hki ⊢;omega)];exact ef3
    ·cases ef3
  ·simp only [b3];exact hret e
 refine aW.bind' (aW.iteb (λhr0=>.some (hout _ WK.nd λe hne=>?_)) (λhr0=>?_))
 ·exact cM (by rw [beq_iff_eq] at hr0;rw [←b3];exact hr0) hne
 ·refine (Tf (b:=b) zb).bind λrb hrb=>.some (hout _ WK.nd λe hne=>?_);obtain ⟨k1,k2,_⟩:=gR (k:=135) zc e;obtain ⟨y,hy1,hy2⟩:=hrb k2;exact (hT k1).2.1 y hy1 hy2
end
def xL (seen:List Int):Nat:=seen.countP (· == 0)
theorem Vk {l:List Int} {i:Nat} {v:Int} (h:l[i]? = some 0) (hv:v ≠ 0):xL (l.set i v)+1=xL l:=by
 unfold xL
 induction l generalizing i with
 | nil=>cases h
 | cons x l ih=>
   cases i with
   | zero=>
     simp only [xeg,Option.some.injEq] at h;subst h;rw [Pw,Yy,Yy];simp [hv]
   | succ i=>
     simp only [xdy] at h;have:=ih h;rw [SD,Yy,Yy];omega
theorem TT {l:List Int} {i:Nat} {v w:Int} (h:l[i]? = some w) (hv:v ≠ 0) (hw:w ≠ 0):xL (l.set i v)=xL l:=by
 unfold xL
 induction l generalizing i with
 | nil=>cases h
 | cons x l ih=>
   cases i with
   | zero=>
     simp only [xeg,Option.some.injEq] at h;subst h;rw [Pw,Yy,Yy];simp [hv,hw]
   | succ i=>
     simp only [xdy] at h;have:=ih h;rw [SD,Yy,Yy];omega
def IS (seen:List Int) (k:Int):Prop:=∃v,aZ seen k=some v/\v ≠ 0
def Yo (c:aE) (to:Int) (seen:List Int) (k:Int):Prop:=∀l,aZ c.cF k=some l->∀j ∈ l,j ≠ to/\IS seen j
theorem IS.set {seen:List Int} {k j v:Int} (hv:v ≠ 0) (h:IS seen k) (hj:j.toNat<seen.length):IS (seen.set j.toNat v) k:=by
 obtain ⟨x,h1,h2⟩:=h;unfold aZ at h1
 split at h1
 ·rename_i h0
  by_cases e:j.toNat=k.toNat
  ·exact ⟨v,by unfold aZ;rw [cX h0,←e,VI hj],hv⟩
  ·exact ⟨x,by unfold aZ;rw [cX h0,Uv e];exact h1,h2⟩
 ·cases h1
theorem IS.unset {seen:List Int} {k j v:Int} (h:IS (seen.set j.toNat v) k) (hj:0<=j):IS seen k ∨ k=j:=by
 obtain ⟨x,h1,h2⟩:=h;unfold aZ at h1
 split at h1
 ·rename_i h0
  by_cases e:j.toNat=k.toNat
  ·right;omega
  ·rw [Uv e] at h1;exact .inl ⟨x,by unfold aZ;rw [cX h0];exact h1,h2⟩
 ·cases h1
theorem Yo.mono {c:aE} {to:Int} {s s':List Int} {k:Int} (h:Yo c to s k) (hs:∀j,IS s j->IS s' j):Yo c to s' k:=λl e j hj=>⟨(h l e j hj).1,hs _ (h l e j hj).2⟩
structure Ra (c:aE) (to:Int) (B:Nat) (X:Int) (seen seen':List Int):Prop where
 le:xL seen'<=xL seen
 lo:∀v ∈ seen',0<=v/\v+((xL seen'*B:Nat):Int)<=X
 up:∀k,IS seen k->IS seen' k
 sh:∀k,IS seen' k->IS seen k ∨ Yo c to seen' k
section
variable {N B:Nat} {c:aE} {to:Int}
theorem reach_l {rec_:Int->List Int->Option (Bool × List Int)} {n:Nat} (hB:∀l ∈ c.cF,l.length<=B)
  (hrec:∀(k X:Int) (seen:List Int),0<=k->k<N->xL seen<n->seen.length=N->(∀v ∈ seen,0<=v/\v+(((xL seen+1)*B:Nat):Int)<=X)->X<=4611686018427387904->aW (rec_ k seen) λr=>r.2.length=N/\(r.1=false->Ra c to B X seen r.2/\Yo c to r.2 k)) :
  ∀(ks seen:List Int) (X:Int),(∀k ∈ ks,0<=k/\k<N)->xL seen<n+1->seen.length=N->(∀v ∈ seen,0<=v/\v+((xL seen*B:Nat):Int)+ks.length<=X)->X<=4611686018427387904->aW (Am rec_ to ks seen) λr=>r.2.length=N/\(r.1=false->Ra c to B X seen r.2/\∀j ∈ ks,j ≠ to/\IS r.2 j):=by
 intro ks
 induction ks with
 | nil=>
   intro seen X h1 h2 h3 h4 h5;exact .some ⟨h3,λ_=>⟨⟨uZ _,λv hv=>by have:=h4 v hv;simp only [sY] at this ⊢;omega,λk h=>h,λk h=>.inl h⟩,λj hj=>nomatch hj⟩⟩
 | cons k ks ih=>
   intro seen X h1 h2 h3 h4 h5;unfold Am;obtain ⟨k0,k1⟩:=h1 k (PH);refine aW.iteb (λ_=>.some ⟨h3,λh=>Bool.noConfusion h⟩) λhkt=>?_;have hkt:k ≠ to:=by simpa using hkt
   obtain ⟨s,e,e2,hsm⟩:=qJ (l:=seen) (i:=k) k0 zb;have hs:=h4 s hsm;simp only [qB] at hs;rw [e,iX,dB zb zb];have hkl:k.toNat<seen.length:=zb
   have hset:∀v ∈ seen.set k.toNat (s+1),0<=v/\v+((xL seen*B:Nat):Int)+ks.length<=X:=λv hv=>by
    rcases YK hv with hv | rfl
    ·have:=h4 v hv;simp only [qB] at this;omega
    ·omega
   refine aW.iteb (λhs1=>?_) (λhs1=>?_)
   ·have hs0:s=0:=by have:=eq_of_beq hs1;omega
    subst hs0;have hun:=Vk (v:=0+1) e2 zc;refine (hrec k (X - ks.length) _ k0 k1 zb (by rw [Db];exact h3) (λv hv=>?_) zb).bind λr hr=>?_
    ·have:=hset v hv;rw [hun];omega
    ·refine aW.iteb (λhrt=>.some ⟨hr.1,λh=>Bool.noConfusion h⟩) λhrt=>?_;obtain ⟨hR,hS⟩:=hr.2 hrt;have hle:=hR.le;refine (ih r.2 X (λj hj=>h1 j (Nm _ hj)) zb hr.1 (λv hv=>?_) h5).mono λq hq=>⟨hq.1,λhqf=>?_⟩
     ·have:=hR.lo v hv;omega
     ·obtain ⟨hQ,hJ⟩:=hq.2 hqf;have hsk:IS (seen.set k.toNat (0+1)) k:=⟨0+1,by unfold aZ;rw [cX k0,VI hkl],zc⟩;have hqle:=hQ.le;refine ⟨⟨zb,hQ.lo,λj hj=>hQ.up j (hR.up j (hj.set zc hkl)),λj hj=>?_⟩,λj hj=>?_⟩
      ·rcases hQ.sh j hj with h | h
       ·rcases hR.sh j h with h | h
        ·rcases h.unset k0 with h | rfl
         ·exact .inl h
         ·exact .inr (hS.mono hQ.up)
        ·exact .inr (h.mono hQ.up)
       ·exact .inr h
      ·rcases Di.1 hj with rfl | hj
       ·exact ⟨hkt,hQ.up _ (hR.up _ hsk)⟩
       ·exact hJ j hj
   ·have hs0:s ≠ 0:=by rintro rfl;simp at hs1
    have hun:=TT (v:=s+1) e2 zb hs0;refine (ih _ X (λj hj=>h1 j (Nm _ hj)) (by rw [hun];omega) (by rw [Db];exact h3) (λv hv=>by rw [hun];exact hset v hv) h5).mono λq hq=>⟨hq.1,λhqf=>?_⟩;obtain ⟨hQ,hJ⟩:=hq.2 hqf;have hsk:IS (seen.set k.toNat (s+1)) k:=⟨s+1,by unfold aZ;rw [cX k0,VI hkl],zb⟩;have hqle:=hQ.le;rw [hun] at hqle;refine ⟨⟨hqle,hQ.lo,λj hj=>hQ.up j (hj.set zb hkl),λj hj=>?_⟩,λj hj=>?_⟩
    ·rcases hQ.sh j hj with h | h
     ·rcases h.unset k0 with h | rfl
      ·exact .inl h
      ·exact .inl ⟨s,e,hs0⟩
     ·exact .inr h
    ·rcases Di.1 hj with rfl | hj
     ·exact ⟨hkt,hQ.up _ hsk⟩
     ·exact hJ j hj
theorem Xu (hN:c.cF.length=N) (hcl:∀l ∈ c.cF,l.length<=B/\∀k ∈ l,0<=k/\k<N) (hB:B<=1073741824):∀(n:Nat) (k X:Int) (seen:List Int),0<=k->k<N->xL seen<n->seen.length=N->(∀v ∈ seen,0<=v/\v+(((xL seen+1)*B:Nat):Int)<=X)->X<=4611686018427387904->aW (lP n c k to seen) λr=>r.2.length=N/\(r.1=false->Ra c to B X seen r.2/\Yo c to r.2 k):=by
 intro n
 induction n with
 | zero=>intro k X seen _ _ h;omega
 | succ n ih=>
   intro k X seen k0 k1 h1 h2 h3 h4;unfold lP;obtain ⟨l,e,_,hm⟩:=qJ (l:=c.cF) k0 zb;obtain ⟨hl1,hl2⟩:=hcl l hm;rw [e,iX];refine aW.need zb ?_;refine (reach_l (λl hl=>(hcl l hl).1) ih l seen X hl2 h1 h2 (λv hv=>?_) h4).mono λr hr=>⟨hr.1,λhf=>?_⟩
   ·have:=h3 v hv;rw [NM] at this;omega
   ·obtain ⟨hR,hJ⟩:=hr.2 hf;refine ⟨hR,λl2 e2 j hj=>?_⟩;rw [e] at e2;cases e2
    exact hJ j hj
inductive Way (c:aE):Int->Int->Prop
 | one {i k l}:aZ c.cF i=some l->k ∈ l->Way c i k
 | more {i j k l}:Way c i j->aZ c.cF j=some l->k ∈ l->Way c i k
theorem Way.cons {i j k:Int} {l:List Int} (h:Way c j k) (e:aZ c.cF i=some l) (hj:j ∈ l):Way c i k:=by
 induction h with
 | one e2 h2=>exact .more (.one e hj) e2 h2
 | more _ e2 h2 ih=>exact .more ih e2 h2
theorem MR (N:Nat):xL (List.replicate N 0)=N:=by
 unfold xL;rw [List.countP_eq_length.2 (λv hv=>by rw [(xdn.1 hv).2];rfl),xeb]
theorem ZB (hN:c.cF.length=N) (hN2:N<=16384) (hcl:∀l ∈ c.cF,l.length<=B/\∀k ∈ l,0<=k/\k<N) (hB:B<=1073741824) {n:Nat} (hn:16384<n) {i:Int} (h0:0<=i) (h1:i<N):aW (lP n c i i (List.replicate N 0)) λr=>r.1=false->¬ Way c i i:=by
 have hmul:(N+1)*B<=16385*1073741824:=Nat.mul_le_mul zb hB;refine (Xu (to:=i) hN hcl hB n i 4611686018427387904 _ h0 h1 (by rw [MR];omega) xeb (λv hv=>?_) (Uj _)).mono λr hr hf hw=>?_
 ·rw [(xdn.1 hv).2,MR];omega
 ·obtain ⟨hR,hS⟩:=hr.2 hf
  have hz:∀k,¬ IS (List.replicate N 0) k:=λk ⟨v,e,hv⟩=>by
   unfold aZ at e
   split at e
   ·exact hv (xdn.1 (GB e)).2
   ·cases e
  have key:∀k,Way c i k->IS r.2 k/\k ≠ i:=by
   intro k hk
   induction hk with
   | one e hk=>exact ⟨(hS _ e _ hk).2,(hS _ e _ hk).1⟩
   | more _ e hk ih=>
     rcases hR.sh _ ih.1 with h | h
     ·exact cM h (hz _)
     ·exact ⟨(h _ e _ hk).2,(h _ e _ hk).1⟩
  exact (key i hw).2 rfl
theorem XX {α:Type} {p q:α->Bool} {l:List α} (h:∀x ∈ l,p x=true->q x=true) {y:α} (hy:y ∈ l) (hq:q y=true) (hp:p y=false):l.countP p<l.countP q:=by
 induction l with
 | nil=>cases hy
 | cons x l ih=>
   rw [Yy,Yy];have hle:l.countP p<=l.countP q:=List.countP_mono_left λx hx=>h x (Nm _ hx)
   rcases Di.1 hy with rfl | hy
   ·rw [hq,hp];simp;omega
   ·have:=ih (λx hx=>h x (Nm _ hx)) hy;have hx:=h x PH;cases h1:p x <;> cases h2:q x <;> simp_all <;> omega
theorem ranks (hN:c.cF.length=N) (hcl:∀l ∈ c.cF,∀k ∈ l,0<=k/\k<N) (hac:∀i:Int,0<=i->i<N->¬ Way c i i):∃rk:Int->Nat,(∀i,rk i<=N)/\∀i l,aZ c.cF i=some l->∀k ∈ l,rk k<rk i:=by
 classical
 refine ⟨λi=>(List.range N).countP λk:Nat=>decide (Way c i (k:Int)),λi=>No List.countP_le_length zd,λi l e k hk=>?_⟩
 have hlm:l ∈ c.cF:=by
  unfold aZ at e
  split at e
  ·exact GB e
  ·cases e
 obtain ⟨k0,k1⟩:=hcl l hlm k hk;have hkn:((k.toNat:Nat):Int)=k:=zb
 refine XX (y:=k.toNat) (λx _ hx=>?_) (Yx.2 zb) ?_ ?_
 ·exact Ah ((xG hx).cons e hk)
 ·rw [hkn];exact Ah (.one e hk)
 ·rw [hkn];exact SB (hac k k0 k1)
end
structure PO (c:aE) (rk:Int->Nat):Prop where
 co:CO c.p_.bC.length 1073741824 c
 n64:c.p_.bC.length<=64
 ex:∀f ∈ c.p_.bC,f.eK=true->DU (f.aQ.take f.aT.toNat) 0<=4
 tf:∀(j:Nat) f,c.p_.bC[j]? = some f->TF (HM c j) f
 sz:∀f ∈ c.p_.bC,wF f.bH<=3001
 rkN:∀i,rk i<=64
 rk:∀i l,aZ c.cF i=some l->∀k ∈ l,rk k<rk i
section
variable {N B n:Nat} {c:aE} {w:aG}
theorem CO.more {B':Nat} (h:CO N B c) (hb:B<=B'):CO N B' c:=⟨h.nf,h.nN,h.vl,h.nc,λl hl=>⟨No (h.cl l hl).1 hb,(h.cl l hl).2⟩,h.ki⟩
theorem UP {a:Int}:aW (Bm a) λr=>r=0 ∨ r=2 ∨ r=3:=by
 unfold Bm
 repeat' split
 ·exact .some (.inr (.inl rfl))
 ·exact .some (.inr (.inr rfl))
 ·exact .some (.inl rfl)
structure D0 (f:aJ):Prop where
 v:f.aQ=[]
 p:f.aT=0
 b:f.bH=[]
 r:f.bO=0 ∨ f.bO=2 ∨ f.bO=3
theorem ZY {x:Nd} (hl:x.aN.length<=16384) (hn:16384<n):∀(k v:Nat) (c:aE) (w:aG),x.aN.length<v+k->v<=x.aN.length->c.p_.bC.length=v->c.f_=-1->(∀f ∈ c.p_.bC,D0 f)->aW (kW n x k (v:Int) c w) λr=>r.1.p_.bC.length=x.aN.length/\(∀f ∈ r.1.p_.bC,D0 f)/\WK w r.2:=by
 intro k
 induction k with
 | zero=>intro v c w h1 h2;omega
 | succ k ih=>
   intro v c w h1 h2 h3 h4 h5;unfold kW
   by_cases hv:v<x.aN.length
   ·rw [cX (Ah zb)];obtain ⟨y,e,_,hym⟩:=qJ (l:=x.aN) (i:=(v:Int)) zb zb;rw [e];simp only [iX];refine (Ue zb hn).bind λq hq=>?_;refine aW.bind (P:=λw'=>WK w w') ?_ λw' hw'=>?_
    ·refine aW.iteb (λ_=>?_) (λ_=>?_)
     ·exact (MK zb).bind λa _=>by rw [qZ];exact .some WK.nd
     ·rw [qZ];exact .some WK.nd
    ·refine UP.bind λrr hrr=>aW.need zb (aW.need zb ?_);rw [dB zb zb,show ((v:Int)+1)=((v+1:Nat):Int) by omega];refine (ih (v+1) { c with p_:=⟨c.p_.bC++[⟨y.dM,(Ae .u32 y.pX (1:Int)) != (0:Int),rr,0,[],[]⟩]⟩ } w' zb zb (by simp only [oY,vO];omega) h4 λf hf=>?_).mono λr hr=>⟨hr.1,hr.2.1,hw'.trans hr.2.2⟩
     rcases yU.1 hf with hf | hf
     ·exact h5 f hf
     ·obtain rfl:=zU.1 hf;exact ⟨rfl,rfl,rfl,hrr⟩
   ·rw [cE (by rw [Da];omega)];exact .some ⟨yz,h5,.refl w⟩
theorem XA {x:Nd} (hl:x.aN.length<=16384) (hn:16384<n):aW (qP n aE.Z w x) λr=>CO x.aN.length 0 r.1/\(∀f ∈ r.1.p_.bC,D0 f)/\WK w r.2/\(r.2.e_=0->x.aN.length<=64):=by
 unfold qP;rw [qZ,iX];refine (ZY hl hn n 0 aE.Z _ zb zb rfl rfl λf hf=>nomatch hf).bind λr hr=>aW.need zb (.some ?_);obtain ⟨h1,h2,h3⟩:=hr;refine ⟨⟨h1,hl,λf hf=>?_,xeb,λl hl=>?_,λf hf=>?_⟩,h2,(WK.nd).trans h3,λe=>?_⟩
 ·rw [(h2 f hf).v,(h2 f hf).p];exact ⟨zc,zc,zc⟩
 ·rw [(xdn.1 hl).2];exact ⟨uZ _,λk hk=>nomatch hk⟩
 ·rw [(h2 f hf).v];exact ⟨λv hv=>(by cases hv),(h2 f hf).r⟩
 ·have e2:(Sv w (decide ((x.aN.length:Int)<=64)) 136 x.gI).e_=0:=by rw [←h3 e];exact e
  have:=xG (gR (k:=136) zc e2).2.1;omega
def D1 (f:aJ):Prop:=f.aT=f.aQ.length/\(f.eK=true->DU f.aQ 0<=4)
theorem zY {α:Type} {l:List α} {i:Nat} {x:α} (h:l[i]? = some x):aZ l (i:Int)=some x:=by
 unfold aZ;rw [cX zb,GD];exact h
theorem yJ {α:Type} {l:List α} {i:Nat} {x:α} (h:aZ l (i:Int)=some x):l[i]? = some x:=by
 unfold aZ at h;rw [cX zb,GD] at h;exact h
theorem XG (hn:20300<n):∀(l:List Nd) (i:Nat) (c:aE) (w:aG),CO N B c->i+l.length=N->(∀x ∈ l,WF x/\x.aN.length<=20000)->(∀(j:Nat) f,i<=j->c.p_.bC[j]? = some f->f.bH=[])->(w.e_=0->∀(j:Nat) f,j<i->c.p_.bC[j]? = some f->D1 f)->aW (wV (λi f c w=>mH n c w i f) l i c w) λr=>CO N B r.1/\WK w r.2/\r.1.cF=c.cF/\(r.2.e_=0->∀(j:Nat) f,r.1.p_.bC[j]? = some f->D1 f):=by
 intro l
 induction l with
 | nil=>
   intro i c w h h1 h2 h3 h4;refine .some ⟨h,.refl w,rfl,λe j f hf=>h4 e j f ?_ hf⟩;have hj:j<c.p_.bC.length:=(xW.1 hf).1;have:=h.nf;simp only [sY] at h1;omega
 | cons x l ih=>
   intro i c w h h1 h2 h3 h4;simp only [qB] at h1;unfold wV
   by_cases he:(w.e_ == (0:Int))=true
   ·rw [cX he];have he0:w.e_=0:=by simpa using he
    obtain ⟨f,ef,ef2,_⟩:=qJ (l:=c.p_.bC) (i:=(i:Int)) zb (by rw [h.nf];omega);obtain ⟨hx1,hx2⟩:=h2 x PH;refine (Ya (w:=w) h (i:=(i:Int)) zb zb hn ef (h3 i f (uZ _) (yJ ef)) hx1 hx2).bind λr hr=>?_;obtain ⟨k1,k2,k3,k4,f',k5,k6,k7,k8,k9,k10⟩:=hr;rw [GD] at k4;refine (ih (i+1) r.1 r.2 k1 zb (λy hy=>h2 y (Nm _ hy)) (λj g hj hg=>?_) (λe j g hj hg=>?_)).mono λq hq=>⟨hq.1,k2.trans hq.2.1,hq.2.2.1.trans k3,hq.2.2.2⟩
    ·exact h3 j g zb (by rw [←k4 j zb];exact hg)
    ·by_cases hji:j=i
     ·subst hji;rw [yJ k5] at hg;cases hg
      exact ⟨k9,k10 e⟩
     ·exact h4 he0 j g zb (by rw [←k4 j hji];exact hg)
   ·rw [cE he];refine (ih (i+1) c w h zb (λy hy=>h2 y (Nm _ hy)) (λj g hj hg=>h3 j g zb hg) (λe=>cM e (by simpa using he))).mono λq hq=>hq
theorem Xk {c c':aE} {i j:Nat} (hv:∀f ∈ c.p_.bC,f.aT<=f.aQ.length) (h1:∀k:Nat,k ≠ i->c'.p_.bC[k]? = c.p_.bC[k]?) (h2:c'.cF[j]? = c.cF[j]?) {f f':aJ} (e:c.p_.bC[i]? = some f) (e':c'.p_.bC[i]? = some f') (hr:f'.bO=f.bO) (hp:f'.aT=f.aT) (hx:f.aQ <+: f'.aQ) {k r:Int} {ps:List aK} (h:HM c j k r ps):HM c' j k r ps:=by
 obtain ⟨⟨l,el,hk⟩,g,eg,rfl,rfl⟩:=h;refine ⟨⟨l,by rw [h2];exact el,hk⟩,?_⟩;unfold aZ at eg
 split at eg
 ·rename_i h0
  by_cases hki:k.toNat=i
  ·rw [hki,e] at eg;cases eg
   have:=hv f (GB e);refine ⟨f',by unfold aZ;rw [cX h0,hki];exact e',hr.symm,?_⟩;rw [hp,Oo hx zb]
  ·exact ⟨g,by unfold aZ;rw [cX h0,h1 _ hki];exact eg,rfl,rfl⟩
 ·cases eg
theorem Vw (hn:90000<=n):∀(l:List Nd) (i B:Nat) (c:aE) (w:aG),CO N B c->i+l.length=N->(∀x ∈ l,WF x/\sz x<=3001)->(B:Int)+zW l<=1073741824->(w.e_=0->∀(j:Nat) f,c.p_.bC[j]? = some f->(f.eK=true->DU (f.aQ.take f.aT.toNat) 0<=4)/\(i<=j->f.aT=f.aQ.length)/\(j<i->TF (HM c j) f/\wF f.bH<=3001))->aW (wV (λi f c w=>mJ n c w i f) l i c w) λr=>(∃B':Nat,(B':Int)<=B+zW l/\CO N B' r.1)/\WK w r.2/\(r.2.e_=0->∀(j:Nat) f,r.1.p_.bC[j]? = some f->(f.eK=true->DU (f.aQ.take f.aT.toNat) 0<=4)/\TF (HM r.1 j) f/\wF f.bH<=3001):=by
 intro l
 induction l with
 | nil=>
   intro i B c w h h1 h2 h3 h4;refine .some ⟨⟨B,by rw [qD];omega,h⟩,.refl w,λe j f hf=>⟨(h4 e j f hf).1,(h4 e j f hf).2.2 ?_⟩⟩;have hj:j<c.p_.bC.length:=(xW.1 hf).1;have:=h.nf;simp only [sY] at h1;omega
 | cons x l ih=>
   intro i B c w h h1 h2 h3 h4;simp only [qB] at h1;rw [yY] at h3 ⊢;have hp:=uP x;have hg:=rN l;unfold wV
   by_cases he:(w.e_ == (0:Int))=true
   ·rw [cX he];have he0:w.e_=0:=by simpa using he
    obtain ⟨f,ef,ef2,hfm⟩:=qJ (l:=c.p_.bC) (i:=(i:Int)) zb (by rw [h.nf];omega);obtain ⟨hx1,hx2⟩:=h2 x PH;obtain ⟨q1,q2,_⟩:=h4 he0 i f (yJ ef);refine (Yb (w:=w) h (i:=(i:Int)) zb zb ef (q2 (uZ _)) hx1 zb zb hn).bind λr hr=>?_;obtain ⟨⟨B',hb',k1⟩,k2,k4,f',k5,k6,k7,k8,k9,k10,k11⟩:=hr;rw [GD] at k4 k11;refine (ih (i+1) B' r.1 r.2 k1 zb (λy hy=>h2 y (Nm _ hy)) zb (λe j g hg=>?_)).mono λq hq=>?_
    ·by_cases hji:j=i
     ·subst hji;rw [yJ k5] at hg;cases hg
      refine ⟨λhx=>?_,λh=>zb,λ_=>⟨(k11 e).1,by have:=(k11 e).2;omega⟩⟩;rw [k9,Oo k10 (by have:=(h.vl f hfm).2;omega)];exact q1 (by rw [←k7];exact hx)
     ·obtain ⟨a1,a2,a3⟩:=h4 he0 j g (by rw [←(k4 j hji).1];exact hg);refine ⟨a1,λh=>a2 zb,λhlt=>?_⟩;obtain ⟨hT,hZ⟩:=a3 zb;obtain ⟨sc',hTB⟩:=hT.body;exact ⟨⟨⟨sc',hTB.mono (λk r' ps hs=>Xk (λf hf=>(h.vl f hf).2.2) (λk hk=>(k4 k hk).1) (k4 j hji).2 (yJ ef) (yJ k5) k8 k9 k10 hs) (WQ _)⟩,hT.ret⟩,hZ⟩
    ·obtain ⟨⟨B2,hb2,h5⟩,h6,h7⟩:=hq;exact ⟨⟨B2,zb,h5⟩,k2.trans h6,h7⟩
   ·rw [cE he];refine (ih (i+1) B c w h zb (λy hy=>h2 y (Nm _ hy)) zb (λe=>cM e (by simpa using he))).mono λq hq=>?_;obtain ⟨⟨B2,hb2,h5⟩,h6,h7⟩:=hq;exact ⟨⟨B2,zb,h5⟩,h6,h7⟩
theorem cyc_tot (h:CO N B c) (hB:B<=1073741824) (hn:16384<n):∀(l:List Nd) (i:Nat) (w:aG),i+l.length=N->aW (BY n N c l i w) λw'=>WK w w'/\(w'.e_=0->∀j:Int,i<=j->j<N->¬ Way c j j):=by
 intro l
 induction l with
 | nil=>intro i w h1;exact .some ⟨.refl w,λe j h2 h3=>by simp only [sY] at h1;omega⟩
 | cons x l ih=>
   intro i w h1;simp only [qB] at h1;unfold BY
   by_cases he:(w.e_ == (0:Int))=true
   ·rw [cX he];refine (ZB h.nc h.nN h.cl hB hn (i:=(i:Int)) zb zb).bind λr hr=>?_;rw [qZ,iX];refine (ih (i+1) _ zb).mono λq hq=>⟨(WK.nd).trans hq.1,λe j h2 h3=>?_⟩
    by_cases hji:j=i
    ·subst hji;have e2:(Sv w (!r.1) 134 x.gI).e_=0:=by rw [←hq.1 e];exact e
     exact hr (by simpa using (gR (k:=134) zc e2).2.1)
    ·exact hq.2 e j zb h3
   ·rw [cE he];exact (ih (i+1) w zb).mono λq hq=>⟨hq.1,λe=>cM (hq.1 e ▸ e) (by simpa using he)⟩
theorem Yu {s:cB} (hs:s.length<=3000) (hn:90000<=n):aW (Ay n s) λr=>r.2.1=0->∃c rk,c.p_=r.1/\PO c rk:=by
 unfold Ay;refine (Tn (n:=n) (s:=s) zb).bind λp hp=>?_;refine aW.iteb (λhe=>.some λe=>cM e (by simpa using he)) (λhe=>?_);obtain ⟨hw,hz⟩:=hp (by simpa using he);have hg:=rN p.1.aN;refine (XA (w:=⟨0,0⟩) (x:=p.1) zb zb).bind λa ha=>aW.need zb ?_;obtain ⟨a1,a2,a3,a4⟩:=ha
 have hsz:∀x ∈ p.1.aN,sz x<=3001/\x.aN.length<=20000:=λx hx=>by
  have h1:=Oq hx;have h2:=Jb x;have h3:=rN x.aN;omega
 refine aW.bind (P:=λb=>(∃B':Nat,(B':Int)<=3001/\CO p.1.aN.length B' b.1)/\WK a.2 b.2/\(b.2.e_=0->∀(j:Nat) f,b.1.p_.bC[j]? = some f->(f.eK=true->DU (f.aQ.take f.aT.toNat) 0<=4)/\TF (HM b.1 j) f/\wF f.bH<=3001)) ?_ λb hb=>?_
 ·unfold Ax;refine (XG (n:=n) zb p.1.aN 0 a.1 a.2 a1 zb (λx hx=>⟨hw x hx,(hsz x hx).2⟩) (λj f _ hf=>(a2 f (GB hf)).b) (λ_ j f h=>zb)).bind λq hq=>?_;obtain ⟨q1,q2,q3,q4⟩:=hq;unfold Ax;refine (Vw (n:=n) hn p.1.aN 0 0 q.1 q.2 q1 zb (λx hx=>⟨hw x hx,(hsz x hx).1⟩) zb (λe j f hf=>?_)).bind λr hr=>?_
  ·obtain ⟨d1,d2⟩:=q4 e j f hf;refine ⟨λhx=>?_,λ_=>d1,λh=>zb⟩;rw [d1,GD,xeh];exact d2 hx
  ·obtain ⟨⟨B2,hb2,h5⟩,h6,h7⟩:=hr;unfold Ax;exact .some ⟨⟨B2,zb,h5⟩,q2.trans h6,h7⟩
 ·obtain ⟨⟨B',hb',b1⟩,b2,b3⟩:=hb;refine (cyc_tot (n:=n) b1 zb zb p.1.aN 0 b.2 zb).bind λw hw2=>?_;refine aW.iteb (λhe2=>.some λe=>cM e (by simpa using he2)) (λhe2=>.some λ_=>?_);have he2:w.e_=0:=by simpa using he2
  have eb:b.2.e_=0:=by rw [←hw2.1 he2];exact he2
  have ea:a.2.e_=0:=by rw [←b2 eb];exact eb
  have hN:=b1.nf;obtain ⟨rk,r1,r2⟩:=ranks b1.nc (λl hl=>(b1.cl l hl).2) (λi h0 h1=>hw2.2 he2 i h0 h1);refine ⟨b.1,rk,rfl,⟨by rw [hN];exact b1.more zb,by rw [hN];exact a4 ea,λf hf hx=>?_,λj f hf=>(b3 eb j f hf).2.1,λf hf=>?_,λi=>No (r1 i) (a4 ea),r2⟩⟩
  ·obtain ⟨j,hj⟩:=xem hf;exact (b3 eb j f hj).1 hx
  ·obtain ⟨j,hj⟩:=xem hf;exact (b3 eb j f hj).2.2
end
