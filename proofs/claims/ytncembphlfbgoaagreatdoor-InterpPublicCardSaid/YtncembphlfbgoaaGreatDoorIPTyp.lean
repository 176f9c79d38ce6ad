/- Lemmas of ours. -/
import Derived.Test.YtncembphlfbgoaaGreatDoorIPTot
namespace Go.Proofs.YtncembphlfbgoaaGreatDoor.Abs
open IntKind (i64 u32 u64 u8)
open Go.RowKit
set_option linter.unusedVariables false
mutual
def xz:aG->Nat
 | ⟨_,_,_,_,l,_⟩=>1+tY l
def tY:List aG->Nat
 | []=>0
 | x::l=>xz x+tY l
end
mutual
def tz:aH->Nat
 | ⟨_,_,_,l,b,e,_⟩=>1+tY l+Am b+Am e
def Am:List aH->Nat
 | []=>0
 | x::l=>tz x+Am l
end
theorem Be (x:aG):xz x=1+tY x.aM:=by cases x;rw [xz]
theorem yK (x:aH):tz x=1+tY x.aM+Am x.eK+Am x.sX:=by cases x;rw [tz]
theorem IY (a b:List aG):tY (a++b)=tY a+tY b:=by
 induction a with
 | nil=>rw [uG,tY,IZ]
 | cons x a ih=>rw [BO,tY,tY,ih,Nat.add_assoc]
theorem tzL_app (a b:List aH):Am (a++b)=Am a+Am b:=by
 induction a with
 | nil=>rw [uG,Am,IZ]
 | cons x a ih=>rw [BO,Am,Am,ih,Nat.add_assoc]
theorem Dl (x:aG):1<=xz x:=by rw [Be];omega
theorem tz_pos (x:aH):1<=tz x:=by rw [yK];omega
theorem xzL_len (l:List aG):l.length<=tY l:=by
 induction l with
 | nil=>exact Kh _
 | cons x l ih=>have:=Dl x;rw [jC,tY];omega
theorem tzL_len (l:List aH):l.length<=Am l:=by
 induction l with
 | nil=>exact Kh _
 | cons x l ih=>have:=tz_pos x;rw [jC,Am];omega
theorem xzL_mem {l:List aG} {x:aG} (h:x ∈ l):xz x<=tY l:=by
 obtain ⟨a,b,rfl⟩:=xdm h;rw [IY,tY];omega
theorem tzL_mem {l:List aH} {x:aH} (h:x ∈ l):tz x<=Am l:=by
 obtain ⟨a,b,rfl⟩:=xdm h;rw [tzL_app,Am];omega
def wM (n:Int):Prop:=1<=n/\n<=255 ∨ 255<n/\n<=1024/\n % 4=0
def CS (v:bB):Prop:=1<=v.bX/\v.bX<=4/\(v.bX=4->wM v.jB)
theorem Qr {s:cQ}:CS ⟨s,1,0⟩:=⟨(by decide:(1:Int)<=1),(by decide:(1:Int)<=4),fun h=>absurd h (by simp)⟩
theorem Qq {s:cQ} {n:Int} (h:wM n):CS ⟨s,4,n⟩:=⟨(by decide:(1:Int)<=4),(by decide:(4:Int)<=4),fun _=>h⟩
theorem varOkW {s:cQ} {k:Int} (h1:1<=k) (h2:k<=3):CS ⟨s,k,0⟩:=⟨h1,(by simp only;omega),fun h=>by simp only at h;omega⟩
def vU (a b:Int):Int:=if a=b/\1<=a/\a<=3 then a else if a=1/\b=2 ∨ a=2/\b=1 then 2 else 0
def Hb (t:Int):Int:=if t=1 then 2 else t
def ScT (t:Int):Prop:=t=1 ∨ t=2
def MZ (t k:Int):Prop:=t=k ∨ t=1/\k=2
def Sy (o:cQ) (x y:aG) (t:Int):Prop:=
 ((o=[47] ∨ o=[37])/\x.cM=1/\y.cM=1/\t=1) ∨
 ((o=[60,60] ∨ o=[62,62] ∨ o=[60,60,60])/\y.cM=1/\(x.cM=3->y.kL=[110,117,109]/\y.N_<=63)/\t=x.cM) ∨
 (o=[42]/\t=vU x.cM y.cM/\t ≠ 3/\t ≠ 0) ∨
 ((o=[61,61] ∨ o=[60])/\vU x.cM y.cM ≠ 0/\t=if vU x.cM y.cM=3 then 2 else vU x.cM y.cM) ∨
 ((o=[124] ∨ o=[94] ∨ o=[38] ∨ o=[43] ∨ o=[45])/\t=vU x.cM y.cM/\t ≠ 0)
inductive TX (vs:List bB) (sc:List Int):aG->Prop
 | num {n a}:TX vs sc ⟨[110,117,109],1,n,-1,[],a⟩
 | var {v u a}:v ∈ sc->bV vs v=some u->u.bX ≠ 4->TX vs sc ⟨[118,97,114],u.bX,0,v,[],a⟩
 | index {v u i a}:v ∈ sc->bV vs v=some u->u.bX=4->TX vs sc i->i.cM=1->(i.kL=[110,117,109]->i64.wrap i.N_<u.jB)->TX vs sc ⟨[105,110,100,101,120],2,0,v,[i],a⟩
 | un {o x a}:(o=[110,111,116] ∨ o=[110,101,103])->TX vs sc x->TX vs sc ⟨o,x.cM,0,-1,[x],a⟩
 | bin {o x y t a}:TX vs sc x->TX vs sc y->Sy o x y t->TX vs sc ⟨o,t,0,-1,[x,y],a⟩
 | sel {c x y a}:TX vs sc c->TX vs sc x->TX vs sc y->ScT c.cM->vU x.cM y.cM ≠ 0->TX vs sc ⟨[115,101,108,101,99,116],Hb (vU x.cM y.cM),0,-1,[c,x,y],a⟩
 | long {x a}:TX vs sc x->ScT x.cM->TX vs sc ⟨[108,111,110,103],3,0,-1,[x],a⟩
 | wide {x y a}:TX vs sc x->TX vs sc y->ScT x.cM->ScT y.cM->TX vs sc ⟨[119,105,100,101],3,0,-1,[x,y],a⟩
 | half {o x a}:(o=[108,111] ∨ o=[104,105])->TX vs sc x->x.cM=3->TX vs sc ⟨o,2,0,-1,[x],a⟩
inductive Eq (vs:List bB) (sc:List Int) (p:bB):aG->Prop
 | arr {v u a}:p.bX=4->v ∈ sc->bV vs v=some u->u.bX=4->u.jB=p.jB->Eq vs sc p ⟨[118,97,114],4,0,v,[],a⟩
 | pub {x}:p.bX=1->TX vs sc x->x.cM=1->Eq vs sc p x
 | val {x}:p.bX ≠ 1->p.bX ≠ 4->TX vs sc x->MZ x.cM p.bX->Eq vs sc p x
def DS (vs:List bB) (sc:List Int) (ps:List bB) (l:List aG):Prop:=l.length=ps.length/\∀(i:Nat) p x,ps[i]? = some p->l[i]? = some x->Eq vs sc p x
abbrev MU:=Int->Int->List bB->Prop
inductive TB (sg:MU) (vs:List bB) (res:Int):Bool->Nat->List Int->List aH->Nat->List Int->Prop
 | nil {l n sc}:TB sg vs res l n sc [] n sc
 | let_ {l n sc x u a ss n' sc'}:TX vs sc x->x.cM=1->vs[n]? = some u->u.bX=1->TB sg vs res l (n+1) (sc++[(n:Int)]) ss n' sc'->TB sg vs res l n sc (⟨[108,101,116],n,0,[x],[],[],a⟩::ss) n' sc'
 | var_ {l n sc x u a ss n' sc'}:TX vs sc x->vs[n]? = some u->u.bX=Hb x.cM->TB sg vs res l (n+1) (sc++[(n:Int)]) ss n' sc'->TB sg vs res l n sc (⟨[118,97,114],n,0,[x],[],[],a⟩::ss) n' sc'
 | arr {l n sc u a ss n' sc'}:vs[n]? = some u->u.bX=4->TB sg vs res l (n+1) (sc++[(n:Int)]) ss n' sc'->TB sg vs res l n sc (⟨[97,114,114],n,0,[],[],[],a⟩::ss) n' sc'
 | callv {l n sc f r ps xs u a ss n' sc'}:sg f r ps->DS vs sc ps xs->r ≠ 0->vs[n]? = some u->u.bX=r->TB sg vs res l (n+1) (sc++[(n:Int)]) ss n' sc'->TB sg vs res l n sc (⟨[99,97,108,108],n,f,xs,[],[],a⟩::ss) n' sc'
 | set {l n sc v u x a ss n' sc'}:v ∈ sc->bV vs v=some u->(u.bX=2 ∨ u.bX=3)->TX vs sc x->MZ x.cM u.bX->TB sg vs res l n sc ss n' sc'->TB sg vs res l n sc (⟨[115,101,116],v,0,[x],[],[],a⟩::ss) n' sc'
 | calls {l n sc v u f r ps xs a ss n' sc'}:v ∈ sc->bV vs v=some u->(u.bX=2 ∨ u.bX=3)->sg f r ps->DS vs sc ps xs->r=u.bX->TB sg vs res l n sc ss n' sc'->TB sg vs res l n sc (⟨[99,97,108,108],v,f,xs,[],[],a⟩::ss) n' sc'
 | put {l n sc v u i x a ss n' sc'}:v ∈ sc->bV vs v=some u->u.bX=4->TX vs sc i->i.cM=1->(i.kL=[110,117,109]->i64.wrap i.N_<u.jB)->TX vs sc x->MZ x.cM 2->TB sg vs res l n sc ss n' sc'->TB sg vs res l n sc (⟨[112,117,116],v,0,[i,x],[],[],a⟩::ss) n' sc'
 | do_ {l n sc f r ps xs a ss n' sc'}:sg f r ps->DS vs sc ps xs->TB sg vs res l n sc ss n' sc'->TB sg vs res l n sc (⟨[99,97,108,108],-1,f,xs,[],[],a⟩::ss) n' sc'
 | if_ {l n sc c b e a n1 sc1 n2 sc2 ss n' sc'}:TX vs sc c->c.cM=1->TB sg vs res false n sc b n1 sc1->TB sg vs res false n1 sc e n2 sc2->TB sg vs res l n2 sc ss n' sc'->TB sg vs res l n sc (⟨[105,102],-1,0,[c],b,e,a⟩::ss) n' sc'
 | for_ {l n sc x y u b a n1 sc1 ss n' sc'}:TX vs sc x->x.cM=1->TX vs sc y->y.cM=1->vs[n]? = some u->u.bX=1->TB sg vs res false (n+1) (sc++[(n:Int)]) b n1 sc1->TB sg vs res l n1 sc ss n' sc'->TB sg vs res l n sc (⟨[102,111,114],n,0,[x,y],b,[],a⟩::ss) n' sc'
 | ret {n sc x a}:TX vs sc x->res ≠ 0->MZ x.cM res->TB sg vs res true n sc [⟨[114,101,116,117,114,110],-1,0,[x],[],[],a⟩] n sc
 | retc {n sc f ps xs a}:sg f res ps->res ≠ 0->DS vs sc ps xs->TB sg vs res true n sc [⟨[99,97,108,108],-2,f,xs,[],[],a⟩] n sc
section
variable {vs vs':List bB} {sc sc':List Int}
theorem BG {α:Type} {l l':List α} (h:l <+: l') {i:Int} {x:α} (e:bV l i=some x):bV l' i=some x:=by
 obtain ⟨r,rfl⟩:=h;unfold bV at e ⊢
 split at e
 ·rename_i h0;rw [if_pos h0,FB (qJ.1 e).1];exact e
 ·cases e
theorem Ed {α:Type} {l l':List α} (h:l <+: l') {i:Nat} {x:α} (e:l[i]? = some x):l'[i]? = some x:=by
 obtain ⟨r,rfl⟩:=h;rw [FB (qJ.1 e).1];exact e
theorem TX.mono (hv:vs <+: vs') (hs:∀v ∈ sc,v ∈ sc') {x:aG} (h:TX vs sc x):TX vs' sc' x:=by
 induction h with
 | num=>exact .num
 | var h1 h2 h3=>exact .var (hs _ h1) (BG hv h2) h3
 | index h1 h2 h3 _ h5 h6 ih=>exact .index (hs _ h1) (BG hv h2) h3 ih h5 h6
 | un h1 _ ih=>exact .un h1 ih
 | bin _ _ h ih1 ih2=>exact .bin ih1 ih2 h
 | sel _ _ _ h1 h2 ih1 ih2 ih3=>exact .sel ih1 ih2 ih3 h1 h2
 | long _ h ih=>exact .long ih h
 | wide _ _ h1 h2 ih1 ih2=>exact .wide ih1 ih2 h1 h2
 | half h1 _ h2 ih=>exact .half h1 ih h2
theorem Eq.mono (hv:vs <+: vs') (hs:∀v ∈ sc,v ∈ sc') {p:bB} {x:aG} (h:Eq vs sc p x):Eq vs' sc' p x:=by
 cases h with
 | arr h1 h2 h3 h4 h5=>exact .arr h1 (hs _ h2) (BG hv h3) h4 h5
 | pub h1 h2 h3=>exact .pub h1 (h2.mono hv hs) h3
 | val h1 h2 h3 h4=>exact .val h1 h2 (h3.mono hv hs) h4
theorem DS.mono (hv:vs <+: vs') (hs:∀v ∈ sc,v ∈ sc') {ps:List bB} {l:List aG} (h:DS vs sc ps l):DS vs' sc' ps l:=⟨h.1,fun i p x h1 h2=>(h.2 i p x h1 h2).mono hv hs⟩
theorem Gk (a b:Int):vU a b=0 ∨ 1<=vU a b/\vU a b<=3:=by
 unfold vU
 repeat' split <;> omega
theorem TX.range (hv:∀v ∈ vs,CS v) {x:aG} (h:TX vs sc x):1<=x.cM/\x.cM<=3:=by
 induction h with
 | num=>exact ⟨by simp only;decide,by simp only;decide⟩
 | @var v u a h1 h2 h3=>
   have hm:u ∈ vs:=by
    unfold bV at h2
    split at h2
    ·exact Al h2
    ·cases h2
   have:=hv u hm;exact ⟨this.1,by have:=this.2.1;simp only;omega⟩
 | index _ _ _ _ _ _ _=>exact ⟨by simp only;decide,by simp only;decide⟩
 | un _ _ ih=>exact ih
 | @bin o x y t a _ _ hb ih1 ih2=>
   have:=Gk x.cM y.cM;simp only
   rcases hb with ⟨_,_,_,h⟩ | ⟨_,_,_,h⟩ | ⟨_,h,_,h0⟩ | ⟨_,h0,h⟩ | ⟨_,h,h0⟩
   ·omega
   ·omega
   ·omega
   ·split at h <;> omega
   ·omega
 | @sel c x y a _ _ _ _ h _ _ _=>
   have:=Gk x.cM y.cM;simp only;unfold Hb
   split <;> omega
 | long _ _ _=>exact ⟨by simp only;decide,by simp only;decide⟩
 | wide _ _ _ _ _ _=>exact ⟨by simp only;decide,by simp only;decide⟩
 | half _ _ _ _=>exact ⟨by simp only;decide,by simp only;decide⟩
variable {sg sg':MU} {res:Int} {l:Bool} {n n':Nat} {ss:List aH}
theorem TB.mono (hg:∀k r ps,sg k r ps->sg' k r ps) (hv:vs <+: vs') (h:TB sg vs res l n sc ss n' sc'):TB sg' vs' res l n sc ss n' sc':=by
 have hs:∀ {sc:List Int} v,v ∈ sc->v ∈ sc:=fun _ h=>h
 induction h with
 | nil=>exact .nil
 | let_ h1 h2 h3 h4 _ ih=>exact .let_ (h1.mono hv hs) h2 (Ed hv h3) h4 ih
 | var_ h1 h3 h4 _ ih=>exact .var_ (h1.mono hv hs) (Ed hv h3) h4 ih
 | arr h3 h4 _ ih=>exact .arr (Ed hv h3) h4 ih
 | callv h1 h2 h3 h4 h5 _ ih=>exact .callv (hg _ _ _ h1) (h2.mono hv hs) h3 (Ed hv h4) h5 ih
 | set h1 h2 h3 h4 h5 _ ih=>exact .set h1 (BG hv h2) h3 (h4.mono hv hs) h5 ih
 | calls h1 h2 h3 h4 h5 h6 _ ih=>exact .calls h1 (BG hv h2) h3 (hg _ _ _ h4) (h5.mono hv hs) h6 ih
 | put h1 h2 h3 h4 h5 h6 h7 h8 _ ih=>exact .put h1 (BG hv h2) h3 (h4.mono hv hs) h5 h6 (h7.mono hv hs) h8 ih
 | do_ h1 h2 _ ih=>exact .do_ (hg _ _ _ h1) (h2.mono hv hs) ih
 | if_ h1 h2 _ _ _ ih1 ih2 ih3=>exact .if_ (h1.mono hv hs) h2 ih1 ih2 ih3
 | for_ h1 h2 h3 h4 h5 h6 _ _ ih1 ih2=>exact .for_ (h1.mono hv hs) h2 (h3.mono hv hs) h4 (Ed hv h5) h6 ih1 ih2
 | ret h1 h2 h3=>exact .ret (h1.mono hv hs) h2 h3
 | retc h1 h2 h3=>exact .retc (hg _ _ _ h1) h2 (h3.mono hv hs)
theorem TB.app {n1:Nat} {sc1:List Int} {xs ys:List aH} {l0:Bool} (h:TB sg vs res l0 n sc xs n1 sc1) (h0:l0=false) (k:TB sg vs res l n1 sc1 ys n' sc'):TB sg vs res l n sc (xs++ys) n' sc':=by
 induction h with
 | nil=>exact k
 | let_ h1 h2 h3 h4 _ ih=>exact .let_ h1 h2 h3 h4 (ih h0 k)
 | var_ h1 h3 h4 _ ih=>exact .var_ h1 h3 h4 (ih h0 k)
 | arr h3 h4 _ ih=>exact .arr h3 h4 (ih h0 k)
 | callv h1 h2 h3 h4 h5 _ ih=>exact .callv h1 h2 h3 h4 h5 (ih h0 k)
 | set h1 h2 h3 h4 h5 _ ih=>exact .set h1 h2 h3 h4 h5 (ih h0 k)
 | calls h1 h2 h3 h4 h5 h6 _ ih=>exact .calls h1 h2 h3 h4 h5 h6 (ih h0 k)
 | put h1 h2 h3 h4 h5 h6 h7 h8 _ ih=>exact .put h1 h2 h3 h4 h5 h6 h7 h8 (ih h0 k)
 | do_ h1 h2 _ ih=>exact .do_ h1 h2 (ih h0 k)
 | if_ h1 h2 h3 h4 _ _ _ ih3=>exact .if_ h1 h2 h3 h4 (ih3 h0 k)
 | for_ h1 h2 h3 h4 h5 h6 h7 _ _ ih2=>exact .for_ h1 h2 h3 h4 h5 h6 h7 (ih2 h0 k)
 | ret h1 h2 h3=>cases h0
 | retc h1 h2 h3=>cases h0
end
def Kf (w:aI) (b:Bool) (k a:Int):aI:=if b=true then w else if (w.e_ == (0:Int))=true then ⟨k,a⟩ else w
theorem nW {c:aD} {w:aI} {b:Bool} {k a:Int}:aX c w b k a=some (Kf w b k a):=by
 unfold aX qD Kf;cases b
 ·simp only [Bool.not_false,if_true,yI,if_false]
  split <;> rfl
 ·simp
theorem fJ {w:aI} {b:Bool} {k a:Int} (hk:k ≠ 0) (h:(Kf w b k a).e_=0):w.e_=0/\b=true/\Kf w b k a=w:=by
 unfold Kf at h ⊢;cases b
 ·simp only [yI,if_false] at h ⊢
  split at h
  ·exact absurd h hk
  ·rename_i h2;simp at h2;exact absurd h h2
 ·exact ⟨by simpa using h,rfl,by simp⟩
theorem Rc {w:aI} {b:Bool} {k a:Int} (hk:k ≠ 0) (h:w.e_ ≠ 0):(Kf w b k a).e_ ≠ 0:=fun h2=>h (fJ hk h2).1
def sN (c:aD):List bB:=((c.p_.bD[c.f_.toNat]?).map aR.aV).getD []
structure CI (N B:Nat) (c:aD):Prop where
 nf:c.p_.bD.length=N
 nN:N<=16384
 f0:0<=c.f_
 f1:c.f_<N
 a0:0<=c.gB
 a1:c.gB<N
 sc:∀v ∈ c.bJ,0<=v/\v<(sN c).length
 sl:c.bJ.length<=(sN c).length
 vl:∀f ∈ c.p_.bD,f.aV.length<=250/\0<=f.aW/\f.aW<=f.aV.length
 nc:c.cK.length=N
 cl:∀l ∈ c.cK,l.length<=B/\∀k ∈ l,0<=k/\k<N
 ki:∀f ∈ c.p_.bD,(∀v ∈ f.aV,CS v)/\(f.cR=0 ∨ f.cR=2 ∨ f.cR=3)
section
variable {N B n:Nat} {c:aD} {w:aI} {s:cQ}
theorem CI.cur (h:CI N B c):∃f,c.p_.bD[c.f_.toNat]? = some f/\f ∈ c.p_.bD/\sN c=f.aV/\bV c.p_.bD c.f_=some f:=by
 have hl:c.f_.toNat<c.p_.bD.length:=by have:=h.nf;have:=h.f0;have:=h.f1;omega
 refine ⟨c.p_.bD[c.f_.toNat],tA hl,xdw _,?_,?_⟩
 ·unfold sN;rw [tA hl];rfl
 ·unfold bV;rw [if_pos h.f0,tA hl]
theorem CI.vs (h:CI N B c):(sN c).length<=250:=by
 obtain ⟨f,_,hm,e,_⟩:=h.cur;rw [e];exact (h.vl f hm).1
theorem mZ {α:Type} {l:List α} {i:Int} (h0:0<=i) (h1:i<l.length):∃x,bV l i=some x/\l[i.toNat]? = some x/\x ∈ l:=by
 have hl:i.toNat<l.length:=by omega
 exact ⟨l[i.toNat],by unfold bV;rw [if_pos h0,tA hl],tA hl,xdw _⟩
theorem find_l1 (h:CI N B c):∀(k:Nat) (v:Int),v<k->-1<=v->v<c.bJ.length->∃r,jK c s (k+1) v=some r/\(r=.inl () ∨ ∃i x,r=.inr i/\i ∈ c.bJ/\(sN c)[i.toNat]? = some x/\x.jX=s):=by
 obtain ⟨f,hf,hm,hv,hfi⟩:=h.cur;intro k
 induction k with
 | zero=>
   intro v h1 h2 h3;have:v=-1:=by omega
   subst this;exact ⟨_,rfl,.inl rfl⟩
 | succ k ih=>
   intro v h1 h2 h3;unfold jK
   by_cases h0:0<=v
   ·rw [if_pos (DU h0),hfi];obtain ⟨i,e1,_,hi⟩:=mZ h0 h3;obtain ⟨g0,g1⟩:=h.sc i hi;rw [hv] at g1;obtain ⟨x,e2,e3,_⟩:=mZ g0 g1;simp only [mS,e1,e2]
    by_cases hn:x.jX=s
    ·rw [if_pos (DU hn)];exact ⟨_,rfl,.inr ⟨i,x,rfl,hi,by rw [hv];exact e3,hn⟩⟩
    ·rw [if_neg (by simpa using hn)];have hl:c.bJ.length<=250:=Kl h.sl h.vs;rw [fG (by omega) (by omega)];exact ih (v - 1) (by omega) (by omega) (by omega)
   ·rw [if_neg (by simpa using h0)];exact ⟨_,rfl,.inl rfl⟩
theorem Lo (h:CI N B c) (hn:300<n):bE (lI n c w s) fun r=>r=-1 ∨ ∃x,r ∈ c.bJ/\(sN c)[r.toNat]? = some x/\x.jX=s:=by
 have hl:c.bJ.length<=250:=Kl h.sl h.vs;unfold lI;obtain ⟨m,rfl⟩:∃m,n=m+1:=⟨n - 1,by omega⟩;rw [fG (by omega) (by omega)];obtain ⟨r,e,hr⟩:=find_l1 (s:=s) h m ((c.bJ.length:Int) - 1) (by omega) (by omega) (by omega);rw [e]
 rcases hr with rfl | ⟨i,x,rfl,h1,h2,h3⟩
 ·exact ⟨_,rfl,.inl rfl⟩
 ·exact ⟨_,rfl,.inr ⟨x,h1,h2,h3⟩⟩
theorem BJ (h:CI N B c) (hn:300<n) {x:Nd}:bE (gV n c w x) fun r=>(r.1=-1 ∨ 0<=r.1/\r.1<(sN c).length)/\(w.e_ ≠ 0->r.2.e_ ≠ 0)/\(r.2.e_=0->r.2=w/\∃v,r.1 ∈ c.bJ/\0<=r.1/\(sN c)[r.1.toNat]? = some v/\v.jX=x.cP):=by
 unfold gV;refine (Lo (w:=w) (s:=x.cP) h hn).bind fun v hv=>?_;rw [nW];refine .some ⟨?_,Rc (by decide),fun he=>?_⟩
 ·rcases hv with rfl | ⟨y,h1,_,_⟩
  ·exact .inl rfl
  ·exact .inr (h.sc _ h1)
 ·obtain ⟨_,k2,k3⟩:=fJ (by decide) he;have hv0:0<=v:=Dk k2
  rcases hv with rfl | ⟨y,h1,h2,h3⟩
  ·exact absurd hv0 (by decide)
  ·exact ⟨k3,y,h1,hv0,h2,h3⟩
theorem zF (h:CI N B c) {v:Int} (hv:v=-1 ∨ 0<=v/\v<(sN c).length):bE (fL c w v) fun k=>v=-1/\k=0 ∨ 0<=v/\∃x,(sN c)[v.toNat]? = some x/\k=x.bX:=by
 unfold fL
 rcases hv with rfl | ⟨h0,h1⟩
 ·exact .some (.inl ⟨rfl,rfl⟩)
 ·rw [if_neg (by simp;omega)];obtain ⟨f,_,_,hvs,hfi⟩:=h.cur;rw [hfi];rw [hvs] at h1 ⊢;obtain ⟨x,e1,e2,_⟩:=mZ h0 h1;simp only [mS,e1];exact .some (.inr ⟨h0,x,e2,rfl⟩)
def On (f:aR):aR:={ f with aV:=[],eK:=[] }
structure Kp (c c':aD):Prop where
 f:c'.f_=c.f_
 a:c'.gB=c.gB
 s:c.bJ <+: c'.bJ
 v:sN c <+: sN c'
 o:∀i,i ≠ c.f_.toNat->c'.p_.bD[i]? = c.p_.bD[i]?
 g:c'.p_.bD.map On=c.p_.bD.map On
 k:∀j:Nat,j ≠ c.gB.toNat->c'.cK[j]? = c.cK[j]?
 l:∀l,bV c.cK c.gB=some l->∃l',bV c'.cK c.gB=some l'/\l <+: l'
theorem Kp.refl (c:aD):Kp c c:=⟨rfl,rfl,PN _,PN _,fun _ _=>rfl,rfl,fun _ _=>rfl,fun l e=>⟨l,e,PN _⟩⟩
theorem Kp.trans {c1 c2 c3:aD} (h:Kp c1 c2) (k:Kp c2 c3):Kp c1 c3:=⟨k.f.trans h.f,k.a.trans h.a,h.s.trans k.s,h.v.trans k.v,fun i hi=>(k.o i (by rw [h.f];exact hi)).trans (h.o i hi),k.g.trans h.g,fun j hj=>(k.k j (by rw [h.a];exact hj)).trans (h.k j hj),fun l e=>by
 obtain ⟨l1,e1,p1⟩:=h.l l e;obtain ⟨l2,e2,p2⟩:=k.l l1 (by rw [h.a];exact e1);exact ⟨l2,by rw [←h.a];exact e2,p1.trans p2⟩⟩
theorem sR (h:CI N B c) (hn:300<n) {x:bB} {a:Int} (hx:w.e_=0->CS x):bE (eI n c w x a) fun r=>CI N B r.2.1/\Kp c r.2.1/\r.2.1.cK=c.cK/\(w.e_ ≠ 0->r.2.2.e_ ≠ 0)/\(r.2.2.e_=0->r.2.2=w/\r.1=(sN c).length/\sN r.2.1=sN c++[x]/\r.2.1.bJ=c.bJ++[((sN c).length:Int)])/\(r.1=-1 ∨ 0<=r.1/\r.1<(sN r.2.1).length):=by
 unfold eI;refine (Lo (w:=w) (s:=x.jX) h hn).bind fun v hv=>?_;obtain ⟨f,hf,hm,hvs,hfi⟩:=h.cur;rw [nW,hfi];simp only [mS,nW];refine bE.iteb (fun he=>?_) fun he=>?_
 ·simp only [bne_iff_ne] at he;exact .some ⟨h,.refl c,rfl,fun _=>he,fun h2=>absurd h2 he,.inl rfl⟩
 ·simp only [bne_eq_false_iff_eq] at he;obtain ⟨k1,k2,k3⟩:=fJ (by decide) he;obtain ⟨j1,j2,j3⟩:=fJ (by decide) k1;have hlt:(f.aV.length:Int)<250:=Dk k2;have hsl:=h.sl;rw [hvs] at hsl;refine bE.need (by omega) (bE.need (by omega) ?_);have hl:c.f_.toNat<c.p_.bD.length:=by have:=h.nf;have:=h.f0;have:=h.f1;omega
  have hv2:sN { c with p_:=⟨c.p_.bD.set c.f_.toNat { f with aV:=f.aV++[x] }⟩,bJ:=c.bJ++[(f.aV.length:Int)] }=f.aV++[x]:=by
   unfold sN;simp only;rw [Io hl];rfl
  refine .some ⟨⟨by simp only [GI];exact h.nf,h.nN,h.f0,h.f1,h.a0,h.a1,?_,?_,?_,h.nc,h.cl,?_⟩,⟨rfl,rfl,xej _ _,?_,fun i hi=>?_,?_,fun _ _=>rfl,fun l e=>⟨l,e,PN _⟩⟩,rfl,fun hw=>absurd j1 hw,fun _=>⟨by rw [k3,j3],by rw [hvs],by rw [hv2,hvs],by rw [hvs]⟩,.inr ⟨by omega,?_⟩⟩
  ·intro u hu;rw [hv2]
   rcases At.1 hu with hu | hu
   ·have:=h.sc u hu;rw [hvs] at this;simp only [nC,uW];omega
   ·obtain rfl:=zN.1 hu;simp only [nC,uW];omega
  ·rw [hv2];simp only [nC,uW];omega
  ·intro g hg
   rcases HW hg with hg | rfl
   ·exact h.vl g hg
   ·have:=h.vl f hm;simp only [nC,uW];omega
  ·intro g hg
   rcases HW hg with hg | rfl
   ·exact h.ki g hg
   ·refine ⟨fun v hv=>?_,(h.ki f hm).2⟩
    rcases At.1 hv with hv | hv
    ·exact (h.ki f hm).1 v hv
    ·obtain rfl:=zN.1 hv;exact hx j1
  ·rw [hv2,hvs];exact xej _ _
  ·exact Ja (Ne.symm hi)
  ·show List.map On (c.p_.bD.set c.f_.toNat _)=_;rw [PP];refine Nc fun i=>?_
   by_cases e:c.f_.toNat=i
   ·subst e;rw [Io (by rw [sY];exact hl),yH,hf];rfl
   ·rw [Ja e]
  ·rw [hv2];simp only [nC,uW];omega
def sgC (c:aD):MU:=fun k r ps=>(∃l,bV c.cK c.gB=some l/\k ∈ l)/\∃f,bV c.p_.bD k=some f/\r=f.cR/\ps=f.aV.take f.aW.toNat
theorem Kp.fn {c':aD} (h:CI N B c) (k:Kp c c') {i:Int} {f:aR} (e:bV c.p_.bD i=some f):∃f',bV c'.p_.bD i=some f'/\f'.jX=f.jX/\f'.iG=f.iG/\f'.cR=f.cR/\f'.aW=f.aW/\f.aV <+: f'.aV/\(i ≠ c.f_->f'=f):=by
 unfold bV at e ⊢
 split at e
 ·rename_i h0;rw [if_pos h0]
  by_cases hi:i=c.f_
  ·subst hi;obtain ⟨f2,e2,hm2,hv2,_⟩:=h.cur;rw [e] at e2;cases e2
   have hlen:c.p_.bD.length=c'.p_.bD.length:=by simpa using (congrArg List.length k.g).symm
   have hlt:=(qJ.1 e).1;have e3:c'.p_.bD[c.f_.toNat]? = some (c'.p_.bD[c.f_.toNat]'(by omega)):=tA _
   have hs:On (c'.p_.bD[c.f_.toNat]'(by omega))=On f:=by
    have:=congrArg (fun l=>l[c.f_.toNat]?) k.g;simp only [yH,e3,e,Ej,Option.some.injEq] at this;exact this
   have hv:sN c'=(c'.p_.bD[c.f_.toNat]'(by omega)).aV:=by
    unfold sN;rw [k.f,e3];rfl
   have hp:=k.v;rw [hv2,hv] at hp;simp only [On,aR.mk.injEq] at hs;exact ⟨_,e3,hs.1,hs.2.1,hs.2.2.1,hs.2.2.2.1,hp,fun h=>absurd rfl h⟩
  ·refine ⟨f,?_,rfl,rfl,rfl,rfl,PN _,fun _=>rfl⟩;rw [k.o _ (by have:=h.f0;omega)];exact e
 ·cases e
def Jo (c:aD):Int:=((c.p_.bD[c.f_.toNat]?).map aR.cR).getD 0
theorem CI.res (h:CI N B c) {f:aR} (e:bV c.p_.bD c.f_=some f):Jo c=f.cR:=by
 unfold bV at e;rw [if_pos h.f0] at e;unfold Jo;rw [e];rfl
theorem Kp.res {c':aD} (h:CI N B c) (k:Kp c c'):Jo c'=Jo c:=by
 obtain ⟨f,_,_,_,e⟩:=h.cur;obtain ⟨f',e',_,_,hr,_⟩:=k.fn h e;rw [h.res e,←hr];unfold bV at e';rw [if_pos h.f0] at e';unfold Jo;rw [k.f,e'];rfl
theorem CI.vsOk (h:CI N B c):∀v ∈ sN c,CS v:=by
 obtain ⟨f,_,hm,e,_⟩:=h.cur;rw [e];exact (h.ki f hm).1
theorem GV {α:Type} {l l':List α} (h:l <+: l') {n:Nat} (hn:n<=l.length):l'.take n=l.take n:=by
 obtain ⟨r,rfl⟩:=h;exact List.take_append_of_le_length hn
theorem Kp.sg {c':aD} (h:CI N B c) (k:Kp c c') {i r:Int} {ps:List bB} (e:sgC c i r ps):sgC c' i r ps:=by
 obtain ⟨⟨l,e1,hl⟩,f,e2,rfl,rfl⟩:=e;obtain ⟨l',e3,hp⟩:=k.l l e1;obtain ⟨f',e4,_,_,hr,hps,hv,_⟩:=k.fn h e2
 have hm:f ∈ c.p_.bD:=by
  unfold bV at e2
  split at e2
  ·exact Al e2
  ·cases e2
 have:=h.vl f hm;refine ⟨⟨l',by rw [k.a];exact e3,hp.subset hl⟩,f',e4,hr.symm,?_⟩;rw [hps,GV hv (by omega)]
end
def Qd (c:aD) (w:aI) (x:aB) (r:aG × aI):Prop:=r.2.e_=0->r.2=w/\TX (sN c) c.bJ r.1/\(xz r.1:Int)<=sz x
def WK (w w':aI):Prop:=w'.e_=0->w'=w
theorem WK.refl (w:aI):WK w w:=fun _=>rfl
theorem WK.trans {a b c:aI} (h:WK a b) (k:WK b c):WK a c:=fun e=>by
 have h2:=k e;subst h2;exact h e
theorem WK.nd {w:aI} {b:Bool} {k a:Int} (hk:k ≠ 0:=by decide):WK w (Kf w b k a):=fun e=>(fJ hk e).2.2
theorem Hs {a b:Int}:bE (tH a b) fun r=>r=vU a b:=by
 unfold tH vU;simp only [beq_iff_eq,Fv]
 repeat' split
 all_goals first | exact .some (by omega) | (simp only [mS,Fv,beq_iff_eq,yI,if_false,if_true];repeat' split) 
 all_goals first | exact .some (by omega) | (exfalso;omega)
theorem BZ {a:Int}:bE (qI a) fun r=>r=true->ScT a:=by
 unfold qI;refine bE.bind (P:=fun r=>r=true->ScT a) (bE.iteb (fun h=>.some fun _=>.inl (by simpa using h)) fun _=>.some fun h=>.inr (by simpa using h)) fun b h=>.some h
theorem Ha {a:Int}:bE (tG a) fun r=>r=Hb a:=by
 unfold tG Hb;simp only [beq_iff_eq]
 split <;> exact .some rfl
theorem Fl {a b:Int}:bE (sT a b) fun r=>r=true->MZ a b:=by
 unfold sT;refine bE.bind (P:=fun r=>r=true->MZ a b) (bE.iteb (fun h=>.some fun _=>.inl (by simpa using h)) fun _=>bE.iteb (fun h=>.some fun h2=>.inr ⟨by simpa using h,by simpa using h2⟩) fun _=>.some fun h=>nomatch h) fun b h=>.some h
theorem Iv {a:Int}:bE (uR a) fun r=>r=true->wM a:=by
 unfold uR wM;refine bE.bind (P:=fun r=>r=true->wM a) ?_ fun b h=>.some h;unfold wM;simp only [Fv]
 have ht:∀ {b:Bool},255<a->a<=1024->b=(a.tmod 4 == 0)->bE (some b) fun r=>r=true->(1<=a/\a<=255 ∨ 255<a/\a<=1024/\a % 4=0):=fun h1 h2 h3=>.some fun h=>.inr ⟨h1,h2,by
  rw [h3,beq_iff_eq,Int.tmod_eq_emod_of_nonneg (by omega)] at h;exact h⟩
 repeat' split
 all_goals first | exact .some fun h=>Bool.noConfusion h | exact .some fun _=>.inl ⟨‹_›,‹_›⟩ | exact ht (by omega) (by omega) rfl
section
variable {N B n:Nat} {c:aD} {w:aI}
theorem uI {x:aG} {k:Int}:bE (cT c w x k) fun r=>WK w r.2/\r.1={ x with cM:=k }/\(r.2.e_=0->k ≠ 0):=by
 unfold cT;rw [nW];refine .some ⟨.nd,rfl,fun e=>?_⟩;have:=(fJ (by decide) e).2.1;simpa using this
theorem Oq {x y z:aG}:bE (hY c w x y z) fun r=>WK w r.2/\r.1={ x with cM:=y.cM }/\(r.2.e_=0->z.cM=1/\(y.cM=3->z.kL=[110,117,109]/\z.N_<=63)/\y.cM ≠ 0):=by
 unfold hY;rw [nW];simp only [mS];refine bE.iteb (fun h3=>?_) (fun h3=>?_)
 ·refine bE.bind (P:=fun w'=>WK w w'/\(w'.e_=0->z.cM=1/\z.kL=[110,117,109]/\z.N_<=63)) ?_ fun w' hw=>?_
  ·refine bE.iteb (fun ho=>?_) (fun _=>?_)
   ·rw [nW];refine .some ⟨(WK.nd).trans WK.nd,fun e=>?_⟩;obtain ⟨k1,k2,_⟩:=fJ (by decide) e;obtain ⟨_,j2,_⟩:=fJ (by decide) k1;exact ⟨by simpa using j2,by simpa using ho,by simpa using k2⟩
   ·rw [nW];exact .some ⟨(WK.nd).trans WK.nd,fun e=>by have:=(fJ (by decide) e).2.1;cases this⟩
  ·refine (uI (c:=c)).bind fun r hr=>.some ⟨hw.1.trans hr.1,hr.2.1,fun e=>?_⟩;obtain ⟨q1,q2⟩:=hw.2 (by rw [←hr.1 e];exact e);exact ⟨q1,fun _=>q2,hr.2.2 e⟩
 ·refine (uI (c:=c)).bind fun r hr=>.some ⟨(WK.nd).trans hr.1,hr.2.1,fun e=>?_⟩;obtain ⟨_,j2,_⟩:=fJ (k:=133) (by decide) (by rw [←hr.1 e];exact e);exact ⟨by simpa using j2,fun h=>absurd h (by simpa using h3),hr.2.2 e⟩
theorem MI {x:aG} {x0 x1 x2:aG} (h:x.aM=[x0,x1,x2]):bE (mI c w x) fun k=>k ≠ 0->ScT x0.cM/\vU x1.cM x2.cM ≠ 0/\k=Hb (vU x1.cM x2.cM):=by
 unfold mI;rw [h];refine bE.eqn (v:=x1) rfl (bE.eqn (v:=x2) rfl (Hs.bind fun k hk=>?_));refine bE.bind (P:=fun b=>b=false->ScT x0.cM/\k ≠ 0) ?_ fun b hb=>?_
 ·refine bE.eqn (v:=x0) rfl (BZ.bind fun b hb=>bE.iteb (fun _=>.some fun h=>nomatch h) fun h=>.some fun h2=>⟨hb (by simpa using h),by simpa using h2⟩)
 ·refine bE.iteb (fun _=>.some fun h=>absurd rfl h) (fun h=>?_);exact Ha.bind fun r hr=>.some fun _=>⟨(hb h).1,hk ▸ (hb h).2,hk ▸ hr⟩
theorem BL {s:cQ} {k:Nat} {i:Int} {x:bL} (h:i<5) (e:bV cX i=some x):qQ s (k+1) i=if x.Np=s then some (.inr x.NK) else qQ s k (i64.wrap (i+1)):=by
 rw [qQ,if_pos (DU h),e];simp only [mS,Fv]
theorem FU {s:cQ} (hn:6<n):bE (uE n s) fun v=>0<=v/\v<=3/\(s=[115,101,108,101,99,116]->v=3)/\(s=[119,105,100,101]->v=2)/\(0<v->s=[115,101,108,101,99,116] ∨ s=[108,111,110,103]/\v=1 ∨ s=[108,111]/\v=1 ∨ s=[104,105]/\v=1 ∨ s=[119,105,100,101]):=by
 obtain ⟨m,rfl⟩:∃m,n=m+6:=⟨n - 6,by omega⟩;unfold uE;rw [BL (i:=0) (x:=bL.mk [115,101,108,101,99,116] 3) (by decide) rfl]
 split
 ·rename_i h;subst h;exact .some ⟨by decide,by decide,fun _=>rfl,fun h=>absurd h (by decide),fun _=>.inl rfl⟩
 rename_i h0;rw [show i64.wrap (0+1)=1 from by decide,BL (i:=1) (x:=bL.mk [108,111,110,103] 1) (by decide) rfl]
 split
 ·rename_i h;subst h;exact .some ⟨by decide,by decide,fun h=>absurd h (by decide),fun h=>absurd h (by decide),fun _=>.inr (.inl ⟨rfl,rfl⟩)⟩
 rw [show i64.wrap (1+1)=2 from by decide,BL (i:=2) (x:=bL.mk [108,111] 1) (by decide) rfl]
 split
 ·rename_i h;subst h;exact .some ⟨by decide,by decide,fun h=>absurd h (by decide),fun h=>absurd h (by decide),fun _=>.inr (.inr (.inl ⟨rfl,rfl⟩))⟩
 rw [show i64.wrap (2+1)=3 from by decide,BL (i:=3) (x:=bL.mk [104,105] 1) (by decide) rfl]
 split
 ·rename_i h;subst h;exact .some ⟨by decide,by decide,fun h=>absurd h (by decide),fun h=>absurd h (by decide),fun _=>.inr (.inr (.inr (.inl ⟨rfl,rfl⟩)))⟩
 rw [show i64.wrap (3+1)=4 from by decide,BL (i:=4) (x:=bL.mk [119,105,100,101] 2) (by decide) rfl]
 split
 ·rename_i h;subst h;exact .some ⟨by decide,by decide,fun h=>absurd h (by decide),fun _=>rfl,fun _=>.inr (.inr (.inr (.inr rfl)))⟩
 rename_i h4;rw [show i64.wrap (4+1)=5 from by decide];exact .some ⟨by decide,by decide,fun h=>absurd h.symm h0,fun h=>absurd h.symm h4,fun h=>absurd h (by decide)⟩
end
def Sr (N B n:Nat) (f:aD->aI->aB->Option (aG × aI)):Prop:=∀c w x,CI N B c->WE x->sz x<=20000->3*sz x+301<=n->bE (f c w x) (Qd c w x)
def Gz (N B n:Nat) (K:Int) (f:aD->aI->aB->aG->Option (aG × aI)):Prop:=∀c w x y,CI N B c->WE x->x.bX=K->sz x<=20000->3*sz x+300<=n->(∃a,y=⟨[],0,0,-1,[],a⟩)->bE (f c w x y) (Qd c w x)
def Su (N B n:Nat) (f:aD->aI->(List aB)->Option ((List aG) × aI)):Prop:=∀c w xs,CI N B c->(∀x ∈ xs,WE x)->tZ xs<=20000->3*tZ xs+302<=n->bE (f c w xs) fun r=>WK w r.2/\r.1.length=xs.length/\(r.2.e_=0->∀y ∈ r.1,TX (sN c) c.bJ y)/\(r.2.e_=0->(tY r.1:Int)<=tZ xs)
section
variable {N B n:Nat} {c:aD} {w:aI}
theorem call_l1 {m:Nat} {xs:List Nd} {fe:aD->aI->aB->Option (aG × aI)} (hf:Sr N B m fe) (h:CI N B c) (hx:∀x ∈ xs,WE x) (hs:tZ xs<=20000) (hm:3*tZ xs+301<=m) :
  ∀(k v:Nat) (ys:List aG) (w:aI),xs.length<v+k->v<=xs.length->ys.length=v->(w.e_=0->∀y ∈ ys,TX (sN c) c.bJ y)->bE (kD fe xs c k ys (v:Int) w) fun r=>WK w r.2/\r.1.length=xs.length/\(r.2.e_=0->∀y ∈ r.1,TX (sN c) c.bJ y)/\(r.2.e_=0->(tY r.1:Int)<=tY ys+tZ (xs.drop v)):=by
 intro k
 induction k with
 | zero=>intro v ys w h1 h2 h3;omega
 | succ k ih=>
   intro v ys w h1 h2 h3 h4;unfold kD;have hg:=oE xs
   by_cases hv:v<xs.length
   ·rw [if_pos (DU (by omega))];obtain ⟨x,e,ex,hxm⟩:=mZ (l:=xs) (i:=(v:Int)) (by omega) (by omega)
    have hd:xs.drop v=x::xs.drop (v+1):=by
     rw [yG] at ex;obtain ⟨hlt,rfl⟩:=qJ.1 ex;exact NU hlt
    rw [e];simp only [mS];have hsz:=GW hxm;refine (hf c w x h (hx x hxm) (by omega) (by omega)).bind fun r hr=>bE.need (by simp only [uW];omega) ?_;rw [fG (by omega) (by omega),show ((v:Int)+1)=((v+1:Nat):Int) by omega];refine (ih (v+1) _ _ (by omega) (by omega) (by simp only [nC,uW];omega) fun e y hy=>?_).mono fun q hq=>⟨WK.trans (fun e=>(hr e).1) hq.1,hq.2.1,hq.2.2.1,fun e=>?_⟩
    ·rcases At.1 hy with hy | hy
     ·exact h4 (by rw [←(hr e).1];exact e) y hy
     ·obtain rfl:=zN.1 hy;exact (hr e).2.1
    ·have h5:=hq.2.2.2 e;have h6:=(hr (by rw [←hq.1 e];exact e)).2.2;rw [IY,tY,tY] at h5;rw [hd,tM];omega
   ·rw [if_neg (by simp;omega)];exact .some ⟨.refl _,by rw [h3];omega,h4,fun _=>by have:=oE (xs.drop v);simp only;omega⟩
theorem call_b {fe:aD->aI->aB->Option (aG × aI)} (hf:Sr N B n fe):Su N B (n+1) (nO fe n):=by
 intro c w xs h hx hs hn;unfold nO;have hg:=oE xs;exact (call_l1 hf h hx hs (by omega) n 0 [] w (by omega) (by omega) rfl fun _ y hy=>nomatch hy).bind fun r hr=>.some ⟨hr.1,hr.2.1,hr.2.2.1,fun e=>by have:=hr.2.2.2 e;rw [tY,qU] at this;simp only;omega⟩
theorem cexpr_b {f1 f2 f3 f4:aD->aI->aB->aG->Option (aG × aI)} (h1:Gz N B n 16 f1) (h2:Gz N B n 18 f2) (h3:Gz N B n 19 f3) (h4:Gz N B n 17 f4):Sr N B (n+1) (mG f1 f2 f3 f4 n):=by
 intro c w x h hx hs hn;have hp:=pU x;unfold mG;cases hx with
 | num=>exact .some fun _=>⟨rfl,.num,by rw [Be,tY,gO,mU];omega⟩
 | ref=>
   simp only [Int.reduceBEq,yI,if_false,if_true];refine (BJ (w:=w) h (by omega)).bind fun r hr=>?_;refine (zF (w:=r.2) h hr.1).bind fun k hk=>?_;rw [nW];refine .some fun e=>?_;obtain ⟨k1,k2,k3⟩:=fJ (k:=132) (by decide) e;obtain ⟨j1,u,j2,j3,j4,j5⟩:=hr.2.2 k1;refine ⟨k3.trans j1,?_,by rw [Be,tY,gO,mU];omega⟩
   rcases hk with ⟨hm,_⟩ | ⟨_,u2,hk2,rfl⟩
   ·omega
   ·exact .var j2 (by unfold bV;rw [if_pos j3];exact hk2) (by simpa using k2)
 | index hy=>
   simp only [Int.reduceBEq,yI,if_false,if_true];exact (h1 c w _ _ h (.index hy) rfl hs (by omega) ⟨_,rfl⟩).bind fun r hr=>.some hr
 | un hu hy=>
   simp only [Int.reduceBEq,yI,if_false,if_true];exact (h2 c w _ _ h (.un hu hy) rfl hs (by omega) ⟨_,rfl⟩).bind fun r hr=>.some hr
 | bin hl hy hz=>
   simp only [Int.reduceBEq,yI,if_false,if_true];exact (h3 c w _ _ h (.bin hl hy hz) rfl hs (by omega) ⟨_,rfl⟩).bind fun r hr=>.some hr
 | call hy=>
   simp only [Int.reduceBEq,yI,if_false];exact (h4 c w _ _ h (.call hy) rfl hs (by omega) ⟨_,rfl⟩).bind fun r hr=>.some hr
theorem WE.inv16 {x:Nd} (h:WE x) (k:x.bX=16):∃a s y,x=⟨16,a,s,0,[y]⟩/\WE y:=by
 cases h <;> first | exact ⟨_,_,_,rfl,‹_›⟩ | (simp at k)
theorem WE.inv18 {x:Nd} (h:WE x) (k:x.bX=18):∃a s y,x=⟨18,a,s,0,[y]⟩/\WE y:=by
 cases h <;> first | exact ⟨_,_,_,rfl,‹_›⟩ | (simp at k)
theorem WE.inv19 {x:Nd} (h:WE x) (k:x.bX=19):∃a s y z,x=⟨19,a,s,0,[y,z]⟩/\WE y/\WE z/\s ∈ BT:=by
 cases h <;> first | exact ⟨_,_,_,_,rfl,‹_›,‹_›,‹_›⟩ | (simp at k)
theorem WE.inv17 {x:Nd} (h:WE x) (k:x.bX=17):∃a s xs,x=⟨17,a,s,0,xs⟩/\∀y ∈ xs,WE y:=by
 cases h <;> first | exact ⟨_,_,_,rfl,‹_›⟩ | (simp at k)
theorem cload_b {fe:aD->aI->aB->Option (aG × aI)} (hf:Sr N B n fe):Gz N B (n+1) 16 (mF fe n):=by
 rintro c w x y h hx hk hs hn ⟨ya,rfl⟩;obtain ⟨a,s,z,rfl,hz⟩:=hx.inv16 hk;rw [gO,rK] at hs hn;have hzp:=pU z;unfold mF;refine bE.eqn (v:=z) rfl ?_;refine (hf c w z h hz (by omega) (by omega)).bind fun r hr=>?_;refine (BJ (w:=r.2) h (by omega)).bind fun v hv=>?_;refine (zF (w:=v.2) h hv.1).bind fun k hk=>?_;simp only [nW,mS]
 have key:∀ {w2:aI},WK (Kf (Kf v.2 (k == 4) 132 a) (r.1.cM == 1) 133 r.1.fR) w2->w2.e_=0->w2=w/\(TX (sN c) c.bJ r.1/\(xz r.1:Int)<=sz z)/\r.1.cM=1/\∃u,v.1 ∈ c.bJ/\bV (sN c) v.1=some u/\u.bX=4:=by
  intro w2 hw2 e;have e2:=hw2 e;subst e2;obtain ⟨k1,k2,k3⟩:=fJ (k:=133) (by decide) e;obtain ⟨j1,j2,j3⟩:=fJ (k:=132) (by decide) k1;obtain ⟨i1,u,i2,i3,i4,i5⟩:=hv.2.2 j1;obtain ⟨l1,l2⟩:=hr (by rw [←i1];exact j1);refine ⟨by rw [k3,j3,i1,l1],l2,by simpa using k2,u,i2,by unfold bV;rw [if_pos i3];exact i4,?_⟩
  rcases hk with ⟨hm,_⟩ | ⟨_,u2,hk2,rfl⟩
  ·omega
  ·rw [i4] at hk2;cases hk2;simpa using j2
 refine bE.bind' (bE.iteb (fun he=>.some ?_) (fun he=>.some ?_))
 ·refine bE.iteb (fun ho=>?_) (fun ho=>.some fun e=>?_)
  ·have he2:=(fJ (k:=132) (by decide) (fJ (k:=133) (by decide) (by simpa using he)).1).1;obtain ⟨_,u,h1,h2,h3,h4⟩:=hv.2.2 he2;obtain ⟨f,_,hm,hvs,hfi⟩:=h.cur;rw [hfi];have hlt:=h.sc _ h1;rw [hvs] at hlt;obtain ⟨u2,e2,_,_⟩:=mZ hlt.1 hlt.2;simp only [mS,e2];refine .some fun e=>?_;obtain ⟨g1,g2,g3,u3,g4,g5,g6⟩:=key WK.nd e;rw [hvs,e2] at g5;cases g5
   exact ⟨g1,.index g4 (by rw [hvs];exact e2) g6 g2.1 g3 fun _=>(by simpa using (fJ (k:=137) (by decide) e).2.1),by rw [Be,tY,tY,gO,rK];have:=g2.2;omega⟩
  ·obtain ⟨g1,g2,g3,u3,g4,g5,g6⟩:=key (.refl _) e;exact ⟨g1,.index g4 g5 g6 g2.1 g3 fun h=>absurd h (by simpa using ho),by rw [Be,tY,tY,gO,rK];have:=g2.2;omega⟩
 ·refine bE.iteb (fun h=>nomatch h) (fun _=>.some fun e=>?_);exact absurd e (by simpa using he)
theorem Rl {α:Type} {l:List α} (h:l.length=1):∃x,l=[x]:=by
 match l,h with
 | [x],_=>exact ⟨x,rfl⟩
theorem list2 {α:Type} {l:List α} (h:l.length=2):∃x y,l=[x,y]:=by
 match l,h with
 | [x,y],_=>exact ⟨x,y,rfl⟩
theorem list3 {α:Type} {l:List α} (h:l.length=3):∃x y z,l=[x,y,z]:=by
 match l,h with
 | [x,y,z],_=>exact ⟨x,y,z,rfl⟩
theorem RH {fa:aD->aI->(List aB)->Option ((List aG) × aI)} (hf:Su N B n fa):Gz N B (n+1) 18 (lF fa n):=by
 rintro c w x y h hx hk hs hn ⟨ya,rfl⟩;obtain ⟨a,s,z,rfl,hz⟩:=hx.inv18 hk;rw [gO] at hs hn;unfold lF;refine (hf c w [z] h (fun u hu=>by obtain rfl:=zN.1 hu;exact hz) (by omega) (by omega)).bind fun r hr=>?_;obtain ⟨h1,h2,h3,h5⟩:=hr;obtain ⟨u,hu⟩:=Rl h2;rw [hu] at h3 h5 ⊢;refine bE.iteb (fun _=>bE.eqn (v:=u) rfl (.some fun e=>⟨h1 e,.un (.inr rfl) (h3 e u Rh),by rw [Be,gO];have:=h5 e;simp only;omega⟩)) (fun _=>bE.eqn (v:=u) rfl (.some fun e=>⟨h1 e,.un (.inl rfl) (h3 e u Rh),by rw [Be,gO];have:=h5 e;simp only;omega⟩))
theorem Pt {fa:aD->aI->(List aB)->Option ((List aG) × aI)} (hf:Su N B n fa):Gz N B (n+1) 19 (kU fa n):=by
 rintro c w x y h hx hk hs hn ⟨ya,rfl⟩;obtain ⟨a,s,z,z2,rfl,hz,hz2,hsg⟩:=hx.inv19 hk;rw [gO] at hs hn;unfold kU;refine (hf c w [z,z2] h (fun u hu=>by rcases vA.1 hu with rfl | hu;exact hz;obtain rfl:=zN.1 hu;exact hz2) (by omega) (by omega)).bind fun r hr=>?_;obtain ⟨h1,h2,h3,h5⟩:=hr;obtain ⟨u,u2,hu⟩:=list2 h2;rw [hu] at h3 h5 ⊢;refine bE.eqn (v:=u) rfl (bE.eqn (v:=u2) rfl (Hs.bind fun k hk=>?_));subst hk;simp only [nW,mS]
 have fin:∀ {o:cQ} {t:Int} {w2:aI},WK r.2 w2->(w2.e_=0->Sy o u u2 t)->Qd c w ⟨19,a,s,0,[z,z2]⟩ (⟨o,t,0,-1,[u,u2],ya⟩,w2):=fun hw hb e=>by
  have e1:r.2.e_=0:=by rw [←hw e];exact e
  exact ⟨(hw e).trans (h1 e1),.bin (h3 e1 u (by simp)) (h3 e1 u2 (by simp)) (hb e),by rw [Be,gO];have:=h5 e1;simp only;omega⟩
 have div:∀ {o:cQ},(o=[47] ∨ o=[37])->bE ((cT c (Kf (Kf r.2 (u.cM == 1) 133 u.fR) (u2.cM == 1) 133 u2.fR) ⟨o,0,0,-1,[u,u2],ya⟩ 1).bind fun x=>some (x.1,x.2)) (Qd c w ⟨19,a,s,0,[z,z2]⟩):=fun ho=>
  (uI (c:=c)).bind fun r2 hr2=>.some (by
    rw [hr2.2.1];refine fin ((WK.nd).trans ((WK.nd).trans hr2.1)) fun e=>?_;obtain ⟨k1,k2,_⟩:=fJ (k:=133) (by decide) (by rw [←hr2.1 e];exact e);obtain ⟨_,j2,_⟩:=fJ (k:=133) (by decide) k1;exact .inl ⟨ho,by simpa using j2,by simpa using k2,rfl⟩)
 have shf:∀ {o:cQ},(o=[60,60] ∨ o=[62,62] ∨ o=[60,60,60])->bE ((hY c r.2 ⟨o,0,0,-1,[u,u2],ya⟩ u u2).bind fun x=>some (x.1,x.2)) (Qd c w ⟨19,a,s,0,[z,z2]⟩):=fun ho=>
  (Oq (c:=c)).bind fun r2 hr2=>.some (by
    rw [hr2.2.1];refine fin hr2.1 fun e=>?_;obtain ⟨k1,k2,_⟩:=hr2.2.2 e;exact .inr (.inl ⟨ho,k1,k2,rfl⟩))
 have typ:∀ {o:cQ} {t:Int} {w1:aI},WK r.2 w1->(t ≠ 0->w1.e_=0->Sy o u u2 t)->bE ((cT c w1 ⟨o,0,0,-1,[u,u2],ya⟩ t).bind fun x=>some (x.1,x.2)) (Qd c w ⟨19,a,s,0,[z,z2]⟩):=fun hw hb=>
  (uI (c:=c)).bind fun r2 hr2=>.some (by
    rw [hr2.2.1];refine fin (hw.trans hr2.1) fun e=>hb (hr2.2.2 e) (by rw [←hr2.1 e];exact e))
 refine bE.iteb (fun ho=>div (.inl (Dk ho))) fun n1=>bE.iteb (fun ho=>div (.inr (Dk ho))) fun n2=>?_;refine bE.iteb (fun ho=>shf (.inl (Dk ho))) fun n3=>bE.iteb (fun ho=>shf (.inr (.inl (Dk ho)))) fun n4=>bE.iteb (fun ho=>shf (.inr (.inr (Dk ho)))) fun n5=>?_;refine bE.iteb (fun ho=>typ WK.nd fun ht e=>.inr (.inr (.inl ⟨Dk ho,rfl,by simpa using (fJ (k:=132) (by decide) e).2.1,ht⟩))) fun n6=>?_;refine bE.iteb (fun ho=>bE.iteb (fun h3=>typ (.refl _) fun ht e=>?_) fun h3=>typ (.refl _) fun ht e=>?_) fun n7=>?_
 ·exact .inr (.inr (.inr (.inl ⟨.inl (Dk ho),by rw [beq_iff_eq] at h3;omega,by rw [if_pos (by simpa using h3)]⟩)))
 ·exact .inr (.inr (.inr (.inl ⟨.inl (Dk ho),ht,by rw [if_neg (by simpa using h3)]⟩)))
 refine bE.iteb (fun ho=>bE.iteb (fun h3=>typ (.refl _) fun ht e=>?_) fun h3=>typ (.refl _) fun ht e=>?_) fun n8=>?_
 ·exact .inr (.inr (.inr (.inl ⟨.inr (Dk ho),by rw [beq_iff_eq] at h3;omega,by rw [if_pos (by simpa using h3)]⟩)))
 ·exact .inr (.inr (.inr (.inl ⟨.inr (Dk ho),ht,by rw [if_neg (by simpa using h3)]⟩)))
 refine typ (.refl _) fun ht e=>.inr (.inr (.inr (.inr ⟨?_,rfl,ht⟩)));simp only [decide_eq_false_iff_not] at n1 n2 n3 n4 n5 n6 n7 n8;simp only [BT,vA,HT,or_false] at hsg
 rcases hsg with h | h | h | h | h | h | h | h | h | h | h | h | h
 ·exact .inl h
 ·exact .inr (.inl h)
 ·exact .inr (.inr (.inl h))
 ·exact absurd h n7
 ·exact absurd h n8
 ·exact absurd h n3
 ·exact absurd h n4
 ·exact absurd h n5
 ·exact .inr (.inr (.inr (.inl h)))
 ·exact .inr (.inr (.inr (.inr h)))
 ·exact absurd h n6
 ·exact absurd h n1
 ·exact absurd h n2
theorem MK {fa:aD->aI->(List aB)->Option ((List aG) × aI)} (hf:Su N B n fa):Gz N B (n+1) 17 (kG fa n):=by
 rintro c w x y h hx hk hs hn ⟨ya,rfl⟩;obtain ⟨a,s,xs,rfl,hz⟩:=hx.inv17 hk;rw [gO] at hs hn;have hp:0<=tZ xs:=by have:=oE xs;omega
 unfold kG;refine (FU (s:=s) (by omega)).bind fun v hv=>?_;simp only [nW,mS];refine (hf c _ xs h hz (by omega) (by omega)).bind fun r hr=>?_;obtain ⟨g1,hrl,g3,g4⟩:=hr;have hwr:=(WK.nd (w:=w)).trans ((WK.nd).trans g1);refine bE.iteb (fun he=>.some fun e=>absurd e (by simpa using he)) (fun he=>?_);simp only [bne_eq_false_iff_eq] at he;have h1:=g1 he;obtain ⟨k1,k2,k3⟩:=fJ (k:=136) (by decide) (by rw [←h1];exact he);obtain ⟨j1,j2,j3⟩:=fJ (k:=130) (by decide) k1;have hl:(xs.length:Int)=v:=by simpa using k2
 have hv0:0<v:=Dk j2;have hT:=g3 he;have fin:∀ {x:aG} {w2:aI},WK r.2 w2->(w2.e_=0->TX (sN c) c.bJ x)->x.aM=r.1->Qd c w ⟨17,a,s,0,xs⟩ (x,w2):=fun hw hb hx e=>⟨(hwr.trans hw) e,hb e,by rw [Be,gO,hx];have:=g4 he;omega⟩;obtain ⟨_,hv3,hvs,hvw,hall⟩:=hv;have hall:=hall hv0;obtain ⟨u,e,_,hum⟩:=mZ (l:=r.1) (i:=0) (by decide) (by omega);rw [e];simp only [mS];refine bE.iteb (fun hc=>?_) (fun n1=>bE.iteb (fun hc=>?_) (fun n2=>bE.iteb (fun hc=>?_) (fun n3=>?_)))
 ·have h3:=hvs (Dk hc);obtain ⟨x0,x1,x2,hr3⟩:=list3 (l:=r.1) (by omega);rw [hr3] at hT fin ⊢;refine (MI (c:=c) rfl).bind fun k hk=>?_;refine (uI (c:=c)).bind fun r2 hr2=>.some ?_;rw [hr2.2.1];refine fin hr2.1 (fun e=>?_) rfl;obtain ⟨q1,q2,rfl⟩:=hk (hr2.2.2 e);rw [Dk hc];exact .sel (hT _ (by simp)) (hT _ (by simp)) (hT _ (by simp)) q1 q2
 ·have hc1:=Dk hc
  have hv1:v=1:=by
   rcases hall with h | h | h | h | h
   ·rw [hc1] at h;exact absurd h (by decide)
   ·exact h.2
   ·exact h.2
   ·exact h.2
   ·rw [hc1] at h;exact absurd h (by decide)
  obtain ⟨x0,hr1⟩:=Rl (l:=r.1) (by omega);rw [hr1] at hT e fin ⊢;have hx0:x0=u:=by cases e;rfl
  subst hx0;refine BZ.bind fun b hb=>?_;refine (uI (c:=c)).bind fun r2 hr2=>.some ?_;rw [hr2.2.1];refine fin ((WK.nd).trans hr2.1) (fun e=>?_) rfl;rw [hc1];exact .long (hT _ Rh) (hb (fJ (k:=132) (by decide) (by rw [←hr2.1 e];exact e)).2.1)
 ·have h2:=hvw (Dk hc);obtain ⟨x0,x1,hr2⟩:=list2 (l:=r.1) (by omega);rw [hr2] at hT e fin ⊢;have hx0:x0=u:=by cases e;rfl
  subst hx0;refine bE.bind (P:=fun w'=>WK r.2 w'/\(w'.e_=0->ScT x0.cM/\ScT x1.cM)) (BZ.bind fun b hb=>bE.iteb (fun hbt=>bE.eqn (v:=x1) rfl ?_) (fun _=>.some ⟨WK.nd,fun e=>?_⟩)) fun w' hw'=>?_
  ·exact BZ.bind fun b2 hb2=>.some ⟨WK.nd,fun e=>⟨hb hbt,hb2 (fJ (k:=132) (by decide) e).2.1⟩⟩
  ·have:=(fJ (k:=132) (by decide) e).2.1;cases this
  ·refine (uI (c:=c)).bind fun r2 hr2=>.some ?_;rw [hr2.2.1];refine fin (hw'.1.trans hr2.1) (fun e=>?_) rfl;obtain ⟨q1,q2⟩:=hw'.2 (by rw [←hr2.1 e];exact e);rw [Dk hc];exact .wide (hT _ (by simp)) (hT _ (by simp)) q1 q2
 ·have hc1:(s=[108,111] ∨ s=[104,105])/\v=1:=by
   rcases hall with h | h | h | h | h
   ·exact absurd h (by simpa using n1)
   ·exact absurd h.1 (by simpa using n2)
   ·exact ⟨.inl h.1,h.2⟩
   ·exact ⟨.inr h.1,h.2⟩
   ·exact absurd h (by simpa using n3)
  obtain ⟨x0,hr1⟩:=Rl (l:=r.1) (by omega);rw [hr1] at hT e fin ⊢;have hx0:x0=u:=by cases e;rfl
  subst hx0;refine (uI (c:=c)).bind fun r2 hr2=>.some ?_;rw [hr2.2.1];refine fin ((WK.nd).trans hr2.1) (fun e=>?_) rfl;exact .half hc1.1 (hT _ Rh) (eq_of_beq (fJ (k:=132) (by decide) (by rw [←hr2.1 e];exact e)).2.1)
theorem NC:∀n:Nat,Sr N B n (cF n).1/\Gz N B n 16 (cF n).2.1/\Gz N B n 18 (cF n).2.2.1/\Gz N B n 19 (cF n).2.2.2.1/\Gz N B n 17 (cF n).2.2.2.2.1/\Su N B n (cF n).2.2.2.2.2
 | 0=>⟨fun c w x _ _ _ h=>by have:=pU x;omega,fun c w x y _ _ _ _ h _=>by have:=pU x;omega,fun c w x y _ _ _ _ h _=>by have:=pU x;omega,fun c w x y _ _ _ _ h _=>by have:=pU x;omega,fun c w x y _ _ _ _ h _=>by have:=pU x;omega,fun c w xs _ _ _ h=>by have:=oE xs;omega⟩
 | n+1=>by
   obtain ⟨g1,g2,g3,g4,g5,g6⟩:=NC n;exact ⟨cexpr_b g2 g3 g4 g5,cload_b g1,RH g6,Pt g6,MK g6,call_b g1⟩
theorem yD (h:CI N B c) {x:Nd} (hx:WE x) (hs:sz x<=20000) (hn:3*sz x+301<=n):bE (gW n c w x) (Qd c w x):=(NC n).1 c w x h hx hs hn
end
section
variable {N B n:Nat} {c:aD} {w:aI}
theorem sS (h:CI N B c) {x:Nd} (hx:WE x) (hs:sz x<=20000) (hn:3*sz x+301<=n):bE (fI n c w x) fun r=>Qd c w x r/\(r.2.e_=0->r.1.cM=1):=by
 unfold fI;refine (yD h hx hs hn).bind fun r hr=>?_;rw [nW];refine .some ⟨fun e=>?_,fun e=>by simpa using (fJ (k:=133) (by decide) e).2.1⟩;obtain ⟨k1,_,k3⟩:=fJ (k:=133) (by decide) e;obtain ⟨j1,j2⟩:=hr k1;exact ⟨k3.trans j1,j2⟩
theorem Qd.wk {x:Nd} {r:aG × aI} (h:Qd c w x r):WK w r.2:=fun e=>(h e).1
theorem Find_l1 (fs:List aR) (s:cQ) (hl:fs.length<=16384):∀(k v:Nat),fs.length<v+k->v<=fs.length->∃r,cU fs s k v=some r/\(r=.inl () ∨ ∃(i:Nat) (f:aR),r=.inr (i:Int)/\fs[i]? = some f/\f.jX=s):=by
 intro k
 induction k with
 | zero=>intro v h1 h2;omega
 | succ k ih=>
   intro v h1 h2;unfold cU
   by_cases hv:v<fs.length
   ·rw [if_pos (DU (by omega))];obtain ⟨f,e,e2,_⟩:=mZ (l:=fs) (i:=(v:Int)) (by omega) (by omega);rw [e];simp only [mS,xC]
    by_cases hf:f.jX=s
    ·rw [if_pos (DU hf)];exact ⟨_,rfl,.inr ⟨v,f,rfl,by simpa using e2,hf⟩⟩
    ·rw [if_neg (by simpa using hf),fG (by omega) (by omega),show ((v:Int)+1)=((v+1:Nat):Int) by omega];exact ih (v+1) (by omega) (by omega)
   ·rw [if_neg (by simp;omega)];exact ⟨_,rfl,.inl rfl⟩
theorem LI {p:aN} {s:cQ} (hl:p.bD.length<=16384) (hn:16384<n):bE (nU n p s) fun r=>0<=r.1/\(r.2=true->r.1<p.bD.length/\∃f,p.bD[r.1.toNat]? = some f/\f.jX=s):=by
 unfold nU eY;obtain ⟨r,e,hr⟩:=Find_l1 p.bD s hl n 0 (by omega) (by omega);have e:cU p.bD s n 0=some r:=e;rw [e]
 rcases hr with rfl | ⟨i,f,rfl,h1,h2⟩
 ·exact .some ⟨by decide,fun h=>absurd h (by decide)⟩
 ·have hi:i<p.bD.length:=(qJ.1 h1).1;refine .some ⟨by simp only;omega,fun _=>⟨by simp only;omega,f,?_,h2⟩⟩;have:(max (i:Int) 0).toNat=i:=by omega
  simp only [this,h1]
theorem function_tot' (h:CI N B c) (hn:16384<n) {x:Nd}:bE (kS n c w x) fun r=>WK w r.2/\(r.2.e_=0->0<=r.1/\r.1<N):=by
 unfold kS;refine (LI (by have:=h.nf;have:=h.nN;omega) hn).bind fun r hr=>?_;rw [nW];refine .some ⟨WK.nd,fun e=>?_⟩;have:=(hr.2 (fJ (by decide) e).2.1).1;have:=h.nf;exact ⟨hr.1,by omega⟩
theorem Mb (h:CI N B c) {i:Int} (h0:0<=i) (h1:i<N):bE (mD c w i) fun r=>∃f,bV c.p_.bD i=some f/\r=f.aV.take f.aW.toNat:=by
 unfold mD;obtain ⟨f,e,_,hm⟩:=mZ (l:=c.p_.bD) h0 (by have:=h.nf;omega);rw [e];have hv:=h.vl f hm;simp only [mS];exact bE.need ⟨hv.2.1,hv.2.2⟩ (.some ⟨f,rfl,rfl⟩)
theorem Py (h:CI N B c) (hn:300<n) {x:Nd} {p:bB} (hp:p.bX=4):bE (nM n c w x p.jB) fun r=>r.2.e_=0->r.2=w/\Eq (sN c) c.bJ p r.1/\(xz r.1:Int)<=sz x:=by
 unfold nM;rw [nW];simp only [mS];refine (BJ h hn).bind fun v hv=>?_;refine bE.bind (P:=fun w'=>w'.e_=0->w'=w/\Eq (sN c) c.bJ p ⟨[118,97,114],4,0,v.1,[],x.fR⟩) ?_ fun w' hw'=>.some fun e=>⟨(hw' e).1,(hw' e).2,by rw [Be,tY];have:=pU x;omega⟩;refine (zF (w:=v.2) h hv.1).bind fun k hk=>bE.iteb (fun hc=>?_) (fun _=>by rw [nW];exact .some fun e=>by have:=(fJ (k:=132) (by decide) e).2.1;cases this);have hk4:k=4:=by simpa using hc
 rcases hk with ⟨_,h2⟩ | ⟨h0,u,h1,hku⟩
 ·omega
 obtain ⟨f,_,hm,hvs,hfi⟩:=h.cur;rw [hfi];rw [hvs] at h1;have hlt:v.1.toNat<f.aV.length:=(qJ.1 h1).1
 have e2:bV f.aV (max v.1 0)=some u:=by
  rw [show max v.1 0=v.1 by omega];unfold bV;rw [if_pos h0];exact h1
 simp only [mS,e2,nW];refine .some fun e=>?_;obtain ⟨k1,k2,k3⟩:=fJ (k:=132) (by decide) e;obtain ⟨j1,u3,j2,j3,j4,j5⟩:=hv.2.2 k1;obtain ⟨_,_,i3⟩:=fJ (k:=132) (by decide) (by rw [←j1];exact k1);refine ⟨by rw [k3,j1,i3],.arr hp j2 (u:=u) (by rw [hvs];unfold bV;rw [if_pos h0];exact h1) (by omega) (by simpa using k2)⟩
theorem JQ (h:CI N B c) {x:Nd} (hx:WE x) (hs:sz x<=20000) (hn:3*sz x+301<=n) {v:bB}:bE (kV n c w x v) fun r=>r.2.e_=0->r.2=w/\Eq (sN c) c.bJ v r.1/\(xz r.1:Int)<=sz x:=by
 have hp:=pU x;unfold kV;refine bE.iteb (fun h4=>?_) (fun h4=>bE.iteb (fun h1=>?_) (fun h1=>?_))
 ·exact (Py h (by omega) (by simpa using h4)).bind fun r hr=>.some hr
 ·exact (sS h hx hs hn).bind fun r hr=>.some fun e=>⟨(hr.1 e).1,.pub (by simpa using h1) (hr.1 e).2.1 (hr.2 e),(hr.1 e).2.2⟩
 ·refine (yD h hx hs hn).bind fun r hr=>Fl.bind fun b hb=>?_;rw [nW];refine .some fun e=>?_;obtain ⟨k1,k2,k3⟩:=fJ (k:=132) (by decide) e;exact ⟨k3.trans (hr k1).1,.val (by simpa using h1) (by simpa using h4) (hr k1).2.1 (hb k2),(hr k1).2.2⟩
theorem CI.calls (h:CI N B c) {l:List Int} {k:Int} (e:bV c.cK c.gB=some l) (h0:0<=k) (h1:k<N):CI N (B+1) { c with cK:=c.cK.set c.gB.toNat (l++[k]) }:=by
 have hm:l ∈ c.cK:=by
  obtain ⟨l2,e2,_,hm⟩:=mZ (l:=c.cK) h.a0 (by rw [h.nc];exact h.a1);rw [e] at e2;cases e2;exact hm
 refine ⟨h.nf,h.nN,h.f0,h.f1,h.a0,h.a1,h.sc,h.sl,h.vl,by simp only [GI];exact h.nc,?_,h.ki⟩;intro l' hl'
 rcases HW hl' with hl' | rfl
 ·exact ⟨Nat.le_succ_of_le (h.cl l' hl').1,(h.cl l' hl').2⟩
 ·have:=h.cl l hm;refine ⟨by simp only [nC,uW];omega,fun u hu=>?_⟩
  rcases At.1 hu with hu | hu
  ·exact this.2 u hu
  ·obtain rfl:=zN.1 hu;exact ⟨h0,h1⟩
theorem CI.more {B':Nat} (h:CI N B c) (hb:B<=B'):CI N B' c:=⟨h.nf,h.nN,h.f0,h.f1,h.a0,h.a1,h.sc,h.sl,h.vl,h.nc,fun l hl=>⟨Kl (h.cl l hl).1 hb,(h.cl l hl).2⟩,h.ki⟩
theorem RR {x:Nd} {sh:List bB} {l:List Int} {k4:Int × aI} (h:CI N B { c with cK:=c.cK.set c.gB.toNat (l++[k4.1]) }) (hx:∀y ∈ x.aM,WE y) (hs:tZ x.aM<=20000) (hn:3*tZ x.aM+301<=n) {w0:aI} (hw0:w0.e_=0->x.aM.length=sh.length) {st0:aH} :
  ∀(k v:Nat) (w:aI) (ys:List aG),x.aM.length<v+k->v<=x.aM.length->ys.length=v->(w.e_=0->w=w0/\∀(i:Nat) p y,sh[i]? = some p->ys[i]? = some y->Eq (sN c) c.bJ p y)->WK w0 w->bE (jM n x sh c l k4 k (v:Int) w { st0 with aM:=ys }) fun r=>WK w r.1/\(∃zs,r.2={ st0 with aM:=zs }/\(r.1.e_=0->DS (sN c) c.bJ sh zs/\(tY zs:Int)<=tY ys+tZ (x.aM.drop v))):=by
 intro k
 induction k with
 | zero=>intro v w ys h1 h2 h3;omega
 | succ k ih=>
   intro v w ys h1 h2 h3 h4 hw;unfold jM;have hg:=oE x.aM
   by_cases hv:v<x.aM.length
   ·rw [if_pos (DU (by omega))];obtain ⟨y,e,ey,hym⟩:=mZ (l:=x.aM) (i:=(v:Int)) (by omega) (by omega)
    have hd:x.aM.drop v=y::x.aM.drop (v+1):=by
     rw [yG] at ey;obtain ⟨hlt,rfl⟩:=qJ.1 ey;exact NU hlt
    rw [e];simp only [mS];refine bE.iteb (fun he=>.some ⟨.refl _,ys,rfl,fun e=>absurd e (by simpa using he)⟩) (fun he=>?_);simp only [bne_eq_false_iff_eq] at he;have hw':=hw he;have hlen:=hw0 (by rw [←hw'];exact he);obtain ⟨u,e2,e3,_⟩:=mZ (l:=sh) (i:=(v:Int)) (by omega) (by omega);rw [e2];simp only [mS];have hsz:=GW hym;refine (JQ h (hx y hym) (by omega) (by omega)).bind fun r hr=>bE.need (by simp only [uW];omega) ?_;rw [fG (by omega) (by omega),show ((v:Int)+1)=((v+1:Nat):Int) by omega];refine (ih (v+1) r.2 (ys++[r.1]) (by omega) (by omega) (by simp only [nC,uW];omega) (fun er=>⟨?_,fun i p y hp hy=>?_⟩) (hw.trans fun e=>(hr e).1)).mono fun q hq=>?_
    ·rw [(hr er).1,hw']
    ·by_cases hi:i<v
     ·rw [FB (by omega)] at hy;exact (h4 he).2 i p y hp hy
     ·have hi2:i=v:=by
       have:=(qJ.1 hy).1;simp only [nC,uW] at this;omega
      subst hi2;rw [GP (by omega),h3,xdx] at hy;cases hy;rw [yG] at e3;rw [hp] at e3;cases e3
      exact (hr er).2.1
    ·obtain ⟨hq1,zs,hq2,hq3⟩:=hq;refine ⟨WK.trans (fun e=>(hr e).1) hq1,zs,hq2,fun eq=>?_⟩;obtain ⟨h5,h6⟩:=hq3 eq;refine ⟨h5,?_⟩;rw [IY,tY,tY] at h6;rw [hd,tM];have:=(hr (by rw [←hq1 eq];exact eq)).2.2;omega
   ·rw [if_neg (by simp;omega)];refine .some ⟨.refl _,ys,rfl,fun e=>⟨⟨?_,(h4 e).2⟩,by have:=oE (x.aM.drop v);omega⟩⟩;have:=hw0 (by rw [←hw e];exact e);omega
theorem Eg (h:CI N B c) (hB:B+1<=1073741824) {x:Nd} (hx:∀y ∈ x.aM,WE y) (hs:tZ x.aM<=20000) (hn:3*tZ x.aM+301<=n) (hn2:20000<n) {st:aH} {v:Int} :
  bE (iI n c w x st v) fun r=>CI N (B+1) r.2.1/\Kp c r.2.1/\r.2.1.bJ=c.bJ/\r.2.1.p_=c.p_/\WK w r.2.2/\(r.2.2.e_=0->0<=r.1.pP/\r.1.pP<N/\∃f xs,r.1=⟨[99,97,108,108],v,r.1.pP,xs,st.eK,st.sX,st.fR⟩/\bV r.2.1.p_.bD r.1.pP=some f/\sgC r.2.1 r.1.pP f.cR (f.aV.take f.aW.toNat)/\DS (sN c) c.bJ (f.aV.take f.aW.toNat) xs/\(tY xs:Int)<=tZ x.aM):=by
 have hg:=oE x.aM;unfold iI;refine (function_tot' (w:=w) (x:=x) h (by omega)).bind fun r hr=>bE.iteb (fun he=>?_) (fun he=>?_)
 ·simp only [bne_iff_ne] at he;exact .some ⟨h.more (Nat.le_succ B),.refl c,rfl,rfl,hr.1,fun e=>absurd e he⟩
 ·simp only [bne_eq_false_iff_eq] at he;obtain ⟨f0,f1⟩:=hr.2 he;obtain ⟨l,e,el,hm⟩:=mZ (l:=c.cK) h.a0 (by rw [h.nc];exact h.a1);have h':=h.calls e f0 f1;rw [e];simp only [mS];refine bE.need (by have:=(h.cl l hm).1;omega) ?_;refine (Mb (w:=r.2) h' f0 f1).bind fun sh hsh=>?_;obtain ⟨f,hf,rfl⟩:=hsh;rw [nW];simp only [mS];refine (RR (st0:={ st with kL:=[99,97,108,108],lO:=v,pP:=r.1,aM:=[] }) h' hx hs hn (w0:=Kf r.2 ((x.aM.length:Int) == ((f.aV.take f.aW.toNat).length:Int)) 136 x.fR) (fun e=>by have:=(fJ (k:=136) (by decide) e).2.1;simp only [beq_iff_eq] at this;omega) n 0 _ [] (by omega) (by omega) rfl (fun e=>⟨rfl,fun i p y hp hy=>nomatch hy⟩) (.refl _)).bind fun q hq=>?_;obtain ⟨hq1,zs,hq2,hq3⟩:=hq;have hal:c.gB.toNat<c.cK.length:=(qJ.1 el).1
  have hcl:bV (c.cK.set c.gB.toNat (l++[r.1])) c.gB=some (l++[r.1]):=by
   unfold bV;rw [if_pos h.a0,Io hal]
  refine .some ⟨h',⟨rfl,rfl,PN _,PN _,fun _ _=>rfl,rfl,fun j hj=>Ja (Ne.symm hj),fun l2 e2=>?_⟩,rfl,rfl,hr.1.trans ((WK.nd).trans hq1),fun e2=>?_⟩
  ·rw [e] at e2;cases e2
   exact ⟨_,hcl,xej _ _⟩
  ·rw [hq2];exact ⟨f0,f1,f,zs,rfl,hf,⟨⟨_,hcl,xep _ Rh⟩,f,hf,rfl,rfl⟩,(hq3 e2).1,by have:=(hq3 e2).2;rw [tY,qU] at this;omega⟩
theorem DQ (hn:6<n) {x:Nd}:bE (iO n c w x) fun b=>b=true->x.bX=17:=by
 unfold iO;exact bE.bind' (bE.iteb (fun hc=>(FU hn).bind fun v _=>.some (.some fun _=>by simpa using hc)) (fun _=>.some (.some fun h=>nomatch h)))
def St1 (c c':aD) (w':aI) (b:Bool) (s:aH) (x:aB):Prop:=w'.e_=0->TB (sgC c') (sN c') (Jo c) b (sN c).length c.bJ [s] (sN c').length c'.bJ/\(tz s:Int)<=sz x
theorem DK {α:Type} {l:List α} {x:α}:(l++[x])[l.length]? = some x:=by
 rw [GP (tJ _),xdx];rfl
theorem MJ (h:CI N B c) (hB:B+1<=1073741824) {x y:Nd} (hl:x.aM=[y]) (hy:WE y) (hs:sz y<=20000) (hn:3*sz y+301<=n) (hn2:20000<n) {a:Int} {b:Bool} :
  bE (nL n c w x ⟨[],-1,0,[],[],[],a⟩) fun r=>CI N (B+1) r.2.1/\Kp c r.2.1/\WK w r.2.2/\St1 c r.2.1 r.2.2 b r.1 x:=by
 unfold nL;rw [hl];refine bE.eqn (v:=y) rfl ?_;refine (DQ (c:=c) (w:=w) (by omega)).bind fun b hb=>bE.iteb (fun hbt=>?_) (fun _=>?_)
 ·obtain ⟨a,s,xs,rfl,hxs⟩:=hy.inv17 (hb hbt);rw [gO] at hs hn;refine (Eg h hB hxs (by simp only;omega) (by simp only;omega) hn2).bind fun r hr=>?_;obtain ⟨h1,h2,h3,h4,h5,h6⟩:=hr;refine bE.iteb (fun he=>.some ⟨h1,h2,h5,fun e=>absurd e (by simpa using he)⟩) (fun he=>?_);simp only [bne_eq_false_iff_eq] at he;obtain ⟨f0,f1,f,zs,e1,e2,e3,e4,e9⟩:=h6 he
  have hfm:f ∈ r.2.1.p_.bD:=by
   obtain ⟨f',e',_,hm⟩:=mZ (l:=r.2.1.p_.bD) f0 (by rw [h1.nf];exact f1);rw [e2] at e';cases e';exact hm
  rw [e2];simp only [mS,nW];have hvs:sN r.2.1=sN c:=by unfold sN;rw [h4,h2.f]
  refine (sR h1 (by omega) fun e=>?_).bind fun d hd=>.some ⟨hd.1,h2.trans hd.2.1,h5.trans ((WK.nd).trans fun e=>(hd.2.2.2.2.1 e).1),fun e=>?_⟩
  ·have hr:=(h1.ki f hfm).2;have:=(fJ (k:=132) (by decide) e).2.1;simp only [bne_iff_ne,ne_eq] at this;refine ⟨?_,?_,fun h=>?_⟩ <;> simp only at * <;> omega
  ·obtain ⟨d1,d2,d3,d4⟩:=hd.2.2.2.2.1 e;have e5:(Kf r.2.2 (f.cR != 0) 132 x.fR).e_=0:=by rw [←d1];exact e
   have hne:=(fJ (k:=132) (by decide) e5).2.1;rw [e1];simp only;rw [d2,d3,d4,h3,hvs,nC,uW];exact ⟨.callv (u:=⟨x.cP,f.cR,0⟩) (r:=f.cR) (Kp.sg h1 hd.2.1 e3) (e4.mono (xej _ _) fun _ h=>h) (by simpa using hne) DK rfl .nil,by rw [yK,Dq x,hl,rK,gO];simp only [Am];simp only at e9;omega⟩
 ·refine (yD h hy hs hn).bind fun r hr=>Ha.bind fun k hk=>?_;subst hk;refine (sR h (by omega) fun e=>?_).bind fun d hd=>.some ⟨hd.1.more (Nat.le_succ B),hd.2.1,hr.wk.trans fun e=>(hd.2.2.2.2.1 e).1,fun e=>?_⟩
  ·have:=(hr e).2.1.range h.vsOk;refine ⟨?_,?_,fun h=>?_⟩ <;> simp only [Hb] at * <;> split at * <;> omega
  ·obtain ⟨d1,d2,d3,d4⟩:=hd.2.2.2.2.1 e;simp only;rw [d2,d3,d4,nC,uW];have hr0:=hr (by rw [←d1];exact e);exact ⟨.var_ (u:=⟨x.cP,Hb r.1.cM,0⟩) (hr0.2.1.mono (xej _ _) fun _ h=>h) DK rfl .nil,by rw [yK,Dq x,hl,rK];simp only [Am,tY];have:=hr0.2.2;omega⟩
theorem JL (h:CI N B c) (hn:300<n) {x:Nd}:bE (lH n c w x) fun r=>WK w r.2/\(r.1=-1 ∨ 0<=r.1/\r.1<(sN c).length)/\(r.2.e_=0->∃u,r.1 ∈ c.bJ/\bV (sN c) r.1=some u/\(u.bX=2 ∨ u.bX=3)):=by
 unfold lH;refine (BJ (w:=w) h hn).bind fun v hv=>?_;refine (zF (w:=v.2) h hv.1).bind fun k hk=>?_;simp only [nW,mS];have hwv:WK w v.2:=fun e=>(hv.2.2 e).1
 have key:(k=2 ∨ k=3)->v.2.e_=0->∃u,v.1 ∈ c.bJ/\bV (sN c) v.1=some u/\(u.bX=2 ∨ u.bX=3):=fun h2 e=>by
  obtain ⟨_,u,j2,j3,j4,_⟩:=hv.2.2 e
  rcases hk with ⟨hm,_⟩ | ⟨_,u2,hk2,rfl⟩
  ·omega
  ·exact ⟨u2,j2,by unfold bV;rw [if_pos j3];exact hk2,h2⟩
 refine bE.bind' (bE.iteb (fun h2=>.some (.some ⟨hwv.trans WK.nd,hv.1,fun e=>?_⟩)) (fun _=>.some (.some ⟨hwv.trans WK.nd,hv.1,fun e=>?_⟩)))
 ·exact key (.inl (by simpa using h2)) (fJ (k:=132) (by decide) e).1
 ·obtain ⟨k1,k2,_⟩:=fJ (k:=132) (by decide) e;exact key (.inr (by simpa using k2)) k1
theorem RJ (h:CI N B c) (hB:B+1<=1073741824) {x y:Nd} (hl:x.aM=[y]) (hy:WE y) (hs:sz y<=20000) (hn:3*sz y+301<=n) (hn2:20000<n) {a:Int} {b:Bool} :
  bE (oX n c w x ⟨[],-1,0,[],[],[],a⟩) fun r=>CI N (B+1) r.2.1/\Kp c r.2.1/\WK w r.2.2/\St1 c r.2.1 r.2.2 b r.1 x:=by
 unfold oX;refine (JL (w:=w) h (by omega)).bind fun v hv=>?_;rw [hl];refine bE.eqn (v:=y) rfl ?_;refine (DQ (c:=c) (w:=v.2) (by omega)).bind fun b hb=>bE.iteb (fun hbt=>?_) (fun _=>?_)
 ·obtain ⟨a,s,xs,rfl,hxs⟩:=hy.inv17 (hb hbt);rw [gO] at hs hn;refine (Eg h hB hxs (by simp only;omega) (by simp only;omega) hn2).bind fun r hr=>?_;obtain ⟨h1,h2,h3,h4,h5,h6⟩:=hr;refine bE.iteb (fun he=>?_) (fun he=>.some ⟨h1,h2,hv.1.trans h5,fun e=>absurd e (by simpa using he)⟩);simp only [beq_iff_eq] at he;obtain ⟨f0,f1,f,zs,e1,e2,e3,e4,e9⟩:=h6 he;have hlen:=h2.v.length_le;have hvs:sN r.2.1=sN c:=by unfold sN;rw [h4,h2.f]
  obtain ⟨u,hu1,hu2,hu3⟩:=hv.2.2 (by rw [←h5 he];exact he);refine (zF (w:=r.2.2) h1 (v:=v.1) (by rcases hv.2.1 with h | h;exact .inl h;exact .inr ⟨h.1,by omega⟩)).bind fun k hk=>?_;rw [e2];simp only [mS,nW];refine .some ⟨h1,h2,hv.1.trans (h5.trans WK.nd),fun e=>?_⟩;have hr:=(fJ (k:=132) (by decide) e).2.1
  have hku:k=u.bX:=by
   have h0:=h.sc _ hu1
   rcases hk with ⟨hm,_⟩ | ⟨h0,u2,hk2,rfl⟩
   ·omega
   ·unfold bV at hu2;rw [if_pos h0,←hvs,hk2] at hu2;cases hu2;rfl
  rw [e1,hvs,h3];exact ⟨.calls hu1 hu2 hu3 e3 e4 (by rw [←hku];simpa using hr) .nil,by rw [yK,Dq x,hl,rK,gO];simp only [Am];simp only at e9;omega⟩
 ·refine (yD h hy hs hn).bind fun r hr=>(zF (w:=r.2) h hv.2.1).bind fun k hk=>Fl.bind fun b hb=>?_;rw [nW];refine .some ⟨h.more (Nat.le_succ B),.refl c,hv.1.trans (hr.wk.trans WK.nd),fun e=>?_⟩;obtain ⟨k1,k2,_⟩:=fJ (k:=132) (by decide) e;obtain ⟨u,hu1,hu2,hu3⟩:=hv.2.2 (by rw [←hr.wk k1];exact k1)
  have hku:k=u.bX:=by
   have h0:=h.sc _ hu1
   rcases hk with ⟨hm,_⟩ | ⟨h0,u2,hk2,rfl⟩
   ·omega
   ·unfold bV at hu2;rw [if_pos h0,hk2] at hu2;cases hu2;rfl
  exact ⟨.set hu1 hu2 hu3 (hr k1).2.1 (hku ▸ hb k2) .nil,by rw [yK,Dq x,hl,rK];simp only [Am,tY];have:=(hr k1).2.2;omega⟩
theorem MG (h:CI N B c) {x:Nd} (hx:WE x) (hs:sz x<=20000) (hn:3*sz x+301<=n) {v:Int} (hv:w.e_=0->0<=v/\v<(sN c).length):bE (nK n c w x v) fun r=>Qd c w x r/\(r.2.e_=0->r.1.cM=1/\∀u,bV (sN c) v=some u->r.1.kL=[110,117,109]->i64.wrap r.1.N_<u.jB):=by
 unfold nK;refine (sS h hx hs hn).bind fun r hr=>?_;obtain ⟨hr,hr1⟩:=hr;refine bE.bind' (bE.iteb (fun he=>.some ?_) (fun he=>.some (bE.iteb (fun h=>nomatch h) (fun _=>.some ⟨hr,fun e=>absurd e (by simpa using he)⟩))));refine bE.iteb (fun ho=>?_) (fun ho=>.some ⟨hr,fun e=>⟨hr1 e,fun u hu h=>absurd h (by simpa using ho)⟩⟩);have he:r.2.e_=0:=by simpa using he
 obtain ⟨v0,v1⟩:=hv (by rw [←(hr he).1];exact he);obtain ⟨f,_,hm,hvs,hfi⟩:=h.cur;rw [hfi];rw [hvs] at v1;obtain ⟨u,e,_,_⟩:=mZ v0 v1;simp only [mS,e,nW];refine .some ⟨fun e2=>?_,fun e2=>?_⟩
 ·obtain ⟨k1,_,k3⟩:=fJ (k:=137) (by decide) e2;exact ⟨k3.trans (hr k1).1,(hr k1).2⟩
 ·obtain ⟨k1,k2,_⟩:=fJ (k:=137) (by decide) e2;refine ⟨hr1 k1,fun u2 hu _=>?_⟩;rw [hvs,e] at hu;cases hu
  simpa using k2
theorem RK (h:CI N B c) {x i y:Nd} (hl:x.aM=[i,y]) (hi:WE i) (hy:WE y) (hs:sz i<=20000) (hs2:sz y<=20000) (hn:3*sz i+301<=n) (hn2:3*sz y+301<=n) {a:Int} {b:Bool}:bE (oY n c w x ⟨[],-1,0,[],[],[],a⟩) fun r=>WK w r.2/\St1 c c r.2 b r.1 x:=by
 have hp:=pU i;unfold oY;refine (BJ (w:=w) h (by omega)).bind fun v hv=>?_;refine (zF (w:=v.2) h hv.1).bind fun k hk=>?_;have hwv:WK w v.2:=fun e=>(hv.2.2 e).1;rw [nW,hl];refine bE.eqn (v:=Kf v.2 (k == 4) 132 x.fR) rfl (bE.eqn (v:=i) rfl ?_);refine (MG h hi hs hn (fun e=>?_)).bind fun r hr=>?_
 ·have:=(fJ (k:=132) (by decide) e).1;obtain ⟨_,u,h1,_⟩:=hv.2.2 this;exact h.sc _ h1
 refine bE.eqn (v:=y) rfl ?_;refine (yD h hy hs2 hn2).bind fun q hq=>Fl.bind fun b hb=>?_;rw [nW];refine .some ⟨hwv.trans ((WK.nd).trans (hr.1.wk.trans (hq.wk.trans WK.nd))),fun e=>?_⟩;obtain ⟨k1,k2,_⟩:=fJ (k:=132) (by decide) e;have er:r.2.e_=0:=by rw [←hq.wk k1];exact k1
 obtain ⟨j1,j2,_⟩:=fJ (k:=132) (by decide) (by rw [←hr.1.wk er];exact er);obtain ⟨_,u,i2,i3,i4,_⟩:=hv.2.2 j1;have hu:bV (sN c) v.1=some u:=by unfold bV;rw [if_pos i3];exact i4
 have hu4:u.bX=4:=by
  rcases hk with ⟨hm,_⟩ | ⟨_,u2,hk2,rfl⟩
  ·omega
  ·rw [i4] at hk2;cases hk2;simpa using j2
 exact ⟨.put i2 hu hu4 (hr.1 er).2.1 (hr.2 er).1 ((hr.2 er).2 u hu) (hq k1).2.1 (hb k2) .nil,by rw [yK,Dq x,hl,Gf];simp only [Am,tY];have:=(hr.1 er).2.2;have:=(hq k1).2.2;omega⟩
def MX (s:aH):Prop:=s.kL=[114,101,116,117,114,110] ∨ s.kL=[99,97,108,108]/\s.lO=-2
theorem Pu (h:CI N B c) (hB:B+1<=1073741824) {x y:Nd} (hl:x.aM=[y]) (hy:WE y) (hs:sz y<=20000) (hn:3*sz y+301<=n) (hn2:20000<n) {a:Int} {l:Bool} :
  bE (oK n c w x ⟨[],-1,0,[],[],[],a⟩ l) fun r=>CI N (B+1) r.2.1/\Kp c r.2.1/\WK w r.2.2/\St1 c r.2.1 r.2.2 l r.1 x/\(r.2.2.e_=0->MX r.1):=by
 unfold oK;obtain ⟨f,_,hm,hvs,hfi⟩:=h.cur;rw [hfi,hl];refine bE.bind (P:=fun w'=>WK w w'/\(w'.e_=0->l=true/\f.cR ≠ 0)) ?_ fun w1 hw1=>?_
 ·simp only [mS,nW];refine bE.iteb (fun hl=>.some ⟨WK.nd,fun e=>⟨hl,?_⟩⟩) (fun _=>.some ⟨WK.nd,fun e=>?_⟩)
  ·simpa using (fJ (k:=135) (by decide) e).2.1
  ·have:=(fJ (k:=135) (by decide) e).2.1;cases this
 refine bE.bind (P:=fun b=>b=true->y.bX=17) ?_ fun b hb=>bE.iteb (fun hbt=>?_) (fun _=>?_)
 ·refine bE.iteb (fun _=>?_) (fun _=>.some fun h=>nomatch h);exact bE.eqn (v:=y) rfl ((DQ (c:=c) (w:=w1) (by omega)).bind fun b hb=>.some hb)
 ·refine bE.eqn (v:=y) rfl ?_;obtain ⟨a,s,xs,rfl,hxs⟩:=hy.inv17 (hb hbt);rw [gO] at hs hn;refine (Eg h hB hxs (by simp only;omega) (by simp only;omega) hn2).bind fun r hr=>?_;obtain ⟨h1,h2,h3,h4,h5,h6⟩:=hr;refine bE.iteb (fun he=>?_) (fun he=>.some ⟨h1,h2,hw1.1.trans h5,fun e=>absurd e (by simpa using he),fun e=>absurd e (by simpa using he)⟩);simp only [beq_iff_eq] at he;obtain ⟨f0,f1,g,zs,e1,e2,e3,e4,e9⟩:=h6 he;obtain ⟨g2,_,_,_,e5⟩:=h1.cur;have hvs':sN r.2.1=sN c:=by unfold sN;rw [h4,h2.f]
  rw [e2,e5];simp only [mS,nW];refine .some ⟨h1,h2,hw1.1.trans (h5.trans WK.nd),fun e=>?_,fun e=>.inr ?_⟩
  ·obtain ⟨hl2,hne⟩:=hw1.2 (by rw [←h5 he];exact he);subst hl2;have hr:=(fJ (k:=132) (by decide) e).2.1
   have hg2:g2=f:=by
    rw [h2.f,h4,hfi] at e5;cases e5;rfl
   have hres:g.cR=Jo c:=by
    rw [h.res hfi,←hg2];simpa using hr
   rw [e1,hvs',h3];exact ⟨.retc (hres ▸ e3) (by rw [h.res hfi];exact hne) e4,by rw [yK,Dq x,hl,rK,gO];simp only [Am];simp only at e9;omega⟩
  ·rw [e1];exact ⟨rfl,rfl⟩
 ·refine bE.eqn (v:=y) rfl ?_;refine (yD h hy hs hn).bind fun r hr=>bE.eqn (v:=f) rfl (Fl.bind fun b hb=>?_);rw [nW];refine .some ⟨h.more (Nat.le_succ B),.refl c,hw1.1.trans (hr.wk.trans WK.nd),fun e=>?_,fun _=>.inl rfl⟩;obtain ⟨k1,k2,_⟩:=fJ (k:=132) (by decide) e;obtain ⟨hl2,hne⟩:=hw1.2 (by rw [←hr.wk k1];exact k1);subst hl2;exact ⟨.ret (hr k1).2.1 (by rw [h.res hfi];exact hne) (by rw [h.res hfi];exact hb k2),by rw [yK,Dq x,hl,rK];simp only [Am,tY];have:=(hr k1).2.2;omega⟩
end
section
variable {N B n:Nat} {c:aD} {w:aI}
theorem Gh {α:Type} {l l':List α} (h:l <+: l'):l'.take l.length=l:=by
 obtain ⟨r,rfl⟩:=h;rw [List.take_append_of_le_length (tJ _),xen]
theorem CI.scope {c':aD} (h:CI N B c') (h0:CI N B c) (k:Kp c c'):CI N B { c' with bJ:=c.bJ }/\Kp c { c' with bJ:=c.bJ }:=by
 refine ⟨⟨h.nf,h.nN,h.f0,h.f1,h.a0,h.a1,fun v hv=>?_,?_,h.vl,h.nc,h.cl,h.ki⟩,⟨k.f,k.a,PN _,k.v,k.o,k.g,k.k,k.l⟩⟩
 ·have h1:=h0.sc v hv;have h2:=k.v.length_le;have:sN { c' with bJ:=c.bJ }=sN c':=rfl;rw [this];omega
 ·have h1:=h0.sl;have h2:=k.v.length_le;have:sN { c' with bJ:=c.bJ }=sN c':=rfl;rw [this];show c.bJ.length<=_;omega
end
def Lv2 (N B:Nat) (k:Int) (c:aD) (w:aI) (c':aD) (w':aI):Prop:=(∃B':Nat,(B':Int)<=B+k/\CI N B' c')/\Kp c c'/\WK w w'
def StL (c c':aD) (b:Bool) (ss:List aH):Prop:=∃sc',TB (sgC c') (sN c') (Jo c) b (sN c).length c.bJ ss (sN c').length sc'
def RetL (l:List aB) (ss:List aH):Prop:=∀y,l.getLast? = some y->y.bX=13->∃s,ss.getLast? = some s/\MX s
def OkSm (N n:Nat) (f:aD->aI->aB->Bool->Option (aH × aD × aI)):Prop:=∀B c w x b,CI N B c->WS x->sz x<=20000->(B:Int)+sz x<=1073741824->3*sz x+20301<=n->bE (f c w x b) fun r=>Lv2 N B (sz x) c w r.2.1 r.2.2/\St1 c r.2.1 r.2.2 b r.1 x/\(r.2.2.e_=0->x.bX=13->MX r.1)
def OkBk (N n:Nat) (f:aD->aI->aB->Bool->Option ((List aH) × aD × aI)):Prop:=∀B c w x b,CI N B c->(∀y ∈ x.aM,WS y)->tZ x.aM<=20000->(B:Int)+tZ x.aM<=1073741824->3*tZ x.aM+20302<=n->bE (f c w x b) fun r=>(Lv2 N B (tZ x.aM) c w r.2.1 r.2.2/\r.2.1.bJ=c.bJ)/\(r.2.2.e_=0->StL c r.2.1 b r.1/\RetL x.aM r.1/\(Am r.1:Int)<=tZ x.aM)
section
variable {N B n:Nat} {c:aD} {w:aI}
theorem Ps {m:Nat} {x:Nd} {b:Bool} {fs:aD->aI->aB->Bool->Option (aH × aD × aI)} (hf:OkSm N m fs) (hs:tZ x.aM<=20000) (hm:3*tZ x.aM+20301<=m) :
  ∀(k v B:Nat) (ys:List aH) (c:aD) (w:aI),x.aM.length<v+k->v<=x.aM.length->ys.length=v->CI N B c->(∀y ∈ x.aM.drop v,WS y)->(B:Int)+tZ (x.aM.drop v)<=1073741824->bE (iW fs x b k ys (v:Int) c w) fun r=>Lv2 N B (tZ (x.aM.drop v)) c w r.2.1 r.2.2/\(r.2.2.e_=0->∃ss,r.1=ys++ss/\TB (sgC r.2.1) (sN r.2.1) (Jo c) b (sN c).length c.bJ ss (sN r.2.1).length r.2.1.bJ/\RetL (x.aM.drop v) ss/\(Am ss:Int)<=tZ (x.aM.drop v))/\(v=x.aM.length->r.1=ys/\r.2.1=c):=by
 intro k
 induction k with
 | zero=>intro v B ys c w h1 h2;omega
 | succ k ih=>
   intro v B ys c w h1 h2 h3 h hx hB;unfold iW;have hg:=oE x.aM;have hg0:=oE (x.aM.drop v)
   by_cases hv:v<x.aM.length
   ·rw [if_pos (DU (by omega))];have hd:x.aM.drop v=x.aM[v]::x.aM.drop (v+1):=NU hv;have e:bV x.aM (v:Int)=some x.aM[v]:=by unfold bV;rw [if_pos (by omega),yG,tA hv]
    have hsz:=GW (xdw hv);rw [hd,tM] at hB ⊢;have hg1:=oE (x.aM.drop (v+1));have hp:=pU x.aM[v];rw [e];simp only [mS];refine bE.iteb (fun he=>.some ⟨⟨⟨B,by omega,h⟩,.refl c,.refl w⟩,fun e=>absurd e (by simpa using he),fun _=>⟨rfl,rfl⟩⟩) (fun he=>?_);have hst:∀b2,bE (fs c w x.aM[v] b2) fun r=>Lv2 N B (sz x.aM[v]) c w r.2.1 r.2.2/\St1 c r.2.1 r.2.2 b2 r.1 x.aM[v]/\(r.2.2.e_=0->(x.aM[v]).bX=13->MX r.1):=fun b2=>hf B c w _ b2 h (hx _ (by rw [hd];exact xec)) (by omega) (by omega) (by omega);refine bE.bind (P:=fun r=>Lv2 N B (sz x.aM[v]) c w r.2.1 r.2.2/\∃s b2,r.1=ys++[s]/\St1 c r.2.1 r.2.2 b2 s x.aM[v]/\(b2=true->b=true/\v+1=x.aM.length)/\(r.2.2.e_=0->(x.aM[v]).bX=13->MX s)) ?_ fun r hr=>?_
    ·refine bE.iteb (fun hb=>?_) (fun _=>?_)
     ·exact (hst _).bind fun r hr=>bE.need (by simp only [uW];omega) (.some ⟨hr.1,r.1,_,rfl,hr.2.1,fun h2=>⟨hb,by
       rw [fG (by omega) (by omega),beq_iff_eq] at h2;omega⟩,hr.2.2⟩)
     ·exact (hst false).bind fun r hr=>bE.need (by simp only [uW];omega) (.some ⟨hr.1,r.1,false,rfl,hr.2.1,fun h2=>Bool.noConfusion h2,hr.2.2⟩)
    ·obtain ⟨⟨⟨B',hb',h'⟩,hk,hw⟩,s,b2,hr1,hs1,hb2,hrt⟩:=hr;rw [fG (by omega) (by omega),show ((v:Int)+1)=((v+1:Nat):Int) by omega];refine (ih (v+1) B' _ _ _ (by omega) (by omega) (by rw [hr1,nC,uW];omega) h' (fun y hy=>hx y (by rw [hd];exact Kc _ hy)) (by omega)).mono fun q hq=>?_;obtain ⟨⟨⟨B2,hbb,h2⟩,hk2,hw2⟩,hT,hend⟩:=hq;refine ⟨⟨⟨B2,by omega,h2⟩,hk.trans hk2,hw.trans hw2⟩,fun e=>?_,fun h=>by omega⟩;obtain ⟨ss,hq1,hT1,hR,hZ⟩:=hT e;have e2:r.2.2.e_=0:=by rw [←hw2 e];exact e
     refine ⟨s::ss,by rw [hq1,hr1,Nb];rfl,?_,?_,by rw [Am];have:=(hs1 e2).2;omega⟩
     ·have t1:=(hs1 e2).1.mono (fun k r ps h=>Kp.sg h' hk2 h) hk2.v;rw [hk.res h] at hT1;cases b2 with
      | false=>exact t1.app rfl hT1
      | true=>
        obtain ⟨rfl,hvl⟩:=hb2 rfl;obtain ⟨q1,q2⟩:=hend hvl
        have hss:ss=[]:=by
         rw [q1] at hq1;simpa using hq1
        subst hss;rw [q2];exact (hs1 e2).1
     ·intro y hy hk13;rw [List.getLast?_cons] at hy;cases hl:(x.aM.drop (v+1)).getLast? with
      | none=>
        rw [hl] at hy;have hnil:=List.getLast?_eq_none_iff.1 hl
        have hv1:v+1=x.aM.length:=by
         have:=List.drop_eq_nil_iff.1 hnil;omega
        obtain ⟨q1,q2⟩:=hend hv1
        have hss:ss=[]:=by
         rw [q1] at hq1;simpa using hq1
        subst hss;cases hy;exact ⟨s,rfl,hrt e2 hk13⟩
      | some y2=>
        rw [hl] at hy;cases hy;obtain ⟨s2,h5,h6⟩:=hR _ hl hk13;exact ⟨s2,by rw [List.getLast?_cons,h5];rfl,h6⟩
   ·rw [if_neg (by simp;omega)];have hnil:x.aM.drop v=[]:=List.drop_eq_nil_of_le (by omega);rw [hnil];exact .some ⟨⟨⟨B,by rw [mU];omega,h⟩,.refl c,.refl w⟩,fun e=>⟨[],(Et _).symm,.nil,(fun y hy=>nomatch hy),by rw [Am,mU];decide⟩,fun _=>⟨rfl,rfl⟩⟩
theorem RS {fs:aD->aI->aB->Bool->Option (aH × aD × aI)} (hf:OkSm N n fs):OkBk N (n+1) (lJ fs n):=by
 intro B c w x b h hx hs hB hn;unfold lJ;have hg:=oE x.aM;refine (Ps hf hs (by omega) n 0 B [] c w (by omega) (by omega) rfl h (by rw [qU];exact hx) (by rw [qU];exact hB)).bind fun r hr=>?_;rw [qU] at hr;obtain ⟨⟨⟨B',hb',h'⟩,hk,hw⟩,hT,_⟩:=hr;have hle:=hk.s.length_le;refine bE.need (by omega) (.some ?_);rw [Gh hk.s];have hB':=(h.more (B':=max B B') (by omega));obtain ⟨k1,k2⟩:=(h'.more (B':=max B B') (by omega)).scope hB' hk;refine ⟨⟨⟨⟨max B B',by omega,k1⟩,k2,hw⟩,rfl⟩,fun e=>?_⟩;obtain ⟨ss,e1,e2,e3,e4⟩:=hT e;rw [uG] at e1;rw [e1];exact ⟨⟨_,e2⟩,e3,e4⟩
def OkLp (N n:Nat) (f:aD->aI->aB->aH->Option (aH × aD × aI)):Prop:=∀B c w x st,CI N B c->WS x->x.bX=12->sz x<=20000->(B:Int)+sz x<=1073741824->3*sz x+20300<=n->(∃a,st=⟨[],-1,0,[],[],[],a⟩)->∀b,bE (f c w x st) fun r=>Lv2 N B (sz x) c w r.2.1 r.2.2/\St1 c r.2.1 r.2.2 b r.1 x
theorem WS.inv12 {x:Nd} (h:WS x) (k:x.bX=12):∃a s y z b ys,x=⟨12,a,s,0,[y,z,⟨4,b,[],0,ys⟩]⟩/\WE y/\WE z/\∀u ∈ ys,WS u:=by
 cases h with
 | loop h1 h2 h3=>exact ⟨_,_,_,_,_,_,rfl,h1,h2,h3⟩
 | bind hk _=>rcases hk with rfl | rfl <;> simp at k
 | _=>simp at k
theorem cloop_b {fb:aD->aI->aB->Bool->Option ((List aH) × aD × aI)} (hf:OkBk N n fb):OkLp N (n+1) (mE fb n):=by
 rintro B c w x st h hx hk hs hB hn ⟨sa,rfl⟩ bl;obtain ⟨a,s,y,z,b,ys,rfl,hy,hz,hys⟩:=hx.inv12 hk;rw [gO,Ir,gO] at hs hB hn ⊢;have h1:=pU y;have h2:=pU z;have h3:=oE ys;unfold mE;refine bE.eqn (v:=y) rfl ((sS (w:=w) h hy (by omega) (by omega)).bind fun r1 hr1=>?_);refine bE.eqn (v:=z) rfl ((sS (w:=r1.2) h hz (by omega) (by omega)).bind fun r2 hr2=>?_);refine (sR (w:=r2.2) h (by omega) fun _=>Qr).bind fun d hd=>?_;obtain ⟨d1,d2,d3,d4,d5,d6⟩:=hd;refine bE.eqn (v:=⟨4,b,[],0,ys⟩) rfl ((hf B _ _ _ false d1 hys (by simp only;omega) (by simp only;omega) (by simp only;omega)).bind fun q hq=>?_);obtain ⟨⟨⟨⟨B',hb',h'⟩,hk',hw'⟩,hsc⟩,hT⟩:=hq;have hkk:=d2.trans hk';have hle:=hkk.s.length_le;refine bE.need (by omega) (.some ?_);have hmin:(min (c.bJ.length:Int) (q.2.1.bJ.length:Int)).toNat=c.bJ.length:=by omega
 rw [hmin,Gh hkk.s];simp only at hb';obtain ⟨k1,k2⟩:=(h'.more (B':=max B B') (by omega)).scope (h.more (B':=max B B') (by omega)) hkk;refine ⟨⟨⟨max B B',by omega,k1⟩,k2,hr1.1.wk.trans (hr2.1.wk.trans (WK.trans (fun e=>(d5 e).1) hw'))⟩,fun e=>?_⟩;have ed:d.2.2.e_=0:=by rw [←hw' e];exact e
 obtain ⟨g1,g2,g3,g4⟩:=d5 ed;have e2:r2.2.e_=0:=by rw [←g1];exact ed
 have e1:r1.2.e_=0:=by rw [←hr2.1.wk e2];exact e2
 obtain ⟨⟨sc',hT1⟩,_,hZ⟩:=hT e;rw [d2.res h,g3,g4,nC,uW] at hT1;have hv:sN c <+: sN q.2.1:=hkk.v;have hu:(sN q.2.1)[(sN c).length]? = some ⟨s,1,0⟩:=Ed hk'.v (by rw [g3];exact DK);simp only;rw [g2];refine ⟨.for_ ((hr1.1 e1).2.1.mono hv fun _ h=>h) (hr1.2 e1) ((hr2.1 e2).2.1.mono hv fun _ h=>h) (hr2.2 e2) hu rfl hT1 .nil,?_⟩;rw [yK,gO,Ir,gO];simp only [tY,Am];simp only at hZ;have:=(hr1.1 e1).2.2;have:=(hr2.1 e2).2.2;omega
end
section
variable {N B n:Nat} {c:aD} {w:aI}
theorem Lv2.one {k:Int} {c':aD} {w':aI} (hk:1<=k) (h:CI N (B+1) c'/\Kp c c'/\WK w w'):Lv2 N B k c w c' w':=⟨⟨B+1,by omega,h.1⟩,h.2⟩
theorem Lv2.zero {k:Int} {c':aD} {w':aI} (hk:0<=k) (h:CI N B c') (h2:Kp c c') (h3:WK w w'):Lv2 N B k c w c' w':=⟨⟨B,by omega,h⟩,h2,h3⟩
theorem Re {a:Int} (h:wM (i64.wrap (min a 1025))):wM (i64.wrap a):=by
 by_cases h1:a<=1025
 ·rwa [show min a 1025=a by omega] at h
 ·rw [show min a 1025=1025 by omega,show i64.wrap 1025=1025 by decide] at h;exact absurd h (by unfold wM;omega)
theorem cstmt_b {fb:aD->aI->aB->Bool->Option ((List aH) × aD × aI)} {fl:aD->aI->aB->aH->Option (aH × aD × aI)} (hf:OkBk N n fb) (hl:OkLp N n fl):OkSm N (n+1) (jA fb fl n):=by
 intro B c w x b h hx hs hB hn;have hp:=pU x;unfold jA;cases hx with
 | bind hk hy=>
   rw [gO,rK] at hs hB hn hp ⊢
   rcases hk with rfl | rfl
   ·simp only [Int.reduceBEq,yI,if_false,if_true];refine bE.eqn rfl ((sS (w:=w) h hy (by omega) (by omega)).bind fun r hr=>?_);refine (sR (w:=r.2) h (by omega) fun _=>Qr).bind fun d hd=>.some ⟨.zero (by omega) hd.1 hd.2.1 (hr.1.wk.trans fun e=>(hd.2.2.2.2.1 e).1),fun e=>?_,fun _ h=>absurd h (by decide)⟩;obtain ⟨d1,d2,d3,d4⟩:=hd.2.2.2.2.1 e;have er:r.2.e_=0:=by rw [←d1];exact e
    simp only;rw [d2,d3,d4,nC,uW];exact ⟨.let_ ((hr.1 er).2.1.mono (xej _ _) fun _ h=>h) (hr.2 er) DK rfl .nil,by rw [yK,gO,rK];simp only [Am,tY];have:=(hr.1 er).2.2;omega⟩
   ·simp only [Int.reduceBEq,yI,if_false,if_true];exact (MJ h (by omega) rfl hy (by omega) (by omega) (by omega)).bind fun r hr=>.some ⟨.one (by omega) ⟨hr.1,hr.2.1,hr.2.2.1⟩,hr.2.2.2,fun _ h=>absurd h (by decide)⟩
 | arr=>
   rw [gO,mU] at hs hB hn hp ⊢;simp only [Int.reduceBEq,yI,if_false,if_true];refine Iv.bind fun k hk=>?_;rw [nW];refine (sR (w:=Kf w k 136 _) h (by omega) fun e=>Qq ?_).bind fun d hd=>.some ⟨.zero (by omega) hd.1 hd.2.1 ((WK.nd).trans fun e=>(hd.2.2.2.2.1 e).1),fun e=>?_,fun _ h=>absurd h (by decide)⟩
   ·exact Re (hk (fJ (k:=136) (by decide) e).2.1)
   ·obtain ⟨d1,d2,d3,d4⟩:=hd.2.2.2.2.1 e;simp only;rw [d2,d3,d4,nC,uW];exact ⟨.arr DK rfl .nil,by rw [yK,gO,mU];simp only [Am,tY];omega⟩
 | ret hy=>
   rw [gO,rK] at hs hB hn hp ⊢;simp only [Int.reduceBEq,yI,if_false,if_true];exact (Pu h (by omega) rfl hy (by omega) (by omega) (by omega)).bind fun r hr=>.some ⟨.one (by omega) ⟨hr.1,hr.2.1,hr.2.2.1⟩,hr.2.2.2.1,fun e _=>hr.2.2.2.2 e⟩
 | loop h1 h2 h3=>
   simp only [Int.reduceBEq,yI,if_false,if_true];exact (hl B c w _ _ h (.loop h1 h2 h3) rfl hs hB (by omega) ⟨_,rfl⟩ b).bind fun r hr=>.some ⟨hr.1,hr.2,fun _ h=>absurd h (by decide)⟩
 | set hy=>
   rw [gO,rK] at hs hB hn hp ⊢;simp only [Int.reduceBEq,yI,if_false,if_true];exact (RJ h (by omega) rfl hy (by omega) (by omega) (by omega)).bind fun r hr=>.some ⟨.one (by omega) ⟨hr.1,hr.2.1,hr.2.2.1⟩,hr.2.2.2,fun _ h=>absurd h (by decide)⟩
 | put hi hy=>
   rw [gO,Gf] at hs hB hn hp ⊢;rename_i i0 y0;have p1:=pU i0;have p2:=pU y0;simp only [Int.reduceBEq,yI,if_false,if_true];exact (RK h rfl hi hy (by omega) (by omega) (by omega) (by omega)).bind fun r hr=>.some ⟨.zero (by omega) h (.refl c) hr.1,hr.2,fun _ h=>absurd h (by decide)⟩
 | call hy=>
   rw [gO] at hs hB hn hp ⊢;simp only [Int.reduceBEq,yI,if_false,if_true];refine (Eg h (by omega) hy (by simp only;omega) (by simp only;omega) (by omega)).bind fun r hr=>.some ⟨.one (by omega) ⟨hr.1,hr.2.1,hr.2.2.2.2.1⟩,fun e=>?_,fun _ h=>absurd h (by decide)⟩;obtain ⟨h1,h2,h3,h4,h5,h6⟩:=hr;obtain ⟨f0,f1,f,zs,e1,e2,e3,e4,e9⟩:=h6 e;have hvs:sN r.2.1=sN c:=by unfold sN;rw [h4,h2.f]
   simp only;rw [e1,hvs,h3];exact ⟨.do_ e3 e4 .nil,by rw [yK,gO];simp only [Am];simp only at e9;omega⟩
 | choice h1 h2=>
   rw [gO,Gf,gO] at hs hB hn hp ⊢;rename_i c0 b0 ys;have p1:=pU c0;have p2:=oE ys;simp only [Int.reduceBEq,yI,if_false,if_true];refine bE.eqn (v:=c0) rfl ((sS (w:=w) h h1 (by omega) (by omega)).bind fun r hr=>?_);refine bE.eqn (v:=⟨4,b0,[],0,ys⟩) rfl ((hf B c _ _ false h h2 (by simp only;omega) (by simp only;omega) (by simp only;omega)).bind fun q hq=>?_);obtain ⟨⟨⟨⟨B',hb',h'⟩,hk',hw'⟩,hsc⟩,hT⟩:=hq;simp only at hb';refine bE.need (by simp) ?_;obtain ⟨m,rfl⟩:∃m,n=m+1:=⟨n - 1,by omega⟩;unfold fW;refine .some ⟨⟨⟨B',by omega,h'⟩,hk',hr.1.wk.trans hw'⟩,fun e=>?_,fun _ h=>absurd h (by decide)⟩;have er:r.2.e_=0:=by rw [←hw' e];exact e
   obtain ⟨⟨sc',hT1⟩,_,hZ⟩:=hT e;simp only;rw [hsc];refine ⟨.if_ ((hr.1 er).2.1.mono hk'.v fun _ h=>h) (hr.2 er) hT1 .nil .nil,?_⟩;rw [yK,gO,Gf,gO];simp only [tY,Am];simp only at hZ;have:=(hr.1 er).2.2;omega
 | choice2 h1 h2 h4=>
   rw [gO,Ir,gO,gO] at hs hB hn hp ⊢;rename_i c0 b0 ys b1 zs;have p1:=pU c0;have p2:=oE ys;have p3:=oE zs;simp only [Int.reduceBEq,yI,if_false,if_true];refine bE.eqn (v:=c0) rfl ((sS (w:=w) h h1 (by omega) (by omega)).bind fun r hr=>?_);refine bE.eqn (v:=⟨4,b0,[],0,ys⟩) rfl ((hf B c _ _ false h h2 (by simp only;omega) (by simp only;omega) (by simp only;omega)).bind fun q hq=>?_);obtain ⟨⟨⟨⟨B',hb',h'⟩,hk',hw'⟩,hsc⟩,hT⟩:=hq;simp only at hb';refine bE.need (by simp) ?_;obtain ⟨m,rfl⟩:∃m,n=m+1+1:=⟨n - 2,by omega⟩;unfold fW;refine bE.bind' ?_;refine bE.iteb (fun _=>?_) (fun hc=>by simp at hc);refine bE.eqn (v:=⟨4,b1,[],0,zs⟩) rfl ((hf B' q.2.1 _ _ false h' h4 (by simp only;omega) (by simp only;omega) (by simp only;omega)).bind fun q2 hq2=>?_);obtain ⟨⟨⟨⟨B2,hb2,h5⟩,hk2,hw2⟩,hsc2⟩,hT2⟩:=hq2;simp only at hb2;unfold fW;refine .some (.some ⟨⟨⟨B2,by omega,h5⟩,hk'.trans hk2,hr.1.wk.trans (hw'.trans hw2)⟩,fun e=>?_,fun _ h=>absurd h (by decide)⟩);have eq:q.2.2.e_=0:=by rw [←hw2 e];exact e
   have er:r.2.e_=0:=by rw [←hw' eq];exact eq
   obtain ⟨⟨sc1,hT1⟩,_,hZ⟩:=hT eq;obtain ⟨⟨sc2,hT3⟩,_,hZ2⟩:=hT2 e;rw [hk'.res h,hsc] at hT3;simp only;rw [hsc2,hsc];refine ⟨.if_ ((hr.1 er).2.1.mono (hk'.trans hk2).v fun _ h=>h) (hr.2 er) (hT1.mono (fun _ _ _ h=>Kp.sg h' hk2 h) hk2.v) hT3 .nil,?_⟩;rw [yK,gO,Ir,gO,gO];simp only [tY,Am];simp only at hZ hZ2;have:=(hr.1 er).2.2;omega
theorem Ly:∀n:Nat,OkBk N n (eF n).1/\OkSm N n (eF n).2.1/\OkLp N n (eF n).2.2
 | 0=>⟨fun B c w x b _ _ _ _ h=>by have:=oE x.aM;omega,fun B c w x b _ _ _ _ h=>by have:=pU x;omega,fun B c w x st _ _ _ _ _ h _ _=>by have:=pU x;omega⟩
 | n+1=>by
   obtain ⟨g1,g2,g3⟩:=Ly n;exact ⟨RS g2,cstmt_b g1 g3,cloop_b g1⟩
end
structure CO (N B:Nat) (c:aD):Prop where
 nf:c.p_.bD.length=N
 nN:N<=16384
 vl:∀f ∈ c.p_.bD,f.aV.length<=250/\0<=f.aW/\f.aW<=f.aV.length
 nc:c.cK.length=N
 cl:∀l ∈ c.cK,l.length<=B/\∀k ∈ l,0<=k/\k<N
 ki:∀f ∈ c.p_.bD,(∀v ∈ f.aV,CS v)/\(f.cR=0 ∨ f.cR=2 ∨ f.cR=3)
def yO (k:Nat):List Int:=(List.range k).map Int.ofNat
theorem KM (k:Nat):yO (k+1)=yO k++[(k:Int)]:=by
 unfold yO;rw [List.range_succ,HS];rfl
theorem Hf (k:Nat):(yO k).length=k:=by unfold yO;simp
theorem Mj {k:Nat} {v:Int} (h:v ∈ yO k):0<=v/\v<k:=by
 unfold yO at h;obtain ⟨i,h1,rfl⟩:=ER.1 h;have:=Kk.1 h1;have h2:Int.ofNat i=(i:Int):=rfl;omega
def Au:List bB->Int->Int
 | [],n=>n
 | v::l,n=>Au l (if v.bX=3 then n+(n % 2+1)+1 else n+1)
theorem Qm {f:aR} (hl:(f.aV.take f.aW.toNat).length<=250):∀(k v:Nat) (a:Int),(f.aV.take f.aW.toNat).length<v+k->v<=(f.aV.take f.aW.toNat).length->0<=a->a<=4*(v:Int)->mQ f k a (v:Int)=some (Au ((f.aV.take f.aW.toNat).drop v) a):=by
 intro k
 induction k with
 | zero=>intro v a h1 h2;omega
 | succ k ih=>
   intro v a h1 h2 h3 h4;unfold mQ
   by_cases hv:v<(f.aV.take f.aW.toNat).length
   ·rw [if_pos (DU (by omega))];have hd:(f.aV.take f.aW.toNat).drop v=(f.aV.take f.aW.toNat)[v]::(f.aV.take f.aW.toNat).drop (v+1):=NU hv;have e:bV (f.aV.take f.aW.toNat) (v:Int)=some (f.aV.take f.aW.toNat)[v]:=by unfold bV;rw [if_pos (by omega),yG,tA hv]
    rw [hd,e];simp only [mS,Au,beq_iff_eq];have h5:=Int.emod_nonneg a (show (2:Int) ≠ 0 by decide);have h6:=Int.emod_lt_of_pos a (show (0:Int)<2 by decide);rw [fG (n:=(v:Int)+1) (by omega) (by omega),show ((v:Int)+1)=((v+1:Nat):Int) by omega]
    split
    ·rw [Int.tmod_eq_emod_of_nonneg h3,fG (n:=a % 2+1) (by omega) (by omega),fG (n:=a+(a % 2+1)) (by omega) (by omega),fG (by omega) (by omega)];exact ih (v+1) _ (by omega) (by omega) (by omega) (by omega)
    ·rw [fG (by omega) (by omega)];exact ih (v+1) _ (by omega) (by omega) (by omega) (by omega)
   ·rw [if_neg (by rw [Fv];omega),List.drop_eq_nil_of_le (by omega)];rfl
theorem Qn {f:aR} {n:Nat} (h1:f.aV.length<=250) (h2:0<=f.aW) (h3:f.aW<=f.aV.length) (hn:300<n):rH n f=some (Au (f.aV.take f.aW.toNat) 0):=by
 have hl:(f.aV.take f.aW.toNat).length<=250:=by rw [Ei];omega
 unfold rH;rw [Fe ⟨h2,h3⟩];have:=Qm hl n 0 0 (by omega) (by omega) (by omega) (by omega);rw [show ((0:Nat):Int)=0 from rfl,qU] at this;rw [this];rfl
section
variable {N B n:Nat} {c:aD} {w:aI}
theorem CO.ci (h:CO N B c) {i:Int} (h0:0<=i) (h1:i<N) {f:aR} (hf:c.p_.bD[i.toNat]? = some f) {s:List Int} (hs:∀v ∈ s,0<=v/\v<f.aV.length) (hl:s.length<=f.aV.length):CI N B { c with f_:=i,bJ:=s,gB:=i }:=by
 have hv:sN { c with f_:=i,bJ:=s,gB:=i }=f.aV:=by unfold sN;simp only [hf];rfl
 exact ⟨h.nf,h.nN,h0,h1,h0,h1,by rw [hv];exact hs,by rw [hv];exact hl,h.vl,h.nc,h.cl,h.ki⟩
theorem RF (h:CO N B c) {i:Int} (h0:0<=i) (h1:i<N) {f:aR} (hf:c.p_.bD[i.toNat]? = some f) (hm:f ∈ c.p_.bD):∀(k v:Nat),f.aW<v+k->(v:Int)<=f.aW->bE (gY f k (v:Int) { c with f_:=i,bJ:=yO v,gB:=i }) fun r=>CI N B r/\r={ c with f_:=i,bJ:=yO f.aW.toNat,gB:=i }:=by
 have hp:=h.vl f hm;intro k
 induction k with
 | zero=>intro v h2 h3;omega
 | succ k ih=>
   intro v h2 h3;unfold gY
   by_cases hv:(v:Int)<f.aW
   ·rw [if_pos (DU hv)];refine bE.need (by simp only [Hf];omega) ?_;rw [fG (by omega) (by omega),show ((v:Int)+1)=((v+1:Nat):Int) by omega];have:=ih (v+1) (by omega) (by omega);rw [KM] at this;exact this
   ·rw [if_neg (by simpa using hv)];have hv2:v=f.aW.toNat:=by omega
    subst hv2;refine .some ⟨h.ci h0 h1 hf (fun u hu=>?_) (by rw [Hf];omega),rfl⟩;have:=Mj hu;omega
theorem IM (h:CO N B c) {i:Int} (h0:0<=i) (h1:i<N) (hn:300<n) {f:aR} (hf:bV c.p_.bD i=some f):bE (kP n c w i) fun r=>CI N B r.1/\r.2=w/\r.1={ c with f_:=i,bJ:=yO f.aW.toNat,gB:=i }:=by
 unfold kP;obtain ⟨f',e,e2,hm⟩:=mZ (l:=c.p_.bD) h0 (by rw [h.nf];exact h1);rw [hf] at e;cases e
 rw [hf];simp only [mS];have hp:=h.vl f hm;have e3:=RF h h0 h1 e2 hm n 0 (by omega) (by omega);change bE (gY f n 0 { c with f_:=i,bJ:=[],gB:=i }) _ at e3;exact e3.bind fun r hr=>.some ⟨hr.1,rfl,hr.2⟩
theorem ME {xs:List Nd} (hx:∀x ∈ xs,WP x) (hs:xs.length<=20000) (hn:300<n):∀(k v:Nat) (c:aD) (w:aI),xs.length<v+k->v<=xs.length->CI N B c->bE (iL n xs k (v:Int) c w) fun r=>CI N B r.1/\Kp c r.1/\WK w r.2/\r.1.cK=c.cK:=by
 intro k
 induction k with
 | zero=>intro v c w h1 h2;omega
 | succ k ih=>
   intro v c w h1 h2 h;unfold iL
   by_cases hv:v<xs.length
   ·rw [if_pos (DU (by omega))];refine bE.bind (P:=fun r=>CI N B r.1/\Kp c r.1/\WK w r.2/\r.1.cK=c.cK) ?_ fun r hr=>?_
    ·obtain ⟨x,e,_,hxm⟩:=mZ (l:=xs) (i:=(v:Int)) (by omega) (by omega);rw [e];simp only [mS];cases hx x hxm with
     | @word a s k hk=>
       have hk3:i64.wrap k=k/\1<=k/\k<=3:=by rcases hk with rfl | rfl | rfl <;> decide
       refine bE.bind (P:=fun b=>b=false) (bE.iteb (fun _=>.some rfl) (fun _=>.some rfl)) fun b hb=>?_;subst hb;refine bE.iteb (fun h=>nomatch h) fun _=>(sR (w:=w) h hn fun _=>?_).bind fun d hd=>.some ⟨hd.1,hd.2.1,fun e=>(hd.2.2.2.2.1 e).1,hd.2.2.1⟩;simp only [hk3.1];exact varOkW hk3.2.1 hk3.2.2
     | @arr a s b n1=>
       have w4:i64.wrap 4=4:=by decide
       simp only [w4,Int.reduceBEq,if_true,uW,Int.natCast_one,Int.reduceLT,decide_true,mS];refine bE.eqn (v:=⟨14,b,[],n1,[]⟩) rfl (Iv.bind fun b2 hb2=>?_);rw [nW];exact (sR (w:=Kf w b2 136 _) h hn fun e=>Qq (hb2 (fJ (k:=136) (by decide) e).2.1)).bind fun d hd=>.some ⟨hd.1,hd.2.1,WK.trans WK.nd fun e=>(hd.2.2.2.2.1 e).1,hd.2.2.1⟩
    ·rw [fG (by omega) (by omega),show ((v:Int)+1)=((v+1:Nat):Int) by omega];exact (ih (v+1) _ _ (by omega) (by omega) hr.1).mono fun q hq=>⟨hq.1,hr.2.1.trans hq.2.1,hr.2.2.1.trans hq.2.2.1,hq.2.2.2.trans hr.2.2.2⟩
   ·rw [if_neg (by simp;omega)];exact .some ⟨h,.refl c,.refl w,rfl⟩
structure Hd (f f':aR):Prop where
 n:f'.jX=f.jX
 x:f'.iG=f.iG
 r:f'.cR=f.cR
 b:f'.eK=f.eK
 p:f'.aW=f'.aV.length
theorem Qo {x:Nd} (h:WF x):∃ps b,x.aM=ps++[b]/\(∀p ∈ ps,WP p)/\(∀y ∈ b.aM,WS y)/\b=⟨4,b.fR,[],0,b.aM⟩:=by
 cases h with
 | fn h1 h2=>exact ⟨_,_,rfl,h1,h2,rfl⟩
theorem Ns {α:Type} {ps:List α} {b:α} (h:(ps++[b]).length<=20000):(max (i64.wrap (((ps++[b]).length:Int) - 1)) 0)=(ps.length:Int):=by
 simp only [nC,uW] at *;rw [fG (by omega) (by omega)];omega
theorem Kp.body {c':aD} (h:CI N B c) (k:Kp c c') {f:aR} (e:bV c.p_.bD c.f_=some f) {f':aR} (e':bV c'.p_.bD c'.f_=some f'):f'.jX=f.jX/\f'.iG=f.iG/\f'.cR=f.cR/\f'.aW=f.aW/\f.aV <+: f'.aV:=by
 obtain ⟨f2,e2,g1,g2,g3,g4,g5,_⟩:=k.fn h e;rw [k.f] at e';rw [e'] at e2;cases e2
 exact ⟨g1,g2,g3,g4,g5⟩
theorem Pq (h:CO N B c) {i:Int} (h0:0<=i) (h1:i<N) (hn:20300<n) {f:aR} (hf:bV c.p_.bD i=some f) (hb:f.eK=[]) {x:Nd} (hx:WF x) (hs:x.aM.length<=20000):bE (jV n c w i x) fun r=>CO N B r.1/\WK w r.2/\r.1.cK=c.cK/\(∀j:Nat,j ≠ i.toNat->r.1.p_.bD[j]? = c.p_.bD[j]?)/\∃f',bV r.1.p_.bD i=some f'/\f'.jX=f.jX/\f'.iG=f.iG/\f'.cR=f.cR/\f'.aW=f'.aV.length/\(r.2.e_=0->f'.iG=true->Au f'.aV 0<=4):=by
 obtain ⟨ps,b,hl,hps,_,_⟩:=Qo hx;have hla:=Ns (ps:=ps) (b:=b) (by rw [←hl];exact hs);rw [←hl] at hla;unfold jV;refine (IM (w:=w) h h0 h1 (by omega) hf).bind fun r hr=>?_;obtain ⟨g1,g2,g3⟩:=hr;rw [hla];have hll:x.aM.length=ps.length+1:=by rw [hl];simp
 refine bE.need ⟨by omega,by omega⟩ ?_;rw [yG,show x.aM.take ps.length=ps by rw [hl];simp];unfold pE;refine bE.bind (P:=fun q=>CO N B q.1/\WK w q.2/\q.1.f_=i/\q.1.cK=c.cK/\(∀j:Nat,j ≠ i.toNat->q.1.p_.bD[j]? = c.p_.bD[j]?)/\∃f',bV q.1.p_.bD i=some f'/\f'.jX=f.jX/\f'.iG=f.iG/\f'.cR=f.cR/\f'.aW=f'.aV.length) ?_ fun q hq=>?_
 ·refine (ME hps (by omega) (by omega) n 0 r.1 r.2 (by omega) (by omega) g1).bind fun q hq=>?_;obtain ⟨k1,k2,k3,k4⟩:=hq;obtain ⟨f2,ef2,hm2,hv2,e2⟩:=k1.cur;rw [e2];simp only [mS];have hqf:q.1.f_=i:=by rw [k2.f,g3]
  have hrf:bV r.1.p_.bD r.1.f_=some f:=by rw [g3];exact hf
  obtain ⟨b1,b2,b3,b4,b5⟩:=k2.body g1 hrf e2;have hlt:q.1.f_.toNat<q.1.p_.bD.length:=(qJ.1 ef2).1;refine .some ⟨⟨by simp only [GI];exact k1.nf,k1.nN,fun g hg=>?_,k1.nc,k1.cl,fun g hg=>?_⟩,by rw [←g2];exact k3,hqf,by rw [k4,g3],fun j hj=>?_,{ f2 with aW:=(f2.aV.length:Int) },?_,b1,b2,b3,rfl⟩
  ·rcases HW hg with hg | rfl
   ·exact k1.vl g hg
   ·have:=k1.vl f2 hm2;simp only;omega
  ·rcases HW hg with hg | rfl
   ·exact k1.ki g hg
   ·exact k1.ki f2 hm2
  ·simp only;rw [Ja (by rw [hqf];omega),k2.o j (by rw [g3];exact hj),g3]
  ·unfold bV;rw [if_pos h0];simp only
   rw [←hqf,Io hlt]
 ·obtain ⟨k1,k2,k3,k4,k5,f',k6,k7,k8,k9,k10⟩:=hq;refine bE.iteb (fun he=>?_) (fun he=>.some ⟨k1,k2,k4,k5,f',k6,k7,k8,k9,k10,fun e=>absurd e (by simpa using he)⟩);rw [k3,k6];simp only [mS,nW];refine bE.bind' (bE.iteb (fun hx=>.some (.some ⟨k1,k2.trans WK.nd,k4,k5,f',k6,k7,k8,k9,k10,fun _ hx2=>?_⟩)) (fun hx=>?_))
  ·rw [hx2] at hx;cases hx
  ·have hm:f' ∈ q.1.p_.bD:=by
    unfold bV at k6;rw [if_pos h0] at k6;exact Al k6
   have hv:=k1.vl f' hm;rw [Qn hv.1 hv.2.1 hv.2.2 (by omega)];refine .some (.some ⟨k1,k2.trans WK.nd,k4,k5,f',k6,k7,k8,k9,k10,fun e _=>?_⟩);have:=(fJ (k:=136) (by decide) e).2.1;rw [k10,yG,xen] at this;exact Dk this
def KD (c:aD) (i:Nat):MU:=fun k r ps=>(∃l,c.cK[i]? = some l/\k ∈ l)/\∃f,bV c.p_.bD k=some f/\r=f.cR/\ps=f.aV.take f.aW.toNat
structure TF (sg:MU) (f:aR):Prop where
 body:∃sc',TB sg f.aV f.cR true f.aW.toNat (yO f.aW.toNat) f.eK f.aV.length sc'
 ret:f.cR ≠ 0->∃s,f.eK.getLast? = some s/\MX s
theorem KL {b:Nd} (hl:b.aM.length<=20000):bE (tW b) fun r=>r=true->∃y,b.aM.getLast? = some y/\y.bX=13:=by
 unfold tW;refine bE.bind (P:=fun r=>r=true->∃y,b.aM.getLast? = some y/\y.bX=13) (bE.iteb (fun h=>?_) (fun _=>.some fun h=>Bool.noConfusion h)) fun r hr=>.some hr;have h0:0<b.aM.length:=by have:=Dk h;omega
 rw [fG (by omega) (by omega)];obtain ⟨y,e,e2,_⟩:=mZ (l:=b.aM) (i:=(b.aM.length:Int) - 1) (by omega) (by omega);rw [e];refine .some fun h=>⟨y,?_,by simpa using h⟩;rw [List.getLast?_eq_getElem?,←e2]
 congr 1
 omega
theorem Pr (h:CO N B c) {i:Int} (h0:0<=i) (h1:i<N) {f:aR} (hf:bV c.p_.bD i=some f) (hp:f.aW=f.aV.length) {x:Nd} (hx:WF x) (hs:sz x<=20000) (hB:(B:Int)+sz x<=1073741824) (hn:90000<=n):bE (jW n c w i x) fun r=>(∃B':Nat,(B':Int)<=B+sz x/\CO N B' r.1)/\WK w r.2/\(∀j:Nat,j ≠ i.toNat->r.1.p_.bD[j]? = c.p_.bD[j]? /\ r.1.cK[j]? = c.cK[j]?)/\∃f',bV r.1.p_.bD i=some f'/\f'.jX=f.jX/\f'.iG=f.iG/\f'.cR=f.cR/\f'.aW=f.aW/\f.aV <+: f'.aV/\(r.2.e_=0->TF (KD r.1 i.toNat) f'/\(Am f'.eK:Int)<=sz x):=by
 obtain ⟨ps,b,hl,_,hbs,hbe⟩:=Qo hx;have hz:=Dq x;have hlen:=oE x.aM;have hla:=Ns (ps:=ps) (b:=b) (by rw [←hl];omega);rw [←hl] at hla;have hbz:=GW (l:=x.aM) (k:=b) (by rw [hl];simp);have hbq:=Dq b;have hbg:=oE b.aM;unfold jW;refine (IM (w:=w) h h0 h1 (by omega) hf).bind fun r hr=>?_;obtain ⟨g1,g2,g3⟩:=hr;have hll:x.aM.length=ps.length+1:=by rw [hl];simp
 rw [hla];refine bE.need ⟨by omega,by omega⟩ ?_;obtain ⟨m,rfl⟩:∃m,n=m+1+1:=⟨n - 2,by omega⟩;unfold iD;rw [hla,yG,show x.aM.drop ps.length=[b] by rw [hl];simp];have hrf:r.1.f_=i:=by rw [g3]
 refine bE.bind' ?_;rw [if_pos (by rw [uW];decide)];refine bE.eqn (v:=b) rfl ?_;obtain ⟨f0,ef0,hm0,hv0,e0⟩:=g1.cur;have e0f:bV r.1.p_.bD r.1.f_=some f:=by rw [g3];exact hf
 rw [e0];rw [e0f] at e0;cases e0
 simp only [mS];refine ((Ly (m+1+1)).1 B r.1 r.2 b true g1 hbs (by omega) (by omega) (by omega)).bind fun q hq=>?_;obtain ⟨⟨⟨⟨B',hb',h'⟩,hk,hw⟩,hsc⟩,hT⟩:=hq;obtain ⟨f2,ef2,hm2,hv2,e2⟩:=h'.cur;obtain ⟨b1,b2,b3,b4,b5⟩:=hk.body g1 e0f e2;have hqf:q.2.1.f_=r.1.f_:=hk.f;rw [hqf] at e2 ef2;rw [e2];simp only [mS];have hlt:r.1.f_.toNat<q.2.1.p_.bD.length:=(qJ.1 ef2).1
 have e3:bV (q.2.1.p_.bD.set r.1.f_.toNat { f2 with eK:=q.1 }) r.1.f_=some { f2 with eK:=q.1 }:=by
  unfold bV;rw [if_pos (by rw [hrf];exact h0),Io hlt]
 rw [e3];simp only [mS,nW]
 have hout:∀w2:aI,WK q.2.2 w2->(w2.e_=0->f.cR ≠ 0->∃s,q.1.getLast? = some s/\MX s)->bE (iD (m+1+1) x (m+1) (i64.wrap ((0:Int)+1)) { q.2.1 with p_:=⟨q.2.1.p_.bD.set r.1.f_.toNat { f2 with eK:=q.1 }⟩ } w2) (fun x_1=>bE (some (x_1.1,x_1.2)) fun r=>(∃B':Nat,(B':Int)<=B+sz x/\CO N B' r.1)/\WK w r.2/\(∀j:Nat,j ≠ i.toNat->r.1.p_.bD[j]? = c.p_.bD[j]? /\ r.1.cK[j]? = c.cK[j]?)/\∃f',bV r.1.p_.bD i=some f'/\f'.jX=f.jX/\f'.iG=f.iG/\f'.cR=f.cR/\f'.aW=f.aW/\f.aV <+: f'.aV/\(r.2.e_=0->TF (KD r.1 i.toNat) f'/\(Am f'.eK:Int)<=sz x)):=by
  intro w2 hw2 hret;unfold iD;rw [hla,yG,show x.aM.drop ps.length=[b] by rw [hl];simp,if_neg (by rw [uW];decide)];refine .some (.some ⟨⟨B',by omega,by simp only [GI];exact h'.nf,h'.nN,fun g hg=>?_,h'.nc,h'.cl,fun g hg=>?_⟩,by rw [←g2];exact hw.trans hw2,fun j hj=>⟨?_,?_⟩,{ f2 with eK:=q.1 },?_,b1,b2,b3,b4,b5,fun e=>⟨⟨?_,?_⟩,by have:=(hT (by rw [←hw2 e];exact e)).2.2;simp only;omega⟩⟩)
  ·rcases HW hg with hg | rfl
   ·exact h'.vl g hg
   ·exact h'.vl f2 hm2
  ·rcases HW hg with hg | rfl
   ·exact h'.ki g hg
   ·exact h'.ki f2 hm2
  ·simp only;rw [Ja (by rw [hrf];omega),hk.o j (by rw [hrf];exact hj),g3]
  ·simp only;rw [hk.k j (by rw [g3];exact hj),g3]
  ·rw [←hrf];exact e3
  ·obtain ⟨⟨sc',hTB⟩,_⟩:=hT (by rw [←hw2 e];exact e);rw [g1.res e0f,hv0,hv2,g3] at hTB;simp only at hTB;have hpp:f.aV.length=f2.aW.toNat:=by rw [b4,hp,yG]
   rw [hpp,←b4,←b3] at hTB;refine ⟨sc',TB.mono (fun k r' ps' hsg=>?_) (PN _) hTB⟩;obtain ⟨⟨l,el,hkl⟩,f3,ef3,rfl,rfl⟩:=hsg;have hat:q.2.1.gB=i:=by rw [hk.a,g3]
   rw [hat] at el;unfold bV at el;rw [if_pos h0] at el;refine ⟨⟨l,el,hkl⟩,?_⟩
   by_cases hki:k=r.1.f_
   ·subst hki;rw [e2] at ef3;cases ef3
    exact ⟨_,e3,rfl,rfl⟩
   ·refine ⟨f3,?_,rfl,rfl⟩;unfold bV at ef3 ⊢
    split at ef3
    ·rename_i hk0;rw [if_pos hk0,Ja (by rw [hrf] at hki ⊢;omega)];exact ef3
    ·cases ef3
  ·simp only [b3];exact hret e
 refine bE.bind' (bE.iteb (fun hr0=>.some (hout _ WK.nd fun e hne=>?_)) (fun hr0=>?_))
 ·exact absurd (by rw [beq_iff_eq] at hr0;rw [←b3];exact hr0) hne
 ·refine (KL (b:=b) (by omega)).bind fun rb hrb=>.some (hout _ WK.nd fun e hne=>?_);obtain ⟨k1,k2,_⟩:=fJ (k:=135) (by decide) e;obtain ⟨y,hy1,hy2⟩:=hrb k2;exact (hT k1).2.1 y hy1 hy2
end
def sG (seen:List Int):Nat:=seen.countP (· == 0)
theorem MF {l:List Int} {i:Nat} {v:Int} (h:l[i]? = some 0) (hv:v ≠ 0):sG (l.set i v)+1=sG l:=by
 unfold sG
 induction l generalizing i with
 | nil=>cases h
 | cons x l ih=>
   cases i with
   | zero=>
     simp only [Qg,Option.some.injEq] at h;subst h;rw [EB,PU,PU];simp [hv]
   | succ i=>
     simp only [Ki] at h;have:=ih h;rw [FZ,PU,PU];omega
theorem Lx {l:List Int} {i:Nat} {v w:Int} (h:l[i]? = some w) (hv:v ≠ 0) (hw:w ≠ 0):sG (l.set i v)=sG l:=by
 unfold sG
 induction l generalizing i with
 | nil=>cases h
 | cons x l ih=>
   cases i with
   | zero=>
     simp only [Qg,Option.some.injEq] at h;subst h;rw [EB,PU,PU];simp [hv,hw]
   | succ i=>
     simp only [Ki] at h;have:=ih h;rw [FZ,PU,PU];omega
def Di (seen:List Int) (k:Int):Prop:=∃v,bV seen k=some v/\v ≠ 0
def PE (c:aD) (to:Int) (seen:List Int) (k:Int):Prop:=∀l,bV c.cK k=some l->∀j ∈ l,j ≠ to/\Di seen j
theorem Di.set {seen:List Int} {k j v:Int} (hv:v ≠ 0) (h:Di seen k) (hj:j.toNat<seen.length):Di (seen.set j.toNat v) k:=by
 obtain ⟨x,h1,h2⟩:=h;unfold bV at h1
 split at h1
 ·rename_i h0
  by_cases e:j.toNat=k.toNat
  ·exact ⟨v,by unfold bV;rw [if_pos h0,←e,Io hj],hv⟩
  ·exact ⟨x,by unfold bV;rw [if_pos h0,Ja e];exact h1,h2⟩
 ·cases h1
theorem Di.unset {seen:List Int} {k j v:Int} (h:Di (seen.set j.toNat v) k) (hj:0<=j):Di seen k ∨ k=j:=by
 obtain ⟨x,h1,h2⟩:=h;unfold bV at h1
 split at h1
 ·rename_i h0
  by_cases e:j.toNat=k.toNat
  ·right;omega
  ·rw [Ja e] at h1;exact .inl ⟨x,by unfold bV;rw [if_pos h0];exact h1,h2⟩
 ·cases h1
theorem PE.mono {c:aD} {to:Int} {s s':List Int} {k:Int} (h:PE c to s k) (hs:∀j,Di s j->Di s' j):PE c to s' k:=fun l e j hj=>⟨(h l e j hj).1,hs _ (h l e j hj).2⟩
structure Ra (c:aD) (to:Int) (B:Nat) (X:Int) (seen seen':List Int):Prop where
 le:sG seen'<=sG seen
 lo:∀v ∈ seen',0<=v/\v+((sG seen'*B:Nat):Int)<=X
 up:∀k,Di seen k->Di seen' k
 sh:∀k,Di seen' k->Di seen k ∨ PE c to seen' k
section
variable {N B:Nat} {c:aD} {to:Int}
theorem reach_l {rec_:Int->List Int->Option (Bool × List Int)} {n:Nat} (hB:∀l ∈ c.cK,l.length<=B)
  (hrec:∀(k X:Int) (seen:List Int),0<=k->k<N->sG seen<n->seen.length=N->(∀v ∈ seen,0<=v/\v+(((sG seen+1)*B:Nat):Int)<=X)->X<=4611686018427387904->bE (rec_ k seen) fun r=>r.2.length=N/\(r.1=false->Ra c to B X seen r.2/\PE c to r.2 k)) :
  ∀(ks seen:List Int) (X:Int),(∀k ∈ ks,0<=k/\k<N)->sG seen<n+1->seen.length=N->(∀v ∈ seen,0<=v/\v+((sG seen*B:Nat):Int)+ks.length<=X)->X<=4611686018427387904->bE (uK rec_ to ks seen) fun r=>r.2.length=N/\(r.1=false->Ra c to B X seen r.2/\∀j ∈ ks,j ≠ to/\Di r.2 j):=by
 intro ks
 induction ks with
 | nil=>
   intro seen X h1 h2 h3 h4 h5;exact .some ⟨h3,fun _=>⟨⟨tJ _,fun v hv=>by have:=h4 v hv;simp only [lA] at this ⊢;omega,fun k h=>h,fun k h=>.inl h⟩,fun j hj=>nomatch hj⟩⟩
 | cons k ks ih=>
   intro seen X h1 h2 h3 h4 h5;unfold uK;obtain ⟨k0,k1⟩:=h1 k (xec);refine bE.iteb (fun _=>.some ⟨h3,fun h=>Bool.noConfusion h⟩) fun hkt=>?_;have hkt:k ≠ to:=by simpa using hkt
   obtain ⟨s,e,e2,hsm⟩:=mZ (l:=seen) (i:=k) k0 (by omega);have hs:=h4 s hsm;simp only [jC] at hs;rw [e,mS,fG (by omega) (by omega)];have hkl:k.toNat<seen.length:=by omega
   have hset:∀v ∈ seen.set k.toNat (s+1),0<=v/\v+((sG seen*B:Nat):Int)+ks.length<=X:=fun v hv=>by
    rcases HW hv with hv | rfl
    ·have:=h4 v hv;simp only [jC] at this;omega
    ·omega
   refine bE.iteb (fun hs1=>?_) (fun hs1=>?_)
   ·have hs0:s=0:=by have:=eq_of_beq hs1;omega
    subst hs0;have hun:=MF (v:=0+1) e2 (by decide);refine (hrec k (X - ks.length) _ k0 k1 (by omega) (by rw [GI];exact h3) (fun v hv=>?_) (by omega)).bind fun r hr=>?_
    ·have:=hset v hv;rw [hun];omega
    ·refine bE.iteb (fun hrt=>.some ⟨hr.1,fun h=>Bool.noConfusion h⟩) fun hrt=>?_;obtain ⟨hR,hS⟩:=hr.2 hrt;have hle:=hR.le;refine (ih r.2 X (fun j hj=>h1 j (Kc _ hj)) (by omega) hr.1 (fun v hv=>?_) h5).mono fun q hq=>⟨hq.1,fun hqf=>?_⟩
     ·have:=hR.lo v hv;omega
     ·obtain ⟨hQ,hJ⟩:=hq.2 hqf;have hsk:Di (seen.set k.toNat (0+1)) k:=⟨0+1,by unfold bV;rw [if_pos k0,Io hkl],by decide⟩;have hqle:=hQ.le;refine ⟨⟨by omega,hQ.lo,fun j hj=>hQ.up j (hR.up j (hj.set (by decide) hkl)),fun j hj=>?_⟩,fun j hj=>?_⟩
      ·rcases hQ.sh j hj with h | h
       ·rcases hR.sh j h with h | h
        ·rcases h.unset k0 with h | rfl
         ·exact .inl h
         ·exact .inr (hS.mono hQ.up)
        ·exact .inr (h.mono hQ.up)
       ·exact .inr h
      ·rcases vA.1 hj with rfl | hj
       ·exact ⟨hkt,hQ.up _ (hR.up _ hsk)⟩
       ·exact hJ j hj
   ·have hs0:s ≠ 0:=by rintro rfl;simp at hs1
    have hun:=Lx (v:=s+1) e2 (by omega) hs0;refine (ih _ X (fun j hj=>h1 j (Kc _ hj)) (by rw [hun];omega) (by rw [GI];exact h3) (fun v hv=>by rw [hun];exact hset v hv) h5).mono fun q hq=>⟨hq.1,fun hqf=>?_⟩;obtain ⟨hQ,hJ⟩:=hq.2 hqf;have hsk:Di (seen.set k.toNat (s+1)) k:=⟨s+1,by unfold bV;rw [if_pos k0,Io hkl],by omega⟩;have hqle:=hQ.le;rw [hun] at hqle;refine ⟨⟨hqle,hQ.lo,fun j hj=>hQ.up j (hj.set (by omega) hkl),fun j hj=>?_⟩,fun j hj=>?_⟩
    ·rcases hQ.sh j hj with h | h
     ·rcases h.unset k0 with h | rfl
      ·exact .inl h
      ·exact .inl ⟨s,e,hs0⟩
     ·exact .inr h
    ·rcases vA.1 hj with rfl | hj
     ·exact ⟨hkt,hQ.up _ hsk⟩
     ·exact hJ j hj
theorem OJ (hN:c.cK.length=N) (hcl:∀l ∈ c.cK,l.length<=B/\∀k ∈ l,0<=k/\k<N) (hB:B<=1073741824):∀(n:Nat) (k X:Int) (seen:List Int),0<=k->k<N->sG seen<n->seen.length=N->(∀v ∈ seen,0<=v/\v+(((sG seen+1)*B:Nat):Int)<=X)->X<=4611686018427387904->bE (jJ n c k to seen) fun r=>r.2.length=N/\(r.1=false->Ra c to B X seen r.2/\PE c to r.2 k):=by
 intro n
 induction n with
 | zero=>intro k X seen _ _ h;omega
 | succ n ih=>
   intro k X seen k0 k1 h1 h2 h3 h4;unfold jJ;obtain ⟨l,e,_,hm⟩:=mZ (l:=c.cK) k0 (by omega);obtain ⟨hl1,hl2⟩:=hcl l hm;rw [e,mS];refine bE.need (by omega) ?_;refine (reach_l (fun l hl=>(hcl l hl).1) ih l seen X hl2 h1 h2 (fun v hv=>?_) h4).mono fun r hr=>⟨hr.1,fun hf=>?_⟩
   ·have:=h3 v hv;rw [Ip] at this;omega
   ·obtain ⟨hR,hJ⟩:=hr.2 hf;refine ⟨hR,fun l2 e2 j hj=>?_⟩;rw [e] at e2;cases e2
    exact hJ j hj
inductive Si (c:aD):Int->Int->Prop
 | one {i k l}:bV c.cK i=some l->k ∈ l->Si c i k
 | more {i j k l}:Si c i j->bV c.cK j=some l->k ∈ l->Si c i k
theorem Si.cons {i j k:Int} {l:List Int} (h:Si c j k) (e:bV c.cK i=some l) (hj:j ∈ l):Si c i k:=by
 induction h with
 | one e2 h2=>exact .more (.one e hj) e2 h2
 | more _ e2 h2 ih=>exact .more ih e2 h2
theorem Gc (N:Nat):sG (List.replicate N 0)=N:=by
 unfold sG;rw [List.countP_eq_length.2 (fun v hv=>by rw [(PR.1 hv).2];rfl),PQ]
theorem QQ (hN:c.cK.length=N) (hN2:N<=16384) (hcl:∀l ∈ c.cK,l.length<=B/\∀k ∈ l,0<=k/\k<N) (hB:B<=1073741824) {n:Nat} (hn:16384<n) {i:Int} (h0:0<=i) (h1:i<N):bE (jJ n c i i (List.replicate N 0)) fun r=>r.1=false->¬ Si c i i:=by
 have hmul:(N+1)*B<=16385*1073741824:=Nat.mul_le_mul (by omega) hB;refine (OJ (to:=i) hN hcl hB n i 4611686018427387904 _ h0 h1 (by rw [Gc];omega) PQ (fun v hv=>?_) (Qf _)).mono fun r hr hf hw=>?_
 ·rw [(PR.1 hv).2,Gc];omega
 ·obtain ⟨hR,hS⟩:=hr.2 hf
  have hz:∀k,¬ Di (List.replicate N 0) k:=fun k ⟨v,e,hv⟩=>by
   unfold bV at e
   split at e
   ·exact hv (PR.1 (Al e)).2
   ·cases e
  have key:∀k,Si c i k->Di r.2 k/\k ≠ i:=by
   intro k hk
   induction hk with
   | one e hk=>exact ⟨(hS _ e _ hk).2,(hS _ e _ hk).1⟩
   | more _ e hk ih=>
     rcases hR.sh _ ih.1 with h | h
     ·exact absurd h (hz _)
     ·exact ⟨(h _ e _ hk).2,(h _ e _ hk).1⟩
  exact (key i hw).2 rfl
theorem Pn {α:Type} {p q:α->Bool} {l:List α} (h:∀x ∈ l,p x=true->q x=true) {y:α} (hy:y ∈ l) (hq:q y=true) (hp:p y=false):l.countP p<l.countP q:=by
 induction l with
 | nil=>cases hy
 | cons x l ih=>
   rw [PU,PU];have hle:l.countP p<=l.countP q:=List.countP_mono_left fun x hx=>h x (Kc _ hx)
   rcases vA.1 hy with rfl | hy
   ·rw [hq,hp];simp;omega
   ·have:=ih (fun x hx=>h x (Kc _ hx)) hy;have hx:=h x xec;cases h1:p x <;> cases h2:q x <;> simp_all <;> omega
theorem ranks (hN:c.cK.length=N) (hcl:∀l ∈ c.cK,∀k ∈ l,0<=k/\k<N) (hac:∀i:Int,0<=i->i<N->¬ Si c i i):∃rk:Int->Nat,(∀i,rk i<=N)/\∀i l,bV c.cK i=some l->∀k ∈ l,rk k<rk i:=by
 classical
 refine ⟨fun i=>(List.range N).countP fun k:Nat=>decide (Si c i (k:Int)),fun i=>Kl xes (by simp),fun i l e k hk=>?_⟩
 have hlm:l ∈ c.cK:=by
  unfold bV at e
  split at e
  ·exact Al e
  ·cases e
 obtain ⟨k0,k1⟩:=hcl l hlm k hk;have hkn:((k.toNat:Nat):Int)=k:=by omega
 refine Pn (y:=k.toNat) (fun x _ hx=>?_) (Kk.2 (by omega)) ?_ ?_
 ·exact DU ((Dk hx).cons e hk)
 ·rw [hkn];exact DU (.one e hk)
 ·rw [hkn];exact xdo (hac k k0 k1)
end
structure PO (c:aD) (rk:Int->Nat):Prop where
 co:CO c.p_.bD.length 1073741824 c
 n64:c.p_.bD.length<=64
 ex:∀f ∈ c.p_.bD,f.iG=true->Au (f.aV.take f.aW.toNat) 0<=4
 tf:∀(j:Nat) f,c.p_.bD[j]? = some f->TF (KD c j) f
 sz:∀f ∈ c.p_.bD,Am f.eK<=3001
 rkN:∀i,rk i<=64
 rk:∀i l,bV c.cK i=some l->∀k ∈ l,rk k<rk i
section
variable {N B n:Nat} {c:aD} {w:aI}
theorem CO.more {B':Nat} (h:CO N B c) (hb:B<=B'):CO N B' c:=⟨h.nf,h.nN,h.vl,h.nc,fun l hl=>⟨Kl (h.cl l hl).1 hb,(h.cl l hl).2⟩,h.ki⟩
theorem Mh {a:Int}:bE (vO a) fun r=>r=0 ∨ r=2 ∨ r=3:=by
 unfold vO
 repeat' split
 ·exact .some (.inr (.inl rfl))
 ·exact .some (.inr (.inr rfl))
 ·exact .some (.inl rfl)
structure D0 (f:aR):Prop where
 v:f.aV=[]
 p:f.aW=0
 b:f.eK=[]
 r:f.cR=0 ∨ f.cR=2 ∨ f.cR=3
theorem Rd {x:Nd} (hl:x.aM.length<=16384) (hn:16384<n):∀(k v:Nat) (c:aD) (w:aI),x.aM.length<v+k->v<=x.aM.length->c.p_.bD.length=v->c.f_=-1->(∀f ∈ c.p_.bD,D0 f)->bE (iV n x k (v:Int) c w) fun r=>r.1.p_.bD.length=x.aM.length/\(∀f ∈ r.1.p_.bD,D0 f)/\WK w r.2:=by
 intro k
 induction k with
 | zero=>intro v c w h1 h2;omega
 | succ k ih=>
   intro v c w h1 h2 h3 h4 h5;unfold iV
   by_cases hv:v<x.aM.length
   ·rw [if_pos (DU (by omega))];obtain ⟨y,e,_,hym⟩:=mZ (l:=x.aM) (i:=(v:Int)) (by omega) (by omega);rw [e];simp only [mS];refine (LI (by omega) hn).bind fun q hq=>?_;refine bE.bind (P:=fun w'=>WK w w') ?_ fun w' hw'=>?_
    ·refine bE.iteb (fun _=>?_) (fun _=>?_)
     ·exact (FU (by omega)).bind fun a _=>by rw [nW];exact .some WK.nd
     ·rw [nW];exact .some WK.nd
    ·refine Mh.bind fun rr hrr=>bE.need (by omega) (bE.need (by omega) ?_);rw [fG (by omega) (by omega),show ((v:Int)+1)=((v+1:Nat):Int) by omega];refine (ih (v+1) { c with p_:=⟨c.p_.bD++[⟨y.cP,(vT .u32 y.mM (1:Int)) != (0:Int),rr,0,[],[]⟩]⟩ } w' (by omega) (by omega) (by simp only [nC,uW];omega) h4 fun f hf=>?_).mono fun r hr=>⟨hr.1,hr.2.1,hw'.trans hr.2.2⟩
     rcases At.1 hf with hf | hf
     ·exact h5 f hf
     ·obtain rfl:=zN.1 hf;exact ⟨rfl,rfl,rfl,hrr⟩
   ·rw [if_neg (by rw [Fv];omega)];exact .some ⟨by simp only;omega,h5,.refl w⟩
theorem OS {x:Nd} (hl:x.aM.length<=16384) (hn:16384<n):bE (nJ n aD.Z w x) fun r=>CO x.aM.length 0 r.1/\(∀f ∈ r.1.p_.bD,D0 f)/\WK w r.2/\(r.2.e_=0->x.aM.length<=64):=by
 unfold nJ;rw [nW,mS];refine (Rd hl hn n 0 aD.Z _ (by omega) (by omega) rfl rfl fun f hf=>nomatch hf).bind fun r hr=>bE.need (by omega) (.some ?_);obtain ⟨h1,h2,h3⟩:=hr;refine ⟨⟨h1,hl,fun f hf=>?_,PQ,fun l hl=>?_,fun f hf=>?_⟩,h2,(WK.nd).trans h3,fun e=>?_⟩
 ·rw [(h2 f hf).v,(h2 f hf).p];exact ⟨by decide,by decide,by decide⟩
 ·rw [(PR.1 hl).2];exact ⟨tJ _,fun k hk=>nomatch hk⟩
 ·rw [(h2 f hf).v];exact ⟨fun v hv=>(by cases hv),(h2 f hf).r⟩
 ·have e2:(Kf w (decide ((x.aM.length:Int)<=64)) 136 x.fR).e_=0:=by rw [←h3 e];exact e
  have:=Dk (fJ (k:=136) (by decide) e2).2.1;omega
def D1 (f:aR):Prop:=f.aW=f.aV.length/\(f.iG=true->Au f.aV 0<=4)
theorem DZ {α:Type} {l:List α} {i:Nat} {x:α} (h:bV l (i:Int)=some x):l[i]? = some x:=by
 unfold bV at h;rw [if_pos (by omega),yG] at h;exact h
theorem OX (hn:20300<n):∀(l:List Nd) (i:Nat) (c:aD) (w:aI),CO N B c->i+l.length=N->(∀x ∈ l,WF x/\x.aM.length<=20000)->(∀(j:Nat) f,i<=j->c.p_.bD[j]? = some f->f.eK=[])->(w.e_=0->∀(j:Nat) f,j<i->c.p_.bD[j]? = some f->D1 f)->bE (rX (fun i f c w=>jV n c w i f) l i c w) fun r=>CO N B r.1/\WK w r.2/\r.1.cK=c.cK/\(r.2.e_=0->∀(j:Nat) f,r.1.p_.bD[j]? = some f->D1 f):=by
 intro l
 induction l with
 | nil=>
   intro i c w h h1 h2 h3 h4;refine .some ⟨h,.refl w,rfl,fun e j f hf=>h4 e j f ?_ hf⟩;have hj:j<c.p_.bD.length:=(qJ.1 hf).1;have:=h.nf;simp only [lA] at h1;omega
 | cons x l ih=>
   intro i c w h h1 h2 h3 h4;simp only [jC] at h1;unfold rX
   by_cases he:(w.e_ == (0:Int))=true
   ·rw [if_pos he];have he0:w.e_=0:=by simpa using he
    obtain ⟨f,ef,ef2,_⟩:=mZ (l:=c.p_.bD) (i:=(i:Int)) (by omega) (by rw [h.nf];omega);obtain ⟨hx1,hx2⟩:=h2 x xec;refine (Pq (w:=w) h (i:=(i:Int)) (by omega) (by omega) hn ef (h3 i f (tJ _) (DZ ef)) hx1 hx2).bind fun r hr=>?_;obtain ⟨k1,k2,k3,k4,f',k5,k6,k7,k8,k9,k10⟩:=hr;rw [yG] at k4;refine (ih (i+1) r.1 r.2 k1 (by omega) (fun y hy=>h2 y (Kc _ hy)) (fun j g hj hg=>?_) (fun e j g hj hg=>?_)).mono fun q hq=>⟨hq.1,k2.trans hq.2.1,hq.2.2.1.trans k3,hq.2.2.2⟩
    ·exact h3 j g (by omega) (by rw [←k4 j (by omega)];exact hg)
    ·by_cases hji:j=i
     ·subst hji;rw [DZ k5] at hg;cases hg
      exact ⟨k9,k10 e⟩
     ·exact h4 he0 j g (by omega) (by rw [←k4 j hji];exact hg)
   ·rw [if_neg he];refine (ih (i+1) c w h (by omega) (fun y hy=>h2 y (Kc _ hy)) (fun j g hj hg=>h3 j g (by omega) hg) (fun e=>absurd e (by simpa using he))).mono fun q hq=>hq
theorem Or {c c':aD} {i j:Nat} (hv:∀f ∈ c.p_.bD,f.aW<=f.aV.length) (h1:∀k:Nat,k ≠ i->c'.p_.bD[k]? = c.p_.bD[k]?) (h2:c'.cK[j]? = c.cK[j]?) {f f':aR} (e:c.p_.bD[i]? = some f) (e':c'.p_.bD[i]? = some f') (hr:f'.cR=f.cR) (hp:f'.aW=f.aW) (hx:f.aV <+: f'.aV) {k r:Int} {ps:List bB} (h:KD c j k r ps):KD c' j k r ps:=by
 obtain ⟨⟨l,el,hk⟩,g,eg,rfl,rfl⟩:=h;refine ⟨⟨l,by rw [h2];exact el,hk⟩,?_⟩;unfold bV at eg
 split at eg
 ·rename_i h0
  by_cases hki:k.toNat=i
  ·rw [hki,e] at eg;cases eg
   have:=hv f (Al e);refine ⟨f',by unfold bV;rw [if_pos h0,hki];exact e',hr.symm,?_⟩;rw [hp,GV hx (by omega)]
  ·exact ⟨g,by unfold bV;rw [if_pos h0,h1 _ hki];exact eg,rfl,rfl⟩
 ·cases eg
theorem MO (hn:90000<=n):∀(l:List Nd) (i B:Nat) (c:aD) (w:aI),CO N B c->i+l.length=N->(∀x ∈ l,WF x/\sz x<=3001)->(B:Int)+tZ l<=1073741824->(w.e_=0->∀(j:Nat) f,c.p_.bD[j]? = some f->(f.iG=true->Au (f.aV.take f.aW.toNat) 0<=4)/\(i<=j->f.aW=f.aV.length)/\(j<i->TF (KD c j) f/\Am f.eK<=3001))->bE (rX (fun i f c w=>jW n c w i f) l i c w) fun r=>(∃B':Nat,(B':Int)<=B+tZ l/\CO N B' r.1)/\WK w r.2/\(r.2.e_=0->∀(j:Nat) f,r.1.p_.bD[j]? = some f->(f.iG=true->Au (f.aV.take f.aW.toNat) 0<=4)/\TF (KD r.1 j) f/\Am f.eK<=3001):=by
 intro l
 induction l with
 | nil=>
   intro i B c w h h1 h2 h3 h4;refine .some ⟨⟨B,by rw [mU];omega,h⟩,.refl w,fun e j f hf=>⟨(h4 e j f hf).1,(h4 e j f hf).2.2 ?_⟩⟩;have hj:j<c.p_.bD.length:=(qJ.1 hf).1;have:=h.nf;simp only [lA] at h1;omega
 | cons x l ih=>
   intro i B c w h h1 h2 h3 h4;simp only [jC] at h1;rw [tM] at h3 ⊢;have hp:=pU x;have hg:=oE l;unfold rX
   by_cases he:(w.e_ == (0:Int))=true
   ·rw [if_pos he];have he0:w.e_=0:=by simpa using he
    obtain ⟨f,ef,ef2,hfm⟩:=mZ (l:=c.p_.bD) (i:=(i:Int)) (by omega) (by rw [h.nf];omega);obtain ⟨hx1,hx2⟩:=h2 x xec;obtain ⟨q1,q2,_⟩:=h4 he0 i f (DZ ef);refine (Pr (w:=w) h (i:=(i:Int)) (by omega) (by omega) ef (q2 (tJ _)) hx1 (by omega) (by omega) hn).bind fun r hr=>?_;obtain ⟨⟨B',hb',k1⟩,k2,k4,f',k5,k6,k7,k8,k9,k10,k11⟩:=hr;rw [yG] at k4 k11;refine (ih (i+1) B' r.1 r.2 k1 (by omega) (fun y hy=>h2 y (Kc _ hy)) (by omega) (fun e j g hg=>?_)).mono fun q hq=>?_
    ·by_cases hji:j=i
     ·subst hji;rw [DZ k5] at hg;cases hg
      refine ⟨fun hx=>?_,fun h=>by omega,fun _=>⟨(k11 e).1,by have:=(k11 e).2;omega⟩⟩;rw [k9,GV k10 (by have:=(h.vl f hfm).2;omega)];exact q1 (by rw [←k7];exact hx)
     ·obtain ⟨a1,a2,a3⟩:=h4 he0 j g (by rw [←(k4 j hji).1];exact hg);refine ⟨a1,fun h=>a2 (by omega),fun hlt=>?_⟩;obtain ⟨hT,hZ⟩:=a3 (by omega);obtain ⟨sc',hTB⟩:=hT.body;exact ⟨⟨⟨sc',hTB.mono (fun k r' ps hs=>Or (fun f hf=>(h.vl f hf).2.2) (fun k hk=>(k4 k hk).1) (k4 j hji).2 (DZ ef) (DZ k5) k8 k9 k10 hs) (PN _)⟩,hT.ret⟩,hZ⟩
    ·obtain ⟨⟨B2,hb2,h5⟩,h6,h7⟩:=hq;exact ⟨⟨B2,by omega,h5⟩,k2.trans h6,h7⟩
   ·rw [if_neg he];refine (ih (i+1) B c w h (by omega) (fun y hy=>h2 y (Kc _ hy)) (by omega) (fun e=>absurd e (by simpa using he))).mono fun q hq=>?_;obtain ⟨⟨B2,hb2,h5⟩,h6,h7⟩:=hq;exact ⟨⟨B2,by omega,h5⟩,h6,h7⟩
theorem cyc_tot (h:CO N B c) (hB:B<=1073741824) (hn:16384<n):∀(l:List Nd) (i:Nat) (w:aI),i+l.length=N->bE (wL n N c l i w) fun w'=>WK w w'/\(w'.e_=0->∀j:Int,i<=j->j<N->¬ Si c j j):=by
 intro l
 induction l with
 | nil=>intro i w h1;exact .some ⟨.refl w,fun e j h2 h3=>by simp only [lA] at h1;omega⟩
 | cons x l ih=>
   intro i w h1;simp only [jC] at h1;unfold wL
   by_cases he:(w.e_ == (0:Int))=true
   ·rw [if_pos he];refine (QQ h.nc h.nN h.cl hB hn (i:=(i:Int)) (by omega) (by omega)).bind fun r hr=>?_;rw [nW,mS];refine (ih (i+1) _ (by omega)).mono fun q hq=>⟨(WK.nd).trans hq.1,fun e j h2 h3=>?_⟩
    by_cases hji:j=i
    ·subst hji;have e2:(Kf w (!r.1) 134 x.fR).e_=0:=by rw [←hq.1 e];exact e
     exact hr (by simpa using (fJ (k:=134) (by decide) e2).2.1)
    ·exact hq.2 e j (by omega) h3
   ·rw [if_neg he];exact (ih (i+1) w (by omega)).mono fun q hq=>⟨hq.1,fun e=>absurd (hq.1 e ▸ e) (by simpa using he)⟩
theorem PL {s:cQ} (hs:s.length<=3000) (hn:90000<=n):bE (uT n s) fun r=>r.2.1=0->∃c rk,c.p_=r.1/\PO c rk:=by
 unfold uT;refine (KQ (n:=n) (s:=s) (by omega)).bind fun p hp=>?_;refine bE.iteb (fun he=>.some fun e=>absurd e (by simpa using he)) (fun he=>?_);obtain ⟨hw,hz⟩:=hp (by simpa using he);have hg:=oE p.1.aM;refine (OS (w:=⟨0,0⟩) (x:=p.1) (by omega) (by omega)).bind fun a ha=>bE.need (by omega) ?_;obtain ⟨a1,a2,a3,a4⟩:=ha
 have hsz:∀x ∈ p.1.aM,sz x<=3001/\x.aM.length<=20000:=fun x hx=>by
  have h1:=GW hx;have h2:=Dq x;have h3:=oE x.aM;omega
 refine bE.bind (P:=fun b=>(∃B':Nat,(B':Int)<=3001/\CO p.1.aM.length B' b.1)/\WK a.2 b.2/\(b.2.e_=0->∀(j:Nat) f,b.1.p_.bD[j]? = some f->(f.iG=true->Au (f.aV.take f.aW.toNat) 0<=4)/\TF (KD b.1 j) f/\Am f.eK<=3001)) ?_ fun b hb=>?_
 ·unfold uS;refine (OX (n:=n) (by omega) p.1.aM 0 a.1 a.2 a1 (by omega) (fun x hx=>⟨hw x hx,(hsz x hx).2⟩) (fun j f _ hf=>(a2 f (Al hf)).b) (fun _ j f h=>by omega)).bind fun q hq=>?_;obtain ⟨q1,q2,q3,q4⟩:=hq;unfold uS;refine (MO (n:=n) hn p.1.aM 0 0 q.1 q.2 q1 (by omega) (fun x hx=>⟨hw x hx,(hsz x hx).1⟩) (by omega) (fun e j f hf=>?_)).bind fun r hr=>?_
  ·obtain ⟨d1,d2⟩:=q4 e j f hf;refine ⟨fun hx=>?_,fun _=>d1,fun h=>by omega⟩;rw [d1,yG,xen];exact d2 hx
  ·obtain ⟨⟨B2,hb2,h5⟩,h6,h7⟩:=hr;unfold uS;exact .some ⟨⟨B2,by omega,h5⟩,q2.trans h6,h7⟩
 ·obtain ⟨⟨B',hb',b1⟩,b2,b3⟩:=hb;refine (cyc_tot (n:=n) b1 (by omega) (by omega) p.1.aM 0 b.2 (by omega)).bind fun w hw2=>?_;refine bE.iteb (fun he2=>.some fun e=>absurd e (by simpa using he2)) (fun he2=>.some fun _=>?_);have he2:w.e_=0:=by simpa using he2
  have eb:b.2.e_=0:=by rw [←hw2.1 he2];exact he2
  have ea:a.2.e_=0:=by rw [←b2 eb];exact eb
  have hN:=b1.nf;obtain ⟨rk,r1,r2⟩:=ranks b1.nc (fun l hl=>(b1.cl l hl).2) (fun i h0 h1=>hw2.2 he2 i h0 h1);refine ⟨b.1,rk,rfl,⟨by rw [hN];exact b1.more (by omega),by rw [hN];exact a4 ea,fun f hf hx=>?_,fun j f hf=>(b3 eb j f hf).2.1,fun f hf=>?_,fun i=>Kl (r1 i) (a4 ea),r2⟩⟩
  ·obtain ⟨j,hj⟩:=List.getElem?_of_mem hf;exact (b3 eb j f hj).1 hx
  ·obtain ⟨j,hj⟩:=List.getElem?_of_mem hf;exact (b3 eb j f hj).2.2
end
end Go.Proofs.YtncembphlfbgoaaGreatDoor.Abs
