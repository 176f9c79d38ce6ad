/-
 What a checked program is: expressions and statements, and their types.
-/
import Derived.Test.YtncembphlfbgoaaDoorCFTot
import Derived.Test.YtncembphlfbgoaaDoorCFGMm
namespace Go.Proofs.YtncembphlfbgoaaDoor.Abs
open Go.RowKit
set_option linter.unusedVariables false
mutual
def xz:aG->Nat
 | ⟨_,_,_,_,l,_⟩=>1+wE l
def wE:List aG->Nat
 | []=>0
 | x::l=>xz x+wE l
end
mutual
def tz:aH->Nat
 | ⟨_,_,_,l,b,e,_⟩=>1+wE l+AH b+AH e
def AH:List aH->Nat
 | []=>0
 | x::l=>tz x+AH l
end
theorem Ao (x:aG):xz x=1+wE x.aN:=by cases x;rw [xz]
theorem vC (x:aH):tz x=1+wE x.aN+AH x.eR+AH x.pT:=by cases x;rw [tz]
theorem Gc (a b:List aG):wE (a++b)=wE a+wE b:=by
 induction a with
 | nil=>rw [List.nil_append,wE,Nat.zero_add]
 | cons x a ih=>rw [List.cons_append,wE,wE,ih,Nat.add_assoc]
def xG (n:Int):Prop:=1<=n/\n<=255 ∨ 255<n/\n<=1024/\n % 4=0
def Bh (v:aY):Prop:=1<=v.bN/\v.bN<=4/\(v.bN=4->xG v.nR)
theorem Ii {s:cD}:Bh ⟨s,1,0⟩:=⟨(by decide:(1:Int)<=1),(by decide:(1:Int)<=4),fun h=>absurd h (by simp)⟩
theorem Ih {s:cD} {n:Int} (h:xG n):Bh ⟨s,4,n⟩:=⟨(by decide:(1:Int)<=4),(by decide:(4:Int)<=4),fun _=>h⟩
theorem varOkW {s:cD} {k:Int} (h1:1<=k) (h2:k<=3):Bh ⟨s,k,0⟩:=⟨h1,(by simp only;omega),fun h=>by simp only at h;omega⟩
def sZ (a b:Int):Int:=if a=b/\1<=a/\a<=3 then a else if a=1/\b=2 ∨ a=2/\b=1 then 2 else 0
def Ed (t:Int):Int:=if t=1 then 2 else t
def ScT (t:Int):Prop:=t=1 ∨ t=2
def HX (t k:Int):Prop:=t=k ∨ t=1/\k=2
def BinT (o:cD) (x y:aG) (t:Int):Prop:=
 ((o=[47] ∨ o=[37])/\x.cE=1/\y.cE=1/\t=1) ∨
 ((o=[60,60] ∨ o=[62,62] ∨ o=[60,60,60])/\y.cE=1/\(x.cE=3->y.nJ=[110,117,109]/\y.N_<=63)/\t=x.cE) ∨
 (o=[42]/\t=sZ x.cE y.cE/\t ≠ 3/\t ≠ 0) ∨
 ((o=[61,61] ∨ o=[60])/\sZ x.cE y.cE ≠ 0/\t=if sZ x.cE y.cE=3 then 2 else sZ x.cE y.cE) ∨
 ((o=[124] ∨ o=[94] ∨ o=[38] ∨ o=[43] ∨ o=[45])/\t=sZ x.cE y.cE/\t ≠ 0)
inductive TX (vs:List aY) (sc:List Int):aG->Prop
 | num {n a}:TX vs sc ⟨[110,117,109],1,n,-1,[],a⟩
 | var {v u a}:v ∈ sc->cJ vs v=some u->u.bN ≠ 4->TX vs sc ⟨[118,97,114],u.bN,0,v,[],a⟩
 | index {v u i a}:v ∈ sc->cJ vs v=some u->u.bN=4->TX vs sc i->i.cE=1->(i.nJ=[110,117,109]->IntKind.i64.wrap i.N_<u.nR)->TX vs sc ⟨[105,110,100,101,120],2,0,v,[i],a⟩
 | un {o x a}:(o=[110,111,116] ∨ o=[110,101,103])->TX vs sc x->TX vs sc ⟨o,x.cE,0,-1,[x],a⟩
 | bin {o x y t a}:TX vs sc x->TX vs sc y->BinT o x y t->TX vs sc ⟨o,t,0,-1,[x,y],a⟩
 | sel {c x y a}:TX vs sc c->TX vs sc x->TX vs sc y->ScT c.cE->sZ x.cE y.cE ≠ 0->TX vs sc ⟨[115,101,108,101,99,116],Ed (sZ x.cE y.cE),0,-1,[c,x,y],a⟩
 | long {x a}:TX vs sc x->ScT x.cE->TX vs sc ⟨[108,111,110,103],3,0,-1,[x],a⟩
 | wide {x y a}:TX vs sc x->TX vs sc y->ScT x.cE->ScT y.cE->TX vs sc ⟨[119,105,100,101],3,0,-1,[x,y],a⟩
 | half {o x a}:(o=[108,111] ∨ o=[104,105])->TX vs sc x->x.cE=3->TX vs sc ⟨o,2,0,-1,[x],a⟩
inductive Cg (vs:List aY) (sc:List Int) (p:aY):aG->Prop
 | arr {v u a}:p.bN=4->v ∈ sc->cJ vs v=some u->u.bN=4->u.nR=p.nR->Cg vs sc p ⟨[118,97,114],4,0,v,[],a⟩
 | pub {x}:p.bN=1->TX vs sc x->x.cE=1->Cg vs sc p x
 | val {x}:p.bN ≠ 1->p.bN ≠ 4->TX vs sc x->HX x.cE p.bN->Cg vs sc p x
def AB (vs:List aY) (sc:List Int) (ps:List aY) (l:List aG):Prop:=l.length=ps.length/\∀(i:Nat) p x,ps[i]? = some p->l[i]? = some x->Cg vs sc p x
abbrev JH:=Int->Int->List aY->Prop
inductive TB (sg:JH) (vs:List aY) (res:Int):Bool->Nat->List Int->List aH->Nat->List Int->Prop
 | nil {l n sc}:TB sg vs res l n sc [] n sc
 | let_ {l n sc x u a ss n' sc'}:TX vs sc x->x.cE=1->vs[n]? = some u->u.bN=1->TB sg vs res l (n+1) (sc++[(n:Int)]) ss n' sc'->TB sg vs res l n sc (⟨[108,101,116],n,0,[x],[],[],a⟩::ss) n' sc'
 | var_ {l n sc x u a ss n' sc'}:TX vs sc x->vs[n]? = some u->u.bN=Ed x.cE->TB sg vs res l (n+1) (sc++[(n:Int)]) ss n' sc'->TB sg vs res l n sc (⟨[118,97,114],n,0,[x],[],[],a⟩::ss) n' sc'
 | arr {l n sc u a ss n' sc'}:vs[n]? = some u->u.bN=4->TB sg vs res l (n+1) (sc++[(n:Int)]) ss n' sc'->TB sg vs res l n sc (⟨[97,114,114],n,0,[],[],[],a⟩::ss) n' sc'
 | callv {l n sc f r ps xs u a ss n' sc'}:sg f r ps->AB vs sc ps xs->r ≠ 0->vs[n]? = some u->u.bN=r->TB sg vs res l (n+1) (sc++[(n:Int)]) ss n' sc'->TB sg vs res l n sc (⟨[99,97,108,108],n,f,xs,[],[],a⟩::ss) n' sc'
 | set {l n sc v u x a ss n' sc'}:v ∈ sc->cJ vs v=some u->(u.bN=2 ∨ u.bN=3)->TX vs sc x->HX x.cE u.bN->TB sg vs res l n sc ss n' sc'->TB sg vs res l n sc (⟨[115,101,116],v,0,[x],[],[],a⟩::ss) n' sc'
 | calls {l n sc v u f r ps xs a ss n' sc'}:v ∈ sc->cJ vs v=some u->(u.bN=2 ∨ u.bN=3)->sg f r ps->AB vs sc ps xs->r=u.bN->TB sg vs res l n sc ss n' sc'->TB sg vs res l n sc (⟨[99,97,108,108],v,f,xs,[],[],a⟩::ss) n' sc'
 | put {l n sc v u i x a ss n' sc'}:v ∈ sc->cJ vs v=some u->u.bN=4->TX vs sc i->i.cE=1->(i.nJ=[110,117,109]->IntKind.i64.wrap i.N_<u.nR)->TX vs sc x->HX x.cE 2->TB sg vs res l n sc ss n' sc'->TB sg vs res l n sc (⟨[112,117,116],v,0,[i,x],[],[],a⟩::ss) n' sc'
 | do_ {l n sc f r ps xs a ss n' sc'}:sg f r ps->AB vs sc ps xs->TB sg vs res l n sc ss n' sc'->TB sg vs res l n sc (⟨[99,97,108,108],-1,f,xs,[],[],a⟩::ss) n' sc'
 | if_ {l n sc c b e a n1 sc1 n2 sc2 ss n' sc'}:TX vs sc c->c.cE=1->TB sg vs res false n sc b n1 sc1->TB sg vs res false n1 sc e n2 sc2->TB sg vs res l n2 sc ss n' sc'->TB sg vs res l n sc (⟨[105,102],-1,0,[c],b,e,a⟩::ss) n' sc'
 | for_ {l n sc x y u b a n1 sc1 ss n' sc'}:TX vs sc x->x.cE=1->TX vs sc y->y.cE=1->vs[n]? = some u->u.bN=1->TB sg vs res false (n+1) (sc++[(n:Int)]) b n1 sc1->TB sg vs res l n1 sc ss n' sc'->TB sg vs res l n sc (⟨[102,111,114],n,0,[x,y],b,[],a⟩::ss) n' sc'
 | ret {n sc x a}:TX vs sc x->res ≠ 0->HX x.cE res->TB sg vs res true n sc [⟨[114,101,116,117,114,110],-1,0,[x],[],[],a⟩] n sc
 | retc {n sc f ps xs a}:sg f res ps->res ≠ 0->AB vs sc ps xs->TB sg vs res true n sc [⟨[99,97,108,108],-2,f,xs,[],[],a⟩] n sc
section
variable {vs vs':List aY} {sc sc':List Int}
theorem vZ {α:Type} {l l':List α} (h:l <+: l') {i:Int} {x:α} (e:cJ l i=some x):cJ l' i=some x:=by
 obtain ⟨r,rfl⟩:=h;unfold cJ at e ⊢
 split at e
 ·rename_i h0;rw [if_pos h0,List.getElem?_append_left (List.getElem?_eq_some_iff.1 e).1];exact e
 ·cases e
theorem zG {α:Type} {l l':List α} (h:l <+: l') {i:Nat} {x:α} (e:l[i]? = some x):l'[i]? = some x:=by
 obtain ⟨r,rfl⟩:=h;rw [List.getElem?_append_left (List.getElem?_eq_some_iff.1 e).1];exact e
theorem TX.mono (hv:vs <+: vs') (hs:∀v ∈ sc,v ∈ sc') {x:aG} (h:TX vs sc x):TX vs' sc' x:=by
 induction h with
 | num=>exact .num
 | var h1 h2 h3=>exact .var (hs _ h1) (vZ hv h2) h3
 | index h1 h2 h3 _ h5 h6 ih=>exact .index (hs _ h1) (vZ hv h2) h3 ih h5 h6
 | un h1 _ ih=>exact .un h1 ih
 | bin _ _ h ih1 ih2=>exact .bin ih1 ih2 h
 | sel _ _ _ h1 h2 ih1 ih2 ih3=>exact .sel ih1 ih2 ih3 h1 h2
 | long _ h ih=>exact .long ih h
 | wide _ _ h1 h2 ih1 ih2=>exact .wide ih1 ih2 h1 h2
 | half h1 _ h2 ih=>exact .half h1 ih h2
theorem Cg.mono (hv:vs <+: vs') (hs:∀v ∈ sc,v ∈ sc') {p:aY} {x:aG} (h:Cg vs sc p x):Cg vs' sc' p x:=by
 cases h with
 | arr h1 h2 h3 h4 h5=>exact .arr h1 (hs _ h2) (vZ hv h3) h4 h5
 | pub h1 h2 h3=>exact .pub h1 (h2.mono hv hs) h3
 | val h1 h2 h3 h4=>exact .val h1 h2 (h3.mono hv hs) h4
theorem AB.mono (hv:vs <+: vs') (hs:∀v ∈ sc,v ∈ sc') {ps:List aY} {l:List aG} (h:AB vs sc ps l):AB vs' sc' ps l:=⟨h.1,fun i p x h1 h2=>(h.2 i p x h1 h2).mono hv hs⟩
theorem Bf (a b:Int):sZ a b=0 ∨ 1<=sZ a b/\sZ a b<=3:=by
 unfold sZ
 repeat' split <;> omega
theorem TX.range (hv:∀v ∈ vs,Bh v) {x:aG} (h:TX vs sc x):1<=x.cE/\x.cE<=3:=by
 induction h with
 | num=>exact ⟨by simp only;decide,by simp only;decide⟩
 | @var v u a h1 h2 h3=>
   have hm:u ∈ vs:=by
    unfold cJ at h2
    split at h2
    ·exact List.mem_of_getElem? h2
    ·cases h2
   have:=hv u hm;exact ⟨this.1,by have:=this.2.1;simp only;omega⟩
 | index _ _ _ _ _ _ _=>exact ⟨by simp only;decide,by simp only;decide⟩
 | un _ _ ih=>exact ih
 | @bin o x y t a _ _ hb ih1 ih2=>
   have:=Bf x.cE y.cE;simp only
   rcases hb with ⟨_,_,_,h⟩ | ⟨_,_,_,h⟩ | ⟨_,h,_,h0⟩ | ⟨_,h0,h⟩ | ⟨_,h,h0⟩
   ·omega
   ·omega
   ·omega
   ·split at h <;> omega
   ·omega
 | @sel c x y a _ _ _ _ h _ _ _=>
   have:=Bf x.cE y.cE;simp only;unfold Ed
   split <;> omega
 | long _ _ _=>exact ⟨by simp only;decide,by simp only;decide⟩
 | wide _ _ _ _ _ _=>exact ⟨by simp only;decide,by simp only;decide⟩
 | half _ _ _ _=>exact ⟨by simp only;decide,by simp only;decide⟩
variable {sg sg':JH} {res:Int} {l:Bool} {n n':Nat} {ss:List aH}
theorem TB.mono (hg:∀k r ps,sg k r ps->sg' k r ps) (hv:vs <+: vs') (h:TB sg vs res l n sc ss n' sc'):TB sg' vs' res l n sc ss n' sc':=by
 have hs:∀ {sc:List Int} v,v ∈ sc->v ∈ sc:=fun _ h=>h
 induction h with
 | nil=>exact .nil
 | let_ h1 h2 h3 h4 _ ih=>exact .let_ (h1.mono hv hs) h2 (zG hv h3) h4 ih
 | var_ h1 h3 h4 _ ih=>exact .var_ (h1.mono hv hs) (zG hv h3) h4 ih
 | arr h3 h4 _ ih=>exact .arr (zG hv h3) h4 ih
 | callv h1 h2 h3 h4 h5 _ ih=>exact .callv (hg _ _ _ h1) (h2.mono hv hs) h3 (zG hv h4) h5 ih
 | set h1 h2 h3 h4 h5 _ ih=>exact .set h1 (vZ hv h2) h3 (h4.mono hv hs) h5 ih
 | calls h1 h2 h3 h4 h5 h6 _ ih=>exact .calls h1 (vZ hv h2) h3 (hg _ _ _ h4) (h5.mono hv hs) h6 ih
 | put h1 h2 h3 h4 h5 h6 h7 h8 _ ih=>exact .put h1 (vZ hv h2) h3 (h4.mono hv hs) h5 h6 (h7.mono hv hs) h8 ih
 | do_ h1 h2 _ ih=>exact .do_ (hg _ _ _ h1) (h2.mono hv hs) ih
 | if_ h1 h2 _ _ _ ih1 ih2 ih3=>exact .if_ (h1.mono hv hs) h2 ih1 ih2 ih3
 | for_ h1 h2 h3 h4 h5 h6 _ _ ih1 ih2=>exact .for_ (h1.mono hv hs) h2 (h3.mono hv hs) h4 (zG hv h5) h6 ih1 ih2
 | ret h1 h2 h3=>exact .ret (h1.mono hv hs) h2 h3
 | retc h1 h2 h3=>exact .retc (hg _ _ _ h1) h2 (h3.mono hv hs)
theorem TB.app {n1:Nat} {sc1:List Int} {xs ys:List aH} {l0:Bool} (h:TB sg vs res l0 n sc xs n1 sc1) (h0:l0=false) (k:TB sg vs res l n1 sc1 ys n' sc'):TB sg vs res l n sc (xs++ys) n' sc':=by
 induction h with
 | nil=>exact k
 | let_ h1 h2 h3 h4 _ ih=>exact .let_ h1 h2 h3 h4 (ih h0 k)
 | var_ h1 h3 h4 _ ih=>exact .var_ h1 h3 h4 (ih h0 k)
 | arr h3 h4 _ ih=>exact .arr h3 h4 (ih h0 k)
 | callv h1 h2 h3 h4 h5 _ ih=>exact .callv h1 h2 h3 h4 h5 (ih h0 k)
 | set h1 h2 h3 h4 h5 _ ih=>exact .set h1 h2 h3 h4 h5 (ih h0 k)
 | calls h1 h2 h3 h4 h5 h6 _ ih=>exact .calls h1 h2 h3 h4 h5 h6 (ih h0 k)
 | put h1 h2 h3 h4 h5 h6 h7 h8 _ ih=>exact .put h1 h2 h3 h4 h5 h6 h7 h8 (ih h0 k)
 | do_ h1 h2 _ ih=>exact .do_ h1 h2 (ih h0 k)
 | if_ h1 h2 h3 h4 _ _ _ ih3=>exact .if_ h1 h2 h3 h4 (ih3 h0 k)
 | for_ h1 h2 h3 h4 h5 h6 h7 _ _ ih2=>exact .for_ h1 h2 h3 h4 h5 h6 h7 (ih2 h0 k)
 | ret h1 h2 h3=>cases h0
 | retc h1 h2 h3=>cases h0
end
end Go.Proofs.YtncembphlfbgoaaDoor.Abs
namespace Go.Proofs.YtncembphlfbgoaaDoor.Abs
open Go.RowKit
set_option linter.unusedVariables false
def DO (w:aF) (b:Bool) (k a:Int):aF:=if b=true then w else if (w.e_ == (0:Int))=true then ⟨k,a⟩ else w
theorem kO {c:aD} {w:aF} {b:Bool} {k a:Int}:aR c w b k a=some (DO w b k a):=by
 unfold aR mI DO;cases b
 ·simp only [Bool.not_false,if_true,Bool.false_eq_true,if_false]
  split <;> rfl
 ·simp
theorem eA {w:aF} {b:Bool} {k a:Int} (hk:k ≠ 0) (h:(DO w b k a).e_=0):w.e_=0/\b=true/\DO w b k a=w:=by
 unfold DO at h ⊢;cases b
 ·simp only [Bool.false_eq_true,if_false] at h ⊢
  split at h
  ·exact absurd h hk
  ·rename_i h2;simp at h2;exact absurd h h2
 ·exact ⟨by simpa using h,rfl,by simp⟩
theorem IM {w:aF} {b:Bool} {k a:Int} (hk:k ≠ 0) (h:w.e_ ≠ 0):(DO w b k a).e_ ≠ 0:=fun h2=>h (eA hk h2).1
def oB (c:aD):List aY:=((c.p_.aS[c.f_.toNat]?).map aO.bR).getD []
structure CI (N B:Nat) (c:aD):Prop where
 nf:c.p_.aS.length=N
 nN:N<=16384
 f0:0<=c.f_
 f1:c.f_<N
 a0:0<=c.fC
 a1:c.fC<N
 sc:∀v ∈ c.aX,0<=v/\v<(oB c).length
 sl:c.aX.length<=(oB c).length
 vl:∀f ∈ c.p_.aS,f.bR.length<=250/\0<=f.bI/\f.bI<=f.bR.length
 nc:c.bO.length=N
 cl:∀l ∈ c.bO,l.length<=B/\∀k ∈ l,0<=k/\k<N
 ki:∀f ∈ c.p_.aS,(∀v ∈ f.bR,Bh v)/\(f.cR=0 ∨ f.cR=2 ∨ f.cR=3)
section
variable {N B n:Nat} {c:aD} {w:aF} {s:cD}
theorem CI.cur (h:CI N B c):∃f,c.p_.aS[c.f_.toNat]? = some f/\f ∈ c.p_.aS/\oB c=f.bR/\cJ c.p_.aS c.f_=some f:=by
 have hl:c.f_.toNat<c.p_.aS.length:=by have:=h.nf;have:=h.f0;have:=h.f1;omega
 refine ⟨c.p_.aS[c.f_.toNat],List.getElem?_eq_getElem hl,List.getElem_mem _,?_,?_⟩
 ·unfold oB;rw [List.getElem?_eq_getElem hl];rfl
 ·unfold cJ;rw [if_pos h.f0,List.getElem?_eq_getElem hl]
theorem CI.vs (h:CI N B c):(oB c).length<=250:=by
 obtain ⟨f,_,hm,e,_⟩:=h.cur;rw [e];exact (h.vl f hm).1
theorem jZ {α:Type} {l:List α} {i:Int} (h0:0<=i) (h1:i<l.length):∃x,cJ l i=some x/\l[i.toNat]? = some x/\x ∈ l:=by
 have hl:i.toNat<l.length:=by omega
 exact ⟨l[i.toNat],by unfold cJ;rw [if_pos h0,List.getElem?_eq_getElem hl],List.getElem?_eq_getElem hl,List.getElem_mem _⟩
theorem find_l1 (h:CI N B c):∀(k:Nat) (v:Int),v<k->-1<=v->v<c.aX.length->∃r,fW c s (k+1) v=some r/\(r=.inl () ∨ ∃i x,r=.inr i/\i ∈ c.aX/\(oB c)[i.toNat]? = some x/\x.gI=s):=by
 obtain ⟨f,hf,hm,hv,hfi⟩:=h.cur;intro k
 induction k with
 | zero=>
   intro v h1 h2 h3;have:v=-1:=by omega
   subst this;exact ⟨_,rfl,.inl rfl⟩
 | succ k ih=>
   intro v h1 h2 h3;unfold fW
   by_cases h0:0<=v
   ·rw [if_pos (decide_eq_true h0),hfi];obtain ⟨i,e1,_,hi⟩:=jZ h0 h3;obtain ⟨g0,g1⟩:=h.sc i hi;rw [hv] at g1;obtain ⟨x,e2,e3,_⟩:=jZ g0 g1;simp only [Option.bind_some,e1,e2]
    by_cases hn:x.gI=s
    ·rw [if_pos (decide_eq_true hn)];exact ⟨_,rfl,.inr ⟨i,x,rfl,hi,by rw [hv];exact e3,hn⟩⟩
    ·rw [if_neg (by simpa using hn)];have hl:c.aX.length<=250:=Nat.le_trans h.sl h.vs;rw [fQ (by omega) (by omega)];exact ih (v - 1) (by omega) (by omega) (by omega)
   ·rw [if_neg (by simpa using h0)];exact ⟨_,rfl,.inl rfl⟩
theorem EF (h:CI N B c) (hn:300<n):bU (iX n c w s) fun r=>r=-1 ∨ ∃x,r ∈ c.aX/\(oB c)[r.toNat]? = some x/\x.gI=s:=by
 have hl:c.aX.length<=250:=Nat.le_trans h.sl h.vs;unfold iX;obtain ⟨m,rfl⟩:∃m,n=m+1:=⟨n - 1,by omega⟩;rw [fQ (by omega) (by omega)];obtain ⟨r,e,hr⟩:=find_l1 (s:=s) h m ((c.aX.length:Int) - 1) (by omega) (by omega) (by omega);rw [e]
 rcases hr with rfl | ⟨i,x,rfl,h1,h2,h3⟩
 ·exact ⟨_,rfl,.inl rfl⟩
 ·exact ⟨_,rfl,.inr ⟨x,h1,h2,h3⟩⟩
theorem wA (h:CI N B c) (hn:300<n) {x:Nd}:bU (fI n c w x) fun r=>(r.1=-1 ∨ 0<=r.1/\r.1<(oB c).length)/\(w.e_ ≠ 0->r.2.e_ ≠ 0)/\(r.2.e_=0->r.2=w/\∃v,r.1 ∈ c.aX/\0<=r.1/\(oB c)[r.1.toNat]? = some v/\v.gI=x.bP):=by
 unfold fI;refine (EF (w:=w) (s:=x.bP) h hn).bind fun v hv=>?_;rw [kO];refine .some ⟨?_,IM (by decide),fun he=>?_⟩
 ·rcases hv with rfl | ⟨y,h1,_,_⟩
  ·exact .inl rfl
  ·exact .inr (h.sc _ h1)
 ·obtain ⟨_,k2,k3⟩:=eA (by decide) he;have hv0:0<=v:=of_decide_eq_true k2
  rcases hv with rfl | ⟨y,h1,h2,h3⟩
  ·exact absurd hv0 (by decide)
  ·exact ⟨k3,y,h1,hv0,h2,h3⟩
theorem sY (h:CI N B c) {v:Int} (hv:v=-1 ∨ 0<=v/\v<(oB c).length):bU (eE c w v) fun k=>v=-1/\k=0 ∨ 0<=v/\∃x,(oB c)[v.toNat]? = some x/\k=x.bN:=by
 unfold eE
 rcases hv with rfl | ⟨h0,h1⟩
 ·exact .some (.inl ⟨rfl,rfl⟩)
 ·rw [if_neg (by simp;omega)];obtain ⟨f,_,_,hvs,hfi⟩:=h.cur;rw [hfi];rw [hvs] at h1 ⊢;obtain ⟨x,e1,e2,_⟩:=jZ h0 h1;simp only [Option.bind_some,e1];exact .some (.inr ⟨h0,x,e2,rfl⟩)
def GQ (f:aO):aO:={ f with bR:=[],eR:=[] }
structure Kp (c c':aD):Prop where
 f:c'.f_=c.f_
 a:c'.fC=c.fC
 s:c.aX <+: c'.aX
 v:oB c <+: oB c'
 o:∀i,i ≠ c.f_.toNat->c'.p_.aS[i]? = c.p_.aS[i]?
 g:c'.p_.aS.map GQ=c.p_.aS.map GQ
 k:∀j:Nat,j ≠ c.fC.toNat->c'.bO[j]? = c.bO[j]?
 l:∀l,cJ c.bO c.fC=some l->∃l',cJ c'.bO c.fC=some l'/\l <+: l'
theorem Kp.refl (c:aD):Kp c c:=⟨rfl,rfl,List.prefix_refl _,List.prefix_refl _,fun _ _=>rfl,rfl,fun _ _=>rfl,fun l e=>⟨l,e,List.prefix_refl _⟩⟩
theorem Kp.trans {c1 c2 c3:aD} (h:Kp c1 c2) (k:Kp c2 c3):Kp c1 c3:=⟨k.f.trans h.f,k.a.trans h.a,h.s.trans k.s,h.v.trans k.v,fun i hi=>(k.o i (by rw [h.f];exact hi)).trans (h.o i hi),k.g.trans h.g,fun j hj=>(k.k j (by rw [h.a];exact hj)).trans (h.k j hj),fun l e=>by
 obtain ⟨l1,e1,p1⟩:=h.l l e;obtain ⟨l2,e2,p2⟩:=k.l l1 (by rw [h.a];exact e1);exact ⟨l2,by rw [←h.a];exact e2,p1.trans p2⟩⟩
theorem oG (h:CI N B c) (hn:300<n) {x:aY} {a:Int} (hx:w.e_=0->Bh x):bU (dH n c w x a) fun r=>CI N B r.2.1/\Kp c r.2.1/\r.2.1.bO=c.bO/\(w.e_ ≠ 0->r.2.2.e_ ≠ 0)/\(r.2.2.e_=0->r.2.2=w/\r.1=(oB c).length/\oB r.2.1=oB c++[x]/\r.2.1.aX=c.aX++[((oB c).length:Int)])/\(r.1=-1 ∨ 0<=r.1/\r.1<(oB r.2.1).length):=by
 unfold dH;refine (EF (w:=w) (s:=x.gI) h hn).bind fun v hv=>?_;obtain ⟨f,hf,hm,hvs,hfi⟩:=h.cur;rw [kO,hfi];simp only [Option.bind_some,kO];refine bU.iteb (fun he=>?_) fun he=>?_
 ·simp only [bne_iff_ne] at he;exact .some ⟨h,.refl c,rfl,fun _=>he,fun h2=>absurd h2 he,.inl rfl⟩
 ·simp only [bne_eq_false_iff_eq] at he;obtain ⟨k1,k2,k3⟩:=eA (by decide) he;obtain ⟨j1,j2,j3⟩:=eA (by decide) k1;have hlt:(f.bR.length:Int)<250:=of_decide_eq_true k2;have hsl:=h.sl;rw [hvs] at hsl;refine bU.need (by omega) (bU.need (by omega) ?_);have hl:c.f_.toNat<c.p_.aS.length:=by have:=h.nf;have:=h.f0;have:=h.f1;omega
  have hv2:oB { c with p_:=⟨c.p_.aS.set c.f_.toNat { f with bR:=f.bR++[x] }⟩,aX:=c.aX++[(f.bR.length:Int)] }=f.bR++[x]:=by
   unfold oB;simp only;rw [List.getElem?_set_self hl];rfl
  refine .some ⟨⟨by simp only [List.length_set];exact h.nf,h.nN,h.f0,h.f1,h.a0,h.a1,?_,?_,?_,h.nc,h.cl,?_⟩,⟨rfl,rfl,List.prefix_append _ _,?_,fun i hi=>?_,?_,fun _ _=>rfl,fun l e=>⟨l,e,List.prefix_refl _⟩⟩,rfl,fun hw=>absurd j1 hw,fun _=>⟨by rw [k3,j3],by rw [hvs],by rw [hv2,hvs],by rw [hvs]⟩,.inr ⟨by omega,?_⟩⟩
  ·intro u hu;rw [hv2]
   rcases List.mem_append.1 hu with hu | hu
   ·have:=h.sc u hu;rw [hvs] at this;simp only [List.length_append,List.length_singleton];omega
   ·obtain rfl:=List.mem_singleton.1 hu;simp only [List.length_append,List.length_singleton];omega
  ·rw [hv2];simp only [List.length_append,List.length_singleton];omega
  ·intro g hg
   rcases List.mem_or_eq_of_mem_set hg with hg | rfl
   ·exact h.vl g hg
   ·have:=h.vl f hm;simp only [List.length_append,List.length_singleton];omega
  ·intro g hg
   rcases List.mem_or_eq_of_mem_set hg with hg | rfl
   ·exact h.ki g hg
   ·refine ⟨fun v hv=>?_,(h.ki f hm).2⟩
    rcases List.mem_append.1 hv with hv | hv
    ·exact (h.ki f hm).1 v hv
    ·obtain rfl:=List.mem_singleton.1 hv;exact hx j1
  ·rw [hv2,hvs];exact List.prefix_append _ _
  ·exact List.getElem?_set_ne (Ne.symm hi)
  ·show List.map GQ (c.p_.aS.set c.f_.toNat _)=_;rw [List.map_set];refine List.ext_getElem? fun i=>?_
   by_cases e:c.f_.toNat=i
   ·subst e;rw [List.getElem?_set_self (by rw [List.length_map];exact hl),List.getElem?_map,hf];rfl
   ·rw [List.getElem?_set_ne e]
  ·rw [hv2];simp only [List.length_append,List.length_singleton];omega
def sgC (c:aD):JH:=fun k r ps=>(∃l,cJ c.bO c.fC=some l/\k ∈ l)/\∃f,cJ c.p_.aS k=some f/\r=f.cR/\ps=f.bR.take f.bI.toNat
theorem Kp.fn {c':aD} (h:CI N B c) (k:Kp c c') {i:Int} {f:aO} (e:cJ c.p_.aS i=some f):∃f',cJ c'.p_.aS i=some f'/\f'.gI=f.gI/\f'.eJ=f.eJ/\f'.cR=f.cR/\f'.bI=f.bI/\f.bR <+: f'.bR/\(i ≠ c.f_->f'=f):=by
 unfold cJ at e ⊢
 split at e
 ·rename_i h0;rw [if_pos h0]
  by_cases hi:i=c.f_
  ·subst hi;obtain ⟨f2,e2,hm2,hv2,_⟩:=h.cur;rw [e] at e2;cases e2
   have hlen:c.p_.aS.length=c'.p_.aS.length:=by simpa using (congrArg List.length k.g).symm
   have hlt:=(List.getElem?_eq_some_iff.1 e).1;have e3:c'.p_.aS[c.f_.toNat]? = some (c'.p_.aS[c.f_.toNat]'(by omega)):=List.getElem?_eq_getElem _
   have hs:GQ (c'.p_.aS[c.f_.toNat]'(by omega))=GQ f:=by
    have:=congrArg (fun l=>l[c.f_.toNat]?) k.g;simp only [List.getElem?_map,e3,e,Option.map_some,Option.some.injEq] at this;exact this
   have hv:oB c'=(c'.p_.aS[c.f_.toNat]'(by omega)).bR:=by
    unfold oB;rw [k.f,e3];rfl
   have hp:=k.v;rw [hv2,hv] at hp;simp only [GQ,aO.mk.injEq] at hs;exact ⟨_,e3,hs.1,hs.2.1,hs.2.2.1,hs.2.2.2.1,hp,fun h=>absurd rfl h⟩
  ·refine ⟨f,?_,rfl,rfl,rfl,rfl,List.prefix_refl _,fun _=>rfl⟩;rw [k.o _ (by have:=h.f0;omega)];exact e
 ·cases e
def Di (c:aD):Int:=((c.p_.aS[c.f_.toNat]?).map aO.cR).getD 0
theorem CI.res (h:CI N B c) {f:aO} (e:cJ c.p_.aS c.f_=some f):Di c=f.cR:=by
 unfold cJ at e;rw [if_pos h.f0] at e;unfold Di;rw [e];rfl
theorem Kp.res {c':aD} (h:CI N B c) (k:Kp c c'):Di c'=Di c:=by
 obtain ⟨f,_,_,_,e⟩:=h.cur;obtain ⟨f',e',_,_,hr,_⟩:=k.fn h e;rw [h.res e,←hr];unfold cJ at e';rw [if_pos h.f0] at e';unfold Di;rw [k.f,e'];rfl
theorem CI.vsOk (h:CI N B c):∀v ∈ oB c,Bh v:=by
 obtain ⟨f,_,hm,e,_⟩:=h.cur;rw [e];exact (h.ki f hm).1
theorem BA {α:Type} {l l':List α} (h:l <+: l') {n:Nat} (hn:n<=l.length):l'.take n=l.take n:=by
 obtain ⟨r,rfl⟩:=h;exact List.take_append_of_le_length hn
theorem Kp.sg {c':aD} (h:CI N B c) (k:Kp c c') {i r:Int} {ps:List aY} (e:sgC c i r ps):sgC c' i r ps:=by
 obtain ⟨⟨l,e1,hl⟩,f,e2,rfl,rfl⟩:=e;obtain ⟨l',e3,hp⟩:=k.l l e1;obtain ⟨f',e4,_,_,hr,hps,hv,_⟩:=k.fn h e2
 have hm:f ∈ c.p_.aS:=by
  unfold cJ at e2
  split at e2
  ·exact List.mem_of_getElem? e2
  ·cases e2
 have:=h.vl f hm;refine ⟨⟨l',by rw [k.a];exact e3,hp.subset hl⟩,f',e4,hr.symm,?_⟩;rw [hps,BA hv (by omega)]
end
end Go.Proofs.YtncembphlfbgoaaDoor.Abs
namespace Go.Proofs.YtncembphlfbgoaaDoor.Abs
open Go.RowKit
set_option linter.unusedVariables false
def Ib (c:aD) (w:aF) (x:aA) (r:aG × aF):Prop:=r.2.e_=0->r.2=w/\TX (oB c) c.aX r.1/\(xz r.1:Int)<=sz x
def WK (w w':aF):Prop:=w'.e_=0->w'=w
theorem WK.refl (w:aF):WK w w:=fun _=>rfl
theorem WK.trans {a b c:aF} (h:WK a b) (k:WK b c):WK a c:=fun e=>by
 have h2:=k e;subst h2;exact h e
theorem WK.nd {w:aF} {b:Bool} {k a:Int} (hk:k ≠ 0:=by decide):WK w (DO w b k a):=fun e=>(eA hk e).2.2
theorem BT {a b:Int}:bU (oO a b) fun r=>r=sZ a b:=by
 unfold oO sZ;simp only [beq_iff_eq,decide_eq_true_eq]
 repeat' split
 all_goals first | exact .some (by omega) | (simp only [Option.bind_some,decide_eq_true_eq,beq_iff_eq,Bool.false_eq_true,if_false,if_true];repeat' split) 
 all_goals first | exact .some (by omega) | (exfalso;omega)
theorem wJ {a:Int}:bU (mK a) fun r=>r=true->ScT a:=by
 unfold mK;refine bU.bind (P:=fun r=>r=true->ScT a) (bU.iteb (fun h=>.some fun _=>.inl (by simpa using h)) fun _=>.some fun h=>.inr (by simpa using h)) fun b h=>.some h
theorem BF {a:Int}:bU (oN a) fun r=>r=Ed a:=by
 unfold oN Ed;simp only [beq_iff_eq]
 split <;> exact .some rfl
theorem Az {a b:Int}:bU (oI a b) fun r=>r=true->HX a b:=by
 unfold oI;refine bU.bind (P:=fun r=>r=true->HX a b) (bU.iteb (fun h=>.some fun _=>.inl (by simpa using h)) fun _=>bU.iteb (fun h=>.some fun h2=>.inr ⟨by simpa using h,by simpa using h2⟩) fun _=>.some fun h=>nomatch h) fun b h=>.some h
theorem CA {a:Int}:bU (pQ a) fun r=>r=true->xG a:=by
 unfold pQ xG;refine bU.bind (P:=fun r=>r=true->xG a) ?_ fun b h=>.some h;unfold xG;simp only [decide_eq_true_eq]
 have ht:∀ {b:Bool},255<a->a<=1024->b=(a.tmod 4 == 0)->bU (some b) fun r=>r=true->(1<=a/\a<=255 ∨ 255<a/\a<=1024/\a % 4=0):=fun h1 h2 h3=>.some fun h=>.inr ⟨h1,h2,by
  rw [h3,beq_iff_eq,Int.tmod_eq_emod_of_nonneg (by omega)] at h;exact h⟩
 repeat' split
 all_goals first | exact .some fun h=>Bool.noConfusion h | exact .some fun _=>.inl ⟨‹_›,‹_›⟩ | exact ht (by omega) (by omega) rfl
section
variable {N B n:Nat} {c:aD} {w:aF}
theorem pL {x:aG} {k:Int}:bU (bY c w x k) fun r=>WK w r.2/\r.1={ x with cE:=k }/\(r.2.e_=0->k ≠ 0):=by
 unfold bY;rw [kO];refine .some ⟨.nd,rfl,fun e=>?_⟩;have:=(eA (by decide) e).2.1;simpa using this
theorem GR {x y z:aG}:bU (fO c w x y z) fun r=>WK w r.2/\r.1={ x with cE:=y.cE }/\(r.2.e_=0->z.cE=1/\(y.cE=3->z.nJ=[110,117,109]/\z.N_<=63)/\y.cE ≠ 0):=by
 unfold fO;rw [kO];simp only [Option.bind_some];refine bU.iteb (fun h3=>?_) (fun h3=>?_)
 ·refine bU.bind (P:=fun w'=>WK w w'/\(w'.e_=0->z.cE=1/\z.nJ=[110,117,109]/\z.N_<=63)) ?_ fun w' hw=>?_
  ·refine bU.iteb (fun ho=>?_) (fun _=>?_)
   ·rw [kO];refine .some ⟨(WK.nd).trans WK.nd,fun e=>?_⟩;obtain ⟨k1,k2,_⟩:=eA (by decide) e;obtain ⟨_,j2,_⟩:=eA (by decide) k1;exact ⟨by simpa using j2,by simpa using ho,by simpa using k2⟩
   ·rw [kO];exact .some ⟨(WK.nd).trans WK.nd,fun e=>by have:=(eA (by decide) e).2.1;cases this⟩
  ·refine (pL (c:=c)).bind fun r hr=>.some ⟨hw.1.trans hr.1,hr.2.1,fun e=>?_⟩;obtain ⟨q1,q2⟩:=hw.2 (by rw [←hr.1 e];exact e);exact ⟨q1,fun _=>q2,hr.2.2 e⟩
 ·refine (pL (c:=c)).bind fun r hr=>.some ⟨(WK.nd).trans hr.1,hr.2.1,fun e=>?_⟩;obtain ⟨_,j2,_⟩:=eA (k:=133) (by decide) (by rw [←hr.1 e];exact e);exact ⟨by simpa using j2,fun h=>absurd h (by simpa using h3),hr.2.2 e⟩
theorem FM {x:aG} {x0 x1 x2:aG} (h:x.aN=[x0,x1,x2]):bU (jP c w x) fun k=>k ≠ 0->ScT x0.cE/\sZ x1.cE x2.cE ≠ 0/\k=Ed (sZ x1.cE x2.cE):=by
 unfold jP;rw [h];refine bU.eqn (v:=x1) rfl (bU.eqn (v:=x2) rfl (BT.bind fun k hk=>?_));refine bU.bind (P:=fun b=>b=false->ScT x0.cE/\k ≠ 0) ?_ fun b hb=>?_
 ·refine bU.eqn (v:=x0) rfl (wJ.bind fun b hb=>bU.iteb (fun _=>.some fun h=>nomatch h) fun h=>.some fun h2=>⟨hb (by simpa using h),by simpa using h2⟩)
 ·refine bU.iteb (fun _=>.some fun h=>absurd rfl h) (fun h=>?_);exact BF.bind fun r hr=>.some fun _=>⟨(hb h).1,hk ▸ (hb h).2,hk ▸ hr⟩
theorem wC {s:cD} {k:Nat} {i:Int} {x:aZ} (h:i<5) (e:cJ cG i=some x):lV s (k+1) i=if x.Eo=s then some (.inr x.Gx) else lV s k (IntKind.i64.wrap (i+1)):=by
 rw [lV,if_pos (decide_eq_true h),e];simp only [Option.bind_some,decide_eq_true_eq]
theorem AS {s:cD} (hn:6<n):bU (pH n s) fun v=>0<=v/\v<=3/\(s=[115,101,108,101,99,116]->v=3)/\(s=[119,105,100,101]->v=2)/\(0<v->s=[115,101,108,101,99,116] ∨ s=[108,111,110,103]/\v=1 ∨ s=[108,111]/\v=1 ∨ s=[104,105]/\v=1 ∨ s=[119,105,100,101]):=by
 obtain ⟨m,rfl⟩:∃m,n=m+6:=⟨n - 6,by omega⟩;unfold pH;rw [wC (i:=0) (x:=aZ.mk [115,101,108,101,99,116] 3) (by decide) rfl]
 split
 ·rename_i h;subst h;exact .some ⟨by decide,by decide,fun _=>rfl,fun h=>absurd h (by decide),fun _=>.inl rfl⟩
 rename_i h0;rw [show IntKind.i64.wrap (0+1)=1 from by decide,wC (i:=1) (x:=aZ.mk [108,111,110,103] 1) (by decide) rfl]
 split
 ·rename_i h;subst h;exact .some ⟨by decide,by decide,fun h=>absurd h (by decide),fun h=>absurd h (by decide),fun _=>.inr (.inl ⟨rfl,rfl⟩)⟩
 rw [show IntKind.i64.wrap (1+1)=2 from by decide,wC (i:=2) (x:=aZ.mk [108,111] 1) (by decide) rfl]
 split
 ·rename_i h;subst h;exact .some ⟨by decide,by decide,fun h=>absurd h (by decide),fun h=>absurd h (by decide),fun _=>.inr (.inr (.inl ⟨rfl,rfl⟩))⟩
 rw [show IntKind.i64.wrap (2+1)=3 from by decide,wC (i:=3) (x:=aZ.mk [104,105] 1) (by decide) rfl]
 split
 ·rename_i h;subst h;exact .some ⟨by decide,by decide,fun h=>absurd h (by decide),fun h=>absurd h (by decide),fun _=>.inr (.inr (.inr (.inl ⟨rfl,rfl⟩)))⟩
 rw [show IntKind.i64.wrap (3+1)=4 from by decide,wC (i:=4) (x:=aZ.mk [119,105,100,101] 2) (by decide) rfl]
 split
 ·rename_i h;subst h;exact .some ⟨by decide,by decide,fun h=>absurd h (by decide),fun _=>rfl,fun _=>.inr (.inr (.inr (.inr rfl)))⟩
 rename_i h4;rw [show IntKind.i64.wrap (4+1)=5 from by decide];exact .some ⟨by decide,by decide,fun h=>absurd h.symm h0,fun h=>absurd h.symm h4,fun h=>absurd h (by decide)⟩
end
def JQ (N B n:Nat) (f:aD->aF->aA->Option (aG × aF)):Prop:=∀c w x,CI N B c->WE x->sz x<=20000->3*sz x+301<=n->bU (f c w x) (Ib c w x)
def Bq (N B n:Nat) (K:Int) (f:aD->aF->aA->aG->Option (aG × aF)):Prop:=∀c w x y,CI N B c->WE x->x.bN=K->sz x<=20000->3*sz x+300<=n->(∃a,y=⟨[],0,0,-1,[],a⟩)->bU (f c w x y) (Ib c w x)
def JR (N B n:Nat) (f:aD->aF->(List aA)->Option ((List aG) × aF)):Prop:=∀c w xs,CI N B c->(∀x ∈ xs,WE x)->pB xs<=20000->3*pB xs+302<=n->bU (f c w xs) fun r=>WK w r.2/\r.1.length=xs.length/\(r.2.e_=0->∀y ∈ r.1,TX (oB c) c.aX y)/\(r.2.e_=0->(wE r.1:Int)<=pB xs)
section
variable {N B n:Nat} {c:aD} {w:aF}
theorem call_l1 {m:Nat} {xs:List Nd} {fe:aD->aF->aA->Option (aG × aF)} (hf:JQ N B m fe) (h:CI N B c) (hx:∀x ∈ xs,WE x) (hs:pB xs<=20000) (hm:3*pB xs+301<=m) :
  ∀(k v:Nat) (ys:List aG) (w:aF),xs.length<v+k->v<=xs.length->ys.length=v->(w.e_=0->∀y ∈ ys,TX (oB c) c.aX y)->bU (gE fe xs c k ys (v:Int) w) fun r=>WK w r.2/\r.1.length=xs.length/\(r.2.e_=0->∀y ∈ r.1,TX (oB c) c.aX y)/\(r.2.e_=0->(wE r.1:Int)<=wE ys+pB (xs.drop v)):=by
 intro k
 induction k with
 | zero=>intro v ys w h1 h2 h3;omega
 | succ k ih=>
   intro v ys w h1 h2 h3 h4;unfold gE;have hg:=kU xs
   by_cases hv:v<xs.length
   ·rw [if_pos (decide_eq_true (by omega))];obtain ⟨x,e,ex,hxm⟩:=jZ (l:=xs) (i:=(v:Int)) (by omega) (by omega)
    have hd:xs.drop v=x::xs.drop (v+1):=by
     rw [Int.toNat_natCast] at ex;obtain ⟨hlt,rfl⟩:=List.getElem?_eq_some_iff.1 ex;exact List.drop_eq_getElem_cons hlt
    rw [e];simp only [Option.bind_some];have hsz:=BC hxm;refine (hf c w x h (hx x hxm) (by omega) (by omega)).bind fun r hr=>bU.need (by simp only [List.length_singleton];omega) ?_;rw [fQ (by omega) (by omega),show ((v:Int)+1)=((v+1:Nat):Int) by omega];refine (ih (v+1) _ _ (by omega) (by omega) (by simp only [List.length_append,List.length_singleton];omega) fun e y hy=>?_).mono fun q hq=>⟨WK.trans (fun e=>(hr e).1) hq.1,hq.2.1,hq.2.2.1,fun e=>?_⟩
    ·rcases List.mem_append.1 hy with hy | hy
     ·exact h4 (by rw [←(hr e).1];exact e) y hy
     ·obtain rfl:=List.mem_singleton.1 hy;exact (hr e).2.1
    ·have h5:=hq.2.2.2 e;have h6:=(hr (by rw [←hq.1 e];exact e)).2.2;rw [Gc,wE,wE] at h5;rw [hd,oQ];omega
   ·rw [if_neg (by simp;omega)];exact .some ⟨.refl _,by rw [h3];omega,h4,fun _=>by have:=kU (xs.drop v);simp only;omega⟩
theorem call_b {fe:aD->aF->aA->Option (aG × aF)} (hf:JQ N B n fe):JR N B (n+1) (kJ fe n):=by
 intro c w xs h hx hs hn;unfold kJ;have hg:=kU xs;exact (call_l1 hf h hx hs (by omega) n 0 [] w (by omega) (by omega) rfl fun _ y hy=>nomatch hy).bind fun r hr=>.some ⟨hr.1,hr.2.1,hr.2.2.1,fun e=>by have:=hr.2.2.2 e;rw [wE,List.drop_zero] at this;simp only;omega⟩
theorem cexpr_b {f1 f2 f3 f4:aD->aF->aA->aG->Option (aG × aF)} (h1:Bq N B n 16 f1) (h2:Bq N B n 18 f2) (h3:Bq N B n 19 f3) (h4:Bq N B n 17 f4):JQ N B (n+1) (jN f1 f2 f3 f4 n):=by
 intro c w x h hx hs hn;have hp:=mB x;unfold jN;cases hx with
 | num=>exact .some fun _=>⟨rfl,.num,by rw [Ao,wE,fA,jV];omega⟩
 | ref=>
   simp only [Int.reduceBEq,Bool.false_eq_true,if_false,if_true];refine (wA (w:=w) h (by omega)).bind fun r hr=>?_;refine (sY (w:=r.2) h hr.1).bind fun k hk=>?_;rw [kO];refine .some fun e=>?_;obtain ⟨k1,k2,k3⟩:=eA (k:=132) (by decide) e;obtain ⟨j1,u,j2,j3,j4,j5⟩:=hr.2.2 k1;refine ⟨k3.trans j1,?_,by rw [Ao,wE,fA,jV];omega⟩
   rcases hk with ⟨hm,_⟩ | ⟨_,u2,hk2,rfl⟩
   ·omega
   ·exact .var j2 (by unfold cJ;rw [if_pos j3];exact hk2) (by simpa using k2)
 | index hy=>
   simp only [Int.reduceBEq,Bool.false_eq_true,if_false,if_true];exact (h1 c w _ _ h (.index hy) rfl hs (by omega) ⟨_,rfl⟩).bind fun r hr=>.some hr
 | un hu hy=>
   simp only [Int.reduceBEq,Bool.false_eq_true,if_false,if_true];exact (h2 c w _ _ h (.un hu hy) rfl hs (by omega) ⟨_,rfl⟩).bind fun r hr=>.some hr
 | bin hl hy hz=>
   simp only [Int.reduceBEq,Bool.false_eq_true,if_false,if_true];exact (h3 c w _ _ h (.bin hl hy hz) rfl hs (by omega) ⟨_,rfl⟩).bind fun r hr=>.some hr
 | call hy=>
   simp only [Int.reduceBEq,Bool.false_eq_true,if_false];exact (h4 c w _ _ h (.call hy) rfl hs (by omega) ⟨_,rfl⟩).bind fun r hr=>.some hr
theorem WE.inv16 {x:Nd} (h:WE x) (k:x.bN=16):∃a s y,x=⟨16,a,s,0,[y]⟩/\WE y:=by
 cases h <;> first | exact ⟨_,_,_,rfl,‹_›⟩ | (simp at k)
theorem WE.inv18 {x:Nd} (h:WE x) (k:x.bN=18):∃a s y,x=⟨18,a,s,0,[y]⟩/\WE y:=by
 cases h <;> first | exact ⟨_,_,_,rfl,‹_›⟩ | (simp at k)
theorem WE.inv19 {x:Nd} (h:WE x) (k:x.bN=19):∃a s y z,x=⟨19,a,s,0,[y,z]⟩/\WE y/\WE z/\s ∈ AJ:=by
 cases h <;> first | exact ⟨_,_,_,_,rfl,‹_›,‹_›,‹_›⟩ | (simp at k)
theorem WE.inv17 {x:Nd} (h:WE x) (k:x.bN=17):∃a s xs,x=⟨17,a,s,0,xs⟩/\∀y ∈ xs,WE y:=by
 cases h <;> first | exact ⟨_,_,_,rfl,‹_›⟩ | (simp at k)
theorem cload_b {fe:aD->aF->aA->Option (aG × aF)} (hf:JQ N B n fe):Bq N B (n+1) 16 (jM fe n):=by
 rintro c w x y h hx hk hs hn ⟨ya,rfl⟩;obtain ⟨a,s,z,rfl,hz⟩:=hx.inv16 hk;rw [fA,mY] at hs hn;have hzp:=mB z;unfold jM;refine bU.eqn (v:=z) rfl ?_;refine (hf c w z h hz (by omega) (by omega)).bind fun r hr=>?_;refine (wA (w:=r.2) h (by omega)).bind fun v hv=>?_;refine (sY (w:=v.2) h hv.1).bind fun k hk=>?_;simp only [kO,Option.bind_some]
 have key:∀ {w2:aF},WK (DO (DO v.2 (k == 4) 132 a) (r.1.cE == 1) 133 r.1.eH) w2->w2.e_=0->w2=w/\(TX (oB c) c.aX r.1/\(xz r.1:Int)<=sz z)/\r.1.cE=1/\∃u,v.1 ∈ c.aX/\cJ (oB c) v.1=some u/\u.bN=4:=by
  intro w2 hw2 e;have e2:=hw2 e;subst e2;obtain ⟨k1,k2,k3⟩:=eA (k:=133) (by decide) e;obtain ⟨j1,j2,j3⟩:=eA (k:=132) (by decide) k1;obtain ⟨i1,u,i2,i3,i4,i5⟩:=hv.2.2 j1;obtain ⟨l1,l2⟩:=hr (by rw [←i1];exact j1);refine ⟨by rw [k3,j3,i1,l1],l2,by simpa using k2,u,i2,by unfold cJ;rw [if_pos i3];exact i4,?_⟩
  rcases hk with ⟨hm,_⟩ | ⟨_,u2,hk2,rfl⟩
  ·omega
  ·rw [i4] at hk2;cases hk2;simpa using j2
 refine bU.bind' (bU.iteb (fun he=>.some ?_) (fun he=>.some ?_))
 ·refine bU.iteb (fun ho=>?_) (fun ho=>.some fun e=>?_)
  ·have he2:=(eA (k:=132) (by decide) (eA (k:=133) (by decide) (by simpa using he)).1).1;obtain ⟨_,u,h1,h2,h3,h4⟩:=hv.2.2 he2;obtain ⟨f,_,hm,hvs,hfi⟩:=h.cur;rw [hfi];have hlt:=h.sc _ h1;rw [hvs] at hlt;obtain ⟨u2,e2,_,_⟩:=jZ hlt.1 hlt.2;simp only [Option.bind_some,e2];refine .some fun e=>?_;obtain ⟨g1,g2,g3,u3,g4,g5,g6⟩:=key WK.nd e;rw [hvs,e2] at g5;cases g5
   exact ⟨g1,.index g4 (by rw [hvs];exact e2) g6 g2.1 g3 fun _=>(by simpa using (eA (k:=137) (by decide) e).2.1),by rw [Ao,wE,wE,fA,mY];have:=g2.2;omega⟩
  ·obtain ⟨g1,g2,g3,u3,g4,g5,g6⟩:=key (.refl _) e;exact ⟨g1,.index g4 g5 g6 g2.1 g3 fun h=>absurd h (by simpa using ho),by rw [Ao,wE,wE,fA,mY];have:=g2.2;omega⟩
 ·refine bU.iteb (fun h=>nomatch h) (fun _=>.some fun e=>?_);exact absurd e (by simpa using he)
theorem IU {α:Type} {l:List α} (h:l.length=1):∃x,l=[x]:=by
 match l,h with
 | [x],_=>exact ⟨x,rfl⟩
theorem list2 {α:Type} {l:List α} (h:l.length=2):∃x y,l=[x,y]:=by
 match l,h with
 | [x,y],_=>exact ⟨x,y,rfl⟩
theorem list3 {α:Type} {l:List α} (h:l.length=3):∃x y z,l=[x,y,z]:=by
 match l,h with
 | [x,y,z],_=>exact ⟨x,y,z,rfl⟩
theorem Jm {fa:aD->aF->(List aA)->Option ((List aG) × aF)} (hf:JR N B n fa):Bq N B (n+1) 18 (iU fa n):=by
 rintro c w x y h hx hk hs hn ⟨ya,rfl⟩;obtain ⟨a,s,z,rfl,hz⟩:=hx.inv18 hk;rw [fA] at hs hn;unfold iU;refine (hf c w [z] h (fun u hu=>by obtain rfl:=List.mem_singleton.1 hu;exact hz) (by omega) (by omega)).bind fun r hr=>?_;obtain ⟨h1,h2,h3,h5⟩:=hr;obtain ⟨u,hu⟩:=IU h2;rw [hu] at h3 h5 ⊢;refine bU.iteb (fun _=>bU.eqn (v:=u) rfl (.some fun e=>⟨h1 e,.un (.inr rfl) (h3 e u IR),by rw [Ao,fA];have:=h5 e;simp only;omega⟩)) (fun _=>bU.eqn (v:=u) rfl (.some fun e=>⟨h1 e,.un (.inl rfl) (h3 e u IR),by rw [Ao,fA];have:=h5 e;simp only;omega⟩))
theorem HI {fa:aD->aF->(List aA)->Option ((List aG) × aF)} (hf:JR N B n fa):Bq N B (n+1) 19 (iM fa n):=by
 rintro c w x y h hx hk hs hn ⟨ya,rfl⟩;obtain ⟨a,s,z,z2,rfl,hz,hz2,hsg⟩:=hx.inv19 hk;rw [fA] at hs hn;unfold iM;refine (hf c w [z,z2] h (fun u hu=>by rcases List.mem_cons.1 hu with rfl | hu;exact hz;obtain rfl:=List.mem_singleton.1 hu;exact hz2) (by omega) (by omega)).bind fun r hr=>?_;obtain ⟨h1,h2,h3,h5⟩:=hr;obtain ⟨u,u2,hu⟩:=list2 h2;rw [hu] at h3 h5 ⊢;refine bU.eqn (v:=u) rfl (bU.eqn (v:=u2) rfl (BT.bind fun k hk=>?_));subst hk;simp only [kO,Option.bind_some]
 have fin:∀ {o:cD} {t:Int} {w2:aF},WK r.2 w2->(w2.e_=0->BinT o u u2 t)->Ib c w ⟨19,a,s,0,[z,z2]⟩ (⟨o,t,0,-1,[u,u2],ya⟩,w2):=fun hw hb e=>by
  have e1:r.2.e_=0:=by rw [←hw e];exact e
  exact ⟨(hw e).trans (h1 e1),.bin (h3 e1 u (by simp)) (h3 e1 u2 (by simp)) (hb e),by rw [Ao,fA];have:=h5 e1;simp only;omega⟩
 have div:∀ {o:cD},(o=[47] ∨ o=[37])->bU ((bY c (DO (DO r.2 (u.cE == 1) 133 u.eH) (u2.cE == 1) 133 u2.eH) ⟨o,0,0,-1,[u,u2],ya⟩ 1).bind fun x=>some (x.1,x.2)) (Ib c w ⟨19,a,s,0,[z,z2]⟩):=fun ho=>
  (pL (c:=c)).bind fun r2 hr2=>.some (by
    rw [hr2.2.1];refine fin ((WK.nd).trans ((WK.nd).trans hr2.1)) fun e=>?_;obtain ⟨k1,k2,_⟩:=eA (k:=133) (by decide) (by rw [←hr2.1 e];exact e);obtain ⟨_,j2,_⟩:=eA (k:=133) (by decide) k1;exact .inl ⟨ho,by simpa using j2,by simpa using k2,rfl⟩)
 have shf:∀ {o:cD},(o=[60,60] ∨ o=[62,62] ∨ o=[60,60,60])->bU ((fO c r.2 ⟨o,0,0,-1,[u,u2],ya⟩ u u2).bind fun x=>some (x.1,x.2)) (Ib c w ⟨19,a,s,0,[z,z2]⟩):=fun ho=>
  (GR (c:=c)).bind fun r2 hr2=>.some (by
    rw [hr2.2.1];refine fin hr2.1 fun e=>?_;obtain ⟨k1,k2,_⟩:=hr2.2.2 e;exact .inr (.inl ⟨ho,k1,k2,rfl⟩))
 have typ:∀ {o:cD} {t:Int} {w1:aF},WK r.2 w1->(t ≠ 0->w1.e_=0->BinT o u u2 t)->bU ((bY c w1 ⟨o,0,0,-1,[u,u2],ya⟩ t).bind fun x=>some (x.1,x.2)) (Ib c w ⟨19,a,s,0,[z,z2]⟩):=fun hw hb=>
  (pL (c:=c)).bind fun r2 hr2=>.some (by
    rw [hr2.2.1];refine fin (hw.trans hr2.1) fun e=>hb (hr2.2.2 e) (by rw [←hr2.1 e];exact e))
 refine bU.iteb (fun ho=>div (.inl (of_decide_eq_true ho))) fun n1=>bU.iteb (fun ho=>div (.inr (of_decide_eq_true ho))) fun n2=>?_;refine bU.iteb (fun ho=>shf (.inl (of_decide_eq_true ho))) fun n3=>bU.iteb (fun ho=>shf (.inr (.inl (of_decide_eq_true ho)))) fun n4=>bU.iteb (fun ho=>shf (.inr (.inr (of_decide_eq_true ho)))) fun n5=>?_;refine bU.iteb (fun ho=>typ WK.nd fun ht e=>.inr (.inr (.inl ⟨of_decide_eq_true ho,rfl,by simpa using (eA (k:=132) (by decide) e).2.1,ht⟩))) fun n6=>?_;refine bU.iteb (fun ho=>bU.iteb (fun h3=>typ (.refl _) fun ht e=>?_) fun h3=>typ (.refl _) fun ht e=>?_) fun n7=>?_
 ·exact .inr (.inr (.inr (.inl ⟨.inl (of_decide_eq_true ho),by rw [beq_iff_eq] at h3;omega,by rw [if_pos (by simpa using h3)]⟩)))
 ·exact .inr (.inr (.inr (.inl ⟨.inl (of_decide_eq_true ho),ht,by rw [if_neg (by simpa using h3)]⟩)))
 refine bU.iteb (fun ho=>bU.iteb (fun h3=>typ (.refl _) fun ht e=>?_) fun h3=>typ (.refl _) fun ht e=>?_) fun n8=>?_
 ·exact .inr (.inr (.inr (.inl ⟨.inr (of_decide_eq_true ho),by rw [beq_iff_eq] at h3;omega,by rw [if_pos (by simpa using h3)]⟩)))
 ·exact .inr (.inr (.inr (.inl ⟨.inr (of_decide_eq_true ho),ht,by rw [if_neg (by simpa using h3)]⟩)))
 refine typ (.refl _) fun ht e=>.inr (.inr (.inr (.inr ⟨?_,rfl,ht⟩)));simp only [decide_eq_false_iff_not] at n1 n2 n3 n4 n5 n6 n7 n8;simp only [AJ,List.mem_cons,List.not_mem_nil,or_false] at hsg
 rcases hsg with h | h | h | h | h | h | h | h | h | h | h | h | h
 ·exact .inl h
 ·exact .inr (.inl h)
 ·exact .inr (.inr (.inl h))
 ·exact absurd h n7
 ·exact absurd h n8
 ·exact absurd h n3
 ·exact absurd h n4
 ·exact absurd h n5
 ·exact .inr (.inr (.inr (.inl h)))
 ·exact .inr (.inr (.inr (.inr h)))
 ·exact absurd h n6
 ·exact absurd h n1
 ·exact absurd h n2
theorem FP {fa:aD->aF->(List aA)->Option ((List aG) × aF)} (hf:JR N B n fa):Bq N B (n+1) 17 (iC fa n):=by
 rintro c w x y h hx hk hs hn ⟨ya,rfl⟩;obtain ⟨a,s,xs,rfl,hz⟩:=hx.inv17 hk;rw [fA] at hs hn;have hp:0<=pB xs:=by have:=kU xs;omega
 unfold iC;refine (AS (s:=s) (by omega)).bind fun v hv=>?_;simp only [kO,Option.bind_some];refine (hf c _ xs h hz (by omega) (by omega)).bind fun r hr=>?_;obtain ⟨g1,hrl,g3,g4⟩:=hr;have hwr:=(WK.nd (w:=w)).trans ((WK.nd).trans g1);refine bU.iteb (fun he=>.some fun e=>absurd e (by simpa using he)) (fun he=>?_);simp only [bne_eq_false_iff_eq] at he;have h1:=g1 he;obtain ⟨k1,k2,k3⟩:=eA (k:=136) (by decide) (by rw [←h1];exact he);obtain ⟨j1,j2,j3⟩:=eA (k:=130) (by decide) k1;have hl:(xs.length:Int)=v:=by simpa using k2
 have hv0:0<v:=of_decide_eq_true j2;have hT:=g3 he;have fin:∀ {x:aG} {w2:aF},WK r.2 w2->(w2.e_=0->TX (oB c) c.aX x)->x.aN=r.1->Ib c w ⟨17,a,s,0,xs⟩ (x,w2):=fun hw hb hx e=>⟨(hwr.trans hw) e,hb e,by rw [Ao,fA,hx];have:=g4 he;omega⟩;obtain ⟨_,hv3,hvs,hvw,hall⟩:=hv;have hall:=hall hv0;obtain ⟨u,e,_,hum⟩:=jZ (l:=r.1) (i:=0) (by decide) (by omega);rw [e];simp only [Option.bind_some];refine bU.iteb (fun hc=>?_) (fun n1=>bU.iteb (fun hc=>?_) (fun n2=>bU.iteb (fun hc=>?_) (fun n3=>?_)))
 ·have h3:=hvs (of_decide_eq_true hc);obtain ⟨x0,x1,x2,hr3⟩:=list3 (l:=r.1) (by omega);rw [hr3] at hT fin ⊢;refine (FM (c:=c) rfl).bind fun k hk=>?_;refine (pL (c:=c)).bind fun r2 hr2=>.some ?_;rw [hr2.2.1];refine fin hr2.1 (fun e=>?_) rfl;obtain ⟨q1,q2,rfl⟩:=hk (hr2.2.2 e);rw [of_decide_eq_true hc];exact .sel (hT _ (by simp)) (hT _ (by simp)) (hT _ (by simp)) q1 q2
 ·have hc1:=of_decide_eq_true hc
  have hv1:v=1:=by
   rcases hall with h | h | h | h | h
   ·rw [hc1] at h;exact absurd h (by decide)
   ·exact h.2
   ·exact h.2
   ·exact h.2
   ·rw [hc1] at h;exact absurd h (by decide)
  obtain ⟨x0,hr1⟩:=IU (l:=r.1) (by omega);rw [hr1] at hT e fin ⊢;have hx0:x0=u:=by cases e;rfl
  subst hx0;refine wJ.bind fun b hb=>?_;refine (pL (c:=c)).bind fun r2 hr2=>.some ?_;rw [hr2.2.1];refine fin ((WK.nd).trans hr2.1) (fun e=>?_) rfl;rw [hc1];exact .long (hT _ IR) (hb (eA (k:=132) (by decide) (by rw [←hr2.1 e];exact e)).2.1)
 ·have h2:=hvw (of_decide_eq_true hc);obtain ⟨x0,x1,hr2⟩:=list2 (l:=r.1) (by omega);rw [hr2] at hT e fin ⊢;have hx0:x0=u:=by cases e;rfl
  subst hx0;refine bU.bind (P:=fun w'=>WK r.2 w'/\(w'.e_=0->ScT x0.cE/\ScT x1.cE)) (wJ.bind fun b hb=>bU.iteb (fun hbt=>bU.eqn (v:=x1) rfl ?_) (fun _=>.some ⟨WK.nd,fun e=>?_⟩)) fun w' hw'=>?_
  ·exact wJ.bind fun b2 hb2=>.some ⟨WK.nd,fun e=>⟨hb hbt,hb2 (eA (k:=132) (by decide) e).2.1⟩⟩
  ·have:=(eA (k:=132) (by decide) e).2.1;cases this
  ·refine (pL (c:=c)).bind fun r2 hr2=>.some ?_;rw [hr2.2.1];refine fin (hw'.1.trans hr2.1) (fun e=>?_) rfl;obtain ⟨q1,q2⟩:=hw'.2 (by rw [←hr2.1 e];exact e);rw [of_decide_eq_true hc];exact .wide (hT _ (by simp)) (hT _ (by simp)) q1 q2
 ·have hc1:(s=[108,111] ∨ s=[104,105])/\v=1:=by
   rcases hall with h | h | h | h | h
   ·exact absurd h (by simpa using n1)
   ·exact absurd h.1 (by simpa using n2)
   ·exact ⟨.inl h.1,h.2⟩
   ·exact ⟨.inr h.1,h.2⟩
   ·exact absurd h (by simpa using n3)
  obtain ⟨x0,hr1⟩:=IU (l:=r.1) (by omega);rw [hr1] at hT e fin ⊢;have hx0:x0=u:=by cases e;rfl
  subst hx0;refine (pL (c:=c)).bind fun r2 hr2=>.some ?_;rw [hr2.2.1];refine fin ((WK.nd).trans hr2.1) (fun e=>?_) rfl;exact .half hc1.1 (hT _ IR) (eq_of_beq (eA (k:=132) (by decide) (by rw [←hr2.1 e];exact e)).2.1)
theorem Gv:∀n:Nat,JQ N B n (bM n).1/\Bq N B n 16 (bM n).2.1/\Bq N B n 18 (bM n).2.2.1/\Bq N B n 19 (bM n).2.2.2.1/\Bq N B n 17 (bM n).2.2.2.2.1/\JR N B n (bM n).2.2.2.2.2
 | 0=>⟨fun c w x _ _ _ h=>by have:=mB x;omega,fun c w x y _ _ _ _ h _=>by have:=mB x;omega,fun c w x y _ _ _ _ h _=>by have:=mB x;omega,fun c w x y _ _ _ _ h _=>by have:=mB x;omega,fun c w x y _ _ _ _ h _=>by have:=mB x;omega,fun c w xs _ _ _ h=>by have:=kU xs;omega⟩
 | n+1=>by
   obtain ⟨g1,g2,g3,g4,g5,g6⟩:=Gv n;exact ⟨cexpr_b g2 g3 g4 g5,cload_b g1,Jm g6,HI g6,FP g6,call_b g1⟩
theorem sK (h:CI N B c) {x:Nd} (hx:WE x) (hs:sz x<=20000) (hn:3*sz x+301<=n):bU (fJ n c w x) (Ib c w x):=(Gv n).1 c w x h hx hs hn
end
end Go.Proofs.YtncembphlfbgoaaDoor.Abs
namespace Go.Proofs.YtncembphlfbgoaaDoor.Abs
open Go.RowKit
set_option linter.unusedVariables false
section
variable {N B n:Nat} {c:aD} {w:aF}
theorem oH (h:CI N B c) {x:Nd} (hx:WE x) (hs:sz x<=20000) (hn:3*sz x+301<=n):bU (dZ n c w x) fun r=>Ib c w x r/\(r.2.e_=0->r.1.cE=1):=by
 unfold dZ;refine (sK h hx hs hn).bind fun r hr=>?_;rw [kO];refine .some ⟨fun e=>?_,fun e=>by simpa using (eA (k:=133) (by decide) e).2.1⟩;obtain ⟨k1,_,k3⟩:=eA (k:=133) (by decide) e;obtain ⟨j1,j2⟩:=hr k1;exact ⟨k3.trans j1,j2⟩
theorem Ib.wk {x:Nd} {r:aG × aF} (h:Ib c w x r):WK w r.2:=fun e=>(h e).1
theorem Find_l1 (fs:List aO) (s:cD) (hl:fs.length<=16384):∀(k v:Nat),fs.length<v+k->v<=fs.length->∃r,bA fs s k v=some r/\(r=.inl () ∨ ∃(i:Nat) (f:aO),r=.inr (i:Int)/\fs[i]? = some f/\f.gI=s):=by
 intro k
 induction k with
 | zero=>intro v h1 h2;omega
 | succ k ih=>
   intro v h1 h2;unfold bA
   by_cases hv:v<fs.length
   ·rw [if_pos (decide_eq_true (by omega))];obtain ⟨f,e,e2,_⟩:=jZ (l:=fs) (i:=(v:Int)) (by omega) (by omega);rw [e];simp only [Option.bind_some,lC]
    by_cases hf:f.gI=s
    ·rw [if_pos (decide_eq_true hf)];exact ⟨_,rfl,.inr ⟨v,f,rfl,by simpa using e2,hf⟩⟩
    ·rw [if_neg (by simpa using hf),fQ (by omega) (by omega),show ((v:Int)+1)=((v+1:Nat):Int) by omega];exact ih (v+1) (by omega) (by omega)
   ·rw [if_neg (by simp;omega)];exact ⟨_,rfl,.inl rfl⟩
theorem EU {p:bV} {s:cD} (hl:p.aS.length<=16384) (hn:16384<n):bU (eU n p s) fun r=>0<=r.1/\(r.2=true->r.1<p.aS.length/\∃f,p.aS[r.1.toNat]? = some f/\f.gI=s):=by
 unfold eU cH;obtain ⟨r,e,hr⟩:=Find_l1 p.aS s hl n 0 (by omega) (by omega);have e:bA p.aS s n 0=some r:=e;rw [e]
 rcases hr with rfl | ⟨i,f,rfl,h1,h2⟩
 ·exact .some ⟨by decide,fun h=>absurd h (by decide)⟩
 ·have hi:i<p.aS.length:=(List.getElem?_eq_some_iff.1 h1).1;refine .some ⟨by simp only;omega,fun _=>⟨by simp only;omega,f,?_,h2⟩⟩;have:(max (i:Int) 0).toNat=i:=by omega
  simp only [this,h1]
theorem function_tot' (h:CI N B c) (hn:16384<n) {x:Nd}:bU (iL n c w x) fun r=>WK w r.2/\(r.2.e_=0->0<=r.1/\r.1<N):=by
 unfold iL;refine (EU (by have:=h.nf;have:=h.nN;omega) hn).bind fun r hr=>?_;rw [kO];refine .some ⟨WK.nd,fun e=>?_⟩;have:=(hr.2 (eA (by decide) e).2.1).1;have:=h.nf;exact ⟨hr.1,by omega⟩
theorem Ff (h:CI N B c) {i:Int} (h0:0<=i) (h1:i<N):bU (jK c w i) fun r=>∃f,cJ c.p_.aS i=some f/\r=f.bR.take f.bI.toNat:=by
 unfold jK;obtain ⟨f,e,_,hm⟩:=jZ (l:=c.p_.aS) h0 (by have:=h.nf;omega);rw [e];have hv:=h.vl f hm;simp only [Option.bind_some];exact bU.need ⟨hv.2.1,hv.2.2⟩ (.some ⟨f,rfl,rfl⟩)
theorem HM (h:CI N B c) (hn:300<n) {x:Nd} {p:aY} (hp:p.bN=4):bU (kI n c w x p.nR) fun r=>r.2.e_=0->r.2=w/\Cg (oB c) c.aX p r.1/\(xz r.1:Int)<=sz x:=by
 unfold kI;rw [kO];simp only [Option.bind_some];refine (wA h hn).bind fun v hv=>?_;refine bU.bind (P:=fun w'=>w'.e_=0->w'=w/\Cg (oB c) c.aX p ⟨[118,97,114],4,0,v.1,[],x.eH⟩) ?_ fun w' hw'=>.some fun e=>⟨(hw' e).1,(hw' e).2,by rw [Ao,wE];have:=mB x;omega⟩;refine (sY (w:=v.2) h hv.1).bind fun k hk=>bU.iteb (fun hc=>?_) (fun _=>by rw [kO];exact .some fun e=>by have:=(eA (k:=132) (by decide) e).2.1;cases this);have hk4:k=4:=by simpa using hc
 rcases hk with ⟨_,h2⟩ | ⟨h0,u,h1,hku⟩
 ·omega
 obtain ⟨f,_,hm,hvs,hfi⟩:=h.cur;rw [hfi];rw [hvs] at h1;have hlt:v.1.toNat<f.bR.length:=(List.getElem?_eq_some_iff.1 h1).1
 have e2:cJ f.bR (max v.1 0)=some u:=by
  rw [show max v.1 0=v.1 by omega];unfold cJ;rw [if_pos h0];exact h1
 simp only [Option.bind_some,e2,kO];refine .some fun e=>?_;obtain ⟨k1,k2,k3⟩:=eA (k:=132) (by decide) e;obtain ⟨j1,u3,j2,j3,j4,j5⟩:=hv.2.2 k1;obtain ⟨_,_,i3⟩:=eA (k:=132) (by decide) (by rw [←j1];exact k1);refine ⟨by rw [k3,j1,i3],.arr hp j2 (u:=u) (by rw [hvs];unfold cJ;rw [if_pos h0];exact h1) (by omega) (by simpa using k2)⟩
theorem DD (h:CI N B c) {x:Nd} (hx:WE x) (hs:sz x<=20000) (hn:3*sz x+301<=n) {v:aY}:bU (iN n c w x v) fun r=>r.2.e_=0->r.2=w/\Cg (oB c) c.aX v r.1/\(xz r.1:Int)<=sz x:=by
 have hp:=mB x;unfold iN;refine bU.iteb (fun h4=>?_) (fun h4=>bU.iteb (fun h1=>?_) (fun h1=>?_))
 ·exact (HM h (by omega) (by simpa using h4)).bind fun r hr=>.some hr
 ·exact (oH h hx hs hn).bind fun r hr=>.some fun e=>⟨(hr.1 e).1,.pub (by simpa using h1) (hr.1 e).2.1 (hr.2 e),(hr.1 e).2.2⟩
 ·refine (sK h hx hs hn).bind fun r hr=>Az.bind fun b hb=>?_;rw [kO];refine .some fun e=>?_;obtain ⟨k1,k2,k3⟩:=eA (k:=132) (by decide) e;exact ⟨k3.trans (hr k1).1,.val (by simpa using h1) (by simpa using h4) (hr k1).2.1 (hb k2),(hr k1).2.2⟩
theorem CI.calls (h:CI N B c) {l:List Int} {k:Int} (e:cJ c.bO c.fC=some l) (h0:0<=k) (h1:k<N):CI N (B+1) { c with bO:=c.bO.set c.fC.toNat (l++[k]) }:=by
 have hm:l ∈ c.bO:=by
  obtain ⟨l2,e2,_,hm⟩:=jZ (l:=c.bO) h.a0 (by rw [h.nc];exact h.a1);rw [e] at e2;cases e2;exact hm
 refine ⟨h.nf,h.nN,h.f0,h.f1,h.a0,h.a1,h.sc,h.sl,h.vl,by simp only [List.length_set];exact h.nc,?_,h.ki⟩;intro l' hl'
 rcases List.mem_or_eq_of_mem_set hl' with hl' | rfl
 ·exact ⟨Nat.le_succ_of_le (h.cl l' hl').1,(h.cl l' hl').2⟩
 ·have:=h.cl l hm;refine ⟨by simp only [List.length_append,List.length_singleton];omega,fun u hu=>?_⟩
  rcases List.mem_append.1 hu with hu | hu
  ·exact this.2 u hu
  ·obtain rfl:=List.mem_singleton.1 hu;exact ⟨h0,h1⟩
theorem CI.more {B':Nat} (h:CI N B c) (hb:B<=B'):CI N B' c:=⟨h.nf,h.nN,h.f0,h.f1,h.a0,h.a1,h.sc,h.sl,h.vl,h.nc,fun l hl=>⟨Nat.le_trans (h.cl l hl).1 hb,(h.cl l hl).2⟩,h.ki⟩
theorem Jt {x:Nd} {sh:List aY} {l:List Int} {k4:Int × aF} (h:CI N B { c with bO:=c.bO.set c.fC.toNat (l++[k4.1]) }) (hx:∀y ∈ x.aN,WE y) (hs:pB x.aN<=20000) (hn:3*pB x.aN+301<=n) {w0:aF} (hw0:w0.e_=0->x.aN.length=sh.length) {st0:aH} :
  ∀(k v:Nat) (w:aF) (ys:List aG),x.aN.length<v+k->v<=x.aN.length->ys.length=v->(w.e_=0->w=w0/\∀(i:Nat) p y,sh[i]? = some p->ys[i]? = some y->Cg (oB c) c.aX p y)->WK w0 w->bU (fX n x sh c l k4 k (v:Int) w { st0 with aN:=ys }) fun r=>WK w r.1/\(∃zs,r.2={ st0 with aN:=zs }/\(r.1.e_=0->AB (oB c) c.aX sh zs/\(wE zs:Int)<=wE ys+pB (x.aN.drop v))):=by
 intro k
 induction k with
 | zero=>intro v w ys h1 h2 h3;omega
 | succ k ih=>
   intro v w ys h1 h2 h3 h4 hw;unfold fX;have hg:=kU x.aN
   by_cases hv:v<x.aN.length
   ·rw [if_pos (decide_eq_true (by omega))];obtain ⟨y,e,ey,hym⟩:=jZ (l:=x.aN) (i:=(v:Int)) (by omega) (by omega)
    have hd:x.aN.drop v=y::x.aN.drop (v+1):=by
     rw [Int.toNat_natCast] at ey;obtain ⟨hlt,rfl⟩:=List.getElem?_eq_some_iff.1 ey;exact List.drop_eq_getElem_cons hlt
    rw [e];simp only [Option.bind_some];refine bU.iteb (fun he=>.some ⟨.refl _,ys,rfl,fun e=>absurd e (by simpa using he)⟩) (fun he=>?_);simp only [bne_eq_false_iff_eq] at he;have hw':=hw he;have hlen:=hw0 (by rw [←hw'];exact he);obtain ⟨u,e2,e3,_⟩:=jZ (l:=sh) (i:=(v:Int)) (by omega) (by omega);rw [e2];simp only [Option.bind_some];have hsz:=BC hym;refine (DD h (hx y hym) (by omega) (by omega)).bind fun r hr=>bU.need (by simp only [List.length_singleton];omega) ?_;rw [fQ (by omega) (by omega),show ((v:Int)+1)=((v+1:Nat):Int) by omega];refine (ih (v+1) r.2 (ys++[r.1]) (by omega) (by omega) (by simp only [List.length_append,List.length_singleton];omega) (fun er=>⟨?_,fun i p y hp hy=>?_⟩) (hw.trans fun e=>(hr e).1)).mono fun q hq=>?_
    ·rw [(hr er).1,hw']
    ·by_cases hi:i<v
     ·rw [List.getElem?_append_left (by omega)] at hy;exact (h4 he).2 i p y hp hy
     ·have hi2:i=v:=by
       have:=(List.getElem?_eq_some_iff.1 hy).1;simp only [List.length_append,List.length_singleton] at this;omega
      subst hi2;rw [List.getElem?_append_right (by omega),h3,Nat.sub_self] at hy;cases hy;rw [Int.toNat_natCast] at e3;rw [hp] at e3;cases e3
      exact (hr er).2.1
    ·obtain ⟨hq1,zs,hq2,hq3⟩:=hq;refine ⟨WK.trans (fun e=>(hr e).1) hq1,zs,hq2,fun eq=>?_⟩;obtain ⟨h5,h6⟩:=hq3 eq;refine ⟨h5,?_⟩;rw [Gc,wE,wE] at h6;rw [hd,oQ];have:=(hr (by rw [←hq1 eq];exact eq)).2.2;omega
   ·rw [if_neg (by simp;omega)];refine .some ⟨.refl _,ys,rfl,fun e=>⟨⟨?_,(h4 e).2⟩,by have:=kU (x.aN.drop v);omega⟩⟩;have:=hw0 (by rw [←hw e];exact e);omega
theorem zI (h:CI N B c) (hB:B+1<=1073741824) {x:Nd} (hx:∀y ∈ x.aN,WE y) (hs:pB x.aN<=20000) (hn:3*pB x.aN+301<=n) (hn2:20000<n) {st:aH} {v:Int} :
  bU (fY n c w x st v) fun r=>CI N (B+1) r.2.1/\Kp c r.2.1/\r.2.1.aX=c.aX/\r.2.1.p_=c.p_/\WK w r.2.2/\(r.2.2.e_=0->0<=r.1.mR/\r.1.mR<N/\∃f xs,r.1=⟨[99,97,108,108],v,r.1.mR,xs,st.eR,st.pT,st.eH⟩/\cJ r.2.1.p_.aS r.1.mR=some f/\sgC r.2.1 r.1.mR f.cR (f.bR.take f.bI.toNat)/\AB (oB c) c.aX (f.bR.take f.bI.toNat) xs/\(wE xs:Int)<=pB x.aN):=by
 have hg:=kU x.aN;unfold fY;refine (function_tot' (w:=w) (x:=x) h (by omega)).bind fun r hr=>bU.iteb (fun he=>?_) (fun he=>?_)
 ·simp only [bne_iff_ne] at he;exact .some ⟨h.more (Nat.le_succ B),.refl c,rfl,rfl,hr.1,fun e=>absurd e he⟩
 ·simp only [bne_eq_false_iff_eq] at he;obtain ⟨f0,f1⟩:=hr.2 he;obtain ⟨l,e,el,hm⟩:=jZ (l:=c.bO) h.a0 (by rw [h.nc];exact h.a1);have h':=h.calls e f0 f1;rw [e];simp only [Option.bind_some];refine bU.need (by have:=(h.cl l hm).1;omega) ?_;refine (Ff (w:=r.2) h' f0 f1).bind fun sh hsh=>?_;obtain ⟨f,hf,rfl⟩:=hsh;rw [kO];simp only [Option.bind_some];refine (Jt (st0:={ st with nJ:=[99,97,108,108],pJ:=v,mR:=r.1,aN:=[] }) h' hx hs hn (w0:=DO r.2 ((x.aN.length:Int) == ((f.bR.take f.bI.toNat).length:Int)) 136 x.eH) (fun e=>by have:=(eA (k:=136) (by decide) e).2.1;simp only [beq_iff_eq] at this;omega) n 0 _ [] (by omega) (by omega) rfl (fun e=>⟨rfl,fun i p y hp hy=>nomatch hy⟩) (.refl _)).bind fun q hq=>?_;obtain ⟨hq1,zs,hq2,hq3⟩:=hq;have hal:c.fC.toNat<c.bO.length:=(List.getElem?_eq_some_iff.1 el).1
  have hcl:cJ (c.bO.set c.fC.toNat (l++[r.1])) c.fC=some (l++[r.1]):=by
   unfold cJ;rw [if_pos h.a0,List.getElem?_set_self hal]
  refine .some ⟨h',⟨rfl,rfl,List.prefix_refl _,List.prefix_refl _,fun _ _=>rfl,rfl,fun j hj=>List.getElem?_set_ne (Ne.symm hj),fun l2 e2=>?_⟩,rfl,rfl,hr.1.trans ((WK.nd).trans hq1),fun e2=>?_⟩
  ·rw [e] at e2;cases e2
   exact ⟨_,hcl,List.prefix_append _ _⟩
  ·rw [hq2];exact ⟨f0,f1,f,zs,rfl,hf,⟨⟨_,hcl,List.mem_append_right _ IR⟩,f,hf,rfl,rfl⟩,(hq3 e2).1,by have:=(hq3 e2).2;rw [wE,List.drop_zero] at this;omega⟩
theorem yW (hn:6<n) {x:Nd}:bU (gD n c w x) fun b=>b=true->x.bN=17:=by
 unfold gD;exact bU.bind' (bU.iteb (fun hc=>(AS hn).bind fun v _=>.some (.some fun _=>by simpa using hc)) (fun _=>.some (.some fun h=>nomatch h)))
def St1 (c c':aD) (w':aF) (b:Bool) (s:aH) (x:aA):Prop:=w'.e_=0->TB (sgC c') (oB c') (Di c) b (oB c).length c.aX [s] (oB c').length c'.aX/\(tz s:Int)<=sz x
theorem yO {α:Type} {l:List α} {x:α}:(l++[x])[l.length]? = some x:=by
 rw [List.getElem?_append_right (Nat.le_refl _),Nat.sub_self];rfl
theorem FN (h:CI N B c) (hB:B+1<=1073741824) {x y:Nd} (hl:x.aN=[y]) (hy:WE y) (hs:sz y<=20000) (hn:3*sz y+301<=n) (hn2:20000<n) {a:Int} {b:Bool} :
  bU (kH n c w x ⟨[],-1,0,[],[],[],a⟩) fun r=>CI N (B+1) r.2.1/\Kp c r.2.1/\WK w r.2.2/\St1 c r.2.1 r.2.2 b r.1 x:=by
 unfold kH;rw [hl];refine bU.eqn (v:=y) rfl ?_;refine (yW (c:=c) (w:=w) (by omega)).bind fun b hb=>bU.iteb (fun hbt=>?_) (fun _=>?_)
 ·obtain ⟨a,s,xs,rfl,hxs⟩:=hy.inv17 (hb hbt);rw [fA] at hs hn;refine (zI h hB hxs (by simp only;omega) (by simp only;omega) hn2).bind fun r hr=>?_;obtain ⟨h1,h2,h3,h4,h5,h6⟩:=hr;refine bU.iteb (fun he=>.some ⟨h1,h2,h5,fun e=>absurd e (by simpa using he)⟩) (fun he=>?_);simp only [bne_eq_false_iff_eq] at he;obtain ⟨f0,f1,f,zs,e1,e2,e3,e4,e9⟩:=h6 he
  have hfm:f ∈ r.2.1.p_.aS:=by
   obtain ⟨f',e',_,hm⟩:=jZ (l:=r.2.1.p_.aS) f0 (by rw [h1.nf];exact f1);rw [e2] at e';cases e';exact hm
  rw [e2];simp only [Option.bind_some,kO];have hvs:oB r.2.1=oB c:=by unfold oB;rw [h4,h2.f]
  refine (oG h1 (by omega) fun e=>?_).bind fun d hd=>.some ⟨hd.1,h2.trans hd.2.1,h5.trans ((WK.nd).trans fun e=>(hd.2.2.2.2.1 e).1),fun e=>?_⟩
  ·have hr:=(h1.ki f hfm).2;have:=(eA (k:=132) (by decide) e).2.1;simp only [bne_iff_ne,ne_eq] at this;refine ⟨?_,?_,fun h=>?_⟩ <;> simp only at * <;> omega
  ·obtain ⟨d1,d2,d3,d4⟩:=hd.2.2.2.2.1 e;have e5:(DO r.2.2 (f.cR != 0) 132 x.eH).e_=0:=by rw [←d1];exact e
   have hne:=(eA (k:=132) (by decide) e5).2.1;rw [e1];simp only;rw [d2,d3,d4,h3,hvs,List.length_append,List.length_singleton];exact ⟨.callv (u:=⟨x.bP,f.cR,0⟩) (r:=f.cR) (Kp.sg h1 hd.2.1 e3) (e4.mono (List.prefix_append _ _) fun _ h=>h) (by simpa using hne) yO rfl .nil,by rw [vC,yB x,hl,mY,fA];simp only [AH];simp only at e9;omega⟩
 ·refine (sK h hy hs hn).bind fun r hr=>BF.bind fun k hk=>?_;subst hk;refine (oG h (by omega) fun e=>?_).bind fun d hd=>.some ⟨hd.1.more (Nat.le_succ B),hd.2.1,hr.wk.trans fun e=>(hd.2.2.2.2.1 e).1,fun e=>?_⟩
  ·have:=(hr e).2.1.range h.vsOk;refine ⟨?_,?_,fun h=>?_⟩ <;> simp only [Ed] at * <;> split at * <;> omega
  ·obtain ⟨d1,d2,d3,d4⟩:=hd.2.2.2.2.1 e;simp only;rw [d2,d3,d4,List.length_append,List.length_singleton];have hr0:=hr (by rw [←d1];exact e);exact ⟨.var_ (u:=⟨x.bP,Ed r.1.cE,0⟩) (hr0.2.1.mono (List.prefix_append _ _) fun _ h=>h) yO rfl .nil,by rw [vC,yB x,hl,mY];simp only [AH,wE];have:=hr0.2.2;omega⟩
theorem Dx (h:CI N B c) (hn:300<n) {x:Nd}:bU (iW n c w x) fun r=>WK w r.2/\(r.1=-1 ∨ 0<=r.1/\r.1<(oB c).length)/\(r.2.e_=0->∃u,r.1 ∈ c.aX/\cJ (oB c) r.1=some u/\(u.bN=2 ∨ u.bN=3)):=by
 unfold iW;refine (wA (w:=w) h hn).bind fun v hv=>?_;refine (sY (w:=v.2) h hv.1).bind fun k hk=>?_;simp only [kO,Option.bind_some];have hwv:WK w v.2:=fun e=>(hv.2.2 e).1
 have key:(k=2 ∨ k=3)->v.2.e_=0->∃u,v.1 ∈ c.aX/\cJ (oB c) v.1=some u/\(u.bN=2 ∨ u.bN=3):=fun h2 e=>by
  obtain ⟨_,u,j2,j3,j4,_⟩:=hv.2.2 e
  rcases hk with ⟨hm,_⟩ | ⟨_,u2,hk2,rfl⟩
  ·omega
  ·exact ⟨u2,j2,by unfold cJ;rw [if_pos j3];exact hk2,h2⟩
 refine bU.bind' (bU.iteb (fun h2=>.some (.some ⟨hwv.trans WK.nd,hv.1,fun e=>?_⟩)) (fun _=>.some (.some ⟨hwv.trans WK.nd,hv.1,fun e=>?_⟩)))
 ·exact key (.inl (by simpa using h2)) (eA (k:=132) (by decide) e).1
 ·obtain ⟨k1,k2,_⟩:=eA (k:=132) (by decide) e;exact key (.inr (by simpa using k2)) k1
theorem Jn (h:CI N B c) (hB:B+1<=1073741824) {x y:Nd} (hl:x.aN=[y]) (hy:WE y) (hs:sz y<=20000) (hn:3*sz y+301<=n) (hn2:20000<n) {a:Int} {b:Bool} :
  bU (lK n c w x ⟨[],-1,0,[],[],[],a⟩) fun r=>CI N (B+1) r.2.1/\Kp c r.2.1/\WK w r.2.2/\St1 c r.2.1 r.2.2 b r.1 x:=by
 unfold lK;refine (Dx (w:=w) h (by omega)).bind fun v hv=>?_;rw [hl];refine bU.eqn (v:=y) rfl ?_;refine (yW (c:=c) (w:=v.2) (by omega)).bind fun b hb=>bU.iteb (fun hbt=>?_) (fun _=>?_)
 ·obtain ⟨a,s,xs,rfl,hxs⟩:=hy.inv17 (hb hbt);rw [fA] at hs hn;refine (zI h hB hxs (by simp only;omega) (by simp only;omega) hn2).bind fun r hr=>?_;obtain ⟨h1,h2,h3,h4,h5,h6⟩:=hr;refine bU.iteb (fun he=>?_) (fun he=>.some ⟨h1,h2,hv.1.trans h5,fun e=>absurd e (by simpa using he)⟩);simp only [beq_iff_eq] at he;obtain ⟨f0,f1,f,zs,e1,e2,e3,e4,e9⟩:=h6 he;have hlen:=h2.v.length_le;have hvs:oB r.2.1=oB c:=by unfold oB;rw [h4,h2.f]
  obtain ⟨u,hu1,hu2,hu3⟩:=hv.2.2 (by rw [←h5 he];exact he);refine (sY (w:=r.2.2) h1 (v:=v.1) (by rcases hv.2.1 with h | h;exact .inl h;exact .inr ⟨h.1,by omega⟩)).bind fun k hk=>?_;rw [e2];simp only [Option.bind_some,kO];refine .some ⟨h1,h2,hv.1.trans (h5.trans WK.nd),fun e=>?_⟩;have hr:=(eA (k:=132) (by decide) e).2.1
  have hku:k=u.bN:=by
   have h0:=h.sc _ hu1
   rcases hk with ⟨hm,_⟩ | ⟨h0,u2,hk2,rfl⟩
   ·omega
   ·unfold cJ at hu2;rw [if_pos h0,←hvs,hk2] at hu2;cases hu2;rfl
  rw [e1,hvs,h3];exact ⟨.calls hu1 hu2 hu3 e3 e4 (by rw [←hku];simpa using hr) .nil,by rw [vC,yB x,hl,mY,fA];simp only [AH];simp only at e9;omega⟩
 ·refine (sK h hy hs hn).bind fun r hr=>(sY (w:=r.2) h hv.2.1).bind fun k hk=>Az.bind fun b hb=>?_;rw [kO];refine .some ⟨h.more (Nat.le_succ B),.refl c,hv.1.trans (hr.wk.trans WK.nd),fun e=>?_⟩;obtain ⟨k1,k2,_⟩:=eA (k:=132) (by decide) e;obtain ⟨u,hu1,hu2,hu3⟩:=hv.2.2 (by rw [←hr.wk k1];exact k1)
  have hku:k=u.bN:=by
   have h0:=h.sc _ hu1
   rcases hk with ⟨hm,_⟩ | ⟨h0,u2,hk2,rfl⟩
   ·omega
   ·unfold cJ at hu2;rw [if_pos h0,hk2] at hu2;cases hu2;rfl
  exact ⟨.set hu1 hu2 hu3 (hr k1).2.1 (hku ▸ hb k2) .nil,by rw [vC,yB x,hl,mY];simp only [AH,wE];have:=(hr k1).2.2;omega⟩
theorem FL (h:CI N B c) {x:Nd} (hx:WE x) (hs:sz x<=20000) (hn:3*sz x+301<=n) {v:Int} (hv:w.e_=0->0<=v/\v<(oB c).length):bU (kG n c w x v) fun r=>Ib c w x r/\(r.2.e_=0->r.1.cE=1/\∀u,cJ (oB c) v=some u->r.1.nJ=[110,117,109]->IntKind.i64.wrap r.1.N_<u.nR):=by
 unfold kG;refine (oH h hx hs hn).bind fun r hr=>?_;obtain ⟨hr,hr1⟩:=hr;refine bU.bind' (bU.iteb (fun he=>.some ?_) (fun he=>.some (bU.iteb (fun h=>nomatch h) (fun _=>.some ⟨hr,fun e=>absurd e (by simpa using he)⟩))));refine bU.iteb (fun ho=>?_) (fun ho=>.some ⟨hr,fun e=>⟨hr1 e,fun u hu h=>absurd h (by simpa using ho)⟩⟩);have he:r.2.e_=0:=by simpa using he
 obtain ⟨v0,v1⟩:=hv (by rw [←(hr he).1];exact he);obtain ⟨f,_,hm,hvs,hfi⟩:=h.cur;rw [hfi];rw [hvs] at v1;obtain ⟨u,e,_,_⟩:=jZ v0 v1;simp only [Option.bind_some,e,kO];refine .some ⟨fun e2=>?_,fun e2=>?_⟩
 ·obtain ⟨k1,_,k3⟩:=eA (k:=137) (by decide) e2;exact ⟨k3.trans (hr k1).1,(hr k1).2⟩
 ·obtain ⟨k1,k2,_⟩:=eA (k:=137) (by decide) e2;refine ⟨hr1 k1,fun u2 hu _=>?_⟩;rw [hvs,e] at hu;cases hu
  simpa using k2
theorem Jo (h:CI N B c) {x i y:Nd} (hl:x.aN=[i,y]) (hi:WE i) (hy:WE y) (hs:sz i<=20000) (hs2:sz y<=20000) (hn:3*sz i+301<=n) (hn2:3*sz y+301<=n) {a:Int} {b:Bool}:bU (lL n c w x ⟨[],-1,0,[],[],[],a⟩) fun r=>WK w r.2/\St1 c c r.2 b r.1 x:=by
 have hp:=mB i;unfold lL;refine (wA (w:=w) h (by omega)).bind fun v hv=>?_;refine (sY (w:=v.2) h hv.1).bind fun k hk=>?_;have hwv:WK w v.2:=fun e=>(hv.2.2 e).1;rw [kO,hl];refine bU.eqn (v:=DO v.2 (k == 4) 132 x.eH) rfl (bU.eqn (v:=i) rfl ?_);refine (FL h hi hs hn (fun e=>?_)).bind fun r hr=>?_
 ·have:=(eA (k:=132) (by decide) e).1;obtain ⟨_,u,h1,_⟩:=hv.2.2 this;exact h.sc _ h1
 refine bU.eqn (v:=y) rfl ?_;refine (sK h hy hs2 hn2).bind fun q hq=>Az.bind fun b hb=>?_;rw [kO];refine .some ⟨hwv.trans ((WK.nd).trans (hr.1.wk.trans (hq.wk.trans WK.nd))),fun e=>?_⟩;obtain ⟨k1,k2,_⟩:=eA (k:=132) (by decide) e;have er:r.2.e_=0:=by rw [←hq.wk k1];exact k1
 obtain ⟨j1,j2,_⟩:=eA (k:=132) (by decide) (by rw [←hr.1.wk er];exact er);obtain ⟨_,u,i2,i3,i4,_⟩:=hv.2.2 j1;have hu:cJ (oB c) v.1=some u:=by unfold cJ;rw [if_pos i3];exact i4
 have hu4:u.bN=4:=by
  rcases hk with ⟨hm,_⟩ | ⟨_,u2,hk2,rfl⟩
  ·omega
  ·rw [i4] at hk2;cases hk2;simpa using j2
 exact ⟨.put i2 hu hu4 (hr.1 er).2.1 (hr.2 er).1 ((hr.2 er).2 u hu) (hq k1).2.1 (hb k2) .nil,by rw [vC,yB x,hl,Bb];simp only [AH,wE];have:=(hr.1 er).2.2;have:=(hq k1).2.2;omega⟩
def FZ (s:aH):Prop:=s.nJ=[114,101,116,117,114,110] ∨ s.nJ=[99,97,108,108]/\s.pJ=-2
theorem HJ (h:CI N B c) (hB:B+1<=1073741824) {x y:Nd} (hl:x.aN=[y]) (hy:WE y) (hs:sz y<=20000) (hn:3*sz y+301<=n) (hn2:20000<n) {a:Int} {l:Bool} :
  bU (lA n c w x ⟨[],-1,0,[],[],[],a⟩ l) fun r=>CI N (B+1) r.2.1/\Kp c r.2.1/\WK w r.2.2/\St1 c r.2.1 r.2.2 l r.1 x/\(r.2.2.e_=0->FZ r.1):=by
 unfold lA;obtain ⟨f,_,hm,hvs,hfi⟩:=h.cur;rw [hfi,hl];refine bU.bind (P:=fun w'=>WK w w'/\(w'.e_=0->l=true/\f.cR ≠ 0)) ?_ fun w1 hw1=>?_
 ·simp only [Option.bind_some,kO];refine bU.iteb (fun hl=>.some ⟨WK.nd,fun e=>⟨hl,?_⟩⟩) (fun _=>.some ⟨WK.nd,fun e=>?_⟩)
  ·simpa using (eA (k:=135) (by decide) e).2.1
  ·have:=(eA (k:=135) (by decide) e).2.1;cases this
 refine bU.bind (P:=fun b=>b=true->y.bN=17) ?_ fun b hb=>bU.iteb (fun hbt=>?_) (fun _=>?_)
 ·refine bU.iteb (fun _=>?_) (fun _=>.some fun h=>nomatch h);exact bU.eqn (v:=y) rfl ((yW (c:=c) (w:=w1) (by omega)).bind fun b hb=>.some hb)
 ·refine bU.eqn (v:=y) rfl ?_;obtain ⟨a,s,xs,rfl,hxs⟩:=hy.inv17 (hb hbt);rw [fA] at hs hn;refine (zI h hB hxs (by simp only;omega) (by simp only;omega) hn2).bind fun r hr=>?_;obtain ⟨h1,h2,h3,h4,h5,h6⟩:=hr;refine bU.iteb (fun he=>?_) (fun he=>.some ⟨h1,h2,hw1.1.trans h5,fun e=>absurd e (by simpa using he),fun e=>absurd e (by simpa using he)⟩);simp only [beq_iff_eq] at he;obtain ⟨f0,f1,g,zs,e1,e2,e3,e4,e9⟩:=h6 he;obtain ⟨g2,_,_,_,e5⟩:=h1.cur;have hvs':oB r.2.1=oB c:=by unfold oB;rw [h4,h2.f]
  rw [e2,e5];simp only [Option.bind_some,kO];refine .some ⟨h1,h2,hw1.1.trans (h5.trans WK.nd),fun e=>?_,fun e=>.inr ?_⟩
  ·obtain ⟨hl2,hne⟩:=hw1.2 (by rw [←h5 he];exact he);subst hl2;have hr:=(eA (k:=132) (by decide) e).2.1
   have hg2:g2=f:=by
    rw [h2.f,h4,hfi] at e5;cases e5;rfl
   have hres:g.cR=Di c:=by
    rw [h.res hfi,←hg2];simpa using hr
   rw [e1,hvs',h3];exact ⟨.retc (hres ▸ e3) (by rw [h.res hfi];exact hne) e4,by rw [vC,yB x,hl,mY,fA];simp only [AH];simp only at e9;omega⟩
  ·rw [e1];exact ⟨rfl,rfl⟩
 ·refine bU.eqn (v:=y) rfl ?_;refine (sK h hy hs hn).bind fun r hr=>bU.eqn (v:=f) rfl (Az.bind fun b hb=>?_);rw [kO];refine .some ⟨h.more (Nat.le_succ B),.refl c,hw1.1.trans (hr.wk.trans WK.nd),fun e=>?_,fun _=>.inl rfl⟩;obtain ⟨k1,k2,_⟩:=eA (k:=132) (by decide) e;obtain ⟨hl2,hne⟩:=hw1.2 (by rw [←hr.wk k1];exact k1);subst hl2;exact ⟨.ret (hr k1).2.1 (by rw [h.res hfi];exact hne) (by rw [h.res hfi];exact hb k2),by rw [vC,yB x,hl,mY];simp only [AH,wE];have:=(hr k1).2.2;omega⟩
end
end Go.Proofs.YtncembphlfbgoaaDoor.Abs
namespace Go.Proofs.YtncembphlfbgoaaDoor.Abs
open Go.RowKit
set_option linter.unusedVariables false
section
variable {N B n:Nat} {c:aD} {w:aF}
theorem Bd {α:Type} {l l':List α} (h:l <+: l'):l'.take l.length=l:=by
 obtain ⟨r,rfl⟩:=h;rw [List.take_append_of_le_length (Nat.le_refl _),List.take_length]
theorem CI.scope {c':aD} (h:CI N B c') (h0:CI N B c) (k:Kp c c'):CI N B { c' with aX:=c.aX }/\Kp c { c' with aX:=c.aX }:=by
 refine ⟨⟨h.nf,h.nN,h.f0,h.f1,h.a0,h.a1,fun v hv=>?_,?_,h.vl,h.nc,h.cl,h.ki⟩,⟨k.f,k.a,List.prefix_refl _,k.v,k.o,k.g,k.k,k.l⟩⟩
 ·have h1:=h0.sc v hv;have h2:=k.v.length_le;have:oB { c' with aX:=c.aX }=oB c':=rfl;rw [this];omega
 ·have h1:=h0.sl;have h2:=k.v.length_le;have:oB { c' with aX:=c.aX }=oB c':=rfl;rw [this];show c.aX.length<=_;omega
end
def Lv2 (N B:Nat) (k:Int) (c:aD) (w:aF) (c':aD) (w':aF):Prop:=(∃B':Nat,(B':Int)<=B+k/\CI N B' c')/\Kp c c'/\WK w w'
def StL (c c':aD) (b:Bool) (ss:List aH):Prop:=∃sc',TB (sgC c') (oB c') (Di c) b (oB c).length c.aX ss (oB c').length sc'
def RetL (l:List aA) (ss:List aH):Prop:=∀y,l.getLast? = some y->y.bN=13->∃s,ss.getLast? = some s/\FZ s
def OkSm (N n:Nat) (f:aD->aF->aA->Bool->Option (aH × aD × aF)):Prop:=∀B c w x b,CI N B c->WS x->sz x<=20000->(B:Int)+sz x<=1073741824->3*sz x+20301<=n->bU (f c w x b) fun r=>Lv2 N B (sz x) c w r.2.1 r.2.2/\St1 c r.2.1 r.2.2 b r.1 x/\(r.2.2.e_=0->x.bN=13->FZ r.1)
def OkBk (N n:Nat) (f:aD->aF->aA->Bool->Option ((List aH) × aD × aF)):Prop:=∀B c w x b,CI N B c->(∀y ∈ x.aN,WS y)->pB x.aN<=20000->(B:Int)+pB x.aN<=1073741824->3*pB x.aN+20302<=n->bU (f c w x b) fun r=>(Lv2 N B (pB x.aN) c w r.2.1 r.2.2/\r.2.1.aX=c.aX)/\(r.2.2.e_=0->StL c r.2.1 b r.1/\RetL x.aN r.1/\(AH r.1:Int)<=pB x.aN)
section
variable {N B n:Nat} {c:aD} {w:aF}
theorem HH {m:Nat} {x:Nd} {b:Bool} {fs:aD->aF->aA->Bool->Option (aH × aD × aF)} (hf:OkSm N m fs) (hs:pB x.aN<=20000) (hm:3*pB x.aN+20301<=m) :
  ∀(k v B:Nat) (ys:List aH) (c:aD) (w:aF),x.aN.length<v+k->v<=x.aN.length->ys.length=v->CI N B c->(∀y ∈ x.aN.drop v,WS y)->(B:Int)+pB (x.aN.drop v)<=1073741824->bU (fM fs x b k ys (v:Int) c w) fun r=>Lv2 N B (pB (x.aN.drop v)) c w r.2.1 r.2.2/\(r.2.2.e_=0->∃ss,r.1=ys++ss/\TB (sgC r.2.1) (oB r.2.1) (Di c) b (oB c).length c.aX ss (oB r.2.1).length r.2.1.aX/\RetL (x.aN.drop v) ss/\(AH ss:Int)<=pB (x.aN.drop v))/\(v=x.aN.length->r.1=ys/\r.2.1=c):=by
 intro k
 induction k with
 | zero=>intro v B ys c w h1 h2;omega
 | succ k ih=>
   intro v B ys c w h1 h2 h3 h hx hB;unfold fM;have hg:=kU x.aN;have hg0:=kU (x.aN.drop v)
   by_cases hv:v<x.aN.length
   ·rw [if_pos (decide_eq_true (by omega))];have hd:x.aN.drop v=x.aN[v]::x.aN.drop (v+1):=List.drop_eq_getElem_cons hv;have e:cJ x.aN (v:Int)=some x.aN[v]:=by unfold cJ;rw [if_pos (by omega),Int.toNat_natCast,List.getElem?_eq_getElem hv]
    have hsz:=BC (List.getElem_mem hv);rw [hd,oQ] at hB ⊢;have hg1:=kU (x.aN.drop (v+1));have hp:=mB x.aN[v];rw [e];simp only [Option.bind_some];refine bU.iteb (fun he=>.some ⟨⟨⟨B,by omega,h⟩,.refl c,.refl w⟩,fun e=>absurd e (by simpa using he),fun _=>⟨rfl,rfl⟩⟩) (fun he=>?_);have hst:∀b2,bU (fs c w x.aN[v] b2) fun r=>Lv2 N B (sz x.aN[v]) c w r.2.1 r.2.2/\St1 c r.2.1 r.2.2 b2 r.1 x.aN[v]/\(r.2.2.e_=0->(x.aN[v]).bN=13->FZ r.1):=fun b2=>hf B c w _ b2 h (hx _ (by rw [hd];exact List.mem_cons_self)) (by omega) (by omega) (by omega);refine bU.bind (P:=fun r=>Lv2 N B (sz x.aN[v]) c w r.2.1 r.2.2/\∃s b2,r.1=ys++[s]/\St1 c r.2.1 r.2.2 b2 s x.aN[v]/\(b2=true->b=true/\v+1=x.aN.length)/\(r.2.2.e_=0->(x.aN[v]).bN=13->FZ s)) ?_ fun r hr=>?_
    ·refine bU.iteb (fun hb=>?_) (fun _=>?_)
     ·exact (hst _).bind fun r hr=>bU.need (by simp only [List.length_singleton];omega) (.some ⟨hr.1,r.1,_,rfl,hr.2.1,fun h2=>⟨hb,by
       rw [fQ (by omega) (by omega),beq_iff_eq] at h2;omega⟩,hr.2.2⟩)
     ·exact (hst false).bind fun r hr=>bU.need (by simp only [List.length_singleton];omega) (.some ⟨hr.1,r.1,false,rfl,hr.2.1,fun h2=>Bool.noConfusion h2,hr.2.2⟩)
    ·obtain ⟨⟨⟨B',hb',h'⟩,hk,hw⟩,s,b2,hr1,hs1,hb2,hrt⟩:=hr;rw [fQ (by omega) (by omega),show ((v:Int)+1)=((v+1:Nat):Int) by omega];refine (ih (v+1) B' _ _ _ (by omega) (by omega) (by rw [hr1,List.length_append,List.length_singleton];omega) h' (fun y hy=>hx y (by rw [hd];exact List.mem_cons_of_mem _ hy)) (by omega)).mono fun q hq=>?_;obtain ⟨⟨⟨B2,hbb,h2⟩,hk2,hw2⟩,hT,hend⟩:=hq;refine ⟨⟨⟨B2,by omega,h2⟩,hk.trans hk2,hw.trans hw2⟩,fun e=>?_,fun h=>by omega⟩;obtain ⟨ss,hq1,hT1,hR,hZ⟩:=hT e;have e2:r.2.2.e_=0:=by rw [←hw2 e];exact e
     refine ⟨s::ss,by rw [hq1,hr1,List.append_assoc];rfl,?_,?_,by rw [AH];have:=(hs1 e2).2;omega⟩
     ·have t1:=(hs1 e2).1.mono (fun k r ps h=>Kp.sg h' hk2 h) hk2.v;rw [hk.res h] at hT1;cases b2 with
      | false=>exact t1.app rfl hT1
      | true=>
        obtain ⟨rfl,hvl⟩:=hb2 rfl;obtain ⟨q1,q2⟩:=hend hvl
        have hss:ss=[]:=by
         rw [q1] at hq1;simpa using hq1
        subst hss;rw [q2];exact (hs1 e2).1
     ·intro y hy hk13;rw [List.getLast?_cons] at hy;cases hl:(x.aN.drop (v+1)).getLast? with
      | none=>
        rw [hl] at hy;have hnil:=List.getLast?_eq_none_iff.1 hl
        have hv1:v+1=x.aN.length:=by
         have:=List.drop_eq_nil_iff.1 hnil;omega
        obtain ⟨q1,q2⟩:=hend hv1
        have hss:ss=[]:=by
         rw [q1] at hq1;simpa using hq1
        subst hss;cases hy;exact ⟨s,rfl,hrt e2 hk13⟩
      | some y2=>
        rw [hl] at hy;cases hy;obtain ⟨s2,h5,h6⟩:=hR _ hl hk13;exact ⟨s2,by rw [List.getLast?_cons,h5];rfl,h6⟩
   ·rw [if_neg (by simp;omega)];have hnil:x.aN.drop v=[]:=List.drop_eq_nil_of_le (by omega);rw [hnil];exact .some ⟨⟨⟨B,by rw [jV];omega,h⟩,.refl c,.refl w⟩,fun e=>⟨[],(List.append_nil _).symm,.nil,(fun y hy=>nomatch hy),by rw [AH,jV];decide⟩,fun _=>⟨rfl,rfl⟩⟩
theorem Ju {fs:aD->aF->aA->Bool->Option (aH × aD × aF)} (hf:OkSm N n fs):OkBk N (n+1) (iY fs n):=by
 intro B c w x b h hx hs hB hn;unfold iY;have hg:=kU x.aN;refine (HH hf hs (by omega) n 0 B [] c w (by omega) (by omega) rfl h (by rw [List.drop_zero];exact hx) (by rw [List.drop_zero];exact hB)).bind fun r hr=>?_;rw [List.drop_zero] at hr;obtain ⟨⟨⟨B',hb',h'⟩,hk,hw⟩,hT,_⟩:=hr;have hle:=hk.s.length_le;refine bU.need (by omega) (.some ?_);rw [Bd hk.s];have hB':=(h.more (B':=max B B') (by omega));obtain ⟨k1,k2⟩:=(h'.more (B':=max B B') (by omega)).scope hB' hk;refine ⟨⟨⟨⟨max B B',by omega,k1⟩,k2,hw⟩,rfl⟩,fun e=>?_⟩;obtain ⟨ss,e1,e2,e3,e4⟩:=hT e;rw [List.nil_append] at e1;rw [e1];exact ⟨⟨_,e2⟩,e3,e4⟩
def OkLp (N n:Nat) (f:aD->aF->aA->aH->Option (aH × aD × aF)):Prop:=∀B c w x st,CI N B c->WS x->x.bN=12->sz x<=20000->(B:Int)+sz x<=1073741824->3*sz x+20300<=n->(∃a,st=⟨[],-1,0,[],[],[],a⟩)->∀b,bU (f c w x st) fun r=>Lv2 N B (sz x) c w r.2.1 r.2.2/\St1 c r.2.1 r.2.2 b r.1 x
theorem WS.inv12 {x:Nd} (h:WS x) (k:x.bN=12):∃a s y z b ys,x=⟨12,a,s,0,[y,z,⟨4,b,[],0,ys⟩]⟩/\WE y/\WE z/\∀u ∈ ys,WS u:=by
 cases h with
 | loop h1 h2 h3=>exact ⟨_,_,_,_,_,_,rfl,h1,h2,h3⟩
 | bind hk _=>rcases hk with rfl | rfl <;> simp at k
 | _=>simp at k
theorem cloop_b {fb:aD->aF->aA->Bool->Option ((List aH) × aD × aF)} (hf:OkBk N n fb):OkLp N (n+1) (jL fb n):=by
 rintro B c w x st h hx hk hs hB hn ⟨sa,rfl⟩ bl;obtain ⟨a,s,y,z,b,ys,rfl,hy,hz,hys⟩:=hx.inv12 hk;rw [fA,Cx,fA] at hs hB hn ⊢;have h1:=mB y;have h2:=mB z;have h3:=kU ys;unfold jL;refine bU.eqn (v:=y) rfl ((oH (w:=w) h hy (by omega) (by omega)).bind fun r1 hr1=>?_);refine bU.eqn (v:=z) rfl ((oH (w:=r1.2) h hz (by omega) (by omega)).bind fun r2 hr2=>?_);refine (oG (w:=r2.2) h (by omega) fun _=>Ii).bind fun d hd=>?_;obtain ⟨d1,d2,d3,d4,d5,d6⟩:=hd;refine bU.eqn (v:=⟨4,b,[],0,ys⟩) rfl ((hf B _ _ _ false d1 hys (by simp only;omega) (by simp only;omega) (by simp only;omega)).bind fun q hq=>?_);obtain ⟨⟨⟨⟨B',hb',h'⟩,hk',hw'⟩,hsc⟩,hT⟩:=hq;have hkk:=d2.trans hk';have hle:=hkk.s.length_le;refine bU.need (by omega) (.some ?_);have hmin:(min (c.aX.length:Int) (q.2.1.aX.length:Int)).toNat=c.aX.length:=by omega
 rw [hmin,Bd hkk.s];simp only at hb';obtain ⟨k1,k2⟩:=(h'.more (B':=max B B') (by omega)).scope (h.more (B':=max B B') (by omega)) hkk;refine ⟨⟨⟨max B B',by omega,k1⟩,k2,hr1.1.wk.trans (hr2.1.wk.trans (WK.trans (fun e=>(d5 e).1) hw'))⟩,fun e=>?_⟩;have ed:d.2.2.e_=0:=by rw [←hw' e];exact e
 obtain ⟨g1,g2,g3,g4⟩:=d5 ed;have e2:r2.2.e_=0:=by rw [←g1];exact ed
 have e1:r1.2.e_=0:=by rw [←hr2.1.wk e2];exact e2
 obtain ⟨⟨sc',hT1⟩,_,hZ⟩:=hT e;rw [d2.res h,g3,g4,List.length_append,List.length_singleton] at hT1;have hv:oB c <+: oB q.2.1:=hkk.v;have hu:(oB q.2.1)[(oB c).length]? = some ⟨s,1,0⟩:=zG hk'.v (by rw [g3];exact yO);simp only;rw [g2];refine ⟨.for_ ((hr1.1 e1).2.1.mono hv fun _ h=>h) (hr1.2 e1) ((hr2.1 e2).2.1.mono hv fun _ h=>h) (hr2.2 e2) hu rfl hT1 .nil,?_⟩;rw [vC,fA,Cx,fA];simp only [wE,AH];simp only at hZ;have:=(hr1.1 e1).2.2;have:=(hr2.1 e2).2.2;omega
end
end Go.Proofs.YtncembphlfbgoaaDoor.Abs
namespace Go.Proofs.YtncembphlfbgoaaDoor.Abs
open Go.RowKit
set_option linter.unusedVariables false
section
variable {N B n:Nat} {c:aD} {w:aF}
theorem Lv2.one {k:Int} {c':aD} {w':aF} (hk:1<=k) (h:CI N (B+1) c'/\Kp c c'/\WK w w'):Lv2 N B k c w c' w':=⟨⟨B+1,by omega,h.1⟩,h.2⟩
theorem Lv2.zero {k:Int} {c':aD} {w':aF} (hk:0<=k) (h:CI N B c') (h2:Kp c c') (h3:WK w w'):Lv2 N B k c w c' w':=⟨⟨B,by omega,h⟩,h2,h3⟩
theorem IO {a:Int} (h:xG (IntKind.i64.wrap (min a 1025))):xG (IntKind.i64.wrap a):=by
 by_cases h1:a<=1025
 ·rwa [show min a 1025=a by omega] at h
 ·rw [show min a 1025=1025 by omega,show IntKind.i64.wrap 1025=1025 by decide] at h;exact absurd h (by unfold xG;omega)
theorem cstmt_b {fb:aD->aF->aA->Bool->Option ((List aH) × aD × aF)} {fl:aD->aF->aA->aH->Option (aH × aD × aF)} (hf:OkBk N n fb) (hl:OkLp N n fl):OkSm N (n+1) (gP fb fl n):=by
 intro B c w x b h hx hs hB hn;have hp:=mB x;unfold gP;cases hx with
 | bind hk hy=>
   rw [fA,mY] at hs hB hn hp ⊢
   rcases hk with rfl | rfl
   ·simp only [Int.reduceBEq,Bool.false_eq_true,if_false,if_true];refine bU.eqn rfl ((oH (w:=w) h hy (by omega) (by omega)).bind fun r hr=>?_);refine (oG (w:=r.2) h (by omega) fun _=>Ii).bind fun d hd=>.some ⟨.zero (by omega) hd.1 hd.2.1 (hr.1.wk.trans fun e=>(hd.2.2.2.2.1 e).1),fun e=>?_,fun _ h=>absurd h (by decide)⟩;obtain ⟨d1,d2,d3,d4⟩:=hd.2.2.2.2.1 e;have er:r.2.e_=0:=by rw [←d1];exact e
    simp only;rw [d2,d3,d4,List.length_append,List.length_singleton];exact ⟨.let_ ((hr.1 er).2.1.mono (List.prefix_append _ _) fun _ h=>h) (hr.2 er) yO rfl .nil,by rw [vC,fA,mY];simp only [AH,wE];have:=(hr.1 er).2.2;omega⟩
   ·simp only [Int.reduceBEq,Bool.false_eq_true,if_false,if_true];exact (FN h (by omega) rfl hy (by omega) (by omega) (by omega)).bind fun r hr=>.some ⟨.one (by omega) ⟨hr.1,hr.2.1,hr.2.2.1⟩,hr.2.2.2,fun _ h=>absurd h (by decide)⟩
 | arr=>
   rw [fA,jV] at hs hB hn hp ⊢;simp only [Int.reduceBEq,Bool.false_eq_true,if_false,if_true];refine CA.bind fun k hk=>?_;rw [kO];refine (oG (w:=DO w k 136 _) h (by omega) fun e=>Ih ?_).bind fun d hd=>.some ⟨.zero (by omega) hd.1 hd.2.1 ((WK.nd).trans fun e=>(hd.2.2.2.2.1 e).1),fun e=>?_,fun _ h=>absurd h (by decide)⟩
   ·exact IO (hk (eA (k:=136) (by decide) e).2.1)
   ·obtain ⟨d1,d2,d3,d4⟩:=hd.2.2.2.2.1 e;simp only;rw [d2,d3,d4,List.length_append,List.length_singleton];exact ⟨.arr yO rfl .nil,by rw [vC,fA,jV];simp only [AH,wE];omega⟩
 | ret hy=>
   rw [fA,mY] at hs hB hn hp ⊢;simp only [Int.reduceBEq,Bool.false_eq_true,if_false,if_true];exact (HJ h (by omega) rfl hy (by omega) (by omega) (by omega)).bind fun r hr=>.some ⟨.one (by omega) ⟨hr.1,hr.2.1,hr.2.2.1⟩,hr.2.2.2.1,fun e _=>hr.2.2.2.2 e⟩
 | loop h1 h2 h3=>
   simp only [Int.reduceBEq,Bool.false_eq_true,if_false,if_true];exact (hl B c w _ _ h (.loop h1 h2 h3) rfl hs hB (by omega) ⟨_,rfl⟩ b).bind fun r hr=>.some ⟨hr.1,hr.2,fun _ h=>absurd h (by decide)⟩
 | set hy=>
   rw [fA,mY] at hs hB hn hp ⊢;simp only [Int.reduceBEq,Bool.false_eq_true,if_false,if_true];exact (Jn h (by omega) rfl hy (by omega) (by omega) (by omega)).bind fun r hr=>.some ⟨.one (by omega) ⟨hr.1,hr.2.1,hr.2.2.1⟩,hr.2.2.2,fun _ h=>absurd h (by decide)⟩
 | put hi hy=>
   rw [fA,Bb] at hs hB hn hp ⊢;rename_i i0 y0;have p1:=mB i0;have p2:=mB y0;simp only [Int.reduceBEq,Bool.false_eq_true,if_false,if_true];exact (Jo h rfl hi hy (by omega) (by omega) (by omega) (by omega)).bind fun r hr=>.some ⟨.zero (by omega) h (.refl c) hr.1,hr.2,fun _ h=>absurd h (by decide)⟩
 | call hy=>
   rw [fA] at hs hB hn hp ⊢;simp only [Int.reduceBEq,Bool.false_eq_true,if_false,if_true];refine (zI h (by omega) hy (by simp only;omega) (by simp only;omega) (by omega)).bind fun r hr=>.some ⟨.one (by omega) ⟨hr.1,hr.2.1,hr.2.2.2.2.1⟩,fun e=>?_,fun _ h=>absurd h (by decide)⟩;obtain ⟨h1,h2,h3,h4,h5,h6⟩:=hr;obtain ⟨f0,f1,f,zs,e1,e2,e3,e4,e9⟩:=h6 e;have hvs:oB r.2.1=oB c:=by unfold oB;rw [h4,h2.f]
   simp only;rw [e1,hvs,h3];exact ⟨.do_ e3 e4 .nil,by rw [vC,fA];simp only [AH];simp only at e9;omega⟩
 | choice h1 h2=>
   rw [fA,Bb,fA] at hs hB hn hp ⊢;rename_i c0 b0 ys;have p1:=mB c0;have p2:=kU ys;simp only [Int.reduceBEq,Bool.false_eq_true,if_false,if_true];refine bU.eqn (v:=c0) rfl ((oH (w:=w) h h1 (by omega) (by omega)).bind fun r hr=>?_);refine bU.eqn (v:=⟨4,b0,[],0,ys⟩) rfl ((hf B c _ _ false h h2 (by simp only;omega) (by simp only;omega) (by simp only;omega)).bind fun q hq=>?_);obtain ⟨⟨⟨⟨B',hb',h'⟩,hk',hw'⟩,hsc⟩,hT⟩:=hq;simp only at hb';refine bU.need (by simp) ?_;obtain ⟨m,rfl⟩:∃m,n=m+1:=⟨n - 1,by omega⟩;unfold dT;refine .some ⟨⟨⟨B',by omega,h'⟩,hk',hr.1.wk.trans hw'⟩,fun e=>?_,fun _ h=>absurd h (by decide)⟩;have er:r.2.e_=0:=by rw [←hw' e];exact e
   obtain ⟨⟨sc',hT1⟩,_,hZ⟩:=hT e;simp only;rw [hsc];refine ⟨.if_ ((hr.1 er).2.1.mono hk'.v fun _ h=>h) (hr.2 er) hT1 .nil .nil,?_⟩;rw [vC,fA,Bb,fA];simp only [wE,AH];simp only at hZ;have:=(hr.1 er).2.2;omega
 | choice2 h1 h2 h4=>
   rw [fA,Cx,fA,fA] at hs hB hn hp ⊢;rename_i c0 b0 ys b1 zs;have p1:=mB c0;have p2:=kU ys;have p3:=kU zs;simp only [Int.reduceBEq,Bool.false_eq_true,if_false,if_true];refine bU.eqn (v:=c0) rfl ((oH (w:=w) h h1 (by omega) (by omega)).bind fun r hr=>?_);refine bU.eqn (v:=⟨4,b0,[],0,ys⟩) rfl ((hf B c _ _ false h h2 (by simp only;omega) (by simp only;omega) (by simp only;omega)).bind fun q hq=>?_);obtain ⟨⟨⟨⟨B',hb',h'⟩,hk',hw'⟩,hsc⟩,hT⟩:=hq;simp only at hb';refine bU.need (by simp) ?_;obtain ⟨m,rfl⟩:∃m,n=m+1+1:=⟨n - 2,by omega⟩;unfold dT;refine bU.bind' ?_;refine bU.iteb (fun _=>?_) (fun hc=>by simp at hc);refine bU.eqn (v:=⟨4,b1,[],0,zs⟩) rfl ((hf B' q.2.1 _ _ false h' h4 (by simp only;omega) (by simp only;omega) (by simp only;omega)).bind fun q2 hq2=>?_);obtain ⟨⟨⟨⟨B2,hb2,h5⟩,hk2,hw2⟩,hsc2⟩,hT2⟩:=hq2;simp only at hb2;unfold dT;refine .some (.some ⟨⟨⟨B2,by omega,h5⟩,hk'.trans hk2,hr.1.wk.trans (hw'.trans hw2)⟩,fun e=>?_,fun _ h=>absurd h (by decide)⟩);have eq:q.2.2.e_=0:=by rw [←hw2 e];exact e
   have er:r.2.e_=0:=by rw [←hw' eq];exact eq
   obtain ⟨⟨sc1,hT1⟩,_,hZ⟩:=hT eq;obtain ⟨⟨sc2,hT3⟩,_,hZ2⟩:=hT2 e;rw [hk'.res h,hsc] at hT3;simp only;rw [hsc2,hsc];refine ⟨.if_ ((hr.1 er).2.1.mono (hk'.trans hk2).v fun _ h=>h) (hr.2 er) (hT1.mono (fun _ _ _ h=>Kp.sg h' hk2 h) hk2.v) hT3 .nil,?_⟩;rw [vC,fA,Cx,fA,fA];simp only [wE,AH];simp only at hZ hZ2;have:=(hr.1 er).2.2;omega
theorem EN:∀n:Nat,OkBk N n (dG n).1/\OkSm N n (dG n).2.1/\OkLp N n (dG n).2.2
 | 0=>⟨fun B c w x b _ _ _ _ h=>by have:=kU x.aN;omega,fun B c w x b _ _ _ _ h=>by have:=mB x;omega,fun B c w x st _ _ _ _ _ h _ _=>by have:=mB x;omega⟩
 | n+1=>by
   obtain ⟨g1,g2,g3⟩:=EN n;exact ⟨Ju g2,cstmt_b g1 g3,cloop_b g1⟩
end
end Go.Proofs.YtncembphlfbgoaaDoor.Abs
namespace Go.Proofs.YtncembphlfbgoaaDoor.Abs
open Go.RowKit
set_option linter.unusedVariables false
structure CO (N B:Nat) (c:aD):Prop where
 nf:c.p_.aS.length=N
 nN:N<=16384
 vl:∀f ∈ c.p_.aS,f.bR.length<=250/\0<=f.bI/\f.bI<=f.bR.length
 nc:c.bO.length=N
 cl:∀l ∈ c.bO,l.length<=B/\∀k ∈ l,0<=k/\k<N
 ki:∀f ∈ c.p_.aS,(∀v ∈ f.bR,Bh v)/\(f.cR=0 ∨ f.cR=2 ∨ f.cR=3)
def sO (k:Nat):List Int:=(List.range k).map Int.ofNat
theorem Eh (k:Nat):sO (k+1)=sO k++[(k:Int)]:=by
 unfold sO;rw [List.range_succ,List.map_append];rfl
theorem BI (k:Nat):(sO k).length=k:=by unfold sO;simp
theorem Fm {k:Nat} {v:Int} (h:v ∈ sO k):0<=v/\v<k:=by
 unfold sO at h;obtain ⟨i,h1,rfl⟩:=List.mem_map.1 h;have:=List.mem_range.1 h1;have h2:Int.ofNat i=(i:Int):=rfl;omega
def uD:List aY->Int->Int
 | [],n=>n
 | v::l,n=>uD l (if v.bN=3 then n+(n % 2+1)+1 else n+1)
theorem Ie {f:aO} (hl:(f.bR.take f.bI.toNat).length<=250):∀(k v:Nat) (a:Int),(f.bR.take f.bI.toNat).length<v+k->v<=(f.bR.take f.bI.toNat).length->0<=a->a<=4*(v:Int)->eZ f k a (v:Int)=some (uD ((f.bR.take f.bI.toNat).drop v) a):=by
 intro k
 induction k with
 | zero=>intro v a h1 h2;omega
 | succ k ih=>
   intro v a h1 h2 h3 h4;unfold eZ
   by_cases hv:v<(f.bR.take f.bI.toNat).length
   ·rw [if_pos (decide_eq_true (by omega))];have hd:(f.bR.take f.bI.toNat).drop v=(f.bR.take f.bI.toNat)[v]::(f.bR.take f.bI.toNat).drop (v+1):=List.drop_eq_getElem_cons hv;have e:cJ (f.bR.take f.bI.toNat) (v:Int)=some (f.bR.take f.bI.toNat)[v]:=by unfold cJ;rw [if_pos (by omega),Int.toNat_natCast,List.getElem?_eq_getElem hv]
    rw [hd,e];simp only [Option.bind_some,uD,beq_iff_eq];have h5:=Int.emod_nonneg a (show (2:Int) ≠ 0 by decide);have h6:=Int.emod_lt_of_pos a (show (0:Int)<2 by decide);rw [fQ (n:=(v:Int)+1) (by omega) (by omega),show ((v:Int)+1)=((v+1:Nat):Int) by omega]
    split
    ·rw [Int.tmod_eq_emod_of_nonneg h3,fQ (n:=a % 2+1) (by omega) (by omega),fQ (n:=a+(a % 2+1)) (by omega) (by omega),fQ (by omega) (by omega)];exact ih (v+1) _ (by omega) (by omega) (by omega) (by omega)
    ·rw [fQ (by omega) (by omega)];exact ih (v+1) _ (by omega) (by omega) (by omega) (by omega)
   ·rw [if_neg (by rw [decide_eq_true_eq];omega),List.drop_eq_nil_of_le (by omega)];rfl
theorem DP {f:aO} {n:Nat} (h1:f.bR.length<=250) (h2:0<=f.bI) (h3:f.bI<=f.bR.length) (hn:300<n):gK n f=some (uD (f.bR.take f.bI.toNat) 0):=by
 have hl:(f.bR.take f.bI.toNat).length<=250:=by rw [List.length_take];omega
 unfold gK;rw [Bv ⟨h2,h3⟩];have:=Ie hl n 0 0 (by omega) (by omega) (by omega) (by omega);rw [show ((0:Nat):Int)=0 from rfl,List.drop_zero] at this;rw [this];rfl
section
variable {N B n:Nat} {c:aD} {w:aF}
theorem CO.ci (h:CO N B c) {i:Int} (h0:0<=i) (h1:i<N) {f:aO} (hf:c.p_.aS[i.toNat]? = some f) {s:List Int} (hs:∀v ∈ s,0<=v/\v<f.bR.length) (hl:s.length<=f.bR.length):CI N B { c with f_:=i,aX:=s,fC:=i }:=by
 have hv:oB { c with f_:=i,aX:=s,fC:=i }=f.bR:=by unfold oB;simp only [hf];rfl
 exact ⟨h.nf,h.nN,h0,h1,h0,h1,by rw [hv];exact hs,by rw [hv];exact hl,h.vl,h.nc,h.cl,h.ki⟩
theorem Jl (h:CO N B c) {i:Int} (h0:0<=i) (h1:i<N) {f:aO} (hf:c.p_.aS[i.toNat]? = some f) (hm:f ∈ c.p_.aS):∀(k v:Nat),f.bI<v+k->(v:Int)<=f.bI->bU (eO f k (v:Int) { c with f_:=i,aX:=sO v,fC:=i }) fun r=>CI N B r/\r={ c with f_:=i,aX:=sO f.bI.toNat,fC:=i }:=by
 have hp:=h.vl f hm;intro k
 induction k with
 | zero=>intro v h2 h3;omega
 | succ k ih=>
   intro v h2 h3;unfold eO
   by_cases hv:(v:Int)<f.bI
   ·rw [if_pos (decide_eq_true hv)];refine bU.need (by simp only [BI];omega) ?_;rw [fQ (by omega) (by omega),show ((v:Int)+1)=((v+1:Nat):Int) by omega];have:=ih (v+1) (by omega) (by omega);rw [Eh] at this;exact this
   ·rw [if_neg (by simpa using hv)];have hv2:v=f.bI.toNat:=by omega
    subst hv2;refine .some ⟨h.ci h0 h1 hf (fun u hu=>?_) (by rw [BI];omega),rfl⟩;have:=Fm hu;omega
theorem CN (h:CO N B c) {i:Int} (h0:0<=i) (h1:i<N) (hn:300<n) {f:aO} (hf:cJ c.p_.aS i=some f):bU (iI n c w i) fun r=>CI N B r.1/\r.2=w/\r.1={ c with f_:=i,aX:=sO f.bI.toNat,fC:=i }:=by
 unfold iI;obtain ⟨f',e,e2,hm⟩:=jZ (l:=c.p_.aS) h0 (by rw [h.nf];exact h1);rw [hf] at e;cases e
 rw [hf];simp only [Option.bind_some];have hp:=h.vl f hm;have e3:=Jl h h0 h1 e2 hm n 0 (by omega) (by omega);change bU (eO f n 0 { c with f_:=i,aX:=[],fC:=i }) _ at e3;exact e3.bind fun r hr=>.some ⟨hr.1,rfl,hr.2⟩
theorem FJ {xs:List Nd} (hx:∀x ∈ xs,WP x) (hs:xs.length<=20000) (hn:300<n):∀(k v:Nat) (c:aD) (w:aF),xs.length<v+k->v<=xs.length->CI N B c->bU (fE n xs k (v:Int) c w) fun r=>CI N B r.1/\Kp c r.1/\WK w r.2/\r.1.bO=c.bO:=by
 intro k
 induction k with
 | zero=>intro v c w h1 h2;omega
 | succ k ih=>
   intro v c w h1 h2 h;unfold fE
   by_cases hv:v<xs.length
   ·rw [if_pos (decide_eq_true (by omega))];refine bU.bind (P:=fun r=>CI N B r.1/\Kp c r.1/\WK w r.2/\r.1.bO=c.bO) ?_ fun r hr=>?_
    ·obtain ⟨x,e,_,hxm⟩:=jZ (l:=xs) (i:=(v:Int)) (by omega) (by omega);rw [e];simp only [Option.bind_some];cases hx x hxm with
     | @word a s k hk=>
       have hk3:IntKind.i64.wrap k=k/\1<=k/\k<=3:=by rcases hk with rfl | rfl | rfl <;> decide
       refine bU.bind (P:=fun b=>b=false) (bU.iteb (fun _=>.some rfl) (fun _=>.some rfl)) fun b hb=>?_;subst hb;refine bU.iteb (fun h=>nomatch h) fun _=>(oG (w:=w) h hn fun _=>?_).bind fun d hd=>.some ⟨hd.1,hd.2.1,fun e=>(hd.2.2.2.2.1 e).1,hd.2.2.1⟩;simp only [hk3.1];exact varOkW hk3.2.1 hk3.2.2
     | @arr a s b n1=>
       have w4:IntKind.i64.wrap 4=4:=by decide
       simp only [w4,Int.reduceBEq,if_true,List.length_singleton,Int.natCast_one,Int.reduceLT,decide_true,Option.bind_some];refine bU.eqn (v:=⟨14,b,[],n1,[]⟩) rfl (CA.bind fun b2 hb2=>?_);rw [kO];exact (oG (w:=DO w b2 136 _) h hn fun e=>Ih (hb2 (eA (k:=136) (by decide) e).2.1)).bind fun d hd=>.some ⟨hd.1,hd.2.1,WK.trans WK.nd fun e=>(hd.2.2.2.2.1 e).1,hd.2.2.1⟩
    ·rw [fQ (by omega) (by omega),show ((v:Int)+1)=((v+1:Nat):Int) by omega];exact (ih (v+1) _ _ (by omega) (by omega) hr.1).mono fun q hq=>⟨hq.1,hr.2.1.trans hq.2.1,hr.2.2.1.trans hq.2.2.1,hq.2.2.2.trans hr.2.2.2⟩
   ·rw [if_neg (by simp;omega)];exact .some ⟨h,.refl c,.refl w,rfl⟩
structure Hd (f f':aO):Prop where
 n:f'.gI=f.gI
 x:f'.eJ=f.eJ
 r:f'.cR=f.cR
 b:f'.eR=f.eR
 p:f'.bI=f'.bR.length
theorem If {x:Nd} (h:WF x):∃ps b,x.aN=ps++[b]/\(∀p ∈ ps,WP p)/\(∀y ∈ b.aN,WS y)/\b=⟨4,b.eH,[],0,b.aN⟩:=by
 cases h with
 | fn h1 h2=>exact ⟨_,_,rfl,h1,h2,rfl⟩
theorem Gm {α:Type} {ps:List α} {b:α} (h:(ps++[b]).length<=20000):(max (IntKind.i64.wrap (((ps++[b]).length:Int) - 1)) 0)=(ps.length:Int):=by
 simp only [List.length_append,List.length_singleton] at *;rw [fQ (by omega) (by omega)];omega
theorem Kp.body {c':aD} (h:CI N B c) (k:Kp c c') {f:aO} (e:cJ c.p_.aS c.f_=some f) {f':aO} (e':cJ c'.p_.aS c'.f_=some f'):f'.gI=f.gI/\f'.eJ=f.eJ/\f'.cR=f.cR/\f'.bI=f.bI/\f.bR <+: f'.bR:=by
 obtain ⟨f2,e2,g1,g2,g3,g4,g5,_⟩:=k.fn h e;rw [k.f] at e';rw [e'] at e2;cases e2
 exact ⟨g1,g2,g3,g4,g5⟩
theorem HE (h:CO N B c) {i:Int} (h0:0<=i) (h1:i<N) (hn:20300<n) {f:aO} (hf:cJ c.p_.aS i=some f) (hb:f.eR=[]) {x:Nd} (hx:WF x) (hs:x.aN.length<=20000):bU (gY n c w i x) fun r=>CO N B r.1/\WK w r.2/\r.1.bO=c.bO/\(∀j:Nat,j ≠ i.toNat->r.1.p_.aS[j]? = c.p_.aS[j]?)/\∃f',cJ r.1.p_.aS i=some f'/\f'.gI=f.gI/\f'.eJ=f.eJ/\f'.cR=f.cR/\f'.bI=f'.bR.length/\(r.2.e_=0->f'.eJ=true->uD f'.bR 0<=4):=by
 obtain ⟨ps,b,hl,hps,_,_⟩:=If hx;have hla:=Gm (ps:=ps) (b:=b) (by rw [←hl];exact hs);rw [←hl] at hla;unfold gY;refine (CN (w:=w) h h0 h1 (by omega) hf).bind fun r hr=>?_;obtain ⟨g1,g2,g3⟩:=hr;rw [hla];have hll:x.aN.length=ps.length+1:=by rw [hl];simp
 refine bU.need ⟨by omega,by omega⟩ ?_;rw [Int.toNat_natCast,show x.aN.take ps.length=ps by rw [hl];simp];unfold lS;refine bU.bind (P:=fun q=>CO N B q.1/\WK w q.2/\q.1.f_=i/\q.1.bO=c.bO/\(∀j:Nat,j ≠ i.toNat->q.1.p_.aS[j]? = c.p_.aS[j]?)/\∃f',cJ q.1.p_.aS i=some f'/\f'.gI=f.gI/\f'.eJ=f.eJ/\f'.cR=f.cR/\f'.bI=f'.bR.length) ?_ fun q hq=>?_
 ·refine (FJ hps (by omega) (by omega) n 0 r.1 r.2 (by omega) (by omega) g1).bind fun q hq=>?_;obtain ⟨k1,k2,k3,k4⟩:=hq;obtain ⟨f2,ef2,hm2,hv2,e2⟩:=k1.cur;rw [e2];simp only [Option.bind_some];have hqf:q.1.f_=i:=by rw [k2.f,g3]
  have hrf:cJ r.1.p_.aS r.1.f_=some f:=by rw [g3];exact hf
  obtain ⟨b1,b2,b3,b4,b5⟩:=k2.body g1 hrf e2;have hlt:q.1.f_.toNat<q.1.p_.aS.length:=(List.getElem?_eq_some_iff.1 ef2).1;refine .some ⟨⟨by simp only [List.length_set];exact k1.nf,k1.nN,fun g hg=>?_,k1.nc,k1.cl,fun g hg=>?_⟩,by rw [←g2];exact k3,hqf,by rw [k4,g3],fun j hj=>?_,{ f2 with bI:=(f2.bR.length:Int) },?_,b1,b2,b3,rfl⟩
  ·rcases List.mem_or_eq_of_mem_set hg with hg | rfl
   ·exact k1.vl g hg
   ·have:=k1.vl f2 hm2;simp only;omega
  ·rcases List.mem_or_eq_of_mem_set hg with hg | rfl
   ·exact k1.ki g hg
   ·exact k1.ki f2 hm2
  ·simp only;rw [List.getElem?_set_ne (by rw [hqf];omega),k2.o j (by rw [g3];exact hj),g3]
  ·unfold cJ;rw [if_pos h0];simp only
   rw [←hqf,List.getElem?_set_self hlt]
 ·obtain ⟨k1,k2,k3,k4,k5,f',k6,k7,k8,k9,k10⟩:=hq;refine bU.iteb (fun he=>?_) (fun he=>.some ⟨k1,k2,k4,k5,f',k6,k7,k8,k9,k10,fun e=>absurd e (by simpa using he)⟩);rw [k3,k6];simp only [Option.bind_some,kO];refine bU.bind' (bU.iteb (fun hx=>.some (.some ⟨k1,k2.trans WK.nd,k4,k5,f',k6,k7,k8,k9,k10,fun _ hx2=>?_⟩)) (fun hx=>?_))
  ·rw [hx2] at hx;cases hx
  ·have hm:f' ∈ q.1.p_.aS:=by
    unfold cJ at k6;rw [if_pos h0] at k6;exact List.mem_of_getElem? k6
   have hv:=k1.vl f' hm;rw [DP hv.1 hv.2.1 hv.2.2 (by omega)];refine .some (.some ⟨k1,k2.trans WK.nd,k4,k5,f',k6,k7,k8,k9,k10,fun e _=>?_⟩);have:=(eA (k:=136) (by decide) e).2.1;rw [k10,Int.toNat_natCast,List.take_length] at this;exact of_decide_eq_true this
def Ea (c:aD) (i:Nat):JH:=fun k r ps=>(∃l,c.bO[i]? = some l/\k ∈ l)/\∃f,cJ c.p_.aS k=some f/\r=f.cR/\ps=f.bR.take f.bI.toNat
structure TF (sg:JH) (f:aO):Prop where
 body:∃sc',TB sg f.bR f.cR true f.bI.toNat (sO f.bI.toNat) f.eR f.bR.length sc'
 ret:f.cR ≠ 0->∃s,f.eR.getLast? = some s/\FZ s
theorem Eg {b:Nd} (hl:b.aN.length<=20000):bU (pA b) fun r=>r=true->∃y,b.aN.getLast? = some y/\y.bN=13:=by
 unfold pA;refine bU.bind (P:=fun r=>r=true->∃y,b.aN.getLast? = some y/\y.bN=13) (bU.iteb (fun h=>?_) (fun _=>.some fun h=>Bool.noConfusion h)) fun r hr=>.some hr;have h0:0<b.aN.length:=by have:=of_decide_eq_true h;omega
 rw [fQ (by omega) (by omega)];obtain ⟨y,e,e2,_⟩:=jZ (l:=b.aN) (i:=(b.aN.length:Int) - 1) (by omega) (by omega);rw [e];refine .some fun h=>⟨y,?_,by simpa using h⟩;rw [List.getLast?_eq_getElem?,←e2]
 congr 1
 omega
theorem HG (h:CO N B c) {i:Int} (h0:0<=i) (h1:i<N) {f:aO} (hf:cJ c.p_.aS i=some f) (hp:f.bI=f.bR.length) {x:Nd} (hx:WF x) (hs:sz x<=20000) (hB:(B:Int)+sz x<=1073741824) (hn:90000<=n):bU (gZ n c w i x) fun r=>(∃B':Nat,(B':Int)<=B+sz x/\CO N B' r.1)/\WK w r.2/\(∀j:Nat,j ≠ i.toNat->r.1.p_.aS[j]? = c.p_.aS[j]? /\ r.1.bO[j]? = c.bO[j]?)/\∃f',cJ r.1.p_.aS i=some f'/\f'.gI=f.gI/\f'.eJ=f.eJ/\f'.cR=f.cR/\f'.bI=f.bI/\f.bR <+: f'.bR/\(r.2.e_=0->TF (Ea r.1 i.toNat) f'/\(AH f'.eR:Int)<=sz x):=by
 obtain ⟨ps,b,hl,_,hbs,hbe⟩:=If hx;have hz:=yB x;have hlen:=kU x.aN;have hla:=Gm (ps:=ps) (b:=b) (by rw [←hl];omega);rw [←hl] at hla;have hbz:=BC (l:=x.aN) (k:=b) (by rw [hl];simp);have hbq:=yB b;have hbg:=kU b.aN;unfold gZ;refine (CN (w:=w) h h0 h1 (by omega) hf).bind fun r hr=>?_;obtain ⟨g1,g2,g3⟩:=hr;have hll:x.aN.length=ps.length+1:=by rw [hl];simp
 rw [hla];refine bU.need ⟨by omega,by omega⟩ ?_;obtain ⟨m,rfl⟩:∃m,n=m+1+1:=⟨n - 2,by omega⟩;unfold eY;rw [hla,Int.toNat_natCast,show x.aN.drop ps.length=[b] by rw [hl];simp];have hrf:r.1.f_=i:=by rw [g3]
 refine bU.bind' ?_;rw [if_pos (by rw [List.length_singleton];decide)];refine bU.eqn (v:=b) rfl ?_;obtain ⟨f0,ef0,hm0,hv0,e0⟩:=g1.cur;have e0f:cJ r.1.p_.aS r.1.f_=some f:=by rw [g3];exact hf
 rw [e0];rw [e0f] at e0;cases e0
 simp only [Option.bind_some];refine ((EN (m+1+1)).1 B r.1 r.2 b true g1 hbs (by omega) (by omega) (by omega)).bind fun q hq=>?_;obtain ⟨⟨⟨⟨B',hb',h'⟩,hk,hw⟩,hsc⟩,hT⟩:=hq;obtain ⟨f2,ef2,hm2,hv2,e2⟩:=h'.cur;obtain ⟨b1,b2,b3,b4,b5⟩:=hk.body g1 e0f e2;have hqf:q.2.1.f_=r.1.f_:=hk.f;rw [hqf] at e2 ef2;rw [e2];simp only [Option.bind_some];have hlt:r.1.f_.toNat<q.2.1.p_.aS.length:=(List.getElem?_eq_some_iff.1 ef2).1
 have e3:cJ (q.2.1.p_.aS.set r.1.f_.toNat { f2 with eR:=q.1 }) r.1.f_=some { f2 with eR:=q.1 }:=by
  unfold cJ;rw [if_pos (by rw [hrf];exact h0),List.getElem?_set_self hlt]
 rw [e3];simp only [Option.bind_some,kO]
 have hout:∀w2:aF,WK q.2.2 w2->(w2.e_=0->f.cR ≠ 0->∃s,q.1.getLast? = some s/\FZ s)->bU (eY (m+1+1) x (m+1) (IntKind.i64.wrap ((0:Int)+1)) { q.2.1 with p_:=⟨q.2.1.p_.aS.set r.1.f_.toNat { f2 with eR:=q.1 }⟩ } w2) (fun x_1=>bU (some (x_1.1,x_1.2)) fun r=>(∃B':Nat,(B':Int)<=B+sz x/\CO N B' r.1)/\WK w r.2/\(∀j:Nat,j ≠ i.toNat->r.1.p_.aS[j]? = c.p_.aS[j]? /\ r.1.bO[j]? = c.bO[j]?)/\∃f',cJ r.1.p_.aS i=some f'/\f'.gI=f.gI/\f'.eJ=f.eJ/\f'.cR=f.cR/\f'.bI=f.bI/\f.bR <+: f'.bR/\(r.2.e_=0->TF (Ea r.1 i.toNat) f'/\(AH f'.eR:Int)<=sz x)):=by
  intro w2 hw2 hret;unfold eY;rw [hla,Int.toNat_natCast,show x.aN.drop ps.length=[b] by rw [hl];simp,if_neg (by rw [List.length_singleton];decide)];refine .some (.some ⟨⟨B',by omega,by simp only [List.length_set];exact h'.nf,h'.nN,fun g hg=>?_,h'.nc,h'.cl,fun g hg=>?_⟩,by rw [←g2];exact hw.trans hw2,fun j hj=>⟨?_,?_⟩,{ f2 with eR:=q.1 },?_,b1,b2,b3,b4,b5,fun e=>⟨⟨?_,?_⟩,by have:=(hT (by rw [←hw2 e];exact e)).2.2;simp only;omega⟩⟩)
  ·rcases List.mem_or_eq_of_mem_set hg with hg | rfl
   ·exact h'.vl g hg
   ·exact h'.vl f2 hm2
  ·rcases List.mem_or_eq_of_mem_set hg with hg | rfl
   ·exact h'.ki g hg
   ·exact h'.ki f2 hm2
  ·simp only;rw [List.getElem?_set_ne (by rw [hrf];omega),hk.o j (by rw [hrf];exact hj),g3]
  ·simp only;rw [hk.k j (by rw [g3];exact hj),g3]
  ·rw [←hrf];exact e3
  ·obtain ⟨⟨sc',hTB⟩,_⟩:=hT (by rw [←hw2 e];exact e);rw [g1.res e0f,hv0,hv2,g3] at hTB;simp only at hTB;have hpp:f.bR.length=f2.bI.toNat:=by rw [b4,hp,Int.toNat_natCast]
   rw [hpp,←b4,←b3] at hTB;refine ⟨sc',TB.mono (fun k r' ps' hsg=>?_) (List.prefix_refl _) hTB⟩;obtain ⟨⟨l,el,hkl⟩,f3,ef3,rfl,rfl⟩:=hsg;have hat:q.2.1.fC=i:=by rw [hk.a,g3]
   rw [hat] at el;unfold cJ at el;rw [if_pos h0] at el;refine ⟨⟨l,el,hkl⟩,?_⟩
   by_cases hki:k=r.1.f_
   ·subst hki;rw [e2] at ef3;cases ef3
    exact ⟨_,e3,rfl,rfl⟩
   ·refine ⟨f3,?_,rfl,rfl⟩;unfold cJ at ef3 ⊢
    split at ef3
    ·rename_i hk0;rw [if_pos hk0,List.getElem?_set_ne (by rw [hrf] at hki ⊢;omega)];exact ef3
    ·cases ef3
  ·simp only [b3];exact hret e
 refine bU.bind' (bU.iteb (fun hr0=>.some (hout _ WK.nd fun e hne=>?_)) (fun hr0=>?_))
 ·exact absurd (by rw [beq_iff_eq] at hr0;rw [←b3];exact hr0) hne
 ·refine (Eg (b:=b) (by omega)).bind fun rb hrb=>.some (hout _ WK.nd fun e hne=>?_);obtain ⟨k1,k2,_⟩:=eA (k:=135) (by decide) e;obtain ⟨y,hy1,hy2⟩:=hrb k2;exact (hT k1).2.1 y hy1 hy2
end
end Go.Proofs.YtncembphlfbgoaaDoor.Abs
namespace Go.Proofs.YtncembphlfbgoaaDoor.Abs
open Go.RowKit
set_option linter.unusedVariables false
def nS (seen:List Int):Nat:=seen.countP (· == 0)
theorem FK {l:List Int} {i:Nat} {v:Int} (h:l[i]? = some 0) (hv:v ≠ 0):nS (l.set i v)+1=nS l:=by
 unfold nS
 induction l generalizing i with
 | nil=>cases h
 | cons x l ih=>
   cases i with
   | zero=>
     simp only [List.getElem?_cons_zero,Option.some.injEq] at h;subst h;rw [List.set_cons_zero,List.countP_cons,List.countP_cons];simp [hv]
   | succ i=>
     simp only [List.getElem?_cons_succ] at h;have:=ih h;rw [List.set_cons_succ,List.countP_cons,List.countP_cons];omega
theorem EM {l:List Int} {i:Nat} {v w:Int} (h:l[i]? = some w) (hv:v ≠ 0) (hw:w ≠ 0):nS (l.set i v)=nS l:=by
 unfold nS
 induction l generalizing i with
 | nil=>cases h
 | cons x l ih=>
   cases i with
   | zero=>
     simp only [List.getElem?_cons_zero,Option.some.injEq] at h;subst h;rw [List.set_cons_zero,List.countP_cons,List.countP_cons];simp [hv,hw]
   | succ i=>
     simp only [List.getElem?_cons_succ] at h;have:=ih h;rw [List.set_cons_succ,List.countP_cons,List.countP_cons];omega
def xZ (seen:List Int) (k:Int):Prop:=∃v,cJ seen k=some v/\v ≠ 0
def HQ (c:aD) (to:Int) (seen:List Int) (k:Int):Prop:=∀l,cJ c.bO k=some l->∀j ∈ l,j ≠ to/\xZ seen j
theorem xZ.set {seen:List Int} {k j v:Int} (hv:v ≠ 0) (h:xZ seen k) (hj:j.toNat<seen.length):xZ (seen.set j.toNat v) k:=by
 obtain ⟨x,h1,h2⟩:=h;unfold cJ at h1
 split at h1
 ·rename_i h0
  by_cases e:j.toNat=k.toNat
  ·exact ⟨v,by unfold cJ;rw [if_pos h0,←e,List.getElem?_set_self hj],hv⟩
  ·exact ⟨x,by unfold cJ;rw [if_pos h0,List.getElem?_set_ne e];exact h1,h2⟩
 ·cases h1
theorem xZ.unset {seen:List Int} {k j v:Int} (h:xZ (seen.set j.toNat v) k) (hj:0<=j):xZ seen k ∨ k=j:=by
 obtain ⟨x,h1,h2⟩:=h;unfold cJ at h1
 split at h1
 ·rename_i h0
  by_cases e:j.toNat=k.toNat
  ·right;omega
  ·rw [List.getElem?_set_ne e] at h1;exact .inl ⟨x,by unfold cJ;rw [if_pos h0];exact h1,h2⟩
 ·cases h1
theorem HQ.mono {c:aD} {to:Int} {s s':List Int} {k:Int} (h:HQ c to s k) (hs:∀j,xZ s j->xZ s' j):HQ c to s' k:=fun l e j hj=>⟨(h l e j hj).1,hs _ (h l e j hj).2⟩
structure Ra (c:aD) (to:Int) (B:Nat) (X:Int) (seen seen':List Int):Prop where
 le:nS seen'<=nS seen
 lo:∀v ∈ seen',0<=v/\v+((nS seen'*B:Nat):Int)<=X
 up:∀k,xZ seen k->xZ seen' k
 sh:∀k,xZ seen' k->xZ seen k ∨ HQ c to seen' k
section
variable {N B:Nat} {c:aD} {to:Int}
theorem reach_l {rec_:Int->List Int->Option (Bool × List Int)} {n:Nat} (hB:∀l ∈ c.bO,l.length<=B)
  (hrec:∀(k X:Int) (seen:List Int),0<=k->k<N->nS seen<n->seen.length=N->(∀v ∈ seen,0<=v/\v+(((nS seen+1)*B:Nat):Int)<=X)->X<=4611686018427387904->bU (rec_ k seen) fun r=>r.2.length=N/\(r.1=false->Ra c to B X seen r.2/\HQ c to r.2 k)) :
  ∀(ks seen:List Int) (X:Int),(∀k ∈ ks,0<=k/\k<N)->nS seen<n+1->seen.length=N->(∀v ∈ seen,0<=v/\v+((nS seen*B:Nat):Int)+ks.length<=X)->X<=4611686018427387904->bU (pN rec_ to ks seen) fun r=>r.2.length=N/\(r.1=false->Ra c to B X seen r.2/\∀j ∈ ks,j ≠ to/\xZ r.2 j):=by
 intro ks
 induction ks with
 | nil=>
   intro seen X h1 h2 h3 h4 h5;exact .some ⟨h3,fun _=>⟨⟨Nat.le_refl _,fun v hv=>by have:=h4 v hv;simp only [List.length_nil] at this ⊢;omega,fun k h=>h,fun k h=>.inl h⟩,fun j hj=>nomatch hj⟩⟩
 | cons k ks ih=>
   intro seen X h1 h2 h3 h4 h5;unfold pN;obtain ⟨k0,k1⟩:=h1 k (List.mem_cons_self);refine bU.iteb (fun _=>.some ⟨h3,fun h=>Bool.noConfusion h⟩) fun hkt=>?_;have hkt:k ≠ to:=by simpa using hkt
   obtain ⟨s,e,e2,hsm⟩:=jZ (l:=seen) (i:=k) k0 (by omega);have hs:=h4 s hsm;simp only [List.length_cons] at hs;rw [e,Option.bind_some,fQ (by omega) (by omega)];have hkl:k.toNat<seen.length:=by omega
   have hset:∀v ∈ seen.set k.toNat (s+1),0<=v/\v+((nS seen*B:Nat):Int)+ks.length<=X:=fun v hv=>by
    rcases List.mem_or_eq_of_mem_set hv with hv | rfl
    ·have:=h4 v hv;simp only [List.length_cons] at this;omega
    ·omega
   refine bU.iteb (fun hs1=>?_) (fun hs1=>?_)
   ·have hs0:s=0:=by have:=eq_of_beq hs1;omega
    subst hs0;have hun:=FK (v:=0+1) e2 (by decide);refine (hrec k (X - ks.length) _ k0 k1 (by omega) (by rw [List.length_set];exact h3) (fun v hv=>?_) (by omega)).bind fun r hr=>?_
    ·have:=hset v hv;rw [hun];omega
    ·refine bU.iteb (fun hrt=>.some ⟨hr.1,fun h=>Bool.noConfusion h⟩) fun hrt=>?_;obtain ⟨hR,hS⟩:=hr.2 hrt;have hle:=hR.le;refine (ih r.2 X (fun j hj=>h1 j (List.mem_cons_of_mem _ hj)) (by omega) hr.1 (fun v hv=>?_) h5).mono fun q hq=>⟨hq.1,fun hqf=>?_⟩
     ·have:=hR.lo v hv;omega
     ·obtain ⟨hQ,hJ⟩:=hq.2 hqf;have hsk:xZ (seen.set k.toNat (0+1)) k:=⟨0+1,by unfold cJ;rw [if_pos k0,List.getElem?_set_self hkl],by decide⟩;have hqle:=hQ.le;refine ⟨⟨by omega,hQ.lo,fun j hj=>hQ.up j (hR.up j (hj.set (by decide) hkl)),fun j hj=>?_⟩,fun j hj=>?_⟩
      ·rcases hQ.sh j hj with h | h
       ·rcases hR.sh j h with h | h
        ·rcases h.unset k0 with h | rfl
         ·exact .inl h
         ·exact .inr (hS.mono hQ.up)
        ·exact .inr (h.mono hQ.up)
       ·exact .inr h
      ·rcases List.mem_cons.1 hj with rfl | hj
       ·exact ⟨hkt,hQ.up _ (hR.up _ hsk)⟩
       ·exact hJ j hj
   ·have hs0:s ≠ 0:=by rintro rfl;simp at hs1
    have hun:=EM (v:=s+1) e2 (by omega) hs0;refine (ih _ X (fun j hj=>h1 j (List.mem_cons_of_mem _ hj)) (by rw [hun];omega) (by rw [List.length_set];exact h3) (fun v hv=>by rw [hun];exact hset v hv) h5).mono fun q hq=>⟨hq.1,fun hqf=>?_⟩;obtain ⟨hQ,hJ⟩:=hq.2 hqf;have hsk:xZ (seen.set k.toNat (s+1)) k:=⟨s+1,by unfold cJ;rw [if_pos k0,List.getElem?_set_self hkl],by omega⟩;have hqle:=hQ.le;rw [hun] at hqle;refine ⟨⟨hqle,hQ.lo,fun j hj=>hQ.up j (hj.set (by omega) hkl),fun j hj=>?_⟩,fun j hj=>?_⟩
    ·rcases hQ.sh j hj with h | h
     ·rcases h.unset k0 with h | rfl
      ·exact .inl h
      ·exact .inl ⟨s,e,hs0⟩
     ·exact .inr h
    ·rcases List.mem_cons.1 hj with rfl | hj
     ·exact ⟨hkt,hQ.up _ hsk⟩
     ·exact hJ j hj
theorem Hf (hN:c.bO.length=N) (hcl:∀l ∈ c.bO,l.length<=B/\∀k ∈ l,0<=k/\k<N) (hB:B<=1073741824):∀(n:Nat) (k X:Int) (seen:List Int),0<=k->k<N->nS seen<n->seen.length=N->(∀v ∈ seen,0<=v/\v+(((nS seen+1)*B:Nat):Int)<=X)->X<=4611686018427387904->bU (gR n c k to seen) fun r=>r.2.length=N/\(r.1=false->Ra c to B X seen r.2/\HQ c to r.2 k):=by
 intro n
 induction n with
 | zero=>intro k X seen _ _ h;omega
 | succ n ih=>
   intro k X seen k0 k1 h1 h2 h3 h4;unfold gR;obtain ⟨l,e,_,hm⟩:=jZ (l:=c.bO) k0 (by omega);obtain ⟨hl1,hl2⟩:=hcl l hm;rw [e,Option.bind_some];refine bU.need (by omega) ?_;refine (reach_l (fun l hl=>(hcl l hl).1) ih l seen X hl2 h1 h2 (fun v hv=>?_) h4).mono fun r hr=>⟨hr.1,fun hf=>?_⟩
   ·have:=h3 v hv;rw [Nat.succ_mul] at this;omega
   ·obtain ⟨hR,hJ⟩:=hr.2 hf;refine ⟨hR,fun l2 e2 j hj=>?_⟩;rw [e] at e2;cases e2
    exact hJ j hj
inductive JF (c:aD):Int->Int->Prop
 | one {i k l}:cJ c.bO i=some l->k ∈ l->JF c i k
 | more {i j k l}:JF c i j->cJ c.bO j=some l->k ∈ l->JF c i k
theorem JF.cons {i j k:Int} {l:List Int} (h:JF c j k) (e:cJ c.bO i=some l) (hj:j ∈ l):JF c i k:=by
 induction h with
 | one e2 h2=>exact .more (.one e hj) e2 h2
 | more _ e2 h2 ih=>exact .more ih e2 h2
theorem Ba (N:Nat):nS (List.replicate N 0)=N:=by
 unfold nS;rw [List.countP_eq_length.2 (fun v hv=>by rw [(List.mem_replicate.1 hv).2];rfl),List.length_replicate]
theorem IA (hN:c.bO.length=N) (hN2:N<=16384) (hcl:∀l ∈ c.bO,l.length<=B/\∀k ∈ l,0<=k/\k<N) (hB:B<=1073741824) {n:Nat} (hn:16384<n) {i:Int} (h0:0<=i) (h1:i<N):bU (gR n c i i (List.replicate N 0)) fun r=>r.1=false->¬ JF c i i:=by
 have hmul:(N+1)*B<=16385*1073741824:=Nat.mul_le_mul (by omega) hB;refine (Hf (to:=i) hN hcl hB n i 4611686018427387904 _ h0 h1 (by rw [Ba];omega) List.length_replicate (fun v hv=>?_) (Int.le_refl _)).mono fun r hr hf hw=>?_
 ·rw [(List.mem_replicate.1 hv).2,Ba];omega
 ·obtain ⟨hR,hS⟩:=hr.2 hf
  have hz:∀k,¬ xZ (List.replicate N 0) k:=fun k ⟨v,e,hv⟩=>by
   unfold cJ at e
   split at e
   ·exact hv (List.mem_replicate.1 (List.mem_of_getElem? e)).2
   ·cases e
  have key:∀k,JF c i k->xZ r.2 k/\k ≠ i:=by
   intro k hk
   induction hk with
   | one e hk=>exact ⟨(hS _ e _ hk).2,(hS _ e _ hk).1⟩
   | more _ e hk ih=>
     rcases hR.sh _ ih.1 with h | h
     ·exact absurd h (hz _)
     ·exact ⟨(h _ e _ hk).2,(h _ e _ hk).1⟩
  exact (key i hw).2 rfl
theorem HB {α:Type} {p q:α->Bool} {l:List α} (h:∀x ∈ l,p x=true->q x=true) {y:α} (hy:y ∈ l) (hq:q y=true) (hp:p y=false):l.countP p<l.countP q:=by
 induction l with
 | nil=>cases hy
 | cons x l ih=>
   rw [List.countP_cons,List.countP_cons];have hle:l.countP p<=l.countP q:=List.countP_mono_left fun x hx=>h x (List.mem_cons_of_mem _ hx)
   rcases List.mem_cons.1 hy with rfl | hy
   ·rw [hq,hp];simp;omega
   ·have:=ih (fun x hx=>h x (List.mem_cons_of_mem _ hx)) hy;have hx:=h x List.mem_cons_self;cases h1:p x <;> cases h2:q x <;> simp_all <;> omega
theorem ranks (hN:c.bO.length=N) (hcl:∀l ∈ c.bO,∀k ∈ l,0<=k/\k<N) (hac:∀i:Int,0<=i->i<N->¬ JF c i i):∃rk:Int->Nat,(∀i,rk i<=N)/\∀i l,cJ c.bO i=some l->∀k ∈ l,rk k<rk i:=by
 classical
 refine ⟨fun i=>(List.range N).countP fun k:Nat=>decide (JF c i (k:Int)),fun i=>Nat.le_trans List.countP_le_length (by simp),fun i l e k hk=>?_⟩
 have hlm:l ∈ c.bO:=by
  unfold cJ at e
  split at e
  ·exact List.mem_of_getElem? e
  ·cases e
 obtain ⟨k0,k1⟩:=hcl l hlm k hk;have hkn:((k.toNat:Nat):Int)=k:=by omega
 refine HB (y:=k.toNat) (fun x _ hx=>?_) (List.mem_range.2 (by omega)) ?_ ?_
 ·exact decide_eq_true ((of_decide_eq_true hx).cons e hk)
 ·rw [hkn];exact decide_eq_true (.one e hk)
 ·rw [hkn];exact decide_eq_false (hac k k0 k1)
end
end Go.Proofs.YtncembphlfbgoaaDoor.Abs
namespace Go.Proofs.YtncembphlfbgoaaDoor.Abs
open Go.RowKit
set_option linter.unusedVariables false
structure PO (c:aD) (rk:Int->Nat):Prop where
 co:CO c.p_.aS.length 1073741824 c
 n64:c.p_.aS.length<=64
 ex:∀f ∈ c.p_.aS,f.eJ=true->uD (f.bR.take f.bI.toNat) 0<=4
 tf:∀(j:Nat) f,c.p_.aS[j]? = some f->TF (Ea c j) f
 sz:∀f ∈ c.p_.aS,AH f.eR<=3001
 rkN:∀i,rk i<=64
 rk:∀i l,cJ c.bO i=some l->∀k ∈ l,rk k<rk i
section
variable {N B n:Nat} {c:aD} {w:aF}
theorem CO.more {B':Nat} (h:CO N B c) (hb:B<=B'):CO N B' c:=⟨h.nf,h.nN,h.vl,h.nc,fun l hl=>⟨Nat.le_trans (h.cl l hl).1 hb,(h.cl l hl).2⟩,h.ki⟩
theorem Fk {a:Int}:bU (qH a) fun r=>r=0 ∨ r=2 ∨ r=3:=by
 unfold qH
 repeat' split
 ·exact .some (.inr (.inl rfl))
 ·exact .some (.inr (.inr rfl))
 ·exact .some (.inl rfl)
structure D0 (f:aO):Prop where
 v:f.bR=[]
 p:f.bI=0
 b:f.eR=[]
 r:f.cR=0 ∨ f.cR=2 ∨ f.cR=3
theorem IN {x:Nd} (hl:x.aN.length<=16384) (hn:16384<n):∀(k v:Nat) (c:aD) (w:aF),x.aN.length<v+k->v<=x.aN.length->c.p_.aS.length=v->c.f_=-1->(∀f ∈ c.p_.aS,D0 f)->bU (fL n x k (v:Int) c w) fun r=>r.1.p_.aS.length=x.aN.length/\(∀f ∈ r.1.p_.aS,D0 f)/\WK w r.2:=by
 intro k
 induction k with
 | zero=>intro v c w h1 h2;omega
 | succ k ih=>
   intro v c w h1 h2 h3 h4 h5;unfold fL
   by_cases hv:v<x.aN.length
   ·rw [if_pos (decide_eq_true (by omega))];obtain ⟨y,e,_,hym⟩:=jZ (l:=x.aN) (i:=(v:Int)) (by omega) (by omega);rw [e];simp only [Option.bind_some];refine (EU (by omega) hn).bind fun q hq=>?_;refine bU.bind (P:=fun w'=>WK w w') ?_ fun w' hw'=>?_
    ·refine bU.iteb (fun _=>?_) (fun _=>?_)
     ·exact (AS (by omega)).bind fun a _=>by rw [kO];exact .some WK.nd
     ·rw [kO];exact .some WK.nd
    ·refine Fk.bind fun rr hrr=>bU.need (by omega) (bU.need (by omega) ?_);rw [fQ (by omega) (by omega),show ((v:Int)+1)=((v+1:Nat):Int) by omega];refine (ih (v+1) { c with p_:=⟨c.p_.aS++[⟨y.bP,(Bp .u32 y.jC (1:Int)) != (0:Int),rr,0,[],[]⟩]⟩ } w' (by omega) (by omega) (by simp only [List.length_append,List.length_singleton];omega) h4 fun f hf=>?_).mono fun r hr=>⟨hr.1,hr.2.1,hw'.trans hr.2.2⟩
     rcases List.mem_append.1 hf with hf | hf
     ·exact h5 f hf
     ·obtain rfl:=List.mem_singleton.1 hf;exact ⟨rfl,rfl,rfl,hrr⟩
   ·rw [if_neg (by rw [decide_eq_true_eq];omega)];exact .some ⟨by simp only;omega,h5,.refl w⟩
theorem Hl {x:Nd} (hl:x.aN.length<=16384) (hn:16384<n):bU (kF n aD.Z w x) fun r=>CO x.aN.length 0 r.1/\(∀f ∈ r.1.p_.aS,D0 f)/\WK w r.2/\(r.2.e_=0->x.aN.length<=64):=by
 unfold kF;rw [kO,Option.bind_some];refine (IN hl hn n 0 aD.Z _ (by omega) (by omega) rfl rfl fun f hf=>nomatch hf).bind fun r hr=>bU.need (by omega) (.some ?_);obtain ⟨h1,h2,h3⟩:=hr;refine ⟨⟨h1,hl,fun f hf=>?_,List.length_replicate,fun l hl=>?_,fun f hf=>?_⟩,h2,(WK.nd).trans h3,fun e=>?_⟩
 ·rw [(h2 f hf).v,(h2 f hf).p];exact ⟨by decide,by decide,by decide⟩
 ·rw [(List.mem_replicate.1 hl).2];exact ⟨Nat.le_refl _,fun k hk=>nomatch hk⟩
 ·rw [(h2 f hf).v];exact ⟨fun v hv=>(by cases hv),(h2 f hf).r⟩
 ·have e2:(DO w (decide ((x.aN.length:Int)<=64)) 136 x.eH).e_=0:=by rw [←h3 e];exact e
  have:=of_decide_eq_true (eA (k:=136) (by decide) e2).2.1;omega
def D1 (f:aO):Prop:=f.bI=f.bR.length/\(f.eJ=true->uD f.bR 0<=4)
theorem Dt {α:Type} {l:List α} {i:Nat} {x:α} (h:l[i]? = some x):cJ l (i:Int)=some x:=by
 unfold cJ;rw [if_pos (by omega),Int.toNat_natCast];exact h
theorem zC {α:Type} {l:List α} {i:Nat} {x:α} (h:cJ l (i:Int)=some x):l[i]? = some x:=by
 unfold cJ at h;rw [if_pos (by omega),Int.toNat_natCast] at h;exact h
theorem Ho (hn:20300<n):∀(l:List Nd) (i:Nat) (c:aD) (w:aF),CO N B c->i+l.length=N->(∀x ∈ l,WF x/\x.aN.length<=20000)->(∀(j:Nat) f,i<=j->c.p_.aS[j]? = some f->f.eR=[])->(w.e_=0->∀(j:Nat) f,j<i->c.p_.aS[j]? = some f->D1 f)->bU (nI (fun i f c w=>gY n c w i f) l i c w) fun r=>CO N B r.1/\WK w r.2/\r.1.bO=c.bO/\(r.2.e_=0->∀(j:Nat) f,r.1.p_.aS[j]? = some f->D1 f):=by
 intro l
 induction l with
 | nil=>
   intro i c w h h1 h2 h3 h4;refine .some ⟨h,.refl w,rfl,fun e j f hf=>h4 e j f ?_ hf⟩;have hj:j<c.p_.aS.length:=(List.getElem?_eq_some_iff.1 hf).1;have:=h.nf;simp only [List.length_nil] at h1;omega
 | cons x l ih=>
   intro i c w h h1 h2 h3 h4;simp only [List.length_cons] at h1;unfold nI
   by_cases he:(w.e_ == (0:Int))=true
   ·rw [if_pos he];have he0:w.e_=0:=by simpa using he
    obtain ⟨f,ef,ef2,_⟩:=jZ (l:=c.p_.aS) (i:=(i:Int)) (by omega) (by rw [h.nf];omega);obtain ⟨hx1,hx2⟩:=h2 x List.mem_cons_self;refine (HE (w:=w) h (i:=(i:Int)) (by omega) (by omega) hn ef (h3 i f (Nat.le_refl _) (zC ef)) hx1 hx2).bind fun r hr=>?_;obtain ⟨k1,k2,k3,k4,f',k5,k6,k7,k8,k9,k10⟩:=hr;rw [Int.toNat_natCast] at k4;refine (ih (i+1) r.1 r.2 k1 (by omega) (fun y hy=>h2 y (List.mem_cons_of_mem _ hy)) (fun j g hj hg=>?_) (fun e j g hj hg=>?_)).mono fun q hq=>⟨hq.1,k2.trans hq.2.1,hq.2.2.1.trans k3,hq.2.2.2⟩
    ·exact h3 j g (by omega) (by rw [←k4 j (by omega)];exact hg)
    ·by_cases hji:j=i
     ·subst hji;rw [zC k5] at hg;cases hg
      exact ⟨k9,k10 e⟩
     ·exact h4 he0 j g (by omega) (by rw [←k4 j hji];exact hg)
   ·rw [if_neg he];refine (ih (i+1) c w h (by omega) (fun y hy=>h2 y (List.mem_cons_of_mem _ hy)) (fun j g hj hg=>h3 j g (by omega) hg) (fun e=>absurd e (by simpa using he))).mono fun q hq=>hq
theorem GS {c c':aD} {i j:Nat} (hv:∀f ∈ c.p_.aS,f.bI<=f.bR.length) (h1:∀k:Nat,k ≠ i->c'.p_.aS[k]? = c.p_.aS[k]?) (h2:c'.bO[j]? = c.bO[j]?) {f f':aO} (e:c.p_.aS[i]? = some f) (e':c'.p_.aS[i]? = some f') (hr:f'.cR=f.cR) (hp:f'.bI=f.bI) (hx:f.bR <+: f'.bR) {k r:Int} {ps:List aY} (h:Ea c j k r ps):Ea c' j k r ps:=by
 obtain ⟨⟨l,el,hk⟩,g,eg,rfl,rfl⟩:=h;refine ⟨⟨l,by rw [h2];exact el,hk⟩,?_⟩;unfold cJ at eg
 split at eg
 ·rename_i h0
  by_cases hki:k.toNat=i
  ·rw [hki,e] at eg;cases eg
   have:=hv f (List.mem_of_getElem? e);refine ⟨f',by unfold cJ;rw [if_pos h0,hki];exact e',hr.symm,?_⟩;rw [hp,BA hx (by omega)]
  ·exact ⟨g,by unfold cJ;rw [if_pos h0,h1 _ hki];exact eg,rfl,rfl⟩
 ·cases eg
theorem FU (hn:90000<=n):∀(l:List Nd) (i B:Nat) (c:aD) (w:aF),CO N B c->i+l.length=N->(∀x ∈ l,WF x/\sz x<=3001)->(B:Int)+pB l<=1073741824->(w.e_=0->∀(j:Nat) f,c.p_.aS[j]? = some f->(f.eJ=true->uD (f.bR.take f.bI.toNat) 0<=4)/\(i<=j->f.bI=f.bR.length)/\(j<i->TF (Ea c j) f/\AH f.eR<=3001))->bU (nI (fun i f c w=>gZ n c w i f) l i c w) fun r=>(∃B':Nat,(B':Int)<=B+pB l/\CO N B' r.1)/\WK w r.2/\(r.2.e_=0->∀(j:Nat) f,r.1.p_.aS[j]? = some f->(f.eJ=true->uD (f.bR.take f.bI.toNat) 0<=4)/\TF (Ea r.1 j) f/\AH f.eR<=3001):=by
 intro l
 induction l with
 | nil=>
   intro i B c w h h1 h2 h3 h4;refine .some ⟨⟨B,by rw [jV];omega,h⟩,.refl w,fun e j f hf=>⟨(h4 e j f hf).1,(h4 e j f hf).2.2 ?_⟩⟩;have hj:j<c.p_.aS.length:=(List.getElem?_eq_some_iff.1 hf).1;have:=h.nf;simp only [List.length_nil] at h1;omega
 | cons x l ih=>
   intro i B c w h h1 h2 h3 h4;simp only [List.length_cons] at h1;rw [oQ] at h3 ⊢;have hp:=mB x;have hg:=kU l;unfold nI
   by_cases he:(w.e_ == (0:Int))=true
   ·rw [if_pos he];have he0:w.e_=0:=by simpa using he
    obtain ⟨f,ef,ef2,hfm⟩:=jZ (l:=c.p_.aS) (i:=(i:Int)) (by omega) (by rw [h.nf];omega);obtain ⟨hx1,hx2⟩:=h2 x List.mem_cons_self;obtain ⟨q1,q2,_⟩:=h4 he0 i f (zC ef);refine (HG (w:=w) h (i:=(i:Int)) (by omega) (by omega) ef (q2 (Nat.le_refl _)) hx1 (by omega) (by omega) hn).bind fun r hr=>?_;obtain ⟨⟨B',hb',k1⟩,k2,k4,f',k5,k6,k7,k8,k9,k10,k11⟩:=hr;rw [Int.toNat_natCast] at k4 k11;refine (ih (i+1) B' r.1 r.2 k1 (by omega) (fun y hy=>h2 y (List.mem_cons_of_mem _ hy)) (by omega) (fun e j g hg=>?_)).mono fun q hq=>?_
    ·by_cases hji:j=i
     ·subst hji;rw [zC k5] at hg;cases hg
      refine ⟨fun hx=>?_,fun h=>by omega,fun _=>⟨(k11 e).1,by have:=(k11 e).2;omega⟩⟩;rw [k9,BA k10 (by have:=(h.vl f hfm).2;omega)];exact q1 (by rw [←k7];exact hx)
     ·obtain ⟨a1,a2,a3⟩:=h4 he0 j g (by rw [←(k4 j hji).1];exact hg);refine ⟨a1,fun h=>a2 (by omega),fun hlt=>?_⟩;obtain ⟨hT,hZ⟩:=a3 (by omega);obtain ⟨sc',hTB⟩:=hT.body;exact ⟨⟨⟨sc',hTB.mono (fun k r' ps hs=>GS (fun f hf=>(h.vl f hf).2.2) (fun k hk=>(k4 k hk).1) (k4 j hji).2 (zC ef) (zC k5) k8 k9 k10 hs) (List.prefix_refl _)⟩,hT.ret⟩,hZ⟩
    ·obtain ⟨⟨B2,hb2,h5⟩,h6,h7⟩:=hq;exact ⟨⟨B2,by omega,h5⟩,k2.trans h6,h7⟩
   ·rw [if_neg he];refine (ih (i+1) B c w h (by omega) (fun y hy=>h2 y (List.mem_cons_of_mem _ hy)) (by omega) (fun e=>absurd e (by simpa using he))).mono fun q hq=>?_;obtain ⟨⟨B2,hb2,h5⟩,h6,h7⟩:=hq;exact ⟨⟨B2,by omega,h5⟩,h6,h7⟩
theorem cyc_tot (h:CO N B c) (hB:B<=1073741824) (hn:16384<n):∀(l:List Nd) (i:Nat) (w:aF),i+l.length=N->bU (rB n N c l i w) fun w'=>WK w w'/\(w'.e_=0->∀j:Int,i<=j->j<N->¬ JF c j j):=by
 intro l
 induction l with
 | nil=>intro i w h1;exact .some ⟨.refl w,fun e j h2 h3=>by simp only [List.length_nil] at h1;omega⟩
 | cons x l ih=>
   intro i w h1;simp only [List.length_cons] at h1;unfold rB
   by_cases he:(w.e_ == (0:Int))=true
   ·rw [if_pos he];refine (IA h.nc h.nN h.cl hB hn (i:=(i:Int)) (by omega) (by omega)).bind fun r hr=>?_;rw [kO,Option.bind_some];refine (ih (i+1) _ (by omega)).mono fun q hq=>⟨(WK.nd).trans hq.1,fun e j h2 h3=>?_⟩
    by_cases hji:j=i
    ·subst hji;have e2:(DO w (!r.1) 134 x.eH).e_=0:=by rw [←hq.1 e];exact e
     exact hr (by simpa using (eA (k:=134) (by decide) e2).2.1)
    ·exact hq.2 e j (by omega) h3
   ·rw [if_neg he];exact (ih (i+1) w (by omega)).mono fun q hq=>⟨hq.1,fun e=>absurd (hq.1 e ▸ e) (by simpa using he)⟩
theorem HY {s:cD} (hs:s.length<=3000) (hn:90000<=n):bU (pS n s) fun r=>r.2.1=0->∃c rk,c.p_=r.1/\PO c rk:=by
 unfold pS;refine (Ej (n:=n) (s:=s) (by omega)).bind fun p hp=>?_;refine bU.iteb (fun he=>.some fun e=>absurd e (by simpa using he)) (fun he=>?_);obtain ⟨hw,hz⟩:=hp (by simpa using he);have hg:=kU p.1.aN;refine (Hl (w:=⟨0,0⟩) (x:=p.1) (by omega) (by omega)).bind fun a ha=>bU.need (by omega) ?_;obtain ⟨a1,a2,a3,a4⟩:=ha
 have hsz:∀x ∈ p.1.aN,sz x<=3001/\x.aN.length<=20000:=fun x hx=>by
  have h1:=BC hx;have h2:=yB x;have h3:=kU x.aN;omega
 refine bU.bind (P:=fun b=>(∃B':Nat,(B':Int)<=3001/\CO p.1.aN.length B' b.1)/\WK a.2 b.2/\(b.2.e_=0->∀(j:Nat) f,b.1.p_.aS[j]? = some f->(f.eJ=true->uD (f.bR.take f.bI.toNat) 0<=4)/\TF (Ea b.1 j) f/\AH f.eR<=3001)) ?_ fun b hb=>?_
 ·unfold pR;refine (Ho (n:=n) (by omega) p.1.aN 0 a.1 a.2 a1 (by omega) (fun x hx=>⟨hw x hx,(hsz x hx).2⟩) (fun j f _ hf=>(a2 f (List.mem_of_getElem? hf)).b) (fun _ j f h=>by omega)).bind fun q hq=>?_;obtain ⟨q1,q2,q3,q4⟩:=hq;unfold pR;refine (FU (n:=n) hn p.1.aN 0 0 q.1 q.2 q1 (by omega) (fun x hx=>⟨hw x hx,(hsz x hx).1⟩) (by omega) (fun e j f hf=>?_)).bind fun r hr=>?_
  ·obtain ⟨d1,d2⟩:=q4 e j f hf;refine ⟨fun hx=>?_,fun _=>d1,fun h=>by omega⟩;rw [d1,Int.toNat_natCast,List.take_length];exact d2 hx
  ·obtain ⟨⟨B2,hb2,h5⟩,h6,h7⟩:=hr;unfold pR;exact .some ⟨⟨B2,by omega,h5⟩,q2.trans h6,h7⟩
 ·obtain ⟨⟨B',hb',b1⟩,b2,b3⟩:=hb;refine (cyc_tot (n:=n) b1 (by omega) (by omega) p.1.aN 0 b.2 (by omega)).bind fun w hw2=>?_;refine bU.iteb (fun he2=>.some fun e=>absurd e (by simpa using he2)) (fun he2=>.some fun _=>?_);have he2:w.e_=0:=by simpa using he2
  have eb:b.2.e_=0:=by rw [←hw2.1 he2];exact he2
  have ea:a.2.e_=0:=by rw [←b2 eb];exact eb
  have hN:=b1.nf;obtain ⟨rk,r1,r2⟩:=ranks b1.nc (fun l hl=>(b1.cl l hl).2) (fun i h0 h1=>hw2.2 he2 i h0 h1);refine ⟨b.1,rk,rfl,⟨by rw [hN];exact b1.more (by omega),by rw [hN];exact a4 ea,fun f hf hx=>?_,fun j f hf=>(b3 eb j f hf).2.1,fun f hf=>?_,fun i=>Nat.le_trans (r1 i) (a4 ea),r2⟩⟩
  ·obtain ⟨j,hj⟩:=List.getElem?_of_mem hf;exact (b3 eb j f hj).1 hx
  ·obtain ⟨j,hj⟩:=List.getElem?_of_mem hf;exact (b3 eb j f hj).2.2
end
end Go.Proofs.YtncembphlfbgoaaDoor.Abs
