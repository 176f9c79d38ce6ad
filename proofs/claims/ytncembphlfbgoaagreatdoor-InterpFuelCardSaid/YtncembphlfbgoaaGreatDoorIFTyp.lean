/- Lemmas of ours. -/
import Derived.Test.YtncembphlfbgoaaGreatDoorIFTot
namespace Go.Proofs.YtncembphlfbgoaaGreatDoor.Abs
open IntKind (i64 u32 u64 u8)
open Go.RowKit
set_option linter.unusedVariables false
mutual
def xz:aG->Nat
 | ⟨_,_,_,_,l,_⟩=>1+tG l
def tG:List aG->Nat
 | []=>0
 | x::l=>xz x+tG l
end
mutual
def tz:aH->Nat
 | ⟨_,_,_,l,b,e,_⟩=>1+tG l+Aa b+Aa e
def Aa:List aH->Nat
 | []=>0
 | x::l=>tz x+Aa l
end
theorem AR (x:aG):xz x=1+tG x.aP:=by cases x;rw [xz]
theorem yB (x:aH):tz x=1+tG x.aP+Aa x.eH+Aa x.rZ:=by cases x;rw [tz]
theorem Iw (a b:List aG):tG (a++b)=tG a+tG b:=by
 induction a with
 | nil=>rw [tS,tG,JD]
 | cons x a ih=>rw [BB,tG,tG,ih,Nat.add_assoc]
theorem tzL_app (a b:List aH):Aa (a++b)=Aa a+Aa b:=by
 induction a with
 | nil=>rw [tS,Aa,JD]
 | cons x a ih=>rw [BB,Aa,Aa,ih,Nat.add_assoc]
theorem CX (x:aG):1<=xz x:=by rw [AR];omega
theorem tz_pos (x:aH):1<=tz x:=by rw [yB];omega
theorem xzL_len (l:List aG):l.length<=tG l:=by
 induction l with
 | nil=>exact La _
 | cons x l ih=>have:=CX x;rw [jK,tG];omega
theorem tzL_len (l:List aH):l.length<=Aa l:=by
 induction l with
 | nil=>exact La _
 | cons x l ih=>have:=tz_pos x;rw [jK,Aa];omega
theorem xzL_mem {l:List aG} {x:aG} (h:x ∈ l):xz x<=tG l:=by
 obtain ⟨a,b,rfl⟩:=xdj h;rw [Iw,tG];omega
theorem tzL_mem {l:List aH} {x:aH} (h:x ∈ l):tz x<=Aa l:=by
 obtain ⟨a,b,rfl⟩:=xdj h;rw [tzL_app,Aa];omega
def wA (n:Int):Prop:=1<=n/\n<=255 ∨ 255<n/\n<=1024/\n % 4=0
def Cz (v:aZ):Prop:=1<=v.cF/\v.cF<=4/\(v.cF=4->wA v.iV)
theorem PF {s:cR}:Cz ⟨s,1,0⟩:=⟨(by decide:(1:Int)<=1),(by decide:(1:Int)<=4),fun h=>absurd h (by simp)⟩
theorem PE {s:cR} {n:Int} (h:wA n):Cz ⟨s,4,n⟩:=⟨(by decide:(1:Int)<=4),(by decide:(4:Int)<=4),fun _=>h⟩
theorem varOkW {s:cR} {k:Int} (h1:1<=k) (h2:k<=3):Cz ⟨s,k,0⟩:=⟨h1,(by simp only;omega),fun h=>by simp only at h;omega⟩
def xF (a b:Int):Int:=if a=b/\1<=a/\a<=3 then a else if a=1/\b=2 ∨ a=2/\b=1 then 2 else 0
def IJ (t:Int):Int:=if t=1 then 2 else t
def ScT (t:Int):Prop:=t=1 ∨ t=2
def OZ (t k:Int):Prop:=t=k ∨ t=1/\k=2
def BinT (o:cR) (x y:aG) (t:Int):Prop:=
 ((o=[47] ∨ o=[37])/\x.cU=1/\y.cU=1/\t=1) ∨
 ((o=[60,60] ∨ o=[62,62] ∨ o=[60,60,60])/\y.cU=1/\(x.cU=3->y.lE=[110,117,109]/\y.N_<=63)/\t=x.cU) ∨
 (o=[42]/\t=xF x.cU y.cU/\t ≠ 3/\t ≠ 0) ∨
 ((o=[61,61] ∨ o=[60])/\xF x.cU y.cU ≠ 0/\t=if xF x.cU y.cU=3 then 2 else xF x.cU y.cU) ∨
 ((o=[124] ∨ o=[94] ∨ o=[38] ∨ o=[43] ∨ o=[45])/\t=xF x.cU y.cU/\t ≠ 0)
inductive TX (vs:List aZ) (sc:List Int):aG->Prop
 | num {n a}:TX vs sc ⟨[110,117,109],1,n,-1,[],a⟩
 | var {v u a}:v ∈ sc->bY vs v=some u->u.cF ≠ 4->TX vs sc ⟨[118,97,114],u.cF,0,v,[],a⟩
 | index {v u i a}:v ∈ sc->bY vs v=some u->u.cF=4->TX vs sc i->i.cU=1->(i.lE=[110,117,109]->i64.wrap i.N_<u.iV)->TX vs sc ⟨[105,110,100,101,120],2,0,v,[i],a⟩
 | un {o x a}:(o=[110,111,116] ∨ o=[110,101,103])->TX vs sc x->TX vs sc ⟨o,x.cU,0,-1,[x],a⟩
 | bin {o x y t a}:TX vs sc x->TX vs sc y->BinT o x y t->TX vs sc ⟨o,t,0,-1,[x,y],a⟩
 | sel {c x y a}:TX vs sc c->TX vs sc x->TX vs sc y->ScT c.cU->xF x.cU y.cU ≠ 0->TX vs sc ⟨[115,101,108,101,99,116],IJ (xF x.cU y.cU),0,-1,[c,x,y],a⟩
 | long {x a}:TX vs sc x->ScT x.cU->TX vs sc ⟨[108,111,110,103],3,0,-1,[x],a⟩
 | wide {x y a}:TX vs sc x->TX vs sc y->ScT x.cU->ScT y.cU->TX vs sc ⟨[119,105,100,101],3,0,-1,[x,y],a⟩
 | half {o x a}:(o=[108,111] ∨ o=[104,105])->TX vs sc x->x.cU=3->TX vs sc ⟨o,2,0,-1,[x],a⟩
inductive FG (vs:List aZ) (sc:List Int) (p:aZ):aG->Prop
 | arr {v u a}:p.cF=4->v ∈ sc->bY vs v=some u->u.cF=4->u.iV=p.iV->FG vs sc p ⟨[118,97,114],4,0,v,[],a⟩
 | pub {x}:p.cF=1->TX vs sc x->x.cU=1->FG vs sc p x
 | val {x}:p.cF ≠ 1->p.cF ≠ 4->TX vs sc x->OZ x.cU p.cF->FG vs sc p x
def Ej (vs:List aZ) (sc:List Int) (ps:List aZ) (l:List aG):Prop:=l.length=ps.length/\∀(i:Nat) p x,ps[i]? = some p->l[i]? = some x->FG vs sc p x
abbrev Mr:=Int->Int->List aZ->Prop
inductive TB (sg:Mr) (vs:List aZ) (res:Int):Bool->Nat->List Int->List aH->Nat->List Int->Prop
 | nil {l n sc}:TB sg vs res l n sc [] n sc
 | let_ {l n sc x u a ss n' sc'}:TX vs sc x->x.cU=1->vs[n]? = some u->u.cF=1->TB sg vs res l (n+1) (sc++[(n:Int)]) ss n' sc'->TB sg vs res l n sc (⟨[108,101,116],n,0,[x],[],[],a⟩::ss) n' sc'
 | var_ {l n sc x u a ss n' sc'}:TX vs sc x->vs[n]? = some u->u.cF=IJ x.cU->TB sg vs res l (n+1) (sc++[(n:Int)]) ss n' sc'->TB sg vs res l n sc (⟨[118,97,114],n,0,[x],[],[],a⟩::ss) n' sc'
 | arr {l n sc u a ss n' sc'}:vs[n]? = some u->u.cF=4->TB sg vs res l (n+1) (sc++[(n:Int)]) ss n' sc'->TB sg vs res l n sc (⟨[97,114,114],n,0,[],[],[],a⟩::ss) n' sc'
 | callv {l n sc f r ps xs u a ss n' sc'}:sg f r ps->Ej vs sc ps xs->r ≠ 0->vs[n]? = some u->u.cF=r->TB sg vs res l (n+1) (sc++[(n:Int)]) ss n' sc'->TB sg vs res l n sc (⟨[99,97,108,108],n,f,xs,[],[],a⟩::ss) n' sc'
 | set {l n sc v u x a ss n' sc'}:v ∈ sc->bY vs v=some u->(u.cF=2 ∨ u.cF=3)->TX vs sc x->OZ x.cU u.cF->TB sg vs res l n sc ss n' sc'->TB sg vs res l n sc (⟨[115,101,116],v,0,[x],[],[],a⟩::ss) n' sc'
 | calls {l n sc v u f r ps xs a ss n' sc'}:v ∈ sc->bY vs v=some u->(u.cF=2 ∨ u.cF=3)->sg f r ps->Ej vs sc ps xs->r=u.cF->TB sg vs res l n sc ss n' sc'->TB sg vs res l n sc (⟨[99,97,108,108],v,f,xs,[],[],a⟩::ss) n' sc'
 | put {l n sc v u i x a ss n' sc'}:v ∈ sc->bY vs v=some u->u.cF=4->TX vs sc i->i.cU=1->(i.lE=[110,117,109]->i64.wrap i.N_<u.iV)->TX vs sc x->OZ x.cU 2->TB sg vs res l n sc ss n' sc'->TB sg vs res l n sc (⟨[112,117,116],v,0,[i,x],[],[],a⟩::ss) n' sc'
 | do_ {l n sc f r ps xs a ss n' sc'}:sg f r ps->Ej vs sc ps xs->TB sg vs res l n sc ss n' sc'->TB sg vs res l n sc (⟨[99,97,108,108],-1,f,xs,[],[],a⟩::ss) n' sc'
 | if_ {l n sc c b e a n1 sc1 n2 sc2 ss n' sc'}:TX vs sc c->c.cU=1->TB sg vs res false n sc b n1 sc1->TB sg vs res false n1 sc e n2 sc2->TB sg vs res l n2 sc ss n' sc'->TB sg vs res l n sc (⟨[105,102],-1,0,[c],b,e,a⟩::ss) n' sc'
 | for_ {l n sc x y u b a n1 sc1 ss n' sc'}:TX vs sc x->x.cU=1->TX vs sc y->y.cU=1->vs[n]? = some u->u.cF=1->TB sg vs res false (n+1) (sc++[(n:Int)]) b n1 sc1->TB sg vs res l n1 sc ss n' sc'->TB sg vs res l n sc (⟨[102,111,114],n,0,[x,y],b,[],a⟩::ss) n' sc'
 | ret {n sc x a}:TX vs sc x->res ≠ 0->OZ x.cU res->TB sg vs res true n sc [⟨[114,101,116,117,114,110],-1,0,[x],[],[],a⟩] n sc
 | retc {n sc f ps xs a}:sg f res ps->res ≠ 0->Ej vs sc ps xs->TB sg vs res true n sc [⟨[99,97,108,108],-2,f,xs,[],[],a⟩] n sc
section
variable {vs vs':List aZ} {sc sc':List Int}
theorem Bu {α:Type} {l l':List α} (h:l <+: l') {i:Int} {x:α} (e:bY l i=some x):bY l' i=some x:=by
 obtain ⟨r,rfl⟩:=h;unfold bY at e ⊢
 split at e
 ·rename_i h0;rw [if_pos h0,FX (qS.1 e).1];exact e
 ·cases e
theorem DR {α:Type} {l l':List α} (h:l <+: l') {i:Nat} {x:α} (e:l[i]? = some x):l'[i]? = some x:=by
 obtain ⟨r,rfl⟩:=h;rw [FX (qS.1 e).1];exact e
theorem TX.mono (hv:vs <+: vs') (hs:∀v ∈ sc,v ∈ sc') {x:aG} (h:TX vs sc x):TX vs' sc' x:=by
 induction h with
 | num=>exact .num
 | var h1 h2 h3=>exact .var (hs _ h1) (Bu hv h2) h3
 | index h1 h2 h3 _ h5 h6 ih=>exact .index (hs _ h1) (Bu hv h2) h3 ih h5 h6
 | un h1 _ ih=>exact .un h1 ih
 | bin _ _ h ih1 ih2=>exact .bin ih1 ih2 h
 | sel _ _ _ h1 h2 ih1 ih2 ih3=>exact .sel ih1 ih2 ih3 h1 h2
 | long _ h ih=>exact .long ih h
 | wide _ _ h1 h2 ih1 ih2=>exact .wide ih1 ih2 h1 h2
 | half h1 _ h2 ih=>exact .half h1 ih h2
theorem FG.mono (hv:vs <+: vs') (hs:∀v ∈ sc,v ∈ sc') {p:aZ} {x:aG} (h:FG vs sc p x):FG vs' sc' p x:=by
 cases h with
 | arr h1 h2 h3 h4 h5=>exact .arr h1 (hs _ h2) (Bu hv h3) h4 h5
 | pub h1 h2 h3=>exact .pub h1 (h2.mono hv hs) h3
 | val h1 h2 h3 h4=>exact .val h1 h2 (h3.mono hv hs) h4
theorem Ej.mono (hv:vs <+: vs') (hs:∀v ∈ sc,v ∈ sc') {ps:List aZ} {l:List aG} (h:Ej vs sc ps l):Ej vs' sc' ps l:=⟨h.1,fun i p x h1 h2=>(h.2 i p x h1 h2).mono hv hs⟩
theorem FS (a b:Int):xF a b=0 ∨ 1<=xF a b/\xF a b<=3:=by
 unfold xF
 repeat' split <;> omega
theorem TX.range (hv:∀v ∈ vs,Cz v) {x:aG} (h:TX vs sc x):1<=x.cU/\x.cU<=3:=by
 induction h with
 | num=>exact ⟨by simp only;decide,by simp only;decide⟩
 | @var v u a h1 h2 h3=>
   have hm:u ∈ vs:=by
    unfold bY at h2
    split at h2
    ·exact AT h2
    ·cases h2
   have:=hv u hm;exact ⟨this.1,by have:=this.2.1;simp only;omega⟩
 | index _ _ _ _ _ _ _=>exact ⟨by simp only;decide,by simp only;decide⟩
 | un _ _ ih=>exact ih
 | @bin o x y t a _ _ hb ih1 ih2=>
   have:=FS x.cU y.cU;simp only
   rcases hb with ⟨_,_,_,h⟩ | ⟨_,_,_,h⟩ | ⟨_,h,_,h0⟩ | ⟨_,h0,h⟩ | ⟨_,h,h0⟩
   ·omega
   ·omega
   ·omega
   ·split at h <;> omega
   ·omega
 | @sel c x y a _ _ _ _ h _ _ _=>
   have:=FS x.cU y.cU;simp only;unfold IJ
   split <;> omega
 | long _ _ _=>exact ⟨by simp only;decide,by simp only;decide⟩
 | wide _ _ _ _ _ _=>exact ⟨by simp only;decide,by simp only;decide⟩
 | half _ _ _ _=>exact ⟨by simp only;decide,by simp only;decide⟩
variable {sg sg':Mr} {res:Int} {l:Bool} {n n':Nat} {ss:List aH}
theorem TB.mono (hg:∀k r ps,sg k r ps->sg' k r ps) (hv:vs <+: vs') (h:TB sg vs res l n sc ss n' sc'):TB sg' vs' res l n sc ss n' sc':=by
 have hs:∀ {sc:List Int} v,v ∈ sc->v ∈ sc:=fun _ h=>h
 induction h with
 | nil=>exact .nil
 | let_ h1 h2 h3 h4 _ ih=>exact .let_ (h1.mono hv hs) h2 (DR hv h3) h4 ih
 | var_ h1 h3 h4 _ ih=>exact .var_ (h1.mono hv hs) (DR hv h3) h4 ih
 | arr h3 h4 _ ih=>exact .arr (DR hv h3) h4 ih
 | callv h1 h2 h3 h4 h5 _ ih=>exact .callv (hg _ _ _ h1) (h2.mono hv hs) h3 (DR hv h4) h5 ih
 | set h1 h2 h3 h4 h5 _ ih=>exact .set h1 (Bu hv h2) h3 (h4.mono hv hs) h5 ih
 | calls h1 h2 h3 h4 h5 h6 _ ih=>exact .calls h1 (Bu hv h2) h3 (hg _ _ _ h4) (h5.mono hv hs) h6 ih
 | put h1 h2 h3 h4 h5 h6 h7 h8 _ ih=>exact .put h1 (Bu hv h2) h3 (h4.mono hv hs) h5 h6 (h7.mono hv hs) h8 ih
 | do_ h1 h2 _ ih=>exact .do_ (hg _ _ _ h1) (h2.mono hv hs) ih
 | if_ h1 h2 _ _ _ ih1 ih2 ih3=>exact .if_ (h1.mono hv hs) h2 ih1 ih2 ih3
 | for_ h1 h2 h3 h4 h5 h6 _ _ ih1 ih2=>exact .for_ (h1.mono hv hs) h2 (h3.mono hv hs) h4 (DR hv h5) h6 ih1 ih2
 | ret h1 h2 h3=>exact .ret (h1.mono hv hs) h2 h3
 | retc h1 h2 h3=>exact .retc (hg _ _ _ h1) h2 (h3.mono hv hs)
theorem TB.app {n1:Nat} {sc1:List Int} {xs ys:List aH} {l0:Bool} (h:TB sg vs res l0 n sc xs n1 sc1) (h0:l0=false) (k:TB sg vs res l n1 sc1 ys n' sc'):TB sg vs res l n sc (xs++ys) n' sc':=by
 induction h with
 | nil=>exact k
 | let_ h1 h2 h3 h4 _ ih=>exact .let_ h1 h2 h3 h4 (ih h0 k)
 | var_ h1 h3 h4 _ ih=>exact .var_ h1 h3 h4 (ih h0 k)
 | arr h3 h4 _ ih=>exact .arr h3 h4 (ih h0 k)
 | callv h1 h2 h3 h4 h5 _ ih=>exact .callv h1 h2 h3 h4 h5 (ih h0 k)
 | set h1 h2 h3 h4 h5 _ ih=>exact .set h1 h2 h3 h4 h5 (ih h0 k)
 | calls h1 h2 h3 h4 h5 h6 _ ih=>exact .calls h1 h2 h3 h4 h5 h6 (ih h0 k)
 | put h1 h2 h3 h4 h5 h6 h7 h8 _ ih=>exact .put h1 h2 h3 h4 h5 h6 h7 h8 (ih h0 k)
 | do_ h1 h2 _ ih=>exact .do_ h1 h2 (ih h0 k)
 | if_ h1 h2 h3 h4 _ _ _ ih3=>exact .if_ h1 h2 h3 h4 (ih3 h0 k)
 | for_ h1 h2 h3 h4 h5 h6 h7 _ _ ih2=>exact .for_ h1 h2 h3 h4 h5 h6 h7 (ih2 h0 k)
 | ret h1 h2 h3=>cases h0
 | retc h1 h2 h3=>cases h0
end
def Jz (w:aI) (b:Bool) (k a:Int):aI:=if b=true then w else if (w.e_ == (0:Int))=true then ⟨k,a⟩ else w
theorem nM {c:aD} {w:aI} {b:Bool} {k a:Int}:aW c w b k a=some (Jz w b k a):=by
 unfold aW pT Jz;cases b
 ·simp only [Bool.not_false,if_true,xX,if_false]
  split <;> rfl
 ·simp
theorem fH {w:aI} {b:Bool} {k a:Int} (hk:k ≠ 0) (h:(Jz w b k a).e_=0):w.e_=0/\b=true/\Jz w b k a=w:=by
 unfold Jz at h ⊢;cases b
 ·simp only [xX,if_false] at h ⊢
  split at h
  ·exact absurd h hk
  ·rename_i h2;simp at h2;exact absurd h h2
 ·exact ⟨by simpa using h,rfl,by simp⟩
theorem Qq {w:aI} {b:Bool} {k a:Int} (hk:k ≠ 0) (h:w.e_ ≠ 0):(Jz w b k a).e_ ≠ 0:=fun h2=>h (fH hk h2).1
def sA (c:aD):List aZ:=((c.p_.bG[c.f_.toNat]?).map aY.bB).getD []
structure CI (N B:Nat) (c:aD):Prop where
 nf:c.p_.bG.length=N
 nN:N<=16384
 f0:0<=c.f_
 f1:c.f_<N
 a0:0<=c.gC
 a1:c.gC<N
 sc:∀v ∈ c.bL,0<=v/\v<(sA c).length
 sl:c.bL.length<=(sA c).length
 vl:∀f ∈ c.p_.bG,f.bB.length<=250/\0<=f.bD/\f.bD<=f.bB.length
 nc:c.cJ.length=N
 cl:∀l ∈ c.cJ,l.length<=B/\∀k ∈ l,0<=k/\k<N
 ki:∀f ∈ c.p_.bG,(∀v ∈ f.bB,Cz v)/\(f.cX=0 ∨ f.cX=2 ∨ f.cX=3)
section
variable {N B n:Nat} {c:aD} {w:aI} {s:cR}
theorem CI.cur (h:CI N B c):∃f,c.p_.bG[c.f_.toNat]? = some f/\f ∈ c.p_.bG/\sA c=f.bB/\bY c.p_.bG c.f_=some f:=by
 have hl:c.f_.toNat<c.p_.bG.length:=by have:=h.nf;have:=h.f0;have:=h.f1;omega
 refine ⟨c.p_.bG[c.f_.toNat],tH hl,xdv _,?_,?_⟩
 ·unfold sA;rw [tH hl];rfl
 ·unfold bY;rw [if_pos h.f0,tH hl]
theorem CI.vs (h:CI N B c):(sA c).length<=250:=by
 obtain ⟨f,_,hm,e,_⟩:=h.cur;rw [e];exact (h.vl f hm).1
theorem mR {α:Type} {l:List α} {i:Int} (h0:0<=i) (h1:i<l.length):∃x,bY l i=some x/\l[i.toNat]? = some x/\x ∈ l:=by
 have hl:i.toNat<l.length:=by omega
 exact ⟨l[i.toNat],by unfold bY;rw [if_pos h0,tH hl],tH hl,xdv _⟩
theorem find_l1 (h:CI N B c):∀(k:Nat) (v:Int),v<k->-1<=v->v<c.bL.length->∃r,jE c s (k+1) v=some r/\(r=.inl () ∨ ∃i x,r=.inr i/\i ∈ c.bL/\(sA c)[i.toNat]? = some x/\x.jP=s):=by
 obtain ⟨f,hf,hm,hv,hfi⟩:=h.cur;intro k
 induction k with
 | zero=>
   intro v h1 h2 h3;have:v=-1:=by omega
   subst this;exact ⟨_,rfl,.inl rfl⟩
 | succ k ih=>
   intro v h1 h2 h3;unfold jE
   by_cases h0:0<=v
   ·rw [if_pos (Fh h0),hfi];obtain ⟨i,e1,_,hi⟩:=mR h0 h3;obtain ⟨g0,g1⟩:=h.sc i hi;rw [hv] at g1;obtain ⟨x,e2,e3,_⟩:=mR g0 g1;simp only [pI,e1,e2]
    by_cases hn:x.jP=s
    ·rw [if_pos (Fh hn)];exact ⟨_,rfl,.inr ⟨i,x,rfl,hi,by rw [hv];exact e3,hn⟩⟩
    ·rw [if_neg (by simpa using hn)];have hl:c.bL.length<=250:=JE h.sl h.vs;rw [fR (by omega) (by omega)];exact ih (v - 1) (by omega) (by omega) (by omega)
   ·rw [if_neg (by simpa using h0)];exact ⟨_,rfl,.inl rfl⟩
theorem KG (h:CI N B c) (hn:300<n):bC (kX n c w s) fun r=>r=-1 ∨ ∃x,r ∈ c.bL/\(sA c)[r.toNat]? = some x/\x.jP=s:=by
 have hl:c.bL.length<=250:=JE h.sl h.vs;unfold kX;obtain ⟨m,rfl⟩:∃m,n=m+1:=⟨n - 1,by omega⟩;rw [fR (by omega) (by omega)];obtain ⟨r,e,hr⟩:=find_l1 (s:=s) h m ((c.bL.length:Int) - 1) (by omega) (by omega) (by omega);rw [e]
 rcases hr with rfl | ⟨i,x,rfl,h1,h2,h3⟩
 ·exact ⟨_,rfl,.inl rfl⟩
 ·exact ⟨_,rfl,.inr ⟨x,h1,h2,h3⟩⟩
theorem Bx (h:CI N B c) (hn:300<n) {x:Nd}:bC (gS n c w x) fun r=>(r.1=-1 ∨ 0<=r.1/\r.1<(sA c).length)/\(w.e_ ≠ 0->r.2.e_ ≠ 0)/\(r.2.e_=0->r.2=w/\∃v,r.1 ∈ c.bL/\0<=r.1/\(sA c)[r.1.toNat]? = some v/\v.jP=x.cP):=by
 unfold gS;refine (KG (w:=w) (s:=x.cP) h hn).bind fun v hv=>?_;rw [nM];refine .some ⟨?_,Qq (by decide),fun he=>?_⟩
 ·rcases hv with rfl | ⟨y,h1,_,_⟩
  ·exact .inl rfl
  ·exact .inr (h.sc _ h1)
 ·obtain ⟨_,k2,k3⟩:=fH (by decide) he;have hv0:0<=v:=DW k2
  rcases hv with rfl | ⟨y,h1,h2,h3⟩
  ·exact absurd hv0 (by decide)
  ·exact ⟨k3,y,h1,hv0,h2,h3⟩
theorem yU (h:CI N B c) {v:Int} (hv:v=-1 ∨ 0<=v/\v<(sA c).length):bC (fK c w v) fun k=>v=-1/\k=0 ∨ 0<=v/\∃x,(sA c)[v.toNat]? = some x/\k=x.cF:=by
 unfold fK
 rcases hv with rfl | ⟨h0,h1⟩
 ·exact .some (.inl ⟨rfl,rfl⟩)
 ·rw [if_neg (by simp;omega)];obtain ⟨f,_,_,hvs,hfi⟩:=h.cur;rw [hfi];rw [hvs] at h1 ⊢;obtain ⟨x,e1,e2,_⟩:=mR h0 h1;simp only [pI,e1];exact .some (.inr ⟨h0,x,e2,rfl⟩)
def NH (f:aY):aY:={ f with bB:=[],eH:=[] }
structure Kp (c c':aD):Prop where
 f:c'.f_=c.f_
 a:c'.gC=c.gC
 s:c.bL <+: c'.bL
 v:sA c <+: sA c'
 o:∀i,i ≠ c.f_.toNat->c'.p_.bG[i]? = c.p_.bG[i]?
 g:c'.p_.bG.map NH=c.p_.bG.map NH
 k:∀j:Nat,j ≠ c.gC.toNat->c'.cJ[j]? = c.cJ[j]?
 l:∀l,bY c.cJ c.gC=some l->∃l',bY c'.cJ c.gC=some l'/\l <+: l'
theorem Kp.refl (c:aD):Kp c c:=⟨rfl,rfl,Pd _,Pd _,fun _ _=>rfl,rfl,fun _ _=>rfl,fun l e=>⟨l,e,Pd _⟩⟩
theorem Kp.trans {c1 c2 c3:aD} (h:Kp c1 c2) (k:Kp c2 c3):Kp c1 c3:=⟨k.f.trans h.f,k.a.trans h.a,h.s.trans k.s,h.v.trans k.v,fun i hi=>(k.o i (by rw [h.f];exact hi)).trans (h.o i hi),k.g.trans h.g,fun j hj=>(k.k j (by rw [h.a];exact hj)).trans (h.k j hj),fun l e=>by
 obtain ⟨l1,e1,p1⟩:=h.l l e;obtain ⟨l2,e2,p2⟩:=k.l l1 (by rw [h.a];exact e1);exact ⟨l2,by rw [←h.a];exact e2,p1.trans p2⟩⟩
theorem sF (h:CI N B c) (hn:300<n) {x:aZ} {a:Int} (hx:w.e_=0->Cz x):bC (eE n c w x a) fun r=>CI N B r.2.1/\Kp c r.2.1/\r.2.1.cJ=c.cJ/\(w.e_ ≠ 0->r.2.2.e_ ≠ 0)/\(r.2.2.e_=0->r.2.2=w/\r.1=(sA c).length/\sA r.2.1=sA c++[x]/\r.2.1.bL=c.bL++[((sA c).length:Int)])/\(r.1=-1 ∨ 0<=r.1/\r.1<(sA r.2.1).length):=by
 unfold eE;refine (KG (w:=w) (s:=x.jP) h hn).bind fun v hv=>?_;obtain ⟨f,hf,hm,hvs,hfi⟩:=h.cur;rw [nM,hfi];simp only [pI,nM];refine bC.iteb (fun he=>?_) fun he=>?_
 ·simp only [bne_iff_ne] at he;exact .some ⟨h,.refl c,rfl,fun _=>he,fun h2=>absurd h2 he,.inl rfl⟩
 ·simp only [bne_eq_false_iff_eq] at he;obtain ⟨k1,k2,k3⟩:=fH (by decide) he;obtain ⟨j1,j2,j3⟩:=fH (by decide) k1;have hlt:(f.bB.length:Int)<250:=DW k2;have hsl:=h.sl;rw [hvs] at hsl;refine bC.need (by omega) (bC.need (by omega) ?_);have hl:c.f_.toNat<c.p_.bG.length:=by have:=h.nf;have:=h.f0;have:=h.f1;omega
  have hv2:sA { c with p_:=⟨c.p_.bG.set c.f_.toNat { f with bB:=f.bB++[x] }⟩,bL:=c.bL++[(f.bB.length:Int)] }=f.bB++[x]:=by
   unfold sA;simp only;rw [Li hl];rfl
  refine .some ⟨⟨by simp only [HL];exact h.nf,h.nN,h.f0,h.f1,h.a0,h.a1,?_,?_,?_,h.nc,h.cl,?_⟩,⟨rfl,rfl,xej _ _,?_,fun i hi=>?_,?_,fun _ _=>rfl,fun l e=>⟨l,e,Pd _⟩⟩,rfl,fun hw=>absurd j1 hw,fun _=>⟨by rw [k3,j3],by rw [hvs],by rw [hv2,hvs],by rw [hvs]⟩,.inr ⟨by omega,?_⟩⟩
  ·intro u hu;rw [hv2]
   rcases Ah.1 hu with hu | hu
   ·have:=h.sc u hu;rw [hvs] at this;simp only [nL,uP];omega
   ·obtain rfl:=AU.1 hu;simp only [nL,uP];omega
  ·rw [hv2];simp only [nL,uP];omega
  ·intro g hg
   rcases HN hg with hg | rfl
   ·exact h.vl g hg
   ·have:=h.vl f hm;simp only [nL,uP];omega
  ·intro g hg
   rcases HN hg with hg | rfl
   ·exact h.ki g hg
   ·refine ⟨fun v hv=>?_,(h.ki f hm).2⟩
    rcases Ah.1 hv with hv | hv
    ·exact (h.ki f hm).1 v hv
    ·obtain rfl:=AU.1 hv;exact hx j1
  ·rw [hv2,hvs];exact xej _ _
  ·exact My (Ne.symm hi)
  ·show List.map NH (c.p_.bG.set c.f_.toNat _)=_;rw [xdw];refine Mz fun i=>?_
   by_cases e:c.f_.toNat=i
   ·subst e;rw [Li (by rw [uQ];exact hl),zC,hf];rfl
   ·rw [My e]
  ·rw [hv2];simp only [nL,uP];omega
def sgC (c:aD):Mr:=fun k r ps=>(∃l,bY c.cJ c.gC=some l/\k ∈ l)/\∃f,bY c.p_.bG k=some f/\r=f.cX/\ps=f.bB.take f.bD.toNat
theorem Kp.fn {c':aD} (h:CI N B c) (k:Kp c c') {i:Int} {f:aY} (e:bY c.p_.bG i=some f):∃f',bY c'.p_.bG i=some f'/\f'.jP=f.jP/\f'.iC=f.iC/\f'.cX=f.cX/\f'.bD=f.bD/\f.bB <+: f'.bB/\(i ≠ c.f_->f'=f):=by
 unfold bY at e ⊢
 split at e
 ·rename_i h0;rw [if_pos h0]
  by_cases hi:i=c.f_
  ·subst hi;obtain ⟨f2,e2,hm2,hv2,_⟩:=h.cur;rw [e] at e2;cases e2
   have hlen:c.p_.bG.length=c'.p_.bG.length:=by simpa using (congrArg List.length k.g).symm
   have hlt:=(qS.1 e).1;have e3:c'.p_.bG[c.f_.toNat]? = some (c'.p_.bG[c.f_.toNat]'(by omega)):=tH _
   have hs:NH (c'.p_.bG[c.f_.toNat]'(by omega))=NH f:=by
    have:=congrArg (fun l=>l[c.f_.toNat]?) k.g;simp only [zC,e3,e,Ee,Option.some.injEq] at this;exact this
   have hv:sA c'=(c'.p_.bG[c.f_.toNat]'(by omega)).bB:=by
    unfold sA;rw [k.f,e3];rfl
   have hp:=k.v;rw [hv2,hv] at hp;simp only [NH,aY.mk.injEq] at hs;exact ⟨_,e3,hs.1,hs.2.1,hs.2.2.1,hs.2.2.2.1,hp,fun h=>absurd rfl h⟩
  ·refine ⟨f,?_,rfl,rfl,rfl,rfl,Pd _,fun _=>rfl⟩;rw [k.o _ (by have:=h.f0;omega)];exact e
 ·cases e
def IN (c:aD):Int:=((c.p_.bG[c.f_.toNat]?).map aY.cX).getD 0
theorem CI.res (h:CI N B c) {f:aY} (e:bY c.p_.bG c.f_=some f):IN c=f.cX:=by
 unfold bY at e;rw [if_pos h.f0] at e;unfold IN;rw [e];rfl
theorem Kp.res {c':aD} (h:CI N B c) (k:Kp c c'):IN c'=IN c:=by
 obtain ⟨f,_,_,_,e⟩:=h.cur;obtain ⟨f',e',_,_,hr,_⟩:=k.fn h e;rw [h.res e,←hr];unfold bY at e';rw [if_pos h.f0] at e';unfold IN;rw [k.f,e'];rfl
theorem CI.vsOk (h:CI N B c):∀v ∈ sA c,Cz v:=by
 obtain ⟨f,_,hm,e,_⟩:=h.cur;rw [e];exact (h.ki f hm).1
theorem Gy {α:Type} {l l':List α} (h:l <+: l') {n:Nat} (hn:n<=l.length):l'.take n=l.take n:=by
 obtain ⟨r,rfl⟩:=h;exact List.take_append_of_le_length hn
theorem Kp.sg {c':aD} (h:CI N B c) (k:Kp c c') {i r:Int} {ps:List aZ} (e:sgC c i r ps):sgC c' i r ps:=by
 obtain ⟨⟨l,e1,hl⟩,f,e2,rfl,rfl⟩:=e;obtain ⟨l',e3,hp⟩:=k.l l e1;obtain ⟨f',e4,_,_,hr,hps,hv,_⟩:=k.fn h e2
 have hm:f ∈ c.p_.bG:=by
  unfold bY at e2
  split at e2
  ·exact AT e2
  ·cases e2
 have:=h.vl f hm;refine ⟨⟨l',by rw [k.a];exact e3,hp.subset hl⟩,f',e4,hr.symm,?_⟩;rw [hps,Gy hv (by omega)]
end
def Pr (c:aD) (w:aI) (x:aB) (r:aG × aI):Prop:=r.2.e_=0->r.2=w/\TX (sA c) c.bL r.1/\(xz r.1:Int)<=sz x
def WK (w w':aI):Prop:=w'.e_=0->w'=w
theorem WK.refl (w:aI):WK w w:=fun _=>rfl
theorem WK.trans {a b c:aI} (h:WK a b) (k:WK b c):WK a c:=fun e=>by
 have h2:=k e;subst h2;exact h e
theorem WK.nd {w:aI} {b:Bool} {k a:Int} (hk:k ≠ 0:=by decide):WK w (Jz w b k a):=fun e=>(fH hk e).2.2
theorem GS {a b:Int}:bC (sP a b) fun r=>r=xF a b:=by
 unfold sP xF;simp only [beq_iff_eq,FV]
 repeat' split
 all_goals first | exact .some (by omega) | (simp only [pI,FV,beq_iff_eq,xX,if_false,if_true];repeat' split) 
 all_goals first | exact .some (by omega) | (exfalso;omega)
theorem BK {a:Int}:bC (pX a) fun r=>r=true->ScT a:=by
 unfold pX;refine bC.bind (P:=fun r=>r=true->ScT a) (bC.iteb (fun h=>.some fun _=>.inl (by simpa using h)) fun _=>.some fun h=>.inr (by simpa using h)) fun b h=>.some h
theorem GD {a:Int}:bC (sO a) fun r=>r=IJ a:=by
 unfold sO IJ;simp only [beq_iff_eq]
 split <;> exact .some rfl
theorem EZ {a b:Int}:bC (sH a b) fun r=>r=true->OZ a b:=by
 unfold sH;refine bC.bind (P:=fun r=>r=true->OZ a b) (bC.iteb (fun h=>.some fun _=>.inl (by simpa using h)) fun _=>bC.iteb (fun h=>.some fun h2=>.inr ⟨by simpa using h,by simpa using h2⟩) fun _=>.some fun h=>nomatch h) fun b h=>.some h
theorem HU {a:Int}:bC (uH a) fun r=>r=true->wA a:=by
 unfold uH wA;refine bC.bind (P:=fun r=>r=true->wA a) ?_ fun b h=>.some h;unfold wA;simp only [FV]
 have ht:∀ {b:Bool},255<a->a<=1024->b=(a.tmod 4 == 0)->bC (some b) fun r=>r=true->(1<=a/\a<=255 ∨ 255<a/\a<=1024/\a % 4=0):=fun h1 h2 h3=>.some fun h=>.inr ⟨h1,h2,by
  rw [h3,beq_iff_eq,Int.tmod_eq_emod_of_nonneg (by omega)] at h;exact h⟩
 repeat' split
 all_goals first | exact .some fun h=>Bool.noConfusion h | exact .some fun _=>.inl ⟨‹_›,‹_›⟩ | exact ht (by omega) (by omega) rfl
section
variable {N B n:Nat} {c:aD} {w:aI}
theorem tU {x:aG} {k:Int}:bC (cT c w x k) fun r=>WK w r.2/\r.1={ x with cU:=k }/\(r.2.e_=0->k ≠ 0):=by
 unfold cT;rw [nM];refine .some ⟨.nd,rfl,fun e=>?_⟩;have:=(fH (by decide) e).2.1;simpa using this
theorem NJ {x y z:aG}:bC (gW c w x y z) fun r=>WK w r.2/\r.1={ x with cU:=y.cU }/\(r.2.e_=0->z.cU=1/\(y.cU=3->z.lE=[110,117,109]/\z.N_<=63)/\y.cU ≠ 0):=by
 unfold gW;rw [nM];simp only [pI];refine bC.iteb (fun h3=>?_) (fun h3=>?_)
 ·refine bC.bind (P:=fun w'=>WK w w'/\(w'.e_=0->z.cU=1/\z.lE=[110,117,109]/\z.N_<=63)) ?_ fun w' hw=>?_
  ·refine bC.iteb (fun ho=>?_) (fun _=>?_)
   ·rw [nM];refine .some ⟨(WK.nd).trans WK.nd,fun e=>?_⟩;obtain ⟨k1,k2,_⟩:=fH (by decide) e;obtain ⟨_,j2,_⟩:=fH (by decide) k1;exact ⟨by simpa using j2,by simpa using ho,by simpa using k2⟩
   ·rw [nM];exact .some ⟨(WK.nd).trans WK.nd,fun e=>by have:=(fH (by decide) e).2.1;cases this⟩
  ·refine (tU (c:=c)).bind fun r hr=>.some ⟨hw.1.trans hr.1,hr.2.1,fun e=>?_⟩;obtain ⟨q1,q2⟩:=hw.2 (by rw [←hr.1 e];exact e);exact ⟨q1,fun _=>q2,hr.2.2 e⟩
 ·refine (tU (c:=c)).bind fun r hr=>.some ⟨(WK.nd).trans hr.1,hr.2.1,fun e=>?_⟩;obtain ⟨_,j2,_⟩:=fH (k:=133) (by decide) (by rw [←hr.1 e];exact e);exact ⟨by simpa using j2,fun h=>absurd h (by simpa using h3),hr.2.2 e⟩
theorem Mh {x:aG} {x0 x1 x2:aG} (h:x.aP=[x0,x1,x2]):bC (lY c w x) fun k=>k ≠ 0->ScT x0.cU/\xF x1.cU x2.cU ≠ 0/\k=IJ (xF x1.cU x2.cU):=by
 unfold lY;rw [h];refine bC.eqn (v:=x1) rfl (bC.eqn (v:=x2) rfl (GS.bind fun k hk=>?_));refine bC.bind (P:=fun b=>b=false->ScT x0.cU/\k ≠ 0) ?_ fun b hb=>?_
 ·refine bC.eqn (v:=x0) rfl (BK.bind fun b hb=>bC.iteb (fun _=>.some fun h=>nomatch h) fun h=>.some fun h2=>⟨hb (by simpa using h),by simpa using h2⟩)
 ·refine bC.iteb (fun _=>.some fun h=>absurd rfl h) (fun h=>?_);exact GD.bind fun r hr=>.some fun _=>⟨(hb h).1,hk ▸ (hb h).2,hk ▸ hr⟩
theorem Bz {s:cR} {k:Nat} {i:Int} {x:bM} (h:i<5) (e:bY cZ i=some x):qE s (k+1) i=if x.MK=s then some (.inr x.Nh) else qE s k (i64.wrap (i+1)):=by
 rw [qE,if_pos (Fh h),e];simp only [pI,FV]
theorem FD {s:cR} (hn:6<n):bC (tO n s) fun v=>0<=v/\v<=3/\(s=[115,101,108,101,99,116]->v=3)/\(s=[119,105,100,101]->v=2)/\(0<v->s=[115,101,108,101,99,116] ∨ s=[108,111,110,103]/\v=1 ∨ s=[108,111]/\v=1 ∨ s=[104,105]/\v=1 ∨ s=[119,105,100,101]):=by
 obtain ⟨m,rfl⟩:∃m,n=m+6:=⟨n - 6,by omega⟩;unfold tO;rw [Bz (i:=0) (x:=bM.mk [115,101,108,101,99,116] 3) (by decide) rfl]
 split
 ·rename_i h;subst h;exact .some ⟨by decide,by decide,fun _=>rfl,fun h=>absurd h (by decide),fun _=>.inl rfl⟩
 rename_i h0;rw [show i64.wrap (0+1)=1 from by decide,Bz (i:=1) (x:=bM.mk [108,111,110,103] 1) (by decide) rfl]
 split
 ·rename_i h;subst h;exact .some ⟨by decide,by decide,fun h=>absurd h (by decide),fun h=>absurd h (by decide),fun _=>.inr (.inl ⟨rfl,rfl⟩)⟩
 rw [show i64.wrap (1+1)=2 from by decide,Bz (i:=2) (x:=bM.mk [108,111] 1) (by decide) rfl]
 split
 ·rename_i h;subst h;exact .some ⟨by decide,by decide,fun h=>absurd h (by decide),fun h=>absurd h (by decide),fun _=>.inr (.inr (.inl ⟨rfl,rfl⟩))⟩
 rw [show i64.wrap (2+1)=3 from by decide,Bz (i:=3) (x:=bM.mk [104,105] 1) (by decide) rfl]
 split
 ·rename_i h;subst h;exact .some ⟨by decide,by decide,fun h=>absurd h (by decide),fun h=>absurd h (by decide),fun _=>.inr (.inr (.inr (.inl ⟨rfl,rfl⟩)))⟩
 rw [show i64.wrap (3+1)=4 from by decide,Bz (i:=4) (x:=bM.mk [119,105,100,101] 2) (by decide) rfl]
 split
 ·rename_i h;subst h;exact .some ⟨by decide,by decide,fun h=>absurd h (by decide),fun _=>rfl,fun _=>.inr (.inr (.inr (.inr rfl)))⟩
 rename_i h4;rw [show i64.wrap (4+1)=5 from by decide];exact .some ⟨by decide,by decide,fun h=>absurd h.symm h0,fun h=>absurd h.symm h4,fun h=>absurd h (by decide)⟩
end
def RC (N B n:Nat) (f:aD->aI->aB->Option (aG × aI)):Prop:=∀c w x,CI N B c->WE x->sz x<=20000->3*sz x+301<=n->bC (f c w x) (Pr c w x)
def Gi (N B n:Nat) (K:Int) (f:aD->aI->aB->aG->Option (aG × aI)):Prop:=∀c w x y,CI N B c->WE x->x.cF=K->sz x<=20000->3*sz x+300<=n->(∃a,y=⟨[],0,0,-1,[],a⟩)->bC (f c w x y) (Pr c w x)
def RD (N B n:Nat) (f:aD->aI->(List aB)->Option ((List aG) × aI)):Prop:=∀c w xs,CI N B c->(∀x ∈ xs,WE x)->tI xs<=20000->3*tI xs+302<=n->bC (f c w xs) fun r=>WK w r.2/\r.1.length=xs.length/\(r.2.e_=0->∀y ∈ r.1,TX (sA c) c.bL y)/\(r.2.e_=0->(tG r.1:Int)<=tI xs)
section
variable {N B n:Nat} {c:aD} {w:aI}
theorem call_l1 {m:Nat} {xs:List Nd} {fe:aD->aI->aB->Option (aG × aI)} (hf:RC N B m fe) (h:CI N B c) (hx:∀x ∈ xs,WE x) (hs:tI xs<=20000) (hm:3*tI xs+301<=m) :
  ∀(k v:Nat) (ys:List aG) (w:aI),xs.length<v+k->v<=xs.length->ys.length=v->(w.e_=0->∀y ∈ ys,TX (sA c) c.bL y)->bC (jU fe xs c k ys (v:Int) w) fun r=>WK w r.2/\r.1.length=xs.length/\(r.2.e_=0->∀y ∈ r.1,TX (sA c) c.bL y)/\(r.2.e_=0->(tG r.1:Int)<=tG ys+tI (xs.drop v)):=by
 intro k
 induction k with
 | zero=>intro v ys w h1 h2 h3;omega
 | succ k ih=>
   intro v ys w h1 h2 h3 h4;unfold jU;have hg:=nV xs
   by_cases hv:v<xs.length
   ·rw [if_pos (Fh (by omega))];obtain ⟨x,e,ex,hxm⟩:=mR (l:=xs) (i:=(v:Int)) (by omega) (by omega)
    have hd:xs.drop v=x::xs.drop (v+1):=by
     rw [AP] at ex;obtain ⟨hlt,rfl⟩:=qS.1 ex;exact Ps hlt
    rw [e];simp only [pI];have hsz:=Gz hxm;refine (hf c w x h (hx x hxm) (by omega) (by omega)).bind fun r hr=>bC.need (by simp only [uP];omega) ?_;rw [fR (by omega) (by omega),show ((v:Int)+1)=((v+1:Nat):Int) by omega];refine (ih (v+1) _ _ (by omega) (by omega) (by simp only [nL,uP];omega) fun e y hy=>?_).mono fun q hq=>⟨WK.trans (fun e=>(hr e).1) hq.1,hq.2.1,hq.2.2.1,fun e=>?_⟩
    ·rcases Ah.1 hy with hy | hy
     ·exact h4 (by rw [←(hr e).1];exact e) y hy
     ·obtain rfl:=AU.1 hy;exact (hr e).2.1
    ·have h5:=hq.2.2.2 e;have h6:=(hr (by rw [←hq.1 e];exact e)).2.2;rw [Iw,tG,tG] at h5;rw [hd,sV];omega
   ·rw [if_neg (by simp;omega)];exact .some ⟨.refl _,by rw [h3];omega,h4,fun _=>by have:=nV (xs.drop v);simp only;omega⟩
theorem call_b {fe:aD->aI->aB->Option (aG × aI)} (hf:RC N B n fe):RD N B (n+1) (nD fe n):=by
 intro c w xs h hx hs hn;unfold nD;have hg:=nV xs;exact (call_l1 hf h hx hs (by omega) n 0 [] w (by omega) (by omega) rfl fun _ y hy=>nomatch hy).bind fun r hr=>.some ⟨hr.1,hr.2.1,hr.2.2.1,fun e=>by have:=hr.2.2.2 e;rw [tG,qU] at this;simp only;omega⟩
theorem cexpr_b {f1 f2 f3 f4:aD->aI->aB->aG->Option (aG × aI)} (h1:Gi N B n 16 f1) (h2:Gi N B n 18 f2) (h3:Gi N B n 19 f3) (h4:Gi N B n 17 f4):RC N B (n+1) (lW f1 f2 f3 f4 n):=by
 intro c w x h hx hs hn;have hp:=pJ x;unfold lW;cases hx with
 | num=>exact .some fun _=>⟨rfl,.num,by rw [AR,tG,gM,mM];omega⟩
 | ref=>
   simp only [Int.reduceBEq,xX,if_false,if_true];refine (Bx (w:=w) h (by omega)).bind fun r hr=>?_;refine (yU (w:=r.2) h hr.1).bind fun k hk=>?_;rw [nM];refine .some fun e=>?_;obtain ⟨k1,k2,k3⟩:=fH (k:=132) (by decide) e;obtain ⟨j1,u,j2,j3,j4,j5⟩:=hr.2.2 k1;refine ⟨k3.trans j1,?_,by rw [AR,tG,gM,mM];omega⟩
   rcases hk with ⟨hm,_⟩ | ⟨_,u2,hk2,rfl⟩
   ·omega
   ·exact .var j2 (by unfold bY;rw [if_pos j3];exact hk2) (by simpa using k2)
 | index hy=>
   simp only [Int.reduceBEq,xX,if_false,if_true];exact (h1 c w _ _ h (.index hy) rfl hs (by omega) ⟨_,rfl⟩).bind fun r hr=>.some hr
 | un hu hy=>
   simp only [Int.reduceBEq,xX,if_false,if_true];exact (h2 c w _ _ h (.un hu hy) rfl hs (by omega) ⟨_,rfl⟩).bind fun r hr=>.some hr
 | bin hl hy hz=>
   simp only [Int.reduceBEq,xX,if_false,if_true];exact (h3 c w _ _ h (.bin hl hy hz) rfl hs (by omega) ⟨_,rfl⟩).bind fun r hr=>.some hr
 | call hy=>
   simp only [Int.reduceBEq,xX,if_false];exact (h4 c w _ _ h (.call hy) rfl hs (by omega) ⟨_,rfl⟩).bind fun r hr=>.some hr
theorem WE.inv16 {x:Nd} (h:WE x) (k:x.cF=16):∃a s y,x=⟨16,a,s,0,[y]⟩/\WE y:=by
 cases h <;> first | exact ⟨_,_,_,rfl,‹_›⟩ | (simp at k)
theorem WE.inv18 {x:Nd} (h:WE x) (k:x.cF=18):∃a s y,x=⟨18,a,s,0,[y]⟩/\WE y:=by
 cases h <;> first | exact ⟨_,_,_,rfl,‹_›⟩ | (simp at k)
theorem WE.inv19 {x:Nd} (h:WE x) (k:x.cF=19):∃a s y z,x=⟨19,a,s,0,[y,z]⟩/\WE y/\WE z/\s ∈ BE:=by
 cases h <;> first | exact ⟨_,_,_,_,rfl,‹_›,‹_›,‹_›⟩ | (simp at k)
theorem WE.inv17 {x:Nd} (h:WE x) (k:x.cF=17):∃a s xs,x=⟨17,a,s,0,xs⟩/\∀y ∈ xs,WE y:=by
 cases h <;> first | exact ⟨_,_,_,rfl,‹_›⟩ | (simp at k)
theorem cload_b {fe:aD->aI->aB->Option (aG × aI)} (hf:RC N B n fe):Gi N B (n+1) 16 (lV fe n):=by
 rintro c w x y h hx hk hs hn ⟨ya,rfl⟩;obtain ⟨a,s,z,rfl,hz⟩:=hx.inv16 hk;rw [gM,qV] at hs hn;have hzp:=pJ z;unfold lV;refine bC.eqn (v:=z) rfl ?_;refine (hf c w z h hz (by omega) (by omega)).bind fun r hr=>?_;refine (Bx (w:=r.2) h (by omega)).bind fun v hv=>?_;refine (yU (w:=v.2) h hv.1).bind fun k hk=>?_;simp only [nM,pI]
 have key:∀ {w2:aI},WK (Jz (Jz v.2 (k == 4) 132 a) (r.1.cU == 1) 133 r.1.fQ) w2->w2.e_=0->w2=w/\(TX (sA c) c.bL r.1/\(xz r.1:Int)<=sz z)/\r.1.cU=1/\∃u,v.1 ∈ c.bL/\bY (sA c) v.1=some u/\u.cF=4:=by
  intro w2 hw2 e;have e2:=hw2 e;subst e2;obtain ⟨k1,k2,k3⟩:=fH (k:=133) (by decide) e;obtain ⟨j1,j2,j3⟩:=fH (k:=132) (by decide) k1;obtain ⟨i1,u,i2,i3,i4,i5⟩:=hv.2.2 j1;obtain ⟨l1,l2⟩:=hr (by rw [←i1];exact j1);refine ⟨by rw [k3,j3,i1,l1],l2,by simpa using k2,u,i2,by unfold bY;rw [if_pos i3];exact i4,?_⟩
  rcases hk with ⟨hm,_⟩ | ⟨_,u2,hk2,rfl⟩
  ·omega
  ·rw [i4] at hk2;cases hk2;simpa using j2
 refine bC.bind' (bC.iteb (fun he=>.some ?_) (fun he=>.some ?_))
 ·refine bC.iteb (fun ho=>?_) (fun ho=>.some fun e=>?_)
  ·have he2:=(fH (k:=132) (by decide) (fH (k:=133) (by decide) (by simpa using he)).1).1;obtain ⟨_,u,h1,h2,h3,h4⟩:=hv.2.2 he2;obtain ⟨f,_,hm,hvs,hfi⟩:=h.cur;rw [hfi];have hlt:=h.sc _ h1;rw [hvs] at hlt;obtain ⟨u2,e2,_,_⟩:=mR hlt.1 hlt.2;simp only [pI,e2];refine .some fun e=>?_;obtain ⟨g1,g2,g3,u3,g4,g5,g6⟩:=key WK.nd e;rw [hvs,e2] at g5;cases g5
   exact ⟨g1,.index g4 (by rw [hvs];exact e2) g6 g2.1 g3 fun _=>(by simpa using (fH (k:=137) (by decide) e).2.1),by rw [AR,tG,tG,gM,qV];have:=g2.2;omega⟩
  ·obtain ⟨g1,g2,g3,u3,g4,g5,g6⟩:=key (.refl _) e;exact ⟨g1,.index g4 g5 g6 g2.1 g3 fun h=>absurd h (by simpa using ho),by rw [AR,tG,tG,gM,qV];have:=g2.2;omega⟩
 ·refine bC.iteb (fun h=>nomatch h) (fun _=>.some fun e=>?_);exact absurd e (by simpa using he)
theorem Qz {α:Type} {l:List α} (h:l.length=1):∃x,l=[x]:=by
 match l,h with
 | [x],_=>exact ⟨x,rfl⟩
theorem list2 {α:Type} {l:List α} (h:l.length=2):∃x y,l=[x,y]:=by
 match l,h with
 | [x,y],_=>exact ⟨x,y,rfl⟩
theorem list3 {α:Type} {l:List α} (h:l.length=3):∃x y z,l=[x,y,z]:=by
 match l,h with
 | [x,y,z],_=>exact ⟨x,y,z,rfl⟩
theorem QT {fa:aD->aI->(List aB)->Option ((List aG) × aI)} (hf:RD N B n fa):Gi N B (n+1) 18 (kU fa n):=by
 rintro c w x y h hx hk hs hn ⟨ya,rfl⟩;obtain ⟨a,s,z,rfl,hz⟩:=hx.inv18 hk;rw [gM] at hs hn;unfold kU;refine (hf c w [z] h (fun u hu=>by obtain rfl:=AU.1 hu;exact hz) (by omega) (by omega)).bind fun r hr=>?_;obtain ⟨h1,h2,h3,h5⟩:=hr;obtain ⟨u,hu⟩:=Qz h2;rw [hu] at h3 h5 ⊢;refine bC.iteb (fun _=>bC.eqn (v:=u) rfl (.some fun e=>⟨h1 e,.un (.inr rfl) (h3 e u Qv),by rw [AR,gM];have:=h5 e;simp only;omega⟩)) (fun _=>bC.eqn (v:=u) rfl (.some fun e=>⟨h1 e,.un (.inl rfl) (h3 e u Qv),by rw [AR,gM];have:=h5 e;simp only;omega⟩))
theorem OK {fa:aD->aI->(List aB)->Option ((List aG) × aI)} (hf:RD N B n fa):Gi N B (n+1) 19 (kK fa n):=by
 rintro c w x y h hx hk hs hn ⟨ya,rfl⟩;obtain ⟨a,s,z,z2,rfl,hz,hz2,hsg⟩:=hx.inv19 hk;rw [gM] at hs hn;unfold kK;refine (hf c w [z,z2] h (fun u hu=>by rcases vI.1 hu with rfl | hu;exact hz;obtain rfl:=AU.1 hu;exact hz2) (by omega) (by omega)).bind fun r hr=>?_;obtain ⟨h1,h2,h3,h5⟩:=hr;obtain ⟨u,u2,hu⟩:=list2 h2;rw [hu] at h3 h5 ⊢;refine bC.eqn (v:=u) rfl (bC.eqn (v:=u2) rfl (GS.bind fun k hk=>?_));subst hk;simp only [nM,pI]
 have fin:∀ {o:cR} {t:Int} {w2:aI},WK r.2 w2->(w2.e_=0->BinT o u u2 t)->Pr c w ⟨19,a,s,0,[z,z2]⟩ (⟨o,t,0,-1,[u,u2],ya⟩,w2):=fun hw hb e=>by
  have e1:r.2.e_=0:=by rw [←hw e];exact e
  exact ⟨(hw e).trans (h1 e1),.bin (h3 e1 u (by simp)) (h3 e1 u2 (by simp)) (hb e),by rw [AR,gM];have:=h5 e1;simp only;omega⟩
 have div:∀ {o:cR},(o=[47] ∨ o=[37])->bC ((cT c (Jz (Jz r.2 (u.cU == 1) 133 u.fQ) (u2.cU == 1) 133 u2.fQ) ⟨o,0,0,-1,[u,u2],ya⟩ 1).bind fun x=>some (x.1,x.2)) (Pr c w ⟨19,a,s,0,[z,z2]⟩):=fun ho=>
  (tU (c:=c)).bind fun r2 hr2=>.some (by
    rw [hr2.2.1];refine fin ((WK.nd).trans ((WK.nd).trans hr2.1)) fun e=>?_;obtain ⟨k1,k2,_⟩:=fH (k:=133) (by decide) (by rw [←hr2.1 e];exact e);obtain ⟨_,j2,_⟩:=fH (k:=133) (by decide) k1;exact .inl ⟨ho,by simpa using j2,by simpa using k2,rfl⟩)
 have shf:∀ {o:cR},(o=[60,60] ∨ o=[62,62] ∨ o=[60,60,60])->bC ((gW c r.2 ⟨o,0,0,-1,[u,u2],ya⟩ u u2).bind fun x=>some (x.1,x.2)) (Pr c w ⟨19,a,s,0,[z,z2]⟩):=fun ho=>
  (NJ (c:=c)).bind fun r2 hr2=>.some (by
    rw [hr2.2.1];refine fin hr2.1 fun e=>?_;obtain ⟨k1,k2,_⟩:=hr2.2.2 e;exact .inr (.inl ⟨ho,k1,k2,rfl⟩))
 have typ:∀ {o:cR} {t:Int} {w1:aI},WK r.2 w1->(t ≠ 0->w1.e_=0->BinT o u u2 t)->bC ((cT c w1 ⟨o,0,0,-1,[u,u2],ya⟩ t).bind fun x=>some (x.1,x.2)) (Pr c w ⟨19,a,s,0,[z,z2]⟩):=fun hw hb=>
  (tU (c:=c)).bind fun r2 hr2=>.some (by
    rw [hr2.2.1];refine fin (hw.trans hr2.1) fun e=>hb (hr2.2.2 e) (by rw [←hr2.1 e];exact e))
 refine bC.iteb (fun ho=>div (.inl (DW ho))) fun n1=>bC.iteb (fun ho=>div (.inr (DW ho))) fun n2=>?_;refine bC.iteb (fun ho=>shf (.inl (DW ho))) fun n3=>bC.iteb (fun ho=>shf (.inr (.inl (DW ho)))) fun n4=>bC.iteb (fun ho=>shf (.inr (.inr (DW ho)))) fun n5=>?_;refine bC.iteb (fun ho=>typ WK.nd fun ht e=>.inr (.inr (.inl ⟨DW ho,rfl,by simpa using (fH (k:=132) (by decide) e).2.1,ht⟩))) fun n6=>?_;refine bC.iteb (fun ho=>bC.iteb (fun h3=>typ (.refl _) fun ht e=>?_) fun h3=>typ (.refl _) fun ht e=>?_) fun n7=>?_
 ·exact .inr (.inr (.inr (.inl ⟨.inl (DW ho),by rw [beq_iff_eq] at h3;omega,by rw [if_pos (by simpa using h3)]⟩)))
 ·exact .inr (.inr (.inr (.inl ⟨.inl (DW ho),ht,by rw [if_neg (by simpa using h3)]⟩)))
 refine bC.iteb (fun ho=>bC.iteb (fun h3=>typ (.refl _) fun ht e=>?_) fun h3=>typ (.refl _) fun ht e=>?_) fun n8=>?_
 ·exact .inr (.inr (.inr (.inl ⟨.inr (DW ho),by rw [beq_iff_eq] at h3;omega,by rw [if_pos (by simpa using h3)]⟩)))
 ·exact .inr (.inr (.inr (.inl ⟨.inr (DW ho),ht,by rw [if_neg (by simpa using h3)]⟩)))
 refine typ (.refl _) fun ht e=>.inr (.inr (.inr (.inr ⟨?_,rfl,ht⟩)));simp only [decide_eq_false_iff_not] at n1 n2 n3 n4 n5 n6 n7 n8;simp only [BE,vI,Ix,or_false] at hsg
 rcases hsg with h | h | h | h | h | h | h | h | h | h | h | h | h
 ·exact .inl h
 ·exact .inr (.inl h)
 ·exact .inr (.inr (.inl h))
 ·exact absurd h n7
 ·exact absurd h n8
 ·exact absurd h n3
 ·exact absurd h n4
 ·exact absurd h n5
 ·exact .inr (.inr (.inr (.inl h)))
 ·exact .inr (.inr (.inr (.inr h)))
 ·exact absurd h n6
 ·exact absurd h n1
 ·exact absurd h n2
theorem Mj {fa:aD->aI->(List aB)->Option ((List aG) × aI)} (hf:RD N B n fa):Gi N B (n+1) 17 (jX fa n):=by
 rintro c w x y h hx hk hs hn ⟨ya,rfl⟩;obtain ⟨a,s,xs,rfl,hz⟩:=hx.inv17 hk;rw [gM] at hs hn;have hp:0<=tI xs:=by have:=nV xs;omega
 unfold jX;refine (FD (s:=s) (by omega)).bind fun v hv=>?_;simp only [nM,pI];refine (hf c _ xs h hz (by omega) (by omega)).bind fun r hr=>?_;obtain ⟨g1,hrl,g3,g4⟩:=hr;have hwr:=(WK.nd (w:=w)).trans ((WK.nd).trans g1);refine bC.iteb (fun he=>.some fun e=>absurd e (by simpa using he)) (fun he=>?_);simp only [bne_eq_false_iff_eq] at he;have h1:=g1 he;obtain ⟨k1,k2,k3⟩:=fH (k:=136) (by decide) (by rw [←h1];exact he);obtain ⟨j1,j2,j3⟩:=fH (k:=130) (by decide) k1;have hl:(xs.length:Int)=v:=by simpa using k2
 have hv0:0<v:=DW j2;have hT:=g3 he;have fin:∀ {x:aG} {w2:aI},WK r.2 w2->(w2.e_=0->TX (sA c) c.bL x)->x.aP=r.1->Pr c w ⟨17,a,s,0,xs⟩ (x,w2):=fun hw hb hx e=>⟨(hwr.trans hw) e,hb e,by rw [AR,gM,hx];have:=g4 he;omega⟩;obtain ⟨_,hv3,hvs,hvw,hall⟩:=hv;have hall:=hall hv0;obtain ⟨u,e,_,hum⟩:=mR (l:=r.1) (i:=0) (by decide) (by omega);rw [e];simp only [pI];refine bC.iteb (fun hc=>?_) (fun n1=>bC.iteb (fun hc=>?_) (fun n2=>bC.iteb (fun hc=>?_) (fun n3=>?_)))
 ·have h3:=hvs (DW hc);obtain ⟨x0,x1,x2,hr3⟩:=list3 (l:=r.1) (by omega);rw [hr3] at hT fin ⊢;refine (Mh (c:=c) rfl).bind fun k hk=>?_;refine (tU (c:=c)).bind fun r2 hr2=>.some ?_;rw [hr2.2.1];refine fin hr2.1 (fun e=>?_) rfl;obtain ⟨q1,q2,rfl⟩:=hk (hr2.2.2 e);rw [DW hc];exact .sel (hT _ (by simp)) (hT _ (by simp)) (hT _ (by simp)) q1 q2
 ·have hc1:=DW hc
  have hv1:v=1:=by
   rcases hall with h | h | h | h | h
   ·rw [hc1] at h;exact absurd h (by decide)
   ·exact h.2
   ·exact h.2
   ·exact h.2
   ·rw [hc1] at h;exact absurd h (by decide)
  obtain ⟨x0,hr1⟩:=Qz (l:=r.1) (by omega);rw [hr1] at hT e fin ⊢;have hx0:x0=u:=by cases e;rfl
  subst hx0;refine BK.bind fun b hb=>?_;refine (tU (c:=c)).bind fun r2 hr2=>.some ?_;rw [hr2.2.1];refine fin ((WK.nd).trans hr2.1) (fun e=>?_) rfl;rw [hc1];exact .long (hT _ Qv) (hb (fH (k:=132) (by decide) (by rw [←hr2.1 e];exact e)).2.1)
 ·have h2:=hvw (DW hc);obtain ⟨x0,x1,hr2⟩:=list2 (l:=r.1) (by omega);rw [hr2] at hT e fin ⊢;have hx0:x0=u:=by cases e;rfl
  subst hx0;refine bC.bind (P:=fun w'=>WK r.2 w'/\(w'.e_=0->ScT x0.cU/\ScT x1.cU)) (BK.bind fun b hb=>bC.iteb (fun hbt=>bC.eqn (v:=x1) rfl ?_) (fun _=>.some ⟨WK.nd,fun e=>?_⟩)) fun w' hw'=>?_
  ·exact BK.bind fun b2 hb2=>.some ⟨WK.nd,fun e=>⟨hb hbt,hb2 (fH (k:=132) (by decide) e).2.1⟩⟩
  ·have:=(fH (k:=132) (by decide) e).2.1;cases this
  ·refine (tU (c:=c)).bind fun r2 hr2=>.some ?_;rw [hr2.2.1];refine fin (hw'.1.trans hr2.1) (fun e=>?_) rfl;obtain ⟨q1,q2⟩:=hw'.2 (by rw [←hr2.1 e];exact e);rw [DW hc];exact .wide (hT _ (by simp)) (hT _ (by simp)) q1 q2
 ·have hc1:(s=[108,111] ∨ s=[104,105])/\v=1:=by
   rcases hall with h | h | h | h | h
   ·exact absurd h (by simpa using n1)
   ·exact absurd h.1 (by simpa using n2)
   ·exact ⟨.inl h.1,h.2⟩
   ·exact ⟨.inr h.1,h.2⟩
   ·exact absurd h (by simpa using n3)
  obtain ⟨x0,hr1⟩:=Qz (l:=r.1) (by omega);rw [hr1] at hT e fin ⊢;have hx0:x0=u:=by cases e;rfl
  subst hx0;refine (tU (c:=c)).bind fun r2 hr2=>.some ?_;rw [hr2.2.1];refine fin ((WK.nd).trans hr2.1) (fun e=>?_) rfl;exact .half hc1.1 (hT _ Qv) (eq_of_beq (fH (k:=132) (by decide) (by rw [←hr2.1 e];exact e)).2.1)
theorem MZ:∀n:Nat,RC N B n (cE n).1/\Gi N B n 16 (cE n).2.1/\Gi N B n 18 (cE n).2.2.1/\Gi N B n 19 (cE n).2.2.2.1/\Gi N B n 17 (cE n).2.2.2.2.1/\RD N B n (cE n).2.2.2.2.2
 | 0=>⟨fun c w x _ _ _ h=>by have:=pJ x;omega,fun c w x y _ _ _ _ h _=>by have:=pJ x;omega,fun c w x y _ _ _ _ h _=>by have:=pJ x;omega,fun c w x y _ _ _ _ h _=>by have:=pJ x;omega,fun c w x y _ _ _ _ h _=>by have:=pJ x;omega,fun c w xs _ _ _ h=>by have:=nV xs;omega⟩
 | n+1=>by
   obtain ⟨g1,g2,g3,g4,g5,g6⟩:=MZ n;exact ⟨cexpr_b g2 g3 g4 g5,cload_b g1,QT g6,OK g6,Mj g6,call_b g1⟩
theorem xU (h:CI N B c) {x:Nd} (hx:WE x) (hs:sz x<=20000) (hn:3*sz x+301<=n):bC (gT n c w x) (Pr c w x):=(MZ n).1 c w x h hx hs hn
end
section
variable {N B n:Nat} {c:aD} {w:aI}
theorem sG (h:CI N B c) {x:Nd} (hx:WE x) (hs:sz x<=20000) (hn:3*sz x+301<=n):bC (fG n c w x) fun r=>Pr c w x r/\(r.2.e_=0->r.1.cU=1):=by
 unfold fG;refine (xU h hx hs hn).bind fun r hr=>?_;rw [nM];refine .some ⟨fun e=>?_,fun e=>by simpa using (fH (k:=133) (by decide) e).2.1⟩;obtain ⟨k1,_,k3⟩:=fH (k:=133) (by decide) e;obtain ⟨j1,j2⟩:=hr k1;exact ⟨k3.trans j1,j2⟩
theorem Pr.wk {x:Nd} {r:aG × aI} (h:Pr c w x r):WK w r.2:=fun e=>(h e).1
theorem Find_l1 (fs:List aY) (s:cR) (hl:fs.length<=16384):∀(k v:Nat),fs.length<v+k->v<=fs.length->∃r,cV fs s k v=some r/\(r=.inl () ∨ ∃(i:Nat) (f:aY),r=.inr (i:Int)/\fs[i]? = some f/\f.jP=s):=by
 intro k
 induction k with
 | zero=>intro v h1 h2;omega
 | succ k ih=>
   intro v h1 h2;unfold cV
   by_cases hv:v<fs.length
   ·rw [if_pos (Fh (by omega))];obtain ⟨f,e,e2,_⟩:=mR (l:=fs) (i:=(v:Int)) (by omega) (by omega);rw [e];simp only [pI,wT]
    by_cases hf:f.jP=s
    ·rw [if_pos (Fh hf)];exact ⟨_,rfl,.inr ⟨v,f,rfl,by simpa using e2,hf⟩⟩
    ·rw [if_neg (by simpa using hf),fR (by omega) (by omega),show ((v:Int)+1)=((v+1:Nat):Int) by omega];exact ih (v+1) (by omega) (by omega)
   ·rw [if_neg (by simp;omega)];exact ⟨_,rfl,.inl rfl⟩
theorem KY {p:aR} {s:cR} (hl:p.bG.length<=16384) (hn:16384<n):bC (nJ n p s) fun r=>0<=r.1/\(r.2=true->r.1<p.bG.length/\∃f,p.bG[r.1.toNat]? = some f/\f.jP=s):=by
 unfold nJ eV;obtain ⟨r,e,hr⟩:=Find_l1 p.bG s hl n 0 (by omega) (by omega);have e:cV p.bG s n 0=some r:=e;rw [e]
 rcases hr with rfl | ⟨i,f,rfl,h1,h2⟩
 ·exact .some ⟨by decide,fun h=>absurd h (by decide)⟩
 ·have hi:i<p.bG.length:=(qS.1 h1).1;refine .some ⟨by simp only;omega,fun _=>⟨by simp only;omega,f,?_,h2⟩⟩;have:(max (i:Int) 0).toNat=i:=by omega
  simp only [this,h1]
theorem function_tot' (h:CI N B c) (hn:16384<n) {x:Nd}:bC (kJ n c w x) fun r=>WK w r.2/\(r.2.e_=0->0<=r.1/\r.1<N):=by
 unfold kJ;refine (KY (by have:=h.nf;have:=h.nN;omega) hn).bind fun r hr=>?_;rw [nM];refine .some ⟨WK.nd,fun e=>?_⟩;have:=(hr.2 (fH (by decide) e).2.1).1;have:=h.nf;exact ⟨hr.1,by omega⟩
theorem Lw (h:CI N B c) {i:Int} (h0:0<=i) (h1:i<N):bC (lT c w i) fun r=>∃f,bY c.p_.bG i=some f/\r=f.bB.take f.bD.toNat:=by
 unfold lT;obtain ⟨f,e,_,hm⟩:=mR (l:=c.p_.bG) h0 (by have:=h.nf;omega);rw [e];have hv:=h.vl f hm;simp only [pI];exact bC.need ⟨hv.2.1,hv.2.2⟩ (.some ⟨f,rfl,rfl⟩)
theorem OQ (h:CI N B c) (hn:300<n) {x:Nd} {p:aZ} (hp:p.cF=4):bC (nC n c w x p.iV) fun r=>r.2.e_=0->r.2=w/\FG (sA c) c.bL p r.1/\(xz r.1:Int)<=sz x:=by
 unfold nC;rw [nM];simp only [pI];refine (Bx h hn).bind fun v hv=>?_;refine bC.bind (P:=fun w'=>w'.e_=0->w'=w/\FG (sA c) c.bL p ⟨[118,97,114],4,0,v.1,[],x.fQ⟩) ?_ fun w' hw'=>.some fun e=>⟨(hw' e).1,(hw' e).2,by rw [AR,tG];have:=pJ x;omega⟩;refine (yU (w:=v.2) h hv.1).bind fun k hk=>bC.iteb (fun hc=>?_) (fun _=>by rw [nM];exact .some fun e=>by have:=(fH (k:=132) (by decide) e).2.1;cases this);have hk4:k=4:=by simpa using hc
 rcases hk with ⟨_,h2⟩ | ⟨h0,u,h1,hku⟩
 ·omega
 obtain ⟨f,_,hm,hvs,hfi⟩:=h.cur;rw [hfi];rw [hvs] at h1;have hlt:v.1.toNat<f.bB.length:=(qS.1 h1).1
 have e2:bY f.bB (max v.1 0)=some u:=by
  rw [show max v.1 0=v.1 by omega];unfold bY;rw [if_pos h0];exact h1
 simp only [pI,e2,nM];refine .some fun e=>?_;obtain ⟨k1,k2,k3⟩:=fH (k:=132) (by decide) e;obtain ⟨j1,u3,j2,j3,j4,j5⟩:=hv.2.2 k1;obtain ⟨_,_,i3⟩:=fH (k:=132) (by decide) (by rw [←j1];exact k1);refine ⟨by rw [k3,j1,i3],.arr hp j2 (u:=u) (by rw [hvs];unfold bY;rw [if_pos h0];exact h1) (by omega) (by simpa using k2)⟩
theorem Jm (h:CI N B c) {x:Nd} (hx:WE x) (hs:sz x<=20000) (hn:3*sz x+301<=n) {v:aZ}:bC (kL n c w x v) fun r=>r.2.e_=0->r.2=w/\FG (sA c) c.bL v r.1/\(xz r.1:Int)<=sz x:=by
 have hp:=pJ x;unfold kL;refine bC.iteb (fun h4=>?_) (fun h4=>bC.iteb (fun h1=>?_) (fun h1=>?_))
 ·exact (OQ h (by omega) (by simpa using h4)).bind fun r hr=>.some hr
 ·exact (sG h hx hs hn).bind fun r hr=>.some fun e=>⟨(hr.1 e).1,.pub (by simpa using h1) (hr.1 e).2.1 (hr.2 e),(hr.1 e).2.2⟩
 ·refine (xU h hx hs hn).bind fun r hr=>EZ.bind fun b hb=>?_;rw [nM];refine .some fun e=>?_;obtain ⟨k1,k2,k3⟩:=fH (k:=132) (by decide) e;exact ⟨k3.trans (hr k1).1,.val (by simpa using h1) (by simpa using h4) (hr k1).2.1 (hb k2),(hr k1).2.2⟩
theorem CI.calls (h:CI N B c) {l:List Int} {k:Int} (e:bY c.cJ c.gC=some l) (h0:0<=k) (h1:k<N):CI N (B+1) { c with cJ:=c.cJ.set c.gC.toNat (l++[k]) }:=by
 have hm:l ∈ c.cJ:=by
  obtain ⟨l2,e2,_,hm⟩:=mR (l:=c.cJ) h.a0 (by rw [h.nc];exact h.a1);rw [e] at e2;cases e2;exact hm
 refine ⟨h.nf,h.nN,h.f0,h.f1,h.a0,h.a1,h.sc,h.sl,h.vl,by simp only [HL];exact h.nc,?_,h.ki⟩;intro l' hl'
 rcases HN hl' with hl' | rfl
 ·exact ⟨Nat.le_succ_of_le (h.cl l' hl').1,(h.cl l' hl').2⟩
 ·have:=h.cl l hm;refine ⟨by simp only [nL,uP];omega,fun u hu=>?_⟩
  rcases Ah.1 hu with hu | hu
  ·exact this.2 u hu
  ·obtain rfl:=AU.1 hu;exact ⟨h0,h1⟩
theorem CI.more {B':Nat} (h:CI N B c) (hb:B<=B'):CI N B' c:=⟨h.nf,h.nN,h.f0,h.f1,h.a0,h.a1,h.sc,h.sl,h.vl,h.nc,fun l hl=>⟨JE (h.cl l hl).1 hb,(h.cl l hl).2⟩,h.ki⟩
theorem Rc {x:Nd} {sh:List aZ} {l:List Int} {k4:Int × aI} (h:CI N B { c with cJ:=c.cJ.set c.gC.toNat (l++[k4.1]) }) (hx:∀y ∈ x.aP,WE y) (hs:tI x.aP<=20000) (hn:3*tI x.aP+301<=n) {w0:aI} (hw0:w0.e_=0->x.aP.length=sh.length) {st0:aH} :
  ∀(k v:Nat) (w:aI) (ys:List aG),x.aP.length<v+k->v<=x.aP.length->ys.length=v->(w.e_=0->w=w0/\∀(i:Nat) p y,sh[i]? = some p->ys[i]? = some y->FG (sA c) c.bL p y)->WK w0 w->bC (jG n x sh c l k4 k (v:Int) w { st0 with aP:=ys }) fun r=>WK w r.1/\(∃zs,r.2={ st0 with aP:=zs }/\(r.1.e_=0->Ej (sA c) c.bL sh zs/\(tG zs:Int)<=tG ys+tI (x.aP.drop v))):=by
 intro k
 induction k with
 | zero=>intro v w ys h1 h2 h3;omega
 | succ k ih=>
   intro v w ys h1 h2 h3 h4 hw;unfold jG;have hg:=nV x.aP
   by_cases hv:v<x.aP.length
   ·rw [if_pos (Fh (by omega))];obtain ⟨y,e,ey,hym⟩:=mR (l:=x.aP) (i:=(v:Int)) (by omega) (by omega)
    have hd:x.aP.drop v=y::x.aP.drop (v+1):=by
     rw [AP] at ey;obtain ⟨hlt,rfl⟩:=qS.1 ey;exact Ps hlt
    rw [e];simp only [pI];refine bC.iteb (fun he=>.some ⟨.refl _,ys,rfl,fun e=>absurd e (by simpa using he)⟩) (fun he=>?_);simp only [bne_eq_false_iff_eq] at he;have hw':=hw he;have hlen:=hw0 (by rw [←hw'];exact he);obtain ⟨u,e2,e3,_⟩:=mR (l:=sh) (i:=(v:Int)) (by omega) (by omega);rw [e2];simp only [pI];have hsz:=Gz hym;refine (Jm h (hx y hym) (by omega) (by omega)).bind fun r hr=>bC.need (by simp only [uP];omega) ?_;rw [fR (by omega) (by omega),show ((v:Int)+1)=((v+1:Nat):Int) by omega];refine (ih (v+1) r.2 (ys++[r.1]) (by omega) (by omega) (by simp only [nL,uP];omega) (fun er=>⟨?_,fun i p y hp hy=>?_⟩) (hw.trans fun e=>(hr e).1)).mono fun q hq=>?_
    ·rw [(hr er).1,hw']
    ·by_cases hi:i<v
     ·rw [FX (by omega)] at hy;exact (h4 he).2 i p y hp hy
     ·have hi2:i=v:=by
       have:=(qS.1 hy).1;simp only [nL,uP] at this;omega
      subst hi2;rw [Hr (by omega),h3,xdx] at hy;cases hy;rw [AP] at e3;rw [hp] at e3;cases e3
      exact (hr er).2.1
    ·obtain ⟨hq1,zs,hq2,hq3⟩:=hq;refine ⟨WK.trans (fun e=>(hr e).1) hq1,zs,hq2,fun eq=>?_⟩;obtain ⟨h5,h6⟩:=hq3 eq;refine ⟨h5,?_⟩;rw [Iw,tG,tG] at h6;rw [hd,sV];have:=(hr (by rw [←hq1 eq];exact eq)).2.2;omega
   ·rw [if_neg (by simp;omega)];refine .some ⟨.refl _,ys,rfl,fun e=>⟨⟨?_,(h4 e).2⟩,by have:=nV (x.aP.drop v);omega⟩⟩;have:=hw0 (by rw [←hw e];exact e);omega
theorem DU (h:CI N B c) (hB:B+1<=1073741824) {x:Nd} (hx:∀y ∈ x.aP,WE y) (hs:tI x.aP<=20000) (hn:3*tI x.aP+301<=n) (hn2:20000<n) {st:aH} {v:Int} :
  bC (iD n c w x st v) fun r=>CI N (B+1) r.2.1/\Kp c r.2.1/\r.2.1.bL=c.bL/\r.2.1.p_=c.p_/\WK w r.2.2/\(r.2.2.e_=0->0<=r.1.pE/\r.1.pE<N/\∃f xs,r.1=⟨[99,97,108,108],v,r.1.pE,xs,st.eH,st.rZ,st.fQ⟩/\bY r.2.1.p_.bG r.1.pE=some f/\sgC r.2.1 r.1.pE f.cX (f.bB.take f.bD.toNat)/\Ej (sA c) c.bL (f.bB.take f.bD.toNat) xs/\(tG xs:Int)<=tI x.aP):=by
 have hg:=nV x.aP;unfold iD;refine (function_tot' (w:=w) (x:=x) h (by omega)).bind fun r hr=>bC.iteb (fun he=>?_) (fun he=>?_)
 ·simp only [bne_iff_ne] at he;exact .some ⟨h.more (Nat.le_succ B),.refl c,rfl,rfl,hr.1,fun e=>absurd e he⟩
 ·simp only [bne_eq_false_iff_eq] at he;obtain ⟨f0,f1⟩:=hr.2 he;obtain ⟨l,e,el,hm⟩:=mR (l:=c.cJ) h.a0 (by rw [h.nc];exact h.a1);have h':=h.calls e f0 f1;rw [e];simp only [pI];refine bC.need (by have:=(h.cl l hm).1;omega) ?_;refine (Lw (w:=r.2) h' f0 f1).bind fun sh hsh=>?_;obtain ⟨f,hf,rfl⟩:=hsh;rw [nM];simp only [pI];refine (Rc (st0:={ st with lE:=[99,97,108,108],mD:=v,pE:=r.1,aP:=[] }) h' hx hs hn (w0:=Jz r.2 ((x.aP.length:Int) == ((f.bB.take f.bD.toNat).length:Int)) 136 x.fQ) (fun e=>by have:=(fH (k:=136) (by decide) e).2.1;simp only [beq_iff_eq] at this;omega) n 0 _ [] (by omega) (by omega) rfl (fun e=>⟨rfl,fun i p y hp hy=>nomatch hy⟩) (.refl _)).bind fun q hq=>?_;obtain ⟨hq1,zs,hq2,hq3⟩:=hq;have hal:c.gC.toNat<c.cJ.length:=(qS.1 el).1
  have hcl:bY (c.cJ.set c.gC.toNat (l++[r.1])) c.gC=some (l++[r.1]):=by
   unfold bY;rw [if_pos h.a0,Li hal]
  refine .some ⟨h',⟨rfl,rfl,Pd _,Pd _,fun _ _=>rfl,rfl,fun j hj=>My (Ne.symm hj),fun l2 e2=>?_⟩,rfl,rfl,hr.1.trans ((WK.nd).trans hq1),fun e2=>?_⟩
  ·rw [e] at e2;cases e2
   exact ⟨_,hcl,xej _ _⟩
  ·rw [hq2];exact ⟨f0,f1,f,zs,rfl,hf,⟨⟨_,hcl,xeo _ Qv⟩,f,hf,rfl,rfl⟩,(hq3 e2).1,by have:=(hq3 e2).2;rw [tG,qU] at this;omega⟩
theorem DD (hn:6<n) {x:Nd}:bC (iK n c w x) fun b=>b=true->x.cF=17:=by
 unfold iK;exact bC.bind' (bC.iteb (fun hc=>(FD hn).bind fun v _=>.some (.some fun _=>by simpa using hc)) (fun _=>.some (.some fun h=>nomatch h)))
def St1 (c c':aD) (w':aI) (b:Bool) (s:aH) (x:aB):Prop:=w'.e_=0->TB (sgC c') (sA c') (IN c) b (sA c).length c.bL [s] (sA c').length c'.bL/\(tz s:Int)<=sz x
theorem Dx {α:Type} {l:List α} {x:α}:(l++[x])[l.length]? = some x:=by
 rw [Hr (sU _),xdx];rfl
theorem Mi (h:CI N B c) (hB:B+1<=1073741824) {x y:Nd} (hl:x.aP=[y]) (hy:WE y) (hs:sz y<=20000) (hn:3*sz y+301<=n) (hn2:20000<n) {a:Int} {b:Bool} :
  bC (nB n c w x ⟨[],-1,0,[],[],[],a⟩) fun r=>CI N (B+1) r.2.1/\Kp c r.2.1/\WK w r.2.2/\St1 c r.2.1 r.2.2 b r.1 x:=by
 unfold nB;rw [hl];refine bC.eqn (v:=y) rfl ?_;refine (DD (c:=c) (w:=w) (by omega)).bind fun b hb=>bC.iteb (fun hbt=>?_) (fun _=>?_)
 ·obtain ⟨a,s,xs,rfl,hxs⟩:=hy.inv17 (hb hbt);rw [gM] at hs hn;refine (DU h hB hxs (by simp only;omega) (by simp only;omega) hn2).bind fun r hr=>?_;obtain ⟨h1,h2,h3,h4,h5,h6⟩:=hr;refine bC.iteb (fun he=>.some ⟨h1,h2,h5,fun e=>absurd e (by simpa using he)⟩) (fun he=>?_);simp only [bne_eq_false_iff_eq] at he;obtain ⟨f0,f1,f,zs,e1,e2,e3,e4,e9⟩:=h6 he
  have hfm:f ∈ r.2.1.p_.bG:=by
   obtain ⟨f',e',_,hm⟩:=mR (l:=r.2.1.p_.bG) f0 (by rw [h1.nf];exact f1);rw [e2] at e';cases e';exact hm
  rw [e2];simp only [pI,nM];have hvs:sA r.2.1=sA c:=by unfold sA;rw [h4,h2.f]
  refine (sF h1 (by omega) fun e=>?_).bind fun d hd=>.some ⟨hd.1,h2.trans hd.2.1,h5.trans ((WK.nd).trans fun e=>(hd.2.2.2.2.1 e).1),fun e=>?_⟩
  ·have hr:=(h1.ki f hfm).2;have:=(fH (k:=132) (by decide) e).2.1;simp only [bne_iff_ne,ne_eq] at this;refine ⟨?_,?_,fun h=>?_⟩ <;> simp only at * <;> omega
  ·obtain ⟨d1,d2,d3,d4⟩:=hd.2.2.2.2.1 e;have e5:(Jz r.2.2 (f.cX != 0) 132 x.fQ).e_=0:=by rw [←d1];exact e
   have hne:=(fH (k:=132) (by decide) e5).2.1;rw [e1];simp only;rw [d2,d3,d4,h3,hvs,nL,uP];exact ⟨.callv (u:=⟨x.cP,f.cX,0⟩) (r:=f.cX) (Kp.sg h1 hd.2.1 e3) (e4.mono (xej _ _) fun _ h=>h) (by simpa using hne) Dx rfl .nil,by rw [yB,Dd x,hl,qV,gM];simp only [Aa];simp only at e9;omega⟩
 ·refine (xU h hy hs hn).bind fun r hr=>GD.bind fun k hk=>?_;subst hk;refine (sF h (by omega) fun e=>?_).bind fun d hd=>.some ⟨hd.1.more (Nat.le_succ B),hd.2.1,hr.wk.trans fun e=>(hd.2.2.2.2.1 e).1,fun e=>?_⟩
  ·have:=(hr e).2.1.range h.vsOk;refine ⟨?_,?_,fun h=>?_⟩ <;> simp only [IJ] at * <;> split at * <;> omega
  ·obtain ⟨d1,d2,d3,d4⟩:=hd.2.2.2.2.1 e;simp only;rw [d2,d3,d4,nL,uP];have hr0:=hr (by rw [←d1];exact e);exact ⟨.var_ (u:=⟨x.cP,IJ r.1.cU,0⟩) (hr0.2.1.mono (xej _ _) fun _ h=>h) Dx rfl .nil,by rw [yB,Dd x,hl,qV];simp only [Aa,tG];have:=hr0.2.2;omega⟩
theorem Jh (h:CI N B c) (hn:300<n) {x:Nd}:bC (kW n c w x) fun r=>WK w r.2/\(r.1=-1 ∨ 0<=r.1/\r.1<(sA c).length)/\(r.2.e_=0->∃u,r.1 ∈ c.bL/\bY (sA c) r.1=some u/\(u.cF=2 ∨ u.cF=3)):=by
 unfold kW;refine (Bx (w:=w) h hn).bind fun v hv=>?_;refine (yU (w:=v.2) h hv.1).bind fun k hk=>?_;simp only [nM,pI];have hwv:WK w v.2:=fun e=>(hv.2.2 e).1
 have key:(k=2 ∨ k=3)->v.2.e_=0->∃u,v.1 ∈ c.bL/\bY (sA c) v.1=some u/\(u.cF=2 ∨ u.cF=3):=fun h2 e=>by
  obtain ⟨_,u,j2,j3,j4,_⟩:=hv.2.2 e
  rcases hk with ⟨hm,_⟩ | ⟨_,u2,hk2,rfl⟩
  ·omega
  ·exact ⟨u2,j2,by unfold bY;rw [if_pos j3];exact hk2,h2⟩
 refine bC.bind' (bC.iteb (fun h2=>.some (.some ⟨hwv.trans WK.nd,hv.1,fun e=>?_⟩)) (fun _=>.some (.some ⟨hwv.trans WK.nd,hv.1,fun e=>?_⟩)))
 ·exact key (.inl (by simpa using h2)) (fH (k:=132) (by decide) e).1
 ·obtain ⟨k1,k2,_⟩:=fH (k:=132) (by decide) e;exact key (.inr (by simpa using k2)) k1
theorem QU (h:CI N B c) (hB:B+1<=1073741824) {x y:Nd} (hl:x.aP=[y]) (hy:WE y) (hs:sz y<=20000) (hn:3*sz y+301<=n) (hn2:20000<n) {a:Int} {b:Bool} :
  bC (oN n c w x ⟨[],-1,0,[],[],[],a⟩) fun r=>CI N (B+1) r.2.1/\Kp c r.2.1/\WK w r.2.2/\St1 c r.2.1 r.2.2 b r.1 x:=by
 unfold oN;refine (Jh (w:=w) h (by omega)).bind fun v hv=>?_;rw [hl];refine bC.eqn (v:=y) rfl ?_;refine (DD (c:=c) (w:=v.2) (by omega)).bind fun b hb=>bC.iteb (fun hbt=>?_) (fun _=>?_)
 ·obtain ⟨a,s,xs,rfl,hxs⟩:=hy.inv17 (hb hbt);rw [gM] at hs hn;refine (DU h hB hxs (by simp only;omega) (by simp only;omega) hn2).bind fun r hr=>?_;obtain ⟨h1,h2,h3,h4,h5,h6⟩:=hr;refine bC.iteb (fun he=>?_) (fun he=>.some ⟨h1,h2,hv.1.trans h5,fun e=>absurd e (by simpa using he)⟩);simp only [beq_iff_eq] at he;obtain ⟨f0,f1,f,zs,e1,e2,e3,e4,e9⟩:=h6 he;have hlen:=h2.v.length_le;have hvs:sA r.2.1=sA c:=by unfold sA;rw [h4,h2.f]
  obtain ⟨u,hu1,hu2,hu3⟩:=hv.2.2 (by rw [←h5 he];exact he);refine (yU (w:=r.2.2) h1 (v:=v.1) (by rcases hv.2.1 with h | h;exact .inl h;exact .inr ⟨h.1,by omega⟩)).bind fun k hk=>?_;rw [e2];simp only [pI,nM];refine .some ⟨h1,h2,hv.1.trans (h5.trans WK.nd),fun e=>?_⟩;have hr:=(fH (k:=132) (by decide) e).2.1
  have hku:k=u.cF:=by
   have h0:=h.sc _ hu1
   rcases hk with ⟨hm,_⟩ | ⟨h0,u2,hk2,rfl⟩
   ·omega
   ·unfold bY at hu2;rw [if_pos h0,←hvs,hk2] at hu2;cases hu2;rfl
  rw [e1,hvs,h3];exact ⟨.calls hu1 hu2 hu3 e3 e4 (by rw [←hku];simpa using hr) .nil,by rw [yB,Dd x,hl,qV,gM];simp only [Aa];simp only at e9;omega⟩
 ·refine (xU h hy hs hn).bind fun r hr=>(yU (w:=r.2) h hv.2.1).bind fun k hk=>EZ.bind fun b hb=>?_;rw [nM];refine .some ⟨h.more (Nat.le_succ B),.refl c,hv.1.trans (hr.wk.trans WK.nd),fun e=>?_⟩;obtain ⟨k1,k2,_⟩:=fH (k:=132) (by decide) e;obtain ⟨u,hu1,hu2,hu3⟩:=hv.2.2 (by rw [←hr.wk k1];exact k1)
  have hku:k=u.cF:=by
   have h0:=h.sc _ hu1
   rcases hk with ⟨hm,_⟩ | ⟨h0,u2,hk2,rfl⟩
   ·omega
   ·unfold bY at hu2;rw [if_pos h0,hk2] at hu2;cases hu2;rfl
  exact ⟨.set hu1 hu2 hu3 (hr k1).2.1 (hku ▸ hb k2) .nil,by rw [yB,Dd x,hl,qV];simp only [Aa,tG];have:=(hr k1).2.2;omega⟩
theorem Mf (h:CI N B c) {x:Nd} (hx:WE x) (hs:sz x<=20000) (hn:3*sz x+301<=n) {v:Int} (hv:w.e_=0->0<=v/\v<(sA c).length):bC (nA n c w x v) fun r=>Pr c w x r/\(r.2.e_=0->r.1.cU=1/\∀u,bY (sA c) v=some u->r.1.lE=[110,117,109]->i64.wrap r.1.N_<u.iV):=by
 unfold nA;refine (sG h hx hs hn).bind fun r hr=>?_;obtain ⟨hr,hr1⟩:=hr;refine bC.bind' (bC.iteb (fun he=>.some ?_) (fun he=>.some (bC.iteb (fun h=>nomatch h) (fun _=>.some ⟨hr,fun e=>absurd e (by simpa using he)⟩))));refine bC.iteb (fun ho=>?_) (fun ho=>.some ⟨hr,fun e=>⟨hr1 e,fun u hu h=>absurd h (by simpa using ho)⟩⟩);have he:r.2.e_=0:=by simpa using he
 obtain ⟨v0,v1⟩:=hv (by rw [←(hr he).1];exact he);obtain ⟨f,_,hm,hvs,hfi⟩:=h.cur;rw [hfi];rw [hvs] at v1;obtain ⟨u,e,_,_⟩:=mR v0 v1;simp only [pI,e,nM];refine .some ⟨fun e2=>?_,fun e2=>?_⟩
 ·obtain ⟨k1,_,k3⟩:=fH (k:=137) (by decide) e2;exact ⟨k3.trans (hr k1).1,(hr k1).2⟩
 ·obtain ⟨k1,k2,_⟩:=fH (k:=137) (by decide) e2;refine ⟨hr1 k1,fun u2 hu _=>?_⟩;rw [hvs,e] at hu;cases hu
  simpa using k2
theorem QV (h:CI N B c) {x i y:Nd} (hl:x.aP=[i,y]) (hi:WE i) (hy:WE y) (hs:sz i<=20000) (hs2:sz y<=20000) (hn:3*sz i+301<=n) (hn2:3*sz y+301<=n) {a:Int} {b:Bool}:bC (oO n c w x ⟨[],-1,0,[],[],[],a⟩) fun r=>WK w r.2/\St1 c c r.2 b r.1 x:=by
 have hp:=pJ i;unfold oO;refine (Bx (w:=w) h (by omega)).bind fun v hv=>?_;refine (yU (w:=v.2) h hv.1).bind fun k hk=>?_;have hwv:WK w v.2:=fun e=>(hv.2.2 e).1;rw [nM,hl];refine bC.eqn (v:=Jz v.2 (k == 4) 132 x.fQ) rfl (bC.eqn (v:=i) rfl ?_);refine (Mf h hi hs hn (fun e=>?_)).bind fun r hr=>?_
 ·have:=(fH (k:=132) (by decide) e).1;obtain ⟨_,u,h1,_⟩:=hv.2.2 this;exact h.sc _ h1
 refine bC.eqn (v:=y) rfl ?_;refine (xU h hy hs2 hn2).bind fun q hq=>EZ.bind fun b hb=>?_;rw [nM];refine .some ⟨hwv.trans ((WK.nd).trans (hr.1.wk.trans (hq.wk.trans WK.nd))),fun e=>?_⟩;obtain ⟨k1,k2,_⟩:=fH (k:=132) (by decide) e;have er:r.2.e_=0:=by rw [←hq.wk k1];exact k1
 obtain ⟨j1,j2,_⟩:=fH (k:=132) (by decide) (by rw [←hr.1.wk er];exact er);obtain ⟨_,u,i2,i3,i4,_⟩:=hv.2.2 j1;have hu:bY (sA c) v.1=some u:=by unfold bY;rw [if_pos i3];exact i4
 have hu4:u.cF=4:=by
  rcases hk with ⟨hm,_⟩ | ⟨_,u2,hk2,rfl⟩
  ·omega
  ·rw [i4] at hk2;cases hk2;simpa using j2
 exact ⟨.put i2 hu hu4 (hr.1 er).2.1 (hr.2 er).1 ((hr.2 er).2 u hu) (hq k1).2.1 (hb k2) .nil,by rw [yB,Dd x,hl,FN];simp only [Aa,tG];have:=(hr.1 er).2.2;have:=(hq k1).2.2;omega⟩
def Mt (s:aH):Prop:=s.lE=[114,101,116,117,114,110] ∨ s.lE=[99,97,108,108]/\s.mD=-2
theorem OM (h:CI N B c) (hB:B+1<=1073741824) {x y:Nd} (hl:x.aP=[y]) (hy:WE y) (hs:sz y<=20000) (hn:3*sz y+301<=n) (hn2:20000<n) {a:Int} {l:Bool} :
  bC (oB n c w x ⟨[],-1,0,[],[],[],a⟩ l) fun r=>CI N (B+1) r.2.1/\Kp c r.2.1/\WK w r.2.2/\St1 c r.2.1 r.2.2 l r.1 x/\(r.2.2.e_=0->Mt r.1):=by
 unfold oB;obtain ⟨f,_,hm,hvs,hfi⟩:=h.cur;rw [hfi,hl];refine bC.bind (P:=fun w'=>WK w w'/\(w'.e_=0->l=true/\f.cX ≠ 0)) ?_ fun w1 hw1=>?_
 ·simp only [pI,nM];refine bC.iteb (fun hl=>.some ⟨WK.nd,fun e=>⟨hl,?_⟩⟩) (fun _=>.some ⟨WK.nd,fun e=>?_⟩)
  ·simpa using (fH (k:=135) (by decide) e).2.1
  ·have:=(fH (k:=135) (by decide) e).2.1;cases this
 refine bC.bind (P:=fun b=>b=true->y.cF=17) ?_ fun b hb=>bC.iteb (fun hbt=>?_) (fun _=>?_)
 ·refine bC.iteb (fun _=>?_) (fun _=>.some fun h=>nomatch h);exact bC.eqn (v:=y) rfl ((DD (c:=c) (w:=w1) (by omega)).bind fun b hb=>.some hb)
 ·refine bC.eqn (v:=y) rfl ?_;obtain ⟨a,s,xs,rfl,hxs⟩:=hy.inv17 (hb hbt);rw [gM] at hs hn;refine (DU h hB hxs (by simp only;omega) (by simp only;omega) hn2).bind fun r hr=>?_;obtain ⟨h1,h2,h3,h4,h5,h6⟩:=hr;refine bC.iteb (fun he=>?_) (fun he=>.some ⟨h1,h2,hw1.1.trans h5,fun e=>absurd e (by simpa using he),fun e=>absurd e (by simpa using he)⟩);simp only [beq_iff_eq] at he;obtain ⟨f0,f1,g,zs,e1,e2,e3,e4,e9⟩:=h6 he;obtain ⟨g2,_,_,_,e5⟩:=h1.cur;have hvs':sA r.2.1=sA c:=by unfold sA;rw [h4,h2.f]
  rw [e2,e5];simp only [pI,nM];refine .some ⟨h1,h2,hw1.1.trans (h5.trans WK.nd),fun e=>?_,fun e=>.inr ?_⟩
  ·obtain ⟨hl2,hne⟩:=hw1.2 (by rw [←h5 he];exact he);subst hl2;have hr:=(fH (k:=132) (by decide) e).2.1
   have hg2:g2=f:=by
    rw [h2.f,h4,hfi] at e5;cases e5;rfl
   have hres:g.cX=IN c:=by
    rw [h.res hfi,←hg2];simpa using hr
   rw [e1,hvs',h3];exact ⟨.retc (hres ▸ e3) (by rw [h.res hfi];exact hne) e4,by rw [yB,Dd x,hl,qV,gM];simp only [Aa];simp only at e9;omega⟩
  ·rw [e1];exact ⟨rfl,rfl⟩
 ·refine bC.eqn (v:=y) rfl ?_;refine (xU h hy hs hn).bind fun r hr=>bC.eqn (v:=f) rfl (EZ.bind fun b hb=>?_);rw [nM];refine .some ⟨h.more (Nat.le_succ B),.refl c,hw1.1.trans (hr.wk.trans WK.nd),fun e=>?_,fun _=>.inl rfl⟩;obtain ⟨k1,k2,_⟩:=fH (k:=132) (by decide) e;obtain ⟨hl2,hne⟩:=hw1.2 (by rw [←hr.wk k1];exact k1);subst hl2;exact ⟨.ret (hr k1).2.1 (by rw [h.res hfi];exact hne) (by rw [h.res hfi];exact hb k2),by rw [yB,Dd x,hl,qV];simp only [Aa,tG];have:=(hr k1).2.2;omega⟩
end
section
variable {N B n:Nat} {c:aD} {w:aI}
theorem FQ {α:Type} {l l':List α} (h:l <+: l'):l'.take l.length=l:=by
 obtain ⟨r,rfl⟩:=h;rw [List.take_append_of_le_length (sU _),xem]
theorem CI.scope {c':aD} (h:CI N B c') (h0:CI N B c) (k:Kp c c'):CI N B { c' with bL:=c.bL }/\Kp c { c' with bL:=c.bL }:=by
 refine ⟨⟨h.nf,h.nN,h.f0,h.f1,h.a0,h.a1,fun v hv=>?_,?_,h.vl,h.nc,h.cl,h.ki⟩,⟨k.f,k.a,Pd _,k.v,k.o,k.g,k.k,k.l⟩⟩
 ·have h1:=h0.sc v hv;have h2:=k.v.length_le;have:sA { c' with bL:=c.bL }=sA c':=rfl;rw [this];omega
 ·have h1:=h0.sl;have h2:=k.v.length_le;have:sA { c' with bL:=c.bL }=sA c':=rfl;rw [this];show c.bL.length<=_;omega
end
def Lv2 (N B:Nat) (k:Int) (c:aD) (w:aI) (c':aD) (w':aI):Prop:=(∃B':Nat,(B':Int)<=B+k/\CI N B' c')/\Kp c c'/\WK w w'
def StL (c c':aD) (b:Bool) (ss:List aH):Prop:=∃sc',TB (sgC c') (sA c') (IN c) b (sA c).length c.bL ss (sA c').length sc'
def RetL (l:List aB) (ss:List aH):Prop:=∀y,l.getLast? = some y->y.cF=13->∃s,ss.getLast? = some s/\Mt s
def OkSm (N n:Nat) (f:aD->aI->aB->Bool->Option (aH × aD × aI)):Prop:=∀B c w x b,CI N B c->WS x->sz x<=20000->(B:Int)+sz x<=1073741824->3*sz x+20301<=n->bC (f c w x b) fun r=>Lv2 N B (sz x) c w r.2.1 r.2.2/\St1 c r.2.1 r.2.2 b r.1 x/\(r.2.2.e_=0->x.cF=13->Mt r.1)
def OkBk (N n:Nat) (f:aD->aI->aB->Bool->Option ((List aH) × aD × aI)):Prop:=∀B c w x b,CI N B c->(∀y ∈ x.aP,WS y)->tI x.aP<=20000->(B:Int)+tI x.aP<=1073741824->3*tI x.aP+20302<=n->bC (f c w x b) fun r=>(Lv2 N B (tI x.aP) c w r.2.1 r.2.2/\r.2.1.bL=c.bL)/\(r.2.2.e_=0->StL c r.2.1 b r.1/\RetL x.aP r.1/\(Aa r.1:Int)<=tI x.aP)
section
variable {N B n:Nat} {c:aD} {w:aI}
theorem OJ {m:Nat} {x:Nd} {b:Bool} {fs:aD->aI->aB->Bool->Option (aH × aD × aI)} (hf:OkSm N m fs) (hs:tI x.aP<=20000) (hm:3*tI x.aP+20301<=m) :
  ∀(k v B:Nat) (ys:List aH) (c:aD) (w:aI),x.aP.length<v+k->v<=x.aP.length->ys.length=v->CI N B c->(∀y ∈ x.aP.drop v,WS y)->(B:Int)+tI (x.aP.drop v)<=1073741824->bC (iR fs x b k ys (v:Int) c w) fun r=>Lv2 N B (tI (x.aP.drop v)) c w r.2.1 r.2.2/\(r.2.2.e_=0->∃ss,r.1=ys++ss/\TB (sgC r.2.1) (sA r.2.1) (IN c) b (sA c).length c.bL ss (sA r.2.1).length r.2.1.bL/\RetL (x.aP.drop v) ss/\(Aa ss:Int)<=tI (x.aP.drop v))/\(v=x.aP.length->r.1=ys/\r.2.1=c):=by
 intro k
 induction k with
 | zero=>intro v B ys c w h1 h2;omega
 | succ k ih=>
   intro v B ys c w h1 h2 h3 h hx hB;unfold iR;have hg:=nV x.aP;have hg0:=nV (x.aP.drop v)
   by_cases hv:v<x.aP.length
   ·rw [if_pos (Fh (by omega))];have hd:x.aP.drop v=x.aP[v]::x.aP.drop (v+1):=Ps hv;have e:bY x.aP (v:Int)=some x.aP[v]:=by unfold bY;rw [if_pos (by omega),AP,tH hv]
    have hsz:=Gz (xdv hv);rw [hd,sV] at hB ⊢;have hg1:=nV (x.aP.drop (v+1));have hp:=pJ x.aP[v];rw [e];simp only [pI];refine bC.iteb (fun he=>.some ⟨⟨⟨B,by omega,h⟩,.refl c,.refl w⟩,fun e=>absurd e (by simpa using he),fun _=>⟨rfl,rfl⟩⟩) (fun he=>?_);have hst:∀b2,bC (fs c w x.aP[v] b2) fun r=>Lv2 N B (sz x.aP[v]) c w r.2.1 r.2.2/\St1 c r.2.1 r.2.2 b2 r.1 x.aP[v]/\(r.2.2.e_=0->(x.aP[v]).cF=13->Mt r.1):=fun b2=>hf B c w _ b2 h (hx _ (by rw [hd];exact xec)) (by omega) (by omega) (by omega);refine bC.bind (P:=fun r=>Lv2 N B (sz x.aP[v]) c w r.2.1 r.2.2/\∃s b2,r.1=ys++[s]/\St1 c r.2.1 r.2.2 b2 s x.aP[v]/\(b2=true->b=true/\v+1=x.aP.length)/\(r.2.2.e_=0->(x.aP[v]).cF=13->Mt s)) ?_ fun r hr=>?_
    ·refine bC.iteb (fun hb=>?_) (fun _=>?_)
     ·exact (hst _).bind fun r hr=>bC.need (by simp only [uP];omega) (.some ⟨hr.1,r.1,_,rfl,hr.2.1,fun h2=>⟨hb,by
       rw [fR (by omega) (by omega),beq_iff_eq] at h2;omega⟩,hr.2.2⟩)
     ·exact (hst false).bind fun r hr=>bC.need (by simp only [uP];omega) (.some ⟨hr.1,r.1,false,rfl,hr.2.1,fun h2=>Bool.noConfusion h2,hr.2.2⟩)
    ·obtain ⟨⟨⟨B',hb',h'⟩,hk,hw⟩,s,b2,hr1,hs1,hb2,hrt⟩:=hr;rw [fR (by omega) (by omega),show ((v:Int)+1)=((v+1:Nat):Int) by omega];refine (ih (v+1) B' _ _ _ (by omega) (by omega) (by rw [hr1,nL,uP];omega) h' (fun y hy=>hx y (by rw [hd];exact Jx _ hy)) (by omega)).mono fun q hq=>?_;obtain ⟨⟨⟨B2,hbb,h2⟩,hk2,hw2⟩,hT,hend⟩:=hq;refine ⟨⟨⟨B2,by omega,h2⟩,hk.trans hk2,hw.trans hw2⟩,fun e=>?_,fun h=>by omega⟩;obtain ⟨ss,hq1,hT1,hR,hZ⟩:=hT e;have e2:r.2.2.e_=0:=by rw [←hw2 e];exact e
     refine ⟨s::ss,by rw [hq1,hr1,Mx];rfl,?_,?_,by rw [Aa];have:=(hs1 e2).2;omega⟩
     ·have t1:=(hs1 e2).1.mono (fun k r ps h=>Kp.sg h' hk2 h) hk2.v;rw [hk.res h] at hT1;cases b2 with
      | false=>exact t1.app rfl hT1
      | true=>
        obtain ⟨rfl,hvl⟩:=hb2 rfl;obtain ⟨q1,q2⟩:=hend hvl
        have hss:ss=[]:=by
         rw [q1] at hq1;simpa using hq1
        subst hss;rw [q2];exact (hs1 e2).1
     ·intro y hy hk13;rw [List.getLast?_cons] at hy;cases hl:(x.aP.drop (v+1)).getLast? with
      | none=>
        rw [hl] at hy;have hnil:=List.getLast?_eq_none_iff.1 hl
        have hv1:v+1=x.aP.length:=by
         have:=List.drop_eq_nil_iff.1 hnil;omega
        obtain ⟨q1,q2⟩:=hend hv1
        have hss:ss=[]:=by
         rw [q1] at hq1;simpa using hq1
        subst hss;cases hy;exact ⟨s,rfl,hrt e2 hk13⟩
      | some y2=>
        rw [hl] at hy;cases hy;obtain ⟨s2,h5,h6⟩:=hR _ hl hk13;exact ⟨s2,by rw [List.getLast?_cons,h5];rfl,h6⟩
   ·rw [if_neg (by simp;omega)];have hnil:x.aP.drop v=[]:=List.drop_eq_nil_of_le (by omega);rw [hnil];exact .some ⟨⟨⟨B,by rw [mM];omega,h⟩,.refl c,.refl w⟩,fun e=>⟨[],(Ef _).symm,.nil,(fun y hy=>nomatch hy),by rw [Aa,mM];decide⟩,fun _=>⟨rfl,rfl⟩⟩
theorem Rd {fs:aD->aI->aB->Bool->Option (aH × aD × aI)} (hf:OkSm N n fs):OkBk N (n+1) (kY fs n):=by
 intro B c w x b h hx hs hB hn;unfold kY;have hg:=nV x.aP;refine (OJ hf hs (by omega) n 0 B [] c w (by omega) (by omega) rfl h (by rw [qU];exact hx) (by rw [qU];exact hB)).bind fun r hr=>?_;rw [qU] at hr;obtain ⟨⟨⟨B',hb',h'⟩,hk,hw⟩,hT,_⟩:=hr;have hle:=hk.s.length_le;refine bC.need (by omega) (.some ?_);rw [FQ hk.s];have hB':=(h.more (B':=max B B') (by omega));obtain ⟨k1,k2⟩:=(h'.more (B':=max B B') (by omega)).scope hB' hk;refine ⟨⟨⟨⟨max B B',by omega,k1⟩,k2,hw⟩,rfl⟩,fun e=>?_⟩;obtain ⟨ss,e1,e2,e3,e4⟩:=hT e;rw [tS] at e1;rw [e1];exact ⟨⟨_,e2⟩,e3,e4⟩
def OkLp (N n:Nat) (f:aD->aI->aB->aH->Option (aH × aD × aI)):Prop:=∀B c w x st,CI N B c->WS x->x.cF=12->sz x<=20000->(B:Int)+sz x<=1073741824->3*sz x+20300<=n->(∃a,st=⟨[],-1,0,[],[],[],a⟩)->∀b,bC (f c w x st) fun r=>Lv2 N B (sz x) c w r.2.1 r.2.2/\St1 c r.2.1 r.2.2 b r.1 x
theorem WS.inv12 {x:Nd} (h:WS x) (k:x.cF=12):∃a s y z b ys,x=⟨12,a,s,0,[y,z,⟨4,b,[],0,ys⟩]⟩/\WE y/\WE z/\∀u ∈ ys,WS u:=by
 cases h with
 | loop h1 h2 h3=>exact ⟨_,_,_,_,_,_,rfl,h1,h2,h3⟩
 | bind hk _=>rcases hk with rfl | rfl <;> simp at k
 | _=>simp at k
theorem cloop_b {fb:aD->aI->aB->Bool->Option ((List aH) × aD × aI)} (hf:OkBk N n fb):OkLp N (n+1) (lU fb n):=by
 rintro B c w x st h hx hk hs hB hn ⟨sa,rfl⟩ bl;obtain ⟨a,s,y,z,b,ys,rfl,hy,hz,hys⟩:=hx.inv12 hk;rw [gM,HQ,gM] at hs hB hn ⊢;have h1:=pJ y;have h2:=pJ z;have h3:=nV ys;unfold lU;refine bC.eqn (v:=y) rfl ((sG (w:=w) h hy (by omega) (by omega)).bind fun r1 hr1=>?_);refine bC.eqn (v:=z) rfl ((sG (w:=r1.2) h hz (by omega) (by omega)).bind fun r2 hr2=>?_);refine (sF (w:=r2.2) h (by omega) fun _=>PF).bind fun d hd=>?_;obtain ⟨d1,d2,d3,d4,d5,d6⟩:=hd;refine bC.eqn (v:=⟨4,b,[],0,ys⟩) rfl ((hf B _ _ _ false d1 hys (by simp only;omega) (by simp only;omega) (by simp only;omega)).bind fun q hq=>?_);obtain ⟨⟨⟨⟨B',hb',h'⟩,hk',hw'⟩,hsc⟩,hT⟩:=hq;have hkk:=d2.trans hk';have hle:=hkk.s.length_le;refine bC.need (by omega) (.some ?_);have hmin:(min (c.bL.length:Int) (q.2.1.bL.length:Int)).toNat=c.bL.length:=by omega
 rw [hmin,FQ hkk.s];simp only at hb';obtain ⟨k1,k2⟩:=(h'.more (B':=max B B') (by omega)).scope (h.more (B':=max B B') (by omega)) hkk;refine ⟨⟨⟨max B B',by omega,k1⟩,k2,hr1.1.wk.trans (hr2.1.wk.trans (WK.trans (fun e=>(d5 e).1) hw'))⟩,fun e=>?_⟩;have ed:d.2.2.e_=0:=by rw [←hw' e];exact e
 obtain ⟨g1,g2,g3,g4⟩:=d5 ed;have e2:r2.2.e_=0:=by rw [←g1];exact ed
 have e1:r1.2.e_=0:=by rw [←hr2.1.wk e2];exact e2
 obtain ⟨⟨sc',hT1⟩,_,hZ⟩:=hT e;rw [d2.res h,g3,g4,nL,uP] at hT1;have hv:sA c <+: sA q.2.1:=hkk.v;have hu:(sA q.2.1)[(sA c).length]? = some ⟨s,1,0⟩:=DR hk'.v (by rw [g3];exact Dx);simp only;rw [g2];refine ⟨.for_ ((hr1.1 e1).2.1.mono hv fun _ h=>h) (hr1.2 e1) ((hr2.1 e2).2.1.mono hv fun _ h=>h) (hr2.2 e2) hu rfl hT1 .nil,?_⟩;rw [yB,gM,HQ,gM];simp only [tG,Aa];simp only at hZ;have:=(hr1.1 e1).2.2;have:=(hr2.1 e2).2.2;omega
end
section
variable {N B n:Nat} {c:aD} {w:aI}
theorem Lv2.one {k:Int} {c':aD} {w':aI} (hk:1<=k) (h:CI N (B+1) c'/\Kp c c'/\WK w w'):Lv2 N B k c w c' w':=⟨⟨B+1,by omega,h.1⟩,h.2⟩
theorem Lv2.zero {k:Int} {c':aD} {w':aI} (hk:0<=k) (h:CI N B c') (h2:Kp c c') (h3:WK w w'):Lv2 N B k c w c' w':=⟨⟨B,by omega,h⟩,h2,h3⟩
theorem Qs {a:Int} (h:wA (i64.wrap (min a 1025))):wA (i64.wrap a):=by
 by_cases h1:a<=1025
 ·rwa [show min a 1025=a by omega] at h
 ·rw [show min a 1025=1025 by omega,show i64.wrap 1025=1025 by decide] at h;exact absurd h (by unfold wA;omega)
theorem cstmt_b {fb:aD->aI->aB->Bool->Option ((List aH) × aD × aI)} {fl:aD->aI->aB->aH->Option (aH × aD × aI)} (hf:OkBk N n fb) (hl:OkLp N n fl):OkSm N (n+1) (iU fb fl n):=by
 intro B c w x b h hx hs hB hn;have hp:=pJ x;unfold iU;cases hx with
 | bind hk hy=>
   rw [gM,qV] at hs hB hn hp ⊢
   rcases hk with rfl | rfl
   ·simp only [Int.reduceBEq,xX,if_false,if_true];refine bC.eqn rfl ((sG (w:=w) h hy (by omega) (by omega)).bind fun r hr=>?_);refine (sF (w:=r.2) h (by omega) fun _=>PF).bind fun d hd=>.some ⟨.zero (by omega) hd.1 hd.2.1 (hr.1.wk.trans fun e=>(hd.2.2.2.2.1 e).1),fun e=>?_,fun _ h=>absurd h (by decide)⟩;obtain ⟨d1,d2,d3,d4⟩:=hd.2.2.2.2.1 e;have er:r.2.e_=0:=by rw [←d1];exact e
    simp only;rw [d2,d3,d4,nL,uP];exact ⟨.let_ ((hr.1 er).2.1.mono (xej _ _) fun _ h=>h) (hr.2 er) Dx rfl .nil,by rw [yB,gM,qV];simp only [Aa,tG];have:=(hr.1 er).2.2;omega⟩
   ·simp only [Int.reduceBEq,xX,if_false,if_true];exact (Mi h (by omega) rfl hy (by omega) (by omega) (by omega)).bind fun r hr=>.some ⟨.one (by omega) ⟨hr.1,hr.2.1,hr.2.2.1⟩,hr.2.2.2,fun _ h=>absurd h (by decide)⟩
 | arr=>
   rw [gM,mM] at hs hB hn hp ⊢;simp only [Int.reduceBEq,xX,if_false,if_true];refine HU.bind fun k hk=>?_;rw [nM];refine (sF (w:=Jz w k 136 _) h (by omega) fun e=>PE ?_).bind fun d hd=>.some ⟨.zero (by omega) hd.1 hd.2.1 ((WK.nd).trans fun e=>(hd.2.2.2.2.1 e).1),fun e=>?_,fun _ h=>absurd h (by decide)⟩
   ·exact Qs (hk (fH (k:=136) (by decide) e).2.1)
   ·obtain ⟨d1,d2,d3,d4⟩:=hd.2.2.2.2.1 e;simp only;rw [d2,d3,d4,nL,uP];exact ⟨.arr Dx rfl .nil,by rw [yB,gM,mM];simp only [Aa,tG];omega⟩
 | ret hy=>
   rw [gM,qV] at hs hB hn hp ⊢;simp only [Int.reduceBEq,xX,if_false,if_true];exact (OM h (by omega) rfl hy (by omega) (by omega) (by omega)).bind fun r hr=>.some ⟨.one (by omega) ⟨hr.1,hr.2.1,hr.2.2.1⟩,hr.2.2.2.1,fun e _=>hr.2.2.2.2 e⟩
 | loop h1 h2 h3=>
   simp only [Int.reduceBEq,xX,if_false,if_true];exact (hl B c w _ _ h (.loop h1 h2 h3) rfl hs hB (by omega) ⟨_,rfl⟩ b).bind fun r hr=>.some ⟨hr.1,hr.2,fun _ h=>absurd h (by decide)⟩
 | set hy=>
   rw [gM,qV] at hs hB hn hp ⊢;simp only [Int.reduceBEq,xX,if_false,if_true];exact (QU h (by omega) rfl hy (by omega) (by omega) (by omega)).bind fun r hr=>.some ⟨.one (by omega) ⟨hr.1,hr.2.1,hr.2.2.1⟩,hr.2.2.2,fun _ h=>absurd h (by decide)⟩
 | put hi hy=>
   rw [gM,FN] at hs hB hn hp ⊢;rename_i i0 y0;have p1:=pJ i0;have p2:=pJ y0;simp only [Int.reduceBEq,xX,if_false,if_true];exact (QV h rfl hi hy (by omega) (by omega) (by omega) (by omega)).bind fun r hr=>.some ⟨.zero (by omega) h (.refl c) hr.1,hr.2,fun _ h=>absurd h (by decide)⟩
 | call hy=>
   rw [gM] at hs hB hn hp ⊢;simp only [Int.reduceBEq,xX,if_false,if_true];refine (DU h (by omega) hy (by simp only;omega) (by simp only;omega) (by omega)).bind fun r hr=>.some ⟨.one (by omega) ⟨hr.1,hr.2.1,hr.2.2.2.2.1⟩,fun e=>?_,fun _ h=>absurd h (by decide)⟩;obtain ⟨h1,h2,h3,h4,h5,h6⟩:=hr;obtain ⟨f0,f1,f,zs,e1,e2,e3,e4,e9⟩:=h6 e;have hvs:sA r.2.1=sA c:=by unfold sA;rw [h4,h2.f]
   simp only;rw [e1,hvs,h3];exact ⟨.do_ e3 e4 .nil,by rw [yB,gM];simp only [Aa];simp only at e9;omega⟩
 | choice h1 h2=>
   rw [gM,FN,gM] at hs hB hn hp ⊢;rename_i c0 b0 ys;have p1:=pJ c0;have p2:=nV ys;simp only [Int.reduceBEq,xX,if_false,if_true];refine bC.eqn (v:=c0) rfl ((sG (w:=w) h h1 (by omega) (by omega)).bind fun r hr=>?_);refine bC.eqn (v:=⟨4,b0,[],0,ys⟩) rfl ((hf B c _ _ false h h2 (by simp only;omega) (by simp only;omega) (by simp only;omega)).bind fun q hq=>?_);obtain ⟨⟨⟨⟨B',hb',h'⟩,hk',hw'⟩,hsc⟩,hT⟩:=hq;simp only at hb';refine bC.need (by simp) ?_;obtain ⟨m,rfl⟩:∃m,n=m+1:=⟨n - 1,by omega⟩;unfold fT;refine .some ⟨⟨⟨B',by omega,h'⟩,hk',hr.1.wk.trans hw'⟩,fun e=>?_,fun _ h=>absurd h (by decide)⟩;have er:r.2.e_=0:=by rw [←hw' e];exact e
   obtain ⟨⟨sc',hT1⟩,_,hZ⟩:=hT e;simp only;rw [hsc];refine ⟨.if_ ((hr.1 er).2.1.mono hk'.v fun _ h=>h) (hr.2 er) hT1 .nil .nil,?_⟩;rw [yB,gM,FN,gM];simp only [tG,Aa];simp only at hZ;have:=(hr.1 er).2.2;omega
 | choice2 h1 h2 h4=>
   rw [gM,HQ,gM,gM] at hs hB hn hp ⊢;rename_i c0 b0 ys b1 zs;have p1:=pJ c0;have p2:=nV ys;have p3:=nV zs;simp only [Int.reduceBEq,xX,if_false,if_true];refine bC.eqn (v:=c0) rfl ((sG (w:=w) h h1 (by omega) (by omega)).bind fun r hr=>?_);refine bC.eqn (v:=⟨4,b0,[],0,ys⟩) rfl ((hf B c _ _ false h h2 (by simp only;omega) (by simp only;omega) (by simp only;omega)).bind fun q hq=>?_);obtain ⟨⟨⟨⟨B',hb',h'⟩,hk',hw'⟩,hsc⟩,hT⟩:=hq;simp only at hb';refine bC.need (by simp) ?_;obtain ⟨m,rfl⟩:∃m,n=m+1+1:=⟨n - 2,by omega⟩;unfold fT;refine bC.bind' ?_;refine bC.iteb (fun _=>?_) (fun hc=>by simp at hc);refine bC.eqn (v:=⟨4,b1,[],0,zs⟩) rfl ((hf B' q.2.1 _ _ false h' h4 (by simp only;omega) (by simp only;omega) (by simp only;omega)).bind fun q2 hq2=>?_);obtain ⟨⟨⟨⟨B2,hb2,h5⟩,hk2,hw2⟩,hsc2⟩,hT2⟩:=hq2;simp only at hb2;unfold fT;refine .some (.some ⟨⟨⟨B2,by omega,h5⟩,hk'.trans hk2,hr.1.wk.trans (hw'.trans hw2)⟩,fun e=>?_,fun _ h=>absurd h (by decide)⟩);have eq:q.2.2.e_=0:=by rw [←hw2 e];exact e
   have er:r.2.e_=0:=by rw [←hw' eq];exact eq
   obtain ⟨⟨sc1,hT1⟩,_,hZ⟩:=hT eq;obtain ⟨⟨sc2,hT3⟩,_,hZ2⟩:=hT2 e;rw [hk'.res h,hsc] at hT3;simp only;rw [hsc2,hsc];refine ⟨.if_ ((hr.1 er).2.1.mono (hk'.trans hk2).v fun _ h=>h) (hr.2 er) (hT1.mono (fun _ _ _ h=>Kp.sg h' hk2 h) hk2.v) hT3 .nil,?_⟩;rw [yB,gM,HQ,gM,gM];simp only [tG,Aa];simp only at hZ hZ2;have:=(hr.1 er).2.2;omega
theorem KP:∀n:Nat,OkBk N n (eB n).1/\OkSm N n (eB n).2.1/\OkLp N n (eB n).2.2
 | 0=>⟨fun B c w x b _ _ _ _ h=>by have:=nV x.aP;omega,fun B c w x b _ _ _ _ h=>by have:=pJ x;omega,fun B c w x st _ _ _ _ _ h _ _=>by have:=pJ x;omega⟩
 | n+1=>by
   obtain ⟨g1,g2,g3⟩:=KP n;exact ⟨Rd g2,cstmt_b g1 g3,cloop_b g1⟩
end
structure CO (N B:Nat) (c:aD):Prop where
 nf:c.p_.bG.length=N
 nN:N<=16384
 vl:∀f ∈ c.p_.bG,f.bB.length<=250/\0<=f.bD/\f.bD<=f.bB.length
 nc:c.cJ.length=N
 cl:∀l ∈ c.cJ,l.length<=B/\∀k ∈ l,0<=k/\k<N
 ki:∀f ∈ c.p_.bG,(∀v ∈ f.bB,Cz v)/\(f.cX=0 ∨ f.cX=2 ∨ f.cX=3)
def yE (k:Nat):List Int:=(List.range k).map Int.ofNat
theorem Ke (k:Nat):yE (k+1)=yE k++[(k:Int)]:=by
 unfold yE;rw [List.range_succ,JC];rfl
theorem GH (k:Nat):(yE k).length=k:=by unfold yE;simp
theorem LG {k:Nat} {v:Int} (h:v ∈ yE k):0<=v/\v<k:=by
 unfold yE at h;obtain ⟨i,h1,rfl⟩:=EG.1 h;have:=JB.1 h1;have h2:Int.ofNat i=(i:Int):=rfl;omega
def Ai:List aZ->Int->Int
 | [],n=>n
 | v::l,n=>Ai l (if v.cF=3 then n+(n % 2+1)+1 else n+1)
theorem Pz {f:aY} (hl:(f.bB.take f.bD.toNat).length<=250):∀(k v:Nat) (a:Int),(f.bB.take f.bD.toNat).length<v+k->v<=(f.bB.take f.bD.toNat).length->0<=a->a<=4*(v:Int)->mI f k a (v:Int)=some (Ai ((f.bB.take f.bD.toNat).drop v) a):=by
 intro k
 induction k with
 | zero=>intro v a h1 h2;omega
 | succ k ih=>
   intro v a h1 h2 h3 h4;unfold mI
   by_cases hv:v<(f.bB.take f.bD.toNat).length
   ·rw [if_pos (Fh (by omega))];have hd:(f.bB.take f.bD.toNat).drop v=(f.bB.take f.bD.toNat)[v]::(f.bB.take f.bD.toNat).drop (v+1):=Ps hv;have e:bY (f.bB.take f.bD.toNat) (v:Int)=some (f.bB.take f.bD.toNat)[v]:=by unfold bY;rw [if_pos (by omega),AP,tH hv]
    rw [hd,e];simp only [pI,Ai,beq_iff_eq];have h5:=Int.emod_nonneg a (show (2:Int) ≠ 0 by decide);have h6:=Int.emod_lt_of_pos a (show (0:Int)<2 by decide);rw [fR (n:=(v:Int)+1) (by omega) (by omega),show ((v:Int)+1)=((v+1:Nat):Int) by omega]
    split
    ·rw [Int.tmod_eq_emod_of_nonneg h3,fR (n:=a % 2+1) (by omega) (by omega),fR (n:=a+(a % 2+1)) (by omega) (by omega),fR (by omega) (by omega)];exact ih (v+1) _ (by omega) (by omega) (by omega) (by omega)
    ·rw [fR (by omega) (by omega)];exact ih (v+1) _ (by omega) (by omega) (by omega) (by omega)
   ·rw [if_neg (by rw [FV];omega),List.drop_eq_nil_of_le (by omega)];rfl
theorem PA {f:aY} {n:Nat} (h1:f.bB.length<=250) (h2:0<=f.bD) (h3:f.bD<=f.bB.length) (hn:300<n):qP n f=some (Ai (f.bB.take f.bD.toNat) 0):=by
 have hl:(f.bB.take f.bD.toNat).length<=250:=by rw [EF];omega
 unfold qP;rw [DO ⟨h2,h3⟩];have:=Pz hl n 0 0 (by omega) (by omega) (by omega) (by omega);rw [show ((0:Nat):Int)=0 from rfl,qU] at this;rw [this];rfl
section
variable {N B n:Nat} {c:aD} {w:aI}
theorem CO.ci (h:CO N B c) {i:Int} (h0:0<=i) (h1:i<N) {f:aY} (hf:c.p_.bG[i.toNat]? = some f) {s:List Int} (hs:∀v ∈ s,0<=v/\v<f.bB.length) (hl:s.length<=f.bB.length):CI N B { c with f_:=i,bL:=s,gC:=i }:=by
 have hv:sA { c with f_:=i,bL:=s,gC:=i }=f.bB:=by unfold sA;simp only [hf];rfl
 exact ⟨h.nf,h.nN,h0,h1,h0,h1,by rw [hv];exact hs,by rw [hv];exact hl,h.vl,h.nc,h.cl,h.ki⟩
theorem QR (h:CO N B c) {i:Int} (h0:0<=i) (h1:i<N) {f:aY} (hf:c.p_.bG[i.toNat]? = some f) (hm:f ∈ c.p_.bG):∀(k v:Nat),f.bD<v+k->(v:Int)<=f.bD->bC (gU f k (v:Int) { c with f_:=i,bL:=yE v,gC:=i }) fun r=>CI N B r/\r={ c with f_:=i,bL:=yE f.bD.toNat,gC:=i }:=by
 have hp:=h.vl f hm;intro k
 induction k with
 | zero=>intro v h2 h3;omega
 | succ k ih=>
   intro v h2 h3;unfold gU
   by_cases hv:(v:Int)<f.bD
   ·rw [if_pos (Fh hv)];refine bC.need (by simp only [GH];omega) ?_;rw [fR (by omega) (by omega),show ((v:Int)+1)=((v+1:Nat):Int) by omega];have:=ih (v+1) (by omega) (by omega);rw [Ke] at this;exact this
   ·rw [if_neg (by simpa using hv)];have hv2:v=f.bD.toNat:=by omega
    subst hv2;refine .some ⟨h.ci h0 h1 hf (fun u hu=>?_) (by rw [GH];omega),rfl⟩;have:=LG hu;omega
theorem Ij (h:CO N B c) {i:Int} (h0:0<=i) (h1:i<N) (hn:300<n) {f:aY} (hf:bY c.p_.bG i=some f):bC (kG n c w i) fun r=>CI N B r.1/\r.2=w/\r.1={ c with f_:=i,bL:=yE f.bD.toNat,gC:=i }:=by
 unfold kG;obtain ⟨f',e,e2,hm⟩:=mR (l:=c.p_.bG) h0 (by rw [h.nf];exact h1);rw [hf] at e;cases e
 rw [hf];simp only [pI];have hp:=h.vl f hm;have e3:=QR h h0 h1 e2 hm n 0 (by omega) (by omega);change bC (gU f n 0 { c with f_:=i,bL:=[],gC:=i }) _ at e3;exact e3.bind fun r hr=>.some ⟨hr.1,rfl,hr.2⟩
theorem Md {xs:List Nd} (hx:∀x ∈ xs,WP x) (hs:xs.length<=20000) (hn:300<n):∀(k v:Nat) (c:aD) (w:aI),xs.length<v+k->v<=xs.length->CI N B c->bC (iG n xs k (v:Int) c w) fun r=>CI N B r.1/\Kp c r.1/\WK w r.2/\r.1.cJ=c.cJ:=by
 intro k
 induction k with
 | zero=>intro v c w h1 h2;omega
 | succ k ih=>
   intro v c w h1 h2 h;unfold iG
   by_cases hv:v<xs.length
   ·rw [if_pos (Fh (by omega))];refine bC.bind (P:=fun r=>CI N B r.1/\Kp c r.1/\WK w r.2/\r.1.cJ=c.cJ) ?_ fun r hr=>?_
    ·obtain ⟨x,e,_,hxm⟩:=mR (l:=xs) (i:=(v:Int)) (by omega) (by omega);rw [e];simp only [pI];cases hx x hxm with
     | @word a s k hk=>
       have hk3:i64.wrap k=k/\1<=k/\k<=3:=by rcases hk with rfl | rfl | rfl <;> decide
       refine bC.bind (P:=fun b=>b=false) (bC.iteb (fun _=>.some rfl) (fun _=>.some rfl)) fun b hb=>?_;subst hb;refine bC.iteb (fun h=>nomatch h) fun _=>(sF (w:=w) h hn fun _=>?_).bind fun d hd=>.some ⟨hd.1,hd.2.1,fun e=>(hd.2.2.2.2.1 e).1,hd.2.2.1⟩;simp only [hk3.1];exact varOkW hk3.2.1 hk3.2.2
     | @arr a s b n1=>
       have w4:i64.wrap 4=4:=by decide
       simp only [w4,Int.reduceBEq,if_true,uP,Int.natCast_one,Int.reduceLT,decide_true,pI];refine bC.eqn (v:=⟨14,b,[],n1,[]⟩) rfl (HU.bind fun b2 hb2=>?_);rw [nM];exact (sF (w:=Jz w b2 136 _) h hn fun e=>PE (hb2 (fH (k:=136) (by decide) e).2.1)).bind fun d hd=>.some ⟨hd.1,hd.2.1,WK.trans WK.nd fun e=>(hd.2.2.2.2.1 e).1,hd.2.2.1⟩
    ·rw [fR (by omega) (by omega),show ((v:Int)+1)=((v+1:Nat):Int) by omega];exact (ih (v+1) _ _ (by omega) (by omega) hr.1).mono fun q hq=>⟨hq.1,hr.2.1.trans hq.2.1,hr.2.2.1.trans hq.2.2.1,hq.2.2.2.trans hr.2.2.2⟩
   ·rw [if_neg (by simp;omega)];exact .some ⟨h,.refl c,.refl w,rfl⟩
structure Hd (f f':aY):Prop where
 n:f'.jP=f.jP
 x:f'.iC=f.iC
 r:f'.cX=f.cX
 b:f'.eH=f.eH
 p:f'.bD=f'.bB.length
theorem PB {x:Nd} (h:WF x):∃ps b,x.aP=ps++[b]/\(∀p ∈ ps,WP p)/\(∀y ∈ b.aP,WS y)/\b=⟨4,b.fQ,[],0,b.aP⟩:=by
 cases h with
 | fn h1 h2=>exact ⟨_,_,rfl,h1,h2,rfl⟩
theorem MM {α:Type} {ps:List α} {b:α} (h:(ps++[b]).length<=20000):(max (i64.wrap (((ps++[b]).length:Int) - 1)) 0)=(ps.length:Int):=by
 simp only [nL,uP] at *;rw [fR (by omega) (by omega)];omega
theorem Kp.body {c':aD} (h:CI N B c) (k:Kp c c') {f:aY} (e:bY c.p_.bG c.f_=some f) {f':aY} (e':bY c'.p_.bG c'.f_=some f'):f'.jP=f.jP/\f'.iC=f.iC/\f'.cX=f.cX/\f'.bD=f.bD/\f.bB <+: f'.bB:=by
 obtain ⟨f2,e2,g1,g2,g3,g4,g5,_⟩:=k.fn h e;rw [k.f] at e';rw [e'] at e2;cases e2
 exact ⟨g1,g2,g3,g4,g5⟩
theorem OH (h:CO N B c) {i:Int} (h0:0<=i) (h1:i<N) (hn:20300<n) {f:aY} (hf:bY c.p_.bG i=some f) (hb:f.eH=[]) {x:Nd} (hx:WF x) (hs:x.aP.length<=20000):bC (jN n c w i x) fun r=>CO N B r.1/\WK w r.2/\r.1.cJ=c.cJ/\(∀j:Nat,j ≠ i.toNat->r.1.p_.bG[j]? = c.p_.bG[j]?)/\∃f',bY r.1.p_.bG i=some f'/\f'.jP=f.jP/\f'.iC=f.iC/\f'.cX=f.cX/\f'.bD=f'.bB.length/\(r.2.e_=0->f'.iC=true->Ai f'.bB 0<=4):=by
 obtain ⟨ps,b,hl,hps,_,_⟩:=PB hx;have hla:=MM (ps:=ps) (b:=b) (by rw [←hl];exact hs);rw [←hl] at hla;unfold jN;refine (Ij (w:=w) h h0 h1 (by omega) hf).bind fun r hr=>?_;obtain ⟨g1,g2,g3⟩:=hr;rw [hla];have hll:x.aP.length=ps.length+1:=by rw [hl];simp
 refine bC.need ⟨by omega,by omega⟩ ?_;rw [AP,show x.aP.take ps.length=ps by rw [hl];simp];unfold oV;refine bC.bind (P:=fun q=>CO N B q.1/\WK w q.2/\q.1.f_=i/\q.1.cJ=c.cJ/\(∀j:Nat,j ≠ i.toNat->q.1.p_.bG[j]? = c.p_.bG[j]?)/\∃f',bY q.1.p_.bG i=some f'/\f'.jP=f.jP/\f'.iC=f.iC/\f'.cX=f.cX/\f'.bD=f'.bB.length) ?_ fun q hq=>?_
 ·refine (Md hps (by omega) (by omega) n 0 r.1 r.2 (by omega) (by omega) g1).bind fun q hq=>?_;obtain ⟨k1,k2,k3,k4⟩:=hq;obtain ⟨f2,ef2,hm2,hv2,e2⟩:=k1.cur;rw [e2];simp only [pI];have hqf:q.1.f_=i:=by rw [k2.f,g3]
  have hrf:bY r.1.p_.bG r.1.f_=some f:=by rw [g3];exact hf
  obtain ⟨b1,b2,b3,b4,b5⟩:=k2.body g1 hrf e2;have hlt:q.1.f_.toNat<q.1.p_.bG.length:=(qS.1 ef2).1;refine .some ⟨⟨by simp only [HL];exact k1.nf,k1.nN,fun g hg=>?_,k1.nc,k1.cl,fun g hg=>?_⟩,by rw [←g2];exact k3,hqf,by rw [k4,g3],fun j hj=>?_,{ f2 with bD:=(f2.bB.length:Int) },?_,b1,b2,b3,rfl⟩
  ·rcases HN hg with hg | rfl
   ·exact k1.vl g hg
   ·have:=k1.vl f2 hm2;simp only;omega
  ·rcases HN hg with hg | rfl
   ·exact k1.ki g hg
   ·exact k1.ki f2 hm2
  ·simp only;rw [My (by rw [hqf];omega),k2.o j (by rw [g3];exact hj),g3]
  ·unfold bY;rw [if_pos h0];simp only
   rw [←hqf,Li hlt]
 ·obtain ⟨k1,k2,k3,k4,k5,f',k6,k7,k8,k9,k10⟩:=hq;refine bC.iteb (fun he=>?_) (fun he=>.some ⟨k1,k2,k4,k5,f',k6,k7,k8,k9,k10,fun e=>absurd e (by simpa using he)⟩);rw [k3,k6];simp only [pI,nM];refine bC.bind' (bC.iteb (fun hx=>.some (.some ⟨k1,k2.trans WK.nd,k4,k5,f',k6,k7,k8,k9,k10,fun _ hx2=>?_⟩)) (fun hx=>?_))
  ·rw [hx2] at hx;cases hx
  ·have hm:f' ∈ q.1.p_.bG:=by
    unfold bY at k6;rw [if_pos h0] at k6;exact AT k6
   have hv:=k1.vl f' hm;rw [PA hv.1 hv.2.1 hv.2.2 (by omega)];refine .some (.some ⟨k1,k2.trans WK.nd,k4,k5,f',k6,k7,k8,k9,k10,fun e _=>?_⟩);have:=(fH (k:=136) (by decide) e).2.1;rw [k10,AP,xem] at this;exact DW this
def JU (c:aD) (i:Nat):Mr:=fun k r ps=>(∃l,c.cJ[i]? = some l/\k ∈ l)/\∃f,bY c.p_.bG k=some f/\r=f.cX/\ps=f.bB.take f.bD.toNat
structure TF (sg:Mr) (f:aY):Prop where
 body:∃sc',TB sg f.bB f.cX true f.bD.toNat (yE f.bD.toNat) f.eH f.bB.length sc'
 ret:f.cX ≠ 0->∃s,f.eH.getLast? = some s/\Mt s
theorem Kc {b:Nd} (hl:b.aP.length<=20000):bC (tF b) fun r=>r=true->∃y,b.aP.getLast? = some y/\y.cF=13:=by
 unfold tF;refine bC.bind (P:=fun r=>r=true->∃y,b.aP.getLast? = some y/\y.cF=13) (bC.iteb (fun h=>?_) (fun _=>.some fun h=>Bool.noConfusion h)) fun r hr=>.some hr;have h0:0<b.aP.length:=by have:=DW h;omega
 rw [fR (by omega) (by omega)];obtain ⟨y,e,e2,_⟩:=mR (l:=b.aP) (i:=(b.aP.length:Int) - 1) (by omega) (by omega);rw [e];refine .some fun h=>⟨y,?_,by simpa using h⟩;rw [List.getLast?_eq_getElem?,←e2]
 congr 1
 omega
theorem OI (h:CO N B c) {i:Int} (h0:0<=i) (h1:i<N) {f:aY} (hf:bY c.p_.bG i=some f) (hp:f.bD=f.bB.length) {x:Nd} (hx:WF x) (hs:sz x<=20000) (hB:(B:Int)+sz x<=1073741824) (hn:90000<=n):bC (jO n c w i x) fun r=>(∃B':Nat,(B':Int)<=B+sz x/\CO N B' r.1)/\WK w r.2/\(∀j:Nat,j ≠ i.toNat->r.1.p_.bG[j]? = c.p_.bG[j]? /\ r.1.cJ[j]? = c.cJ[j]?)/\∃f',bY r.1.p_.bG i=some f'/\f'.jP=f.jP/\f'.iC=f.iC/\f'.cX=f.cX/\f'.bD=f.bD/\f.bB <+: f'.bB/\(r.2.e_=0->TF (JU r.1 i.toNat) f'/\(Aa f'.eH:Int)<=sz x):=by
 obtain ⟨ps,b,hl,_,hbs,hbe⟩:=PB hx;have hz:=Dd x;have hlen:=nV x.aP;have hla:=MM (ps:=ps) (b:=b) (by rw [←hl];omega);rw [←hl] at hla;have hbz:=Gz (l:=x.aP) (k:=b) (by rw [hl];simp);have hbq:=Dd b;have hbg:=nV b.aP;unfold jO;refine (Ij (w:=w) h h0 h1 (by omega) hf).bind fun r hr=>?_;obtain ⟨g1,g2,g3⟩:=hr;have hll:x.aP.length=ps.length+1:=by rw [hl];simp
 rw [hla];refine bC.need ⟨by omega,by omega⟩ ?_;obtain ⟨m,rfl⟩:∃m,n=m+1+1:=⟨n - 2,by omega⟩;unfold hY;rw [hla,AP,show x.aP.drop ps.length=[b] by rw [hl];simp];have hrf:r.1.f_=i:=by rw [g3]
 refine bC.bind' ?_;rw [if_pos (by rw [uP];decide)];refine bC.eqn (v:=b) rfl ?_;obtain ⟨f0,ef0,hm0,hv0,e0⟩:=g1.cur;have e0f:bY r.1.p_.bG r.1.f_=some f:=by rw [g3];exact hf
 rw [e0];rw [e0f] at e0;cases e0
 simp only [pI];refine ((KP (m+1+1)).1 B r.1 r.2 b true g1 hbs (by omega) (by omega) (by omega)).bind fun q hq=>?_;obtain ⟨⟨⟨⟨B',hb',h'⟩,hk,hw⟩,hsc⟩,hT⟩:=hq;obtain ⟨f2,ef2,hm2,hv2,e2⟩:=h'.cur;obtain ⟨b1,b2,b3,b4,b5⟩:=hk.body g1 e0f e2;have hqf:q.2.1.f_=r.1.f_:=hk.f;rw [hqf] at e2 ef2;rw [e2];simp only [pI];have hlt:r.1.f_.toNat<q.2.1.p_.bG.length:=(qS.1 ef2).1
 have e3:bY (q.2.1.p_.bG.set r.1.f_.toNat { f2 with eH:=q.1 }) r.1.f_=some { f2 with eH:=q.1 }:=by
  unfold bY;rw [if_pos (by rw [hrf];exact h0),Li hlt]
 rw [e3];simp only [pI,nM]
 have hout:∀w2:aI,WK q.2.2 w2->(w2.e_=0->f.cX ≠ 0->∃s,q.1.getLast? = some s/\Mt s)->bC (hY (m+1+1) x (m+1) (i64.wrap ((0:Int)+1)) { q.2.1 with p_:=⟨q.2.1.p_.bG.set r.1.f_.toNat { f2 with eH:=q.1 }⟩ } w2) (fun x_1=>bC (some (x_1.1,x_1.2)) fun r=>(∃B':Nat,(B':Int)<=B+sz x/\CO N B' r.1)/\WK w r.2/\(∀j:Nat,j ≠ i.toNat->r.1.p_.bG[j]? = c.p_.bG[j]? /\ r.1.cJ[j]? = c.cJ[j]?)/\∃f',bY r.1.p_.bG i=some f'/\f'.jP=f.jP/\f'.iC=f.iC/\f'.cX=f.cX/\f'.bD=f.bD/\f.bB <+: f'.bB/\(r.2.e_=0->TF (JU r.1 i.toNat) f'/\(Aa f'.eH:Int)<=sz x)):=by
  intro w2 hw2 hret;unfold hY;rw [hla,AP,show x.aP.drop ps.length=[b] by rw [hl];simp,if_neg (by rw [uP];decide)];refine .some (.some ⟨⟨B',by omega,by simp only [HL];exact h'.nf,h'.nN,fun g hg=>?_,h'.nc,h'.cl,fun g hg=>?_⟩,by rw [←g2];exact hw.trans hw2,fun j hj=>⟨?_,?_⟩,{ f2 with eH:=q.1 },?_,b1,b2,b3,b4,b5,fun e=>⟨⟨?_,?_⟩,by have:=(hT (by rw [←hw2 e];exact e)).2.2;simp only;omega⟩⟩)
  ·rcases HN hg with hg | rfl
   ·exact h'.vl g hg
   ·exact h'.vl f2 hm2
  ·rcases HN hg with hg | rfl
   ·exact h'.ki g hg
   ·exact h'.ki f2 hm2
  ·simp only;rw [My (by rw [hrf];omega),hk.o j (by rw [hrf];exact hj),g3]
  ·simp only;rw [hk.k j (by rw [g3];exact hj),g3]
  ·rw [←hrf];exact e3
  ·obtain ⟨⟨sc',hTB⟩,_⟩:=hT (by rw [←hw2 e];exact e);rw [g1.res e0f,hv0,hv2,g3] at hTB;simp only at hTB;have hpp:f.bB.length=f2.bD.toNat:=by rw [b4,hp,AP]
   rw [hpp,←b4,←b3] at hTB;refine ⟨sc',TB.mono (fun k r' ps' hsg=>?_) (Pd _) hTB⟩;obtain ⟨⟨l,el,hkl⟩,f3,ef3,rfl,rfl⟩:=hsg;have hat:q.2.1.gC=i:=by rw [hk.a,g3]
   rw [hat] at el;unfold bY at el;rw [if_pos h0] at el;refine ⟨⟨l,el,hkl⟩,?_⟩
   by_cases hki:k=r.1.f_
   ·subst hki;rw [e2] at ef3;cases ef3
    exact ⟨_,e3,rfl,rfl⟩
   ·refine ⟨f3,?_,rfl,rfl⟩;unfold bY at ef3 ⊢
    split at ef3
    ·rename_i hk0;rw [if_pos hk0,My (by rw [hrf] at hki ⊢;omega)];exact ef3
    ·cases ef3
  ·simp only [b3];exact hret e
 refine bC.bind' (bC.iteb (fun hr0=>.some (hout _ WK.nd fun e hne=>?_)) (fun hr0=>?_))
 ·exact absurd (by rw [beq_iff_eq] at hr0;rw [←b3];exact hr0) hne
 ·refine (Kc (b:=b) (by omega)).bind fun rb hrb=>.some (hout _ WK.nd fun e hne=>?_);obtain ⟨k1,k2,_⟩:=fH (k:=135) (by decide) e;obtain ⟨y,hy1,hy2⟩:=hrb k2;exact (hT k1).2.1 y hy1 hy2
end
def rQ (seen:List Int):Nat:=seen.countP (· == 0)
theorem Me {l:List Int} {i:Nat} {v:Int} (h:l[i]? = some 0) (hv:v ≠ 0):rQ (l.set i v)+1=rQ l:=by
 unfold rQ
 induction l generalizing i with
 | nil=>cases h
 | cons x l ih=>
   cases i with
   | zero=>
     simp only [Pu,Option.some.injEq] at h;subst h;rw [En,Pi,Pi];simp [hv]
   | succ i=>
     simp only [Lh] at h;have:=ih h;rw [FI,Pi,Pi];omega
theorem KO {l:List Int} {i:Nat} {v w:Int} (h:l[i]? = some w) (hv:v ≠ 0) (hw:w ≠ 0):rQ (l.set i v)=rQ l:=by
 unfold rQ
 induction l generalizing i with
 | nil=>cases h
 | cons x l ih=>
   cases i with
   | zero=>
     simp only [Pu,Option.some.injEq] at h;subst h;rw [En,Pi,Pi];simp [hv,hw]
   | succ i=>
     simp only [Lh] at h;have:=ih h;rw [FI,Pi,Pi];omega
def CV (seen:List Int) (k:Int):Prop:=∃v,bY seen k=some v/\v ≠ 0
def OU (c:aD) (to:Int) (seen:List Int) (k:Int):Prop:=∀l,bY c.cJ k=some l->∀j ∈ l,j ≠ to/\CV seen j
theorem CV.set {seen:List Int} {k j v:Int} (hv:v ≠ 0) (h:CV seen k) (hj:j.toNat<seen.length):CV (seen.set j.toNat v) k:=by
 obtain ⟨x,h1,h2⟩:=h;unfold bY at h1
 split at h1
 ·rename_i h0
  by_cases e:j.toNat=k.toNat
  ·exact ⟨v,by unfold bY;rw [if_pos h0,←e,Li hj],hv⟩
  ·exact ⟨x,by unfold bY;rw [if_pos h0,My e];exact h1,h2⟩
 ·cases h1
theorem CV.unset {seen:List Int} {k j v:Int} (h:CV (seen.set j.toNat v) k) (hj:0<=j):CV seen k ∨ k=j:=by
 obtain ⟨x,h1,h2⟩:=h;unfold bY at h1
 split at h1
 ·rename_i h0
  by_cases e:j.toNat=k.toNat
  ·right;omega
  ·rw [My e] at h1;exact .inl ⟨x,by unfold bY;rw [if_pos h0];exact h1,h2⟩
 ·cases h1
theorem OU.mono {c:aD} {to:Int} {s s':List Int} {k:Int} (h:OU c to s k) (hs:∀j,CV s j->CV s' j):OU c to s' k:=fun l e j hj=>⟨(h l e j hj).1,hs _ (h l e j hj).2⟩
structure Ra (c:aD) (to:Int) (B:Nat) (X:Int) (seen seen':List Int):Prop where
 le:rQ seen'<=rQ seen
 lo:∀v ∈ seen',0<=v/\v+((rQ seen'*B:Nat):Int)<=X
 up:∀k,CV seen k->CV seen' k
 sh:∀k,CV seen' k->CV seen k ∨ OU c to seen' k
section
variable {N B:Nat} {c:aD} {to:Int}
theorem reach_l {rec_:Int->List Int->Option (Bool × List Int)} {n:Nat} (hB:∀l ∈ c.cJ,l.length<=B)
  (hrec:∀(k X:Int) (seen:List Int),0<=k->k<N->rQ seen<n->seen.length=N->(∀v ∈ seen,0<=v/\v+(((rQ seen+1)*B:Nat):Int)<=X)->X<=4611686018427387904->bC (rec_ k seen) fun r=>r.2.length=N/\(r.1=false->Ra c to B X seen r.2/\OU c to r.2 k)) :
  ∀(ks seen:List Int) (X:Int),(∀k ∈ ks,0<=k/\k<N)->rQ seen<n+1->seen.length=N->(∀v ∈ seen,0<=v/\v+((rQ seen*B:Nat):Int)+ks.length<=X)->X<=4611686018427387904->bC (tY rec_ to ks seen) fun r=>r.2.length=N/\(r.1=false->Ra c to B X seen r.2/\∀j ∈ ks,j ≠ to/\CV r.2 j):=by
 intro ks
 induction ks with
 | nil=>
   intro seen X h1 h2 h3 h4 h5;exact .some ⟨h3,fun _=>⟨⟨sU _,fun v hv=>by have:=h4 v hv;simp only [lD] at this ⊢;omega,fun k h=>h,fun k h=>.inl h⟩,fun j hj=>nomatch hj⟩⟩
 | cons k ks ih=>
   intro seen X h1 h2 h3 h4 h5;unfold tY;obtain ⟨k0,k1⟩:=h1 k (xec);refine bC.iteb (fun _=>.some ⟨h3,fun h=>Bool.noConfusion h⟩) fun hkt=>?_;have hkt:k ≠ to:=by simpa using hkt
   obtain ⟨s,e,e2,hsm⟩:=mR (l:=seen) (i:=k) k0 (by omega);have hs:=h4 s hsm;simp only [jK] at hs;rw [e,pI,fR (by omega) (by omega)];have hkl:k.toNat<seen.length:=by omega
   have hset:∀v ∈ seen.set k.toNat (s+1),0<=v/\v+((rQ seen*B:Nat):Int)+ks.length<=X:=fun v hv=>by
    rcases HN hv with hv | rfl
    ·have:=h4 v hv;simp only [jK] at this;omega
    ·omega
   refine bC.iteb (fun hs1=>?_) (fun hs1=>?_)
   ·have hs0:s=0:=by have:=eq_of_beq hs1;omega
    subst hs0;have hun:=Me (v:=0+1) e2 (by decide);refine (hrec k (X - ks.length) _ k0 k1 (by omega) (by rw [HL];exact h3) (fun v hv=>?_) (by omega)).bind fun r hr=>?_
    ·have:=hset v hv;rw [hun];omega
    ·refine bC.iteb (fun hrt=>.some ⟨hr.1,fun h=>Bool.noConfusion h⟩) fun hrt=>?_;obtain ⟨hR,hS⟩:=hr.2 hrt;have hle:=hR.le;refine (ih r.2 X (fun j hj=>h1 j (Jx _ hj)) (by omega) hr.1 (fun v hv=>?_) h5).mono fun q hq=>⟨hq.1,fun hqf=>?_⟩
     ·have:=hR.lo v hv;omega
     ·obtain ⟨hQ,hJ⟩:=hq.2 hqf;have hsk:CV (seen.set k.toNat (0+1)) k:=⟨0+1,by unfold bY;rw [if_pos k0,Li hkl],by decide⟩;have hqle:=hQ.le;refine ⟨⟨by omega,hQ.lo,fun j hj=>hQ.up j (hR.up j (hj.set (by decide) hkl)),fun j hj=>?_⟩,fun j hj=>?_⟩
      ·rcases hQ.sh j hj with h | h
       ·rcases hR.sh j h with h | h
        ·rcases h.unset k0 with h | rfl
         ·exact .inl h
         ·exact .inr (hS.mono hQ.up)
        ·exact .inr (h.mono hQ.up)
       ·exact .inr h
      ·rcases vI.1 hj with rfl | hj
       ·exact ⟨hkt,hQ.up _ (hR.up _ hsk)⟩
       ·exact hJ j hj
   ·have hs0:s ≠ 0:=by rintro rfl;simp at hs1
    have hun:=KO (v:=s+1) e2 (by omega) hs0;refine (ih _ X (fun j hj=>h1 j (Jx _ hj)) (by rw [hun];omega) (by rw [HL];exact h3) (fun v hv=>by rw [hun];exact hset v hv) h5).mono fun q hq=>⟨hq.1,fun hqf=>?_⟩;obtain ⟨hQ,hJ⟩:=hq.2 hqf;have hsk:CV (seen.set k.toNat (s+1)) k:=⟨s+1,by unfold bY;rw [if_pos k0,Li hkl],by omega⟩;have hqle:=hQ.le;rw [hun] at hqle;refine ⟨⟨hqle,hQ.lo,fun j hj=>hQ.up j (hj.set (by omega) hkl),fun j hj=>?_⟩,fun j hj=>?_⟩
    ·rcases hQ.sh j hj with h | h
     ·rcases h.unset k0 with h | rfl
      ·exact .inl h
      ·exact .inl ⟨s,e,hs0⟩
     ·exact .inr h
    ·rcases vI.1 hj with rfl | hj
     ·exact ⟨hkt,hQ.up _ hsk⟩
     ·exact hJ j hj
theorem Od (hN:c.cJ.length=N) (hcl:∀l ∈ c.cJ,l.length<=B/\∀k ∈ l,0<=k/\k<N) (hB:B<=1073741824):∀(n:Nat) (k X:Int) (seen:List Int),0<=k->k<N->rQ seen<n->seen.length=N->(∀v ∈ seen,0<=v/\v+(((rQ seen+1)*B:Nat):Int)<=X)->X<=4611686018427387904->bC (jD n c k to seen) fun r=>r.2.length=N/\(r.1=false->Ra c to B X seen r.2/\OU c to r.2 k):=by
 intro n
 induction n with
 | zero=>intro k X seen _ _ h;omega
 | succ n ih=>
   intro k X seen k0 k1 h1 h2 h3 h4;unfold jD;obtain ⟨l,e,_,hm⟩:=mR (l:=c.cJ) k0 (by omega);obtain ⟨hl1,hl2⟩:=hcl l hm;rw [e,pI];refine bC.need (by omega) ?_;refine (reach_l (fun l hl=>(hcl l hl).1) ih l seen X hl2 h1 h2 (fun v hv=>?_) h4).mono fun r hr=>⟨hr.1,fun hf=>?_⟩
   ·have:=h3 v hv;rw [HO] at this;omega
   ·obtain ⟨hR,hJ⟩:=hr.2 hf;refine ⟨hR,fun l2 e2 j hj=>?_⟩;rw [e] at e2;cases e2
    exact hJ j hj
inductive Rs (c:aD):Int->Int->Prop
 | one {i k l}:bY c.cJ i=some l->k ∈ l->Rs c i k
 | more {i j k l}:Rs c i j->bY c.cJ j=some l->k ∈ l->Rs c i k
theorem Rs.cons {i j k:Int} {l:List Int} (h:Rs c j k) (e:bY c.cJ i=some l) (hj:j ∈ l):Rs c i k:=by
 induction h with
 | one e2 h2=>exact .more (.one e hj) e2 h2
 | more _ e2 h2 ih=>exact .more ih e2 h2
theorem FL (N:Nat):rQ (List.replicate N 0)=N:=by
 unfold rQ;rw [List.countP_eq_length.2 (fun v hv=>by rw [(Pe.1 hv).2];rfl),xdm]
theorem Qe (hN:c.cJ.length=N) (hN2:N<=16384) (hcl:∀l ∈ c.cJ,l.length<=B/\∀k ∈ l,0<=k/\k<N) (hB:B<=1073741824) {n:Nat} (hn:16384<n) {i:Int} (h0:0<=i) (h1:i<N):bC (jD n c i i (List.replicate N 0)) fun r=>r.1=false->¬ Rs c i i:=by
 have hmul:(N+1)*B<=16385*1073741824:=Nat.mul_le_mul (by omega) hB;refine (Od (to:=i) hN hcl hB n i 4611686018427387904 _ h0 h1 (by rw [FL];omega) xdm (fun v hv=>?_) (Pg _)).mono fun r hr hf hw=>?_
 ·rw [(Pe.1 hv).2,FL];omega
 ·obtain ⟨hR,hS⟩:=hr.2 hf
  have hz:∀k,¬ CV (List.replicate N 0) k:=fun k ⟨v,e,hv⟩=>by
   unfold bY at e
   split at e
   ·exact hv (Pe.1 (AT e)).2
   ·cases e
  have key:∀k,Rs c i k->CV r.2 k/\k ≠ i:=by
   intro k hk
   induction hk with
   | one e hk=>exact ⟨(hS _ e _ hk).2,(hS _ e _ hk).1⟩
   | more _ e hk ih=>
     rcases hR.sh _ ih.1 with h | h
     ·exact absurd h (hz _)
     ·exact ⟨(h _ e _ hk).2,(h _ e _ hk).1⟩
  exact (key i hw).2 rfl
theorem OE {α:Type} {p q:α->Bool} {l:List α} (h:∀x ∈ l,p x=true->q x=true) {y:α} (hy:y ∈ l) (hq:q y=true) (hp:p y=false):l.countP p<l.countP q:=by
 induction l with
 | nil=>cases hy
 | cons x l ih=>
   rw [Pi,Pi];have hle:l.countP p<=l.countP q:=List.countP_mono_left fun x hx=>h x (Jx _ hx)
   rcases vI.1 hy with rfl | hy
   ·rw [hq,hp];simp;omega
   ·have:=ih (fun x hx=>h x (Jx _ hx)) hy;have hx:=h x xec;cases h1:p x <;> cases h2:q x <;> simp_all <;> omega
theorem ranks (hN:c.cJ.length=N) (hcl:∀l ∈ c.cJ,∀k ∈ l,0<=k/\k<N) (hac:∀i:Int,0<=i->i<N->¬ Rs c i i):∃rk:Int->Nat,(∀i,rk i<=N)/\∀i l,bY c.cJ i=some l->∀k ∈ l,rk k<rk i:=by
 classical
 refine ⟨fun i=>(List.range N).countP fun k:Nat=>decide (Rs c i (k:Int)),fun i=>JE xes (by simp),fun i l e k hk=>?_⟩
 have hlm:l ∈ c.cJ:=by
  unfold bY at e
  split at e
  ·exact AT e
  ·cases e
 obtain ⟨k0,k1⟩:=hcl l hlm k hk;have hkn:((k.toNat:Nat):Int)=k:=by omega
 refine OE (y:=k.toNat) (fun x _ hx=>?_) (JB.2 (by omega)) ?_ ?_
 ·exact Fh ((DW hx).cons e hk)
 ·rw [hkn];exact Fh (.one e hk)
 ·rw [hkn];exact xdn (hac k k0 k1)
end
structure PO (c:aD) (rk:Int->Nat):Prop where
 co:CO c.p_.bG.length 1073741824 c
 n64:c.p_.bG.length<=64
 ex:∀f ∈ c.p_.bG,f.iC=true->Ai (f.bB.take f.bD.toNat) 0<=4
 tf:∀(j:Nat) f,c.p_.bG[j]? = some f->TF (JU c j) f
 sz:∀f ∈ c.p_.bG,Aa f.eH<=3001
 rkN:∀i,rk i<=64
 rk:∀i l,bY c.cJ i=some l->∀k ∈ l,rk k<rk i
section
variable {N B n:Nat} {c:aD} {w:aI}
theorem CO.more {B':Nat} (h:CO N B c) (hb:B<=B'):CO N B' c:=⟨h.nf,h.nN,h.vl,h.nc,fun l hl=>⟨JE (h.cl l hl).1 hb,(h.cl l hl).2⟩,h.ki⟩
theorem LE {a:Int}:bC (vD a) fun r=>r=0 ∨ r=2 ∨ r=3:=by
 unfold vD
 repeat' split
 ·exact .some (.inr (.inl rfl))
 ·exact .some (.inr (.inr rfl))
 ·exact .some (.inl rfl)
structure D0 (f:aY):Prop where
 v:f.bB=[]
 p:f.bD=0
 b:f.eH=[]
 r:f.cX=0 ∨ f.cX=2 ∨ f.cX=3
theorem Qr {x:Nd} (hl:x.aP.length<=16384) (hn:16384<n):∀(k v:Nat) (c:aD) (w:aI),x.aP.length<v+k->v<=x.aP.length->c.p_.bG.length=v->c.f_=-1->(∀f ∈ c.p_.bG,D0 f)->bC (iQ n x k (v:Int) c w) fun r=>r.1.p_.bG.length=x.aP.length/\(∀f ∈ r.1.p_.bG,D0 f)/\WK w r.2:=by
 intro k
 induction k with
 | zero=>intro v c w h1 h2;omega
 | succ k ih=>
   intro v c w h1 h2 h3 h4 h5;unfold iQ
   by_cases hv:v<x.aP.length
   ·rw [if_pos (Fh (by omega))];obtain ⟨y,e,_,hym⟩:=mR (l:=x.aP) (i:=(v:Int)) (by omega) (by omega);rw [e];simp only [pI];refine (KY (by omega) hn).bind fun q hq=>?_;refine bC.bind (P:=fun w'=>WK w w') ?_ fun w' hw'=>?_
    ·refine bC.iteb (fun _=>?_) (fun _=>?_)
     ·exact (FD (by omega)).bind fun a _=>by rw [nM];exact .some WK.nd
     ·rw [nM];exact .some WK.nd
    ·refine LE.bind fun rr hrr=>bC.need (by omega) (bC.need (by omega) ?_);rw [fR (by omega) (by omega),show ((v:Int)+1)=((v+1:Nat):Int) by omega];refine (ih (v+1) { c with p_:=⟨c.p_.bG++[⟨y.cP,(vH .u32 y.mE (1:Int)) != (0:Int),rr,0,[],[]⟩]⟩ } w' (by omega) (by omega) (by simp only [nL,uP];omega) h4 fun f hf=>?_).mono fun r hr=>⟨hr.1,hr.2.1,hw'.trans hr.2.2⟩
     rcases Ah.1 hf with hf | hf
     ·exact h5 f hf
     ·obtain rfl:=AU.1 hf;exact ⟨rfl,rfl,rfl,hrr⟩
   ·rw [if_neg (by rw [FV];omega)];exact .some ⟨by simp only;omega,h5,.refl w⟩
theorem Oi {x:Nd} (hl:x.aP.length<=16384) (hn:16384<n):bC (mZ n aD.Z w x) fun r=>CO x.aP.length 0 r.1/\(∀f ∈ r.1.p_.bG,D0 f)/\WK w r.2/\(r.2.e_=0->x.aP.length<=64):=by
 unfold mZ;rw [nM,pI];refine (Qr hl hn n 0 aD.Z _ (by omega) (by omega) rfl rfl fun f hf=>nomatch hf).bind fun r hr=>bC.need (by omega) (.some ?_);obtain ⟨h1,h2,h3⟩:=hr;refine ⟨⟨h1,hl,fun f hf=>?_,xdm,fun l hl=>?_,fun f hf=>?_⟩,h2,(WK.nd).trans h3,fun e=>?_⟩
 ·rw [(h2 f hf).v,(h2 f hf).p];exact ⟨by decide,by decide,by decide⟩
 ·rw [(Pe.1 hl).2];exact ⟨sU _,fun k hk=>nomatch hk⟩
 ·rw [(h2 f hf).v];exact ⟨fun v hv=>(by cases hv),(h2 f hf).r⟩
 ·have e2:(Jz w (decide ((x.aP.length:Int)<=64)) 136 x.fQ).e_=0:=by rw [←h3 e];exact e
  have:=DW (fH (k:=136) (by decide) e2).2.1;omega
def D1 (f:aY):Prop:=f.bD=f.bB.length/\(f.iC=true->Ai f.bB 0<=4)
theorem DM {α:Type} {l:List α} {i:Nat} {x:α} (h:bY l (i:Int)=some x):l[i]? = some x:=by
 unfold bY at h;rw [if_pos (by omega),AP] at h;exact h
theorem Oo (hn:20300<n):∀(l:List Nd) (i:Nat) (c:aD) (w:aI),CO N B c->i+l.length=N->(∀x ∈ l,WF x/\x.aP.length<=20000)->(∀(j:Nat) f,i<=j->c.p_.bG[j]? = some f->f.eH=[])->(w.e_=0->∀(j:Nat) f,j<i->c.p_.bG[j]? = some f->D1 f)->bC (rH (fun i f c w=>jN n c w i f) l i c w) fun r=>CO N B r.1/\WK w r.2/\r.1.cJ=c.cJ/\(r.2.e_=0->∀(j:Nat) f,r.1.p_.bG[j]? = some f->D1 f):=by
 intro l
 induction l with
 | nil=>
   intro i c w h h1 h2 h3 h4;refine .some ⟨h,.refl w,rfl,fun e j f hf=>h4 e j f ?_ hf⟩;have hj:j<c.p_.bG.length:=(qS.1 hf).1;have:=h.nf;simp only [lD] at h1;omega
 | cons x l ih=>
   intro i c w h h1 h2 h3 h4;simp only [jK] at h1;unfold rH
   by_cases he:(w.e_ == (0:Int))=true
   ·rw [if_pos he];have he0:w.e_=0:=by simpa using he
    obtain ⟨f,ef,ef2,_⟩:=mR (l:=c.p_.bG) (i:=(i:Int)) (by omega) (by rw [h.nf];omega);obtain ⟨hx1,hx2⟩:=h2 x xec;refine (OH (w:=w) h (i:=(i:Int)) (by omega) (by omega) hn ef (h3 i f (sU _) (DM ef)) hx1 hx2).bind fun r hr=>?_;obtain ⟨k1,k2,k3,k4,f',k5,k6,k7,k8,k9,k10⟩:=hr;rw [AP] at k4;refine (ih (i+1) r.1 r.2 k1 (by omega) (fun y hy=>h2 y (Jx _ hy)) (fun j g hj hg=>?_) (fun e j g hj hg=>?_)).mono fun q hq=>⟨hq.1,k2.trans hq.2.1,hq.2.2.1.trans k3,hq.2.2.2⟩
    ·exact h3 j g (by omega) (by rw [←k4 j (by omega)];exact hg)
    ·by_cases hji:j=i
     ·subst hji;rw [DM k5] at hg;cases hg
      exact ⟨k9,k10 e⟩
     ·exact h4 he0 j g (by omega) (by rw [←k4 j hji];exact hg)
   ·rw [if_neg he];refine (ih (i+1) c w h (by omega) (fun y hy=>h2 y (Jx _ hy)) (fun j g hj hg=>h3 j g (by omega) hg) (fun e=>absurd e (by simpa using he))).mono fun q hq=>hq
theorem NK {c c':aD} {i j:Nat} (hv:∀f ∈ c.p_.bG,f.bD<=f.bB.length) (h1:∀k:Nat,k ≠ i->c'.p_.bG[k]? = c.p_.bG[k]?) (h2:c'.cJ[j]? = c.cJ[j]?) {f f':aY} (e:c.p_.bG[i]? = some f) (e':c'.p_.bG[i]? = some f') (hr:f'.cX=f.cX) (hp:f'.bD=f.bD) (hx:f.bB <+: f'.bB) {k r:Int} {ps:List aZ} (h:JU c j k r ps):JU c' j k r ps:=by
 obtain ⟨⟨l,el,hk⟩,g,eg,rfl,rfl⟩:=h;refine ⟨⟨l,by rw [h2];exact el,hk⟩,?_⟩;unfold bY at eg
 split at eg
 ·rename_i h0
  by_cases hki:k.toNat=i
  ·rw [hki,e] at eg;cases eg
   have:=hv f (AT e);refine ⟨f',by unfold bY;rw [if_pos h0,hki];exact e',hr.symm,?_⟩;rw [hp,Gy hx (by omega)]
  ·exact ⟨g,by unfold bY;rw [if_pos h0,h1 _ hki];exact eg,rfl,rfl⟩
 ·cases eg
theorem Mm (hn:90000<=n):∀(l:List Nd) (i B:Nat) (c:aD) (w:aI),CO N B c->i+l.length=N->(∀x ∈ l,WF x/\sz x<=3001)->(B:Int)+tI l<=1073741824->(w.e_=0->∀(j:Nat) f,c.p_.bG[j]? = some f->(f.iC=true->Ai (f.bB.take f.bD.toNat) 0<=4)/\(i<=j->f.bD=f.bB.length)/\(j<i->TF (JU c j) f/\Aa f.eH<=3001))->bC (rH (fun i f c w=>jO n c w i f) l i c w) fun r=>(∃B':Nat,(B':Int)<=B+tI l/\CO N B' r.1)/\WK w r.2/\(r.2.e_=0->∀(j:Nat) f,r.1.p_.bG[j]? = some f->(f.iC=true->Ai (f.bB.take f.bD.toNat) 0<=4)/\TF (JU r.1 j) f/\Aa f.eH<=3001):=by
 intro l
 induction l with
 | nil=>
   intro i B c w h h1 h2 h3 h4;refine .some ⟨⟨B,by rw [mM];omega,h⟩,.refl w,fun e j f hf=>⟨(h4 e j f hf).1,(h4 e j f hf).2.2 ?_⟩⟩;have hj:j<c.p_.bG.length:=(qS.1 hf).1;have:=h.nf;simp only [lD] at h1;omega
 | cons x l ih=>
   intro i B c w h h1 h2 h3 h4;simp only [jK] at h1;rw [sV] at h3 ⊢;have hp:=pJ x;have hg:=nV l;unfold rH
   by_cases he:(w.e_ == (0:Int))=true
   ·rw [if_pos he];have he0:w.e_=0:=by simpa using he
    obtain ⟨f,ef,ef2,hfm⟩:=mR (l:=c.p_.bG) (i:=(i:Int)) (by omega) (by rw [h.nf];omega);obtain ⟨hx1,hx2⟩:=h2 x xec;obtain ⟨q1,q2,_⟩:=h4 he0 i f (DM ef);refine (OI (w:=w) h (i:=(i:Int)) (by omega) (by omega) ef (q2 (sU _)) hx1 (by omega) (by omega) hn).bind fun r hr=>?_;obtain ⟨⟨B',hb',k1⟩,k2,k4,f',k5,k6,k7,k8,k9,k10,k11⟩:=hr;rw [AP] at k4 k11;refine (ih (i+1) B' r.1 r.2 k1 (by omega) (fun y hy=>h2 y (Jx _ hy)) (by omega) (fun e j g hg=>?_)).mono fun q hq=>?_
    ·by_cases hji:j=i
     ·subst hji;rw [DM k5] at hg;cases hg
      refine ⟨fun hx=>?_,fun h=>by omega,fun _=>⟨(k11 e).1,by have:=(k11 e).2;omega⟩⟩;rw [k9,Gy k10 (by have:=(h.vl f hfm).2;omega)];exact q1 (by rw [←k7];exact hx)
     ·obtain ⟨a1,a2,a3⟩:=h4 he0 j g (by rw [←(k4 j hji).1];exact hg);refine ⟨a1,fun h=>a2 (by omega),fun hlt=>?_⟩;obtain ⟨hT,hZ⟩:=a3 (by omega);obtain ⟨sc',hTB⟩:=hT.body;exact ⟨⟨⟨sc',hTB.mono (fun k r' ps hs=>NK (fun f hf=>(h.vl f hf).2.2) (fun k hk=>(k4 k hk).1) (k4 j hji).2 (DM ef) (DM k5) k8 k9 k10 hs) (Pd _)⟩,hT.ret⟩,hZ⟩
    ·obtain ⟨⟨B2,hb2,h5⟩,h6,h7⟩:=hq;exact ⟨⟨B2,by omega,h5⟩,k2.trans h6,h7⟩
   ·rw [if_neg he];refine (ih (i+1) B c w h (by omega) (fun y hy=>h2 y (Jx _ hy)) (by omega) (fun e=>absurd e (by simpa using he))).mono fun q hq=>?_;obtain ⟨⟨B2,hb2,h5⟩,h6,h7⟩:=hq;exact ⟨⟨B2,by omega,h5⟩,h6,h7⟩
theorem cyc_tot (h:CO N B c) (hB:B<=1073741824) (hn:16384<n):∀(l:List Nd) (i:Nat) (w:aI),i+l.length=N->bC (vZ n N c l i w) fun w'=>WK w w'/\(w'.e_=0->∀j:Int,i<=j->j<N->¬ Rs c j j):=by
 intro l
 induction l with
 | nil=>intro i w h1;exact .some ⟨.refl w,fun e j h2 h3=>by simp only [lD] at h1;omega⟩
 | cons x l ih=>
   intro i w h1;simp only [jK] at h1;unfold vZ
   by_cases he:(w.e_ == (0:Int))=true
   ·rw [if_pos he];refine (Qe h.nc h.nN h.cl hB hn (i:=(i:Int)) (by omega) (by omega)).bind fun r hr=>?_;rw [nM,pI];refine (ih (i+1) _ (by omega)).mono fun q hq=>⟨(WK.nd).trans hq.1,fun e j h2 h3=>?_⟩
    by_cases hji:j=i
    ·subst hji;have e2:(Jz w (!r.1) 134 x.fQ).e_=0:=by rw [←hq.1 e];exact e
     exact hr (by simpa using (fH (k:=134) (by decide) e2).2.1)
    ·exact hq.2 e j (by omega) h3
   ·rw [if_neg he];exact (ih (i+1) w (by omega)).mono fun q hq=>⟨hq.1,fun e=>absurd (hq.1 e ▸ e) (by simpa using he)⟩
theorem Pb {s:cR} (hs:s.length<=3000) (hn:90000<=n):bC (uJ n s) fun r=>r.2.1=0->∃c rk,c.p_=r.1/\PO c rk:=by
 unfold uJ;refine (Ki (n:=n) (s:=s) (by omega)).bind fun p hp=>?_;refine bC.iteb (fun he=>.some fun e=>absurd e (by simpa using he)) (fun he=>?_);obtain ⟨hw,hz⟩:=hp (by simpa using he);have hg:=nV p.1.aP;refine (Oi (w:=⟨0,0⟩) (x:=p.1) (by omega) (by omega)).bind fun a ha=>bC.need (by omega) ?_;obtain ⟨a1,a2,a3,a4⟩:=ha
 have hsz:∀x ∈ p.1.aP,sz x<=3001/\x.aP.length<=20000:=fun x hx=>by
  have h1:=Gz hx;have h2:=Dd x;have h3:=nV x.aP;omega
 refine bC.bind (P:=fun b=>(∃B':Nat,(B':Int)<=3001/\CO p.1.aP.length B' b.1)/\WK a.2 b.2/\(b.2.e_=0->∀(j:Nat) f,b.1.p_.bG[j]? = some f->(f.iC=true->Ai (f.bB.take f.bD.toNat) 0<=4)/\TF (JU b.1 j) f/\Aa f.eH<=3001)) ?_ fun b hb=>?_
 ·unfold uI;refine (Oo (n:=n) (by omega) p.1.aP 0 a.1 a.2 a1 (by omega) (fun x hx=>⟨hw x hx,(hsz x hx).2⟩) (fun j f _ hf=>(a2 f (AT hf)).b) (fun _ j f h=>by omega)).bind fun q hq=>?_;obtain ⟨q1,q2,q3,q4⟩:=hq;unfold uI;refine (Mm (n:=n) hn p.1.aP 0 0 q.1 q.2 q1 (by omega) (fun x hx=>⟨hw x hx,(hsz x hx).1⟩) (by omega) (fun e j f hf=>?_)).bind fun r hr=>?_
  ·obtain ⟨d1,d2⟩:=q4 e j f hf;refine ⟨fun hx=>?_,fun _=>d1,fun h=>by omega⟩;rw [d1,AP,xem];exact d2 hx
  ·obtain ⟨⟨B2,hb2,h5⟩,h6,h7⟩:=hr;unfold uI;exact .some ⟨⟨B2,by omega,h5⟩,q2.trans h6,h7⟩
 ·obtain ⟨⟨B',hb',b1⟩,b2,b3⟩:=hb;refine (cyc_tot (n:=n) b1 (by omega) (by omega) p.1.aP 0 b.2 (by omega)).bind fun w hw2=>?_;refine bC.iteb (fun he2=>.some fun e=>absurd e (by simpa using he2)) (fun he2=>.some fun _=>?_);have he2:w.e_=0:=by simpa using he2
  have eb:b.2.e_=0:=by rw [←hw2.1 he2];exact he2
  have ea:a.2.e_=0:=by rw [←b2 eb];exact eb
  have hN:=b1.nf;obtain ⟨rk,r1,r2⟩:=ranks b1.nc (fun l hl=>(b1.cl l hl).2) (fun i h0 h1=>hw2.2 he2 i h0 h1);refine ⟨b.1,rk,rfl,⟨by rw [hN];exact b1.more (by omega),by rw [hN];exact a4 ea,fun f hf hx=>?_,fun j f hf=>(b3 eb j f hf).2.1,fun f hf=>?_,fun i=>JE (r1 i) (a4 ea),r2⟩⟩
  ·obtain ⟨j,hj⟩:=List.getElem?_of_mem hf;exact (b3 eb j f hj).1 hx
  ·obtain ⟨j,hj⟩:=List.getElem?_of_mem hf;exact (b3 eb j f hj).2.2
end
end Go.Proofs.YtncembphlfbgoaaGreatDoor.Abs
