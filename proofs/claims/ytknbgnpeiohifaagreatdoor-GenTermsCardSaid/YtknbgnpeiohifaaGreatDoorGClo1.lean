import Derived.Test.YtknbgnpeiohifaaGreatDoorGRwg
namespace Go.Proofs.YtknbgnpeiohifaaGreatDoor.Abs
open Go.RowKit
set_option linter.all false
def Pt (o:cB):Prop:=o=[47] ∨ o=[37] ∨ o=[60,60] ∨ o=[62,62] ∨ o=[60,60,60] ∨ o=[42] ∨ o=[61,61] ∨ o=[60] ∨ o=[124] ∨ o=[94] ∨ o=[38] ∨ o=[43] ∨ o=[45]
inductive Kl (vs:List aK) (sc:List Int):aB->Prop
 | num {n a}:0<=n->n<=4294967295->Kl vs sc ⟨[110,117,109],1,n,-1,[],a⟩
 | var {v u a}:v ∈ sc->aZ vs v=some u->u.bJ=1->Kl vs sc ⟨[118,97,114],1,0,v,[],a⟩
 | un {o x a}:(o=[110,111,116] ∨ o=[110,101,103])->Kl vs sc x->Kl vs sc ⟨o,1,0,-1,[x],a⟩
 | bin {o x y a}:Pt o->Kl vs sc x->Kl vs sc y->Kl vs sc ⟨o,1,0,-1,[x,y],a⟩
theorem MB {a b:Int} (h:uO a b=1):a=1/\b=1:=by
 unfold uO at h
 split at h
 ·omega
 ·split at h <;> omega
theorem Qn.pub {o:cB} {x y:aB} (h:Qn o x y 1):Pt o/\x.bR=1/\y.bR=1:=by
 unfold Pt
 rcases h with ⟨h1,h2,h3,_⟩ | ⟨h1,h2,_,h3⟩ | ⟨h1,h2,_,_⟩ | ⟨h1,_,h2⟩ | ⟨h1,h2,_⟩
 ·exact ⟨by rcases h1 with h | h <;> simp [h],h2,h3⟩
 ·exact ⟨by rcases h1 with h | h | h <;> simp [h],h3.symm,h2⟩
 ·exact ⟨by simp [h1],MB h2.symm⟩
 ·split at h2
  ·omega
  ·exact ⟨by rcases h1 with h | h <;> simp [h],MB h2.symm⟩
 ·exact ⟨by rcases h1 with h | h | h | h | h <;> simp [h],MB h2.symm⟩
theorem TX.pub {vs:List aK} {sc:List Int} {x:aB} (h:TX vs sc x):x.bR=1->Kl vs sc x:=by
 induction h with
 | num h1 h2=>exact λ_=>.num h1 h2
 | @var v u a h1 h2 h3=>
   intro ht;have ht:u.bJ=(1:Int):=ht;rw [ht];exact .var h1 h2 ht
 | index=>exact λht=>cM (show (2:Int)=1 from ht) zc
 | @un o x a h1 _ ih=>
   intro ht;have ht:x.bR=(1:Int):=ht;rw [ht];exact .un h1 (ih ht)
 | @bin o x y t a _ _ hb ih1 ih2=>
   intro ht;have ht:t=(1:Int):=ht;subst ht;obtain ⟨b1,b2,b3⟩:=hb.pub;exact .bin b1 (ih1 b2) (ih2 b3)
 | @sel c x y a _ _ _ _ _ _ _ _=>
   intro ht;have ht:Iw (uO x.bR y.bR)=(1:Int):=ht;unfold Iw at ht
   split at ht <;> omega
 | long=>exact λht=>cM (show (3:Int)=1 from ht) zc
 | wide=>exact λht=>cM (show (3:Int)=1 from ht) zc
 | half=>exact λht=>cM (show (2:Int)=1 from ht) zc
mutual
def tm:aF->Nat
 | ⟨_,_,l⟩=>1+wY l
def wY:List aF->Nat
 | []=>0
 | x::l=>tm x+wY l
end
mutual
def tv:aF->List Int
 | ⟨o,k,l⟩=>(if o=2 then [k] else [])++Pz l
def Pz:List aF->List Int
 | []=>[]
 | x::l=>tv x++Pz l
end
theorem Ze (x:aF):tm x=1+wY x.aN:=by cases x;rw [tm]
theorem tmL_app (a b:List aF):wY (a++b)=wY a+wY b:=by
 induction a with
 | nil=>rw [AE,wY,Lk]
 | cons x a ih=>rw [Ri,wY,wY,ih,xdr]
theorem Zd (x:aF):1<=tm x:=by rw [Ze];omega
theorem tmL_mem {l:List aF} {x:aF} (h:x ∈ l):tm x<=wY l:=by
 obtain ⟨a,b,rfl⟩:=List.append_of_mem h;rw [tmL_app,wY];omega
theorem VL (l:List aF):l.length<=wY l:=by
 induction l with
 | nil=>exact Ko _
 | cons x l ih=>have:=Zd x;rw [qB,wY];omega
theorem pU {α:Type} {l:List α} {i:Nat} {x:α} (h:l[i]? = some x):aZ l (i:Int)=some x:=by rw [TD];exact h
theorem zbr {f:aF->Option Int} {t:aF} (hf:∀x ∈ t.aN,f x=some (tm x:Int)) (hb:tm t<=1000000000) :
  ∀(k v:Nat) (acc:Int),t.aN.length<v+k->v<=t.aN.length->0<=acc->acc+wY (t.aN.drop v)<=1000000000->Cb f t k acc (v:Int)=some (acc+wY (t.aN.drop v)):=by
 have hlen:=VL t.aN;have hte:=Ze t;intro k
 induction k with
 | zero=>intro v acc h1 h2;omega
 | succ k ih=>
   intro v acc h1 h2 h3 h4;unfold Cb
   by_cases hv:v<t.aN.length
   ·have hd:t.aN.drop v=t.aN[v]::t.aN.drop (v+1):=Sq hv;have f1:=hf _ (NY hv);rw [hd,wY] at h4;rw [cX (Ah zb),pU (yN hv),iX,f1,iX,dB (n:=acc+_) zb zb,dB (n:=(v:Int)+1) zb zb,show ((v:Int)+1)=((v+1:Nat):Int) by omega,ih (v+1) _ zb zb zb zb,hd,wY]
    congr 1;omega
   ·rw [cE (by rw [Da];omega),WR zb,wY]
    congr 1;omega
theorem Uh:∀(n:Nat) (t:aF),tm t<n->tm t<=1000000000->xY n t=some (tm t:Int):=by
 intro n
 induction n with
 | zero=>intro t h;omega
 | succ n ih=>
   intro t h hb;show AH (xY n) n t=_;unfold AH;have hl:=VL t.aN;have he:=Ze t
   have:=zbr (f:=xY n) (t:=t) (λx hx=>by
    have h1:=tmL_mem hx;exact ih _ zb zb) hb n 0 1 zb zb zb (by rw [DH];omega)
   rw [show ((0:Nat):Int)=0 from rfl] at this;rw [this,iX,DH]
   congr 1;omega
inductive Sh (b:Bool):aF->Prop
 | z:b=true->Sh b ⟨0,0,[]⟩
 | con {v}:0<=v->v<=4294967295->Sh b ⟨1,v,[]⟩
 | var {k}:0<=k->k<=255->Sh b ⟨2,k,[]⟩
 | un {o x}:(o=3 ∨ o=4)->Sh b x->Sh b ⟨o,0,[x]⟩
 | bin {o x y}:5<=o->o<=17->Sh b x->Sh b y->Sh b ⟨o,0,[x,y]⟩
theorem Sh.mono {b b':Bool} (hb:b=true->b'=true) {t:aF} (h:Sh b t):Sh b' t:=by
 induction h with
 | z e=>exact .z (hb e)
 | con h1 h2=>exact .con h1 h2
 | var h1 h2=>exact .var h1 h2
 | un h _ ih=>exact .un h ih
 | bin h1 h2 _ _ i1 i2=>exact .bin h1 h2 i1 i2
theorem Sb {a b:Int}:0<=Ae .u32 a b:=by unfold Ae;rw [IntKind.wrap_u32];omega
theorem Ym {a b:Int}:0<=Ae .u64 a b:=by unfold Ae;rw [IntKind.wrap_u64];omega
def vK (x:Int):Prop:=0<=x/\x<=4294967295
theorem vK.wrap (x:Int):vK (IntKind.u32.wrap x):=by unfold vK;rw [IntKind.wrap_u32];omega
theorem vK.z:vK 0:=by unfold vK;omega
theorem vK.i:vK 1:=by unfold vK;omega
theorem vK.m:vK 4294967295:=by unfold vK;omega
theorem vK.div {x y:Int} (h:vK x) (k:0<=y):vK (x / y):=⟨Int.ediv_nonneg h.1 k,Int.le_trans (Int.ediv_le_self _ h.1) h.2⟩
theorem vK.shr {x:Int} (h:vK x) (y:Int):vK (LB .u32 x y):=by
 unfold LB;rw [xer _ (Int.pow_nonneg zc)];exact h.div (Int.pow_nonneg zc)
theorem BM (b:Bool):xX b=some (if b=true then 1 else 0):=by unfold xX;cases b <;> rfl
theorem vK.ite (b:Bool):vK (if b=true then 1 else 0):=by unfold vK;cases b <;> decide
theorem rot_tot (a b:Int):aW (mQ a b) vK:=by
 unfold mQ;refine aW.need Ym (aW.need ?_ (.some (.wrap _)));rw [IntKind.wrap_u64];omega
theorem XC (o:Int) {a b:Int} (ha:vK a):aW (wL o a b) vK:=by
 unfold wL;refine aW.iteb (λ_=>.some (.wrap _)) λ_=>aW.iteb (λ_=>.some (.wrap _)) λ_=>aW.iteb (λ_=>.some (.wrap _)) λ_=>aW.iteb (λ_=>.need Sb (.some (.wrap _))) λ_=>aW.iteb (λ_=>.need Sb (.some (ha.shr _))) λ_=>?_;exact (rot_tot _ _).bind λ_ h=>.some h
theorem vK.tmod {a b:Int} (h:vK a) (k:vK b):vK (a.tmod b):=by
 rw [xek h.1]
 by_cases hb:b=0
 ·rw [hb,Int.emod_zero];exact h
 ·have:=Int.emod_lt_of_pos a (show 0<b by have:=k.1;omega);exact ⟨Int.emod_nonneg _ hb,by have:=k.2;omega⟩
theorem VJ (o:Int) {a b:Int} (ha:vK a) (hb:vK b):aW (kO o a b) λr=>vK r.1:=by
 unfold kO;rw [BM,BM];refine aW.iteb (λ_=>.some (.ite _)) λ_=>aW.iteb (λ_=>.some (.ite _)) λ_=>aW.iteb (λ_=>.some (.wrap _)) λ_=>aW.iteb (λ_=>.some (.wrap _)) λ_=>aW.iteb (λ_=>.some (.wrap _)) λ_=>aW.iteb (λ_=>?_) λ_=>aW.iteb (λ_=>?_) λ_=>?_
 ·exact aW.iteb (λ_=>.some .z) λh=>aW.need (by simpa using h) (.some (.wrap _))
 ·exact aW.iteb (λ_=>.some .z) λh=>aW.need (by simpa using h) (.some (ha.tmod hb))
 ·exact (XC _ ha).bind λ_ h=>.some h
def Df (l:List Int):Prop:=∀x ∈ l,vK x
theorem Df.nil:Df []:=λ_ h=>nomatch h
theorem Df.idx {l:List Int} (h:Df l) {i:Int} {x:Int} (e:aZ l i=some x):vK x:=h _ (by obtain ⟨_,_,e⟩:=bX e;exact GB e)
theorem Df.tot {l:List Int} (h:Df l) {i:Int} (h1:0<=i) (h2:i<l.length):aW (aZ l i) vK:=by
 obtain ⟨x,e,_⟩:=aW.idx (l:=l) (Q:=λ_=>True) h1 h2 λ_ _=>trivial;exact ⟨x,e,h.idx e⟩
theorem ON {b:Bool} {t:aF} (h:Sh b t) (hl:t.aN=[]) {ws:List Int} (hw:Df ws):aW (Al t ws) vK:=by
 unfold Al;cases h with
 | con h1 h2=>exact aW.iteb (λ_=>.some ⟨h1,h2⟩) λh=>nomatch h
 | z e=>
   refine aW.iteb (λh=>cM h zc) λ_=>aW.iteb (λh=>?_) λ_=>.some .z;have h:=xG h;rw [dB zc zc] at h;exact (hw.tot (Uj _) h).bind λ_ h=>.some h
 | @var k h1 h2=>
   refine aW.iteb (λh=>nomatch h) λ_=>aW.iteb (λh=>?_) λ_=>.some .z;have h:=xG h;rw [dB (show -9223372036854775808<=k by omega) (show k<=9223372036854775807 by omega)] at h;exact (hw.tot h1 h).bind λ_ h=>.some h
 | un=>cases hl
 | bin=>cases hl
theorem Uf {b:Bool} {t:aF} (h:Sh b t) {ws:List Int} (hw:Df ws):∀n,tm t<n->aW (nJ n t ws) λr=>vK r.1:=by
 induction h with
 | z e=>
   intro n hn;obtain ⟨m,rfl⟩:∃m,n=m+1:=⟨n - 1,zb⟩;show aW (lU (nJ m) m _ ws) _;unfold lU;rw [cX (by rfl)];exact (ON (Sh.z (b:=b) e) rfl hw).bind λ_ h=>.some h
 | con=>
   intro n hn;obtain ⟨m,rfl⟩:∃m,n=m+1:=⟨n - 1,zb⟩;show aW (lU (nJ m) m _ ws) _;unfold lU;rw [cX (by rfl)];exact (ON (Sh.con (b:=b) ‹_› ‹_›) rfl hw).bind λ_ h=>.some h
 | var h1 h2=>
   intro n hn;obtain ⟨m,rfl⟩:∃m,n=m+1:=⟨n - 1,zb⟩;show aW (lU (nJ m) m _ ws) _;unfold lU;rw [cX (by rfl)];exact (ON (Sh.var (b:=b) h1 h2) rfl hw).bind λ_ h=>.some h
 | @un o x ho hx ih=>
   intro n hn;obtain ⟨m,rfl⟩:∃m,n=m+1:=⟨n - 1,zb⟩;rw [tm,wY,wY] at hn;show aW (lU (nJ m) m _ ws) _;unfold lU;rw [cE zd];refine aW.eqn (v:=x) rfl ?_;refine (ih m zb).bind λr hr=>?_;refine aW.eqn (v:=true) (by split <;> rfl) ?_;rw [cX rfl,BM,iX];have h1:aW (Ck o r.1) λ_=>True:=by unfold Ck;exact aW.iteb (λ_=>.some trivial) λ_=>.some trivial
   exact h1.bind λ_ _=>.some (.wrap _)
 | @bin o x y h1 h2 hx hy i1 i2=>
   intro n hn;obtain ⟨m,rfl⟩:∃m,n=m+1:=⟨n - 1,zb⟩;rw [tm,wY,wY,wY] at hn;show aW (lU (nJ m) m _ ws) _;unfold lU;rw [cE zd];refine aW.eqn (v:=x) rfl ?_;refine (i1 m zb).bind λr hr=>?_;refine aW.bind (P:=λ_=>True) (by split <;> exact .some trivial) λc _=>?_;refine aW.iteb (λ_=>?_) λ_=>?_
   ·rw [BM,iX];have h1:aW (Ck o r.1) λ_=>True:=by unfold Ck;exact aW.iteb (λ_=>.some trivial) λ_=>.some trivial
    exact h1.bind λ_ _=>.some (.wrap _)
   ·refine aW.eqn (v:=y) rfl ?_;refine (i2 m zb).bind λs hs=>?_;exact aW.iteb (λ_=>.some .z) λ_=>(VJ _ hr hs).bind λ_ h=>.some h
theorem Pv {b:Bool} {t:aF} (h:Sh b t):∀n,tm t+20<n->aW (pY n t) λr=>Sh b r/\tm r<=tm t/\∀k ∈ tv r,k ∈ tv t:=by
 have fin:∀(m:Nat) (c:Bool) (r t:aF),Sh b r->tm r<=tm t->(∀k ∈ tv r,k ∈ tv t)->tm r<m->aW (if (!c)=true then some r else (nJ m r []).bind λx=>if x.2=true then (JT x.1).bind λy=>some y else some r) λr=>Sh b r/\tm r<=tm t/\∀k ∈ tv r,k ∈ tv t:=λm c r t h1 h2 h4 h3=>by
  refine aW.iteb (λ_=>.some ⟨h1,h2,h4⟩) λ_=>?_;refine (Uf h1 .nil m h3).bind λx hx=>aW.iteb (λ_=>?_) λ_=>.some ⟨h1,h2,h4⟩;exact .some ⟨.con hx.1 hx.2,by rw [tm,wY];have:=Zd r;omega,λk hk=>by rw [tv,cE zc,Pz] at hk;cases hk⟩
 induction h with
 | z e=>
   intro n hn;rw [tm,wY] at hn;obtain ⟨m,rfl⟩:∃m,n=m+2:=⟨n - 2,zb⟩;show aW (oG (pY (m+1)) (m+1) _) _;unfold oG rE;rw [cE zc,iX];exact fin _ _ _ _ (.z e) (uZ _) (λ_ h=>h) (by rw [tm,wY];omega)
 | con c1 c2=>
   intro n hn;rw [tm,wY] at hn;obtain ⟨m,rfl⟩:∃m,n=m+2:=⟨n - 2,zb⟩;show aW (oG (pY (m+1)) (m+1) _) _;unfold oG rE;rw [cE zd,iX];exact fin _ _ _ _ (.con c1 c2) (uZ _) (λ_ h=>h) (by rw [tm,wY];omega)
 | var h1 h2=>
   intro n hn;rw [tm,wY] at hn;obtain ⟨m,rfl⟩:∃m,n=m+2:=⟨n - 2,zb⟩;show aW (oG (pY (m+1)) (m+1) _) _;unfold oG rE;rw [cE zd,iX];exact fin _ _ _ _ (.var h1 h2) (uZ _) (λ_ h=>h) (by rw [tm,wY];omega)
 | @un o x ho hx ih=>
   intro n hn;rw [tm,wY,wY] at hn;obtain ⟨m,rfl⟩:∃m,n=m+3:=⟨n - 3,zb⟩;show aW (oG (pY (m+2)) (m+2) _) _;unfold oG;obtain ⟨x',hx',s1,s2,s5⟩:=ih (m+2) zb;refine aW.bind (P:=λr=>Sh b r.2/\tm r.2<=1+tm x/\∀k ∈ tv r.2,k ∈ tv ⟨o,0,[x]⟩) ?_ λr hr=>fin _ _ _ _ hr.1 (by rw [tm,wY,wY];omega) hr.2.2 zb;unfold rE;rw [cX zd];refine aW.eqn (v:=x) rfl ?_;rw [hx',iX];refine aW.need zd ?_;refine aW.bind (P:=λ_=>True) (by split <;> exact .some trivial) λc _=>?_;rw [dB zc zc];unfold rE;rw [cE zd]
   exact .some ⟨.un ho s1,by simp only [AE];rw [tm,wY,wY];omega,λk hk=>by
    simp only [AE] at hk;rw [tv,Pz,Pz,Fu] at hk ⊢;exact (yU.1 hk).elim (GC _) λh=>IU _ (s5 k h)⟩
 | @bin o x y h1 h2 hx hy i1 i2=>
   intro n hn;rw [tm,wY,wY,wY] at hn;obtain ⟨m,rfl⟩:∃m,n=m+4:=⟨n - 4,zb⟩;show aW (oG (pY (m+3)) (m+3) _) _;unfold oG;obtain ⟨x',hx',s1,s2,s5⟩:=i1 (m+3) zb;obtain ⟨y',hy',s3,s4,s6⟩:=i2 (m+3) zb;refine aW.bind (P:=λr=>Sh b r.2/\tm r.2<=1+tm x+tm y/\∀k ∈ tv r.2,k ∈ tv ⟨o,0,[x,y]⟩) ?_ λr hr=>fin _ _ _ _ hr.1 (by rw [tm,wY,wY,wY];omega) hr.2.2 zb;unfold rE;rw [cX zd];refine aW.eqn (v:=x) rfl ?_;rw [hx',iX];refine aW.need zd ?_;refine aW.bind (P:=λ_=>True) (by split <;> exact .some trivial) λc _=>?_;rw [dB zc zc];unfold rE;rw [cX zd];refine aW.eqn (v:=y) rfl ?_;rw [hy',iX];refine aW.need zd ?_;refine aW.bind (P:=λ_=>True) (by split <;> exact .some trivial) λc _=>?_;rw [dB zc zc];unfold rE;rw [cE zd]
   exact .some ⟨.bin h1 h2 s1 s3,by simp only [AE,Ri];rw [tm,wY,wY,wY];omega,λk hk=>by
    simp only [AE,Ri] at hk;rw [tv,Pz,Pz,Pz,Fu] at hk ⊢;refine (yU.1 hk).elim (GC _) λh=>IU _ ?_;exact (yU.1 h).elim (λh=>GC _ (s5 k h)) λh=>IU _ (s6 k h)⟩
def Tp (a:cB):Int:=((cD.find? λx=>decide (x.GF=a)).map (·.op_)).getD 0
theorem op_l1 {a:cB}:∀(c j:Nat),j<=15->15<j+c->yL a c (j:Int)=some (match (cD.drop j).find? (λx=>decide (x.GF=a)) with | some x=>.inr x.op_ | none=>.inl ()):=by
 intro c
 induction c with
 | zero=>intro j h1 h2;omega
 | succ c ih=>
   intro j h1 h2;unfold yL;have hlen:cD.length=15:=ze
   by_cases hj:j<15
   ·rw [cX (Ah zb),pU (yN zb),iX,Sq zb,List.find?_cons];cases hd:decide (cD[j].GF=a) with
    | true=>rw [cX rfl]
    | false=>
      rw [cE zc,dB zb zb];exact ih (j+1) zb zb
   ·rw [cE (by rw [Da];omega),WR zb];rfl
theorem op_eq {n:Nat} (hn:16<=n) (a:cB):DM n a=some (Tp a):=by
 unfold DM Tp;have:=op_l1 (a:=a) n 0 zb zb;rw [DH] at this;rw [show ((0:Nat):Int)=0 from rfl] at this;rw [this,iX];cases cD.find? (λx=>decide (x.GF=a)) <;> rfl
theorem ZN {o:cB} (h:Pt o):5<=Tp o/\Tp o<=17:=by
 rcases h with h | h | h | h | h | h | h | h | h | h | h | h | h <;> subst h <;> decide
theorem ZO {o:cB} (h:o=[110,111,116] ∨ o=[110,101,103]):Tp o=3 ∨ Tp o=4:=by
 rcases h with h | h <;> subst h <;> decide
abbrev tz0:aF:=⟨0,0,[]⟩
mutual
def Dn (T:List aF):aB->aF
 | ⟨o,_,n,v,l,_⟩=>if o=[110,117,109] then ⟨1,n,[]⟩ else if o=[118,97,114] then (aZ T v).getD tz0 else ⟨Tp o,0,Bu T l⟩
def Bu (T:List aF):List aB->List aF
 | []=>[]
 | x::l=>Dn T x::Bu T l
end
theorem HR {T:List aF} {ty n v a:Int} {l:List aB}:Dn T ⟨[110,117,109],ty,n,v,l,a⟩=⟨1,n,[]⟩:=by rw [Dn,cX rfl]
theorem LE {T:List aF} {ty n v a:Int} {l:List aB} {t:aF} (h:aZ T v=some t):Dn T ⟨[118,97,114],ty,n,v,l,a⟩=t:=by rw [Dn,cE zc,cX rfl,h];rfl
theorem Dc {T:List aF} {o:cB} {ty n v a:Int} {l:List aB} (h1:o ≠ [110,117,109]) (h2:o ≠ [118,97,114]):Dn T ⟨o,ty,n,v,l,a⟩=⟨Tp o,0,Bu T l⟩:=by rw [Dn,cE h1,cE h2]
theorem KY {α:Type} {x:α} {l:List α}:aZ (x::l) 0=some x:=rfl
theorem Vd {α:Type} {x y:α} {l:List α}:aZ (x::y::l) (0+1)=some y:=rfl
structure Cj (b:Bool) (vs:List aK) (sc:List Int) (T:List aF):Prop where
 len:T.length=vs.length
 ok:∀v ∈ sc,∀u,aZ vs v=some u->u.bJ=1->∃t,aZ T v=some t/\Sh b t/\tm t<=2000
theorem Pt.ne {o:cB} (h:Pt o):o ≠ [110,117,109]/\o ≠ [118,97,114]/\o ≠ [105,110,100,101,120]:=by
 rcases h with h | h | h | h | h | h | h | h | h | h | h | h | h <;> subst h <;> decide
theorem Sign1.ne {o:cB} (h:o=[110,111,116] ∨ o=[110,101,103]):o ≠ [110,117,109]/\o ≠ [118,97,114]/\o ≠ [105,110,100,101,120]/\o ≠ [47]/\o ≠ [37]:=by
 rcases h with h | h <;> subst h <;> decide
section
variable {b:Bool} {vs:List aK} {sc:List Int} {c:aL} {x:aB}
theorem Jl (hT:Cj b vs sc c.aX) (h:Kl vs sc x):Sh b (Dn c.aX x)/\tm (Dn c.aX x)<=2000*xz x:=by
 induction h with
 | num h1 h2=>rw [HR];exact ⟨.con h1 h2,by rw [tm,wY,xz,nG];omega⟩
 | var h1 h2 h3=>
   obtain ⟨t,k1,k2,k3⟩:=hT.ok _ h1 _ h2 h3;rw [LE k1];exact ⟨k2,by rw [xz,nG];exact k3⟩
 | un h _ ih=>
   obtain ⟨n1,n2,_⟩:=Sign1.ne h;rw [Dc n1 n2,Bu,Bu];exact ⟨.un (ZO h) ih.1,by rw [tm,wY,wY,xz,nG,nG];have:=ih.2;omega⟩
 | bin h _ _ i1 i2=>
   obtain ⟨n1,n2,_⟩:=h.ne;rw [Dc n1 n2,Bu,Bu,Bu];obtain ⟨o1,o2⟩:=ZN h;exact ⟨.bin o1 o2 i1.1 i2.1,by rw [tm,wY,wY,wY,xz,nG,nG,nG];have:=i1.2;have:=i2.2;omega⟩
theorem ZJ (hT:Cj b vs sc c.aX) (h:Kl vs sc x):∀n,xz x+20<n->jW n c x=some (Dn c.aX x):=by
 induction h with
 | num=>
   intro n hn;obtain ⟨m,rfl⟩:∃m,n=m+1:=⟨n - 1,zb⟩;show fZ (jW m) m c _=_;unfold fZ;rw [HR,cX (by rfl)];rfl
 | var h1 h2 h3=>
   intro n hn;obtain ⟨m,rfl⟩:∃m,n=m+1:=⟨n - 1,zb⟩;show fZ (jW m) m c _=_;unfold fZ;obtain ⟨t,k1,k2,k3⟩:=hT.ok _ h1 _ h2 h3;rw [LE k1,cE zd,cX (by rfl),k1];rfl
 | @un o x a h hx ih=>
   intro n hn;rw [xz,nG,nG] at hn;obtain ⟨m,rfl⟩:∃m,n=m+3:=⟨n - 3,zb⟩;show fZ (jW (m+2)) (m+2) c _=_;unfold fZ;obtain ⟨n1,n2,_⟩:=Sign1.ne h;rw [Dc n1 n2,cE (by simpa using n1),cE (by simpa using n2),op_eq zb,iX];unfold kM;rw [cX zd,KY,iX,ih _ zb,iX,wP zd,dB zc zc];unfold kM;rw [cE zd];rfl
 | @bin o x y a h hx hy i1 i2=>
   intro n hn;rw [xz,nG,nG,nG] at hn;obtain ⟨m,rfl⟩:∃m,n=m+4:=⟨n - 4,zb⟩;show fZ (jW (m+3)) (m+3) c _=_;unfold fZ;obtain ⟨n1,n2,_⟩:=h.ne;rw [Dc n1 n2,cE (by simpa using n1),cE (by simpa using n2),op_eq zb,iX];unfold kM;rw [cX zd,KY,iX,i1 _ zb,iX,wP zd,dB zc zc];unfold kM;rw [cX zd,Vd,iX,i2 _ zb,iX,wP zd,dB zc zc];unfold kM;rw [cE zd];rfl
theorem WT (hT:Cj b vs sc c.aX) (h:Kl vs sc x) (hb:xz x<=100000000):∀n,xz x+2100<n->jL n c x=some (tm (Dn c.aX x):Int):=by
 induction h with
 | num=>
   intro n hn;obtain ⟨m,rfl⟩:∃m,n=m+2:=⟨n - 2,zb⟩;show fL (jL (m+1)) (m+1) c _=_;unfold fL iW;rw [HR,cE zd,cE zd,tm,wY];rfl
 | var h1 h2 h3=>
   intro n hn;obtain ⟨m,rfl⟩:∃m,n=m+1:=⟨n - 1,zb⟩;show fL (jL m) m c _=_;unfold fL;obtain ⟨t,k1,k2,k3⟩:=hT.ok _ h1 _ h2 h3;rw [LE k1,cX (by rfl),k1,iX,Uh _ _ zb zb];rfl
 | @un o x a h hx ih=>
   intro n hn;rw [xz,nG,nG] at hn hb;obtain ⟨m,rfl⟩:∃m,n=m+3:=⟨n - 3,zb⟩;show fL (jL (m+2)) (m+2) c _=_;unfold fL;obtain ⟨n1,n2,_⟩:=Sign1.ne h;have hz:=(Jl hT hx).2;rw [Dc n1 n2,cE (by simpa using n2)];unfold iW;rw [cX zd,KY,iX,ih zb _ zb,iX,dB (n:=(1:Int)+_) zb zb,dB zc zc];unfold iW;rw [cE zd,Bu,Bu,tm,wY,wY,iX]
   congr 1
 | @bin o x y a h hx hy i1 i2=>
   intro n hn;rw [xz,nG,nG,nG] at hn hb;obtain ⟨m,rfl⟩:∃m,n=m+4:=⟨n - 4,zb⟩;show fL (jL (m+3)) (m+3) c _=_;unfold fL;obtain ⟨n1,n2,_⟩:=h.ne;have hz:=(Jl hT hx).2;have hz2:=(Jl hT hy).2;rw [Dc n1 n2,cE (by simpa using n2)];unfold iW;rw [cX zd,KY,iX,i1 zb _ zb,iX,dB (n:=(1:Int)+_) zb zb,dB zc zc];unfold iW;rw [cX zd,Vd,iX,i2 zb _ zb,iX,dB (n:=(1:Int)+_+_) zb zb,dB zc zc];unfold iW;rw [cE zd,Bu,Bu,Bu,tm,wY,wY,wY,iX]
   congr 1;omega
theorem Kl.type (h:Kl vs sc x):x.bR=1:=by cases h <;> rfl
theorem VA (hT:Cj b vs sc c.aX) (h:Kl vs sc x) (hb:xz x<=100000000) {n:Nat} (hn:xz x+2100<n) :
  aW (gO n c x) λr=>(r.2=0/\tm (Dn c.aX x)<=2000/\pY n (Dn c.aX x)=some r.1/\Sh b r.1/\tm r.1<=2000) ∨ (r.2=161/\2000<tm (Dn c.aX x)/\r.1=tz0):=by
 unfold gO;obtain ⟨s1,s2⟩:=Jl hT h;rw [h.type,cE zc,WT hT h hb n hn,iX];refine aW.iteb (λh2=>.some (.inr ⟨rfl,by have:=xG h2;omega,rfl⟩)) λh2=>?_;have h2:=Lj h2;rw [ZJ hT h n zb,iX];obtain ⟨r,hr,k1,k2,_⟩:=Pv s1 n zb;rw [hr,iX];exact .some (.inl ⟨rfl,zb,rfl,k1,by show tm r<=2000;omega⟩)
end
def Er (a b:Int):Prop:=b=a ∨ a=0/\b=161
theorem Er.refl (a:Int):Er a a:=.inl rfl
theorem Er.trans {a b c:Int} (h:Er a b) (k:Er b c):Er a c:=by
 rcases h with rfl | ⟨rfl,rfl⟩
 ·exact k
 ·rcases k with rfl | ⟨h,_⟩
  ·exact .inr ⟨rfl,rfl⟩
  ·cases h
theorem Er.keep {a b:Int} (h:Er a b) (ha:a ≠ 0):b=a:=h.resolve_right λk=>ha k.1
theorem Er.zero {a b:Int} (h:Er a b) (hb:b=0):a=0:=by rcases h with rfl | ⟨h,_⟩;exact hb;exact h
section
variable {b:Bool} {vs:List aK} {sc:List Int} {y:aO} {x:aB}
theorem QR (hT:Cj b vs sc y.c_.aX) (h:Kl vs sc x) (hb:xz x<=100000000) {n:Nat} (hn:xz x+2100<n) :
  aW (mE n y x) λr=>r.2.c_=y.c_/\Er y.e_ r.2.e_/\((tm (Dn y.c_.aX x)<=2000/\pY n (Dn y.c_.aX x)=some r.1/\Sh b r.1/\r.2.e_=y.e_) ∨ (2000<tm (Dn y.c_.aX x)/\r.1=tz0/\r.2.e_ ≠ 0))/\tm r.1<=2000:=by
 unfold mE;refine (VA hT h hb hn).bind λr hr=>?_;have hz:tm tz0<=2000:=by rw [tm,wY];omega
 refine aW.iteb (λh0=>.some ⟨rfl,?_,?_,?_⟩) λh0=>.some ⟨rfl,.inl rfl,?_,?_⟩
 ·have h0:y.e_=0:=by simpa using h0
  rcases hr with ⟨h1,_⟩ | ⟨h1,_⟩
  ·exact .inl (h1.trans h0.symm)
  ·exact .inr ⟨h0,h1⟩
 ·have h0:y.e_=0:=by simpa using h0
  rcases hr with ⟨h1,h2,h3,h4,_⟩ | ⟨h1,h2,h3⟩
  ·exact .inl ⟨h2,h3,h4,h1.trans h0.symm⟩
  ·exact .inr ⟨h2,h3,by show r.2 ≠ 0;rw [h1];decide⟩
 ·rcases hr with ⟨_,_,_,_,h5⟩ | ⟨_,_,h3⟩
  ·exact h5
  ·rw [h3];exact hz
 ·have h0:y.e_ ≠ 0:=by simpa using h0
  rcases hr with ⟨h1,h2,h3,h4,_⟩ | ⟨h1,h2,h3⟩
  ·exact .inl ⟨h2,h3,h4,rfl⟩
  ·exact .inr ⟨h2,h3,h0⟩
 ·rcases hr with ⟨_,_,_,_,h5⟩ | ⟨_,_,h3⟩
  ·exact h5
  ·rw [h3];exact hz
mutual
def lkd:aB->List aB
 | ⟨o,_,_,_,l,_⟩=>Kz l++if o=[105,110,100,101,120] ∨ o=[47] ∨ o=[37] then l else []
def Kz:List aB->List aB
 | []=>[]
 | x::l=>lkd x++Kz l
end
theorem RF (x:aB):lkd x=Kz x.aN++if x.dJ=[105,110,100,101,120] ∨ x.dJ=[47] ∨ x.dJ=[37] then x.aN else []:=by cases x;rw [lkd]
theorem zai {l:List aB} {z:aB} (h:z ∈ Kz l):∃x ∈ l,z ∈ lkd x:=by
 induction l with
 | nil=>rw [Kz] at h;cases h
 | cons x l ih=>
   rw [Kz] at h
   rcases yU.1 h with h | h
   ·exact ⟨x,PH,h⟩
   ·obtain ⟨y,h1,h2⟩:=ih h;exact ⟨y,Nm _ h1,h2⟩
theorem Tt {l:List aB} {x z:aB} (h:x ∈ l) (k:z ∈ lkd x):z ∈ Kz l:=by
 induction l with
 | nil=>cases h
 | cons y l ih=>
   rw [Kz]
   rcases Di.1 h with rfl | h
   ·exact GC _ k
   ·exact IU _ (ih h)
def LkR (y r:aO):Prop:=r.c_=y.c_/\Er y.e_ r.e_
theorem LkR.refl (y:aO):LkR y y:=⟨rfl,.inl rfl⟩
theorem LkR.trans {y z r:aO} (h:LkR y z) (k:LkR z r):LkR y r:=⟨k.1.trans h.1,h.2.trans k.2⟩
theorem look_l2 {n:Nat} (hP:∀z ∈ x.aN,Kl vs sc z) (hb:nG x.aN<=100000000) (hn:nG x.aN+2100<n):∀(k v:Nat) (y:aO),Cj b vs sc y.c_.aX->x.aN.length<v+k->v<=x.aN.length->aW (sQ n x k (v:Int) y) λr=>LkR y r/\(r.e_=0->∀z ∈ x.aN.drop v,Kl vs sc z/\tm (Dn y.c_.aX z)<=2000):=by
 have hlen:=Ca x.aN;intro k
 induction k with
 | zero=>intro v y hT h1 h2;omega
 | succ k ih=>
   intro v y hT h1 h2;unfold sQ;refine aW.iteb (λhv=>?_) λhv=>.some ⟨.refl y,λ_ z hz=>by rw [WR (by have:=Lj hv;omega)] at hz;cases hz⟩;have hv:v<x.aN.length:=by have:=xG hv;omega
   refine aW.eqn (pU (yN hv)) ?_;have hm:=yI (NY hv);refine (QR hT (hP _ (NY hv)) zb zb).bind λr hr=>?_;rw [dB zb zb,show ((v:Int)+1)=((v+1:Nat):Int) by omega];refine (ih (v+1) r.2 (by rw [hr.1];exact hT) zb zb).mono λz hz=>⟨LkR.trans ⟨hr.1,hr.2.1⟩ hz.1,λh0 u hu=>?_⟩;rw [Sq hv] at hu;have hr0:=hz.1.2.zero h0
   rcases Di.1 hu with rfl | hu
   ·refine ⟨hP _ (NY hv),?_⟩
    rcases hr.2.2.1 with ⟨h,_⟩ | ⟨_,_,h⟩
    ·exact h
    ·exact cM hr0 h
   ·have:=hz.2 h0 u hu;rw [hr.1] at this;exact this
def LkX (vs:List aK) (sc:List Int) (x:aB) (y r:aO):Prop:=LkR y r/\(r.e_=0->∀z ∈ lkd x,Kl vs sc z/\tm (Dn y.c_.aX z)<=2000)
theorem look_l1 {f:aO->aB->Option aO} (hf:∀z ∈ x.aN,∀y:aO,Cj b vs sc y.c_.aX->aW (f y z) (LkX vs sc z y)) (hb:nG x.aN<=100000000):∀(k v:Nat) (y:aO),Cj b vs sc y.c_.aX->x.aN.length<v+k->v<=x.aN.length->aW (sR f x k (v:Int) y) λr=>LkR y r/\(r.e_=0->∀z ∈ Kz (x.aN.drop v),Kl vs sc z/\tm (Dn y.c_.aX z)<=2000):=by
 have hlen:=Ca x.aN;intro k
 induction k with
 | zero=>intro v y hT h1 h2;omega
 | succ k ih=>
   intro v y hT h1 h2;unfold sR;refine aW.iteb (λhv=>?_) λhv=>.some ⟨.refl y,λ_ z hz=>by rw [WR (by have:=Lj hv;omega),Kz] at hz;cases hz⟩;have hv:v<x.aN.length:=by have:=xG hv;omega
   refine aW.eqn (pU (yN hv)) ?_;refine (hf _ (NY hv) y hT).bind λr hr=>?_;rw [dB zb zb,show ((v:Int)+1)=((v+1:Nat):Int) by omega];refine (ih (v+1) r (by rw [hr.1.1];exact hT) zb zb).mono λz hz=>⟨hr.1.trans hz.1,λh0 u hu=>?_⟩;rw [Sq hv,Kz] at hu
   rcases yU.1 hu with hu | hu
   ·exact hr.2 (hz.1.2.zero h0) u hu
   ·have:=hz.2 h0 u hu;rw [hr.1.1] at this;exact this
theorem TX.list (h:TX vs sc x):(∀z ∈ x.aN,TX vs sc z)/\((x.dJ=[105,110,100,101,120] ∨ x.dJ=[47] ∨ x.dJ=[37])->∀z ∈ x.aN,Kl vs sc z):=by
 have one:∀ {P:aB->Prop} {x},P x->∀z ∈ [x],P z:=λh z hz=>by rw [zU.1 hz];exact h
 have two:∀ {P:aB->Prop} {x y},P x->P y->∀z ∈ [x,y],P z:=λh k z hz=>by
  rcases Di.1 hz with rfl | hz
  ·exact h
  ·exact one k z hz
 have tri:∀ {P:aB->Prop} {x y u},P x->P y->P u->∀z ∈ [x,y,u],P z:=λh k l z hz=>by
  rcases Di.1 hz with rfl | hz
  ·exact h
  ·exact two k l z hz
 cases h with
 | num=>exact ⟨λ_ h=>(nomatch h),λ_ _ h=>(nomatch h)⟩
 | var=>exact ⟨λ_ h=>(nomatch h),λ_ _ h=>(nomatch h)⟩
 | index h1 h2 h3 h4 h5 h6=>exact ⟨one h4,λ_=>one (h4.pub h5)⟩
 | un h1 h2=>
   obtain ⟨_,_,n3,n4,n5⟩:=Sign1.ne h1;exact ⟨one h2,λh=>h.elim (λh=>cM h n3) λh=>h.elim (λh=>cM h n4) λh=>cM h n5⟩
 | @bin o x y t a h1 h2 h3=>
   refine ⟨two h1 h2,λh=>?_⟩
   have ho:o=[47] ∨ o=[37]:=by
    rcases h with h | h
    ·exfalso
     have h:o=[105,110,100,101,120]:=h;subst h
     rcases h3 with ⟨h,_⟩ | ⟨h,_⟩ | ⟨h,_⟩ | ⟨h,_⟩ | ⟨h,_⟩
     ·rcases h with h | h <;> exact cM h zc
     ·rcases h with h | h | h <;> exact cM h zc
     ·exact cM h zc
     ·rcases h with h | h <;> exact cM h zc
     ·rcases h with h | h | h | h | h <;> exact cM h zc
    ·exact h
   have:x.bR=1/\y.bR=1:=by
    rcases h3 with ⟨_,h4,h5,_⟩ | ⟨h,_⟩ | ⟨h,_⟩ | ⟨h,_⟩ | ⟨h,_⟩
    ·exact ⟨h4,h5⟩
    ·exfalso;rcases ho with rfl | rfl <;> rcases h with h | h | h <;> exact cM h zc
    ·exfalso;rcases ho with rfl | rfl <;> exact cM h zc
    ·exfalso;rcases ho with rfl | rfl <;> rcases h with h | h <;> exact cM h zc
    ·exfalso;rcases ho with rfl | rfl <;> rcases h with h | h | h | h | h <;> exact cM h zc
   exact two (h1.pub this.1) (h2.pub this.2)
 | sel h1 h2 h3 h4 h5=>exact ⟨tri h1 h2 h3,λh=>by rcases h with h | h | h <;> exact cM h (by simp only;decide)⟩
 | long h1 h2=>exact ⟨one h1,λh=>by rcases h with h | h | h <;> exact cM h (by simp only;decide)⟩
 | wide h1 h2 h3 h4=>exact ⟨two h1 h2,λh=>by rcases h with h | h | h <;> exact cM h (by simp only;decide)⟩
 | half h0 h1 h2=>exact ⟨one h1,λh=>by rcases h0 with rfl | rfl <;> rcases h with h | h | h <;> exact cM h (by simp only;decide)⟩
theorem zaf:∀(n:Nat) (x:aB) (y:aO),TX vs sc x->Cj b vs sc y.c_.aX->xz x<=100000000->xz x+2200<n->aW (mG n y x) (LkX vs sc x y):=by
 intro n
 induction n with
 | zero=>intro x y h hT hb hn;omega
 | succ n ih=>
   intro x y h hT hb hn;show aW (pN (mG n) n y x) _;unfold pN;obtain ⟨l1,l2⟩:=h.list;have he:=Dg x;have hlen:=Ca x.aN
   refine (look_l1 (b:=b) (vs:=vs) (sc:=sc) (f:=mG n) (λz hz y hT=>by
    have:=yI hz;exact ih z y (l1 z hz) hT zb zb) zb n 0 y hT zb zb).bind λr hr=>?_
   refine aW.bind (P:=λc=>c=true ↔ x.dJ=[105,110,100,101,120] ∨ x.dJ=[47] ∨ x.dJ=[37]) ?_ λc hc=>?_
   ·refine aW.iteb (λh=>.some ⟨λ_=>.inl (xG h),λ_=>rfl⟩) λg1=>aW.iteb (λh=>.some ⟨λ_=>.inr (.inl (xG h)),λ_=>rfl⟩) λg2=>.some ⟨λh=>.inr (.inr (xG h)),λh=>?_⟩
    rcases h with h | h | h
    ·exact cM h (Lj g1)
    ·exact cM h (Lj g2)
    ·exact Ah h
   have key:∀d:aO,LkR r d->(d.e_=0->c=true->∀z ∈ x.aN,Kl vs sc z/\tm (Dn y.c_.aX z)<=2000)->LkX vs sc x y d:=λd hd hk=>⟨hr.1.trans hd,λh0 z hz=>by
    rw [RF] at hz
    rcases yU.1 hz with hz | hz
    ·exact hr.2 (hd.2.zero h0) z (by rw [DH];exact hz)
    ·split at hz
     ·rename_i ho;exact hk h0 (hc.2 ho) z hz
     ·cases hz⟩
   refine aW.iteb (λh=>?_) λh=>.some (key r (.refl r) λ_ h2=>by rw [h] at h2;cases h2);refine (look_l2 (b:=b) (n:=n) (l2 (hc.1 h)) zb zb n 0 r (by rw [hr.1.1];exact hT) zb zb).bind λz hz=>.some (key z hz.1 λh0 _ u hu=>?_);have:=hz.2 h0 u (by rw [DH];exact hu);rw [hr.1.1] at this;exact this
end
structure Gx (s:bV):Prop where
 lo:vK s.AA
 hi:vK s.qT
 le:s.AA<=s.qT
def Nl (s:bV) (x:Int):Prop:=s.AA<=x/\x<=s.qT
theorem Gx.all:Gx ⟨0,4294967295⟩:=⟨.z,.m,yz⟩
def OL (lo hi:List Int):Prop:=∀i:Nat,(lo[i]?).getD 0<=(hi[i]?).getD 4294967295
theorem Nl.all {x:Int} (h:vK x):Nl ⟨0,4294967295⟩ x:=h
def Bnd (lo hi ws:List Int):Prop:=∀i:Nat,(lo[i]?).getD 0<=(ws[i]?).getD 0/\(ws[i]?).getD 0<=(hi[i]?).getD 4294967295
theorem za4 {l:List Int} (hl:Df l) {k o:Int} (h1:0<=k) (h2:k<=255) (ho:vK o):aW (HH l k o) λr=>vK r/\r=(l[k.toNat]?).getD o:=by
 unfold HH;refine aW.iteb (λh=>?_) λh=>?_
 ·have h:=xG h;rw [dB zb zb] at h;refine aW.bind' (aW.idx h1 h λx hx=>.some ⟨hl _ (GB hx),by rw [hx];rfl⟩)
 ·have h:=Lj h;rw [dB zb zb] at h;exact .some ⟨ho,by rw [VH zb];rfl⟩
section
variable {a b:Int} (ha:vK a) (hb:vK b)
include ha hb
theorem add32:sX a b 0=some ((a+b) % 4294967296,(a+b) / 4294967296):=by
 obtain ⟨a1,a2⟩:=ha;obtain ⟨b1,b2⟩:=hb;unfold sX LB;simp only [IntKind.wrap_u32,IntKind.wrap_u64];have e:min (32:Int).toNat IntKind.u64.bits=32:=rfl;rw [e,xer _ zc]
 congr 2 <;> omega
theorem mul32:uX a b=some ((a*b) / 4294967296,(a*b) % 4294967296):=by
 obtain ⟨a1,a2⟩:=ha;obtain ⟨b1,b2⟩:=hb;unfold uX LB;simp only [IntKind.wrap_u32,IntKind.wrap_u64];have e:min (32:Int).toNat IntKind.u64.bits=32:=rfl;have h1:0<=a*b:=Int.mul_nonneg a1 b1;have h2:a*b<=4294967295*4294967295:=Int.mul_le_mul a2 b2 b1 zc;rw [e,xer _ zc,Int.emod_eq_of_lt a1 (show a<18446744073709551616 by omega),Int.emod_eq_of_lt b1 (show b<18446744073709551616 by omega)]
 generalize a*b=q at *
 congr 2 <;> omega
theorem and32:Ae .u32 a b<=a/\Ae .u32 a b<=b:=by
 obtain ⟨a1,a2⟩:=ha;obtain ⟨b1,b2⟩:=hb;obtain ⟨x,rfl⟩:=xdt a1;obtain ⟨y,rfl⟩:=xdt b1;unfold Ae;rw [IntKind.wrap_u32,BitVec.toNat_and]
 have e:∀z:Nat,(z:Int)<=4294967295->(BitVec.ofInt IntKind.u32.bits (z:Int)).toNat=z:=λz hz=>by
  show (BitVec.ofInt 32 (z:Int)).toNat=z;rw [BitVec.toNat_ofInt];omega
 rw [e x a2,e y b2];have h1:x &&& y<=x:=Nat.and_le_left;have h2:x &&& y<=y:=Nat.and_le_right;omega
end
theorem divs {a b x y:Int} (h0:0<=a) (h1:a<=x) (h2:0<y) (h3:y<=b):a / b<=x / y:=by
 obtain ⟨a,rfl⟩:=xdt h0;obtain ⟨x,rfl⟩:=xdt (Int.le_trans h0 h1);obtain ⟨y,rfl⟩:=xdt (Int.le_of_lt h2);obtain ⟨b,rfl⟩:=xdt (show 0<=b by omega);have:=Nat.div_le_div (a:=a) (b:=x) (c:=b) (d:=y) zb zb zb
 exact_mod_cast this
theorem Mj {x:Int} (h:vK x):IntKind.u32.wrap x=x:=by obtain ⟨h1,h2⟩:=h;rw [IntKind.wrap_u32];omega
theorem Ux {o:Int} (h5:5<=o) (h17:o<=17) {a b:bV} (ha:Gx a) (hb:Gx b):aW (Ak o a b) λs=>Gx s/\∀x y v,vK x->vK y->Nl a x->Nl b y->kO o x y=some (v,true)->Nl s v:=by
 have hw:∀ {x y v:Int},vK x->vK y->kO o x y=some (v,true)->vK v:=λhx hy h=>by
  obtain ⟨r,e,hr⟩:=VJ o hx hy;rw [h] at e;rw [←bS e] at hr;exact hr
 have hall:aW (some (bV.mk 0 4294967295)) λs=>Gx s/\∀x y v,vK x->vK y->Nl a x->Nl b y->kO o x y=some (v,true)->Nl s v:=.some ⟨.all,λx y v hx hy _ _ h=>.all (hw hx hy h)⟩
 have hbool:∀ {c:Bool} {v:Int},some ((if c=true then (1:Int) else 0),true)=some (v,true)->Nl ⟨0,1⟩ v:=λ{c v} h=>by
  have h:=DI Prod.fst (bS h);simp only at h;rw [←h];unfold Nl;cases c <;> decide
 obtain ⟨⟨al0,al1⟩,⟨ah0,ah1⟩,ale⟩:=ha;obtain ⟨⟨bl0,bl1⟩,⟨bh0,bh1⟩,ble⟩:=hb;unfold Ak;refine aW.iteb (λh=>?_) λn8=>aW.iteb (λh=>?_) λn9=>aW.iteb (λh=>?_) λn7=>aW.iteb (λh=>?_) λn13=>aW.iteb (λh=>?_) λn14=>aW.iteb (λh=>?_) λn15=>aW.iteb (λh=>?_) λn16=>aW.iteb (λh=>?_) λn17=>aW.iteb (λh=>?_) λ_=>hall
 ·obtain rfl:o=8:=by simpa using h
  refine .some ⟨⟨.z,.i,yz⟩,λx y v _ _ _ _ h=>?_⟩;have e:kO 8 x y=some (if (x == y)=true then 1 else 0,true):=by unfold kO;rw [BM];rfl
  rw [e] at h;exact hbool h
 ·obtain rfl:o=9:=by simpa using h
  refine .some ⟨⟨.z,.i,yz⟩,λx y v _ _ _ _ h=>?_⟩;have e:kO 9 x y=some (if decide (x<y)=true then 1 else 0,true):=by unfold kO;rw [BM,BM];rfl
  rw [e] at h;exact hbool h
 ·obtain rfl:o=7:=by simpa using h
  refine .some ⟨⟨.z,by unfold vK;simp only;omega,yz⟩,λx y v hx hy ⟨i1,i2⟩ ⟨j1,j2⟩ h=>?_⟩;have hv:=hw hx hy h;have e:kO 7 x y=some (Ae .u32 x y,true):=rfl;rw [e] at h;have h:=DI Prod.fst (bS h);have:=and32 hx hy;unfold Nl;unfold vK at hv;simp only at h ⊢;omega
 ·obtain rfl:o=13:=by simpa using h
  unfold IY;rw [add32 ⟨al0,al1⟩ ⟨bl0,bl1⟩,add32 ⟨ah0,ah1⟩ ⟨bh0,bh1⟩,iX,iX];refine aW.bind (P:=λs=>Gx s/\∀x y v,vK x->vK y->Nl a x->Nl b y->kO 13 x y=some (v,true)->Nl s v) (aW.iteb (λ_=>hall) λh=>.some ⟨⟨?_,?_,?_⟩,λx y v ⟨x0,x1⟩ ⟨y0,y1⟩ ⟨i1,i2⟩ ⟨j1,j2⟩ hv=>?_⟩) λ_ h=>.some h
  ·unfold vK;simp only;omega
  ·unfold vK;simp only;omega
  ·have h:¬ (a.qT+b.qT) / 4294967296=1:=by simpa using h
   simp only;omega
  ·have e:kO 13 x y=some (IntKind.u32.wrap (x+y),true):=rfl;rw [e,IntKind.wrap_u32] at hv;have hv:=DI Prod.fst (bS hv);have h:¬ (a.qT+b.qT) / 4294967296=1:=by simpa using h
   unfold Nl;simp only at hv ⊢;omega
 ·obtain rfl:o=14:=by simpa using h
  refine aW.iteb (λh=>.some ⟨⟨.wrap _,.wrap _,by have h:=xG h;simp only [IntKind.wrap_u32];omega⟩,λx y v ⟨x0,x1⟩ ⟨y0,y1⟩ ⟨i1,i2⟩ ⟨j1,j2⟩ hv=>?_⟩) λ_=>hall;have h:=xG h;have e:kO 14 x y=some (IntKind.u32.wrap (x - y),true):=rfl;rw [e,IntKind.wrap_u32] at hv;have hv:=DI Prod.fst (bS hv);unfold Nl;simp only [IntKind.wrap_u32] at hv ⊢;omega
 ·obtain rfl:o=15:=by simpa using h
  unfold AG;rw [mul32 ⟨ah0,ah1⟩ ⟨bh0,bh1⟩,iX];refine aW.bind (P:=λs=>Gx s/\∀x y v,vK x->vK y->Nl a x->Nl b y->kO 15 x y=some (v,true)->Nl s v) (aW.iteb (λ_=>hall) λh=>.some ⟨⟨.wrap _,?_,?_⟩,λx y v ⟨x0,x1⟩ ⟨y0,y1⟩ ⟨i1,i2⟩ ⟨j1,j2⟩ hv=>?_⟩) λ_ h=>.some h
  ·unfold vK;simp only;omega
  ·have h:=Lj h;have m1:a.AA*b.AA<=a.qT*b.qT:=Int.mul_le_mul ale ble bl0 ah0;have m3:0<=a.AA*b.AA:=Int.mul_nonneg al0 bl0;simp only [IntKind.wrap_u32] at h ⊢
   generalize a.AA*b.AA=p at *
   generalize a.qT*b.qT=r at *
   omega
  ·have e:kO 15 x y=some (IntKind.u32.wrap (x*y),true):=rfl;rw [e,IntKind.wrap_u32] at hv;have hv:=DI Prod.fst (bS hv);have h:=Lj h;have m1:a.AA*b.AA<=x*y:=Int.mul_le_mul i1 j1 bl0 x0;have m2:x*y<=a.qT*b.qT:=Int.mul_le_mul i2 j2 y0 ah0;have m3:0<=a.AA*b.AA:=Int.mul_nonneg al0 bl0;unfold Nl;simp only [IntKind.wrap_u32] at h hv ⊢
   generalize a.AA*b.AA=p at *
   generalize x*y=q at *
   generalize a.qT*b.qT=r at *
   omega
 ·obtain rfl:o=16:=by simpa using h
  refine aW.need zb (aW.need zb (.some ⟨⟨.wrap _,.wrap _,by
   simp only [xel al0,xel ah0];rw [Mj (vK.div ⟨al0,al1⟩ zb),Mj (vK.div ⟨ah0,ah1⟩ zb)];exact divs al0 ale zb zb⟩,λx y v ⟨x0,x1⟩ ⟨y0,y1⟩ ⟨i1,i2⟩ ⟨j1,j2⟩ hv=>?_⟩))
  have hy:y ≠ 0:=λh=>by subst h;exact cM (DI Prod.snd (bS hv)) zd
  have e:kO 16 x y=some (IntKind.u32.wrap (x.tdiv y),true):=by
   unfold kO;rw [cE zc,cE zc,cE zc,cE zc,cE zc,cX zc,cE (by simpa using hy),wP hy]
  rw [e] at hv;have hv:=DI Prod.fst (bS hv);simp only at hv;have w1:vK (x / y):=vK.div ⟨x0,x1⟩ y0;have w2:vK (a.AA / max b.qT 1):=vK.div ⟨al0,al1⟩ zb;have w3:vK (a.qT / max b.AA 1):=vK.div ⟨ah0,ah1⟩ zb;unfold Nl;simp only [xel x0,xel al0,xel ah0] at hv ⊢;rw [Mj w1] at hv;rw [Mj w2,Mj w3,←hv];exact ⟨divs al0 i1 zb zb,divs x0 i2 zb zb⟩
 ·obtain rfl:o=17:=by simpa using h
  have h1:IntKind.u32.wrap (max b.qT 1 - 1)=max b.qT 1 - 1:=Mj (by unfold vK;omega);rw [h1];refine .some ⟨⟨.z,by unfold vK;simp only;omega,yz⟩,λx y v ⟨x0,x1⟩ ⟨y0,y1⟩ ⟨i1,i2⟩ ⟨j1,j2⟩ hv=>?_⟩;have hy:y ≠ 0:=λh=>by subst h;exact cM (DI Prod.snd (bS hv)) zd
  have e:kO 17 x y=some (x.tmod y,true):=by
   unfold kO;rw [cE zc,cE zc,cE zc,cE zc,cE zc,cE zc,cX zc,cE (by simpa using hy),wP hy]
  rw [e,xek x0] at hv;have hv:=DI Prod.fst (bS hv);have m1:=Int.emod_nonneg x hy;have m2:=Int.emod_lt_of_pos x (show 0<y by omega)
  have m3:x % y<=x:=by
   obtain ⟨x',rfl⟩:=xdt x0;obtain ⟨y',rfl⟩:=xdt y0
   exact_mod_cast Nat.mod_le x' y'
  unfold Nl;simp only at hv ⊢;omega
 ·obtain rfl:o=11:=by simpa using h
  refine .some ⟨⟨.z,⟨ah0,ah1⟩,ah0⟩,λx y v hx hy ⟨i1,i2⟩ ⟨j1,j2⟩ h=>?_⟩;have hv:=hw hx hy h
  have e:kO 11 x y=some (LB .u32 x (Ae .u32 y 31),true):=by
   show (wL 11 x y).bind (λx16=>some (x16,true))=_
   have:wL 11 x y=some (LB .u32 x (Ae .u32 y 31)):=by
    unfold wL;rw [cE zc,cE zc,cE zc,cE zc,cX zc,wP Sb]
   rw [this];rfl
  rw [e] at h;have h:=DI Prod.fst (bS h)
  have:LB .u32 x (Ae .u32 y 31)<=x:=by
   unfold LB;rw [xer _ (Int.pow_nonneg zc)];exact Int.ediv_le_self _ hx.1
  unfold Nl;unfold vK at hv;simp only at h ⊢;omega
theorem zaF {n:Nat} {o:Int} {x y:aF} {ws:List Int} {v:Int} (h:nJ (n+1) ⟨o,0,[x,y]⟩ ws=some (v,true)):∃a b,nJ n x ws=some (a,true)/\nJ n y ws=some (b,true)/\kO o a b=some (v,true):=by
 have h:lU (nJ n) n ⟨o,0,[x,y]⟩ ws=some (v,true):=h;unfold lU at h;rw [cE zd,KY,iX] at h;obtain ⟨r,hr,h⟩:=aH h;cases h2:r.2 with
 | false=>
   rw [h2,cX (by rfl),iX,cX rfl] at h;obtain ⟨_,_,h⟩:=aH h;obtain ⟨_,_,h⟩:=aH h;exact cM (DI Prod.snd (bS h)) zd
 | true=>
   rw [h2,cE zc,iX,cE zd] at h;obtain ⟨y',hy,h⟩:=aH h;obtain rfl:y=y':=bS hy;obtain ⟨s,hs,h⟩:=aH h;cases h3:s.2 with
   | false=>
     rw [h3,cX (by rfl)] at h;exact cM (DI Prod.snd (bS h)) zd
   | true=>
     rw [h3,cE zc] at h;obtain ⟨z,hz,h⟩:=aH h;exact ⟨r.1,s.1,by rw [hr,←h2],by rw [hs,←h3],by rw [hz,←h]⟩
theorem Zc {t:aF} (h:Sh false t) {lo hi:List Int} (hl:Df lo) (hh:Df hi) (ho:OL lo hi):∀n,tm t<n->aW (wK n t lo hi) λs=>Gx s/\∀ws m v,Df ws->Bnd lo hi ws->tm t<m->nJ m t ws=some (v,true)->Nl s v:=by
 have hev:∀ {t:aF} {ws m v},Sh false t->Df ws->tm t<m->nJ m t ws=some (v,true)->vK v:=λht hw hm h=>by
  obtain ⟨r,e,hr⟩:=Uf ht hw _ hm;rw [h] at e;rw [←bS e] at hr;exact hr
 induction h with
 | z e=>cases e
 | @con v c1 c2=>
   intro n hn;obtain ⟨m,rfl⟩:∃m,n=m+1:=⟨n - 1,zb⟩;show aW (oZ (wK m) m _ lo hi) _;unfold oZ;refine aW.iteb (λ_=>.some ⟨⟨⟨c1,c2⟩,⟨c1,c2⟩,Uj _⟩,λws k w _ _ hk h=>?_⟩) λh=>nomatch h;obtain ⟨k,rfl⟩:∃j,k=j+1:=⟨k - 1,zb⟩;have h:some ((v,true):Int × Bool)=some (w,true):=h;have h:=DI Prod.fst (bS h);simp only at h;subst h;exact ⟨Uj _,Uj _⟩
 | @var q h1 h2=>
   intro n hn;obtain ⟨m,rfl⟩:∃m,n=m+1:=⟨n - 1,zb⟩;show aW (oZ (wK m) m _ lo hi) _;unfold oZ;refine aW.iteb (λh=>nomatch h) λ_=>aW.iteb (λ_=>?_) λh=>nomatch h;refine (za4 hl h1 h2 .z).bind λl ⟨l1,l2⟩=>(za4 hh h1 h2 .m).bind λu ⟨u1,u2⟩=>.some ⟨⟨l1,u1,by rw [l2,u2];exact ho q.toNat⟩,λws k w hws hb hk h=>?_⟩;obtain ⟨k,rfl⟩:∃j,k=j+1:=⟨k - 1,zb⟩;have h:(Al ⟨2,q,[]⟩ ws).bind (λx=>some (x,true))=some (w,true):=h;obtain ⟨x,hx,h⟩:=aH h;have h:=DI Prod.fst (bS h);simp only at h;subst h
   have e:x=(ws[q.toNat]?).getD 0:=by
    unfold Al at hx;rw [cE zd,dB (show -9223372036854775808<=q by omega) (show q<=9223372036854775807 by omega)] at hx
    by_cases hlt:q<(ws.length:Int)
    ·rw [cX (Ah hlt)] at hx;obtain ⟨y,hy,hx⟩:=aH hx;obtain rfl:=bS hx;obtain ⟨_,_,hy⟩:=bX hy;rw [hy];rfl
    ·rw [cE (by rw [Da];exact hlt)] at hx;rw [←bS hx,VH zb];rfl
   have:=hb q.toNat;unfold Nl;rw [e,l2,u2];exact this
 | @un o x ho hx ih=>
   intro n hn;obtain ⟨m,rfl⟩:∃m,n=m+1:=⟨n - 1,zb⟩;show aW (oZ (wK m) m _ lo hi) _;unfold oZ;have fin:aW (some (bV.mk 0 4294967295)) λs=>Gx s/\∀ws m v,Df ws->Bnd lo hi ws->tm (⟨o,0,[x]⟩:aF)<m->nJ m ⟨o,0,[x]⟩ ws=some (v,true)->Nl s v:=.some ⟨.all,λws k v hws _ hk h=>.all (hev (.un ho hx) hws hk h)⟩
   rcases ho with rfl | rfl
   ·exact aW.iteb (λh=>nomatch h) λ_=>aW.iteb (λh=>nomatch h) λ_=>aW.iteb (λ_=>fin) λh=>nomatch h
   ·exact aW.iteb (λh=>nomatch h) λ_=>aW.iteb (λh=>nomatch h) λ_=>aW.iteb (λh=>nomatch h) λ_=>aW.iteb (λ_=>fin) λh=>nomatch h
 | @bin o x y h1 h2 hx hy i1 i2=>
   intro n hn;obtain ⟨m,rfl⟩:∃m,n=m+1:=⟨n - 1,zb⟩;have hz:tm (⟨o,0,[x,y]⟩:aF)=1+(tm x+(tm y+0)):=by rw [tm,wY,wY,wY]
   rw [hz] at hn;show aW (oZ (wK m) m _ lo hi) _;unfold oZ;refine aW.iteb (λh=>?_) λ_=>aW.iteb (λh=>?_) λ_=>aW.iteb (λh=>?_) λ_=>aW.iteb (λh=>?_) λ_=>?_
   ·exfalso;have h:o=1:=by simpa using h
    omega
   ·exfalso;have h:o=2:=by simpa using h
    omega
   ·exfalso;have h:o=3:=by simpa using h
    omega
   ·exfalso;have h:o=4:=by simpa using h
    omega
   refine aW.eqn KY ((i1 m zb).bind λa ⟨a1,a2⟩=>aW.eqn Vd ((i2 m zb).bind λb ⟨b1,b2⟩=>(Ux h1 h2 a1 b1).bind λs ⟨s1,s2⟩=>.some ⟨s1,λws k v hws hb hk h=>?_⟩));obtain ⟨k,rfl⟩:∃j,k=j+1:=⟨k - 1,zb⟩;rw [hz] at hk;obtain ⟨p,q,e1,e2,e3⟩:=zaF h;exact s2 p q v (hev hx hws zb e1) (hev hy hws zb e2) (a2 ws k p hws hb zb e1) (b2 ws k q hws hb zb e2) e3
section
variable {vs:List aK} {sc:List Int} {c:aL} {x:aB}
theorem Ot (hT:Cj false vs sc c.aX) (h:Kl vs sc x) (hb:xz x<=100000000) (hl:Df c.tK) (hh:Df c.kZ) (ho:OL c.tK c.kZ) {n:Nat} (hn:xz x+2100<n):aW (fM n c x) λr=>fM n c x=some r/\vK r.1/\vK r.2:=by
 have key:aW (fM n c x) λr=>vK r.1/\vK r.2:=by
  unfold fM;refine (VA hT h hb hn).bind λr hr=>aW.iteb (λ_=>.some ⟨.z,.m⟩) λhe=>?_
  rcases hr with ⟨_,_,_,h4,h5⟩ | ⟨h1,_⟩
  ·unfold DX;refine aW.bind (P:=λr=>vK r.1/\vK r.2) ?_ λ_ h=>.some h;exact (Zc h4 hl hh ho n zb).bind λs hs=>.some ⟨hs.1.lo,hs.1.hi⟩
  ·rw [h1] at he;cases he
 obtain ⟨r,hr,hw⟩:=key;exact ⟨r,hr,hr,hw⟩
end
def eb (e:Int):Bool:=!(e == 0)
theorem DE {e:Int}:eb e=false ↔ e=0:=by unfold eb;simp
theorem zaH {e:Int}:eb e=true ↔ e ≠ 0:=by unfold eb;simp
theorem Cj.mono {b b':Bool} {vs:List aK} {sc sc':List Int} {T:List aF} (h:Cj b vs sc T) (hb:b=true->b'=true) (hs:∀v ∈ sc',v ∈ sc):Cj b' vs sc' T:=
 ⟨h.len,λv hv u hu hk=>by obtain ⟨t,h1,h2,h3⟩:=h.ok v (hs v hv) u hu hk;exact ⟨t,h1,h2.mono hb,h3⟩⟩
theorem Er.eb {a b:Int} (h:Er a b):eb a=true->eb b=true:=λe=>by rw [h.keep (zaH.1 e)];exact e
theorem CH {α:Type} {l:List α} {i j:Int} {x t:α} (hj:aZ l j=some t):(i.toNat=j.toNat/\0<=i->aZ (l.set i.toNat x) j=some x)/\(i.toNat ≠ j.toNat->aZ (l.set i.toNat x) j=some t):=by
 unfold aZ at hj ⊢
 split at hj
 ·rename_i h0;have hlt:=(xW.1 hj).1;refine ⟨λh=>?_,λh=>?_⟩
  ·rw [cX h0,h.1,VI hlt]
  ·rw [cX h0,Uv h];exact hj
 ·cases hj
theorem Cj.set {b:Bool} {vs:List aK} {sc:List Int} {T:List aF} (h:Cj b vs sc T) {i:Int} {t:aF} (hi:0<=i) (ht:Sh b t) (hz:tm t<=2000):Cj b vs sc (T.set i.toNat t):=
 ⟨by rw [Db];exact h.len,λv hv u hu hk=>by
  obtain ⟨s,h1,h2,h3⟩:=h.ok v hv u hu hk
  by_cases e:i.toNat=v.toNat
  ·exact ⟨t,(CH h1).1 ⟨e,hi⟩,ht,hz⟩
  ·exact ⟨s,(CH h1).2 e,h2,h3⟩⟩
theorem zM {α:Type} {l:List α} {i:Int} {x:α} (h:aZ l i=some x):0<=i/\i<(l.length:Int):=by obtain ⟨h1,h2,_⟩:=bX h;exact ⟨h1,h2⟩
theorem Cj.snoc {b:Bool} {vs:List aK} {sc:List Int} {T:List aF} (h:Cj b vs sc T) {i:Int} {t:aF} {u:aK} (hu:aZ vs i=some u) (ht:Sh b t) (hz:tm t<=2000):Cj b vs (sc++[i]) (T.set i.toNat t):=by
 obtain ⟨h0,h1⟩:=zM hu;have h2:=h.set h0 ht hz;refine ⟨h2.len,λv hv u' hu' hk=>?_⟩
 rcases yU.1 hv with hv | hv
 ·exact h2.ok v hv u' hu' hk
 ·obtain rfl:=zU.1 hv;refine ⟨t,?_,ht,hz⟩;have hl:=h.len;obtain ⟨s,hs,_⟩:=aW.idx (l:=T) (Q:=λ_=>True) h0 zb λ_ _=>trivial;exact (CH hs).1 ⟨rfl,h0⟩
theorem Cj.more {b:Bool} {vs:List aK} {sc:List Int} {T:List aF} (h:Cj b vs sc T) {i:Int} {u:aK} (hu:aZ vs i=some u) (hk:u.bJ ≠ 1):Cj b vs (sc++[i]) T:=
 ⟨h.len,λv hv u' hu' hk'=>by
  rcases yU.1 hv with hv | hv
  ·exact h.ok v hv u' hu' hk'
  ·obtain rfl:=zU.1 hv;rw [hu] at hu';cases hu';exact cM hk' hk⟩
def Dec (s:aA) (i:Nat):Prop:=s.dJ=[108,101,116] ∨ s.dJ=[105,102] ∨ s.dJ=[102,111,114] ∨ (s.dJ=[112,117,116]/\i=0)
structure L2R (vs:List aK) (sc:List Int) (n:Nat) (s:aA) (v:Nat) (y r:aO):Prop where
 e:Er y.e_ r.e_
 c:r.c_={ y.c_ with aX:=r.c_.aX }
 ok:Cj (eb r.e_) vs sc r.c_.aX
 no:s.dJ ≠ [108,101,116]->r.c_.aX=y.c_.aX
 go:s.dJ=[108,101,116]->v<s.aN.length->∃x t,s.aN[v]? = some x/\r.c_.aX=y.c_.aX.set s.fB.toNat t/\tm t<=2000/\Sh (eb r.e_) t/\(r.e_=0->tm (Dn y.c_.aX x)<=2000/\pY n (Dn y.c_.aX x)=some t)/\(r.e_=0->∀k ∈ tv t,k ∈ tv (Dn y.c_.aX x))
 un:s.dJ=[108,101,116]->¬ v<s.aN.length->r.c_.aX=y.c_.aX
 px:r.e_=0->∀i x,v<=i->s.aN[i]? = some x->Dec s i->Kl vs sc x/\tm (Dn y.c_.aX x)<=2000
 lk:r.e_=0->∀i x,v<=i->s.aN[i]? = some x->∀z ∈ lkd x,Kl vs sc z/\tm (Dn y.c_.aX z)<=2000
theorem za1 {vs:List aK} {sc:List Int} {n:Nat} {s:aA} (hx:∀z ∈ s.aN,TX vs sc z) (hp:∀(i:Nat) z,s.aN[i]? = some z->Dec s i->Kl vs sc z) (hv:s.dJ=[108,101,116]->s.aN.length=1/\∃u,aZ vs s.fB=some u) (hb:nG s.aN<=100000000) (hn:nG s.aN+2300<n) :
  ∀(k v:Nat) (y:aO),Cj (eb y.e_) vs sc y.c_.aX->s.aN.length<v+k->v<=s.aN.length->aW (nV n s k (v:Int) y) (L2R vs sc n s v y):=by
 have hlen:=Ca s.aN;intro k
 induction k with
 | zero=>intro v y hT h1 h2;omega
 | succ k ih=>
   intro v y hT h1 h2;unfold nV;refine aW.iteb (λh=>?_) λh=>?_
   rotate_left
   ·have hge:s.aN.length<=v:=by have:=Lj h;omega
    exact .some ⟨.refl _,rfl,hT,λ_=>rfl,λ_ h=>cM h zb,λ_ _=>rfl,λ_ i x hi hx=>(by rw [VH zb] at hx;cases hx),λ_ i x hi hx=>(by rw [VH zb] at hx;cases hx)⟩
   have hlt:v<s.aN.length:=by have:=xG h;omega
   have hg:=yN hlt;have hm:=NY hlt;have hz:=yI hm;have hstep:IntKind.i64.wrap ((v:Int)+1)=((v+1:Nat):Int):=by rw [dB zb zb];omega
   rw [hstep];refine aW.bind (P:=λr=>Er y.e_ r.e_/\r.c_={ y.c_ with aX:=r.c_.aX }/\Cj (eb r.e_) vs sc r.c_.aX/\(s.dJ ≠ [108,101,116]->r.c_.aX=y.c_.aX)/\(s.dJ=[108,101,116]->∃t,r.c_.aX=y.c_.aX.set s.fB.toNat t/\tm t<=2000/\Sh (eb r.e_) t/\(r.e_=0->tm (Dn y.c_.aX s.aN[v])<=2000/\pY n (Dn y.c_.aX s.aN[v])=some t)/\(r.e_=0->∀k ∈ tv t,k ∈ tv (Dn y.c_.aX s.aN[v])))/\(r.e_=0->Dec s v->Kl vs sc s.aN[v]/\tm (Dn y.c_.aX s.aN[v])<=2000)/\(r.e_=0->∀z ∈ lkd s.aN[v],Kl vs sc z/\tm (Dn y.c_.aX z)<=2000)) ?_ λr hr=>?_
   ·refine aW.eqn (pU hg) ?_;refine (zaf n _ y (hx _ hm) hT zb zb).bind λa hak=>?_;obtain ⟨ha,hak⟩:=hak;refine aW.bind (P:=λd=>d=true ↔ Dec s v) ?_ λd hd=>?_
    ·unfold Dec;refine aW.iteb (λh=>.some ⟨λ_=>.inl (xG h),λ_=>rfl⟩) λg1=>aW.iteb (λh=>.some ⟨λ_=>.inr (.inl (xG h)),λ_=>rfl⟩) λg2=>aW.iteb (λh=>.some ⟨λ_=>.inr (.inr (.inl (xG h))),λ_=>rfl⟩) λg3=>?_;have g1:=Lj g1;have g2:=Lj g2;have g3:=Lj g3;refine aW.iteb (λh=>.some ⟨λhv=>.inr (.inr (.inr ⟨xG h,by have:(v:Int)=0:=(by simpa using hv);omega⟩)),λhv=>?_⟩) λg4=>.some ⟨λh=>(nomatch h),λhv=>?_⟩
     ·rcases hv with h | h | h | ⟨_,h⟩
      ·exact cM h g1
      ·exact cM h g2
      ·exact cM h g3
      ·subst h;rfl
     ·have g4:=Lj g4
      rcases hv with h | h | h | ⟨h,_⟩
      ·exact cM h g1
      ·exact cM h g2
      ·exact cM h g3
      ·exact cM h g4
    have hTa:Cj (eb y.e_) vs sc a.c_.aX:=by rw [ha.1];exact hT
    refine aW.iteb (λhd1=>?_) λhd0=>?_
    ·have hdec:=hd.1 hd1;have hpx:=hp v _ hg hdec;refine (QR hTa hpx zb zb).bind λw hw=>?_;obtain ⟨w1,w2,w3,w4⟩:=hw;have hew:=ha.2.trans w2;have hwc:w.2.c_=y.c_:=w1.trans ha.1
     have hpl:w.2.e_=0->tm (Dn y.c_.aX s.aN[v])<=2000/\pY n (Dn y.c_.aX s.aN[v])=some w.1/\Sh (eb y.e_) w.1:=λh0=>by
      rcases w3 with ⟨h1,h2,h3,_⟩ | ⟨_,_,h3⟩
      ·rw [ha.1] at h1 h2;exact ⟨h1,h2,h3⟩
      ·exact cM h0 h3
     refine aW.iteb (λhl=>?_) λhl=>?_
     ·have hl:=xG hl;obtain ⟨_,u,hu⟩:=hv hl;obtain ⟨h0,hu1⟩:=zM hu;refine (aW.idx (Q:=λ_=>True) h0 (by rw [hwc,hT.len];exact hu1) λ_ _=>trivial).bind λ_ _=>?_
      have hsh:Sh (eb w.2.e_) w.1:=by
       rcases w3 with ⟨_,_,h3,_⟩ | ⟨_,h2,h3⟩
       ·exact h3.mono hew.eb
       ·rw [h2];exact .z (zaH.2 h3)
      refine .some ⟨hew,by simp only [hwc],?_,λh=>cM hl h,λ_=>⟨w.1,by simp only [hwc],w4,hsh,λh=>⟨(hpl h).1,(hpl h).2.1⟩,λh=>?_⟩,λh _=>⟨hpx,(hpl h).1⟩,λh=>hak (w2.zero h)⟩
      ·simp only [hwc];exact (hT.mono hew.eb λ_ h=>h).set h0 hsh w4
      ·obtain ⟨q1,q2,_⟩:=hpl h;obtain ⟨r',hr',_,_,k5⟩:=Pv (Jl hT hpx).1 n zb;rw [q2] at hr';cases hr';exact k5
     ·have hl:=Lj hl;exact .some ⟨hew,by rw [hwc],by rw [hwc];exact hT.mono hew.eb λ_ h=>h,λ_=>by rw [hwc],λh=>cM h hl,λh _=>⟨hpx,(hpl h).1⟩,λh=>hak (w2.zero h)⟩
    ·have hnd:¬ Dec s v:=λh=>by rw [hd.2 h] at hd0;cases hd0
     exact .some ⟨ha.2,by rw [ha.1],by rw [ha.1];exact hT.mono ha.2.eb λ_ h=>h,λ_=>by rw [ha.1],λh=>cM (.inl h) hnd,λ_ h=>cM h hnd,hak⟩
   ·obtain ⟨r1,r2,r3,r4,r5,r6,r7⟩:=hr;refine (ih (v+1) r r3 zb zb).mono λz hz=>⟨r1.trans hz.e,by rw [hz.c,r2],hz.ok,λh=>(hz.no h).trans (r4 h),λh _=>?_,λh h'=>cM hlt h',λh0 i x hi hxi hd=>?_,λh0 i x hi hxi z' hz'=>?_⟩
    ·have hl1:=(hv h).1;have hT2:=hz.un h zb;obtain ⟨t,q1,q2,q3,q4,q5⟩:=r5 h;exact ⟨_,t,hg,by rw [hT2,q1],q2,q3.mono hz.e.eb,λh0=>q4 (hz.e.zero h0),λh0=>q5 (hz.e.zero h0)⟩
    ·have hr0:=hz.e.zero h0
     rcases xdz v i with hlt2 | hge
     ·have hnl:s.dJ ≠ [108,101,116]:=λh=>by
       have:=(hv h).1;have:=(xW.1 hxi).1;omega
      obtain ⟨k1,k2⟩:=hz.px h0 i x hlt2 hxi hd;rw [r4 hnl] at k2;exact ⟨k1,k2⟩
     ·obtain rfl:i=v:=zb
      rw [hg] at hxi;cases hxi
      exact r6 hr0 hd
    ·have hr0:=hz.e.zero h0
     rcases xdz v i with hlt2 | hge
     ·have hnl:s.dJ ≠ [108,101,116]:=λh=>by
       have:=(hv h).1;have:=(xW.1 hxi).1;omega
      obtain ⟨k1,k2⟩:=hz.lk h0 i x hlt2 hxi z' hz';rw [r4 hnl] at k2;exact ⟨k1,k2⟩
     ·obtain rfl:i=v:=zb
      rw [hg] at hxi;cases hxi
      exact r7 hr0 z' hz'
def LY (s:aA):List aB:=(if s.dJ=[108,101,116] ∨ s.dJ=[105,102] ∨ s.dJ=[102,111,114] then s.aN else if s.dJ=[112,117,116] then s.aN.take 1 else [])++Kz s.aN
def ltO (s:aA):List (Int × aB):=if s.dJ=[108,101,116] then s.aN.map λx=>(s.fB,x) else []
def DP (s:aA):List Int:=if s.dJ=[102,111,114] then [s.fB] else []
def PC (s:aA):List Int:=if s.dJ=[102,111,114] ∨ s.dJ=[108,101,116] then [s.fB] else []
mutual
def frS:aA->List Int
 | ⟨o,v,f,l,b,e,a⟩=>DP ⟨o,v,f,l,b,e,a⟩++(wZ b++wZ e)
def wZ:List aA->List Int
 | []=>[]
 | s::l=>frS s++wZ l
end
mutual
def dvS:aA->List Int
 | ⟨o,v,f,l,b,e,a⟩=>PC ⟨o,v,f,l,b,e,a⟩++(BX b++BX e)
def BX:List aA->List Int
 | []=>[]
 | s::l=>dvS s++BX l
end
mutual
def pbS:aA->List aB
 | ⟨o,v,f,l,b,e,a⟩=>LY ⟨o,v,f,l,b,e,a⟩++(RD b++RD e)
def RD:List aA->List aB
 | []=>[]
 | s::l=>pbS s++RD l
end
mutual
def ltS:aA->List (Int × aB)
 | ⟨o,v,f,x,b,e,a⟩=>ltO ⟨o,v,f,x,b,e,a⟩++(RE b++RE e)
def RE:List aA->List (Int × aB)
 | []=>[]
 | s::l=>ltS s++RE l
end
theorem ltS_eq (s:aA):ltS s=ltO s++(RE s.bH++RE s.eG):=by cases s;rw [ltS]
theorem Vf (s:aA):frS s=DP s++(wZ s.bH++wZ s.eG):=by cases s;rw [frS]
theorem RT (s:aA):dvS s=PC s++(BX s.bH++BX s.eG):=by cases s;rw [dvS]
theorem pbS_eq (s:aA):pbS s=LY s++(RD s.bH++RD s.eG):=by cases s;rw [pbS]
inductive PV (L:List Int):aB->Prop
 | num {n a}:PV L ⟨[110,117,109],1,n,-1,[],a⟩
 | var {v a}:v ∈ L->PV L ⟨[118,97,114],1,0,v,[],a⟩
 | un {o x a}:(o=[110,111,116] ∨ o=[110,101,103])->PV L x->PV L ⟨o,1,0,-1,[x],a⟩
 | bin {o x y a}:Pt o->PV L x->PV L y->PV L ⟨o,1,0,-1,[x,y],a⟩
theorem Kl.pv {vs:List aK} {sc pl:List Int} (hc:∀v ∈ sc,∀u,aZ vs v=some u->u.bJ=1->v ∈ pl) {x:aB} (h:Kl vs sc x):PV pl x:=by
 induction h with
 | num=>exact .num
 | var h1 h2 h3=>exact .var (hc _ h1 _ h2 h3)
 | un h _ ih=>exact .un h ih
 | bin h _ _ i1 i2=>exact .bin h i1 i2
theorem PV.mono {L L':List Int} (hl:∀v ∈ L,v ∈ L') {x:aB} (h:PV L x):PV L' x:=by
 induction h with
 | num=>exact .num
 | var h=>exact .var (hl _ h)
 | un h _ ih=>exact .un h ih
 | bin h _ _ i1 i2=>exact .bin h i1 i2
theorem Tl {T:List aF} {ty n v a:Int} {l:List aB}:Dn T ⟨[118,97,114],ty,n,v,l,a⟩=(aZ T v).getD tz0:=by rw [Dn,cE zc,cX rfl]
theorem PV.plx {L:List Int} {T T':List aF} (hl:∀v ∈ L,aZ T' v=aZ T v) {x:aB} (h:PV L x):Dn T' x=Dn T x:=by
 induction h with
 | num=>rw [HR,HR]
 | @var v a h=>
   rw [Tl,Tl,hl _ h]
 | un h _ ih=>
   obtain ⟨n1,n2,_⟩:=Sign1.ne h;rw [Dc n1 n2,Dc n1 n2,Bu,Bu,Bu,Bu,ih]
 | bin h _ _ i1 i2=>
   obtain ⟨n1,n2,_⟩:=h.ne;rw [Dc n1 n2,Dc n1 n2,Bu,Bu,Bu,Bu,Bu,Bu,i1,i2]
def QX (T:List aF) (L:List Int) (x:aB):Prop:=PV L x/\Sh false (Dn T x)/\tm (Dn T x)<=2000/\xz x<=50000000
theorem QX.mono {T T':List aF} {L L':List Int} {x:aB} (h:QX T L x) (hl:∀v ∈ L,v ∈ L') (ht:∀v ∈ L,aZ T' v=aZ T v):QX T' L' x:=by
 obtain ⟨h1,h2,h3,h4⟩:=h;refine ⟨h1.mono hl,?_,?_,h4⟩
 ·rw [h1.plx ht];exact h2
 ·rw [h1.plx ht];exact h3
def WL (y:aO):Prop:=Df y.c_.tK/\Df y.c_.kZ/\OL y.c_.tK y.c_.kZ
theorem OL.snoc {lo hi:List Int} {a b:Int} (h:OL lo hi) (hl:lo.length=hi.length) (hab:a<=b):OL (lo++[a]) (hi++[b]):=λi=>by
 by_cases hi':i<lo.length
 ·rw [Py hi',Py zb];exact h i
 ·rw [Mh zb,Mh zb,hl];cases hk:i - hi.length with
  | zero=>exact hab
  | succ k=>simp only [xdy,List.getElem?_nil,Option.getD_none];omega
theorem Df.snoc {l:List Int} {x:Int} (h:Df l) (k:vK x):Df (l++[x]):=λy hy=>by
 rcases yU.1 hy with hy | hy
 ·exact h y hy
 ·rw [zU.1 hy];exact k
def DOk (pl dv:List Int):Prop:=dv.Nodup/\∀v ∈ dv,v ∉ pl/\0<=v
def LtX (T:List aF) (L dv:List Int) (p:Int × aB):Prop:=p.1 ∈ dv/\PV L p.2/\∃t,aZ T p.1=some t/\∀k ∈ tv t,k ∈ tv (Dn T p.2)
theorem LtX.mono {T T':List aF} {L L' dv dv':List Int} {p:Int × aB} (h:LtX T L dv p) (hl:∀v ∈ L,v ∈ L') (hd:∀v ∈ dv,v ∈ dv') (ht:∀v ∈ L,aZ T' v=aZ T v) (ht2:∀v ∈ dv,aZ T' v=aZ T v):LtX T' L' dv' p:=by
 obtain ⟨h0,h1,t,h2,h3⟩:=h;exact ⟨hd _ h0,h1.mono hl,t,by rw [ht2 _ h0];exact h2,by rw [h1.plx ht];exact h3⟩
structure YH (pl dv fr:List Int) (pb:List aB) (lt:List (Int × aB)) (y r:aO):Prop where
 fors:r.c_.gM=y.c_.gM++fr
 low:r.c_.tK.length=y.c_.tK.length+fr.length
 high:r.c_.kZ.length=y.c_.kZ.length+fr.length
 un:∀v,0<=v->v ∉ dv->aZ r.c_.aX v=aZ y.c_.aX v
 sub:∀v ∈ fr,v ∈ dv
 nn:∀v ∈ dv,0<=v
 w:WL y->WL r
 ok:DOk pl dv->(∀v ∈ pl,0<=v)->(∀v ∈ dv,∃t,aZ r.c_.aX v=some t/\Sh false t/\tm t<=2000)/\(∀(k:Nat) v,fr[k]? = some v->aZ r.c_.aX v=some ⟨2,((4+y.c_.gM.length+k:Nat):Int),[]⟩)/\(∀x ∈ pb,QX r.c_.aX (pl++dv) x)/\∀p ∈ lt,LtX r.c_.aX (pl++dv) dv p
theorem YH.refl (pl:List Int) (y:aO):YH pl [] [] [] [] y y:=
 ⟨(Fu _).symm,rfl,rfl,λ_ _ _=>rfl,λ_ h=>h,λ_ h=>(nomatch h),λh=>h,λ_ _=>⟨λ_ h=>(nomatch h),λk v h=>(nomatch h),λ_ h=>(nomatch h),λ_ h=>(nomatch h)⟩⟩
theorem YH.app {pl pl2 dv dv2 fr fr2:List Int} {pb pb2:List aB} {lt lt2:List (Int × aB)} {y d r:aO} (h:YH pl dv fr pb lt y d) (k:YH pl2 dv2 fr2 pb2 lt2 d r) (hp:∀v ∈ pl2,v ∈ pl ∨ v ∈ dv):YH pl (dv++dv2) (fr++fr2) (pb++pb2) (lt++lt2) y r:=by
 refine ⟨by rw [k.fors,h.fors,Mi],by rw [k.low,h.low,oY];omega,by rw [k.high,h.high,oY];omega,λv h0 hv=>?_,λv hv=>?_,λv hv=>?_,λh0=>k.w (h.w h0),λhd hpl=>?_⟩
 ·rw [yU,not_or] at hv;rw [k.un v h0 hv.2,h.un v h0 hv.1]
 ·rcases yU.1 hv with hv | hv
  ·exact GC _ (h.sub v hv)
  ·exact IU _ (k.sub v hv)
 ·rcases yU.1 hv with hv | hv
  ·exact h.nn v hv
  ·exact k.nn v hv
 ·obtain ⟨d1,d2⟩:=hd;obtain ⟨n1,n2,n3⟩:=List.nodup_append.1 d1;obtain ⟨a1,a2,a3,a4⟩:=h.ok ⟨n1,λv hv=>d2 v (GC _ hv)⟩ hpl
  obtain ⟨b1,b2,b3,b4⟩:=k.ok ⟨n2,λv hv=>by
   obtain ⟨c1,c2⟩:=d2 v (IU _ hv);refine ⟨λhv2=>?_,c2⟩
   rcases hp v hv2 with h5 | h5
   ·exact c1 h5
   ·exact n3 v h5 v hv rfl⟩ (λv hv=>by
    rcases hp v hv with h5 | h5
    ·exact hpl v h5
    ·exact h.nn v h5)
  have hun:∀v,v ∈ dv->v ∉ dv2:=λv h5 h6=>n3 v h5 v h6 rfl
  have pr1:∀v ∈ pl++dv,v ∈ pl++(dv++dv2):=λv hv=>by
   rcases yU.1 hv with hv | hv
   ·exact GC _ hv
   ·exact IU _ (GC _ hv)
  have pr2:∀v ∈ pl++dv,aZ r.c_.aX v=aZ d.c_.aX v:=λv hv=>by
   rcases yU.1 hv with hv | hv
   ·exact k.un v (hpl v hv) λh6=>(d2 v (IU _ h6)).1 hv
   ·exact k.un v (h.nn v hv) (hun v hv)
  have pr3:∀v ∈ pl2++dv2,v ∈ pl++(dv++dv2):=λv hv=>by
   rcases yU.1 hv with hv | hv
   ·rcases hp v hv with h5 | h5
    ·exact GC _ h5
    ·exact IU _ (GC _ h5)
   ·exact IU _ (IU _ hv)
  refine ⟨λv hv=>?_,λj v hj=>?_,λx hx=>?_,λp hp=>?_⟩
  ·rcases yU.1 hv with hv | hv
   ·rw [k.un v (h.nn v hv) (hun v hv)];exact a1 v hv
   ·exact b1 v hv
  ·rcases xdz j fr.length with hlt | hge
   ·rw [Py hlt] at hj;have hm:=h.sub v (GB hj);rw [k.un v (h.nn v hm) (hun v hm)];exact a2 j v hj
   ·rw [Mh hge] at hj;rw [b2 _ v hj,h.fors,oY]
    congr 3;omega
  ·rcases yU.1 hx with hx | hx
   ·exact (a3 x hx).mono pr1 pr2
   ·exact (b3 x hx).mono pr3 λv hv=>rfl
  ·rcases yU.1 hp with hp | hp
   ·exact (a4 p hp).mono pr1 (λv hv=>GC _ hv) pr2 λv hv=>pr2 v (IU _ hv)
   ·exact (b4 p hp).mono pr3 (λv hv=>IU _ hv) (λv hv=>rfl) λv hv=>rfl
def Gz (y:aO) (m:Nat):Prop:=y.c_.gM.length+m<=250/\(y.c_.tK.length=4+y.c_.gM.length/\y.c_.kZ.length=4+y.c_.gM.length)/\WL y
abbrev Pr:=List aA->aO->aO->Prop
structure BkC (XR:Pr) (vs:List aK) (sc sc' pl:List Int) (ss:List aA) (y r:aO):Prop where
 e:Er y.e_ r.e_
 t1:Cj (eb r.e_) vs sc r.c_.aX
 ok:r.e_=0->Cj false vs sc' r.c_.aX/\YH pl (BX ss) (wZ ss) (RD ss) (RE ss) y r/\XR ss y r
theorem Gz.app {pl dv fr:List Int} {pb:List aB} {lt:List (Int × aB)} {y r:aO} {m:Nat} (h:Gz y (fr.length+m)) (k:YH pl dv fr pb lt y r):Gz r m:=by
 obtain ⟨h1,⟨h2,h3⟩,hw⟩:=h;have h4:=DI List.length k.fors;rw [oY] at h4;have h5:=k.low;have h6:=k.high;exact ⟨zb,⟨zb,zb⟩,k.w hw⟩
theorem Gz.less {y:aO} {m m':Nat} (h:Gz y m) (hm:m'<=m):Gz y m':=⟨by have:=h.1;omega,h.2⟩
theorem zae {vs:List aK} {sc:List Int} {n:Nat} {y:aO} {v:Int} {f a:Int} {x z:aB} {b e:List aA} {u:aK} (hT:Cj false vs sc y.c_.aX) (hx:Kl vs sc x) (hz:Kl vs sc z) (hu:aZ vs v=some u) (hL:Gz y 1) (hbx:xz x<=50000000) (hbz:xz z<=50000000) (hn:50003000<n) :
  aW (mF n y ⟨[102,111,114],v,f,[x,z],b,e,a⟩) λr=>r.e_=y.e_/\r.c_.aX=y.c_.aX.set v.toNat ⟨2,((4+y.c_.gM.length:Nat):Int),[]⟩/\r.c_.gM=y.c_.gM++[v]/\∃s1 s2,fM n y.c_ x=some s1/\fM n y.c_ z=some s2/\r.c_.tK=y.c_.tK++[s1.1]/\r.c_.kZ=y.c_.kZ++[max s1.1 (IntKind.u32.wrap (max s2.2 1 - 1))]/\WL r:=by
 unfold mF;obtain ⟨l1,⟨l2,l3⟩,w1,w2,w3⟩:=hL;obtain ⟨h0,hu1⟩:=zM hu;refine aW.eqn KY ?_;refine (Ot hT hx zb w1 w2 w3 (n:=n) zb).bind λs1 ⟨e1,u1,_⟩=>?_;refine aW.eqn (v:=z) rfl ?_;refine (Ot hT hz zb w1 w2 w3 (n:=n) zb).bind λs2 ⟨e2,_,u2⟩=>?_;refine aW.eqn (v:=⟨2,((4+y.c_.gM.length:Nat):Int),[]⟩) ?_ ?_
 ·unfold Cc;rw [dB zb zb,IntKind.wrap_u32]
  congr 2;omega
 refine (aW.idx (Q:=λ_=>True) h0 (by rw [hT.len];exact hu1) λ_ _=>trivial).bind λ_ _=>?_;refine aW.need (by simp only [vO];omega) (aW.need (by simp only [vO];omega) (aW.need (by simp only [vO];omega) (.some ⟨rfl,rfl,rfl,s1,s2,e1,e2,rfl,rfl,w1.snoc u1,w2.snoc (by have hw:=vK.wrap (max s2.2 1 - 1);unfold vK at u1 hw ⊢;omega),w3.snoc zb zb⟩)))
theorem dec_mem {s:aA} {x:aB} (h:x ∈ LY s):(∃i:Nat,s.aN[i]? = some x/\Dec s i) ∨ ∃(i:Nat) (z:aB),s.aN[i]? = some z/\x ∈ lkd z:=by
 unfold LY at h
 rcases yU.1 h with h | h
 rotate_left
 ·obtain ⟨z,h1,h2⟩:=zai h;obtain ⟨i,hi⟩:=xem h1;exact .inr ⟨i,z,hi,h2⟩
 refine .inl ?_
 split at h
 ·rename_i ho;obtain ⟨i,hi⟩:=xem h;refine ⟨i,hi,?_⟩
  rcases ho with ho | ho | ho
  ·exact .inl ho
  ·exact .inr (.inl ho)
  ·exact .inr (.inr (.inl ho))
 ·split at h
  ·rename_i ho;cases hl:s.aN with
   | nil=>rw [hl] at h;cases h
   | cons z l=>
     rw [hl] at h;have h:x ∈ [z]:=h;rw [zU.1 h];exact ⟨0,rfl,.inr (.inr (.inr ⟨ho,rfl⟩))⟩
  ·cases h
mutual
theorem zah:∀x:aB,∀z ∈ lkd x,xz z<=xz x
 | ⟨o,ty,n,v,l,a⟩=>λz hz=>by
   rw [RF] at hz;rw [xz]
   rcases yU.1 hz with hz | hz
   ·have:=Wb l z hz;omega
   ·split at hz
    ·have:=yI hz;simp only at this;omega
    ·cases hz
theorem Wb:∀l:List aB,∀z ∈ Kz l,xz z<=nG l
 | []=>λz hz=>by rw [Kz] at hz;cases hz
 | x::l=>λz hz=>by
   rw [Kz] at hz;rw [nG]
   rcases yU.1 hz with hz | hz
   ·have:=zah x z hz;omega
   ·have:=Wb l z hz;omega
end
theorem zaJ {vs:List aK} {sc pl:List Int} {n:Nat} {s:aA} {y r:aO} (hT:Cj false vs sc y.c_.aX) (hc:∀v ∈ sc,∀u,aZ vs v=some u->u.bJ=1->v ∈ pl) (hb:nG s.aN<=50000000) (h:L2R vs sc n s 0 y r) (h0:r.e_=0):∀x ∈ LY s,QX y.c_.aX pl x:=by
 intro x hx
 rcases dec_mem hx with ⟨i,hi,hd⟩ | ⟨i,z,hi,hd⟩
 ·obtain ⟨p1,p2⟩:=h.px h0 i x (Ko _) hi hd;have:=yI (GB hi);exact ⟨p1.pv hc,(Jl hT p1).1,p2,zb⟩
 ·obtain ⟨p1,p2⟩:=h.lk h0 i z (Ko _) hi x hd;have:=yI (GB hi);have:=zah z x hd;exact ⟨p1.pv hc,(Jl hT p1).1,p2,zb⟩
theorem ZM {vs:List aK} {sc pl:List Int} {n:Nat} {s:aA} {y r:aO} (hT:Cj false vs sc y.c_.aX) (hc:∀v ∈ sc,∀u,aZ vs v=some u->u.bJ=1->v ∈ pl) (hb:nG s.aN<=50000000) (h:L2R vs sc n s 0 y r) (h0:r.e_=0) (hf:s.dJ ≠ [102,111,114]) (hl:s.dJ=[108,101,116]->s.aN.length=1/\∃u,aZ vs s.fB=some u):YH pl (PC s) (DP s) (LY s) (ltO s) y r:=by
 have hq:=zaJ hT hc hb h h0;have hcc:=h.c;unfold PC DP ltO;rw [cE hf]
 by_cases ho:s.dJ=[108,101,116]
 ·rw [cX (.inr ho),cX ho];obtain ⟨l1,u,hu⟩:=hl ho;obtain ⟨b0,b1⟩:=zM hu;obtain ⟨x,t,g1,g2,g3,g4,g5,g6⟩:=h.go ho zb
  have hun:∀v,0<=v->v ∉ [s.fB]->aZ r.c_.aX v=aZ y.c_.aX v:=λv hv hv2=>by
   rw [g2];have hne:s.fB.toNat ≠ v.toNat:=λe=>hv2 (zU.2 zb);cases hi:aZ y.c_.aX v with
   | some w=>exact (CH hi).2 hne
   | none=>
     unfold aZ at hi ⊢;rw [cX hv] at hi ⊢;rw [Uv hne];exact hi
  refine ⟨by rw [hcc,Fu],by rw [hcc];rfl,by rw [hcc];rfl,hun,λ_ h=>(nomatch h),λv hv=>by rw [zU.1 hv];exact b0,λh=>by unfold WL at *;rw [hcc];exact h,λhd hpl=>⟨λv hv=>?_,λk v h=>(nomatch h),λx hx=>?_,λp hp=>?_⟩⟩
  ·rw [zU.1 hv,g2];obtain ⟨w,hw,_⟩:=aW.idx (l:=y.c_.aX) (Q:=λ_=>True) b0 (by rw [hT.len];exact b1) λ_ _=>trivial;exact ⟨t,(CH hw).1 ⟨rfl,b0⟩,by rw [DE.2 h0] at g4;exact g4,g3⟩
  ·exact (hq x hx).mono (λv hv=>GC _ hv) λv hv=>hun v (hpl v hv) λh6=>(hd.2 v h6).1 hv
  ·obtain ⟨w,hw,_⟩:=aW.idx (l:=y.c_.aX) (Q:=λ_=>True) b0 (by rw [hT.len];exact b1) λ_ _=>trivial;obtain ⟨x2,hx2,rfl⟩:=Qo.1 hp
   have hxx:x2=x:=by
    obtain ⟨z,hz⟩:=OH l1;rw [hz] at g1 hx2;cases g1;exact zU.1 hx2
   subst hxx;have hqx:=hq x2 (GC _ (by rw [cX (.inl ho)];exact hx2));refine ⟨zU.2 rfl,hqx.1.mono λv hv=>GC _ hv,t,by rw [g2];exact (CH hw).1 ⟨rfl,b0⟩,?_⟩;show ∀k ∈ tv t,k ∈ tv (Dn r.c_.aX x2);rw [hqx.1.plx λv hv=>hun v (hpl v hv) λh6=>(hd.2 v h6).1 hv];exact g6 h0
 ·rw [cE (by rintro (h | h);exact hf h;exact ho h),cE ho];have hTT:=h.no ho;refine ⟨by rw [hcc,Fu],by rw [hcc];rfl,by rw [hcc];rfl,λv _ _=>by rw [hTT],λ_ h=>(nomatch h),λ_ h=>(nomatch h),λh=>by unfold WL at *;rw [hcc];exact h,λhd hpl=>⟨λv hv=>(nomatch hv),λk v h=>(nomatch h),λx hx=>?_,λp hp=>(nomatch hp)⟩⟩;exact (hq x hx).mono (λv hv=>GC _ hv) λv hv=>by rw [hTT]
theorem own_for {vs:List aK} {sc pl:List Int} {n:Nat} {s:aA} {y a r:aO} (hT:Cj false vs sc y.c_.aX) (hc:∀v ∈ sc,∀u,aZ vs v=some u->u.bJ=1->v ∈ pl) (hb:nG s.aN<=50000000) (h:L2R vs sc n s 0 y a) (h0:a.e_=0) (hf:s.dJ=[102,111,114]) {u:aK} (hu:aZ vs s.fB=some u) (hL:y.c_.gM.length<=249)
  (r1:r.c_.aX=a.c_.aX.set s.fB.toNat ⟨2,((4+a.c_.gM.length:Nat):Int),[]⟩) (r2:r.c_.gM=a.c_.gM++[s.fB]) (r3:r.c_.tK.length=a.c_.tK.length+1) (r4:r.c_.kZ.length=a.c_.kZ.length+1) (r5:WL r):YH pl (PC s) (DP s) (LY s) (ltO s) y r:=by
 have hq:=zaJ hT hc hb h h0;have hcc:=h.c;have hTT:=h.no (by rw [hf];decide);have hF:a.c_.gM=y.c_.gM:=by rw [hcc]
 unfold PC DP ltO;rw [cX hf,cX (.inl hf),cE (by rw [hf];decide)];obtain ⟨b0,b1⟩:=zM hu;rw [hTT,hF] at r1
 have hun:∀v,0<=v->v ∉ [s.fB]->aZ r.c_.aX v=aZ y.c_.aX v:=λv hv hv2=>by
  rw [r1];have hne:s.fB.toNat ≠ v.toNat:=λe=>hv2 (zU.2 zb);cases hi:aZ y.c_.aX v with
  | some w=>exact (CH hi).2 hne
  | none=>
    unfold aZ at hi ⊢;rw [cX hv] at hi ⊢;rw [Uv hne];exact hi
 have hat:aZ r.c_.aX s.fB=some ⟨2,((4+y.c_.gM.length:Nat):Int),[]⟩:=by
  rw [r1];obtain ⟨w,hw,_⟩:=aW.idx (l:=y.c_.aX) (Q:=λ_=>True) b0 (by rw [hT.len];exact b1) λ_ _=>trivial;exact (CH hw).1 ⟨rfl,b0⟩
 refine ⟨by rw [r2,hF],by rw [r3,hcc];rfl,by rw [r4,hcc];rfl,hun,λ_ h=>h,λv hv=>by rw [zU.1 hv];exact b0,λ_=>r5,λhd hpl=>⟨λv hv=>?_,λk v hk=>?_,λx hx=>?_,λp hp=>(nomatch hp)⟩⟩
 ·rw [zU.1 hv];exact ⟨_,hat,.var zb zb,by rw [tm,wY];omega⟩
 ·cases k with
  | zero=>injection hk with hk;subst hk;exact hat
  | succ k=>cases hk
 ·exact (hq x hx).mono (λv hv=>GC _ hv) λv hv=>hun v (hpl v hv) λh6=>(hd.2 v h6).1 hv
abbrev Bf:=aO->List aA->Option aO
def TE (f:Bf) (n:Nat) (s:aA) (y:aO):Option (aO ⊕ aO):=
 (nV n s n (0:Int) y).bind λy20=>
 (if (y20.e_ == (0:Int))=true then some (decide (s.dJ=[102,111,114])) else some false).bind λy79=>
 if y79=true then
  (mF n y20 s).bind λx85=>
  if (x85.e_ != (0:Int))=true then some (.inr x85) else
   (f x85 s.bH).bind λx88=>(f x88 s.eG).bind λx90=>some (.inl x90)
 else if (y20.e_ != (0:Int))=true then some (.inr y20) else
  (f y20 s.bH).bind λx93=>(f x93 s.eG).bind λx95=>some (.inl x95)
theorem RK {f:Bf} {n:Nat} {full:List aA} {k v:Nat} {s:aA} {y:aO} {Q:aO ⊕ aO->Prop} (hg:full[v]? = some s) (hl:full.length<=100000000)
  (h:aW (TE f n s y) λz=>(∀d,z=.inl d->aW (iK f n full k ((v+1:Nat):Int) d) Q)/\∀d,z=.inr d->Q (.inr d)):aW (iK f n full (k+1) (v:Int) y) Q:=by
 have hlt:=(xW.1 hg).1;unfold iK;refine aW.iteb (λ_=>?_) λh=>cM h (by rw [Ah zb];decide);refine aW.bind (aW.eqn (pU hg) h) λz hz=>?_;rw [show IntKind.i64.wrap ((v:Int)+1)=((v+1:Nat):Int) by rw [dB zb zb];omega];exact aW.elim (λd e=>hz.1 d e) λd e=>.some (hz.2 d e)
section
variable {vs:List aK} {sc pl:List Int} {n:Nat} {s:aA} {y:aO} {f:Bf}
def FSp (n:Nat) (x z:aB) (a r:aO):Prop:=∃s1 s2,fM n a.c_ x=some s1/\fM n a.c_ z=some s2/\r.c_.tK=a.c_.tK++[s1.1]/\r.c_.kZ=a.c_.kZ++[max s1.1 (IntKind.u32.wrap (max s2.2 1 - 1))]
structure Ua (vs:List aK) (sc:List Int) (s:aA):Prop where
 tx:∀z ∈ s.aN,TX vs sc z
 px:∀(i:Nat) z,s.aN[i]? = some z->Dec s i->Kl vs sc z
 lt:s.dJ=[108,101,116]->s.aN.length=1/\∃u,aZ vs s.fB=some u
theorem Wm (h:Ua vs sc s) (hT:Cj (eb y.e_) vs sc y.c_.aX) (hb:nG s.aN<=50000000) (hn:100003000<n) (hf:s.dJ ≠ [102,111,114]) {Q:aO ⊕ aO->Prop}
  (h1:∀a,L2R vs sc n s 0 y a->a.e_ ≠ 0->Q (.inr a)) (h2:∀a,L2R vs sc n s 0 y a->a.e_=0->aW ((f a s.bH).bind λx=>(f x s.eG).bind λx=>some (.inl x)) Q):aW (TE f n s y) Q:=by
 have hlen:=Ca s.aN;unfold TE;refine (za1 h.tx h.px h.lt zb zb n 0 y hT zb zb).bind λa ha=>?_;refine aW.bind (P:=λc=>c=false) ?_ λc hc=>?_
 ·exact aW.iteb (λ_=>.some (SB hf)) λ_=>.some rfl
 subst hc;rw [cE zc];refine aW.iteb (λh0=>.some (h1 a ha (by simpa using h0))) λh0=>h2 a ha (by simpa using h0)
theorem zav (h:Ua vs sc s) (hT:Cj (eb y.e_) vs sc y.c_.aX) (hb:nG s.aN<=50000000) (hn:100003000<n) {x z:aB} (hs:s=⟨[102,111,114],s.fB,s.iO,[x,z],s.bH,s.eG,s.gI⟩) {u:aK} (hu:aZ vs s.fB=some u) (hL:y.e_=0->Gz y 1) {Q:aO ⊕ aO->Prop}
  (h1:∀a,L2R vs sc n s 0 y a->a.e_ ≠ 0->Q (.inr a)) (h2:∀a r,L2R vs sc n s 0 y a->a.e_=0->r.e_=0->r.c_.aX=a.c_.aX.set s.fB.toNat ⟨2,((4+a.c_.gM.length:Nat):Int),[]⟩->r.c_.gM=a.c_.gM++[s.fB]->r.c_.tK.length=a.c_.tK.length+1->r.c_.kZ.length=a.c_.kZ.length+1->WL r->FSp n x z a r->aW ((f r s.bH).bind λx=>(f x s.eG).bind λx=>some (.inl x)) Q):aW (TE f n s y) Q:=by
 have hlen:=Ca s.aN;have hop:s.dJ=[102,111,114]:=by rw [hs]
 have hli:s.aN=[x,z]:=by rw [hs]
 unfold TE;refine (za1 h.tx h.px h.lt zb zb n 0 y hT zb zb).bind λa ha=>?_;refine aW.iteb (b:=a.e_ == 0) (x:=some (decide (s.dJ=[102,111,114]))) (y:=some false) (Q:=λc=>c=(a.e_ == 0)) (λh0=>.some ?_) (λh0=>.some ?_) |>.bind λc hc=>?_
 ·rw [h0];exact Ah hop
 ·rw [h0]
 subst hc;refine aW.iteb (λh0=>?_) λh0=>?_
 ·have h0:a.e_=0:=by simpa using h0
  have hy0:=ha.e.zero h0;have hTT:=ha.no (by rw [hop];decide);have hTy:Cj false vs sc y.c_.aX:=by rw [DE.2 hy0] at hT;exact hT
  have hxz:xz x<=50000000/\xz z<=50000000:=by
   rw [hli] at hb;rw [nG,nG] at hb;omega
  have px:=h.px 0 x (by rw [hli];rfl) (.inr (.inr (.inl hop)));have pz:=h.px 1 z (by rw [hli];rfl) (.inr (.inr (.inl hop)))
  have hLa:Gz a 1:=by
   have:=hL hy0;unfold Gz WL at this ⊢;rw [ha.c];exact this
  have hloop:=zae (n:=n) (y:=a) (f:=s.iO) (a:=s.gI) (b:=s.bH) (e:=s.eG) (by rw [hTT];exact hTy) px pz hu hLa hxz.1 hxz.2 zb;rw [←hs] at hloop;refine hloop.bind λr hr=>?_;obtain ⟨r1,r2,r3,s1,s2,q1,q2,r4,r5,r6⟩:=hr;rw [r1];rw [cE (by rw [h0];decide)];exact h2 a r ha h0 (by rw [r1];exact h0) r2 r3 (by rw [r4,oY];rfl) (by rw [r5,oY];rfl) r6 ⟨s1,s2,q1,q2,r4,r5⟩
 ·have h0:a.e_ ≠ 0:=by simpa using h0
  rw [cX (by simpa using h0)];exact .some (h1 a ha h0)
end
structure XOk (XR:Pr) (vs:List aK):Prop where
 nil:∀y,XR [] y y
 simple:∀ {sc n s l y a r},Ua vs sc s->s.dJ ≠ [102,111,114]->s.bH=[]->s.eG=[]->Cj false vs sc y.c_.aX->nG s.aN<=50000000->100003000<n->L2R vs sc n s 0 y a->a.e_=0->XR l a r->XR (s::l) y r
 Ln:∀ {sc n s l y a c d r},Ua vs sc s->s.dJ=[105,102]->Cj false vs sc y.c_.aX->L2R vs sc n s 0 y a->a.e_=0->XR s.bH a c->XR s.eG c d->XR l d r->XR (s::l) y r
 Ba:∀ {sc n v x z b fW l y a w c d r},Ua vs sc ⟨[102,111,114],v,0,[x,z],b,[],fW⟩->Cj false vs sc y.c_.aX->xz x<=50000000->xz z<=50000000->100003000<n->L2R vs sc n ⟨[102,111,114],v,0,[x,z],b,[],fW⟩ 0 y a->a.e_=0->Gz y 1->w.c_.aX=a.c_.aX.set v.toNat ⟨2,((4+a.c_.gM.length:Nat):Int),[]⟩->(∃u,aZ vs v=some u)->FSp n x z a w->XR b w c->XR [] c d->XR l d r->XR (⟨[102,111,114],v,0,[x,z],b,[],fW⟩::l) y r
theorem Wz {n:Nat} {y:aO}:hY (n+2) y []=some y:=rfl
theorem yW (s:aA) (l:List aA):wF (s::l)=1+nG s.aN+wF s.bH+wF s.eG+wF l:=by rw [wF,Bz]
theorem Eu (s:aA) (l:List aA):BX (s::l)=PC s++(BX s.bH++(BX s.eG++BX l))/\wZ (s::l)=DP s++(wZ s.bH++(wZ s.eG++wZ l))/\RD (s::l)=LY s++(RD s.bH++(RD s.eG++RD l))/\RE (s::l)=ltO s++(RE s.bH++(RE s.eG++RE l)):=by
 rw [BX,wZ,RD,RE,RT,Vf,pbS_eq,ltS_eq];simp only [Mi,and_self]
def Mf (XR:Pr) (vs:List aK) (sc sc':List Int) (ss:List aA):Prop:=
 ∀(n:Nat) (pl:List Int),100005000+wF ss<=n->wF ss<=50000000->(∀v ∈ sc,∀u,aZ vs v=some u->u.bJ=1->v ∈ pl) ->
  ∀(full:List aA) (k v:Nat) (y:aO),full.drop v=ss->v<=full.length->full.length<=100000000->ss.length<k->Cj (eb y.e_) vs sc y.c_.aX->(y.e_=0->Gz y (wZ ss).length) ->
   aW (iK (hY n) n full k (v:Int) y) λz=>BkC XR vs sc sc' pl ss y (z.elim id id)
theorem Mf.blk {XR:Pr} {vs:List aK} {sc sc':List Int} {ss:List aA} (h:Mf XR vs sc sc' ss) {n:Nat} {pl:List Int} (hn:100005001+wF ss<=n) (hz:wF ss<=50000000) (hc:∀v ∈ sc,∀u,aZ vs v=some u->u.bJ=1->v ∈ pl) {y:aO} (hT:Cj (eb y.e_) vs sc y.c_.aX) (hL:y.e_=0->Gz y (wZ ss).length) :
  aW (hY n y ss) (BkC XR vs sc sc' pl ss y):=by
 have hlen:=JS ss;obtain ⟨m,rfl⟩:∃m,n=m+1:=⟨n - 1,zb⟩;show aW (oQ (hY m) m y ss) _;unfold oQ;refine (h m pl zb hz hc ss m 0 y rfl (Ko _) zb zb hT hL).bind λz hz=>?_;cases z with
 | inl r=>exact .some hz
 | inr r=>exact .some hz
theorem LX {α:Type} {full:List α} {v:Nat} {s:α} {l:List α} (h:full.drop v=s::l):full[v]? = some s/\full.drop (v+1)=l/\v+1<=full.length:=by
 have h1:full[v]? = some s:=by rw [←xdx,h];rfl
 refine ⟨h1,?_,(xW.1 h1).1⟩;rw [←List.tail_drop,h];rfl
section
variable {XR:Pr} {vs:List aK} {sc sc2 sc':List Int} {s:aA} {l:List aA}
theorem At (hX:XOk XR vs) (h:Ua vs sc s) (hf:s.dJ ≠ [102,111,114]) (hB:s.bH=[]) (hE:s.eG=[]) (hsub:∀v ∈ sc,v ∈ sc2) (hnew:∀b T,Cj b vs sc T->s.dJ ≠ [108,101,116]->Cj b vs sc2 T) (hlet:s.dJ=[108,101,116]->sc2=sc++[s.fB]) (hpub:s.dJ ≠ [108,101,116]->∀v ∈ sc2,v ∈ sc ∨ ∃u,aZ vs v=some u/\u.bJ ≠ 1) (hR:Mf XR vs sc2 sc' l):Mf XR vs sc sc' (s::l):=by
 intro n pl hn hz hc full k v y hd hv hl hk hT hL;obtain ⟨g1,g2,g3⟩:=LX hd;obtain ⟨k,rfl⟩:∃j,k=j+1:=⟨k - 1,by rw [qB] at hk;omega⟩;rw [yW,hB,hE,wF] at hn hz;obtain ⟨d1,d2,d3,d4⟩:=Eu s l;rw [hB,hE,BX,AE,AE] at d1;rw [hB,hE,wZ,AE,AE] at d2;rw [hB,hE,RD,AE,AE] at d3;rw [hB,hE,RE,AE,AE] at d4;have hfr:DP s=[]:=by unfold DP;rw [cE hf]
 refine RK g1 hl (Wm h hT zb zb hf (λa ha h0=>⟨λd e=>(nomatch e),λd e=>?_⟩) λa ha h0=>?_)
 ·cases e;exact ⟨ha.e,ha.ok,λh1=>cM h1 h0⟩
 ·rw [hB,hE];obtain ⟨m,rfl⟩:∃m,n=m+2:=⟨n - 2,zb⟩;rw [Wz,iX,Wz,iX];refine .some ⟨λd e=>?_,λd e=>(nomatch e)⟩;cases e;have hy0:=ha.e.zero h0;have hTy:Cj false vs sc y.c_.aX:=by rw [DE.2 hy0] at hT;exact hT
  have hown:=ZM (pl:=pl) hTy hc zb ha h0 hf h.lt
  have hT2:Cj (eb a.e_) vs sc2 a.c_.aX:=by
   by_cases ho:s.dJ=[108,101,116]
   ·rw [hlet ho];obtain ⟨l1,u,hu⟩:=h.lt ho;obtain ⟨x,t,_,q2,q3,q4,_⟩:=ha.go ho zb;rw [q2,DE.2 h0] at *;exact hTy.snoc hu q4 q3
   ·exact hnew _ _ ha.ok ho
  refine (hR (m+2) (pl++PC s) zb zb (λw hw u hu hku=>?_) full k (v+1) a g2 g3 hl (by rw [qB] at hk;omega) hT2 λ_=>?_).mono λz hz=>?_
  ·by_cases ho:s.dJ=[108,101,116]
   ·rw [hlet ho] at hw
    rcases yU.1 hw with hw | hw
    ·exact GC _ (hc w hw u hu hku)
    ·refine IU _ ?_;unfold PC;rw [cX (.inr ho)];exact hw
   ·rcases hpub ho w hw with hw | ⟨u',hu',hk'⟩
    ·exact GC _ (hc w hw u hu hku)
    ·rw [hu] at hu';cases hu';exact cM hku hk'
  ·have hLy:=hL hy0;rw [d2,hfr,AE] at hLy;exact Gz.app (fr:=DP s) (by rw [hfr,sY,Lk];exact hLy) hown
  ·refine ⟨ha.e.trans hz.e,hz.t1.mono (λe=>e) hsub,λhr=>?_⟩;obtain ⟨z1,z2,z3⟩:=hz.ok hr;refine ⟨z1,?_,hX.simple h hf hB hE hTy zb zb ha h0 z3⟩;rw [d1,d2,d3,d4];exact hown.app z2 λw hw=>yU.1 hw
theorem QL {scb scb' sce':List Int} {pl plb:List Int} {n k v:Nat} {full:List aA} {y r:aO} {dv0 fr0:List Int} {pb0:List aB} (hB:Mf XR vs scb scb' s.bH) (hE:Mf XR vs sc sce' s.eG) (hR:Mf XR vs sc sc' l)
  (hn:100005000+wF (s::l)<=n) (hz:wF (s::l)<=50000000) (hc:∀v ∈ sc,∀u,aZ vs v=some u->u.bJ=1->v ∈ pl) (hcb:∀v ∈ scb,∀u,aZ vs v=some u->u.bJ=1->v ∈ plb) (hsb:∀v ∈ sc,v ∈ scb) (hsb':∀v ∈ scb,v ∈ scb') (hse':∀v ∈ sc,v ∈ sce')
  (g2:full.drop (v+1)=l) (g3:v+1<=full.length) (hl:full.length<=100000000) (hk:l.length<k) (her:Er y.e_ r.e_) (hr0:r.e_=0) (hT:Cj false vs scb r.c_.aX) (hL:Gz r ((wZ s.bH).length+((wZ s.eG).length+(wZ l).length)))
  {lt0:List (Int × aB)} (hown:YH pl dv0 fr0 pb0 lt0 y r) (hx:∀c d z,XR s.bH r c->XR s.eG c d->XR l d z->XR (s::l) y z) (hpb:∀v ∈ plb,v ∈ pl ∨ v ∈ dv0) (hpp:∀v ∈ pl,v ∈ plb) (hdl:BX (s::l)=dv0++(BX s.bH++(BX s.eG++BX l))) (hfl:wZ (s::l)=fr0++(wZ s.bH++(wZ s.eG++wZ l))) (hpl:RD (s::l)=pb0++(RD s.bH++(RD s.eG++RD l))) (hlt:RE (s::l)=lt0++(RE s.bH++(RE s.eG++RE l))) :
  aW ((hY n r s.bH).bind λx=>(hY n x s.eG).bind λx=>some (.inl x)) λz=>(∀d,z=.inl d->aW (iK (hY n) n full k ((v+1:Nat):Int) d) λz=>BkC XR vs sc sc' pl (s::l) y (z.elim id id))/\∀d,z=(.inr d:aO ⊕ aO)->BkC XR vs sc sc' pl (s::l) y ((.inr d:aO ⊕ aO).elim id id):=by
 rw [yW] at hn hz;refine (hB.blk (pl:=plb) zb zb hcb (by rw [DE.2 hr0];exact hT) λ_=>hL.less zb).bind λc hcc=>?_;have hTc:Cj (eb c.e_) vs sc c.c_.aX:=hcc.t1.mono (λe=>e) hsb;refine (hE.blk (pl:=pl) zb zb hc hTc λh0=>?_).bind λd hdd=>?_
 ·exact (Gz.app (hL.less (m':=(wZ s.bH).length+(wZ s.eG).length) zb) (hcc.ok h0).2.1)
 refine .some ⟨λd' e=>?_,λd' e=>(nomatch e)⟩;cases e;refine (hR n pl zb zb hc full k (v+1) d g2 g3 hl hk hdd.t1 λh0=>?_).mono λz hz=>?_
 ·have hc0:=hdd.e.zero h0;exact Gz.app (Gz.app hL (hcc.ok hc0).2.1) (hdd.ok h0).2.1
 ·refine ⟨her.trans (hcc.e.trans (hdd.e.trans hz.e)),hz.t1,λhr=>?_⟩;obtain ⟨z1,z2,z3⟩:=hz.ok hr;have hd0:=hz.e.zero hr;have hc0:=hdd.e.zero hd0;refine ⟨z1,?_,hx c d _ (hcc.ok hc0).2.2 (hdd.ok hd0).2.2 z3⟩;rw [hdl,hfl,hpl,hlt];exact hown.app ((hcc.ok hc0).2.1.app ((hdd.ok hd0).2.1.app z2 λw hw=>.inl hw) λw hw=>.inl (hpp w hw)) hpb
theorem UA {P:aB->Prop} {x z:aB} (h:P x) (k:P z):∀u ∈ [x,z],P u:=λu hu=>by
 rcases Di.1 hu with rfl | hu
 ·exact h
 ·rw [zU.1 hu];exact k
theorem MA {P:aB->Prop} {x:aB} (h:P x):∀u ∈ [x],P u:=λu hu=>by rw [zU.1 hu];exact h
theorem get_two {P:aB->Prop} {x z:aB} (h:P x) (k:P z):∀(i:Nat) u,[x,z][i]? = some u->P u:=λi u hu=>UA h k u (GB hu)
theorem Wn {P:aB->Prop} {x:aB} (h:P x):∀(i:Nat) u,[x][i]? = some u->P u:=λi u hu=>MA h u (GB hu)
end
theorem Hi {L:List Int} {i:Int}:∀v ∈ L,v ∈ L++[i]:=λv hv=>GC _ hv
theorem Pd {XR:Pr} {vs:List aK} (hX:XOk XR vs) (sc:List Int):Mf XR vs sc sc []:=by
 intro n pl hn hz hc full k v y hd hv hl hk hT hL;obtain ⟨k,rfl⟩:∃j,k=j+1:=⟨k - 1,by rw [sY] at hk;omega⟩;have hge:full.length<=v:=by have:=DI List.length hd;simp only [Us,sY] at this;omega
 unfold iK;refine aW.iteb (λh=>cM (xG h) zb) λ_=>.some ?_;exact ⟨.refl _,hT,λh0=>⟨by have h0:y.e_=0:=h0;rw [DE.2 h0] at hT;exact hT,.refl _ _,hX.nil y⟩⟩
theorem zaw {XR:Pr} {vs:List aK} (hX:XOk XR vs) {res:Int} {lf:Bool} {sc sc':List Int} {ss:List aA} (h:FB vs res lf sc ss sc'):Mf XR vs sc sc' ss:=by
 have nd:∀ {s:aA} {i:Nat} {P:Prop},s.dJ ≠ [108,101,116]->s.dJ ≠ [105,102]->s.dJ ≠ [102,111,114]->(s.dJ=[112,117,116]->i ≠ 0)->Dec s i->P:=λa b c d h=>by
  rcases h with h | h | h | ⟨h,h'⟩
  ·exact cM h a
  ·exact cM h b
  ·exact cM h c
  ·exact cM h' (d h)
 have newv:∀ {b:Bool} {sc:List Int} {T:List aF} {v:Int} {u:aK},Cj b vs sc T->aZ vs v=some u->u.bJ ≠ 1->Cj b vs (sc++[v]) T:=λh hu hk=>h.more hu hk
 have pub2:∀ {sc:List Int} {v:Int} {u:aK},aZ vs v=some u->u.bJ ≠ 1->∀w ∈ sc++[v],w ∈ sc ∨ ∃u,aZ vs w=some u/\u.bJ ≠ 1:=λhu hk w hw=>by
  rcases yU.1 hw with hw | hw
  ·exact .inl hw
  ·rw [zU.1 hw];exact .inr ⟨_,hu,hk⟩
 induction h with
 | nil=>exact Pd hX _
 | let_ h1 h2 h3 h4 _ ih=>
   refine At hX ⟨MA h1,λi z hz _=>Wn (h1.pub h2) i z hz,λ_=>⟨rfl,_,h3⟩⟩ (by simp only;decide) rfl rfl Hi (λb T _ ho=>cM rfl ho) (λ_=>rfl) (λho=>cM rfl ho) ih
 | var_ h1 h2 h3 h4 _ ih=>
   have hk:∀ {u:aK},u.bJ=2 ∨ u.bJ=3->u.bJ ≠ 1:=λh=>zb
   refine At hX ⟨MA h1,λi z hz hd=>nd (by simp only;decide) (by simp only;decide) (by simp only;decide) (λh=>cM h (by simp only;decide)) hd,λh=>cM h (by simp only;decide)⟩ (by simp only;decide) rfl rfl Hi (λb T hT _=>newv hT h2 (hk h3)) (λh=>cM h (by simp only;decide)) (λ_=>pub2 h2 (hk h3)) ih
 | arr h1 h2 _ ih=>
   have hk:∀ {u:aK},u.bJ=4->u.bJ ≠ 1:=λh=>zb
   refine At hX ⟨λ_ h=>(nomatch h),λi z hz hd=>(nomatch hz),λh=>cM h (by simp only;decide)⟩ (by simp only;decide) rfl rfl Hi (λb T hT _=>newv hT h1 (hk h2)) (λh=>cM h (by simp only;decide)) (λ_=>pub2 h1 (hk h2)) ih
 | set h1 h2 h3 h4 _ ih=>
   have hk:∀ {u:aK},u.bJ=2 ∨ u.bJ=3->u.bJ ≠ 1:=λh=>zb
   refine At hX ⟨MA h1,λi z hz hd=>nd (by simp only;decide) (by simp only;decide) (by simp only;decide) (λh=>cM h (by simp only;decide)) hd,λh=>cM h (by simp only;decide)⟩ (by simp only;decide) rfl rfl Hi (λb T hT _=>newv hT h2 (hk h3)) (λh=>cM h (by simp only;decide)) (λ_=>pub2 h2 (hk h3)) ih
 | put h1 h2 h3 h4 h5 h6 h7 h8 _ ih=>
   refine At hX ⟨UA h4 h7,λi z hz hd=>?_,λh=>cM h (by simp only;decide)⟩ (by simp only;decide) rfl rfl (λ_ h=>h) (λb T hT _=>hT) (λh=>cM h (by simp only;decide)) (λ_ w hw=>.inl hw) ih;cases i with
   | zero=>injection hz with hz;rw [←hz];exact h4.pub h5
   | succ i=>exact nd (by simp only;decide) (by simp only;decide) (by simp only;decide) (λ_=>zb) hd
 | @Ln l sc c b e a sc1 sc2 ss sc' h1 h2 hb he hr ib ie ir=>
   intro n pl hn hz hc full k v y hd hv hl hk hT hL;obtain ⟨g1,g2,g3⟩:=LX hd;obtain ⟨k,rfl⟩:∃j,k=j+1:=⟨k - 1,by rw [qB] at hk;omega⟩;have hz2:=hz;rw [yW] at hz2;have ty:Ua vs sc ⟨[105,102],-1,0,[c],b,e,a⟩:=⟨MA h1,λi z hz _=>Wn (h1.pub h2) i z hz,λh=>cM h (by simp only;decide)⟩;obtain ⟨d1,d2,d3,d4⟩:=Eu ⟨[105,102],-1,0,[c],b,e,a⟩ ss;have hfo:DP ⟨[105,102],-1,0,[c],b,e,a⟩=[]:=by unfold DP;rw [cE (by simp only;decide)]
   have hdo:PC ⟨[105,102],-1,0,[c],b,e,a⟩=[]:=by unfold PC;rw [cE (by simp only;decide)]
   refine RK g1 hl (Wm ty hT zb zb (by simp only;decide) (λw hw h0=>⟨λd e=>(nomatch e),λd e=>?_⟩) λw hw h0=>?_)
   ·cases e;exact ⟨hw.e,hw.ok,λh1=>cM h1 h0⟩
   ·have hy0:=hw.e.zero h0;have hTy:Cj false vs sc y.c_.aX:=by rw [DE.2 hy0] at hT;exact hT
    have hown:=ZM (pl:=pl) hTy hc zb hw h0 (by simp only;decide) ty.lt;have hLy:=hL hy0;refine QL (plb:=pl) ib ie ir hn hz hc hc (λ_ h=>h) hb.sub he.sub g2 g3 hl (by rw [qB] at hk;omega) hw.e h0 (by have:=hw.ok;rw [DE.2 h0] at this;exact this) ?_ hown (λc d z k1 k2 k3=>hX.Ln ty rfl hTy hw h0 k1 k2 k3) (λ_ h=>.inl h) (λ_ h=>h) d1 d2 d3 d4;rw [d2,oY,oY,oY] at hLy;exact Gz.app hLy hown
 | @Ba l sc x z v u b a sc1 ss sc' h1 h2 h3 h4 h5 h6 hb hr ib ir=>
   intro n pl hn hz hc full k w y hd hv hl hk hT hL;obtain ⟨g1,g2,g3⟩:=LX hd;obtain ⟨k,rfl⟩:∃j,k=j+1:=⟨k - 1,by rw [qB] at hk;omega⟩;have hz2:=hz;rw [yW] at hz2;have ty:Ua vs sc ⟨[102,111,114],v,0,[x,z],b,[],a⟩:=⟨UA h1 h3,λi z hz _=>get_two (h1.pub h2) (h3.pub h4) i z hz,λh=>cM h (by simp only;decide)⟩;obtain ⟨d1,d2,d3,d4⟩:=Eu ⟨[102,111,114],v,0,[x,z],b,[],a⟩ ss;have hfo:DP ⟨[102,111,114],v,0,[x,z],b,[],a⟩=[v]:=by unfold DP;rw [cX rfl]
   have hdo:PC ⟨[102,111,114],v,0,[x,z],b,[],a⟩=[v]:=by unfold PC;rw [cX (.inl rfl)]
   have hcount:y.e_=0->Gz y (1+((wZ b).length+((wZ ([]:List aA)).length+(wZ ss).length))):=λh0=>by
    have:=hL h0;rw [d2,hfo,oY,oY,oY] at this;exact this
   refine RK g1 hl (zav ty hT zb zb rfl h5 (λh0=>(hcount h0).less zb) (λw hw h0=>⟨λd e=>(nomatch e),λd e=>?_⟩) λw r hw h0 hr0 r1 r2 r3 r4 r5 r6=>?_)
   ·cases e;exact ⟨hw.e,hw.ok,λh1=>cM h1 h0⟩
   ·have hy0:=hw.e.zero h0;have hTy:Cj false vs sc y.c_.aX:=by rw [DE.2 hy0] at hT;exact hT
    have hLy:=hcount hy0;have hl1:=hLy.1;have hown:=own_for (pl:=pl) hTy hc zb hw h0 rfl h5 zb r1 r2 r3 r4 r5;have hFw:w.c_.gM=y.c_.gM:=by rw [hw.c]
    have hTw:w.c_.aX=y.c_.aX:=hw.no (by simp only;decide)
    have hTr:Cj false vs (sc++[v]) r.c_.aX:=by
     rw [r1,hFw,hTw];exact hTy.snoc h5 (.var zb zb) (by rw [tm,wY];omega)
    refine QL (plb:=pl++[v]) ib (Pd hX sc) ir hn hz hc (λt ht u hu hku=>?_) Hi hb.sub (λ_ h=>h) g2 g3 hl (by rw [qB] at hk;omega) (.inl (hr0.trans hy0.symm)) hr0 hTr ?_ hown (λc d z' k1 k2 k3=>hX.Ba ty hTy (by rw [nG,nG] at hz2;omega) (by rw [nG,nG] at hz2;omega) zb hw h0 (hLy.less zb) r1 ⟨_,h5⟩ r6 k1 k2 k3) (λt ht=>?_) Hi d1 d2 d3 d4
    ·rcases yU.1 ht with ht | ht
     ·exact GC _ (hc t ht u hu hku)
     ·exact IU _ ht
    ·exact Gz.app (fr:=DP ⟨[102,111,114],v,0,[x,z],b,[],a⟩) (by rw [hfo];exact hLy) hown
    ·rw [hdo];exact yU.1 ht
 | ret h1 h2=>
   refine At hX ⟨MA h1,λi z hz hd=>nd (by simp only;decide) (by simp only;decide) (by simp only;decide) (λh=>cM h (by simp only;decide)) hd,λh=>cM h (by simp only;decide)⟩ (by simp only;decide) rfl rfl (λ_ h=>h) (λb T hT _=>hT) (λh=>cM h (by simp only;decide)) (λ_ w hw=>.inl hw) (Pd hX _)
theorem Ph:∀l:List aA,(wZ l).length<=wF l
 | []=>uZ _
 | ⟨o,v,f,x,b,e,a⟩::l=>by
   have h1:=Ph b;have h2:=Ph e;have h3:=Ph l;rw [wZ,yW,Vf];have h4:(DP ⟨o,v,f,x,b,e,a⟩).length<=1:=by unfold DP;split <;> simp
   simp only [oY] at *;omega
theorem fors_l1 {f:List aA->Option Int} {l:List aA} (hf:∀x ∈ l,f x.bH=some ((wZ x.bH).length:Int)/\f x.eG=some ((wZ x.eG).length:Int)) (hb:wF l<=100000000) :
  ∀(k v:Nat) (acc:Int),l.length<v+k->v<=l.length->0<=acc->acc+(wZ (l.drop v)).length<=100000000->Bi f l k acc (v:Int)=some (acc+(wZ (l.drop v)).length):=by
 have hlen:=JS l;intro k
 induction k with
 | zero=>intro v acc h1 h2;omega
 | succ k ih=>
   intro v acc h1 h2 h3 h4;unfold Bi
   by_cases hv:v<l.length
   ·have hd:l.drop v=l[v]::l.drop (v+1):=Sq hv;obtain ⟨f1,f2⟩:=hf _ (NY hv);have hm:(wZ (l.drop v)).length=(DP l[v]).length+((wZ l[v].bH).length+(wZ l[v].eG).length)+(wZ (l.drop (v+1))).length:=by rw [hd,wZ,Vf];simp only [oY]
    rw [hm] at h4;rw [cX (Ah zb),pU (yN hv),iX,f1,f2,dB (n:=(v:Int)+1) zb zb,show ((v:Int)+1)=((v+1:Nat):Int) by omega]
    by_cases ho:l[v].dJ=[102,111,114]
    ·have hfo:(DP l[v]).length=1:=by unfold DP;rw [cX ho];rfl
     rw [cX (Ah ho),iX,iX,iX,dB (n:=acc+1) zb zb,dB (n:=((wZ l[v].bH).length:Int)+_) zb zb,dB zb zb,ih (v+1) _ zb zb zb zb,hm]
     congr 1;omega
    ·have hfo:(DP l[v]).length=0:=by unfold DP;rw [cE ho];rfl
     rw [cE (by rw [Da];exact ho),iX,iX,iX,dB (n:=((wZ l[v].bH).length:Int)+_) zb zb,dB zb zb,ih (v+1) _ zb zb zb zb,hm]
     congr 1;omega
   ·rw [cE (by rw [Da];omega),WR zb,wZ]
    congr 1;simp
theorem fors_eq:∀(n:Nat) (l:List aA),wF l+1<n->wF l<=100000000->Au n l=some ((wZ l).length:Int):=by
 intro n
 induction n with
 | zero=>intro l h;omega
 | succ n ih=>
   intro l h hb;show zO (Au n) n l=_;unfold zO;have hl:=JS l;have hs:=Ph l
   have:=fors_l1 (f:=Au n) (l:=l) (λx hx=>by
    have h1:=Ro hx;have h2:=Bz x;exact ⟨ih _ zb zb,ih _ zb zb⟩) hb n 0 0 zb zb (Uj _) (by rw [DH];omega)
   rw [show ((0:Nat):Int)=0 from rfl] at this;rw [this,iX,DH,Int.zero_add]
def Ps (vs:List aK) (p j:Nat):aF:=match vs[j]? with | some u=>if j<p/\u.bJ=1 then ⟨2,(j:Int),[]⟩ else tz0 | none=>tz0
structure Ini (vs:List aK) (p:Nat) (y:aO):Prop where
 e:y.e_=0
 fors:y.c_.gM=[]
 low:y.c_.tK=[0,0,0,0]
 high:y.c_.kZ=[4294967295,4294967295,4294967295,4294967295]
 len:y.c_.aX.length=vs.length
 t:∀j,j<vs.length->y.c_.aX[j]? = some (Ps vs p j)
theorem Ini.w {vs:List aK} {p:Nat} {y:aO} (h:Ini vs p y):WL y:=by
 unfold WL;rw [h.low,h.high];refine ⟨λx hx=>?_,λx hx=>?_,λi=>?_⟩
 ·simp only [Di,St,or_false,or_self] at hx;rw [hx];exact .z
 ·simp only [Di,St,or_false,or_self] at hx;rw [hx];exact .m
 ·rcases i with _ | _ | _ | _ | i <;> simp
theorem zbs {f:aJ} {p:Nat} (hp:f.aT=p) (hpl:p<=f.aQ.length) (h4:p<=4):∀(k v:Nat) (y:aO),p<v+k->v<=p->Ini f.aQ v y->aW (uY f k (v:Int) y) (Ini f.aQ p):=by
 have htk:(f.aQ.take f.aT.toNat).length=p:=by rw [hp,GD,NL];omega
 intro k
 induction k with
 | zero=>intro v y h1 h2;omega
 | succ k ih=>
   intro v y h1 h2 hI;unfold uY;refine aW.iteb (λh=>?_) λh=>.some ?_
   ·have hv:v<p:=by have:=xG h;omega
    have hg:(f.aQ.take f.aT.toNat)[v]? = some f.aQ[v]:=by rw [xdl,cX (by rw [hp,GD];exact hv),yN zb]
    rw [dB zb zb,show ((v:Int)+1)=((v+1:Nat):Int) by omega];refine aW.bind (P:=Ini f.aQ (v+1)) ?_ λz hz=>ih (v+1) z zb zb hz;refine aW.eqn (pU hg) ?_
    have hold:∀j,j ≠ v->Ps f.aQ (v+1) j=Ps f.aQ v j:=λj hj=>by
     unfold Ps;cases f.aQ[j]? with
     | none=>rfl
     | some u=>
       simp only
       by_cases h:j<v/\u.bJ=1
       ·rw [cX h,cX ⟨zb,h.2⟩]
       ·rw [cE h,cE λh2=>h ⟨zb,h2.2⟩]
    refine aW.iteb (λhk=>?_) λhk=>.some ⟨hI.e,hI.fors,hI.low,hI.high,hI.len,λj hj=>?_⟩
    ·have hk:f.aQ[v].bJ=1:=by simpa using hk
     refine aW.eqn (v:=⟨2,(v:Int),[]⟩) (by unfold Cc;rw [IntKind.wrap_u32];congr 2;omega) ?_;have hT:=hI.t v zb;refine aW.eqn (pU hT) (.some ⟨hI.e,hI.fors,hI.low,hI.high,by rw [Db];exact hI.len,λj hj=>?_⟩);show (y.c_.aX.set ((v:Int)).toNat _)[j]? = _;rw [GD]
     by_cases e:j=v
     ·subst e;rw [VI (by rw [hI.len];exact hj)];unfold Ps;rw [yN hj];simp only;rw [cX ⟨zb,hk⟩]
     ·rw [Uv (λh=>e h.symm),hI.t j hj,hold j e]
    ·have hk:f.aQ[v].bJ ≠ 1:=by simpa using hk
     rw [hI.t j hj]
     by_cases e:j=v
     ·subst e;unfold Ps;rw [yN hj];simp only;rw [cE λh=>zb,cE λh=>hk h.2]
     ·rw [hold j e]
   ·have hv:v=p:=by have:=Lj h;omega
    subst hv;exact hI
theorem Ini.tok {vs:List aK} {p:Nat} {y:aO} (h:Ini vs p y) (h4:p<=4):Cj false vs (pC p) y.c_.aX:=by
 refine ⟨h.len,λv hv u hu hk=>?_⟩;obtain ⟨v0,v1⟩:=Eb hv;obtain ⟨j,rfl⟩:∃j:Nat,v=j:=⟨v.toNat,zb⟩;have hj:j<p:=zb
 obtain ⟨b0,b1⟩:=zM hu;have hT:=h.t j zb;rw [TD] at hu;refine ⟨Ps vs p j,pU hT,?_,?_⟩
 ·unfold Ps;rw [hu];simp only;rw [cX ⟨hj,hk⟩];exact .var zb zb
 ·unfold Ps;rw [hu];simp only;rw [cX ⟨hj,hk⟩,tm,wY];omega
inductive FK (XR:Pr) (f:aJ) (p:Nat):aL × Int->Prop
 | ok {y0 y:aO} {sc':List Int}:Ini f.aQ p y0->Cj false f.aQ sc' y.c_.aX->YH (pC p) (BX f.bH) (wZ f.bH) (RD f.bH) (RE f.bH) y0 y->p<=4->(wZ f.bH).length<=250->XR f.bH y0 y->FK XR f p (y.c_,0)
 | count:4<p ∨ 250<(wZ f.bH).length->FK XR f p (⟨[],[],[],[]⟩,136)
 | size:p<=4->(wZ f.bH).length<=250->FK XR f p (⟨[],[],[],[]⟩,161)
def XT:Pr:=λ_ _ _=>True
theorem xt_ok (vs:List aK):XOk XT vs:=⟨λ_=>trivial,λ_ _ _ _ _ _ _ _ _ _=>trivial,λ_ _ _ _ _ _ _ _=>trivial,λ_ _ _ _ _ _ _ _ _ _ _ _ _ _=>trivial⟩
abbrev CloseR:=FK XT
theorem VC {XR:Pr} {f:aJ} (hX:XOk XR f.aQ) {p:Nat} {res:Int} {lf:Bool} {sc':List Int} (hp:f.aT=p) (hpl:p<=f.aQ.length) (hv:f.aQ.length<=4096) (hz:wF f.bH<=50000000) (hf:FB f.aQ res lf (pC p) f.bH sc') {n:Nat} (hn:200000000<=n):aW (wT n f) (FK XR f p):=by
 unfold wT;have hfs:=Ph f.bH;refine aW.bind (P:=λc=>c=true ↔ (4<p ∨ 250<(wZ f.bH).length)) ?_ λc hc=>?_
 ·refine aW.iteb (λh=>.some ⟨λ_=>.inl (by have:=xG h;omega),λ_=>rfl⟩) λh=>?_;have h:=Lj h;rw [fors_eq n _ zb zb,iX];exact .some ⟨λh=>.inr (by have:=xG h;omega),λh2=>Ah zb⟩
 refine aW.iteb (λh=>.some (.count (hc.1 h))) λh=>?_;have hno:¬ (4<p ∨ 250<(wZ f.bH).length):=λh2=>by rw [hc.2 h2] at h;cases h
 refine aW.eqn (v:=[4294967295,4294967295,4294967295,4294967295]) rfl ?_;refine aW.need zb (aW.need zb ?_)
 have hI0:Ini f.aQ 0 ⟨⟨List.replicate f.aQ.length aF.Z,[],[0,0,0,0],[4294967295,4294967295,4294967295,4294967295]⟩,0⟩:=by
  refine ⟨rfl,rfl,rfl,rfl,xeb,λj hj=>?_⟩;show (List.replicate f.aQ.length aF.Z)[j]? = _;rw [List.getElem?_replicate,cX hj];unfold Ps;rw [yN hj];simp only;rw [cE λh=>zb];rfl
 refine (zbs hp hpl zb n 0 _ zb (Ko _) hI0).bind λy0 hI=>?_;have hT:=hI.tok zb;refine ((zaw hX hf).blk (pl:=pC p) zb hz (λv hv _ _ _=>hv) (by rw [hI.e];exact hT) λ_=>⟨by rw [hI.fors];simp only [sY];omega,⟨by rw [hI.low,hI.fors];rfl,by rw [hI.high,hI.fors];rfl⟩,hI.w⟩).bind λy hy=>?_;have her:=hy.e;rw [hI.e] at her;refine aW.iteb (λh0=>.some ?_) λh0=>.some ?_
 ·have h0:y.e_ ≠ 0:=by simpa using h0
  rcases her with h1 | ⟨_,h1⟩
  ·exact cM h1 h0
  ·rw [h1];exact .size zb zb
 ·have h0:y.e_=0:=by simpa using h0
  obtain ⟨z1,z2,z3⟩:=hy.ok h0;exact .ok hI z1 z2 zb zb z3
theorem Yt {f:aJ} {p:Nat} {res:Int} {lf:Bool} {sc':List Int} (hp:f.aT=p) (hpl:p<=f.aQ.length) (hv:f.aQ.length<=4096) (hz:wF f.bH<=50000000) (hf:FB f.aQ res lf (pC p) f.bH sc') {n:Nat} (hn:200000000<=n):aW (wT n f) (CloseR f p):=VC (xt_ok _) hp hpl hv hz hf hn
def isP (vs:List aK) (k:Nat):Bool:=match vs[k]? with | some u=>decide (u.bJ=1) | none=>false
def xM (vs:List aK) (a b:Nat):List Int:=((List.range (b - a)).filter λi=>isP vs (a+i)).map λi=>((a+i:Nat):Int)
section
variable {vs vs':List aK} {a b c:Nat}
theorem vT:xM vs a a=[]:=by unfold xM;rw [xec];rfl
theorem pD (h1:a<=b) (h2:b<=c):xM vs a c=xM vs a b++xM vs b c:=by
 unfold xM;rw [show c - a=(b - a)+(c - b) by omega,List.range_add,List.filter_append,YI,List.filter_map,List.map_map]
 congr 1
 have e:∀i,a+(b - a+i)=b+i:=λi=>zb
 simp only [Function.comp_def,e]
theorem Ec (h:vs <+: vs') (hb:b<=vs.length):xM vs' a b=xM vs a b:=by
 unfold xM
 congr 1
 refine List.filter_congr λi hi=>?_;have hi:=Yx.1 hi;obtain ⟨r,rfl⟩:=h;unfold isP;rw [Py zb]
theorem Ed {u:aK} (h:vs[a]? = some u):xM vs a (a+1)=if u.bJ=1 then [(a:Int)] else []:=by
 unfold xM;rw [xdo];show List.map _ (List.filter _ [0])=_;have e:isP vs a=decide (u.bJ=1):=by unfold isP;rw [h]
 by_cases hk:u.bJ=1
 ·rw [cX hk,List.filter_cons_of_pos (by rw [Qp,e];exact Ah hk)];rfl
 ·rw [cE hk,List.filter_cons_of_neg (by rw [Qp,e];simpa using hk)];rfl
theorem Tj {v:Int}:v ∈ xM vs a b ↔ ∃k:Nat,v=(k:Int)/\a<=k/\k<b/\∃u,vs[k]? = some u/\u.bJ=1:=by
 unfold xM;rw [Qo]
 constructor
 ·rintro ⟨i,hi,rfl⟩;obtain ⟨h1,h2⟩:=Ut.1 hi;have h1:=Yx.1 h1;refine ⟨a+i,rfl,zb,zb,?_⟩;unfold isP at h2
  split at h2
  ·exact ⟨_,‹_›,by simpa using h2⟩
  ·cases h2
 ·rintro ⟨k,rfl,h1,h2,u,h3,h4⟩;refine ⟨k - a,Ut.2 ⟨Yx.2 zb,?_⟩,by congr 1;omega⟩;rw [show a+(k - a)=k by omega];unfold isP;rw [h3];exact Ah h4
theorem UR:(xM vs a b).Nodup:=by
 unfold xM;have h:((List.range (b - a)).filter λi=>isP vs (a+i)).Nodup:=List.nodup_range.filter _;exact List.pairwise_map.2 (h.imp λ{x y} hxy e=>hxy zb)
end
theorem Wv (a b:List aA):BX (a++b)=BX a++BX b:=by
 induction a with
 | nil=>rw [AE,BX,AE]
 | cons x a ih=>rw [Ri,BX,BX,ih,Mi]
theorem dvL_one (s:aA) (h1:s.bH=[]) (h2:s.eG=[]):BX [s]=PC s:=by
 rw [BX,BX,Fu,RT,h1,h2,BX,Fu,Fu]
theorem MH {s:aA} (h1:s.dJ ≠ [102,111,114]) (h2:s.dJ ≠ [108,101,116]):PC s=[]:=by
 unfold PC;rw [cE];rintro (h | h);exact h1 h;exact h2 h
theorem TH {α:Type} (l:List α) (x:α):(l++[x])[l.length]? = some x:=by rw [Mh (uZ _),xec];rfl
theorem Sk.dv {as:List Int} {fW:Int} {ps vs vs':List aK} {l:List aB} {i:Nat} {o:List aA} {own:List Int} (h:Sk as fW ps vs l i o own vs'):BX o=xM vs' vs.length vs'.length/\own.length=l.length:=by
 induction h with
 | nil=>rw [BX,vT];exact ⟨rfl,rfl⟩
 | arr _ _ ih=>exact ⟨ih.1,by simp only [qB,ih.2]⟩
 | @val vs y l i u o own vs' _ hu h ih=>
   refine ⟨?_,by simp only [qB,ih.2]⟩;have hp:=h.pre.length_le;rw [oY,vO] at hp;have hg:vs'[vs.length]? = some u:=Io h.pre (TH vs u);rw [pD (xdp _) hp,Ed hg,BX,RT,ih.1,oY,vO];simp only [BX,Fu]
   congr 1
   unfold PC
   by_cases hk:u.bJ=1
   ·simp only [cX hk];rw [cX (.inr trivial)]
   ·simp only [cE hk];rw [cE zc]
theorem own_pub {fv v1:List aK} {own:List Int} {pn:Nat} (hpn:pn<=fv.length) (hol:own.length=pn):(xM fv pn fv.length).map (mp (own++Gq v1.length (fv.drop pn).length))=xM (v1++fv.drop pn) v1.length (v1++fv.drop pn).length:=by
 unfold xM;rw [oY,Us,xdo,List.map_map]
 have e1:∀i,i<fv.length - pn->isP fv (pn+i)=isP (v1++fv.drop pn) (v1.length+i):=λi hi=>by
  unfold isP;rw [Mh zb,xdk,xdo]
 rw [List.filter_congr λi hi=>e1 i (Yx.1 hi)];refine xdj λi hi=>?_;have hi:=Yx.1 (Ut.1 hi).1;show mp _ ((pn+i:Nat):Int)=_;unfold mp;have hl:(Gq v1.length (fv.length - pn)).length=fv.length - pn:=by simp [Gq]
 rw [cE (by rw [oY,hl];omega),GD,Mh zb,hol,xdo];unfold Gq;rw [KM,xej hi];rfl
theorem TB.le {sg:Vz} {vs:List aK} {res:Int} {lf:Bool} {n n':Nat} {sc sc':List Int} {l:List aA} (h:TB sg vs res lf n sc l n' sc'):n<=n':=by
 induction h with
 | nil | ret | retc=>exact uZ _
 | let_ _ _ _ _ _ ih=>omega
 | var_ _ _ _ _ ih=>omega
 | arr _ _ _ ih=>omega
 | callv _ _ _ _ _ _ ih=>omega
 | set _ _ _ _ _ _ ih=>exact ih
 | calls _ _ _ _ _ _ _ ih=>exact ih
 | put _ _ _ _ _ _ _ _ _ ih=>exact ih
 | do_ _ _ _ ih=>exact ih
 | Ln _ _ _ _ _ i1 i2 i3=>omega
 | Ba _ _ _ _ _ _ _ _ i1 i2=>omega
def Yv (res:Int) (b:aA):Prop:=b.bH=[]/\b.eG=[]/\(b.dJ=[114,101,116,117,114,110] ∨ b.dJ=[115,101,116] ∨ b.dJ=[118,97,114]/\b.iO=res)
theorem Yv.bat {res:Int} {b:aA} (h:Yv res b) (a:Int):Yv res (IR b a):=by
 obtain ⟨b1,b2,b3,b4,b5⟩:=DR b a;unfold Yv;rw [b1,b3,b4,b5];exact h
theorem Yv.dv {res:Int} {b:aA} (h:Yv res b):b.dJ ≠ [102,111,114]/\b.dJ ≠ [108,101,116]:=by
 obtain ⟨_,_,h | h | ⟨h,_⟩⟩:=h <;> rw [h] <;> decide
theorem WA {res:Int} {b:aA} (h:Yv res b) (a v f:Int) (l:List aB):BX [⟨(IR b a).dJ,v,f,l,(IR b a).bH,(IR b a).eG,(IR b a).gI⟩]=[]:=by
 have e:=dvL_one ⟨(IR b a).dJ,v,f,l,(IR b a).bH,(IR b a).eG,(IR b a).gI⟩ (h.bat a).1 (h.bat a).2.1;exact e.trans (MH (h.bat a).dv.1 (h.bat a).dv.2)
def DvR (c:aE) (vs:List aK) (l:List aA) (as:List Int) (b:aA) (out:List aA) (vs':List aK):Prop:=
 ∀ {j:Nat} {vsC:List aK} {res:Int} {lf:Bool} {n:Nat} {sc:List Int} {n':Nat} {sc':List Int},TB (HM c j) vsC res lf n sc l n' sc'->(∀u ∈ vsC,Hz u)->(res=0 ∨ res=2 ∨ res=3)->Yv res b ->
  (BX out).Perm ((xM vsC n n').map (mp as)++xM vs' vs.length vs'.length)
theorem perm4 {α:Type} {a b c d e f:List α} (h1:a.Perm b) (h2:c.Perm (d++e)) (h3:f=b++e):(a++c).Perm (d++f):=by
 subst h3;refine (h1.append h2).trans ?_;rw [←Mi,←Mi];exact List.Perm.append_right _ List.perm_append_comm
section
variable {c:aE} {rk:Int->Nat}
theorem call_dv (hp:PO c rk) {j:Nat} {vsC vs v1 v2:List aK} {sc:List Int} {as own:List Int} {fi r:Int} {ps:List aK} {xs:List aB} {a:Int} {f:aJ} {o1 o2:List aA} {b':aA}
  (hsg:HM c j fi r ps) (hta:Dr vsC sc ps xs) (hf:aZ c.p_.bC fi=some f) (hA:Sk as a f.aQ vs xs 0 o1 own v1) (hB:MO c.p_ (v1++f.aQ.drop f.aT.toNat) f.bH (own++Gq v1.length (f.aQ.drop f.aT.toNat).length) b' o2 v2)
  (ih:DvR c (v1++f.aQ.drop f.aT.toNat) f.bH (own++Gq v1.length (f.aQ.drop f.aT.toNat).length) b' o2 v2) (IV:Yv r b'):(BX (o1++o2)).Perm (xM v2 vs.length v2.length):=by
 obtain ⟨_,f',hf',hr,hps⟩:=hsg;obtain rfl:f=f':=Li (hf.symm.trans hf');subst hr hps
 obtain ⟨fn,rfl⟩:∃k:Nat,fi=(k:Int):=by
  unfold aZ at hf
  split at hf
  ·exact ⟨fi.toNat,zb⟩
  ·exact nomatch hf
 have hfg:=yJ hf;have hfm:=GB hfg;have tf:=hp.tf fn f hfg;obtain ⟨vl1,vl2,vl3⟩:=hp.co.vl f hfm;obtain ⟨ki1,ki2⟩:=hp.co.ki f hfm;obtain ⟨sc'',htb⟩:=tf.body;have hpl:(f.aQ.take f.aT.toNat).length=f.aT.toNat:=by rw [NL];omega
 have hxl:xs.length=f.aT.toNat:=hta.1.trans hpl;obtain ⟨d1,d2⟩:=hA.dv;have d3:=ih (j:=fn) htb ki1 ki2 IV;rw [own_pub zb (d2.trans hxl)] at d3;have hq1:=hA.pre.length_le;have hq2:=hB.pre.length_le;have hq3:v1.length<=(v1++f.aQ.drop f.aT.toNat).length:=by rw [oY];omega
 rw [Wv,d1,pD hq1 (No hq3 hq2),pD (a:=v1.length) hq3 hq2];have e1:=Ec (a:=vs.length) ((Rg v1 (f.aQ.drop f.aT.toNat)).trans hB.pre) (uZ _);have e2:=Ec (a:=v1.length) hB.pre (uZ _);rw [e1,e2];exact List.Perm.append_left _ d3
theorem secT_ne (t:Int):Iw t ≠ 1:=by unfold Iw;split <;> omega
theorem dv_all (hp:PO c rk) {vs vs':List aK} {l:List aA} {as:List Int} {b:aA} {out:List aA} (h:MO c.p_ vs l as b out vs'):DvR c vs l as b out vs':=by
 generalize hcp:c.p_=p at h
 induction h with
 | nil=>
   intro j vsC res lf n sc n' sc' htb hv hr hb;cases htb;rw [vT,vT,BX];exact .refl _
 | @call vs s l as b f o1 own v1 o2 v2 o3 v3 ho hf hA hp0 hp1 hB hrest ihB ihR=>
   subst hcp;intro j vsC res lf n sc n' sc' htb hv hr hb;have hq1:=(hA.pre.trans (Rg _ (f.aQ.drop f.aT.toNat))).trans hB.pre
   -- what is behind the call
   have fin:∀ {n1:Nat} {sc1:List Int} {r:Int} {ps:List aK},HM c j s.iO r ps->Dr vsC sc ps s.aN->Yv r (SN f s as b)->TB (HM c j) vsC res lf n1 sc1 l n' sc'->n<=n1->xM vsC n n1=[]->(BX ((o1++o2)++o3)).Perm ((xM vsC n n').map (mp as)++xM v3 vs.length v3.length):=by
    intro n1 sc1 r ps h1 h2 h3 h4 h5 h6;rw [Wv,pD h5 h4.le,h6,AE];refine perm4 (call_dv hp h1 h2 hf hA hB ihB h3) (ihR h4 hv hr hb) ?_;rw [pD hq1.length_le hrest.pre.length_le,Ec hrest.pre (uZ _)]
   have tk0:s.fB ≠ -1->s.fB ≠ -2->∀r,Yv r (SN f s as b):=λh1 h2 r=>by
    unfold SN;rw [cE h2,cE h1];exact ⟨rfl,rfl,.inr (.inl rfl)⟩
   have tk1:s.fB=-1->Yv f.bO (SN f s as b):=λh=>by unfold SN;rw [cE (by rw [h];decide),cX h];exact ⟨rfl,rfl,.inr (.inr ⟨rfl,rfl⟩)⟩
   have tk2:s.fB=-2->Yv res (SN f s as b):=λh=>by unfold SN;rw [cX h];exact hb.bat _
   cases htb with
   | let_=>exact cM (show ([108,101,116]:cB)=[99,97,108,108] from ho) zc
   | var_=>exact cM (show ([118,97,114]:cB)=[99,97,108,108] from ho) zc
   | arr=>exact cM (show ([97,114,114]:cB)=[99,97,108,108] from ho) zc
   | set=>exact cM (show ([115,101,116]:cB)=[99,97,108,108] from ho) zc
   | put=>exact cM (show ([112,117,116]:cB)=[99,97,108,108] from ho) zc
   | Ln=>exact cM (show ([105,102]:cB)=[99,97,108,108] from ho) zc
   | Ba=>exact cM (show ([102,111,114]:cB)=[99,97,108,108] from ho) zc
   | ret=>exact cM (show ([114,101,116,117,114,110]:cB)=[99,97,108,108] from ho) zc
   | callv k1 k2 k3 k4 k5 k6=>
     have k1':=k1;obtain ⟨_,f',hf',hr',_⟩:=k1'
     have:=(hp.co.ki f' (by
      unfold aZ at hf'
      split at hf'
      ·exact GB hf'
      ·cases hf')).2
     refine fin k1 k2 (tk0 yz yz _) k6 (xdp _) ?_;rw [Ed k4,cE (by rw [k5,hr'];omega)]
   | calls k1 k2 k3 k4 k5 k6 k7=>
     have h0:=(zM k2).1;exact fin k4 k5 (tk0 yz yz _) k7 (uZ _) vT
   | do_ k1 k2 k3=>
     have k1':=k1;obtain ⟨_,f',hf',hr',_⟩:=k1';obtain rfl:f=f':=Li (hf.symm.trans hf');exact fin k1 k2 (by rw [hr'];exact tk1 rfl) k3 (uZ _) vT
   | retc k1 k2 k3=>
     obtain ⟨rfl,rfl⟩:=hrest.nil_inv;exact fin k1 k3 (tk2 rfl) (.nil (l:=true) (n:=n) (sc:=sc)) (uZ _) vT
 | @ret vs st l as b y r o v ho hl hnv hrest ihR=>
   intro j vsC res lf n sc n' sc' htb hv hr hb;cases htb with
   | let_=>exact cM (show ([108,101,116]:cB)=[114,101,116,117,114,110] from ho) zc
   | var_=>exact cM (show ([118,97,114]:cB)=[114,101,116,117,114,110] from ho) zc
   | arr=>exact cM (show ([97,114,114]:cB)=[114,101,116,117,114,110] from ho) zc
   | set=>exact cM (show ([115,101,116]:cB)=[114,101,116,117,114,110] from ho) zc
   | put=>exact cM (show ([112,117,116]:cB)=[114,101,116,117,114,110] from ho) zc
   | Ln=>exact cM (show ([105,102]:cB)=[114,101,116,117,114,110] from ho) zc
   | Ba=>exact cM (show ([102,111,114]:cB)=[114,101,116,117,114,110] from ho) zc
   | callv=>exact cM (show ([99,97,108,108]:cB)=[114,101,116,117,114,110] from ho) zc
   | calls=>exact cM (show ([99,97,108,108]:cB)=[114,101,116,117,114,110] from ho) zc
   | do_=>exact cM (show ([99,97,108,108]:cB)=[114,101,116,117,114,110] from ho) zc
   | retc=>exact cM (show ([99,97,108,108]:cB)=[114,101,116,117,114,110] from ho) zc
   | ret k1 k2 k3=>
     obtain ⟨rfl,rfl⟩:=hrest.nil_inv;rw [vT,vT,Fu];exact .of_eq ((WA hb _ _ _ _).trans rfl)
 | @retv vs st l as b y r o v ho hl hv0 hrest ihR=>
   intro j vsC res lf n sc n' sc' htb hv hr hb;cases htb with
   | let_=>exact cM (show ([108,101,116]:cB)=[114,101,116,117,114,110] from ho) zc
   | var_=>exact cM (show ([118,97,114]:cB)=[114,101,116,117,114,110] from ho) zc
   | arr=>exact cM (show ([97,114,114]:cB)=[114,101,116,117,114,110] from ho) zc
   | set=>exact cM (show ([115,101,116]:cB)=[114,101,116,117,114,110] from ho) zc
   | put=>exact cM (show ([112,117,116]:cB)=[114,101,116,117,114,110] from ho) zc
   | Ln=>exact cM (show ([105,102]:cB)=[114,101,116,117,114,110] from ho) zc
   | Ba=>exact cM (show ([102,111,114]:cB)=[114,101,116,117,114,110] from ho) zc
   | callv=>exact cM (show ([99,97,108,108]:cB)=[114,101,116,117,114,110] from ho) zc
   | calls=>exact cM (show ([99,97,108,108]:cB)=[114,101,116,117,114,110] from ho) zc
   | do_=>exact cM (show ([99,97,108,108]:cB)=[114,101,116,117,114,110] from ho) zc
   | retc=>exact cM (show ([99,97,108,108]:cB)=[114,101,116,117,114,110] from ho) zc
   | ret k1 k2 k3=>
     obtain ⟨rfl,rfl⟩:=hrest.nil_inv
     have hF:b.iO ≠ 1:=by
      obtain ⟨_,_,h | h | ⟨_,h⟩⟩:=hb
      ·rw [hv0] at h;exact cM h zc
      ·rw [hv0] at h;exact cM h zc
      ·omega
     rw [vT,oY,vO,Ed (TH vs _),cE (show ¬ b.iO=1 from hF),Fu];exact .of_eq ((WA hb _ _ _ _).trans rfl)
 | @other vs s l as b o1 v1 o2 v2 o3 v3 h1 h2 hb1 hb2 hrest i1 i2 ihR=>
   subst hcp;intro j vsC res lf n sc n' sc' htb hv hr hb
   have dvc:∀s':aA,BX ([s']++o3)=PC s'++((BX s'.bH++BX s'.eG)++BX o3):=λs'=>by
    rw [xen,BX,RT,Mi]
   -- a statement in which none stand
   have one:∀ {n1:Nat} {sc1:List Int},s.bH=[]->s.eG=[]->TB (HM c j) vsC res lf n1 sc1 l n' sc'->n<=n1->PC { s with fB:=mp as s.fB,aN:=PB as s.aN,bH:=o1,eG:=o2 }=(xM vsC n n1).map (mp as)->(BX ([{ s with fB:=mp as s.fB,aN:=PB as s.aN,bH:=o1,eG:=o2 }]++o3)).Perm ((xM vsC n n').map (mp as)++xM v3 vs.length v3.length):=by
    intro n1 sc1 e1 e2 h4 h5 h6;rw [e1] at hb1;rw [e2] at hb2;obtain ⟨rfl,rfl⟩:=hb1.nil_inv;obtain ⟨rfl,rfl⟩:=hb2.nil_inv;rw [dvc,h6,pD h5 h4.le,YI];simp only [BX,AE];exact (List.Perm.append_left _ (ihR h4 hv hr hb)).trans (.of_eq (Mi _ _ _).symm)
   cases htb with
   | callv=>exact cM rfl h1
   | calls=>exact cM rfl h1
   | do_=>exact cM rfl h1
   | retc=>exact cM rfl h1
   | ret=>exact cM rfl h2
   | let_ k1 k2 k3 k4 k5=>
     refine one rfl rfl k5 (xdp _) ?_;rw [Ed k3,cX k4];unfold PC;rw [cX (.inr rfl)];rfl
   | var_ k1 k3 k4 k5=>
     refine one rfl rfl k5 (xdp _) ?_;rw [Ed k3,cE (by rw [k4];exact secT_ne _)];exact MH (by simp only;decide) (by simp only;decide)
   | arr k3 k4 k5=>
     refine one rfl rfl k5 (xdp _) ?_;rw [Ed k3,cE (by rw [k4];decide)];exact MH (by simp only;decide) (by simp only;decide)
   | set k1 k2 k3 k4 k5 k6=>
     refine one rfl rfl k6 (uZ _) ?_;rw [vT];exact MH (by simp only;decide) (by simp only;decide)
   | put k1 k2 k3 k4 k5 k6 k7 k8 k9=>
     refine one rfl rfl k9 (uZ _) ?_;rw [vT];exact MH (by simp only;decide) (by simp only;decide)
   | @Ln _ _ _ cc bb ee aa n1 sc1 n2 sc2 ss _ _ k1 k2 k3 k4 k5=>
     have p1:=i1 k3 hv hr hb;have p2:=i2 k4 hv hr hb;have p3:=ihR k5 hv hr hb;rw [dvc,MH (by simp only;decide) (by simp only;decide),AE,pD k3.le (No k4.le k5.le),pD k4.le k5.le]
     have e:xM v3 vs.length v3.length=xM v1 vs.length v1.length++(xM v2 v1.length v2.length++xM v3 v2.length v3.length):=by
      rw [pD (vs:=v3) hb1.pre.length_le (No hb2.pre.length_le hrest.pre.length_le),pD (vs:=v3) (a:=v1.length) hb2.pre.length_le hrest.pre.length_le,Ec (hb2.pre.trans hrest.pre) (uZ _),Ec hrest.pre (uZ _)]
     rw [e,YI,YI,List.perm_iff_count];intro x;have q1:=p1.count_eq x;have q2:=p2.count_eq x;have q3:=p3.count_eq x;simp only [List.count_append] at q1 q2 q3 ⊢;omega
   | @Ba _ _ _ xx yy uu bb aa n1 sc1 ss _ _ k1 k2 k3 k4 k5 k6 k7 k8=>
     obtain ⟨rfl,rfl⟩:=hb2.nil_inv;have p1:=i1 k7 hv hr hb;have p3:=ihR k8 hv hr hb;have hd:PC ({ dJ:=[102,111,114],fB:=mp as (n:Int),iO:=0,aN:=PB as [xx,yy],bH:=o1,eG:=[],gI:=aa }:aA)=[mp as (n:Int)]:=by unfold PC;rw [cX (.inl rfl)]
     rw [dvc,pD (xdp n) (No k7.le k8.le),pD (a:=n+1) k7.le k8.le,Ed k5,cX k6]
     have e:xM v3 vs.length v3.length=xM v2 vs.length v2.length++xM v3 v2.length v3.length:=by
      rw [pD (vs:=v3) hb1.pre.length_le hrest.pre.length_le,Ec hrest.pre (uZ _)]
     rw [e];simp only [YI,yV,Dh,BX,Fu];rw [hd,List.perm_iff_count];intro x;have q1:=p1.count_eq x;have q3:=p3.count_eq x;simp only [List.count_append] at q1 q3 ⊢;omega
theorem Flat_dv (hp:PO c rk) {n:Nat} {i:Int} {r:aJ × Int} (h:xK n c.p_ i=some r) (he:r.2=0):(BX r.1.bH).Perm (xM r.1.aQ r.1.aT.toNat r.1.aQ.length):=by
 obtain ⟨k,fn,_,hfn,hr,hpre,hB,_⟩:=WM hp h he;have hm:=GB hfn;obtain ⟨v1,v2,v3⟩:=hp.co.vl fn hm;obtain ⟨ki1,ki2⟩:=hp.co.ki fn hm;obtain ⟨sc',htb⟩:=(hp.tf k fn hfn).body;have e1:r.1.aT=fn.aT:=by rw [hr]
 have hd:=dv_all hp hB htb ki1 ki2 ⟨rfl,rfl,.inl rfl⟩
 have e2:∀l:List Int,l.map (mp [])=l:=λl=>by
  conv=>rhs;rw [←List.map_id l]
  exact xdj λv _=>UX v
 rw [e2] at hd;rw [e1,pD (a:=fn.aT.toNat) (show fn.aT.toNat<=fn.aQ.length by omega) hpre.length_le,Ec hpre (uZ _)];exact hd
end
