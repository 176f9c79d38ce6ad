import Derived.Test.YtnheknbibdgglaaGreatDoorTRwg
namespace Go.Proofs.YtnheknbibdgglaaGreatDoor.Abs
open Go.RowKit
set_option linter.all false
def Iu (o:bW):Prop:=o=[47] ∨ o=[37] ∨ o=[60,60] ∨ o=[62,62] ∨ o=[60,60,60] ∨ o=[42] ∨ o=[61,61] ∨ o=[60] ∨ o=[124] ∨ o=[94] ∨ o=[38] ∨ o=[43] ∨ o=[45]
inductive Hx (vs:List aJ) (sc:List Int):aD->Prop
 | num {n a}:0<=n->n<=4294967295->Hx vs sc ⟨[110,117,109],1,n,-1,[],a⟩
 | var {v u a}:v ∈ sc->aZ vs v=some u->u.bK=1->Hx vs sc ⟨[118,97,114],1,0,v,[],a⟩
 | un {o x a}:(o=[110,111,116] ∨ o=[110,101,103])->Hx vs sc x->Hx vs sc ⟨o,1,0,-1,[x],a⟩
 | bin {o x y a}:Iu o->Hx vs sc x->Hx vs sc y->Hx vs sc ⟨o,1,0,-1,[x,y],a⟩
theorem IP {a b:Int} (h:zR a b=1):a=1/\b=1:=by
 unfold zR at h
 split at h
 ·omega
 ·split at h <;> omega
theorem Pq.pub {o:bW} {x y:aD} (h:Pq o x y 1):Iu o/\x.cJ=1/\y.cJ=1:=by
 unfold Iu
 rcases h with ⟨h1,h2,h3,_⟩ | ⟨h1,h2,_,h3⟩ | ⟨h1,h2,_,_⟩ | ⟨h1,_,h2⟩ | ⟨h1,h2,_⟩
 ·exact ⟨by rcases h1 with h | h <;> simp [h],h2,h3⟩
 ·exact ⟨by rcases h1 with h | h | h <;> simp [h],h3.symm,h2⟩
 ·exact ⟨by simp [h1],IP h2.symm⟩
 ·split at h2
  ·omega
  ·exact ⟨by rcases h1 with h | h <;> simp [h],IP h2.symm⟩
 ·exact ⟨by rcases h1 with h | h | h | h | h <;> simp [h],IP h2.symm⟩
theorem TX.pub {vs:List aJ} {sc:List Int} {x:aD} (h:TX vs sc x):x.cJ=1->Hx vs sc x:=by
 induction h with
 | num h1 h2=>exact λ_=>.num h1 h2
 | @var v u a h1 h2 h3=>
   intro ht;have ht:u.bK=(1:Int):=ht;rw [ht];exact .var h1 h2 ht
 | index=>exact λht=>absurd (show (2:Int)=1 from ht) (by decide)
 | @un o x a h1 _ ih=>
   intro ht;have ht:x.cJ=(1:Int):=ht;rw [ht];exact .un h1 (ih ht)
 | @bin o x y t a _ _ hb ih1 ih2=>
   intro ht;have ht:t=(1:Int):=ht;subst ht;obtain ⟨b1,b2,b3⟩:=hb.pub;exact .bin b1 (ih1 b2) (ih2 b3)
 | @sel c x y a _ _ _ _ _ _ _ _=>
   intro ht;have ht:Hz (zR x.cJ y.cJ)=(1:Int):=ht;unfold Hz at ht
   split at ht <;> omega
 | long=>exact λht=>absurd (show (3:Int)=1 from ht) (by decide)
 | wide=>exact λht=>absurd (show (3:Int)=1 from ht) (by decide)
 | half=>exact λht=>absurd (show (2:Int)=1 from ht) (by decide)
mutual
def tm:aH->Nat
 | ⟨_,_,l⟩=>1+pO l
def pO:List aH->Nat
 | []=>0
 | x::l=>tm x+pO l
end
theorem NU (x:aH):tm x=1+pO x.aL:=by cases x;rw [tm]
theorem tmL_app (a b:List aH):pO (a++b)=pO a+pO b:=by
 induction a with
 | nil=>rw [Dh,pO,Lo]
 | cons x a ih=>rw [LV,pO,pO,ih,Nat.add_assoc]
theorem Kk (x:aH):1<=tm x:=by rw [NU];omega
theorem Rh {l:List aH} {x:aH} (h:x ∈ l):tm x<=pO l:=by
 obtain ⟨a,b,rfl⟩:=List.append_of_mem h;rw [tmL_app,pO];omega
theorem JU (l:List aH):l.length<=pO l:=by
 induction l with
 | nil=>exact Jc _
 | cons x l ih=>have:=Kk x;rw [pX,pO];omega
theorem oY {α:Type} {l:List α} {i:Nat} {x:α} (h:l[i]? = some x):aZ l (i:Int)=some x:=by rw [OP];exact h
theorem Xf {f:aH->Option Int} {t:aH} (hf:∀x ∈ t.aL,f x=some (tm x:Int)) (hb:tm t<=1000000000) :
  ∀(k v:Nat) (acc:Int),t.aL.length<v+k->v<=t.aL.length->0<=acc->acc+pO (t.aL.drop v)<=1000000000->Ai f t k acc (v:Int)=some (acc+pO (t.aL.drop v)):=by
 have hlen:=JU t.aL;have hte:=NU t;intro k
 induction k with
 | zero=>intro v acc h1 h2;omega
 | succ k ih=>
   intro v acc h1 h2 h3 h4;unfold Ai
   by_cases hv:v<t.aL.length
   ·have hd:t.aL.drop v=t.aL[v]::t.aL.drop (v+1):=NQ hv;have f1:=hf _ (LU hv);rw [hd,pO] at h4;rw [if_pos (tA (by omega)),oY (wB hv),dV,f1,dV,cG (n:=acc+_) (by omega) (by omega),cG (n:=(v:Int)+1) (by omega) (by omega),show ((v:Int)+1)=((v+1:Nat):Int) by omega,ih (v+1) _ (by omega) (by omega) (by omega) (by omega),hd,pO]
    congr 1;omega
   ·rw [if_neg (by rw [sX];omega),TR (by omega),pO]
    congr 1;omega
theorem Xg:∀(n:Nat) (t:aH),tm t<n->tm t<=1000000000->wG n t=some (tm t:Int):=by
 intro n
 induction n with
 | zero=>intro t h;omega
 | succ n ih=>
   intro t h hb;show xR (wG n) n t=_;unfold xR;have hl:=JU t.aL;have he:=NU t
   have:=Xf (f:=wG n) (t:=t) (λx hx=>by
    have h1:=Rh hx;exact ih _ (by omega) (by omega)) hb n 0 1 (by omega) (by omega) (by omega) (by rw [Ct];omega)
   rw [show ((0:Nat):Int)=0 from rfl] at this;rw [this,dV,Ct]
   congr 1;omega
inductive Sh (b:Bool):aH->Prop
 | z:b=true->Sh b ⟨0,0,[]⟩
 | con {v}:0<=v->v<=4294967295->Sh b ⟨1,v,[]⟩
 | var {k}:0<=k->k<=255->Sh b ⟨2,k,[]⟩
 | un {o x}:(o=3 ∨ o=4)->Sh b x->Sh b ⟨o,0,[x]⟩
 | bin {o x y}:5<=o->o<=17->Sh b x->Sh b y->Sh b ⟨o,0,[x,y]⟩
theorem Sh.mono {b b':Bool} (hb:b=true->b'=true) {t:aH} (h:Sh b t):Sh b' t:=by
 induction h with
 | z e=>exact .z (hb e)
 | con h1 h2=>exact .con h1 h2
 | var h1 h2=>exact .var h1 h2
 | un h _ ih=>exact .un h ih
 | bin h1 h2 _ _ i1 i2=>exact .bin h1 h2 i1 i2
theorem Nv {a b:Int}:0<=sJ .u32 a b:=by unfold sJ;rw [IntKind.wrap_u32];omega
theorem TI {a b:Int}:0<=sJ .u64 a b:=by unfold sJ;rw [IntKind.wrap_u64];omega
def pW (x:Int):Prop:=0<=x/\x<=4294967295
theorem pW.wrap (x:Int):pW (IntKind.u32.wrap x):=by unfold pW;rw [IntKind.wrap_u32];omega
theorem pW.z:pW 0:=by unfold pW;omega
theorem pW.i:pW 1:=by unfold pW;omega
theorem pW.m:pW 4294967295:=by unfold pW;omega
theorem pW.div {x y:Int} (h:pW x) (k:0<=y):pW (x / y):=⟨Int.ediv_nonneg h.1 k,Int.le_trans (Int.ediv_le_self _ h.1) h.2⟩
theorem pW.shr {x:Int} (h:pW x) (y:Int):pW (Hi .u32 x y):=by
 unfold Hi;rw [xeg _ (Int.pow_nonneg (by decide))];exact h.div (Int.pow_nonneg (by decide))
theorem uG (b:Bool):uV b=some (if b=true then 1 else 0):=by unfold uV;cases b <;> rfl
theorem pW.ite (b:Bool):pW (if b=true then 1 else 0):=by unfold pW;cases b <;> decide
theorem rot_tot (a b:Int):bD (iZ a b) pW:=by
 unfold iZ;refine bD.need TI (bD.need ?_ (.some (.wrap _)));rw [IntKind.wrap_u64];omega
theorem SX (o:Int) {a b:Int} (ha:pW a):bD (mY o a b) pW:=by
 unfold mY;refine bD.iteb (λ_=>.some (.wrap _)) λ_=>bD.iteb (λ_=>.some (.wrap _)) λ_=>bD.iteb (λ_=>.some (.wrap _)) λ_=>bD.iteb (λ_=>.need Nv (.some (.wrap _))) λ_=>bD.iteb (λ_=>.need Nv (.some (ha.shr _))) λ_=>?_;exact (rot_tot _ _).bind λ_ h=>.some h
theorem pW.tmod {a b:Int} (h:pW a) (k:pW b):pW (a.tmod b):=by
 rw [xeb h.1]
 by_cases hb:b=0
 ·rw [hb,Int.emod_zero];exact h
 ·have:=Int.emod_lt_of_pos a (show 0<b by have:=k.1;omega);exact ⟨Int.emod_nonneg _ hb,by have:=k.2;omega⟩
theorem Rf (o:Int) {a b:Int} (ha:pW a) (hb:pW b):bD (fZ o a b) λr=>pW r.1:=by
 unfold fZ;rw [uG,uG];refine bD.iteb (λ_=>.some (.ite _)) λ_=>bD.iteb (λ_=>.some (.ite _)) λ_=>bD.iteb (λ_=>.some (.wrap _)) λ_=>bD.iteb (λ_=>.some (.wrap _)) λ_=>bD.iteb (λ_=>.some (.wrap _)) λ_=>bD.iteb (λ_=>?_) λ_=>bD.iteb (λ_=>?_) λ_=>?_
 ·exact bD.iteb (λ_=>.some .z) λh=>bD.need (by simpa using h) (.some (.wrap _))
 ·exact bD.iteb (λ_=>.some .z) λh=>bD.need (by simpa using h) (.some (ha.tmod hb))
 ·exact (SX _ ha).bind λ_ h=>.some h
def Ba (l:List Int):Prop:=∀x ∈ l,pW x
theorem Ba.nil:Ba []:=λ_ h=>nomatch h
theorem Ba.idx {l:List Int} (h:Ba l) {i:Int} {x:Int} (e:aZ l i=some x):pW x:=h _ (by obtain ⟨_,_,e⟩:=bI e;exact FK e)
theorem Ba.tot {l:List Int} (h:Ba l) {i:Int} (h1:0<=i) (h2:i<l.length):bD (aZ l i) pW:=by
 obtain ⟨x,e,_⟩:=bD.idx (l:=l) (Q:=λ_=>True) h1 h2 λ_ _=>trivial;exact ⟨x,e,h.idx e⟩
theorem KN {b:Bool} {t:aH} (h:Sh b t) (hl:t.aL=[]) {ws:List Int} (hw:Ba ws):bD (wQ t ws) pW:=by
 unfold wQ;cases h with
 | con h1 h2=>exact bD.iteb (λ_=>.some ⟨h1,h2⟩) λh=>nomatch h
 | z e=>
   refine bD.iteb (λh=>absurd h (by decide)) λ_=>bD.iteb (λh=>?_) λ_=>.some .z;have h:=By h;rw [cG (by decide) (by decide)] at h;exact (hw.tot (Se _) h).bind λ_ h=>.some h
 | @var k h1 h2=>
   refine bD.iteb (λh=>nomatch h) λ_=>bD.iteb (λh=>?_) λ_=>.some .z;have h:=By h;rw [cG (show -9223372036854775808<=k by omega) (show k<=9223372036854775807 by omega)] at h;exact (hw.tot h1 h).bind λ_ h=>.some h
 | un=>cases hl
 | bin=>cases hl
theorem Po {b:Bool} {t:aH} (h:Sh b t) {ws:List Int} (hw:Ba ws):∀n,tm t<n->bD (jC n t ws) λr=>pW r.1:=by
 induction h with
 | z e=>
   intro n hn;obtain ⟨m,rfl⟩:∃m,n=m+1:=⟨n - 1,by omega⟩;show bD (lC (jC m) m _ ws) _;unfold lC;rw [if_pos (by rfl)];exact (KN (Sh.z (b:=b) e) rfl hw).bind λ_ h=>.some h
 | con=>
   intro n hn;obtain ⟨m,rfl⟩:∃m,n=m+1:=⟨n - 1,by omega⟩;show bD (lC (jC m) m _ ws) _;unfold lC;rw [if_pos (by rfl)];exact (KN (Sh.con (b:=b) ‹_› ‹_›) rfl hw).bind λ_ h=>.some h
 | var h1 h2=>
   intro n hn;obtain ⟨m,rfl⟩:∃m,n=m+1:=⟨n - 1,by omega⟩;show bD (lC (jC m) m _ ws) _;unfold lC;rw [if_pos (by rfl)];exact (KN (Sh.var (b:=b) h1 h2) rfl hw).bind λ_ h=>.some h
 | @un o x ho hx ih=>
   intro n hn;obtain ⟨m,rfl⟩:∃m,n=m+1:=⟨n - 1,by omega⟩;rw [tm,pO,pO] at hn;show bD (lC (jC m) m _ ws) _;unfold lC;rw [if_neg (by simp)];refine bD.eqn (v:=x) rfl ?_;refine (ih m (by omega)).bind λr hr=>?_;refine bD.eqn (v:=true) (by split <;> rfl) ?_;rw [if_pos rfl,uG,dV];have h1:bD (At o r.1) λ_=>True:=by unfold At;exact bD.iteb (λ_=>.some trivial) λ_=>.some trivial
   exact h1.bind λ_ _=>.some (.wrap _)
 | @bin o x y h1 h2 hx hy i1 i2=>
   intro n hn;obtain ⟨m,rfl⟩:∃m,n=m+1:=⟨n - 1,by omega⟩;rw [tm,pO,pO,pO] at hn;show bD (lC (jC m) m _ ws) _;unfold lC;rw [if_neg (by simp)];refine bD.eqn (v:=x) rfl ?_;refine (i1 m (by omega)).bind λr hr=>?_;refine bD.bind (P:=λ_=>True) (by split <;> exact .some trivial) λc _=>?_;refine bD.iteb (λ_=>?_) λ_=>?_
   ·rw [uG,dV];have h1:bD (At o r.1) λ_=>True:=by unfold At;exact bD.iteb (λ_=>.some trivial) λ_=>.some trivial
    exact h1.bind λ_ _=>.some (.wrap _)
   ·refine bD.eqn (v:=y) rfl ?_;refine (i2 m (by omega)).bind λs hs=>?_;exact bD.iteb (λ_=>.some .z) λ_=>(Rf _ hr hs).bind λ_ h=>.some h
theorem Pl {b:Bool} {t:aH} (h:Sh b t):∀n,tm t+20<n->bD (eA n t) λr=>Sh b r/\tm r<=tm t:=by
 have fin:∀(m:Nat) (c:Bool) (r t:aH),Sh b r->tm r<=tm t->tm r<m->bD (if (!c)=true then some r else (jC m r []).bind λx=>if x.2=true then (Ah x.1).bind λy=>some y else some r) λr=>Sh b r/\tm r<=tm t:=λm c r t h1 h2 h3=>by
  refine bD.iteb (λ_=>.some ⟨h1,h2⟩) λ_=>?_;refine (Po h1 .nil m h3).bind λx hx=>bD.iteb (λ_=>?_) λ_=>.some ⟨h1,h2⟩;exact .some ⟨.con hx.1 hx.2,by rw [tm,pO];have:=Kk r;omega⟩
 induction h with
 | z e=>
   intro n hn;rw [tm,pO] at hn;obtain ⟨m,rfl⟩:∃m,n=m+2:=⟨n - 2,by omega⟩;show bD (jT (eA (m+1)) (m+1) _) _;unfold jT iI;rw [if_neg (by decide),dV];exact fin _ _ _ _ (.z e) (sZ _) (by rw [tm,pO];omega)
 | con c1 c2=>
   intro n hn;rw [tm,pO] at hn;obtain ⟨m,rfl⟩:∃m,n=m+2:=⟨n - 2,by omega⟩;show bD (jT (eA (m+1)) (m+1) _) _;unfold jT iI;rw [if_neg (by simp),dV];exact fin _ _ _ _ (.con c1 c2) (sZ _) (by rw [tm,pO];omega)
 | var h1 h2=>
   intro n hn;rw [tm,pO] at hn;obtain ⟨m,rfl⟩:∃m,n=m+2:=⟨n - 2,by omega⟩;show bD (jT (eA (m+1)) (m+1) _) _;unfold jT iI;rw [if_neg (by simp),dV];exact fin _ _ _ _ (.var h1 h2) (sZ _) (by rw [tm,pO];omega)
 | @un o x ho hx ih=>
   intro n hn;rw [tm,pO,pO] at hn;obtain ⟨m,rfl⟩:∃m,n=m+3:=⟨n - 3,by omega⟩;show bD (jT (eA (m+2)) (m+2) _) _;unfold jT;obtain ⟨x',hx',s1,s2⟩:=ih (m+2) (by omega);refine bD.bind (P:=λr=>Sh b r.2/\tm r.2<=1+tm x) ?_ λr hr=>fin _ _ _ _ hr.1 (by rw [tm,pO,pO];omega) (by omega);unfold iI;rw [if_pos (by simp)];refine bD.eqn (v:=x) rfl ?_;rw [hx',dV];refine bD.need (by simp) ?_;refine bD.bind (P:=λ_=>True) (by split <;> exact .some trivial) λc _=>?_;rw [cG (by decide) (by decide)];unfold iI;rw [if_neg (by simp)];exact .some ⟨.un ho s1,by simp only [Dh];rw [tm,pO,pO];omega⟩
 | @bin o x y h1 h2 hx hy i1 i2=>
   intro n hn;rw [tm,pO,pO,pO] at hn;obtain ⟨m,rfl⟩:∃m,n=m+4:=⟨n - 4,by omega⟩;show bD (jT (eA (m+3)) (m+3) _) _;unfold jT;obtain ⟨x',hx',s1,s2⟩:=i1 (m+3) (by omega);obtain ⟨y',hy',s3,s4⟩:=i2 (m+3) (by omega);refine bD.bind (P:=λr=>Sh b r.2/\tm r.2<=1+tm x+tm y) ?_ λr hr=>fin _ _ _ _ hr.1 (by rw [tm,pO,pO,pO];omega) (by omega);unfold iI;rw [if_pos (by simp)];refine bD.eqn (v:=x) rfl ?_;rw [hx',dV];refine bD.need (by simp) ?_;refine bD.bind (P:=λ_=>True) (by split <;> exact .some trivial) λc _=>?_;rw [cG (by decide) (by decide)];unfold iI;rw [if_pos (by simp)];refine bD.eqn (v:=y) rfl ?_;rw [hy',dV];refine bD.need (by simp) ?_;refine bD.bind (P:=λ_=>True) (by split <;> exact .some trivial) λc _=>?_;rw [cG (by decide) (by decide)];unfold iI;rw [if_neg (by simp)];exact .some ⟨.bin h1 h2 s1 s3,by simp only [Dh,LV];rw [tm,pO,pO,pO];omega⟩
def IN (a:bW):Int:=((eF.find? λx=>decide (x.Jg=a)).map (·.op_)).getD 0
theorem op_l1 {a:bW}:∀(c j:Nat),j<=15->15<j+c->Bt a c (j:Int)=some (match (eF.drop j).find? (λx=>decide (x.Jg=a)) with | some x=>.inr x.op_ | none=>.inl ()):=by
 intro c
 induction c with
 | zero=>intro j h1 h2;omega
 | succ c ih=>
   intro j h1 h2;unfold Bt;have hlen:eF.length=15:=by kernel_rfl
   by_cases hj:j<15
   ·rw [if_pos (tA (by omega)),oY (wB (by omega)),dV,NQ (by omega),List.find?_cons];cases hd:decide (eF[j].Jg=a) with
    | true=>rw [if_pos rfl]
    | false=>
      rw [if_neg (by decide),cG (by omega) (by omega)];exact ih (j+1) (by omega) (by omega)
   ·rw [if_neg (by rw [sX];omega),TR (by omega)];rfl
theorem op_eq {n:Nat} (hn:16<=n) (a:bW):BC n a=some (IN a):=by
 unfold BC IN;have:=op_l1 (a:=a) n 0 (by omega) (by omega);rw [Ct] at this;rw [show ((0:Nat):Int)=0 from rfl] at this;rw [this,dV];cases eF.find? (λx=>decide (x.Jg=a)) <;> rfl
theorem op_two {o:bW} (h:Iu o):5<=IN o/\IN o<=17:=by
 rcases h with h | h | h | h | h | h | h | h | h | h | h | h | h <;> subst h <;> decide
theorem op_one {o:bW} (h:o=[110,111,116] ∨ o=[110,101,103]):IN o=3 ∨ IN o=4:=by
 rcases h with h | h <;> subst h <;> decide
abbrev Uw:aH:=⟨0,0,[]⟩
mutual
def DA (T:List aH):aD->aH
 | ⟨o,_,n,v,l,_⟩=>if o=[110,117,109] then ⟨1,n,[]⟩ else if o=[118,97,114] then (aZ T v).getD Uw else ⟨IN o,0,rR T l⟩
def rR (T:List aH):List aD->List aH
 | []=>[]
 | x::l=>DA T x::rR T l
end
theorem GT {T:List aH} {ty n v a:Int} {l:List aD}:DA T ⟨[110,117,109],ty,n,v,l,a⟩=⟨1,n,[]⟩:=by rw [DA,if_pos rfl]
theorem JX {T:List aH} {ty n v a:Int} {l:List aD} {t:aH} (h:aZ T v=some t):DA T ⟨[118,97,114],ty,n,v,l,a⟩=t:=by rw [DA,if_neg (by decide),if_pos rfl,h];rfl
theorem xU {T:List aH} {o:bW} {ty n v a:Int} {l:List aD} (h1:o ≠ [110,117,109]) (h2:o ≠ [118,97,114]):DA T ⟨o,ty,n,v,l,a⟩=⟨IN o,0,rR T l⟩:=by rw [DA,if_neg h1,if_neg h2]
theorem DX {α:Type} {x:α} {l:List α}:aZ (x::l) 0=some x:=rfl
theorem Qu {α:Type} {x y:α} {l:List α}:aZ (x::y::l) (0+1)=some y:=rfl
structure zF (b:Bool) (vs:List aJ) (sc:List Int) (T:List aH):Prop where
 len:T.length=vs.length
 ok:∀v ∈ sc,∀u,aZ vs v=some u->u.bK=1->∃t,aZ T v=some t/\Sh b t/\tm t<=2000
theorem Iu.ne {o:bW} (h:Iu o):o ≠ [110,117,109]/\o ≠ [118,97,114]/\o ≠ [105,110,100,101,120]:=by
 rcases h with h | h | h | h | h | h | h | h | h | h | h | h | h <;> subst h <;> decide
theorem Sign1.ne {o:bW} (h:o=[110,111,116] ∨ o=[110,101,103]):o ≠ [110,117,109]/\o ≠ [118,97,114]/\o ≠ [105,110,100,101,120]/\o ≠ [47]/\o ≠ [37]:=by
 rcases h with h | h <;> subst h <;> decide
section
variable {b:Bool} {vs:List aJ} {sc:List Int} {c:bE} {x:aD}
theorem IL (hT:zF b vs sc c.aX) (h:Hx vs sc x):Sh b (DA c.aX x)/\tm (DA c.aX x)<=2000*xz x:=by
 induction h with
 | num h1 h2=>rw [GT];exact ⟨.con h1 h2,by rw [tm,pO,xz,pQ];omega⟩
 | var h1 h2 h3=>
   obtain ⟨t,k1,k2,k3⟩:=hT.ok _ h1 _ h2 h3;rw [JX k1];exact ⟨k2,by rw [xz,pQ];exact k3⟩
 | un h _ ih=>
   obtain ⟨n1,n2,_⟩:=Sign1.ne h;rw [xU n1 n2,rR,rR];exact ⟨.un (op_one h) ih.1,by rw [tm,pO,pO,xz,pQ,pQ];have:=ih.2;omega⟩
 | bin h _ _ i1 i2=>
   obtain ⟨n1,n2,_⟩:=h.ne;rw [xU n1 n2,rR,rR,rR];obtain ⟨o1,o2⟩:=op_two h;exact ⟨.bin o1 o2 i1.1 i2.1,by rw [tm,pO,pO,pO,xz,pQ,pQ,pQ];have:=i1.2;have:=i2.2;omega⟩
theorem Vi (hT:zF b vs sc c.aX) (h:Hx vs sc x):∀n,xz x+20<n->jI n c x=some (DA c.aX x):=by
 induction h with
 | num=>
   intro n hn;obtain ⟨m,rfl⟩:∃m,n=m+1:=⟨n - 1,by omega⟩;show fK (jI m) m c _=_;unfold fK;rw [GT,if_pos (by rfl)];rfl
 | var h1 h2 h3=>
   intro n hn;obtain ⟨m,rfl⟩:∃m,n=m+1:=⟨n - 1,by omega⟩;show fK (jI m) m c _=_;unfold fK;obtain ⟨t,k1,k2,k3⟩:=hT.ok _ h1 _ h2 h3;rw [JX k1,if_neg (by simp),if_pos (by rfl),k1];rfl
 | @un o x a h hx ih=>
   intro n hn;rw [xz,pQ,pQ] at hn;obtain ⟨m,rfl⟩:∃m,n=m+3:=⟨n - 3,by omega⟩;show fK (jI (m+2)) (m+2) c _=_;unfold fK;obtain ⟨n1,n2,_⟩:=Sign1.ne h;rw [xU n1 n2,if_neg (by simpa using n1),if_neg (by simpa using n2),op_eq (by omega),dV];unfold kA;rw [if_pos (by simp),DX,dV,ih _ (by omega),dV,iR (by simp),cG (by decide) (by decide)];unfold kA;rw [if_neg (by simp)];rfl
 | @bin o x y a h hx hy i1 i2=>
   intro n hn;rw [xz,pQ,pQ,pQ] at hn;obtain ⟨m,rfl⟩:∃m,n=m+4:=⟨n - 4,by omega⟩;show fK (jI (m+3)) (m+3) c _=_;unfold fK;obtain ⟨n1,n2,_⟩:=h.ne;rw [xU n1 n2,if_neg (by simpa using n1),if_neg (by simpa using n2),op_eq (by omega),dV];unfold kA;rw [if_pos (by simp),DX,dV,i1 _ (by omega),dV,iR (by simp),cG (by decide) (by decide)];unfold kA;rw [if_pos (by simp),Qu,dV,i2 _ (by omega),dV,iR (by simp),cG (by decide) (by decide)];unfold kA;rw [if_neg (by simp)];rfl
theorem Si (hT:zF b vs sc c.aX) (h:Hx vs sc x) (hb:xz x<=100000000):∀n,xz x+2100<n->jA n c x=some (tm (DA c.aX x):Int):=by
 induction h with
 | num=>
   intro n hn;obtain ⟨m,rfl⟩:∃m,n=m+2:=⟨n - 2,by omega⟩;show eW (jA (m+1)) (m+1) c _=_;unfold eW iN;rw [GT,if_neg (by simp),if_neg (by simp),tm,pO];rfl
 | var h1 h2 h3=>
   intro n hn;obtain ⟨m,rfl⟩:∃m,n=m+1:=⟨n - 1,by omega⟩;show eW (jA m) m c _=_;unfold eW;obtain ⟨t,k1,k2,k3⟩:=hT.ok _ h1 _ h2 h3;rw [JX k1,if_pos (by rfl),k1,dV,Xg _ _ (by omega) (by omega)];rfl
 | @un o x a h hx ih=>
   intro n hn;rw [xz,pQ,pQ] at hn hb;obtain ⟨m,rfl⟩:∃m,n=m+3:=⟨n - 3,by omega⟩;show eW (jA (m+2)) (m+2) c _=_;unfold eW;obtain ⟨n1,n2,_⟩:=Sign1.ne h;have hz:=(IL hT hx).2;rw [xU n1 n2,if_neg (by simpa using n2)];unfold iN;rw [if_pos (by simp),DX,dV,ih (by omega) _ (by omega),dV,cG (n:=(1:Int)+_) (by omega) (by omega),cG (by decide) (by decide)];unfold iN;rw [if_neg (by simp),rR,rR,tm,pO,pO,dV]
   congr 1
 | @bin o x y a h hx hy i1 i2=>
   intro n hn;rw [xz,pQ,pQ,pQ] at hn hb;obtain ⟨m,rfl⟩:∃m,n=m+4:=⟨n - 4,by omega⟩;show eW (jA (m+3)) (m+3) c _=_;unfold eW;obtain ⟨n1,n2,_⟩:=h.ne;have hz:=(IL hT hx).2;have hz2:=(IL hT hy).2;rw [xU n1 n2,if_neg (by simpa using n2)];unfold iN;rw [if_pos (by simp),DX,dV,i1 (by omega) _ (by omega),dV,cG (n:=(1:Int)+_) (by omega) (by omega),cG (by decide) (by decide)];unfold iN;rw [if_pos (by simp),Qu,dV,i2 (by omega) _ (by omega),dV,cG (n:=(1:Int)+_+_) (by omega) (by omega),cG (by decide) (by decide)];unfold iN;rw [if_neg (by simp),rR,rR,rR,tm,pO,pO,pO,dV]
   congr 1;omega
theorem Hx.type (h:Hx vs sc x):x.cJ=1:=by cases h <;> rfl
theorem QT (hT:zF b vs sc c.aX) (h:Hx vs sc x) (hb:xz x<=100000000) {n:Nat} (hn:xz x+2100<n) :
  bD (pL n c x) λr=>(r.2=0/\tm (DA c.aX x)<=2000/\eA n (DA c.aX x)=some r.1/\Sh b r.1/\tm r.1<=2000) ∨ (r.2=161/\2000<tm (DA c.aX x)/\r.1=Uw):=by
 unfold pL;obtain ⟨s1,s2⟩:=IL hT h;rw [h.type,if_neg (by decide),Si hT h hb n hn,dV];refine bD.iteb (λh2=>.some (.inr ⟨rfl,by have:=By h2;omega,rfl⟩)) λh2=>?_;have h2:=NP h2;rw [Vi hT h n (by omega),dV];obtain ⟨r,hr,k1,k2⟩:=Pl s1 n (by omega);rw [hr,dV];exact .some (.inl ⟨rfl,by omega,rfl,k1,by show tm r<=2000;omega⟩)
end
def Er (a b:Int):Prop:=b=a ∨ a=0/\b=161
theorem Er.refl (a:Int):Er a a:=.inl rfl
theorem Er.trans {a b c:Int} (h:Er a b) (k:Er b c):Er a c:=by
 rcases h with rfl | ⟨rfl,rfl⟩
 ·exact k
 ·rcases k with rfl | ⟨h,_⟩
  ·exact .inr ⟨rfl,rfl⟩
  ·cases h
theorem Er.keep {a b:Int} (h:Er a b) (ha:a ≠ 0):b=a:=h.resolve_right λk=>ha k.1
theorem Er.zero {a b:Int} (h:Er a b) (hb:b=0):a=0:=by rcases h with rfl | ⟨h,_⟩;exact hb;exact h
section
variable {b:Bool} {vs:List aJ} {sc:List Int} {y:aN} {x:aD}
theorem Mz (hT:zF b vs sc y.c_.aX) (h:Hx vs sc x) (hb:xz x<=100000000) {n:Nat} (hn:xz x+2100<n) :
  bD (lI n y x) λr=>r.2.c_=y.c_/\Er y.e_ r.2.e_/\((tm (DA y.c_.aX x)<=2000/\eA n (DA y.c_.aX x)=some r.1/\Sh b r.1/\r.2.e_=y.e_) ∨ (2000<tm (DA y.c_.aX x)/\r.1=Uw/\r.2.e_ ≠ 0))/\tm r.1<=2000:=by
 unfold lI;refine (QT hT h hb hn).bind λr hr=>?_;have hz:tm Uw<=2000:=by rw [tm,pO];omega
 refine bD.iteb (λh0=>.some ⟨rfl,?_,?_,?_⟩) λh0=>.some ⟨rfl,.inl rfl,?_,?_⟩
 ·have h0:y.e_=0:=by simpa using h0
  rcases hr with ⟨h1,_⟩ | ⟨h1,_⟩
  ·exact .inl (h1.trans h0.symm)
  ·exact .inr ⟨h0,h1⟩
 ·have h0:y.e_=0:=by simpa using h0
  rcases hr with ⟨h1,h2,h3,h4,_⟩ | ⟨h1,h2,h3⟩
  ·exact .inl ⟨h2,h3,h4,h1.trans h0.symm⟩
  ·exact .inr ⟨h2,h3,by show r.2 ≠ 0;rw [h1];decide⟩
 ·rcases hr with ⟨_,_,_,_,h5⟩ | ⟨_,_,h3⟩
  ·exact h5
  ·rw [h3];exact hz
 ·have h0:y.e_ ≠ 0:=by simpa using h0
  rcases hr with ⟨h1,h2,h3,h4,_⟩ | ⟨h1,h2,h3⟩
  ·exact .inl ⟨h2,h3,h4,rfl⟩
  ·exact .inr ⟨h2,h3,h0⟩
 ·rcases hr with ⟨_,_,_,_,h5⟩ | ⟨_,_,h3⟩
  ·exact h5
  ·rw [h3];exact hz
def WZ (y r:aN):Prop:=r.c_=y.c_/\Er y.e_ r.e_
theorem WZ.refl (y:aN):WZ y y:=⟨rfl,.inl rfl⟩
theorem WZ.trans {y z r:aN} (h:WZ y z) (k:WZ z r):WZ y r:=⟨k.1.trans h.1,h.2.trans k.2⟩
theorem look_l2 {n:Nat} (hP:∀z ∈ x.aL,Hx vs sc z) (hb:pQ x.aL<=100000000) (hn:pQ x.aL+2100<n):∀(k v:Nat) (y:aN),zF b vs sc y.c_.aX->x.aL.length<v+k->v<=x.aL.length->bD (qM n x k (v:Int) y) (WZ y):=by
 have hlen:=Af x.aL;intro k
 induction k with
 | zero=>intro v y hT h1 h2;omega
 | succ k ih=>
   intro v y hT h1 h2;unfold qM;refine bD.iteb (λhv=>?_) λhv=>.some (.refl y);have hv:v<x.aL.length:=by have:=By hv;omega
   refine bD.eqn (oY (wB hv)) ?_;have hm:=Bj (LU hv);refine (Mz hT (hP _ (LU hv)) (by omega) (by omega)).bind λr hr=>?_;rw [cG (by omega) (by omega),show ((v:Int)+1)=((v+1:Nat):Int) by omega];exact (ih (v+1) r.2 (by rw [hr.1];exact hT) (by omega) (by omega)).mono λz hz=>WZ.trans ⟨hr.1,hr.2.1⟩ hz
theorem look_l1 {f:aN->aD->Option aN} (hf:∀z ∈ x.aL,∀y:aN,zF b vs sc y.c_.aX->bD (f y z) (WZ y)) (hb:pQ x.aL<=100000000):∀(k v:Nat) (y:aN),zF b vs sc y.c_.aX->x.aL.length<v+k->v<=x.aL.length->bD (qN f x k (v:Int) y) (WZ y):=by
 have hlen:=Af x.aL;intro k
 induction k with
 | zero=>intro v y hT h1 h2;omega
 | succ k ih=>
   intro v y hT h1 h2;unfold qN;refine bD.iteb (λhv=>?_) λhv=>.some (.refl y);have hv:v<x.aL.length:=by have:=By hv;omega
   refine bD.eqn (oY (wB hv)) ?_;refine (hf _ (LU hv) y hT).bind λr hr=>?_;rw [cG (by omega) (by omega),show ((v:Int)+1)=((v+1:Nat):Int) by omega];exact (ih (v+1) r (by rw [hr.1];exact hT) (by omega) (by omega)).mono λz hz=>hr.trans hz
theorem TX.list (h:TX vs sc x):(∀z ∈ x.aL,TX vs sc z)/\((x.dR=[105,110,100,101,120] ∨ x.dR=[47] ∨ x.dR=[37])->∀z ∈ x.aL,Hx vs sc z):=by
 have one:∀ {P:aD->Prop} {x},P x->∀z ∈ [x],P z:=λh z hz=>by rw [AV.1 hz];exact h
 have two:∀ {P:aD->Prop} {x y},P x->P y->∀z ∈ [x,y],P z:=λh k z hz=>by
  rcases ES.1 hz with rfl | hz
  ·exact h
  ·exact one k z hz
 have tri:∀ {P:aD->Prop} {x y u},P x->P y->P u->∀z ∈ [x,y,u],P z:=λh k l z hz=>by
  rcases ES.1 hz with rfl | hz
  ·exact h
  ·exact two k l z hz
 cases h with
 | num=>exact ⟨λ_ h=>(nomatch h),λ_ _ h=>(nomatch h)⟩
 | var=>exact ⟨λ_ h=>(nomatch h),λ_ _ h=>(nomatch h)⟩
 | index h1 h2 h3 h4 h5 h6=>exact ⟨one h4,λ_=>one (h4.pub h5)⟩
 | un h1 h2=>
   obtain ⟨_,_,n3,n4,n5⟩:=Sign1.ne h1;exact ⟨one h2,λh=>h.elim (λh=>absurd h n3) λh=>h.elim (λh=>absurd h n4) λh=>absurd h n5⟩
 | @bin o x y t a h1 h2 h3=>
   refine ⟨two h1 h2,λh=>?_⟩
   have ho:o=[47] ∨ o=[37]:=by
    rcases h with h | h
    ·exfalso
     have h:o=[105,110,100,101,120]:=h;subst h
     rcases h3 with ⟨h,_⟩ | ⟨h,_⟩ | ⟨h,_⟩ | ⟨h,_⟩ | ⟨h,_⟩
     ·rcases h with h | h <;> exact absurd h (by decide)
     ·rcases h with h | h | h <;> exact absurd h (by decide)
     ·exact absurd h (by decide)
     ·rcases h with h | h <;> exact absurd h (by decide)
     ·rcases h with h | h | h | h | h <;> exact absurd h (by decide)
    ·exact h
   have:x.cJ=1/\y.cJ=1:=by
    rcases h3 with ⟨_,h4,h5,_⟩ | ⟨h,_⟩ | ⟨h,_⟩ | ⟨h,_⟩ | ⟨h,_⟩
    ·exact ⟨h4,h5⟩
    ·exfalso;rcases ho with rfl | rfl <;> rcases h with h | h | h <;> exact absurd h (by decide)
    ·exfalso;rcases ho with rfl | rfl <;> exact absurd h (by decide)
    ·exfalso;rcases ho with rfl | rfl <;> rcases h with h | h <;> exact absurd h (by decide)
    ·exfalso;rcases ho with rfl | rfl <;> rcases h with h | h | h | h | h <;> exact absurd h (by decide)
   exact two (h1.pub this.1) (h2.pub this.2)
 | sel h1 h2 h3 h4 h5=>exact ⟨tri h1 h2 h3,λh=>by rcases h with h | h | h <;> exact absurd h (by simp only;decide)⟩
 | long h1 h2=>exact ⟨one h1,λh=>by rcases h with h | h | h <;> exact absurd h (by simp only;decide)⟩
 | wide h1 h2 h3 h4=>exact ⟨two h1 h2,λh=>by rcases h with h | h | h <;> exact absurd h (by simp only;decide)⟩
 | half h0 h1 h2=>exact ⟨one h1,λh=>by rcases h0 with rfl | rfl <;> rcases h with h | h | h <;> exact absurd h (by simp only;decide)⟩
theorem VD:∀(n:Nat) (x:aD) (y:aN),TX vs sc x->zF b vs sc y.c_.aX->xz x<=100000000->xz x+2200<n->bD (lK n y x) (WZ y):=by
 intro n
 induction n with
 | zero=>intro x y h hT hb hn;omega
 | succ n ih=>
   intro x y h hT hb hn;show bD (oE (lK n) n y x) _;unfold oE;obtain ⟨l1,l2⟩:=h.list;have he:=BG x;have hlen:=Af x.aL
   refine (look_l1 (b:=b) (vs:=vs) (sc:=sc) (f:=lK n) (λz hz y hT=>by
    have:=Bj hz;exact ih z y (l1 z hz) hT (by omega) (by omega)) (by omega) n 0 y hT (by omega) (by omega)).bind λr hr=>?_
   refine bD.bind (P:=λc=>c=true->x.dR=[105,110,100,101,120] ∨ x.dR=[47] ∨ x.dR=[37]) ?_ λc hc=>?_
   ·refine bD.iteb (λh=>.some λ_=>.inl (By h)) λ_=>bD.iteb (λh=>.some λ_=>.inr (.inl (By h))) λ_=>.some λh=>.inr (.inr (By h))
   refine bD.iteb (λh=>?_) λh=>.some hr;refine (look_l2 (b:=b) (n:=n) (l2 (hc h)) (by omega) (by omega) n 0 r (by rw [hr.1];exact hT) (by omega) (by omega)).bind λz hz=>.some (hr.trans hz)
end
structure yS (s:bF):Prop where
 lo:pW s.fS
 hi:pW s.cB
 le:s.fS<=s.cB
def Jr (s:bF) (x:Int):Prop:=s.fS<=x/\x<=s.cB
theorem yS.all:yS ⟨0,4294967295⟩:=⟨.z,.m,by simp only;omega⟩
def OL (lo hi:List Int):Prop:=∀i:Nat,(lo[i]?).getD 0<=(hi[i]?).getD 4294967295
theorem Jr.all {x:Int} (h:pW x):Jr ⟨0,4294967295⟩ x:=h
def Bnd (lo hi ws:List Int):Prop:=∀i:Nat,(lo[i]?).getD 0<=(ws[i]?).getD 0/\(ws[i]?).getD 0<=(hi[i]?).getD 4294967295
theorem WG {l:List Int} (hl:Ba l) {k o:Int} (h1:0<=k) (h2:k<=255) (ho:pW o):bD (Ag l k o) λr=>pW r/\r=(l[k.toNat]?).getD o:=by
 unfold Ag;refine bD.iteb (λh=>?_) λh=>?_
 ·have h:=By h;rw [cG (by omega) (by omega)] at h;refine bD.bind' (bD.idx h1 h λx hx=>.some ⟨hl _ (FK hx),by rw [hx];rfl⟩)
 ·have h:=NP h;rw [cG (by omega) (by omega)] at h;exact .some ⟨ho,by rw [Re (by omega)];rfl⟩
section
variable {a b:Int} (ha:pW a) (hb:pW b)
include ha hb
theorem RS:qT a b 0=some ((a+b) % 4294967296,(a+b) / 4294967296):=by
 obtain ⟨a1,a2⟩:=ha;obtain ⟨b1,b2⟩:=hb;unfold qT Hi;simp only [IntKind.wrap_u32,IntKind.wrap_u64];have e:min (32:Int).toNat IntKind.u64.bits=32:=rfl;rw [e,xeg _ (by decide)]
 congr 2 <;> omega
theorem mul32:sK a b=some ((a*b) / 4294967296,(a*b) % 4294967296):=by
 obtain ⟨a1,a2⟩:=ha;obtain ⟨b1,b2⟩:=hb;unfold sK Hi;simp only [IntKind.wrap_u32,IntKind.wrap_u64];have e:min (32:Int).toNat IntKind.u64.bits=32:=rfl;have h1:0<=a*b:=Int.mul_nonneg a1 b1;have h2:a*b<=4294967295*4294967295:=Int.mul_le_mul a2 b2 b1 (by decide);rw [e,xeg _ (by decide),Int.emod_eq_of_lt a1 (show a<18446744073709551616 by omega),Int.emod_eq_of_lt b1 (show b<18446744073709551616 by omega)]
 generalize a*b=q at *
 congr 2 <;> omega
theorem and32:sJ .u32 a b<=a/\sJ .u32 a b<=b:=by
 obtain ⟨a1,a2⟩:=ha;obtain ⟨b1,b2⟩:=hb;obtain ⟨x,rfl⟩:=Sd a1;obtain ⟨y,rfl⟩:=Sd b1;unfold sJ;rw [IntKind.wrap_u32,BitVec.toNat_and]
 have e:∀z:Nat,(z:Int)<=4294967295->(BitVec.ofInt IntKind.u32.bits (z:Int)).toNat=z:=λz hz=>by
  show (BitVec.ofInt 32 (z:Int)).toNat=z;rw [BitVec.toNat_ofInt];omega
 rw [e x a2,e y b2];have h1:x &&& y<=x:=Nat.and_le_left;have h2:x &&& y<=y:=Nat.and_le_right;omega
end
theorem divs {a b x y:Int} (h0:0<=a) (h1:a<=x) (h2:0<y) (h3:y<=b):a / b<=x / y:=by
 obtain ⟨a,rfl⟩:=Sd h0;obtain ⟨x,rfl⟩:=Sd (Int.le_trans h0 h1);obtain ⟨y,rfl⟩:=Sd (Int.le_of_lt h2);obtain ⟨b,rfl⟩:=Sd (show 0<=b by omega);have:=Nat.div_le_div (a:=a) (b:=x) (c:=b) (d:=y) (by omega) (by omega) (by omega)
 exact_mod_cast this
theorem sD {x:Int} (h:pW x):IntKind.u32.wrap x=x:=by obtain ⟨h1,h2⟩:=h;rw [IntKind.wrap_u32];omega
theorem PN {o:Int} (h5:5<=o) (h17:o<=17) {a b:bF} (ha:yS a) (hb:yS b):bD (uU o a b) λs=>yS s/\∀x y v,pW x->pW y->Jr a x->Jr b y->fZ o x y=some (v,true)->Jr s v:=by
 have hw:∀ {x y v:Int},pW x->pW y->fZ o x y=some (v,true)->pW v:=λhx hy h=>by
  obtain ⟨r,e,hr⟩:=Rf o hx hy;rw [h] at e;rw [←aU e] at hr;exact hr
 have hall:bD (some (bF.mk 0 4294967295)) λs=>yS s/\∀x y v,pW x->pW y->Jr a x->Jr b y->fZ o x y=some (v,true)->Jr s v:=.some ⟨.all,λx y v hx hy _ _ h=>.all (hw hx hy h)⟩
 have hbool:∀ {c:Bool} {v:Int},some ((if c=true then (1:Int) else 0),true)=some (v,true)->Jr ⟨0,1⟩ v:=λ{c v} h=>by
  have h:=congrArg Prod.fst (aU h);simp only at h;rw [←h];unfold Jr;cases c <;> decide
 obtain ⟨⟨al0,al1⟩,⟨ah0,ah1⟩,ale⟩:=ha;obtain ⟨⟨bl0,bl1⟩,⟨bh0,bh1⟩,ble⟩:=hb;unfold uU;refine bD.iteb (λh=>?_) λn8=>bD.iteb (λh=>?_) λn9=>bD.iteb (λh=>?_) λn7=>bD.iteb (λh=>?_) λn13=>bD.iteb (λh=>?_) λn14=>bD.iteb (λh=>?_) λn15=>bD.iteb (λh=>?_) λn16=>bD.iteb (λh=>?_) λn17=>bD.iteb (λh=>?_) λ_=>hall
 ·obtain rfl:o=8:=by simpa using h
  refine .some ⟨⟨.z,.i,by simp only;omega⟩,λx y v _ _ _ _ h=>?_⟩;have e:fZ 8 x y=some (if (x == y)=true then 1 else 0,true):=by unfold fZ;rw [uG];rfl
  rw [e] at h;exact hbool h
 ·obtain rfl:o=9:=by simpa using h
  refine .some ⟨⟨.z,.i,by simp only;omega⟩,λx y v _ _ _ _ h=>?_⟩;have e:fZ 9 x y=some (if decide (x<y)=true then 1 else 0,true):=by unfold fZ;rw [uG,uG];rfl
  rw [e] at h;exact hbool h
 ·obtain rfl:o=7:=by simpa using h
  refine .some ⟨⟨.z,by unfold pW;simp only;omega,by simp only;omega⟩,λx y v hx hy ⟨i1,i2⟩ ⟨j1,j2⟩ h=>?_⟩;have hv:=hw hx hy h;have e:fZ 7 x y=some (sJ .u32 x y,true):=rfl;rw [e] at h;have h:=congrArg Prod.fst (aU h);have:=and32 hx hy;unfold Jr;unfold pW at hv;simp only at h ⊢;omega
 ·obtain rfl:o=13:=by simpa using h
  unfold BK;rw [RS ⟨al0,al1⟩ ⟨bl0,bl1⟩,RS ⟨ah0,ah1⟩ ⟨bh0,bh1⟩,dV,dV];refine bD.bind (P:=λs=>yS s/\∀x y v,pW x->pW y->Jr a x->Jr b y->fZ 13 x y=some (v,true)->Jr s v) (bD.iteb (λ_=>hall) λh=>.some ⟨⟨?_,?_,?_⟩,λx y v ⟨x0,x1⟩ ⟨y0,y1⟩ ⟨i1,i2⟩ ⟨j1,j2⟩ hv=>?_⟩) λ_ h=>.some h
  ·unfold pW;simp only;omega
  ·unfold pW;simp only;omega
  ·have h:¬ (a.cB+b.cB) / 4294967296=1:=by simpa using h
   simp only;omega
  ·have e:fZ 13 x y=some (IntKind.u32.wrap (x+y),true):=rfl;rw [e,IntKind.wrap_u32] at hv;have hv:=congrArg Prod.fst (aU hv);have h:¬ (a.cB+b.cB) / 4294967296=1:=by simpa using h
   unfold Jr;simp only at hv ⊢;omega
 ·obtain rfl:o=14:=by simpa using h
  refine bD.iteb (λh=>.some ⟨⟨.wrap _,.wrap _,by have h:=By h;simp only [IntKind.wrap_u32];omega⟩,λx y v ⟨x0,x1⟩ ⟨y0,y1⟩ ⟨i1,i2⟩ ⟨j1,j2⟩ hv=>?_⟩) λ_=>hall;have h:=By h;have e:fZ 14 x y=some (IntKind.u32.wrap (x - y),true):=rfl;rw [e,IntKind.wrap_u32] at hv;have hv:=congrArg Prod.fst (aU hv);unfold Jr;simp only [IntKind.wrap_u32] at hv ⊢;omega
 ·obtain rfl:o=15:=by simpa using h
  unfold tR;rw [mul32 ⟨ah0,ah1⟩ ⟨bh0,bh1⟩,dV];refine bD.bind (P:=λs=>yS s/\∀x y v,pW x->pW y->Jr a x->Jr b y->fZ 15 x y=some (v,true)->Jr s v) (bD.iteb (λ_=>hall) λh=>.some ⟨⟨.wrap _,?_,?_⟩,λx y v ⟨x0,x1⟩ ⟨y0,y1⟩ ⟨i1,i2⟩ ⟨j1,j2⟩ hv=>?_⟩) λ_ h=>.some h
  ·unfold pW;simp only;omega
  ·have h:=NP h;have m1:a.fS*b.fS<=a.cB*b.cB:=Int.mul_le_mul ale ble bl0 ah0;have m3:0<=a.fS*b.fS:=Int.mul_nonneg al0 bl0;simp only [IntKind.wrap_u32] at h ⊢
   generalize a.fS*b.fS=p at *
   generalize a.cB*b.cB=r at *
   omega
  ·have e:fZ 15 x y=some (IntKind.u32.wrap (x*y),true):=rfl;rw [e,IntKind.wrap_u32] at hv;have hv:=congrArg Prod.fst (aU hv);have h:=NP h;have m1:a.fS*b.fS<=x*y:=Int.mul_le_mul i1 j1 bl0 x0;have m2:x*y<=a.cB*b.cB:=Int.mul_le_mul i2 j2 y0 ah0;have m3:0<=a.fS*b.fS:=Int.mul_nonneg al0 bl0;unfold Jr;simp only [IntKind.wrap_u32] at h hv ⊢
   generalize a.fS*b.fS=p at *
   generalize x*y=q at *
   generalize a.cB*b.cB=r at *
   omega
 ·obtain rfl:o=16:=by simpa using h
  refine bD.need (by omega) (bD.need (by omega) (.some ⟨⟨.wrap _,.wrap _,by
   simp only [TQ al0,TQ ah0];rw [sD (pW.div ⟨al0,al1⟩ (by omega)),sD (pW.div ⟨ah0,ah1⟩ (by omega))];exact divs al0 ale (by omega) (by omega)⟩,λx y v ⟨x0,x1⟩ ⟨y0,y1⟩ ⟨i1,i2⟩ ⟨j1,j2⟩ hv=>?_⟩))
  have hy:y ≠ 0:=λh=>by subst h;exact absurd (congrArg Prod.snd (aU hv)) (by simp)
  have e:fZ 16 x y=some (IntKind.u32.wrap (x.tdiv y),true):=by
   unfold fZ;rw [if_neg (by decide),if_neg (by decide),if_neg (by decide),if_neg (by decide),if_neg (by decide),if_pos (by decide),if_neg (by simpa using hy),iR hy]
  rw [e] at hv;have hv:=congrArg Prod.fst (aU hv);simp only at hv;have w1:pW (x / y):=pW.div ⟨x0,x1⟩ y0;have w2:pW (a.fS / max b.cB 1):=pW.div ⟨al0,al1⟩ (by omega);have w3:pW (a.cB / max b.fS 1):=pW.div ⟨ah0,ah1⟩ (by omega);unfold Jr;simp only [TQ x0,TQ al0,TQ ah0] at hv ⊢;rw [sD w1] at hv;rw [sD w2,sD w3,←hv];exact ⟨divs al0 i1 (by omega) (by omega),divs x0 i2 (by omega) (by omega)⟩
 ·obtain rfl:o=17:=by simpa using h
  have h1:IntKind.u32.wrap (max b.cB 1 - 1)=max b.cB 1 - 1:=sD (by unfold pW;omega);rw [h1];refine .some ⟨⟨.z,by unfold pW;simp only;omega,by simp only;omega⟩,λx y v ⟨x0,x1⟩ ⟨y0,y1⟩ ⟨i1,i2⟩ ⟨j1,j2⟩ hv=>?_⟩;have hy:y ≠ 0:=λh=>by subst h;exact absurd (congrArg Prod.snd (aU hv)) (by simp)
  have e:fZ 17 x y=some (x.tmod y,true):=by
   unfold fZ;rw [if_neg (by decide),if_neg (by decide),if_neg (by decide),if_neg (by decide),if_neg (by decide),if_neg (by decide),if_pos (by decide),if_neg (by simpa using hy),iR hy]
  rw [e,xeb x0] at hv;have hv:=congrArg Prod.fst (aU hv);have m1:=Int.emod_nonneg x hy;have m2:=Int.emod_lt_of_pos x (show 0<y by omega)
  have m3:x % y<=x:=by
   obtain ⟨x',rfl⟩:=Sd x0;obtain ⟨y',rfl⟩:=Sd y0
   exact_mod_cast Nat.mod_le x' y'
  unfold Jr;simp only at hv ⊢;omega
 ·obtain rfl:o=11:=by simpa using h
  refine .some ⟨⟨.z,⟨ah0,ah1⟩,ah0⟩,λx y v hx hy ⟨i1,i2⟩ ⟨j1,j2⟩ h=>?_⟩;have hv:=hw hx hy h
  have e:fZ 11 x y=some (Hi .u32 x (sJ .u32 y 31),true):=by
   show (mY 11 x y).bind (λx16=>some (x16,true))=_
   have:mY 11 x y=some (Hi .u32 x (sJ .u32 y 31)):=by
    unfold mY;rw [if_neg (by decide),if_neg (by decide),if_neg (by decide),if_neg (by decide),if_pos (by decide),iR Nv]
   rw [this];rfl
  rw [e] at h;have h:=congrArg Prod.fst (aU h)
  have:Hi .u32 x (sJ .u32 y 31)<=x:=by
   unfold Hi;rw [xeg _ (Int.pow_nonneg (by decide))];exact Int.ediv_le_self _ hx.1
  unfold Jr;unfold pW at hv;simp only at h ⊢;omega
theorem We {n:Nat} {o:Int} {x y:aH} {ws:List Int} {v:Int} (h:jC (n+1) ⟨o,0,[x,y]⟩ ws=some (v,true)):∃a b,jC n x ws=some (a,true)/\jC n y ws=some (b,true)/\fZ o a b=some (v,true):=by
 have h:lC (jC n) n ⟨o,0,[x,y]⟩ ws=some (v,true):=h;unfold lC at h;rw [if_neg (by simp),DX,dV] at h;obtain ⟨r,hr,h⟩:=aF h;cases h2:r.2 with
 | false=>
   rw [h2,if_pos (by rfl),dV,if_pos rfl] at h;obtain ⟨_,_,h⟩:=aF h;obtain ⟨_,_,h⟩:=aF h;exact absurd (congrArg Prod.snd (aU h)) (by simp)
 | true=>
   rw [h2,if_neg (by decide),dV,if_neg (by simp)] at h;obtain ⟨y',hy,h⟩:=aF h;obtain rfl:y=y':=aU hy;obtain ⟨s,hs,h⟩:=aF h;cases h3:s.2 with
   | false=>
     rw [h3,if_pos (by rfl)] at h;exact absurd (congrArg Prod.snd (aU h)) (by simp)
   | true=>
     rw [h3,if_neg (by decide)] at h;obtain ⟨z,hz,h⟩:=aF h;exact ⟨r.1,s.1,by rw [hr,←h2],by rw [hs,←h3],by rw [hz,←h]⟩
theorem HU {t:aH} (h:Sh false t) {lo hi:List Int} (hl:Ba lo) (hh:Ba hi) (ho:OL lo hi):∀n,tm t<n->bD (pJ n t lo hi) λs=>yS s/\∀ws m v,Ba ws->Bnd lo hi ws->tm t<m->jC m t ws=some (v,true)->Jr s v:=by
 have hev:∀ {t:aH} {ws m v},Sh false t->Ba ws->tm t<m->jC m t ws=some (v,true)->pW v:=λht hw hm h=>by
  obtain ⟨r,e,hr⟩:=Po ht hw _ hm;rw [h] at e;rw [←aU e] at hr;exact hr
 induction h with
 | z e=>cases e
 | @con v c1 c2=>
   intro n hn;obtain ⟨m,rfl⟩:∃m,n=m+1:=⟨n - 1,by omega⟩;show bD (lS (pJ m) m _ lo hi) _;unfold lS;refine bD.iteb (λ_=>.some ⟨⟨⟨c1,c2⟩,⟨c1,c2⟩,Se _⟩,λws k w _ _ hk h=>?_⟩) λh=>nomatch h;obtain ⟨k,rfl⟩:∃j,k=j+1:=⟨k - 1,by omega⟩;have h:some ((v,true):Int × Bool)=some (w,true):=h;have h:=congrArg Prod.fst (aU h);simp only at h;subst h;exact ⟨Se _,Se _⟩
 | @var q h1 h2=>
   intro n hn;obtain ⟨m,rfl⟩:∃m,n=m+1:=⟨n - 1,by omega⟩;show bD (lS (pJ m) m _ lo hi) _;unfold lS;refine bD.iteb (λh=>nomatch h) λ_=>bD.iteb (λ_=>?_) λh=>nomatch h;refine (WG hl h1 h2 .z).bind λl ⟨l1,l2⟩=>(WG hh h1 h2 .m).bind λu ⟨u1,u2⟩=>.some ⟨⟨l1,u1,by rw [l2,u2];exact ho q.toNat⟩,λws k w hws hb hk h=>?_⟩;obtain ⟨k,rfl⟩:∃j,k=j+1:=⟨k - 1,by omega⟩;have h:(wQ ⟨2,q,[]⟩ ws).bind (λx=>some (x,true))=some (w,true):=h;obtain ⟨x,hx,h⟩:=aF h;have h:=congrArg Prod.fst (aU h);simp only at h;subst h
   have e:x=(ws[q.toNat]?).getD 0:=by
    unfold wQ at hx;rw [if_neg (by simp),cG (show -9223372036854775808<=q by omega) (show q<=9223372036854775807 by omega)] at hx
    by_cases hlt:q<(ws.length:Int)
    ·rw [if_pos (tA hlt)] at hx;obtain ⟨y,hy,hx⟩:=aF hx;obtain rfl:=aU hx;obtain ⟨_,_,hy⟩:=bI hy;rw [hy];rfl
    ·rw [if_neg (by rw [sX];exact hlt)] at hx;rw [←aU hx,Re (by omega)];rfl
   have:=hb q.toNat;unfold Jr;rw [e,l2,u2];exact this
 | @un o x ho hx ih=>
   intro n hn;obtain ⟨m,rfl⟩:∃m,n=m+1:=⟨n - 1,by omega⟩;show bD (lS (pJ m) m _ lo hi) _;unfold lS;have fin:bD (some (bF.mk 0 4294967295)) λs=>yS s/\∀ws m v,Ba ws->Bnd lo hi ws->tm (⟨o,0,[x]⟩:aH)<m->jC m ⟨o,0,[x]⟩ ws=some (v,true)->Jr s v:=.some ⟨.all,λws k v hws _ hk h=>.all (hev (.un ho hx) hws hk h)⟩
   rcases ho with rfl | rfl
   ·exact bD.iteb (λh=>nomatch h) λ_=>bD.iteb (λh=>nomatch h) λ_=>bD.iteb (λ_=>fin) λh=>nomatch h
   ·exact bD.iteb (λh=>nomatch h) λ_=>bD.iteb (λh=>nomatch h) λ_=>bD.iteb (λh=>nomatch h) λ_=>bD.iteb (λ_=>fin) λh=>nomatch h
 | @bin o x y h1 h2 hx hy i1 i2=>
   intro n hn;obtain ⟨m,rfl⟩:∃m,n=m+1:=⟨n - 1,by omega⟩;have hz:tm (⟨o,0,[x,y]⟩:aH)=1+(tm x+(tm y+0)):=by rw [tm,pO,pO,pO]
   rw [hz] at hn;show bD (lS (pJ m) m _ lo hi) _;unfold lS;refine bD.iteb (λh=>?_) λ_=>bD.iteb (λh=>?_) λ_=>bD.iteb (λh=>?_) λ_=>bD.iteb (λh=>?_) λ_=>?_
   ·exfalso;have h:o=1:=by simpa using h
    omega
   ·exfalso;have h:o=2:=by simpa using h
    omega
   ·exfalso;have h:o=3:=by simpa using h
    omega
   ·exfalso;have h:o=4:=by simpa using h
    omega
   refine bD.eqn DX ((i1 m (by omega)).bind λa ⟨a1,a2⟩=>bD.eqn Qu ((i2 m (by omega)).bind λb ⟨b1,b2⟩=>(PN h1 h2 a1 b1).bind λs ⟨s1,s2⟩=>.some ⟨s1,λws k v hws hb hk h=>?_⟩));obtain ⟨k,rfl⟩:∃j,k=j+1:=⟨k - 1,by omega⟩;rw [hz] at hk;obtain ⟨p,q,e1,e2,e3⟩:=We h;exact s2 p q v (hev hx hws (by omega) e1) (hev hy hws (by omega) e2) (a2 ws k p hws hb (by omega) e1) (b2 ws k q hws hb (by omega) e2) e3
section
variable {vs:List aJ} {sc:List Int} {c:bE} {x:aD}
theorem Oe (hT:zF false vs sc c.aX) (h:Hx vs sc x) (hb:xz x<=100000000) (hl:Ba c.oO) (hh:Ba c.jQ) (ho:OL c.oO c.jQ) {n:Nat} (hn:xz x+2100<n):bD (eG n c x) λr=>eG n c x=some r/\pW r.1/\pW r.2:=by
 have key:bD (eG n c x) λr=>pW r.1/\pW r.2:=by
  unfold eG;refine (QT hT h hb hn).bind λr hr=>bD.iteb (λ_=>.some ⟨.z,.m⟩) λhe=>?_
  rcases hr with ⟨_,_,_,h4,h5⟩ | ⟨h1,_⟩
  ·unfold zU;refine bD.bind (P:=λr=>pW r.1/\pW r.2) ?_ λ_ h=>.some h;exact (HU h4 hl hh ho n (by omega)).bind λs hs=>.some ⟨hs.1.lo,hs.1.hi⟩
  ·rw [h1] at he;cases he
 obtain ⟨r,hr,hw⟩:=key;exact ⟨r,hr,hr,hw⟩
end
def eb (e:Int):Bool:=!(e == 0)
theorem Ao {e:Int}:eb e=false ↔ e=0:=by unfold eb;simp
theorem Wg {e:Int}:eb e=true ↔ e ≠ 0:=by unfold eb;simp
theorem zF.mono {b b':Bool} {vs:List aJ} {sc sc':List Int} {T:List aH} (h:zF b vs sc T) (hb:b=true->b'=true) (hs:∀v ∈ sc',v ∈ sc):zF b' vs sc' T:=
 ⟨h.len,λv hv u hu hk=>by obtain ⟨t,h1,h2,h3⟩:=h.ok v (hs v hv) u hu hk;exact ⟨t,h1,h2.mono hb,h3⟩⟩
theorem Er.eb {a b:Int} (h:Er a b):eb a=true->eb b=true:=λe=>by rw [h.keep (Wg.1 e)];exact e
theorem Ce {α:Type} {l:List α} {i j:Int} {x t:α} (hj:aZ l j=some t):(i.toNat=j.toNat/\0<=i->aZ (l.set i.toNat x) j=some x)/\(i.toNat ≠ j.toNat->aZ (l.set i.toNat x) j=some t):=by
 unfold aZ at hj ⊢
 split at hj
 ·rename_i h0;have hlt:=(vJ.1 hj).1;refine ⟨λh=>?_,λh=>?_⟩
  ·rw [if_pos h0,h.1,PL hlt]
  ·rw [if_pos h0,Pz h];exact hj
 ·cases hj
theorem zF.set {b:Bool} {vs:List aJ} {sc:List Int} {T:List aH} (h:zF b vs sc T) {i:Int} {t:aH} (hi:0<=i) (ht:Sh b t) (hz:tm t<=2000):zF b vs sc (T.set i.toNat t):=
 ⟨by rw [vK];exact h.len,λv hv u hu hk=>by
  obtain ⟨s,h1,h2,h3⟩:=h.ok v hv u hu hk
  by_cases e:i.toNat=v.toNat
  ·exact ⟨t,(Ce h1).1 ⟨e,hi⟩,ht,hz⟩
  ·exact ⟨s,(Ce h1).2 e,h2,h3⟩⟩
theorem uE {α:Type} {l:List α} {i:Int} {x:α} (h:aZ l i=some x):0<=i/\i<(l.length:Int):=by obtain ⟨h1,h2,_⟩:=bI h;exact ⟨h1,h2⟩
theorem zF.snoc {b:Bool} {vs:List aJ} {sc:List Int} {T:List aH} (h:zF b vs sc T) {i:Int} {t:aH} {u:aJ} (hu:aZ vs i=some u) (ht:Sh b t) (hz:tm t<=2000):zF b vs (sc++[i]) (T.set i.toNat t):=by
 obtain ⟨h0,h1⟩:=uE hu;have h2:=h.set h0 ht hz;refine ⟨h2.len,λv hv u' hu' hk=>?_⟩
 rcases Cu.1 hv with hv | hv
 ·exact h2.ok v hv u' hu' hk
 ·obtain rfl:=AV.1 hv;refine ⟨t,?_,ht,hz⟩;have hl:=h.len;obtain ⟨s,hs,_⟩:=bD.idx (l:=T) (Q:=λ_=>True) h0 (by omega) λ_ _=>trivial;exact (Ce hs).1 ⟨rfl,h0⟩
theorem zF.more {b:Bool} {vs:List aJ} {sc:List Int} {T:List aH} (h:zF b vs sc T) {i:Int} {u:aJ} (hu:aZ vs i=some u) (hk:u.bK ≠ 1):zF b vs (sc++[i]) T:=
 ⟨h.len,λv hv u' hu' hk'=>by
  rcases Cu.1 hv with hv | hv
  ·exact h.ok v hv u' hu' hk'
  ·obtain rfl:=AV.1 hv;rw [hu] at hu';cases hu';exact absurd hk' hk⟩
def Dec (s:aA) (i:Nat):Prop:=s.dR=[108,101,116] ∨ s.dR=[105,102] ∨ s.dR=[102,111,114] ∨ (s.dR=[112,117,116]/\i=0)
structure Xa (vs:List aJ) (sc:List Int) (n:Nat) (s:aA) (v:Nat) (y r:aN):Prop where
 e:Er y.e_ r.e_
 c:r.c_={ y.c_ with aX:=r.c_.aX }
 ok:zF (eb r.e_) vs sc r.c_.aX
 no:s.dR ≠ [108,101,116]->r.c_.aX=y.c_.aX
 go:s.dR=[108,101,116]->v<s.aL.length->∃x t,s.aL[v]? = some x/\r.c_.aX=y.c_.aX.set s.eB.toNat t/\tm t<=2000/\Sh (eb r.e_) t/\(r.e_=0->tm (DA y.c_.aX x)<=2000/\eA n (DA y.c_.aX x)=some t)
 un:s.dR=[108,101,116]->¬ v<s.aL.length->r.c_.aX=y.c_.aX
 px:r.e_=0->∀i x,v<=i->s.aL[i]? = some x->Dec s i->Hx vs sc x/\tm (DA y.c_.aX x)<=2000
theorem WC {vs:List aJ} {sc:List Int} {n:Nat} {s:aA} (hx:∀z ∈ s.aL,TX vs sc z) (hp:∀(i:Nat) z,s.aL[i]? = some z->Dec s i->Hx vs sc z) (hv:s.dR=[108,101,116]->s.aL.length=1/\∃u,aZ vs s.eB=some u) (hb:pQ s.aL<=100000000) (hn:pQ s.aL+2300<n) :
  ∀(k v:Nat) (y:aN),zF (eb y.e_) vs sc y.c_.aX->s.aL.length<v+k->v<=s.aL.length->bD (mR n s k (v:Int) y) (Xa vs sc n s v y):=by
 have hlen:=Af s.aL;intro k
 induction k with
 | zero=>intro v y hT h1 h2;omega
 | succ k ih=>
   intro v y hT h1 h2;unfold mR;refine bD.iteb (λh=>?_) λh=>?_
   rotate_left
   ·have hge:s.aL.length<=v:=by have:=NP h;omega
    exact .some ⟨.refl _,rfl,hT,λ_=>rfl,λ_ h=>absurd h (by omega),λ_ _=>rfl,λ_ i x hi hx=>by rw [Re (by omega)] at hx;cases hx⟩
   have hlt:v<s.aL.length:=by have:=By h;omega
   have hg:=wB hlt;have hm:=LU hlt;have hz:=Bj hm;have hstep:IntKind.i64.wrap ((v:Int)+1)=((v+1:Nat):Int):=by rw [cG (by omega) (by omega)];omega
   rw [hstep];refine bD.bind (P:=λr=>Er y.e_ r.e_/\r.c_={ y.c_ with aX:=r.c_.aX }/\zF (eb r.e_) vs sc r.c_.aX/\(s.dR ≠ [108,101,116]->r.c_.aX=y.c_.aX)/\(s.dR=[108,101,116]->∃t,r.c_.aX=y.c_.aX.set s.eB.toNat t/\tm t<=2000/\Sh (eb r.e_) t/\(r.e_=0->tm (DA y.c_.aX s.aL[v])<=2000/\eA n (DA y.c_.aX s.aL[v])=some t))/\(r.e_=0->Dec s v->Hx vs sc s.aL[v]/\tm (DA y.c_.aX s.aL[v])<=2000)) ?_ λr hr=>?_
   ·refine bD.eqn (oY hg) ?_;refine (VD n _ y (hx _ hm) hT (by omega) (by omega)).bind λa ha=>?_;refine bD.bind (P:=λd=>d=true ↔ Dec s v) ?_ λd hd=>?_
    ·unfold Dec;refine bD.iteb (λh=>.some ⟨λ_=>.inl (By h),λ_=>rfl⟩) λg1=>bD.iteb (λh=>.some ⟨λ_=>.inr (.inl (By h)),λ_=>rfl⟩) λg2=>bD.iteb (λh=>.some ⟨λ_=>.inr (.inr (.inl (By h))),λ_=>rfl⟩) λg3=>?_;have g1:=NP g1;have g2:=NP g2;have g3:=NP g3;refine bD.iteb (λh=>.some ⟨λhv=>.inr (.inr (.inr ⟨By h,by have:(v:Int)=0:=(by simpa using hv);omega⟩)),λhv=>?_⟩) λg4=>.some ⟨λh=>(nomatch h),λhv=>?_⟩
     ·rcases hv with h | h | h | ⟨_,h⟩
      ·exact absurd h g1
      ·exact absurd h g2
      ·exact absurd h g3
      ·subst h;rfl
     ·have g4:=NP g4
      rcases hv with h | h | h | ⟨h,_⟩
      ·exact absurd h g1
      ·exact absurd h g2
      ·exact absurd h g3
      ·exact absurd h g4
    have hTa:zF (eb y.e_) vs sc a.c_.aX:=by rw [ha.1];exact hT
    refine bD.iteb (λhd1=>?_) λhd0=>?_
    ·have hdec:=hd.1 hd1;have hpx:=hp v _ hg hdec;refine (Mz hTa hpx (by omega) (by omega)).bind λw hw=>?_;obtain ⟨w1,w2,w3,w4⟩:=hw;have hew:=ha.2.trans w2;have hwc:w.2.c_=y.c_:=w1.trans ha.1
     have hpl:w.2.e_=0->tm (DA y.c_.aX s.aL[v])<=2000/\eA n (DA y.c_.aX s.aL[v])=some w.1/\Sh (eb y.e_) w.1:=λh0=>by
      rcases w3 with ⟨h1,h2,h3,_⟩ | ⟨_,_,h3⟩
      ·rw [ha.1] at h1 h2;exact ⟨h1,h2,h3⟩
      ·exact absurd h0 h3
     refine bD.iteb (λhl=>?_) λhl=>?_
     ·have hl:=By hl;obtain ⟨_,u,hu⟩:=hv hl;obtain ⟨h0,hu1⟩:=uE hu;refine (bD.idx (Q:=λ_=>True) h0 (by rw [hwc,hT.len];exact hu1) λ_ _=>trivial).bind λ_ _=>?_
      have hsh:Sh (eb w.2.e_) w.1:=by
       rcases w3 with ⟨_,_,h3,_⟩ | ⟨_,h2,h3⟩
       ·exact h3.mono hew.eb
       ·rw [h2];exact .z (Wg.2 h3)
      refine .some ⟨hew,by simp only [hwc],?_,λh=>absurd hl h,λ_=>⟨w.1,by simp only [hwc],w4,hsh,λh=>⟨(hpl h).1,(hpl h).2.1⟩⟩,λh _=>⟨hpx,(hpl h).1⟩⟩;simp only [hwc];exact (hT.mono hew.eb λ_ h=>h).set h0 hsh w4
     ·have hl:=NP hl;exact .some ⟨hew,by rw [hwc],by rw [hwc];exact hT.mono hew.eb λ_ h=>h,λ_=>by rw [hwc],λh=>absurd h hl,λh _=>⟨hpx,(hpl h).1⟩⟩
    ·have hnd:¬ Dec s v:=λh=>by rw [hd.2 h] at hd0;cases hd0
     exact .some ⟨ha.2,by rw [ha.1],by rw [ha.1];exact hT.mono ha.2.eb λ_ h=>h,λ_=>by rw [ha.1],λh=>absurd (.inl h) hnd,λ_ h=>absurd h hnd⟩
   ·obtain ⟨r1,r2,r3,r4,r5,r6⟩:=hr;refine (ih (v+1) r r3 (by omega) (by omega)).mono λz hz=>⟨r1.trans hz.e,by rw [hz.c,r2],hz.ok,λh=>(hz.no h).trans (r4 h),λh _=>?_,λh h'=>absurd hlt h',λh0 i x hi hxi hd=>?_⟩
    ·have hl1:=(hv h).1;have hT2:=hz.un h (by omega);obtain ⟨t,q1,q2,q3,q4⟩:=r5 h;exact ⟨_,t,hg,by rw [hT2,q1],q2,q3.mono hz.e.eb,λh0=>q4 (hz.e.zero h0)⟩
    ·have hr0:=hz.e.zero h0
     rcases Nat.lt_or_ge v i with hlt2 | hge
     ·have hnl:s.dR ≠ [108,101,116]:=λh=>by
       have:=(hv h).1;have:=(vJ.1 hxi).1;omega
      obtain ⟨k1,k2⟩:=hz.px h0 i x hlt2 hxi hd;rw [r4 hnl] at k2;exact ⟨k1,k2⟩
     ·obtain rfl:i=v:=by omega
      rw [hg] at hxi;cases hxi
      exact r6 hr0 hd
def Pb (s:aA):List aD:=if s.dR=[108,101,116] ∨ s.dR=[105,102] ∨ s.dR=[102,111,114] then s.aL else if s.dR=[112,117,116] then s.aL.take 1 else []
def Lt (s:aA):List Int:=if s.dR=[102,111,114] then [s.eB] else []
def Lu (s:aA):List Int:=if s.dR=[102,111,114] ∨ s.dR=[108,101,116] then [s.eB] else []
mutual
def frS:aA->List Int
 | ⟨o,v,f,l,b,e,a⟩=>Lt ⟨o,v,f,l,b,e,a⟩++(AH b++AH e)
def AH:List aA->List Int
 | []=>[]
 | s::l=>frS s++AH l
end
mutual
def dvS:aA->List Int
 | ⟨o,v,f,l,b,e,a⟩=>Lu ⟨o,v,f,l,b,e,a⟩++(Bh b++Bh e)
def Bh:List aA->List Int
 | []=>[]
 | s::l=>dvS s++Bh l
end
mutual
def pbS:aA->List aD
 | ⟨o,v,f,l,b,e,a⟩=>Pb ⟨o,v,f,l,b,e,a⟩++(NH b++NH e)
def NH:List aA->List aD
 | []=>[]
 | s::l=>pbS s++NH l
end
theorem Qx (s:aA):frS s=Lt s++(AH s.bH++AH s.eN):=by cases s;rw [frS]
theorem Np (s:aA):dvS s=Lu s++(Bh s.bH++Bh s.eN):=by cases s;rw [dvS]
theorem pbS_eq (s:aA):pbS s=Pb s++(NH s.bH++NH s.eN):=by cases s;rw [pbS]
inductive PV (L:List Int):aD->Prop
 | num {n a}:PV L ⟨[110,117,109],1,n,-1,[],a⟩
 | var {v a}:v ∈ L->PV L ⟨[118,97,114],1,0,v,[],a⟩
 | un {o x a}:(o=[110,111,116] ∨ o=[110,101,103])->PV L x->PV L ⟨o,1,0,-1,[x],a⟩
 | bin {o x y a}:Iu o->PV L x->PV L y->PV L ⟨o,1,0,-1,[x,y],a⟩
theorem Hx.pv {vs:List aJ} {sc pl:List Int} (hc:∀v ∈ sc,∀u,aZ vs v=some u->u.bK=1->v ∈ pl) {x:aD} (h:Hx vs sc x):PV pl x:=by
 induction h with
 | num=>exact .num
 | var h1 h2 h3=>exact .var (hc _ h1 _ h2 h3)
 | un h _ ih=>exact .un h ih
 | bin h _ _ i1 i2=>exact .bin h i1 i2
theorem PV.mono {L L':List Int} (hl:∀v ∈ L,v ∈ L') {x:aD} (h:PV L x):PV L' x:=by
 induction h with
 | num=>exact .num
 | var h=>exact .var (hl _ h)
 | un h _ ih=>exact .un h ih
 | bin h _ _ i1 i2=>exact .bin h i1 i2
theorem Ow {T:List aH} {ty n v a:Int} {l:List aD}:DA T ⟨[118,97,114],ty,n,v,l,a⟩=(aZ T v).getD Uw:=by rw [DA,if_neg (by decide),if_pos rfl]
theorem PV.plx {L:List Int} {T T':List aH} (hl:∀v ∈ L,aZ T' v=aZ T v) {x:aD} (h:PV L x):DA T' x=DA T x:=by
 induction h with
 | num=>rw [GT,GT]
 | @var v a h=>
   rw [Ow,Ow,hl _ h]
 | un h _ ih=>
   obtain ⟨n1,n2,_⟩:=Sign1.ne h;rw [xU n1 n2,xU n1 n2,rR,rR,rR,rR,ih]
 | bin h _ _ i1 i2=>
   obtain ⟨n1,n2,_⟩:=h.ne;rw [xU n1 n2,xU n1 n2,rR,rR,rR,rR,rR,rR,i1,i2]
def QX (T:List aH) (L:List Int) (x:aD):Prop:=PV L x/\Sh false (DA T x)/\tm (DA T x)<=2000/\xz x<=50000000
theorem QX.mono {T T':List aH} {L L':List Int} {x:aD} (h:QX T L x) (hl:∀v ∈ L,v ∈ L') (ht:∀v ∈ L,aZ T' v=aZ T v):QX T' L' x:=by
 obtain ⟨h1,h2,h3,h4⟩:=h;refine ⟨h1.mono hl,?_,?_,h4⟩
 ·rw [h1.plx ht];exact h2
 ·rw [h1.plx ht];exact h3
def WL (y:aN):Prop:=Ba y.c_.oO/\Ba y.c_.jQ/\OL y.c_.oO y.c_.jQ
theorem OL.snoc {lo hi:List Int} {a b:Int} (h:OL lo hi) (hl:lo.length=hi.length) (hab:a<=b):OL (lo++[a]) (hi++[b]):=λi=>by
 by_cases hi':i<lo.length
 ·rw [MI hi',MI (by omega)];exact h i
 ·rw [Lx (by omega),Lx (by omega),hl];cases hk:i - hi.length with
  | zero=>exact hab
  | succ k=>simp only [xdy,List.getElem?_nil,Option.getD_none];omega
theorem Ba.snoc {l:List Int} {x:Int} (h:Ba l) (k:pW x):Ba (l++[x]):=λy hy=>by
 rcases Cu.1 hy with hy | hy
 ·exact h y hy
 ·rw [AV.1 hy];exact k
def DOk (pl dv:List Int):Prop:=dv.Nodup/\∀v ∈ dv,v ∉ pl/\0<=v
structure Uc (pl dv fr:List Int) (pb:List aD) (y r:aN):Prop where
 fors:r.c_.gS=y.c_.gS++fr
 low:r.c_.oO.length=y.c_.oO.length+fr.length
 high:r.c_.jQ.length=y.c_.jQ.length+fr.length
 un:∀v,0<=v->v ∉ dv->aZ r.c_.aX v=aZ y.c_.aX v
 sub:∀v ∈ fr,v ∈ dv
 nn:∀v ∈ dv,0<=v
 w:WL y->WL r
 ok:DOk pl dv->(∀v ∈ pl,0<=v)->(∀v ∈ dv,∃t,aZ r.c_.aX v=some t/\Sh false t/\tm t<=2000)/\(∀(k:Nat) v,fr[k]? = some v->aZ r.c_.aX v=some ⟨2,((4+y.c_.gS.length+k:Nat):Int),[]⟩)/\∀x ∈ pb,QX r.c_.aX (pl++dv) x
theorem Uc.refl (pl:List Int) (y:aN):Uc pl [] [] [] y y:=
 ⟨(Ga _).symm,rfl,rfl,λ_ _ _=>rfl,λ_ h=>h,λ_ h=>(nomatch h),λh=>h,λ_ _=>⟨λ_ h=>(nomatch h),λk v h=>(nomatch h),λ_ h=>(nomatch h)⟩⟩
theorem Uc.app {pl pl2 dv dv2 fr fr2:List Int} {pb pb2:List aD} {y d r:aN} (h:Uc pl dv fr pb y d) (k:Uc pl2 dv2 fr2 pb2 d r) (hp:∀v ∈ pl2,v ∈ pl ∨ v ∈ dv):Uc pl (dv++dv2) (fr++fr2) (pb++pb2) y r:=by
 refine ⟨by rw [k.fors,h.fors,Gb],by rw [k.low,h.low,mX];omega,by rw [k.high,h.high,mX];omega,λv h0 hv=>?_,λv hv=>?_,λv hv=>?_,λh0=>k.w (h.w h0),λhd hpl=>?_⟩
 ·rw [Cu,not_or] at hv;rw [k.un v h0 hv.2,h.un v h0 hv.1]
 ·rcases Cu.1 hv with hv | hv
  ·exact JN _ (h.sub v hv)
  ·exact NO _ (k.sub v hv)
 ·rcases Cu.1 hv with hv | hv
  ·exact h.nn v hv
  ·exact k.nn v hv
 ·obtain ⟨d1,d2⟩:=hd;obtain ⟨n1,n2,n3⟩:=List.nodup_append.1 d1;obtain ⟨a1,a2,a3⟩:=h.ok ⟨n1,λv hv=>d2 v (JN _ hv)⟩ hpl
  obtain ⟨b1,b2,b3⟩:=k.ok ⟨n2,λv hv=>by
   obtain ⟨c1,c2⟩:=d2 v (NO _ hv);refine ⟨λhv2=>?_,c2⟩
   rcases hp v hv2 with h5 | h5
   ·exact c1 h5
   ·exact n3 v h5 v hv rfl⟩ (λv hv=>by
    rcases hp v hv with h5 | h5
    ·exact hpl v h5
    ·exact h.nn v h5)
  have hun:∀v,v ∈ dv->v ∉ dv2:=λv h5 h6=>n3 v h5 v h6 rfl;refine ⟨λv hv=>?_,λj v hj=>?_,λx hx=>?_⟩
  ·rcases Cu.1 hv with hv | hv
   ·rw [k.un v (h.nn v hv) (hun v hv)];exact a1 v hv
   ·exact b1 v hv
  ·rcases Nat.lt_or_ge j fr.length with hlt | hge
   ·rw [MI hlt] at hj;have hm:=h.sub v (FK hj);rw [k.un v (h.nn v hm) (hun v hm)];exact a2 j v hj
   ·rw [Lx hge] at hj;rw [b2 _ v hj,h.fors,mX]
    congr 3;omega
  ·rcases Cu.1 hx with hx | hx
   ·refine (a3 x hx).mono (λv hv=>?_) λv hv=>?_
    ·rcases Cu.1 hv with hv | hv
     ·exact JN _ hv
     ·exact NO _ (JN _ hv)
    ·rcases Cu.1 hv with hv | hv
     ·exact k.un v (hpl v hv) λh6=>(d2 v (NO _ h6)).1 hv
     ·exact k.un v (h.nn v hv) (hun v hv)
   ·refine (b3 x hx).mono (λv hv=>?_) λv hv=>rfl
    rcases Cu.1 hv with hv | hv
    ·rcases hp v hv with h5 | h5
     ·exact JN _ h5
     ·exact NO _ (JN _ h5)
    ·exact NO _ (NO _ hv)
def Bx (y:aN) (m:Nat):Prop:=y.c_.gS.length+m<=250/\(y.c_.oO.length=4+y.c_.gS.length/\y.c_.jQ.length=4+y.c_.gS.length)/\WL y
abbrev Lj:=List aA->aN->aN->Prop
structure BkC (XR:Lj) (vs:List aJ) (sc sc' pl:List Int) (ss:List aA) (y r:aN):Prop where
 e:Er y.e_ r.e_
 t1:zF (eb r.e_) vs sc r.c_.aX
 ok:r.e_=0->zF false vs sc' r.c_.aX/\Uc pl (Bh ss) (AH ss) (NH ss) y r/\XR ss y r
theorem Bx.app {pl dv fr:List Int} {pb:List aD} {y r:aN} {m:Nat} (h:Bx y (fr.length+m)) (k:Uc pl dv fr pb y r):Bx r m:=by
 obtain ⟨h1,⟨h2,h3⟩,hw⟩:=h;have h4:=congrArg List.length k.fors;rw [mX] at h4;have h5:=k.low;have h6:=k.high;exact ⟨by omega,⟨by omega,by omega⟩,k.w hw⟩
theorem Bx.less {y:aN} {m m':Nat} (h:Bx y m) (hm:m'<=m):Bx y m':=⟨by have:=h.1;omega,h.2⟩
theorem VC {vs:List aJ} {sc:List Int} {n:Nat} {y:aN} {v:Int} {f a:Int} {x z:aD} {b e:List aA} {u:aJ} (hT:zF false vs sc y.c_.aX) (hx:Hx vs sc x) (hz:Hx vs sc z) (hu:aZ vs v=some u) (hL:Bx y 1) (hbx:xz x<=50000000) (hbz:xz z<=50000000) (hn:50003000<n) :
  bD (lJ n y ⟨[102,111,114],v,f,[x,z],b,e,a⟩) λr=>r.e_=y.e_/\r.c_.aX=y.c_.aX.set v.toNat ⟨2,((4+y.c_.gS.length:Nat):Int),[]⟩/\r.c_.gS=y.c_.gS++[v]/\∃s1 s2,eG n y.c_ x=some s1/\eG n y.c_ z=some s2/\r.c_.oO=y.c_.oO++[s1.1]/\r.c_.jQ=y.c_.jQ++[max s1.1 (IntKind.u32.wrap (max s2.2 1 - 1))]/\WL r:=by
 unfold lJ;obtain ⟨l1,⟨l2,l3⟩,w1,w2,w3⟩:=hL;obtain ⟨h0,hu1⟩:=uE hu;refine bD.eqn DX ?_;refine (Oe hT hx (by omega) w1 w2 w3 (n:=n) (by omega)).bind λs1 ⟨e1,u1,_⟩=>?_;refine bD.eqn (v:=z) rfl ?_;refine (Oe hT hz (by omega) w1 w2 w3 (n:=n) (by omega)).bind λs2 ⟨e2,_,u2⟩=>?_;refine bD.eqn (v:=⟨2,((4+y.c_.gS.length:Nat):Int),[]⟩) ?_ ?_
 ·unfold EV;rw [cG (by omega) (by omega),IntKind.wrap_u32]
  congr 2;omega
 refine (bD.idx (Q:=λ_=>True) h0 (by rw [hT.len];exact hu1) λ_ _=>trivial).bind λ_ _=>?_;refine bD.need (by simp only [sW];omega) (bD.need (by simp only [sW];omega) (bD.need (by simp only [sW];omega) (.some ⟨rfl,rfl,rfl,s1,s2,e1,e2,rfl,rfl,w1.snoc u1,w2.snoc (by have hw:=pW.wrap (max s2.2 1 - 1);unfold pW at u1 hw ⊢;omega),w3.snoc (by omega) (by omega)⟩)))
theorem dec_mem {s:aA} {x:aD} (h:x ∈ Pb s):∃i:Nat,s.aL[i]? = some x/\Dec s i:=by
 unfold Pb at h
 split at h
 ·rename_i ho;obtain ⟨i,hi⟩:=List.getElem?_of_mem h;refine ⟨i,hi,?_⟩
  rcases ho with ho | ho | ho
  ·exact .inl ho
  ·exact .inr (.inl ho)
  ·exact .inr (.inr (.inl ho))
 ·split at h
  ·rename_i ho;cases hl:s.aL with
   | nil=>rw [hl] at h;cases h
   | cons z l=>
     rw [hl] at h;have h:x ∈ [z]:=h;rw [AV.1 h];exact ⟨0,rfl,.inr (.inr (.inr ⟨ho,rfl⟩))⟩
  ·cases h
theorem Wh {vs:List aJ} {sc pl:List Int} {n:Nat} {s:aA} {y r:aN} (hT:zF false vs sc y.c_.aX) (hc:∀v ∈ sc,∀u,aZ vs v=some u->u.bK=1->v ∈ pl) (hb:pQ s.aL<=50000000) (h:Xa vs sc n s 0 y r) (h0:r.e_=0):∀x ∈ Pb s,QX y.c_.aX pl x:=by
 intro x hx;obtain ⟨i,hi,hd⟩:=dec_mem hx;obtain ⟨p1,p2⟩:=h.px h0 i x (Jc _) hi hd;have:=Bj (FK hi);exact ⟨p1.pv hc,(IL hT p1).1,p2,by omega⟩
theorem Vk {vs:List aJ} {sc pl:List Int} {n:Nat} {s:aA} {y r:aN} (hT:zF false vs sc y.c_.aX) (hc:∀v ∈ sc,∀u,aZ vs v=some u->u.bK=1->v ∈ pl) (hb:pQ s.aL<=50000000) (h:Xa vs sc n s 0 y r) (h0:r.e_=0) (hf:s.dR ≠ [102,111,114]) (hl:s.dR=[108,101,116]->s.aL.length=1/\∃u,aZ vs s.eB=some u):Uc pl (Lu s) (Lt s) (Pb s) y r:=by
 have hq:=Wh hT hc hb h h0;have hcc:=h.c;unfold Lu Lt;rw [if_neg hf]
 by_cases ho:s.dR=[108,101,116]
 ·rw [if_pos (.inr ho)];obtain ⟨l1,u,hu⟩:=hl ho;obtain ⟨b0,b1⟩:=uE hu;obtain ⟨x,t,g1,g2,g3,g4,g5⟩:=h.go ho (by omega)
  have hun:∀v,0<=v->v ∉ [s.eB]->aZ r.c_.aX v=aZ y.c_.aX v:=λv hv hv2=>by
   rw [g2];have hne:s.eB.toNat ≠ v.toNat:=λe=>hv2 (AV.2 (by omega));cases hi:aZ y.c_.aX v with
   | some w=>exact (Ce hi).2 hne
   | none=>
     unfold aZ at hi ⊢;rw [if_pos hv] at hi ⊢;rw [Pz hne];exact hi
  refine ⟨by rw [hcc,Ga],by rw [hcc];rfl,by rw [hcc];rfl,hun,λ_ h=>(nomatch h),λv hv=>by rw [AV.1 hv];exact b0,λh=>by unfold WL at *;rw [hcc];exact h,λhd hpl=>⟨λv hv=>?_,λk v h=>(nomatch h),λx hx=>?_⟩⟩
  ·rw [AV.1 hv,g2];obtain ⟨w,hw,_⟩:=bD.idx (l:=y.c_.aX) (Q:=λ_=>True) b0 (by rw [hT.len];exact b1) λ_ _=>trivial;exact ⟨t,(Ce hw).1 ⟨rfl,b0⟩,by rw [Ao.2 h0] at g4;exact g4,g3⟩
  ·exact (hq x hx).mono (λv hv=>JN _ hv) λv hv=>hun v (hpl v hv) λh6=>(hd.2 v h6).1 hv
 ·rw [if_neg (by rintro (h | h);exact hf h;exact ho h)];have hTT:=h.no ho;refine ⟨by rw [hcc,Ga],by rw [hcc];rfl,by rw [hcc];rfl,λv _ _=>by rw [hTT],λ_ h=>(nomatch h),λ_ h=>(nomatch h),λh=>by unfold WL at *;rw [hcc];exact h,λhd hpl=>⟨λv hv=>(nomatch hv),λk v h=>(nomatch h),λx hx=>?_⟩⟩;exact (hq x hx).mono (λv hv=>JN _ hv) λv hv=>by rw [hTT]
theorem own_for {vs:List aJ} {sc pl:List Int} {n:Nat} {s:aA} {y a r:aN} (hT:zF false vs sc y.c_.aX) (hc:∀v ∈ sc,∀u,aZ vs v=some u->u.bK=1->v ∈ pl) (hb:pQ s.aL<=50000000) (h:Xa vs sc n s 0 y a) (h0:a.e_=0) (hf:s.dR=[102,111,114]) {u:aJ} (hu:aZ vs s.eB=some u) (hL:y.c_.gS.length<=249)
  (r1:r.c_.aX=a.c_.aX.set s.eB.toNat ⟨2,((4+a.c_.gS.length:Nat):Int),[]⟩) (r2:r.c_.gS=a.c_.gS++[s.eB]) (r3:r.c_.oO.length=a.c_.oO.length+1) (r4:r.c_.jQ.length=a.c_.jQ.length+1) (r5:WL r):Uc pl (Lu s) (Lt s) (Pb s) y r:=by
 have hq:=Wh hT hc hb h h0;have hcc:=h.c;have hTT:=h.no (by rw [hf];decide);have hF:a.c_.gS=y.c_.gS:=by rw [hcc]
 unfold Lu Lt;rw [if_pos hf,if_pos (.inl hf)];obtain ⟨b0,b1⟩:=uE hu;rw [hTT,hF] at r1
 have hun:∀v,0<=v->v ∉ [s.eB]->aZ r.c_.aX v=aZ y.c_.aX v:=λv hv hv2=>by
  rw [r1];have hne:s.eB.toNat ≠ v.toNat:=λe=>hv2 (AV.2 (by omega));cases hi:aZ y.c_.aX v with
  | some w=>exact (Ce hi).2 hne
  | none=>
    unfold aZ at hi ⊢;rw [if_pos hv] at hi ⊢;rw [Pz hne];exact hi
 have hat:aZ r.c_.aX s.eB=some ⟨2,((4+y.c_.gS.length:Nat):Int),[]⟩:=by
  rw [r1];obtain ⟨w,hw,_⟩:=bD.idx (l:=y.c_.aX) (Q:=λ_=>True) b0 (by rw [hT.len];exact b1) λ_ _=>trivial;exact (Ce hw).1 ⟨rfl,b0⟩
 refine ⟨by rw [r2,hF],by rw [r3,hcc];rfl,by rw [r4,hcc];rfl,hun,λ_ h=>h,λv hv=>by rw [AV.1 hv];exact b0,λ_=>r5,λhd hpl=>⟨λv hv=>?_,λk v hk=>?_,λx hx=>?_⟩⟩
 ·rw [AV.1 hv];exact ⟨_,hat,.var (by omega) (by omega),by rw [tm,pO];omega⟩
 ·cases k with
  | zero=>injection hk with hk;subst hk;exact hat
  | succ k=>cases hk
 ·exact (hq x hx).mono (λv hv=>JN _ hv) λv hv=>hun v (hpl v hv) λh6=>(hd.2 v h6).1 hv
abbrev Bf:=aN->List aA->Option aN
def OR (f:Bf) (n:Nat) (s:aA) (y:aN):Option (aN ⊕ aN):=
 (mR n s n (0:Int) y).bind λy20=>
 (if (y20.e_ == (0:Int))=true then some (decide (s.dR=[102,111,114])) else some false).bind λy79=>
 if y79=true then
  (lJ n y20 s).bind λx85=>
  if (x85.e_ != (0:Int))=true then some (.inr x85) else
   (f x85 s.bH).bind λx88=>(f x88 s.eN).bind λx90=>some (.inl x90)
 else if (y20.e_ != (0:Int))=true then some (.inr y20) else
  (f y20 s.bH).bind λx93=>(f x93 s.eN).bind λx95=>some (.inl x95)
theorem Ng {f:Bf} {n:Nat} {full:List aA} {k v:Nat} {s:aA} {y:aN} {Q:aN ⊕ aN->Prop} (hg:full[v]? = some s) (hl:full.length<=100000000)
  (h:bD (OR f n s y) λz=>(∀d,z=.inl d->bD (gY f n full k ((v+1:Nat):Int) d) Q)/\∀d,z=.inr d->Q (.inr d)):bD (gY f n full (k+1) (v:Int) y) Q:=by
 have hlt:=(vJ.1 hg).1;unfold gY;refine bD.iteb (λ_=>?_) λh=>absurd h (by rw [tA (by omega)];decide);refine bD.bind (bD.eqn (oY hg) h) λz hz=>?_;rw [show IntKind.i64.wrap ((v:Int)+1)=((v+1:Nat):Int) by rw [cG (by omega) (by omega)];omega];exact bD.elim (λd e=>hz.1 d e) λd e=>.some (hz.2 d e)
section
variable {vs:List aJ} {sc pl:List Int} {n:Nat} {s:aA} {y:aN} {f:Bf}
def FSp (n:Nat) (x z:aD) (a r:aN):Prop:=∃s1 s2,eG n a.c_ x=some s1/\eG n a.c_ z=some s2/\r.c_.oO=a.c_.oO++[s1.1]/\r.c_.jQ=a.c_.jQ++[max s1.1 (IntKind.u32.wrap (max s2.2 1 - 1))]
structure Pi (vs:List aJ) (sc:List Int) (s:aA):Prop where
 tx:∀z ∈ s.aL,TX vs sc z
 px:∀(i:Nat) z,s.aL[i]? = some z->Dec s i->Hx vs sc z
 lt:s.dR=[108,101,116]->s.aL.length=1/\∃u,aZ vs s.eB=some u
theorem RD (h:Pi vs sc s) (hT:zF (eb y.e_) vs sc y.c_.aX) (hb:pQ s.aL<=50000000) (hn:100003000<n) (hf:s.dR ≠ [102,111,114]) {Q:aN ⊕ aN->Prop}
  (h1:∀a,Xa vs sc n s 0 y a->a.e_ ≠ 0->Q (.inr a)) (h2:∀a,Xa vs sc n s 0 y a->a.e_=0->bD ((f a s.bH).bind λx=>(f x s.eN).bind λx=>some (.inl x)) Q):bD (OR f n s y) Q:=by
 have hlen:=Af s.aL;unfold OR;refine (WC h.tx h.px h.lt (by omega) (by omega) n 0 y hT (by omega) (by omega)).bind λa ha=>?_;refine bD.bind (P:=λc=>c=false) ?_ λc hc=>?_
 ·exact bD.iteb (λ_=>.some (Sc hf)) λ_=>.some rfl
 subst hc;rw [if_neg (by decide)];refine bD.iteb (λh0=>.some (h1 a ha (by simpa using h0))) λh0=>h2 a ha (by simpa using h0)
theorem VS (h:Pi vs sc s) (hT:zF (eb y.e_) vs sc y.c_.aX) (hb:pQ s.aL<=50000000) (hn:100003000<n) {x z:aD} (hs:s=⟨[102,111,114],s.eB,s.iH,[x,z],s.bH,s.eN,s.fM⟩) {u:aJ} (hu:aZ vs s.eB=some u) (hL:y.e_=0->Bx y 1) {Q:aN ⊕ aN->Prop}
  (h1:∀a,Xa vs sc n s 0 y a->a.e_ ≠ 0->Q (.inr a)) (h2:∀a r,Xa vs sc n s 0 y a->a.e_=0->r.e_=0->r.c_.aX=a.c_.aX.set s.eB.toNat ⟨2,((4+a.c_.gS.length:Nat):Int),[]⟩->r.c_.gS=a.c_.gS++[s.eB]->r.c_.oO.length=a.c_.oO.length+1->r.c_.jQ.length=a.c_.jQ.length+1->WL r->FSp n x z a r->bD ((f r s.bH).bind λx=>(f x s.eN).bind λx=>some (.inl x)) Q):bD (OR f n s y) Q:=by
 have hlen:=Af s.aL;have hop:s.dR=[102,111,114]:=by rw [hs]
 have hli:s.aL=[x,z]:=by rw [hs]
 unfold OR;refine (WC h.tx h.px h.lt (by omega) (by omega) n 0 y hT (by omega) (by omega)).bind λa ha=>?_;refine bD.iteb (b:=a.e_ == 0) (x:=some (decide (s.dR=[102,111,114]))) (y:=some false) (Q:=λc=>c=(a.e_ == 0)) (λh0=>.some ?_) (λh0=>.some ?_) |>.bind λc hc=>?_
 ·rw [h0];exact tA hop
 ·rw [h0]
 subst hc;refine bD.iteb (λh0=>?_) λh0=>?_
 ·have h0:a.e_=0:=by simpa using h0
  have hy0:=ha.e.zero h0;have hTT:=ha.no (by rw [hop];decide);have hTy:zF false vs sc y.c_.aX:=by rw [Ao.2 hy0] at hT;exact hT
  have hxz:xz x<=50000000/\xz z<=50000000:=by
   rw [hli] at hb;rw [pQ,pQ] at hb;omega
  have px:=h.px 0 x (by rw [hli];rfl) (.inr (.inr (.inl hop)));have pz:=h.px 1 z (by rw [hli];rfl) (.inr (.inr (.inl hop)))
  have hLa:Bx a 1:=by
   have:=hL hy0;unfold Bx WL at this ⊢;rw [ha.c];exact this
  have hloop:=VC (n:=n) (y:=a) (f:=s.iH) (a:=s.fM) (b:=s.bH) (e:=s.eN) (by rw [hTT];exact hTy) px pz hu hLa hxz.1 hxz.2 (by omega);rw [←hs] at hloop;refine hloop.bind λr hr=>?_;obtain ⟨r1,r2,r3,s1,s2,q1,q2,r4,r5,r6⟩:=hr;rw [r1];rw [if_neg (by rw [h0];decide)];exact h2 a r ha h0 (by rw [r1];exact h0) r2 r3 (by rw [r4,mX];rfl) (by rw [r5,mX];rfl) r6 ⟨s1,s2,q1,q2,r4,r5⟩
 ·have h0:a.e_ ≠ 0:=by simpa using h0
  rw [if_pos (by simpa using h0)];exact .some (h1 a ha h0)
end
structure XOk (XR:Lj) (vs:List aJ):Prop where
 nil:∀y,XR [] y y
 simple:∀ {sc n s l y a r},Pi vs sc s->s.dR ≠ [102,111,114]->s.bH=[]->s.eN=[]->zF false vs sc y.c_.aX->pQ s.aL<=50000000->100003000<n->Xa vs sc n s 0 y a->a.e_=0->XR l a r->XR (s::l) y r
 Jp:∀ {sc n s l y a c d r},Pi vs sc s->s.dR=[105,102]->zF false vs sc y.c_.aX->Xa vs sc n s 0 y a->a.e_=0->XR s.bH a c->XR s.eN c d->XR l d r->XR (s::l) y r
 AZ:∀ {sc n v x z b gC l y a w c d r},Pi vs sc ⟨[102,111,114],v,0,[x,z],b,[],gC⟩->zF false vs sc y.c_.aX->xz x<=50000000->xz z<=50000000->100003000<n->Xa vs sc n ⟨[102,111,114],v,0,[x,z],b,[],gC⟩ 0 y a->a.e_=0->Bx y 1->w.c_.aX=a.c_.aX.set v.toNat ⟨2,((4+a.c_.gS.length:Nat):Int),[]⟩->(∃u,aZ vs v=some u)->FSp n x z a w->XR b w c->XR [] c d->XR l d r->XR (⟨[102,111,114],v,0,[x,z],b,[],gC⟩::l) y r
theorem RO {n:Nat} {y:aN}:gL (n+2) y []=some y:=rfl
theorem As (s:aA) (l:List aA):uN (s::l)=1+pQ s.aL+uN s.bH+uN s.eN+uN l:=by rw [uN,zG]
theorem HH (s:aA) (l:List aA):Bh (s::l)=Lu s++(Bh s.bH++(Bh s.eN++Bh l))/\AH (s::l)=Lt s++(AH s.bH++(AH s.eN++AH l))/\NH (s::l)=Pb s++(NH s.bH++(NH s.eN++NH l)):=by
 rw [Bh,AH,NH,Np,Qx,pbS_eq];simp only [Gb,and_self]
def Iy (XR:Lj) (vs:List aJ) (sc sc':List Int) (ss:List aA):Prop:=
 ∀(n:Nat) (pl:List Int),100005000+uN ss<=n->uN ss<=50000000->(∀v ∈ sc,∀u,aZ vs v=some u->u.bK=1->v ∈ pl) ->
  ∀(full:List aA) (k v:Nat) (y:aN),full.drop v=ss->v<=full.length->full.length<=100000000->ss.length<k->zF (eb y.e_) vs sc y.c_.aX->(y.e_=0->Bx y (AH ss).length) ->
   bD (gY (gL n) n full k (v:Int) y) λz=>BkC XR vs sc sc' pl ss y (z.elim id id)
theorem Iy.blk {XR:Lj} {vs:List aJ} {sc sc':List Int} {ss:List aA} (h:Iy XR vs sc sc' ss) {n:Nat} {pl:List Int} (hn:100005001+uN ss<=n) (hz:uN ss<=50000000) (hc:∀v ∈ sc,∀u,aZ vs v=some u->u.bK=1->v ∈ pl) {y:aN} (hT:zF (eb y.e_) vs sc y.c_.aX) (hL:y.e_=0->Bx y (AH ss).length) :
  bD (gL n y ss) (BkC XR vs sc sc' pl ss y):=by
 have hlen:=GN ss;obtain ⟨m,rfl⟩:∃m,n=m+1:=⟨n - 1,by omega⟩;show bD (nI (gL m) m y ss) _;unfold nI;refine (h m pl (by omega) hz hc ss m 0 y rfl (Jc _) (by omega) (by omega) hT hL).bind λz hz=>?_;cases z with
 | inl r=>exact .some hz
 | inr r=>exact .some hz
theorem EK {α:Type} {full:List α} {v:Nat} {s:α} {l:List α} (h:full.drop v=s::l):full[v]? = some s/\full.drop (v+1)=l/\v+1<=full.length:=by
 have h1:full[v]? = some s:=by rw [←xdv,h];rfl
 refine ⟨h1,?_,(vJ.1 h1).1⟩;rw [←List.tail_drop,h];rfl
section
variable {XR:Lj} {vs:List aJ} {sc sc2 sc':List Int} {s:aA} {l:List aA}
theorem xE (hX:XOk XR vs) (h:Pi vs sc s) (hf:s.dR ≠ [102,111,114]) (hB:s.bH=[]) (hE:s.eN=[]) (hsub:∀v ∈ sc,v ∈ sc2) (hnew:∀b T,zF b vs sc T->s.dR ≠ [108,101,116]->zF b vs sc2 T) (hlet:s.dR=[108,101,116]->sc2=sc++[s.eB]) (hpub:s.dR ≠ [108,101,116]->∀v ∈ sc2,v ∈ sc ∨ ∃u,aZ vs v=some u/\u.bK ≠ 1) (hR:Iy XR vs sc2 sc' l):Iy XR vs sc sc' (s::l):=by
 intro n pl hn hz hc full k v y hd hv hl hk hT hL;obtain ⟨g1,g2,g3⟩:=EK hd;obtain ⟨k,rfl⟩:∃j,k=j+1:=⟨k - 1,by rw [pX] at hk;omega⟩;rw [As,hB,hE,uN] at hn hz;obtain ⟨d1,d2,d3⟩:=HH s l;rw [hB,hE,Bh,Dh,Dh] at d1;rw [hB,hE,AH,Dh,Dh] at d2;rw [hB,hE,NH,Dh,Dh] at d3;have hfr:Lt s=[]:=by unfold Lt;rw [if_neg hf]
 refine Ng g1 hl (RD h hT (by omega) (by omega) hf (λa ha h0=>⟨λd e=>(nomatch e),λd e=>?_⟩) λa ha h0=>?_)
 ·cases e;exact ⟨ha.e,ha.ok,λh1=>absurd h1 h0⟩
 ·rw [hB,hE];obtain ⟨m,rfl⟩:∃m,n=m+2:=⟨n - 2,by omega⟩;rw [RO,dV,RO,dV];refine .some ⟨λd e=>?_,λd e=>(nomatch e)⟩;cases e;have hy0:=ha.e.zero h0;have hTy:zF false vs sc y.c_.aX:=by rw [Ao.2 hy0] at hT;exact hT
  have hown:=Vk (pl:=pl) hTy hc (by omega) ha h0 hf h.lt
  have hT2:zF (eb a.e_) vs sc2 a.c_.aX:=by
   by_cases ho:s.dR=[108,101,116]
   ·rw [hlet ho];obtain ⟨l1,u,hu⟩:=h.lt ho;obtain ⟨x,t,_,q2,q3,q4,_⟩:=ha.go ho (by omega);rw [q2,Ao.2 h0] at *;exact hTy.snoc hu q4 q3
   ·exact hnew _ _ ha.ok ho
  refine (hR (m+2) (pl++Lu s) (by omega) (by omega) (λw hw u hu hku=>?_) full k (v+1) a g2 g3 hl (by rw [pX] at hk;omega) hT2 λ_=>?_).mono λz hz=>?_
  ·by_cases ho:s.dR=[108,101,116]
   ·rw [hlet ho] at hw
    rcases Cu.1 hw with hw | hw
    ·exact JN _ (hc w hw u hu hku)
    ·refine NO _ ?_;unfold Lu;rw [if_pos (.inr ho)];exact hw
   ·rcases hpub ho w hw with hw | ⟨u',hu',hk'⟩
    ·exact JN _ (hc w hw u hu hku)
    ·rw [hu] at hu';cases hu';exact absurd hku hk'
  ·have hLy:=hL hy0;rw [d2,hfr,Dh] at hLy;exact Bx.app (fr:=Lt s) (by rw [hfr,sY,Lo];exact hLy) hown
  ·refine ⟨ha.e.trans hz.e,hz.t1.mono (λe=>e) hsub,λhr=>?_⟩;obtain ⟨z1,z2,z3⟩:=hz.ok hr;refine ⟨z1,?_,hX.simple h hf hB hE hTy (by omega) (by omega) ha h0 z3⟩;rw [d1,d2,d3];exact hown.app z2 λw hw=>Cu.1 hw
theorem Mt {scb scb' sce':List Int} {pl plb:List Int} {n k v:Nat} {full:List aA} {y r:aN} {dv0 fr0:List Int} {pb0:List aD} (hB:Iy XR vs scb scb' s.bH) (hE:Iy XR vs sc sce' s.eN) (hR:Iy XR vs sc sc' l)
  (hn:100005000+uN (s::l)<=n) (hz:uN (s::l)<=50000000) (hc:∀v ∈ sc,∀u,aZ vs v=some u->u.bK=1->v ∈ pl) (hcb:∀v ∈ scb,∀u,aZ vs v=some u->u.bK=1->v ∈ plb) (hsb:∀v ∈ sc,v ∈ scb) (hsb':∀v ∈ scb,v ∈ scb') (hse':∀v ∈ sc,v ∈ sce')
  (g2:full.drop (v+1)=l) (g3:v+1<=full.length) (hl:full.length<=100000000) (hk:l.length<k) (her:Er y.e_ r.e_) (hr0:r.e_=0) (hT:zF false vs scb r.c_.aX) (hL:Bx r ((AH s.bH).length+((AH s.eN).length+(AH l).length)))
  (hown:Uc pl dv0 fr0 pb0 y r) (hx:∀c d z,XR s.bH r c->XR s.eN c d->XR l d z->XR (s::l) y z) (hpb:∀v ∈ plb,v ∈ pl ∨ v ∈ dv0) (hpp:∀v ∈ pl,v ∈ plb) (hdl:Bh (s::l)=dv0++(Bh s.bH++(Bh s.eN++Bh l))) (hfl:AH (s::l)=fr0++(AH s.bH++(AH s.eN++AH l))) (hpl:NH (s::l)=pb0++(NH s.bH++(NH s.eN++NH l))) :
  bD ((gL n r s.bH).bind λx=>(gL n x s.eN).bind λx=>some (.inl x)) λz=>(∀d,z=.inl d->bD (gY (gL n) n full k ((v+1:Nat):Int) d) λz=>BkC XR vs sc sc' pl (s::l) y (z.elim id id))/\∀d,z=(.inr d:aN ⊕ aN)->BkC XR vs sc sc' pl (s::l) y ((.inr d:aN ⊕ aN).elim id id):=by
 rw [As] at hn hz;refine (hB.blk (pl:=plb) (by omega) (by omega) hcb (by rw [Ao.2 hr0];exact hT) λ_=>hL.less (by omega)).bind λc hcc=>?_;have hTc:zF (eb c.e_) vs sc c.c_.aX:=hcc.t1.mono (λe=>e) hsb;refine (hE.blk (pl:=pl) (by omega) (by omega) hc hTc λh0=>?_).bind λd hdd=>?_
 ·exact (Bx.app (hL.less (m':=(AH s.bH).length+(AH s.eN).length) (by omega)) (hcc.ok h0).2.1)
 refine .some ⟨λd' e=>?_,λd' e=>(nomatch e)⟩;cases e;refine (hR n pl (by omega) (by omega) hc full k (v+1) d g2 g3 hl hk hdd.t1 λh0=>?_).mono λz hz=>?_
 ·have hc0:=hdd.e.zero h0;exact Bx.app (Bx.app hL (hcc.ok hc0).2.1) (hdd.ok h0).2.1
 ·refine ⟨her.trans (hcc.e.trans (hdd.e.trans hz.e)),hz.t1,λhr=>?_⟩;obtain ⟨z1,z2,z3⟩:=hz.ok hr;have hd0:=hz.e.zero hr;have hc0:=hdd.e.zero hd0;refine ⟨z1,?_,hx c d _ (hcc.ok hc0).2.2 (hdd.ok hd0).2.2 z3⟩;rw [hdl,hfl,hpl];exact hown.app ((hcc.ok hc0).2.1.app ((hdd.ok hd0).2.1.app z2 λw hw=>.inl hw) λw hw=>.inl (hpp w hw)) hpb
theorem PQ {P:aD->Prop} {x z:aD} (h:P x) (k:P z):∀u ∈ [x,z],P u:=λu hu=>by
 rcases ES.1 hu with rfl | hu
 ·exact h
 ·rw [AV.1 hu];exact k
theorem IO {P:aD->Prop} {x:aD} (h:P x):∀u ∈ [x],P u:=λu hu=>by rw [AV.1 hu];exact h
theorem get_two {P:aD->Prop} {x z:aD} (h:P x) (k:P z):∀(i:Nat) u,[x,z][i]? = some u->P u:=λi u hu=>PQ h k u (FK hu)
theorem RE {P:aD->Prop} {x:aD} (h:P x):∀(i:Nat) u,[x][i]? = some u->P u:=λi u hu=>IO h u (FK hu)
end
theorem EC {L:List Int} {i:Int}:∀v ∈ L,v ∈ L++[i]:=λv hv=>JN _ hv
theorem KY {XR:Lj} {vs:List aJ} (hX:XOk XR vs) (sc:List Int):Iy XR vs sc sc []:=by
 intro n pl hn hz hc full k v y hd hv hl hk hT hL;obtain ⟨k,rfl⟩:∃j,k=j+1:=⟨k - 1,by rw [sY] at hk;omega⟩;have hge:full.length<=v:=by have:=congrArg List.length hd;simp only [Pw,sY] at this;omega
 unfold gY;refine bD.iteb (λh=>absurd (By h) (by omega)) λ_=>.some ?_;exact ⟨.refl _,hT,λh0=>⟨by have h0:y.e_=0:=h0;rw [Ao.2 h0] at hT;exact hT,.refl _ _,hX.nil y⟩⟩
theorem VT {XR:Lj} {vs:List aJ} (hX:XOk XR vs) {res:Int} {lf:Bool} {sc sc':List Int} {ss:List aA} (h:FB vs res lf sc ss sc'):Iy XR vs sc sc' ss:=by
 have nd:∀ {s:aA} {i:Nat} {P:Prop},s.dR ≠ [108,101,116]->s.dR ≠ [105,102]->s.dR ≠ [102,111,114]->(s.dR=[112,117,116]->i ≠ 0)->Dec s i->P:=λa b c d h=>by
  rcases h with h | h | h | ⟨h,h'⟩
  ·exact absurd h a
  ·exact absurd h b
  ·exact absurd h c
  ·exact absurd h' (d h)
 have newv:∀ {b:Bool} {sc:List Int} {T:List aH} {v:Int} {u:aJ},zF b vs sc T->aZ vs v=some u->u.bK ≠ 1->zF b vs (sc++[v]) T:=λh hu hk=>h.more hu hk
 have pub2:∀ {sc:List Int} {v:Int} {u:aJ},aZ vs v=some u->u.bK ≠ 1->∀w ∈ sc++[v],w ∈ sc ∨ ∃u,aZ vs w=some u/\u.bK ≠ 1:=λhu hk w hw=>by
  rcases Cu.1 hw with hw | hw
  ·exact .inl hw
  ·rw [AV.1 hw];exact .inr ⟨_,hu,hk⟩
 induction h with
 | nil=>exact KY hX _
 | let_ h1 h2 h3 h4 _ ih=>
   refine xE hX ⟨IO h1,λi z hz _=>RE (h1.pub h2) i z hz,λ_=>⟨rfl,_,h3⟩⟩ (by simp only;decide) rfl rfl EC (λb T _ ho=>absurd rfl ho) (λ_=>rfl) (λho=>absurd rfl ho) ih
 | var_ h1 h2 h3 h4 _ ih=>
   have hk:∀ {u:aJ},u.bK=2 ∨ u.bK=3->u.bK ≠ 1:=λh=>by omega
   refine xE hX ⟨IO h1,λi z hz hd=>nd (by simp only;decide) (by simp only;decide) (by simp only;decide) (λh=>absurd h (by simp only;decide)) hd,λh=>absurd h (by simp only;decide)⟩ (by simp only;decide) rfl rfl EC (λb T hT _=>newv hT h2 (hk h3)) (λh=>absurd h (by simp only;decide)) (λ_=>pub2 h2 (hk h3)) ih
 | arr h1 h2 _ ih=>
   have hk:∀ {u:aJ},u.bK=4->u.bK ≠ 1:=λh=>by omega
   refine xE hX ⟨λ_ h=>(nomatch h),λi z hz hd=>(nomatch hz),λh=>absurd h (by simp only;decide)⟩ (by simp only;decide) rfl rfl EC (λb T hT _=>newv hT h1 (hk h2)) (λh=>absurd h (by simp only;decide)) (λ_=>pub2 h1 (hk h2)) ih
 | set h1 h2 h3 h4 _ ih=>
   have hk:∀ {u:aJ},u.bK=2 ∨ u.bK=3->u.bK ≠ 1:=λh=>by omega
   refine xE hX ⟨IO h1,λi z hz hd=>nd (by simp only;decide) (by simp only;decide) (by simp only;decide) (λh=>absurd h (by simp only;decide)) hd,λh=>absurd h (by simp only;decide)⟩ (by simp only;decide) rfl rfl EC (λb T hT _=>newv hT h2 (hk h3)) (λh=>absurd h (by simp only;decide)) (λ_=>pub2 h2 (hk h3)) ih
 | put h1 h2 h3 h4 h5 h6 h7 h8 _ ih=>
   refine xE hX ⟨PQ h4 h7,λi z hz hd=>?_,λh=>absurd h (by simp only;decide)⟩ (by simp only;decide) rfl rfl (λ_ h=>h) (λb T hT _=>hT) (λh=>absurd h (by simp only;decide)) (λ_ w hw=>.inl hw) ih;cases i with
   | zero=>injection hz with hz;rw [←hz];exact h4.pub h5
   | succ i=>exact nd (by simp only;decide) (by simp only;decide) (by simp only;decide) (λ_=>by omega) hd
 | @Jp l sc c b e a sc1 sc2 ss sc' h1 h2 hb he hr ib ie ir=>
   intro n pl hn hz hc full k v y hd hv hl hk hT hL;obtain ⟨g1,g2,g3⟩:=EK hd;obtain ⟨k,rfl⟩:∃j,k=j+1:=⟨k - 1,by rw [pX] at hk;omega⟩;have hz2:=hz;rw [As] at hz2;have ty:Pi vs sc ⟨[105,102],-1,0,[c],b,e,a⟩:=⟨IO h1,λi z hz _=>RE (h1.pub h2) i z hz,λh=>absurd h (by simp only;decide)⟩;obtain ⟨d1,d2,d3⟩:=HH ⟨[105,102],-1,0,[c],b,e,a⟩ ss;have hfo:Lt ⟨[105,102],-1,0,[c],b,e,a⟩=[]:=by unfold Lt;rw [if_neg (by simp only;decide)]
   have hdo:Lu ⟨[105,102],-1,0,[c],b,e,a⟩=[]:=by unfold Lu;rw [if_neg (by simp only;decide)]
   refine Ng g1 hl (RD ty hT (by omega) (by omega) (by simp only;decide) (λw hw h0=>⟨λd e=>(nomatch e),λd e=>?_⟩) λw hw h0=>?_)
   ·cases e;exact ⟨hw.e,hw.ok,λh1=>absurd h1 h0⟩
   ·have hy0:=hw.e.zero h0;have hTy:zF false vs sc y.c_.aX:=by rw [Ao.2 hy0] at hT;exact hT
    have hown:=Vk (pl:=pl) hTy hc (by omega) hw h0 (by simp only;decide) ty.lt;have hLy:=hL hy0;refine Mt (plb:=pl) ib ie ir hn hz hc hc (λ_ h=>h) hb.sub he.sub g2 g3 hl (by rw [pX] at hk;omega) hw.e h0 (by have:=hw.ok;rw [Ao.2 h0] at this;exact this) ?_ hown (λc d z k1 k2 k3=>hX.Jp ty rfl hTy hw h0 k1 k2 k3) (λ_ h=>.inl h) (λ_ h=>h) d1 d2 d3;rw [d2,mX,mX,mX] at hLy;exact Bx.app hLy hown
 | @AZ l sc x z v u b a sc1 ss sc' h1 h2 h3 h4 h5 h6 hb hr ib ir=>
   intro n pl hn hz hc full k w y hd hv hl hk hT hL;obtain ⟨g1,g2,g3⟩:=EK hd;obtain ⟨k,rfl⟩:∃j,k=j+1:=⟨k - 1,by rw [pX] at hk;omega⟩;have hz2:=hz;rw [As] at hz2;have ty:Pi vs sc ⟨[102,111,114],v,0,[x,z],b,[],a⟩:=⟨PQ h1 h3,λi z hz _=>get_two (h1.pub h2) (h3.pub h4) i z hz,λh=>absurd h (by simp only;decide)⟩;obtain ⟨d1,d2,d3⟩:=HH ⟨[102,111,114],v,0,[x,z],b,[],a⟩ ss;have hfo:Lt ⟨[102,111,114],v,0,[x,z],b,[],a⟩=[v]:=by unfold Lt;rw [if_pos rfl]
   have hdo:Lu ⟨[102,111,114],v,0,[x,z],b,[],a⟩=[v]:=by unfold Lu;rw [if_pos (.inl rfl)]
   have hcount:y.e_=0->Bx y (1+((AH b).length+((AH ([]:List aA)).length+(AH ss).length))):=λh0=>by
    have:=hL h0;rw [d2,hfo,mX,mX,mX] at this;exact this
   refine Ng g1 hl (VS ty hT (by omega) (by omega) rfl h5 (λh0=>(hcount h0).less (by omega)) (λw hw h0=>⟨λd e=>(nomatch e),λd e=>?_⟩) λw r hw h0 hr0 r1 r2 r3 r4 r5 r6=>?_)
   ·cases e;exact ⟨hw.e,hw.ok,λh1=>absurd h1 h0⟩
   ·have hy0:=hw.e.zero h0;have hTy:zF false vs sc y.c_.aX:=by rw [Ao.2 hy0] at hT;exact hT
    have hLy:=hcount hy0;have hl1:=hLy.1;have hown:=own_for (pl:=pl) hTy hc (by omega) hw h0 rfl h5 (by omega) r1 r2 r3 r4 r5;have hFw:w.c_.gS=y.c_.gS:=by rw [hw.c]
    have hTw:w.c_.aX=y.c_.aX:=hw.no (by simp only;decide)
    have hTr:zF false vs (sc++[v]) r.c_.aX:=by
     rw [r1,hFw,hTw];exact hTy.snoc h5 (.var (by omega) (by omega)) (by rw [tm,pO];omega)
    refine Mt (plb:=pl++[v]) ib (KY hX sc) ir hn hz hc (λt ht u hu hku=>?_) EC hb.sub (λ_ h=>h) g2 g3 hl (by rw [pX] at hk;omega) (.inl (hr0.trans hy0.symm)) hr0 hTr ?_ hown (λc d z' k1 k2 k3=>hX.AZ ty hTy (by rw [pQ,pQ] at hz2;omega) (by rw [pQ,pQ] at hz2;omega) (by omega) hw h0 (hLy.less (by omega)) r1 ⟨_,h5⟩ r6 k1 k2 k3) (λt ht=>?_) EC d1 d2 d3
    ·rcases Cu.1 ht with ht | ht
     ·exact JN _ (hc t ht u hu hku)
     ·exact NO _ ht
    ·exact Bx.app (fr:=Lt ⟨[102,111,114],v,0,[x,z],b,[],a⟩) (by rw [hfo];exact hLy) hown
    ·rw [hdo];exact Cu.1 ht
 | ret h1 h2=>
   refine xE hX ⟨IO h1,λi z hz hd=>nd (by simp only;decide) (by simp only;decide) (by simp only;decide) (λh=>absurd h (by simp only;decide)) hd,λh=>absurd h (by simp only;decide)⟩ (by simp only;decide) rfl rfl (λ_ h=>h) (λb T hT _=>hT) (λh=>absurd h (by simp only;decide)) (λ_ w hw=>.inl hw) (KY hX _)
theorem KZ:∀l:List aA,(AH l).length<=uN l
 | []=>sZ _
 | ⟨o,v,f,x,b,e,a⟩::l=>by
   have h1:=KZ b;have h2:=KZ e;have h3:=KZ l;rw [AH,As,Qx];have h4:(Lt ⟨o,v,f,x,b,e,a⟩).length<=1:=by unfold Lt;split <;> simp
   simp only [mX] at *;omega
theorem fors_l1 {f:List aA->Option Int} {l:List aA} (hf:∀x ∈ l,f x.bH=some ((AH x.bH).length:Int)/\f x.eN=some ((AH x.eN).length:Int)) (hb:uN l<=100000000) :
  ∀(k v:Nat) (acc:Int),l.length<v+k->v<=l.length->0<=acc->acc+(AH (l.drop v)).length<=100000000->yO f l k acc (v:Int)=some (acc+(AH (l.drop v)).length):=by
 have hlen:=GN l;intro k
 induction k with
 | zero=>intro v acc h1 h2;omega
 | succ k ih=>
   intro v acc h1 h2 h3 h4;unfold yO
   by_cases hv:v<l.length
   ·have hd:l.drop v=l[v]::l.drop (v+1):=NQ hv;obtain ⟨f1,f2⟩:=hf _ (LU hv);have hm:(AH (l.drop v)).length=(Lt l[v]).length+((AH l[v].bH).length+(AH l[v].eN).length)+(AH (l.drop (v+1))).length:=by rw [hd,AH,Qx];simp only [mX]
    rw [hm] at h4;rw [if_pos (tA (by omega)),oY (wB hv),dV,f1,f2,cG (n:=(v:Int)+1) (by omega) (by omega),show ((v:Int)+1)=((v+1:Nat):Int) by omega]
    by_cases ho:l[v].dR=[102,111,114]
    ·have hfo:(Lt l[v]).length=1:=by unfold Lt;rw [if_pos ho];rfl
     rw [if_pos (tA ho),dV,dV,dV,cG (n:=acc+1) (by omega) (by omega),cG (n:=((AH l[v].bH).length:Int)+_) (by omega) (by omega),cG (by omega) (by omega),ih (v+1) _ (by omega) (by omega) (by omega) (by omega),hm]
     congr 1;omega
    ·have hfo:(Lt l[v]).length=0:=by unfold Lt;rw [if_neg ho];rfl
     rw [if_neg (by rw [sX];exact ho),dV,dV,dV,cG (n:=((AH l[v].bH).length:Int)+_) (by omega) (by omega),cG (by omega) (by omega),ih (v+1) _ (by omega) (by omega) (by omega) (by omega),hm]
     congr 1;omega
   ·rw [if_neg (by rw [sX];omega),TR (by omega),AH]
    congr 1;simp
theorem fors_eq:∀(n:Nat) (l:List aA),uN l+1<n->uN l<=100000000->xF n l=some ((AH l).length:Int):=by
 intro n
 induction n with
 | zero=>intro l h;omega
 | succ n ih=>
   intro l h hb;show vY (xF n) n l=_;unfold vY;have hl:=GN l;have hs:=KZ l
   have:=fors_l1 (f:=xF n) (l:=l) (λx hx=>by
    have h1:=MK hx;have h2:=zG x;exact ⟨ih _ (by omega) (by omega),ih _ (by omega) (by omega)⟩) hb n 0 0 (by omega) (by omega) (Se _) (by rw [Ct];omega)
   rw [show ((0:Nat):Int)=0 from rfl] at this;rw [this,dV,Ct,Int.zero_add]
def Ec (vs:List aJ) (p j:Nat):aH:=match vs[j]? with | some u=>if j<p/\u.bK=1 then ⟨2,(j:Int),[]⟩ else Uw | none=>Uw
structure Ini (vs:List aJ) (p:Nat) (y:aN):Prop where
 e:y.e_=0
 fors:y.c_.gS=[]
 low:y.c_.oO=[0,0,0,0]
 high:y.c_.jQ=[4294967295,4294967295,4294967295,4294967295]
 len:y.c_.aX.length=vs.length
 t:∀j,j<vs.length->y.c_.aX[j]? = some (Ec vs p j)
theorem Ini.w {vs:List aJ} {p:Nat} {y:aN} (h:Ini vs p y):WL y:=by
 unfold WL;rw [h.low,h.high];refine ⟨λx hx=>?_,λx hx=>?_,λi=>?_⟩
 ·simp only [ES,TU,or_false,or_self] at hx;rw [hx];exact .z
 ·simp only [ES,TU,or_false,or_self] at hx;rw [hx];exact .m
 ·rcases i with _ | _ | _ | _ | i <;> simp
theorem Xh {f:aQ} {p:Nat} (hp:f.aT=p) (hpl:p<=f.aR.length) (h4:p<=4):∀(k v:Nat) (y:aN),p<v+k->v<=p->Ini f.aR v y->bD (sL f k (v:Int) y) (Ini f.aR p):=by
 have htk:(f.aR.take f.aT.toNat).length=p:=by rw [hp,Dq,JQ];omega
 intro k
 induction k with
 | zero=>intro v y h1 h2;omega
 | succ k ih=>
   intro v y h1 h2 hI;unfold sL;refine bD.iteb (λh=>?_) λh=>.some ?_
   ·have hv:v<p:=by have:=By h;omega
    have hg:(f.aR.take f.aT.toNat)[v]? = some f.aR[v]:=by rw [xdj,if_pos (by rw [hp,Dq];exact hv),wB (by omega)]
    rw [cG (by omega) (by omega),show ((v:Int)+1)=((v+1:Nat):Int) by omega];refine bD.bind (P:=Ini f.aR (v+1)) ?_ λz hz=>ih (v+1) z (by omega) (by omega) hz;refine bD.eqn (oY hg) ?_
    have hold:∀j,j ≠ v->Ec f.aR (v+1) j=Ec f.aR v j:=λj hj=>by
     unfold Ec;cases f.aR[j]? with
     | none=>rfl
     | some u=>
       simp only
       by_cases h:j<v/\u.bK=1
       ·rw [if_pos h,if_pos ⟨by omega,h.2⟩]
       ·rw [if_neg h,if_neg λh2=>h ⟨by omega,h2.2⟩]
    refine bD.iteb (λhk=>?_) λhk=>.some ⟨hI.e,hI.fors,hI.low,hI.high,hI.len,λj hj=>?_⟩
    ·have hk:f.aR[v].bK=1:=by simpa using hk
     refine bD.eqn (v:=⟨2,(v:Int),[]⟩) (by unfold EV;rw [IntKind.wrap_u32];congr 2;omega) ?_;have hT:=hI.t v (by omega);refine bD.eqn (oY hT) (.some ⟨hI.e,hI.fors,hI.low,hI.high,by rw [vK];exact hI.len,λj hj=>?_⟩);show (y.c_.aX.set ((v:Int)).toNat _)[j]? = _;rw [Dq]
     by_cases e:j=v
     ·subst e;rw [PL (by rw [hI.len];exact hj)];unfold Ec;rw [wB hj];simp only;rw [if_pos ⟨by omega,hk⟩]
     ·rw [Pz (λh=>e h.symm),hI.t j hj,hold j e]
    ·have hk:f.aR[v].bK ≠ 1:=by simpa using hk
     rw [hI.t j hj]
     by_cases e:j=v
     ·subst e;unfold Ec;rw [wB hj];simp only;rw [if_neg λh=>by omega,if_neg λh=>hk h.2]
     ·rw [hold j e]
   ·have hv:v=p:=by have:=NP h;omega
    subst hv;exact hI
theorem Ini.tok {vs:List aJ} {p:Nat} {y:aN} (h:Ini vs p y) (h4:p<=4):zF false vs (rB p) y.c_.aX:=by
 refine ⟨h.len,λv hv u hu hk=>?_⟩;obtain ⟨v0,v1⟩:=Fg hv;obtain ⟨j,rfl⟩:∃j:Nat,v=j:=⟨v.toNat,by omega⟩;have hj:j<p:=by omega
 obtain ⟨b0,b1⟩:=uE hu;have hT:=h.t j (by omega);rw [OP] at hu;refine ⟨Ec vs p j,oY hT,?_,?_⟩
 ·unfold Ec;rw [hu];simp only;rw [if_pos ⟨hj,hk⟩];exact .var (by omega) (by omega)
 ·unfold Ec;rw [hu];simp only;rw [if_pos ⟨hj,hk⟩,tm,pO];omega
inductive FJ (XR:Lj) (f:aQ) (p:Nat):bE × Int->Prop
 | ok {y0 y:aN} {sc':List Int}:Ini f.aR p y0->zF false f.aR sc' y.c_.aX->Uc (rB p) (Bh f.bH) (AH f.bH) (NH f.bH) y0 y->p<=4->(AH f.bH).length<=250->XR f.bH y0 y->FJ XR f p (y.c_,0)
 | count:4<p ∨ 250<(AH f.bH).length->FJ XR f p (⟨[],[],[],[]⟩,136)
 | size:p<=4->(AH f.bH).length<=250->FJ XR f p (⟨[],[],[],[]⟩,161)
theorem QW {XR:Lj} {f:aQ} (hX:XOk XR f.aR) {p:Nat} {res:Int} {lf:Bool} {sc':List Int} (hp:f.aT=p) (hpl:p<=f.aR.length) (hv:f.aR.length<=4096) (hz:uN f.bH<=50000000) (hf:FB f.aR res lf (rB p) f.bH sc') {n:Nat} (hn:200000000<=n):bD (tV n f) (FJ XR f p):=by
 unfold tV;have hfs:=KZ f.bH;refine bD.bind (P:=λc=>c=true ↔ (4<p ∨ 250<(AH f.bH).length)) ?_ λc hc=>?_
 ·refine bD.iteb (λh=>.some ⟨λ_=>.inl (by have:=By h;omega),λ_=>rfl⟩) λh=>?_;have h:=NP h;rw [fors_eq n _ (by omega) (by omega),dV];exact .some ⟨λh=>.inr (by have:=By h;omega),λh2=>tA (by omega)⟩
 refine bD.iteb (λh=>.some (.count (hc.1 h))) λh=>?_;have hno:¬ (4<p ∨ 250<(AH f.bH).length):=λh2=>by rw [hc.2 h2] at h;cases h
 refine bD.eqn (v:=[4294967295,4294967295,4294967295,4294967295]) rfl ?_;refine bD.need (by omega) (bD.need (by omega) ?_)
 have hI0:Ini f.aR 0 ⟨⟨List.replicate f.aR.length aH.Z,[],[0,0,0,0],[4294967295,4294967295,4294967295,4294967295]⟩,0⟩:=by
  refine ⟨rfl,rfl,rfl,rfl,xdl,λj hj=>?_⟩;show (List.replicate f.aR.length aH.Z)[j]? = _;rw [List.getElem?_replicate,if_pos hj];unfold Ec;rw [wB hj];simp only;rw [if_neg λh=>by omega];rfl
 refine (Xh hp hpl (by omega) n 0 _ (by omega) (Jc _) hI0).bind λy0 hI=>?_;have hT:=hI.tok (by omega);refine ((VT hX hf).blk (pl:=rB p) (by omega) hz (λv hv _ _ _=>hv) (by rw [hI.e];exact hT) λ_=>⟨by rw [hI.fors];simp only [sY];omega,⟨by rw [hI.low,hI.fors];rfl,by rw [hI.high,hI.fors];rfl⟩,hI.w⟩).bind λy hy=>?_;have her:=hy.e;rw [hI.e] at her;refine bD.iteb (λh0=>.some ?_) λh0=>.some ?_
 ·have h0:y.e_ ≠ 0:=by simpa using h0
  rcases her with h1 | ⟨_,h1⟩
  ·exact absurd h1 h0
  ·rw [h1];exact .size (by omega) (by omega)
 ·have h0:y.e_=0:=by simpa using h0
  obtain ⟨z1,z2,z3⟩:=hy.ok h0;exact .ok hI z1 z2 (by omega) (by omega) z3
def isP (vs:List aJ) (k:Nat):Bool:=match vs[k]? with | some u=>decide (u.bK=1) | none=>false
def uK (vs:List aJ) (a b:Nat):List Int:=((List.range (b - a)).filter λi=>isP vs (a+i)).map λi=>((a+i:Nat):Int)
section
variable {vs vs':List aJ} {a b c:Nat}
theorem tD:uK vs a a=[]:=by unfold uK;rw [xdx];rfl
theorem nX (h1:a<=b) (h2:b<=c):uK vs a c=uK vs a b++uK vs b c:=by
 unfold uK;rw [show c - a=(b - a)+(c - b) by omega,List.range_add,List.filter_append,Ud,List.filter_map,xdp]
 congr 1
 have e:∀i,a+(b - a+i)=b+i:=λi=>by omega
 simp only [Function.comp_def,e]
theorem BO (h:vs <+: vs') (hb:b<=vs.length):uK vs' a b=uK vs a b:=by
 unfold uK
 congr 1
 refine List.filter_congr λi hi=>?_;have hi:=TS.1 hi;obtain ⟨r,rfl⟩:=h;unfold isP;rw [MI (by omega)]
theorem BP {u:aJ} (h:vs[a]? = some u):uK vs a (a+1)=if u.bK=1 then [(a:Int)] else []:=by
 unfold uK;rw [Nat.add_sub_cancel_left];show List.map _ (List.filter _ [0])=_;have e:isP vs a=decide (u.bK=1):=by unfold isP;rw [h]
 by_cases hk:u.bK=1
 ·rw [if_pos hk,List.filter_cons_of_pos (by rw [Ui,e];exact tA hk)];rfl
 ·rw [if_neg hk,List.filter_cons_of_neg (by rw [Ui,e];simpa using hk)];rfl
theorem Ot {v:Int}:v ∈ uK vs a b ↔ ∃k:Nat,v=(k:Int)/\a<=k/\k<b/\∃u,vs[k]? = some u/\u.bK=1:=by
 unfold uK;rw [LW]
 constructor
 ·rintro ⟨i,hi,rfl⟩;obtain ⟨h1,h2⟩:=PJ.1 hi;have h1:=TS.1 h1;refine ⟨a+i,rfl,by omega,by omega,?_⟩;unfold isP at h2
  split at h2
  ·exact ⟨_,‹_›,by simpa using h2⟩
  ·cases h2
 ·rintro ⟨k,rfl,h1,h2,u,h3,h4⟩;refine ⟨k - a,PJ.2 ⟨TS.2 (by omega),?_⟩,by congr 1;omega⟩;rw [show a+(k - a)=k by omega];unfold isP;rw [h3];exact tA h4
theorem Qi:(uK vs a b).Nodup:=by
 unfold uK;have h:((List.range (b - a)).filter λi=>isP vs (a+i)).Nodup:=List.nodup_range.filter _;exact List.pairwise_map.2 (h.imp λ{x y} hxy e=>hxy (by omega))
end
theorem RJ (a b:List aA):Bh (a++b)=Bh a++Bh b:=by
 induction a with
 | nil=>rw [Dh,Bh,Dh]
 | cons x a ih=>rw [LV,Bh,Bh,ih,Gb]
theorem dvL_one (s:aA) (h1:s.bH=[]) (h2:s.eN=[]):Bh [s]=Lu s:=by
 rw [Bh,Bh,Ga,Np,h1,h2,Bh,Ga,Ga]
theorem IU {s:aA} (h1:s.dR ≠ [102,111,114]) (h2:s.dR ≠ [108,101,116]):Lu s=[]:=by
 unfold Lu;rw [if_neg];rintro (h | h);exact h1 h;exact h2 h
theorem OS {α:Type} (l:List α) (x:α):(l++[x])[l.length]? = some x:=by rw [Lx (sZ _),xdx];rfl
theorem Pm.dv {as:List Int} {gC:Int} {ps vs vs':List aJ} {l:List aD} {i:Nat} {o:List aA} {own:List Int} (h:Pm as gC ps vs l i o own vs'):Bh o=uK vs' vs.length vs'.length/\own.length=l.length:=by
 induction h with
 | nil=>rw [Bh,tD];exact ⟨rfl,rfl⟩
 | arr _ _ ih=>exact ⟨ih.1,by simp only [pX,ih.2]⟩
 | @val vs y l i u o own vs' _ hu h ih=>
   refine ⟨?_,by simp only [pX,ih.2]⟩;have hp:=h.pre.length_le;rw [mX,sW] at hp;have hg:vs'[vs.length]? = some u:=FA h.pre (OS vs u);rw [nX (xdm _) hp,BP hg,Bh,Np,ih.1,mX,sW];simp only [Bh,Ga]
   congr 1
   unfold Lu
   by_cases hk:u.bK=1
   ·simp only [if_pos hk];rw [if_pos (.inr trivial)]
   ·simp only [if_neg hk];rw [if_neg (by decide)]
theorem own_pub {fv v1:List aJ} {own:List Int} {pn:Nat} (hpn:pn<=fv.length) (hol:own.length=pn):(uK fv pn fv.length).map (mp (own++DW v1.length (fv.drop pn).length))=uK (v1++fv.drop pn) v1.length (v1++fv.drop pn).length:=by
 unfold uK;rw [mX,Pw,Nat.add_sub_cancel_left,xdp]
 have e1:∀i,i<fv.length - pn->isP fv (pn+i)=isP (v1++fv.drop pn) (v1.length+i):=λi hi=>by
  unfold isP;rw [Lx (by omega),xdi,Nat.add_sub_cancel_left]
 rw [List.filter_congr λi hi=>e1 i (TS.1 hi)];refine xdh λi hi=>?_;have hi:=TS.1 (PJ.1 hi).1;show mp _ ((pn+i:Nat):Int)=_;unfold mp;have hl:(DW v1.length (fv.length - pn)).length=fv.length - pn:=by simp [DW]
 rw [if_neg (by rw [mX,hl];omega),Dq,Lx (by omega),hol,Nat.add_sub_cancel_left];unfold DW;rw [HS,xef hi];rfl
theorem TB.le {sg:QS} {vs:List aJ} {res:Int} {lf:Bool} {n n':Nat} {sc sc':List Int} {l:List aA} (h:TB sg vs res lf n sc l n' sc'):n<=n':=by
 induction h with
 | nil | ret | retc=>exact sZ _
 | let_ _ _ _ _ _ ih=>omega
 | var_ _ _ _ _ ih=>omega
 | arr _ _ _ ih=>omega
 | callv _ _ _ _ _ _ ih=>omega
 | set _ _ _ _ _ _ ih=>exact ih
 | calls _ _ _ _ _ _ _ ih=>exact ih
 | put _ _ _ _ _ _ _ _ _ ih=>exact ih
 | do_ _ _ _ ih=>exact ih
 | Jp _ _ _ _ _ i1 i2 i3=>omega
 | AZ _ _ _ _ _ _ _ _ i1 i2=>omega
def TP (res:Int) (b:aA):Prop:=b.bH=[]/\b.eN=[]/\(b.dR=[114,101,116,117,114,110] ∨ b.dR=[115,101,116] ∨ b.dR=[118,97,114]/\b.iH=res)
theorem TP.bat {res:Int} {b:aA} (h:TP res b) (a:Int):TP res (FX b a):=by
 obtain ⟨b1,b2,b3,b4,b5⟩:=BE b a;unfold TP;rw [b1,b3,b4,b5];exact h
theorem TP.dv {res:Int} {b:aA} (h:TP res b):b.dR ≠ [102,111,114]/\b.dR ≠ [108,101,116]:=by
 obtain ⟨_,_,h | h | ⟨h,_⟩⟩:=h <;> rw [h] <;> decide
theorem RP {res:Int} {b:aA} (h:TP res b) (a v f:Int) (l:List aD):Bh [⟨(FX b a).dR,v,f,l,(FX b a).bH,(FX b a).eN,(FX b a).fM⟩]=[]:=by
 have e:=dvL_one ⟨(FX b a).dR,v,f,l,(FX b a).bH,(FX b a).eN,(FX b a).fM⟩ (h.bat a).1 (h.bat a).2.1;exact e.trans (IU (h.bat a).dv.1 (h.bat a).dv.2)
def DvR (c:aE) (vs:List aJ) (l:List aA) (as:List Int) (b:aA) (out:List aA) (vs':List aJ):Prop:=
 ∀ {j:Nat} {vsC:List aJ} {res:Int} {lf:Bool} {n:Nat} {sc:List Int} {n':Nat} {sc':List Int},TB (EZ c j) vsC res lf n sc l n' sc'->(∀u ∈ vsC,EP u)->(res=0 ∨ res=2 ∨ res=3)->TP res b ->
  (Bh out).Perm ((uK vsC n n').map (mp as)++uK vs' vs.length vs'.length)
theorem perm4 {α:Type} {a b c d e f:List α} (h1:a.Perm b) (h2:c.Perm (d++e)) (h3:f=b++e):(a++c).Perm (d++f):=by
 subst h3;refine (h1.append h2).trans ?_;rw [←Gb,←Gb];exact List.Perm.append_right _ List.perm_append_comm
section
variable {c:aE} {rk:Int->Nat}
theorem call_dv (hp:PO c rk) {j:Nat} {vsC vs v1 v2:List aJ} {sc:List Int} {as own:List Int} {fi r:Int} {ps:List aJ} {xs:List aD} {a:Int} {f:aQ} {o1 o2:List aA} {b':aA}
  (hsg:EZ c j fi r ps) (hta:Bi vsC sc ps xs) (hf:aZ c.p_.aV fi=some f) (hA:Pm as a f.aR vs xs 0 o1 own v1) (hB:JL c.p_ (v1++f.aR.drop f.aT.toNat) f.bH (own++DW v1.length (f.aR.drop f.aT.toNat).length) b' o2 v2)
  (ih:DvR c (v1++f.aR.drop f.aT.toNat) f.bH (own++DW v1.length (f.aR.drop f.aT.toNat).length) b' o2 v2) (Gc:TP r b'):(Bh (o1++o2)).Perm (uK v2 vs.length v2.length):=by
 obtain ⟨_,f',hf',hr,hps⟩:=hsg;obtain rfl:f=f':=Option.some.inj (hf.symm.trans hf');subst hr hps
 obtain ⟨fn,rfl⟩:∃k:Nat,fi=(k:Int):=by
  unfold aZ at hf
  split at hf
  ·exact ⟨fi.toNat,by omega⟩
  ·exact nomatch hf
 have hfg:=Al hf;have hfm:=FK hfg;have tf:=hp.tf fn f hfg;obtain ⟨vl1,vl2,vl3⟩:=hp.co.vl f hfm;obtain ⟨ki1,ki2⟩:=hp.co.ki f hfm;obtain ⟨sc'',htb⟩:=tf.body;have hpl:(f.aR.take f.aT.toNat).length=f.aT.toNat:=by rw [JQ];omega
 have hxl:xs.length=f.aT.toNat:=hta.1.trans hpl;obtain ⟨d1,d2⟩:=hA.dv;have d3:=ih (j:=fn) htb ki1 ki2 Gc;rw [own_pub (by omega) (d2.trans hxl)] at d3;have hq1:=hA.pre.length_le;have hq2:=hB.pre.length_le;have hq3:v1.length<=(v1++f.aR.drop f.aT.toNat).length:=by rw [mX];omega
 rw [RJ,d1,nX hq1 (JR hq3 hq2),nX (a:=v1.length) hq3 hq2];have e1:=BO (a:=vs.length) ((MH v1 (f.aR.drop f.aT.toNat)).trans hB.pre) (sZ _);have e2:=BO (a:=v1.length) hB.pre (sZ _);rw [e1,e2];exact List.Perm.append_left _ d3
theorem secT_ne (t:Int):Hz t ≠ 1:=by unfold Hz;split <;> omega
theorem dv_all (hp:PO c rk) {vs vs':List aJ} {l:List aA} {as:List Int} {b:aA} {out:List aA} (h:JL c.p_ vs l as b out vs'):DvR c vs l as b out vs':=by
 generalize hcp:c.p_=p at h
 induction h with
 | nil=>
   intro j vsC res lf n sc n' sc' htb hv hr hb;cases htb;rw [tD,tD,Bh];exact .refl _
 | @call vs s l as b f o1 own v1 o2 v2 o3 v3 ho hf hA hp0 hp1 hB hrest ihB ihR=>
   subst hcp;intro j vsC res lf n sc n' sc' htb hv hr hb;have hq1:=(hA.pre.trans (MH _ (f.aR.drop f.aT.toNat))).trans hB.pre
   -- what is behind the call
   have fin:∀ {n1:Nat} {sc1:List Int} {r:Int} {ps:List aJ},EZ c j s.iH r ps->Bi vsC sc ps s.aL->TP r (PA f s as b)->TB (EZ c j) vsC res lf n1 sc1 l n' sc'->n<=n1->uK vsC n n1=[]->(Bh ((o1++o2)++o3)).Perm ((uK vsC n n').map (mp as)++uK v3 vs.length v3.length):=by
    intro n1 sc1 r ps h1 h2 h3 h4 h5 h6;rw [RJ,nX h5 h4.le,h6,Dh];refine perm4 (call_dv hp h1 h2 hf hA hB ihB h3) (ihR h4 hv hr hb) ?_;rw [nX hq1.length_le hrest.pre.length_le,BO hrest.pre (sZ _)]
   have tk0:s.eB ≠ -1->s.eB ≠ -2->∀r,TP r (PA f s as b):=λh1 h2 r=>by
    unfold PA;rw [if_neg h2,if_neg h1];exact ⟨rfl,rfl,.inr (.inl rfl)⟩
   have tk1:s.eB=-1->TP f.bN (PA f s as b):=λh=>by unfold PA;rw [if_neg (by rw [h];decide),if_pos h];exact ⟨rfl,rfl,.inr (.inr ⟨rfl,rfl⟩)⟩
   have tk2:s.eB=-2->TP res (PA f s as b):=λh=>by unfold PA;rw [if_pos h];exact hb.bat _
   cases htb with
   | let_=>exact absurd (show ([108,101,116]:bW)=[99,97,108,108] from ho) (by decide)
   | var_=>exact absurd (show ([118,97,114]:bW)=[99,97,108,108] from ho) (by decide)
   | arr=>exact absurd (show ([97,114,114]:bW)=[99,97,108,108] from ho) (by decide)
   | set=>exact absurd (show ([115,101,116]:bW)=[99,97,108,108] from ho) (by decide)
   | put=>exact absurd (show ([112,117,116]:bW)=[99,97,108,108] from ho) (by decide)
   | Jp=>exact absurd (show ([105,102]:bW)=[99,97,108,108] from ho) (by decide)
   | AZ=>exact absurd (show ([102,111,114]:bW)=[99,97,108,108] from ho) (by decide)
   | ret=>exact absurd (show ([114,101,116,117,114,110]:bW)=[99,97,108,108] from ho) (by decide)
   | callv k1 k2 k3 k4 k5 k6=>
     have k1':=k1;obtain ⟨_,f',hf',hr',_⟩:=k1'
     have:=(hp.co.ki f' (by
      unfold aZ at hf'
      split at hf'
      ·exact FK hf'
      ·cases hf')).2
     refine fin k1 k2 (tk0 (by simp only;omega) (by simp only;omega) _) k6 (xdm _) ?_;rw [BP k4,if_neg (by rw [k5,hr'];omega)]
   | calls k1 k2 k3 k4 k5 k6 k7=>
     have h0:=(uE k2).1;exact fin k4 k5 (tk0 (by simp only;omega) (by simp only;omega) _) k7 (sZ _) tD
   | do_ k1 k2 k3=>
     have k1':=k1;obtain ⟨_,f',hf',hr',_⟩:=k1';obtain rfl:f=f':=Option.some.inj (hf.symm.trans hf');exact fin k1 k2 (by rw [hr'];exact tk1 rfl) k3 (sZ _) tD
   | retc k1 k2 k3=>
     obtain ⟨rfl,rfl⟩:=hrest.nil_inv;exact fin k1 k3 (tk2 rfl) (.nil (l:=true) (n:=n) (sc:=sc)) (sZ _) tD
 | @ret vs st l as b y r o v ho hl hnv hrest ihR=>
   intro j vsC res lf n sc n' sc' htb hv hr hb;cases htb with
   | let_=>exact absurd (show ([108,101,116]:bW)=[114,101,116,117,114,110] from ho) (by decide)
   | var_=>exact absurd (show ([118,97,114]:bW)=[114,101,116,117,114,110] from ho) (by decide)
   | arr=>exact absurd (show ([97,114,114]:bW)=[114,101,116,117,114,110] from ho) (by decide)
   | set=>exact absurd (show ([115,101,116]:bW)=[114,101,116,117,114,110] from ho) (by decide)
   | put=>exact absurd (show ([112,117,116]:bW)=[114,101,116,117,114,110] from ho) (by decide)
   | Jp=>exact absurd (show ([105,102]:bW)=[114,101,116,117,114,110] from ho) (by decide)
   | AZ=>exact absurd (show ([102,111,114]:bW)=[114,101,116,117,114,110] from ho) (by decide)
   | callv=>exact absurd (show ([99,97,108,108]:bW)=[114,101,116,117,114,110] from ho) (by decide)
   | calls=>exact absurd (show ([99,97,108,108]:bW)=[114,101,116,117,114,110] from ho) (by decide)
   | do_=>exact absurd (show ([99,97,108,108]:bW)=[114,101,116,117,114,110] from ho) (by decide)
   | retc=>exact absurd (show ([99,97,108,108]:bW)=[114,101,116,117,114,110] from ho) (by decide)
   | ret k1 k2 k3=>
     obtain ⟨rfl,rfl⟩:=hrest.nil_inv;rw [tD,tD,Ga];exact .of_eq ((RP hb _ _ _ _).trans rfl)
 | @retv vs st l as b y r o v ho hl hv0 hrest ihR=>
   intro j vsC res lf n sc n' sc' htb hv hr hb;cases htb with
   | let_=>exact absurd (show ([108,101,116]:bW)=[114,101,116,117,114,110] from ho) (by decide)
   | var_=>exact absurd (show ([118,97,114]:bW)=[114,101,116,117,114,110] from ho) (by decide)
   | arr=>exact absurd (show ([97,114,114]:bW)=[114,101,116,117,114,110] from ho) (by decide)
   | set=>exact absurd (show ([115,101,116]:bW)=[114,101,116,117,114,110] from ho) (by decide)
   | put=>exact absurd (show ([112,117,116]:bW)=[114,101,116,117,114,110] from ho) (by decide)
   | Jp=>exact absurd (show ([105,102]:bW)=[114,101,116,117,114,110] from ho) (by decide)
   | AZ=>exact absurd (show ([102,111,114]:bW)=[114,101,116,117,114,110] from ho) (by decide)
   | callv=>exact absurd (show ([99,97,108,108]:bW)=[114,101,116,117,114,110] from ho) (by decide)
   | calls=>exact absurd (show ([99,97,108,108]:bW)=[114,101,116,117,114,110] from ho) (by decide)
   | do_=>exact absurd (show ([99,97,108,108]:bW)=[114,101,116,117,114,110] from ho) (by decide)
   | retc=>exact absurd (show ([99,97,108,108]:bW)=[114,101,116,117,114,110] from ho) (by decide)
   | ret k1 k2 k3=>
     obtain ⟨rfl,rfl⟩:=hrest.nil_inv
     have hF:b.iH ≠ 1:=by
      obtain ⟨_,_,h | h | ⟨_,h⟩⟩:=hb
      ·rw [hv0] at h;exact absurd h (by decide)
      ·rw [hv0] at h;exact absurd h (by decide)
      ·omega
     rw [tD,mX,sW,BP (OS vs _),if_neg (show ¬ b.iH=1 from hF),Ga];exact .of_eq ((RP hb _ _ _ _).trans rfl)
 | @other vs s l as b o1 v1 o2 v2 o3 v3 h1 h2 hb1 hb2 hrest i1 i2 ihR=>
   subst hcp;intro j vsC res lf n sc n' sc' htb hv hr hb
   have dvc:∀s':aA,Bh ([s']++o3)=Lu s'++((Bh s'.bH++Bh s'.eN)++Bh o3):=λs'=>by
    rw [Pv,Bh,Np,Gb]
   -- a statement in which none stand
   have one:∀ {n1:Nat} {sc1:List Int},s.bH=[]->s.eN=[]->TB (EZ c j) vsC res lf n1 sc1 l n' sc'->n<=n1->Lu { s with eB:=mp as s.eB,aL:=Ls as s.aL,bH:=o1,eN:=o2 }=(uK vsC n n1).map (mp as)->(Bh ([{ s with eB:=mp as s.eB,aL:=Ls as s.aL,bH:=o1,eN:=o2 }]++o3)).Perm ((uK vsC n n').map (mp as)++uK v3 vs.length v3.length):=by
    intro n1 sc1 e1 e2 h4 h5 h6;rw [e1] at hb1;rw [e2] at hb2;obtain ⟨rfl,rfl⟩:=hb1.nil_inv;obtain ⟨rfl,rfl⟩:=hb2.nil_inv;rw [dvc,h6,nX h5 h4.le,Ud];simp only [Bh,Dh];exact (List.Perm.append_left _ (ihR h4 hv hr hb)).trans (.of_eq (Gb _ _ _).symm)
   cases htb with
   | callv=>exact absurd rfl h1
   | calls=>exact absurd rfl h1
   | do_=>exact absurd rfl h1
   | retc=>exact absurd rfl h1
   | ret=>exact absurd rfl h2
   | let_ k1 k2 k3 k4 k5=>
     refine one rfl rfl k5 (xdm _) ?_;rw [BP k3,if_pos k4];unfold Lu;rw [if_pos (.inr rfl)];rfl
   | var_ k1 k3 k4 k5=>
     refine one rfl rfl k5 (xdm _) ?_;rw [BP k3,if_neg (by rw [k4];exact secT_ne _)];exact IU (by simp only;decide) (by simp only;decide)
   | arr k3 k4 k5=>
     refine one rfl rfl k5 (xdm _) ?_;rw [BP k3,if_neg (by rw [k4];decide)];exact IU (by simp only;decide) (by simp only;decide)
   | set k1 k2 k3 k4 k5 k6=>
     refine one rfl rfl k6 (sZ _) ?_;rw [tD];exact IU (by simp only;decide) (by simp only;decide)
   | put k1 k2 k3 k4 k5 k6 k7 k8 k9=>
     refine one rfl rfl k9 (sZ _) ?_;rw [tD];exact IU (by simp only;decide) (by simp only;decide)
   | @Jp _ _ _ cc bb ee aa n1 sc1 n2 sc2 ss _ _ k1 k2 k3 k4 k5=>
     have p1:=i1 k3 hv hr hb;have p2:=i2 k4 hv hr hb;have p3:=ihR k5 hv hr hb;rw [dvc,IU (by simp only;decide) (by simp only;decide),Dh,nX k3.le (JR k4.le k5.le),nX k4.le k5.le]
     have e:uK v3 vs.length v3.length=uK v1 vs.length v1.length++(uK v2 v1.length v2.length++uK v3 v2.length v3.length):=by
      rw [nX (vs:=v3) hb1.pre.length_le (JR hb2.pre.length_le hrest.pre.length_le),nX (vs:=v3) (a:=v1.length) hb2.pre.length_le hrest.pre.length_le,BO (hb2.pre.trans hrest.pre) (sZ _),BO hrest.pre (sZ _)]
     rw [e,Ud,Ud,List.perm_iff_count];intro x;have q1:=p1.count_eq x;have q2:=p2.count_eq x;have q3:=p3.count_eq x;simp only [List.count_append] at q1 q2 q3 ⊢;omega
   | @AZ _ _ _ xx yy uu bb aa n1 sc1 ss _ _ k1 k2 k3 k4 k5 k6 k7 k8=>
     obtain ⟨rfl,rfl⟩:=hb2.nil_inv;have p1:=i1 k7 hv hr hb;have p3:=ihR k8 hv hr hb;have hd:Lu ({ dR:=[102,111,114],eB:=mp as (n:Int),iH:=0,aL:=Ls as [xx,yy],bH:=o1,eN:=[],fM:=aa }:aA)=[mp as (n:Int)]:=by unfold Lu;rw [if_pos (.inl rfl)]
     rw [dvc,nX (xdm n) (JR k7.le k8.le),nX (a:=n+1) k7.le k8.le,BP k5,if_pos k6]
     have e:uK v3 vs.length v3.length=uK v2 vs.length v2.length++uK v3 v2.length v3.length:=by
      rw [nX (vs:=v3) hb1.pre.length_le hrest.pre.length_le,BO hrest.pre (sZ _)]
     rw [e];simp only [Ud,xK,Dg,Bh,Ga];rw [hd,List.perm_iff_count];intro x;have q1:=p1.count_eq x;have q3:=p3.count_eq x;simp only [List.count_append] at q1 q3 ⊢;omega
theorem Flat_dv (hp:PO c rk) {n:Nat} {i:Int} {r:aQ × Int} (h:vF n c.p_ i=some r) (he:r.2=0):(Bh r.1.bH).Perm (uK r.1.aR r.1.aT.toNat r.1.aR.length):=by
 obtain ⟨k,fn,_,hfn,hr,hpre,hB,_⟩:=RY hp h he;have hm:=FK hfn;obtain ⟨v1,v2,v3⟩:=hp.co.vl fn hm;obtain ⟨ki1,ki2⟩:=hp.co.ki fn hm;obtain ⟨sc',htb⟩:=(hp.tf k fn hfn).body;have e1:r.1.aT=fn.aT:=by rw [hr]
 have hd:=dv_all hp hB htb ki1 ki2 ⟨rfl,rfl,.inl rfl⟩
 have e2:∀l:List Int,l.map (mp [])=l:=λl=>by
  conv=>rhs;rw [←List.map_id l]
  exact xdh λv _=>Qn v
 rw [e2] at hd;rw [e1,nX (a:=fn.aT.toNat) (show fn.aT.toNat<=fn.aR.length by omega) hpre.length_le,BO hpre (sZ _)];exact hd
end
theorem of_flat {c:aE} {rk:Int->Nat} (hp:PO c rk) {n:Nat} {i:Int} {r:aQ × Int} (hn:200000000<=n) (h:vF n c.p_ i=some r) (he:r.2=0) (h2:∃fn,aZ c.p_.aV i=some fn/\NB fn r.1):∃p:Nat,r.1.aT=p/\p<=r.1.aR.length/\r.1.aR.length<=4096/\(r.1.bN=0 ∨ r.1.bN=2 ∨ r.1.bN=3)/\(r.1.dU=true->BH (r.1.aR.take p) 0<=4)/\uN r.1.bH<=50000000/\∃sc',FB r.1.aR r.1.bN true (rB p) r.1.bH sc':=by
 obtain ⟨fn0,_,hf0⟩:=h2;obtain ⟨k,fn,_,hfn,hr,hpre,_,sc',hFB⟩:=RY hp h he;have hm:=FK hfn;obtain ⟨v1,v2,v3⟩:=hp.co.vl fn hm;obtain ⟨_,k2⟩:=hp.co.ki fn hm;have e1:r.1.aT=fn.aT:=by rw [hr]
 have e2:r.1.bN=fn.bN:=by rw [hr]
 have e3:r.1.dU=fn.dU:=by rw [hr]
 have hlen:=hpre.length_le;refine ⟨fn.aT.toNat,by rw [e1];omega,by omega,hf0.v,by rw [e2];exact k2,λh=>?_,hf0.tz,sc',by rw [e2];exact hFB⟩;rw [e3] at h;have:=hp.ex fn hm h;obtain ⟨rest,hrest⟩:=hpre;rw [←hrest,List.take_append_of_le_length (by omega)];exact this
structure O15 (f:aQ) (p:Nat):Prop where
 par:f.aT=p
 pl:p<=f.aR.length
 v:f.aR.length<=4096
 tz:uN f.bH<=50000000
 fb:∃sc',FB f.aR f.bN true (rB p) f.bH sc'
 dv:(Bh f.bH).Perm (uK f.aR p f.aR.length)
theorem Vo {n:Nat} (hn:200000000<=n) (s:bW) (i:Int):bD (mZ n s i) λr=>r.2.2=true->∃p,O15 r.1 p:=by
 unfold mZ;refine bD.iteb (λ_=>.some λh=>(nomatch h)) λhs=>?_;have hs:=NP hs;refine (TO (n:=n) (s:=s) (by omega) (by omega)).bind λr hr=>?_;refine bD.iteb (λ_=>.some λh=>(nomatch h)) λhe=>?_;have he:r.2.1=0:=by simpa using he
 obtain ⟨c,rk,hc,hp⟩:=hr he;obtain ⟨r2,e2,h2,_⟩:=Xe hp.pg (n:=n) (i:=i) hp.rkN (by omega);rw [hc] at e2;rw [e2,dV];refine .some λh3=>?_;have h3:r2.2=0:=by simpa using h3
 rw [←hc] at e2;obtain ⟨p,a1,a2,a3,a4,a5,a6,sc',a7⟩:=of_flat hp hn e2 h3 (h2 h3);have hd:=Flat_dv hp e2 h3;rw [a1,Dq] at hd;exact ⟨p,a1,a2,a3,a6,⟨sc',a7⟩,hd⟩
theorem O15.dok {f:aQ} {p:Nat} (h:O15 f p):DOk (rB p) (Bh f.bH):=by
 refine ⟨h.dv.nodup_iff.2 Qi,λv hv=>?_⟩;obtain ⟨k,rfl,h1,h2,_⟩:=Ot.1 (h.dv.mem_iff.1 hv);exact ⟨λhm=>by have:=Fg hm;omega,by omega⟩
section
variable {c:bE} {v:Int}
theorem Word_in {t:aH} (ht:aZ c.aX v=some t):lO c v=(some (t.dR != (2:Int))).bind λy2=>if y2=true then some (-1:Int) else (some t).bind λx14=>
  (if (decide ((IntKind.i64.wrap x14.N_)<(4:Int)))=true then
     if ((IntKind.i64.wrap x14.N_) == v)=true then some true
     else if (decide ((4:Int)<=(IntKind.i64.wrap x14.N_)))=true then if (decide ((IntKind.i64.wrap ((IntKind.i64.wrap x14.N_) - (4:Int)))<(c.gS.length:Int)))=true then (aZ c.gS (IntKind.i64.wrap ((IntKind.i64.wrap x14.N_) - (4:Int)))).bind λx24=>some (x24 == v) else some false else some false
    else if (decide ((4:Int)<=(IntKind.i64.wrap x14.N_)))=true then if (decide ((IntKind.i64.wrap ((IntKind.i64.wrap x14.N_) - (4:Int)))<(c.gS.length:Int)))=true then (aZ c.gS (IntKind.i64.wrap ((IntKind.i64.wrap x14.N_) - (4:Int)))).bind λx31=>some (x31 == v) else some false else some false).bind λy19=>
  if y19=true then some (IntKind.i64.wrap x14.N_) else some (-1:Int):=by
 obtain ⟨h0,h1⟩:=uE ht;unfold lO;rw [if_neg (by rw [sX];omega),if_neg (by rw [sX];omega),ht];rfl
theorem WM {k:Nat} (ht:aZ c.aX v=some ⟨2,((4+k:Nat):Int),[]⟩) (hk:c.gS[k]? = some v) (h:k<=250):lO c v=some ((4+k:Nat):Int):=by
 have hl:=(vJ.1 hk).1;rw [Word_in ht,dV,if_neg (by simp),dV];simp only;rw [cG (n:=((4+k:Nat):Int)) (by omega) (by omega),cG (n:=((4+k:Nat):Int) - 4) (by omega) (by omega),if_neg (by rw [sX];omega),if_pos (tA (by omega)),if_pos (tA (by omega)),show ((4+k:Nat):Int) - 4=(k:Int) by omega,oY hk,dV,dV,if_pos (by simp)]
end
structure CW (f:aQ) (p:Nat) (c:bE):Prop where
 p4:p<=4
 fl:(AH f.bH).length<=250
 fors:c.gS=AH f.bH
 low:c.oO.length=4+(AH f.bH).length
 high:c.jQ.length=4+(AH f.bH).length
 terms:c.aX.length=f.aR.length
 wl:Ba c.oO/\Ba c.jQ/\OL c.oO c.jQ
 word:∀(k:Nat) v,(AH f.bH)[k]? = some v->lO c v=some ((4+k:Nat):Int)
 non:∀(i:Nat) u,f.aR[i]? = some u->u.bK ≠ 1->aZ c.aX (i:Int)=some Uw
 par:∀(i:Nat) u,f.aR[i]? = some u->u.bK=1->i<p->aZ c.aX (i:Int)=some ⟨2,(i:Int),[]⟩
 loc:∀(i:Nat) u,f.aR[i]? = some u->u.bK=1->p<=i->∃t,aZ c.aX (i:Int)=some t/\Sh false t/\tm t<=2000
 qx:∀x ∈ NH f.bH,QX c.aX (rB p++Bh f.bH) x
theorem QY {XR:Lj} {f:aQ} {p:Nat} (ho:O15 f p) {c:bE} (h:FJ XR f p (c,0)):CW f p c:=by
 generalize hr:(c,(0:Int))=r at h
 cases h with
 | count=>injection hr with _ hr;cases hr
 | size=>injection hr with _ hr;cases hr
 | @ok y0 y sc' hI hT hB h4 hL _=>
   injection hr with hr;subst hr
   have hF:y.c_.gS=AH f.bH:=by rw [hB.fors,hI.fors,Dh]
   obtain ⟨d1,d2,d3⟩:=hB.ok ho.dok λv hv=>(Fg hv).1
   have hun:∀(i:Nat),i<f.aR.length->(i:Int) ∉ Bh f.bH->aZ y.c_.aX (i:Int)=some (Ec f.aR p i):=λi hi hm=>by
    rw [hB.un i (by omega) hm];exact oY (hI.t i hi)
   have hmem:∀(i:Nat),(i:Int) ∈ Bh f.bH ↔ p<=i/\i<f.aR.length/\∃u,f.aR[i]? = some u/\u.bK=1:=λi=>by
    rw [ho.dv.mem_iff,Ot]
    constructor
    ·rintro ⟨k,e,h1,h2,h3⟩;obtain rfl:k=i:=by omega
     exact ⟨h1,h2,h3⟩
    ·rintro ⟨h1,h2,h3⟩;exact ⟨i,rfl,h1,h2,h3⟩
   refine ⟨h4,hL,hF,by rw [hB.low,hI.low];rfl,by rw [hB.high,hI.high];rfl,hT.len,hB.w hI.w,λk v hk=>?_,λi u hu hk=>?_,λi u hu hk hi=>?_,λi u hu hk hi=>?_,d3⟩
   ·have:=d2 k v hk;rw [hI.fors,sY,Ui] at this;have hlt:=(vJ.1 hk).1;exact WM this (by rw [hF];exact hk) (by omega)
   ·have hlt:=(vJ.1 hu).1
    rw [hun i hlt λhm=>by
     obtain ⟨_,_,u',e1,e2⟩:=(hmem i).1 hm;rw [hu] at e1;cases e1;exact hk e2]
    unfold Ec;rw [hu];simp only
    rw [if_neg λh=>hk h.2]
   ·have hlt:=(vJ.1 hu).1;rw [hun i hlt λhm=>by have:=(hmem i).1 hm;omega];unfold Ec;rw [hu];simp only
    rw [if_pos ⟨hi,hk⟩]
   ·have hlt:=(vJ.1 hu).1;exact d1 _ ((hmem i).2 ⟨hi,hlt,u,hu,hk⟩)
theorem Sh.mem {b:Bool} {t:aH} (h:Sh b t):∀x ∈ t.aL,Sh b x:=by
 cases h with
 | z | con | var=>exact λ_ h=>nomatch h
 | un _ h=>exact one_mem h
 | bin _ _ h k=>exact λx hx=>(ES.1 hx).elim (λe=>e ▸ h) (one_mem k x)
where one_mem {b:Bool} {x:aH} (h:Sh b x):∀y ∈ [x],Sh b y:=λy hy=>by rw [AV.1 hy];exact h
open Classical in
noncomputable def scT (L:List Int) (T:List aH):List Int:=L.filter λv=>decide (∃t,aZ T v=some t/\Sh false t/\tm t<=2000)
theorem WI:nV 200000000=some true:=by kernel_rfl
abbrev NN:=aM
mutual
def nd:aH->List NN
 | ⟨o,n,l⟩=>⟨o,n,(l.length:Int)⟩::JZ l
def JZ:List aH->List NN
 | []=>[]
 | x::l=>nd x++JZ l
end
theorem ndq (x:aH):nd x=⟨x.dR,x.N_,(x.aL.length:Int)⟩::JZ x.aL:=by cases x;rw [nd]
mutual
theorem wK:∀x:aH,(nd x).length=tm x
 | ⟨o,n,l⟩=>by rw [nd,tm,pX,Rs l];omega
theorem Rs:∀l:List aH,(JZ l).length=pO l
 | []=>by rw [JZ,pO];rfl
 | x::l=>by rw [JZ,pO,mX,wK x,Rs l]
end
theorem HD {v:Int}:nd ⟨1,v,[]⟩=[⟨1,v,0⟩]:=by rw [nd,JZ];rfl
theorem KE {v:Int}:nd ⟨2,v,[]⟩=[⟨2,v,0⟩]:=by rw [nd,JZ];rfl
theorem OD {o:Int} {x:aH}:nd ⟨o,0,[x]⟩=⟨o,0,1⟩::nd x:=by rw [nd,JZ,JZ,Ga];rfl
theorem KF {o:Int} {x y:aH}:nd ⟨o,0,[x,y]⟩=⟨o,0,2⟩::(nd x++nd y):=by rw [nd,JZ,JZ,JZ,Ga];rfl
def PB (t:aH):List NN:=if t.dR=0 then [] else nd t
theorem Sh.op {t:aH} (h:Sh false t):1<=t.dR/\t.dR<=17:=by
 cases h with
 | z e=>cases e
 | con=>exact ⟨by simp only;omega,by simp only;omega⟩
 | var=>exact ⟨by simp only;omega,by simp only;omega⟩
 | un h=>exact ⟨by simp only;omega,by simp only;omega⟩
 | bin=>exact ⟨by simp only;omega,by simp only;omega⟩
theorem Sh.one {t:aH} (h:Sh false t) (h1:t.dR=1):∃c,t=⟨1,c,[]⟩/\pW c:=by
 cases h with
 | z e=>cases e
 | con a b=>exact ⟨_,rfl,a,b⟩
 | var=>exact absurd (show (2:Int)=1 from h1) (by decide)
 | un h=>simp only at h1;omega
 | bin=>simp only at h1;omega
theorem MZ {t:aH} (h:Sh false t):PB t=nd t:=by unfold PB;rw [if_neg (by have:=h.op;omega)]
theorem Vw:PB Uw=[]:=by unfold PB;rw [if_pos rfl]
theorem Vq {f:aH->Option (List NN)} {t:aH} (hf:∀x ∈ t.aL,f x=some (nd x)) (hb:tm t<=100000000) :
  ∀(k v:Nat) (acc:List NN),t.aL.length<v+k->v<=t.aL.length->acc.length+pO (t.aL.drop v)<=100000000->pS f t k acc (v:Int)=some (acc++JZ (t.aL.drop v)):=by
 have hlen:=JU t.aL;have hte:=NU t;intro k
 induction k with
 | zero=>intro v acc h1 h2;omega
 | succ k ih=>
   intro v acc h1 h2 h4;unfold pS
   by_cases hv:v<t.aL.length
   ·have hd:t.aL.drop v=t.aL[v]::t.aL.drop (v+1):=NQ hv;have f1:=hf _ (LU hv);rw [hd,pO] at h4;have hn:=wK t.aL[v];rw [if_pos (tA (by omega)),oY (wB hv),dV,f1,dV,iR (by omega),cG (n:=(v:Int)+1) (by omega) (by omega),show ((v:Int)+1)=((v+1:Nat):Int) by omega,ih (v+1) _ (by omega) (by omega) (by rw [mX];omega),hd,JZ,Gb]
   ·rw [if_neg (by rw [sX];omega),TR (by omega),JZ,Ga]
theorem Vr:∀(n:Nat) (t:aH),Sh false t->tm t<n->tm t<=100000->gJ n t=some (nd t):=by
 intro n
 induction n with
 | zero=>intro t _ h;omega
 | succ n ih=>
   intro t ht h hb;show nB (gJ n) n t=_;unfold nB;have hl:=JU t.aL;have he:=NU t;have hop:=ht.op
   have:=Vq (f:=gJ n) (t:=t) (λx hx=>by
    have h1:=Rh hx;exact ih _ (ht.mem x hx) (by omega) (by omega)) (by omega) n 0 [⟨t.dR,t.N_,(t.aL.length:Int)⟩] (by omega) (by omega) (by rw [Ct,sW];omega)
   rw [show ((0:Nat):Int)=0 from rfl] at this;rw [if_neg (by rw [beq_iff_eq];omega),dV,if_neg (by decide),this,dV,Ct,ndq,Pv]
theorem Vp {n:Nat}:gJ (n+1) Uw=some []:=rfl
theorem Oi {o:bW} (h:(o=[110,111,116] ∨ o=[110,101,103]) ∨ Iu o) (ty n v a:Int) (l:List aD) (m:Nat):qB ⟨o,ty,n,v,l,a⟩ (m+16) 0 0=some (IN o):=by
 unfold Iu at h
 rcases h with (h | h) | h | h | h | h | h | h | h | h | h | h | h | h | h <;> subst h <;> kernel_rfl
theorem Va {f:aP->aD->Option (List NN)} {b:aP} {x:aD} {T:List aH} (hf:∀y ∈ x.aL,f b y=some (nd (DA T y))) :
  ∀(k v:Nat) (acc:List NN),x.aL.length<v+k->v<=x.aL.length->x.aL.length<=10->acc.length+pO (rR T (x.aL.drop v))<=100000000->iL f x b k acc (v:Int)=some (acc++JZ (rR T (x.aL.drop v))):=by
 intro k
 induction k with
 | zero=>intro v acc h1 h2;omega
 | succ k ih=>
   intro v acc h1 h2 h3 h4;unfold iL
   by_cases hv:v<x.aL.length
   ·have hd:x.aL.drop v=x.aL[v]::x.aL.drop (v+1):=NQ hv;have f1:=hf _ (LU hv);rw [hd,rR,pO] at h4;have hn:=wK (DA T x.aL[v]);rw [if_pos (tA (by omega)),oY (wB hv),dV,f1,dV,iR (by omega),cG (n:=(v:Int)+1) (by omega) (by omega),show ((v:Int)+1)=((v+1:Nat):Int) by omega,ih (v+1) _ (by omega) (by omega) h3 (by rw [mX];omega),hd,rR,JZ,Gb]
   ·rw [if_neg (by rw [sX];omega),TR (by omega),rR,JZ,Ga]
theorem OQ {α β:Type} {f:α->β} {l:List α} {i:Int} {x:α} (h:aZ l i=some x):aZ (l.map f) i=some (f x):=by
 unfold aZ at h ⊢
 split at h
 ·rename_i h0;rw [if_pos h0,HS,h];rfl
 ·cases h
section
variable {vs:List aJ} {sc:List Int} {T:List aH} {b:aP} {x:aD}
theorem put_eq (hT:zF false vs sc T) (hb:b.cQ=T.map PB) (h:Hx vs sc x):∀n,xz x+30<n->tm (DA T x)<=100000->dN n b x=some (nd (DA T x)):=by
 induction h with
 | num=>
   intro n hn _;obtain ⟨m,rfl⟩:∃m,n=m+1:=⟨n - 1,by omega⟩;show dC (dN m) m b _=_;unfold dC;rw [GT,HD,if_pos (by rfl)]
 | @var v u a h1 h2 h3=>
   intro n hn _;obtain ⟨m,rfl⟩:∃m,n=m+1:=⟨n - 1,by omega⟩;show dC (dN m) m b _=_;unfold dC;obtain ⟨t,k1,k2,k3⟩:=hT.ok _ h1 _ h2 h3;obtain ⟨b0,b1⟩:=uE k1;have hl:(b.cQ.length:Int)=T.length:=by rw [hb,Hh]
   rw [JX k1,if_neg (by simp),if_pos (by rfl),if_pos (tA b0),tA (show v<(b.cQ.length:Int) by rw [hl];exact b1),dV,if_pos rfl,hb,OQ k1,dV,MZ k2]
 | @un o x a h hx ih=>
   intro n hn hz;rw [xz,pQ,pQ] at hn;obtain ⟨m,rfl⟩:∃m,n=m+16+1:=⟨n - 17,by omega⟩;obtain ⟨n1,n2,_⟩:=Sign1.ne h;rw [xU n1 n2,rR,rR,tm,pO,pO] at hz;show dC (dN (m+16)) (m+16) b _=_;unfold dC;have hq:=Va (f:=dN (m+16)) (b:=b) (x:=⟨o,1,0,-1,[x],a⟩) (T:=T) (λy hy=>by rw [AV.1 hy];exact ih _ (by omega) (by omega)) (m+16) 0 [⟨IN o,0,1⟩] (by simp) (by simp) (by simp) (by rw [Ct,rR,rR,pO,pO];simp only [sW];omega);rw [show ((0:Nat):Int)=0 from rfl,Ct,rR,rR,JZ,JZ,Ga] at hq;rw [xU n1 n2,if_neg (by simpa using n1),if_neg (by simpa using n2),dV,if_neg (by decide),Oi (.inl h),dV];show (iL _ _ b (m+16) [⟨IN o,0,1⟩] 0).bind _=_;rw [hq,dV,rR,rR,OD];rfl
 | @bin o x y a h hx hy i1 i2=>
   intro n hn hz;rw [xz,pQ,pQ,pQ] at hn;obtain ⟨m,rfl⟩:∃m,n=m+16+1:=⟨n - 17,by omega⟩;obtain ⟨n1,n2,_⟩:=h.ne;rw [xU n1 n2,rR,rR,rR,tm,pO,pO,pO] at hz;show dC (dN (m+16)) (m+16) b _=_;unfold dC
   have hq:=Va (f:=dN (m+16)) (b:=b) (x:=⟨o,1,0,-1,[x,y],a⟩) (T:=T) (λz hz=>by
    rcases ES.1 hz with rfl | hz
    ·exact i1 _ (by omega) (by omega)
    ·rw [AV.1 hz];exact i2 _ (by omega) (by omega)) (m+16) 0 [⟨IN o,0,2⟩] (by simp) (by simp) (by simp) (by rw [Ct,rR,rR,rR,pO,pO,pO];simp only [sW];omega)
   rw [show ((0:Nat):Int)=0 from rfl,Ct,rR,rR,rR,JZ,JZ,JZ,Ga] at hq;rw [xU n1 n2,if_neg (by simpa using n1),if_neg (by simpa using n2),dV,if_neg (by decide),Oi (.inr h),dV];show (iL _ _ b (m+16) [⟨IN o,0,2⟩] 0).bind _=_;rw [hq,dV,rR,rR,rR,KF];rfl
end
theorem of32 {z:Nat} (hz:(z:Int)<=4294967295):(BitVec.ofInt IntKind.u32.bits (z:Int)).toNat=z:=by
 show (BitVec.ofInt 32 (z:Int)).toNat=z;rw [BitVec.toNat_ofInt];omega
theorem and31 {y:Int} (h:pW y):sJ .u32 y 31=y % 32:=by
 obtain ⟨h1,h2⟩:=h;obtain ⟨y,rfl⟩:=Sd h1;unfold sJ;rw [IntKind.wrap_u32,BitVec.toNat_and,of32 h2,show (BitVec.ofInt IntKind.u32.bits (31:Int)).toNat=2 ^ 5 - 1 from rfl,Nat.and_two_pow_sub_one_eq_mod];omega
theorem com32 {x:Int} (h:pW x):QG .u32 x=4294967295 - x:=by
 obtain ⟨h1,h2⟩:=h;obtain ⟨x,rfl⟩:=Sd h1;unfold QG;have e:BitVec.ofInt IntKind.u32.bits (if IntKind.u32.signed=true then -1 else IntKind.u32.max)=BitVec.allOnes IntKind.u32.bits:=rfl;rw [e,BitVec.allOnes_xor,BitVec.toNat_not,of32 h2,IntKind.wrap_u32,show IntKind.u32.bits=32 from rfl];omega
theorem or32 {p q i:Nat} (hq:q<2 ^ i) (h:p*2 ^ i+q<4294967296):Mn .u32 ((p*2 ^ i:Nat):Int) (q:Int)=((p*2 ^ i+q:Nat):Int):=by
 unfold Mn;rw [BitVec.toNat_or,of32 (by omega),of32 (by omega),IntKind.wrap_u32,Nat.mul_comm,←Nat.two_pow_add_eq_or_of_lt hq,Nat.mul_comm];omega
theorem Ve {k:Nat} (hk:k<=31):∀c i:Nat,k<i+c->i<=k->pR (k:Int) c ((2 ^ i:Nat):Int) (i:Int)=some ((2 ^ k:Nat):Int):=by
 intro c
 induction c with
 | zero=>intro i h1 h2;omega
 | succ c ih=>
   intro i h1 h2;unfold pR
   by_cases h:i<k
   ·have hp:2 ^ (i+1)<=2 ^ 31:=Nat.pow_le_pow_right (by decide) (by omega);rw [if_pos (tA (by omega)),sD (x:=(i:Int)+1) (by unfold pW;omega),sD (x:=((2 ^ i:Nat):Int)*2) (by unfold pW;rw [Nat.pow_succ] at hp;omega),show ((i:Int)+1)=((i+1:Nat):Int) by omega,show (((2 ^ i:Nat):Int)*2)=((2 ^ (i+1):Nat):Int) by rw [Nat.pow_succ];omega];exact ih (i+1) (by omega) (by omega)
   ·rw [if_neg (by rw [sX];omega),show i=k by omega]
theorem Ov {k:Nat} (hk:k<=31) {n:Nat} (hn:40<=n):dA n (k:Int)=some ((2 ^ k:Nat):Int):=by
 unfold dA;have:=Ve hk n 0 (by omega) (by omega);rw [show ((2 ^ 0:Nat):Int)=1 from rfl,show ((0:Nat):Int)=0 from rfl] at this;rw [this];rfl
def Ff (x i:Nat):Nat:=(x*2 ^ i) % 4294967296+x / 2 ^ (32 - i)
theorem Rl {x i:Nat} (hi:i<=32):Ff x i=(x % 2 ^ (32 - i))*2 ^ i+x / 2 ^ (32 - i):=by
 unfold Ff;rw [show (4294967296:Nat)=2 ^ (32 - i)*2 ^ i by rw [←Nat.pow_add,show 32 - i+i=32 by omega],Nat.mul_mod_mul_right]
theorem On {x i:Nat} (hx:x<4294967296) (hi:i<=30):((Ff x i*2) % 4294967296+Ff x i / 2147483648) % 4294967296=Ff x (i+1):=by
 rw [Rl (by omega),Rl (by omega),show 32 - i=(31 - i)+1 by omega,show 32 - (i+1)=31 - i by omega,Nat.pow_succ,Nat.pow_succ];have hPQ:2 ^ (31 - i)*2 ^ i=2147483648:=by rw [←Nat.pow_add,show 31 - i+i=31 by omega]
 have hP:=Nat.two_pow_pos (31 - i);have hQ:=Nat.two_pow_pos i
 generalize 2 ^ (31 - i)=P at *
 generalize 2 ^ i=Q at *
 rw [Nat.mod_mul,←Nat.div_div_eq_div_mul];have hl:=Nat.mod_lt x hP
 have hc:x / P<2*Q:=by
  rw [Nat.div_lt_iff_lt_mul hP,Nat.mul_assoc,Nat.mul_comm Q P,hPQ];omega
 generalize x / P=c at *
 generalize x % P=l at *
 have hz:(l+1)*Q<=P*Q:=Uh Q hl;rw [hPQ,TV,Nat.one_mul] at hz
 have e1:(l+P*(c % 2))*Q=l*Q+2147483648*(c % 2):=by
  rw [TV,Nat.mul_right_comm,hPQ]
 have e2:l*(Q*2)=2*(l*Q):=by rw [←Nat.mul_assoc,Nat.mul_comm]
 rw [e1,e2];clear e1 e2
 generalize l*Q=z at *
 obtain ⟨b,hb⟩:∃b,c % 2=b:=⟨_,rfl⟩;obtain ⟨h,hh⟩:∃h,c / 2=h:=⟨_,rfl⟩;rw [hb,hh];have hch:c=2*h+b:=by omega
 have hb2:b<2:=by omega
 subst hch;clear hb hh;have k1:(z+2147483648*b+h) / 2147483648=b:=by omega
 have k2:(z+2147483648*b+h)*2 % 4294967296=2*(z+h):=by omega
 rw [k1,k2];omega
theorem Rk {x i:Nat} (hx:x<4294967296) (hi:i<=31):Ff x i<4294967296:=by
 cases i with
 | zero=>unfold Ff;simp only [Nat.sub_zero,Nat.reducePow];omega
 | succ i=>rw [←On hx (by omega)];omega
theorem Sl {x k:Nat} (hx:x<4294967296) (hk:k<=31):∀c i:Nat,k<i+c->i<=k->oS (k:Int) c ((Ff x i:Nat):Int) (i:Int)=some ((Ff x k:Nat):Int):=by
 intro c
 induction c with
 | zero=>intro i h1 h2;omega
 | succ c ih=>
   intro i h1 h2;unfold oS
   by_cases h:i<k
   ·have hs:=On hx (show i<=30 by omega);have hl:=Rk hx (show i<=31 by omega);rw [if_pos (tA (by omega)),sD (x:=(i:Int)+1) (by unfold pW;omega),show ((i:Int)+1)=((i+1:Nat):Int) by omega]
    have e:IntKind.u32.wrap (IntKind.u32.wrap (((Ff x i:Nat):Int)*2)+IntKind.u32.wrap (((Ff x i:Nat):Int).tdiv 2147483648))=((Ff x (i+1):Nat):Int):=by
     rw [TQ (by omega)];simp only [IntKind.wrap_u32];omega
    rw [e];exact ih (i+1) (by omega) (by omega)
   ·rw [if_neg (by rw [sX];omega),show i=k by omega]
theorem Ma {x k:Nat} (hx:x<4294967296) (hk:k<=31) {n:Nat} (hn:40<=n):fT n (x:Int) (k:Int)=some ((Ff x k:Nat):Int):=by
 unfold fT;have:=Sl hx hk n 0 (by omega) (by omega);rw [show Ff x 0=x by unfold Ff;simp only [Nat.sub_zero,Nat.reducePow];omega,show ((0:Nat):Int)=0 from rfl] at this;rw [this];rfl
theorem shl32 {x k:Nat} (hk:k<=31):Sy .u32 (x:Int) (k:Int)=(((x*2 ^ k) % 4294967296:Nat):Int):=by
 unfold Sy;rw [IntKind.wrap_u32,show min ((k:Int)).toNat IntKind.u32.bits=k by show min ((k:Int)).toNat 32=k;omega,Int.natCast_emod,Int.natCast_mul,Int.natCast_pow];rfl
theorem shr32 {x k:Nat} (hk:k<=32):Hi .u32 (x:Int) (k:Int)=((x / 2 ^ k:Nat):Int):=by
 unfold Hi;rw [xeg _ (Int.pow_nonneg (by decide)),show min ((k:Int)).toNat IntKind.u32.bits=k by show min ((k:Int)).toNat 32=k;omega,Int.natCast_ediv,Int.natCast_pow];rfl
theorem rot32 {x k:Nat} (hx:x<4294967296) (hk:k<=31):iZ (x:Int) (k:Int)=some ((Ff x k:Nat):Int):=by
 have e0:sJ .u64 (IntKind.u64.wrap (k:Int)) 31=(k:Int):=by
  rw [IntKind.wrap_u64,Int.emod_eq_of_lt (by omega) (by omega)];unfold sJ
  have e1:(BitVec.ofInt IntKind.u64.bits (k:Int)).toNat=k:=by
   show (BitVec.ofInt 64 (k:Int)).toNat=k;rw [BitVec.toNat_ofInt];omega
  rw [IntKind.wrap_u64,BitVec.toNat_and,e1,show (BitVec.ofInt IntKind.u64.bits (31:Int)).toNat=2 ^ 5 - 1 from rfl,Nat.and_two_pow_sub_one_eq_mod];omega
 unfold iZ;rw [e0,iR (by omega),IntKind.wrap_u64,show (32 - (k:Int)) % 18446744073709551616=((32 - k:Nat):Int) by omega,iR (by omega),shl32 hk,shr32 (by omega)]
 congr 1
 unfold Ff
 have hs:(x*2 ^ k) % 4294967296=(x % 2 ^ (32 - k))*2 ^ k:=by
  rw [show (4294967296:Nat)=2 ^ (32 - k)*2 ^ k by rw [←Nat.pow_add,show 32 - k+k=32 by omega],Nat.mul_mod_mul_right]
 have hq:x / 2 ^ (32 - k)<2 ^ k:=by
  rw [Nat.div_lt_iff_lt_mul (Nat.two_pow_pos _),←Nat.pow_add,show k+(32 - k)=32 by omega];exact hx
 have hsum:=Rk hx hk;unfold Ff at hsum;rw [hs] at hsum ⊢;exact or32 hq hsum
section
variable {x y:Int} (hx:pW x) (hy:pW y) {n:Nat} (hn:100<=n)
include hx hn
theorem TD {o:Int} (ho:o=3 ∨ o=4):gI n o x 0=some (IntKind.u32.wrap (1*(if o=3 then QG .u32 x else IntKind.u32.wrap (0 - x))),true):=by
 have key:∀e l:Int,((dA n ((0:Int).tmod 32)).bind λx8=>(dA n ((0:Int).tmod 32)).bind λx9=>(fT n x ((0:Int).tmod 32)).bind λx10=>fC (x9 ≠ (0:Int)) <|
   (aZ [(0:Int),(0:Int),(0:Int),(IntKind.u32.wrap ((4294967295:Int) - x)),(IntKind.u32.wrap ((0:Int) - x)),(Mn .u32 x 0),(IB .u32 x 0),(sJ .u32 x 0),e,l,(IntKind.u32.wrap (x*x8)),(IntKind.u32.wrap (x.tdiv x9)),x10,(IntKind.u32.wrap (x+0)),(IntKind.u32.wrap (x - 0)),(IntKind.u32.wrap (x*0))] o).bind λx16=>some (x16,true))=some (IntKind.u32.wrap (1*(if o=3 then QG .u32 x else IntKind.u32.wrap (0 - x))),true):=by
  intro e l;obtain ⟨h1,h2⟩:=hx;obtain ⟨x,rfl⟩:=Sd h1;rw [show (0:Int).tmod 32=((0:Nat):Int) from rfl,Ov (by omega) (by omega),Ma (by omega) (by omega) (by omega),dV,dV,dV,iR (by decide)]
  rcases ho with rfl | rfl
  ·show (some (IntKind.u32.wrap ((4294967295:Int) - x))).bind _=_;rw [if_pos rfl,com32 ⟨h1,h2⟩,dV,Int.one_mul]
  ·show (some (IntKind.u32.wrap ((0:Int) - x))).bind _=_;rw [if_neg (by decide),dV,Int.one_mul,sD (pW.wrap _)]
 unfold gI;rw [if_neg (by rw [sX];omega)]
 split <;> split <;> exact key _ _
include hy
theorem TC {o:Int} (h5:5<=o) (h17:o<=17):gI n o x y=fZ o x y:=by
 by_cases h16:16<=o
 ·unfold gI;rw [if_pos (tA h16)]
  by_cases hy0:y=0
  ·subst hy0;rw [if_pos (by rfl)];obtain rfl | rfl:o=16 ∨ o=17:=by omega
   ·rfl
   ·rfl
  ·rw [if_neg (by simpa using hy0)];obtain rfl | rfl:o=16 ∨ o=17:=by omega
   ·rw [if_pos (by rfl),iR hy0];unfold fZ;rw [if_neg (by decide),if_neg (by decide),if_neg (by decide),if_neg (by decide),if_neg (by decide),if_pos (by decide),if_neg (by simpa using hy0),iR hy0]
   ·rw [if_neg (by decide),iR hy0];unfold fZ;rw [if_neg (by decide),if_neg (by decide),if_neg (by decide),if_neg (by decide),if_neg (by decide),if_neg (by decide),if_pos (by decide),if_neg (by simpa using hy0),iR hy0]
    congr 2
    have w1:pW (x / y):=hx.div hy.1;have hm:=Int.emod_add_mul_ediv x y;have hm0:=Int.emod_nonneg x hy0;have hm1:=Int.emod_lt_of_pos x (show 0<y by have:=hy.1;omega);have hp:0<=y*(x / y):=Int.mul_nonneg hy.1 w1.1;obtain ⟨x1,x2⟩:=hx;have w2:pW (x / y*y):=by unfold pW;rw [Int.mul_comm];omega
    rw [TQ x1,xeb x1,sD w1,sD w2,sD (by unfold pW;rw [Int.mul_comm];omega),Int.mul_comm];omega
 ·have hm:=and31 hy;obtain ⟨k,hk⟩:∃k:Nat,y % 32=(k:Int):=⟨(y % 32).toNat,by have:=Int.emod_nonneg y (show (32:Int) ≠ 0 by decide);omega⟩;have hk31:k<=31:=by omega
  have key:∀(e l:Int),e=(if (x == y)=true then 1 else 0)->l=(if decide (x<y)=true then 1 else 0)->((dA n (y.tmod 32)).bind λx8=>(dA n (y.tmod 32)).bind λx9=>(fT n x (y.tmod 32)).bind λx10=>fC (x9 ≠ (0:Int)) <|
   (aZ [(0:Int),(0:Int),(0:Int),(IntKind.u32.wrap ((4294967295:Int) - x)),(IntKind.u32.wrap ((0:Int) - x)),(Mn .u32 x y),(IB .u32 x y),(sJ .u32 x y),e,l,(IntKind.u32.wrap (x*x8)),(IntKind.u32.wrap (x.tdiv x9)),x10,(IntKind.u32.wrap (x+y)),(IntKind.u32.wrap (x - y)),(IntKind.u32.wrap (x*y))] o).bind λx16=>some (x16,true))=fZ o x y:=by
   intro e l he hl;obtain ⟨h1,h2⟩:=hx;obtain ⟨x,rfl⟩:=Sd h1;have hp:(0:Int)<((2 ^ k:Nat):Int):=by have:=Nat.two_pow_pos k;omega
   rw [xeb hy.1,hk,Ov hk31 (by omega),Ma (by omega) hk31 (by omega),dV,dV,dV,iR (by omega)];obtain rfl | rfl | rfl | rfl | rfl | rfl | rfl | rfl | rfl | rfl | rfl:o=5 ∨ o=6 ∨ o=7 ∨ o=8 ∨ o=9 ∨ o=10 ∨ o=11 ∨ o=12 ∨ o=13 ∨ o=14 ∨ o=15:=by omega
   ·rfl
   ·rfl
   ·rfl
   ·show some (e,true)=_;unfold fZ;rw [uG,he];rfl
   ·show some (l,true)=_;unfold fZ;rw [uG,uG,hl];rfl
   ·show some (IntKind.u32.wrap ((x:Int)*((2 ^ k:Nat):Int)),true)=(mY 10 (x:Int) y).bind (λx16=>some (x16,true));unfold mY;rw [if_neg (by decide),if_neg (by decide),if_neg (by decide),if_pos (by decide),hm,hk,iR (by omega),dV,shl32 hk31,IntKind.wrap_u32,Int.natCast_emod,Int.natCast_mul];rfl
   ·show some (IntKind.u32.wrap ((x:Int).tdiv ((2 ^ k:Nat):Int)),true)=(mY 11 (x:Int) y).bind (λx16=>some (x16,true));unfold mY;have w:=pW.div (y:=((2 ^ k:Nat):Int)) ⟨h1,h2⟩ (by omega);rw [if_neg (by decide),if_neg (by decide),if_neg (by decide),if_neg (by decide),if_pos (by decide),hm,hk,iR (by omega),dV,shr32 (by omega),TQ h1,sD w,Int.natCast_ediv]
   ·show some (((Ff x k:Nat):Int),true)=(mY 12 (x:Int) y).bind (λx16=>some (x16,true));unfold mY;rw [if_neg (by decide),if_neg (by decide),if_neg (by decide),if_neg (by decide),if_neg (by decide),hm,hk,cG (n:=(k:Int)) (by omega) (by omega),rot32 (by omega) hk31];rfl
   ·rfl
   ·rfl
   ·rfl
  unfold gI;rw [if_neg (by rw [sX];exact h16)]
  split
  ·rename_i h
   split
   ·rename_i h';exact key 1 1 (by rw [if_pos h]) (by rw [if_pos h'])
   ·rename_i h';exact key 1 0 (by rw [if_pos h]) (by rw [if_neg h'])
  ·rename_i h
   split
   ·rename_i h';exact key 0 1 (by rw [if_neg h]) (by rw [if_pos h'])
   ·rename_i h';exact key 0 0 (by rw [if_neg h]) (by rw [if_neg h'])
end
theorem VY {k:Nat} {v:Int}:eA (k+2) ⟨1,v,[]⟩=some ⟨1,v,[]⟩:=rfl
theorem VX {k:Nat} {v:Int}:eA (k+2) ⟨2,v,[]⟩=some ⟨2,v,[]⟩:=rfl
theorem fold_un {k:Nat} {o:Int} {x r:aH} (ho:o=3 ∨ o=4) (h:eA (k+3) ⟨o,0,[x]⟩=some r):∃x',eA (k+2) x=some x'/\(Sh false x'->r=if x'.dR=1 then ⟨1,IntKind.u32.wrap (1*(if o=3 then QG .u32 x'.N_ else IntKind.u32.wrap (0 - x'.N_))),[]⟩ else ⟨o,0,[x']⟩):=by
 have h:jT (eA (k+2)) (k+2) ⟨o,0,[x]⟩=some r:=h;unfold jT iI at h;rw [if_pos (by simp)] at h;have ho2:(o != 2)=true:=by rcases ho with rfl | rfl <;> rfl
 have h:(((eA (k+2) x).bind λx20=>fC (0+1<=1073741824) <| (if (o != 2)=true then some (x20.dR == (1:Int)) else some false).bind λy26=>iI (eA (k+2)) ⟨o,0,[x]⟩ (k+1) y26 (IntKind.i64.wrap ((0:Int)+1)) ⟨o,0,[x20]⟩).bind λy8=>if (!y8.1)=true then some y8.2 else (jC (k+2) y8.2 []).bind λx38=>if x38.2=true then (Ah x38.1).bind λx41=>some x41 else some y8.2)=some r:=h;cases hx:eA (k+2) x with
 | none=>rw [hx] at h;cases h
 | some x'=>
   refine ⟨x',rfl,λhs=>?_⟩;rw [hx,dV,iR (by decide),ho2,if_pos rfl,dV,cG (by decide) (by decide)] at h;unfold iI at h;rw [if_neg (by simp),dV] at h
   by_cases h1:x'.dR=1
   ·obtain ⟨c,rfl,hc⟩:=hs.one h1;rw [if_pos rfl]
    rcases ho with rfl | rfl
    ·exact (aU h).symm
    ·exact (aU h).symm
   ·rw [if_neg h1];rw [if_pos (by simpa using h1)] at h;exact (aU h).symm
theorem VZ {k:Nat} {o:Int} {x y r:aH} (h5:5<=o) (h:eA (k+4) ⟨o,0,[x,y]⟩=some r):∃x' y',eA (k+3) x=some x'/\eA (k+3) y=some y'/\(Sh false x'->Sh false y'->(x'.dR=1/\y'.dR=1/\∃v ok,fZ o x'.N_ y'.N_=some (v,ok)/\r=if ok=true then ⟨1,v,[]⟩ else ⟨o,0,[x',y']⟩) ∨ (¬ (x'.dR=1/\y'.dR=1)/\r=⟨o,0,[x',y']⟩)):=by
 have h:jT (eA (k+3)) (k+3) ⟨o,0,[x,y]⟩=some r:=h;unfold jT iI at h;rw [if_pos (by simp)] at h;have ho2:(o != 2)=true:=by simp;omega
 have h:(((eA (k+3) x).bind λx20=>fC (0+1<=1073741824) <| (if (o != 2)=true then some (x20.dR == (1:Int)) else some false).bind λy26=>iI (eA (k+3)) ⟨o,0,[x,y]⟩ (k+2) y26 (IntKind.i64.wrap ((0:Int)+1)) ⟨o,0,[x20]⟩).bind λy8=>if (!y8.1)=true then some y8.2 else (jC (k+3) y8.2 []).bind λx38=>if x38.2=true then (Ah x38.1).bind λx41=>some x41 else some y8.2)=some r:=h;cases hx:eA (k+3) x with
 | none=>rw [hx] at h;cases h
 | some x'=>
   rw [hx,dV,iR (by decide),ho2,if_pos rfl,dV,cG (by decide) (by decide)] at h;unfold iI at h;rw [if_pos (by simp)] at h;have h:(((eA (k+3) y).bind λx20=>fC (1+1<=1073741824) <| (if (x'.dR == (1:Int))=true then some (x20.dR == (1:Int)) else some false).bind λy26=>iI (eA (k+3)) ⟨o,0,[x,y]⟩ (k+1) y26 (IntKind.i64.wrap ((0:Int)+1+1)) ⟨o,0,[x',x20]⟩).bind λy8=>if (!y8.1)=true then some y8.2 else (jC (k+3) y8.2 []).bind λx38=>if x38.2=true then (Ah x38.1).bind λx41=>some x41 else some y8.2)=some r:=h;cases hy:eA (k+3) y with
   | none=>rw [hy] at h;cases h
   | some y'=>
     refine ⟨x',y',rfl,rfl,λhs ht=>?_⟩;rw [hy,dV,iR (by decide),cG (by decide) (by decide)] at h
     have hb:(if (x'.dR == (1:Int))=true then some (y'.dR == (1:Int)) else some false)=some (decide (x'.dR=1/\y'.dR=1)):=by
      by_cases h1:x'.dR=1
      ·rw [if_pos (by simpa using h1)];congr 1;by_cases h2:y'.dR=1 <;> simp [h1,h2]
      ·rw [if_neg (by simpa using h1)];congr 1;simp [h1]
     rw [hb,dV] at h;unfold iI at h;rw [if_neg (by simp),dV] at h
     by_cases h1:x'.dR=1/\y'.dR=1
     ·rw [if_neg (by simp [h1])] at h;obtain ⟨c,rfl,hc⟩:=hs.one h1.1;obtain ⟨d,rfl,hd⟩:=ht.one h1.2;refine .inl ⟨rfl,rfl,?_⟩;have he:jC (k+3) ⟨o,0,[⟨1,c,[]⟩,⟨1,d,[]⟩]⟩ []=(fZ o c d).bind λx32=>some (x32.1,x32.2):=rfl;have h:((jC (k+3) ⟨o,0,[⟨1,c,[]⟩,⟨1,d,[]⟩]⟩ []).bind λx38=>if x38.2=true then (Ah x38.1).bind λx41=>some x41 else some (⟨o,0,[⟨1,c,[]⟩,⟨1,d,[]⟩]⟩:aH))=some r:=h;rw [he] at h;cases hv:fZ o c d with
      | none=>rw [hv] at h;cases h
      | some w=>
        rw [hv,dV,dV] at h;refine ⟨w.1,w.2,rfl,?_⟩;cases hw:w.2 with
        | true=>rw [hw] at h;exact (aU h).symm
        | false=>rw [hw] at h;exact (aU h).symm
     ·rw [if_pos (by simp only [Sc h1,Bool.not_false])] at h;exact .inr ⟨h1,(aU h).symm⟩
theorem Dn {α:Type} {pre l:List α} {a:α}:aZ (pre++a::l) (pre.length:Int)=some a:=oY (by rw [Lx (sZ _),xdx];rfl)
theorem Qt {t:aH}:aZ (nd t) 0=some ⟨t.dR,t.N_,(t.aL.length:Int)⟩:=by rw [ndq];rfl
theorem fold_nd {t:aH} (h:Sh false t):∀(n m:Nat) (pre suf:List NN) (r:aH),tm t+20<n->tm t+200<m->pre.length+tm t+suf.length<=100000000->eA n t=some r->iW m (pre++(nd t++suf)) (pre.length:Int)=some (nd r,((pre.length+tm t:Nat):Int)):=by
 have hF:∀ {t r:aH} {n:Nat},Sh false t->tm t+20<n->eA n t=some r->Sh false r/\tm r<=tm t:=λht hn hr=>by
  obtain ⟨r',e,h1,h2⟩:=Pl ht _ hn;rw [hr] at e;rw [←aU e] at h1 h2;exact ⟨h1,h2⟩
 induction h with
 | z e=>cases e
 | @con v c1 c2=>
   intro n m pre suf r hn hm hl hr;rw [tm,pO] at hn hm hl;obtain ⟨n,rfl⟩:∃k,n=k+2:=⟨n - 2,by omega⟩;obtain ⟨m,rfl⟩:∃k,m=k+1:=⟨m - 1,by omega⟩;rw [VY] at hr;rw [←aU hr,HD,Pv];show eU (iW m) m _ _=_;unfold eU;rw [Dn,dV,if_pos (by rfl),cG (by omega) (by omega),tm,pO]
   congr 1
 | @var v c1 c2=>
   intro n m pre suf r hn hm hl hr;rw [tm,pO] at hn hm hl;obtain ⟨n,rfl⟩:∃k,n=k+2:=⟨n - 2,by omega⟩;obtain ⟨m,rfl⟩:∃k,m=k+1:=⟨m - 1,by omega⟩;rw [VX] at hr;rw [←aU hr,KE,Pv];show eU (iW m) m _ _=_;unfold eU;rw [Dn,dV,if_pos (by rfl),cG (by omega) (by omega),tm,pO]
   congr 1
 | @un o x ho hx ih=>
   intro n m pre suf r hn hm hl hr;rw [tm,pO,pO] at hn hm hl;obtain ⟨n,rfl⟩:∃k,n=k+3:=⟨n - 3,by omega⟩;obtain ⟨m,rfl⟩:∃k,m=k+1:=⟨m - 1,by omega⟩;obtain ⟨x',e1,e2⟩:=fold_un ho hr;obtain ⟨s1,s2⟩:=hF hx (by omega) e1;have e2:=e2 s1;have hi:=ih (n+2) m (pre++[⟨o,0,1⟩]) suf x' (by omega) (by omega) (by rw [mX,sW];omega) e1;have hz:tm (⟨o,0,[x]⟩:aH)=1+(tm x+0):=by rw [tm,pO,pO]
   rw [Gb,Pv,mX,sW] at hi;rw [OD,LV];show eU (iW m) m _ _=_;unfold eU;rw [Dn,dV,if_neg (by rw [sX];simp only;omega),cG (by omega) (by omega),show ((pre.length:Int)+1)=((pre.length+1:Nat):Int) by omega,hi,dV,if_pos (tA (by simp only;omega)),Qt,dV,hz,show pre.length+1+tm x=pre.length+(1+(tm x+0)) by omega]
   by_cases h1:x'.dR=1
   ·rw [if_pos h1] at e2;obtain ⟨c,rfl,hc⟩:=s1.one h1;rw [if_pos (by rfl),TD hc (by omega) ho,dV,e2,HD,HD]
   ·rw [if_neg h1] at e2;have hn':=wK x';rw [if_neg (by simpa using h1),iR (by simp only [sW];omega),e2,OD];rfl
 | @bin o x y h5 h17 hx hy i1 i2=>
   intro n m pre suf r hn hm hl hr;rw [tm,pO,pO,pO] at hn hm hl;obtain ⟨n,rfl⟩:∃k,n=k+4:=⟨n - 4,by omega⟩;obtain ⟨m,rfl⟩:∃k,m=k+1:=⟨m - 1,by omega⟩;obtain ⟨x',y',e1,e2,e3⟩:=VZ h5 hr;obtain ⟨s1,s2⟩:=hF hx (by omega) e1;obtain ⟨t1,t2⟩:=hF hy (by omega) e2;have e3:=e3 s1 t1;have hnx:=wK x;have hny:=wK y;have hnx':=wK x';have hny':=wK y';have hi:=i1 (n+3) m (pre++[⟨o,0,2⟩]) (nd y++suf) x' (by omega) (by omega) (by rw [mX,mX,sW];omega) e1;have hj:=i2 (n+3) m (pre++[⟨o,0,2⟩]++nd x) suf y' (by omega) (by omega) (by rw [mX,mX,sW];omega) e2;have hz:tm (⟨o,0,[x,y]⟩:aH)=1+(tm x+(tm y+0)):=by rw [tm,pO,pO,pO]
   rw [Gb,Pv,mX,sW] at hi;rw [Gb,Gb,Pv,mX,mX,sW,hnx] at hj;rw [KF,LV,Gb];show eU (iW m) m _ _=_;unfold eU;rw [Dn,dV,if_neg (by rw [sX];simp only;omega),cG (by omega) (by omega),show ((pre.length:Int)+1)=((pre.length+1:Nat):Int) by omega,hi,dV,if_neg (by rw [sX];simp only;omega)];simp only;rw [hj,dV,Qt,dV,Qt];simp only [dV];rw [hz,show pre.length+1+tm x+tm y=pre.length+(1+(tm x+(tm y+0))) by omega]
   have hb:(if (x'.dR == (1:Int))=true then some (y'.dR == (1:Int)) else some false)=some (decide (x'.dR=1/\y'.dR=1)):=by
    by_cases h1:x'.dR=1
    ·rw [if_pos (by simpa using h1)];congr 1;by_cases h2:y'.dR=1 <;> simp [h1,h2]
    ·rw [if_neg (by simpa using h1)];congr 1;simp [h1]
   rw [hb,dV]
   have hrest:(fC ([(⟨o,0,2⟩:NN)].length+(nd x').length<=1073741824) <| fC (([(⟨o,0,2⟩:NN)]++nd x').length+(nd y').length<=1073741824) <| some ((([(⟨o,0,2⟩:NN)]++nd x')++nd y'),((pre.length+(1+(tm x+(tm y+0))):Nat):Int)))=some (nd ⟨o,0,[x',y']⟩,((pre.length+(1+(tm x+(tm y+0))):Nat):Int)):=by
    rw [iR (by simp only [sW];omega),iR (by simp only [mX,sW];omega),KF,Gb];rfl
   rcases e3 with ⟨g1,g2,v,ok,g3,g4⟩ | ⟨g1,g2⟩
   ·obtain ⟨c,rfl,hc⟩:=s1.one g1;obtain ⟨d,rfl,hd⟩:=t1.one g2;rw [if_pos (by simp),TC hc hd (by omega) h5 h17];have g3:fZ o c d=some (v,ok):=g3;rw [g3,dV];cases ok with
    | true=>rw [if_pos rfl,g4,if_pos rfl,HD]
    | false=>rw [if_neg (by simp),g4,if_neg (by decide)];exact hrest
   ·rw [if_neg (by rw [sX];exact g1),g2];exact hrest
theorem SZ {o:Int} (h5:5<=o) (h17:o<=17) {a b s:bF} (ha:yS a) (hb:yS b) (h:uU o a b=some s):nS o a.fS a.cB b.fS b.cB=some (s.fS,s.cB):=by
 obtain ⟨⟨al0,al1⟩,⟨ah0,ah1⟩,ale⟩:=ha;obtain ⟨⟨bl0,bl1⟩,⟨bh0,bh1⟩,ble⟩:=hb;have u64:∀x:Int,0<=x->x<=18446744073709551615->IntKind.u64.wrap x=x:=λx h1 h2=>by rw [IntKind.wrap_u64];omega
 have nn:∀ {α:Type} (x:α) (z:Bool),(if z=true then x else x)=x:=λx z=>by split <;> rfl
 have all:∀h:some (bF.mk 0 4294967295)=some s,(if (b.cB == (0:Int))=true then some ((0:Int),(4294967295:Int)) else some ((0:Int),(4294967295:Int)))=some (s.fS,s.cB):=λh=>by
  rw [←aU h,nn]
 have ho:o=5 ∨ o=6 ∨ o=10 ∨ o=12 ∨ o=7 ∨ o=8 ∨ o=9 ∨ o=11 ∨ o=13 ∨ o=14 ∨ o=15 ∨ o=16 ∨ o=17:=by omega
 clear h5 h17
 rcases ho with rfl | rfl | rfl | rfl | rfl | rfl | rfl | rfl | rfl | rfl | rfl | rfl | rfl
 ·exact all h
 ·exact all h
 ·exact all h
 ·exact all h
 ·have h:some (bF.mk 0 (min a.cB b.cB))=some s:=h;rw [←aU h];show (eP a.cB b.cB).bind (λx2=>some ((0:Int),x2))=_;unfold eP
  by_cases hc:a.cB<b.cB
  ·rw [if_pos (tA hc),dV];simp only;rw [Int.min_eq_left (by omega)]
  ·rw [if_neg (by rw [sX];exact hc),dV];simp only;rw [Int.min_eq_right (by omega)]
 ·have h:some (bF.mk 0 1)=some s:=h;rw [←aU h];show (if (b.cB == (0:Int))=true then some ((0:Int),(1:Int)) else some ((0:Int),(1:Int)))=_;rw [nn]
 ·have h:some (bF.mk 0 1)=some s:=h;rw [←aU h];show (if (b.cB == (0:Int))=true then some ((0:Int),(1:Int)) else some ((0:Int),(1:Int)))=_;rw [nn]
 ·have h:some (bF.mk 0 a.cB)=some s:=h;rw [←aU h];show (if (b.cB == (0:Int))=true then some ((0:Int),a.cB) else some ((0:Int),a.cB))=_;rw [nn]
 ·have h:(BK a b).bind (λx8=>some x8)=some s:=h;unfold BK at h;rw [RS ⟨al0,al1⟩ ⟨bl0,bl1⟩,RS ⟨ah0,ah1⟩ ⟨bh0,bh1⟩,dV,dV] at h;show (some (decide (IntKind.u64.wrap (a.cB+b.cB)<=4294967295))).bind (λy4=>if y4=true then some ((IntKind.u64.wrap (a.fS+b.fS)),(IntKind.u64.wrap (a.cB+b.cB))) else if (b.cB == (0:Int))=true then some ((0:Int),(4294967295:Int)) else some ((0:Int),(4294967295:Int)))=_;rw [u64 _ (by omega) (by omega),dV]
  by_cases hc:a.cB+b.cB<=4294967295
  ·rw [if_neg (by simp;omega),dV] at h;rw [if_pos (tA hc),←aU h,u64 _ (by omega) (by omega)];simp only
   congr 2 <;> omega
  ·rw [if_pos (by simp;omega),dV] at h;rw [if_neg (by rw [sX];exact hc)];exact all h
 ·show (some (decide (b.cB<=a.fS))).bind (λy10=>if y10=true then some ((IntKind.u64.wrap (a.fS - b.cB)),(IntKind.u64.wrap (a.cB - b.fS))) else if (b.cB == (0:Int))=true then some ((0:Int),(4294967295:Int)) else some ((0:Int),(4294967295:Int)))=_;have h:(if decide (b.cB<=a.fS)=true then some (bF.mk (IntKind.u32.wrap (a.fS - b.cB)) (IntKind.u32.wrap (a.cB - b.fS))) else some (bF.mk 0 4294967295))=some s:=h;rw [dV]
  by_cases hc:b.cB<=a.fS
  ·rw [if_pos (tA hc)] at h ⊢;rw [←aU h];simp only [IntKind.wrap_u32,IntKind.wrap_u64]
   congr 2 <;> omega
  ·rw [if_neg (by rw [sX];exact hc)] at h ⊢;exact all h
 ·have h:(tR a b).bind (λx13=>some x13)=some s:=h;unfold tR at h;rw [mul32 ⟨ah0,ah1⟩ ⟨bh0,bh1⟩,dV] at h;show (some (decide (IntKind.u64.wrap (a.cB*b.cB)<=4294967295))).bind (λy16=>if y16=true then some ((IntKind.u64.wrap (a.fS*b.fS)),(IntKind.u64.wrap (a.cB*b.cB))) else if (b.cB == (0:Int))=true then some ((0:Int),(4294967295:Int)) else some ((0:Int),(4294967295:Int)))=_;have m2:a.cB*b.cB<=4294967295*4294967295:=Int.mul_le_mul ah1 bh1 bh0 (by decide);have m1:0<=a.cB*b.cB:=Int.mul_nonneg ah0 bh0;have m3:0<=a.fS*b.fS:=Int.mul_nonneg al0 bl0;have m4:a.fS*b.fS<=a.cB*b.cB:=Int.mul_le_mul ale ble bl0 ah0;rw [u64 _ m1 (by omega),u64 _ m3 (by omega),dV];simp only [IntKind.wrap_u32] at h
  generalize a.cB*b.cB=p at *
  generalize a.fS*b.fS=q at *
  by_cases hc:p<=4294967295
  ·rw [if_neg (by rw [sX];omega),dV] at h;rw [if_pos (tA hc),←aU h];simp only
   congr 2 <;> omega
  ·rw [if_pos (tA (by omega)),dV] at h;rw [if_neg (by rw [sX];exact hc)];exact all h
 ·have h:(fC ((max b.cB (1:Int)) ≠ (0:Int)) <| fC ((max b.fS (1:Int)) ≠ (0:Int)) <| some (bF.mk (IntKind.u32.wrap (a.fS.tdiv (max b.cB (1:Int)))) (IntKind.u32.wrap (a.cB.tdiv (max b.fS (1:Int))))))=some s:=h;rw [iR (by omega),iR (by omega)] at h;have w1:∀d:Int,0<=d->pW (a.fS / d):=λd hd=>pW.div ⟨al0,al1⟩ hd;have w2:∀d:Int,0<=d->pW (a.cB / d):=λd hd=>pW.div ⟨ah0,ah1⟩ hd;have v1:∀d:Int,0<=d->IntKind.u64.wrap (a.fS / d)=a.fS / d:=λd hd=>u64 _ (w1 d hd).1 (by have:=(w1 d hd).2;omega);have v2:∀d:Int,0<=d->IntKind.u64.wrap (a.cB / d)=a.cB / d:=λd hd=>u64 _ (w2 d hd).1 (by have:=(w2 d hd).2;omega);simp only [TQ al0,TQ ah0] at h;rw [sD (w1 _ (by omega)),sD (w2 _ (by omega))] at h;rw [←aU h];show (if (b.cB == (0:Int))=true then (some (b.fS == (0:Int))).bind (λy30=>if y30=true then some ((IntKind.u64.wrap (a.fS.tdiv (1:Int))),a.cB) else fC (b.fS ≠ (0:Int)) <| some ((IntKind.u64.wrap (a.fS.tdiv (1:Int))),(IntKind.u64.wrap (a.cB.tdiv b.fS)))) else (some (b.fS == (0:Int))).bind (λy48=>if y48=true then fC (b.cB ≠ (0:Int)) <| some ((IntKind.u64.wrap (a.fS.tdiv b.cB)),a.cB) else fC (b.cB ≠ (0:Int)) <| fC (b.fS ≠ (0:Int)) <| some ((IntKind.u64.wrap (a.fS.tdiv b.cB)),(IntKind.u64.wrap (a.cB.tdiv b.fS)))))=_;simp only [TQ al0,TQ ah0,dV]
  by_cases hb0:b.cB=0
  ·have hl0:b.fS=0:=by omega
   rw [if_pos (by simpa using hb0),if_pos (by simpa using hl0),hb0,hl0,v1 _ (by decide),show max (0:Int) 1=1 from rfl,Int.ediv_one,Int.ediv_one]
  ·rw [if_neg (by simpa using hb0)];have hm:max b.cB 1=b.cB:=by omega
   rw [hm]
   by_cases hl0:b.fS=0
   ·rw [if_pos (by simpa using hl0),iR hb0,hl0,v1 _ (by omega),show max (0:Int) 1=1 from rfl,Int.ediv_one]
   ·rw [if_neg (by simpa using hl0),iR hb0,iR hl0,v1 _ (by omega),v2 _ (by omega),show max b.fS 1=b.fS by omega]
 ·have h:some (bF.mk 0 (min a.cB (IntKind.u32.wrap ((max b.cB (1:Int)) - (1:Int)))))=some s:=h;rw [sD (by unfold pW;omega)] at h;rw [←aU h];show (if (b.cB == (0:Int))=true then (eP a.cB (IntKind.u64.wrap ((1:Int) - (1:Int)))).bind (λx39=>some ((0:Int),x39)) else (eP a.cB (IntKind.u64.wrap (b.cB - (1:Int)))).bind (λx59=>some ((0:Int),x59)))=_
  have hle:∀p q:Int,eP p q=some (min p q):=λp q=>by
   unfold eP
   by_cases hc:p<q
   ·rw [if_pos (tA hc),Int.min_eq_left (by omega)]
   ·rw [if_neg (by rw [sX];exact hc),Int.min_eq_right (by omega)]
  rw [hle,hle,dV,dV]
  by_cases hb0:b.cB=0
  ·rw [if_pos (by simpa using hb0),hb0];rfl
  ·rw [if_neg (by simpa using hb0),u64 _ (by omega) (by omega),show max b.cB 1=b.cB by omega]
theorem Ri {t:aH} (h:Sh false t) {lo hi:List Int} (hl:Ba lo) (hh:Ba hi) (ho:OL lo hi):∀(n m:Nat) (pre suf:List NN) (s:bF),tm t<n->tm t<m->pre.length+tm t+suf.length<=100000000->pJ n t lo hi=some s->gU m (pre++(nd t++suf)) (pre.length:Int) lo hi=some (s.fS,s.cB,((pre.length+tm t:Nat):Int)):=by
 have u64:∀x:Int,pW x->IntKind.u64.wrap x=x:=λx ⟨h1,h2⟩=>by rw [IntKind.wrap_u64];omega
 have hR:∀ {t:aH} {n:Nat} {s:bF},Sh false t->tm t<n->pJ n t lo hi=some s->yS s:=λht hn hr=>by
  obtain ⟨s',e,h1,_⟩:=HU ht hl hh ho _ hn;rw [hr] at e;rw [←aU e] at h1;exact h1
 induction h with
 | z e=>cases e
 | @con v c1 c2=>
   intro n m pre suf s hn hm hz hr;rw [tm,pO] at hn hm hz;obtain ⟨n,rfl⟩:∃k,n=k+1:=⟨n - 1,by omega⟩;obtain ⟨m,rfl⟩:∃k,m=k+1:=⟨m - 1,by omega⟩;have hr:some (bF.mk v v)=some s:=hr;rw [←aU hr,HD,Pv];show eT (gU m) m _ _ _ _=_;unfold eT;rw [Dn,dV,if_pos (by rfl),cG (by omega) (by omega),u64 _ ⟨c1,c2⟩,tm,pO];rfl
 | @var q c1 c2=>
   intro n m pre suf s hn hm hz hr;rw [tm,pO] at hn hm hz;obtain ⟨n,rfl⟩:∃k,n=k+1:=⟨n - 1,by omega⟩;obtain ⟨m,rfl⟩:∃k,m=k+1:=⟨m - 1,by omega⟩;have hr:((Ag lo q 0).bind λx5=>(Ag hi q 4294967295).bind λx6=>some (bF.mk x5 x6))=some s:=hr;rw [KE,Pv];show eT (gU m) m _ _ _ _=_;unfold eT;rw [Dn,dV,if_neg (by simp),if_pos (by rfl)];simp only;unfold Ag at hr;rw [cG (n:=q) (by omega) (by omega)] at hr ⊢;rw [cG (n:=(pre.length:Int)+1) (by omega) (by omega),tm,pO]
   by_cases hq1:q<(lo.length:Int)
   ·obtain ⟨x,hx,hxw⟩:=hl.tot c1 hq1;rw [if_pos (tA hq1),hx,dV,dV] at hr;rw [if_pos (tA hq1),hx,dV,u64 _ hxw]
    by_cases hq2:q<(hi.length:Int)
    ·obtain ⟨y,hy,hyw⟩:=hh.tot c1 hq2;rw [if_pos (tA hq2),hy,dV,dV] at hr;rw [if_pos (tA hq2),hy,dV,u64 _ hyw,←aU hr];rfl
    ·rw [if_neg (by rw [sX];exact hq2),dV] at hr;rw [if_neg (by rw [sX];exact hq2),←aU hr];rfl
   ·rw [if_neg (by rw [sX];exact hq1),dV] at hr;rw [if_neg (by rw [sX];exact hq1)]
    by_cases hq2:q<(hi.length:Int)
    ·obtain ⟨y,hy,hyw⟩:=hh.tot c1 hq2;rw [if_pos (tA hq2),hy,dV,dV] at hr;rw [if_pos (tA hq2),hy,dV,u64 _ hyw,←aU hr];rfl
    ·rw [if_neg (by rw [sX];exact hq2),dV] at hr;rw [if_neg (by rw [sX];exact hq2),←aU hr];rfl
 | @un o x hop hx ih=>
   intro n m pre suf s hn hm hz hr;rw [tm,pO,pO] at hn hm hz;obtain ⟨n,rfl⟩:∃k,n=k+1:=⟨n - 1,by omega⟩;obtain ⟨m,rfl⟩:∃k,m=k+1:=⟨m - 1,by omega⟩;have hr:some (bF.mk 0 4294967295)=some s:=by rw [←hr];rcases hop with rfl | rfl <;> rfl
   obtain ⟨s',e,_⟩:=HU hx hl hh ho (tm x+1) (by omega);have hi':=ih (tm x+1) m (pre++[⟨o,0,1⟩]) suf s' (by omega) (by omega) (by rw [mX,sW];omega) e;rw [Gb,Pv,mX,sW] at hi';have hzt:tm (⟨o,0,[x]⟩:aH)=1+(tm x+0):=by rw [tm,pO,pO]
   rw [OD,LV,hzt];show eT (gU m) m _ _ _ _=_;unfold eT;rw [Dn,dV,if_neg (by rw [beq_iff_eq];simp only;omega),if_neg (by rw [beq_iff_eq];simp only;omega),cG (by omega) (by omega),show ((pre.length:Int)+1)=((pre.length+1:Nat):Int) by omega,hi',dV,if_pos (tA (by simp only;omega)),←aU hr,show pre.length+1+tm x=pre.length+(1+(tm x+0)) by omega]
 | @bin o x y h5 h17 hx hy i1 i2=>
   intro n m pre suf s hn hm hz hr;rw [tm,pO,pO,pO] at hn hm hz;obtain ⟨n,rfl⟩:∃k,n=k+1:=⟨n - 1,by omega⟩;obtain ⟨m,rfl⟩:∃k,m=k+1:=⟨m - 1,by omega⟩;have hr:lS (pJ n) n ⟨o,0,[x,y]⟩ lo hi=some s:=hr;unfold lS at hr;rw [if_neg (by rw [beq_iff_eq];simp only;omega),if_neg (by rw [beq_iff_eq];simp only;omega),if_neg (by rw [beq_iff_eq];simp only;omega),if_neg (by rw [beq_iff_eq];simp only;omega),DX,dV] at hr;obtain ⟨a,ea,hr⟩:=aF hr;obtain ⟨y',ey,hr⟩:=aF hr;obtain rfl:y=y':=aU ey;obtain ⟨b,eb',hr⟩:=aF hr;obtain ⟨s',es,hr⟩:=aF hr;obtain rfl:=aU hr;have hnx:=wK x;have hny:=wK y;have hi':=i1 n m (pre++[⟨o,0,2⟩]) (nd y++suf) a (by omega) (by omega) (by rw [mX,mX,sW];omega) ea;have hj':=i2 n m (pre++[⟨o,0,2⟩]++nd x) suf b (by omega) (by omega) (by rw [mX,mX,sW];omega) eb';have hzt:tm (⟨o,0,[x,y]⟩:aH)=1+(tm x+(tm y+0)):=by rw [tm,pO,pO,pO]
   rw [Gb,Pv,mX,sW] at hi';rw [Gb,Gb,Pv,mX,mX,sW,hnx] at hj';rw [KF,LV,Gb,hzt];show eT (gU m) m _ _ _ _=_;unfold eT;rw [Dn,dV,if_neg (by rw [beq_iff_eq];simp only;omega),if_neg (by rw [beq_iff_eq];simp only;omega),cG (by omega) (by omega),show ((pre.length:Int)+1)=((pre.length+1:Nat):Int) by omega,hi',dV,if_neg (by rw [sX];simp only;omega)];simp only;rw [hj',dV,SZ h5 h17 (hR hx (by omega) ea) (hR hy (by omega) eb') es,dV,show pre.length+1+tm x+tm y=pre.length+(1+(tm x+(tm y+0))) by omega]
def NOk (x:NN):Prop:=1<=x.dR/\x.dR<=17/\mI x.dR=some x.Ll/\0<=x.Ll/\(2<x.dR->x.jO=0)/\(x.dR=2->x.jO<=255)
theorem nd_ok {t:aH} (h:Sh false t):∀x ∈ nd t,NOk x:=by
 induction h with
 | z e=>cases e
 | con=>rw [HD];intro x hx;rw [AV.1 hx];exact ⟨by simp only;decide,by simp only;decide,rfl,by simp only;decide,λh=>absurd h (by simp only;decide),λh=>absurd h (by simp only;decide)⟩
 | var h1 h2=>rw [KE];intro x hx;rw [AV.1 hx];exact ⟨by simp only;decide,by simp only;decide,rfl,by simp only;decide,λh=>absurd h (by simp only;decide),λ_=>h2⟩
 | @un o x ho _ ih=>
   rw [OD];intro y hy
   rcases ES.1 hy with rfl | hy
   ·refine ⟨by simp only;omega,by simp only;omega,?_,by simp only;decide,λ_=>rfl,λh=>absurd h (by simp only;omega)⟩
    rcases ho with rfl | rfl <;> rfl
   ·exact ih y hy
 | @bin o x z h5 h17 _ _ i1 i2=>
   rw [KF];intro y hy
   rcases ES.1 hy with rfl | hy
   ·refine ⟨by simp only;omega,by simp only;omega,?_,by simp only;decide,λ_=>rfl,λh=>absurd h (by simp only;omega)⟩;unfold mI;rw [if_neg (by rw [sX];simp only;omega),Sc (by simp only;omega),dV,if_neg (by decide),if_neg (by rw [sX];simp only;omega),if_neg (by rw [sX];simp only;omega)]
   ·rcases Cu.1 hy with hy | hy
    ·exact i1 y hy
    ·exact i2 y hy
theorem UW {l:List NN} (h:∀x ∈ l,NOk x) (hl:l.length<=100000):∀k v:Nat,l.length<v+k->v<=l.length->kG l k (v:Int)=some (.inl ()):=by
 intro k
 induction k with
 | zero=>intro v h1 h2;omega
 | succ k ih=>
   intro v h1 h2;unfold kG
   by_cases hv:v<l.length
   ·obtain ⟨n1,n2,n3,n4,n5,n6⟩:=h _ (LU hv)
    have hb:(if (l[v].dR == (2:Int))=true then some (decide ((255:Int)<l[v].jO)) else some false)=some false:=by
     by_cases h:l[v].dR=2
     ·rw [if_pos (by simpa using h),Sc (by have:=n6 h;omega)]
     ·rw [if_neg (by simpa using h)]
    rw [if_pos (tA (by omega)),oY (wB hv),dV,n3,dV,if_neg (by rw [sX];omega),dV,if_neg (by simp),hb]
    have hc:(if (decide ((2:Int)<l[v].dR))=true then (if (l[v].jO != (0:Int))=true then some true else some false) else some false)=some false:=by
     by_cases h:2<l[v].dR
     ·rw [if_pos (tA h),n5 h];rfl
     ·rw [if_neg (by rw [sX];exact h)]
    rw [hc,dV,if_neg (by decide),cG (n:=(v:Int)+1) (by omega) (by omega),show ((v:Int)+1)=((v+1:Nat):Int) by omega];exact ih (v+1) (by omega) (by omega)
   ·rw [if_neg (by rw [sX];omega)]
theorem UV {t:aH} (h:Sh false t) (hz:tm t<=2000) {n:Nat} (hn:100000<=n):mJ n (nd t)=some true:=by
 unfold mJ;have hl:=wK t;have:=UW (nd_ok h) (by omega) n 0 (by omega) (Jc _);rw [show ((0:Nat):Int)=0 from rfl] at this;rw [this,dV];show some (decide (((nd t).length:Int)<=16384))=_;rw [tA (by omega)]
structure Ub (b:aP) (y:aN):Prop where
 t:b.cQ=y.c_.aX.map PB
 lo:b.fS=y.c_.oO
 hi:b.cB=y.c_.jQ
section
variable {vs:List aJ} {sc:List Int} {b:aP} {y:aN} {x:aD}
theorem Vl (hT:zF false vs sc y.c_.aX) (hb:Ub b y) (h:Hx vs sc x) (hx:xz x<=50000000) (hz:tm (DA y.c_.aX x)<=2000) {n m:Nat} {t:aH} (hn:100003000<n) (hm:100000000<=m) (hf:eA n (DA y.c_.aX x)=some t):fI m b x=some (nd t):=by
 have hs:=(IL (c:=y.c_) hT h).1;have hl:=wK (DA y.c_.aX x);have hp:=Kk (DA y.c_.aX x);have hfd:=fold_nd hs n m [] [] t (by omega) (by omega) (by simp only [sY];omega) hf;rw [Ga,Dh,sY,show ((0:Nat):Int)=0 from rfl] at hfd;unfold fI;rw [put_eq hT hb.t h m (by omega) (by omega),dV,if_neg (by rw [beq_iff_eq];omega),UV hs hz (by omega),dV,dV,if_neg (by decide),hfd];rfl
theorem Rq (hT:zF false vs sc y.c_.aX) (h:Hx vs sc x) (hx:xz x<=50000000) (hz:tm (DA y.c_.aX x)<=2000) (hw:WL y) {n:Nat} (hn:100003000<n) {s1:Int × Int} (hs:eG n y.c_ x=some s1):∃t s,eA n (DA y.c_.aX x)=some t/\Sh false t/\tm t<=2000/\pJ n t y.c_.oO y.c_.jQ=some s/\s1=(s.fS,s.cB)/\yS s:=by
 obtain ⟨r,e,hr⟩:=QT (n:=n) hT h (by omega) (by omega)
 rcases hr with ⟨r1,r2,r3,r4,r5⟩ | ⟨_,r2,_⟩
 ·obtain ⟨s,e6,e7,_⟩:=HU r4 hw.1 hw.2.1 hw.2.2 n (by omega);refine ⟨r.1,s,r3,r4,r5,e6,?_,e7⟩;unfold eG zU at hs;rw [e,dV,if_neg (by simp [r1]),e6] at hs;exact (aU hs).symm
 ·omega
end
def BX:Lj:=λss y r=>∀(b:aP),Ub b y->∀(m:Nat) (full:List aA) (k v:Nat),full.drop v=ss->v<=full.length->full.length<=100000000->ss.length<k->100000000+uN ss<=m->uN ss<=100000000->∃b',Ub b' r/\dM (dQ m) m full k (v:Int) b=some (.inl b')
theorem BX.blk {ss:List aA} {y r:aN} (h:BX ss y r) {b:aP} (hb:Ub b y) {m:Nat} (hm:100000001+uN ss<=m) (hz:uN ss<=100000000):∃b',Ub b' r/\dQ m b ss=some (true,b'):=by
 obtain ⟨m,rfl⟩:∃k,m=k+1:=⟨m - 1,by omega⟩;have hl:=GN ss;obtain ⟨b',k1,k2⟩:=h b hb m ss m 0 rfl (Jc _) (by omega) (by omega) (by omega) hz;rw [show ((0:Nat):Int)=0 from rfl] at k2;refine ⟨b',k1,?_⟩;show jK (dQ m) m b ss=_;unfold jK;rw [k2];rfl
theorem bnil {m:Nat} {b:aP}:dQ (m+2) b []=some (true,b):=rfl
abbrev BkF:=aP->List aA->Option (Bool × aP)
def Fz (f:BkF) (s:aA) (b:aP):Option (Bool × aP):=
 (f b s.bH).bind λx59=>if (!x59.1)=true then some (true,x59.2) else (f x59.2 s.eN).bind λx62=>some ((!x62.1),x62.2)
theorem IQ {f:BkF} {s:aA} {b c d:aP} (h1:f b s.bH=some (true,c)) (h2:f c s.eN=some (true,d)):Fz f s b=some (false,d):=by
 unfold Fz;rw [h1,dV,if_neg (by simp),h2];rfl
theorem Is {f:BkF} {n:Nat} {full:List aA} {k v:Nat} {s:aA} {b d:aP} (hg:full[v]? = some s) (hl:full.length<=100000000)
  (h:(s.dR=[108,101,116]/\0<=s.eB/\s.eB<b.cQ.length/\∃x l,s.aL=[x]/\fI n b x=some l/\Fz f s { b with cQ:=b.cQ.set s.eB.toNat l }=some (false,d)) ∨ (s.dR=[102,111,114]/\0<=s.eB/\s.eB<b.cQ.length/\s.aL.length=2/\∃c,gM n b s=some (true,c)/\Fz f s c=some (false,d)) ∨ (s.dR ≠ [108,101,116]/\s.dR ≠ [102,111,114]/\Fz f s b=some (false,d))) :
  dM f n full (k+1) (v:Int) b=dM f n full k ((v+1:Nat):Int) d:=by
 have hlt:=(vJ.1 hg).1
 conv=>lhs;unfold dM
 rw [if_pos (tA (by omega)),oY hg,dV,cG (n:=(v:Int)+1) (by omega) (by omega),show ((v:Int)+1)=((v+1:Nat):Int) by omega]
 rcases h with ⟨h1,h2,h3,x,l,h4,h5,h6⟩ | ⟨h1,h2,h3,h4,c,h5,h6⟩ | ⟨h1,h2,h6⟩
 ·have hnf:s.dR ≠ [102,111,114]:=by rw [h1];decide
  obtain ⟨w,hw,_⟩:=bD.idx (l:=b.cQ) (Q:=λ_=>True) h2 h3 λ_ _=>trivial;rw [if_pos (tA h1),if_neg (by rw [sX];omega),if_neg (by rw [sX];omega),h4,if_neg (by simp),if_neg (by rw [sX];exact hnf),dV,if_neg (by decide),if_pos (tA h1),DX,dV,h5,dV,hw,dV,if_neg (by rw [sX];exact hnf)];unfold Fz at h6;rw [h6];rfl
 ·have hnl:s.dR ≠ [108,101,116]:=by rw [h1];decide
  rw [if_neg (by rw [sX];exact hnl),if_pos (tA h1),if_neg (by rw [sX];omega),if_neg (by rw [sX];omega),h4,dV,if_neg (by decide),if_neg (by rw [sX];exact hnl),if_pos (tA h1),h5,dV,if_neg (by simp)];unfold Fz at h6;rw [h6];rfl
 ·rw [if_neg (by rw [sX];exact h1),if_neg (by rw [sX];exact h2),dV,if_neg (by decide),if_neg (by rw [sX];exact h1),if_neg (by rw [sX];exact h2)];unfold Fz at h6;rw [h6];rfl
theorem OE {l:List aH} {i:Nat} {t:aH} (ht:Sh false t):(l.set i t).map PB=(l.map PB).set i (nd t):=by rw [List.map_set,MZ ht]
theorem UU {vs:List aJ} {sc:List Int} {b:aP} {y w:aN} {x z:aD} {v f gC:Int} {bd el:List aA} (hT:zF false vs sc y.c_.aX) (hb:Ub b y) (hL:Bx y 1) (hx:Hx vs sc x) (hz:Hx vs sc z) (zx:xz x<=50000000) (zz:xz z<=50000000) (tx:tm (DA y.c_.aX x)<=2000) (tz:tm (DA y.c_.aX z)<=2000) {n m:Nat} (hn:100003000<n) (hm:100000000<=m)
  (hw:w.c_.aX=y.c_.aX.set v.toNat ⟨2,((4+y.c_.gS.length:Nat):Int),[]⟩) (hv:∃u,aZ vs v=some u) (hF:FSp n x z y w):∃c,Ub c w/\gM m b ⟨[102,111,114],v,f,[x,z],bd,el,gC⟩=some (true,c):=by
 obtain ⟨l1,⟨l2,l3⟩,hwl⟩:=hL;obtain ⟨s1,s2,q1,q2,q3,q4⟩:=hF;obtain ⟨t1,a1,f1,g1,z1,r1,e1,o1⟩:=Rq hT hx zx tx hwl hn q1;obtain ⟨t2,a2,f2,g2,z2,r2,e2,o2⟩:=Rq hT hz zz tz hwl hn q2;have u64:∀x:Int,pW x->IntKind.u64.wrap x=x:=λx ⟨h1,h2⟩=>by rw [IntKind.wrap_u64];omega
 obtain ⟨u,hu⟩:=hv;obtain ⟨v0,v1⟩:=uE hu;have hlen:=hT.len;obtain ⟨q,hq,_⟩:=bD.idx (l:=b.cQ) (Q:=λ_=>True) v0 (by rw [hb.t,Hh,hlen];exact v1) λ_ _=>trivial;have hs1:=Ri g1 hwl.1 hwl.2.1 hwl.2.2 n m [] [] a1 (by omega) (by omega) (by simp only [sY];omega) r1;have hs2:=Ri g2 hwl.1 hwl.2.1 hwl.2.2 n m [] [] a2 (by omega) (by omega) (by simp only [sY];omega) r2;rw [Ga,Dh,sY,show ((0:Nat):Int)=0 from rfl] at hs1 hs2;have hn1:=wK t1;have hn2:=wK t2;have hp1:=Kk t1;have hp2:=Kk t2;have hlo:b.fS.length=4+y.c_.gS.length:=by rw [hb.lo];exact l2
 have hhi:b.cB.length=4+y.c_.gS.length:=by rw [hb.hi];exact l3
 refine ⟨⟨b.cQ.set v.toNat [⟨2,((4+y.c_.gS.length:Nat):Int),0⟩],b.fS++[s1.1],b.cB++[max s1.1 (IntKind.u32.wrap (max s2.2 1 - 1))]⟩,⟨?_,?_,?_⟩,?_⟩
 ·rw [hw,OE (.var (by omega) (by omega)),hb.t,KE]
 ·rw [q3,hb.lo]
 ·rw [q4,hb.hi]
 ·unfold gM;rw [DX,dV,Vl hT hb hx zx tx hn hm f1,dV];show ((some z).bind _)=_;rw [dV,Vl hT hb hz zz tz hn hm f2,dV,if_neg (by rw [beq_iff_eq];omega),decide_eq_false_beq (by omega),dV,if_neg (by decide),hb.lo,hb.hi,hs1,dV,hs2,dV,hq,dV,iR (by rw [←hb.lo];simp only [sW];omega),iR (by rw [←hb.hi];simp only [sW];omega),e1,e2];have w1:=sD o1.lo;have hmx:pW (max a2.cB 1 - 1):=by have:=o2.hi;unfold pW at this ⊢;omega
  have hmx2:pW (max a1.fS (max a2.cB 1 - 1)):=by have:=o1.lo;unfold pW at this hmx ⊢;omega
  simp only;rw [w1,u64 _ hmx,sD hmx,sD hmx2,l2,sD (x:=((4+y.c_.gS.length:Nat):Int)) (by unfold pW;omega)]
where
 decide_eq_false_beq {a:Int} (h:a ≠ 0):(a == (0:Int))=false:=by simpa using h
theorem bx_ok (vs:List aJ):XOk BX vs:=by
 refine ⟨λy b hb m full k v hd hv hl hk hm hzz=>?_,λ{sc n s l y a r} ht hf hB hE hT hz hn ha h0 hR b hb m full k v hd hv hl hk hm hzz=>?_,λ{sc n s l y a c d r} ht ho hT ha h0 r1 r2 r3 b hb m full k v hd hv hl hk hm hzz=>?_,λ{sc n v' x z bd gC l y a w c d r} ht hT zx zz hn ha h0 hL hw hu hF r1 r2 r3 b hb m full k v hd hv hl hk hm hzz=>?_⟩
 ·obtain ⟨k,rfl⟩:∃j,k=j+1:=⟨k - 1,by rw [sY] at hk;omega⟩;have hge:full.length<=v:=by have:=congrArg List.length hd;simp only [Pw,sY] at this;omega
  refine ⟨b,hb,?_⟩;unfold dM;rw [if_neg (by rw [sX];omega)]
 ·obtain ⟨g1,g2,g3⟩:=EK hd;obtain ⟨k,rfl⟩:∃j,k=j+1:=⟨k - 1,by rw [pX] at hk;omega⟩;rw [As] at hm hzz;obtain ⟨m',rfl⟩:∃j,m=j+2:=⟨m - 2,by omega⟩;rw [pX] at hk;have hinn:∀b:aP,Fz (dQ (m'+2)) s b=some (false,b):=λb=>IQ (by rw [hB];exact bnil) (by rw [hE];exact bnil);have hcc:=ha.c
  by_cases ho:s.dR=[108,101,116]
  ·obtain ⟨l1,u,hu⟩:=ht.lt ho;obtain ⟨v0,v1⟩:=uE hu;obtain ⟨x,t,e1,e2,e3,e4,e5⟩:=ha.go ho (by omega);obtain ⟨e5,e6⟩:=e5 h0;obtain ⟨x',hx'⟩:∃x',s.aL=[x']:=List.length_eq_one_iff.1 l1;rw [hx'] at e1 hz;have e1:some x'=some x:=e1;obtain rfl:=aU e1;rw [pQ,pQ] at hz;have hsh:Sh false t:=by rw [Ao.2 h0] at e4;exact e4
   have hpx:Hx vs sc x':=ht.px 0 x' (by rw [hx'];rfl) (.inl ho);have hof:=Vl hT hb hpx (by omega) e5 hn (show 100000000<=m'+2 by omega) e6;have hb2:Ub { b with cQ:=b.cQ.set s.eB.toNat (nd t) } a:=⟨by rw [e2,OE hsh,hb.t],by rw [hcc];exact hb.lo,by rw [hcc];exact hb.hi⟩;obtain ⟨b',k1,k2⟩:=hR _ hb2 (m'+2) full k (v+1) g2 g3 hl (by omega) (by omega) (by omega);refine ⟨b',k1,?_⟩;rw [Is g1 hl (.inl ⟨ho,v0,by rw [hb.t,Hh,hT.len];exact v1,x',nd t,hx',hof,hinn _⟩)];exact k2
  ·have hTT:=ha.no ho;have hb2:Ub b a:=⟨by rw [hTT];exact hb.t,by rw [hcc];exact hb.lo,by rw [hcc];exact hb.hi⟩;obtain ⟨b',k1,k2⟩:=hR _ hb2 (m'+2) full k (v+1) g2 g3 hl (by omega) (by omega) (by omega);refine ⟨b',k1,?_⟩;rw [Is g1 hl (.inr (.inr ⟨ho,hf,hinn _⟩))];exact k2
 ·obtain ⟨g1,g2,g3⟩:=EK hd;obtain ⟨k,rfl⟩:∃j,k=j+1:=⟨k - 1,by rw [pX] at hk;omega⟩;rw [As] at hm hzz;rw [pX] at hk;have hcc:=ha.c;have hnl:s.dR ≠ [108,101,116]:=by rw [ho];decide
  have hnf:s.dR ≠ [102,111,114]:=by rw [ho];decide
  have hb2:Ub b a:=⟨by rw [ha.no hnl];exact hb.t,by rw [hcc];exact hb.lo,by rw [hcc];exact hb.hi⟩;obtain ⟨b1,p1,p2⟩:=r1.blk hb2 (m:=m) (by omega) (by omega);obtain ⟨b2,p3,p4⟩:=r2.blk p1 (m:=m) (by omega) (by omega);obtain ⟨b',k1,k2⟩:=r3 _ p3 m full k (v+1) g2 g3 hl (by omega) (by omega) (by omega);refine ⟨b',k1,?_⟩;rw [Is g1 hl (.inr (.inr ⟨hnl,hnf,IQ p2 p4⟩))];exact k2
 ·obtain ⟨g1,g2,g3⟩:=EK hd;obtain ⟨k,rfl⟩:∃j,k=j+1:=⟨k - 1,by rw [pX] at hk;omega⟩;rw [As] at hm hzz;simp only at hm hzz;rw [pX] at hk;have hcc:=ha.c;have hTT:=ha.no (by simp only;decide);have hb2:Ub b a:=⟨by rw [hTT];exact hb.t,by rw [hcc];exact hb.lo,by rw [hcc];exact hb.hi⟩;have px:=ha.px h0 0 x (Jc _) rfl (.inr (.inr (.inl rfl)));have pz:=ha.px h0 1 z (Jc _) rfl (.inr (.inr (.inl rfl)));have hLa:Bx a 1:=by unfold Bx WL at hL ⊢;rw [hcc];exact hL
  obtain ⟨cc,c1,c2⟩:=UU (f:=0) (gC:=gC) (bd:=bd) (el:=[]) (by rw [hTT];exact hT) hb2 hLa px.1 pz.1 zx zz (by rw [hTT];exact px.2) (by rw [hTT];exact pz.2) hn (show 100000000<=m by omega) hw hu hF;obtain ⟨b1,p1,p2⟩:=r1.blk c1 (m:=m) (by omega) (by omega);obtain ⟨b2,p3,p4⟩:=r2.blk p1 (m:=m) (by rw [uN];omega) (by rw [uN];omega);obtain ⟨b',k1,k2⟩:=r3 _ p3 m full k (v+1) g2 g3 hl (by omega) (by omega) (by omega);refine ⟨b',k1,?_⟩;obtain ⟨u,hu⟩:=hu;obtain ⟨v0,v1⟩:=uE hu;rw [Is g1 hl (.inr (.inl ⟨rfl,v0,by rw [hb.t,Hh,hT.len];exact v1,rfl,cc,c2,IQ p2 p4⟩))];exact k2
structure BI (vs:List aJ) (p:Nat) (b:aP):Prop where
 lo:b.fS=[0,0,0,0]
 hi:b.cB=[4294967295,4294967295,4294967295,4294967295]
 len:b.cQ.length=vs.length
 t:∀j,j<vs.length->b.cQ[j]? = some (PB (Ec vs p j))
theorem RV {vs:List aJ} {v j:Nat} (hj:j ≠ v):Ec vs (v+1) j=Ec vs v j:=by
 unfold Ec;cases vs[j]? with
 | none=>rfl
 | some u=>
   simp only
   by_cases h:j<v/\u.bK=1
   ·rw [if_pos h,if_pos ⟨by omega,h.2⟩]
   ·rw [if_neg h,if_neg λh2=>h ⟨by omega,h2.2⟩]
theorem UA {f:aQ} {P:aW} {bb:Bool} {p:Nat} (hp:f.aT=p) (hpl:p<=f.aR.length) (h4:p<=4):∀(k v:Nat) (b:aP),p<v+k->v<=p->BI f.aR v b->∃b',BI f.aR p b'/\fQ (f,P,bb) k (v:Int) b=some b':=by
 have hmin:min f.aT (f.aR.length:Int)=(p:Int):=by rw [hp];omega
 intro k
 induction k with
 | zero=>intro v y h1 h2;omega
 | succ k ih=>
   intro v b h1 h2 hb;unfold fQ;simp only [hmin]
   by_cases hv:v<p
   ·have hg:f.aR[v]? = some f.aR[v]:=wB (by omega);rw [if_pos (tA (by omega)),oY hg,dV,cG (n:=(v:Int)+1) (by omega) (by omega),show ((v:Int)+1)=((v+1:Nat):Int) by omega]
    by_cases hk:f.aR[v].bK=1
    ·have hbt:=hb.t v (by omega);rw [if_pos (by simpa using hk),oY hbt,dV,dV];refine ih (v+1) _ (by omega) (by omega) ⟨hb.lo,hb.hi,by simp only [vK];exact hb.len,λj hj=>?_⟩;show (b.cQ.set ((v:Int)).toNat _)[j]? = _;rw [Dq,sD (x:=(v:Int)) (by unfold pW;omega)]
     by_cases e:j=v
     ·subst e;rw [PL (by rw [hb.len];exact hj)]
      have e0:Ec f.aR (j+1) j=⟨2,(j:Int),[]⟩:=by
       unfold Ec;rw [hg];simp only;rw [if_pos ⟨by omega,hk⟩]
      rw [e0,MZ (.var (by omega) (by omega)),KE]
     ·rw [Pz (λh=>e h.symm),hb.t j hj,RV e]
    ·rw [if_neg (by simpa using hk),dV];refine ih (v+1) b (by omega) (by omega) ⟨hb.lo,hb.hi,hb.len,λj hj=>?_⟩;rw [hb.t j hj]
     by_cases e:j=v
     ·subst e;unfold Ec;rw [hg];simp only;rw [if_neg λh=>by omega,if_neg λh=>hk h.2]
     ·rw [RV e]
   ·rw [if_neg (by rw [sX];omega)];obtain rfl:v=p:=by omega
    exact ⟨b,hb,rfl⟩
theorem BI.bok {vs:List aJ} {p:Nat} {b:aP} {y:aN} (hb:BI vs p b) (hy:Ini vs p y):Ub b y:=by
 refine ⟨Sg λj=>?_,hb.lo.trans hy.low.symm,hb.hi.trans hy.high.symm⟩;rw [HS]
 by_cases hj:j<vs.length
 ·rw [hb.t j hj,hy.t j hj];rfl
 ·rw [Re (by rw [hb.len];omega),Re (by rw [hy.len];omega)];rfl
theorem Uy (l:List NN) (hl:l.length<=100000000):∀k v:Nat,l.length<v+k->v<=l.length->iA l l k (v:Int)=some (.inl ()):=by
 intro k
 induction k with
 | zero=>intro v h1 h2;omega
 | succ k ih=>
   intro v h1 h2;unfold iA
   by_cases hv:v<l.length
   ·rw [if_pos (tA (by omega)),oY (wB hv),dV,dV,if_neg (by simp),cG (n:=(v:Int)+1) (by omega) (by omega),show ((v:Int)+1)=((v+1:Nat):Int) by omega];exact ih (v+1) (by omega) (by omega)
   ·rw [if_neg (by rw [sX];omega)]
section
variable {f:aQ} {p:Nat} {c:bE} {b:aP} {e:Bool}
theorem Uz (ho:O15 f p) (h:CW f p c) (hb:b.cQ=c.aX.map PB) {n:Nat} (hn:200000000<=n):∀k v:Nat,c.aX.length<v+k->v<=c.aX.length->iB n (c,0) (e,b) k (v:Int)=some (.inl ()):=by
 have hl:=h.terms;have hv4:=ho.v;have h4:=h.p4;intro k
 induction k with
 | zero=>intro v h1 h2;omega
 | succ k ih=>
   intro v h1 h2;unfold iB
   by_cases hv:v<c.aX.length
   ·have hg:f.aR[v]? = some (f.aR[v]'(by omega)):=wB (by omega)
    have key:∃t,aZ c.aX (v:Int)=some t/\gJ n t=some (PB t)/\(PB t).length<=100000000:=by
     have hsh:∀t,Sh false t->tm t<=2000->gJ n t=some (PB t)/\(PB t).length<=100000000:=λt h1 h2=>by
      rw [MZ h1,wK];exact ⟨Vr n t h1 (by omega) (by omega),by omega⟩
     by_cases hk:(f.aR[v]'(by omega)).bK=1
     ·by_cases hvp:v<p
      ·exact ⟨_,h.par v _ hg hk hvp,hsh _ (.var (by omega) (by omega)) (by rw [tm,pO];omega)⟩
      ·obtain ⟨t,k1,k2,k3⟩:=h.loc v _ hg hk (by omega);exact ⟨t,k1,hsh t k2 k3⟩
     ·obtain ⟨m,rfl⟩:∃j,n=j+1:=⟨n - 1,by omega⟩;exact ⟨Uw,h.non v _ hg hk,by rw [Vw];exact ⟨Vp,Jc _⟩⟩
    obtain ⟨t,k1,k2,k3⟩:=key;have hbt:aZ b.cQ (v:Int)=some (PB t):=by rw [hb];exact OQ k1
    have q:=Uy (PB t) k3 n 0 (by omega) (Jc _);rw [show ((0:Nat):Int)=0 from rfl] at q;rw [if_pos (tA (show (v:Int)<(c.aX.length:Int) by omega))];show ((aZ c.aX (v:Int)).bind λx71=>(gJ n x71).bind λx77=>(aZ b.cQ (v:Int)).bind _)=_;rw [k1,dV,k2,dV,hbt,dV,if_neg (by simp),q,dV,cG (n:=(v:Int)+1) (by omega) (by omega),show ((v:Int)+1)=((v+1:Nat):Int) by omega];exact ih (v+1) (by omega) (by omega)
   ·rw [if_neg (by rw [sX];show ¬ (v:Int)<(c.aX.length:Int);omega)]
theorem Ux (h1:b.fS=c.oO) (h2:b.cB=c.jQ) (h3:c.oO.length=c.jQ.length) (hl:c.oO.length<=254):∀k v:Nat,c.oO.length<v+k->v<=c.oO.length->fP (e,b) (c,0) k (v:Int)=some (.inl ()):=by
 intro k
 induction k with
 | zero=>intro v g1 g2;omega
 | succ k ih=>
   intro v g1 g2;unfold fP;simp only [h1,h2]
   by_cases hv:v<c.oO.length
   ·rw [if_pos (tA (by omega)),oY (wB hv),oY (wB (show v<c.jQ.length by omega))];simp only [dV];rw [if_neg (by simp)];simp only [dV];rw [if_neg (by simp),cG (n:=(v:Int)+1) (by omega) (by omega),show ((v:Int)+1)=((v+1:Nat):Int) by omega];exact ih (v+1) (by omega) (by omega)
   ·rw [if_neg (by rw [sX];omega)]
end
theorem MM {n:Nat} (hn:200000000<=n) (ha:nV n=some true) (s:bW) (i:Int):kP n s i=some true:=by
 unfold kP;rw [ha,dV,if_neg (by decide)];obtain ⟨⟨f,P,b⟩,e,hr⟩:=Vo hn s i;rw [e,dV];cases b with
 | false=>rfl
 | true=>
   obtain ⟨p,ho⟩:=hr rfl;have ho:O15 f p:=ho;obtain ⟨sc',hfb⟩:=ho.fb;have htz:=ho.tz;have hv4:=ho.v;rw [if_neg (by simp)];obtain ⟨⟨c,z⟩,e2,h2⟩:=QW (bx_ok f.aR) ho.par ho.pl ho.v ho.tz hfb hn;rw [e2,dV]
   generalize hz:(c,z)=q at h2
   cases h2 with
   | count h=>
     obtain rfl:z=136:=congrArg Prod.snd hz;rw [if_pos (by rfl)]
   | size h4 h5=>
     obtain rfl:z=161:=congrArg Prod.snd hz;rw [if_pos (by rfl)]
   | @ok y0 y sc' hI hT hB h4 hL hxx=>
     obtain rfl:z=0:=congrArg Prod.snd hz;obtain rfl:c=y.c_:=congrArg Prod.fst hz;have h:=QY ho (.ok hI hT hB h4 hL hxx);have hlow:=h.low;have hhigh:=h.high;have hter:=h.terms;rw [if_neg (by simp),iR (show (0:Int)<=((f,P,true).1.aR.length:Int)/\((f,P,true).1.aR.length:Int)<=1073741824 by show (0:Int)<=(f.aR.length:Int)/\(f.aR.length:Int)<=1073741824;omega)]
     obtain ⟨b0,k1,k2⟩:=UA (P:=P) (bb:=true) ho.par ho.pl h4 n 0 ⟨List.replicate f.aR.length [],[0,0,0,0],[4294967295,4294967295,4294967295,4294967295]⟩ (by omega) (Jc _) ⟨rfl,rfl,xdl,λj hj=>by
      rw [List.getElem?_replicate,if_pos hj];unfold Ec;rw [wB hj];simp only;rw [if_neg λh=>by omega,Vw]⟩
     rw [show ((0:Nat):Int)=0 from rfl] at k2;obtain ⟨b',k3,k4⟩:=BX.blk hxx (k1.bok hI) (m:=n) (by omega) (by omega);show ((fQ (f,P,true) n 0 _).bind _)=_;rw [k2,dV];have q1:(y.c_.aX.length:Int)=(b'.cQ.length:Int):=by rw [k3.t,Hh]
     have q2:(y.c_.oO.length:Int)=(b'.fS.length:Int):=by rw [k3.lo]
     have q3:(y.c_.jQ.length:Int)=(b'.cB.length:Int):=by rw [k3.hi]
     have hcond:((dQ n b0 f.bH).bind λx176=>if (!x176.1)=true then some (true,x176.2) else if ((y.c_.aX.length:Int) != (x176.2.cQ.length:Int))=true then some (true,x176.2) else if ((y.c_.oO.length:Int) != (x176.2.fS.length:Int))=true then some (true,x176.2) else some (((y.c_.jQ.length:Int) != (x176.2.cB.length:Int)),x176.2))=some (false,b'):=by
      rw [k4,dV,if_neg (by simp)];simp only [q1,q2,q3];rw [if_neg (by simp),if_neg (by simp)];simp
     show (((dQ n b0 f.bH).bind λx176=>_).bind _)=_;rw [hcond,dV,if_neg (by simp)];have w1:=Uz (e:=false) ho h k3.t hn n 0 (by omega) (Jc _);have w2:=Ux (e:=false) k3.lo k3.hi (hlow.trans hhigh.symm) (by omega) n 0 (by omega) (Jc _);rw [show ((0:Nat):Int)=0 from rfl] at w1 w2;rw [w1,dV];show ((fP (false,b') (y.c_,0) n 0).bind _)=_;rw [w2];rfl
theorem PR:∃n,∀(s:bW) (i:Int),kP n s i=some true:=⟨_,MM (sZ _) WI⟩
