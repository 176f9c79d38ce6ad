import Derived.Test.YtnnomaboaiokeaaGreatDoorGRwg
namespace Go.Proofs.YtnnomaboaiokeaaGreatDoor.Abs
open Go.RowKit
set_option linter.all false
def KA (o:cJ):Prop:=o=[47] ∨ o=[37] ∨ o=[60,60] ∨ o=[62,62] ∨ o=[60,60,60] ∨ o=[42] ∨ o=[61,61] ∨ o=[60] ∨ o=[124] ∨ o=[94] ∨ o=[38] ∨ o=[43] ∨ o=[45]
inductive IK (vs:List aL) (sc:List Int):aF->Prop
 | num {n a}:0<=n->n<=4294967295->IK vs sc ⟨[110,117,109],1,n,-1,[],a⟩
 | var {v u a}:v ∈ sc->bM vs v=some u->u.bS=1->IK vs sc ⟨[118,97,114],1,0,v,[],a⟩
 | un {o x a}:(o=[110,111,116] ∨ o=[110,101,103])->IK vs sc x->IK vs sc ⟨o,1,0,-1,[x],a⟩
 | bin {o x y a}:KA o->IK vs sc x->IK vs sc y->IK vs sc ⟨o,1,0,-1,[x,y],a⟩
theorem If {a b:Int} (h:zA a b=1):a=1/\b=1:=by
 unfold zA at h
 split at h
 ·omega
 ·split at h <;> omega
theorem Oy.pub {o:cJ} {x y:aF} (h:Oy o x y 1):KA o/\x.cL=1/\y.cL=1:=by
 unfold KA
 rcases h with ⟨h1,h2,h3,_⟩ | ⟨h1,h2,_,h3⟩ | ⟨h1,h2,_,_⟩ | ⟨h1,_,h2⟩ | ⟨h1,h2,_⟩
 ·exact ⟨by rcases h1 with h | h <;> simp [h],h2,h3⟩
 ·exact ⟨by rcases h1 with h | h | h <;> simp [h],h3.symm,h2⟩
 ·exact ⟨by simp [h1],If h2.symm⟩
 ·split at h2
  ·omega
  ·exact ⟨by rcases h1 with h | h <;> simp [h],If h2.symm⟩
 ·exact ⟨by rcases h1 with h | h | h | h | h <;> simp [h],If h2.symm⟩
theorem TX.pub {vs:List aL} {sc:List Int} {x:aF} (h:TX vs sc x):x.cL=1->IK vs sc x:=by
 induction h with
 | num h1 h2=>exact λ_=>.num h1 h2
 | @var v u a h1 h2 h3=>
   intro ht;have ht:u.bS=(1:Int):=ht;rw [ht];exact .var h1 h2 ht
 | index=>exact λht=>absurd (show (2:Int)=1 from ht) (by decide)
 | @un o x a h1 _ ih=>
   intro ht;have ht:x.cL=(1:Int):=ht;rw [ht];exact .un h1 (ih ht)
 | @bin o x y t a _ _ hb ih1 ih2=>
   intro ht;have ht:t=(1:Int):=ht;subst ht;obtain ⟨b1,b2,b3⟩:=hb.pub;exact .bin b1 (ih1 b2) (ih2 b3)
 | @sel c x y a _ _ _ _ _ _ _ _=>
   intro ht;have ht:HZ (zA x.cL y.cL)=(1:Int):=ht;unfold HZ at ht
   split at ht <;> omega
 | long=>exact λht=>absurd (show (3:Int)=1 from ht) (by decide)
 | wide=>exact λht=>absurd (show (3:Int)=1 from ht) (by decide)
 | half=>exact λht=>absurd (show (2:Int)=1 from ht) (by decide)
mutual
def tm:aN->Nat
 | ⟨_,_,l⟩=>1+vR l
def vR:List aN->Nat
 | []=>0
 | x::l=>tm x+vR l
end
theorem Tn (x:aN):tm x=1+vR x.aP:=by cases x;rw [tm]
theorem tmL_app (a b:List aN):vR (a++b)=vR a+vR b:=by
 induction a with
 | nil=>rw [gJ,vR,CJ]
 | cons x a ih=>rw [iJ,vR,vR,ih,GT]
theorem Tm (x:aN):1<=tm x:=by rw [Tn];omega
theorem tmL_mem {l:List aN} {x:aN} (h:x ∈ l):tm x<=vR l:=by
 obtain ⟨a,b,rfl⟩:=SS h;rw [tmL_app,vR];omega
theorem PW (l:List aN):l.length<=vR l:=by
 induction l with
 | nil=>exact KL _
 | cons x l ih=>have:=Tm x;rw [dY,vR];omega
theorem sM {α:Type} {l:List α} {i:Nat} {x:α} (h:l[i]? = some x):bM l (i:Int)=some x:=by rw [NR];exact h
theorem VH {f:aN->Option Int} {t:aN} (hf:∀x ∈ t.aP,f x=some (tm x:Int)) (hb:tm t<=1000000000) :
  ∀(k v:Nat) (acc:Int),t.aP.length<v+k->v<=t.aP.length->0<=acc->acc+vR (t.aP.drop v)<=1000000000->zV f t k acc (v:Int)=some (acc+vR (t.aP.drop v)):=by
 have hlen:=PW t.aP;have hte:=Tn t;intro k
 induction k with
 | zero=>intro v acc h1 h2;omega
 | succ k ih=>
   intro v acc h1 h2 h3 h4;unfold zV
   by_cases hv:v<t.aP.length
   ·have hd:t.aP.drop v=t.aP[v]::t.aP.drop (v+1):=Na hv;have f1:=hf _ (Nb hv);rw [hd,vR] at h4;rw [if_pos (zU (by omega)),sM (uX hv),iN,f1,iN,cP (n:=acc+_) (by omega) (by omega),cP (n:=(v:Int)+1) (by omega) (by omega),show ((v:Int)+1)=((v+1:Nat):Int) by omega,ih (v+1) _ (by omega) (by omega) (by omega) (by omega),hd,vR]
    congr 1;omega
   ·rw [if_neg (by rw [AG];omega),SO (by omega),vR]
    congr 1;omega
theorem VI:∀(n:Nat) (t:aN),tm t<n->tm t<=1000000000->vY n t=some (tm t:Int):=by
 intro n
 induction n with
 | zero=>intro t h;omega
 | succ n ih=>
   intro t h hb;show xG (vY n) n t=_;unfold xG;have hl:=PW t.aP;have he:=Tn t
   have:=VH (f:=vY n) (t:=t) (λx hx=>by
    have h1:=tmL_mem hx;exact ih _ (by omega) (by omega)) hb n 0 1 (by omega) (by omega) (by omega) (by rw [iF];omega)
   rw [show ((0:Nat):Int)=0 from rfl] at this;rw [this,iN,iF]
   congr 1;omega
inductive Sh (b:Bool):aN->Prop
 | z:b=true->Sh b ⟨0,0,[]⟩
 | con {v}:0<=v->v<=4294967295->Sh b ⟨1,v,[]⟩
 | var {k}:0<=k->k<=255->Sh b ⟨2,k,[]⟩
 | un {o x}:(o=3 ∨ o=4)->Sh b x->Sh b ⟨o,0,[x]⟩
 | bin {o x y}:5<=o->o<=17->Sh b x->Sh b y->Sh b ⟨o,0,[x,y]⟩
theorem Sh.mono {b b':Bool} (hb:b=true->b'=true) {t:aN} (h:Sh b t):Sh b' t:=by
 induction h with
 | z e=>exact .z (hb e)
 | con h1 h2=>exact .con h1 h2
 | var h1 h2=>exact .var h1 h2
 | un h _ ih=>exact .un h ih
 | bin h1 h2 _ _ i1 i2=>exact .bin h1 h2 i1 i2
theorem ME {a b:Int}:0<=wD .u32 a b:=by unfold wD;rw [IntKind.wrap_u32];omega
theorem Sj {a b:Int}:0<=wD .u64 a b:=by unfold wD;rw [IntKind.wrap_u64];omega
def tN (x:Int):Prop:=0<=x/\x<=4294967295
theorem tN.wrap (x:Int):tN (IntKind.u32.wrap x):=by unfold tN;rw [IntKind.wrap_u32];omega
theorem tN.z:tN 0:=by unfold tN;omega
theorem tN.i:tN 1:=by unfold tN;omega
theorem tN.m:tN 4294967295:=by unfold tN;omega
theorem tN.div {x y:Int} (h:tN x) (k:0<=y):tN (x / y):=⟨Int.ediv_nonneg h.1 k,Int.le_trans (Int.ediv_le_self _ h.1) h.2⟩
theorem tN.shr {x:Int} (h:tN x) (y:Int):tN (Ho .u32 x y):=by
 unfold Ho;rw [xfj _ (Int.pow_nonneg (by decide))];exact h.div (Int.pow_nonneg (by decide))
theorem zE (b:Bool):uI b=some (if b=true then 1 else 0):=by unfold uI;cases b <;> rfl
theorem tN.ite (b:Bool):tN (if b=true then 1 else 0):=by unfold tN;cases b <;> decide
theorem rot_tot (a b:Int):bK (lR a b) tN:=by
 unfold lR;refine bK.need Sj (bK.need ?_ (.some (.wrap _)));rw [IntKind.wrap_u64];omega
theorem Rz (o:Int) {a b:Int} (ha:tN a):bK (tE o a b) tN:=by
 unfold tE;refine bK.iteb (λ_=>.some (.wrap _)) λ_=>bK.iteb (λ_=>.some (.wrap _)) λ_=>bK.iteb (λ_=>.some (.wrap _)) λ_=>bK.iteb (λ_=>.need ME (.some (.wrap _))) λ_=>bK.iteb (λ_=>.need ME (.some (ha.shr _))) λ_=>?_;exact (rot_tot _ _).bind λ_ h=>.some h
theorem tN.tmod {a b:Int} (h:tN a) (k:tN b):tN (a.tmod b):=by
 rw [xfd h.1]
 by_cases hb:b=0
 ·rw [hb,Int.emod_zero];exact h
 ·have:=Int.emod_lt_of_pos a (show 0<b by have:=k.1;omega);exact ⟨Int.emod_nonneg _ hb,by have:=k.2;omega⟩
theorem PT (o:Int) {a b:Int} (ha:tN a) (hb:tN b):bK (jX o a b) λr=>tN r.1:=by
 unfold jX;rw [zE,zE];refine bK.iteb (λ_=>.some (.ite _)) λ_=>bK.iteb (λ_=>.some (.ite _)) λ_=>bK.iteb (λ_=>.some (.wrap _)) λ_=>bK.iteb (λ_=>.some (.wrap _)) λ_=>bK.iteb (λ_=>.some (.wrap _)) λ_=>bK.iteb (λ_=>?_) λ_=>bK.iteb (λ_=>?_) λ_=>?_
 ·exact bK.iteb (λ_=>.some .z) λh=>bK.need (by simpa using h) (.some (.wrap _))
 ·exact bK.iteb (λ_=>.some .z) λh=>bK.need (by simpa using h) (.some (ha.tmod hb))
 ·exact (Rz _ ha).bind λ_ h=>.some h
def Dt (l:List Int):Prop:=∀x ∈ l,tN x
theorem Dt.nil:Dt []:=λ_ h=>nomatch h
theorem Dt.idx {l:List Int} (h:Dt l) {i:Int} {x:Int} (e:bM l i=some x):tN x:=h _ (by obtain ⟨_,_,e⟩:=cB e;exact ET e)
theorem Dt.tot {l:List Int} (h:Dt l) {i:Int} (h1:0<=i) (h2:i<l.length):bK (bM l i) tN:=by
 obtain ⟨x,e,_⟩:=bK.idx (l:=l) (Q:=λ_=>True) h1 h2 λ_ _=>trivial;exact ⟨x,e,h.idx e⟩
theorem Ka {b:Bool} {t:aN} (h:Sh b t) (hl:t.aP=[]) {ws:List Int} (hw:Dt ws):bK (wJ t ws) tN:=by
 unfold wJ;cases h with
 | con h1 h2=>exact bK.iteb (λ_=>.some ⟨h1,h2⟩) λh=>nomatch h
 | z e=>
   refine bK.iteb (λh=>absurd h (by decide)) λ_=>bK.iteb (λh=>?_) λ_=>.some .z;have h:=Bn h;rw [cP (by decide) (by decide)] at h;exact (hw.tot (Sv _) h).bind λ_ h=>.some h
 | @var k h1 h2=>
   refine bK.iteb (λh=>nomatch h) λ_=>bK.iteb (λh=>?_) λ_=>.some .z;have h:=Bn h;rw [cP (show -9223372036854775808<=k by omega) (show k<=9223372036854775807 by omega)] at h;exact (hw.tot h1 h).bind λ_ h=>.some h
 | un=>cases hl
 | bin=>cases hl
theorem Ow {b:Bool} {t:aN} (h:Sh b t) {ws:List Int} (hw:Dt ws):∀n,tm t<n->bK (mG n t ws) λr=>tN r.1:=by
 induction h with
 | z e=>
   intro n hn;obtain ⟨m,rfl⟩:∃m,n=m+1:=⟨n - 1,by omega⟩;show bK (kZ (mG m) m _ ws) _;unfold kZ;rw [if_pos (by rfl)];exact (Ka (Sh.z (b:=b) e) rfl hw).bind λ_ h=>.some h
 | con=>
   intro n hn;obtain ⟨m,rfl⟩:∃m,n=m+1:=⟨n - 1,by omega⟩;show bK (kZ (mG m) m _ ws) _;unfold kZ;rw [if_pos (by rfl)];exact (Ka (Sh.con (b:=b) ‹_› ‹_›) rfl hw).bind λ_ h=>.some h
 | var h1 h2=>
   intro n hn;obtain ⟨m,rfl⟩:∃m,n=m+1:=⟨n - 1,by omega⟩;show bK (kZ (mG m) m _ ws) _;unfold kZ;rw [if_pos (by rfl)];exact (Ka (Sh.var (b:=b) h1 h2) rfl hw).bind λ_ h=>.some h
 | @un o x ho hx ih=>
   intro n hn;obtain ⟨m,rfl⟩:∃m,n=m+1:=⟨n - 1,by omega⟩;rw [tm,vR,vR] at hn;show bK (kZ (mG m) m _ ws) _;unfold kZ;rw [if_neg (by simp)];refine bK.eqn (v:=x) rfl ?_;refine (ih m (by omega)).bind λr hr=>?_;refine bK.eqn (v:=true) (by split <;> rfl) ?_;rw [if_pos rfl,zE,iN];have h1:bK (Aa o r.1) λ_=>True:=by unfold Aa;exact bK.iteb (λ_=>.some trivial) λ_=>.some trivial
   exact h1.bind λ_ _=>.some (.wrap _)
 | @bin o x y h1 h2 hx hy i1 i2=>
   intro n hn;obtain ⟨m,rfl⟩:∃m,n=m+1:=⟨n - 1,by omega⟩;rw [tm,vR,vR,vR] at hn;show bK (kZ (mG m) m _ ws) _;unfold kZ;rw [if_neg (by simp)];refine bK.eqn (v:=x) rfl ?_;refine (i1 m (by omega)).bind λr hr=>?_;refine bK.bind (P:=λ_=>True) (by split <;> exact .some trivial) λc _=>?_;refine bK.iteb (λ_=>?_) λ_=>?_
   ·rw [zE,iN];have h1:bK (Aa o r.1) λ_=>True:=by unfold Aa;exact bK.iteb (λ_=>.some trivial) λ_=>.some trivial
    exact h1.bind λ_ _=>.some (.wrap _)
   ·refine bK.eqn (v:=y) rfl ?_;refine (i2 m (by omega)).bind λs hs=>?_;exact bK.iteb (λ_=>.some .z) λ_=>(PT _ hr hs).bind λ_ h=>.some h
theorem VF {b:Bool} {t:aN} (h:Sh b t):∀n,tm t+20<n->bK (pE n t) λr=>Sh b r/\tm r<=tm t:=by
 have fin:∀(m:Nat) (c:Bool) (r t:aN),Sh b r->tm r<=tm t->tm r<m->bK (if (!c)=true then some r else (mG m r []).bind λx=>if x.2=true then (FT x.1).bind λy=>some y else some r) λr=>Sh b r/\tm r<=tm t:=λm c r t h1 h2 h3=>by
  refine bK.iteb (λ_=>.some ⟨h1,h2⟩) λ_=>?_;refine (Ow h1 .nil m h3).bind λx hx=>bK.iteb (λ_=>?_) λ_=>.some ⟨h1,h2⟩;exact .some ⟨.con hx.1 hx.2,by rw [tm,vR];have:=Tm r;omega⟩
 induction h with
 | z e=>
   intro n hn;rw [tm,vR] at hn;obtain ⟨m,rfl⟩:∃m,n=m+2:=⟨n - 2,by omega⟩;show bK (nA (pE (m+1)) (m+1) _) _;unfold nA pJ;rw [if_neg (by decide),iN];exact fin _ _ _ _ (.z e) (tX _) (by rw [tm,vR];omega)
 | con c1 c2=>
   intro n hn;rw [tm,vR] at hn;obtain ⟨m,rfl⟩:∃m,n=m+2:=⟨n - 2,by omega⟩;show bK (nA (pE (m+1)) (m+1) _) _;unfold nA pJ;rw [if_neg (by simp),iN];exact fin _ _ _ _ (.con c1 c2) (tX _) (by rw [tm,vR];omega)
 | var h1 h2=>
   intro n hn;rw [tm,vR] at hn;obtain ⟨m,rfl⟩:∃m,n=m+2:=⟨n - 2,by omega⟩;show bK (nA (pE (m+1)) (m+1) _) _;unfold nA pJ;rw [if_neg (by simp),iN];exact fin _ _ _ _ (.var h1 h2) (tX _) (by rw [tm,vR];omega)
 | @un o x ho hx ih=>
   intro n hn;rw [tm,vR,vR] at hn;obtain ⟨m,rfl⟩:∃m,n=m+3:=⟨n - 3,by omega⟩;show bK (nA (pE (m+2)) (m+2) _) _;unfold nA;obtain ⟨x',hx',s1,s2⟩:=ih (m+2) (by omega);refine bK.bind (P:=λr=>Sh b r.2/\tm r.2<=1+tm x) ?_ λr hr=>fin _ _ _ _ hr.1 (by rw [tm,vR,vR];omega) (by omega);unfold pJ;rw [if_pos (by simp)];refine bK.eqn (v:=x) rfl ?_;rw [hx',iN];refine bK.need (by simp) ?_;refine bK.bind (P:=λ_=>True) (by split <;> exact .some trivial) λc _=>?_;rw [cP (by decide) (by decide)];unfold pJ;rw [if_neg (by simp)];exact .some ⟨.un ho s1,by simp only [gJ];rw [tm,vR,vR];omega⟩
 | @bin o x y h1 h2 hx hy i1 i2=>
   intro n hn;rw [tm,vR,vR,vR] at hn;obtain ⟨m,rfl⟩:∃m,n=m+4:=⟨n - 4,by omega⟩;show bK (nA (pE (m+3)) (m+3) _) _;unfold nA;obtain ⟨x',hx',s1,s2⟩:=i1 (m+3) (by omega);obtain ⟨y',hy',s3,s4⟩:=i2 (m+3) (by omega);refine bK.bind (P:=λr=>Sh b r.2/\tm r.2<=1+tm x+tm y) ?_ λr hr=>fin _ _ _ _ hr.1 (by rw [tm,vR,vR,vR];omega) (by omega);unfold pJ;rw [if_pos (by simp)];refine bK.eqn (v:=x) rfl ?_;rw [hx',iN];refine bK.need (by simp) ?_;refine bK.bind (P:=λ_=>True) (by split <;> exact .some trivial) λc _=>?_;rw [cP (by decide) (by decide)];unfold pJ;rw [if_pos (by simp)];refine bK.eqn (v:=y) rfl ?_;rw [hy',iN];refine bK.need (by simp) ?_;refine bK.bind (P:=λ_=>True) (by split <;> exact .some trivial) λc _=>?_;rw [cP (by decide) (by decide)];unfold pJ;rw [if_neg (by simp)];exact .some ⟨.bin h1 h2 s1 s3,by simp only [gJ,iJ];rw [tm,vR,vR,vR];omega⟩
def NF (a:cJ):Int:=((dR.find? λx=>decide (x.Iy=a)).map (·.op_)).getD 0
theorem op_l1 {a:cJ}:∀(c j:Nat),j<=15->15<j+c->AZ a c (j:Int)=some (match (dR.drop j).find? (λx=>decide (x.Iy=a)) with | some x=>.inr x.op_ | none=>.inl ()):=by
 intro c
 induction c with
 | zero=>intro j h1 h2;omega
 | succ c ih=>
   intro j h1 h2;unfold AZ;have hlen:dR.length=15:=by kernel_rfl
   by_cases hj:j<15
   ·rw [if_pos (zU (by omega)),sM (uX (by omega)),iN,Na (by omega),List.find?_cons];cases hd:decide (dR[j].Iy=a) with
    | true=>rw [if_pos rfl]
    | false=>
      rw [if_neg (by decide),cP (by omega) (by omega)];exact ih (j+1) (by omega) (by omega)
   ·rw [if_neg (by rw [AG];omega),SO (by omega)];rfl
theorem op_eq {n:Nat} (hn:16<=n) (a:cJ):Bi n a=some (NF a):=by
 unfold Bi NF;have:=op_l1 (a:=a) n 0 (by omega) (by omega);rw [iF] at this;rw [show ((0:Nat):Int)=0 from rfl] at this;rw [this,iN];cases dR.find? (λx=>decide (x.Iy=a)) <;> rfl
theorem op_two {o:cJ} (h:KA o):5<=NF o/\NF o<=17:=by
 rcases h with h | h | h | h | h | h | h | h | h | h | h | h | h <;> subst h <;> decide
theorem op_one {o:cJ} (h:o=[110,111,116] ∨ o=[110,101,103]):NF o=3 ∨ NF o=4:=by
 rcases h with h | h <;> subst h <;> decide
abbrev tz0:aN:=⟨0,0,[]⟩
mutual
def GE (T:List aN):aF->aN
 | ⟨o,_,n,v,l,_⟩=>if o=[110,117,109] then ⟨1,n,[]⟩ else if o=[118,97,114] then (bM T v).getD tz0 else ⟨NF o,0,Bs T l⟩
def Bs (T:List aN):List aF->List aN
 | []=>[]
 | x::l=>GE T x::Bs T l
end
theorem Hv {T:List aN} {ty n v a:Int} {l:List aF}:GE T ⟨[110,117,109],ty,n,v,l,a⟩=⟨1,n,[]⟩:=by rw [GE,if_pos rfl]
theorem Mi {T:List aN} {ty n v a:Int} {l:List aF} {t:aN} (h:bM T v=some t):GE T ⟨[118,97,114],ty,n,v,l,a⟩=t:=by rw [GE,if_neg (by decide),if_pos rfl,h];rfl
theorem CU {T:List aN} {o:cJ} {ty n v a:Int} {l:List aF} (h1:o ≠ [110,117,109]) (h2:o ≠ [118,97,114]):GE T ⟨o,ty,n,v,l,a⟩=⟨NF o,0,Bs T l⟩:=by rw [GE,if_neg h1,if_neg h2]
theorem GM {α:Type} {x:α} {l:List α}:bM (x::l) 0=some x:=rfl
theorem Pm {α:Type} {x y:α} {l:List α}:bM (x::y::l) (0+1)=some y:=rfl
structure AD (b:Bool) (vs:List aL) (sc:List Int) (T:List aN):Prop where
 len:T.length=vs.length
 ok:∀v ∈ sc,∀u,bM vs v=some u->u.bS=1->∃t,bM T v=some t/\Sh b t/\tm t<=2000
theorem KA.ne {o:cJ} (h:KA o):o ≠ [110,117,109]/\o ≠ [118,97,114]/\o ≠ [105,110,100,101,120]:=by
 rcases h with h | h | h | h | h | h | h | h | h | h | h | h | h <;> subst h <;> decide
theorem Sign1.ne {o:cJ} (h:o=[110,111,116] ∨ o=[110,101,103]):o ≠ [110,117,109]/\o ≠ [118,97,114]/\o ≠ [105,110,100,101,120]/\o ≠ [47]/\o ≠ [37]:=by
 rcases h with h | h <;> subst h <;> decide
section
variable {b:Bool} {vs:List aL} {sc:List Int} {c:bH} {x:aF}
theorem JM (hT:AD b vs sc c.bP) (h:IK vs sc x):Sh b (GE c.bP x)/\tm (GE c.bP x)<=2000*xz x:=by
 induction h with
 | num h1 h2=>rw [Hv];exact ⟨.con h1 h2,by rw [tm,vR,xz,qX];omega⟩
 | var h1 h2 h3=>
   obtain ⟨t,k1,k2,k3⟩:=hT.ok _ h1 _ h2 h3;rw [Mi k1];exact ⟨k2,by rw [xz,qX];exact k3⟩
 | un h _ ih=>
   obtain ⟨n1,n2,_⟩:=Sign1.ne h;rw [CU n1 n2,Bs,Bs];exact ⟨.un (op_one h) ih.1,by rw [tm,vR,vR,xz,qX,qX];have:=ih.2;omega⟩
 | bin h _ _ i1 i2=>
   obtain ⟨n1,n2,_⟩:=h.ne;rw [CU n1 n2,Bs,Bs,Bs];obtain ⟨o1,o2⟩:=op_two h;exact ⟨.bin o1 o2 i1.1 i2.1,by rw [tm,vR,vR,vR,xz,qX,qX,qX];have:=i1.2;have:=i2.2;omega⟩
theorem TQ (hT:AD b vs sc c.bP) (h:IK vs sc x):∀n,xz x+20<n->iQ n c x=some (GE c.bP x):=by
 induction h with
 | num=>
   intro n hn;obtain ⟨m,rfl⟩:∃m,n=m+1:=⟨n - 1,by omega⟩;show eX (iQ m) m c _=_;unfold eX;rw [Hv,if_pos (by rfl)];rfl
 | var h1 h2 h3=>
   intro n hn;obtain ⟨m,rfl⟩:∃m,n=m+1:=⟨n - 1,by omega⟩;show eX (iQ m) m c _=_;unfold eX;obtain ⟨t,k1,k2,k3⟩:=hT.ok _ h1 _ h2 h3;rw [Mi k1,if_neg (by simp),if_pos (by rfl),k1];rfl
 | @un o x a h hx ih=>
   intro n hn;rw [xz,qX,qX] at hn;obtain ⟨m,rfl⟩:∃m,n=m+3:=⟨n - 3,by omega⟩;show eX (iQ (m+2)) (m+2) c _=_;unfold eX;obtain ⟨n1,n2,_⟩:=Sign1.ne h;rw [CU n1 n2,if_neg (by simpa using n1),if_neg (by simpa using n2),op_eq (by omega),iN];unfold jO;rw [if_pos (by simp),GM,iN,ih _ (by omega),iN,qR (by simp),cP (by decide) (by decide)];unfold jO;rw [if_neg (by simp)];rfl
 | @bin o x y a h hx hy i1 i2=>
   intro n hn;rw [xz,qX,qX,qX] at hn;obtain ⟨m,rfl⟩:∃m,n=m+4:=⟨n - 4,by omega⟩;show eX (iQ (m+3)) (m+3) c _=_;unfold eX;obtain ⟨n1,n2,_⟩:=h.ne;rw [CU n1 n2,if_neg (by simpa using n1),if_neg (by simpa using n2),op_eq (by omega),iN];unfold jO;rw [if_pos (by simp),GM,iN,i1 _ (by omega),iN,qR (by simp),cP (by decide) (by decide)];unfold jO;rw [if_pos (by simp),Pm,iN,i2 _ (by omega),iN,qR (by simp),cP (by decide) (by decide)];unfold jO;rw [if_neg (by simp)];rfl
theorem QL (hT:AD b vs sc c.bP) (h:IK vs sc x) (hb:xz x<=100000000):∀n,xz x+2100<n->iC n c x=some (tm (GE c.bP x):Int):=by
 induction h with
 | num=>
   intro n hn;obtain ⟨m,rfl⟩:∃m,n=m+2:=⟨n - 2,by omega⟩;show eL (iC (m+1)) (m+1) c _=_;unfold eL gN;rw [Hv,if_neg (by simp),if_neg (by simp),tm,vR];rfl
 | var h1 h2 h3=>
   intro n hn;obtain ⟨m,rfl⟩:∃m,n=m+1:=⟨n - 1,by omega⟩;show eL (iC m) m c _=_;unfold eL;obtain ⟨t,k1,k2,k3⟩:=hT.ok _ h1 _ h2 h3;rw [Mi k1,if_pos (by rfl),k1,iN,VI _ _ (by omega) (by omega)];rfl
 | @un o x a h hx ih=>
   intro n hn;rw [xz,qX,qX] at hn hb;obtain ⟨m,rfl⟩:∃m,n=m+3:=⟨n - 3,by omega⟩;show eL (iC (m+2)) (m+2) c _=_;unfold eL;obtain ⟨n1,n2,_⟩:=Sign1.ne h;have hz:=(JM hT hx).2;rw [CU n1 n2,if_neg (by simpa using n2)];unfold gN;rw [if_pos (by simp),GM,iN,ih (by omega) _ (by omega),iN,cP (n:=(1:Int)+_) (by omega) (by omega),cP (by decide) (by decide)];unfold gN;rw [if_neg (by simp),Bs,Bs,tm,vR,vR,iN]
   congr 1
 | @bin o x y a h hx hy i1 i2=>
   intro n hn;rw [xz,qX,qX,qX] at hn hb;obtain ⟨m,rfl⟩:∃m,n=m+4:=⟨n - 4,by omega⟩;show eL (iC (m+3)) (m+3) c _=_;unfold eL;obtain ⟨n1,n2,_⟩:=h.ne;have hz:=(JM hT hx).2;have hz2:=(JM hT hy).2;rw [CU n1 n2,if_neg (by simpa using n2)];unfold gN;rw [if_pos (by simp),GM,iN,i1 (by omega) _ (by omega),iN,cP (n:=(1:Int)+_) (by omega) (by omega),cP (by decide) (by decide)];unfold gN;rw [if_pos (by simp),Pm,iN,i2 (by omega) _ (by omega),iN,cP (n:=(1:Int)+_+_) (by omega) (by omega),cP (by decide) (by decide)];unfold gN;rw [if_neg (by simp),Bs,Bs,Bs,tm,vR,vR,vR,iN]
   congr 1;omega
theorem IK.type (h:IK vs sc x):x.cL=1:=by cases h <;> rfl
theorem VA (hT:AD b vs sc c.bP) (h:IK vs sc x) (hb:xz x<=100000000) {n:Nat} (hn:xz x+2100<n) :
  bK (pF n c x) λr=>(r.2=0/\tm (GE c.bP x)<=2000/\pE n (GE c.bP x)=some r.1/\Sh b r.1/\tm r.1<=2000) ∨ (r.2=161/\2000<tm (GE c.bP x)/\r.1=tz0):=by
 unfold pF;obtain ⟨s1,s2⟩:=JM hT h;rw [h.type,if_neg (by decide),QL hT h hb n hn,iN];refine bK.iteb (λh2=>.some (.inr ⟨rfl,by have:=Bn h2;omega,rfl⟩)) λh2=>?_;have h2:=OB h2;rw [TQ hT h n (by omega),iN];obtain ⟨r,hr,k1,k2⟩:=VF s1 n (by omega);rw [hr,iN];exact .some (.inl ⟨rfl,by omega,rfl,k1,by show tm r<=2000;omega⟩)
end
def Er (a b:Int):Prop:=b=a ∨ a=0/\b=161
theorem Er.refl (a:Int):Er a a:=.inl rfl
theorem Er.trans {a b c:Int} (h:Er a b) (k:Er b c):Er a c:=by
 rcases h with rfl | ⟨rfl,rfl⟩
 ·exact k
 ·rcases k with rfl | ⟨h,_⟩
  ·exact .inr ⟨rfl,rfl⟩
  ·cases h
theorem Er.keep {a b:Int} (h:Er a b) (ha:a ≠ 0):b=a:=h.resolve_right λk=>ha k.1
theorem Er.zero {a b:Int} (h:Er a b) (hb:b=0):a=0:=by rcases h with rfl | ⟨h,_⟩;exact hb;exact h
section
variable {b:Bool} {vs:List aL} {sc:List Int} {y:aT} {x:aF}
theorem LK (hT:AD b vs sc y.c_.bP) (h:IK vs sc x) (hb:xz x<=100000000) {n:Nat} (hn:xz x+2100<n) :
  bK (lF n y x) λr=>r.2.c_=y.c_/\Er y.e_ r.2.e_/\((tm (GE y.c_.bP x)<=2000/\pE n (GE y.c_.bP x)=some r.1/\Sh b r.1/\r.2.e_=y.e_) ∨ (2000<tm (GE y.c_.bP x)/\r.1=tz0/\r.2.e_ ≠ 0))/\tm r.1<=2000:=by
 unfold lF;refine (VA hT h hb hn).bind λr hr=>?_;have hz:tm tz0<=2000:=by rw [tm,vR];omega
 refine bK.iteb (λh0=>.some ⟨rfl,?_,?_,?_⟩) λh0=>.some ⟨rfl,.inl rfl,?_,?_⟩
 ·have h0:y.e_=0:=by simpa using h0
  rcases hr with ⟨h1,_⟩ | ⟨h1,_⟩
  ·exact .inl (h1.trans h0.symm)
  ·exact .inr ⟨h0,h1⟩
 ·have h0:y.e_=0:=by simpa using h0
  rcases hr with ⟨h1,h2,h3,h4,_⟩ | ⟨h1,h2,h3⟩
  ·exact .inl ⟨h2,h3,h4,h1.trans h0.symm⟩
  ·exact .inr ⟨h2,h3,by show r.2 ≠ 0;rw [h1];decide⟩
 ·rcases hr with ⟨_,_,_,_,h5⟩ | ⟨_,_,h3⟩
  ·exact h5
  ·rw [h3];exact hz
 ·have h0:y.e_ ≠ 0:=by simpa using h0
  rcases hr with ⟨h1,h2,h3,h4,_⟩ | ⟨h1,h2,h3⟩
  ·exact .inl ⟨h2,h3,h4,rfl⟩
  ·exact .inr ⟨h2,h3,h0⟩
 ·rcases hr with ⟨_,_,_,_,h5⟩ | ⟨_,_,h3⟩
  ·exact h5
  ·rw [h3];exact hz
def VB (y r:aT):Prop:=r.c_=y.c_/\Er y.e_ r.e_
theorem VB.refl (y:aT):VB y y:=⟨rfl,.inl rfl⟩
theorem VB.trans {y z r:aT} (h:VB y z) (k:VB z r):VB y r:=⟨k.1.trans h.1,h.2.trans k.2⟩
theorem look_l2 {n:Nat} (hP:∀z ∈ x.aP,IK vs sc z) (hb:qX x.aP<=100000000) (hn:qX x.aP+2100<n):∀(k v:Nat) (y:aT),AD b vs sc y.c_.bP->x.aP.length<v+k->v<=x.aP.length->bK (pZ n x k (v:Int) y) (VB y):=by
 have hlen:=zS x.aP;intro k
 induction k with
 | zero=>intro v y hT h1 h2;omega
 | succ k ih=>
   intro v y hT h1 h2;unfold pZ;refine bK.iteb (λhv=>?_) λhv=>.some (.refl y);have hv:v<x.aP.length:=by have:=Bn hv;omega
   refine bK.eqn (sM (uX hv)) ?_;have hm:=AN (Nb hv);refine (LK hT (hP _ (Nb hv)) (by omega) (by omega)).bind λr hr=>?_;rw [cP (by omega) (by omega),show ((v:Int)+1)=((v+1:Nat):Int) by omega];exact (ih (v+1) r.2 (by rw [hr.1];exact hT) (by omega) (by omega)).mono λz hz=>VB.trans ⟨hr.1,hr.2.1⟩ hz
theorem look_l1 {f:aT->aF->Option aT} (hf:∀z ∈ x.aP,∀y:aT,AD b vs sc y.c_.bP->bK (f y z) (VB y)) (hb:qX x.aP<=100000000):∀(k v:Nat) (y:aT),AD b vs sc y.c_.bP->x.aP.length<v+k->v<=x.aP.length->bK (qA f x k (v:Int) y) (VB y):=by
 have hlen:=zS x.aP;intro k
 induction k with
 | zero=>intro v y hT h1 h2;omega
 | succ k ih=>
   intro v y hT h1 h2;unfold qA;refine bK.iteb (λhv=>?_) λhv=>.some (.refl y);have hv:v<x.aP.length:=by have:=Bn hv;omega
   refine bK.eqn (sM (uX hv)) ?_;refine (hf _ (Nb hv) y hT).bind λr hr=>?_;rw [cP (by omega) (by omega),show ((v:Int)+1)=((v+1:Nat):Int) by omega];exact (ih (v+1) r (by rw [hr.1];exact hT) (by omega) (by omega)).mono λz hz=>hr.trans hz
theorem TX.list (h:TX vs sc x):(∀z ∈ x.aP,TX vs sc z)/\((x.iD=[105,110,100,101,120] ∨ x.iD=[47] ∨ x.iD=[37])->∀z ∈ x.aP,IK vs sc z):=by
 have one:∀ {P:aF->Prop} {x},P x->∀z ∈ [x],P z:=λh z hz=>by rw [Ax.1 hz];exact h
 have two:∀ {P:aF->Prop} {x y},P x->P y->∀z ∈ [x,y],P z:=λh k z hz=>by
  rcases AH.1 hz with rfl | hz
  ·exact h
  ·exact one k z hz
 have tri:∀ {P:aF->Prop} {x y u},P x->P y->P u->∀z ∈ [x,y,u],P z:=λh k l z hz=>by
  rcases AH.1 hz with rfl | hz
  ·exact h
  ·exact two k l z hz
 cases h with
 | num=>exact ⟨λ_ h=>(nomatch h),λ_ _ h=>(nomatch h)⟩
 | var=>exact ⟨λ_ h=>(nomatch h),λ_ _ h=>(nomatch h)⟩
 | index h1 h2 h3 h4 h5 h6=>exact ⟨one h4,λ_=>one (h4.pub h5)⟩
 | un h1 h2=>
   obtain ⟨_,_,n3,n4,n5⟩:=Sign1.ne h1;exact ⟨one h2,λh=>h.elim (λh=>absurd h n3) λh=>h.elim (λh=>absurd h n4) λh=>absurd h n5⟩
 | @bin o x y t a h1 h2 h3=>
   refine ⟨two h1 h2,λh=>?_⟩
   have ho:o=[47] ∨ o=[37]:=by
    rcases h with h | h
    ·exfalso
     have h:o=[105,110,100,101,120]:=h;subst h
     rcases h3 with ⟨h,_⟩ | ⟨h,_⟩ | ⟨h,_⟩ | ⟨h,_⟩ | ⟨h,_⟩
     ·rcases h with h | h <;> exact absurd h (by decide)
     ·rcases h with h | h | h <;> exact absurd h (by decide)
     ·exact absurd h (by decide)
     ·rcases h with h | h <;> exact absurd h (by decide)
     ·rcases h with h | h | h | h | h <;> exact absurd h (by decide)
    ·exact h
   have:x.cL=1/\y.cL=1:=by
    rcases h3 with ⟨_,h4,h5,_⟩ | ⟨h,_⟩ | ⟨h,_⟩ | ⟨h,_⟩ | ⟨h,_⟩
    ·exact ⟨h4,h5⟩
    ·exfalso;rcases ho with rfl | rfl <;> rcases h with h | h | h <;> exact absurd h (by decide)
    ·exfalso;rcases ho with rfl | rfl <;> exact absurd h (by decide)
    ·exfalso;rcases ho with rfl | rfl <;> rcases h with h | h <;> exact absurd h (by decide)
    ·exfalso;rcases ho with rfl | rfl <;> rcases h with h | h | h | h | h <;> exact absurd h (by decide)
   exact two (h1.pub this.1) (h2.pub this.2)
 | sel h1 h2 h3 h4 h5=>exact ⟨tri h1 h2 h3,λh=>by rcases h with h | h | h <;> exact absurd h (by simp only;decide)⟩
 | long h1 h2=>exact ⟨one h1,λh=>by rcases h with h | h | h <;> exact absurd h (by simp only;decide)⟩
 | wide h1 h2 h3 h4=>exact ⟨two h1 h2,λh=>by rcases h with h | h | h <;> exact absurd h (by simp only;decide)⟩
 | half h0 h1 h2=>exact ⟨one h1,λh=>by rcases h0 with rfl | rfl <;> rcases h with h | h | h <;> exact absurd h (by simp only;decide)⟩
theorem Uj:∀(n:Nat) (x:aF) (y:aT),TX vs sc x->AD b vs sc y.c_.bP->xz x<=100000000->xz x+2200<n->bK (lH n y x) (VB y):=by
 intro n
 induction n with
 | zero=>intro x y h hT hb hn;omega
 | succ n ih=>
   intro x y h hT hb hn;show bK (oC (lH n) n y x) _;unfold oC;obtain ⟨l1,l2⟩:=h.list;have he:=Bm x;have hlen:=zS x.aP
   refine (look_l1 (b:=b) (vs:=vs) (sc:=sc) (f:=lH n) (λz hz y hT=>by
    have:=AN hz;exact ih z y (l1 z hz) hT (by omega) (by omega)) (by omega) n 0 y hT (by omega) (by omega)).bind λr hr=>?_
   refine bK.bind (P:=λc=>c=true->x.iD=[105,110,100,101,120] ∨ x.iD=[47] ∨ x.iD=[37]) ?_ λc hc=>?_
   ·refine bK.iteb (λh=>.some λ_=>.inl (Bn h)) λ_=>bK.iteb (λh=>.some λ_=>.inr (.inl (Bn h))) λ_=>.some λh=>.inr (.inr (Bn h))
   refine bK.iteb (λh=>?_) λh=>.some hr;refine (look_l2 (b:=b) (n:=n) (l2 (hc h)) (by omega) (by omega) n 0 r (by rw [hr.1];exact hT) (by omega) (by omega)).bind λz hz=>.some (hr.trans hz)
end
structure Du (s:bX):Prop where
 lo:tN s.BF
 hi:tN s.rM
def IM (s:bX) (x:Int):Prop:=s.BF<=x/\x<=s.rM
theorem Du.all:Du ⟨0,4294967295⟩:=⟨.z,.m⟩
theorem IM.all {x:Int} (h:tN x):IM ⟨0,4294967295⟩ x:=h
def Bnd (lo hi ws:List Int):Prop:=∀i:Nat,(lo[i]?).getD 0<=(ws[i]?).getD 0/\(ws[i]?).getD 0<=(hi[i]?).getD 4294967295
theorem Vl {l:List Int} (hl:Dt l) {k o:Int} (h1:0<=k) (h2:k<=255) (ho:tN o):bK (Eh l k o) λr=>tN r/\r=(l[k.toNat]?).getD o:=by
 unfold Eh;refine bK.iteb (λh=>?_) λh=>?_
 ·have h:=Bn h;rw [cP (by omega) (by omega)] at h;refine bK.bind' (bK.idx h1 h λx hx=>.some ⟨hl _ (ET hx),by rw [hx];rfl⟩)
 ·have h:=OB h;rw [cP (by omega) (by omega)] at h;exact .some ⟨ho,by rw [SB (by omega)];rfl⟩
section
variable {a b:Int} (ha:tN a) (hb:tN b)
include ha hb
theorem add32:qH a b 0=some ((a+b) % 4294967296,(a+b) / 4294967296):=by
 obtain ⟨a1,a2⟩:=ha;obtain ⟨b1,b2⟩:=hb;unfold qH Ho;simp only [IntKind.wrap_u32,IntKind.wrap_u64];have e:min (32:Int).toNat IntKind.u64.bits=32:=rfl;rw [e,xfj _ (by decide)]
 congr 2 <;> omega
theorem mul32:rW a b=some ((a*b) / 4294967296,(a*b) % 4294967296):=by
 obtain ⟨a1,a2⟩:=ha;obtain ⟨b1,b2⟩:=hb;unfold rW Ho;simp only [IntKind.wrap_u32,IntKind.wrap_u64];have e:min (32:Int).toNat IntKind.u64.bits=32:=rfl;have h1:0<=a*b:=Int.mul_nonneg a1 b1;have h2:a*b<=4294967295*4294967295:=Int.mul_le_mul a2 b2 b1 (by decide);rw [e,xfj _ (by decide),Int.emod_eq_of_lt a1 (show a<18446744073709551616 by omega),Int.emod_eq_of_lt b1 (show b<18446744073709551616 by omega)]
 generalize a*b=q at *
 congr 2 <;> omega
theorem and32:wD .u32 a b<=a/\wD .u32 a b<=b:=by
 obtain ⟨a1,a2⟩:=ha;obtain ⟨b1,b2⟩:=hb;obtain ⟨x,rfl⟩:=xej a1;obtain ⟨y,rfl⟩:=xej b1;unfold wD;rw [IntKind.wrap_u32,BitVec.toNat_and]
 have e:∀z:Nat,(z:Int)<=4294967295->(BitVec.ofInt IntKind.u32.bits (z:Int)).toNat=z:=λz hz=>by
  show (BitVec.ofInt 32 (z:Int)).toNat=z;rw [BitVec.toNat_ofInt];omega
 rw [e x a2,e y b2];have h1:x &&& y<=x:=Nat.and_le_left;have h2:x &&& y<=y:=Nat.and_le_right;omega
end
theorem divs {a b x y:Int} (h0:0<=a) (h1:a<=x) (h2:0<y) (h3:y<=b):a / b<=x / y:=by
 obtain ⟨a,rfl⟩:=xej h0;obtain ⟨x,rfl⟩:=xej (Int.le_trans h0 h1);obtain ⟨y,rfl⟩:=xej (Int.le_of_lt h2);obtain ⟨b,rfl⟩:=xej (show 0<=b by omega);have:=Nat.div_le_div (a:=a) (b:=x) (c:=b) (d:=y) (by omega) (by omega) (by omega)
 exact_mod_cast this
theorem LU {x:Int} (h:tN x):IntKind.u32.wrap x=x:=by obtain ⟨h1,h2⟩:=h;rw [IntKind.wrap_u32];omega
theorem OL {o:Int} (h5:5<=o) (h17:o<=17) {a b:bX} (ha:Du a) (hb:Du b):bK (wI o a b) λs=>Du s/\∀x y v,tN x->tN y->IM a x->IM b y->jX o x y=some (v,true)->IM s v:=by
 have hw:∀ {x y v:Int},tN x->tN y->jX o x y=some (v,true)->tN v:=λhx hy h=>by
  obtain ⟨r,e,hr⟩:=PT o hx hy;rw [h] at e;rw [←bV e] at hr;exact hr
 have hall:bK (some (bX.mk 0 4294967295)) λs=>Du s/\∀x y v,tN x->tN y->IM a x->IM b y->jX o x y=some (v,true)->IM s v:=.some ⟨.all,λx y v hx hy _ _ h=>.all (hw hx hy h)⟩
 have hbool:∀ {c:Bool} {v:Int},some ((if c=true then (1:Int) else 0),true)=some (v,true)->IM ⟨0,1⟩ v:=λ{c v} h=>by
  have h:=congrArg Prod.fst (bV h);simp only at h;rw [←h];unfold IM;cases c <;> decide
 obtain ⟨⟨al0,al1⟩,⟨ah0,ah1⟩⟩:=ha;obtain ⟨⟨bl0,bl1⟩,⟨bh0,bh1⟩⟩:=hb;unfold wI;refine bK.iteb (λh=>?_) λn8=>bK.iteb (λh=>?_) λn9=>bK.iteb (λh=>?_) λn7=>bK.iteb (λh=>?_) λn13=>bK.iteb (λh=>?_) λn14=>bK.iteb (λh=>?_) λn15=>bK.iteb (λh=>?_) λn16=>bK.iteb (λh=>?_) λn17=>bK.iteb (λh=>?_) λ_=>hall
 ·obtain rfl:o=8:=by simpa using h
  refine .some ⟨⟨.z,.i⟩,λx y v _ _ _ _ h=>?_⟩;have e:jX 8 x y=some (if (x == y)=true then 1 else 0,true):=by unfold jX;rw [zE];rfl
  rw [e] at h;exact hbool h
 ·obtain rfl:o=9:=by simpa using h
  refine .some ⟨⟨.z,.i⟩,λx y v _ _ _ _ h=>?_⟩;have e:jX 9 x y=some (if decide (x<y)=true then 1 else 0,true):=by unfold jX;rw [zE,zE];rfl
  rw [e] at h;exact hbool h
 ·obtain rfl:o=7:=by simpa using h
  refine .some ⟨⟨.z,by unfold tN;simp only;omega⟩,λx y v hx hy ⟨i1,i2⟩ ⟨j1,j2⟩ h=>?_⟩;have hv:=hw hx hy h;have e:jX 7 x y=some (wD .u32 x y,true):=rfl;rw [e] at h;have h:=congrArg Prod.fst (bV h);have:=and32 hx hy;unfold IM;unfold tN at hv;simp only at h ⊢;omega
 ·obtain rfl:o=13:=by simpa using h
  unfold Fk;rw [add32 ⟨al0,al1⟩ ⟨bl0,bl1⟩,add32 ⟨ah0,ah1⟩ ⟨bh0,bh1⟩,iN,iN];refine bK.bind (P:=λs=>Du s/\∀x y v,tN x->tN y->IM a x->IM b y->jX 13 x y=some (v,true)->IM s v) (bK.iteb (λ_=>hall) λh=>.some ⟨⟨?_,?_⟩,λx y v ⟨x0,x1⟩ ⟨y0,y1⟩ ⟨i1,i2⟩ ⟨j1,j2⟩ hv=>?_⟩) λ_ h=>.some h
  ·unfold tN;simp only;omega
  ·unfold tN;simp only;omega
  ·have e:jX 13 x y=some (IntKind.u32.wrap (x+y),true):=rfl;rw [e,IntKind.wrap_u32] at hv;have hv:=congrArg Prod.fst (bV hv);have h:¬ (a.rM+b.rM) / 4294967296=1:=by simpa using h
   unfold IM;simp only at hv ⊢;omega
 ·obtain rfl:o=14:=by simpa using h
  refine bK.iteb (λh=>.some ⟨⟨.wrap _,.wrap _⟩,λx y v ⟨x0,x1⟩ ⟨y0,y1⟩ ⟨i1,i2⟩ ⟨j1,j2⟩ hv=>?_⟩) λ_=>hall;have h:=Bn h;have e:jX 14 x y=some (IntKind.u32.wrap (x - y),true):=rfl;rw [e,IntKind.wrap_u32] at hv;have hv:=congrArg Prod.fst (bV hv);unfold IM;simp only [IntKind.wrap_u32] at hv ⊢;omega
 ·obtain rfl:o=15:=by simpa using h
  unfold xF;rw [mul32 ⟨ah0,ah1⟩ ⟨bh0,bh1⟩,iN];refine bK.bind (P:=λs=>Du s/\∀x y v,tN x->tN y->IM a x->IM b y->jX 15 x y=some (v,true)->IM s v) (bK.iteb (λ_=>hall) λh=>.some ⟨⟨.wrap _,?_⟩,λx y v ⟨x0,x1⟩ ⟨y0,y1⟩ ⟨i1,i2⟩ ⟨j1,j2⟩ hv=>?_⟩) λ_ h=>.some h
  ·unfold tN;simp only;omega
  ·have e:jX 15 x y=some (IntKind.u32.wrap (x*y),true):=rfl;rw [e,IntKind.wrap_u32] at hv;have hv:=congrArg Prod.fst (bV hv);have h:=OB h;have m1:a.BF*b.BF<=x*y:=Int.mul_le_mul i1 j1 bl0 x0;have m2:x*y<=a.rM*b.rM:=Int.mul_le_mul i2 j2 y0 ah0;have m3:0<=a.BF*b.BF:=Int.mul_nonneg al0 bl0;unfold IM;simp only [IntKind.wrap_u32] at h hv ⊢
   generalize a.BF*b.BF=p at *
   generalize x*y=q at *
   generalize a.rM*b.rM=r at *
   omega
 ·obtain rfl:o=16:=by simpa using h
  refine bK.need (by omega) (bK.need (by omega) (.some ⟨⟨.wrap _,.wrap _⟩,λx y v ⟨x0,x1⟩ ⟨y0,y1⟩ ⟨i1,i2⟩ ⟨j1,j2⟩ hv=>?_⟩));have hy:y ≠ 0:=λh=>by subst h;exact absurd (congrArg Prod.snd (bV hv)) (by simp)
  have e:jX 16 x y=some (IntKind.u32.wrap (x.tdiv y),true):=by
   unfold jX;rw [if_neg (by decide),if_neg (by decide),if_neg (by decide),if_neg (by decide),if_neg (by decide),if_pos (by decide),if_neg (by simpa using hy),qR hy]
  rw [e] at hv;have hv:=congrArg Prod.fst (bV hv);simp only at hv;have w1:tN (x / y):=tN.div ⟨x0,x1⟩ y0;have w2:tN (a.BF / max b.rM 1):=tN.div ⟨al0,al1⟩ (by omega);have w3:tN (a.rM / max b.BF 1):=tN.div ⟨ah0,ah1⟩ (by omega);unfold IM;simp only [Int.tdiv_eq_ediv_of_nonneg x0,Int.tdiv_eq_ediv_of_nonneg al0,Int.tdiv_eq_ediv_of_nonneg ah0] at hv ⊢;rw [LU w1] at hv;rw [LU w2,LU w3,←hv];exact ⟨divs al0 i1 (by omega) (by omega),divs x0 i2 (by omega) (by omega)⟩
 ·obtain rfl:o=17:=by simpa using h
  have h1:IntKind.u32.wrap (max b.rM 1 - 1)=max b.rM 1 - 1:=LU (by unfold tN;omega);rw [h1];refine .some ⟨⟨.z,by unfold tN;simp only;omega⟩,λx y v ⟨x0,x1⟩ ⟨y0,y1⟩ ⟨i1,i2⟩ ⟨j1,j2⟩ hv=>?_⟩;have hy:y ≠ 0:=λh=>by subst h;exact absurd (congrArg Prod.snd (bV hv)) (by simp)
  have e:jX 17 x y=some (x.tmod y,true):=by
   unfold jX;rw [if_neg (by decide),if_neg (by decide),if_neg (by decide),if_neg (by decide),if_neg (by decide),if_neg (by decide),if_pos (by decide),if_neg (by simpa using hy),qR hy]
  rw [e,xfd x0] at hv;have hv:=congrArg Prod.fst (bV hv);have m1:=Int.emod_nonneg x hy;have m2:=Int.emod_lt_of_pos x (show 0<y by omega)
  have m3:x % y<=x:=by
   obtain ⟨x',rfl⟩:=xej x0;obtain ⟨y',rfl⟩:=xej y0
   exact_mod_cast Nat.mod_le x' y'
  unfold IM;simp only at hv ⊢;omega
 ·obtain rfl:o=11:=by simpa using h
  refine .some ⟨⟨.z,ah0,ah1⟩,λx y v hx hy ⟨i1,i2⟩ ⟨j1,j2⟩ h=>?_⟩;have hv:=hw hx hy h
  have e:jX 11 x y=some (Ho .u32 x (wD .u32 y 31),true):=by
   show (tE 11 x y).bind (λx16=>some (x16,true))=_
   have:tE 11 x y=some (Ho .u32 x (wD .u32 y 31)):=by
    unfold tE;rw [if_neg (by decide),if_neg (by decide),if_neg (by decide),if_neg (by decide),if_pos (by decide),qR ME]
   rw [this];rfl
  rw [e] at h;have h:=congrArg Prod.fst (bV h)
  have:Ho .u32 x (wD .u32 y 31)<=x:=by
   unfold Ho;rw [xfj _ (Int.pow_nonneg (by decide))];exact Int.ediv_le_self _ hx.1
  unfold IM;unfold tN at hv;simp only at h ⊢;omega
theorem UN {n:Nat} {o:Int} {x y:aN} {ws:List Int} {v:Int} (h:mG (n+1) ⟨o,0,[x,y]⟩ ws=some (v,true)):∃a b,mG n x ws=some (a,true)/\mG n y ws=some (b,true)/\jX o a b=some (v,true):=by
 have h:kZ (mG n) n ⟨o,0,[x,y]⟩ ws=some (v,true):=h;unfold kZ at h;rw [if_neg (by simp),GM,iN] at h;obtain ⟨r,hr,h⟩:=aI h;cases h2:r.2 with
 | false=>
   rw [h2,if_pos (by rfl),iN,if_pos rfl] at h;obtain ⟨_,_,h⟩:=aI h;obtain ⟨_,_,h⟩:=aI h;exact absurd (congrArg Prod.snd (bV h)) (by simp)
 | true=>
   rw [h2,if_neg (by decide),iN,if_neg (by simp)] at h;obtain ⟨y',hy,h⟩:=aI h;obtain rfl:y=y':=bV hy;obtain ⟨s,hs,h⟩:=aI h;cases h3:s.2 with
   | false=>
     rw [h3,if_pos (by rfl)] at h;exact absurd (congrArg Prod.snd (bV h)) (by simp)
   | true=>
     rw [h3,if_neg (by decide)] at h;obtain ⟨z,hz,h⟩:=aI h;exact ⟨r.1,s.1,by rw [hr,←h2],by rw [hs,←h3],by rw [hz,←h]⟩
theorem Tl {t:aN} (h:Sh false t) {lo hi:List Int} (hl:Dt lo) (hh:Dt hi):∀n,tm t<n->bK (tD n t lo hi) λs=>Du s/\∀ws m v,Dt ws->Bnd lo hi ws->tm t<m->mG m t ws=some (v,true)->IM s v:=by
 have hev:∀ {t:aN} {ws m v},Sh false t->Dt ws->tm t<m->mG m t ws=some (v,true)->tN v:=λht hw hm h=>by
  obtain ⟨r,e,hr⟩:=Ow ht hw _ hm;rw [h] at e;rw [←bV e] at hr;exact hr
 induction h with
 | z e=>cases e
 | @con v c1 c2=>
   intro n hn;obtain ⟨m,rfl⟩:∃m,n=m+1:=⟨n - 1,by omega⟩;show bK (nR (tD m) m _ lo hi) _;unfold nR;refine bK.iteb (λ_=>.some ⟨⟨⟨c1,c2⟩,c1,c2⟩,λws k w _ _ hk h=>?_⟩) λh=>nomatch h;obtain ⟨k,rfl⟩:∃j,k=j+1:=⟨k - 1,by omega⟩;have h:some ((v,true):Int × Bool)=some (w,true):=h;have h:=congrArg Prod.fst (bV h);simp only at h;subst h;exact ⟨Sv _,Sv _⟩
 | @var q h1 h2=>
   intro n hn;obtain ⟨m,rfl⟩:∃m,n=m+1:=⟨n - 1,by omega⟩;show bK (nR (tD m) m _ lo hi) _;unfold nR;refine bK.iteb (λh=>nomatch h) λ_=>bK.iteb (λ_=>?_) λh=>nomatch h;refine (Vl hl h1 h2 .z).bind λl ⟨l1,l2⟩=>(Vl hh h1 h2 .m).bind λu ⟨u1,u2⟩=>.some ⟨⟨l1,u1⟩,λws k w hws hb hk h=>?_⟩;obtain ⟨k,rfl⟩:∃j,k=j+1:=⟨k - 1,by omega⟩;have h:(wJ ⟨2,q,[]⟩ ws).bind (λx=>some (x,true))=some (w,true):=h;obtain ⟨x,hx,h⟩:=aI h;have h:=congrArg Prod.fst (bV h);simp only at h;subst h
   have e:x=(ws[q.toNat]?).getD 0:=by
    unfold wJ at hx;rw [if_neg (by simp),cP (show -9223372036854775808<=q by omega) (show q<=9223372036854775807 by omega)] at hx
    by_cases hlt:q<(ws.length:Int)
    ·rw [if_pos (zU hlt)] at hx;obtain ⟨y,hy,hx⟩:=aI hx;obtain rfl:=bV hx;obtain ⟨_,_,hy⟩:=cB hy;rw [hy];rfl
    ·rw [if_neg (by rw [AG];exact hlt)] at hx;rw [←bV hx,SB (by omega)];rfl
   have:=hb q.toNat;unfold IM;rw [e,l2,u2];exact this
 | @un o x ho hx ih=>
   intro n hn;obtain ⟨m,rfl⟩:∃m,n=m+1:=⟨n - 1,by omega⟩;show bK (nR (tD m) m _ lo hi) _;unfold nR;have fin:bK (some (bX.mk 0 4294967295)) λs=>Du s/\∀ws m v,Dt ws->Bnd lo hi ws->tm (⟨o,0,[x]⟩:aN)<m->mG m ⟨o,0,[x]⟩ ws=some (v,true)->IM s v:=.some ⟨.all,λws k v hws _ hk h=>.all (hev (.un ho hx) hws hk h)⟩
   rcases ho with rfl | rfl
   ·exact bK.iteb (λh=>nomatch h) λ_=>bK.iteb (λh=>nomatch h) λ_=>bK.iteb (λ_=>fin) λh=>nomatch h
   ·exact bK.iteb (λh=>nomatch h) λ_=>bK.iteb (λh=>nomatch h) λ_=>bK.iteb (λh=>nomatch h) λ_=>bK.iteb (λ_=>fin) λh=>nomatch h
 | @bin o x y h1 h2 hx hy i1 i2=>
   intro n hn;obtain ⟨m,rfl⟩:∃m,n=m+1:=⟨n - 1,by omega⟩;have hz:tm (⟨o,0,[x,y]⟩:aN)=1+(tm x+(tm y+0)):=by rw [tm,vR,vR,vR]
   rw [hz] at hn;show bK (nR (tD m) m _ lo hi) _;unfold nR;refine bK.iteb (λh=>?_) λ_=>bK.iteb (λh=>?_) λ_=>bK.iteb (λh=>?_) λ_=>bK.iteb (λh=>?_) λ_=>?_
   ·exfalso;have h:o=1:=by simpa using h
    omega
   ·exfalso;have h:o=2:=by simpa using h
    omega
   ·exfalso;have h:o=3:=by simpa using h
    omega
   ·exfalso;have h:o=4:=by simpa using h
    omega
   refine bK.eqn GM ((i1 m (by omega)).bind λa ⟨a1,a2⟩=>bK.eqn Pm ((i2 m (by omega)).bind λb ⟨b1,b2⟩=>(OL h1 h2 a1 b1).bind λs ⟨s1,s2⟩=>.some ⟨s1,λws k v hws hb hk h=>?_⟩));obtain ⟨k,rfl⟩:∃j,k=j+1:=⟨k - 1,by omega⟩;rw [hz] at hk;obtain ⟨p,q,e1,e2,e3⟩:=UN h;exact s2 p q v (hev hx hws (by omega) e1) (hev hy hws (by omega) e2) (a2 ws k p hws hb (by omega) e1) (b2 ws k q hws hb (by omega) e2) e3
section
variable {vs:List aL} {sc:List Int} {c:bH} {x:aF}
theorem No (hT:AD false vs sc c.bP) (h:IK vs sc x) (hb:xz x<=100000000) (hl:Dt c.tT) (hh:Dt c.oO) {n:Nat} (hn:xz x+2100<n):bK (gI n c x) λr=>gI n c x=some r/\tN r.1/\tN r.2:=by
 have key:bK (gI n c x) λr=>tN r.1/\tN r.2:=by
  unfold gI;refine (VA hT h hb hn).bind λr hr=>bK.iteb (λ_=>.some ⟨.z,.m⟩) λhe=>?_
  rcases hr with ⟨_,_,_,h4,h5⟩ | ⟨h1,_⟩
  ·unfold Bp;refine bK.bind (P:=λr=>tN r.1/\tN r.2) ?_ λ_ h=>.some h;exact (Tl h4 hl hh n (by omega)).bind λs hs=>.some ⟨hs.1.lo,hs.1.hi⟩
  ·rw [h1] at he;cases he
 obtain ⟨r,hr,hw⟩:=key;exact ⟨r,hr,hr,hw⟩
end
def eb (e:Int):Bool:=!(e == 0)
theorem Be {e:Int}:eb e=false ↔ e=0:=by unfold eb;simp
theorem UP {e:Int}:eb e=true ↔ e ≠ 0:=by unfold eb;simp
theorem AD.mono {b b':Bool} {vs:List aL} {sc sc':List Int} {T:List aN} (h:AD b vs sc T) (hb:b=true->b'=true) (hs:∀v ∈ sc',v ∈ sc):AD b' vs sc' T:=
 ⟨h.len,λv hv u hu hk=>by obtain ⟨t,h1,h2,h3⟩:=h.ok v (hs v hv) u hu hk;exact ⟨t,h1,h2.mono hb,h3⟩⟩
theorem Er.eb {a b:Int} (h:Er a b):eb a=true->eb b=true:=λe=>by rw [h.keep (UP.1 e)];exact e
theorem BI {α:Type} {l:List α} {i j:Int} {x t:α} (hj:bM l j=some t):(i.toNat=j.toNat/\0<=i->bM (l.set i.toNat x) j=some x)/\(i.toNat ≠ j.toNat->bM (l.set i.toNat x) j=some t):=by
 unfold bM at hj ⊢
 split at hj
 ·rename_i h0;have hlt:=(vQ.1 hj).1;refine ⟨λh=>?_,λh=>?_⟩
  ·rw [if_pos h0,h.1,PQ hlt]
  ·rw [if_pos h0,OJ h];exact hj
 ·cases hj
theorem AD.set {b:Bool} {vs:List aL} {sc:List Int} {T:List aN} (h:AD b vs sc T) {i:Int} {t:aN} (hi:0<=i) (ht:Sh b t) (hz:tm t<=2000):AD b vs sc (T.set i.toNat t):=
 ⟨by rw [rH];exact h.len,λv hv u hu hk=>by
  obtain ⟨s,h1,h2,h3⟩:=h.ok v hv u hu hk
  by_cases e:i.toNat=v.toNat
  ·exact ⟨t,(BI h1).1 ⟨e,hi⟩,ht,hz⟩
  ·exact ⟨s,(BI h1).2 e,h2,h3⟩⟩
theorem DV {α:Type} {l:List α} {i:Int} {x:α} (h:bM l i=some x):0<=i/\i<(l.length:Int):=by obtain ⟨h1,h2,_⟩:=cB h;exact ⟨h1,h2⟩
theorem AD.snoc {b:Bool} {vs:List aL} {sc:List Int} {T:List aN} (h:AD b vs sc T) {i:Int} {t:aN} {u:aL} (hu:bM vs i=some u) (ht:Sh b t) (hz:tm t<=2000):AD b vs (sc++[i]) (T.set i.toNat t):=by
 obtain ⟨h0,h1⟩:=DV hu;have h2:=h.set h0 ht hz;refine ⟨h2.len,λv hv u' hu' hk=>?_⟩
 rcases zC.1 hv with hv | hv
 ·exact h2.ok v hv u' hu' hk
 ·obtain rfl:=Ax.1 hv;refine ⟨t,?_,ht,hz⟩;have hl:=h.len;obtain ⟨s,hs,_⟩:=bK.idx (l:=T) (Q:=λ_=>True) h0 (by omega) λ_ _=>trivial;exact (BI hs).1 ⟨rfl,h0⟩
theorem AD.more {b:Bool} {vs:List aL} {sc:List Int} {T:List aN} (h:AD b vs sc T) {i:Int} {u:aL} (hu:bM vs i=some u) (hk:u.bS ≠ 1):AD b vs (sc++[i]) T:=
 ⟨h.len,λv hv u' hu' hk'=>by
  rcases zC.1 hv with hv | hv
  ·exact h.ok v hv u' hu' hk'
  ·obtain rfl:=Ax.1 hv;rw [hu] at hu';cases hu';exact absurd hk' hk⟩
def Dec (s:aC) (i:Nat):Prop:=s.iD=[108,101,116] ∨ s.iD=[105,102] ∨ s.iD=[102,111,114] ∨ (s.iD=[112,117,116]/\i=0)
structure L2R (vs:List aL) (sc:List Int) (n:Nat) (s:aC) (v:Nat) (y r:aT):Prop where
 e:Er y.e_ r.e_
 c:r.c_={ y.c_ with bP:=r.c_.bP }
 ok:AD (eb r.e_) vs sc r.c_.bP
 no:s.iD ≠ [108,101,116]->r.c_.bP=y.c_.bP
 go:s.iD=[108,101,116]->v<s.aP.length->∃x t,s.aP[v]? = some x/\r.c_.bP=y.c_.bP.set s.gB.toNat t/\tm t<=2000/\Sh (eb r.e_) t/\(r.e_=0->tm (GE y.c_.bP x)<=2000/\pE n (GE y.c_.bP x)=some t)
 un:s.iD=[108,101,116]->¬ v<s.aP.length->r.c_.bP=y.c_.bP
 px:r.e_=0->∀i x,v<=i->s.aP[i]? = some x->Dec s i->IK vs sc x/\tm (GE y.c_.bP x)<=2000
theorem Vj {vs:List aL} {sc:List Int} {n:Nat} {s:aC} (hx:∀z ∈ s.aP,TX vs sc z) (hp:∀(i:Nat) z,s.aP[i]? = some z->Dec s i->IK vs sc z) (hv:s.iD=[108,101,116]->s.aP.length=1/\∃u,bM vs s.gB=some u) (hb:qX s.aP<=100000000) (hn:qX s.aP+2300<n) :
  ∀(k v:Nat) (y:aT),AD (eb y.e_) vs sc y.c_.bP->s.aP.length<v+k->v<=s.aP.length->bK (mN n s k (v:Int) y) (L2R vs sc n s v y):=by
 have hlen:=zS s.aP;intro k
 induction k with
 | zero=>intro v y hT h1 h2;omega
 | succ k ih=>
   intro v y hT h1 h2;unfold mN;refine bK.iteb (λh=>?_) λh=>?_
   rotate_left
   ·have hge:s.aP.length<=v:=by have:=OB h;omega
    exact .some ⟨.refl _,rfl,hT,λ_=>rfl,λ_ h=>absurd h (by omega),λ_ _=>rfl,λ_ i x hi hx=>by rw [SB (by omega)] at hx;cases hx⟩
   have hlt:v<s.aP.length:=by have:=Bn h;omega
   have hg:=uX hlt;have hm:=Nb hlt;have hz:=AN hm;have hstep:IntKind.i64.wrap ((v:Int)+1)=((v+1:Nat):Int):=by rw [cP (by omega) (by omega)];omega
   rw [hstep];refine bK.bind (P:=λr=>Er y.e_ r.e_/\r.c_={ y.c_ with bP:=r.c_.bP }/\AD (eb r.e_) vs sc r.c_.bP/\(s.iD ≠ [108,101,116]->r.c_.bP=y.c_.bP)/\(s.iD=[108,101,116]->∃t,r.c_.bP=y.c_.bP.set s.gB.toNat t/\tm t<=2000/\Sh (eb r.e_) t/\(r.e_=0->tm (GE y.c_.bP s.aP[v])<=2000/\pE n (GE y.c_.bP s.aP[v])=some t))/\(r.e_=0->Dec s v->IK vs sc s.aP[v]/\tm (GE y.c_.bP s.aP[v])<=2000)) ?_ λr hr=>?_
   ·refine bK.eqn (sM hg) ?_;refine (Uj n _ y (hx _ hm) hT (by omega) (by omega)).bind λa ha=>?_;refine bK.bind (P:=λd=>d=true ↔ Dec s v) ?_ λd hd=>?_
    ·unfold Dec;refine bK.iteb (λh=>.some ⟨λ_=>.inl (Bn h),λ_=>rfl⟩) λg1=>bK.iteb (λh=>.some ⟨λ_=>.inr (.inl (Bn h)),λ_=>rfl⟩) λg2=>bK.iteb (λh=>.some ⟨λ_=>.inr (.inr (.inl (Bn h))),λ_=>rfl⟩) λg3=>?_;have g1:=OB g1;have g2:=OB g2;have g3:=OB g3;refine bK.iteb (λh=>.some ⟨λhv=>.inr (.inr (.inr ⟨Bn h,by have:(v:Int)=0:=(by simpa using hv);omega⟩)),λhv=>?_⟩) λg4=>.some ⟨λh=>(nomatch h),λhv=>?_⟩
     ·rcases hv with h | h | h | ⟨_,h⟩
      ·exact absurd h g1
      ·exact absurd h g2
      ·exact absurd h g3
      ·subst h;rfl
     ·have g4:=OB g4
      rcases hv with h | h | h | ⟨h,_⟩
      ·exact absurd h g1
      ·exact absurd h g2
      ·exact absurd h g3
      ·exact absurd h g4
    have hTa:AD (eb y.e_) vs sc a.c_.bP:=by rw [ha.1];exact hT
    refine bK.iteb (λhd1=>?_) λhd0=>?_
    ·have hdec:=hd.1 hd1;have hpx:=hp v _ hg hdec;refine (LK hTa hpx (by omega) (by omega)).bind λw hw=>?_;obtain ⟨w1,w2,w3,w4⟩:=hw;have hew:=ha.2.trans w2;have hwc:w.2.c_=y.c_:=w1.trans ha.1
     have hpl:w.2.e_=0->tm (GE y.c_.bP s.aP[v])<=2000/\pE n (GE y.c_.bP s.aP[v])=some w.1/\Sh (eb y.e_) w.1:=λh0=>by
      rcases w3 with ⟨h1,h2,h3,_⟩ | ⟨_,_,h3⟩
      ·rw [ha.1] at h1 h2;exact ⟨h1,h2,h3⟩
      ·exact absurd h0 h3
     refine bK.iteb (λhl=>?_) λhl=>?_
     ·have hl:=Bn hl;obtain ⟨_,u,hu⟩:=hv hl;obtain ⟨h0,hu1⟩:=DV hu;refine (bK.idx (Q:=λ_=>True) h0 (by rw [hwc,hT.len];exact hu1) λ_ _=>trivial).bind λ_ _=>?_
      have hsh:Sh (eb w.2.e_) w.1:=by
       rcases w3 with ⟨_,_,h3,_⟩ | ⟨_,h2,h3⟩
       ·exact h3.mono hew.eb
       ·rw [h2];exact .z (UP.2 h3)
      refine .some ⟨hew,by simp only [hwc],?_,λh=>absurd hl h,λ_=>⟨w.1,by simp only [hwc],w4,hsh,λh=>⟨(hpl h).1,(hpl h).2.1⟩⟩,λh _=>⟨hpx,(hpl h).1⟩⟩;simp only [hwc];exact (hT.mono hew.eb λ_ h=>h).set h0 hsh w4
     ·have hl:=OB hl;exact .some ⟨hew,by rw [hwc],by rw [hwc];exact hT.mono hew.eb λ_ h=>h,λ_=>by rw [hwc],λh=>absurd h hl,λh _=>⟨hpx,(hpl h).1⟩⟩
    ·have hnd:¬ Dec s v:=λh=>by rw [hd.2 h] at hd0;cases hd0
     exact .some ⟨ha.2,by rw [ha.1],by rw [ha.1];exact hT.mono ha.2.eb λ_ h=>h,λ_=>by rw [ha.1],λh=>absurd (.inl h) hnd,λ_ h=>absurd h hnd⟩
   ·obtain ⟨r1,r2,r3,r4,r5,r6⟩:=hr;refine (ih (v+1) r r3 (by omega) (by omega)).mono λz hz=>⟨r1.trans hz.e,by rw [hz.c,r2],hz.ok,λh=>(hz.no h).trans (r4 h),λh _=>?_,λh h'=>absurd hlt h',λh0 i x hi hxi hd=>?_⟩
    ·have hl1:=(hv h).1;have hT2:=hz.un h (by omega);obtain ⟨t,q1,q2,q3,q4⟩:=r5 h;exact ⟨_,t,hg,by rw [hT2,q1],q2,q3.mono hz.e.eb,λh0=>q4 (hz.e.zero h0)⟩
    ·have hr0:=hz.e.zero h0
     rcases xef v i with hlt2 | hge
     ·have hnl:s.iD ≠ [108,101,116]:=λh=>by
       have:=(hv h).1;have:=(vQ.1 hxi).1;omega
      obtain ⟨k1,k2⟩:=hz.px h0 i x hlt2 hxi hd;rw [r4 hnl] at k2;exact ⟨k1,k2⟩
     ·obtain rfl:i=v:=by omega
      rw [hg] at hxi;cases hxi
      exact r6 hr0 hd
def Oj (s:aC):List aF:=if s.iD=[108,101,116] ∨ s.iD=[105,102] ∨ s.iD=[102,111,114] then s.aP else if s.iD=[112,117,116] then s.aP.take 1 else []
def KK (s:aC):List Int:=if s.iD=[102,111,114] then [s.gB] else []
def RM (s:aC):List Int:=if s.iD=[102,111,114] ∨ s.iD=[108,101,116] then [s.gB] else []
mutual
def frS:aC->List Int
 | ⟨o,v,f,l,b,e,a⟩=>KK ⟨o,v,f,l,b,e,a⟩++(Bd b++Bd e)
def Bd:List aC->List Int
 | []=>[]
 | s::l=>frS s++Bd l
end
mutual
def dvS:aC->List Int
 | ⟨o,v,f,l,b,e,a⟩=>RM ⟨o,v,f,l,b,e,a⟩++(MW b++MW e)
def MW:List aC->List Int
 | []=>[]
 | s::l=>dvS s++MW l
end
mutual
def pbS:aC->List aF
 | ⟨o,v,f,l,b,e,a⟩=>Oj ⟨o,v,f,l,b,e,a⟩++(MT b++MT e)
def MT:List aC->List aF
 | []=>[]
 | s::l=>pbS s++MT l
end
theorem Pq (s:aC):frS s=KK s++(Bd s.bY++Bd s.gT):=by cases s;rw [frS]
theorem dvS_eq (s:aC):dvS s=RM s++(MW s.bY++MW s.gT):=by cases s;rw [dvS]
theorem pbS_eq (s:aC):pbS s=Oj s++(MT s.bY++MT s.gT):=by cases s;rw [pbS]
inductive PV (L:List Int):aF->Prop
 | num {n a}:PV L ⟨[110,117,109],1,n,-1,[],a⟩
 | var {v a}:v ∈ L->PV L ⟨[118,97,114],1,0,v,[],a⟩
 | un {o x a}:(o=[110,111,116] ∨ o=[110,101,103])->PV L x->PV L ⟨o,1,0,-1,[x],a⟩
 | bin {o x y a}:KA o->PV L x->PV L y->PV L ⟨o,1,0,-1,[x,y],a⟩
theorem IK.pv {vs:List aL} {sc pl:List Int} (hc:∀v ∈ sc,∀u,bM vs v=some u->u.bS=1->v ∈ pl) {x:aF} (h:IK vs sc x):PV pl x:=by
 induction h with
 | num=>exact .num
 | var h1 h2 h3=>exact .var (hc _ h1 _ h2 h3)
 | un h _ ih=>exact .un h ih
 | bin h _ _ i1 i2=>exact .bin h i1 i2
theorem PV.mono {L L':List Int} (hl:∀v ∈ L,v ∈ L') {x:aF} (h:PV L x):PV L' x:=by
 induction h with
 | num=>exact .num
 | var h=>exact .var (hl _ h)
 | un h _ ih=>exact .un h ih
 | bin h _ _ i1 i2=>exact .bin h i1 i2
theorem Nz {T:List aN} {ty n v a:Int} {l:List aF}:GE T ⟨[118,97,114],ty,n,v,l,a⟩=(bM T v).getD tz0:=by rw [GE,if_neg (by decide),if_pos rfl]
theorem PV.plx {L:List Int} {T T':List aN} (hl:∀v ∈ L,bM T' v=bM T v) {x:aF} (h:PV L x):GE T' x=GE T x:=by
 induction h with
 | num=>rw [Hv,Hv]
 | @var v a h=>
   rw [Nz,Nz,hl _ h]
 | un h _ ih=>
   obtain ⟨n1,n2,_⟩:=Sign1.ne h;rw [CU n1 n2,CU n1 n2,Bs,Bs,Bs,Bs,ih]
 | bin h _ _ i1 i2=>
   obtain ⟨n1,n2,_⟩:=h.ne;rw [CU n1 n2,CU n1 n2,Bs,Bs,Bs,Bs,Bs,Bs,i1,i2]
def QX (T:List aN) (L:List Int) (x:aF):Prop:=PV L x/\Sh false (GE T x)/\tm (GE T x)<=2000/\xz x<=50000000
theorem QX.mono {T T':List aN} {L L':List Int} {x:aF} (h:QX T L x) (hl:∀v ∈ L,v ∈ L') (ht:∀v ∈ L,bM T' v=bM T v):QX T' L' x:=by
 obtain ⟨h1,h2,h3,h4⟩:=h;refine ⟨h1.mono hl,?_,?_,h4⟩
 ·rw [h1.plx ht];exact h2
 ·rw [h1.plx ht];exact h3
def WL (y:aT):Prop:=Dt y.c_.tT/\Dt y.c_.oO
theorem Dt.snoc {l:List Int} {x:Int} (h:Dt l) (k:tN x):Dt (l++[x]):=λy hy=>by
 rcases zC.1 hy with hy | hy
 ·exact h y hy
 ·rw [Ax.1 hy];exact k
def DOk (pl dv:List Int):Prop:=dv.Nodup/\∀v ∈ dv,v ∉ pl/\0<=v
structure Su (pl dv fr:List Int) (pb:List aF) (y r:aT):Prop where
 fors:r.c_.gW=y.c_.gW++fr
 low:r.c_.tT.length=y.c_.tT.length+fr.length
 high:r.c_.oO.length=y.c_.oO.length+fr.length
 un:∀v,0<=v->v ∉ dv->bM r.c_.bP v=bM y.c_.bP v
 sub:∀v ∈ fr,v ∈ dv
 nn:∀v ∈ dv,0<=v
 w:WL y->WL r
 ok:DOk pl dv->(∀v ∈ pl,0<=v)->(∀v ∈ dv,∃t,bM r.c_.bP v=some t/\Sh false t/\tm t<=2000)/\(∀(k:Nat) v,fr[k]? = some v->bM r.c_.bP v=some ⟨2,((4+y.c_.gW.length+k:Nat):Int),[]⟩)/\∀x ∈ pb,QX r.c_.bP (pl++dv) x
theorem Su.refl (pl:List Int) (y:aT):Su pl [] [] [] y y:=
 ⟨(iH _).symm,rfl,rfl,λ_ _ _=>rfl,λ_ h=>h,λ_ h=>(nomatch h),λh=>h,λ_ _=>⟨λ_ h=>(nomatch h),λk v h=>(nomatch h),λ_ h=>(nomatch h)⟩⟩
theorem Su.app {pl pl2 dv dv2 fr fr2:List Int} {pb pb2:List aF} {y d r:aT} (h:Su pl dv fr pb y d) (k:Su pl2 dv2 fr2 pb2 d r) (hp:∀v ∈ pl2,v ∈ pl ∨ v ∈ dv):Su pl (dv++dv2) (fr++fr2) (pb++pb2) y r:=by
 refine ⟨by rw [k.fors,h.fors,Jv],by rw [k.low,h.low,mY];omega,by rw [k.high,h.high,mY];omega,λv h0 hv=>?_,λv hv=>?_,λv hv=>?_,λh0=>k.w (h.w h0),λhd hpl=>?_⟩
 ·rw [zC,not_or] at hv;rw [k.un v h0 hv.2,h.un v h0 hv.1]
 ·rcases zC.1 hv with hv | hv
  ·exact Ju _ (h.sub v hv)
  ·exact MP _ (k.sub v hv)
 ·rcases zC.1 hv with hv | hv
  ·exact h.nn v hv
  ·exact k.nn v hv
 ·obtain ⟨d1,d2⟩:=hd;obtain ⟨n1,n2,n3⟩:=List.nodup_append.1 d1;obtain ⟨a1,a2,a3⟩:=h.ok ⟨n1,λv hv=>d2 v (Ju _ hv)⟩ hpl
  obtain ⟨b1,b2,b3⟩:=k.ok ⟨n2,λv hv=>by
   obtain ⟨c1,c2⟩:=d2 v (MP _ hv);refine ⟨λhv2=>?_,c2⟩
   rcases hp v hv2 with h5 | h5
   ·exact c1 h5
   ·exact n3 v h5 v hv rfl⟩ (λv hv=>by
    rcases hp v hv with h5 | h5
    ·exact hpl v h5
    ·exact h.nn v h5)
  have hun:∀v,v ∈ dv->v ∉ dv2:=λv h5 h6=>n3 v h5 v h6 rfl;refine ⟨λv hv=>?_,λj v hj=>?_,λx hx=>?_⟩
  ·rcases zC.1 hv with hv | hv
   ·rw [k.un v (h.nn v hv) (hun v hv)];exact a1 v hv
   ·exact b1 v hv
  ·rcases xef j fr.length with hlt | hge
   ·rw [Nc hlt] at hj;have hm:=h.sub v (ET hj);rw [k.un v (h.nn v hm) (hun v hm)];exact a2 j v hj
   ·rw [OE hge] at hj;rw [b2 _ v hj,h.fors,mY]
    congr 3;omega
  ·rcases zC.1 hx with hx | hx
   ·refine (a3 x hx).mono (λv hv=>?_) λv hv=>?_
    ·rcases zC.1 hv with hv | hv
     ·exact Ju _ hv
     ·exact MP _ (Ju _ hv)
    ·rcases zC.1 hv with hv | hv
     ·exact k.un v (hpl v hv) λh6=>(d2 v (MP _ h6)).1 hv
     ·exact k.un v (h.nn v hv) (hun v hv)
   ·refine (b3 x hx).mono (λv hv=>?_) λv hv=>rfl
    rcases zC.1 hv with hv | hv
    ·rcases hp v hv with h5 | h5
     ·exact Ju _ h5
     ·exact MP _ (Ju _ h5)
    ·exact MP _ (MP _ hv)
def Ee (y:aT) (m:Nat):Prop:=y.c_.gW.length+m<=250/\(y.c_.tT.length=4+y.c_.gW.length/\y.c_.oO.length=4+y.c_.gW.length)/\WL y
structure BkC (vs:List aL) (sc sc' pl:List Int) (ss:List aC) (y r:aT):Prop where
 e:Er y.e_ r.e_
 t1:AD (eb r.e_) vs sc r.c_.bP
 ok:r.e_=0->AD false vs sc' r.c_.bP/\Su pl (MW ss) (Bd ss) (MT ss) y r
theorem Ee.app {pl dv fr:List Int} {pb:List aF} {y r:aT} {m:Nat} (h:Ee y (fr.length+m)) (k:Su pl dv fr pb y r):Ee r m:=by
 obtain ⟨h1,⟨h2,h3⟩,hw⟩:=h;have h4:=congrArg List.length k.fors;rw [mY] at h4;have h5:=k.low;have h6:=k.high;exact ⟨by omega,⟨by omega,by omega⟩,k.w hw⟩
theorem Ee.less {y:aT} {m m':Nat} (h:Ee y m) (hm:m'<=m):Ee y m':=⟨by have:=h.1;omega,h.2⟩
theorem Ui {vs:List aL} {sc:List Int} {n:Nat} {y:aT} {v:Int} {f a:Int} {x z:aF} {b e:List aC} {u:aL} (hT:AD false vs sc y.c_.bP) (hx:IK vs sc x) (hz:IK vs sc z) (hu:bM vs v=some u) (hL:Ee y 1) (hbx:xz x<=50000000) (hbz:xz z<=50000000) (hn:50003000<n) :
  bK (lG n y ⟨[102,111,114],v,f,[x,z],b,e,a⟩) λr=>r.e_=y.e_/\r.c_.bP=y.c_.bP.set v.toNat ⟨2,((4+y.c_.gW.length:Nat):Int),[]⟩/\r.c_.gW=y.c_.gW++[v]/\∃s1 s2,gI n y.c_ x=some s1/\gI n y.c_ z=some s2/\r.c_.tT=y.c_.tT++[s1.1]/\r.c_.oO=y.c_.oO++[max s1.1 (IntKind.u32.wrap (max s2.2 1 - 1))]/\WL r:=by
 unfold lG;obtain ⟨l1,⟨l2,l3⟩,w1,w2⟩:=hL;obtain ⟨h0,hu1⟩:=DV hu;refine bK.eqn GM ?_;refine (No hT hx (by omega) w1 w2 (n:=n) (by omega)).bind λs1 ⟨e1,u1,_⟩=>?_;refine bK.eqn (v:=z) rfl ?_;refine (No hT hz (by omega) w1 w2 (n:=n) (by omega)).bind λs2 ⟨e2,_,u2⟩=>?_;refine bK.eqn (v:=⟨2,((4+y.c_.gW.length:Nat):Int),[]⟩) ?_ ?_
 ·unfold Ei;rw [cP (by omega) (by omega),IntKind.wrap_u32]
  congr 2;omega
 refine (bK.idx (Q:=λ_=>True) h0 (by rw [hT.len];exact hu1) λ_ _=>trivial).bind λ_ _=>?_;refine bK.need (by simp only [vX];omega) (bK.need (by simp only [vX];omega) (bK.need (by simp only [vX];omega) (.some ⟨rfl,rfl,rfl,s1,s2,e1,e2,rfl,rfl,w1.snoc u1,w2.snoc (by have hw:=tN.wrap (max s2.2 1 - 1);unfold tN at u1 hw ⊢;omega)⟩)))
theorem dec_mem {s:aC} {x:aF} (h:x ∈ Oj s):∃i:Nat,s.aP[i]? = some x/\Dec s i:=by
 unfold Oj at h
 split at h
 ·rename_i ho;obtain ⟨i,hi⟩:=List.getElem?_of_mem h;refine ⟨i,hi,?_⟩
  rcases ho with ho | ho | ho
  ·exact .inl ho
  ·exact .inr (.inl ho)
  ·exact .inr (.inr (.inl ho))
 ·split at h
  ·rename_i ho;cases hl:s.aP with
   | nil=>rw [hl] at h;cases h
   | cons z l=>
     rw [hl] at h;have h:x ∈ [z]:=h;rw [Ax.1 h];exact ⟨0,rfl,.inr (.inr (.inr ⟨ho,rfl⟩))⟩
  ·cases h
theorem UQ {vs:List aL} {sc pl:List Int} {n:Nat} {s:aC} {y r:aT} (hT:AD false vs sc y.c_.bP) (hc:∀v ∈ sc,∀u,bM vs v=some u->u.bS=1->v ∈ pl) (hb:qX s.aP<=50000000) (h:L2R vs sc n s 0 y r) (h0:r.e_=0):∀x ∈ Oj s,QX y.c_.bP pl x:=by
 intro x hx;obtain ⟨i,hi,hd⟩:=dec_mem hx;obtain ⟨p1,p2⟩:=h.px h0 i x (KL _) hi hd;have:=AN (ET hi);exact ⟨p1.pv hc,(JM hT p1).1,p2,by omega⟩
theorem TS {vs:List aL} {sc pl:List Int} {n:Nat} {s:aC} {y r:aT} (hT:AD false vs sc y.c_.bP) (hc:∀v ∈ sc,∀u,bM vs v=some u->u.bS=1->v ∈ pl) (hb:qX s.aP<=50000000) (h:L2R vs sc n s 0 y r) (h0:r.e_=0) (hf:s.iD ≠ [102,111,114]) (hl:s.iD=[108,101,116]->s.aP.length=1/\∃u,bM vs s.gB=some u):Su pl (RM s) (KK s) (Oj s) y r:=by
 have hq:=UQ hT hc hb h h0;have hcc:=h.c;unfold RM KK;rw [if_neg hf]
 by_cases ho:s.iD=[108,101,116]
 ·rw [if_pos (.inr ho)];obtain ⟨l1,u,hu⟩:=hl ho;obtain ⟨b0,b1⟩:=DV hu;obtain ⟨x,t,g1,g2,g3,g4,g5⟩:=h.go ho (by omega)
  have hun:∀v,0<=v->v ∉ [s.gB]->bM r.c_.bP v=bM y.c_.bP v:=λv hv hv2=>by
   rw [g2];have hne:s.gB.toNat ≠ v.toNat:=λe=>hv2 (Ax.2 (by omega));cases hi:bM y.c_.bP v with
   | some w=>exact (BI hi).2 hne
   | none=>
     unfold bM at hi ⊢;rw [if_pos hv] at hi ⊢;rw [OJ hne];exact hi
  refine ⟨by rw [hcc,iH],by rw [hcc];rfl,by rw [hcc];rfl,hun,λ_ h=>(nomatch h),λv hv=>by rw [Ax.1 hv];exact b0,λh=>by unfold WL at *;rw [hcc];exact h,λhd hpl=>⟨λv hv=>?_,λk v h=>(nomatch h),λx hx=>?_⟩⟩
  ·rw [Ax.1 hv,g2];obtain ⟨w,hw,_⟩:=bK.idx (l:=y.c_.bP) (Q:=λ_=>True) b0 (by rw [hT.len];exact b1) λ_ _=>trivial;exact ⟨t,(BI hw).1 ⟨rfl,b0⟩,by rw [Be.2 h0] at g4;exact g4,g3⟩
  ·exact (hq x hx).mono (λv hv=>Ju _ hv) λv hv=>hun v (hpl v hv) λh6=>(hd.2 v h6).1 hv
 ·rw [if_neg (by rintro (h | h);exact hf h;exact ho h)];have hTT:=h.no ho;refine ⟨by rw [hcc,iH],by rw [hcc];rfl,by rw [hcc];rfl,λv _ _=>by rw [hTT],λ_ h=>(nomatch h),λ_ h=>(nomatch h),λh=>by unfold WL at *;rw [hcc];exact h,λhd hpl=>⟨λv hv=>(nomatch hv),λk v h=>(nomatch h),λx hx=>?_⟩⟩;exact (hq x hx).mono (λv hv=>Ju _ hv) λv hv=>by rw [hTT]
theorem own_for {vs:List aL} {sc pl:List Int} {n:Nat} {s:aC} {y a r:aT} (hT:AD false vs sc y.c_.bP) (hc:∀v ∈ sc,∀u,bM vs v=some u->u.bS=1->v ∈ pl) (hb:qX s.aP<=50000000) (h:L2R vs sc n s 0 y a) (h0:a.e_=0) (hf:s.iD=[102,111,114]) {u:aL} (hu:bM vs s.gB=some u) (hL:y.c_.gW.length<=249)
  (r1:r.c_.bP=a.c_.bP.set s.gB.toNat ⟨2,((4+a.c_.gW.length:Nat):Int),[]⟩) (r2:r.c_.gW=a.c_.gW++[s.gB]) (r3:r.c_.tT.length=a.c_.tT.length+1) (r4:r.c_.oO.length=a.c_.oO.length+1) (r5:WL r):Su pl (RM s) (KK s) (Oj s) y r:=by
 have hq:=UQ hT hc hb h h0;have hcc:=h.c;have hTT:=h.no (by rw [hf];decide);have hF:a.c_.gW=y.c_.gW:=by rw [hcc]
 unfold RM KK;rw [if_pos hf,if_pos (.inl hf)];obtain ⟨b0,b1⟩:=DV hu;rw [hTT,hF] at r1
 have hun:∀v,0<=v->v ∉ [s.gB]->bM r.c_.bP v=bM y.c_.bP v:=λv hv hv2=>by
  rw [r1];have hne:s.gB.toNat ≠ v.toNat:=λe=>hv2 (Ax.2 (by omega));cases hi:bM y.c_.bP v with
  | some w=>exact (BI hi).2 hne
  | none=>
    unfold bM at hi ⊢;rw [if_pos hv] at hi ⊢;rw [OJ hne];exact hi
 have hat:bM r.c_.bP s.gB=some ⟨2,((4+y.c_.gW.length:Nat):Int),[]⟩:=by
  rw [r1];obtain ⟨w,hw,_⟩:=bK.idx (l:=y.c_.bP) (Q:=λ_=>True) b0 (by rw [hT.len];exact b1) λ_ _=>trivial;exact (BI hw).1 ⟨rfl,b0⟩
 refine ⟨by rw [r2,hF],by rw [r3,hcc];rfl,by rw [r4,hcc];rfl,hun,λ_ h=>h,λv hv=>by rw [Ax.1 hv];exact b0,λ_=>r5,λhd hpl=>⟨λv hv=>?_,λk v hk=>?_,λx hx=>?_⟩⟩
 ·rw [Ax.1 hv];exact ⟨_,hat,.var (by omega) (by omega),by rw [tm,vR];omega⟩
 ·cases k with
  | zero=>injection hk with hk;subst hk;exact hat
  | succ k=>cases hk
 ·exact (hq x hx).mono (λv hv=>Ju _ hv) λv hv=>hun v (hpl v hv) λh6=>(hd.2 v h6).1 hv
abbrev Bf:=aT->List aC->Option aT
def NS (f:Bf) (n:Nat) (s:aC) (y:aT):Option (aT ⊕ aT):=
 (mN n s n (0:Int) y).bind λy20=>
 (if (y20.e_ == (0:Int))=true then some (decide (s.iD=[102,111,114])) else some false).bind λy79=>
 if y79=true then
  (lG n y20 s).bind λx85=>
  if (x85.e_ != (0:Int))=true then some (.inr x85) else
   (f x85 s.bY).bind λx88=>(f x88 s.gT).bind λx90=>some (.inl x90)
 else if (y20.e_ != (0:Int))=true then some (.inr y20) else
  (f y20 s.bY).bind λx93=>(f x93 s.gT).bind λx95=>some (.inl x95)
theorem Mp {f:Bf} {n:Nat} {full:List aC} {k v:Nat} {s:aC} {y:aT} {Q:aT ⊕ aT->Prop} (hg:full[v]? = some s) (hl:full.length<=100000000)
  (h:bK (NS f n s y) λz=>(∀d,z=.inl d->bK (fY f n full k ((v+1:Nat):Int) d) Q)/\∀d,z=.inr d->Q (.inr d)):bK (fY f n full (k+1) (v:Int) y) Q:=by
 have hlt:=(vQ.1 hg).1;unfold fY;refine bK.iteb (λ_=>?_) λh=>absurd h (by rw [zU (by omega)];decide);refine bK.bind (bK.eqn (sM hg) h) λz hz=>?_;rw [show IntKind.i64.wrap ((v:Int)+1)=((v+1:Nat):Int) by rw [cP (by omega) (by omega)];omega];exact bK.elim (λd e=>hz.1 d e) λd e=>.some (hz.2 d e)
section
variable {vs:List aL} {sc pl:List Int} {n:Nat} {s:aC} {y:aT} {f:Bf}
structure Vq (vs:List aL) (sc:List Int) (s:aC):Prop where
 tx:∀z ∈ s.aP,TX vs sc z
 px:∀(i:Nat) z,s.aP[i]? = some z->Dec s i->IK vs sc z
 lt:s.iD=[108,101,116]->s.aP.length=1/\∃u,bM vs s.gB=some u
theorem Qk (h:Vq vs sc s) (hT:AD (eb y.e_) vs sc y.c_.bP) (hb:qX s.aP<=50000000) (hn:100003000<n) (hf:s.iD ≠ [102,111,114]) {Q:aT ⊕ aT->Prop}
  (h1:∀a,L2R vs sc n s 0 y a->a.e_ ≠ 0->Q (.inr a)) (h2:∀a,L2R vs sc n s 0 y a->a.e_=0->bK ((f a s.bY).bind λx=>(f x s.gT).bind λx=>some (.inl x)) Q):bK (NS f n s y) Q:=by
 have hlen:=zS s.aP;unfold NS;refine (Vj h.tx h.px h.lt (by omega) (by omega) n 0 y hT (by omega) (by omega)).bind λa ha=>?_;refine bK.bind (P:=λc=>c=false) ?_ λc hc=>?_
 ·exact bK.iteb (λ_=>.some (xek hf)) λ_=>.some rfl
 subst hc;rw [if_neg (by decide)];refine bK.iteb (λh0=>.some (h1 a ha (by simpa using h0))) λh0=>h2 a ha (by simpa using h0)
theorem Ux (h:Vq vs sc s) (hT:AD (eb y.e_) vs sc y.c_.bP) (hb:qX s.aP<=50000000) (hn:100003000<n) {x z:aF} (hs:s=⟨[102,111,114],s.gB,s.iE,[x,z],s.bY,s.gT,s.fB⟩) {u:aL} (hu:bM vs s.gB=some u) (hL:y.e_=0->Ee y 1) {Q:aT ⊕ aT->Prop}
  (h1:∀a,L2R vs sc n s 0 y a->a.e_ ≠ 0->Q (.inr a)) (h2:∀a r,L2R vs sc n s 0 y a->a.e_=0->r.e_=0->r.c_.bP=a.c_.bP.set s.gB.toNat ⟨2,((4+a.c_.gW.length:Nat):Int),[]⟩->r.c_.gW=a.c_.gW++[s.gB]->r.c_.tT.length=a.c_.tT.length+1->r.c_.oO.length=a.c_.oO.length+1->WL r->bK ((f r s.bY).bind λx=>(f x s.gT).bind λx=>some (.inl x)) Q):bK (NS f n s y) Q:=by
 have hlen:=zS s.aP;have hop:s.iD=[102,111,114]:=by rw [hs]
 have hli:s.aP=[x,z]:=by rw [hs]
 unfold NS;refine (Vj h.tx h.px h.lt (by omega) (by omega) n 0 y hT (by omega) (by omega)).bind λa ha=>?_;refine bK.iteb (b:=a.e_ == 0) (x:=some (decide (s.iD=[102,111,114]))) (y:=some false) (Q:=λc=>c=(a.e_ == 0)) (λh0=>.some ?_) (λh0=>.some ?_) |>.bind λc hc=>?_
 ·rw [h0];exact zU hop
 ·rw [h0]
 subst hc;refine bK.iteb (λh0=>?_) λh0=>?_
 ·have h0:a.e_=0:=by simpa using h0
  have hy0:=ha.e.zero h0;have hTT:=ha.no (by rw [hop];decide);have hTy:AD false vs sc y.c_.bP:=by rw [Be.2 hy0] at hT;exact hT
  have hxz:xz x<=50000000/\xz z<=50000000:=by
   rw [hli] at hb;rw [qX,qX] at hb;omega
  have px:=h.px 0 x (by rw [hli];rfl) (.inr (.inr (.inl hop)));have pz:=h.px 1 z (by rw [hli];rfl) (.inr (.inr (.inl hop)))
  have hLa:Ee a 1:=by
   have:=hL hy0;unfold Ee WL at this ⊢;rw [ha.c];exact this
  have hloop:=Ui (n:=n) (y:=a) (f:=s.iE) (a:=s.fB) (b:=s.bY) (e:=s.gT) (by rw [hTT];exact hTy) px pz hu hLa hxz.1 hxz.2 (by omega);rw [←hs] at hloop;refine hloop.bind λr hr=>?_;obtain ⟨r1,r2,r3,s1,s2,_,_,r4,r5,r6⟩:=hr;rw [r1];rw [if_neg (by rw [h0];decide)];exact h2 a r ha h0 (by rw [r1];exact h0) r2 r3 (by rw [r4,mY];rfl) (by rw [r5,mY];rfl) r6
 ·have h0:a.e_ ≠ 0:=by simpa using h0
  rw [if_pos (by simpa using h0)];exact .some (h1 a ha h0)
end
theorem Qv {n:Nat} {y:aT}:fO (n+2) y []=some y:=rfl
theorem Fj (s:aC) (l:List aC):uV (s::l)=1+qX s.aP+uV s.bY+uV s.gT+uV l:=by rw [uV,yP]
theorem GK (s:aC) (l:List aC):MW (s::l)=RM s++(MW s.bY++(MW s.gT++MW l))/\Bd (s::l)=KK s++(Bd s.bY++(Bd s.gT++Bd l))/\MT (s::l)=Oj s++(MT s.bY++(MT s.gT++MT l)):=by
 rw [MW,Bd,MT,dvS_eq,Pq,pbS_eq];simp only [Jv,and_self]
def HM (vs:List aL) (sc sc':List Int) (ss:List aC):Prop:=
 ∀(n:Nat) (pl:List Int),100005000+uV ss<=n->uV ss<=50000000->(∀v ∈ sc,∀u,bM vs v=some u->u.bS=1->v ∈ pl) ->
  ∀(full:List aC) (k v:Nat) (y:aT),full.drop v=ss->v<=full.length->full.length<=100000000->ss.length<k->AD (eb y.e_) vs sc y.c_.bP->(y.e_=0->Ee y (Bd ss).length) ->
   bK (fY (fO n) n full k (v:Int) y) λz=>BkC vs sc sc' pl ss y (z.elim id id)
theorem HM.blk {vs:List aL} {sc sc':List Int} {ss:List aC} (h:HM vs sc sc' ss) {n:Nat} {pl:List Int} (hn:100005001+uV ss<=n) (hz:uV ss<=50000000) (hc:∀v ∈ sc,∀u,bM vs v=some u->u.bS=1->v ∈ pl) {y:aT} (hT:AD (eb y.e_) vs sc y.c_.bP) (hL:y.e_=0->Ee y (Bd ss).length) :
  bK (fO n y ss) (BkC vs sc sc' pl ss y):=by
 have hlen:=GW ss;obtain ⟨m,rfl⟩:∃m,n=m+1:=⟨n - 1,by omega⟩;show bK (nH (fO m) m y ss) _;unfold nH;refine (h m pl (by omega) hz hc ss m 0 y rfl (KL _) (by omega) (by omega) hT hL).bind λz hz=>?_;cases z with
 | inl r=>exact .some hz
 | inr r=>exact .some hz
theorem Kt {α:Type} {full:List α} {v:Nat} {s:α} {l:List α} (h:full.drop v=s::l):full[v]? = some s/\full.drop (v+1)=l/\v+1<=full.length:=by
 have h1:full[v]? = some s:=by rw [←xep,h];rfl
 refine ⟨h1,?_,(vQ.1 h1).1⟩;rw [←List.tail_drop,h];rfl
section
variable {vs:List aL} {sc sc2 sc':List Int} {s:aC} {l:List aC}
theorem wR (h:Vq vs sc s) (hf:s.iD ≠ [102,111,114]) (hB:s.bY=[]) (hE:s.gT=[]) (hsub:∀v ∈ sc,v ∈ sc2) (hnew:∀b T,AD b vs sc T->s.iD ≠ [108,101,116]->AD b vs sc2 T) (hlet:s.iD=[108,101,116]->sc2=sc++[s.gB]) (hpub:s.iD ≠ [108,101,116]->∀v ∈ sc2,v ∈ sc ∨ ∃u,bM vs v=some u/\u.bS ≠ 1) (hR:HM vs sc2 sc' l):HM vs sc sc' (s::l):=by
 intro n pl hn hz hc full k v y hd hv hl hk hT hL;obtain ⟨g1,g2,g3⟩:=Kt hd;obtain ⟨k,rfl⟩:∃j,k=j+1:=⟨k - 1,by rw [dY] at hk;omega⟩;rw [Fj,hB,hE,uV] at hn hz;obtain ⟨d1,d2,d3⟩:=GK s l;rw [hB,hE,MW,gJ,gJ] at d1;rw [hB,hE,Bd,gJ,gJ] at d2;rw [hB,hE,MT,gJ,gJ] at d3;have hfr:KK s=[]:=by unfold KK;rw [if_neg hf]
 refine Mp g1 hl (Qk h hT (by omega) (by omega) hf (λa ha h0=>⟨λd e=>(nomatch e),λd e=>?_⟩) λa ha h0=>?_)
 ·cases e;exact ⟨ha.e,ha.ok,λh1=>absurd h1 h0⟩
 ·rw [hB,hE];obtain ⟨m,rfl⟩:∃m,n=m+2:=⟨n - 2,by omega⟩;rw [Qv,iN,Qv,iN];refine .some ⟨λd e=>?_,λd e=>(nomatch e)⟩;cases e;have hy0:=ha.e.zero h0;have hTy:AD false vs sc y.c_.bP:=by rw [Be.2 hy0] at hT;exact hT
  have hown:=TS (pl:=pl) hTy hc (by omega) ha h0 hf h.lt
  have hT2:AD (eb a.e_) vs sc2 a.c_.bP:=by
   by_cases ho:s.iD=[108,101,116]
   ·rw [hlet ho];obtain ⟨l1,u,hu⟩:=h.lt ho;obtain ⟨x,t,_,q2,q3,q4,_⟩:=ha.go ho (by omega);rw [q2,Be.2 h0] at *;exact hTy.snoc hu q4 q3
   ·exact hnew _ _ ha.ok ho
  refine (hR (m+2) (pl++RM s) (by omega) (by omega) (λw hw u hu hku=>?_) full k (v+1) a g2 g3 hl (by rw [dY] at hk;omega) hT2 λ_=>?_).mono λz hz=>?_
  ·by_cases ho:s.iD=[108,101,116]
   ·rw [hlet ho] at hw
    rcases zC.1 hw with hw | hw
    ·exact Ju _ (hc w hw u hu hku)
    ·refine MP _ ?_;unfold RM;rw [if_pos (.inr ho)];exact hw
   ·rcases hpub ho w hw with hw | ⟨u',hu',hk'⟩
    ·exact Ju _ (hc w hw u hu hku)
    ·rw [hu] at hu';cases hu';exact absurd hku hk'
  ·have hLy:=hL hy0;rw [d2,hfr,gJ] at hLy;exact Ee.app (fr:=KK s) (by rw [hfr,eO,CJ];exact hLy) hown
  ·refine ⟨ha.e.trans hz.e,hz.t1.mono (λe=>e) hsub,λhr=>?_⟩;obtain ⟨z1,z2⟩:=hz.ok hr;refine ⟨z1,?_⟩;rw [d1,d2,d3];exact hown.app z2 λw hw=>zC.1 hw
theorem LE {scb scb' sce':List Int} {pl plb:List Int} {n k v:Nat} {full:List aC} {y r:aT} {dv0 fr0:List Int} {pb0:List aF} (hB:HM vs scb scb' s.bY) (hE:HM vs sc sce' s.gT) (hR:HM vs sc sc' l)
  (hn:100005000+uV (s::l)<=n) (hz:uV (s::l)<=50000000) (hc:∀v ∈ sc,∀u,bM vs v=some u->u.bS=1->v ∈ pl) (hcb:∀v ∈ scb,∀u,bM vs v=some u->u.bS=1->v ∈ plb) (hsb:∀v ∈ sc,v ∈ scb) (hsb':∀v ∈ scb,v ∈ scb') (hse':∀v ∈ sc,v ∈ sce')
  (g2:full.drop (v+1)=l) (g3:v+1<=full.length) (hl:full.length<=100000000) (hk:l.length<k) (her:Er y.e_ r.e_) (hr0:r.e_=0) (hT:AD false vs scb r.c_.bP) (hL:Ee r ((Bd s.bY).length+((Bd s.gT).length+(Bd l).length)))
  (hown:Su pl dv0 fr0 pb0 y r) (hpb:∀v ∈ plb,v ∈ pl ∨ v ∈ dv0) (hpp:∀v ∈ pl,v ∈ plb) (hdl:MW (s::l)=dv0++(MW s.bY++(MW s.gT++MW l))) (hfl:Bd (s::l)=fr0++(Bd s.bY++(Bd s.gT++Bd l))) (hpl:MT (s::l)=pb0++(MT s.bY++(MT s.gT++MT l))) :
  bK ((fO n r s.bY).bind λx=>(fO n x s.gT).bind λx=>some (.inl x)) λz=>(∀d,z=.inl d->bK (fY (fO n) n full k ((v+1:Nat):Int) d) λz=>BkC vs sc sc' pl (s::l) y (z.elim id id))/\∀d,z=(.inr d:aT ⊕ aT)->BkC vs sc sc' pl (s::l) y ((.inr d:aT ⊕ aT).elim id id):=by
 rw [Fj] at hn hz;refine (hB.blk (pl:=plb) (by omega) (by omega) hcb (by rw [Be.2 hr0];exact hT) λ_=>hL.less (by omega)).bind λc hcc=>?_;have hTc:AD (eb c.e_) vs sc c.c_.bP:=hcc.t1.mono (λe=>e) hsb;refine (hE.blk (pl:=pl) (by omega) (by omega) hc hTc λh0=>?_).bind λd hdd=>?_
 ·exact (Ee.app (hL.less (m':=(Bd s.bY).length+(Bd s.gT).length) (by omega)) (hcc.ok h0).2)
 refine .some ⟨λd' e=>?_,λd' e=>(nomatch e)⟩;cases e;refine (hR n pl (by omega) (by omega) hc full k (v+1) d g2 g3 hl hk hdd.t1 λh0=>?_).mono λz hz=>?_
 ·have hc0:=hdd.e.zero h0;exact Ee.app (Ee.app hL (hcc.ok hc0).2) (hdd.ok h0).2
 ·refine ⟨her.trans (hcc.e.trans (hdd.e.trans hz.e)),hz.t1,λhr=>?_⟩;obtain ⟨z1,z2⟩:=hz.ok hr;have hd0:=hz.e.zero hr;have hc0:=hdd.e.zero hd0;refine ⟨z1,?_⟩;rw [hdl,hfl,hpl];exact hown.app ((hcc.ok hc0).2.app ((hdd.ok hd0).2.app z2 λw hw=>.inl hw) λw hw=>.inl (hpp w hw)) hpb
theorem ON {P:aF->Prop} {x z:aF} (h:P x) (k:P z):∀u ∈ [x,z],P u:=λu hu=>by
 rcases AH.1 hu with rfl | hu
 ·exact h
 ·rw [Ax.1 hu];exact k
theorem Ie {P:aF->Prop} {x:aF} (h:P x):∀u ∈ [x],P u:=λu hu=>by rw [Ax.1 hu];exact h
theorem get_two {P:aF->Prop} {x z:aF} (h:P x) (k:P z):∀(i:Nat) u,[x,z][i]? = some u->P u:=λi u hu=>ON h k u (ET hu)
theorem Ql {P:aF->Prop} {x:aF} (h:P x):∀(i:Nat) u,[x][i]? = some u->P u:=λi u hu=>Ie h u (ET hu)
end
theorem DR {L:List Int} {i:Int}:∀v ∈ L,v ∈ L++[i]:=λv hv=>Ju _ hv
theorem Kn (vs:List aL) (sc:List Int):HM vs sc sc []:=by
 intro n pl hn hz hc full k v y hd hv hl hk hT hL;obtain ⟨k,rfl⟩:∃j,k=j+1:=⟨k - 1,by rw [eO] at hk;omega⟩;have hge:full.length<=v:=by have:=congrArg List.length hd;simp only [PP,eO] at this;omega
 unfold fY;refine bK.iteb (λh=>absurd (Bn h) (by omega)) λ_=>.some ?_;exact ⟨.refl _,hT,λh0=>⟨by have h0:y.e_=0:=h0;rw [Be.2 h0] at hT;exact hT,.refl _ _⟩⟩
theorem Uy {vs:List aL} {res:Int} {lf:Bool} {sc sc':List Int} {ss:List aC} (h:FB vs res lf sc ss sc'):HM vs sc sc' ss:=by
 have nd:∀ {s:aC} {i:Nat} {P:Prop},s.iD ≠ [108,101,116]->s.iD ≠ [105,102]->s.iD ≠ [102,111,114]->(s.iD=[112,117,116]->i ≠ 0)->Dec s i->P:=λa b c d h=>by
  rcases h with h | h | h | ⟨h,h'⟩
  ·exact absurd h a
  ·exact absurd h b
  ·exact absurd h c
  ·exact absurd h' (d h)
 have newv:∀ {b:Bool} {sc:List Int} {T:List aN} {v:Int} {u:aL},AD b vs sc T->bM vs v=some u->u.bS ≠ 1->AD b vs (sc++[v]) T:=λh hu hk=>h.more hu hk
 have pub2:∀ {sc:List Int} {v:Int} {u:aL},bM vs v=some u->u.bS ≠ 1->∀w ∈ sc++[v],w ∈ sc ∨ ∃u,bM vs w=some u/\u.bS ≠ 1:=λhu hk w hw=>by
  rcases zC.1 hw with hw | hw
  ·exact .inl hw
  ·rw [Ax.1 hw];exact .inr ⟨_,hu,hk⟩
 induction h with
 | nil=>exact Kn _ _
 | let_ h1 h2 h3 h4 _ ih=>
   refine wR ⟨Ie h1,λi z hz _=>Ql (h1.pub h2) i z hz,λ_=>⟨rfl,_,h3⟩⟩ (by simp only;decide) rfl rfl DR (λb T _ ho=>absurd rfl ho) (λ_=>rfl) (λho=>absurd rfl ho) ih
 | var_ h1 h2 h3 h4 _ ih=>
   have hk:∀ {u:aL},u.bS=2 ∨ u.bS=3->u.bS ≠ 1:=λh=>by omega
   refine wR ⟨Ie h1,λi z hz hd=>nd (by simp only;decide) (by simp only;decide) (by simp only;decide) (λh=>absurd h (by simp only;decide)) hd,λh=>absurd h (by simp only;decide)⟩ (by simp only;decide) rfl rfl DR (λb T hT _=>newv hT h2 (hk h3)) (λh=>absurd h (by simp only;decide)) (λ_=>pub2 h2 (hk h3)) ih
 | arr h1 h2 _ ih=>
   have hk:∀ {u:aL},u.bS=4->u.bS ≠ 1:=λh=>by omega
   refine wR ⟨λ_ h=>(nomatch h),λi z hz hd=>(nomatch hz),λh=>absurd h (by simp only;decide)⟩ (by simp only;decide) rfl rfl DR (λb T hT _=>newv hT h1 (hk h2)) (λh=>absurd h (by simp only;decide)) (λ_=>pub2 h1 (hk h2)) ih
 | set h1 h2 h3 h4 _ ih=>
   have hk:∀ {u:aL},u.bS=2 ∨ u.bS=3->u.bS ≠ 1:=λh=>by omega
   refine wR ⟨Ie h1,λi z hz hd=>nd (by simp only;decide) (by simp only;decide) (by simp only;decide) (λh=>absurd h (by simp only;decide)) hd,λh=>absurd h (by simp only;decide)⟩ (by simp only;decide) rfl rfl DR (λb T hT _=>newv hT h2 (hk h3)) (λh=>absurd h (by simp only;decide)) (λ_=>pub2 h2 (hk h3)) ih
 | put h1 h2 h3 h4 h5 h6 h7 h8 _ ih=>
   refine wR ⟨ON h4 h7,λi z hz hd=>?_,λh=>absurd h (by simp only;decide)⟩ (by simp only;decide) rfl rfl (λ_ h=>h) (λb T hT _=>hT) (λh=>absurd h (by simp only;decide)) (λ_ w hw=>.inl hw) ih;cases i with
   | zero=>injection hz with hz;rw [←hz];exact h4.pub h5
   | succ i=>exact nd (by simp only;decide) (by simp only;decide) (by simp only;decide) (λ_=>by omega) hd
 | @if_ l sc c b e a sc1 sc2 ss sc' h1 h2 hb he hr ib ie ir=>
   intro n pl hn hz hc full k v y hd hv hl hk hT hL;obtain ⟨g1,g2,g3⟩:=Kt hd;obtain ⟨k,rfl⟩:∃j,k=j+1:=⟨k - 1,by rw [dY] at hk;omega⟩;have hz2:=hz;rw [Fj] at hz2;have ty:Vq vs sc ⟨[105,102],-1,0,[c],b,e,a⟩:=⟨Ie h1,λi z hz _=>Ql (h1.pub h2) i z hz,λh=>absurd h (by simp only;decide)⟩;obtain ⟨d1,d2,d3⟩:=GK ⟨[105,102],-1,0,[c],b,e,a⟩ ss;have hfo:KK ⟨[105,102],-1,0,[c],b,e,a⟩=[]:=by unfold KK;rw [if_neg (by simp only;decide)]
   have hdo:RM ⟨[105,102],-1,0,[c],b,e,a⟩=[]:=by unfold RM;rw [if_neg (by simp only;decide)]
   refine Mp g1 hl (Qk ty hT (by omega) (by omega) (by simp only;decide) (λw hw h0=>⟨λd e=>(nomatch e),λd e=>?_⟩) λw hw h0=>?_)
   ·cases e;exact ⟨hw.e,hw.ok,λh1=>absurd h1 h0⟩
   ·have hy0:=hw.e.zero h0;have hTy:AD false vs sc y.c_.bP:=by rw [Be.2 hy0] at hT;exact hT
    have hown:=TS (pl:=pl) hTy hc (by omega) hw h0 (by simp only;decide) ty.lt;have hLy:=hL hy0;refine LE (plb:=pl) ib ie ir hn hz hc hc (λ_ h=>h) hb.sub he.sub g2 g3 hl (by rw [dY] at hk;omega) hw.e h0 (by have:=hw.ok;rw [Be.2 h0] at this;exact this) ?_ hown (λ_ h=>.inl h) (λ_ h=>h) d1 d2 d3;rw [d2,mY,mY,mY] at hLy;exact Ee.app hLy hown
 | @for_ l sc x z v u b a sc1 ss sc' h1 h2 h3 h4 h5 h6 hb hr ib ir=>
   intro n pl hn hz hc full k w y hd hv hl hk hT hL;obtain ⟨g1,g2,g3⟩:=Kt hd;obtain ⟨k,rfl⟩:∃j,k=j+1:=⟨k - 1,by rw [dY] at hk;omega⟩;have hz2:=hz;rw [Fj] at hz2;have ty:Vq vs sc ⟨[102,111,114],v,0,[x,z],b,[],a⟩:=⟨ON h1 h3,λi z hz _=>get_two (h1.pub h2) (h3.pub h4) i z hz,λh=>absurd h (by simp only;decide)⟩;obtain ⟨d1,d2,d3⟩:=GK ⟨[102,111,114],v,0,[x,z],b,[],a⟩ ss;have hfo:KK ⟨[102,111,114],v,0,[x,z],b,[],a⟩=[v]:=by unfold KK;rw [if_pos rfl]
   have hdo:RM ⟨[102,111,114],v,0,[x,z],b,[],a⟩=[v]:=by unfold RM;rw [if_pos (.inl rfl)]
   have hcount:y.e_=0->Ee y (1+((Bd b).length+((Bd ([]:List aC)).length+(Bd ss).length))):=λh0=>by
    have:=hL h0;rw [d2,hfo,mY,mY,mY] at this;exact this
   refine Mp g1 hl (Ux ty hT (by omega) (by omega) rfl h5 (λh0=>(hcount h0).less (by omega)) (λw hw h0=>⟨λd e=>(nomatch e),λd e=>?_⟩) λw r hw h0 hr0 r1 r2 r3 r4 r5=>?_)
   ·cases e;exact ⟨hw.e,hw.ok,λh1=>absurd h1 h0⟩
   ·have hy0:=hw.e.zero h0;have hTy:AD false vs sc y.c_.bP:=by rw [Be.2 hy0] at hT;exact hT
    have hLy:=hcount hy0;have hl1:=hLy.1;have hown:=own_for (pl:=pl) hTy hc (by omega) hw h0 rfl h5 (by omega) r1 r2 r3 r4 r5;have hFw:w.c_.gW=y.c_.gW:=by rw [hw.c]
    have hTw:w.c_.bP=y.c_.bP:=hw.no (by simp only;decide)
    have hTr:AD false vs (sc++[v]) r.c_.bP:=by
     rw [r1,hFw,hTw];exact hTy.snoc h5 (.var (by omega) (by omega)) (by rw [tm,vR];omega)
    refine LE (plb:=pl++[v]) ib (Kn vs sc) ir hn hz hc (λt ht u hu hku=>?_) DR hb.sub (λ_ h=>h) g2 g3 hl (by rw [dY] at hk;omega) (.inl (hr0.trans hy0.symm)) hr0 hTr ?_ hown (λt ht=>?_) DR d1 d2 d3
    ·rcases zC.1 ht with ht | ht
     ·exact Ju _ (hc t ht u hu hku)
     ·exact MP _ ht
    ·exact Ee.app (fr:=KK ⟨[102,111,114],v,0,[x,z],b,[],a⟩) (by rw [hfo];exact hLy) hown
    ·rw [hdo];exact zC.1 ht
 | ret h1 h2=>
   refine wR ⟨Ie h1,λi z hz hd=>nd (by simp only;decide) (by simp only;decide) (by simp only;decide) (λh=>absurd h (by simp only;decide)) hd,λh=>absurd h (by simp only;decide)⟩ (by simp only;decide) rfl rfl (λ_ h=>h) (λb T hT _=>hT) (λh=>absurd h (by simp only;decide)) (λ_ w hw=>.inl hw) (Kn vs _)
theorem Ko:∀l:List aC,(Bd l).length<=uV l
 | []=>tX _
 | ⟨o,v,f,x,b,e,a⟩::l=>by
   have h1:=Ko b;have h2:=Ko e;have h3:=Ko l;rw [Bd,Fj,Pq];have h4:(KK ⟨o,v,f,x,b,e,a⟩).length<=1:=by unfold KK;split <;> simp
   simp only [mY] at *;omega
theorem fors_l1 {f:List aC->Option Int} {l:List aC} (hf:∀x ∈ l,f x.bY=some ((Bd x.bY).length:Int)/\f x.gT=some ((Bd x.gT).length:Int)) (hb:uV l<=100000000) :
  ∀(k v:Nat) (acc:Int),l.length<v+k->v<=l.length->0<=acc->acc+(Bd (l.drop v)).length<=100000000->yC f l k acc (v:Int)=some (acc+(Bd (l.drop v)).length):=by
 have hlen:=GW l;intro k
 induction k with
 | zero=>intro v acc h1 h2;omega
 | succ k ih=>
   intro v acc h1 h2 h3 h4;unfold yC
   by_cases hv:v<l.length
   ·have hd:l.drop v=l[v]::l.drop (v+1):=Na hv;obtain ⟨f1,f2⟩:=hf _ (Nb hv);have hm:(Bd (l.drop v)).length=(KK l[v]).length+((Bd l[v].bY).length+(Bd l[v].gT).length)+(Bd (l.drop (v+1))).length:=by rw [hd,Bd,Pq];simp only [mY]
    rw [hm] at h4;rw [if_pos (zU (by omega)),sM (uX hv),iN,f1,f2,cP (n:=(v:Int)+1) (by omega) (by omega),show ((v:Int)+1)=((v+1:Nat):Int) by omega]
    by_cases ho:l[v].iD=[102,111,114]
    ·have hfo:(KK l[v]).length=1:=by unfold KK;rw [if_pos ho];rfl
     rw [if_pos (zU ho),iN,iN,iN,cP (n:=acc+1) (by omega) (by omega),cP (n:=((Bd l[v].bY).length:Int)+_) (by omega) (by omega),cP (by omega) (by omega),ih (v+1) _ (by omega) (by omega) (by omega) (by omega),hm]
     congr 1;omega
    ·have hfo:(KK l[v]).length=0:=by unfold KK;rw [if_neg ho];rfl
     rw [if_neg (by rw [AG];exact ho),iN,iN,iN,cP (n:=((Bd l[v].bY).length:Int)+_) (by omega) (by omega),cP (by omega) (by omega),ih (v+1) _ (by omega) (by omega) (by omega) (by omega),hm]
     congr 1;omega
   ·rw [if_neg (by rw [AG];omega),SO (by omega),Bd]
    congr 1;simp
theorem fors_eq:∀(n:Nat) (l:List aC),uV l+1<n->uV l<=100000000->wT n l=some ((Bd l).length:Int):=by
 intro n
 induction n with
 | zero=>intro l h;omega
 | succ n ih=>
   intro l h hb;show vN (wT n) n l=_;unfold vN;have hl:=GW l;have hs:=Ko l
   have:=fors_l1 (f:=wT n) (l:=l) (λx hx=>by
    have h1:=LV hx;have h2:=yP x;exact ⟨ih _ (by omega) (by omega),ih _ (by omega) (by omega)⟩) hb n 0 0 (by omega) (by omega) (Sv _) (by rw [iF];omega)
   rw [show ((0:Nat):Int)=0 from rfl] at this;rw [this,iN,iF,Int.zero_add]
def Lg (vs:List aL) (p j:Nat):aN:=match vs[j]? with | some u=>if j<p/\u.bS=1 then ⟨2,(j:Int),[]⟩ else tz0 | none=>tz0
structure Ini (vs:List aL) (p:Nat) (y:aT):Prop where
 e:y.e_=0
 fors:y.c_.gW=[]
 low:y.c_.tT=[0,0,0,0]
 high:y.c_.oO=[4294967295,4294967295,4294967295,4294967295]
 len:y.c_.bP.length=vs.length
 t:∀j,j<vs.length->y.c_.bP[j]? = some (Lg vs p j)
theorem Ini.w {vs:List aL} {p:Nat} {y:aT} (h:Ini vs p y):WL y:=by
 unfold WL;rw [h.low,h.high];refine ⟨λx hx=>?_,λx hx=>?_⟩
 ·simp only [AH,iL,or_false,or_self] at hx;rw [hx];exact .z
 ·simp only [AH,iL,or_false,or_self] at hx;rw [hx];exact .m
theorem VJ {f:aR} {p:Nat} (hp:f.bC=p) (hpl:p<=f.aW.length) (h4:p<=4):∀(k v:Nat) (y:aT),p<v+k->v<=p->Ini f.aW v y->bK (rX f k (v:Int) y) (Ini f.aW p):=by
 have htk:(f.aW.take f.bC.toNat).length=p:=by rw [hp,Dv,Jh];omega
 intro k
 induction k with
 | zero=>intro v y h1 h2;omega
 | succ k ih=>
   intro v y h1 h2 hI;unfold rX;refine bK.iteb (λh=>?_) λh=>.some ?_
   ·have hv:v<p:=by have:=Bn h;omega
    have hg:(f.aW.take f.bC.toNat)[v]? = some f.aW[v]:=by rw [xee,if_pos (by rw [hp,Dv];exact hv),uX (by omega)]
    rw [cP (by omega) (by omega),show ((v:Int)+1)=((v+1:Nat):Int) by omega];refine bK.bind (P:=Ini f.aW (v+1)) ?_ λz hz=>ih (v+1) z (by omega) (by omega) hz;refine bK.eqn (sM hg) ?_
    have hold:∀j,j ≠ v->Lg f.aW (v+1) j=Lg f.aW v j:=λj hj=>by
     unfold Lg;cases f.aW[j]? with
     | none=>rfl
     | some u=>
       simp only
       by_cases h:j<v/\u.bS=1
       ·rw [if_pos h,if_pos ⟨by omega,h.2⟩]
       ·rw [if_neg h,if_neg λh2=>h ⟨by omega,h2.2⟩]
    refine bK.iteb (λhk=>?_) λhk=>.some ⟨hI.e,hI.fors,hI.low,hI.high,hI.len,λj hj=>?_⟩
    ·have hk:f.aW[v].bS=1:=by simpa using hk
     refine bK.eqn (v:=⟨2,(v:Int),[]⟩) (by unfold Ei;rw [IntKind.wrap_u32];congr 2;omega) ?_;have hT:=hI.t v (by omega);refine bK.eqn (sM hT) (.some ⟨hI.e,hI.fors,hI.low,hI.high,by rw [rH];exact hI.len,λj hj=>?_⟩);show (y.c_.bP.set ((v:Int)).toNat _)[j]? = _;rw [Dv]
     by_cases e:j=v
     ·subst e;rw [PQ (by rw [hI.len];exact hj)];unfold Lg;rw [uX hj];simp only;rw [if_pos ⟨by omega,hk⟩]
     ·rw [OJ (λh=>e h.symm),hI.t j hj,hold j e]
    ·have hk:f.aW[v].bS ≠ 1:=by simpa using hk
     rw [hI.t j hj]
     by_cases e:j=v
     ·subst e;unfold Lg;rw [uX hj];simp only;rw [if_neg λh=>by omega,if_neg λh=>hk h.2]
     ·rw [hold j e]
   ·have hv:v=p:=by have:=OB h;omega
    subst hv;exact hI
theorem Ini.tok {vs:List aL} {p:Nat} {y:aT} (h:Ini vs p y) (h4:p<=4):AD false vs (rO p) y.c_.bP:=by
 refine ⟨h.len,λv hv u hu hk=>?_⟩;obtain ⟨v0,v1⟩:=JK hv;obtain ⟨j,rfl⟩:∃j:Nat,v=j:=⟨v.toNat,by omega⟩;have hj:j<p:=by omega
 obtain ⟨b0,b1⟩:=DV hu;have hT:=h.t j (by omega);rw [NR] at hu;refine ⟨Lg vs p j,sM hT,?_,?_⟩
 ·unfold Lg;rw [hu];simp only;rw [if_pos ⟨hj,hk⟩];exact .var (by omega) (by omega)
 ·unfold Lg;rw [hu];simp only;rw [if_pos ⟨hj,hk⟩,tm,vR];omega
inductive KF (f:aR) (p:Nat):bH × Int->Prop
 | ok {y0 y:aT} {sc':List Int}:Ini f.aW p y0->AD false f.aW sc' y.c_.bP->Su (rO p) (MW f.bY) (Bd f.bY) (MT f.bY) y0 y->p<=4->(Bd f.bY).length<=250->KF f p (y.c_,0)
 | count:4<p ∨ 250<(Bd f.bY).length->KF f p (⟨[],[],[],[]⟩,136)
 | size:p<=4->(Bd f.bY).length<=250->KF f p (⟨[],[],[],[]⟩,161)
theorem Sq {f:aR} {p:Nat} {res:Int} {lf:Bool} {sc':List Int} (hp:f.bC=p) (hpl:p<=f.aW.length) (hv:f.aW.length<=4096) (hz:uV f.bY<=50000000) (hf:FB f.aW res lf (rO p) f.bY sc') {n:Nat} (hn:200000000<=n):bK (yE n f) (KF f p):=by
 unfold yE;have hfs:=Ko f.bY;refine bK.bind (P:=λc=>c=true ↔ (4<p ∨ 250<(Bd f.bY).length)) ?_ λc hc=>?_
 ·refine bK.iteb (λh=>.some ⟨λ_=>.inl (by have:=Bn h;omega),λ_=>rfl⟩) λh=>?_;have h:=OB h;rw [fors_eq n _ (by omega) (by omega),iN];exact .some ⟨λh=>.inr (by have:=Bn h;omega),λh2=>zU (by omega)⟩
 refine bK.iteb (λh=>.some (.count (hc.1 h))) λh=>?_;have hno:¬ (4<p ∨ 250<(Bd f.bY).length):=λh2=>by rw [hc.2 h2] at h;cases h
 refine bK.eqn (v:=[4294967295,4294967295,4294967295,4294967295]) rfl ?_;refine bK.need (by omega) (bK.need (by omega) ?_)
 have hI0:Ini f.aW 0 ⟨⟨List.replicate f.aW.length aN.Z,[],[0,0,0,0],[4294967295,4294967295,4294967295,4294967295]⟩,0⟩:=by
  refine ⟨rfl,rfl,rfl,rfl,Cx,λj hj=>?_⟩;show (List.replicate f.aW.length aN.Z)[j]? = _;rw [List.getElem?_replicate,if_pos hj];unfold Lg;rw [uX hj];simp only;rw [if_neg λh=>by omega];rfl
 refine (VJ hp hpl (by omega) n 0 _ (by omega) (KL _) hI0).bind λy0 hI=>?_;have hT:=hI.tok (by omega);refine ((Uy hf).blk (pl:=rO p) (by omega) hz (λv hv _ _ _=>hv) (by rw [hI.e];exact hT) λ_=>⟨by rw [hI.fors];simp only [eO];omega,⟨by rw [hI.low,hI.fors];rfl,by rw [hI.high,hI.fors];rfl⟩,hI.w⟩).bind λy hy=>?_;have her:=hy.e;rw [hI.e] at her;refine bK.iteb (λh0=>.some ?_) λh0=>.some ?_
 ·have h0:y.e_ ≠ 0:=by simpa using h0
  rcases her with h1 | ⟨_,h1⟩
  ·exact absurd h1 h0
  ·rw [h1];exact .size (by omega) (by omega)
 ·have h0:y.e_=0:=by simpa using h0
  obtain ⟨z1,z2⟩:=hy.ok h0;exact .ok hI z1 z2 (by omega) (by omega)
structure OF (f:aR) (c:bH) (p:Nat):Prop where
 par:f.bC=p
 pl:p<=f.aW.length
 v:f.aW.length<=4096
 res:f.bU=0 ∨ f.bU=2 ∨ f.bU=3
 ex:f.dC=true->tY (f.aW.take p) 0<=4
 cl:KF f p (c,0)
 tz:uV f.bY<=50000000
theorem of_flat {c:aG} {rk:Int->Nat} (hp:PO c rk) {n:Nat} {i:Int} {r:aR × Int} (hn:200000000<=n) (h:wS n c.p_ i=some r) (he:r.2=0) (h2:∃fn,bM c.p_.bF i=some fn/\MK fn r.1):∃p:Nat,r.1.bC=p/\p<=r.1.aW.length/\r.1.aW.length<=4096/\(r.1.bU=0 ∨ r.1.bU=2 ∨ r.1.bU=3)/\(r.1.dC=true->tY (r.1.aW.take p) 0<=4)/\uV r.1.bY<=50000000/\∃sc',FB r.1.aW r.1.bU true (rO p) r.1.bY sc':=by
 obtain ⟨fn0,_,hf0⟩:=h2;obtain ⟨k,fn,_,hfn,hr,hpre,_,sc',hFB⟩:=Flat_ty hp h he;have hm:=ET hfn;obtain ⟨v1,v2,v3⟩:=hp.co.vl fn hm;obtain ⟨_,k2⟩:=hp.co.ki fn hm;have e1:r.1.bC=fn.bC:=by rw [hr]
 have e2:r.1.bU=fn.bU:=by rw [hr]
 have e3:r.1.dC=fn.dC:=by rw [hr]
 have hlen:=hpre.length_le;refine ⟨fn.bC.toNat,by rw [e1];omega,by omega,hf0.v,by rw [e2];exact k2,λh=>?_,hf0.tz,sc',by rw [e2];exact hFB⟩;rw [e3] at h;have:=hp.ex fn hm h;obtain ⟨rest,hrest⟩:=hpre;rw [←hrest,List.take_append_of_le_length (by omega)];exact this
theorem TV {n:Nat} (hn:200000000<=n) (s:cJ) (i:Int):bK (mX n s i) λr=>r.2.2=true->∃p,OF r.1 r.2.1 p:=by
 unfold mX;refine bK.iteb (λ_=>.some λh=>(nomatch h)) λhs=>?_;have hs:=OB hs;refine (Sr (n:=n) (s:=s) (by omega) (by omega)).bind λr hr=>?_;refine bK.iteb (λ_=>.some λh=>(nomatch h)) λhe=>?_;have he:r.2.1=0:=by simpa using he
 obtain ⟨c,rk,hc,hp⟩:=hr he;obtain ⟨r2,e2,h2,_⟩:=VG hp.pg (n:=n) (i:=i) hp.rkN (by omega);rw [hc] at e2;rw [e2,iN];refine bK.iteb (λ_=>.some λh=>(nomatch h)) λh3=>?_;have h3:r2.2=0:=by simpa using h3
 rw [←hc] at e2;obtain ⟨p,a1,a2,a3,a4,a5,a6,sc',a7⟩:=of_flat hp hn e2 h3 (h2 h3);refine (Sq a1 a2 a3 a6 a7 hn).bind λr3 hr3=>.some λh=>⟨p,a1,a2,a3,a4,a5,?_,a6⟩;have h:r3.2=0:=by simpa using h
 have:(r3.1,(0:Int))=r3:=by rw [←h]
 rw [this];exact hr3
theorem OF.closed {f:aR} {c:bH} {p:Nat} (h:OF f c p):∃y0 y sc',c=y.c_/\Ini f.aW p y0/\AD false f.aW sc' y.c_.bP/\Su (rO p) (MW f.bY) (Bd f.bY) (MT f.bY) y0 y/\p<=4/\(Bd f.bY).length<=250:=by
 have:=h.cl
 generalize hr:(c,(0:Int))=r at this
 cases this with
 | ok h1 h2 h3 h4 h5=>injection hr with hr;exact ⟨_,_,_,hr,h1,h2,h3,h4,h5⟩
 | count=>injection hr with _ hr;cases hr
 | size=>injection hr with _ hr;cases hr
theorem OF.len {f:aR} {c:bH} {p:Nat} (h:OF f c p):c.bP.length=f.aW.length/\c.gW.length<=250:=by
 obtain ⟨y0,y,sc',rfl,h1,h2,h3,_,h5⟩:=h.closed;refine ⟨h2.len,?_⟩;rw [h3.fors,h1.fors,gJ];exact h5
abbrev HQ (a:Int):Int:=IntKind.i64.wrap a
theorem w64a (a b:Int):HQ (HQ a+b)=HQ (a+b):=by simp only [HQ,IntKind.wrap_i64];omega
theorem w64b (a b:Int):HQ (a+HQ b)=HQ (a+b):=by simp only [HQ,IntKind.wrap_i64];omega
theorem w64i (a:Int):HQ (HQ a)=HQ a:=by simp only [HQ,IntKind.wrap_i64];omega
section
variable {f:aR} {c:bH}
theorem wide_eq (hl:c.bP.length=f.aW.length) {i:Nat} (hi:i<f.aW.length):∃w,zM f c (i:Int)=some w/\uA f c (i:Int)=some w:=by
 unfold zM uA;rw [sM (uX hi),iN,iN];have ht:bM c.bP (i:Int)=some (c.bP[i]'(by omega)):=sM (uX (by omega));rw [ht,if_pos (zU (show (i:Int)<(c.bP.length:Int) by omega))]
 have key:bK ((if (f.aW[i].bS == 1)=true then (some (c.bP[i]'(by omega))).bind λx=>some (x.iD == 1) else some false).bind λy9=>if y9=true then some (0:Int) else if (f.aW[i].bS == 3)=true then some 2 else (if (f.aW[i].bS == 4)=true then some (decide (f.bC<=(i:Int))) else some false).bind λy21=>if y21=true then some f.aW[i].pI else some 1) λ_=>True:=by
  refine bK.bind (P:=λ_=>True) (bK.iteb (λ_=>.some trivial) λ_=>.some trivial) λy _=>bK.iteb (λ_=>.some trivial) λ_=>bK.iteb (λ_=>.some trivial) λ_=>?_;exact bK.bind (P:=λ_=>True) (bK.iteb (λ_=>.some trivial) λ_=>.some trivial) λy _=>bK.iteb (λ_=>.some trivial) λ_=>.some trivial
 obtain ⟨w,hw,_⟩:=key;exact ⟨w,hw,hw⟩
theorem Mr (a w:Int):lE ⟨a⟩ w=some (if (w == 0)=true then (-1,⟨a⟩) else (a,⟨HQ (a+HQ (4*w))⟩)):=by
 unfold lE
 split <;> rfl
theorem lay_l1 {b:Bool} (hl:c.bP.length=f.aW.length) (hv:f.aW.length<=4096):∀(k v:Nat) (fK:Int) (x:cQ),f.aW.length<v+k->v<=f.aW.length->x.sL.length=v->HQ fK=fK ->
  ∃at2 off2,Bc f c k (v:Int) ⟨fK⟩ x=some (⟨at2⟩,{ x with sL:=off2 })/\qF (f,c,b) k fK x.sL (v:Int)=some (at2,off2)/\off2.length=f.aW.length/\HQ at2=at2:=by
 intro k
 induction k with
 | zero=>intro v fK x h1 h2;omega
 | succ k ih=>
   intro v fK x h1 h2 h3 h4;unfold Bc qF
   by_cases hlt:v<f.aW.length
   ·obtain ⟨w,w1,w2⟩:=wide_eq hl hlt;rw [if_pos (zU (by omega)),if_pos (zU (show (v:Int)<((f,c,b).1.aW.length:Int) by show (v:Int)<(f.aW.length:Int);omega)),w1,w2,iN,iN,Mr,iN,cP (n:=(v:Int)+1) (by omega) (by omega),show ((v:Int)+1)=((v+1:Nat):Int) by omega];cases hw:(w == 0) with
    | true=>
      rw [if_pos rfl,if_pos rfl,qR (by simp;omega),qR (by simp;omega),iN];exact ih (v+1) fK { x with sL:=x.sL++[-1] } (by omega) (by omega) (by simp [h3]) h4
    | false=>
      rw [if_neg (by decide),if_neg (by decide),qR (by simp;omega),qR (by simp;omega),iN];exact ih (v+1) (HQ (fK+HQ (4*w))) { x with sL:=x.sL++[fK] } (by omega) (by omega) (by simp [h3]) (w64i _)
   ·rw [if_neg (by rw [AG];omega),if_neg (by rw [AG];show ¬ (v:Int)<(f.aW.length:Int);omega)];exact ⟨fK,x.sL,rfl,rfl,by omega,h4⟩
theorem lay_l2 (hf:c.gW.length<=250) (a:Int) (x0:cQ):∀(k v:Nat) (bd:List Int),c.gW.length<v+k->v<=c.gW.length->bd.length=v->(∀j:Nat,j<v->bd[j]? = some (HQ (a+4*j))) ->
  ∃bd2,Bb c k (v:Int) ⟨HQ (a+4*v)⟩ { x0 with ES:=bd }=some (⟨HQ (a+4*c.gW.length)⟩,{ x0 with ES:=bd2 })/\bd2.length=c.gW.length/\∀j:Nat,j<c.gW.length->bd2[j]? = some (HQ (a+4*j)):=by
 intro k
 induction k with
 | zero=>intro v bd h1 h2;omega
 | succ k ih=>
   intro v bd h1 h2 h3 h4;unfold Bb
   by_cases hlt:v<c.gW.length
   ·rw [if_pos (zU (by omega)),Mr,iN,if_neg (by decide),qR (by simp;omega),cP (n:=(v:Int)+1) (by omega) (by omega),show ((v:Int)+1)=((v+1:Nat):Int) by omega];have e:HQ (HQ (a+4*(v:Int))+HQ (4*1))=HQ (a+4*((v+1:Nat):Int)):=by rw [w64b,w64a];congr 1;omega
    simp only [e];refine ih (v+1) (bd++[HQ (a+4*v)]) (by omega) (by omega) (by simp [h3]) λj hj=>?_
    by_cases hj2:j<v
    ·rw [Nc (by omega)];exact h4 j hj2
    ·obtain rfl:j=v:=by omega
     rw [OE (by omega),h3,Nat.sub_self];rfl
   ·rw [if_neg (by rw [AG];omega)];obtain rfl:v=c.gW.length:=by omega
    exact ⟨bd,rfl,h3,h4⟩
end
theorem Vn:lN 200000000=some true:=by kernel_rfl
theorem lay_tot {f:aR} {c:bH} (hl:c.bP.length=f.aW.length) (hv:f.aW.length<=4096) (hf:c.gW.length<=250) (hr:f.bU=0 ∨ f.bU=2 ∨ f.bU=3) {n:Nat} (hn:200000000<=n):bK (zO n f c) λr=>(r.2=0/\r.1.sL.length=f.aW.length) ∨ r.2=160:=by
 obtain ⟨at2,off2,e1,e2,e3,e4⟩:=lay_l1 (b:=true) hl hv n 0 0 ⟨[],[],0,0⟩ (by omega) (KL _) rfl rfl;obtain ⟨bd,e5,e6,e7⟩:=lay_l2 hf at2 ⟨off2,[],0,0⟩ n 0 [] (by omega) (KL _) rfl λj hj=>absurd hj (Nat.not_lt_zero _);have e8:HQ (at2+4*((0:Nat):Int))=at2:=by rw [show at2+4*((0:Nat):Int)=at2 by omega];exact e4
 rw [e8] at e5;rw [show ((0:Nat):Int)=0 from rfl] at e1 e5;unfold zO;rw [e1,iN,e5,iN]
 have ht:bK (zN f) λ_=>True:=by
  unfold zN
  rcases hr with h | h | h <;> rw [h] <;> exact ⟨_,rfl,trivial⟩
 obtain ⟨t,ht,_⟩:=ht;rw [ht,iN,Mr,iN];refine bK.iteb (λ_=>.some (.inr rfl)) λ_=>.some (.inl ⟨rfl,e3⟩)
section
variable {F:cQ} {z:Int} {v x:Int}
theorem UL (hx:bM F.sL v=some x):∀(k:Nat) (l:List bR) (r j:Int),sO F v k l r j=dV (F,z) v k l r j:=by
 intro k
 induction k with
 | zero=>intro l r j;rfl
 | succ k ih=>
   intro l r j;unfold sO dV;simp only [hx,iN,ih]
   by_cases h1:(0:Int)<=x <;> by_cases h2:r<(4:Int) <;> simp [h1,h2]
theorem UK (hx:bM F.sL v=some x):∀(k:Nat) (l:List bR) (r j:Int),sN F v k l r j=gX (F,z) v k l r j:=by
 intro k
 induction k with
 | zero=>intro l r j;rfl
 | succ k ih=>
   intro l r j;unfold sN gX;simp only [hx,iN,ih]
   by_cases h1:(0:Int)<=x <;> by_cases h2:r<(4:Int) <;> simp [h1,h2]
theorem UE (hx:bM F.sL v=some x):∀(j k:Nat) (l:List bR) (r:Int),j<=2->2 - j<k->l.length<=100000+j->0<=r->r<=100000+j->bK (dV (F,z) v k l r (j:Int)) λy=>y.2=r+(2 - j:Nat)/\y.1.length<=l.length+(2 - j):=by
 intro j k
 induction k generalizing j with
 | zero=>intro l r h1 h2;omega
 | succ k ih=>
   intro l r h1 h2 h3 h4 h5;unfold dV
   by_cases hj:j<2
   ·rw [if_pos (zU (by omega))];refine bK.bind (P:=λy=>y.2=r+1/\y.1.length<=l.length+1) ?_ λy hy=>?_
    ·rw [hx];refine bK.bind (P:=λ_=>True) (bK.iteb (λ_=>.some trivial) λ_=>.some trivial) λb _=>?_;refine bK.iteb (λ_=>?_) λ_=>.some ⟨cP (by omega) (by omega),Nat.le_succ _⟩;rw [iN,qR (by simp;omega)];exact .some ⟨cP (by omega) (by omega),by simp⟩
    ·rw [cP (n:=(j:Int)+1) (by omega) (by omega),show ((j:Int)+1)=((j+1:Nat):Int) by omega];exact (ih (j+1) y.1 y.2 (by omega) (by omega) (by omega) (by omega) (by omega)).mono λr' h=>⟨by omega,by omega⟩
   ·rw [if_neg (by rw [AG];omega)];exact .some ⟨by omega,Nat.le_add_right _ _⟩
theorem UC (hx:bM F.sL v=some x):∀(j k:Nat) (l:List bR) (r:Int),j<=1->1 - j<k->l.length<=100000+j->0<=r->r<=100000+j->bK (gX (F,z) v k l r (j:Int)) λy=>y.2=r+(1 - j:Nat)/\y.1.length<=l.length+(1 - j):=by
 intro j k
 induction k generalizing j with
 | zero=>intro l r h1 h2;omega
 | succ k ih=>
   intro l r h1 h2 h3 h4 h5;unfold gX
   by_cases hj:j<1
   ·rw [if_pos (zU (by omega))];refine bK.bind (P:=λy=>y.2=r+1/\y.1.length<=l.length+1) ?_ λy hy=>?_
    ·rw [hx];refine bK.bind (P:=λ_=>True) (bK.iteb (λ_=>.some trivial) λ_=>.some trivial) λb _=>?_;refine bK.iteb (λ_=>?_) λ_=>.some ⟨cP (by omega) (by omega),Nat.le_succ _⟩;rw [iN,qR (by simp;omega)];exact .some ⟨cP (by omega) (by omega),by simp⟩
    ·rw [cP (n:=(j:Int)+1) (by omega) (by omega),show ((j:Int)+1)=((j+1:Nat):Int) by omega];exact (ih (j+1) y.1 y.2 (by omega) (by omega) (by omega) (by omega) (by omega)).mono λr' h=>⟨by omega,by omega⟩
   ·rw [if_neg (by rw [AG];omega)];exact .some ⟨by omega,Nat.le_add_right _ _⟩
end
theorem UM {f:aR} {F:cQ} {c:bH} {b:Bool} {z:Int} {p:Nat} (hp:f.bC=p) (hpl:p<=f.aW.length) (hv:f.aW.length<=4096) (ho:F.sL.length=f.aW.length) {n:Nat} (hn:100<=n):∀(k v:Nat) (g:List bR) (r:Int),p<v+k->v<=p->0<=r->r<=4*(v:Int)->g.length<=4*v ->
  ∃g',sP n f F k g r (v:Int)=some g'/\mV n (f,c,b) (F,z) k g r (v:Int)=some (g',tY ((f.aW.take p).drop v) r)/\kH f k r (v:Int)=some (tY ((f.aW.take p).drop v) r)/\g'.length<=4*p:=by
 have ht:f.aW.take f.bC.toNat=f.aW.take p:=by rw [hp,Dv]
 have hlen:(f.aW.take p).length=p:=by rw [Jh];omega
 have hmin:min f.bC (f.aW.length:Int)=(p:Int):=by rw [hp];omega
 intro k
 induction k with
 | zero=>intro v g r h1 h2;omega
 | succ k ih=>
   intro v g r h1 h2 h3 h4 h5;unfold sP mV kH;simp only [ht,hlen,hmin]
   by_cases hlt:v<p
   ·have hd:(f.aW.take p).drop v=(f.aW.take p)[v]::(f.aW.take p).drop (v+1):=Na (by omega);have e1:bM (f.aW.take p) (v:Int)=some (f.aW.take p)[v]:=sM (uX (by omega));have e2:bM f.aW (v:Int)=some (f.aW.take p)[v]:=sM (by rw [List.getElem_take];exact uX (by omega));obtain ⟨x,e3⟩:∃x,bM F.sL (v:Int)=some x:=⟨_,sM (uX (by omega))⟩;have h6:=Int.emod_nonneg r (show (2:Int) ≠ 0 by decide);have h7:=Int.emod_lt_of_pos r (show (0:Int)<2 by decide);rw [if_pos (zU (by omega)),if_pos (zU (by omega)),if_pos (zU (by omega)),hd,e1,e2]
    generalize hvv:(f.aW.take p)[v]=vv
    simp only [iN,tY,beq_iff_eq];rw [cP (n:=(v:Int)+1) (by omega) (by omega),show ((v:Int)+1)=((v+1:Nat):Int) by omega]
    by_cases hk:vv.bS=3
    ·simp only [hk,if_true,xfd h3]
     have hreg:(if r % 2=1 then IntKind.i64.wrap (r+1) else r)=r+r % 2:=by
      split
      ·rw [cP (by omega) (by omega)];omega
      ·omega
     obtain ⟨y,y1,y2,y3⟩:=UE (z:=z) e3 0 n g (r+r % 2) (by omega) (by omega) (by omega) (by omega) (by omega);rw [show ((0:Nat):Int)=0 from rfl] at y1
     have k1:(if r % 2=1 then (dV (F,z) (v:Int) n g (IntKind.i64.wrap (r+1)) 0).bind λy40=>some (y40.1,y40.2) else (dV (F,z) (v:Int) n g r 0).bind λy73=>some (y73.1,y73.2))=some y:=by
      by_cases h:r % 2=1
      ·rw [if_pos h] at hreg ⊢;rw [hreg,y1];rfl
      ·rw [if_neg h] at hreg ⊢;rw [←hreg] at y1;rw [y1];rfl
     rw [k1,cP (n:=r+r % 2) (by omega) (by omega),UL (z:=z) e3,y1,cP (n:=r % 2+1) (by omega) (by omega),cP (n:=r+(r % 2+1)) (by omega) (by omega),cP (n:=r+(r % 2+1)+1) (by omega) (by omega)];simp only [iN];have e:y.2=r+(r % 2+1)+1:=by omega
     rw [e];exact ih (v+1) y.1 _ (by omega) (by omega) (by omega) (by omega) (by omega)
    ·simp only [hk,if_false];obtain ⟨y,y1,y2,y3⟩:=UC (z:=z) e3 0 n g r (by omega) (by omega) (by omega) (by omega) (by omega);rw [show ((0:Nat):Int)=0 from rfl] at y1;rw [UK (z:=z) e3,y1,cP (n:=r+1) (by omega) (by omega)];simp only [iN];have e:y.2=r+1:=by omega
     rw [e];exact ih (v+1) y.1 _ (by omega) (by omega) (by omega) (by omega) (by omega)
   ·obtain rfl:v=p:=by omega
    have hd:(f.aW.take v).drop v=[]:=SO (by omega);rw [if_neg (by rw [AG];omega),if_neg (by rw [AG];omega),if_neg (by rw [AG];omega),hd];exact ⟨g,rfl,rfl,rfl,h5⟩
theorem UJ (l:List bR) (hl:l.length<=100000):∀(k v:Nat),l.length<v+k->v<=l.length->mU l l k (v:Int)=some (.inl ()):=by
 intro k
 induction k with
 | zero=>intro v h1 h2;omega
 | succ k ih=>
   intro v h1 h2;unfold mU
   by_cases hlt:v<l.length
   ·rw [if_pos (zU (by omega)),sM (uX hlt),iN,iN,if_neg (by simp),cP (n:=(v:Int)+1) (by omega) (by omega),show ((v:Int)+1)=((v+1:Nat):Int) by omega];exact ih (v+1) (by omega) (by omega)
   ·rw [if_neg (by rw [AG];omega)]
theorem Se {n:Nat} (hn:200000000<=n) (ha:lN n=some true) (s:cJ) (i:Int):lV n s i=some true:=by
 unfold lV;rw [ha,iN,if_neg (by decide)];obtain ⟨⟨f,c,b⟩,e,hr⟩:=TV hn s i;rw [e,iN];cases b with
 | false=>rfl
 | true=>
   obtain ⟨p,ho⟩:=hr rfl;have ho:OF f c p:=ho;obtain ⟨hl,hfl⟩:=ho.len;have hv:=ho.v;rw [if_neg (by simp)];obtain ⟨⟨F,z⟩,e1,e2⟩:=lay_tot hl hv hfl ho.res hn;rw [e1,iN]
   rcases e2 with ⟨h1,h2⟩ | h1
   ·have h1:z=0:=h1;subst h1;have h2:F.sL.length=f.aW.length:=h2;obtain ⟨g,q1,q2,q3,q4⟩:=UM (c:=c) (b:=true) (z:=0) ho.par ho.pl hv h2 (n:=n) (by omega) n 0 [] 0 (by have:=ho.pl;omega) (KL _) (by omega) (by omega) (by simp);have hpp:=ho.pl;rw [show ((0:Nat):Int)=0 from rfl,iF] at q2 q3;rw [show ((0:Nat):Int)=0 from rfl] at q1;have d1:qY n F f=some g:=by unfold qY;rw [qR (by rw [ho.par];omega),q1];rfl
    have d2:gZ n f=some (tY (f.aW.take p) 0):=by unfold gZ;rw [qR (by rw [ho.par];omega),q3];rfl
    rw [if_neg (by simp),iN,if_neg (by simp [h2]),q2,iN,d1,iN,if_neg (by simp)];have d3:=UJ g (by omega) n 0 (by omega) (KL _);rw [show ((0:Nat):Int)=0 from rfl] at d3
    have d4:(if f.dC=true then if decide ((4:Int)<tY (f.aW.take p) 0)=true then some true else (gZ n f).bind λx175=>some (tY (f.aW.take p) 0 != x175) else some false)=some false:=by
     by_cases hx:f.dC=true
     ·have:=ho.ex hx;rw [if_pos hx,if_neg (by rw [AG];omega),d2];simp
     ·rw [if_neg hx]
    rw [d4,iN,if_neg (by decide),d3];rfl
   ·have h1:z=160:=h1;subst h1;rfl
theorem args_ex:∃n,∀(s:cJ) (i:Int),lV n s i=some true:=⟨_,Se (tX _) Vn⟩
