import Derived.Test.YtnnomaboaiokeaaGreatDoorIRwg
namespace Go.Proofs.YtnnomaboaiokeaaGreatDoor.Abs
open Go.RowKit
set_option linter.all false
def KB (o:cF):Prop:=o=[47] ∨ o=[37] ∨ o=[60,60] ∨ o=[62,62] ∨ o=[60,60,60] ∨ o=[42] ∨ o=[61,61] ∨ o=[60] ∨ o=[124] ∨ o=[94] ∨ o=[38] ∨ o=[43] ∨ o=[45]
inductive Iq (vs:List aL) (sc:List Int):aF->Prop
 | num {n a}:0<=n->n<=4294967295->Iq vs sc ⟨[110,117,109],1,n,-1,[],a⟩
 | var {v u a}:v ∈ sc->bM vs v=some u->u.bS=1->Iq vs sc ⟨[118,97,114],1,0,v,[],a⟩
 | un {o x a}:(o=[110,111,116] ∨ o=[110,101,103])->Iq vs sc x->Iq vs sc ⟨o,1,0,-1,[x],a⟩
 | bin {o x y a}:KB o->Iq vs sc x->Iq vs sc y->Iq vs sc ⟨o,1,0,-1,[x,y],a⟩
theorem Ic {a b:Int} (h:zE a b=1):a=1/\b=1:=by
 unfold zE at h
 split at h
 ·omega
 ·split at h <;> omega
theorem Oz.pub {o:cF} {x y:aF} (h:Oz o x y 1):KB o/\x.cK=1/\y.cK=1:=by
 unfold KB
 rcases h with ⟨h1,h2,h3,_⟩ | ⟨h1,h2,_,h3⟩ | ⟨h1,h2,_,_⟩ | ⟨h1,_,h2⟩ | ⟨h1,h2,_⟩
 ·exact ⟨by rcases h1 with h | h <;> simp [h],h2,h3⟩
 ·exact ⟨by rcases h1 with h | h | h <;> simp [h],h3.symm,h2⟩
 ·exact ⟨by simp [h1],Ic h2.symm⟩
 ·split at h2
  ·omega
  ·exact ⟨by rcases h1 with h | h <;> simp [h],Ic h2.symm⟩
 ·exact ⟨by rcases h1 with h | h | h | h | h <;> simp [h],Ic h2.symm⟩
theorem TX.pub {vs:List aL} {sc:List Int} {x:aF} (h:TX vs sc x):x.cK=1->Iq vs sc x:=by
 induction h with
 | num h1 h2=>exact λ_=>.num h1 h2
 | @var v u a h1 h2 h3=>
   intro ht;have ht:u.bS=(1:Int):=ht;rw [ht];exact .var h1 h2 ht
 | index=>exact λht=>absurd (show (2:Int)=1 from ht) (by decide)
 | @un o x a h1 _ ih=>
   intro ht;have ht:x.cK=(1:Int):=ht;rw [ht];exact .un h1 (ih ht)
 | @bin o x y t a _ _ hb ih1 ih2=>
   intro ht;have ht:t=(1:Int):=ht;subst ht;obtain ⟨b1,b2,b3⟩:=hb.pub;exact .bin b1 (ih1 b2) (ih2 b3)
 | @sel c x y a _ _ _ _ _ _ _ _=>
   intro ht;have ht:GE (zE x.cK y.cK)=(1:Int):=ht;unfold GE at ht
   split at ht <;> omega
 | long=>exact λht=>absurd (show (3:Int)=1 from ht) (by decide)
 | wide=>exact λht=>absurd (show (3:Int)=1 from ht) (by decide)
 | half=>exact λht=>absurd (show (2:Int)=1 from ht) (by decide)
mutual
def tm:aM->Nat
 | ⟨_,_,l⟩=>1+uT l
def uT:List aM->Nat
 | []=>0
 | x::l=>tm x+uT l
end
theorem Tn (x:aM):tm x=1+uT x.aO:=by cases x;rw [tm]
theorem tmL_app (a b:List aM):uT (a++b)=uT a+uT b:=by
 induction a with
 | nil=>rw [gC,uT,CU]
 | cons x a ih=>rw [iD,uT,uT,ih,GW]
theorem Tm (x:aM):1<=tm x:=by rw [Tn];omega
theorem tmL_mem {l:List aM} {x:aM} (h:x ∈ l):tm x<=uT l:=by
 obtain ⟨a,b,rfl⟩:=SU h;rw [tmL_app,uT];omega
theorem Qa (l:List aM):l.length<=uT l:=by
 induction l with
 | nil=>exact KH _
 | cons x l ih=>have:=Tm x;rw [dT,uT];omega
theorem qH {α:Type} {l:List α} {i:Nat} {x:α} (h:l[i]? = some x):bM l (i:Int)=some x:=by rw [NT];exact h
theorem VF {f:aM->Option Int} {t:aM} (hf:∀x ∈ t.aO,f x=some (tm x:Int)) (hb:tm t<=1000000000) :
  ∀(k v:Nat) (acc:Int),t.aO.length<v+k->v<=t.aO.length->0<=acc->acc+uT (t.aO.drop v)<=1000000000->zW f t k acc (v:Int)=some (acc+uT (t.aO.drop v)):=by
 have hlen:=Qa t.aO;have hte:=Tn t;intro k
 induction k with
 | zero=>intro v acc h1 h2;omega
 | succ k ih=>
   intro v acc h1 h2 h3 h4;unfold zW
   by_cases hv:v<t.aO.length
   ·have hd:t.aO.drop v=t.aO[v]::t.aO.drop (v+1):=MT hv;have f1:=hf _ (Ln hv);rw [hd,uT] at h4;rw [if_pos (AB (by omega)),qH (uS hv),iJ,f1,iJ,cR (n:=acc+_) (by omega) (by omega),cR (n:=(v:Int)+1) (by omega) (by omega),show ((v:Int)+1)=((v+1:Nat):Int) by omega,ih (v+1) _ (by omega) (by omega) (by omega) (by omega),hd,uT]
    congr 1;omega
   ·rw [if_neg (by rw [Bq];omega),Sw (by omega),uT]
    congr 1;omega
theorem VG:∀(n:Nat) (t:aM),tm t<n->tm t<=1000000000->vX n t=some (tm t:Int):=by
 intro n
 induction n with
 | zero=>intro t h;omega
 | succ n ih=>
   intro t h hb;show xH (vX n) n t=_;unfold xH;have hl:=Qa t.aO;have he:=Tn t
   have:=VF (f:=vX n) (t:=t) (λx hx=>by
    have h1:=tmL_mem hx;exact ih _ (by omega) (by omega)) hb n 0 1 (by omega) (by omega) (by omega) (by rw [iB];omega)
   rw [show ((0:Nat):Int)=0 from rfl] at this;rw [this,iJ,iB]
   congr 1;omega
inductive Sh (b:Bool):aM->Prop
 | z:b=true->Sh b ⟨0,0,[]⟩
 | con {v}:0<=v->v<=4294967295->Sh b ⟨1,v,[]⟩
 | var {k}:0<=k->k<=255->Sh b ⟨2,k,[]⟩
 | un {o x}:(o=3 ∨ o=4)->Sh b x->Sh b ⟨o,0,[x]⟩
 | bin {o x y}:5<=o->o<=17->Sh b x->Sh b y->Sh b ⟨o,0,[x,y]⟩
theorem Sh.mono {b b':Bool} (hb:b=true->b'=true) {t:aM} (h:Sh b t):Sh b' t:=by
 induction h with
 | z e=>exact .z (hb e)
 | con h1 h2=>exact .con h1 h2
 | var h1 h2=>exact .var h1 h2
 | un h _ ih=>exact .un h ih
 | bin h1 h2 _ _ i1 i2=>exact .bin h1 h2 i1 i2
theorem MH {a b:Int}:0<=wC .u32 a b:=by unfold wC;rw [IntKind.wrap_u32];omega
theorem Sl {a b:Int}:0<=wC .u64 a b:=by unfold wC;rw [IntKind.wrap_u64];omega
def sX (x:Int):Prop:=0<=x/\x<=4294967295
theorem sX.wrap (x:Int):sX (IntKind.u32.wrap x):=by unfold sX;rw [IntKind.wrap_u32];omega
theorem sX.z:sX 0:=by unfold sX;omega
theorem sX.i:sX 1:=by unfold sX;omega
theorem sX.m:sX 4294967295:=by unfold sX;omega
theorem sX.div {x y:Int} (h:sX x) (k:0<=y):sX (x / y):=⟨Int.ediv_nonneg h.1 k,Int.le_trans (Int.ediv_le_self _ h.1) h.2⟩
theorem sX.shr {x:Int} (h:sX x) (y:Int):sX (Hs .u32 x y):=by
 unfold Hs;rw [xfn _ (Int.pow_nonneg (by decide))];exact h.div (Int.pow_nonneg (by decide))
theorem zJ (b:Bool):uH b=some (if b=true then 1 else 0):=by unfold uH;cases b <;> rfl
theorem sX.ite (b:Bool):sX (if b=true then 1 else 0):=by unfold sX;cases b <;> decide
theorem rot_tot (a b:Int):bK (lT a b) sX:=by
 unfold lT;refine bK.need Sl (bK.need ?_ (.some (.wrap _)));rw [IntKind.wrap_u64];omega
theorem RF (o:Int) {a b:Int} (ha:sX a):bK (tE o a b) sX:=by
 unfold tE;refine bK.iteb (λ_=>.some (.wrap _)) λ_=>bK.iteb (λ_=>.some (.wrap _)) λ_=>bK.iteb (λ_=>.some (.wrap _)) λ_=>bK.iteb (λ_=>.need MH (.some (.wrap _))) λ_=>bK.iteb (λ_=>.need MH (.some (ha.shr _))) λ_=>?_;exact (rot_tot _ _).bind λ_ h=>.some h
theorem sX.tmod {a b:Int} (h:sX a) (k:sX b):sX (a.tmod b):=by
 rw [xfo h.1]
 by_cases hb:b=0
 ·rw [hb,Int.emod_zero];exact h
 ·have:=Int.emod_lt_of_pos a (show 0<b by have:=k.1;omega);exact ⟨Int.emod_nonneg _ hb,by have:=k.2;omega⟩
theorem PW (o:Int) {a b:Int} (ha:sX a) (hb:sX b):bK (jV o a b) λr=>sX r.1:=by
 unfold jV;rw [zJ,zJ];refine bK.iteb (λ_=>.some (.ite _)) λ_=>bK.iteb (λ_=>.some (.ite _)) λ_=>bK.iteb (λ_=>.some (.wrap _)) λ_=>bK.iteb (λ_=>.some (.wrap _)) λ_=>bK.iteb (λ_=>.some (.wrap _)) λ_=>bK.iteb (λ_=>?_) λ_=>bK.iteb (λ_=>?_) λ_=>?_
 ·exact bK.iteb (λ_=>.some .z) λh=>bK.need (by simpa using h) (.some (.wrap _))
 ·exact bK.iteb (λ_=>.some .z) λh=>bK.need (by simpa using h) (.some (ha.tmod hb))
 ·exact (RF _ ha).bind λ_ h=>.some h
def yJ (l:List Int):Prop:=∀x ∈ l,sX x
theorem yJ.nil:yJ []:=λ_ h=>nomatch h
theorem yJ.idx {l:List Int} (h:yJ l) {i:Int} {x:Int} (e:bM l i=some x):sX x:=h _ (by obtain ⟨_,_,e⟩:=bZ e;exact CT e)
theorem yJ.tot {l:List Int} (h:yJ l) {i:Int} (h1:0<=i) (h2:i<l.length):bK (bM l i) sX:=by
 obtain ⟨x,e,_⟩:=bK.idx (l:=l) (Q:=λ_=>True) h1 h2 λ_ _=>trivial;exact ⟨x,e,h.idx e⟩
theorem Kb {b:Bool} {t:aM} (h:Sh b t) (hl:t.aO=[]) {ws:List Int} (hw:yJ ws):bK (wJ t ws) sX:=by
 unfold wJ;cases h with
 | con h1 h2=>exact bK.iteb (λ_=>.some ⟨h1,h2⟩) λh=>nomatch h
 | z e=>
   refine bK.iteb (λh=>absurd h (by decide)) λ_=>bK.iteb (λh=>?_) λ_=>.some .z;have h:=AD h;rw [cR (by decide) (by decide)] at h;exact (hw.tot (Sy _) h).bind λ_ h=>.some h
 | @var k h1 h2=>
   refine bK.iteb (λh=>nomatch h) λ_=>bK.iteb (λh=>?_) λ_=>.some .z;have h:=AD h;rw [cR (show -9223372036854775808<=k by omega) (show k<=9223372036854775807 by omega)] at h;exact (hw.tot h1 h).bind λ_ h=>.some h
 | un=>cases hl
 | bin=>cases hl
theorem KF {b:Bool} {t:aM} (h:Sh b t) {ws:List Int} (hw:yJ ws):∀n,tm t<n->bK (kP n t ws) λr=>sX r.1:=by
 induction h with
 | z e=>
   intro n hn;obtain ⟨m,rfl⟩:∃m,n=m+1:=⟨n - 1,by omega⟩;show bK (lB (kP m) m _ ws) _;unfold lB;rw [if_pos (by rfl)];exact (Kb (Sh.z (b:=b) e) rfl hw).bind λ_ h=>.some h
 | con=>
   intro n hn;obtain ⟨m,rfl⟩:∃m,n=m+1:=⟨n - 1,by omega⟩;show bK (lB (kP m) m _ ws) _;unfold lB;rw [if_pos (by rfl)];exact (Kb (Sh.con (b:=b) ‹_› ‹_›) rfl hw).bind λ_ h=>.some h
 | var h1 h2=>
   intro n hn;obtain ⟨m,rfl⟩:∃m,n=m+1:=⟨n - 1,by omega⟩;show bK (lB (kP m) m _ ws) _;unfold lB;rw [if_pos (by rfl)];exact (Kb (Sh.var (b:=b) h1 h2) rfl hw).bind λ_ h=>.some h
 | @un o x ho hx ih=>
   intro n hn;obtain ⟨m,rfl⟩:∃m,n=m+1:=⟨n - 1,by omega⟩;rw [tm,uT,uT] at hn;show bK (lB (kP m) m _ ws) _;unfold lB;rw [if_neg (by simp)];refine bK.eqn (v:=x) rfl ?_;refine (ih m (by omega)).bind λr hr=>?_;refine bK.eqn (v:=true) (by split <;> rfl) ?_;rw [if_pos rfl,zJ,iJ];have h1:bK (Ad o r.1) λ_=>True:=by unfold Ad;exact bK.iteb (λ_=>.some trivial) λ_=>.some trivial
   exact h1.bind λ_ _=>.some (.wrap _)
 | @bin o x y h1 h2 hx hy i1 i2=>
   intro n hn;obtain ⟨m,rfl⟩:∃m,n=m+1:=⟨n - 1,by omega⟩;rw [tm,uT,uT,uT] at hn;show bK (lB (kP m) m _ ws) _;unfold lB;rw [if_neg (by simp)];refine bK.eqn (v:=x) rfl ?_;refine (i1 m (by omega)).bind λr hr=>?_;refine bK.bind (P:=λ_=>True) (by split <;> exact .some trivial) λc _=>?_;refine bK.iteb (λ_=>?_) λ_=>?_
   ·rw [zJ,iJ];have h1:bK (Ad o r.1) λ_=>True:=by unfold Ad;exact bK.iteb (λ_=>.some trivial) λ_=>.some trivial
    exact h1.bind λ_ _=>.some (.wrap _)
   ·refine bK.eqn (v:=y) rfl ?_;refine (i2 m (by omega)).bind λs hs=>?_;exact bK.iteb (λ_=>.some .z) λ_=>(PW _ hr hs).bind λ_ h=>.some h
theorem VD {b:Bool} {t:aM} (h:Sh b t):∀n,tm t+20<n->bK (oN n t) λr=>Sh b r/\tm r<=tm t:=by
 have fin:∀(m:Nat) (c:Bool) (r t:aM),Sh b r->tm r<=tm t->tm r<m->bK (if (!c)=true then some r else (kP m r []).bind λx=>if x.2=true then (FY x.1).bind λy=>some y else some r) λr=>Sh b r/\tm r<=tm t:=λm c r t h1 h2 h3=>by
  refine bK.iteb (λ_=>.some ⟨h1,h2⟩) λ_=>?_;refine (KF h1 .nil m h3).bind λx hx=>bK.iteb (λ_=>?_) λ_=>.some ⟨h1,h2⟩;exact .some ⟨.con hx.1 hx.2,by rw [tm,uT];have:=Tm r;omega⟩
 induction h with
 | z e=>
   intro n hn;rw [tm,uT] at hn;obtain ⟨m,rfl⟩:∃m,n=m+2:=⟨n - 2,by omega⟩;show bK (nA (oN (m+1)) (m+1) _) _;unfold nA pI;rw [if_neg (by decide),iJ];exact fin _ _ _ _ (.z e) (rM _) (by rw [tm,uT];omega)
 | con c1 c2=>
   intro n hn;rw [tm,uT] at hn;obtain ⟨m,rfl⟩:∃m,n=m+2:=⟨n - 2,by omega⟩;show bK (nA (oN (m+1)) (m+1) _) _;unfold nA pI;rw [if_neg (by simp),iJ];exact fin _ _ _ _ (.con c1 c2) (rM _) (by rw [tm,uT];omega)
 | var h1 h2=>
   intro n hn;rw [tm,uT] at hn;obtain ⟨m,rfl⟩:∃m,n=m+2:=⟨n - 2,by omega⟩;show bK (nA (oN (m+1)) (m+1) _) _;unfold nA pI;rw [if_neg (by simp),iJ];exact fin _ _ _ _ (.var h1 h2) (rM _) (by rw [tm,uT];omega)
 | @un o x ho hx ih=>
   intro n hn;rw [tm,uT,uT] at hn;obtain ⟨m,rfl⟩:∃m,n=m+3:=⟨n - 3,by omega⟩;show bK (nA (oN (m+2)) (m+2) _) _;unfold nA;obtain ⟨x',hx',s1,s2⟩:=ih (m+2) (by omega);refine bK.bind (P:=λr=>Sh b r.2/\tm r.2<=1+tm x) ?_ λr hr=>fin _ _ _ _ hr.1 (by rw [tm,uT,uT];omega) (by omega);unfold pI;rw [if_pos (by simp)];refine bK.eqn (v:=x) rfl ?_;rw [hx',iJ];refine bK.need (by simp) ?_;refine bK.bind (P:=λ_=>True) (by split <;> exact .some trivial) λc _=>?_;rw [cR (by decide) (by decide)];unfold pI;rw [if_neg (by simp)];exact .some ⟨.un ho s1,by simp only [gC];rw [tm,uT,uT];omega⟩
 | @bin o x y h1 h2 hx hy i1 i2=>
   intro n hn;rw [tm,uT,uT,uT] at hn;obtain ⟨m,rfl⟩:∃m,n=m+4:=⟨n - 4,by omega⟩;show bK (nA (oN (m+3)) (m+3) _) _;unfold nA;obtain ⟨x',hx',s1,s2⟩:=i1 (m+3) (by omega);obtain ⟨y',hy',s3,s4⟩:=i2 (m+3) (by omega);refine bK.bind (P:=λr=>Sh b r.2/\tm r.2<=1+tm x+tm y) ?_ λr hr=>fin _ _ _ _ hr.1 (by rw [tm,uT,uT,uT];omega) (by omega);unfold pI;rw [if_pos (by simp)];refine bK.eqn (v:=x) rfl ?_;rw [hx',iJ];refine bK.need (by simp) ?_;refine bK.bind (P:=λ_=>True) (by split <;> exact .some trivial) λc _=>?_;rw [cR (by decide) (by decide)];unfold pI;rw [if_pos (by simp)];refine bK.eqn (v:=y) rfl ?_;rw [hy',iJ];refine bK.need (by simp) ?_;refine bK.bind (P:=λ_=>True) (by split <;> exact .some trivial) λc _=>?_;rw [cR (by decide) (by decide)];unfold pI;rw [if_neg (by simp)];exact .some ⟨.bin h1 h2 s1 s3,by simp only [gC,iD];rw [tm,uT,uT,uT];omega⟩
def NI (a:cF):Int:=((dQ.find? λx=>decide (x.IA=a)).map (·.op_)).getD 0
theorem op_l1 {a:cF}:∀(c j:Nat),j<=15->15<j+c->Be a c (j:Int)=some (match (dQ.drop j).find? (λx=>decide (x.IA=a)) with | some x=>.inr x.op_ | none=>.inl ()):=by
 intro c
 induction c with
 | zero=>intro j h1 h2;omega
 | succ c ih=>
   intro j h1 h2;unfold Be;have hlen:dQ.length=15:=by kernel_rfl
   by_cases hj:j<15
   ·rw [if_pos (AB (by omega)),qH (uS (by omega)),iJ,MT (by omega),List.find?_cons];cases hd:decide (dQ[j].IA=a) with
    | true=>rw [if_pos rfl]
    | false=>
      rw [if_neg (by decide),cR (by omega) (by omega)];exact ih (j+1) (by omega) (by omega)
   ·rw [if_neg (by rw [Bq];omega),Sw (by omega)];rfl
theorem op_eq {n:Nat} (hn:16<=n) (a:cF):Bl n a=some (NI a):=by
 unfold Bl NI;have:=op_l1 (a:=a) n 0 (by omega) (by omega);rw [iB] at this;rw [show ((0:Nat):Int)=0 from rfl] at this;rw [this,iJ];cases dQ.find? (λx=>decide (x.IA=a)) <;> rfl
theorem op_two {o:cF} (h:KB o):5<=NI o/\NI o<=17:=by
 rcases h with h | h | h | h | h | h | h | h | h | h | h | h | h <;> subst h <;> decide
theorem op_one {o:cF} (h:o=[110,111,116] ∨ o=[110,101,103]):NI o=3 ∨ NI o=4:=by
 rcases h with h | h <;> subst h <;> decide
abbrev tz0:aM:=⟨0,0,[]⟩
mutual
def Gg (T:List aM):aF->aM
 | ⟨o,_,n,v,l,_⟩=>if o=[110,117,109] then ⟨1,n,[]⟩ else if o=[118,97,114] then (bM T v).getD tz0 else ⟨NI o,0,yQ T l⟩
def yQ (T:List aM):List aF->List aM
 | []=>[]
 | x::l=>Gg T x::yQ T l
end
theorem Gf {T:List aM} {ty n v a:Int} {l:List aF}:Gg T ⟨[110,117,109],ty,n,v,l,a⟩=⟨1,n,[]⟩:=by rw [Gg,if_pos rfl]
theorem Mo {T:List aM} {ty n v a:Int} {l:List aF} {t:aM} (h:bM T v=some t):Gg T ⟨[118,97,114],ty,n,v,l,a⟩=t:=by rw [Gg,if_neg (by decide),if_pos rfl,h];rfl
theorem AH {T:List aM} {o:cF} {ty n v a:Int} {l:List aF} (h1:o ≠ [110,117,109]) (h2:o ≠ [118,97,114]):Gg T ⟨o,ty,n,v,l,a⟩=⟨NI o,0,yQ T l⟩:=by rw [Gg,if_neg h1,if_neg h2]
theorem GO {α:Type} {x:α} {l:List α}:bM (x::l) 0=some x:=rfl
theorem Pr {α:Type} {x y:α} {l:List α}:bM (x::y::l) (0+1)=some y:=rfl
structure AA (b:Bool) (vs:List aL) (sc:List Int) (T:List aM):Prop where
 len:T.length=vs.length
 ok:∀v ∈ sc,∀u,bM vs v=some u->u.bS=1->∃t,bM T v=some t/\Sh b t/\tm t<=2000
theorem KB.ne {o:cF} (h:KB o):o ≠ [110,117,109]/\o ≠ [118,97,114]/\o ≠ [105,110,100,101,120]:=by
 rcases h with h | h | h | h | h | h | h | h | h | h | h | h | h <;> subst h <;> decide
theorem Sign1.ne {o:cF} (h:o=[110,111,116] ∨ o=[110,101,103]):o ≠ [110,117,109]/\o ≠ [118,97,114]/\o ≠ [105,110,100,101,120]/\o ≠ [47]/\o ≠ [37]:=by
 rcases h with h | h <;> subst h <;> decide
section
variable {b:Bool} {vs:List aL} {sc:List Int} {c:bL} {x:aF}
theorem JN (hT:AA b vs sc c.bO) (h:Iq vs sc x):Sh b (Gg c.bO x)/\tm (Gg c.bO x)<=2000*xz x:=by
 induction h with
 | num h1 h2=>rw [Gf];exact ⟨.con h1 h2,by rw [tm,uT,xz,rB];omega⟩
 | var h1 h2 h3=>
   obtain ⟨t,k1,k2,k3⟩:=hT.ok _ h1 _ h2 h3;rw [Mo k1];exact ⟨k2,by rw [xz,rB];exact k3⟩
 | un h _ ih=>
   obtain ⟨n1,n2,_⟩:=Sign1.ne h;rw [AH n1 n2,yQ,yQ];exact ⟨.un (op_one h) ih.1,by rw [tm,uT,uT,xz,rB,rB];have:=ih.2;omega⟩
 | bin h _ _ i1 i2=>
   obtain ⟨n1,n2,_⟩:=h.ne;rw [AH n1 n2,yQ,yQ,yQ];obtain ⟨o1,o2⟩:=op_two h;exact ⟨.bin o1 o2 i1.1 i2.1,by rw [tm,uT,uT,uT,xz,rB,rB,rB];have:=i1.2;have:=i2.2;omega⟩
theorem TT (hT:AA b vs sc c.bO) (h:Iq vs sc x):∀n,xz x+20<n->iM n c x=some (Gg c.bO x):=by
 induction h with
 | num=>
   intro n hn;obtain ⟨m,rfl⟩:∃m,n=m+1:=⟨n - 1,by omega⟩;show eS (iM m) m c _=_;unfold eS;rw [Gf,if_pos (by rfl)];rfl
 | var h1 h2 h3=>
   intro n hn;obtain ⟨m,rfl⟩:∃m,n=m+1:=⟨n - 1,by omega⟩;show eS (iM m) m c _=_;unfold eS;obtain ⟨t,k1,k2,k3⟩:=hT.ok _ h1 _ h2 h3;rw [Mo k1,if_neg (by simp),if_pos (by rfl),k1];rfl
 | @un o x a h hx ih=>
   intro n hn;rw [xz,rB,rB] at hn;obtain ⟨m,rfl⟩:∃m,n=m+3:=⟨n - 3,by omega⟩;show eS (iM (m+2)) (m+2) c _=_;unfold eS;obtain ⟨n1,n2,_⟩:=Sign1.ne h;rw [AH n1 n2,if_neg (by simpa using n1),if_neg (by simpa using n2),op_eq (by omega),iJ];unfold jL;rw [if_pos (by simp),GO,iJ,ih _ (by omega),iJ,uV (by simp),cR (by decide) (by decide)];unfold jL;rw [if_neg (by simp)];rfl
 | @bin o x y a h hx hy i1 i2=>
   intro n hn;rw [xz,rB,rB,rB] at hn;obtain ⟨m,rfl⟩:∃m,n=m+4:=⟨n - 4,by omega⟩;show eS (iM (m+3)) (m+3) c _=_;unfold eS;obtain ⟨n1,n2,_⟩:=h.ne;rw [AH n1 n2,if_neg (by simpa using n1),if_neg (by simpa using n2),op_eq (by omega),iJ];unfold jL;rw [if_pos (by simp),GO,iJ,i1 _ (by omega),iJ,uV (by simp),cR (by decide) (by decide)];unfold jL;rw [if_pos (by simp),Pr,iJ,i2 _ (by omega),iJ,uV (by simp),cR (by decide) (by decide)];unfold jL;rw [if_neg (by simp)];rfl
theorem QS (hT:AA b vs sc c.bO) (h:Iq vs sc x) (hb:xz x<=100000000):∀n,xz x+2100<n->iA n c x=some (tm (Gg c.bO x):Int):=by
 induction h with
 | num=>
   intro n hn;obtain ⟨m,rfl⟩:∃m,n=m+2:=⟨n - 2,by omega⟩;show eH (iA (m+1)) (m+1) c _=_;unfold eH gM;rw [Gf,if_neg (by simp),if_neg (by simp),tm,uT];rfl
 | var h1 h2 h3=>
   intro n hn;obtain ⟨m,rfl⟩:∃m,n=m+1:=⟨n - 1,by omega⟩;show eH (iA m) m c _=_;unfold eH;obtain ⟨t,k1,k2,k3⟩:=hT.ok _ h1 _ h2 h3;rw [Mo k1,if_pos (by rfl),k1,iJ,VG _ _ (by omega) (by omega)];rfl
 | @un o x a h hx ih=>
   intro n hn;rw [xz,rB,rB] at hn hb;obtain ⟨m,rfl⟩:∃m,n=m+3:=⟨n - 3,by omega⟩;show eH (iA (m+2)) (m+2) c _=_;unfold eH;obtain ⟨n1,n2,_⟩:=Sign1.ne h;have hz:=(JN hT hx).2;rw [AH n1 n2,if_neg (by simpa using n2)];unfold gM;rw [if_pos (by simp),GO,iJ,ih (by omega) _ (by omega),iJ,cR (n:=(1:Int)+_) (by omega) (by omega),cR (by decide) (by decide)];unfold gM;rw [if_neg (by simp),yQ,yQ,tm,uT,uT,iJ]
   congr 1
 | @bin o x y a h hx hy i1 i2=>
   intro n hn;rw [xz,rB,rB,rB] at hn hb;obtain ⟨m,rfl⟩:∃m,n=m+4:=⟨n - 4,by omega⟩;show eH (iA (m+3)) (m+3) c _=_;unfold eH;obtain ⟨n1,n2,_⟩:=h.ne;have hz:=(JN hT hx).2;have hz2:=(JN hT hy).2;rw [AH n1 n2,if_neg (by simpa using n2)];unfold gM;rw [if_pos (by simp),GO,iJ,i1 (by omega) _ (by omega),iJ,cR (n:=(1:Int)+_) (by omega) (by omega),cR (by decide) (by decide)];unfold gM;rw [if_pos (by simp),Pr,iJ,i2 (by omega) _ (by omega),iJ,cR (n:=(1:Int)+_+_) (by omega) (by omega),cR (by decide) (by decide)];unfold gM;rw [if_neg (by simp),yQ,yQ,yQ,tm,uT,uT,uT,iJ]
   congr 1;omega
theorem Iq.type (h:Iq vs sc x):x.cK=1:=by cases h <;> rfl
theorem PQ (hT:AA b vs sc c.bO) (h:Iq vs sc x) (hb:xz x<=100000000) {n:Nat} (hn:xz x+2100<n) :
  bK (kG n c x) λr=>(r.2=0/\tm (Gg c.bO x)<=2000/\oN n (Gg c.bO x)=some r.1/\Sh b r.1/\tm r.1<=2000) ∨ (r.2=161/\2000<tm (Gg c.bO x)/\r.1=tz0):=by
 unfold kG;obtain ⟨s1,s2⟩:=JN hT h;rw [h.type,if_neg (by decide),QS hT h hb n hn,iJ];refine bK.iteb (λh2=>.some (.inr ⟨rfl,by have:=AD h2;omega,rfl⟩)) λh2=>?_;have h2:=LY h2;rw [TT hT h n (by omega),iJ];obtain ⟨r,hr,k1,k2⟩:=VD s1 n (by omega);rw [hr,iJ];exact .some (.inl ⟨rfl,by omega,rfl,k1,by show tm r<=2000;omega⟩)
end
def Er (a b:Int):Prop:=b=a ∨ a=0/\b=161
theorem Er.refl (a:Int):Er a a:=.inl rfl
theorem Er.trans {a b c:Int} (h:Er a b) (k:Er b c):Er a c:=by
 rcases h with rfl | ⟨rfl,rfl⟩
 ·exact k
 ·rcases k with rfl | ⟨h,_⟩
  ·exact .inr ⟨rfl,rfl⟩
  ·cases h
theorem Er.keep {a b:Int} (h:Er a b) (ha:a ≠ 0):b=a:=h.resolve_right λk=>ha k.1
theorem Er.zero {a b:Int} (h:Er a b) (hb:b=0):a=0:=by rcases h with rfl | ⟨h,_⟩;exact hb;exact h
section
variable {b:Bool} {vs:List aL} {sc:List Int} {y:aS} {x:aF}
theorem LN (hT:AA b vs sc y.c_.bO) (h:Iq vs sc x) (hb:xz x<=100000000) {n:Nat} (hn:xz x+2100<n) :
  bK (lG n y x) λr=>r.2.c_=y.c_/\Er y.e_ r.2.e_/\((tm (Gg y.c_.bO x)<=2000/\oN n (Gg y.c_.bO x)=some r.1/\Sh b r.1/\r.2.e_=y.e_) ∨ (2000<tm (Gg y.c_.bO x)/\r.1=tz0/\r.2.e_ ≠ 0))/\tm r.1<=2000:=by
 unfold lG;refine (PQ hT h hb hn).bind λr hr=>?_;have hz:tm tz0<=2000:=by rw [tm,uT];omega
 refine bK.iteb (λh0=>.some ⟨rfl,?_,?_,?_⟩) λh0=>.some ⟨rfl,.inl rfl,?_,?_⟩
 ·have h0:y.e_=0:=by simpa using h0
  rcases hr with ⟨h1,_⟩ | ⟨h1,_⟩
  ·exact .inl (h1.trans h0.symm)
  ·exact .inr ⟨h0,h1⟩
 ·have h0:y.e_=0:=by simpa using h0
  rcases hr with ⟨h1,h2,h3,h4,_⟩ | ⟨h1,h2,h3⟩
  ·exact .inl ⟨h2,h3,h4,h1.trans h0.symm⟩
  ·exact .inr ⟨h2,h3,by show r.2 ≠ 0;rw [h1];decide⟩
 ·rcases hr with ⟨_,_,_,_,h5⟩ | ⟨_,_,h3⟩
  ·exact h5
  ·rw [h3];exact hz
 ·have h0:y.e_ ≠ 0:=by simpa using h0
  rcases hr with ⟨h1,h2,h3,h4,_⟩ | ⟨h1,h2,h3⟩
  ·exact .inl ⟨h2,h3,h4,rfl⟩
  ·exact .inr ⟨h2,h3,h0⟩
 ·rcases hr with ⟨_,_,_,_,h5⟩ | ⟨_,_,h3⟩
  ·exact h5
  ·rw [h3];exact hz
def Vz (y r:aS):Prop:=r.c_=y.c_/\Er y.e_ r.e_
theorem Vz.refl (y:aS):Vz y y:=⟨rfl,.inl rfl⟩
theorem Vz.trans {y z r:aS} (h:Vz y z) (k:Vz z r):Vz y r:=⟨k.1.trans h.1,h.2.trans k.2⟩
theorem look_l2 {n:Nat} (hP:∀z ∈ x.aO,Iq vs sc z) (hb:rB x.aO<=100000000) (hn:rB x.aO+2100<n):∀(k v:Nat) (y:aS),AA b vs sc y.c_.bO->x.aO.length<v+k->v<=x.aO.length->bK (qB n x k (v:Int) y) (Vz y):=by
 have hlen:=vS x.aO;intro k
 induction k with
 | zero=>intro v y hT h1 h2;omega
 | succ k ih=>
   intro v y hT h1 h2;unfold qB;refine bK.iteb (λhv=>?_) λhv=>.some (.refl y);have hv:v<x.aO.length:=by have:=AD hv;omega
   refine bK.eqn (qH (uS hv)) ?_;have hm:=AV (Ln hv);refine (LN hT (hP _ (Ln hv)) (by omega) (by omega)).bind λr hr=>?_;rw [cR (by omega) (by omega),show ((v:Int)+1)=((v+1:Nat):Int) by omega];exact (ih (v+1) r.2 (by rw [hr.1];exact hT) (by omega) (by omega)).mono λz hz=>Vz.trans ⟨hr.1,hr.2.1⟩ hz
theorem look_l1 {f:aS->aF->Option aS} (hf:∀z ∈ x.aO,∀y:aS,AA b vs sc y.c_.bO->bK (f y z) (Vz y)) (hb:rB x.aO<=100000000):∀(k v:Nat) (y:aS),AA b vs sc y.c_.bO->x.aO.length<v+k->v<=x.aO.length->bK (qC f x k (v:Int) y) (Vz y):=by
 have hlen:=vS x.aO;intro k
 induction k with
 | zero=>intro v y hT h1 h2;omega
 | succ k ih=>
   intro v y hT h1 h2;unfold qC;refine bK.iteb (λhv=>?_) λhv=>.some (.refl y);have hv:v<x.aO.length:=by have:=AD hv;omega
   refine bK.eqn (qH (uS hv)) ?_;refine (hf _ (Ln hv) y hT).bind λr hr=>?_;rw [cR (by omega) (by omega),show ((v:Int)+1)=((v+1:Nat):Int) by omega];exact (ih (v+1) r (by rw [hr.1];exact hT) (by omega) (by omega)).mono λz hz=>hr.trans hz
theorem TX.list (h:TX vs sc x):(∀z ∈ x.aO,TX vs sc z)/\((x.fR=[105,110,100,101,120] ∨ x.fR=[47] ∨ x.fR=[37])->∀z ∈ x.aO,Iq vs sc z):=by
 have one:∀ {P:aF->Prop} {x},P x->∀z ∈ [x],P z:=λh z hz=>by rw [zG.1 hz];exact h
 have two:∀ {P:aF->Prop} {x y},P x->P y->∀z ∈ [x,y],P z:=λh k z hz=>by
  rcases AE.1 hz with rfl | hz
  ·exact h
  ·exact one k z hz
 have tri:∀ {P:aF->Prop} {x y u},P x->P y->P u->∀z ∈ [x,y,u],P z:=λh k l z hz=>by
  rcases AE.1 hz with rfl | hz
  ·exact h
  ·exact two k l z hz
 cases h with
 | num=>exact ⟨λ_ h=>(nomatch h),λ_ _ h=>(nomatch h)⟩
 | var=>exact ⟨λ_ h=>(nomatch h),λ_ _ h=>(nomatch h)⟩
 | index h1 h2 h3 h4 h5 h6=>exact ⟨one h4,λ_=>one (h4.pub h5)⟩
 | un h1 h2=>
   obtain ⟨_,_,n3,n4,n5⟩:=Sign1.ne h1;exact ⟨one h2,λh=>h.elim (λh=>absurd h n3) λh=>h.elim (λh=>absurd h n4) λh=>absurd h n5⟩
 | @bin o x y t a h1 h2 h3=>
   refine ⟨two h1 h2,λh=>?_⟩
   have ho:o=[47] ∨ o=[37]:=by
    rcases h with h | h
    ·exfalso
     have h:o=[105,110,100,101,120]:=h;subst h
     rcases h3 with ⟨h,_⟩ | ⟨h,_⟩ | ⟨h,_⟩ | ⟨h,_⟩ | ⟨h,_⟩
     ·rcases h with h | h <;> exact absurd h (by decide)
     ·rcases h with h | h | h <;> exact absurd h (by decide)
     ·exact absurd h (by decide)
     ·rcases h with h | h <;> exact absurd h (by decide)
     ·rcases h with h | h | h | h | h <;> exact absurd h (by decide)
    ·exact h
   have:x.cK=1/\y.cK=1:=by
    rcases h3 with ⟨_,h4,h5,_⟩ | ⟨h,_⟩ | ⟨h,_⟩ | ⟨h,_⟩ | ⟨h,_⟩
    ·exact ⟨h4,h5⟩
    ·exfalso;rcases ho with rfl | rfl <;> rcases h with h | h | h <;> exact absurd h (by decide)
    ·exfalso;rcases ho with rfl | rfl <;> exact absurd h (by decide)
    ·exfalso;rcases ho with rfl | rfl <;> rcases h with h | h <;> exact absurd h (by decide)
    ·exfalso;rcases ho with rfl | rfl <;> rcases h with h | h | h | h | h <;> exact absurd h (by decide)
   exact two (h1.pub this.1) (h2.pub this.2)
 | sel h1 h2 h3 h4 h5=>exact ⟨tri h1 h2 h3,λh=>by rcases h with h | h | h <;> exact absurd h (by simp only;decide)⟩
 | long h1 h2=>exact ⟨one h1,λh=>by rcases h with h | h | h <;> exact absurd h (by simp only;decide)⟩
 | wide h1 h2 h3 h4=>exact ⟨two h1 h2,λh=>by rcases h with h | h | h <;> exact absurd h (by simp only;decide)⟩
 | half h0 h1 h2=>exact ⟨one h1,λh=>by rcases h0 with rfl | rfl <;> rcases h with h | h | h <;> exact absurd h (by simp only;decide)⟩
theorem Uo:∀(n:Nat) (x:aF) (y:aS),TX vs sc x->AA b vs sc y.c_.bO->xz x<=100000000->xz x+2200<n->bK (lI n y x) (Vz y):=by
 intro n
 induction n with
 | zero=>intro x y h hT hb hn;omega
 | succ n ih=>
   intro x y h hT hb hn;show bK (oD (lI n) n y x) _;unfold oD;obtain ⟨l1,l2⟩:=h.list;have he:=Bp x;have hlen:=vS x.aO
   refine (look_l1 (b:=b) (vs:=vs) (sc:=sc) (f:=lI n) (λz hz y hT=>by
    have:=AV hz;exact ih z y (l1 z hz) hT (by omega) (by omega)) (by omega) n 0 y hT (by omega) (by omega)).bind λr hr=>?_
   refine bK.bind (P:=λc=>c=true->x.fR=[105,110,100,101,120] ∨ x.fR=[47] ∨ x.fR=[37]) ?_ λc hc=>?_
   ·refine bK.iteb (λh=>.some λ_=>.inl (AD h)) λ_=>bK.iteb (λh=>.some λ_=>.inr (.inl (AD h))) λ_=>.some λh=>.inr (.inr (AD h))
   refine bK.iteb (λh=>?_) λh=>.some hr;refine (look_l2 (b:=b) (n:=n) (l2 (hc h)) (by omega) (by omega) n 0 r (by rw [hr.1];exact hT) (by omega) (by omega)).bind λz hz=>.some (hr.trans hz)
end
structure DA (s:bW):Prop where
 lo:sX s.BI
 hi:sX s.qN
def Is (s:bW) (x:Int):Prop:=s.BI<=x/\x<=s.qN
theorem DA.all:DA ⟨0,4294967295⟩:=⟨.z,.m⟩
theorem Is.all {x:Int} (h:sX x):Is ⟨0,4294967295⟩ x:=h
def Bnd (lo hi ws:List Int):Prop:=∀i:Nat,(lo[i]?).getD 0<=(ws[i]?).getD 0/\(ws[i]?).getD 0<=(hi[i]?).getD 4294967295
theorem Vj {l:List Int} (hl:yJ l) {k o:Int} (h1:0<=k) (h2:k<=255) (ho:sX o):bK (El l k o) λr=>sX r/\r=(l[k.toNat]?).getD o:=by
 unfold El;refine bK.iteb (λh=>?_) λh=>?_
 ·have h:=AD h;rw [cR (by omega) (by omega)] at h;refine bK.bind' (bK.idx h1 h λx hx=>.some ⟨hl _ (CT hx),by rw [hx];rfl⟩)
 ·have h:=LY h;rw [cR (by omega) (by omega)] at h;exact .some ⟨ho,by rw [OJ (by omega)];rfl⟩
section
variable {a b:Int} (ha:sX a) (hb:sX b)
include ha hb
theorem add32:qJ a b 0=some ((a+b) % 4294967296,(a+b) / 4294967296):=by
 obtain ⟨a1,a2⟩:=ha;obtain ⟨b1,b2⟩:=hb;unfold qJ Hs;simp only [IntKind.wrap_u32,IntKind.wrap_u64];have e:min (32:Int).toNat IntKind.u64.bits=32:=rfl;rw [e,xfn _ (by decide)]
 congr 2 <;> omega
theorem mul32:rX a b=some ((a*b) / 4294967296,(a*b) % 4294967296):=by
 obtain ⟨a1,a2⟩:=ha;obtain ⟨b1,b2⟩:=hb;unfold rX Hs;simp only [IntKind.wrap_u32,IntKind.wrap_u64];have e:min (32:Int).toNat IntKind.u64.bits=32:=rfl;have h1:0<=a*b:=Int.mul_nonneg a1 b1;have h2:a*b<=4294967295*4294967295:=Int.mul_le_mul a2 b2 b1 (by decide);rw [e,xfn _ (by decide),Int.emod_eq_of_lt a1 (show a<18446744073709551616 by omega),Int.emod_eq_of_lt b1 (show b<18446744073709551616 by omega)]
 generalize a*b=q at *
 congr 2 <;> omega
theorem and32:wC .u32 a b<=a/\wC .u32 a b<=b:=by
 obtain ⟨a1,a2⟩:=ha;obtain ⟨b1,b2⟩:=hb;obtain ⟨x,rfl⟩:=xen a1;obtain ⟨y,rfl⟩:=xen b1;unfold wC;rw [IntKind.wrap_u32,BitVec.toNat_and]
 have e:∀z:Nat,(z:Int)<=4294967295->(BitVec.ofInt IntKind.u32.bits (z:Int)).toNat=z:=λz hz=>by
  show (BitVec.ofInt 32 (z:Int)).toNat=z;rw [BitVec.toNat_ofInt];omega
 rw [e x a2,e y b2];have h1:x &&& y<=x:=Nat.and_le_left;have h2:x &&& y<=y:=Nat.and_le_right;omega
end
theorem divs {a b x y:Int} (h0:0<=a) (h1:a<=x) (h2:0<y) (h3:y<=b):a / b<=x / y:=by
 obtain ⟨a,rfl⟩:=xen h0;obtain ⟨x,rfl⟩:=xen (Int.le_trans h0 h1);obtain ⟨y,rfl⟩:=xen (Int.le_of_lt h2);obtain ⟨b,rfl⟩:=xen (show 0<=b by omega);have:=Nat.div_le_div (a:=a) (b:=x) (c:=b) (d:=y) (by omega) (by omega) (by omega)
 exact_mod_cast this
theorem Mb {x:Int} (h:sX x):IntKind.u32.wrap x=x:=by obtain ⟨h1,h2⟩:=h;rw [IntKind.wrap_u32];omega
theorem ON {o:Int} (h5:5<=o) (h17:o<=17) {a b:bW} (ha:DA a) (hb:DA b):bK (wI o a b) λs=>DA s/\∀x y v,sX x->sX y->Is a x->Is b y->jV o x y=some (v,true)->Is s v:=by
 have hw:∀ {x y v:Int},sX x->sX y->jV o x y=some (v,true)->sX v:=λhx hy h=>by
  obtain ⟨r,e,hr⟩:=PW o hx hy;rw [h] at e;rw [←bU e] at hr;exact hr
 have hall:bK (some (bW.mk 0 4294967295)) λs=>DA s/\∀x y v,sX x->sX y->Is a x->Is b y->jV o x y=some (v,true)->Is s v:=.some ⟨.all,λx y v hx hy _ _ h=>.all (hw hx hy h)⟩
 have hbool:∀ {c:Bool} {v:Int},some ((if c=true then (1:Int) else 0),true)=some (v,true)->Is ⟨0,1⟩ v:=λ{c v} h=>by
  have h:=congrArg Prod.fst (bU h);simp only at h;rw [←h];unfold Is;cases c <;> decide
 obtain ⟨⟨al0,al1⟩,⟨ah0,ah1⟩⟩:=ha;obtain ⟨⟨bl0,bl1⟩,⟨bh0,bh1⟩⟩:=hb;unfold wI;refine bK.iteb (λh=>?_) λn8=>bK.iteb (λh=>?_) λn9=>bK.iteb (λh=>?_) λn7=>bK.iteb (λh=>?_) λn13=>bK.iteb (λh=>?_) λn14=>bK.iteb (λh=>?_) λn15=>bK.iteb (λh=>?_) λn16=>bK.iteb (λh=>?_) λn17=>bK.iteb (λh=>?_) λ_=>hall
 ·obtain rfl:o=8:=by simpa using h
  refine .some ⟨⟨.z,.i⟩,λx y v _ _ _ _ h=>?_⟩;have e:jV 8 x y=some (if (x == y)=true then 1 else 0,true):=by unfold jV;rw [zJ];rfl
  rw [e] at h;exact hbool h
 ·obtain rfl:o=9:=by simpa using h
  refine .some ⟨⟨.z,.i⟩,λx y v _ _ _ _ h=>?_⟩;have e:jV 9 x y=some (if decide (x<y)=true then 1 else 0,true):=by unfold jV;rw [zJ,zJ];rfl
  rw [e] at h;exact hbool h
 ·obtain rfl:o=7:=by simpa using h
  refine .some ⟨⟨.z,by unfold sX;simp only;omega⟩,λx y v hx hy ⟨i1,i2⟩ ⟨j1,j2⟩ h=>?_⟩;have hv:=hw hx hy h;have e:jV 7 x y=some (wC .u32 x y,true):=rfl;rw [e] at h;have h:=congrArg Prod.fst (bU h);have:=and32 hx hy;unfold Is;unfold sX at hv;simp only at h ⊢;omega
 ·obtain rfl:o=13:=by simpa using h
  unfold Fp;rw [add32 ⟨al0,al1⟩ ⟨bl0,bl1⟩,add32 ⟨ah0,ah1⟩ ⟨bh0,bh1⟩,iJ,iJ];refine bK.bind (P:=λs=>DA s/\∀x y v,sX x->sX y->Is a x->Is b y->jV 13 x y=some (v,true)->Is s v) (bK.iteb (λ_=>hall) λh=>.some ⟨⟨?_,?_⟩,λx y v ⟨x0,x1⟩ ⟨y0,y1⟩ ⟨i1,i2⟩ ⟨j1,j2⟩ hv=>?_⟩) λ_ h=>.some h
  ·unfold sX;simp only;omega
  ·unfold sX;simp only;omega
  ·have e:jV 13 x y=some (IntKind.u32.wrap (x+y),true):=rfl;rw [e,IntKind.wrap_u32] at hv;have hv:=congrArg Prod.fst (bU hv);have h:¬ (a.qN+b.qN) / 4294967296=1:=by simpa using h
   unfold Is;simp only at hv ⊢;omega
 ·obtain rfl:o=14:=by simpa using h
  refine bK.iteb (λh=>.some ⟨⟨.wrap _,.wrap _⟩,λx y v ⟨x0,x1⟩ ⟨y0,y1⟩ ⟨i1,i2⟩ ⟨j1,j2⟩ hv=>?_⟩) λ_=>hall;have h:=AD h;have e:jV 14 x y=some (IntKind.u32.wrap (x - y),true):=rfl;rw [e,IntKind.wrap_u32] at hv;have hv:=congrArg Prod.fst (bU hv);unfold Is;simp only [IntKind.wrap_u32] at hv ⊢;omega
 ·obtain rfl:o=15:=by simpa using h
  unfold xG;rw [mul32 ⟨ah0,ah1⟩ ⟨bh0,bh1⟩,iJ];refine bK.bind (P:=λs=>DA s/\∀x y v,sX x->sX y->Is a x->Is b y->jV 15 x y=some (v,true)->Is s v) (bK.iteb (λ_=>hall) λh=>.some ⟨⟨.wrap _,?_⟩,λx y v ⟨x0,x1⟩ ⟨y0,y1⟩ ⟨i1,i2⟩ ⟨j1,j2⟩ hv=>?_⟩) λ_ h=>.some h
  ·unfold sX;simp only;omega
  ·have e:jV 15 x y=some (IntKind.u32.wrap (x*y),true):=rfl;rw [e,IntKind.wrap_u32] at hv;have hv:=congrArg Prod.fst (bU hv);have h:=LY h;have m1:a.BI*b.BI<=x*y:=Int.mul_le_mul i1 j1 bl0 x0;have m2:x*y<=a.qN*b.qN:=Int.mul_le_mul i2 j2 y0 ah0;have m3:0<=a.BI*b.BI:=Int.mul_nonneg al0 bl0;unfold Is;simp only [IntKind.wrap_u32] at h hv ⊢
   generalize a.BI*b.BI=p at *
   generalize x*y=q at *
   generalize a.qN*b.qN=r at *
   omega
 ·obtain rfl:o=16:=by simpa using h
  refine bK.need (by omega) (bK.need (by omega) (.some ⟨⟨.wrap _,.wrap _⟩,λx y v ⟨x0,x1⟩ ⟨y0,y1⟩ ⟨i1,i2⟩ ⟨j1,j2⟩ hv=>?_⟩));have hy:y ≠ 0:=λh=>by subst h;exact absurd (congrArg Prod.snd (bU hv)) (by simp)
  have e:jV 16 x y=some (IntKind.u32.wrap (x.tdiv y),true):=by
   unfold jV;rw [if_neg (by decide),if_neg (by decide),if_neg (by decide),if_neg (by decide),if_neg (by decide),if_pos (by decide),if_neg (by simpa using hy),uV hy]
  rw [e] at hv;have hv:=congrArg Prod.fst (bU hv);simp only at hv;have w1:sX (x / y):=sX.div ⟨x0,x1⟩ y0;have w2:sX (a.BI / max b.qN 1):=sX.div ⟨al0,al1⟩ (by omega);have w3:sX (a.qN / max b.BI 1):=sX.div ⟨ah0,ah1⟩ (by omega);unfold Is;simp only [Int.tdiv_eq_ediv_of_nonneg x0,Int.tdiv_eq_ediv_of_nonneg al0,Int.tdiv_eq_ediv_of_nonneg ah0] at hv ⊢;rw [Mb w1] at hv;rw [Mb w2,Mb w3,←hv];exact ⟨divs al0 i1 (by omega) (by omega),divs x0 i2 (by omega) (by omega)⟩
 ·obtain rfl:o=17:=by simpa using h
  have h1:IntKind.u32.wrap (max b.qN 1 - 1)=max b.qN 1 - 1:=Mb (by unfold sX;omega);rw [h1];refine .some ⟨⟨.z,by unfold sX;simp only;omega⟩,λx y v ⟨x0,x1⟩ ⟨y0,y1⟩ ⟨i1,i2⟩ ⟨j1,j2⟩ hv=>?_⟩;have hy:y ≠ 0:=λh=>by subst h;exact absurd (congrArg Prod.snd (bU hv)) (by simp)
  have e:jV 17 x y=some (x.tmod y,true):=by
   unfold jV;rw [if_neg (by decide),if_neg (by decide),if_neg (by decide),if_neg (by decide),if_neg (by decide),if_neg (by decide),if_pos (by decide),if_neg (by simpa using hy),uV hy]
  rw [e,xfo x0] at hv;have hv:=congrArg Prod.fst (bU hv);have m1:=Int.emod_nonneg x hy;have m2:=Int.emod_lt_of_pos x (show 0<y by omega)
  have m3:x % y<=x:=by
   obtain ⟨x',rfl⟩:=xen x0;obtain ⟨y',rfl⟩:=xen y0
   exact_mod_cast Nat.mod_le x' y'
  unfold Is;simp only at hv ⊢;omega
 ·obtain rfl:o=11:=by simpa using h
  refine .some ⟨⟨.z,ah0,ah1⟩,λx y v hx hy ⟨i1,i2⟩ ⟨j1,j2⟩ h=>?_⟩;have hv:=hw hx hy h
  have e:jV 11 x y=some (Hs .u32 x (wC .u32 y 31),true):=by
   show (tE 11 x y).bind (λx16=>some (x16,true))=_
   have:tE 11 x y=some (Hs .u32 x (wC .u32 y 31)):=by
    unfold tE;rw [if_neg (by decide),if_neg (by decide),if_neg (by decide),if_neg (by decide),if_pos (by decide),uV MH]
   rw [this];rfl
  rw [e] at h;have h:=congrArg Prod.fst (bU h)
  have:Hs .u32 x (wC .u32 y 31)<=x:=by
   unfold Hs;rw [xfn _ (Int.pow_nonneg (by decide))];exact Int.ediv_le_self _ hx.1
  unfold Is;unfold sX at hv;simp only at h ⊢;omega
theorem UL {n:Nat} {o:Int} {x y:aM} {ws:List Int} {v:Int} (h:kP (n+1) ⟨o,0,[x,y]⟩ ws=some (v,true)):∃a b,kP n x ws=some (a,true)/\kP n y ws=some (b,true)/\jV o a b=some (v,true):=by
 have h:lB (kP n) n ⟨o,0,[x,y]⟩ ws=some (v,true):=h;unfold lB at h;rw [if_neg (by simp),GO,iJ] at h;obtain ⟨r,hr,h⟩:=aI h;cases h2:r.2 with
 | false=>
   rw [h2,if_pos (by rfl),iJ,if_pos rfl] at h;obtain ⟨_,_,h⟩:=aI h;obtain ⟨_,_,h⟩:=aI h;exact absurd (congrArg Prod.snd (bU h)) (by simp)
 | true=>
   rw [h2,if_neg (by decide),iJ,if_neg (by simp)] at h;obtain ⟨y',hy,h⟩:=aI h;obtain rfl:y=y':=bU hy;obtain ⟨s,hs,h⟩:=aI h;cases h3:s.2 with
   | false=>
     rw [h3,if_pos (by rfl)] at h;exact absurd (congrArg Prod.snd (bU h)) (by simp)
   | true=>
     rw [h3,if_neg (by decide)] at h;obtain ⟨z,hz,h⟩:=aI h;exact ⟨r.1,s.1,by rw [hr,←h2],by rw [hs,←h3],by rw [hz,←h]⟩
theorem Nh {t:aM} (h:Sh false t) {lo hi:List Int} (hl:yJ lo) (hh:yJ hi):∀n,tm t<n->bK (tD n t lo hi) λs=>DA s/\∀ws m v,yJ ws->Bnd lo hi ws->tm t<m->kP m t ws=some (v,true)->Is s v:=by
 have hev:∀ {t:aM} {ws m v},Sh false t->yJ ws->tm t<m->kP m t ws=some (v,true)->sX v:=λht hw hm h=>by
  obtain ⟨r,e,hr⟩:=KF ht hw _ hm;rw [h] at e;rw [←bU e] at hr;exact hr
 induction h with
 | z e=>cases e
 | @con v c1 c2=>
   intro n hn;obtain ⟨m,rfl⟩:∃m,n=m+1:=⟨n - 1,by omega⟩;show bK (nR (tD m) m _ lo hi) _;unfold nR;refine bK.iteb (λ_=>.some ⟨⟨⟨c1,c2⟩,c1,c2⟩,λws k w _ _ hk h=>?_⟩) λh=>nomatch h;obtain ⟨k,rfl⟩:∃j,k=j+1:=⟨k - 1,by omega⟩;have h:some ((v,true):Int × Bool)=some (w,true):=h;have h:=congrArg Prod.fst (bU h);simp only at h;subst h;exact ⟨Sy _,Sy _⟩
 | @var q h1 h2=>
   intro n hn;obtain ⟨m,rfl⟩:∃m,n=m+1:=⟨n - 1,by omega⟩;show bK (nR (tD m) m _ lo hi) _;unfold nR;refine bK.iteb (λh=>nomatch h) λ_=>bK.iteb (λ_=>?_) λh=>nomatch h;refine (Vj hl h1 h2 .z).bind λl ⟨l1,l2⟩=>(Vj hh h1 h2 .m).bind λu ⟨u1,u2⟩=>.some ⟨⟨l1,u1⟩,λws k w hws hb hk h=>?_⟩;obtain ⟨k,rfl⟩:∃j,k=j+1:=⟨k - 1,by omega⟩;have h:(wJ ⟨2,q,[]⟩ ws).bind (λx=>some (x,true))=some (w,true):=h;obtain ⟨x,hx,h⟩:=aI h;have h:=congrArg Prod.fst (bU h);simp only at h;subst h
   have e:x=(ws[q.toNat]?).getD 0:=by
    unfold wJ at hx;rw [if_neg (by simp),cR (show -9223372036854775808<=q by omega) (show q<=9223372036854775807 by omega)] at hx
    by_cases hlt:q<(ws.length:Int)
    ·rw [if_pos (AB hlt)] at hx;obtain ⟨y,hy,hx⟩:=aI hx;obtain rfl:=bU hx;obtain ⟨_,_,hy⟩:=bZ hy;rw [hy];rfl
    ·rw [if_neg (by rw [Bq];exact hlt)] at hx;rw [←bU hx,OJ (by omega)];rfl
   have:=hb q.toNat;unfold Is;rw [e,l2,u2];exact this
 | @un o x ho hx ih=>
   intro n hn;obtain ⟨m,rfl⟩:∃m,n=m+1:=⟨n - 1,by omega⟩;show bK (nR (tD m) m _ lo hi) _;unfold nR;have fin:bK (some (bW.mk 0 4294967295)) λs=>DA s/\∀ws m v,yJ ws->Bnd lo hi ws->tm (⟨o,0,[x]⟩:aM)<m->kP m ⟨o,0,[x]⟩ ws=some (v,true)->Is s v:=.some ⟨.all,λws k v hws _ hk h=>.all (hev (.un ho hx) hws hk h)⟩
   rcases ho with rfl | rfl
   ·exact bK.iteb (λh=>nomatch h) λ_=>bK.iteb (λh=>nomatch h) λ_=>bK.iteb (λ_=>fin) λh=>nomatch h
   ·exact bK.iteb (λh=>nomatch h) λ_=>bK.iteb (λh=>nomatch h) λ_=>bK.iteb (λh=>nomatch h) λ_=>bK.iteb (λ_=>fin) λh=>nomatch h
 | @bin o x y h1 h2 hx hy i1 i2=>
   intro n hn;obtain ⟨m,rfl⟩:∃m,n=m+1:=⟨n - 1,by omega⟩;have hz:tm (⟨o,0,[x,y]⟩:aM)=1+(tm x+(tm y+0)):=by rw [tm,uT,uT,uT]
   rw [hz] at hn;show bK (nR (tD m) m _ lo hi) _;unfold nR;refine bK.iteb (λh=>?_) λ_=>bK.iteb (λh=>?_) λ_=>bK.iteb (λh=>?_) λ_=>bK.iteb (λh=>?_) λ_=>?_
   ·exfalso;have h:o=1:=by simpa using h
    omega
   ·exfalso;have h:o=2:=by simpa using h
    omega
   ·exfalso;have h:o=3:=by simpa using h
    omega
   ·exfalso;have h:o=4:=by simpa using h
    omega
   refine bK.eqn GO ((i1 m (by omega)).bind λa ⟨a1,a2⟩=>bK.eqn Pr ((i2 m (by omega)).bind λb ⟨b1,b2⟩=>(ON h1 h2 a1 b1).bind λs ⟨s1,s2⟩=>.some ⟨s1,λws k v hws hb hk h=>?_⟩));obtain ⟨k,rfl⟩:∃j,k=j+1:=⟨k - 1,by omega⟩;rw [hz] at hk;obtain ⟨p,q,e1,e2,e3⟩:=UL h;exact s2 p q v (hev hx hws (by omega) e1) (hev hy hws (by omega) e2) (a2 ws k p hws hb (by omega) e1) (b2 ws k q hws hb (by omega) e2) e3
section
variable {vs:List aL} {sc:List Int} {c:bL} {x:aF}
theorem Np (hT:AA false vs sc c.bO) (h:Iq vs sc x) (hb:xz x<=100000000) (hl:yJ c.lW) (hh:yJ c.iG) {n:Nat} (hn:xz x+2100<n):bK (eZ n c x) λr=>eZ n c x=some r/\sX r.1/\sX r.2:=by
 have key:bK (eZ n c x) λr=>sX r.1/\sX r.2:=by
  unfold eZ;refine (PQ hT h hb hn).bind λr hr=>bK.iteb (λ_=>.some ⟨.z,.m⟩) λhe=>?_
  rcases hr with ⟨_,_,_,h4,h5⟩ | ⟨h1,_⟩
  ·unfold zK;refine bK.bind (P:=λr=>sX r.1/\sX r.2) ?_ λ_ h=>.some h;exact (Nh h4 hl hh n (by omega)).bind λs hs=>.some ⟨hs.1.lo,hs.1.hi⟩
  ·rw [h1] at he;cases he
 obtain ⟨r,hr,hw⟩:=key;exact ⟨r,hr,hr,hw⟩
end
def eb (e:Int):Bool:=!(e == 0)
theorem Bh {e:Int}:eb e=false ↔ e=0:=by unfold eb;simp
theorem UN {e:Int}:eb e=true ↔ e ≠ 0:=by unfold eb;simp
theorem AA.mono {b b':Bool} {vs:List aL} {sc sc':List Int} {T:List aM} (h:AA b vs sc T) (hb:b=true->b'=true) (hs:∀v ∈ sc',v ∈ sc):AA b' vs sc' T:=
 ⟨h.len,λv hv u hu hk=>by obtain ⟨t,h1,h2,h3⟩:=h.ok v (hs v hv) u hu hk;exact ⟨t,h1,h2.mono hb,h3⟩⟩
theorem Er.eb {a b:Int} (h:Er a b):eb a=true->eb b=true:=λe=>by rw [h.keep (UN.1 e)];exact e
theorem BL {α:Type} {l:List α} {i j:Int} {x t:α} (hj:bM l j=some t):(i.toNat=j.toNat/\0<=i->bM (l.set i.toNat x) j=some x)/\(i.toNat ≠ j.toNat->bM (l.set i.toNat x) j=some t):=by
 unfold bM at hj ⊢
 split at hj
 ·rename_i h0;have hlt:=(uG.1 hj).1;refine ⟨λh=>?_,λh=>?_⟩
  ·rw [if_pos h0,h.1,PT hlt]
  ·rw [if_pos h0,OL h];exact hj
 ·cases hj
theorem AA.set {b:Bool} {vs:List aL} {sc:List Int} {T:List aM} (h:AA b vs sc T) {i:Int} {t:aM} (hi:0<=i) (ht:Sh b t) (hz:tm t<=2000):AA b vs sc (T.set i.toNat t):=
 ⟨by rw [rJ];exact h.len,λv hv u hu hk=>by
  obtain ⟨s,h1,h2,h3⟩:=h.ok v hv u hu hk
  by_cases e:i.toNat=v.toNat
  ·exact ⟨t,(BL h1).1 ⟨e,hi⟩,ht,hz⟩
  ·exact ⟨s,(BL h1).2 e,h2,h3⟩⟩
theorem xX {α:Type} {l:List α} {i:Int} {x:α} (h:bM l i=some x):0<=i/\i<(l.length:Int):=by obtain ⟨h1,h2,_⟩:=bZ h;exact ⟨h1,h2⟩
theorem AA.snoc {b:Bool} {vs:List aL} {sc:List Int} {T:List aM} (h:AA b vs sc T) {i:Int} {t:aM} {u:aL} (hu:bM vs i=some u) (ht:Sh b t) (hz:tm t<=2000):AA b vs (sc++[i]) (T.set i.toNat t):=by
 obtain ⟨h0,h1⟩:=xX hu;have h2:=h.set h0 ht hz;refine ⟨h2.len,λv hv u' hu' hk=>?_⟩
 rcases zH.1 hv with hv | hv
 ·exact h2.ok v hv u' hu' hk
 ·obtain rfl:=zG.1 hv;refine ⟨t,?_,ht,hz⟩;have hl:=h.len;obtain ⟨s,hs,_⟩:=bK.idx (l:=T) (Q:=λ_=>True) h0 (by omega) λ_ _=>trivial;exact (BL hs).1 ⟨rfl,h0⟩
theorem AA.more {b:Bool} {vs:List aL} {sc:List Int} {T:List aM} (h:AA b vs sc T) {i:Int} {u:aL} (hu:bM vs i=some u) (hk:u.bS ≠ 1):AA b vs (sc++[i]) T:=
 ⟨h.len,λv hv u' hu' hk'=>by
  rcases zH.1 hv with hv | hv
  ·exact h.ok v hv u' hu' hk'
  ·obtain rfl:=zG.1 hv;rw [hu] at hu';cases hu';exact absurd hk' hk⟩
def Dec (s:aB) (i:Nat):Prop:=s.fR=[108,101,116] ∨ s.fR=[105,102] ∨ s.fR=[102,111,114] ∨ (s.fR=[112,117,116]/\i=0)
structure L2R (vs:List aL) (sc:List Int) (n:Nat) (s:aB) (v:Nat) (y r:aS):Prop where
 e:Er y.e_ r.e_
 c:r.c_={ y.c_ with bO:=r.c_.bO }
 ok:AA (eb r.e_) vs sc r.c_.bO
 no:s.fR ≠ [108,101,116]->r.c_.bO=y.c_.bO
 go:s.fR=[108,101,116]->v<s.aO.length->∃x t,s.aO[v]? = some x/\r.c_.bO=y.c_.bO.set s.fI.toNat t/\tm t<=2000/\Sh (eb r.e_) t/\(r.e_=0->tm (Gg y.c_.bO x)<=2000/\oN n (Gg y.c_.bO x)=some t)
 un:s.fR=[108,101,116]->¬ v<s.aO.length->r.c_.bO=y.c_.bO
 px:r.e_=0->∀i x,v<=i->s.aO[i]? = some x->Dec s i->Iq vs sc x/\tm (Gg y.c_.bO x)<=2000
theorem Vh {vs:List aL} {sc:List Int} {n:Nat} {s:aB} (hx:∀z ∈ s.aO,TX vs sc z) (hp:∀(i:Nat) z,s.aO[i]? = some z->Dec s i->Iq vs sc z) (hv:s.fR=[108,101,116]->s.aO.length=1/\∃u,bM vs s.fI=some u) (hb:rB s.aO<=100000000) (hn:rB s.aO+2300<n) :
  ∀(k v:Nat) (y:aS),AA (eb y.e_) vs sc y.c_.bO->s.aO.length<v+k->v<=s.aO.length->bK (mQ n s k (v:Int) y) (L2R vs sc n s v y):=by
 have hlen:=vS s.aO;intro k
 induction k with
 | zero=>intro v y hT h1 h2;omega
 | succ k ih=>
   intro v y hT h1 h2;unfold mQ;refine bK.iteb (λh=>?_) λh=>?_
   rotate_left
   ·have hge:s.aO.length<=v:=by have:=LY h;omega
    exact .some ⟨.refl _,rfl,hT,λ_=>rfl,λ_ h=>absurd h (by omega),λ_ _=>rfl,λ_ i x hi hx=>by rw [OJ (by omega)] at hx;cases hx⟩
   have hlt:v<s.aO.length:=by have:=AD h;omega
   have hg:=uS hlt;have hm:=Ln hlt;have hz:=AV hm;have hstep:IntKind.i64.wrap ((v:Int)+1)=((v+1:Nat):Int):=by rw [cR (by omega) (by omega)];omega
   rw [hstep];refine bK.bind (P:=λr=>Er y.e_ r.e_/\r.c_={ y.c_ with bO:=r.c_.bO }/\AA (eb r.e_) vs sc r.c_.bO/\(s.fR ≠ [108,101,116]->r.c_.bO=y.c_.bO)/\(s.fR=[108,101,116]->∃t,r.c_.bO=y.c_.bO.set s.fI.toNat t/\tm t<=2000/\Sh (eb r.e_) t/\(r.e_=0->tm (Gg y.c_.bO s.aO[v])<=2000/\oN n (Gg y.c_.bO s.aO[v])=some t))/\(r.e_=0->Dec s v->Iq vs sc s.aO[v]/\tm (Gg y.c_.bO s.aO[v])<=2000)) ?_ λr hr=>?_
   ·refine bK.eqn (qH hg) ?_;refine (Uo n _ y (hx _ hm) hT (by omega) (by omega)).bind λa ha=>?_;refine bK.bind (P:=λd=>d=true ↔ Dec s v) ?_ λd hd=>?_
    ·unfold Dec;refine bK.iteb (λh=>.some ⟨λ_=>.inl (AD h),λ_=>rfl⟩) λg1=>bK.iteb (λh=>.some ⟨λ_=>.inr (.inl (AD h)),λ_=>rfl⟩) λg2=>bK.iteb (λh=>.some ⟨λ_=>.inr (.inr (.inl (AD h))),λ_=>rfl⟩) λg3=>?_;have g1:=LY g1;have g2:=LY g2;have g3:=LY g3;refine bK.iteb (λh=>.some ⟨λhv=>.inr (.inr (.inr ⟨AD h,by have:(v:Int)=0:=(by simpa using hv);omega⟩)),λhv=>?_⟩) λg4=>.some ⟨λh=>(nomatch h),λhv=>?_⟩
     ·rcases hv with h | h | h | ⟨_,h⟩
      ·exact absurd h g1
      ·exact absurd h g2
      ·exact absurd h g3
      ·subst h;rfl
     ·have g4:=LY g4
      rcases hv with h | h | h | ⟨h,_⟩
      ·exact absurd h g1
      ·exact absurd h g2
      ·exact absurd h g3
      ·exact absurd h g4
    have hTa:AA (eb y.e_) vs sc a.c_.bO:=by rw [ha.1];exact hT
    refine bK.iteb (λhd1=>?_) λhd0=>?_
    ·have hdec:=hd.1 hd1;have hpx:=hp v _ hg hdec;refine (LN hTa hpx (by omega) (by omega)).bind λw hw=>?_;obtain ⟨w1,w2,w3,w4⟩:=hw;have hew:=ha.2.trans w2;have hwc:w.2.c_=y.c_:=w1.trans ha.1
     have hpl:w.2.e_=0->tm (Gg y.c_.bO s.aO[v])<=2000/\oN n (Gg y.c_.bO s.aO[v])=some w.1/\Sh (eb y.e_) w.1:=λh0=>by
      rcases w3 with ⟨h1,h2,h3,_⟩ | ⟨_,_,h3⟩
      ·rw [ha.1] at h1 h2;exact ⟨h1,h2,h3⟩
      ·exact absurd h0 h3
     refine bK.iteb (λhl=>?_) λhl=>?_
     ·have hl:=AD hl;obtain ⟨_,u,hu⟩:=hv hl;obtain ⟨h0,hu1⟩:=xX hu;refine (bK.idx (Q:=λ_=>True) h0 (by rw [hwc,hT.len];exact hu1) λ_ _=>trivial).bind λ_ _=>?_
      have hsh:Sh (eb w.2.e_) w.1:=by
       rcases w3 with ⟨_,_,h3,_⟩ | ⟨_,h2,h3⟩
       ·exact h3.mono hew.eb
       ·rw [h2];exact .z (UN.2 h3)
      refine .some ⟨hew,by simp only [hwc],?_,λh=>absurd hl h,λ_=>⟨w.1,by simp only [hwc],w4,hsh,λh=>⟨(hpl h).1,(hpl h).2.1⟩⟩,λh _=>⟨hpx,(hpl h).1⟩⟩;simp only [hwc];exact (hT.mono hew.eb λ_ h=>h).set h0 hsh w4
     ·have hl:=LY hl;exact .some ⟨hew,by rw [hwc],by rw [hwc];exact hT.mono hew.eb λ_ h=>h,λ_=>by rw [hwc],λh=>absurd h hl,λh _=>⟨hpx,(hpl h).1⟩⟩
    ·have hnd:¬ Dec s v:=λh=>by rw [hd.2 h] at hd0;cases hd0
     exact .some ⟨ha.2,by rw [ha.1],by rw [ha.1];exact hT.mono ha.2.eb λ_ h=>h,λ_=>by rw [ha.1],λh=>absurd (.inl h) hnd,λ_ h=>absurd h hnd⟩
   ·obtain ⟨r1,r2,r3,r4,r5,r6⟩:=hr;refine (ih (v+1) r r3 (by omega) (by omega)).mono λz hz=>⟨r1.trans hz.e,by rw [hz.c,r2],hz.ok,λh=>(hz.no h).trans (r4 h),λh _=>?_,λh h'=>absurd hlt h',λh0 i x hi hxi hd=>?_⟩
    ·have hl1:=(hv h).1;have hT2:=hz.un h (by omega);obtain ⟨t,q1,q2,q3,q4⟩:=r5 h;exact ⟨_,t,hg,by rw [hT2,q1],q2,q3.mono hz.e.eb,λh0=>q4 (hz.e.zero h0)⟩
    ·have hr0:=hz.e.zero h0
     rcases xeh v i with hlt2 | hge
     ·have hnl:s.fR ≠ [108,101,116]:=λh=>by
       have:=(hv h).1;have:=(uG.1 hxi).1;omega
      obtain ⟨k1,k2⟩:=hz.px h0 i x hlt2 hxi hd;rw [r4 hnl] at k2;exact ⟨k1,k2⟩
     ·obtain rfl:i=v:=by omega
      rw [hg] at hxi;cases hxi
      exact r6 hr0 hd
def Ku (s:aB):List aF:=if s.fR=[108,101,116] ∨ s.fR=[105,102] ∨ s.fR=[102,111,114] then s.aO else if s.fR=[112,117,116] then s.aO.take 1 else []
def KM (s:aB):List Int:=if s.fR=[102,111,114] then [s.fI] else []
def KN (s:aB):List Int:=if s.fR=[102,111,114] ∨ s.fR=[108,101,116] then [s.fI] else []
mutual
def frS:aB->List Int
 | ⟨o,v,f,l,b,e,a⟩=>KM ⟨o,v,f,l,b,e,a⟩++(As b++As e)
def As:List aB->List Int
 | []=>[]
 | s::l=>frS s++As l
end
mutual
def dvS:aB->List Int
 | ⟨o,v,f,l,b,e,a⟩=>KN ⟨o,v,f,l,b,e,a⟩++(AT b++AT e)
def AT:List aB->List Int
 | []=>[]
 | s::l=>dvS s++AT l
end
mutual
def pbS:aB->List aF
 | ⟨o,v,f,l,b,e,a⟩=>Ku ⟨o,v,f,l,b,e,a⟩++(Ia b++Ia e)
def Ia:List aB->List aF
 | []=>[]
 | s::l=>pbS s++Ia l
end
theorem Pu (s:aB):frS s=KM s++(As s.bQ++As s.eW):=by cases s;rw [frS]
theorem MA (s:aB):dvS s=KN s++(AT s.bQ++AT s.eW):=by cases s;rw [dvS]
theorem Ph (s:aB):pbS s=Ku s++(Ia s.bQ++Ia s.eW):=by cases s;rw [pbS]
inductive PV (L:List Int):aF->Prop
 | num {n a}:PV L ⟨[110,117,109],1,n,-1,[],a⟩
 | var {v a}:v ∈ L->PV L ⟨[118,97,114],1,0,v,[],a⟩
 | un {o x a}:(o=[110,111,116] ∨ o=[110,101,103])->PV L x->PV L ⟨o,1,0,-1,[x],a⟩
 | bin {o x y a}:KB o->PV L x->PV L y->PV L ⟨o,1,0,-1,[x,y],a⟩
theorem Iq.pv {vs:List aL} {sc pl:List Int} (hc:∀v ∈ sc,∀u,bM vs v=some u->u.bS=1->v ∈ pl) {x:aF} (h:Iq vs sc x):PV pl x:=by
 induction h with
 | num=>exact .num
 | var h1 h2 h3=>exact .var (hc _ h1 _ h2 h3)
 | un h _ ih=>exact .un h ih
 | bin h _ _ i1 i2=>exact .bin h i1 i2
theorem PV.mono {L L':List Int} (hl:∀v ∈ L,v ∈ L') {x:aF} (h:PV L x):PV L' x:=by
 induction h with
 | num=>exact .num
 | var h=>exact .var (hl _ h)
 | un h _ ih=>exact .un h ih
 | bin h _ _ i1 i2=>exact .bin h i1 i2
theorem JM {T:List aM} {ty n v a:Int} {l:List aF}:Gg T ⟨[118,97,114],ty,n,v,l,a⟩=(bM T v).getD tz0:=by rw [Gg,if_neg (by decide),if_pos rfl]
theorem PV.plx {L:List Int} {T T':List aM} (hl:∀v ∈ L,bM T' v=bM T v) {x:aF} (h:PV L x):Gg T' x=Gg T x:=by
 induction h with
 | num=>rw [Gf,Gf]
 | @var v a h=>
   rw [JM,JM,hl _ h]
 | un h _ ih=>
   obtain ⟨n1,n2,_⟩:=Sign1.ne h;rw [AH n1 n2,AH n1 n2,yQ,yQ,yQ,yQ,ih]
 | bin h _ _ i1 i2=>
   obtain ⟨n1,n2,_⟩:=h.ne;rw [AH n1 n2,AH n1 n2,yQ,yQ,yQ,yQ,yQ,yQ,i1,i2]
def QX (T:List aM) (L:List Int) (x:aF):Prop:=PV L x/\Sh false (Gg T x)/\tm (Gg T x)<=2000/\xz x<=50000000
theorem QX.mono {T T':List aM} {L L':List Int} {x:aF} (h:QX T L x) (hl:∀v ∈ L,v ∈ L') (ht:∀v ∈ L,bM T' v=bM T v):QX T' L' x:=by
 obtain ⟨h1,h2,h3,h4⟩:=h;refine ⟨h1.mono hl,?_,?_,h4⟩
 ·rw [h1.plx ht];exact h2
 ·rw [h1.plx ht];exact h3
def WL (y:aS):Prop:=yJ y.c_.lW/\yJ y.c_.iG
theorem yJ.snoc {l:List Int} {x:Int} (h:yJ l) (k:sX x):yJ (l++[x]):=λy hy=>by
 rcases zH.1 hy with hy | hy
 ·exact h y hy
 ·rw [zG.1 hy];exact k
def DOk (pl dv:List Int):Prop:=dv.Nodup/\∀v ∈ dv,v ∉ pl/\0<=v
structure SQ (pl dv fr:List Int) (pb:List aF) (y r:aS):Prop where
 fors:r.c_.gV=y.c_.gV++fr
 low:r.c_.lW.length=y.c_.lW.length+fr.length
 high:r.c_.iG.length=y.c_.iG.length+fr.length
 un:∀v,0<=v->v ∉ dv->bM r.c_.bO v=bM y.c_.bO v
 sub:∀v ∈ fr,v ∈ dv
 nn:∀v ∈ dv,0<=v
 w:WL y->WL r
 ok:DOk pl dv->(∀v ∈ pl,0<=v)->(∀v ∈ dv,∃t,bM r.c_.bO v=some t/\Sh false t/\tm t<=2000)/\(∀(k:Nat) v,fr[k]? = some v->bM r.c_.bO v=some ⟨2,((4+y.c_.gV.length+k:Nat):Int),[]⟩)/\∀x ∈ pb,QX r.c_.bO (pl++dv) x
theorem SQ.refl (pl:List Int) (y:aS):SQ pl [] [] [] y y:=
 ⟨(gS _).symm,rfl,rfl,λ_ _ _=>rfl,λ_ h=>h,λ_ h=>(nomatch h),λh=>h,λ_ _=>⟨λ_ h=>(nomatch h),λk v h=>(nomatch h),λ_ h=>(nomatch h)⟩⟩
theorem SQ.app {pl pl2 dv dv2 fr fr2:List Int} {pb pb2:List aF} {y d r:aS} (h:SQ pl dv fr pb y d) (k:SQ pl2 dv2 fr2 pb2 d r) (hp:∀v ∈ pl2,v ∈ pl ∨ v ∈ dv):SQ pl (dv++dv2) (fr++fr2) (pb++pb2) y r:=by
 refine ⟨by rw [k.fors,h.fors,GX],by rw [k.low,h.low,mB];omega,by rw [k.high,h.high,mB];omega,λv h0 hv=>?_,λv hv=>?_,λv hv=>?_,λh0=>k.w (h.w h0),λhd hpl=>?_⟩
 ·rw [zH,not_or] at hv;rw [k.un v h0 hv.2,h.un v h0 hv.1]
 ·rcases zH.1 hv with hv | hv
  ·exact Jw _ (h.sub v hv)
  ·exact MS _ (k.sub v hv)
 ·rcases zH.1 hv with hv | hv
  ·exact h.nn v hv
  ·exact k.nn v hv
 ·obtain ⟨d1,d2⟩:=hd;obtain ⟨n1,n2,n3⟩:=List.nodup_append.1 d1;obtain ⟨a1,a2,a3⟩:=h.ok ⟨n1,λv hv=>d2 v (Jw _ hv)⟩ hpl
  obtain ⟨b1,b2,b3⟩:=k.ok ⟨n2,λv hv=>by
   obtain ⟨c1,c2⟩:=d2 v (MS _ hv);refine ⟨λhv2=>?_,c2⟩
   rcases hp v hv2 with h5 | h5
   ·exact c1 h5
   ·exact n3 v h5 v hv rfl⟩ (λv hv=>by
    rcases hp v hv with h5 | h5
    ·exact hpl v h5
    ·exact h.nn v h5)
  have hun:∀v,v ∈ dv->v ∉ dv2:=λv h5 h6=>n3 v h5 v h6 rfl;refine ⟨λv hv=>?_,λj v hj=>?_,λx hx=>?_⟩
  ·rcases zH.1 hv with hv | hv
   ·rw [k.un v (h.nn v hv) (hun v hv)];exact a1 v hv
   ·exact b1 v hv
  ·rcases xeh j fr.length with hlt | hge
   ·rw [MW hlt] at hj;have hm:=h.sub v (CT hj);rw [k.un v (h.nn v hm) (hun v hm)];exact a2 j v hj
   ·rw [Ma hge] at hj;rw [b2 _ v hj,h.fors,mB]
    congr 3;omega
  ·rcases zH.1 hx with hx | hx
   ·refine (a3 x hx).mono (λv hv=>?_) λv hv=>?_
    ·rcases zH.1 hv with hv | hv
     ·exact Jw _ hv
     ·exact MS _ (Jw _ hv)
    ·rcases zH.1 hv with hv | hv
     ·exact k.un v (hpl v hv) λh6=>(d2 v (MS _ h6)).1 hv
     ·exact k.un v (h.nn v hv) (hun v hv)
   ·refine (b3 x hx).mono (λv hv=>?_) λv hv=>rfl
    rcases zH.1 hv with hv | hv
    ·rcases hp v hv with h5 | h5
     ·exact Jw _ h5
     ·exact MS _ (Jw _ h5)
    ·exact MS _ (MS _ hv)
def Ei (y:aS) (m:Nat):Prop:=y.c_.gV.length+m<=250/\(y.c_.lW.length=4+y.c_.gV.length/\y.c_.iG.length=4+y.c_.gV.length)/\WL y
structure BkC (vs:List aL) (sc sc' pl:List Int) (ss:List aB) (y r:aS):Prop where
 e:Er y.e_ r.e_
 t1:AA (eb r.e_) vs sc r.c_.bO
 ok:r.e_=0->AA false vs sc' r.c_.bO/\SQ pl (AT ss) (As ss) (Ia ss) y r
theorem Ei.app {pl dv fr:List Int} {pb:List aF} {y r:aS} {m:Nat} (h:Ei y (fr.length+m)) (k:SQ pl dv fr pb y r):Ei r m:=by
 obtain ⟨h1,⟨h2,h3⟩,hw⟩:=h;have h4:=congrArg List.length k.fors;rw [mB] at h4;have h5:=k.low;have h6:=k.high;exact ⟨by omega,⟨by omega,by omega⟩,k.w hw⟩
theorem Ei.less {y:aS} {m m':Nat} (h:Ei y m) (hm:m'<=m):Ei y m':=⟨by have:=h.1;omega,h.2⟩
theorem Un {vs:List aL} {sc:List Int} {n:Nat} {y:aS} {v:Int} {f a:Int} {x z:aF} {b e:List aB} {u:aL} (hT:AA false vs sc y.c_.bO) (hx:Iq vs sc x) (hz:Iq vs sc z) (hu:bM vs v=some u) (hL:Ei y 1) (hbx:xz x<=50000000) (hbz:xz z<=50000000) (hn:50003000<n) :
  bK (lH n y ⟨[102,111,114],v,f,[x,z],b,e,a⟩) λr=>r.e_=y.e_/\r.c_.bO=y.c_.bO.set v.toNat ⟨2,((4+y.c_.gV.length:Nat):Int),[]⟩/\r.c_.gV=y.c_.gV++[v]/\∃s1 s2,eZ n y.c_ x=some s1/\eZ n y.c_ z=some s2/\r.c_.lW=y.c_.lW++[s1.1]/\r.c_.iG=y.c_.iG++[max s1.1 (IntKind.u32.wrap (max s2.2 1 - 1))]/\WL r:=by
 unfold lH;obtain ⟨l1,⟨l2,l3⟩,w1,w2⟩:=hL;obtain ⟨h0,hu1⟩:=xX hu;refine bK.eqn GO ?_;refine (Np hT hx (by omega) w1 w2 (n:=n) (by omega)).bind λs1 ⟨e1,u1,_⟩=>?_;refine bK.eqn (v:=z) rfl ?_;refine (Np hT hz (by omega) w1 w2 (n:=n) (by omega)).bind λs2 ⟨e2,_,u2⟩=>?_;refine bK.eqn (v:=⟨2,((4+y.c_.gV.length:Nat):Int),[]⟩) ?_ ?_
 ·unfold Em;rw [cR (by omega) (by omega),IntKind.wrap_u32]
  congr 2;omega
 refine (bK.idx (Q:=λ_=>True) h0 (by rw [hT.len];exact hu1) λ_ _=>trivial).bind λ_ _=>?_;refine bK.need (by simp only [uF];omega) (bK.need (by simp only [uF];omega) (bK.need (by simp only [uF];omega) (.some ⟨rfl,rfl,rfl,s1,s2,e1,e2,rfl,rfl,w1.snoc u1,w2.snoc (by have hw:=sX.wrap (max s2.2 1 - 1);unfold sX at u1 hw ⊢;omega)⟩)))
theorem dec_mem {s:aB} {x:aF} (h:x ∈ Ku s):∃i:Nat,s.aO[i]? = some x/\Dec s i:=by
 unfold Ku at h
 split at h
 ·rename_i ho;obtain ⟨i,hi⟩:=xfh h;refine ⟨i,hi,?_⟩
  rcases ho with ho | ho | ho
  ·exact .inl ho
  ·exact .inr (.inl ho)
  ·exact .inr (.inr (.inl ho))
 ·split at h
  ·rename_i ho;cases hl:s.aO with
   | nil=>rw [hl] at h;cases h
   | cons z l=>
     rw [hl] at h;have h:x ∈ [z]:=h;rw [zG.1 h];exact ⟨0,rfl,.inr (.inr (.inr ⟨ho,rfl⟩))⟩
  ·cases h
theorem UO {vs:List aL} {sc pl:List Int} {n:Nat} {s:aB} {y r:aS} (hT:AA false vs sc y.c_.bO) (hc:∀v ∈ sc,∀u,bM vs v=some u->u.bS=1->v ∈ pl) (hb:rB s.aO<=50000000) (h:L2R vs sc n s 0 y r) (h0:r.e_=0):∀x ∈ Ku s,QX y.c_.bO pl x:=by
 intro x hx;obtain ⟨i,hi,hd⟩:=dec_mem hx;obtain ⟨p1,p2⟩:=h.px h0 i x (KH _) hi hd;have:=AV (CT hi);exact ⟨p1.pv hc,(JN hT p1).1,p2,by omega⟩
theorem TV {vs:List aL} {sc pl:List Int} {n:Nat} {s:aB} {y r:aS} (hT:AA false vs sc y.c_.bO) (hc:∀v ∈ sc,∀u,bM vs v=some u->u.bS=1->v ∈ pl) (hb:rB s.aO<=50000000) (h:L2R vs sc n s 0 y r) (h0:r.e_=0) (hf:s.fR ≠ [102,111,114]) (hl:s.fR=[108,101,116]->s.aO.length=1/\∃u,bM vs s.fI=some u):SQ pl (KN s) (KM s) (Ku s) y r:=by
 have hq:=UO hT hc hb h h0;have hcc:=h.c;unfold KN KM;rw [if_neg hf]
 by_cases ho:s.fR=[108,101,116]
 ·rw [if_pos (.inr ho)];obtain ⟨l1,u,hu⟩:=hl ho;obtain ⟨b0,b1⟩:=xX hu;obtain ⟨x,t,g1,g2,g3,g4,g5⟩:=h.go ho (by omega)
  have hun:∀v,0<=v->v ∉ [s.fI]->bM r.c_.bO v=bM y.c_.bO v:=λv hv hv2=>by
   rw [g2];have hne:s.fI.toNat ≠ v.toNat:=λe=>hv2 (zG.2 (by omega));cases hi:bM y.c_.bO v with
   | some w=>exact (BL hi).2 hne
   | none=>
     unfold bM at hi ⊢;rw [if_pos hv] at hi ⊢;rw [OL hne];exact hi
  refine ⟨by rw [hcc,gS],by rw [hcc];rfl,by rw [hcc];rfl,hun,λ_ h=>(nomatch h),λv hv=>by rw [zG.1 hv];exact b0,λh=>by unfold WL at *;rw [hcc];exact h,λhd hpl=>⟨λv hv=>?_,λk v h=>(nomatch h),λx hx=>?_⟩⟩
  ·rw [zG.1 hv,g2];obtain ⟨w,hw,_⟩:=bK.idx (l:=y.c_.bO) (Q:=λ_=>True) b0 (by rw [hT.len];exact b1) λ_ _=>trivial;exact ⟨t,(BL hw).1 ⟨rfl,b0⟩,by rw [Bh.2 h0] at g4;exact g4,g3⟩
  ·exact (hq x hx).mono (λv hv=>Jw _ hv) λv hv=>hun v (hpl v hv) λh6=>(hd.2 v h6).1 hv
 ·rw [if_neg (by rintro (h | h);exact hf h;exact ho h)];have hTT:=h.no ho;refine ⟨by rw [hcc,gS],by rw [hcc];rfl,by rw [hcc];rfl,λv _ _=>by rw [hTT],λ_ h=>(nomatch h),λ_ h=>(nomatch h),λh=>by unfold WL at *;rw [hcc];exact h,λhd hpl=>⟨λv hv=>(nomatch hv),λk v h=>(nomatch h),λx hx=>?_⟩⟩;exact (hq x hx).mono (λv hv=>Jw _ hv) λv hv=>by rw [hTT]
theorem own_for {vs:List aL} {sc pl:List Int} {n:Nat} {s:aB} {y a r:aS} (hT:AA false vs sc y.c_.bO) (hc:∀v ∈ sc,∀u,bM vs v=some u->u.bS=1->v ∈ pl) (hb:rB s.aO<=50000000) (h:L2R vs sc n s 0 y a) (h0:a.e_=0) (hf:s.fR=[102,111,114]) {u:aL} (hu:bM vs s.fI=some u) (hL:y.c_.gV.length<=249)
  (r1:r.c_.bO=a.c_.bO.set s.fI.toNat ⟨2,((4+a.c_.gV.length:Nat):Int),[]⟩) (r2:r.c_.gV=a.c_.gV++[s.fI]) (r3:r.c_.lW.length=a.c_.lW.length+1) (r4:r.c_.iG.length=a.c_.iG.length+1) (r5:WL r):SQ pl (KN s) (KM s) (Ku s) y r:=by
 have hq:=UO hT hc hb h h0;have hcc:=h.c;have hTT:=h.no (by rw [hf];decide);have hF:a.c_.gV=y.c_.gV:=by rw [hcc]
 unfold KN KM;rw [if_pos hf,if_pos (.inl hf)];obtain ⟨b0,b1⟩:=xX hu;rw [hTT,hF] at r1
 have hun:∀v,0<=v->v ∉ [s.fI]->bM r.c_.bO v=bM y.c_.bO v:=λv hv hv2=>by
  rw [r1];have hne:s.fI.toNat ≠ v.toNat:=λe=>hv2 (zG.2 (by omega));cases hi:bM y.c_.bO v with
  | some w=>exact (BL hi).2 hne
  | none=>
    unfold bM at hi ⊢;rw [if_pos hv] at hi ⊢;rw [OL hne];exact hi
 have hat:bM r.c_.bO s.fI=some ⟨2,((4+y.c_.gV.length:Nat):Int),[]⟩:=by
  rw [r1];obtain ⟨w,hw,_⟩:=bK.idx (l:=y.c_.bO) (Q:=λ_=>True) b0 (by rw [hT.len];exact b1) λ_ _=>trivial;exact (BL hw).1 ⟨rfl,b0⟩
 refine ⟨by rw [r2,hF],by rw [r3,hcc];rfl,by rw [r4,hcc];rfl,hun,λ_ h=>h,λv hv=>by rw [zG.1 hv];exact b0,λ_=>r5,λhd hpl=>⟨λv hv=>?_,λk v hk=>?_,λx hx=>?_⟩⟩
 ·rw [zG.1 hv];exact ⟨_,hat,.var (by omega) (by omega),by rw [tm,uT];omega⟩
 ·cases k with
  | zero=>injection hk with hk;subst hk;exact hat
  | succ k=>cases hk
 ·exact (hq x hx).mono (λv hv=>Jw _ hv) λv hv=>hun v (hpl v hv) λh6=>(hd.2 v h6).1 hv
abbrev Bf:=aS->List aB->Option aS
def NU (f:Bf) (n:Nat) (s:aB) (y:aS):Option (aS ⊕ aS):=
 (mQ n s n (0:Int) y).bind λy20=>
 (if (y20.e_ == (0:Int))=true then some (decide (s.fR=[102,111,114])) else some false).bind λy79=>
 if y79=true then
  (lH n y20 s).bind λx85=>
  if (x85.e_ != (0:Int))=true then some (.inr x85) else
   (f x85 s.bQ).bind λx88=>(f x88 s.eW).bind λx90=>some (.inl x90)
 else if (y20.e_ != (0:Int))=true then some (.inr y20) else
  (f y20 s.bQ).bind λx93=>(f x93 s.eW).bind λx95=>some (.inl x95)
theorem Mv {f:Bf} {n:Nat} {full:List aB} {k v:Nat} {s:aB} {y:aS} {Q:aS ⊕ aS->Prop} (hg:full[v]? = some s) (hl:full.length<=100000000)
  (h:bK (NU f n s y) λz=>(∀d,z=.inl d->bK (fZ f n full k ((v+1:Nat):Int) d) Q)/\∀d,z=.inr d->Q (.inr d)):bK (fZ f n full (k+1) (v:Int) y) Q:=by
 have hlt:=(uG.1 hg).1;unfold fZ;refine bK.iteb (λ_=>?_) λh=>absurd h (by rw [AB (by omega)];decide);refine bK.bind (bK.eqn (qH hg) h) λz hz=>?_;rw [show IntKind.i64.wrap ((v:Int)+1)=((v+1:Nat):Int) by rw [cR (by omega) (by omega)];omega];exact bK.elim (λd e=>hz.1 d e) λd e=>.some (hz.2 d e)
section
variable {vs:List aL} {sc pl:List Int} {n:Nat} {s:aB} {y:aS} {f:Bf}
structure Vp (vs:List aL) (sc:List Int) (s:aB):Prop where
 tx:∀z ∈ s.aO,TX vs sc z
 px:∀(i:Nat) z,s.aO[i]? = some z->Dec s i->Iq vs sc z
 lt:s.fR=[108,101,116]->s.aO.length=1/\∃u,bM vs s.fI=some u
theorem Qn (h:Vp vs sc s) (hT:AA (eb y.e_) vs sc y.c_.bO) (hb:rB s.aO<=50000000) (hn:100003000<n) (hf:s.fR ≠ [102,111,114]) {Q:aS ⊕ aS->Prop}
  (h1:∀a,L2R vs sc n s 0 y a->a.e_ ≠ 0->Q (.inr a)) (h2:∀a,L2R vs sc n s 0 y a->a.e_=0->bK ((f a s.bQ).bind λx=>(f x s.eW).bind λx=>some (.inl x)) Q):bK (NU f n s y) Q:=by
 have hlen:=vS s.aO;unfold NU;refine (Vh h.tx h.px h.lt (by omega) (by omega) n 0 y hT (by omega) (by omega)).bind λa ha=>?_;refine bK.bind (P:=λc=>c=false) ?_ λc hc=>?_
 ·exact bK.iteb (λ_=>.some (xeo hf)) λ_=>.some rfl
 subst hc;rw [if_neg (by decide)];refine bK.iteb (λh0=>.some (h1 a ha (by simpa using h0))) λh0=>h2 a ha (by simpa using h0)
theorem UB (h:Vp vs sc s) (hT:AA (eb y.e_) vs sc y.c_.bO) (hb:rB s.aO<=50000000) (hn:100003000<n) {x z:aF} (hs:s=⟨[102,111,114],s.fI,s.gJ,[x,z],s.bQ,s.eW,s.eU⟩) {u:aL} (hu:bM vs s.fI=some u) (hL:y.e_=0->Ei y 1) {Q:aS ⊕ aS->Prop}
  (h1:∀a,L2R vs sc n s 0 y a->a.e_ ≠ 0->Q (.inr a)) (h2:∀a r,L2R vs sc n s 0 y a->a.e_=0->r.e_=0->r.c_.bO=a.c_.bO.set s.fI.toNat ⟨2,((4+a.c_.gV.length:Nat):Int),[]⟩->r.c_.gV=a.c_.gV++[s.fI]->r.c_.lW.length=a.c_.lW.length+1->r.c_.iG.length=a.c_.iG.length+1->WL r->bK ((f r s.bQ).bind λx=>(f x s.eW).bind λx=>some (.inl x)) Q):bK (NU f n s y) Q:=by
 have hlen:=vS s.aO;have hop:s.fR=[102,111,114]:=by rw [hs]
 have hli:s.aO=[x,z]:=by rw [hs]
 unfold NU;refine (Vh h.tx h.px h.lt (by omega) (by omega) n 0 y hT (by omega) (by omega)).bind λa ha=>?_;refine bK.iteb (b:=a.e_ == 0) (x:=some (decide (s.fR=[102,111,114]))) (y:=some false) (Q:=λc=>c=(a.e_ == 0)) (λh0=>.some ?_) (λh0=>.some ?_) |>.bind λc hc=>?_
 ·rw [h0];exact AB hop
 ·rw [h0]
 subst hc;refine bK.iteb (λh0=>?_) λh0=>?_
 ·have h0:a.e_=0:=by simpa using h0
  have hy0:=ha.e.zero h0;have hTT:=ha.no (by rw [hop];decide);have hTy:AA false vs sc y.c_.bO:=by rw [Bh.2 hy0] at hT;exact hT
  have hxz:xz x<=50000000/\xz z<=50000000:=by
   rw [hli] at hb;rw [rB,rB] at hb;omega
  have px:=h.px 0 x (by rw [hli];rfl) (.inr (.inr (.inl hop)));have pz:=h.px 1 z (by rw [hli];rfl) (.inr (.inr (.inl hop)))
  have hLa:Ei a 1:=by
   have:=hL hy0;unfold Ei WL at this ⊢;rw [ha.c];exact this
  have hloop:=Un (n:=n) (y:=a) (f:=s.gJ) (a:=s.eU) (b:=s.bQ) (e:=s.eW) (by rw [hTT];exact hTy) px pz hu hLa hxz.1 hxz.2 (by omega);rw [←hs] at hloop;refine hloop.bind λr hr=>?_;obtain ⟨r1,r2,r3,s1,s2,_,_,r4,r5,r6⟩:=hr;rw [r1];rw [if_neg (by rw [h0];decide)];exact h2 a r ha h0 (by rw [r1];exact h0) r2 r3 (by rw [r4,mB];rfl) (by rw [r5,mB];rfl) r6
 ·have h0:a.e_ ≠ 0:=by simpa using h0
  rw [if_pos (by simpa using h0)];exact .some (h1 a ha h0)
end
theorem Qz {n:Nat} {y:aS}:fN (n+2) y []=some y:=rfl
theorem Br (s:aB) (l:List aB):tX (s::l)=1+rB s.aO+tX s.bQ+tX s.eW+tX l:=by rw [tX,wF]
theorem GM (s:aB) (l:List aB):AT (s::l)=KN s++(AT s.bQ++(AT s.eW++AT l))/\As (s::l)=KM s++(As s.bQ++(As s.eW++As l))/\Ia (s::l)=Ku s++(Ia s.bQ++(Ia s.eW++Ia l)):=by
 rw [AT,As,Ia,MA,Pu,Ph];simp only [GX,and_self]
def HL (vs:List aL) (sc sc':List Int) (ss:List aB):Prop:=
 ∀(n:Nat) (pl:List Int),100005000+tX ss<=n->tX ss<=50000000->(∀v ∈ sc,∀u,bM vs v=some u->u.bS=1->v ∈ pl) ->
  ∀(full:List aB) (k v:Nat) (y:aS),full.drop v=ss->v<=full.length->full.length<=100000000->ss.length<k->AA (eb y.e_) vs sc y.c_.bO->(y.e_=0->Ei y (As ss).length) ->
   bK (fZ (fN n) n full k (v:Int) y) λz=>BkC vs sc sc' pl ss y (z.elim id id)
theorem HL.blk {vs:List aL} {sc sc':List Int} {ss:List aB} (h:HL vs sc sc' ss) {n:Nat} {pl:List Int} (hn:100005001+tX ss<=n) (hz:tX ss<=50000000) (hc:∀v ∈ sc,∀u,bM vs v=some u->u.bS=1->v ∈ pl) {y:aS} (hT:AA (eb y.e_) vs sc y.c_.bO) (hL:y.e_=0->Ei y (As ss).length) :
  bK (fN n y ss) (BkC vs sc sc' pl ss y):=by
 have hlen:=Ek ss;obtain ⟨m,rfl⟩:∃m,n=m+1:=⟨n - 1,by omega⟩;show bK (nH (fN m) m y ss) _;unfold nH;refine (h m pl (by omega) hz hc ss m 0 y rfl (KH _) (by omega) (by omega) hT hL).bind λz hz=>?_;cases z with
 | inl r=>exact .some hz
 | inr r=>exact .some hz
theorem Kt {α:Type} {full:List α} {v:Nat} {s:α} {l:List α} (h:full.drop v=s::l):full[v]? = some s/\full.drop (v+1)=l/\v+1<=full.length:=by
 have h1:full[v]? = some s:=by rw [←xeq,h];rfl
 refine ⟨h1,?_,(uG.1 h1).1⟩;rw [←List.tail_drop,h];rfl
section
variable {vs:List aL} {sc sc2 sc':List Int} {s:aB} {l:List aB}
theorem wT (h:Vp vs sc s) (hf:s.fR ≠ [102,111,114]) (hB:s.bQ=[]) (hE:s.eW=[]) (hsub:∀v ∈ sc,v ∈ sc2) (hnew:∀b T,AA b vs sc T->s.fR ≠ [108,101,116]->AA b vs sc2 T) (hlet:s.fR=[108,101,116]->sc2=sc++[s.fI]) (hpub:s.fR ≠ [108,101,116]->∀v ∈ sc2,v ∈ sc ∨ ∃u,bM vs v=some u/\u.bS ≠ 1) (hR:HL vs sc2 sc' l):HL vs sc sc' (s::l):=by
 intro n pl hn hz hc full k v y hd hv hl hk hT hL;obtain ⟨g1,g2,g3⟩:=Kt hd;obtain ⟨k,rfl⟩:∃j,k=j+1:=⟨k - 1,by rw [dT] at hk;omega⟩;rw [Br,hB,hE,tX] at hn hz;obtain ⟨d1,d2,d3⟩:=GM s l;rw [hB,hE,AT,gC,gC] at d1;rw [hB,hE,As,gC,gC] at d2;rw [hB,hE,Ia,gC,gC] at d3;have hfr:KM s=[]:=by unfold KM;rw [if_neg hf]
 refine Mv g1 hl (Qn h hT (by omega) (by omega) hf (λa ha h0=>⟨λd e=>(nomatch e),λd e=>?_⟩) λa ha h0=>?_)
 ·cases e;exact ⟨ha.e,ha.ok,λh1=>absurd h1 h0⟩
 ·rw [hB,hE];obtain ⟨m,rfl⟩:∃m,n=m+2:=⟨n - 2,by omega⟩;rw [Qz,iJ,Qz,iJ];refine .some ⟨λd e=>?_,λd e=>(nomatch e)⟩;cases e;have hy0:=ha.e.zero h0;have hTy:AA false vs sc y.c_.bO:=by rw [Bh.2 hy0] at hT;exact hT
  have hown:=TV (pl:=pl) hTy hc (by omega) ha h0 hf h.lt
  have hT2:AA (eb a.e_) vs sc2 a.c_.bO:=by
   by_cases ho:s.fR=[108,101,116]
   ·rw [hlet ho];obtain ⟨l1,u,hu⟩:=h.lt ho;obtain ⟨x,t,_,q2,q3,q4,_⟩:=ha.go ho (by omega);rw [q2,Bh.2 h0] at *;exact hTy.snoc hu q4 q3
   ·exact hnew _ _ ha.ok ho
  refine (hR (m+2) (pl++KN s) (by omega) (by omega) (λw hw u hu hku=>?_) full k (v+1) a g2 g3 hl (by rw [dT] at hk;omega) hT2 λ_=>?_).mono λz hz=>?_
  ·by_cases ho:s.fR=[108,101,116]
   ·rw [hlet ho] at hw
    rcases zH.1 hw with hw | hw
    ·exact Jw _ (hc w hw u hu hku)
    ·refine MS _ ?_;unfold KN;rw [if_pos (.inr ho)];exact hw
   ·rcases hpub ho w hw with hw | ⟨u',hu',hk'⟩
    ·exact Jw _ (hc w hw u hu hku)
    ·rw [hu] at hu';cases hu';exact absurd hku hk'
  ·have hLy:=hL hy0;rw [d2,hfr,gC] at hLy;exact Ei.app (fr:=KM s) (by rw [hfr,eI,CU];exact hLy) hown
  ·refine ⟨ha.e.trans hz.e,hz.t1.mono (λe=>e) hsub,λhr=>?_⟩;obtain ⟨z1,z2⟩:=hz.ok hr;refine ⟨z1,?_⟩;rw [d1,d2,d3];exact hown.app z2 λw hw=>zH.1 hw
theorem LH {scb scb' sce':List Int} {pl plb:List Int} {n k v:Nat} {full:List aB} {y r:aS} {dv0 fr0:List Int} {pb0:List aF} (hB:HL vs scb scb' s.bQ) (hE:HL vs sc sce' s.eW) (hR:HL vs sc sc' l)
  (hn:100005000+tX (s::l)<=n) (hz:tX (s::l)<=50000000) (hc:∀v ∈ sc,∀u,bM vs v=some u->u.bS=1->v ∈ pl) (hcb:∀v ∈ scb,∀u,bM vs v=some u->u.bS=1->v ∈ plb) (hsb:∀v ∈ sc,v ∈ scb) (hsb':∀v ∈ scb,v ∈ scb') (hse':∀v ∈ sc,v ∈ sce')
  (g2:full.drop (v+1)=l) (g3:v+1<=full.length) (hl:full.length<=100000000) (hk:l.length<k) (her:Er y.e_ r.e_) (hr0:r.e_=0) (hT:AA false vs scb r.c_.bO) (hL:Ei r ((As s.bQ).length+((As s.eW).length+(As l).length)))
  (hown:SQ pl dv0 fr0 pb0 y r) (hpb:∀v ∈ plb,v ∈ pl ∨ v ∈ dv0) (hpp:∀v ∈ pl,v ∈ plb) (hdl:AT (s::l)=dv0++(AT s.bQ++(AT s.eW++AT l))) (hfl:As (s::l)=fr0++(As s.bQ++(As s.eW++As l))) (hpl:Ia (s::l)=pb0++(Ia s.bQ++(Ia s.eW++Ia l))) :
  bK ((fN n r s.bQ).bind λx=>(fN n x s.eW).bind λx=>some (.inl x)) λz=>(∀d,z=.inl d->bK (fZ (fN n) n full k ((v+1:Nat):Int) d) λz=>BkC vs sc sc' pl (s::l) y (z.elim id id))/\∀d,z=(.inr d:aS ⊕ aS)->BkC vs sc sc' pl (s::l) y ((.inr d:aS ⊕ aS).elim id id):=by
 rw [Br] at hn hz;refine (hB.blk (pl:=plb) (by omega) (by omega) hcb (by rw [Bh.2 hr0];exact hT) λ_=>hL.less (by omega)).bind λc hcc=>?_;have hTc:AA (eb c.e_) vs sc c.c_.bO:=hcc.t1.mono (λe=>e) hsb;refine (hE.blk (pl:=pl) (by omega) (by omega) hc hTc λh0=>?_).bind λd hdd=>?_
 ·exact (Ei.app (hL.less (m':=(As s.bQ).length+(As s.eW).length) (by omega)) (hcc.ok h0).2)
 refine .some ⟨λd' e=>?_,λd' e=>(nomatch e)⟩;cases e;refine (hR n pl (by omega) (by omega) hc full k (v+1) d g2 g3 hl hk hdd.t1 λh0=>?_).mono λz hz=>?_
 ·have hc0:=hdd.e.zero h0;exact Ei.app (Ei.app hL (hcc.ok hc0).2) (hdd.ok h0).2
 ·refine ⟨her.trans (hcc.e.trans (hdd.e.trans hz.e)),hz.t1,λhr=>?_⟩;obtain ⟨z1,z2⟩:=hz.ok hr;have hd0:=hz.e.zero hr;have hc0:=hdd.e.zero hd0;refine ⟨z1,?_⟩;rw [hdl,hfl,hpl];exact hown.app ((hcc.ok hc0).2.app ((hdd.ok hd0).2.app z2 λw hw=>.inl hw) λw hw=>.inl (hpp w hw)) hpb
theorem OP {P:aF->Prop} {x z:aF} (h:P x) (k:P z):∀u ∈ [x,z],P u:=λu hu=>by
 rcases AE.1 hu with rfl | hu
 ·exact h
 ·rw [zG.1 hu];exact k
theorem Ib {P:aF->Prop} {x:aF} (h:P x):∀u ∈ [x],P u:=λu hu=>by rw [zG.1 hu];exact h
theorem get_two {P:aF->Prop} {x z:aF} (h:P x) (k:P z):∀(i:Nat) u,[x,z][i]? = some u->P u:=λi u hu=>OP h k u (CT hu)
theorem Qo {P:aF->Prop} {x:aF} (h:P x):∀(i:Nat) u,[x][i]? = some u->P u:=λi u hu=>Ib h u (CT hu)
end
theorem DW {L:List Int} {i:Int}:∀v ∈ L,v ∈ L++[i]:=λv hv=>Jw _ hv
theorem Kn (vs:List aL) (sc:List Int):HL vs sc sc []:=by
 intro n pl hn hz hc full k v y hd hv hl hk hT hL;obtain ⟨k,rfl⟩:∃j,k=j+1:=⟨k - 1,by rw [eI] at hk;omega⟩;have hge:full.length<=v:=by have:=congrArg List.length hd;simp only [OI,eI] at this;omega
 unfold fZ;refine bK.iteb (λh=>absurd (AD h) (by omega)) λ_=>.some ?_;exact ⟨.refl _,hT,λh0=>⟨by have h0:y.e_=0:=h0;rw [Bh.2 h0] at hT;exact hT,.refl _ _⟩⟩
theorem UC {vs:List aL} {res:Int} {lf:Bool} {sc sc':List Int} {ss:List aB} (h:FB vs res lf sc ss sc'):HL vs sc sc' ss:=by
 have nd:∀ {s:aB} {i:Nat} {P:Prop},s.fR ≠ [108,101,116]->s.fR ≠ [105,102]->s.fR ≠ [102,111,114]->(s.fR=[112,117,116]->i ≠ 0)->Dec s i->P:=λa b c d h=>by
  rcases h with h | h | h | ⟨h,h'⟩
  ·exact absurd h a
  ·exact absurd h b
  ·exact absurd h c
  ·exact absurd h' (d h)
 have newv:∀ {b:Bool} {sc:List Int} {T:List aM} {v:Int} {u:aL},AA b vs sc T->bM vs v=some u->u.bS ≠ 1->AA b vs (sc++[v]) T:=λh hu hk=>h.more hu hk
 have pub2:∀ {sc:List Int} {v:Int} {u:aL},bM vs v=some u->u.bS ≠ 1->∀w ∈ sc++[v],w ∈ sc ∨ ∃u,bM vs w=some u/\u.bS ≠ 1:=λhu hk w hw=>by
  rcases zH.1 hw with hw | hw
  ·exact .inl hw
  ·rw [zG.1 hw];exact .inr ⟨_,hu,hk⟩
 induction h with
 | nil=>exact Kn _ _
 | let_ h1 h2 h3 h4 _ ih=>
   refine wT ⟨Ib h1,λi z hz _=>Qo (h1.pub h2) i z hz,λ_=>⟨rfl,_,h3⟩⟩ (by simp only;decide) rfl rfl DW (λb T _ ho=>absurd rfl ho) (λ_=>rfl) (λho=>absurd rfl ho) ih
 | var_ h1 h2 h3 h4 _ ih=>
   have hk:∀ {u:aL},u.bS=2 ∨ u.bS=3->u.bS ≠ 1:=λh=>by omega
   refine wT ⟨Ib h1,λi z hz hd=>nd (by simp only;decide) (by simp only;decide) (by simp only;decide) (λh=>absurd h (by simp only;decide)) hd,λh=>absurd h (by simp only;decide)⟩ (by simp only;decide) rfl rfl DW (λb T hT _=>newv hT h2 (hk h3)) (λh=>absurd h (by simp only;decide)) (λ_=>pub2 h2 (hk h3)) ih
 | arr h1 h2 _ ih=>
   have hk:∀ {u:aL},u.bS=4->u.bS ≠ 1:=λh=>by omega
   refine wT ⟨λ_ h=>(nomatch h),λi z hz hd=>(nomatch hz),λh=>absurd h (by simp only;decide)⟩ (by simp only;decide) rfl rfl DW (λb T hT _=>newv hT h1 (hk h2)) (λh=>absurd h (by simp only;decide)) (λ_=>pub2 h1 (hk h2)) ih
 | set h1 h2 h3 h4 _ ih=>
   have hk:∀ {u:aL},u.bS=2 ∨ u.bS=3->u.bS ≠ 1:=λh=>by omega
   refine wT ⟨Ib h1,λi z hz hd=>nd (by simp only;decide) (by simp only;decide) (by simp only;decide) (λh=>absurd h (by simp only;decide)) hd,λh=>absurd h (by simp only;decide)⟩ (by simp only;decide) rfl rfl DW (λb T hT _=>newv hT h2 (hk h3)) (λh=>absurd h (by simp only;decide)) (λ_=>pub2 h2 (hk h3)) ih
 | put h1 h2 h3 h4 h5 h6 h7 h8 _ ih=>
   refine wT ⟨OP h4 h7,λi z hz hd=>?_,λh=>absurd h (by simp only;decide)⟩ (by simp only;decide) rfl rfl (λ_ h=>h) (λb T hT _=>hT) (λh=>absurd h (by simp only;decide)) (λ_ w hw=>.inl hw) ih;cases i with
   | zero=>injection hz with hz;rw [←hz];exact h4.pub h5
   | succ i=>exact nd (by simp only;decide) (by simp only;decide) (by simp only;decide) (λ_=>by omega) hd
 | @if_ l sc c b e a sc1 sc2 ss sc' h1 h2 hb he hr ib ie ir=>
   intro n pl hn hz hc full k v y hd hv hl hk hT hL;obtain ⟨g1,g2,g3⟩:=Kt hd;obtain ⟨k,rfl⟩:∃j,k=j+1:=⟨k - 1,by rw [dT] at hk;omega⟩;have hz2:=hz;rw [Br] at hz2;have ty:Vp vs sc ⟨[105,102],-1,0,[c],b,e,a⟩:=⟨Ib h1,λi z hz _=>Qo (h1.pub h2) i z hz,λh=>absurd h (by simp only;decide)⟩;obtain ⟨d1,d2,d3⟩:=GM ⟨[105,102],-1,0,[c],b,e,a⟩ ss;have hfo:KM ⟨[105,102],-1,0,[c],b,e,a⟩=[]:=by unfold KM;rw [if_neg (by simp only;decide)]
   have hdo:KN ⟨[105,102],-1,0,[c],b,e,a⟩=[]:=by unfold KN;rw [if_neg (by simp only;decide)]
   refine Mv g1 hl (Qn ty hT (by omega) (by omega) (by simp only;decide) (λw hw h0=>⟨λd e=>(nomatch e),λd e=>?_⟩) λw hw h0=>?_)
   ·cases e;exact ⟨hw.e,hw.ok,λh1=>absurd h1 h0⟩
   ·have hy0:=hw.e.zero h0;have hTy:AA false vs sc y.c_.bO:=by rw [Bh.2 hy0] at hT;exact hT
    have hown:=TV (pl:=pl) hTy hc (by omega) hw h0 (by simp only;decide) ty.lt;have hLy:=hL hy0;refine LH (plb:=pl) ib ie ir hn hz hc hc (λ_ h=>h) hb.sub he.sub g2 g3 hl (by rw [dT] at hk;omega) hw.e h0 (by have:=hw.ok;rw [Bh.2 h0] at this;exact this) ?_ hown (λ_ h=>.inl h) (λ_ h=>h) d1 d2 d3;rw [d2,mB,mB,mB] at hLy;exact Ei.app hLy hown
 | @for_ l sc x z v u b a sc1 ss sc' h1 h2 h3 h4 h5 h6 hb hr ib ir=>
   intro n pl hn hz hc full k w y hd hv hl hk hT hL;obtain ⟨g1,g2,g3⟩:=Kt hd;obtain ⟨k,rfl⟩:∃j,k=j+1:=⟨k - 1,by rw [dT] at hk;omega⟩;have hz2:=hz;rw [Br] at hz2;have ty:Vp vs sc ⟨[102,111,114],v,0,[x,z],b,[],a⟩:=⟨OP h1 h3,λi z hz _=>get_two (h1.pub h2) (h3.pub h4) i z hz,λh=>absurd h (by simp only;decide)⟩;obtain ⟨d1,d2,d3⟩:=GM ⟨[102,111,114],v,0,[x,z],b,[],a⟩ ss;have hfo:KM ⟨[102,111,114],v,0,[x,z],b,[],a⟩=[v]:=by unfold KM;rw [if_pos rfl]
   have hdo:KN ⟨[102,111,114],v,0,[x,z],b,[],a⟩=[v]:=by unfold KN;rw [if_pos (.inl rfl)]
   have hcount:y.e_=0->Ei y (1+((As b).length+((As ([]:List aB)).length+(As ss).length))):=λh0=>by
    have:=hL h0;rw [d2,hfo,mB,mB,mB] at this;exact this
   refine Mv g1 hl (UB ty hT (by omega) (by omega) rfl h5 (λh0=>(hcount h0).less (by omega)) (λw hw h0=>⟨λd e=>(nomatch e),λd e=>?_⟩) λw r hw h0 hr0 r1 r2 r3 r4 r5=>?_)
   ·cases e;exact ⟨hw.e,hw.ok,λh1=>absurd h1 h0⟩
   ·have hy0:=hw.e.zero h0;have hTy:AA false vs sc y.c_.bO:=by rw [Bh.2 hy0] at hT;exact hT
    have hLy:=hcount hy0;have hl1:=hLy.1;have hown:=own_for (pl:=pl) hTy hc (by omega) hw h0 rfl h5 (by omega) r1 r2 r3 r4 r5;have hFw:w.c_.gV=y.c_.gV:=by rw [hw.c]
    have hTw:w.c_.bO=y.c_.bO:=hw.no (by simp only;decide)
    have hTr:AA false vs (sc++[v]) r.c_.bO:=by
     rw [r1,hFw,hTw];exact hTy.snoc h5 (.var (by omega) (by omega)) (by rw [tm,uT];omega)
    refine LH (plb:=pl++[v]) ib (Kn vs sc) ir hn hz hc (λt ht u hu hku=>?_) DW hb.sub (λ_ h=>h) g2 g3 hl (by rw [dT] at hk;omega) (.inl (hr0.trans hy0.symm)) hr0 hTr ?_ hown (λt ht=>?_) DW d1 d2 d3
    ·rcases zH.1 ht with ht | ht
     ·exact Jw _ (hc t ht u hu hku)
     ·exact MS _ ht
    ·exact Ei.app (fr:=KM ⟨[102,111,114],v,0,[x,z],b,[],a⟩) (by rw [hfo];exact hLy) hown
    ·rw [hdo];exact zH.1 ht
 | ret h1 h2=>
   refine wT ⟨Ib h1,λi z hz hd=>nd (by simp only;decide) (by simp only;decide) (by simp only;decide) (λh=>absurd h (by simp only;decide)) hd,λh=>absurd h (by simp only;decide)⟩ (by simp only;decide) rfl rfl (λ_ h=>h) (λb T hT _=>hT) (λh=>absurd h (by simp only;decide)) (λ_ w hw=>.inl hw) (Kn vs _)
theorem Ko:∀l:List aB,(As l).length<=tX l
 | []=>rM _
 | ⟨o,v,f,x,b,e,a⟩::l=>by
   have h1:=Ko b;have h2:=Ko e;have h3:=Ko l;rw [As,Br,Pu];have h4:(KM ⟨o,v,f,x,b,e,a⟩).length<=1:=by unfold KM;split <;> simp
   simp only [mB] at *;omega
theorem fors_l1 {f:List aB->Option Int} {l:List aB} (hf:∀x ∈ l,f x.bQ=some ((As x.bQ).length:Int)/\f x.eW=some ((As x.eW).length:Int)) (hb:tX l<=100000000) :
  ∀(k v:Nat) (acc:Int),l.length<v+k->v<=l.length->0<=acc->acc+(As (l.drop v)).length<=100000000->yE f l k acc (v:Int)=some (acc+(As (l.drop v)).length):=by
 have hlen:=Ek l;intro k
 induction k with
 | zero=>intro v acc h1 h2;omega
 | succ k ih=>
   intro v acc h1 h2 h3 h4;unfold yE
   by_cases hv:v<l.length
   ·have hd:l.drop v=l[v]::l.drop (v+1):=MT hv;obtain ⟨f1,f2⟩:=hf _ (Ln hv);have hm:(As (l.drop v)).length=(KM l[v]).length+((As l[v].bQ).length+(As l[v].eW).length)+(As (l.drop (v+1))).length:=by rw [hd,As,Pu];simp only [mB]
    rw [hm] at h4;rw [if_pos (AB (by omega)),qH (uS hv),iJ,f1,f2,cR (n:=(v:Int)+1) (by omega) (by omega),show ((v:Int)+1)=((v+1:Nat):Int) by omega]
    by_cases ho:l[v].fR=[102,111,114]
    ·have hfo:(KM l[v]).length=1:=by unfold KM;rw [if_pos ho];rfl
     rw [if_pos (AB ho),iJ,iJ,iJ,cR (n:=acc+1) (by omega) (by omega),cR (n:=((As l[v].bQ).length:Int)+_) (by omega) (by omega),cR (by omega) (by omega),ih (v+1) _ (by omega) (by omega) (by omega) (by omega),hm]
     congr 1;omega
    ·have hfo:(KM l[v]).length=0:=by unfold KM;rw [if_neg ho];rfl
     rw [if_neg (by rw [Bq];exact ho),iJ,iJ,iJ,cR (n:=((As l[v].bQ).length:Int)+_) (by omega) (by omega),cR (by omega) (by omega),ih (v+1) _ (by omega) (by omega) (by omega) (by omega),hm]
     congr 1;omega
   ·rw [if_neg (by rw [Bq];omega),Sw (by omega),As]
    congr 1;simp
theorem fors_eq:∀(n:Nat) (l:List aB),tX l+1<n->tX l<=100000000->wU n l=some ((As l).length:Int):=by
 intro n
 induction n with
 | zero=>intro l h;omega
 | succ n ih=>
   intro l h hb;show vO (wU n) n l=_;unfold vO;have hl:=Ek l;have hs:=Ko l
   have:=fors_l1 (f:=wU n) (l:=l) (λx hx=>by
    have h1:=Ha hx;have h2:=wF x;exact ⟨ih _ (by omega) (by omega),ih _ (by omega) (by omega)⟩) hb n 0 0 (by omega) (by omega) (Sy _) (by rw [iB];omega)
   rw [show ((0:Nat):Int)=0 from rfl] at this;rw [this,iJ,iB,Int.zero_add]
def Io (vs:List aL) (p j:Nat):aM:=match vs[j]? with | some u=>if j<p/\u.bS=1 then ⟨2,(j:Int),[]⟩ else tz0 | none=>tz0
structure Ini (vs:List aL) (p:Nat) (y:aS):Prop where
 e:y.e_=0
 fors:y.c_.gV=[]
 low:y.c_.lW=[0,0,0,0]
 high:y.c_.iG=[4294967295,4294967295,4294967295,4294967295]
 len:y.c_.bO.length=vs.length
 t:∀j,j<vs.length->y.c_.bO[j]? = some (Io vs p j)
theorem Ini.w {vs:List aL} {p:Nat} {y:aS} (h:Ini vs p y):WL y:=by
 unfold WL;rw [h.low,h.high];refine ⟨λx hx=>?_,λx hx=>?_⟩
 ·simp only [AE,iH,or_false,or_self] at hx;rw [hx];exact .z
 ·simp only [AE,iH,or_false,or_self] at hx;rw [hx];exact .m
theorem VH {f:aT} {p:Nat} (hp:f.bC=p) (hpl:p<=f.aX.length) (h4:p<=4):∀(k v:Nat) (y:aS),p<v+k->v<=p->Ini f.aX v y->bK (rY f k (v:Int) y) (Ini f.aX p):=by
 have htk:(f.aX.take f.bC.toNat).length=p:=by rw [hp,CS,Ji];omega
 intro k
 induction k with
 | zero=>intro v y h1 h2;omega
 | succ k ih=>
   intro v y h1 h2 hI;unfold rY;refine bK.iteb (λh=>?_) λh=>.some ?_
   ·have hv:v<p:=by have:=AD h;omega
    have hg:(f.aX.take f.bC.toNat)[v]? = some f.aX[v]:=by rw [xeg,if_pos (by rw [hp,CS];exact hv),uS (by omega)]
    rw [cR (by omega) (by omega),show ((v:Int)+1)=((v+1:Nat):Int) by omega];refine bK.bind (P:=Ini f.aX (v+1)) ?_ λz hz=>ih (v+1) z (by omega) (by omega) hz;refine bK.eqn (qH hg) ?_
    have hold:∀j,j ≠ v->Io f.aX (v+1) j=Io f.aX v j:=λj hj=>by
     unfold Io;cases f.aX[j]? with
     | none=>rfl
     | some u=>
       simp only
       by_cases h:j<v/\u.bS=1
       ·rw [if_pos h,if_pos ⟨by omega,h.2⟩]
       ·rw [if_neg h,if_neg λh2=>h ⟨by omega,h2.2⟩]
    refine bK.iteb (λhk=>?_) λhk=>.some ⟨hI.e,hI.fors,hI.low,hI.high,hI.len,λj hj=>?_⟩
    ·have hk:f.aX[v].bS=1:=by simpa using hk
     refine bK.eqn (v:=⟨2,(v:Int),[]⟩) (by unfold Em;rw [IntKind.wrap_u32];congr 2;omega) ?_;have hT:=hI.t v (by omega);refine bK.eqn (qH hT) (.some ⟨hI.e,hI.fors,hI.low,hI.high,by rw [rJ];exact hI.len,λj hj=>?_⟩);show (y.c_.bO.set ((v:Int)).toNat _)[j]? = _;rw [CS]
     by_cases e:j=v
     ·subst e;rw [PT (by rw [hI.len];exact hj)];unfold Io;rw [uS hj];simp only;rw [if_pos ⟨by omega,hk⟩]
     ·rw [OL (λh=>e h.symm),hI.t j hj,hold j e]
    ·have hk:f.aX[v].bS ≠ 1:=by simpa using hk
     rw [hI.t j hj]
     by_cases e:j=v
     ·subst e;unfold Io;rw [uS hj];simp only;rw [if_neg λh=>by omega,if_neg λh=>hk h.2]
     ·rw [hold j e]
   ·have hv:v=p:=by have:=LY h;omega
    subst hv;exact hI
theorem Ini.tok {vs:List aL} {p:Nat} {y:aS} (h:Ini vs p y) (h4:p<=4):AA false vs (qR p) y.c_.bO:=by
 refine ⟨h.len,λv hv u hu hk=>?_⟩;obtain ⟨v0,v1⟩:=Ex hv;obtain ⟨j,rfl⟩:∃j:Nat,v=j:=⟨v.toNat,by omega⟩;have hj:j<p:=by omega
 obtain ⟨b0,b1⟩:=xX hu;have hT:=h.t j (by omega);rw [NT] at hu;refine ⟨Io vs p j,qH hT,?_,?_⟩
 ·unfold Io;rw [hu];simp only;rw [if_pos ⟨hj,hk⟩];exact .var (by omega) (by omega)
 ·unfold Io;rw [hu];simp only;rw [if_pos ⟨hj,hk⟩,tm,uT];omega
inductive GV (f:aT) (p:Nat):bL × Int->Prop
 | ok {y0 y:aS} {sc':List Int}:Ini f.aX p y0->AA false f.aX sc' y.c_.bO->SQ (qR p) (AT f.bQ) (As f.bQ) (Ia f.bQ) y0 y->p<=4->(As f.bQ).length<=250->GV f p (y.c_,0)
 | count:4<p ∨ 250<(As f.bQ).length->GV f p (⟨[],[],[],[]⟩,136)
 | size:p<=4->(As f.bQ).length<=250->GV f p (⟨[],[],[],[]⟩,161)
theorem Sr {f:aT} {p:Nat} {res:Int} {lf:Bool} {sc':List Int} (hp:f.bC=p) (hpl:p<=f.aX.length) (hv:f.aX.length<=4096) (hz:tX f.bQ<=50000000) (hf:FB f.aX res lf (qR p) f.bQ sc') {n:Nat} (hn:200000000<=n):bK (tJ n f) (GV f p):=by
 unfold tJ;have hfs:=Ko f.bQ;refine bK.bind (P:=λc=>c=true ↔ (4<p ∨ 250<(As f.bQ).length)) ?_ λc hc=>?_
 ·refine bK.iteb (λh=>.some ⟨λ_=>.inl (by have:=AD h;omega),λ_=>rfl⟩) λh=>?_;have h:=LY h;rw [fors_eq n _ (by omega) (by omega),iJ];exact .some ⟨λh=>.inr (by have:=AD h;omega),λh2=>AB (by omega)⟩
 refine bK.iteb (λh=>.some (.count (hc.1 h))) λh=>?_;have hno:¬ (4<p ∨ 250<(As f.bQ).length):=λh2=>by rw [hc.2 h2] at h;cases h
 refine bK.eqn (v:=[4294967295,4294967295,4294967295,4294967295]) rfl ?_;refine bK.need (by omega) (bK.need (by omega) ?_)
 have hI0:Ini f.aX 0 ⟨⟨List.replicate f.aX.length aM.Z,[],[0,0,0,0],[4294967295,4294967295,4294967295,4294967295]⟩,0⟩:=by
  refine ⟨rfl,rfl,rfl,rfl,BX,λj hj=>?_⟩;show (List.replicate f.aX.length aM.Z)[j]? = _;rw [List.getElem?_replicate,if_pos hj];unfold Io;rw [uS hj];simp only;rw [if_neg λh=>by omega];rfl
 refine (VH hp hpl (by omega) n 0 _ (by omega) (KH _) hI0).bind λy0 hI=>?_;have hT:=hI.tok (by omega);refine ((UC hf).blk (pl:=qR p) (by omega) hz (λv hv _ _ _=>hv) (by rw [hI.e];exact hT) λ_=>⟨by rw [hI.fors];simp only [eI];omega,⟨by rw [hI.low,hI.fors];rfl,by rw [hI.high,hI.fors];rfl⟩,hI.w⟩).bind λy hy=>?_;have her:=hy.e;rw [hI.e] at her;refine bK.iteb (λh0=>.some ?_) λh0=>.some ?_
 ·have h0:y.e_ ≠ 0:=by simpa using h0
  rcases her with h1 | ⟨_,h1⟩
  ·exact absurd h1 h0
  ·rw [h1];exact .size (by omega) (by omega)
 ·have h0:y.e_=0:=by simpa using h0
  obtain ⟨z1,z2⟩:=hy.ok h0;exact .ok hI z1 z2 (by omega) (by omega)
structure OF (f:aT) (c:bL) (p:Nat):Prop where
 par:f.bC=p
 pl:p<=f.aX.length
 v:f.aX.length<=4096
 res:f.bX=0 ∨ f.bX=2 ∨ f.bX=3
 ex:f.dF=true->AF (f.aX.take p) 0<=4
 cl:GV f p (c,0)
 tz:tX f.bQ<=50000000
theorem of_flat {c:aG} {rk:Int->Nat} (hp:PO c rk) {n:Nat} {i:Int} {r:aT × Int} (hn:200000000<=n) (h:uX n c.p_ i=some r) (he:r.2=0) (h2:∃fn,bM c.p_.bF i=some fn/\MN fn r.1):∃p:Nat,r.1.bC=p/\p<=r.1.aX.length/\r.1.aX.length<=4096/\(r.1.bX=0 ∨ r.1.bX=2 ∨ r.1.bX=3)/\(r.1.dF=true->AF (r.1.aX.take p) 0<=4)/\tX r.1.bQ<=50000000/\∃sc',FB r.1.aX r.1.bX true (qR p) r.1.bQ sc':=by
 obtain ⟨fn0,_,hf0⟩:=h2;obtain ⟨k,fn,_,hfn,hr,hpre,_,sc',hFB⟩:=QH hp h he;have hm:=CT hfn;obtain ⟨v1,v2,v3⟩:=hp.co.vl fn hm;obtain ⟨_,k2⟩:=hp.co.ki fn hm;have e1:r.1.bC=fn.bC:=by rw [hr]
 have e2:r.1.bX=fn.bX:=by rw [hr]
 have e3:r.1.dF=fn.dF:=by rw [hr]
 have hlen:=hpre.length_le;refine ⟨fn.bC.toNat,by rw [e1];omega,by omega,hf0.v,by rw [e2];exact k2,λh=>?_,hf0.tz,sc',by rw [e2];exact hFB⟩;rw [e3] at h;have:=hp.ex fn hm h;obtain ⟨rest,hrest⟩:=hpre;rw [←hrest,List.take_append_of_le_length (by omega)];exact this
section
variable {f:aT} {c:bL}
end
def isP (vs:List aL) (k:Nat):Bool:=match vs[k]? with | some u=>decide (u.bS=1) | none=>false
def tY (vs:List aL) (a b:Nat):List Int:=((List.range (b - a)).filter λi=>isP vs (a+i)).map λi=>((a+i:Nat):Int)
section
variable {vs vs':List aL} {a b c:Nat}
theorem sQ:tY vs a a=[]:=by unfold tY;rw [xes];rfl
theorem nW (h1:a<=b) (h2:b<=c):tY vs a c=tY vs a b++tY vs b c:=by
 unfold tY;rw [show c - a=(b - a)+(c - b) by omega,List.range_add,SE,MV,List.filter_map,xee]
 congr 1
 have e:∀i,a+(b - a+i)=b+i:=λi=>by omega
 simp only [Function.comp_def,e]
theorem Bu (h:vs <+: vs') (hb:b<=vs.length):tY vs' a b=tY vs a b:=by
 unfold tY
 congr 1
 refine SD λi hi=>?_;have hi:=KO.1 hi;obtain ⟨r,rfl⟩:=h;unfold isP;rw [MW (by omega)]
theorem Bv {u:aL} (h:vs[a]? = some u):tY vs a (a+1)=if u.bS=1 then [(a:Int)] else []:=by
 unfold tY;rw [Nat.add_sub_cancel_left];show List.map _ (List.filter _ [0])=_;have e:isP vs a=decide (u.bS=1):=by unfold isP;rw [h]
 by_cases hk:u.bS=1
 ·rw [if_pos hk,List.filter_cons_of_pos (by rw [SV,e];exact AB hk)];rfl
 ·rw [if_neg hk,List.filter_cons_of_neg (by rw [SV,e];simpa using hk)];rfl
theorem ND {v:Int}:v ∈ tY vs a b ↔ ∃k:Nat,v=(k:Int)/\a<=k/\k<b/\∃u,vs[k]? = some u/\u.bS=1:=by
 unfold tY;rw [HN]
 constructor
 ·rintro ⟨i,hi,rfl⟩;obtain ⟨h1,h2⟩:=Gu.1 hi;have h1:=KO.1 h1;refine ⟨a+i,rfl,by omega,by omega,?_⟩;unfold isP at h2
  split at h2
  ·exact ⟨_,‹_›,by simpa using h2⟩
  ·cases h2
 ·rintro ⟨k,rfl,h1,h2,u,h3,h4⟩;refine ⟨k - a,Gu.2 ⟨KO.2 (by omega),?_⟩,by congr 1;omega⟩;rw [show a+(k - a)=k by omega];unfold isP;rw [h3];exact AB h4
theorem Pg:(tY vs a b).Nodup:=by
 unfold tY;have h:((List.range (b - a)).filter λi=>isP vs (a+i)).Nodup:=List.nodup_range.filter _;exact List.pairwise_map.2 (h.imp λ{x y} hxy e=>hxy (by omega))
end
theorem Qu (a b:List aB):AT (a++b)=AT a++AT b:=by
 induction a with
 | nil=>rw [gC,AT,gC]
 | cons x a ih=>rw [iD,AT,AT,ih,GX]
theorem dvL_one (s:aB) (h1:s.bQ=[]) (h2:s.eW=[]):AT [s]=KN s:=by
 rw [AT,AT,gS,MA,h1,h2,AT,gS,gS]
theorem Ih {s:aB} (h1:s.fR ≠ [102,111,114]) (h2:s.fR ≠ [108,101,116]):KN s=[]:=by
 unfold KN;rw [if_neg];rintro (h | h);exact h1 h;exact h2 h
theorem NV {α:Type} (l:List α) (x:α):(l++[x])[l.length]? = some x:=by rw [Ma (rM _),xes];rfl
theorem Ow.dv {as:List Int} {fW:Int} {ps vs vs':List aL} {l:List aF} {i:Nat} {o:List aB} {own:List Int} (h:Ow as fW ps vs l i o own vs'):AT o=tY vs' vs.length vs'.length/\own.length=l.length:=by
 induction h with
 | nil=>rw [AT,sQ];exact ⟨rfl,rfl⟩
 | arr _ _ ih=>exact ⟨ih.1,by simp only [dT,ih.2]⟩
 | @val vs y l i u o own vs' _ hu h ih=>
   refine ⟨?_,by simp only [dT,ih.2]⟩;have hp:=h.pre.length_le;rw [mB,uF] at hp;have hg:vs'[vs.length]? = some u:=EO h.pre (NV vs u);rw [nW (xej _) hp,Bv hg,AT,MA,ih.1,mB,uF];simp only [AT,gS]
   congr 1
   unfold KN
   by_cases hk:u.bS=1
   ·simp only [if_pos hk];rw [if_pos (.inr trivial)]
   ·simp only [if_neg hk];rw [if_neg (by decide)]
theorem own_pub {fv v1:List aL} {own:List Int} {pn:Nat} (hpn:pn<=fv.length) (hol:own.length=pn):(tY fv pn fv.length).map (mp (own++Dw v1.length (fv.drop pn).length))=tY (v1++fv.drop pn) v1.length (v1++fv.drop pn).length:=by
 unfold tY;rw [mB,OI,Nat.add_sub_cancel_left,xee]
 have e1:∀i,i<fv.length - pn->isP fv (pn+i)=isP (v1++fv.drop pn) (v1.length+i):=λi hi=>by
  unfold isP;rw [Ma (by omega),xef,Nat.add_sub_cancel_left]
 rw [SD λi hi=>e1 i (KO.1 hi)];refine QN λi hi=>?_;have hi:=KO.1 (Gu.1 hi).1;show mp _ ((pn+i:Nat):Int)=_;unfold mp;have hl:(Dw v1.length (fv.length - pn)).length=fv.length - pn:=by simp [Dw]
 rw [if_neg (by rw [mB,hl];omega),CS,Ma (by omega),hol,Nat.add_sub_cancel_left];unfold Dw;rw [gW,xfg hi];rfl
theorem TB.le {sg:PP} {vs:List aL} {res:Int} {lf:Bool} {n n':Nat} {sc sc':List Int} {l:List aB} (h:TB sg vs res lf n sc l n' sc'):n<=n':=by
 induction h with
 | nil | ret | retc=>exact rM _
 | let_ _ _ _ _ _ ih=>omega
 | var_ _ _ _ _ ih=>omega
 | arr _ _ _ ih=>omega
 | callv _ _ _ _ _ _ ih=>omega
 | set _ _ _ _ _ _ ih=>exact ih
 | calls _ _ _ _ _ _ _ ih=>exact ih
 | put _ _ _ _ _ _ _ _ _ ih=>exact ih
 | do_ _ _ _ ih=>exact ih
 | if_ _ _ _ _ _ i1 i2 i3=>omega
 | for_ _ _ _ _ _ _ _ _ i1 i2=>omega
def Sv (res:Int) (b:aB):Prop:=b.bQ=[]/\b.eW=[]/\(b.fR=[114,101,116,117,114,110] ∨ b.fR=[115,101,116] ∨ b.fR=[118,97,114]/\b.gJ=res)
theorem Sv.bat {res:Int} {b:aB} (h:Sv res b) (a:Int):Sv res (Fl b a):=by
 obtain ⟨b1,b2,b3,b4,b5⟩:=Bn b a;unfold Sv;rw [b1,b3,b4,b5];exact h
theorem Sv.dv {res:Int} {b:aB} (h:Sv res b):b.fR ≠ [102,111,114]/\b.fR ≠ [108,101,116]:=by
 obtain ⟨_,_,h | h | ⟨h,_⟩⟩:=h <;> rw [h] <;> decide
theorem QA {res:Int} {b:aB} (h:Sv res b) (a v f:Int) (l:List aF):AT [⟨(Fl b a).fR,v,f,l,(Fl b a).bQ,(Fl b a).eW,(Fl b a).eU⟩]=[]:=by
 have e:=dvL_one ⟨(Fl b a).fR,v,f,l,(Fl b a).bQ,(Fl b a).eW,(Fl b a).eU⟩ (h.bat a).1 (h.bat a).2.1;exact e.trans (Ih (h.bat a).dv.1 (h.bat a).dv.2)
def DvR (c:aG) (vs:List aL) (l:List aB) (as:List Int) (b:aB) (out:List aB) (vs':List aL):Prop:=
 ∀ {j:Nat} {vsC:List aL} {res:Int} {lf:Bool} {n:Nat} {sc:List Int} {n':Nat} {sc':List Int},TB (Eo c j) vsC res lf n sc l n' sc'->(∀u ∈ vsC,Ef u)->(res=0 ∨ res=2 ∨ res=3)->Sv res b ->
  (AT out).Perm ((tY vsC n n').map (mp as)++tY vs' vs.length vs'.length)
theorem perm4 {α:Type} {a b c d e f:List α} (h1:a.Perm b) (h2:c.Perm (d++e)) (h3:f=b++e):(a++c).Perm (d++f):=by
 subst h3;refine (h1.append h2).trans ?_;rw [←GX,←GX];exact List.Perm.append_right _ List.perm_append_comm
section
variable {c:aG} {rk:Int->Nat}
theorem call_dv (hp:PO c rk) {j:Nat} {vsC vs v1 v2:List aL} {sc:List Int} {as own:List Int} {fi r:Int} {ps:List aL} {xs:List aF} {a:Int} {f:aT} {o1 o2:List aB} {b':aB}
  (hsg:Eo c j fi r ps) (hta:AU vsC sc ps xs) (hf:bM c.p_.bF fi=some f) (hA:Ow as a f.aX vs xs 0 o1 own v1) (hB:Jh c.p_ (v1++f.aX.drop f.bC.toNat) f.bQ (own++Dw v1.length (f.aX.drop f.bC.toNat).length) b' o2 v2)
  (ih:DvR c (v1++f.aX.drop f.bC.toNat) f.bQ (own++Dw v1.length (f.aX.drop f.bC.toNat).length) b' o2 v2) (hbk:Sv r b'):(AT (o1++o2)).Perm (tY v2 vs.length v2.length):=by
 obtain ⟨_,f',hf',hr,hps⟩:=hsg;obtain rfl:f=f':=Option.some.inj (hf.symm.trans hf');subst hr hps
 obtain ⟨fn,rfl⟩:∃k:Nat,fi=(k:Int):=by
  unfold bM at hf
  split at hf
  ·exact ⟨fi.toNat,by omega⟩
  ·exact nomatch hf
 have hfg:=zX hf;have hfm:=CT hfg;have tf:=hp.tf fn f hfg;obtain ⟨vl1,vl2,vl3⟩:=hp.co.vl f hfm;obtain ⟨ki1,ki2⟩:=hp.co.ki f hfm;obtain ⟨sc'',htb⟩:=tf.body;have hpl:(f.aX.take f.bC.toNat).length=f.bC.toNat:=by rw [Ji];omega
 have hxl:xs.length=f.bC.toNat:=hta.1.trans hpl;obtain ⟨d1,d2⟩:=hA.dv;have d3:=ih (j:=fn) htb ki1 ki2 hbk;rw [own_pub (by omega) (d2.trans hxl)] at d3;have hq1:=hA.pre.length_le;have hq2:=hB.pre.length_le;have hq3:v1.length<=(v1++f.aX.drop f.bC.toNat).length:=by rw [mB];omega
 rw [Qu,d1,nW hq1 (Jj hq3 hq2),nW (a:=v1.length) hq3 hq2];have e1:=Bu (a:=vs.length) ((LX v1 (f.aX.drop f.bC.toNat)).trans hB.pre) (rM _);have e2:=Bu (a:=v1.length) hB.pre (rM _);rw [e1,e2];exact List.Perm.append_left _ d3
theorem secT_ne (t:Int):GE t ≠ 1:=by unfold GE;split <;> omega
theorem dv_all (hp:PO c rk) {vs vs':List aL} {l:List aB} {as:List Int} {b:aB} {out:List aB} (h:Jh c.p_ vs l as b out vs'):DvR c vs l as b out vs':=by
 generalize hcp:c.p_=p at h
 induction h with
 | nil=>
   intro j vsC res lf n sc n' sc' htb hv hr hb;cases htb;rw [sQ,sQ,AT];exact .refl _
 | @call vs s l as b f o1 own v1 o2 v2 o3 v3 ho hf hA hp0 hp1 hB hrest ihB ihR=>
   subst hcp;intro j vsC res lf n sc n' sc' htb hv hr hb;have hq1:=(hA.pre.trans (LX _ (f.aX.drop f.bC.toNat))).trans hB.pre
   -- what is behind the call
   have fin:∀ {n1:Nat} {sc1:List Int} {r:Int} {ps:List aL},Eo c j s.gJ r ps->AU vsC sc ps s.aO->Sv r (OD f s as b)->TB (Eo c j) vsC res lf n1 sc1 l n' sc'->n<=n1->tY vsC n n1=[]->(AT ((o1++o2)++o3)).Perm ((tY vsC n n').map (mp as)++tY v3 vs.length v3.length):=by
    intro n1 sc1 r ps h1 h2 h3 h4 h5 h6;rw [Qu,nW h5 h4.le,h6,gC];refine perm4 (call_dv hp h1 h2 hf hA hB ihB h3) (ihR h4 hv hr hb) ?_;rw [nW hq1.length_le hrest.pre.length_le,Bu hrest.pre (rM _)]
   have tk0:s.fI ≠ -1->s.fI ≠ -2->∀r,Sv r (OD f s as b):=λh1 h2 r=>by
    unfold OD;rw [if_neg h2,if_neg h1];exact ⟨rfl,rfl,.inr (.inl rfl)⟩
   have tk1:s.fI=-1->Sv f.bX (OD f s as b):=λh=>by unfold OD;rw [if_neg (by rw [h];decide),if_pos h];exact ⟨rfl,rfl,.inr (.inr ⟨rfl,rfl⟩)⟩
   have tk2:s.fI=-2->Sv res (OD f s as b):=λh=>by unfold OD;rw [if_pos h];exact hb.bat _
   cases htb with
   | let_=>exact absurd (show ([108,101,116]:cF)=[99,97,108,108] from ho) (by decide)
   | var_=>exact absurd (show ([118,97,114]:cF)=[99,97,108,108] from ho) (by decide)
   | arr=>exact absurd (show ([97,114,114]:cF)=[99,97,108,108] from ho) (by decide)
   | set=>exact absurd (show ([115,101,116]:cF)=[99,97,108,108] from ho) (by decide)
   | put=>exact absurd (show ([112,117,116]:cF)=[99,97,108,108] from ho) (by decide)
   | if_=>exact absurd (show ([105,102]:cF)=[99,97,108,108] from ho) (by decide)
   | for_=>exact absurd (show ([102,111,114]:cF)=[99,97,108,108] from ho) (by decide)
   | ret=>exact absurd (show ([114,101,116,117,114,110]:cF)=[99,97,108,108] from ho) (by decide)
   | callv k1 k2 k3 k4 k5 k6=>
     have k1':=k1;obtain ⟨_,f',hf',hr',_⟩:=k1'
     have:=(hp.co.ki f' (by
      unfold bM at hf'
      split at hf'
      ·exact CT hf'
      ·cases hf')).2
     refine fin k1 k2 (tk0 (by simp only;omega) (by simp only;omega) _) k6 (xej _) ?_;rw [Bv k4,if_neg (by rw [k5,hr'];omega)]
   | calls k1 k2 k3 k4 k5 k6 k7=>
     have h0:=(xX k2).1;exact fin k4 k5 (tk0 (by simp only;omega) (by simp only;omega) _) k7 (rM _) sQ
   | do_ k1 k2 k3=>
     have k1':=k1;obtain ⟨_,f',hf',hr',_⟩:=k1';obtain rfl:f=f':=Option.some.inj (hf.symm.trans hf');exact fin k1 k2 (by rw [hr'];exact tk1 rfl) k3 (rM _) sQ
   | retc k1 k2 k3=>
     obtain ⟨rfl,rfl⟩:=hrest.nil_inv;exact fin k1 k3 (tk2 rfl) (.nil (l:=true) (n:=n) (sc:=sc)) (rM _) sQ
 | @ret vs st l as b y r o v ho hl hnv hrest ihR=>
   intro j vsC res lf n sc n' sc' htb hv hr hb;cases htb with
   | let_=>exact absurd (show ([108,101,116]:cF)=[114,101,116,117,114,110] from ho) (by decide)
   | var_=>exact absurd (show ([118,97,114]:cF)=[114,101,116,117,114,110] from ho) (by decide)
   | arr=>exact absurd (show ([97,114,114]:cF)=[114,101,116,117,114,110] from ho) (by decide)
   | set=>exact absurd (show ([115,101,116]:cF)=[114,101,116,117,114,110] from ho) (by decide)
   | put=>exact absurd (show ([112,117,116]:cF)=[114,101,116,117,114,110] from ho) (by decide)
   | if_=>exact absurd (show ([105,102]:cF)=[114,101,116,117,114,110] from ho) (by decide)
   | for_=>exact absurd (show ([102,111,114]:cF)=[114,101,116,117,114,110] from ho) (by decide)
   | callv=>exact absurd (show ([99,97,108,108]:cF)=[114,101,116,117,114,110] from ho) (by decide)
   | calls=>exact absurd (show ([99,97,108,108]:cF)=[114,101,116,117,114,110] from ho) (by decide)
   | do_=>exact absurd (show ([99,97,108,108]:cF)=[114,101,116,117,114,110] from ho) (by decide)
   | retc=>exact absurd (show ([99,97,108,108]:cF)=[114,101,116,117,114,110] from ho) (by decide)
   | ret k1 k2 k3=>
     obtain ⟨rfl,rfl⟩:=hrest.nil_inv;rw [sQ,sQ,gS];exact .of_eq ((QA hb _ _ _ _).trans rfl)
 | @retv vs st l as b y r o v ho hl hv0 hrest ihR=>
   intro j vsC res lf n sc n' sc' htb hv hr hb;cases htb with
   | let_=>exact absurd (show ([108,101,116]:cF)=[114,101,116,117,114,110] from ho) (by decide)
   | var_=>exact absurd (show ([118,97,114]:cF)=[114,101,116,117,114,110] from ho) (by decide)
   | arr=>exact absurd (show ([97,114,114]:cF)=[114,101,116,117,114,110] from ho) (by decide)
   | set=>exact absurd (show ([115,101,116]:cF)=[114,101,116,117,114,110] from ho) (by decide)
   | put=>exact absurd (show ([112,117,116]:cF)=[114,101,116,117,114,110] from ho) (by decide)
   | if_=>exact absurd (show ([105,102]:cF)=[114,101,116,117,114,110] from ho) (by decide)
   | for_=>exact absurd (show ([102,111,114]:cF)=[114,101,116,117,114,110] from ho) (by decide)
   | callv=>exact absurd (show ([99,97,108,108]:cF)=[114,101,116,117,114,110] from ho) (by decide)
   | calls=>exact absurd (show ([99,97,108,108]:cF)=[114,101,116,117,114,110] from ho) (by decide)
   | do_=>exact absurd (show ([99,97,108,108]:cF)=[114,101,116,117,114,110] from ho) (by decide)
   | retc=>exact absurd (show ([99,97,108,108]:cF)=[114,101,116,117,114,110] from ho) (by decide)
   | ret k1 k2 k3=>
     obtain ⟨rfl,rfl⟩:=hrest.nil_inv
     have hF:b.gJ ≠ 1:=by
      obtain ⟨_,_,h | h | ⟨_,h⟩⟩:=hb
      ·rw [hv0] at h;exact absurd h (by decide)
      ·rw [hv0] at h;exact absurd h (by decide)
      ·omega
     rw [sQ,mB,uF,Bv (NV vs _),if_neg (show ¬ b.gJ=1 from hF),gS];exact .of_eq ((QA hb _ _ _ _).trans rfl)
 | @other vs s l as b o1 v1 o2 v2 o3 v3 h1 h2 hb1 hb2 hrest i1 i2 ihR=>
   subst hcp;intro j vsC res lf n sc n' sc' htb hv hr hb
   have dvc:∀s':aB,AT ([s']++o3)=KN s'++((AT s'.bQ++AT s'.eW)++AT o3):=λs'=>by
    rw [xez,AT,MA,GX]
   -- a statement in which none stand
   have one:∀ {n1:Nat} {sc1:List Int},s.bQ=[]->s.eW=[]->TB (Eo c j) vsC res lf n1 sc1 l n' sc'->n<=n1->KN { s with fI:=mp as s.fI,aO:=KL as s.aO,bQ:=o1,eW:=o2 }=(tY vsC n n1).map (mp as)->(AT ([{ s with fI:=mp as s.fI,aO:=KL as s.aO,bQ:=o1,eW:=o2 }]++o3)).Perm ((tY vsC n n').map (mp as)++tY v3 vs.length v3.length):=by
    intro n1 sc1 e1 e2 h4 h5 h6;rw [e1] at hb1;rw [e2] at hb2;obtain ⟨rfl,rfl⟩:=hb1.nil_inv;obtain ⟨rfl,rfl⟩:=hb2.nil_inv;rw [dvc,h6,nW h5 h4.le,MV];simp only [AT,gC];exact (List.Perm.append_left _ (ihR h4 hv hr hb)).trans (.of_eq (GX _ _ _).symm)
   cases htb with
   | callv=>exact absurd rfl h1
   | calls=>exact absurd rfl h1
   | do_=>exact absurd rfl h1
   | retc=>exact absurd rfl h1
   | ret=>exact absurd rfl h2
   | let_ k1 k2 k3 k4 k5=>
     refine one rfl rfl k5 (xej _) ?_;rw [Bv k3,if_pos k4];unfold KN;rw [if_pos (.inr rfl)];rfl
   | var_ k1 k3 k4 k5=>
     refine one rfl rfl k5 (xej _) ?_;rw [Bv k3,if_neg (by rw [k4];exact secT_ne _)];exact Ih (by simp only;decide) (by simp only;decide)
   | arr k3 k4 k5=>
     refine one rfl rfl k5 (xej _) ?_;rw [Bv k3,if_neg (by rw [k4];decide)];exact Ih (by simp only;decide) (by simp only;decide)
   | set k1 k2 k3 k4 k5 k6=>
     refine one rfl rfl k6 (rM _) ?_;rw [sQ];exact Ih (by simp only;decide) (by simp only;decide)
   | put k1 k2 k3 k4 k5 k6 k7 k8 k9=>
     refine one rfl rfl k9 (rM _) ?_;rw [sQ];exact Ih (by simp only;decide) (by simp only;decide)
   | @if_ _ _ _ cc bb ee aa n1 sc1 n2 sc2 ss _ _ k1 k2 k3 k4 k5=>
     have p1:=i1 k3 hv hr hb;have p2:=i2 k4 hv hr hb;have p3:=ihR k5 hv hr hb;rw [dvc,Ih (by simp only;decide) (by simp only;decide),gC,nW k3.le (Jj k4.le k5.le),nW k4.le k5.le]
     have e:tY v3 vs.length v3.length=tY v1 vs.length v1.length++(tY v2 v1.length v2.length++tY v3 v2.length v3.length):=by
      rw [nW (vs:=v3) hb1.pre.length_le (Jj hb2.pre.length_le hrest.pre.length_le),nW (vs:=v3) (a:=v1.length) hb2.pre.length_le hrest.pre.length_le,Bu (hb2.pre.trans hrest.pre) (rM _),Bu hrest.pre (rM _)]
     rw [e,MV,MV,List.perm_iff_count];intro x;have q1:=p1.count_eq x;have q2:=p2.count_eq x;have q3:=p3.count_eq x;simp only [List.count_append] at q1 q2 q3 ⊢;omega
   | @for_ _ _ _ xx yy uu bb aa n1 sc1 ss _ _ k1 k2 k3 k4 k5 k6 k7 k8=>
     obtain ⟨rfl,rfl⟩:=hb2.nil_inv;have p1:=i1 k7 hv hr hb;have p3:=ihR k8 hv hr hb;have hd:KN ({ fR:=[102,111,114],fI:=mp as (n:Int),gJ:=0,aO:=KL as [xx,yy],bQ:=o1,eW:=[],eU:=aa }:aB)=[mp as (n:Int)]:=by unfold KN;rw [if_pos (.inl rfl)]
     rw [dvc,nW (xej n) (Jj k7.le k8.le),nW (a:=n+1) k7.le k8.le,Bv k5,if_pos k6]
     have e:tY v3 vs.length v3.length=tY v2 vs.length v2.length++tY v3 v2.length v3.length:=by
      rw [nW (vs:=v3) hb1.pre.length_le hrest.pre.length_le,Bu hrest.pre (rM _)]
     rw [e];simp only [MV,gT,iQ,AT,gS];rw [hd,List.perm_iff_count];intro x;have q1:=p1.count_eq x;have q3:=p3.count_eq x;simp only [List.count_append] at q1 q3 ⊢;omega
theorem Flat_dv (hp:PO c rk) {n:Nat} {i:Int} {r:aT × Int} (h:uX n c.p_ i=some r) (he:r.2=0):(AT r.1.bQ).Perm (tY r.1.aX r.1.bC.toNat r.1.aX.length):=by
 obtain ⟨k,fn,_,hfn,hr,hpre,hB,_⟩:=QH hp h he;have hm:=CT hfn;obtain ⟨v1,v2,v3⟩:=hp.co.vl fn hm;obtain ⟨ki1,ki2⟩:=hp.co.ki fn hm;obtain ⟨sc',htb⟩:=(hp.tf k fn hfn).body;have e1:r.1.bC=fn.bC:=by rw [hr]
 have hd:=dv_all hp hB htb ki1 ki2 ⟨rfl,rfl,.inl rfl⟩
 have e2:∀l:List Int,l.map (mp [])=l:=λl=>by
  conv=>rhs;rw [←List.map_id l]
  exact QN λv _=>Pl v
 rw [e2] at hd;rw [e1,nW (a:=fn.bC.toNat) (show fn.bC.toNat<=fn.aX.length by omega) hpre.length_le,Bu hpre (rM _)];exact hd
end
structure O15 (f:aT) (p:Nat):Prop where
 par:f.bC=p
 pl:p<=f.aX.length
 v:f.aX.length<=4096
 tz:tX f.bQ<=50000000
 fb:∃sc',FB f.aX f.bX true (qR p) f.bQ sc'
 dv:(AT f.bQ).Perm (tY f.aX p f.aX.length)
theorem TZ {n:Nat} (hn:200000000<=n) (s:cF) (i:Int):bK (mY n s i) λr=>r.2.2=true->∃p,O15 r.1 p:=by
 unfold mY;refine bK.iteb (λ_=>.some λh=>(nomatch h)) λhs=>?_;have hs:=LY hs;refine (Su (n:=n) (s:=s) (by omega) (by omega)).bind λr hr=>?_;refine bK.iteb (λ_=>.some λh=>(nomatch h)) λhe=>?_;have he:r.2.1=0:=by simpa using he
 obtain ⟨c,rk,hc,hp⟩:=hr he;obtain ⟨r2,e2,h2,_⟩:=VE hp.pg (n:=n) (i:=i) hp.rkN (by omega);rw [hc] at e2;rw [e2,iJ];refine .some λh3=>?_;have h3:r2.2=0:=by simpa using h3
 rw [←hc] at e2;obtain ⟨p,a1,a2,a3,a4,a5,a6,sc',a7⟩:=of_flat hp hn e2 h3 (h2 h3);have hd:=Flat_dv hp e2 h3;rw [a1,CS] at hd;exact ⟨p,a1,a2,a3,a6,⟨sc',a7⟩,hd⟩
theorem O15.dok {f:aT} {p:Nat} (h:O15 f p):DOk (qR p) (AT f.bQ):=by
 refine ⟨h.dv.nodup_iff.2 Pg,λv hv=>?_⟩;obtain ⟨k,rfl,h1,h2,_⟩:=ND.1 (h.dv.mem_iff.1 hv);exact ⟨λhm=>by have:=Ex hm;omega,by omega⟩
section
variable {c:bL} {v:Int}
theorem Word_in {t:aM} (ht:bM c.bO v=some t):lM c v=(some (t.fR != (2:Int))).bind λy2=>if y2=true then some (-1:Int) else (some t).bind λx14=>
  (if (decide ((IntKind.i64.wrap x14.N_)<(4:Int)))=true then
     if ((IntKind.i64.wrap x14.N_) == v)=true then some true
     else if (decide ((4:Int)<=(IntKind.i64.wrap x14.N_)))=true then if (decide ((IntKind.i64.wrap ((IntKind.i64.wrap x14.N_) - (4:Int)))<(c.gV.length:Int)))=true then (bM c.gV (IntKind.i64.wrap ((IntKind.i64.wrap x14.N_) - (4:Int)))).bind λx24=>some (x24 == v) else some false else some false
    else if (decide ((4:Int)<=(IntKind.i64.wrap x14.N_)))=true then if (decide ((IntKind.i64.wrap ((IntKind.i64.wrap x14.N_) - (4:Int)))<(c.gV.length:Int)))=true then (bM c.gV (IntKind.i64.wrap ((IntKind.i64.wrap x14.N_) - (4:Int)))).bind λx31=>some (x31 == v) else some false else some false).bind λy19=>
  if y19=true then some (IntKind.i64.wrap x14.N_) else some (-1:Int):=by
 obtain ⟨h0,h1⟩:=xX ht;unfold lM;rw [if_neg (by rw [Bq];omega),if_neg (by rw [Bq];omega),ht];rfl
theorem Vn {k:Nat} (ht:bM c.bO v=some ⟨2,((4+k:Nat):Int),[]⟩) (hk:c.gV[k]? = some v) (h:k<=250):lM c v=some ((4+k:Nat):Int):=by
 have hl:=(uG.1 hk).1;rw [Word_in ht,iJ,if_neg (by simp),iJ];simp only;rw [cR (n:=((4+k:Nat):Int)) (by omega) (by omega),cR (n:=((4+k:Nat):Int) - 4) (by omega) (by omega),if_neg (by rw [Bq];omega),if_pos (AB (by omega)),if_pos (AB (by omega)),show ((4+k:Nat):Int) - 4=(k:Int) by omega,qH hk,iJ,iJ,if_pos (by simp)]
end
structure CW (f:aT) (p:Nat) (c:bL):Prop where
 p4:p<=4
 fl:(As f.bQ).length<=250
 fors:c.gV=As f.bQ
 low:c.lW.length=4+(As f.bQ).length
 high:c.iG.length=4+(As f.bQ).length
 terms:c.bO.length=f.aX.length
 wl:yJ c.lW/\yJ c.iG
 word:∀(k:Nat) v,(As f.bQ)[k]? = some v->lM c v=some ((4+k:Nat):Int)
 non:∀(i:Nat) u,f.aX[i]? = some u->u.bS ≠ 1->bM c.bO (i:Int)=some tz0
 par:∀(i:Nat) u,f.aX[i]? = some u->u.bS=1->i<p->bM c.bO (i:Int)=some ⟨2,(i:Int),[]⟩
 loc:∀(i:Nat) u,f.aX[i]? = some u->u.bS=1->p<=i->∃t,bM c.bO (i:Int)=some t/\Sh false t/\tm t<=2000
 qx:∀x ∈ Ia f.bQ,QX c.bO (qR p++AT f.bQ) x
theorem GV.cw {f:aT} {p:Nat} (ho:O15 f p) {c:bL} (h:GV f p (c,0)):CW f p c:=by
 generalize hr:(c,(0:Int))=r at h
 cases h with
 | count=>injection hr with _ hr;cases hr
 | size=>injection hr with _ hr;cases hr
 | @ok y0 y sc' hI hT hB h4 hL=>
   injection hr with hr;subst hr
   have hF:y.c_.gV=As f.bQ:=by rw [hB.fors,hI.fors,gC]
   obtain ⟨d1,d2,d3⟩:=hB.ok ho.dok λv hv=>(Ex hv).1
   have hun:∀(i:Nat),i<f.aX.length->(i:Int) ∉ AT f.bQ->bM y.c_.bO (i:Int)=some (Io f.aX p i):=λi hi hm=>by
    rw [hB.un i (by omega) hm];exact qH (hI.t i hi)
   have hmem:∀(i:Nat),(i:Int) ∈ AT f.bQ ↔ p<=i/\i<f.aX.length/\∃u,f.aX[i]? = some u/\u.bS=1:=λi=>by
    rw [ho.dv.mem_iff,ND]
    constructor
    ·rintro ⟨k,e,h1,h2,h3⟩;obtain rfl:k=i:=by omega
     exact ⟨h1,h2,h3⟩
    ·rintro ⟨h1,h2,h3⟩;exact ⟨i,rfl,h1,h2,h3⟩
   refine ⟨h4,hL,hF,by rw [hB.low,hI.low];rfl,by rw [hB.high,hI.high];rfl,hT.len,hB.w hI.w,λk v hk=>?_,λi u hu hk=>?_,λi u hu hk hi=>?_,λi u hu hk hi=>?_,d3⟩
   ·have:=d2 k v hk;rw [hI.fors,eI,SV] at this;have hlt:=(uG.1 hk).1;exact Vn this (by rw [hF];exact hk) (by omega)
   ·have hlt:=(uG.1 hu).1
    rw [hun i hlt λhm=>by
     obtain ⟨_,_,u',e1,e2⟩:=(hmem i).1 hm;rw [hu] at e1;cases e1;exact hk e2]
    unfold Io;rw [hu];simp only
    rw [if_neg λh=>hk h.2]
   ·have hlt:=(uG.1 hu).1;rw [hun i hlt λhm=>by have:=(hmem i).1 hm;omega];unfold Io;rw [hu];simp only
    rw [if_pos ⟨hi,hk⟩]
   ·have hlt:=(uG.1 hu).1;exact d1 _ ((hmem i).2 ⟨hi,hlt,u,hu,hk⟩)
theorem Vl:lP 200000000=some true:=by kernel_rfl
theorem Sh.mem {b:Bool} {t:aM} (h:Sh b t):∀x ∈ t.aO,Sh b x:=by
 cases h with
 | z | con | var=>exact λ_ h=>nomatch h
 | un _ h=>exact one_mem h
 | bin _ _ h k=>exact λx hx=>(AE.1 hx).elim (λe=>e ▸ h) (one_mem k x)
where one_mem {b:Bool} {x:aM} (h:Sh b x):∀y ∈ [x],Sh b y:=λy hy=>by rw [zG.1 hy];exact h
def vsT (T:List aM):List aL:=List.replicate T.length ⟨[],1,0⟩
open Classical in
noncomputable def scT (L:List Int) (T:List aM):List Int:=L.filter λv=>decide (∃t,bM T v=some t/\Sh false t/\tm t<=2000)
theorem AA.ofT (L:List Int) (T:List aM):AA false (vsT T) (scT L T) T:=
 ⟨by unfold vsT;rw [BX],λv hv u hu hk=>by unfold scT at hv;simpa using (Gu.1 hv).2⟩
theorem pv_pux {L:List Int} {T:List aM} {x:aF} (h:PV L x) (hs:Sh false (Gg T x)) (hz:tm (Gg T x)<=2000):Iq (vsT T) (scT L T) x:=by
 induction h with
 | num=>
   rw [Gf] at hs;cases hs with
   | con h1 h2=>exact .num h1 h2
 | @var v a hv=>
   rw [JM] at hs hz;cases ht:bM T v with
   | none=>
     rw [ht] at hs;have hs:Sh false ⟨0,0,[]⟩:=hs;cases hs with
     | z e=>cases e
   | some t=>
     rw [ht] at hs hz;obtain ⟨h0,h1⟩:=xX ht;refine .var (u:=⟨[],1,0⟩) (Gu.2 ⟨hv,by simpa using ⟨t,ht,hs,hz⟩⟩) ?_ rfl;unfold vsT bM;rw [if_pos h0,List.getElem?_replicate,if_pos (by omega)]
 | @un o x a ho hx ih=>
   obtain ⟨n1,n2,_⟩:=Sign1.ne ho;rw [AH n1 n2,yQ,yQ] at hs hz;rw [tm,uT,uT] at hz;exact .un ho (ih (hs.mem _ (zG.2 rfl)) (by omega))
 | @bin o x y a ho hx hy i1 i2=>
   obtain ⟨n1,n2,_⟩:=ho.ne;rw [AH n1 n2,yQ,yQ,yQ] at hs hz;rw [tm,uT,uT,uT] at hz;exact .bin ho (i1 (hs.mem _ (xek ..)) (by omega)) (i2 (hs.mem _ (LZ _ (zG.2 rfl))) (by omega))
theorem QX.of {c:bL} {L:List Int} {x:aF} (h:QX c.bO L x) {n:Nat} (hn:200000000<=n):∃t,kG n c x=some (t,0)/\Sh false t/\tm t<=2000/\oN n (Gg c.bO x)=some t:=by
 obtain ⟨h1,h2,h3,h4⟩:=h;obtain ⟨r,e,hr⟩:=PQ (n:=n) (c:=c) (AA.ofT L c.bO) (pv_pux h1 h2 h3) (by omega) (by omega)
 rcases hr with ⟨r1,r2,r3,r4,r5⟩ | ⟨_,r2,_⟩
 ·exact ⟨r.1,by rw [e,←r1],r4,r5,r3⟩
 ·omega
def HT (g:Nat->Bool):List aF->Nat->List aF
 | [],_=>[]
 | x::l,v=>if g v=true then x::HT g l (v+1) else HT g l (v+1)
theorem TH (l:List aF) (v:Nat):HT (λ_=>true) l v=l:=by
 induction l generalizing v with
 | nil=>rfl
 | cons x l ih=>rw [HT,if_pos rfl,ih]
theorem Ly {g:Nat->Bool} (l:List aF) (v:Nat) (h:∀j,v<=j->g j=false):HT g l v=[]:=by
 induction l generalizing v with
 | nil=>rfl
 | cons x l ih=>rw [HT,h v (rM _),if_neg (by decide),ih _ λj hj=>h j (by omega)]
theorem TG (g:Nat->Bool) (l:List aF) (v:Nat):(HT g l v).length<=l.length:=by
 induction l generalizing v with
 | nil=>exact rM _
 | cons x l ih=>
   rw [HT];have:=ih (v+1)
   split
   ·simp only [dT];omega
   ·simp only [dT];omega
def Ld (s:aB) (v:Nat):Bool:=decide (s.fR=[108,101,116]) || decide (s.fR=[105,102]) || decide (s.fR=[102,111,114]) || (decide (s.fR=[112,117,116]) && v == 0)
theorem Nx (s:aB):HT (Ld s) s.aO 0=Ku s:=by
 unfold Ku
 split
 ·rename_i h;have:Ld s=λ_=>true:=funext λv=>by unfold Ld;rcases h with h | h | h <;> simp [h]
  rw [this,TH]
 ·rename_i h;rw [not_or,not_or] at h
  split
  ·rename_i h4;have hg:Ld s=λv=>v == 0:=funext λv=>by unfold Ld;simp [h.1,h.2.1,h.2.2,h4]
   rw [hg];cases s.aO with
   | nil=>rfl
   | cons x l=>
     rw [HT,if_pos (by rfl),Ly _ _ λj hj=>by simp;omega];rfl
  ·rename_i h4;exact Ly _ _ λj _=>by unfold Ld;simp [h.1,h.2.1,h.2.2,h4]
theorem Uk {s:aB} (hb:s.aO.length<=100000000):∀(k v:Nat) (acc:List aF),s.aO.length<v+k->v<=s.aO.length->acc.length+s.aO.length<=500000000+v->pV s k acc (v:Int)=some (acc++HT (Ld s) (s.aO.drop v) v):=by
 intro k
 induction k with
 | zero=>intro v acc h1 h2;omega
 | succ k ih=>
   intro v acc h1 h2 h3;unfold pV
   by_cases hv:v<s.aO.length
   ·have hd:s.aO.drop v=s.aO[v]::s.aO.drop (v+1):=MT hv
    have hg:(if (decide (s.fR=[108,101,116]))=true then some true else if (decide (s.fR=[105,102]))=true then some true else if (decide (s.fR=[102,111,114]))=true then some true else if (decide (s.fR=[112,117,116]))=true then some ((v:Int) == (0:Int)) else some false)=some (Ld s v):=by
     unfold Ld;have e0:((v:Int) == (0:Int))=(v == 0):=by rw [Bool.eq_iff_iff];simp
     rw [e0]
     by_cases h1:s.fR=[108,101,116]
     ·simp [h1]
     ·by_cases h2:s.fR=[105,102]
      ·simp [h2]
      ·by_cases h3:s.fR=[102,111,114]
       ·simp [h3]
       ·by_cases h4:s.fR=[112,117,116]
        ·simp [h4]
        ·simp [h1,h2,h3,h4]
    rw [if_pos (AB (by omega)),qH (uS hv),iJ,hg,iJ,cR (n:=(v:Int)+1) (by omega) (by omega),show ((v:Int)+1)=((v+1:Nat):Int) by omega,hd,HT];cases Ld s v with
    | true=>
      rw [if_pos rfl,if_pos rfl,uV (by simp only [uF];omega),iJ,ih (v+1) _ (by omega) (by omega) (by simp only [mB,uF];omega)];simp only [GX,xez]
    | false=>
      rw [if_neg (by decide),if_neg (by decide),iJ,ih (v+1) _ (by omega) (by omega) (by omega)]
   ·rw [if_neg (by rw [Bq];omega),Sw (by omega),HT,gS]
theorem Om (s:aB):(Ku s).length<=s.aO.length:=by rw [←Nx];exact TG _ _ _
theorem HZ:∀l:List aB,(Ia l).length<=tX l
 | []=>rM _
 | ⟨o,v,f,x,b,e,a⟩::l=>by
   have h1:=HZ b;have h2:=HZ e;have h3:=HZ l;have h4:=Om ⟨o,v,f,x,b,e,a⟩;have h5:=vS x;rw [Ia,Br,Ph];simp only [mB] at *;omega
theorem Ul {f:List aB->Option (List aF)} {l:List aB} {n:Nat} (hf:∀x ∈ l,f x.bQ=some (Ia x.bQ)/\f x.eW=some (Ia x.eW)) (hb:tX l<=100000000) (hn:tX l<n) :
  ∀(k v:Nat) (acc:List aF),l.length<v+k->v<=l.length->acc.length+tX (l.drop v)<=100000000->pW f n l k acc (v:Int)=some (acc++Ia (l.drop v)):=by
 have hlen:=Ek l;intro k
 induction k with
 | zero=>intro v acc h1 h2;omega
 | succ k ih=>
   intro v acc h1 h2 h4;unfold pW
   by_cases hv:v<l.length
   ·have hd:l.drop v=l[v]::l.drop (v+1):=MT hv;obtain ⟨f1,f2⟩:=hf _ (Ln hv);rw [hd,Br] at h4;have z1:=HZ l[v].bQ;have z2:=HZ l[v].eW;have z3:=vS l[v].aO;have z4:=Om l[v];have z5:=Ha (Ln hv);rw [wF] at z5;have hp:=Uk (s:=l[v]) (by omega) n 0 acc (by omega) (KH _) (by omega);rw [iB,Nx,show ((0:Nat):Int)=0 from rfl] at hp;rw [if_pos (AB (by omega)),qH (uS hv),iJ,hp,iJ,f1,iJ,uV (by simp only [mB];omega),f2,iJ,uV (by simp only [mB];omega),cR (n:=(v:Int)+1) (by omega) (by omega),show ((v:Int)+1)=((v+1:Nat):Int) by omega,ih (v+1) _ (by omega) (by omega) (by simp only [mB];omega),hd,Ia,Ph];simp only [GX]
   ·rw [if_neg (by rw [Bq];omega),Sw (by omega),Ia,gS]
theorem Um:∀(n:Nat) (l:List aB),tX l+1<n->tX l<=100000000->iW n l=some (Ia l):=by
 intro n
 induction n with
 | zero=>intro l h;omega
 | succ n ih=>
   intro l h hb;show nU (iW n) n l=_;unfold nU;have hl:=Ek l
   have:=Ul (f:=iW n) (l:=l) (n:=n) (λx hx=>by
    have h1:=Ha hx;have h2:=wF x;exact ⟨ih _ (by omega) (by omega),ih _ (by omega) (by omega)⟩) hb (by omega) n 0 [] (by omega) (by omega) (by rw [iB,eI];omega)
   rw [show ((0:Nat):Int)=0 from rfl] at this;rw [this,iJ,iB,gC]
section
variable {c:bL} (hlen:c.lW.length=c.iG.length) (hl:c.lW.length<=254)
include hlen hl
def OwnB (c:bL) (l:List Int):Prop:=∀(j:Nat) x,l[j]? = some x->∃a b,c.lW[j]? = some a/\c.iG[j]? = some b/\a<=x/\x<=max b a
theorem own_l1 (ws:List Int):∀(k v:Nat) (acc:List Int),c.lW.length<v+k->v<=c.lW.length->acc.length=v->OwnB c acc->bK (kZ (c,0) ws k acc (v:Int)) λr=>r.length=c.lW.length/\OwnB c r:=by
 intro k
 induction k with
 | zero=>intro v acc h1 h2;omega
 | succ k ih=>
   intro v acc h1 h2 h3 h4;unfold kZ;refine bK.iteb (λh=>?_) λh=>.some ⟨?_,h4⟩
   ·have hv:v<c.lW.length:=by have h:(v:Int)<(c.lW.length:Int):=AD h;omega
    have g1:=uS hv;have g2:=uS (show v<c.iG.length by omega)
    generalize c.lW[v]=a at g1
    generalize c.iG[v]'(by omega)=b at g2
    refine bK.bind (P:=λy=>∃x,y=acc++[x]/\a<=x/\x<=max b a) ?_ λy ⟨x,hy,h5,h6⟩=>?_
    ·refine bK.eqn (qH g1) ?_;refine bK.iteb (λh=>?_) λh=>?_
     ·obtain ⟨z,hz,_⟩:=bK.idx (l:=ws) (Q:=λ_=>True) (show (0:Int)<=(v:Int) by omega) (AD h) λ_ _=>trivial;refine bK.eqn hz (bK.eqn (qH g2) (bK.need (by simp only [uF];omega) (.some ⟨_,rfl,by omega,by omega⟩)))
     ·exact bK.eqn (qH g2) (bK.need (by simp only [uF];omega) (.some ⟨_,rfl,by omega,by omega⟩))
    ·rw [cR (by omega) (by omega),show ((v:Int)+1)=((v+1:Nat):Int) by omega];refine ih (v+1) y (by omega) (by omega) (by rw [hy];simp [h3]) λj w hw=>?_;rw [hy] at hw
     by_cases hj:j<v
     ·rw [MW (by omega)] at hw;exact h4 j w hw
     ·rw [Ma (by omega)] at hw;have hj2:=(uG.1 hw).1;simp only [uF] at hj2;obtain rfl:j=v:=by omega
      rw [h3,xes] at hw;have hw:x=w:=by simpa using hw
      subst hw;exact ⟨a,b,g1,g2,h5,h6⟩
   ·have h:¬ (v:Int)<(c.lW.length:Int):=LY h;omega
theorem Tt:∀k v:Nat,c.lW.length<v+k->v<=c.lW.length->bK (kY (c,0) k (v:Int)) λr=>r=.inr true ∨ r=.inl ()/\∀(j:Nat) a b,v<=j->c.lW[j]? = some a->c.iG[j]? = some b->a<=b:=by
 intro k
 induction k with
 | zero=>intro v h1 h2;omega
 | succ k ih=>
   intro v h1 h2;unfold kY;refine bK.iteb (λh=>?_) λh=>.some (.inr ⟨rfl,λj a b hj ha _=>?_⟩)
   ·have hv:v<c.lW.length:=by have h:(v:Int)<(c.lW.length:Int):=AD h;omega
    have g1:=uS hv;have g2:=uS (show v<c.iG.length by omega);refine bK.eqn (qH g1) (bK.eqn (qH g2) ?_);refine bK.iteb (λ_=>.some (.inl rfl)) λh5=>?_;have h5:=LY h5;rw [cR (by omega) (by omega),show ((v:Int)+1)=((v+1:Nat):Int) by omega];refine (ih (v+1) (by omega) (by omega)).mono λr hr=>hr.imp id λ⟨h6,h7⟩=>⟨h6,λj a b hj ha hb=>?_⟩
    by_cases hjv:j=v
    ·subst hjv;rw [g1] at ha;rw [g2] at hb
     cases ha;cases hb;omega
    ·exact h7 j a b (by omega) ha hb
   ·have h:¬ (v:Int)<(c.lW.length:Int):=LY h;have:=(uG.1 ha).1;omega
theorem own_bnd {own:List Int} (h1:own.length=c.lW.length) (h2:OwnB c own) (h3:∀(j:Nat) a b,0<=j->c.lW[j]? = some a->c.iG[j]? = some b->a<=b) (hw:yJ c.lW/\yJ c.iG):yJ own/\Bnd c.lW c.iG own:=by
 refine ⟨λx hx=>?_,λi=>?_⟩
 ·obtain ⟨j,hj⟩:=xfh hx;obtain ⟨a,b,e1,e2,e3,e4⟩:=h2 j x hj;have w1:=hw.1 a (CT e1);have w2:=hw.2 b (CT e2);unfold sX at *;omega
 ·by_cases hi:i<own.length
  ·have g:=uS hi;obtain ⟨a,b,e1,e2,e3,e4⟩:=h2 i _ g;have:=h3 i a b (KH _) e1 e2;rw [g,e1,e2];simp only [xel];omega
  ·rw [OJ (show own.length<=i by omega),OJ (show c.lW.length<=i by omega),OJ (show c.iG.length<=i by omega)];simp only [Option.getD_none];omega
end
theorem QR {c:bL} {L own:List Int} {l:List aF} (hq:∀x ∈ l,QX c.bO L x) (hl:l.length<=100000000) (hw:yJ c.lW/\yJ c.iG) (h1:yJ own) (h2:Bnd c.lW c.iG own) (sz:Int) {n:Nat} (hn:200000000<=n):∀k v:Nat,l.length<v+k->v<=l.length->kX n l (c,0) own sz k (v:Int)=some (.inl ()):=by
 intro k
 induction k with
 | zero=>intro v h1 h2;omega
 | succ k ih=>
   intro v h3 h4;unfold kX
   by_cases hv:v<l.length
   ·obtain ⟨t,e1,e2,e3,_⟩:=(hq _ (Ln hv)).of hn;obtain ⟨r,e4,e5⟩:=KF e2 h1 n (by omega);obtain ⟨s,e6,e7,e8⟩:=Nh e2 hw.1 hw.2 n (by omega)
    have e9:iY n c l[v] sz=some (decide (IntKind.i64.wrap s.qN<sz)):=by
     unfold iY eZ zK;rw [e1,iJ,if_neg (by simp),e6];rfl
    rw [if_pos (AB (by omega)),qH (uS hv),iJ,show kG n (c,(0:Int)).1 l[v]=some (t,0) from e1,iJ,if_neg (by simp),e4,iJ]
    have key:(if r.2=true then (iY n (c,(0:Int)).1 l[v] sz).bind λx101=>if x101=true then some (decide (sz<=(IntKind.i64.wrap r.1))) else some false else some false)=some false:=by
     cases hr:r.2 with
     | false=>rfl
     | true=>
       have hin:=e8 own n r.1 h1 h2 (by omega) (by rw [e4,←hr]);have hi:=e7.hi;unfold Is at hin;unfold sX at hi e5;rw [if_pos rfl,show iY n (c,(0:Int)).1 l[v] sz=_ from e9,iJ,cR (n:=s.qN) (by omega) (by omega),cR (n:=r.1) (by omega) (by omega)]
       by_cases hs:s.qN<sz
       ·rw [if_pos (AB hs),xeo (by omega)]
       ·rw [if_neg (by rw [Bq];exact hs)]
    rw [key,iJ,if_neg (by decide),cR (n:=(v:Int)+1) (by omega) (by omega),show ((v:Int)+1)=((v+1:Nat):Int) by omega];exact ih (v+1) (by omega) (by omega)
   ·rw [if_neg (by rw [Bq];omega)]
theorem KP {n:Nat} (hn:200000000<=n) (ha:lP n=some true) (s:cF) (i:Int) (ws:List Int) (sz:Int):jX n s i ws sz=some true:=by
 unfold jX;rw [ha,iJ,if_neg (by decide)];obtain ⟨⟨f,P,b⟩,e,hr⟩:=TZ hn s i;rw [e,iJ];cases b with
 | false=>rfl
 | true=>
   obtain ⟨p,ho⟩:=hr rfl;have ho:O15 f p:=ho;obtain ⟨sc',hfb⟩:=ho.fb;have htz:=ho.tz;rw [if_neg (by simp)];obtain ⟨⟨c,z⟩,e2,h2⟩:=Sr ho.par ho.pl ho.v ho.tz hfb hn;rw [e2,iJ]
   by_cases hz:z=0
   ·subst hz;have h:=h2.cw ho;have hfl:=h.fl;have hlow:=h.low;have hhigh:=h.high;rw [if_neg (by simp),show (c,(0:Int)).1.lW.length=(c,(0:Int)).1.iG.length from hlow.trans hhigh.symm,iJ,if_neg (by simp)];obtain ⟨own,e3,k1,k2⟩:=own_l1 (hlow.trans hhigh.symm) (by omega) ws n 0 [] (by omega) (KH _) rfl λj x hx=>nomatch hx;obtain ⟨r,e4,k3⟩:=Tt (hlow.trans hhigh.symm) (by omega) n 0 (by omega) (KH _);rw [show ((0:Nat):Int)=0 from rfl] at e3 e4;rw [e3,iJ,e4,iJ]
    rcases k3 with rfl | ⟨rfl,k3⟩
    ·rfl
    ·obtain ⟨w1,w2⟩:=own_bnd (hlow.trans hhigh.symm) (by omega) k1 k2 k3 h.wl;have hpz:=HZ f.bQ;have w3:=QR (l:=Ia f.bQ) h.qx (by omega) h.wl w1 w2 sz hn n 0 (by omega) (KH _);rw [show ((0:Nat):Int)=0 from rfl] at w3;show ((iW n f.bQ).bind _)=_;rw [Um n _ (by omega) (by omega),iJ,w3];rfl
   ·rw [if_pos (by simpa using hz),iJ,if_pos rfl];simpa using hz
theorem Nc:∃n,∀(s:cF) (i:Int) (ws:List Int) (sz:Int),jX n s i ws sz=some true:=⟨_,KP (rM _) Vl⟩
