import Derived.Test.YtnnomaboaiokeaaGreatDoorWRwg
namespace Go.Proofs.YtnnomaboaiokeaaGreatDoor.Abs
open Go.RowKit
set_option linter.all false
def KW (o:cF):Prop:=o=[47] ∨ o=[37] ∨ o=[60,60] ∨ o=[62,62] ∨ o=[60,60,60] ∨ o=[42] ∨ o=[61,61] ∨ o=[60] ∨ o=[124] ∨ o=[94] ∨ o=[38] ∨ o=[43] ∨ o=[45]
inductive Jh (vs:List aM) (sc:List Int):aF->Prop
 | num {n a}:0<=n->n<=4294967295->Jh vs sc ⟨[110,117,109],1,n,-1,[],a⟩
 | var {v u a}:v ∈ sc->bL vs v=some u->u.bS=1->Jh vs sc ⟨[118,97,114],1,0,v,[],a⟩
 | un {o x a}:(o=[110,111,116] ∨ o=[110,101,103])->Jh vs sc x->Jh vs sc ⟨o,1,0,-1,[x],a⟩
 | bin {o x y a}:KW o->Jh vs sc x->Jh vs sc y->Jh vs sc ⟨o,1,0,-1,[x,y],a⟩
theorem Ix {a b:Int} (h:zR a b=1):a=1/\b=1:=by
 unfold zR at h
 split at h
 ·omega
 ·split at h <;> omega
theorem OX.pub {o:cF} {x y:aF} (h:OX o x y 1):KW o/\x.cL=1/\y.cL=1:=by
 unfold KW
 rcases h with ⟨h1,h2,h3,_⟩ | ⟨h1,h2,_,h3⟩ | ⟨h1,h2,_,_⟩ | ⟨h1,_,h2⟩ | ⟨h1,h2,_⟩
 ·exact ⟨by rcases h1 with h | h <;> simp [h],h2,h3⟩
 ·exact ⟨by rcases h1 with h | h | h <;> simp [h],h3.symm,h2⟩
 ·exact ⟨by simp [h1],Ix h2.symm⟩
 ·split at h2
  ·omega
  ·exact ⟨by rcases h1 with h | h <;> simp [h],Ix h2.symm⟩
 ·exact ⟨by rcases h1 with h | h | h | h | h <;> simp [h],Ix h2.symm⟩
theorem TX.pub {vs:List aM} {sc:List Int} {x:aF} (h:TX vs sc x):x.cL=1->Jh vs sc x:=by
 induction h with
 | num h1 h2=>exact λ_=>.num h1 h2
 | @var v u a h1 h2 h3=>
   intro ht;have ht:u.bS=(1:Int):=ht;rw [ht];exact .var h1 h2 ht
 | index=>exact λht=>absurd (show (2:Int)=1 from ht) (by decide)
 | @un o x a h1 _ ih=>
   intro ht;have ht:x.cL=(1:Int):=ht;rw [ht];exact .un h1 (ih ht)
 | @bin o x y t a _ _ hb ih1 ih2=>
   intro ht;have ht:t=(1:Int):=ht;subst ht;obtain ⟨b1,b2,b3⟩:=hb.pub;exact .bin b1 (ih1 b2) (ih2 b3)
 | @sel c x y a _ _ _ _ _ _ _ _=>
   intro ht;have ht:GY (zR x.cL y.cL)=(1:Int):=ht;unfold GY at ht
   split at ht <;> omega
 | long=>exact λht=>absurd (show (3:Int)=1 from ht) (by decide)
 | wide=>exact λht=>absurd (show (3:Int)=1 from ht) (by decide)
 | half=>exact λht=>absurd (show (2:Int)=1 from ht) (by decide)
mutual
def tm:aK->Nat
 | ⟨_,_,l⟩=>1+uY l
def uY:List aK->Nat
 | []=>0
 | x::l=>tm x+uY l
end
theorem TO (x:aK):tm x=1+uY x.aO:=by cases x;rw [tm]
theorem tmL_app (a b:List aK):uY (a++b)=uY a+uY b:=by
 induction a with
 | nil=>rw [gK,uY,Dk]
 | cons x a ih=>rw [iN,uY,uY,ih,Ht]
theorem TN (x:aK):1<=tm x:=by rw [TO];omega
theorem tmL_mem {l:List aK} {x:aK} (h:x ∈ l):tm x<=uY l:=by
 obtain ⟨a,b,rfl⟩:=Ts h;rw [tmL_app,uY];omega
theorem Qy (l:List aK):l.length<=uY l:=by
 induction l with
 | nil=>exact LG _
 | cons x l ih=>have:=TN x;rw [dY,uY];omega
theorem sS {α:Type} {l:List α} {i:Nat} {x:α} (h:l[i]? = some x):bL l (i:Int)=some x:=by rw [Or];exact h
theorem Wd {f:aK->Option Int} {t:aK} (hf:∀x ∈ t.aO,f x=some (tm x:Int)) (hb:tm t<=1000000000) :
  ∀(k v:Nat) (acc:Int),t.aO.length<v+k->v<=t.aO.length->0<=acc->acc+uY (t.aO.drop v)<=1000000000->Al f t k acc (v:Int)=some (acc+uY (t.aO.drop v)):=by
 have hlen:=Qy t.aO;have hte:=TO t;intro k
 induction k with
 | zero=>intro v acc h1 h2;omega
 | succ k ih=>
   intro v acc h1 h2 h3 h4;unfold Al
   by_cases hv:v<t.aO.length
   ·have hd:t.aO.drop v=t.aO[v]::t.aO.drop (v+1):=Ny hv;have f1:=hf _ (Mp hv);rw [hd,uY] at h4;rw [if_pos (wP (by omega)),sS (vS hv),gX,f1,gX,cT (n:=acc+_) (by omega) (by omega),cT (n:=(v:Int)+1) (by omega) (by omega),show ((v:Int)+1)=((v+1:Nat):Int) by omega,ih (v+1) _ (by omega) (by omega) (by omega) (by omega),hd,uY]
    congr 1;omega
   ·rw [if_neg (by rw [xV];omega),Tp (by omega),uY]
    congr 1;omega
theorem La:∀(n:Nat) (t:aK),tm t<n->tm t<=1000000000->tT n t=some (tm t:Int):=by
 intro n
 induction n with
 | zero=>intro t h;omega
 | succ n ih=>
   intro t h hb;show xZ (tT n) n t=_;unfold xZ;have hl:=Qy t.aO;have he:=TO t
   have:=Wd (f:=tT n) (t:=t) (λx hx=>by
    have h1:=tmL_mem hx;exact ih _ (by omega) (by omega)) hb n 0 1 (by omega) (by omega) (by omega) (by rw [iL];omega)
   rw [show ((0:Nat):Int)=0 from rfl] at this;rw [this,gX,iL]
   congr 1;omega
inductive Sh (b:Bool):aK->Prop
 | z:b=true->Sh b ⟨0,0,[]⟩
 | con {v}:0<=v->v<=4294967295->Sh b ⟨1,v,[]⟩
 | var {k}:0<=k->k<=255->Sh b ⟨2,k,[]⟩
 | un {o x}:(o=3 ∨ o=4)->Sh b x->Sh b ⟨o,0,[x]⟩
 | bin {o x y}:5<=o->o<=17->Sh b x->Sh b y->Sh b ⟨o,0,[x,y]⟩
theorem Sh.mono {b b':Bool} (hb:b=true->b'=true) {t:aK} (h:Sh b t):Sh b' t:=by
 induction h with
 | z e=>exact .z (hb e)
 | con h1 h2=>exact .con h1 h2
 | var h1 h2=>exact .var h1 h2
 | un h _ ih=>exact .un h ih
 | bin h1 h2 _ _ i1 i2=>exact .bin h1 h2 i1 i2
theorem MZ {a b:Int}:0<=wU .u32 a b:=by unfold wU;rw [IntKind.wrap_u32];omega
theorem SO {a b:Int}:0<=wU .u64 a b:=by unfold wU;rw [IntKind.wrap_u64];omega
def uE (x:Int):Prop:=0<=x/\x<=4294967295
theorem uE.wrap (x:Int):uE (IntKind.u32.wrap x):=by unfold uE;rw [IntKind.wrap_u32];omega
theorem uE.z:uE 0:=by unfold uE;omega
theorem uE.i:uE 1:=by unfold uE;omega
theorem uE.m:uE 4294967295:=by unfold uE;omega
theorem uE.div {x y:Int} (h:uE x) (k:0<=y):uE (x / y):=⟨Int.ediv_nonneg h.1 k,Int.le_trans (Int.ediv_le_self _ h.1) h.2⟩
theorem uE.shr {x:Int} (h:uE x) (y:Int):uE (HR .u32 x y):=by
 unfold HR;rw [xfl _ (Int.pow_nonneg (by decide))];exact h.div (Int.pow_nonneg (by decide))
theorem zW (b:Bool):vA b=some (if b=true then 1 else 0):=by unfold vA;cases b <;> rfl
theorem uE.ite (b:Bool):uE (if b=true then 1 else 0):=by unfold uE;cases b <;> decide
theorem rot_tot (a b:Int):bK (lX a b) uE:=by
 unfold lX;refine bK.need SO (bK.need ?_ (.some (.wrap _)));rw [IntKind.wrap_u64];omega
theorem Sb (o:Int) {a b:Int} (ha:uE a):bK (tS o a b) uE:=by
 unfold tS;refine bK.iteb (λ_=>.some (.wrap _)) λ_=>bK.iteb (λ_=>.some (.wrap _)) λ_=>bK.iteb (λ_=>.some (.wrap _)) λ_=>bK.iteb (λ_=>.need MZ (.some (.wrap _))) λ_=>bK.iteb (λ_=>.need MZ (.some (ha.shr _))) λ_=>?_;exact (rot_tot _ _).bind λ_ h=>.some h
theorem uE.tmod {a b:Int} (h:uE a) (k:uE b):uE (a.tmod b):=by
 rw [xfm h.1]
 by_cases hb:b=0
 ·rw [hb,Int.emod_zero];exact h
 ·have:=Int.emod_lt_of_pos a (show 0<b by have:=k.1;omega);exact ⟨Int.emod_nonneg _ hb,by have:=k.2;omega⟩
theorem Qw (o:Int) {a b:Int} (ha:uE a) (hb:uE b):bK (kD o a b) λr=>uE r.1:=by
 unfold kD;rw [zW,zW];refine bK.iteb (λ_=>.some (.ite _)) λ_=>bK.iteb (λ_=>.some (.ite _)) λ_=>bK.iteb (λ_=>.some (.wrap _)) λ_=>bK.iteb (λ_=>.some (.wrap _)) λ_=>bK.iteb (λ_=>.some (.wrap _)) λ_=>bK.iteb (λ_=>?_) λ_=>bK.iteb (λ_=>?_) λ_=>?_
 ·exact bK.iteb (λ_=>.some .z) λh=>bK.need (by simpa using h) (.some (.wrap _))
 ·exact bK.iteb (λ_=>.some .z) λh=>bK.need (by simpa using h) (.some (ha.tmod hb))
 ·exact (Sb _ ha).bind λ_ h=>.some h
def Cn (l:List Int):Prop:=∀x ∈ l,uE x
theorem Cn.nil:Cn []:=λ_ h=>nomatch h
theorem Cn.idx {l:List Int} (h:Cn l) {i:Int} {x:Int} (e:bL l i=some x):uE x:=h _ (by obtain ⟨_,_,e⟩:=bZ e;exact DS e)
theorem Cn.tot {l:List Int} (h:Cn l) {i:Int} (h1:0<=i) (h2:i<l.length):bK (bL l i) uE:=by
 obtain ⟨x,e,_⟩:=bK.idx (l:=l) (Q:=λ_=>True) h1 h2 λ_ _=>trivial;exact ⟨x,e,h.idx e⟩
theorem KB {b:Bool} {t:aK} (h:Sh b t) (hl:t.aO=[]) {ws:List Int} (hw:Cn ws):bK (xA t ws) uE:=by
 unfold xA;cases h with
 | con h1 h2=>exact bK.iteb (λ_=>.some ⟨h1,h2⟩) λh=>nomatch h
 | z e=>
   refine bK.iteb (λh=>absurd h (by decide)) λ_=>bK.iteb (λh=>?_) λ_=>.some .z;have h:=BD h;rw [cT (by decide) (by decide)] at h;exact (hw.tot (Rl _) h).bind λ_ h=>.some h
 | @var k h1 h2=>
   refine bK.iteb (λh=>nomatch h) λ_=>bK.iteb (λh=>?_) λ_=>.some .z;have h:=BD h;rw [cT (show -9223372036854775808<=k by omega) (show k<=9223372036854775807 by omega)] at h;exact (hw.tot h1 h).bind λ_ h=>.some h
 | un=>cases hl
 | bin=>cases hl
theorem OV {b:Bool} {t:aK} (h:Sh b t) {ws:List Int} (hw:Cn ws):∀n,tm t<n->bK (lR n t ws) λr=>uE r.1:=by
 induction h with
 | z e=>
   intro n hn;obtain ⟨m,rfl⟩:∃m,n=m+1:=⟨n - 1,by omega⟩;show bK (lE (lR m) m _ ws) _;unfold lE;rw [if_pos (by rfl)];exact (KB (Sh.z (b:=b) e) rfl hw).bind λ_ h=>.some h
 | con=>
   intro n hn;obtain ⟨m,rfl⟩:∃m,n=m+1:=⟨n - 1,by omega⟩;show bK (lE (lR m) m _ ws) _;unfold lE;rw [if_pos (by rfl)];exact (KB (Sh.con (b:=b) ‹_› ‹_›) rfl hw).bind λ_ h=>.some h
 | var h1 h2=>
   intro n hn;obtain ⟨m,rfl⟩:∃m,n=m+1:=⟨n - 1,by omega⟩;show bK (lE (lR m) m _ ws) _;unfold lE;rw [if_pos (by rfl)];exact (KB (Sh.var (b:=b) h1 h2) rfl hw).bind λ_ h=>.some h
 | @un o x ho hx ih=>
   intro n hn;obtain ⟨m,rfl⟩:∃m,n=m+1:=⟨n - 1,by omega⟩;rw [tm,uY,uY] at hn;show bK (lE (lR m) m _ ws) _;unfold lE;rw [if_neg (by simp)];refine bK.eqn (v:=x) rfl ?_;refine (ih m (by omega)).bind λr hr=>?_;refine bK.eqn (v:=true) (by split <;> rfl) ?_;rw [if_pos rfl,zW,gX];have h1:bK (As o r.1) λ_=>True:=by unfold As;exact bK.iteb (λ_=>.some trivial) λ_=>.some trivial
   exact h1.bind λ_ _=>.some (.wrap _)
 | @bin o x y h1 h2 hx hy i1 i2=>
   intro n hn;obtain ⟨m,rfl⟩:∃m,n=m+1:=⟨n - 1,by omega⟩;rw [tm,uY,uY,uY] at hn;show bK (lE (lR m) m _ ws) _;unfold lE;rw [if_neg (by simp)];refine bK.eqn (v:=x) rfl ?_;refine (i1 m (by omega)).bind λr hr=>?_;refine bK.bind (P:=λ_=>True) (by split <;> exact .some trivial) λc _=>?_;refine bK.iteb (λ_=>?_) λ_=>?_
   ·rw [zW,gX];have h1:bK (As o r.1) λ_=>True:=by unfold As;exact bK.iteb (λ_=>.some trivial) λ_=>.some trivial
    exact h1.bind λ_ _=>.some (.wrap _)
   ·refine bK.eqn (v:=y) rfl ?_;refine (i2 m (by omega)).bind λs hs=>?_;exact bK.iteb (λ_=>.some .z) λ_=>(Qw _ hr hs).bind λ_ h=>.some h
theorem Wb {b:Bool} {t:aK} (h:Sh b t):∀n,tm t+20<n->bK (pK n t) λr=>Sh b r/\tm r<=tm t:=by
 have fin:∀(m:Nat) (c:Bool) (r t:aK),Sh b r->tm r<=tm t->tm r<m->bK (if (!c)=true then some r else (lR m r []).bind λx=>if x.2=true then (Gu x.1).bind λy=>some y else some r) λr=>Sh b r/\tm r<=tm t:=λm c r t h1 h2 h3=>by
  refine bK.iteb (λ_=>.some ⟨h1,h2⟩) λ_=>?_;refine (OV h1 .nil m h3).bind λx hx=>bK.iteb (λ_=>?_) λ_=>.some ⟨h1,h2⟩;exact .some ⟨.con hx.1 hx.2,by rw [tm,uY];have:=TN r;omega⟩
 induction h with
 | z e=>
   intro n hn;rw [tm,uY] at hn;obtain ⟨m,rfl⟩:∃m,n=m+2:=⟨n - 2,by omega⟩;show bK (nH (pK (m+1)) (m+1) _) _;unfold nH pO;rw [if_neg (by decide),gX];exact fin _ _ _ _ (.z e) (sK _) (by rw [tm,uY];omega)
 | con c1 c2=>
   intro n hn;rw [tm,uY] at hn;obtain ⟨m,rfl⟩:∃m,n=m+2:=⟨n - 2,by omega⟩;show bK (nH (pK (m+1)) (m+1) _) _;unfold nH pO;rw [if_neg (by simp),gX];exact fin _ _ _ _ (.con c1 c2) (sK _) (by rw [tm,uY];omega)
 | var h1 h2=>
   intro n hn;rw [tm,uY] at hn;obtain ⟨m,rfl⟩:∃m,n=m+2:=⟨n - 2,by omega⟩;show bK (nH (pK (m+1)) (m+1) _) _;unfold nH pO;rw [if_neg (by simp),gX];exact fin _ _ _ _ (.var h1 h2) (sK _) (by rw [tm,uY];omega)
 | @un o x ho hx ih=>
   intro n hn;rw [tm,uY,uY] at hn;obtain ⟨m,rfl⟩:∃m,n=m+3:=⟨n - 3,by omega⟩;show bK (nH (pK (m+2)) (m+2) _) _;unfold nH;obtain ⟨x',hx',s1,s2⟩:=ih (m+2) (by omega);refine bK.bind (P:=λr=>Sh b r.2/\tm r.2<=1+tm x) ?_ λr hr=>fin _ _ _ _ hr.1 (by rw [tm,uY,uY];omega) (by omega);unfold pO;rw [if_pos (by simp)];refine bK.eqn (v:=x) rfl ?_;rw [hx',gX];refine bK.need (by simp) ?_;refine bK.bind (P:=λ_=>True) (by split <;> exact .some trivial) λc _=>?_;rw [cT (by decide) (by decide)];unfold pO;rw [if_neg (by simp)];exact .some ⟨.un ho s1,by simp only [gK];rw [tm,uY,uY];omega⟩
 | @bin o x y h1 h2 hx hy i1 i2=>
   intro n hn;rw [tm,uY,uY,uY] at hn;obtain ⟨m,rfl⟩:∃m,n=m+4:=⟨n - 4,by omega⟩;show bK (nH (pK (m+3)) (m+3) _) _;unfold nH;obtain ⟨x',hx',s1,s2⟩:=i1 (m+3) (by omega);obtain ⟨y',hy',s3,s4⟩:=i2 (m+3) (by omega);refine bK.bind (P:=λr=>Sh b r.2/\tm r.2<=1+tm x+tm y) ?_ λr hr=>fin _ _ _ _ hr.1 (by rw [tm,uY,uY,uY];omega) (by omega);unfold pO;rw [if_pos (by simp)];refine bK.eqn (v:=x) rfl ?_;rw [hx',gX];refine bK.need (by simp) ?_;refine bK.bind (P:=λ_=>True) (by split <;> exact .some trivial) λc _=>?_;rw [cT (by decide) (by decide)];unfold pO;rw [if_pos (by simp)];refine bK.eqn (v:=y) rfl ?_;rw [hy',gX];refine bK.need (by simp) ?_;refine bK.bind (P:=λ_=>True) (by split <;> exact .some trivial) λc _=>?_;rw [cT (by decide) (by decide)];unfold pO;rw [if_neg (by simp)];exact .some ⟨.bin h1 h2 s1 s3,by simp only [gK,iN];rw [tm,uY,uY,uY];omega⟩
def Oe (a:cF):Int:=((eB.find? λx=>decide (x.IV=a)).map (·.op_)).getD 0
theorem op_l1 {a:cF}:∀(c j:Nat),j<=15->15<j+c->Bt a c (j:Int)=some (match (eB.drop j).find? (λx=>decide (x.IV=a)) with | some x=>.inr x.op_ | none=>.inl ()):=by
 intro c
 induction c with
 | zero=>intro j h1 h2;omega
 | succ c ih=>
   intro j h1 h2;unfold Bt;have hlen:eB.length=15:=by kernel_rfl
   by_cases hj:j<15
   ·rw [if_pos (wP (by omega)),sS (vS (by omega)),gX,Ny (by omega),List.find?_cons];cases hd:decide (eB[j].IV=a) with
    | true=>rw [if_pos rfl]
    | false=>
      rw [if_neg (by decide),cT (by omega) (by omega)];exact ih (j+1) (by omega) (by omega)
   ·rw [if_neg (by rw [xV];omega),Tp (by omega)];rfl
theorem op_eq {n:Nat} (hn:16<=n) (a:cF):By n a=some (Oe a):=by
 unfold By Oe;have:=op_l1 (a:=a) n 0 (by omega) (by omega);rw [iL] at this;rw [show ((0:Nat):Int)=0 from rfl] at this;rw [this,gX];cases eB.find? (λx=>decide (x.IV=a)) <;> rfl
theorem op_two {o:cF} (h:KW o):5<=Oe o/\Oe o<=17:=by
 rcases h with h | h | h | h | h | h | h | h | h | h | h | h | h <;> subst h <;> decide
theorem op_one {o:cF} (h:o=[110,111,116] ∨ o=[110,101,103]):Oe o=3 ∨ Oe o=4:=by
 rcases h with h | h <;> subst h <;> decide
abbrev tz0:aK:=⟨0,0,[]⟩
mutual
def Hc (T:List aK):aF->aK
 | ⟨o,_,n,v,l,_⟩=>if o=[110,117,109] then ⟨1,n,[]⟩ else if o=[118,97,114] then (bL T v).getD tz0 else ⟨Oe o,0,BL T l⟩
def BL (T:List aK):List aF->List aK
 | []=>[]
 | x::l=>Hc T x::BL T l
end
theorem HX {T:List aK} {ty n v a:Int} {l:List aF}:Hc T ⟨[110,117,109],ty,n,v,l,a⟩=⟨1,n,[]⟩:=by rw [Hc,if_pos rfl]
theorem MF {T:List aK} {ty n v a:Int} {l:List aF} {t:aK} (h:bL T v=some t):Hc T ⟨[118,97,114],ty,n,v,l,a⟩=t:=by rw [Hc,if_neg (by decide),if_pos rfl,h];rfl
theorem Dq {T:List aK} {o:cF} {ty n v a:Int} {l:List aF} (h1:o ≠ [110,117,109]) (h2:o ≠ [118,97,114]):Hc T ⟨o,ty,n,v,l,a⟩=⟨Oe o,0,BL T l⟩:=by rw [Hc,if_neg h1,if_neg h2]
theorem Hj {α:Type} {x:α} {l:List α}:bL (x::l) 0=some x:=rfl
theorem PS {α:Type} {x y:α} {l:List α}:bL (x::y::l) (0+1)=some y:=rfl
structure Bg (b:Bool) (vs:List aM) (sc:List Int) (T:List aK):Prop where
 len:T.length=vs.length
 ok:∀v ∈ sc,∀u,bL vs v=some u->u.bS=1->∃t,bL T v=some t/\Sh b t/\tm t<=2000
theorem KW.ne {o:cF} (h:KW o):o ≠ [110,117,109]/\o ≠ [118,97,114]/\o ≠ [105,110,100,101,120]:=by
 rcases h with h | h | h | h | h | h | h | h | h | h | h | h | h <;> subst h <;> decide
theorem Sign1.ne {o:cF} (h:o=[110,111,116] ∨ o=[110,101,103]):o ≠ [110,117,109]/\o ≠ [118,97,114]/\o ≠ [105,110,100,101,120]/\o ≠ [47]/\o ≠ [37]:=by
 rcases h with h | h <;> subst h <;> decide
section
variable {b:Bool} {vs:List aM} {sc:List Int} {c:bQ} {x:aF}
theorem Ko (hT:Bg b vs sc c.bN) (h:Jh vs sc x):Sh b (Hc c.bN x)/\tm (Hc c.bN x)<=2000*xz x:=by
 induction h with
 | num h1 h2=>rw [HX];exact ⟨.con h1 h2,by rw [tm,uY,xz,rL];omega⟩
 | var h1 h2 h3=>
   obtain ⟨t,k1,k2,k3⟩:=hT.ok _ h1 _ h2 h3;rw [MF k1];exact ⟨k2,by rw [xz,rL];exact k3⟩
 | un h _ ih=>
   obtain ⟨n1,n2,_⟩:=Sign1.ne h;rw [Dq n1 n2,BL,BL];exact ⟨.un (op_one h) ih.1,by rw [tm,uY,uY,xz,rL,rL];have:=ih.2;omega⟩
 | bin h _ _ i1 i2=>
   obtain ⟨n1,n2,_⟩:=h.ne;rw [Dq n1 n2,BL,BL,BL];obtain ⟨o1,o2⟩:=op_two h;exact ⟨.bin o1 o2 i1.1 i2.1,by rw [tm,uY,uY,uY,xz,rL,rL,rL];have:=i1.2;have:=i2.2;omega⟩
theorem Up (hT:Bg b vs sc c.bN) (h:Jh vs sc x):∀n,xz x+20<n->iU n c x=some (Hc c.bN x):=by
 induction h with
 | num=>
   intro n hn;obtain ⟨m,rfl⟩:∃m,n=m+1:=⟨n - 1,by omega⟩;show fC (iU m) m c _=_;unfold fC;rw [HX,if_pos (by rfl)];rfl
 | var h1 h2 h3=>
   intro n hn;obtain ⟨m,rfl⟩:∃m,n=m+1:=⟨n - 1,by omega⟩;show fC (iU m) m c _=_;unfold fC;obtain ⟨t,k1,k2,k3⟩:=hT.ok _ h1 _ h2 h3;rw [MF k1,if_neg (by simp),if_pos (by rfl),k1];rfl
 | @un o x a h hx ih=>
   intro n hn;rw [xz,rL,rL] at hn;obtain ⟨m,rfl⟩:∃m,n=m+3:=⟨n - 3,by omega⟩;show fC (iU (m+2)) (m+2) c _=_;unfold fC;obtain ⟨n1,n2,_⟩:=Sign1.ne h;rw [Dq n1 n2,if_neg (by simpa using n1),if_neg (by simpa using n2),op_eq (by omega),gX];unfold jU;rw [if_pos (by simp),Hj,gX,ih _ (by omega),gX,tW (by simp),cT (by decide) (by decide)];unfold jU;rw [if_neg (by simp)];rfl
 | @bin o x y a h hx hy i1 i2=>
   intro n hn;rw [xz,rL,rL,rL] at hn;obtain ⟨m,rfl⟩:∃m,n=m+4:=⟨n - 4,by omega⟩;show fC (iU (m+3)) (m+3) c _=_;unfold fC;obtain ⟨n1,n2,_⟩:=h.ne;rw [Dq n1 n2,if_neg (by simpa using n1),if_neg (by simpa using n2),op_eq (by omega),gX];unfold jU;rw [if_pos (by simp),Hj,gX,i1 _ (by omega),gX,tW (by simp),cT (by decide) (by decide)];unfold jU;rw [if_pos (by simp),PS,gX,i2 _ (by omega),gX,tW (by simp),cT (by decide) (by decide)];unfold jU;rw [if_neg (by simp)];rfl
theorem Rr (hT:Bg b vs sc c.bN) (h:Jh vs sc x) (hb:xz x<=100000000):∀n,xz x+2100<n->iK n c x=some (tm (Hc c.bN x):Int):=by
 induction h with
 | num=>
   intro n hn;obtain ⟨m,rfl⟩:∃m,n=m+2:=⟨n - 2,by omega⟩;show eS (iK (m+1)) (m+1) c _=_;unfold eS gW;rw [HX,if_neg (by simp),if_neg (by simp),tm,uY];rfl
 | var h1 h2 h3=>
   intro n hn;obtain ⟨m,rfl⟩:∃m,n=m+1:=⟨n - 1,by omega⟩;show eS (iK m) m c _=_;unfold eS;obtain ⟨t,k1,k2,k3⟩:=hT.ok _ h1 _ h2 h3;rw [MF k1,if_pos (by rfl),k1,gX,La _ _ (by omega) (by omega)];rfl
 | @un o x a h hx ih=>
   intro n hn;rw [xz,rL,rL] at hn hb;obtain ⟨m,rfl⟩:∃m,n=m+3:=⟨n - 3,by omega⟩;show eS (iK (m+2)) (m+2) c _=_;unfold eS;obtain ⟨n1,n2,_⟩:=Sign1.ne h;have hz:=(Ko hT hx).2;rw [Dq n1 n2,if_neg (by simpa using n2)];unfold gW;rw [if_pos (by simp),Hj,gX,ih (by omega) _ (by omega),gX,cT (n:=(1:Int)+_) (by omega) (by omega),cT (by decide) (by decide)];unfold gW;rw [if_neg (by simp),BL,BL,tm,uY,uY,gX]
   congr 1
 | @bin o x y a h hx hy i1 i2=>
   intro n hn;rw [xz,rL,rL,rL] at hn hb;obtain ⟨m,rfl⟩:∃m,n=m+4:=⟨n - 4,by omega⟩;show eS (iK (m+3)) (m+3) c _=_;unfold eS;obtain ⟨n1,n2,_⟩:=h.ne;have hz:=(Ko hT hx).2;have hz2:=(Ko hT hy).2;rw [Dq n1 n2,if_neg (by simpa using n2)];unfold gW;rw [if_pos (by simp),Hj,gX,i1 (by omega) _ (by omega),gX,cT (n:=(1:Int)+_) (by omega) (by omega),cT (by decide) (by decide)];unfold gW;rw [if_pos (by simp),PS,gX,i2 (by omega) _ (by omega),gX,cT (n:=(1:Int)+_+_) (by omega) (by omega),cT (by decide) (by decide)];unfold gW;rw [if_neg (by simp),BL,BL,BL,tm,uY,uY,uY,gX]
   congr 1;omega
theorem Jh.type (h:Jh vs sc x):x.cL=1:=by cases h <;> rfl
theorem VW (hT:Bg b vs sc c.bN) (h:Jh vs sc x) (hb:xz x<=100000000) {n:Nat} (hn:xz x+2100<n) :
  bK (pL n c x) λr=>(r.2=0/\tm (Hc c.bN x)<=2000/\pK n (Hc c.bN x)=some r.1/\Sh b r.1/\tm r.1<=2000) ∨ (r.2=161/\2000<tm (Hc c.bN x)/\r.1=tz0):=by
 unfold pL;obtain ⟨s1,s2⟩:=Ko hT h;rw [h.type,if_neg (by decide),Rr hT h hb n hn,gX];refine bK.iteb (λh2=>.some (.inr ⟨rfl,by have:=BD h2;omega,rfl⟩)) λh2=>?_;have h2:=Pb h2;rw [Up hT h n (by omega),gX];obtain ⟨r,hr,k1,k2⟩:=Wb s1 n (by omega);rw [hr,gX];exact .some (.inl ⟨rfl,by omega,rfl,k1,by show tm r<=2000;omega⟩)
end
def Er (a b:Int):Prop:=b=a ∨ a=0/\b=161
theorem Er.refl (a:Int):Er a a:=.inl rfl
theorem Er.trans {a b c:Int} (h:Er a b) (k:Er b c):Er a c:=by
 rcases h with rfl | ⟨rfl,rfl⟩
 ·exact k
 ·rcases k with rfl | ⟨h,_⟩
  ·exact .inr ⟨rfl,rfl⟩
  ·cases h
theorem Er.keep {a b:Int} (h:Er a b) (ha:a ≠ 0):b=a:=h.resolve_right λk=>ha k.1
theorem Er.zero {a b:Int} (h:Er a b) (hb:b=0):a=0:=by rcases h with rfl | ⟨h,_⟩;exact hb;exact h
section
variable {b:Bool} {vs:List aM} {sc:List Int} {y:aS} {x:aF}
theorem Mg (hT:Bg b vs sc y.c_.bN) (h:Jh vs sc x) (hb:xz x<=100000000) {n:Nat} (hn:xz x+2100<n) :
  bK (lJ n y x) λr=>r.2.c_=y.c_/\Er y.e_ r.2.e_/\((tm (Hc y.c_.bN x)<=2000/\pK n (Hc y.c_.bN x)=some r.1/\Sh b r.1/\r.2.e_=y.e_) ∨ (2000<tm (Hc y.c_.bN x)/\r.1=tz0/\r.2.e_ ≠ 0))/\tm r.1<=2000:=by
 unfold lJ;refine (VW hT h hb hn).bind λr hr=>?_;have hz:tm tz0<=2000:=by rw [tm,uY];omega
 refine bK.iteb (λh0=>.some ⟨rfl,?_,?_,?_⟩) λh0=>.some ⟨rfl,.inl rfl,?_,?_⟩
 ·have h0:y.e_=0:=by simpa using h0
  rcases hr with ⟨h1,_⟩ | ⟨h1,_⟩
  ·exact .inl (h1.trans h0.symm)
  ·exact .inr ⟨h0,h1⟩
 ·have h0:y.e_=0:=by simpa using h0
  rcases hr with ⟨h1,h2,h3,h4,_⟩ | ⟨h1,h2,h3⟩
  ·exact .inl ⟨h2,h3,h4,h1.trans h0.symm⟩
  ·exact .inr ⟨h2,h3,by show r.2 ≠ 0;rw [h1];decide⟩
 ·rcases hr with ⟨_,_,_,_,h5⟩ | ⟨_,_,h3⟩
  ·exact h5
  ·rw [h3];exact hz
 ·have h0:y.e_ ≠ 0:=by simpa using h0
  rcases hr with ⟨h1,h2,h3,h4,_⟩ | ⟨h1,h2,h3⟩
  ·exact .inl ⟨h2,h3,h4,rfl⟩
  ·exact .inr ⟨h2,h3,h0⟩
 ·rcases hr with ⟨_,_,_,_,h5⟩ | ⟨_,_,h3⟩
  ·exact h5
  ·rw [h3];exact hz
def VX (y r:aS):Prop:=r.c_=y.c_/\Er y.e_ r.e_
theorem VX.refl (y:aS):VX y y:=⟨rfl,.inl rfl⟩
theorem VX.trans {y z r:aS} (h:VX y z) (k:VX z r):VX y r:=⟨k.1.trans h.1,h.2.trans k.2⟩
theorem look_l2 {n:Nat} (hP:∀z ∈ x.aO,Jh vs sc z) (hb:rL x.aO<=100000000) (hn:rL x.aO+2100<n):∀(k v:Nat) (y:aS),Bg b vs sc y.c_.bN->x.aO.length<v+k->v<=x.aO.length->bK (qI n x k (v:Int) y) (VX y):=by
 have hlen:=Aj x.aO;intro k
 induction k with
 | zero=>intro v y hT h1 h2;omega
 | succ k ih=>
   intro v y hT h1 h2;unfold qI;refine bK.iteb (λhv=>?_) λhv=>.some (.refl y);have hv:v<x.aO.length:=by have:=BD hv;omega
   refine bK.eqn (sS (vS hv)) ?_;have hm:=Bj (Mp hv);refine (Mg hT (hP _ (Mp hv)) (by omega) (by omega)).bind λr hr=>?_;rw [cT (by omega) (by omega),show ((v:Int)+1)=((v+1:Nat):Int) by omega];exact (ih (v+1) r.2 (by rw [hr.1];exact hT) (by omega) (by omega)).mono λz hz=>VX.trans ⟨hr.1,hr.2.1⟩ hz
theorem look_l1 {f:aS->aF->Option aS} (hf:∀z ∈ x.aO,∀y:aS,Bg b vs sc y.c_.bN->bK (f y z) (VX y)) (hb:rL x.aO<=100000000):∀(k v:Nat) (y:aS),Bg b vs sc y.c_.bN->x.aO.length<v+k->v<=x.aO.length->bK (qJ f x k (v:Int) y) (VX y):=by
 have hlen:=Aj x.aO;intro k
 induction k with
 | zero=>intro v y hT h1 h2;omega
 | succ k ih=>
   intro v y hT h1 h2;unfold qJ;refine bK.iteb (λhv=>?_) λhv=>.some (.refl y);have hv:v<x.aO.length:=by have:=BD hv;omega
   refine bK.eqn (sS (vS hv)) ?_;refine (hf _ (Mp hv) y hT).bind λr hr=>?_;rw [cT (by omega) (by omega),show ((v:Int)+1)=((v+1:Nat):Int) by omega];exact (ih (v+1) r (by rw [hr.1];exact hT) (by omega) (by omega)).mono λz hz=>hr.trans hz
theorem TX.list (h:TX vs sc x):(∀z ∈ x.aO,TX vs sc z)/\((x.gA=[105,110,100,101,120] ∨ x.gA=[47] ∨ x.gA=[37])->∀z ∈ x.aO,Jh vs sc z):=by
 have one:∀ {P:aF->Prop} {x},P x->∀z ∈ [x],P z:=λh z hz=>by rw [Ak.1 hz];exact h
 have two:∀ {P:aF->Prop} {x y},P x->P y->∀z ∈ [x,y],P z:=λh k z hz=>by
  rcases AQ.1 hz with rfl | hz
  ·exact h
  ·exact one k z hz
 have tri:∀ {P:aF->Prop} {x y u},P x->P y->P u->∀z ∈ [x,y,u],P z:=λh k l z hz=>by
  rcases AQ.1 hz with rfl | hz
  ·exact h
  ·exact two k l z hz
 cases h with
 | num=>exact ⟨λ_ h=>(nomatch h),λ_ _ h=>(nomatch h)⟩
 | var=>exact ⟨λ_ h=>(nomatch h),λ_ _ h=>(nomatch h)⟩
 | index h1 h2 h3 h4 h5 h6=>exact ⟨one h4,λ_=>one (h4.pub h5)⟩
 | un h1 h2=>
   obtain ⟨_,_,n3,n4,n5⟩:=Sign1.ne h1;exact ⟨one h2,λh=>h.elim (λh=>absurd h n3) λh=>h.elim (λh=>absurd h n4) λh=>absurd h n5⟩
 | @bin o x y t a h1 h2 h3=>
   refine ⟨two h1 h2,λh=>?_⟩
   have ho:o=[47] ∨ o=[37]:=by
    rcases h with h | h
    ·exfalso
     have h:o=[105,110,100,101,120]:=h;subst h
     rcases h3 with ⟨h,_⟩ | ⟨h,_⟩ | ⟨h,_⟩ | ⟨h,_⟩ | ⟨h,_⟩
     ·rcases h with h | h <;> exact absurd h (by decide)
     ·rcases h with h | h | h <;> exact absurd h (by decide)
     ·exact absurd h (by decide)
     ·rcases h with h | h <;> exact absurd h (by decide)
     ·rcases h with h | h | h | h | h <;> exact absurd h (by decide)
    ·exact h
   have:x.cL=1/\y.cL=1:=by
    rcases h3 with ⟨_,h4,h5,_⟩ | ⟨h,_⟩ | ⟨h,_⟩ | ⟨h,_⟩ | ⟨h,_⟩
    ·exact ⟨h4,h5⟩
    ·exfalso;rcases ho with rfl | rfl <;> rcases h with h | h | h <;> exact absurd h (by decide)
    ·exfalso;rcases ho with rfl | rfl <;> exact absurd h (by decide)
    ·exfalso;rcases ho with rfl | rfl <;> rcases h with h | h <;> exact absurd h (by decide)
    ·exfalso;rcases ho with rfl | rfl <;> rcases h with h | h | h | h | h <;> exact absurd h (by decide)
   exact two (h1.pub this.1) (h2.pub this.2)
 | sel h1 h2 h3 h4 h5=>exact ⟨tri h1 h2 h3,λh=>by rcases h with h | h | h <;> exact absurd h (by simp only;decide)⟩
 | long h1 h2=>exact ⟨one h1,λh=>by rcases h with h | h | h <;> exact absurd h (by simp only;decide)⟩
 | wide h1 h2 h3 h4=>exact ⟨two h1 h2,λh=>by rcases h with h | h | h <;> exact absurd h (by simp only;decide)⟩
 | half h0 h1 h2=>exact ⟨one h1,λh=>by rcases h0 with rfl | rfl <;> rcases h with h | h | h <;> exact absurd h (by simp only;decide)⟩
theorem UH:∀(n:Nat) (x:aF) (y:aS),TX vs sc x->Bg b vs sc y.c_.bN->xz x<=100000000->xz x+2200<n->bK (lL n y x) (VX y):=by
 intro n
 induction n with
 | zero=>intro x y h hT hb hn;omega
 | succ n ih=>
   intro x y h hT hb hn;show bK (oI (lL n) n y x) _;unfold oI;obtain ⟨l1,l2⟩:=h.list;have he:=BC x;have hlen:=Aj x.aO
   refine (look_l1 (b:=b) (vs:=vs) (sc:=sc) (f:=lL n) (λz hz y hT=>by
    have:=Bj hz;exact ih z y (l1 z hz) hT (by omega) (by omega)) (by omega) n 0 y hT (by omega) (by omega)).bind λr hr=>?_
   refine bK.bind (P:=λc=>c=true->x.gA=[105,110,100,101,120] ∨ x.gA=[47] ∨ x.gA=[37]) ?_ λc hc=>?_
   ·refine bK.iteb (λh=>.some λ_=>.inl (BD h)) λ_=>bK.iteb (λh=>.some λ_=>.inr (.inl (BD h))) λ_=>.some λh=>.inr (.inr (BD h))
   refine bK.iteb (λh=>?_) λh=>.some hr;refine (look_l2 (b:=b) (n:=n) (l2 (hc h)) (by omega) (by omega) n 0 r (by rw [hr.1];exact hT) (by omega) (by omega)).bind λz hz=>.some (hr.trans hz)
end
structure DQ (s:bW):Prop where
 lo:uE s.BY
 hi:uE s.rX
def Jj (s:bW) (x:Int):Prop:=s.BY<=x/\x<=s.rX
theorem DQ.all:DQ ⟨0,4294967295⟩:=⟨.z,.m⟩
theorem Jj.all {x:Int} (h:uE x):Jj ⟨0,4294967295⟩ x:=h
def Bnd (lo hi ws:List Int):Prop:=∀i:Nat,(lo[i]?).getD 0<=(ws[i]?).getD 0/\(ws[i]?).getD 0<=(hi[i]?).getD 4294967295
theorem VD {l:List Int} (hl:Cn l) {k o:Int} (h1:0<=k) (h2:k<=255) (ho:uE o):bK (EE l k o) λr=>uE r/\r=(l[k.toNat]?).getD o:=by
 unfold EE;refine bK.iteb (λh=>?_) λh=>?_
 ·have h:=BD h;rw [cT (by omega) (by omega)] at h;refine bK.bind' (bK.idx h1 h λx hx=>.some ⟨hl _ (DS hx),by rw [hx];rfl⟩)
 ·have h:=Pb h;rw [cT (by omega) (by omega)] at h;exact .some ⟨ho,by rw [Te (by omega)];rfl⟩
section
variable {a b:Int} (ha:uE a) (hb:uE b)
include ha hb
theorem add32:qP a b 0=some ((a+b) % 4294967296,(a+b) / 4294967296):=by
 obtain ⟨a1,a2⟩:=ha;obtain ⟨b1,b2⟩:=hb;unfold qP HR;simp only [IntKind.wrap_u32,IntKind.wrap_u64];have e:min (32:Int).toNat IntKind.u64.bits=32:=rfl;rw [e,xfl _ (by decide)]
 congr 2 <;> omega
theorem mul32:sI a b=some ((a*b) / 4294967296,(a*b) % 4294967296):=by
 obtain ⟨a1,a2⟩:=ha;obtain ⟨b1,b2⟩:=hb;unfold sI HR;simp only [IntKind.wrap_u32,IntKind.wrap_u64];have e:min (32:Int).toNat IntKind.u64.bits=32:=rfl;have h1:0<=a*b:=Int.mul_nonneg a1 b1;have h2:a*b<=4294967295*4294967295:=Int.mul_le_mul a2 b2 b1 (by decide);rw [e,xfl _ (by decide),Int.emod_eq_of_lt a1 (show a<18446744073709551616 by omega),Int.emod_eq_of_lt b1 (show b<18446744073709551616 by omega)]
 generalize a*b=q at *
 congr 2 <;> omega
theorem and32:wU .u32 a b<=a/\wU .u32 a b<=b:=by
 obtain ⟨a1,a2⟩:=ha;obtain ⟨b1,b2⟩:=hb;obtain ⟨x,rfl⟩:=xel a1;obtain ⟨y,rfl⟩:=xel b1;unfold wU;rw [IntKind.wrap_u32,BitVec.toNat_and]
 have e:∀z:Nat,(z:Int)<=4294967295->(BitVec.ofInt IntKind.u32.bits (z:Int)).toNat=z:=λz hz=>by
  show (BitVec.ofInt 32 (z:Int)).toNat=z;rw [BitVec.toNat_ofInt];omega
 rw [e x a2,e y b2];have h1:x &&& y<=x:=Nat.and_le_left;have h2:x &&& y<=y:=Nat.and_le_right;omega
end
theorem divs {a b x y:Int} (h0:0<=a) (h1:a<=x) (h2:0<y) (h3:y<=b):a / b<=x / y:=by
 obtain ⟨a,rfl⟩:=xel h0;obtain ⟨x,rfl⟩:=xel (Int.le_trans h0 h1);obtain ⟨y,rfl⟩:=xel (Int.le_of_lt h2);obtain ⟨b,rfl⟩:=xel (show 0<=b by omega);have:=Nat.div_le_div (a:=a) (b:=x) (c:=b) (d:=y) (by omega) (by omega) (by omega)
 exact_mod_cast this
theorem Mq {x:Int} (h:uE x):IntKind.u32.wrap x=x:=by obtain ⟨h1,h2⟩:=h;rw [IntKind.wrap_u32];omega
theorem Pm {o:Int} (h5:5<=o) (h17:o<=17) {a b:bW} (ha:DQ a) (hb:DQ b):bK (wZ o a b) λs=>DQ s/\∀x y v,uE x->uE y->Jj a x->Jj b y->kD o x y=some (v,true)->Jj s v:=by
 have hw:∀ {x y v:Int},uE x->uE y->kD o x y=some (v,true)->uE v:=λhx hy h=>by
  obtain ⟨r,e,hr⟩:=Qw o hx hy;rw [h] at e;rw [←bU e] at hr;exact hr
 have hall:bK (some (bW.mk 0 4294967295)) λs=>DQ s/\∀x y v,uE x->uE y->Jj a x->Jj b y->kD o x y=some (v,true)->Jj s v:=.some ⟨.all,λx y v hx hy _ _ h=>.all (hw hx hy h)⟩
 have hbool:∀ {c:Bool} {v:Int},some ((if c=true then (1:Int) else 0),true)=some (v,true)->Jj ⟨0,1⟩ v:=λ{c v} h=>by
  have h:=congrArg Prod.fst (bU h);simp only at h;rw [←h];unfold Jj;cases c <;> decide
 obtain ⟨⟨al0,al1⟩,⟨ah0,ah1⟩⟩:=ha;obtain ⟨⟨bl0,bl1⟩,⟨bh0,bh1⟩⟩:=hb;unfold wZ;refine bK.iteb (λh=>?_) λn8=>bK.iteb (λh=>?_) λn9=>bK.iteb (λh=>?_) λn7=>bK.iteb (λh=>?_) λn13=>bK.iteb (λh=>?_) λn14=>bK.iteb (λh=>?_) λn15=>bK.iteb (λh=>?_) λn16=>bK.iteb (λh=>?_) λn17=>bK.iteb (λh=>?_) λ_=>hall
 ·obtain rfl:o=8:=by simpa using h
  refine .some ⟨⟨.z,.i⟩,λx y v _ _ _ _ h=>?_⟩;have e:kD 8 x y=some (if (x == y)=true then 1 else 0,true):=by unfold kD;rw [zW];rfl
  rw [e] at h;exact hbool h
 ·obtain rfl:o=9:=by simpa using h
  refine .some ⟨⟨.z,.i⟩,λx y v _ _ _ _ h=>?_⟩;have e:kD 9 x y=some (if decide (x<y)=true then 1 else 0,true):=by unfold kD;rw [zW,zW];rfl
  rw [e] at h;exact hbool h
 ·obtain rfl:o=7:=by simpa using h
  refine .some ⟨⟨.z,by unfold uE;simp only;omega⟩,λx y v hx hy ⟨i1,i2⟩ ⟨j1,j2⟩ h=>?_⟩;have hv:=hw hx hy h;have e:kD 7 x y=some (wU .u32 x y,true):=rfl;rw [e] at h;have h:=congrArg Prod.fst (bU h);have:=and32 hx hy;unfold Jj;unfold uE at hv;simp only at h ⊢;omega
 ·obtain rfl:o=13:=by simpa using h
  unfold FK;rw [add32 ⟨al0,al1⟩ ⟨bl0,bl1⟩,add32 ⟨ah0,ah1⟩ ⟨bh0,bh1⟩,gX,gX];refine bK.bind (P:=λs=>DQ s/\∀x y v,uE x->uE y->Jj a x->Jj b y->kD 13 x y=some (v,true)->Jj s v) (bK.iteb (λ_=>hall) λh=>.some ⟨⟨?_,?_⟩,λx y v ⟨x0,x1⟩ ⟨y0,y1⟩ ⟨i1,i2⟩ ⟨j1,j2⟩ hv=>?_⟩) λ_ h=>.some h
  ·unfold uE;simp only;omega
  ·unfold uE;simp only;omega
  ·have e:kD 13 x y=some (IntKind.u32.wrap (x+y),true):=rfl;rw [e,IntKind.wrap_u32] at hv;have hv:=congrArg Prod.fst (bU hv);have h:¬ (a.rX+b.rX) / 4294967296=1:=by simpa using h
   unfold Jj;simp only at hv ⊢;omega
 ·obtain rfl:o=14:=by simpa using h
  refine bK.iteb (λh=>.some ⟨⟨.wrap _,.wrap _⟩,λx y v ⟨x0,x1⟩ ⟨y0,y1⟩ ⟨i1,i2⟩ ⟨j1,j2⟩ hv=>?_⟩) λ_=>hall;have h:=BD h;have e:kD 14 x y=some (IntKind.u32.wrap (x - y),true):=rfl;rw [e,IntKind.wrap_u32] at hv;have hv:=congrArg Prod.fst (bU hv);unfold Jj;simp only [IntKind.wrap_u32] at hv ⊢;omega
 ·obtain rfl:o=15:=by simpa using h
  unfold xY;rw [mul32 ⟨ah0,ah1⟩ ⟨bh0,bh1⟩,gX];refine bK.bind (P:=λs=>DQ s/\∀x y v,uE x->uE y->Jj a x->Jj b y->kD 15 x y=some (v,true)->Jj s v) (bK.iteb (λ_=>hall) λh=>.some ⟨⟨.wrap _,?_⟩,λx y v ⟨x0,x1⟩ ⟨y0,y1⟩ ⟨i1,i2⟩ ⟨j1,j2⟩ hv=>?_⟩) λ_ h=>.some h
  ·unfold uE;simp only;omega
  ·have e:kD 15 x y=some (IntKind.u32.wrap (x*y),true):=rfl;rw [e,IntKind.wrap_u32] at hv;have hv:=congrArg Prod.fst (bU hv);have h:=Pb h;have m1:a.BY*b.BY<=x*y:=Int.mul_le_mul i1 j1 bl0 x0;have m2:x*y<=a.rX*b.rX:=Int.mul_le_mul i2 j2 y0 ah0;have m3:0<=a.BY*b.BY:=Int.mul_nonneg al0 bl0;unfold Jj;simp only [IntKind.wrap_u32] at h hv ⊢
   generalize a.BY*b.BY=p at *
   generalize x*y=q at *
   generalize a.rX*b.rX=r at *
   omega
 ·obtain rfl:o=16:=by simpa using h
  refine bK.need (by omega) (bK.need (by omega) (.some ⟨⟨.wrap _,.wrap _⟩,λx y v ⟨x0,x1⟩ ⟨y0,y1⟩ ⟨i1,i2⟩ ⟨j1,j2⟩ hv=>?_⟩));have hy:y ≠ 0:=λh=>by subst h;exact absurd (congrArg Prod.snd (bU hv)) (by simp)
  have e:kD 16 x y=some (IntKind.u32.wrap (x.tdiv y),true):=by
   unfold kD;rw [if_neg (by decide),if_neg (by decide),if_neg (by decide),if_neg (by decide),if_neg (by decide),if_pos (by decide),if_neg (by simpa using hy),tW hy]
  rw [e] at hv;have hv:=congrArg Prod.fst (bU hv);simp only at hv;have w1:uE (x / y):=uE.div ⟨x0,x1⟩ y0;have w2:uE (a.BY / max b.rX 1):=uE.div ⟨al0,al1⟩ (by omega);have w3:uE (a.rX / max b.BY 1):=uE.div ⟨ah0,ah1⟩ (by omega);unfold Jj;simp only [Int.tdiv_eq_ediv_of_nonneg x0,Int.tdiv_eq_ediv_of_nonneg al0,Int.tdiv_eq_ediv_of_nonneg ah0] at hv ⊢;rw [Mq w1] at hv;rw [Mq w2,Mq w3,←hv];exact ⟨divs al0 i1 (by omega) (by omega),divs x0 i2 (by omega) (by omega)⟩
 ·obtain rfl:o=17:=by simpa using h
  have h1:IntKind.u32.wrap (max b.rX 1 - 1)=max b.rX 1 - 1:=Mq (by unfold uE;omega);rw [h1];refine .some ⟨⟨.z,by unfold uE;simp only;omega⟩,λx y v ⟨x0,x1⟩ ⟨y0,y1⟩ ⟨i1,i2⟩ ⟨j1,j2⟩ hv=>?_⟩;have hy:y ≠ 0:=λh=>by subst h;exact absurd (congrArg Prod.snd (bU hv)) (by simp)
  have e:kD 17 x y=some (x.tmod y,true):=by
   unfold kD;rw [if_neg (by decide),if_neg (by decide),if_neg (by decide),if_neg (by decide),if_neg (by decide),if_neg (by decide),if_pos (by decide),if_neg (by simpa using hy),tW hy]
  rw [e,xfm x0] at hv;have hv:=congrArg Prod.fst (bU hv);have m1:=Int.emod_nonneg x hy;have m2:=Int.emod_lt_of_pos x (show 0<y by omega)
  have m3:x % y<=x:=by
   obtain ⟨x',rfl⟩:=xel x0;obtain ⟨y',rfl⟩:=xel y0
   exact_mod_cast Nat.mod_le x' y'
  unfold Jj;simp only at hv ⊢;omega
 ·obtain rfl:o=11:=by simpa using h
  refine .some ⟨⟨.z,ah0,ah1⟩,λx y v hx hy ⟨i1,i2⟩ ⟨j1,j2⟩ h=>?_⟩;have hv:=hw hx hy h
  have e:kD 11 x y=some (HR .u32 x (wU .u32 y 31),true):=by
   show (tS 11 x y).bind (λx16=>some (x16,true))=_
   have:tS 11 x y=some (HR .u32 x (wU .u32 y 31)):=by
    unfold tS;rw [if_neg (by decide),if_neg (by decide),if_neg (by decide),if_neg (by decide),if_pos (by decide),tW MZ]
   rw [this];rfl
  rw [e] at h;have h:=congrArg Prod.fst (bU h)
  have:HR .u32 x (wU .u32 y 31)<=x:=by
   unfold HR;rw [xfl _ (Int.pow_nonneg (by decide))];exact Int.ediv_le_self _ hx.1
  unfold Jj;unfold uE at hv;simp only at h ⊢;omega
theorem Vf {n:Nat} {o:Int} {x y:aK} {ws:List Int} {v:Int} (h:lR (n+1) ⟨o,0,[x,y]⟩ ws=some (v,true)):∃a b,lR n x ws=some (a,true)/\lR n y ws=some (b,true)/\kD o a b=some (v,true):=by
 have h:lE (lR n) n ⟨o,0,[x,y]⟩ ws=some (v,true):=h;unfold lE at h;rw [if_neg (by simp),Hj,gX] at h;obtain ⟨r,hr,h⟩:=aI h;cases h2:r.2 with
 | false=>
   rw [h2,if_pos (by rfl),gX,if_pos rfl] at h;obtain ⟨_,_,h⟩:=aI h;obtain ⟨_,_,h⟩:=aI h;exact absurd (congrArg Prod.snd (bU h)) (by simp)
 | true=>
   rw [h2,if_neg (by decide),gX,if_neg (by simp)] at h;obtain ⟨y',hy,h⟩:=aI h;obtain rfl:y=y':=bU hy;obtain ⟨s,hs,h⟩:=aI h;cases h3:s.2 with
   | false=>
     rw [h3,if_pos (by rfl)] at h;exact absurd (congrArg Prod.snd (bU h)) (by simp)
   | true=>
     rw [h3,if_neg (by decide)] at h;obtain ⟨z,hz,h⟩:=aI h;exact ⟨r.1,s.1,by rw [hr,←h2],by rw [hs,←h3],by rw [hz,←h]⟩
theorem TM {t:aK} (h:Sh false t) {lo hi:List Int} (hl:Cn lo) (hh:Cn hi):∀n,tm t<n->bK (tR n t lo hi) λs=>DQ s/\∀ws m v,Cn ws->Bnd lo hi ws->tm t<m->lR m t ws=some (v,true)->Jj s v:=by
 have hev:∀ {t:aK} {ws m v},Sh false t->Cn ws->tm t<m->lR m t ws=some (v,true)->uE v:=λht hw hm h=>by
  obtain ⟨r,e,hr⟩:=OV ht hw _ hm;rw [h] at e;rw [←bU e] at hr;exact hr
 induction h with
 | z e=>cases e
 | @con v c1 c2=>
   intro n hn;obtain ⟨m,rfl⟩:∃m,n=m+1:=⟨n - 1,by omega⟩;show bK (nW (tR m) m _ lo hi) _;unfold nW;refine bK.iteb (λ_=>.some ⟨⟨⟨c1,c2⟩,c1,c2⟩,λws k w _ _ hk h=>?_⟩) λh=>nomatch h;obtain ⟨k,rfl⟩:∃j,k=j+1:=⟨k - 1,by omega⟩;have h:some ((v,true):Int × Bool)=some (w,true):=h;have h:=congrArg Prod.fst (bU h);simp only at h;subst h;exact ⟨Rl _,Rl _⟩
 | @var q h1 h2=>
   intro n hn;obtain ⟨m,rfl⟩:∃m,n=m+1:=⟨n - 1,by omega⟩;show bK (nW (tR m) m _ lo hi) _;unfold nW;refine bK.iteb (λh=>nomatch h) λ_=>bK.iteb (λ_=>?_) λh=>nomatch h;refine (VD hl h1 h2 .z).bind λl ⟨l1,l2⟩=>(VD hh h1 h2 .m).bind λu ⟨u1,u2⟩=>.some ⟨⟨l1,u1⟩,λws k w hws hb hk h=>?_⟩;obtain ⟨k,rfl⟩:∃j,k=j+1:=⟨k - 1,by omega⟩;have h:(xA ⟨2,q,[]⟩ ws).bind (λx=>some (x,true))=some (w,true):=h;obtain ⟨x,hx,h⟩:=aI h;have h:=congrArg Prod.fst (bU h);simp only at h;subst h
   have e:x=(ws[q.toNat]?).getD 0:=by
    unfold xA at hx;rw [if_neg (by simp),cT (show -9223372036854775808<=q by omega) (show q<=9223372036854775807 by omega)] at hx
    by_cases hlt:q<(ws.length:Int)
    ·rw [if_pos (wP hlt)] at hx;obtain ⟨y,hy,hx⟩:=aI hx;obtain rfl:=bU hx;obtain ⟨_,_,hy⟩:=bZ hy;rw [hy];rfl
    ·rw [if_neg (by rw [xV];exact hlt)] at hx;rw [←bU hx,Te (by omega)];rfl
   have:=hb q.toNat;unfold Jj;rw [e,l2,u2];exact this
 | @un o x ho hx ih=>
   intro n hn;obtain ⟨m,rfl⟩:∃m,n=m+1:=⟨n - 1,by omega⟩;show bK (nW (tR m) m _ lo hi) _;unfold nW;have fin:bK (some (bW.mk 0 4294967295)) λs=>DQ s/\∀ws m v,Cn ws->Bnd lo hi ws->tm (⟨o,0,[x]⟩:aK)<m->lR m ⟨o,0,[x]⟩ ws=some (v,true)->Jj s v:=.some ⟨.all,λws k v hws _ hk h=>.all (hev (.un ho hx) hws hk h)⟩
   rcases ho with rfl | rfl
   ·exact bK.iteb (λh=>nomatch h) λ_=>bK.iteb (λh=>nomatch h) λ_=>bK.iteb (λ_=>fin) λh=>nomatch h
   ·exact bK.iteb (λh=>nomatch h) λ_=>bK.iteb (λh=>nomatch h) λ_=>bK.iteb (λh=>nomatch h) λ_=>bK.iteb (λ_=>fin) λh=>nomatch h
 | @bin o x y h1 h2 hx hy i1 i2=>
   intro n hn;obtain ⟨m,rfl⟩:∃m,n=m+1:=⟨n - 1,by omega⟩;have hz:tm (⟨o,0,[x,y]⟩:aK)=1+(tm x+(tm y+0)):=by rw [tm,uY,uY,uY]
   rw [hz] at hn;show bK (nW (tR m) m _ lo hi) _;unfold nW;refine bK.iteb (λh=>?_) λ_=>bK.iteb (λh=>?_) λ_=>bK.iteb (λh=>?_) λ_=>bK.iteb (λh=>?_) λ_=>?_
   ·exfalso;have h:o=1:=by simpa using h
    omega
   ·exfalso;have h:o=2:=by simpa using h
    omega
   ·exfalso;have h:o=3:=by simpa using h
    omega
   ·exfalso;have h:o=4:=by simpa using h
    omega
   refine bK.eqn Hj ((i1 m (by omega)).bind λa ⟨a1,a2⟩=>bK.eqn PS ((i2 m (by omega)).bind λb ⟨b1,b2⟩=>(Pm h1 h2 a1 b1).bind λs ⟨s1,s2⟩=>.some ⟨s1,λws k v hws hb hk h=>?_⟩));obtain ⟨k,rfl⟩:∃j,k=j+1:=⟨k - 1,by omega⟩;rw [hz] at hk;obtain ⟨p,q,e1,e2,e3⟩:=Vf h;exact s2 p q v (hev hx hws (by omega) e1) (hev hy hws (by omega) e2) (a2 ws k p hws hb (by omega) e1) (b2 ws k q hws hb (by omega) e2) e3
section
variable {vs:List aM} {sc:List Int} {c:bQ} {x:aF}
theorem NJ (hT:Bg false vs sc c.bN) (h:Jh vs sc x) (hb:xz x<=100000000) (hl:Cn c.sZ) (hh:Cn c.nD) {n:Nat} (hn:xz x+2100<n):bK (gS n c x) λr=>gS n c x=some r/\uE r.1/\uE r.2:=by
 have key:bK (gS n c x) λr=>uE r.1/\uE r.2:=by
  unfold gS;refine (VW hT h hb hn).bind λr hr=>bK.iteb (λ_=>.some ⟨.z,.m⟩) λhe=>?_
  rcases hr with ⟨_,_,_,h4,h5⟩ | ⟨h1,_⟩
  ·unfold BG;refine bK.bind (P:=λr=>uE r.1/\uE r.2) ?_ λ_ h=>.some h;exact (TM h4 hl hh n (by omega)).bind λs hs=>.some ⟨hs.1.lo,hs.1.hi⟩
  ·rw [h1] at he;cases he
 obtain ⟨r,hr,hw⟩:=key;exact ⟨r,hr,hr,hw⟩
end
def eb (e:Int):Bool:=!(e == 0)
theorem Bv {e:Int}:eb e=false ↔ e=0:=by unfold eb;simp
theorem Vh {e:Int}:eb e=true ↔ e ≠ 0:=by unfold eb;simp
theorem Bg.mono {b b':Bool} {vs:List aM} {sc sc':List Int} {T:List aK} (h:Bg b vs sc T) (hb:b=true->b'=true) (hs:∀v ∈ sc',v ∈ sc):Bg b' vs sc' T:=
 ⟨h.len,λv hv u hu hk=>by obtain ⟨t,h1,h2,h3⟩:=h.ok v (hs v hv) u hu hk;exact ⟨t,h1,h2.mono hb,h3⟩⟩
theorem Er.eb {a b:Int} (h:Er a b):eb a=true->eb b=true:=λe=>by rw [h.keep (Vh.1 e)];exact e
theorem Cb {α:Type} {l:List α} {i j:Int} {x t:α} (hj:bL l j=some t):(i.toNat=j.toNat/\0<=i->bL (l.set i.toNat x) j=some x)/\(i.toNat ≠ j.toNat->bL (l.set i.toNat x) j=some t):=by
 unfold bL at hj ⊢
 split at hj
 ·rename_i h0;have hlt:=(vL.1 hj).1;refine ⟨λh=>?_,λh=>?_⟩
  ·rw [if_pos h0,h.1,Qu hlt]
  ·rw [if_pos h0,Pj h];exact hj
 ·cases hj
theorem Bg.set {b:Bool} {vs:List aM} {sc:List Int} {T:List aK} (h:Bg b vs sc T) {i:Int} {t:aK} (hi:0<=i) (ht:Sh b t) (hz:tm t<=2000):Bg b vs sc (T.set i.toNat t):=
 ⟨by rw [rR];exact h.len,λv hv u hu hk=>by
  obtain ⟨s,h1,h2,h3⟩:=h.ok v hv u hu hk
  by_cases e:i.toNat=v.toNat
  ·exact ⟨t,(Cb h1).1 ⟨e,hi⟩,ht,hz⟩
  ·exact ⟨s,(Cb h1).2 e,h2,h3⟩⟩
theorem AF {α:Type} {l:List α} {i:Int} {x:α} (h:bL l i=some x):0<=i/\i<(l.length:Int):=by obtain ⟨h1,h2,_⟩:=bZ h;exact ⟨h1,h2⟩
theorem Bg.snoc {b:Bool} {vs:List aM} {sc:List Int} {T:List aK} (h:Bg b vs sc T) {i:Int} {t:aK} {u:aM} (hu:bL vs i=some u) (ht:Sh b t) (hz:tm t<=2000):Bg b vs (sc++[i]) (T.set i.toNat t):=by
 obtain ⟨h0,h1⟩:=AF hu;have h2:=h.set h0 ht hz;refine ⟨h2.len,λv hv u' hu' hk=>?_⟩
 rcases zU.1 hv with hv | hv
 ·exact h2.ok v hv u' hu' hk
 ·obtain rfl:=Ak.1 hv;refine ⟨t,?_,ht,hz⟩;have hl:=h.len;obtain ⟨s,hs,_⟩:=bK.idx (l:=T) (Q:=λ_=>True) h0 (by omega) λ_ _=>trivial;exact (Cb hs).1 ⟨rfl,h0⟩
theorem Bg.more {b:Bool} {vs:List aM} {sc:List Int} {T:List aK} (h:Bg b vs sc T) {i:Int} {u:aM} (hu:bL vs i=some u) (hk:u.bS ≠ 1):Bg b vs (sc++[i]) T:=
 ⟨h.len,λv hv u' hu' hk'=>by
  rcases zU.1 hv with hv | hv
  ·exact h.ok v hv u' hu' hk'
  ·obtain rfl:=Ak.1 hv;rw [hu] at hu';cases hu';exact absurd hk' hk⟩
def Dec (s:aB) (i:Nat):Prop:=s.gA=[108,101,116] ∨ s.gA=[105,102] ∨ s.gA=[102,111,114] ∨ (s.gA=[112,117,116]/\i=0)
structure L2R (vs:List aM) (sc:List Int) (n:Nat) (s:aB) (v:Nat) (y r:aS):Prop where
 e:Er y.e_ r.e_
 c:r.c_={ y.c_ with bN:=r.c_.bN }
 ok:Bg (eb r.e_) vs sc r.c_.bN
 no:s.gA ≠ [108,101,116]->r.c_.bN=y.c_.bN
 go:s.gA=[108,101,116]->v<s.aO.length->∃x t,s.aO[v]? = some x/\r.c_.bN=y.c_.bN.set s.fF.toNat t/\tm t<=2000/\Sh (eb r.e_) t/\(r.e_=0->tm (Hc y.c_.bN x)<=2000/\pK n (Hc y.c_.bN x)=some t)
 un:s.gA=[108,101,116]->¬ v<s.aO.length->r.c_.bN=y.c_.bN
 px:r.e_=0->∀i x,v<=i->s.aO[i]? = some x->Dec s i->Jh vs sc x/\tm (Hc y.c_.bN x)<=2000
theorem VB {vs:List aM} {sc:List Int} {n:Nat} {s:aB} (hx:∀z ∈ s.aO,TX vs sc z) (hp:∀(i:Nat) z,s.aO[i]? = some z->Dec s i->Jh vs sc z) (hv:s.gA=[108,101,116]->s.aO.length=1/\∃u,bL vs s.fF=some u) (hb:rL s.aO<=100000000) (hn:rL s.aO+2300<n) :
  ∀(k v:Nat) (y:aS),Bg (eb y.e_) vs sc y.c_.bN->s.aO.length<v+k->v<=s.aO.length->bK (mU n s k (v:Int) y) (L2R vs sc n s v y):=by
 have hlen:=Aj s.aO;intro k
 induction k with
 | zero=>intro v y hT h1 h2;omega
 | succ k ih=>
   intro v y hT h1 h2;unfold mU;refine bK.iteb (λh=>?_) λh=>?_
   rotate_left
   ·have hge:s.aO.length<=v:=by have:=Pb h;omega
    exact .some ⟨.refl _,rfl,hT,λ_=>rfl,λ_ h=>absurd h (by omega),λ_ _=>rfl,λ_ i x hi hx=>by rw [Te (by omega)] at hx;cases hx⟩
   have hlt:v<s.aO.length:=by have:=BD h;omega
   have hg:=vS hlt;have hm:=Mp hlt;have hz:=Bj hm;have hstep:IntKind.i64.wrap ((v:Int)+1)=((v+1:Nat):Int):=by rw [cT (by omega) (by omega)];omega
   rw [hstep];refine bK.bind (P:=λr=>Er y.e_ r.e_/\r.c_={ y.c_ with bN:=r.c_.bN }/\Bg (eb r.e_) vs sc r.c_.bN/\(s.gA ≠ [108,101,116]->r.c_.bN=y.c_.bN)/\(s.gA=[108,101,116]->∃t,r.c_.bN=y.c_.bN.set s.fF.toNat t/\tm t<=2000/\Sh (eb r.e_) t/\(r.e_=0->tm (Hc y.c_.bN s.aO[v])<=2000/\pK n (Hc y.c_.bN s.aO[v])=some t))/\(r.e_=0->Dec s v->Jh vs sc s.aO[v]/\tm (Hc y.c_.bN s.aO[v])<=2000)) ?_ λr hr=>?_
   ·refine bK.eqn (sS hg) ?_;refine (UH n _ y (hx _ hm) hT (by omega) (by omega)).bind λa ha=>?_;refine bK.bind (P:=λd=>d=true ↔ Dec s v) ?_ λd hd=>?_
    ·unfold Dec;refine bK.iteb (λh=>.some ⟨λ_=>.inl (BD h),λ_=>rfl⟩) λg1=>bK.iteb (λh=>.some ⟨λ_=>.inr (.inl (BD h)),λ_=>rfl⟩) λg2=>bK.iteb (λh=>.some ⟨λ_=>.inr (.inr (.inl (BD h))),λ_=>rfl⟩) λg3=>?_;have g1:=Pb g1;have g2:=Pb g2;have g3:=Pb g3;refine bK.iteb (λh=>.some ⟨λhv=>.inr (.inr (.inr ⟨BD h,by have:(v:Int)=0:=(by simpa using hv);omega⟩)),λhv=>?_⟩) λg4=>.some ⟨λh=>(nomatch h),λhv=>?_⟩
     ·rcases hv with h | h | h | ⟨_,h⟩
      ·exact absurd h g1
      ·exact absurd h g2
      ·exact absurd h g3
      ·subst h;rfl
     ·have g4:=Pb g4
      rcases hv with h | h | h | ⟨h,_⟩
      ·exact absurd h g1
      ·exact absurd h g2
      ·exact absurd h g3
      ·exact absurd h g4
    have hTa:Bg (eb y.e_) vs sc a.c_.bN:=by rw [ha.1];exact hT
    refine bK.iteb (λhd1=>?_) λhd0=>?_
    ·have hdec:=hd.1 hd1;have hpx:=hp v _ hg hdec;refine (Mg hTa hpx (by omega) (by omega)).bind λw hw=>?_;obtain ⟨w1,w2,w3,w4⟩:=hw;have hew:=ha.2.trans w2;have hwc:w.2.c_=y.c_:=w1.trans ha.1
     have hpl:w.2.e_=0->tm (Hc y.c_.bN s.aO[v])<=2000/\pK n (Hc y.c_.bN s.aO[v])=some w.1/\Sh (eb y.e_) w.1:=λh0=>by
      rcases w3 with ⟨h1,h2,h3,_⟩ | ⟨_,_,h3⟩
      ·rw [ha.1] at h1 h2;exact ⟨h1,h2,h3⟩
      ·exact absurd h0 h3
     refine bK.iteb (λhl=>?_) λhl=>?_
     ·have hl:=BD hl;obtain ⟨_,u,hu⟩:=hv hl;obtain ⟨h0,hu1⟩:=AF hu;refine (bK.idx (Q:=λ_=>True) h0 (by rw [hwc,hT.len];exact hu1) λ_ _=>trivial).bind λ_ _=>?_
      have hsh:Sh (eb w.2.e_) w.1:=by
       rcases w3 with ⟨_,_,h3,_⟩ | ⟨_,h2,h3⟩
       ·exact h3.mono hew.eb
       ·rw [h2];exact .z (Vh.2 h3)
      refine .some ⟨hew,by simp only [hwc],?_,λh=>absurd hl h,λ_=>⟨w.1,by simp only [hwc],w4,hsh,λh=>⟨(hpl h).1,(hpl h).2.1⟩⟩,λh _=>⟨hpx,(hpl h).1⟩⟩;simp only [hwc];exact (hT.mono hew.eb λ_ h=>h).set h0 hsh w4
     ·have hl:=Pb hl;exact .some ⟨hew,by rw [hwc],by rw [hwc];exact hT.mono hew.eb λ_ h=>h,λ_=>by rw [hwc],λh=>absurd h hl,λh _=>⟨hpx,(hpl h).1⟩⟩
    ·have hnd:¬ Dec s v:=λh=>by rw [hd.2 h] at hd0;cases hd0
     exact .some ⟨ha.2,by rw [ha.1],by rw [ha.1];exact hT.mono ha.2.eb λ_ h=>h,λ_=>by rw [ha.1],λh=>absurd (.inl h) hnd,λ_ h=>absurd h hnd⟩
   ·obtain ⟨r1,r2,r3,r4,r5,r6⟩:=hr;refine (ih (v+1) r r3 (by omega) (by omega)).mono λz hz=>⟨r1.trans hz.e,by rw [hz.c,r2],hz.ok,λh=>(hz.no h).trans (r4 h),λh _=>?_,λh h'=>absurd hlt h',λh0 i x hi hxi hd=>?_⟩
    ·have hl1:=(hv h).1;have hT2:=hz.un h (by omega);obtain ⟨t,q1,q2,q3,q4⟩:=r5 h;exact ⟨_,t,hg,by rw [hT2,q1],q2,q3.mono hz.e.eb,λh0=>q4 (hz.e.zero h0)⟩
    ·have hr0:=hz.e.zero h0
     rcases xeh v i with hlt2 | hge
     ·have hnl:s.gA ≠ [108,101,116]:=λh=>by
       have:=(hv h).1;have:=(vL.1 hxi).1;omega
      obtain ⟨k1,k2⟩:=hz.px h0 i x hlt2 hxi hd;rw [r4 hnl] at k2;exact ⟨k1,k2⟩
     ·obtain rfl:i=v:=by omega
      rw [hg] at hxi;cases hxi
      exact r6 hr0 hd
def OJ (s:aB):List aF:=if s.gA=[108,101,116] ∨ s.gA=[105,102] ∨ s.gA=[102,111,114] then s.aO else if s.gA=[112,117,116] then s.aO.take 1 else []
def ID (s:aB):List Int:=if s.gA=[102,111,114] then [s.fF] else []
def Li (s:aB):List Int:=if s.gA=[102,111,114] ∨ s.gA=[108,101,116] then [s.fF] else []
mutual
def frS:aB->List Int
 | ⟨o,v,f,l,b,e,a⟩=>ID ⟨o,v,f,l,b,e,a⟩++(uW b++uW e)
def uW:List aB->List Int
 | []=>[]
 | s::l=>frS s++uW l
end
mutual
def dvS:aB->List Int
 | ⟨o,v,f,l,b,e,a⟩=>Li ⟨o,v,f,l,b,e,a⟩++(Be b++Be e)
def Be:List aB->List Int
 | []=>[]
 | s::l=>dvS s++Be l
end
mutual
def pbS:aB->List aF
 | ⟨o,v,f,l,b,e,a⟩=>OJ ⟨o,v,f,l,b,e,a⟩++(Nt b++Nt e)
def Nt:List aB->List aF
 | []=>[]
 | s::l=>pbS s++Nt l
end
theorem MQ (s:aB):frS s=ID s++(uW s.bO++uW s.fE):=by cases s;rw [frS]
theorem MS (s:aB):dvS s=Li s++(Be s.bO++Be s.fE):=by cases s;rw [dvS]
theorem pbS_eq (s:aB):pbS s=OJ s++(Nt s.bO++Nt s.fE):=by cases s;rw [pbS]
inductive PV (L:List Int):aF->Prop
 | num {n a}:PV L ⟨[110,117,109],1,n,-1,[],a⟩
 | var {v a}:v ∈ L->PV L ⟨[118,97,114],1,0,v,[],a⟩
 | un {o x a}:(o=[110,111,116] ∨ o=[110,101,103])->PV L x->PV L ⟨o,1,0,-1,[x],a⟩
 | bin {o x y a}:KW o->PV L x->PV L y->PV L ⟨o,1,0,-1,[x,y],a⟩
theorem Jh.pv {vs:List aM} {sc pl:List Int} (hc:∀v ∈ sc,∀u,bL vs v=some u->u.bS=1->v ∈ pl) {x:aF} (h:Jh vs sc x):PV pl x:=by
 induction h with
 | num=>exact .num
 | var h1 h2 h3=>exact .var (hc _ h1 _ h2 h3)
 | un h _ ih=>exact .un h ih
 | bin h _ _ i1 i2=>exact .bin h i1 i2
theorem PV.mono {L L':List Int} (hl:∀v ∈ L,v ∈ L') {x:aF} (h:PV L x):PV L' x:=by
 induction h with
 | num=>exact .num
 | var h=>exact .var (hl _ h)
 | un h _ ih=>exact .un h ih
 | bin h _ _ i1 i2=>exact .bin h i1 i2
theorem NY {T:List aK} {ty n v a:Int} {l:List aF}:Hc T ⟨[118,97,114],ty,n,v,l,a⟩=(bL T v).getD tz0:=by rw [Hc,if_neg (by decide),if_pos rfl]
theorem PV.plx {L:List Int} {T T':List aK} (hl:∀v ∈ L,bL T' v=bL T v) {x:aF} (h:PV L x):Hc T' x=Hc T x:=by
 induction h with
 | num=>rw [HX,HX]
 | @var v a h=>
   rw [NY,NY,hl _ h]
 | un h _ ih=>
   obtain ⟨n1,n2,_⟩:=Sign1.ne h;rw [Dq n1 n2,Dq n1 n2,BL,BL,BL,BL,ih]
 | bin h _ _ i1 i2=>
   obtain ⟨n1,n2,_⟩:=h.ne;rw [Dq n1 n2,Dq n1 n2,BL,BL,BL,BL,BL,BL,i1,i2]
def QX (T:List aK) (L:List Int) (x:aF):Prop:=PV L x/\Sh false (Hc T x)/\tm (Hc T x)<=2000/\xz x<=50000000
theorem QX.mono {T T':List aK} {L L':List Int} {x:aF} (h:QX T L x) (hl:∀v ∈ L,v ∈ L') (ht:∀v ∈ L,bL T' v=bL T v):QX T' L' x:=by
 obtain ⟨h1,h2,h3,h4⟩:=h;refine ⟨h1.mono hl,?_,?_,h4⟩
 ·rw [h1.plx ht];exact h2
 ·rw [h1.plx ht];exact h3
def WL (y:aS):Prop:=Cn y.c_.sZ/\Cn y.c_.nD
theorem Cn.snoc {l:List Int} {x:Int} (h:Cn l) (k:uE x):Cn (l++[x]):=λy hy=>by
 rcases zU.1 hy with hy | hy
 ·exact h y hy
 ·rw [Ak.1 hy];exact k
def DOk (pl dv:List Int):Prop:=dv.Nodup/\∀v ∈ dv,v ∉ pl/\0<=v
structure Tn (pl dv fr:List Int) (pb:List aF) (y r:aS):Prop where
 fors:r.c_.gM=y.c_.gM++fr
 low:r.c_.sZ.length=y.c_.sZ.length+fr.length
 high:r.c_.nD.length=y.c_.nD.length+fr.length
 un:∀v,0<=v->v ∉ dv->bL r.c_.bN v=bL y.c_.bN v
 sub:∀v ∈ fr,v ∈ dv
 nn:∀v ∈ dv,0<=v
 w:WL y->WL r
 ok:DOk pl dv->(∀v ∈ pl,0<=v)->(∀v ∈ dv,∃t,bL r.c_.bN v=some t/\Sh false t/\tm t<=2000)/\(∀(k:Nat) v,fr[k]? = some v->bL r.c_.bN v=some ⟨2,((4+y.c_.gM.length+k:Nat):Int),[]⟩)/\∀x ∈ pb,QX r.c_.bN (pl++dv) x
theorem Tn.refl (pl:List Int) (y:aS):Tn pl [] [] [] y y:=
 ⟨(iD _).symm,rfl,rfl,λ_ _ _=>rfl,λ_ h=>h,λ_ h=>(nomatch h),λh=>h,λ_ _=>⟨λ_ h=>(nomatch h),λk v h=>(nomatch h),λ_ h=>(nomatch h)⟩⟩
theorem Tn.app {pl pl2 dv dv2 fr fr2:List Int} {pb pb2:List aF} {y d r:aS} (h:Tn pl dv fr pb y d) (k:Tn pl2 dv2 fr2 pb2 d r) (hp:∀v ∈ pl2,v ∈ pl ∨ v ∈ dv):Tn pl (dv++dv2) (fr++fr2) (pb++pb2) y r:=by
 refine ⟨by rw [k.fors,h.fors,Hv],by rw [k.low,h.low,mA];omega,by rw [k.high,h.high,mA];omega,λv h0 hv=>?_,λv hv=>?_,λv hv=>?_,λh0=>k.w (h.w h0),λhd hpl=>?_⟩
 ·rw [zU,not_or] at hv;rw [k.un v h0 hv.2,h.un v h0 hv.1]
 ·rcases zU.1 hv with hv | hv
  ·exact JU _ (h.sub v hv)
  ·exact Nn _ (k.sub v hv)
 ·rcases zU.1 hv with hv | hv
  ·exact h.nn v hv
  ·exact k.nn v hv
 ·obtain ⟨d1,d2⟩:=hd;obtain ⟨n1,n2,n3⟩:=List.nodup_append.1 d1;obtain ⟨a1,a2,a3⟩:=h.ok ⟨n1,λv hv=>d2 v (JU _ hv)⟩ hpl
  obtain ⟨b1,b2,b3⟩:=k.ok ⟨n2,λv hv=>by
   obtain ⟨c1,c2⟩:=d2 v (Nn _ hv);refine ⟨λhv2=>?_,c2⟩
   rcases hp v hv2 with h5 | h5
   ·exact c1 h5
   ·exact n3 v h5 v hv rfl⟩ (λv hv=>by
    rcases hp v hv with h5 | h5
    ·exact hpl v h5
    ·exact h.nn v h5)
  have hun:∀v,v ∈ dv->v ∉ dv2:=λv h5 h6=>n3 v h5 v h6 rfl;refine ⟨λv hv=>?_,λj v hj=>?_,λx hx=>?_⟩
  ·rcases zU.1 hv with hv | hv
   ·rw [k.un v (h.nn v hv) (hun v hv)];exact a1 v hv
   ·exact b1 v hv
  ·rcases xeh j fr.length with hlt | hge
   ·rw [Nz hlt] at hj;have hm:=h.sub v (DS hj);rw [k.un v (h.nn v hm) (hun v hm)];exact a2 j v hj
   ·rw [Nr hge] at hj;rw [b2 _ v hj,h.fors,mA]
    congr 3;omega
  ·rcases zU.1 hx with hx | hx
   ·refine (a3 x hx).mono (λv hv=>?_) λv hv=>?_
    ·rcases zU.1 hv with hv | hv
     ·exact JU _ hv
     ·exact Nn _ (JU _ hv)
    ·rcases zU.1 hv with hv | hv
     ·exact k.un v (hpl v hv) λh6=>(d2 v (Nn _ h6)).1 hv
     ·exact k.un v (h.nn v hv) (hun v hv)
   ·refine (b3 x hx).mono (λv hv=>?_) λv hv=>rfl
    rcases zU.1 hv with hv | hv
    ·rcases hp v hv with h5 | h5
     ·exact JU _ h5
     ·exact Nn _ (JU _ h5)
    ·exact Nn _ (Nn _ hv)
def EB (y:aS) (m:Nat):Prop:=y.c_.gM.length+m<=250/\(y.c_.sZ.length=4+y.c_.gM.length/\y.c_.nD.length=4+y.c_.gM.length)/\WL y
structure BkC (vs:List aM) (sc sc' pl:List Int) (ss:List aB) (y r:aS):Prop where
 e:Er y.e_ r.e_
 t1:Bg (eb r.e_) vs sc r.c_.bN
 ok:r.e_=0->Bg false vs sc' r.c_.bN/\Tn pl (Be ss) (uW ss) (Nt ss) y r
theorem EB.app {pl dv fr:List Int} {pb:List aF} {y r:aS} {m:Nat} (h:EB y (fr.length+m)) (k:Tn pl dv fr pb y r):EB r m:=by
 obtain ⟨h1,⟨h2,h3⟩,hw⟩:=h;have h4:=congrArg List.length k.fors;rw [mA] at h4;have h5:=k.low;have h6:=k.high;exact ⟨by omega,⟨by omega,by omega⟩,k.w hw⟩
theorem EB.less {y:aS} {m m':Nat} (h:EB y m) (hm:m'<=m):EB y m':=⟨by have:=h.1;omega,h.2⟩
theorem UG {vs:List aM} {sc:List Int} {n:Nat} {y:aS} {v:Int} {f a:Int} {x z:aF} {b e:List aB} {u:aM} (hT:Bg false vs sc y.c_.bN) (hx:Jh vs sc x) (hz:Jh vs sc z) (hu:bL vs v=some u) (hL:EB y 1) (hbx:xz x<=50000000) (hbz:xz z<=50000000) (hn:50003000<n) :
  bK (lK n y ⟨[102,111,114],v,f,[x,z],b,e,a⟩) λr=>r.e_=y.e_/\r.c_.bN=y.c_.bN.set v.toNat ⟨2,((4+y.c_.gM.length:Nat):Int),[]⟩/\r.c_.gM=y.c_.gM++[v]/\∃s1 s2,gS n y.c_ x=some s1/\gS n y.c_ z=some s2/\r.c_.sZ=y.c_.sZ++[s1.1]/\r.c_.nD=y.c_.nD++[max s1.1 (IntKind.u32.wrap (max s2.2 1 - 1))]/\WL r:=by
 unfold lK;obtain ⟨l1,⟨l2,l3⟩,w1,w2⟩:=hL;obtain ⟨h0,hu1⟩:=AF hu;refine bK.eqn Hj ?_;refine (NJ hT hx (by omega) w1 w2 (n:=n) (by omega)).bind λs1 ⟨e1,u1,_⟩=>?_;refine bK.eqn (v:=z) rfl ?_;refine (NJ hT hz (by omega) w1 w2 (n:=n) (by omega)).bind λs2 ⟨e2,_,u2⟩=>?_;refine bK.eqn (v:=⟨2,((4+y.c_.gM.length:Nat):Int),[]⟩) ?_ ?_
 ·unfold EF;rw [cT (by omega) (by omega),IntKind.wrap_u32]
  congr 2;omega
 refine (bK.idx (Q:=λ_=>True) h0 (by rw [hT.len];exact hu1) λ_ _=>trivial).bind λ_ _=>?_;refine bK.need (by simp only [uZ];omega) (bK.need (by simp only [uZ];omega) (bK.need (by simp only [uZ];omega) (.some ⟨rfl,rfl,rfl,s1,s2,e1,e2,rfl,rfl,w1.snoc u1,w2.snoc (by have hw:=uE.wrap (max s2.2 1 - 1);unfold uE at u1 hw ⊢;omega)⟩)))
theorem dec_mem {s:aB} {x:aF} (h:x ∈ OJ s):∃i:Nat,s.aO[i]? = some x/\Dec s i:=by
 unfold OJ at h
 split at h
 ·rename_i ho;obtain ⟨i,hi⟩:=List.getElem?_of_mem h;refine ⟨i,hi,?_⟩
  rcases ho with ho | ho | ho
  ·exact .inl ho
  ·exact .inr (.inl ho)
  ·exact .inr (.inr (.inl ho))
 ·split at h
  ·rename_i ho;cases hl:s.aO with
   | nil=>rw [hl] at h;cases h
   | cons z l=>
     rw [hl] at h;have h:x ∈ [z]:=h;rw [Ak.1 h];exact ⟨0,rfl,.inr (.inr (.inr ⟨ho,rfl⟩))⟩
  ·cases h
theorem Vi {vs:List aM} {sc pl:List Int} {n:Nat} {s:aB} {y r:aS} (hT:Bg false vs sc y.c_.bN) (hc:∀v ∈ sc,∀u,bL vs v=some u->u.bS=1->v ∈ pl) (hb:rL s.aO<=50000000) (h:L2R vs sc n s 0 y r) (h0:r.e_=0):∀x ∈ OJ s,QX y.c_.bN pl x:=by
 intro x hx;obtain ⟨i,hi,hd⟩:=dec_mem hx;obtain ⟨p1,p2⟩:=h.px h0 i x (LG _) hi hd;have:=Bj (DS hi);exact ⟨p1.pv hc,(Ko hT p1).1,p2,by omega⟩
theorem Ur {vs:List aM} {sc pl:List Int} {n:Nat} {s:aB} {y r:aS} (hT:Bg false vs sc y.c_.bN) (hc:∀v ∈ sc,∀u,bL vs v=some u->u.bS=1->v ∈ pl) (hb:rL s.aO<=50000000) (h:L2R vs sc n s 0 y r) (h0:r.e_=0) (hf:s.gA ≠ [102,111,114]) (hl:s.gA=[108,101,116]->s.aO.length=1/\∃u,bL vs s.fF=some u):Tn pl (Li s) (ID s) (OJ s) y r:=by
 have hq:=Vi hT hc hb h h0;have hcc:=h.c;unfold Li ID;rw [if_neg hf]
 by_cases ho:s.gA=[108,101,116]
 ·rw [if_pos (.inr ho)];obtain ⟨l1,u,hu⟩:=hl ho;obtain ⟨b0,b1⟩:=AF hu;obtain ⟨x,t,g1,g2,g3,g4,g5⟩:=h.go ho (by omega)
  have hun:∀v,0<=v->v ∉ [s.fF]->bL r.c_.bN v=bL y.c_.bN v:=λv hv hv2=>by
   rw [g2];have hne:s.fF.toNat ≠ v.toNat:=λe=>hv2 (Ak.2 (by omega));cases hi:bL y.c_.bN v with
   | some w=>exact (Cb hi).2 hne
   | none=>
     unfold bL at hi ⊢;rw [if_pos hv] at hi ⊢;rw [Pj hne];exact hi
  refine ⟨by rw [hcc,iD],by rw [hcc];rfl,by rw [hcc];rfl,hun,λ_ h=>(nomatch h),λv hv=>by rw [Ak.1 hv];exact b0,λh=>by unfold WL at *;rw [hcc];exact h,λhd hpl=>⟨λv hv=>?_,λk v h=>(nomatch h),λx hx=>?_⟩⟩
  ·rw [Ak.1 hv,g2];obtain ⟨w,hw,_⟩:=bK.idx (l:=y.c_.bN) (Q:=λ_=>True) b0 (by rw [hT.len];exact b1) λ_ _=>trivial;exact ⟨t,(Cb hw).1 ⟨rfl,b0⟩,by rw [Bv.2 h0] at g4;exact g4,g3⟩
  ·exact (hq x hx).mono (λv hv=>JU _ hv) λv hv=>hun v (hpl v hv) λh6=>(hd.2 v h6).1 hv
 ·rw [if_neg (by rintro (h | h);exact hf h;exact ho h)];have hTT:=h.no ho;refine ⟨by rw [hcc,iD],by rw [hcc];rfl,by rw [hcc];rfl,λv _ _=>by rw [hTT],λ_ h=>(nomatch h),λ_ h=>(nomatch h),λh=>by unfold WL at *;rw [hcc];exact h,λhd hpl=>⟨λv hv=>(nomatch hv),λk v h=>(nomatch h),λx hx=>?_⟩⟩;exact (hq x hx).mono (λv hv=>JU _ hv) λv hv=>by rw [hTT]
theorem own_for {vs:List aM} {sc pl:List Int} {n:Nat} {s:aB} {y a r:aS} (hT:Bg false vs sc y.c_.bN) (hc:∀v ∈ sc,∀u,bL vs v=some u->u.bS=1->v ∈ pl) (hb:rL s.aO<=50000000) (h:L2R vs sc n s 0 y a) (h0:a.e_=0) (hf:s.gA=[102,111,114]) {u:aM} (hu:bL vs s.fF=some u) (hL:y.c_.gM.length<=249)
  (r1:r.c_.bN=a.c_.bN.set s.fF.toNat ⟨2,((4+a.c_.gM.length:Nat):Int),[]⟩) (r2:r.c_.gM=a.c_.gM++[s.fF]) (r3:r.c_.sZ.length=a.c_.sZ.length+1) (r4:r.c_.nD.length=a.c_.nD.length+1) (r5:WL r):Tn pl (Li s) (ID s) (OJ s) y r:=by
 have hq:=Vi hT hc hb h h0;have hcc:=h.c;have hTT:=h.no (by rw [hf];decide);have hF:a.c_.gM=y.c_.gM:=by rw [hcc]
 unfold Li ID;rw [if_pos hf,if_pos (.inl hf)];obtain ⟨b0,b1⟩:=AF hu;rw [hTT,hF] at r1
 have hun:∀v,0<=v->v ∉ [s.fF]->bL r.c_.bN v=bL y.c_.bN v:=λv hv hv2=>by
  rw [r1];have hne:s.fF.toNat ≠ v.toNat:=λe=>hv2 (Ak.2 (by omega));cases hi:bL y.c_.bN v with
  | some w=>exact (Cb hi).2 hne
  | none=>
    unfold bL at hi ⊢;rw [if_pos hv] at hi ⊢;rw [Pj hne];exact hi
 have hat:bL r.c_.bN s.fF=some ⟨2,((4+y.c_.gM.length:Nat):Int),[]⟩:=by
  rw [r1];obtain ⟨w,hw,_⟩:=bK.idx (l:=y.c_.bN) (Q:=λ_=>True) b0 (by rw [hT.len];exact b1) λ_ _=>trivial;exact (Cb hw).1 ⟨rfl,b0⟩
 refine ⟨by rw [r2,hF],by rw [r3,hcc];rfl,by rw [r4,hcc];rfl,hun,λ_ h=>h,λv hv=>by rw [Ak.1 hv];exact b0,λ_=>r5,λhd hpl=>⟨λv hv=>?_,λk v hk=>?_,λx hx=>?_⟩⟩
 ·rw [Ak.1 hv];exact ⟨_,hat,.var (by omega) (by omega),by rw [tm,uY];omega⟩
 ·cases k with
  | zero=>injection hk with hk;subst hk;exact hat
  | succ k=>cases hk
 ·exact (hq x hx).mono (λv hv=>JU _ hv) λv hv=>hun v (hpl v hv) λh6=>(hd.2 v h6).1 hv
abbrev Bf:=aS->List aB->Option aS
def Ot (f:Bf) (n:Nat) (s:aB) (y:aS):Option (aS ⊕ aS):=
 (mU n s n (0:Int) y).bind λy20=>
 (if (y20.e_ == (0:Int))=true then some (decide (s.gA=[102,111,114])) else some false).bind λy79=>
 if y79=true then
  (lK n y20 s).bind λx85=>
  if (x85.e_ != (0:Int))=true then some (.inr x85) else
   (f x85 s.bO).bind λx88=>(f x88 s.fE).bind λx90=>some (.inl x90)
 else if (y20.e_ != (0:Int))=true then some (.inr y20) else
  (f y20 s.bO).bind λx93=>(f x93 s.fE).bind λx95=>some (.inl x95)
theorem MM {f:Bf} {n:Nat} {full:List aB} {k v:Nat} {s:aB} {y:aS} {Q:aS ⊕ aS->Prop} (hg:full[v]? = some s) (hl:full.length<=100000000)
  (h:bK (Ot f n s y) λz=>(∀d,z=.inl d->bK (gH f n full k ((v+1:Nat):Int) d) Q)/\∀d,z=.inr d->Q (.inr d)):bK (gH f n full (k+1) (v:Int) y) Q:=by
 have hlt:=(vL.1 hg).1;unfold gH;refine bK.iteb (λ_=>?_) λh=>absurd h (by rw [wP (by omega)];decide);refine bK.bind (bK.eqn (sS hg) h) λz hz=>?_;rw [show IntKind.i64.wrap ((v:Int)+1)=((v+1:Nat):Int) by rw [cT (by omega) (by omega)];omega];exact bK.elim (λd e=>hz.1 d e) λd e=>.some (hz.2 d e)
section
variable {vs:List aM} {sc pl:List Int} {n:Nat} {s:aB} {y:aS} {f:Bf}
structure VL (vs:List aM) (sc:List Int) (s:aB):Prop where
 tx:∀z ∈ s.aO,TX vs sc z
 px:∀(i:Nat) z,s.aO[i]? = some z->Dec s i->Jh vs sc z
 lt:s.gA=[108,101,116]->s.aO.length=1/\∃u,bL vs s.fF=some u
theorem QK (h:VL vs sc s) (hT:Bg (eb y.e_) vs sc y.c_.bN) (hb:rL s.aO<=50000000) (hn:100003000<n) (hf:s.gA ≠ [102,111,114]) {Q:aS ⊕ aS->Prop}
  (h1:∀a,L2R vs sc n s 0 y a->a.e_ ≠ 0->Q (.inr a)) (h2:∀a,L2R vs sc n s 0 y a->a.e_=0->bK ((f a s.bO).bind λx=>(f x s.fE).bind λx=>some (.inl x)) Q):bK (Ot f n s y) Q:=by
 have hlen:=Aj s.aO;unfold Ot;refine (VB h.tx h.px h.lt (by omega) (by omega) n 0 y hT (by omega) (by omega)).bind λa ha=>?_;refine bK.bind (P:=λc=>c=false) ?_ λc hc=>?_
 ·exact bK.iteb (λ_=>.some (xem hf)) λ_=>.some rfl
 subst hc;rw [if_neg (by decide)];refine bK.iteb (λh0=>.some (h1 a ha (by simpa using h0))) λh0=>h2 a ha (by simpa using h0)
theorem UW (h:VL vs sc s) (hT:Bg (eb y.e_) vs sc y.c_.bN) (hb:rL s.aO<=50000000) (hn:100003000<n) {x z:aF} (hs:s=⟨[102,111,114],s.fF,s.gT,[x,z],s.bO,s.fE,s.fG⟩) {u:aM} (hu:bL vs s.fF=some u) (hL:y.e_=0->EB y 1) {Q:aS ⊕ aS->Prop}
  (h1:∀a,L2R vs sc n s 0 y a->a.e_ ≠ 0->Q (.inr a)) (h2:∀a r,L2R vs sc n s 0 y a->a.e_=0->r.e_=0->r.c_.bN=a.c_.bN.set s.fF.toNat ⟨2,((4+a.c_.gM.length:Nat):Int),[]⟩->r.c_.gM=a.c_.gM++[s.fF]->r.c_.sZ.length=a.c_.sZ.length+1->r.c_.nD.length=a.c_.nD.length+1->WL r->bK ((f r s.bO).bind λx=>(f x s.fE).bind λx=>some (.inl x)) Q):bK (Ot f n s y) Q:=by
 have hlen:=Aj s.aO;have hop:s.gA=[102,111,114]:=by rw [hs]
 have hli:s.aO=[x,z]:=by rw [hs]
 unfold Ot;refine (VB h.tx h.px h.lt (by omega) (by omega) n 0 y hT (by omega) (by omega)).bind λa ha=>?_;refine bK.iteb (b:=a.e_ == 0) (x:=some (decide (s.gA=[102,111,114]))) (y:=some false) (Q:=λc=>c=(a.e_ == 0)) (λh0=>.some ?_) (λh0=>.some ?_) |>.bind λc hc=>?_
 ·rw [h0];exact wP hop
 ·rw [h0]
 subst hc;refine bK.iteb (λh0=>?_) λh0=>?_
 ·have h0:a.e_=0:=by simpa using h0
  have hy0:=ha.e.zero h0;have hTT:=ha.no (by rw [hop];decide);have hTy:Bg false vs sc y.c_.bN:=by rw [Bv.2 hy0] at hT;exact hT
  have hxz:xz x<=50000000/\xz z<=50000000:=by
   rw [hli] at hb;rw [rL,rL] at hb;omega
  have px:=h.px 0 x (by rw [hli];rfl) (.inr (.inr (.inl hop)));have pz:=h.px 1 z (by rw [hli];rfl) (.inr (.inr (.inl hop)))
  have hLa:EB a 1:=by
   have:=hL hy0;unfold EB WL at this ⊢;rw [ha.c];exact this
  have hloop:=UG (n:=n) (y:=a) (f:=s.gT) (a:=s.fG) (b:=s.bO) (e:=s.fE) (by rw [hTT];exact hTy) px pz hu hLa hxz.1 hxz.2 (by omega);rw [←hs] at hloop;refine hloop.bind λr hr=>?_;obtain ⟨r1,r2,r3,s1,s2,_,_,r4,r5,r6⟩:=hr;rw [r1];rw [if_neg (by rw [h0];decide)];exact h2 a r ha h0 (by rw [r1];exact h0) r2 r3 (by rw [r4,mA];rfl) (by rw [r5,mA];rfl) r6
 ·have h0:a.e_ ≠ 0:=by simpa using h0
  rw [if_pos (by simpa using h0)];exact .some (h1 a ha h0)
end
theorem QW {n:Nat} {y:aS}:fY (n+2) y []=some y:=rfl
theorem FJ (s:aB) (l:List aB):uX (s::l)=1+rL s.aO+uX s.bO+uX s.fE+uX l:=by rw [uX,xW]
theorem Hh (s:aB) (l:List aB):Be (s::l)=Li s++(Be s.bO++(Be s.fE++Be l))/\uW (s::l)=ID s++(uW s.bO++(uW s.fE++uW l))/\Nt (s::l)=OJ s++(Nt s.bO++(Nt s.fE++Nt l)):=by
 rw [Be,uW,Nt,MS,MQ,pbS_eq];simp only [Hv,and_self]
def Ij (vs:List aM) (sc sc':List Int) (ss:List aB):Prop:=
 ∀(n:Nat) (pl:List Int),100005000+uX ss<=n->uX ss<=50000000->(∀v ∈ sc,∀u,bL vs v=some u->u.bS=1->v ∈ pl) ->
  ∀(full:List aB) (k v:Nat) (y:aS),full.drop v=ss->v<=full.length->full.length<=100000000->ss.length<k->Bg (eb y.e_) vs sc y.c_.bN->(y.e_=0->EB y (uW ss).length) ->
   bK (gH (fY n) n full k (v:Int) y) λz=>BkC vs sc sc' pl ss y (z.elim id id)
theorem Ij.blk {vs:List aM} {sc sc':List Int} {ss:List aB} (h:Ij vs sc sc' ss) {n:Nat} {pl:List Int} (hn:100005001+uX ss<=n) (hz:uX ss<=50000000) (hc:∀v ∈ sc,∀u,bL vs v=some u->u.bS=1->v ∈ pl) {y:aS} (hT:Bg (eb y.e_) vs sc y.c_.bN) (hL:y.e_=0->EB y (uW ss).length) :
  bK (fY n y ss) (BkC vs sc sc' pl ss y):=by
 have hlen:=ED ss;obtain ⟨m,rfl⟩:∃m,n=m+1:=⟨n - 1,by omega⟩;show bK (nO (fY m) m y ss) _;unfold nO;refine (h m pl (by omega) hz hc ss m 0 y rfl (LG _) (by omega) (by omega) hT hL).bind λz hz=>?_;cases z with
 | inl r=>exact .some hz
 | inr r=>exact .some hz
theorem KQ {α:Type} {full:List α} {v:Nat} {s:α} {l:List α} (h:full.drop v=s::l):full[v]? = some s/\full.drop (v+1)=l/\v+1<=full.length:=by
 have h1:full[v]? = some s:=by rw [←xeq,h];rfl
 refine ⟨h1,?_,(vL.1 h1).1⟩;rw [←List.tail_drop,h];rfl
section
variable {vs:List aM} {sc sc2 sc':List Int} {s:aB} {l:List aB}
theorem xJ (h:VL vs sc s) (hf:s.gA ≠ [102,111,114]) (hB:s.bO=[]) (hE:s.fE=[]) (hsub:∀v ∈ sc,v ∈ sc2) (hnew:∀b T,Bg b vs sc T->s.gA ≠ [108,101,116]->Bg b vs sc2 T) (hlet:s.gA=[108,101,116]->sc2=sc++[s.fF]) (hpub:s.gA ≠ [108,101,116]->∀v ∈ sc2,v ∈ sc ∨ ∃u,bL vs v=some u/\u.bS ≠ 1) (hR:Ij vs sc2 sc' l):Ij vs sc sc' (s::l):=by
 intro n pl hn hz hc full k v y hd hv hl hk hT hL;obtain ⟨g1,g2,g3⟩:=KQ hd;obtain ⟨k,rfl⟩:∃j,k=j+1:=⟨k - 1,by rw [dY] at hk;omega⟩;rw [FJ,hB,hE,uX] at hn hz;obtain ⟨d1,d2,d3⟩:=Hh s l;rw [hB,hE,Be,gK,gK] at d1;rw [hB,hE,uW,gK,gK] at d2;rw [hB,hE,Nt,gK,gK] at d3;have hfr:ID s=[]:=by unfold ID;rw [if_neg hf]
 refine MM g1 hl (QK h hT (by omega) (by omega) hf (λa ha h0=>⟨λd e=>(nomatch e),λd e=>?_⟩) λa ha h0=>?_)
 ·cases e;exact ⟨ha.e,ha.ok,λh1=>absurd h1 h0⟩
 ·rw [hB,hE];obtain ⟨m,rfl⟩:∃m,n=m+2:=⟨n - 2,by omega⟩;rw [QW,gX,QW,gX];refine .some ⟨λd e=>?_,λd e=>(nomatch e)⟩;cases e;have hy0:=ha.e.zero h0;have hTy:Bg false vs sc y.c_.bN:=by rw [Bv.2 hy0] at hT;exact hT
  have hown:=Ur (pl:=pl) hTy hc (by omega) ha h0 hf h.lt
  have hT2:Bg (eb a.e_) vs sc2 a.c_.bN:=by
   by_cases ho:s.gA=[108,101,116]
   ·rw [hlet ho];obtain ⟨l1,u,hu⟩:=h.lt ho;obtain ⟨x,t,_,q2,q3,q4,_⟩:=ha.go ho (by omega);rw [q2,Bv.2 h0] at *;exact hTy.snoc hu q4 q3
   ·exact hnew _ _ ha.ok ho
  refine (hR (m+2) (pl++Li s) (by omega) (by omega) (λw hw u hu hku=>?_) full k (v+1) a g2 g3 hl (by rw [dY] at hk;omega) hT2 λ_=>?_).mono λz hz=>?_
  ·by_cases ho:s.gA=[108,101,116]
   ·rw [hlet ho] at hw
    rcases zU.1 hw with hw | hw
    ·exact JU _ (hc w hw u hu hku)
    ·refine Nn _ ?_;unfold Li;rw [if_pos (.inr ho)];exact hw
   ·rcases hpub ho w hw with hw | ⟨u',hu',hk'⟩
    ·exact JU _ (hc w hw u hu hku)
    ·rw [hu] at hu';cases hu';exact absurd hku hk'
  ·have hLy:=hL hy0;rw [d2,hfr,gK] at hLy;exact EB.app (fr:=ID s) (by rw [hfr,eP,Dk];exact hLy) hown
  ·refine ⟨ha.e.trans hz.e,hz.t1.mono (λe=>e) hsub,λhr=>?_⟩;obtain ⟨z1,z2⟩:=hz.ok hr;refine ⟨z1,?_⟩;rw [d1,d2,d3];exact hown.app z2 λw hw=>zU.1 hw
theorem Ma {scb scb' sce':List Int} {pl plb:List Int} {n k v:Nat} {full:List aB} {y r:aS} {dv0 fr0:List Int} {pb0:List aF} (hB:Ij vs scb scb' s.bO) (hE:Ij vs sc sce' s.fE) (hR:Ij vs sc sc' l)
  (hn:100005000+uX (s::l)<=n) (hz:uX (s::l)<=50000000) (hc:∀v ∈ sc,∀u,bL vs v=some u->u.bS=1->v ∈ pl) (hcb:∀v ∈ scb,∀u,bL vs v=some u->u.bS=1->v ∈ plb) (hsb:∀v ∈ sc,v ∈ scb) (hsb':∀v ∈ scb,v ∈ scb') (hse':∀v ∈ sc,v ∈ sce')
  (g2:full.drop (v+1)=l) (g3:v+1<=full.length) (hl:full.length<=100000000) (hk:l.length<k) (her:Er y.e_ r.e_) (hr0:r.e_=0) (hT:Bg false vs scb r.c_.bN) (hL:EB r ((uW s.bO).length+((uW s.fE).length+(uW l).length)))
  (hown:Tn pl dv0 fr0 pb0 y r) (hpb:∀v ∈ plb,v ∈ pl ∨ v ∈ dv0) (hpp:∀v ∈ pl,v ∈ plb) (hdl:Be (s::l)=dv0++(Be s.bO++(Be s.fE++Be l))) (hfl:uW (s::l)=fr0++(uW s.bO++(uW s.fE++uW l))) (hpl:Nt (s::l)=pb0++(Nt s.bO++(Nt s.fE++Nt l))) :
  bK ((fY n r s.bO).bind λx=>(fY n x s.fE).bind λx=>some (.inl x)) λz=>(∀d,z=.inl d->bK (gH (fY n) n full k ((v+1:Nat):Int) d) λz=>BkC vs sc sc' pl (s::l) y (z.elim id id))/\∀d,z=(.inr d:aS ⊕ aS)->BkC vs sc sc' pl (s::l) y ((.inr d:aS ⊕ aS).elim id id):=by
 rw [FJ] at hn hz;refine (hB.blk (pl:=plb) (by omega) (by omega) hcb (by rw [Bv.2 hr0];exact hT) λ_=>hL.less (by omega)).bind λc hcc=>?_;have hTc:Bg (eb c.e_) vs sc c.c_.bN:=hcc.t1.mono (λe=>e) hsb;refine (hE.blk (pl:=pl) (by omega) (by omega) hc hTc λh0=>?_).bind λd hdd=>?_
 ·exact (EB.app (hL.less (m':=(uW s.bO).length+(uW s.fE).length) (by omega)) (hcc.ok h0).2)
 refine .some ⟨λd' e=>?_,λd' e=>(nomatch e)⟩;cases e;refine (hR n pl (by omega) (by omega) hc full k (v+1) d g2 g3 hl hk hdd.t1 λh0=>?_).mono λz hz=>?_
 ·have hc0:=hdd.e.zero h0;exact EB.app (EB.app hL (hcc.ok hc0).2) (hdd.ok h0).2
 ·refine ⟨her.trans (hcc.e.trans (hdd.e.trans hz.e)),hz.t1,λhr=>?_⟩;obtain ⟨z1,z2⟩:=hz.ok hr;have hd0:=hz.e.zero hr;have hc0:=hdd.e.zero hd0;refine ⟨z1,?_⟩;rw [hdl,hfl,hpl];exact hown.app ((hcc.ok hc0).2.app ((hdd.ok hd0).2.app z2 λw hw=>.inl hw) λw hw=>.inl (hpp w hw)) hpb
theorem Po {P:aF->Prop} {x z:aF} (h:P x) (k:P z):∀u ∈ [x,z],P u:=λu hu=>by
 rcases AQ.1 hu with rfl | hu
 ·exact h
 ·rw [Ak.1 hu];exact k
theorem Iw {P:aF->Prop} {x:aF} (h:P x):∀u ∈ [x],P u:=λu hu=>by rw [Ak.1 hu];exact h
theorem get_two {P:aF->Prop} {x z:aF} (h:P x) (k:P z):∀(i:Nat) u,[x,z][i]? = some u->P u:=λi u hu=>Po h k u (DS hu)
theorem QL {P:aF->Prop} {x:aF} (h:P x):∀(i:Nat) u,[x][i]? = some u->P u:=λi u hu=>Iw h u (DS hu)
end
theorem En {L:List Int} {i:Int}:∀v ∈ L,v ∈ L++[i]:=λv hv=>JU _ hv
theorem KM (vs:List aM) (sc:List Int):Ij vs sc sc []:=by
 intro n pl hn hz hc full k v y hd hv hl hk hT hL;obtain ⟨k,rfl⟩:∃j,k=j+1:=⟨k - 1,by rw [eP] at hk;omega⟩;have hge:full.length<=v:=by have:=congrArg List.length hd;simp only [Ph,eP] at this;omega
 unfold gH;refine bK.iteb (λh=>absurd (BD h) (by omega)) λ_=>.some ?_;exact ⟨.refl _,hT,λh0=>⟨by have h0:y.e_=0:=h0;rw [Bv.2 h0] at hT;exact hT,.refl _ _⟩⟩
theorem UX {vs:List aM} {res:Int} {lf:Bool} {sc sc':List Int} {ss:List aB} (h:FB vs res lf sc ss sc'):Ij vs sc sc' ss:=by
 have nd:∀ {s:aB} {i:Nat} {P:Prop},s.gA ≠ [108,101,116]->s.gA ≠ [105,102]->s.gA ≠ [102,111,114]->(s.gA=[112,117,116]->i ≠ 0)->Dec s i->P:=λa b c d h=>by
  rcases h with h | h | h | ⟨h,h'⟩
  ·exact absurd h a
  ·exact absurd h b
  ·exact absurd h c
  ·exact absurd h' (d h)
 have newv:∀ {b:Bool} {sc:List Int} {T:List aK} {v:Int} {u:aM},Bg b vs sc T->bL vs v=some u->u.bS ≠ 1->Bg b vs (sc++[v]) T:=λh hu hk=>h.more hu hk
 have pub2:∀ {sc:List Int} {v:Int} {u:aM},bL vs v=some u->u.bS ≠ 1->∀w ∈ sc++[v],w ∈ sc ∨ ∃u,bL vs w=some u/\u.bS ≠ 1:=λhu hk w hw=>by
  rcases zU.1 hw with hw | hw
  ·exact .inl hw
  ·rw [Ak.1 hw];exact .inr ⟨_,hu,hk⟩
 induction h with
 | nil=>exact KM _ _
 | let_ h1 h2 h3 h4 _ ih=>
   refine xJ ⟨Iw h1,λi z hz _=>QL (h1.pub h2) i z hz,λ_=>⟨rfl,_,h3⟩⟩ (by simp only;decide) rfl rfl En (λb T _ ho=>absurd rfl ho) (λ_=>rfl) (λho=>absurd rfl ho) ih
 | var_ h1 h2 h3 h4 _ ih=>
   have hk:∀ {u:aM},u.bS=2 ∨ u.bS=3->u.bS ≠ 1:=λh=>by omega
   refine xJ ⟨Iw h1,λi z hz hd=>nd (by simp only;decide) (by simp only;decide) (by simp only;decide) (λh=>absurd h (by simp only;decide)) hd,λh=>absurd h (by simp only;decide)⟩ (by simp only;decide) rfl rfl En (λb T hT _=>newv hT h2 (hk h3)) (λh=>absurd h (by simp only;decide)) (λ_=>pub2 h2 (hk h3)) ih
 | arr h1 h2 _ ih=>
   have hk:∀ {u:aM},u.bS=4->u.bS ≠ 1:=λh=>by omega
   refine xJ ⟨λ_ h=>(nomatch h),λi z hz hd=>(nomatch hz),λh=>absurd h (by simp only;decide)⟩ (by simp only;decide) rfl rfl En (λb T hT _=>newv hT h1 (hk h2)) (λh=>absurd h (by simp only;decide)) (λ_=>pub2 h1 (hk h2)) ih
 | set h1 h2 h3 h4 _ ih=>
   have hk:∀ {u:aM},u.bS=2 ∨ u.bS=3->u.bS ≠ 1:=λh=>by omega
   refine xJ ⟨Iw h1,λi z hz hd=>nd (by simp only;decide) (by simp only;decide) (by simp only;decide) (λh=>absurd h (by simp only;decide)) hd,λh=>absurd h (by simp only;decide)⟩ (by simp only;decide) rfl rfl En (λb T hT _=>newv hT h2 (hk h3)) (λh=>absurd h (by simp only;decide)) (λ_=>pub2 h2 (hk h3)) ih
 | put h1 h2 h3 h4 h5 h6 h7 h8 _ ih=>
   refine xJ ⟨Po h4 h7,λi z hz hd=>?_,λh=>absurd h (by simp only;decide)⟩ (by simp only;decide) rfl rfl (λ_ h=>h) (λb T hT _=>hT) (λh=>absurd h (by simp only;decide)) (λ_ w hw=>.inl hw) ih;cases i with
   | zero=>injection hz with hz;rw [←hz];exact h4.pub h5
   | succ i=>exact nd (by simp only;decide) (by simp only;decide) (by simp only;decide) (λ_=>by omega) hd
 | @if_ l sc c b e a sc1 sc2 ss sc' h1 h2 hb he hr ib ie ir=>
   intro n pl hn hz hc full k v y hd hv hl hk hT hL;obtain ⟨g1,g2,g3⟩:=KQ hd;obtain ⟨k,rfl⟩:∃j,k=j+1:=⟨k - 1,by rw [dY] at hk;omega⟩;have hz2:=hz;rw [FJ] at hz2;have ty:VL vs sc ⟨[105,102],-1,0,[c],b,e,a⟩:=⟨Iw h1,λi z hz _=>QL (h1.pub h2) i z hz,λh=>absurd h (by simp only;decide)⟩;obtain ⟨d1,d2,d3⟩:=Hh ⟨[105,102],-1,0,[c],b,e,a⟩ ss;have hfo:ID ⟨[105,102],-1,0,[c],b,e,a⟩=[]:=by unfold ID;rw [if_neg (by simp only;decide)]
   have hdo:Li ⟨[105,102],-1,0,[c],b,e,a⟩=[]:=by unfold Li;rw [if_neg (by simp only;decide)]
   refine MM g1 hl (QK ty hT (by omega) (by omega) (by simp only;decide) (λw hw h0=>⟨λd e=>(nomatch e),λd e=>?_⟩) λw hw h0=>?_)
   ·cases e;exact ⟨hw.e,hw.ok,λh1=>absurd h1 h0⟩
   ·have hy0:=hw.e.zero h0;have hTy:Bg false vs sc y.c_.bN:=by rw [Bv.2 hy0] at hT;exact hT
    have hown:=Ur (pl:=pl) hTy hc (by omega) hw h0 (by simp only;decide) ty.lt;have hLy:=hL hy0;refine Ma (plb:=pl) ib ie ir hn hz hc hc (λ_ h=>h) hb.sub he.sub g2 g3 hl (by rw [dY] at hk;omega) hw.e h0 (by have:=hw.ok;rw [Bv.2 h0] at this;exact this) ?_ hown (λ_ h=>.inl h) (λ_ h=>h) d1 d2 d3;rw [d2,mA,mA,mA] at hLy;exact EB.app hLy hown
 | @for_ l sc x z v u b a sc1 ss sc' h1 h2 h3 h4 h5 h6 hb hr ib ir=>
   intro n pl hn hz hc full k w y hd hv hl hk hT hL;obtain ⟨g1,g2,g3⟩:=KQ hd;obtain ⟨k,rfl⟩:∃j,k=j+1:=⟨k - 1,by rw [dY] at hk;omega⟩;have hz2:=hz;rw [FJ] at hz2;have ty:VL vs sc ⟨[102,111,114],v,0,[x,z],b,[],a⟩:=⟨Po h1 h3,λi z hz _=>get_two (h1.pub h2) (h3.pub h4) i z hz,λh=>absurd h (by simp only;decide)⟩;obtain ⟨d1,d2,d3⟩:=Hh ⟨[102,111,114],v,0,[x,z],b,[],a⟩ ss;have hfo:ID ⟨[102,111,114],v,0,[x,z],b,[],a⟩=[v]:=by unfold ID;rw [if_pos rfl]
   have hdo:Li ⟨[102,111,114],v,0,[x,z],b,[],a⟩=[v]:=by unfold Li;rw [if_pos (.inl rfl)]
   have hcount:y.e_=0->EB y (1+((uW b).length+((uW ([]:List aB)).length+(uW ss).length))):=λh0=>by
    have:=hL h0;rw [d2,hfo,mA,mA,mA] at this;exact this
   refine MM g1 hl (UW ty hT (by omega) (by omega) rfl h5 (λh0=>(hcount h0).less (by omega)) (λw hw h0=>⟨λd e=>(nomatch e),λd e=>?_⟩) λw r hw h0 hr0 r1 r2 r3 r4 r5=>?_)
   ·cases e;exact ⟨hw.e,hw.ok,λh1=>absurd h1 h0⟩
   ·have hy0:=hw.e.zero h0;have hTy:Bg false vs sc y.c_.bN:=by rw [Bv.2 hy0] at hT;exact hT
    have hLy:=hcount hy0;have hl1:=hLy.1;have hown:=own_for (pl:=pl) hTy hc (by omega) hw h0 rfl h5 (by omega) r1 r2 r3 r4 r5;have hFw:w.c_.gM=y.c_.gM:=by rw [hw.c]
    have hTw:w.c_.bN=y.c_.bN:=hw.no (by simp only;decide)
    have hTr:Bg false vs (sc++[v]) r.c_.bN:=by
     rw [r1,hFw,hTw];exact hTy.snoc h5 (.var (by omega) (by omega)) (by rw [tm,uY];omega)
    refine Ma (plb:=pl++[v]) ib (KM vs sc) ir hn hz hc (λt ht u hu hku=>?_) En hb.sub (λ_ h=>h) g2 g3 hl (by rw [dY] at hk;omega) (.inl (hr0.trans hy0.symm)) hr0 hTr ?_ hown (λt ht=>?_) En d1 d2 d3
    ·rcases zU.1 ht with ht | ht
     ·exact JU _ (hc t ht u hu hku)
     ·exact Nn _ ht
    ·exact EB.app (fr:=ID ⟨[102,111,114],v,0,[x,z],b,[],a⟩) (by rw [hfo];exact hLy) hown
    ·rw [hdo];exact zU.1 ht
 | ret h1 h2=>
   refine xJ ⟨Iw h1,λi z hz hd=>nd (by simp only;decide) (by simp only;decide) (by simp only;decide) (λh=>absurd h (by simp only;decide)) hd,λh=>absurd h (by simp only;decide)⟩ (by simp only;decide) rfl rfl (λ_ h=>h) (λb T hT _=>hT) (λh=>absurd h (by simp only;decide)) (λ_ w hw=>.inl hw) (KM vs _)
theorem IE:∀l:List aB,(uW l).length<=uX l
 | []=>sK _
 | ⟨o,v,f,x,b,e,a⟩::l=>by
   have h1:=IE b;have h2:=IE e;have h3:=IE l;rw [uW,FJ,MQ];have h4:(ID ⟨o,v,f,x,b,e,a⟩).length<=1:=by unfold ID;split <;> simp
   simp only [mA] at *;omega
theorem fors_l1 {f:List aB->Option Int} {l:List aB} (hf:∀x ∈ l,f x.bO=some ((uW x.bO).length:Int)/\f x.fE=some ((uW x.fE).length:Int)) (hb:uX l<=100000000) :
  ∀(k v:Nat) (acc:Int),l.length<v+k->v<=l.length->0<=acc->acc+(uW (l.drop v)).length<=100000000->yW f l k acc (v:Int)=some (acc+(uW (l.drop v)).length):=by
 have hlen:=ED l;intro k
 induction k with
 | zero=>intro v acc h1 h2;omega
 | succ k ih=>
   intro v acc h1 h2 h3 h4;unfold yW
   by_cases hv:v<l.length
   ·have hd:l.drop v=l[v]::l.drop (v+1):=Ny hv;obtain ⟨f1,f2⟩:=hf _ (Mp hv);have hm:(uW (l.drop v)).length=(ID l[v]).length+((uW l[v].bO).length+(uW l[v].fE).length)+(uW (l.drop (v+1))).length:=by rw [hd,uW,MQ];simp only [mA]
    rw [hm] at h4;rw [if_pos (wP (by omega)),sS (vS hv),gX,f1,f2,cT (n:=(v:Int)+1) (by omega) (by omega),show ((v:Int)+1)=((v+1:Nat):Int) by omega]
    by_cases ho:l[v].gA=[102,111,114]
    ·have hfo:(ID l[v]).length=1:=by unfold ID;rw [if_pos ho];rfl
     rw [if_pos (wP ho),gX,gX,gX,cT (n:=acc+1) (by omega) (by omega),cT (n:=((uW l[v].bO).length:Int)+_) (by omega) (by omega),cT (by omega) (by omega),ih (v+1) _ (by omega) (by omega) (by omega) (by omega),hm]
     congr 1;omega
    ·have hfo:(ID l[v]).length=0:=by unfold ID;rw [if_neg ho];rfl
     rw [if_neg (by rw [xV];exact ho),gX,gX,gX,cT (n:=((uW l[v].bO).length:Int)+_) (by omega) (by omega),cT (by omega) (by omega),ih (v+1) _ (by omega) (by omega) (by omega) (by omega),hm]
     congr 1;omega
   ·rw [if_neg (by rw [xV];omega),Tp (by omega),uW]
    congr 1;simp
theorem fors_eq:∀(n:Nat) (l:List aB),uX l+1<n->uX l<=100000000->xK n l=some ((uW l).length:Int):=by
 intro n
 induction n with
 | zero=>intro l h;omega
 | succ n ih=>
   intro l h hb;show wH (xK n) n l=_;unfold wH;have hl:=ED l;have hs:=IE l
   have:=fors_l1 (f:=xK n) (l:=l) (λx hx=>by
    have h1:=JI hx;have h2:=xW x;exact ⟨ih _ (by omega) (by omega),ih _ (by omega) (by omega)⟩) hb n 0 0 (by omega) (by omega) (Rl _) (by rw [iL];omega)
   rw [show ((0:Nat):Int)=0 from rfl] at this;rw [this,gX,iL,Int.zero_add]
def IM (vs:List aM) (p j:Nat):aK:=match vs[j]? with | some u=>if j<p/\u.bS=1 then ⟨2,(j:Int),[]⟩ else tz0 | none=>tz0
structure Ini (vs:List aM) (p:Nat) (y:aS):Prop where
 e:y.e_=0
 fors:y.c_.gM=[]
 low:y.c_.sZ=[0,0,0,0]
 high:y.c_.nD=[4294967295,4294967295,4294967295,4294967295]
 len:y.c_.bN.length=vs.length
 t:∀j,j<vs.length->y.c_.bN[j]? = some (IM vs p j)
theorem Ini.w {vs:List aM} {p:Nat} {y:aS} (h:Ini vs p y):WL y:=by
 unfold WL;rw [h.low,h.high];refine ⟨λx hx=>?_,λx hx=>?_⟩
 ·simp only [AQ,iQ,or_false,or_self] at hx;rw [hx];exact .z
 ·simp only [AQ,iQ,or_false,or_self] at hx;rw [hx];exact .m
theorem We {f:aT} {p:Nat} (hp:f.bB=p) (hpl:p<=f.aW.length) (h4:p<=4):∀(k v:Nat) (y:aS),p<v+k->v<=p->Ini f.aW v y->bK (sJ f k (v:Int) y) (Ini f.aW p):=by
 have htk:(f.aW.take f.bB.toNat).length=p:=by rw [hp,Dj,JE];omega
 intro k
 induction k with
 | zero=>intro v y h1 h2;omega
 | succ k ih=>
   intro v y h1 h2 hI;unfold sJ;refine bK.iteb (λh=>?_) λh=>.some ?_
   ·have hv:v<p:=by have:=BD h;omega
    have hg:(f.aW.take f.bB.toNat)[v]? = some f.aW[v]:=by rw [xeg,if_pos (by rw [hp,Dj];exact hv),vS (by omega)]
    rw [cT (by omega) (by omega),show ((v:Int)+1)=((v+1:Nat):Int) by omega];refine bK.bind (P:=Ini f.aW (v+1)) ?_ λz hz=>ih (v+1) z (by omega) (by omega) hz;refine bK.eqn (sS hg) ?_
    have hold:∀j,j ≠ v->IM f.aW (v+1) j=IM f.aW v j:=λj hj=>by
     unfold IM;cases f.aW[j]? with
     | none=>rfl
     | some u=>
       simp only
       by_cases h:j<v/\u.bS=1
       ·rw [if_pos h,if_pos ⟨by omega,h.2⟩]
       ·rw [if_neg h,if_neg λh2=>h ⟨by omega,h2.2⟩]
    refine bK.iteb (λhk=>?_) λhk=>.some ⟨hI.e,hI.fors,hI.low,hI.high,hI.len,λj hj=>?_⟩
    ·have hk:f.aW[v].bS=1:=by simpa using hk
     refine bK.eqn (v:=⟨2,(v:Int),[]⟩) (by unfold EF;rw [IntKind.wrap_u32];congr 2;omega) ?_;have hT:=hI.t v (by omega);refine bK.eqn (sS hT) (.some ⟨hI.e,hI.fors,hI.low,hI.high,by rw [rR];exact hI.len,λj hj=>?_⟩);show (y.c_.bN.set ((v:Int)).toNat _)[j]? = _;rw [Dj]
     by_cases e:j=v
     ·subst e;rw [Qu (by rw [hI.len];exact hj)];unfold IM;rw [vS hj];simp only;rw [if_pos ⟨by omega,hk⟩]
     ·rw [Pj (λh=>e h.symm),hI.t j hj,hold j e]
    ·have hk:f.aW[v].bS ≠ 1:=by simpa using hk
     rw [hI.t j hj]
     by_cases e:j=v
     ·subst e;unfold IM;rw [vS hj];simp only;rw [if_neg λh=>by omega,if_neg λh=>hk h.2]
     ·rw [hold j e]
   ·have hv:v=p:=by have:=Pb h;omega
    subst hv;exact hI
theorem Ini.tok {vs:List aM} {p:Nat} {y:aS} (h:Ini vs p y) (h4:p<=4):Bg false vs (qY p) y.c_.bN:=by
 refine ⟨h.len,λv hv u hu hk=>?_⟩;obtain ⟨v0,v1⟩:=EO hv;obtain ⟨j,rfl⟩:∃j:Nat,v=j:=⟨v.toNat,by omega⟩;have hj:j<p:=by omega
 obtain ⟨b0,b1⟩:=AF hu;have hT:=h.t j (by omega);rw [Or] at hu;refine ⟨IM vs p j,sS hT,?_,?_⟩
 ·unfold IM;rw [hu];simp only;rw [if_pos ⟨hj,hk⟩];exact .var (by omega) (by omega)
 ·unfold IM;rw [hu];simp only;rw [if_pos ⟨hj,hk⟩,tm,uY];omega
inductive Gs (f:aT) (p:Nat):bQ × Int->Prop
 | ok {y0 y:aS} {sc':List Int}:Ini f.aW p y0->Bg false f.aW sc' y.c_.bN->Tn (qY p) (Be f.bO) (uW f.bO) (Nt f.bO) y0 y->p<=4->(uW f.bO).length<=250->Gs f p (y.c_,0)
 | count:4<p ∨ 250<(uW f.bO).length->Gs f p (⟨[],[],[],[]⟩,136)
 | size:p<=4->(uW f.bO).length<=250->Gs f p (⟨[],[],[],[]⟩,161)
theorem SU {f:aT} {p:Nat} {res:Int} {lf:Bool} {sc':List Int} (hp:f.bB=p) (hpl:p<=f.aW.length) (hv:f.aW.length<=4096) (hz:uX f.bO<=50000000) (hf:FB f.aW res lf (qY p) f.bO sc') {n:Nat} (hn:200000000<=n):bK (tZ n f) (Gs f p):=by
 unfold tZ;have hfs:=IE f.bO;refine bK.bind (P:=λc=>c=true ↔ (4<p ∨ 250<(uW f.bO).length)) ?_ λc hc=>?_
 ·refine bK.iteb (λh=>.some ⟨λ_=>.inl (by have:=BD h;omega),λ_=>rfl⟩) λh=>?_;have h:=Pb h;rw [fors_eq n _ (by omega) (by omega),gX];exact .some ⟨λh=>.inr (by have:=BD h;omega),λh2=>wP (by omega)⟩
 refine bK.iteb (λh=>.some (.count (hc.1 h))) λh=>?_;have hno:¬ (4<p ∨ 250<(uW f.bO).length):=λh2=>by rw [hc.2 h2] at h;cases h
 refine bK.eqn (v:=[4294967295,4294967295,4294967295,4294967295]) rfl ?_;refine bK.need (by omega) (bK.need (by omega) ?_)
 have hI0:Ini f.aW 0 ⟨⟨List.replicate f.aW.length aK.Z,[],[0,0,0,0],[4294967295,4294967295,4294967295,4294967295]⟩,0⟩:=by
  refine ⟨rfl,rfl,rfl,rfl,CX,λj hj=>?_⟩;show (List.replicate f.aW.length aK.Z)[j]? = _;rw [List.getElem?_replicate,if_pos hj];unfold IM;rw [vS hj];simp only;rw [if_neg λh=>by omega];rfl
 refine (We hp hpl (by omega) n 0 _ (by omega) (LG _) hI0).bind λy0 hI=>?_;have hT:=hI.tok (by omega);refine ((UX hf).blk (pl:=qY p) (by omega) hz (λv hv _ _ _=>hv) (by rw [hI.e];exact hT) λ_=>⟨by rw [hI.fors];simp only [eP];omega,⟨by rw [hI.low,hI.fors];rfl,by rw [hI.high,hI.fors];rfl⟩,hI.w⟩).bind λy hy=>?_;have her:=hy.e;rw [hI.e] at her;refine bK.iteb (λh0=>.some ?_) λh0=>.some ?_
 ·have h0:y.e_ ≠ 0:=by simpa using h0
  rcases her with h1 | ⟨_,h1⟩
  ·exact absurd h1 h0
  ·rw [h1];exact .size (by omega) (by omega)
 ·have h0:y.e_=0:=by simpa using h0
  obtain ⟨z1,z2⟩:=hy.ok h0;exact .ok hI z1 z2 (by omega) (by omega)
structure OF (f:aT) (c:bQ) (p:Nat):Prop where
 par:f.bB=p
 pl:p<=f.aW.length
 v:f.aW.length<=4096
 res:f.bX=0 ∨ f.bX=2 ∨ f.bX=3
 ex:f.dK=true->AT (f.aW.take p) 0<=4
 cl:Gs f p (c,0)
 tz:uX f.bO<=50000000
theorem of_flat {c:aG} {rk:Int->Nat} (hp:PO c rk) {n:Nat} {i:Int} {r:aT × Int} (hn:200000000<=n) (h:vO n c.p_ i=some r) (he:r.2=0) (h2:∃fn,bL c.p_.bF i=some fn/\Ni fn r.1):∃p:Nat,r.1.bB=p/\p<=r.1.aW.length/\r.1.aW.length<=4096/\(r.1.bX=0 ∨ r.1.bX=2 ∨ r.1.bX=3)/\(r.1.dK=true->AT (r.1.aW.take p) 0<=4)/\uX r.1.bO<=50000000/\∃sc',FB r.1.aW r.1.bX true (qY p) r.1.bO sc':=by
 obtain ⟨fn0,_,hf0⟩:=h2;obtain ⟨k,fn,_,hfn,hr,hpre,_,sc',hFB⟩:=Rg hp h he;have hm:=DS hfn;obtain ⟨v1,v2,v3⟩:=hp.co.vl fn hm;obtain ⟨_,k2⟩:=hp.co.ki fn hm;have e1:r.1.bB=fn.bB:=by rw [hr]
 have e2:r.1.bX=fn.bX:=by rw [hr]
 have e3:r.1.dK=fn.dK:=by rw [hr]
 have hlen:=hpre.length_le;refine ⟨fn.bB.toNat,by rw [e1];omega,by omega,hf0.v,by rw [e2];exact k2,λh=>?_,hf0.tz,sc',by rw [e2];exact hFB⟩;rw [e3] at h;have:=hp.ex fn hm h;obtain ⟨rest,hrest⟩:=hpre;rw [←hrest,List.take_append_of_le_length (by omega)];exact this
section
variable {f:aT} {c:bQ}
end
def isP (vs:List aM) (k:Nat):Bool:=match vs[k]? with | some u=>decide (u.bS=1) | none=>false
def uP (vs:List aM) (a b:Nat):List Int:=((List.range (b - a)).filter λi=>isP vs (a+i)).map λi=>((a+i:Nat):Int)
section
variable {vs vs':List aM} {a b c:Nat}
theorem tD:uP vs a a=[]:=by unfold uP;rw [Nat.sub_self];rfl
theorem oB (h1:a<=b) (h2:b<=c):uP vs a c=uP vs a b++uP vs b c:=by
 unfold uP;rw [show c - a=(b - a)+(c - b) by omega,List.range_add,Tc,Nq,List.filter_map,xee]
 congr 1
 have e:∀i,a+(b - a+i)=b+i:=λi=>by omega
 simp only [Function.comp_def,e]
theorem BJ (h:vs <+: vs') (hb:b<=vs.length):uP vs' a b=uP vs a b:=by
 unfold uP
 congr 1
 refine Tb λi hi=>?_;have hi:=Lj.1 hi;obtain ⟨r,rfl⟩:=h;unfold isP;rw [Nz (by omega)]
theorem BK {u:aM} (h:vs[a]? = some u):uP vs a (a+1)=if u.bS=1 then [(a:Int)] else []:=by
 unfold uP;rw [Nat.add_sub_cancel_left];show List.map _ (List.filter _ [0])=_;have e:isP vs a=decide (u.bS=1):=by unfold isP;rw [h]
 by_cases hk:u.bS=1
 ·rw [if_pos hk,List.filter_cons_of_pos (by rw [Tt,e];exact wP hk)];rfl
 ·rw [if_neg hk,List.filter_cons_of_neg (by rw [Tt,e];simpa using hk)];rfl
theorem NW {v:Int}:v ∈ uP vs a b ↔ ∃k:Nat,v=(k:Int)/\a<=k/\k<b/\∃u,vs[k]? = some u/\u.bS=1:=by
 unfold uP;rw [Il]
 constructor
 ·rintro ⟨i,hi,rfl⟩;obtain ⟨h1,h2⟩:=Hu.1 hi;have h1:=Lj.1 h1;refine ⟨a+i,rfl,by omega,by omega,?_⟩;unfold isP at h2
  split at h2
  ·exact ⟨_,‹_›,by simpa using h2⟩
  ·cases h2
 ·rintro ⟨k,rfl,h1,h2,u,h3,h4⟩;refine ⟨k - a,Hu.2 ⟨Lj.2 (by omega),?_⟩,by congr 1;omega⟩;rw [show a+(k - a)=k by omega];unfold isP;rw [h3];exact wP h4
theorem PE:(uP vs a b).Nodup:=by
 unfold uP;have h:((List.range (b - a)).filter λi=>isP vs (a+i)).Nodup:=List.nodup_range.filter _;exact List.pairwise_map.2 (h.imp λ{x y} hxy e=>hxy (by omega))
end
theorem QR (a b:List aB):Be (a++b)=Be a++Be b:=by
 induction a with
 | nil=>rw [gK,Be,gK]
 | cons x a ih=>rw [iN,Be,Be,ih,Hv]
theorem dvL_one (s:aB) (h1:s.bO=[]) (h2:s.fE=[]):Be [s]=Li s:=by
 rw [Be,Be,iD,MS,h1,h2,Be,iD,iD]
theorem IF {s:aB} (h1:s.gA ≠ [102,111,114]) (h2:s.gA ≠ [108,101,116]):Li s=[]:=by
 unfold Li;rw [if_neg];rintro (h | h);exact h1 h;exact h2 h
theorem Ou {α:Type} (l:List α) (x:α):(l++[x])[l.length]? = some x:=by rw [Nr (sK _),Nat.sub_self];rfl
theorem OT.dv {as:List Int} {gE:Int} {ps vs vs':List aM} {l:List aF} {i:Nat} {o:List aB} {own:List Int} (h:OT as gE ps vs l i o own vs'):Be o=uP vs' vs.length vs'.length/\own.length=l.length:=by
 induction h with
 | nil=>rw [Be,tD];exact ⟨rfl,rfl⟩
 | arr _ _ ih=>exact ⟨ih.1,by simp only [dY,ih.2]⟩
 | @val vs y l i u o own vs' _ hu h ih=>
   refine ⟨?_,by simp only [dY,ih.2]⟩;have hp:=h.pre.length_le;rw [mA,uZ] at hp;have hg:vs'[vs.length]? = some u:=Ff h.pre (Ou vs u);rw [oB (xej _) hp,BK hg,Be,MS,ih.1,mA,uZ];simp only [Be,iD]
   congr 1
   unfold Li
   by_cases hk:u.bS=1
   ·simp only [if_pos hk];rw [if_pos (.inr trivial)]
   ·simp only [if_neg hk];rw [if_neg (by decide)]
theorem own_pub {fv v1:List aM} {own:List Int} {pn:Nat} (hpn:pn<=fv.length) (hol:own.length=pn):(uP fv pn fv.length).map (mp (own++DM v1.length (fv.drop pn).length))=uP (v1++fv.drop pn) v1.length (v1++fv.drop pn).length:=by
 unfold uP;rw [mA,Ph,Nat.add_sub_cancel_left,xee]
 have e1:∀i,i<fv.length - pn->isP fv (pn+i)=isP (v1++fv.drop pn) (v1.length+i):=λi hi=>by
  unfold isP;rw [Nr (by omega),xef,Nat.add_sub_cancel_left]
 rw [Tb λi hi=>e1 i (Lj.1 hi)];refine Rn λi hi=>?_;have hi:=Lj.1 (Hu.1 hi).1;show mp _ ((pn+i:Nat):Int)=_;unfold mp;have hl:(DM v1.length (fv.length - pn)).length=fv.length - pn:=by simp [DM]
 rw [if_neg (by rw [mA,hl];omega),Dj,Nr (by omega),hol,Nat.add_sub_cancel_left];unfold DM;rw [iE,xfe hi];rfl
theorem TB.le {sg:Qq} {vs:List aM} {res:Int} {lf:Bool} {n n':Nat} {sc sc':List Int} {l:List aB} (h:TB sg vs res lf n sc l n' sc'):n<=n':=by
 induction h with
 | nil | ret | retc=>exact sK _
 | let_ _ _ _ _ _ ih=>omega
 | var_ _ _ _ _ ih=>omega
 | arr _ _ _ ih=>omega
 | callv _ _ _ _ _ _ ih=>omega
 | set _ _ _ _ _ _ ih=>exact ih
 | calls _ _ _ _ _ _ _ ih=>exact ih
 | put _ _ _ _ _ _ _ _ _ ih=>exact ih
 | do_ _ _ _ ih=>exact ih
 | if_ _ _ _ _ _ i1 i2 i3=>omega
 | for_ _ _ _ _ _ _ _ _ i1 i2=>omega
def SY (res:Int) (b:aB):Prop:=b.bO=[]/\b.fE=[]/\(b.gA=[114,101,116,117,114,110] ∨ b.gA=[115,101,116] ∨ b.gA=[118,97,114]/\b.gT=res)
theorem SY.bat {res:Int} {b:aB} (h:SY res b) (a:Int):SY res (FG b a):=by
 obtain ⟨b1,b2,b3,b4,b5⟩:=BA b a;unfold SY;rw [b1,b3,b4,b5];exact h
theorem SY.dv {res:Int} {b:aB} (h:SY res b):b.gA ≠ [102,111,114]/\b.gA ≠ [108,101,116]:=by
 obtain ⟨_,_,h | h | ⟨h,_⟩⟩:=h <;> rw [h] <;> decide
theorem QY {res:Int} {b:aB} (h:SY res b) (a v f:Int) (l:List aF):Be [⟨(FG b a).gA,v,f,l,(FG b a).bO,(FG b a).fE,(FG b a).fG⟩]=[]:=by
 have e:=dvL_one ⟨(FG b a).gA,v,f,l,(FG b a).bO,(FG b a).fE,(FG b a).fG⟩ (h.bat a).1 (h.bat a).2.1;exact e.trans (IF (h.bat a).dv.1 (h.bat a).dv.2)
def DvR (c:aG) (vs:List aM) (l:List aB) (as:List Int) (b:aB) (out:List aB) (vs':List aM):Prop:=
 ∀ {j:Nat} {vsC:List aM} {res:Int} {lf:Bool} {n:Nat} {sc:List Int} {n':Nat} {sc':List Int},TB (EH c j) vsC res lf n sc l n' sc'->(∀u ∈ vsC,Ex u)->(res=0 ∨ res=2 ∨ res=3)->SY res b ->
  (Be out).Perm ((uP vsC n n').map (mp as)++uP vs' vs.length vs'.length)
theorem perm4 {α:Type} {a b c d e f:List α} (h1:a.Perm b) (h2:c.Perm (d++e)) (h3:f=b++e):(a++c).Perm (d++f):=by
 subst h3;refine (h1.append h2).trans ?_;rw [←Hv,←Hv];exact List.Perm.append_right _ List.perm_append_comm
section
variable {c:aG} {rk:Int->Nat}
theorem call_dv (hp:PO c rk) {j:Nat} {vsC vs v1 v2:List aM} {sc:List Int} {as own:List Int} {fi r:Int} {ps:List aM} {xs:List aF} {a:Int} {f:aT} {o1 o2:List aB} {b':aB}
  (hsg:EH c j fi r ps) (hta:Bh vsC sc ps xs) (hf:bL c.p_.bF fi=some f) (hA:OT as a f.aW vs xs 0 o1 own v1) (hB:JD c.p_ (v1++f.aW.drop f.bB.toNat) f.bO (own++DM v1.length (f.aW.drop f.bB.toNat).length) b' o2 v2)
  (ih:DvR c (v1++f.aW.drop f.bB.toNat) f.bO (own++DM v1.length (f.aW.drop f.bB.toNat).length) b' o2 v2) (hbk:SY r b'):(Be (o1++o2)).Perm (uP v2 vs.length v2.length):=by
 obtain ⟨_,f',hf',hr,hps⟩:=hsg;obtain rfl:f=f':=Option.some.inj (hf.symm.trans hf');subst hr hps
 obtain ⟨fn,rfl⟩:∃k:Nat,fi=(k:Int):=by
  unfold bL at hf
  split at hf
  ·exact ⟨fi.toNat,by omega⟩
  ·exact nomatch hf
 have hfg:=Am hf;have hfm:=DS hfg;have tf:=hp.tf fn f hfg;obtain ⟨vl1,vl2,vl3⟩:=hp.co.vl f hfm;obtain ⟨ki1,ki2⟩:=hp.co.ki f hfm;obtain ⟨sc'',htb⟩:=tf.body;have hpl:(f.aW.take f.bB.toNat).length=f.bB.toNat:=by rw [JE];omega
 have hxl:xs.length=f.bB.toNat:=hta.1.trans hpl;obtain ⟨d1,d2⟩:=hA.dv;have d3:=ih (j:=fn) htb ki1 ki2 hbk;rw [own_pub (by omega) (d2.trans hxl)] at d3;have hq1:=hA.pre.length_le;have hq2:=hB.pre.length_le;have hq3:v1.length<=(v1++f.aW.drop f.bB.toNat).length:=by rw [mA];omega
 rw [QR,d1,oB hq1 (JF hq3 hq2),oB (a:=v1.length) hq3 hq2];have e1:=BJ (a:=vs.length) ((Mo v1 (f.aW.drop f.bB.toNat)).trans hB.pre) (sK _);have e2:=BJ (a:=v1.length) hB.pre (sK _);rw [e1,e2];exact List.Perm.append_left _ d3
theorem secT_ne (t:Int):GY t ≠ 1:=by unfold GY;split <;> omega
theorem dv_all (hp:PO c rk) {vs vs':List aM} {l:List aB} {as:List Int} {b:aB} {out:List aB} (h:JD c.p_ vs l as b out vs'):DvR c vs l as b out vs':=by
 generalize hcp:c.p_=p at h
 induction h with
 | nil=>
   intro j vsC res lf n sc n' sc' htb hv hr hb;cases htb;rw [tD,tD,Be];exact .refl _
 | @call vs s l as b f o1 own v1 o2 v2 o3 v3 ho hf hA hp0 hp1 hB hrest ihB ihR=>
   subst hcp;intro j vsC res lf n sc n' sc' htb hv hr hb;have hq1:=(hA.pre.trans (Mo _ (f.aW.drop f.bB.toNat))).trans hB.pre
   -- what is behind the call
   have fin:∀ {n1:Nat} {sc1:List Int} {r:Int} {ps:List aM},EH c j s.gT r ps->Bh vsC sc ps s.aO->SY r (Pe f s as b)->TB (EH c j) vsC res lf n1 sc1 l n' sc'->n<=n1->uP vsC n n1=[]->(Be ((o1++o2)++o3)).Perm ((uP vsC n n').map (mp as)++uP v3 vs.length v3.length):=by
    intro n1 sc1 r ps h1 h2 h3 h4 h5 h6;rw [QR,oB h5 h4.le,h6,gK];refine perm4 (call_dv hp h1 h2 hf hA hB ihB h3) (ihR h4 hv hr hb) ?_;rw [oB hq1.length_le hrest.pre.length_le,BJ hrest.pre (sK _)]
   have tk0:s.fF ≠ -1->s.fF ≠ -2->∀r,SY r (Pe f s as b):=λh1 h2 r=>by
    unfold Pe;rw [if_neg h2,if_neg h1];exact ⟨rfl,rfl,.inr (.inl rfl)⟩
   have tk1:s.fF=-1->SY f.bX (Pe f s as b):=λh=>by unfold Pe;rw [if_neg (by rw [h];decide),if_pos h];exact ⟨rfl,rfl,.inr (.inr ⟨rfl,rfl⟩)⟩
   have tk2:s.fF=-2->SY res (Pe f s as b):=λh=>by unfold Pe;rw [if_pos h];exact hb.bat _
   cases htb with
   | let_=>exact absurd (show ([108,101,116]:cF)=[99,97,108,108] from ho) (by decide)
   | var_=>exact absurd (show ([118,97,114]:cF)=[99,97,108,108] from ho) (by decide)
   | arr=>exact absurd (show ([97,114,114]:cF)=[99,97,108,108] from ho) (by decide)
   | set=>exact absurd (show ([115,101,116]:cF)=[99,97,108,108] from ho) (by decide)
   | put=>exact absurd (show ([112,117,116]:cF)=[99,97,108,108] from ho) (by decide)
   | if_=>exact absurd (show ([105,102]:cF)=[99,97,108,108] from ho) (by decide)
   | for_=>exact absurd (show ([102,111,114]:cF)=[99,97,108,108] from ho) (by decide)
   | ret=>exact absurd (show ([114,101,116,117,114,110]:cF)=[99,97,108,108] from ho) (by decide)
   | callv k1 k2 k3 k4 k5 k6=>
     have k1':=k1;obtain ⟨_,f',hf',hr',_⟩:=k1'
     have:=(hp.co.ki f' (by
      unfold bL at hf'
      split at hf'
      ·exact DS hf'
      ·cases hf')).2
     refine fin k1 k2 (tk0 (by simp only;omega) (by simp only;omega) _) k6 (xej _) ?_;rw [BK k4,if_neg (by rw [k5,hr'];omega)]
   | calls k1 k2 k3 k4 k5 k6 k7=>
     have h0:=(AF k2).1;exact fin k4 k5 (tk0 (by simp only;omega) (by simp only;omega) _) k7 (sK _) tD
   | do_ k1 k2 k3=>
     have k1':=k1;obtain ⟨_,f',hf',hr',_⟩:=k1';obtain rfl:f=f':=Option.some.inj (hf.symm.trans hf');exact fin k1 k2 (by rw [hr'];exact tk1 rfl) k3 (sK _) tD
   | retc k1 k2 k3=>
     obtain ⟨rfl,rfl⟩:=hrest.nil_inv;exact fin k1 k3 (tk2 rfl) (.nil (l:=true) (n:=n) (sc:=sc)) (sK _) tD
 | @ret vs st l as b y r o v ho hl hnv hrest ihR=>
   intro j vsC res lf n sc n' sc' htb hv hr hb;cases htb with
   | let_=>exact absurd (show ([108,101,116]:cF)=[114,101,116,117,114,110] from ho) (by decide)
   | var_=>exact absurd (show ([118,97,114]:cF)=[114,101,116,117,114,110] from ho) (by decide)
   | arr=>exact absurd (show ([97,114,114]:cF)=[114,101,116,117,114,110] from ho) (by decide)
   | set=>exact absurd (show ([115,101,116]:cF)=[114,101,116,117,114,110] from ho) (by decide)
   | put=>exact absurd (show ([112,117,116]:cF)=[114,101,116,117,114,110] from ho) (by decide)
   | if_=>exact absurd (show ([105,102]:cF)=[114,101,116,117,114,110] from ho) (by decide)
   | for_=>exact absurd (show ([102,111,114]:cF)=[114,101,116,117,114,110] from ho) (by decide)
   | callv=>exact absurd (show ([99,97,108,108]:cF)=[114,101,116,117,114,110] from ho) (by decide)
   | calls=>exact absurd (show ([99,97,108,108]:cF)=[114,101,116,117,114,110] from ho) (by decide)
   | do_=>exact absurd (show ([99,97,108,108]:cF)=[114,101,116,117,114,110] from ho) (by decide)
   | retc=>exact absurd (show ([99,97,108,108]:cF)=[114,101,116,117,114,110] from ho) (by decide)
   | ret k1 k2 k3=>
     obtain ⟨rfl,rfl⟩:=hrest.nil_inv;rw [tD,tD,iD];exact .of_eq ((QY hb _ _ _ _).trans rfl)
 | @retv vs st l as b y r o v ho hl hv0 hrest ihR=>
   intro j vsC res lf n sc n' sc' htb hv hr hb;cases htb with
   | let_=>exact absurd (show ([108,101,116]:cF)=[114,101,116,117,114,110] from ho) (by decide)
   | var_=>exact absurd (show ([118,97,114]:cF)=[114,101,116,117,114,110] from ho) (by decide)
   | arr=>exact absurd (show ([97,114,114]:cF)=[114,101,116,117,114,110] from ho) (by decide)
   | set=>exact absurd (show ([115,101,116]:cF)=[114,101,116,117,114,110] from ho) (by decide)
   | put=>exact absurd (show ([112,117,116]:cF)=[114,101,116,117,114,110] from ho) (by decide)
   | if_=>exact absurd (show ([105,102]:cF)=[114,101,116,117,114,110] from ho) (by decide)
   | for_=>exact absurd (show ([102,111,114]:cF)=[114,101,116,117,114,110] from ho) (by decide)
   | callv=>exact absurd (show ([99,97,108,108]:cF)=[114,101,116,117,114,110] from ho) (by decide)
   | calls=>exact absurd (show ([99,97,108,108]:cF)=[114,101,116,117,114,110] from ho) (by decide)
   | do_=>exact absurd (show ([99,97,108,108]:cF)=[114,101,116,117,114,110] from ho) (by decide)
   | retc=>exact absurd (show ([99,97,108,108]:cF)=[114,101,116,117,114,110] from ho) (by decide)
   | ret k1 k2 k3=>
     obtain ⟨rfl,rfl⟩:=hrest.nil_inv
     have hF:b.gT ≠ 1:=by
      obtain ⟨_,_,h | h | ⟨_,h⟩⟩:=hb
      ·rw [hv0] at h;exact absurd h (by decide)
      ·rw [hv0] at h;exact absurd h (by decide)
      ·omega
     rw [tD,mA,uZ,BK (Ou vs _),if_neg (show ¬ b.gT=1 from hF),iD];exact .of_eq ((QY hb _ _ _ _).trans rfl)
 | @other vs s l as b o1 v1 o2 v2 o3 v3 h1 h2 hb1 hb2 hrest i1 i2 ihR=>
   subst hcp;intro j vsC res lf n sc n' sc' htb hv hr hb
   have dvc:∀s':aB,Be ([s']++o3)=Li s'++((Be s'.bO++Be s'.fE)++Be o3):=λs'=>by
    rw [xff,Be,MS,Hv]
   -- a statement in which none stand
   have one:∀ {n1:Nat} {sc1:List Int},s.bO=[]->s.fE=[]->TB (EH c j) vsC res lf n1 sc1 l n' sc'->n<=n1->Li { s with fF:=mp as s.fF,aO:=Lh as s.aO,bO:=o1,fE:=o2 }=(uP vsC n n1).map (mp as)->(Be ([{ s with fF:=mp as s.fF,aO:=Lh as s.aO,bO:=o1,fE:=o2 }]++o3)).Perm ((uP vsC n n').map (mp as)++uP v3 vs.length v3.length):=by
    intro n1 sc1 e1 e2 h4 h5 h6;rw [e1] at hb1;rw [e2] at hb2;obtain ⟨rfl,rfl⟩:=hb1.nil_inv;obtain ⟨rfl,rfl⟩:=hb2.nil_inv;rw [dvc,h6,oB h5 h4.le,Nq];simp only [Be,gK];exact (List.Perm.append_left _ (ihR h4 hv hr hb)).trans (.of_eq (Hv _ _ _).symm)
   cases htb with
   | callv=>exact absurd rfl h1
   | calls=>exact absurd rfl h1
   | do_=>exact absurd rfl h1
   | retc=>exact absurd rfl h1
   | ret=>exact absurd rfl h2
   | let_ k1 k2 k3 k4 k5=>
     refine one rfl rfl k5 (xej _) ?_;rw [BK k3,if_pos k4];unfold Li;rw [if_pos (.inr rfl)];rfl
   | var_ k1 k3 k4 k5=>
     refine one rfl rfl k5 (xej _) ?_;rw [BK k3,if_neg (by rw [k4];exact secT_ne _)];exact IF (by simp only;decide) (by simp only;decide)
   | arr k3 k4 k5=>
     refine one rfl rfl k5 (xej _) ?_;rw [BK k3,if_neg (by rw [k4];decide)];exact IF (by simp only;decide) (by simp only;decide)
   | set k1 k2 k3 k4 k5 k6=>
     refine one rfl rfl k6 (sK _) ?_;rw [tD];exact IF (by simp only;decide) (by simp only;decide)
   | put k1 k2 k3 k4 k5 k6 k7 k8 k9=>
     refine one rfl rfl k9 (sK _) ?_;rw [tD];exact IF (by simp only;decide) (by simp only;decide)
   | @if_ _ _ _ cc bb ee aa n1 sc1 n2 sc2 ss _ _ k1 k2 k3 k4 k5=>
     have p1:=i1 k3 hv hr hb;have p2:=i2 k4 hv hr hb;have p3:=ihR k5 hv hr hb;rw [dvc,IF (by simp only;decide) (by simp only;decide),gK,oB k3.le (JF k4.le k5.le),oB k4.le k5.le]
     have e:uP v3 vs.length v3.length=uP v1 vs.length v1.length++(uP v2 v1.length v2.length++uP v3 v2.length v3.length):=by
      rw [oB (vs:=v3) hb1.pre.length_le (JF hb2.pre.length_le hrest.pre.length_le),oB (vs:=v3) (a:=v1.length) hb2.pre.length_le hrest.pre.length_le,BJ (hb2.pre.trans hrest.pre) (sK _),BJ hrest.pre (sK _)]
     rw [e,Nq,Nq,List.perm_iff_count];intro x;have q1:=p1.count_eq x;have q2:=p2.count_eq x;have q3:=p3.count_eq x;simp only [List.count_append] at q1 q2 q3 ⊢;omega
   | @for_ _ _ _ xx yy uu bb aa n1 sc1 ss _ _ k1 k2 k3 k4 k5 k6 k7 k8=>
     obtain ⟨rfl,rfl⟩:=hb2.nil_inv;have p1:=i1 k7 hv hr hb;have p3:=ihR k8 hv hr hb;have hd:Li ({ gA:=[102,111,114],fF:=mp as (n:Int),gT:=0,aO:=Lh as [xx,yy],bO:=o1,fE:=[],fG:=aa }:aB)=[mp as (n:Int)]:=by unfold Li;rw [if_pos (.inl rfl)]
     rw [dvc,oB (xej n) (JF k7.le k8.le),oB (a:=n+1) k7.le k8.le,BK k5,if_pos k6]
     have e:uP v3 vs.length v3.length=uP v2 vs.length v2.length++uP v3 v2.length v3.length:=by
      rw [oB (vs:=v3) hb1.pre.length_le hrest.pre.length_le,BJ hrest.pre (sK _)]
     rw [e];simp only [Nq,iB,iZ,Be,iD];rw [hd,List.perm_iff_count];intro x;have q1:=p1.count_eq x;have q3:=p3.count_eq x;simp only [List.count_append] at q1 q3 ⊢;omega
theorem Flat_dv (hp:PO c rk) {n:Nat} {i:Int} {r:aT × Int} (h:vO n c.p_ i=some r) (he:r.2=0):(Be r.1.bO).Perm (uP r.1.aW r.1.bB.toNat r.1.aW.length):=by
 obtain ⟨k,fn,_,hfn,hr,hpre,hB,_⟩:=Rg hp h he;have hm:=DS hfn;obtain ⟨v1,v2,v3⟩:=hp.co.vl fn hm;obtain ⟨ki1,ki2⟩:=hp.co.ki fn hm;obtain ⟨sc',htb⟩:=(hp.tf k fn hfn).body;have e1:r.1.bB=fn.bB:=by rw [hr]
 have hd:=dv_all hp hB htb ki1 ki2 ⟨rfl,rfl,.inl rfl⟩
 have e2:∀l:List Int,l.map (mp [])=l:=λl=>by
  conv=>rhs;rw [←List.map_id l]
  exact Rn λv _=>PK v
 rw [e2] at hd;rw [e1,oB (a:=fn.bB.toNat) (show fn.bB.toNat<=fn.aW.length by omega) hpre.length_le,BJ hpre (sK _)];exact hd
end
structure O15 (f:aT) (p:Nat):Prop where
 par:f.bB=p
 pl:p<=f.aW.length
 v:f.aW.length<=4096
 tz:uX f.bO<=50000000
 fb:∃sc',FB f.aW f.bX true (qY p) f.bO sc'
 dv:(Be f.bO).Perm (uP f.aW p f.aW.length)
theorem Uu {n:Nat} (hn:200000000<=n) (s:cF) (i:Int):bK (nE n s i) λr=>r.2.2=true->∃p,O15 r.1 p:=by
 unfold nE;refine bK.iteb (λ_=>.some λh=>(nomatch h)) λhs=>?_;have hs:=Pb hs;refine (SX (n:=n) (s:=s) (by omega) (by omega)).bind λr hr=>?_;refine bK.iteb (λ_=>.some λh=>(nomatch h)) λhe=>?_;have he:r.2.1=0:=by simpa using he
 obtain ⟨c,rk,hc,hp⟩:=hr he;obtain ⟨r2,e2,h2,_⟩:=Wc hp.pg (n:=n) (i:=i) hp.rkN (by omega);rw [hc] at e2;rw [e2,gX];refine .some λh3=>?_;have h3:r2.2=0:=by simpa using h3
 rw [←hc] at e2;obtain ⟨p,a1,a2,a3,a4,a5,a6,sc',a7⟩:=of_flat hp hn e2 h3 (h2 h3);have hd:=Flat_dv hp e2 h3;rw [a1,Dj] at hd;exact ⟨p,a1,a2,a3,a6,⟨sc',a7⟩,hd⟩
theorem O15.dok {f:aT} {p:Nat} (h:O15 f p):DOk (qY p) (Be f.bO):=by
 refine ⟨h.dv.nodup_iff.2 PE,λv hv=>?_⟩;obtain ⟨k,rfl,h1,h2,_⟩:=NW.1 (h.dv.mem_iff.1 hv);exact ⟨λhm=>by have:=EO hm;omega,by omega⟩
theorem UL {f:List aB->Option (List Int)} {l:List aB} (hf:∀x ∈ l,f x.bO=some (uW x.bO)/\f x.fE=some (uW x.fE)) (hb:uX l<=100000000) :
  ∀(k v:Nat) (acc:List Int),l.length<v+k->v<=l.length->acc.length+(uW (l.drop v)).length<=100000000->qD f l k acc (v:Int)=some (acc++uW (l.drop v)):=by
 have hlen:=ED l;intro k
 induction k with
 | zero=>intro v acc h1 h2;omega
 | succ k ih=>
   intro v acc h1 h2 h4;unfold qD
   by_cases hv:v<l.length
   ·have hd:l.drop v=l[v]::l.drop (v+1):=Ny hv;obtain ⟨f1,f2⟩:=hf _ (Mp hv);have hm:uW (l.drop v)=ID l[v]++(uW l[v].bO++uW l[v].fE)++uW (l.drop (v+1)):=by rw [hd,uW,MQ]
    have hml:=congrArg List.length hm;simp only [mA] at hml;rw [if_pos (wP (by omega)),sS (vS hv),gX,f1,f2,cT (n:=(v:Int)+1) (by omega) (by omega),show ((v:Int)+1)=((v+1:Nat):Int) by omega]
    by_cases ho:l[v].gA=[102,111,114]
    ·have hfo:ID l[v]=[l[v].fF]:=by unfold ID;rw [if_pos ho]
     rw [hfo] at hml hm;rw [uZ] at hml;rw [if_pos (wP ho),tW (by simp only [uZ];omega),gX,tW (by simp only [mA,uZ];omega),gX,tW (by simp only [mA,uZ];omega),gX,ih (v+1) _ (by omega) (by omega) (by simp only [mA,uZ];omega),hm];simp only [Hv]
    ·have hfo:ID l[v]=[]:=by unfold ID;rw [if_neg ho]
     rw [hfo] at hml hm;rw [eP] at hml;rw [if_neg (by rw [xV];exact ho),gX,tW (by omega),gX,tW (by simp only [mA];omega),gX,ih (v+1) _ (by omega) (by omega) (by simp only [mA];omega),hm];simp only [Hv,gK]
   ·rw [if_neg (by rw [xV];omega),Tp (by omega),uW,iD]
theorem UM:∀(n:Nat) (l:List aB),uX l+1<n->uX l<=100000000->jG n l=some (uW l):=by
 intro n
 induction n with
 | zero=>intro l h;omega
 | succ n ih=>
   intro l h hb;show nZ (jG n) n l=_;unfold nZ;have hl:=ED l;have hs:=IE l
   have:=UL (f:=jG n) (l:=l) (λx hx=>by
    have h1:=JI hx;have h2:=xW x;exact ⟨ih _ (by omega) (by omega),ih _ (by omega) (by omega)⟩) hb n 0 [] (by omega) (by omega) (by rw [iL,eP];omega)
   rw [show ((0:Nat):Int)=0 from rfl] at this;rw [this,gX,iL,gK]
theorem Mz {n:Nat} {l:List aK} (h:∀x ∈ l,(eJ n).1 x=some true) (hl:l.length<=2) (hn:3<=n):(eJ (n+3)).2.1 l=some false:=by
 show dE (dL (sF (eJ n).1 n) (n+1)) (n+2) l=_
 have hk:∀k v:Nat,l.length<v+k->v<=l.length->eL (sF (eJ n).1 n) l k (v:Int)=some (.inl ()):=by
  intro k
  induction k with
  | zero=>intro v h1 h2;omega
  | succ k ih=>
    intro v h1 h2;unfold eL
    by_cases hv:v<l.length
    ·rw [if_pos (wP (by omega)),sS (vS hv),gX];unfold sF;rw [h _ (Mp hv),gX,gX,if_neg (by decide),cT (n:=(v:Int)+1) (by omega) (by omega),show ((v:Int)+1)=((v+1:Nat):Int) by omega];exact ih (v+1) (by omega) (by omega)
    ·rw [if_neg (by rw [xV];omega)]
 have:=hk (n+1) 0 (by omega) (LG _);rw [show ((0:Nat):Int)=0 from rfl] at this;unfold dE dL;rw [this];rfl
theorem NO {t:aK} (h:Sh false t):∀n,4*tm t+8<=n->(eJ n).1 t=some true:=by
 have step:∀ {t:aK} {n:Nat},1<=t.gA->t.gA<=17->zX t.gA=some (t.aO.length:Int)->(2<t.gA->t.N_=0)->(t.gA=2->t.N_<=255)->(eJ n).2.1 t.aO=some false->(eJ (n+1)).1 t=some true:=by
  intro t n h1 h2 h3 h4 h5 h6;show vT (eJ n).2.1 n t=_;unfold vT;rw [if_neg (by rw [xV];omega),if_neg (by rw [xV];omega),h3,gX,if_neg (by simp)]
  have hb:(if (t.gA == (2:Int))=true then some (decide ((255:Int)<t.N_)) else some false)=some false:=by
   by_cases h:t.gA=2
   ·rw [if_pos (by simpa using h),xem (by have:=h5 h;omega)]
   ·rw [if_neg (by simpa using h)]
  rw [hb]
  by_cases h:2<t.gA
  ·rw [if_pos (wP h),h4 h,if_neg (by decide),gX,if_neg (by decide),h6];rfl
  ·rw [if_neg (by rw [xV];exact h),gX,if_neg (by decide),h6];rfl
 have nl:∀ {n:Nat},6<=n->(eJ n).2.1 []=some false:=λ{n} hn=>by
  obtain ⟨m,rfl⟩:∃m,n=m+3:=⟨n - 3,by omega⟩;exact Mz (λx hx=>nomatch hx) (by simp) (by omega)
 induction h with
 | z e=>cases e
 | con=>
   intro n hn;obtain ⟨m,rfl⟩:∃m,n=m+1:=⟨n - 1,by omega⟩;exact step (by simp only;decide) (by simp only;decide) rfl (λh=>absurd h (by simp only;decide)) (λh=>absurd h (by simp only;decide)) (nl (by rw [tm,uY] at hn;omega))
 | var h1 h2=>
   intro n hn;obtain ⟨m,rfl⟩:∃m,n=m+1:=⟨n - 1,by omega⟩;exact step (by simp only;decide) (by simp only;decide) rfl (λh=>absurd h (by simp only;decide)) (λ_=>h2) (nl (by rw [tm,uY] at hn;omega))
 | @un o x ho hx ih=>
   intro n hn;rw [tm,uY,uY] at hn;obtain ⟨m,rfl⟩:∃m,n=m+3+1:=⟨n - 4,by omega⟩;refine step (by simp only;omega) (by simp only;omega) ?_ (λ_=>rfl) (λh=>absurd h (by simp only;omega)) (Mz (λy hy=>?_) (by simp) (by omega))
   ·rcases ho with rfl | rfl <;> rfl
   ·rw [Ak.1 hy];exact ih m (by omega)
 | @bin o x y h1 h2 hx hy i1 i2=>
   intro n hn;rw [tm,uY,uY,uY] at hn;obtain ⟨m,rfl⟩:∃m,n=m+3+1:=⟨n - 4,by omega⟩;refine step (by simp only;omega) (by simp only;omega) ?_ (λ_=>rfl) (λh=>absurd h (by simp only;omega)) (Mz (λz hz=>?_) (by simp) (by omega))
   ·unfold zX;rw [if_neg (by rw [xV];simp only;omega),if_neg (by rw [xV];simp only;omega)];rfl
   ·rcases AQ.1 hz with rfl | hz
    ·exact i1 m (by omega)
    ·rw [Ak.1 hz];exact i2 m (by omega)
theorem Qr {t:aK} (h:Sh false t) (hz:tm t<=2000) {n:Nat} (hn:200000000<=n):sG n t=some true:=by
 unfold sG;rw [La _ _ (by omega) (by omega),gX,if_pos (wP (by omega))];show (((eJ n).1 t).bind _).bind _=_;rw [NO h n (by omega)];rfl
section
variable {c:bQ} {v:Int}
theorem OO (h:v<0 ∨ (c.bN.length:Int)<=v):cJ c v=some (-1):=by
 unfold cJ
 by_cases h0:v<0
 ·rw [if_pos (wP h0)];rfl
 ·rw [if_neg (by rw [xV];exact h0),if_pos (wP (by omega))];rfl
theorem Nb {t:aK} (ht:bL c.bN v=some t):cJ c v=(some (t.gA != (2:Int))).bind λy2=>if y2=true then some (-1:Int) else (some t).bind λx14=>
  (if (decide ((IntKind.i64.wrap x14.N_)<(4:Int)))=true then
     if ((IntKind.i64.wrap x14.N_) == v)=true then some true
     else if (decide ((4:Int)<=(IntKind.i64.wrap x14.N_)))=true then if (decide ((IntKind.i64.wrap ((IntKind.i64.wrap x14.N_) - (4:Int)))<(c.gM.length:Int)))=true then (bL c.gM (IntKind.i64.wrap ((IntKind.i64.wrap x14.N_) - (4:Int)))).bind λx24=>some (x24 == v) else some false else some false
    else if (decide ((4:Int)<=(IntKind.i64.wrap x14.N_)))=true then if (decide ((IntKind.i64.wrap ((IntKind.i64.wrap x14.N_) - (4:Int)))<(c.gM.length:Int)))=true then (bL c.gM (IntKind.i64.wrap ((IntKind.i64.wrap x14.N_) - (4:Int)))).bind λx31=>some (x31 == v) else some false else some false).bind λy19=>
  if y19=true then some (IntKind.i64.wrap x14.N_) else some (-1:Int):=by
 obtain ⟨h0,h1⟩:=AF ht;unfold cJ;rw [if_neg (by rw [xV];omega),if_neg (by rw [xV];omega),ht];rfl
theorem VI {t:aK} (ht:bL c.bN v=some t) (h:t.gA ≠ 2):cJ c v=some (-1):=by
 rw [Nb ht,gX,if_pos (by simpa using h)]
theorem VH {i:Nat} (ht:bL c.bN (i:Int)=some ⟨2,(i:Int),[]⟩) (h:i<4):cJ c (i:Int)=some (i:Int):=by
 rw [Nb ht,gX,if_neg (by simp),gX];simp only;rw [cT (n:=(i:Int)) (by omega) (by omega),if_pos (wP (by omega)),if_pos (by simp)];rfl
theorem VJ {k:Nat} (ht:bL c.bN v=some ⟨2,((4+k:Nat):Int),[]⟩) (hk:c.gM[k]? = some v) (h:k<=250):cJ c v=some ((4+k:Nat):Int):=by
 have hl:=(vL.1 hk).1;rw [Nb ht,gX,if_neg (by simp),gX];simp only;rw [cT (n:=((4+k:Nat):Int)) (by omega) (by omega),cT (n:=((4+k:Nat):Int) - 4) (by omega) (by omega),if_neg (by rw [xV];omega),if_pos (wP (by omega)),if_pos (wP (by omega)),show ((4+k:Nat):Int) - 4=(k:Int) by omega,sS hk,gX,gX,if_pos (by simp)]
end
structure CW (f:aT) (p:Nat) (c:bQ):Prop where
 p4:p<=4
 fl:(uW f.bO).length<=250
 fors:c.gM=uW f.bO
 low:c.sZ.length=4+(uW f.bO).length
 high:c.nD.length=4+(uW f.bO).length
 terms:c.bN.length=f.aW.length
 wl:Cn c.sZ/\Cn c.nD
 word:∀(k:Nat) v,(uW f.bO)[k]? = some v->cJ c v=some ((4+k:Nat):Int)
 non:∀(i:Nat) u,f.aW[i]? = some u->u.bS ≠ 1->bL c.bN (i:Int)=some tz0
 par:∀(i:Nat) u,f.aW[i]? = some u->u.bS=1->i<p->bL c.bN (i:Int)=some ⟨2,(i:Int),[]⟩
 loc:∀(i:Nat) u,f.aW[i]? = some u->u.bS=1->p<=i->∃t,bL c.bN (i:Int)=some t/\Sh false t/\tm t<=2000
 qx:∀x ∈ Nt f.bO,QX c.bN (qY p++Be f.bO) x
theorem SV {f:aT} {p:Nat} (ho:O15 f p) {c:bQ} (h:Gs f p (c,0)):CW f p c:=by
 generalize hr:(c,(0:Int))=r at h
 cases h with
 | count=>injection hr with _ hr;cases hr
 | size=>injection hr with _ hr;cases hr
 | @ok y0 y sc' hI hT hB h4 hL=>
   injection hr with hr;subst hr
   have hF:y.c_.gM=uW f.bO:=by rw [hB.fors,hI.fors,gK]
   obtain ⟨d1,d2,d3⟩:=hB.ok ho.dok λv hv=>(EO hv).1
   have hun:∀(i:Nat),i<f.aW.length->(i:Int) ∉ Be f.bO->bL y.c_.bN (i:Int)=some (IM f.aW p i):=λi hi hm=>by
    rw [hB.un i (by omega) hm];exact sS (hI.t i hi)
   have hmem:∀(i:Nat),(i:Int) ∈ Be f.bO ↔ p<=i/\i<f.aW.length/\∃u,f.aW[i]? = some u/\u.bS=1:=λi=>by
    rw [ho.dv.mem_iff,NW]
    constructor
    ·rintro ⟨k,e,h1,h2,h3⟩;obtain rfl:k=i:=by omega
     exact ⟨h1,h2,h3⟩
    ·rintro ⟨h1,h2,h3⟩;exact ⟨i,rfl,h1,h2,h3⟩
   refine ⟨h4,hL,hF,by rw [hB.low,hI.low];rfl,by rw [hB.high,hI.high];rfl,hT.len,hB.w hI.w,λk v hk=>?_,λi u hu hk=>?_,λi u hu hk hi=>?_,λi u hu hk hi=>?_,d3⟩
   ·have:=d2 k v hk;rw [hI.fors,eP,Tt] at this;have hlt:=(vL.1 hk).1;exact VJ this (by rw [hF];exact hk) (by omega)
   ·have hlt:=(vL.1 hu).1
    rw [hun i hlt λhm=>by
     obtain ⟨_,_,u',e1,e2⟩:=(hmem i).1 hm;rw [hu] at e1;cases e1;exact hk e2]
    unfold IM;rw [hu];simp only
    rw [if_neg λh=>hk h.2]
   ·have hlt:=(vL.1 hu).1;rw [hun i hlt λhm=>by have:=(hmem i).1 hm;omega];unfold IM;rw [hu];simp only
    rw [if_pos ⟨hi,hk⟩]
   ·have hlt:=(vL.1 hu).1;exact d1 _ ((hmem i).2 ⟨hi,hlt,u,hu,hk⟩)
theorem cw_l1 {f:aT} {p:Nat} {c:bQ} (h:CW f p c):∀k v:Nat,(uW f.bO).length<v+k->v<=(uW f.bO).length->lT (uW f.bO) (c,0) k (v:Int)=some (.inl ()):=by
 have hfl:=h.fl;intro k
 induction k with
 | zero=>intro v h1 h2;omega
 | succ k ih=>
   intro v h1 h2;unfold lT
   by_cases hv:v<(uW f.bO).length
   ·have hg:=vS hv;rw [if_pos (wP (by omega)),sS hg,gX];show ((bL c.gM (v:Int)).bind _).bind _=_;rw [h.fors,sS hg,gX,if_neg (by simp),show cJ (c,(0:Int)).1 (uW f.bO)[v]=some ((4+v:Nat):Int) from h.word v _ hg,gX,gX,cT (n:=(4:Int)+v) (by omega) (by omega),if_neg (by simp),cT (n:=(v:Int)+1) (by omega) (by omega),show ((v:Int)+1)=((v+1:Nat):Int) by omega];exact ih (v+1) (by omega) (by omega)
   ·rw [if_neg (by rw [xV];omega)]
theorem cw_l2 {f:aT} {P:bG} {b:Bool} {p:Nat} {c:bQ} (ho:O15 f p) (h:CW f p c) {n:Nat} (hn:200000000<=n):∀k v:Nat,f.aW.length<v+k->v<=f.aW.length->iV n (f,P,b) (c,0) k (v:Int)=some (.inl ()):=by
 have hv4:=ho.v;have hp4:=h.p4;have hpar:=ho.par;intro k
 induction k with
 | zero=>intro v h1 h2;omega
 | succ k ih=>
   intro v h1 h2;unfold iV
   by_cases hv:v<f.aW.length
   ·have hg:=vS hv;rw [if_pos (wP (show (v:Int)<(f.aW.length:Int) by omega))];show ((bL f.aW (v:Int)).bind λx71=>(bL c.bN (v:Int)).bind _).bind _=_;rw [sS hg,gX,cT (n:=(v:Int)+1) (by omega) (by omega),show ((v:Int)+1)=((v+1:Nat):Int) by omega];have hr:=ih (v+1) (by omega) (by omega)
    by_cases hk:f.aW[v].bS=1
    ·have key:∃t,bL c.bN (v:Int)=some t/\Sh false t/\tm t<=2000/\(v<p->t=⟨2,(v:Int),[]⟩):=by
      by_cases hvp:v<p
      ·exact ⟨_,h.par v _ hg hk hvp,.var (by omega) (by omega),by rw [tm,uY];omega,λ_=>rfl⟩
      ·obtain ⟨t,k1,k2,k3⟩:=h.loc v _ hg hk (by omega);exact ⟨t,k1,k2,k3,λh=>absurd h hvp⟩
     obtain ⟨t,k1,k2,k3,k4⟩:=key;rw [k1,gX,if_neg (by simpa using hk),Qr k2 k3 hn,gX,if_neg (by decide),La _ _ (by omega) (by omega),gX,if_neg (by rw [xV];omega)]
     have hc:(if (decide ((v:Int)<f.bB))=true then (cJ c (v:Int)).bind λx100=>some (x100 != (v:Int)) else some false)=some false:=by
      by_cases hvp:v<p
      ·rw [k4 hvp] at k1;rw [if_pos (wP (by omega)),VH k1 (by omega),gX];simp
      ·rw [if_neg (by rw [xV];omega)]
     rw [hc,gX,if_neg (by decide)];exact hr
    ·have k1:=h.non v _ hg hk;rw [k1,gX,if_pos (by simpa using hk),if_neg (by decide),show cJ (c,(0:Int)).1 (v:Int)=some (-1) from VI k1 (by decide),gX,gX,if_neg (by decide)];exact hr
   ·rw [if_neg (by rw [xV];show ¬ (v:Int)<(f.aW.length:Int);omega)]
theorem Mr {n:Nat} (hn:200000000<=n) (ha:lS n=some true) (s:cF) (i:Int):kR n s i=some true:=by
 unfold kR;rw [ha,gX,if_neg (by decide)];obtain ⟨⟨f,P,b⟩,e,hr⟩:=Uu hn s i;rw [e,gX];cases b with
 | false=>rfl
 | true=>
   obtain ⟨p,ho⟩:=hr rfl;have ho:O15 f p:=ho;have hpar:=ho.par;obtain ⟨sc',hfb⟩:=ho.fb;have htz:=ho.tz;rw [if_neg (by simp)];obtain ⟨⟨c,z⟩,e2,h2⟩:=SU hpar ho.pl ho.v ho.tz hfb hn;rw [e2,gX,show jG n (f,P,true).1.bO=_ from UM n f.bO (by omega) (by omega),gX]
   generalize hz:(c,z)=q at h2
   cases h2 with
   | count h=>
     obtain rfl:z=136:=congrArg Prod.snd hz;rw [if_pos (by rfl),if_pos (by rfl)]
     by_cases h250:250<(uW f.bO).length
     ·rw [if_pos (wP (by omega))];rfl
     ·rw [if_neg (by rw [xV];omega),if_pos (wP (show (4:Int)<f.bB by omega))];rfl
   | size h4 h5=>
     obtain rfl:z=161:=congrArg Prod.snd hz;rw [if_pos (by rfl),if_neg (by simp),if_pos (by rfl),if_pos (wP (by omega)),wP (show f.bB<=(4:Int) by omega)];rfl
   | @ok y0 y sc' hI hT hB h4 hL=>
     obtain rfl:z=0:=congrArg Prod.snd hz;obtain rfl:c=y.c_:=congrArg Prod.fst hz;have h:=SV ho (.ok hI hT hB h4 hL);have hfl:=h.fl;have hvv:=ho.v;rw [if_neg (by simp),if_neg (by rw [xV];omega),if_neg (by rw [xV];show ¬ (4:Int)<f.bB;omega)];have q1:((y.c_,(0:Int)).1.gM.length:Int)=((uW f.bO).length:Int):=by rw [h.fors]
     have q2:((y.c_,(0:Int)).1.sZ.length:Int)=IntKind.i64.wrap (4+((uW f.bO).length:Int)):=by rw [cT (by omega) (by omega),h.low];omega
     have q3:((y.c_,(0:Int)).1.nD.length:Int)=IntKind.i64.wrap (4+((uW f.bO).length:Int)):=by rw [cT (by omega) (by omega),h.high];omega
     have q4:((y.c_,(0:Int)).1.bN.length:Int)=((f,P,true).1.aW.length:Int):=by rw [h.terms]
     rw [q1,q2,q3,q4,if_neg (by simp),if_neg (by simp),if_neg (by simp),gX,if_neg (by simp)];have w1:=cw_l1 h n 0 (by omega) (LG _);have w2:=cw_l2 (P:=P) (b:=true) ho h hn n 0 (by omega) (LG _);rw [show ((0:Nat):Int)=0 from rfl] at w1 w2;have w3:cJ y.c_ (-1)=some (-1):=OO (.inl (by decide));have w4:cJ y.c_ (f.aW.length:Int)=some (-1):=OO (.inr (by rw [h.terms];exact Rl _));rw [w1,gX];show ((iV n (f,P,true) (y.c_,0) n 0).bind _)=_;rw [w2,gX];show ((cJ y.c_ (-1)).bind _).bind _=_;rw [w3,gX,if_pos (by decide),show cJ (y.c_,(0:Int)).1 ((f,P,true).1.aW.length:Int)=some (-1) from w4];rfl
theorem VF:lS 200000000=some true:=by kernel_rfl
theorem Pl:∃n,∀(s:cF) (i:Int),kR n s i=some true:=⟨_,Mr (sK _) VF⟩
