import Derived.Test.YtnnomaboaiokeaaGreatDoorLRwg
namespace Go.Proofs.YtnnomaboaiokeaaGreatDoor.Abs
open Go.RowKit
set_option linter.all false
def Kh (o:cJ):Prop:=o=[47] ∨ o=[37] ∨ o=[60,60] ∨ o=[62,62] ∨ o=[60,60,60] ∨ o=[42] ∨ o=[61,61] ∨ o=[60] ∨ o=[124] ∨ o=[94] ∨ o=[38] ∨ o=[43] ∨ o=[45]
inductive It (vs:List aL) (sc:List Int):aF->Prop
 | num {n a}:It vs sc ⟨[110,117,109],1,n,-1,[],a⟩
 | var {v u a}:v ∈ sc->bN vs v=some u->u.bT=1->It vs sc ⟨[118,97,114],1,0,v,[],a⟩
 | un {o x a}:(o=[110,111,116] ∨ o=[110,101,103])->It vs sc x->It vs sc ⟨o,1,0,-1,[x],a⟩
 | bin {o x y a}:Kh o->It vs sc x->It vs sc y->It vs sc ⟨o,1,0,-1,[x,y],a⟩
theorem HJ {a b:Int} (h:yM a b=1):a=1/\b=1:=by
 unfold yM at h
 split at h
 ·omega
 ·split at h <;> omega
theorem NT.pub {o:cJ} {x y:aF} (h:NT o x y 1):Kh o/\x.cK=1/\y.cK=1:=by
 unfold Kh
 rcases h with ⟨h1,h2,h3,_⟩ | ⟨h1,h2,_,h3⟩ | ⟨h1,h2,_,_⟩ | ⟨h1,_,h2⟩ | ⟨h1,h2,_⟩
 ·exact ⟨by rcases h1 with h | h <;> simp [h],h2,h3⟩
 ·exact ⟨by rcases h1 with h | h | h <;> simp [h],h3.symm,h2⟩
 ·exact ⟨by simp [h1],HJ h2.symm⟩
 ·split at h2
  ·omega
  ·exact ⟨by rcases h1 with h | h <;> simp [h],HJ h2.symm⟩
 ·exact ⟨by rcases h1 with h | h | h | h | h <;> simp [h],HJ h2.symm⟩
theorem TX.pub {vs:List aL} {sc:List Int} {x:aF} (h:TX vs sc x):x.cK=1->It vs sc x:=by
 induction h with
 | num=>exact λ_=>.num
 | @var v u a h1 h2 h3=>
   intro ht;have ht:u.bT=(1:Int):=ht;rw [ht];exact .var h1 h2 ht
 | index=>exact λht=>absurd (show (2:Int)=1 from ht) (by decide)
 | @un o x a h1 _ ih=>
   intro ht;have ht:x.cK=(1:Int):=ht;rw [ht];exact .un h1 (ih ht)
 | @bin o x y t a _ _ hb ih1 ih2=>
   intro ht;have ht:t=(1:Int):=ht;subst ht;obtain ⟨b1,b2,b3⟩:=hb.pub;exact .bin b1 (ih1 b2) (ih2 b3)
 | @sel c x y a _ _ _ _ _ _ _ _=>
   intro ht;have ht:HA (yM x.cK y.cK)=(1:Int):=ht;unfold HA at ht
   split at ht <;> omega
 | long=>exact λht=>absurd (show (3:Int)=1 from ht) (by decide)
 | wide=>exact λht=>absurd (show (3:Int)=1 from ht) (by decide)
 | half=>exact λht=>absurd (show (2:Int)=1 from ht) (by decide)
mutual
def tm:aN->Nat
 | ⟨_,_,l⟩=>1+vF l
def vF:List aN->Nat
 | []=>0
 | x::l=>tm x+vF l
end
theorem SD (x:aN):tm x=1+vF x.aP:=by cases x;rw [tm]
theorem tmL_app (a b:List aN):vF (a++b)=vF a+vF b:=by
 induction a with
 | nil=>rw [gK,vF,Cv]
 | cons x a ih=>rw [iH,vF,vF,ih,GB]
theorem SB (x:aN):1<=tm x:=by rw [SD];omega
theorem tmL_mem {l:List aN} {x:aN} (h:x ∈ l):tm x<=vF l:=by
 obtain ⟨a,b,rfl⟩:=Se h;rw [tmL_app,vF];omega
theorem Po (l:List aN):l.length<=vF l:=by
 induction l with
 | nil=>exact Kt _
 | cons x l ih=>have:=SB x;rw [dW,vF];omega
theorem tQ {α:Type} {l:List α} {i:Nat} {x:α} (h:l[i]? = some x):bN l (i:Int)=some x:=by rw [Nt];exact h
theorem UT {f:aN->Option Int} {t:aN} (hf:∀x ∈ t.aP,f x=some (tm x:Int)) (hb:tm t<=1000000000) :
  ∀(k v:Nat) (acc:Int),t.aP.length<v+k->v<=t.aP.length->0<=acc->acc+vF (t.aP.drop v)<=1000000000->zF f t k acc (v:Int)=some (acc+vF (t.aP.drop v)):=by
 have hlen:=Po t.aP;have hte:=SD t;intro k
 induction k with
 | zero=>intro v acc h1 h2;omega
 | succ k ih=>
   intro v acc h1 h2 h3 h4;unfold zF
   by_cases hv:v<t.aP.length
   ·have hd:t.aP.drop v=t.aP[v]::t.aP.drop (v+1):=NW hv;have f1:=hf _ (MD hv);rw [hd,vF] at h4;rw [if_pos (Ar (by omega)),tQ (vD hv),iR,f1,iR,cZ (n:=acc+_) (by omega) (by omega),cZ (n:=(v:Int)+1) (by omega) (by omega),show ((v:Int)+1)=((v+1:Nat):Int) by omega,ih (v+1) _ (by omega) (by omega) (by omega) (by omega),hd,vF]
    congr 1;omega
   ·rw [if_neg (by rw [BJ];omega),xef (by omega),vF]
    congr 1;omega
theorem UU:∀(n:Nat) (t:aN),tm t<n->tm t<=1000000000->vN n t=some (tm t:Int):=by
 intro n
 induction n with
 | zero=>intro t h;omega
 | succ n ih=>
   intro t h hb;show wT (vN n) n t=_;unfold wT;have hl:=Po t.aP;have he:=SD t
   have:=UT (f:=vN n) (t:=t) (λx hx=>by
    have h1:=tmL_mem hx;exact ih _ (by omega) (by omega)) hb n 0 1 (by omega) (by omega) (by omega) (by rw [iE];omega)
   rw [show ((0:Nat):Int)=0 from rfl] at this;rw [this,iR,iE]
   congr 1;omega
inductive Sh (b:Bool):aN->Prop
 | z:b=true->Sh b ⟨0,0,[]⟩
 | con {v}:Sh b ⟨1,v,[]⟩
 | var {k}:0<=k->k<=255->Sh b ⟨2,k,[]⟩
 | un {o x}:(o=3 ∨ o=4)->Sh b x->Sh b ⟨o,0,[x]⟩
 | bin {o x y}:5<=o->o<=17->Sh b x->Sh b y->Sh b ⟨o,0,[x,y]⟩
theorem Sh.mono {b b':Bool} (hb:b=true->b'=true) {t:aN} (h:Sh b t):Sh b' t:=by
 induction h with
 | z e=>exact .z (hb e)
 | con=>exact .con
 | var h1 h2=>exact .var h1 h2
 | un h _ ih=>exact .un h ih
 | bin h1 h2 _ _ i1 i2=>exact .bin h1 h2 i1 i2
theorem PS {a b:Int}:0<=AO .u32 a b:=by unfold AO;rw [IntKind.wrap_u32];omega
theorem RF {a b:Int}:0<=AO .u64 a b:=by unfold AO;rw [IntKind.wrap_u64];omega
theorem FD (b:Bool):tU b=some (if b=true then 1 else 0):=by unfold tU;cases b <;> rfl
theorem rot_tot (a b:Int):bK (lM a b) λ_=>True:=by
 unfold lM;refine bK.need RF (bK.need ?_ (.some trivial));rw [IntKind.wrap_u64];omega
theorem QU (o a b:Int):bK (yQ o a b) λ_=>True:=by
 unfold yQ;refine bK.iteb (λ_=>.some trivial) λ_=>bK.iteb (λ_=>.some trivial) λ_=>bK.iteb (λ_=>.some trivial) λ_=>bK.iteb (λ_=>.need PS (.some trivial)) λ_=>bK.iteb (λ_=>.need PS (.some trivial)) λ_=>?_;exact (rot_tot _ _).bind λ_ _=>.some trivial
theorem two_tot (o a b:Int):bK (Dj o a b) λ_=>True:=by
 unfold Dj;rw [FD,FD];refine bK.iteb (λ_=>.some trivial) λ_=>bK.iteb (λ_=>.some trivial) λ_=>bK.iteb (λ_=>.some trivial) λ_=>bK.iteb (λ_=>.some trivial) λ_=>bK.iteb (λ_=>.some trivial) λ_=>bK.iteb (λ_=>?_) λ_=>bK.iteb (λ_=>?_) λ_=>?_
 ·exact bK.iteb (λ_=>.some trivial) λh=>bK.need (by simpa using h) (.some trivial)
 ·exact bK.iteb (λ_=>.some trivial) λh=>bK.need (by simpa using h) (.some trivial)
 ·exact (QU _ _ _).bind λ_ _=>.some trivial
theorem JH {b:Bool} {t:aN} (h:Sh b t) (hl:t.aP=[]) (ws:List Int):bK (AQ t ws) λ_=>True:=by
 unfold AQ;cases h with
 | con=>exact bK.iteb (λ_=>.some trivial) λh=>nomatch h
 | z e=>
   refine bK.iteb (λh=>absurd h (by decide)) λ_=>bK.iteb (λh=>?_) λ_=>.some trivial;have h:=BI h;rw [cZ (by decide) (by decide)] at h;exact (bK.idx (Q:=λ_=>True) (xeb _) h λ_ _=>trivial).bind λ_ _=>.some trivial
 | @var k h1 h2=>
   refine bK.iteb (λh=>nomatch h) λ_=>bK.iteb (λh=>?_) λ_=>.some trivial;have h:=BI h;rw [cZ (show -9223372036854775808<=k by omega) (show k<=9223372036854775807 by omega)] at h;exact (bK.idx (Q:=λ_=>True) h1 h λ_ _=>trivial).bind λ_ _=>.some trivial
 | un=>cases hl
 | bin=>cases hl
theorem US {b:Bool} {t:aN} (h:Sh b t) (ws:List Int):∀n,tm t<n->bK (sB n t ws) λ_=>True:=by
 induction h with
 | z e=>
   intro n hn;obtain ⟨m,rfl⟩:∃m,n=m+1:=⟨n - 1,by omega⟩;show bK (mV (sB m) m _ ws) _;unfold mV;rw [if_pos (by rfl)];exact (JH (Sh.z (b:=b) e) rfl ws).bind λ_ _=>.some trivial
 | con=>
   intro n hn;obtain ⟨m,rfl⟩:∃m,n=m+1:=⟨n - 1,by omega⟩;show bK (mV (sB m) m _ ws) _;unfold mV;rw [if_pos (by rfl)];exact (JH (Sh.con (b:=b)) rfl ws).bind λ_ _=>.some trivial
 | var h1 h2=>
   intro n hn;obtain ⟨m,rfl⟩:∃m,n=m+1:=⟨n - 1,by omega⟩;show bK (mV (sB m) m _ ws) _;unfold mV;rw [if_pos (by rfl)];exact (JH (Sh.var (b:=b) h1 h2) rfl ws).bind λ_ _=>.some trivial
 | @un o x ho hx ih=>
   intro n hn;obtain ⟨m,rfl⟩:∃m,n=m+1:=⟨n - 1,by omega⟩;rw [tm,vF,vF] at hn;show bK (mV (sB m) m _ ws) _;unfold mV;rw [if_neg (by simp)];refine bK.eqn (v:=x) rfl ?_;refine (ih m (by omega)).bind λr _=>?_;refine bK.eqn (v:=true) (by split <;> rfl) ?_;rw [if_pos rfl,FD,iR];have h1:bK (zL o r.1) λ_=>True:=by unfold zL;exact bK.iteb (λ_=>.some trivial) λ_=>.some trivial
   exact h1.bind λ_ _=>.some trivial
 | @bin o x y h1 h2 hx hy i1 i2=>
   intro n hn;obtain ⟨m,rfl⟩:∃m,n=m+1:=⟨n - 1,by omega⟩;rw [tm,vF,vF,vF] at hn;show bK (mV (sB m) m _ ws) _;unfold mV;rw [if_neg (by simp)];refine bK.eqn (v:=x) rfl ?_;refine (i1 m (by omega)).bind λr _=>?_;refine bK.bind (P:=λ_=>True) (by split <;> exact .some trivial) λc _=>?_;refine bK.iteb (λ_=>?_) λ_=>?_
   ·rw [FD,iR];have h1:bK (zL o r.1) λ_=>True:=by unfold zL;exact bK.iteb (λ_=>.some trivial) λ_=>.some trivial
    exact h1.bind λ_ _=>.some trivial
   ·refine bK.eqn (v:=y) rfl ?_;refine (i2 m (by omega)).bind λs _=>?_;exact bK.iteb (λ_=>.some trivial) λ_=>(two_tot _ _ _).bind λ_ _=>.some trivial
theorem UQ {b:Bool} {t:aN} (h:Sh b t):∀n,tm t+20<n->bK (oX n t) λr=>Sh b r/\tm r<=tm t:=by
 have fin:∀(m:Nat) (c:Bool) (r t:aN),Sh b r->tm r<=tm t->tm r<m->bK (if (!c)=true then some r else (sB m r []).bind λx=>if x.2=true then (FE x.1).bind λy=>some y else some r) λr=>Sh b r/\tm r<=tm t:=λm c r t h1 h2 h3=>by
  refine bK.iteb (λ_=>.some ⟨h1,h2⟩) λ_=>?_;refine (US h1 [] m h3).bind λx _=>bK.iteb (λ_=>?_) λ_=>.some ⟨h1,h2⟩;exact .some ⟨.con,by rw [tm,vF];have:=SB r;omega⟩
 induction h with
 | z e=>
   intro n hn;rw [tm,vF] at hn;obtain ⟨m,rfl⟩:∃m,n=m+2:=⟨n - 2,by omega⟩;show bK (mU (oX (m+1)) (m+1) _) _;unfold mU pD;rw [if_neg (by decide),iR];exact fin _ _ _ _ (.z e) (tJ _) (by rw [tm,vF];omega)
 | con=>
   intro n hn;rw [tm,vF] at hn;obtain ⟨m,rfl⟩:∃m,n=m+2:=⟨n - 2,by omega⟩;show bK (mU (oX (m+1)) (m+1) _) _;unfold mU pD;rw [if_neg (by simp),iR];exact fin _ _ _ _ .con (tJ _) (by rw [tm,vF];omega)
 | var h1 h2=>
   intro n hn;rw [tm,vF] at hn;obtain ⟨m,rfl⟩:∃m,n=m+2:=⟨n - 2,by omega⟩;show bK (mU (oX (m+1)) (m+1) _) _;unfold mU pD;rw [if_neg (by simp),iR];exact fin _ _ _ _ (.var h1 h2) (tJ _) (by rw [tm,vF];omega)
 | @un o x ho hx ih=>
   intro n hn;rw [tm,vF,vF] at hn;obtain ⟨m,rfl⟩:∃m,n=m+3:=⟨n - 3,by omega⟩;show bK (mU (oX (m+2)) (m+2) _) _;unfold mU;obtain ⟨x',hx',s1,s2⟩:=ih (m+2) (by omega);refine bK.bind (P:=λr=>Sh b r.2/\tm r.2<=1+tm x) ?_ λr hr=>fin _ _ _ _ hr.1 (by rw [tm,vF,vF];omega) (by omega);unfold pD;rw [if_pos (by simp)];refine bK.eqn (v:=x) rfl ?_;rw [hx',iR];refine bK.need (by simp) ?_;refine bK.bind (P:=λ_=>True) (by split <;> exact .some trivial) λc _=>?_;rw [cZ (by decide) (by decide)];unfold pD;rw [if_neg (by simp)];exact .some ⟨.un ho s1,by simp only [gK];rw [tm,vF,vF];omega⟩
 | @bin o x y h1 h2 hx hy i1 i2=>
   intro n hn;rw [tm,vF,vF,vF] at hn;obtain ⟨m,rfl⟩:∃m,n=m+4:=⟨n - 4,by omega⟩;show bK (mU (oX (m+3)) (m+3) _) _;unfold mU;obtain ⟨x',hx',s1,s2⟩:=i1 (m+3) (by omega);obtain ⟨y',hy',s3,s4⟩:=i2 (m+3) (by omega);refine bK.bind (P:=λr=>Sh b r.2/\tm r.2<=1+tm x+tm y) ?_ λr hr=>fin _ _ _ _ hr.1 (by rw [tm,vF,vF,vF];omega) (by omega);unfold pD;rw [if_pos (by simp)];refine bK.eqn (v:=x) rfl ?_;rw [hx',iR];refine bK.need (by simp) ?_;refine bK.bind (P:=λ_=>True) (by split <;> exact .some trivial) λc _=>?_;rw [cZ (by decide) (by decide)];unfold pD;rw [if_pos (by simp)];refine bK.eqn (v:=y) rfl ?_;rw [hy',iR];refine bK.need (by simp) ?_;refine bK.bind (P:=λ_=>True) (by split <;> exact .some trivial) λc _=>?_;rw [cZ (by decide) (by decide)];unfold pD;rw [if_neg (by simp)];exact .some ⟨.bin h1 h2 s1 s3,by simp only [gK,iH];rw [tm,vF,vF,vF];omega⟩
def Ni (a:cJ):Int:=((dP.find? λx=>decide (x.Ih=a)).map (·.op_)).getD 0
theorem op_l1 {a:cJ}:∀(c j:Nat),j<=15->15<j+c->AI a c (j:Int)=some (match (dP.drop j).find? (λx=>decide (x.Ih=a)) with | some x=>.inr x.op_ | none=>.inl ()):=by
 intro c
 induction c with
 | zero=>intro j h1 h2;omega
 | succ c ih=>
   intro j h1 h2;unfold AI;have hlen:dP.length=15:=by kernel_rfl
   by_cases hj:j<15
   ·rw [if_pos (Ar (by omega)),tQ (vD (by omega)),iR,NW (by omega),List.find?_cons];cases hd:decide (dP[j].Ih=a) with
    | true=>rw [if_pos rfl]
    | false=>
      rw [if_neg (by decide),cZ (by omega) (by omega)];exact ih (j+1) (by omega) (by omega)
   ·rw [if_neg (by rw [BJ];omega),xef (by omega)];rfl
theorem op_eq {n:Nat} (hn:16<=n) (a:cJ):AV n a=some (Ni a):=by
 unfold AV Ni;have:=op_l1 (a:=a) n 0 (by omega) (by omega);rw [iE] at this;rw [show ((0:Nat):Int)=0 from rfl] at this;rw [this,iR];cases dP.find? (λx=>decide (x.Ih=a)) <;> rfl
theorem op_two {o:cJ} (h:Kh o):5<=Ni o/\Ni o<=17:=by
 rcases h with h | h | h | h | h | h | h | h | h | h | h | h | h <;> subst h <;> decide
theorem op_one {o:cJ} (h:o=[110,111,116] ∨ o=[110,101,103]):Ni o=3 ∨ Ni o=4:=by
 rcases h with h | h <;> subst h <;> decide
abbrev tz0:aN:=⟨0,0,[]⟩
mutual
def Gl (T:List aN):aF->aN
 | ⟨o,_,n,v,l,_⟩=>if o=[110,117,109] then ⟨1,n,[]⟩ else if o=[118,97,114] then (bN T v).getD tz0 else ⟨Ni o,0,Be T l⟩
def Be (T:List aN):List aF->List aN
 | []=>[]
 | x::l=>Gl T x::Be T l
end
theorem Ha {T:List aN} {ty n v a:Int} {l:List aF}:Gl T ⟨[110,117,109],ty,n,v,l,a⟩=⟨1,n,[]⟩:=by rw [Gl,if_pos rfl]
theorem LN {T:List aN} {ty n v a:Int} {l:List aF} {t:aN} (h:bN T v=some t):Gl T ⟨[118,97,114],ty,n,v,l,a⟩=t:=by rw [Gl,if_neg (by decide),if_pos rfl,h];rfl
theorem CC {T:List aN} {o:cJ} {ty n v a:Int} {l:List aF} (h1:o ≠ [110,117,109]) (h2:o ≠ [118,97,114]):Gl T ⟨o,ty,n,v,l,a⟩=⟨Ni o,0,Be T l⟩:=by rw [Gl,if_neg h1,if_neg h2]
theorem HM {α:Type} {x:α} {l:List α}:bN (x::l) 0=some x:=rfl
theorem OK {α:Type} {x y:α} {l:List α}:bN (x::y::l) (0+1)=some y:=rfl
structure Ao (b:Bool) (vs:List aL) (sc:List Int) (T:List aN):Prop where
 len:T.length=vs.length
 ok:∀v ∈ sc,∀u,bN vs v=some u->u.bT=1->∃t,bN T v=some t/\Sh b t/\tm t<=2000
theorem Kh.ne {o:cJ} (h:Kh o):o ≠ [110,117,109]/\o ≠ [118,97,114]/\o ≠ [105,110,100,101,120]:=by
 rcases h with h | h | h | h | h | h | h | h | h | h | h | h | h <;> subst h <;> decide
theorem Sign1.ne {o:cJ} (h:o=[110,111,116] ∨ o=[110,101,103]):o ≠ [110,117,109]/\o ≠ [118,97,114]/\o ≠ [105,110,100,101,120]/\o ≠ [47]/\o ≠ [37]:=by
 rcases h with h | h <;> subst h <;> decide
section
variable {b:Bool} {vs:List aL} {sc:List Int} {c:bH} {x:aF}
theorem Jv (hT:Ao b vs sc c.bP) (h:It vs sc x):Sh b (Gl c.bP x)/\tm (Gl c.bP x)<=2000*xz x:=by
 induction h with
 | num=>rw [Ha];exact ⟨.con,by rw [tm,vF,xz,qP];omega⟩
 | var h1 h2 h3=>
   obtain ⟨t,k1,k2,k3⟩:=hT.ok _ h1 _ h2 h3;rw [LN k1];exact ⟨k2,by rw [xz,qP];exact k3⟩
 | un h _ ih=>
   obtain ⟨n1,n2,_⟩:=Sign1.ne h;rw [CC n1 n2,Be,Be];exact ⟨.un (op_one h) ih.1,by rw [tm,vF,vF,xz,qP,qP];have:=ih.2;omega⟩
 | bin h _ _ i1 i2=>
   obtain ⟨n1,n2,_⟩:=h.ne;rw [CC n1 n2,Be,Be,Be];obtain ⟨o1,o2⟩:=op_two h;exact ⟨.bin o1 o2 i1.1 i2.1,by rw [tm,vF,vF,vF,xz,qP,qP,qP];have:=i1.2;have:=i2.2;omega⟩
theorem Tg (hT:Ao b vs sc c.bP) (h:It vs sc x):∀n,xz x+20<n->iN n c x=some (Gl c.bP x):=by
 induction h with
 | num=>
   intro n hn;obtain ⟨m,rfl⟩:∃m,n=m+1:=⟨n - 1,by omega⟩;show eY (iN m) m c _=_;unfold eY;rw [Ha,if_pos (by rfl)];rfl
 | var h1 h2 h3=>
   intro n hn;obtain ⟨m,rfl⟩:∃m,n=m+1:=⟨n - 1,by omega⟩;show eY (iN m) m c _=_;unfold eY;obtain ⟨t,k1,k2,k3⟩:=hT.ok _ h1 _ h2 h3;rw [LN k1,if_neg (by simp),if_pos (by rfl),k1];rfl
 | @un o x a h hx ih=>
   intro n hn;rw [xz,qP,qP] at hn;obtain ⟨m,rfl⟩:∃m,n=m+3:=⟨n - 3,by omega⟩;show eY (iN (m+2)) (m+2) c _=_;unfold eY;obtain ⟨n1,n2,_⟩:=Sign1.ne h;rw [CC n1 n2,if_neg (by simpa using n1),if_neg (by simpa using n2),op_eq (by omega),iR];unfold jM;rw [if_pos (by simp),HM,iR,ih _ (by omega),iR,vI (by simp),cZ (by decide) (by decide)];unfold jM;rw [if_neg (by simp)];rfl
 | @bin o x y a h hx hy i1 i2=>
   intro n hn;rw [xz,qP,qP,qP] at hn;obtain ⟨m,rfl⟩:∃m,n=m+4:=⟨n - 4,by omega⟩;show eY (iN (m+3)) (m+3) c _=_;unfold eY;obtain ⟨n1,n2,_⟩:=h.ne;rw [CC n1 n2,if_neg (by simpa using n1),if_neg (by simpa using n2),op_eq (by omega),iR];unfold jM;rw [if_pos (by simp),HM,iR,i1 _ (by omega),iR,vI (by simp),cZ (by decide) (by decide)];unfold jM;rw [if_pos (by simp),OK,iR,i2 _ (by omega),iR,vI (by simp),cZ (by decide) (by decide)];unfold jM;rw [if_neg (by simp)];rfl
theorem Qk (hT:Ao b vs sc c.bP) (h:It vs sc x) (hb:xz x<=100000000):∀n,xz x+2100<n->iA n c x=some (tm (Gl c.bP x):Int):=by
 induction h with
 | num=>
   intro n hn;obtain ⟨m,rfl⟩:∃m,n=m+2:=⟨n - 2,by omega⟩;show eK (iA (m+1)) (m+1) c _=_;unfold eK gN;rw [Ha,if_neg (by simp),if_neg (by simp),tm,vF];rfl
 | var h1 h2 h3=>
   intro n hn;obtain ⟨m,rfl⟩:∃m,n=m+1:=⟨n - 1,by omega⟩;show eK (iA m) m c _=_;unfold eK;obtain ⟨t,k1,k2,k3⟩:=hT.ok _ h1 _ h2 h3;rw [LN k1,if_pos (by rfl),k1,iR,UU _ _ (by omega) (by omega)];rfl
 | @un o x a h hx ih=>
   intro n hn;rw [xz,qP,qP] at hn hb;obtain ⟨m,rfl⟩:∃m,n=m+3:=⟨n - 3,by omega⟩;show eK (iA (m+2)) (m+2) c _=_;unfold eK;obtain ⟨n1,n2,_⟩:=Sign1.ne h;have hz:=(Jv hT hx).2;rw [CC n1 n2,if_neg (by simpa using n2)];unfold gN;rw [if_pos (by simp),HM,iR,ih (by omega) _ (by omega),iR,cZ (n:=(1:Int)+_) (by omega) (by omega),cZ (by decide) (by decide)];unfold gN;rw [if_neg (by simp),Be,Be,tm,vF,vF,iR]
   congr 1
 | @bin o x y a h hx hy i1 i2=>
   intro n hn;rw [xz,qP,qP,qP] at hn hb;obtain ⟨m,rfl⟩:∃m,n=m+4:=⟨n - 4,by omega⟩;show eK (iA (m+3)) (m+3) c _=_;unfold eK;obtain ⟨n1,n2,_⟩:=h.ne;have hz:=(Jv hT hx).2;have hz2:=(Jv hT hy).2;rw [CC n1 n2,if_neg (by simpa using n2)];unfold gN;rw [if_pos (by simp),HM,iR,i1 (by omega) _ (by omega),iR,cZ (n:=(1:Int)+_) (by omega) (by omega),cZ (by decide) (by decide)];unfold gN;rw [if_pos (by simp),OK,iR,i2 (by omega) _ (by omega),iR,cZ (n:=(1:Int)+_+_) (by omega) (by omega),cZ (by decide) (by decide)];unfold gN;rw [if_neg (by simp),Be,Be,Be,tm,vF,vF,vF,iR]
   congr 1;omega
theorem It.type (h:It vs sc x):x.cK=1:=by cases h <;> rfl
theorem UL (hT:Ao b vs sc c.bP) (h:It vs sc x) (hb:xz x<=100000000) {n:Nat} (hn:xz x+2100<n) :
  bK (oY n c x) λr=>(r.2=0/\tm (Gl c.bP x)<=2000/\oX n (Gl c.bP x)=some r.1/\Sh b r.1/\tm r.1<=2000) ∨ (r.2=161/\2000<tm (Gl c.bP x)/\r.1=tz0):=by
 unfold oY;obtain ⟨s1,s2⟩:=Jv hT h;rw [h.type,if_neg (by decide),Qk hT h hb n hn,iR];refine bK.iteb (λh2=>.some (.inr ⟨rfl,by have:=BI h2;omega,rfl⟩)) λh2=>?_;have h2:=Pj h2;rw [Tg hT h n (by omega),iR];obtain ⟨r,hr,k1,k2⟩:=UQ s1 n (by omega);rw [hr,iR];exact .some (.inl ⟨rfl,by omega,rfl,k1,by show tm r<=2000;omega⟩)
end
def Er (a b:Int):Prop:=b=a ∨ a=0/\b=161
theorem Er.refl (a:Int):Er a a:=.inl rfl
theorem Er.trans {a b c:Int} (h:Er a b) (k:Er b c):Er a c:=by
 rcases h with rfl | ⟨rfl,rfl⟩
 ·exact k
 ·rcases k with rfl | ⟨h,_⟩
  ·exact .inr ⟨rfl,rfl⟩
  ·cases h
theorem Er.keep {a b:Int} (h:Er a b) (ha:a ≠ 0):b=a:=h.resolve_right λk=>ha k.1
theorem Er.zero {a b:Int} (h:Er a b) (hb:b=0):a=0:=by rcases h with rfl | ⟨h,_⟩;exact hb;exact h
section
variable {b:Bool} {vs:List aL} {sc:List Int} {y:aT} {x:aF}
theorem Ls (hT:Ao b vs sc y.c_.bP) (h:It vs sc x) (hb:xz x<=100000000) {n:Nat} (hn:xz x+2100<n) :
  bK (lA n y x) λr=>r.2.c_=y.c_/\Er y.e_ r.2.e_/\((tm (Gl y.c_.bP x)<=2000/\oX n (Gl y.c_.bP x)=some r.1/\Sh b r.1/\r.2.e_=y.e_) ∨ (2000<tm (Gl y.c_.bP x)/\r.1=tz0/\r.2.e_ ≠ 0))/\tm r.1<=2000:=by
 unfold lA;refine (UL hT h hb hn).bind λr hr=>?_;have hz:tm tz0<=2000:=by rw [tm,vF];omega
 refine bK.iteb (λh0=>.some ⟨rfl,?_,?_,?_⟩) λh0=>.some ⟨rfl,.inl rfl,?_,?_⟩
 ·have h0:y.e_=0:=by simpa using h0
  rcases hr with ⟨h1,_⟩ | ⟨h1,_⟩
  ·exact .inl (h1.trans h0.symm)
  ·exact .inr ⟨h0,h1⟩
 ·have h0:y.e_=0:=by simpa using h0
  rcases hr with ⟨h1,h2,h3,h4,_⟩ | ⟨h1,h2,h3⟩
  ·exact .inl ⟨h2,h3,h4,h1.trans h0.symm⟩
  ·exact .inr ⟨h2,h3,by show r.2 ≠ 0;rw [h1];decide⟩
 ·rcases hr with ⟨_,_,_,_,h5⟩ | ⟨_,_,h3⟩
  ·exact h5
  ·rw [h3];exact hz
 ·have h0:y.e_ ≠ 0:=by simpa using h0
  rcases hr with ⟨h1,h2,h3,h4,_⟩ | ⟨h1,h2,h3⟩
  ·exact .inl ⟨h2,h3,h4,rfl⟩
  ·exact .inr ⟨h2,h3,h0⟩
 ·rcases hr with ⟨_,_,_,_,h5⟩ | ⟨_,_,h3⟩
  ·exact h5
  ·rw [h3];exact hz
def UM (y r:aT):Prop:=r.c_=y.c_/\Er y.e_ r.e_
theorem UM.refl (y:aT):UM y y:=⟨rfl,.inl rfl⟩
theorem UM.trans {y z r:aT} (h:UM y z) (k:UM z r):UM y r:=⟨k.1.trans h.1,h.2.trans k.2⟩
theorem look_l2 {n:Nat} (hP:∀z ∈ x.aP,It vs sc z) (hb:qP x.aP<=100000000) (hn:qP x.aP+2100<n):∀(k v:Nat) (y:aT),Ao b vs sc y.c_.bP->x.aP.length<v+k->v<=x.aP.length->bK (pU n x k (v:Int) y) (UM y):=by
 have hlen:=zE x.aP;intro k
 induction k with
 | zero=>intro v y hT h1 h2;omega
 | succ k ih=>
   intro v y hT h1 h2;unfold pU;refine bK.iteb (λhv=>?_) λhv=>.some (.refl y);have hv:v<x.aP.length:=by have:=BI hv;omega
   refine bK.eqn (tQ (vD hv)) ?_;have hm:=Ay (MD hv);refine (Ls hT (hP _ (MD hv)) (by omega) (by omega)).bind λr hr=>?_;rw [cZ (by omega) (by omega),show ((v:Int)+1)=((v+1:Nat):Int) by omega];exact (ih (v+1) r.2 (by rw [hr.1];exact hT) (by omega) (by omega)).mono λz hz=>UM.trans ⟨hr.1,hr.2.1⟩ hz
theorem look_l1 {f:aT->aF->Option aT} (hf:∀z ∈ x.aP,∀y:aT,Ao b vs sc y.c_.bP->bK (f y z) (UM y)) (hb:qP x.aP<=100000000):∀(k v:Nat) (y:aT),Ao b vs sc y.c_.bP->x.aP.length<v+k->v<=x.aP.length->bK (pV f x k (v:Int) y) (UM y):=by
 have hlen:=zE x.aP;intro k
 induction k with
 | zero=>intro v y hT h1 h2;omega
 | succ k ih=>
   intro v y hT h1 h2;unfold pV;refine bK.iteb (λhv=>?_) λhv=>.some (.refl y);have hv:v<x.aP.length:=by have:=BI hv;omega
   refine bK.eqn (tQ (vD hv)) ?_;refine (hf _ (MD hv) y hT).bind λr hr=>?_;rw [cZ (by omega) (by omega),show ((v:Int)+1)=((v+1:Nat):Int) by omega];exact (ih (v+1) r (by rw [hr.1];exact hT) (by omega) (by omega)).mono λz hz=>hr.trans hz
theorem TX.list (h:TX vs sc x):(∀z ∈ x.aP,TX vs sc z)/\((x.iB=[105,110,100,101,120] ∨ x.iB=[47] ∨ x.iB=[37])->∀z ∈ x.aP,It vs sc z):=by
 have one:∀ {P:aF->Prop} {x},P x->∀z ∈ [x],P z:=λh z hz=>by rw [As.1 hz];exact h
 have two:∀ {P:aF->Prop} {x y},P x->P y->∀z ∈ [x,y],P z:=λh k z hz=>by
  rcases AP.1 hz with rfl | hz
  ·exact h
  ·exact one k z hz
 have tri:∀ {P:aF->Prop} {x y u},P x->P y->P u->∀z ∈ [x,y,u],P z:=λh k l z hz=>by
  rcases AP.1 hz with rfl | hz
  ·exact h
  ·exact two k l z hz
 cases h with
 | num=>exact ⟨λ_ h=>(nomatch h),λ_ _ h=>(nomatch h)⟩
 | var=>exact ⟨λ_ h=>(nomatch h),λ_ _ h=>(nomatch h)⟩
 | index h1 h2 h3 h4 h5 h6=>exact ⟨one h4,λ_=>one (h4.pub h5)⟩
 | un h1 h2=>
   obtain ⟨_,_,n3,n4,n5⟩:=Sign1.ne h1;exact ⟨one h2,λh=>h.elim (λh=>absurd h n3) λh=>h.elim (λh=>absurd h n4) λh=>absurd h n5⟩
 | @bin o x y t a h1 h2 h3=>
   refine ⟨two h1 h2,λh=>?_⟩
   have ho:o=[47] ∨ o=[37]:=by
    rcases h with h | h
    ·exfalso
     have h:o=[105,110,100,101,120]:=h;subst h
     rcases h3 with ⟨h,_⟩ | ⟨h,_⟩ | ⟨h,_⟩ | ⟨h,_⟩ | ⟨h,_⟩
     ·rcases h with h | h <;> exact absurd h (by decide)
     ·rcases h with h | h | h <;> exact absurd h (by decide)
     ·exact absurd h (by decide)
     ·rcases h with h | h <;> exact absurd h (by decide)
     ·rcases h with h | h | h | h | h <;> exact absurd h (by decide)
    ·exact h
   have:x.cK=1/\y.cK=1:=by
    rcases h3 with ⟨_,h4,h5,_⟩ | ⟨h,_⟩ | ⟨h,_⟩ | ⟨h,_⟩ | ⟨h,_⟩
    ·exact ⟨h4,h5⟩
    ·exfalso;rcases ho with rfl | rfl <;> rcases h with h | h | h <;> exact absurd h (by decide)
    ·exfalso;rcases ho with rfl | rfl <;> exact absurd h (by decide)
    ·exfalso;rcases ho with rfl | rfl <;> rcases h with h | h <;> exact absurd h (by decide)
    ·exfalso;rcases ho with rfl | rfl <;> rcases h with h | h | h | h | h <;> exact absurd h (by decide)
   exact two (h1.pub this.1) (h2.pub this.2)
 | sel h1 h2 h3 h4 h5=>exact ⟨tri h1 h2 h3,λh=>by rcases h with h | h | h <;> exact absurd h (by simp only;decide)⟩
 | long h1 h2=>exact ⟨one h1,λh=>by rcases h with h | h | h <;> exact absurd h (by simp only;decide)⟩
 | wide h1 h2 h3 h4=>exact ⟨two h1 h2,λh=>by rcases h with h | h | h <;> exact absurd h (by simp only;decide)⟩
 | half h0 h1 h2=>exact ⟨one h1,λh=>by rcases h0 with rfl | rfl <;> rcases h with h | h | h <;> exact absurd h (by simp only;decide)⟩
theorem Tz:∀(n:Nat) (x:aF) (y:aT),TX vs sc x->Ao b vs sc y.c_.bP->xz x<=100000000->xz x+2200<n->bK (lC n y x) (UM y):=by
 intro n
 induction n with
 | zero=>intro x y h hT hb hn;omega
 | succ n ih=>
   intro x y h hT hb hn;show bK (nV (lC n) n y x) _;unfold nV;obtain ⟨l1,l2⟩:=h.list;have he:=AZ x;have hlen:=zE x.aP
   refine (look_l1 (b:=b) (vs:=vs) (sc:=sc) (f:=lC n) (λz hz y hT=>by
    have:=Ay hz;exact ih z y (l1 z hz) hT (by omega) (by omega)) (by omega) n 0 y hT (by omega) (by omega)).bind λr hr=>?_
   refine bK.bind (P:=λc=>c=true->x.iB=[105,110,100,101,120] ∨ x.iB=[47] ∨ x.iB=[37]) ?_ λc hc=>?_
   ·refine bK.iteb (λh=>.some λ_=>.inl (BI h)) λ_=>bK.iteb (λh=>.some λ_=>.inr (.inl (BI h))) λ_=>.some λh=>.inr (.inr (BI h))
   refine bK.iteb (λh=>?_) λh=>.some hr;refine (look_l2 (b:=b) (n:=n) (l2 (hc h)) (by omega) (by omega) n 0 r (by rw [hr.1];exact hT) (by omega) (by omega)).bind λz hz=>.some (hr.trans hz)
end
theorem Uv {l:List Int} {k o:Int} (h1:0<=k) (h2:k<=255):bK (DT l k o) λ_=>True:=by
 unfold DT;refine bK.iteb (λh=>?_) λ_=>.some trivial;have h:=BI h;rw [cZ (by omega) (by omega)] at h;exact (bK.idx (Q:=λ_=>True) h1 h λ_ _=>trivial).bind λ_ _=>.some trivial
theorem sum_tot (a b:bW):bK (Dk a b) λ_=>True:=by
 unfold Dk rK;rw [iR,iR];exact bK.iteb (λ_=>.some trivial) λ_=>.some trivial
theorem Na (a b:bW):bK (uF a b) λ_=>True:=by
 unfold uF tD;rw [iR];exact bK.iteb (λ_=>.some trivial) λ_=>.some trivial
theorem Oh (o:Int) (a b:bW):bK (vW o a b) λ_=>True:=by
 unfold vW;refine bK.iteb (λ_=>.some trivial) λ_=>bK.iteb (λ_=>.some trivial) λ_=>bK.iteb (λ_=>.some trivial) λ_=>bK.iteb (λ_=>(sum_tot _ _).bind λ_ _=>.some trivial) λ_=>bK.iteb (λ_=>bK.iteb (λ_=>.some trivial) λ_=>.some trivial) λ_=>bK.iteb (λ_=>(Na _ _).bind λ_ _=>.some trivial) λ_=>bK.iteb (λ_=>bK.need (by omega) (bK.need (by omega) (.some trivial))) λ_=>bK.iteb (λ_=>.some trivial) λ_=>bK.iteb (λ_=>.some trivial) λ_=>.some trivial
theorem SA {t:aN} (h:Sh false t) (lo hi:List Int):∀n,tm t<n->bK (sQ n t lo hi) λ_=>True:=by
 induction h with
 | z e=>cases e
 | con=>
   intro n hn;obtain ⟨m,rfl⟩:∃m,n=m+1:=⟨n - 1,by omega⟩;show bK (nL (sQ m) m _ lo hi) _;unfold nL;exact bK.iteb (λ_=>.some trivial) λh=>nomatch h
 | var h1 h2=>
   intro n hn;obtain ⟨m,rfl⟩:∃m,n=m+1:=⟨n - 1,by omega⟩;show bK (nL (sQ m) m _ lo hi) _;unfold nL;refine bK.iteb (λh=>nomatch h) λ_=>bK.iteb (λ_=>?_) λh=>nomatch h;exact (Uv h1 h2).bind λ_ _=>(Uv h1 h2).bind λ_ _=>.some trivial
 | @un o x ho hx ih=>
   intro n hn;obtain ⟨m,rfl⟩:∃m,n=m+1:=⟨n - 1,by omega⟩;show bK (nL (sQ m) m _ lo hi) _;unfold nL
   rcases ho with rfl | rfl
   ·exact bK.iteb (λh=>nomatch h) λ_=>bK.iteb (λh=>nomatch h) λ_=>bK.iteb (λ_=>.some trivial) λh=>nomatch h
   ·exact bK.iteb (λh=>nomatch h) λ_=>bK.iteb (λh=>nomatch h) λ_=>bK.iteb (λh=>nomatch h) λ_=>bK.iteb (λ_=>.some trivial) λh=>nomatch h
 | @bin o x y h1 h2 hx hy i1 i2=>
   intro n hn;obtain ⟨m,rfl⟩:∃m,n=m+1:=⟨n - 1,by omega⟩;rw [tm,vF,vF,vF] at hn;show bK (nL (sQ m) m _ lo hi) _;unfold nL;refine bK.iteb (λ_=>.some trivial) λ_=>bK.iteb (λh=>?_) λ_=>bK.iteb (λ_=>.some trivial) λ_=>bK.iteb (λ_=>.some trivial) λ_=>?_
   ·exfalso;have h:o=2:=by simpa using h
    omega
   refine bK.eqn HM ((i1 m (by omega)).bind λa _=>bK.eqn OK ((i2 m (by omega)).bind λb _=>(Oh _ _ _).bind λ_ _=>.some trivial))
section
variable {vs:List aL} {sc:List Int} {c:bH} {x:aF}
theorem MO (hT:Ao false vs sc c.bP) (h:It vs sc x) (hb:xz x<=100000000) {n:Nat} (hn:xz x+2100<n):bK (gJ n c x) λr=>gJ n c x=some r:=by
 have key:bK (gJ n c x) λ_=>True:=by
  unfold gJ;refine (UL hT h hb hn).bind λr hr=>bK.iteb (λ_=>.some trivial) λhe=>?_
  rcases hr with ⟨_,_,_,h4,h5⟩ | ⟨h1,_⟩
  ·unfold Bb;refine bK.bind (P:=λ_=>True) ?_ λ_ _=>.some trivial;exact (SA h4 _ _ n (by omega)).bind λ_ _=>.some trivial
  ·rw [h1] at he;cases he
 obtain ⟨r,hr,_⟩:=key;exact ⟨r,hr,hr⟩
end
def eb (e:Int):Bool:=!(e == 0)
theorem AN {e:Int}:eb e=false ↔ e=0:=by unfold eb;simp
theorem TZ {e:Int}:eb e=true ↔ e ≠ 0:=by unfold eb;simp
theorem Ao.mono {b b':Bool} {vs:List aL} {sc sc':List Int} {T:List aN} (h:Ao b vs sc T) (hb:b=true->b'=true) (hs:∀v ∈ sc',v ∈ sc):Ao b' vs sc' T:=
 ⟨h.len,λv hv u hu hk=>by obtain ⟨t,h1,h2,h3⟩:=h.ok v (hs v hv) u hu hk;exact ⟨t,h1,h2.mono hb,h3⟩⟩
theorem Er.eb {a b:Int} (h:Er a b):eb a=true->eb b=true:=λe=>by rw [h.keep (TZ.1 e)];exact e
theorem Bv {α:Type} {l:List α} {i j:Int} {x t:α} (hj:bN l j=some t):(i.toNat=j.toNat/\0<=i->bN (l.set i.toNat x) j=some x)/\(i.toNat ≠ j.toNat->bN (l.set i.toNat x) j=some t):=by
 unfold bN at hj ⊢
 split at hj
 ·rename_i h0;have hlt:=(vE.1 hj).1;refine ⟨λh=>?_,λh=>?_⟩
  ·rw [if_pos h0,h.1,Pl hlt]
  ·rw [if_pos h0,Of h];exact hj
 ·cases hj
theorem Ao.set {b:Bool} {vs:List aL} {sc:List Int} {T:List aN} (h:Ao b vs sc T) {i:Int} {t:aN} (hi:0<=i) (ht:Sh b t) (hz:tm t<=2000):Ao b vs sc (T.set i.toNat t):=
 ⟨by rw [qV];exact h.len,λv hv u hu hk=>by
  obtain ⟨s,h1,h2,h3⟩:=h.ok v hv u hu hk
  by_cases e:i.toNat=v.toNat
  ·exact ⟨t,(Bv h1).1 ⟨e,hi⟩,ht,hz⟩
  ·exact ⟨s,(Bv h1).2 e,h2,h3⟩⟩
theorem DJ {α:Type} {l:List α} {i:Int} {x:α} (h:bN l i=some x):0<=i/\i<(l.length:Int):=by obtain ⟨h1,h2,_⟩:=bZ h;exact ⟨h1,h2⟩
theorem Ao.snoc {b:Bool} {vs:List aL} {sc:List Int} {T:List aN} (h:Ao b vs sc T) {i:Int} {t:aN} {u:aL} (hu:bN vs i=some u) (ht:Sh b t) (hz:tm t<=2000):Ao b vs (sc++[i]) (T.set i.toNat t):=by
 obtain ⟨h0,h1⟩:=DJ hu;have h2:=h.set h0 ht hz;refine ⟨h2.len,λv hv u' hu' hk=>?_⟩
 rcases zK.1 hv with hv | hv
 ·exact h2.ok v hv u' hu' hk
 ·obtain rfl:=As.1 hv;refine ⟨t,?_,ht,hz⟩;have hl:=h.len;obtain ⟨s,hs,_⟩:=bK.idx (l:=T) (Q:=λ_=>True) h0 (by omega) λ_ _=>trivial;exact (Bv hs).1 ⟨rfl,h0⟩
theorem Ao.more {b:Bool} {vs:List aL} {sc:List Int} {T:List aN} (h:Ao b vs sc T) {i:Int} {u:aL} (hu:bN vs i=some u) (hk:u.bT ≠ 1):Ao b vs (sc++[i]) T:=
 ⟨h.len,λv hv u' hu' hk'=>by
  rcases zK.1 hv with hv | hv
  ·exact h.ok v hv u' hu' hk'
  ·obtain rfl:=As.1 hv;rw [hu] at hu';cases hu';exact absurd hk' hk⟩
def Dec (s:aC) (i:Nat):Prop:=s.iB=[108,101,116] ∨ s.iB=[105,102] ∨ s.iB=[102,111,114] ∨ (s.iB=[112,117,116]/\i=0)
structure L2R (vs:List aL) (sc:List Int) (n:Nat) (s:aC) (v:Nat) (y r:aT):Prop where
 e:Er y.e_ r.e_
 c:r.c_={ y.c_ with bP:=r.c_.bP }
 ok:Ao (eb r.e_) vs sc r.c_.bP
 no:s.iB ≠ [108,101,116]->r.c_.bP=y.c_.bP
 go:s.iB=[108,101,116]->v<s.aP.length->∃x t,s.aP[v]? = some x/\r.c_.bP=y.c_.bP.set s.gC.toNat t/\tm t<=2000/\Sh (eb r.e_) t/\(r.e_=0->tm (Gl y.c_.bP x)<=2000/\oX n (Gl y.c_.bP x)=some t)
 un:s.iB=[108,101,116]->¬ v<s.aP.length->r.c_.bP=y.c_.bP
 px:r.e_=0->∀i x,v<=i->s.aP[i]? = some x->Dec s i->It vs sc x/\tm (Gl y.c_.bP x)<=2000
theorem Ut {vs:List aL} {sc:List Int} {n:Nat} {s:aC} (hx:∀z ∈ s.aP,TX vs sc z) (hp:∀(i:Nat) z,s.aP[i]? = some z->Dec s i->It vs sc z) (hv:s.iB=[108,101,116]->s.aP.length=1/\∃u,bN vs s.gC=some u) (hb:qP s.aP<=100000000) (hn:qP s.aP+2300<n) :
  ∀(k v:Nat) (y:aT),Ao (eb y.e_) vs sc y.c_.bP->s.aP.length<v+k->v<=s.aP.length->bK (mI n s k (v:Int) y) (L2R vs sc n s v y):=by
 have hlen:=zE s.aP;intro k
 induction k with
 | zero=>intro v y hT h1 h2;omega
 | succ k ih=>
   intro v y hT h1 h2;unfold mI;refine bK.iteb (λh=>?_) λh=>?_
   rotate_left
   ·have hge:s.aP.length<=v:=by have:=Pj h;omega
    exact .some ⟨.refl _,rfl,hT,λ_=>rfl,λ_ h=>absurd h (by omega),λ_ _=>rfl,λ_ i x hi hx=>by rw [xdx (by omega)] at hx;cases hx⟩
   have hlt:v<s.aP.length:=by have:=BI h;omega
   have hg:=vD hlt;have hm:=MD hlt;have hz:=Ay hm;have hstep:IntKind.i64.wrap ((v:Int)+1)=((v+1:Nat):Int):=by rw [cZ (by omega) (by omega)];omega
   rw [hstep];refine bK.bind (P:=λr=>Er y.e_ r.e_/\r.c_={ y.c_ with bP:=r.c_.bP }/\Ao (eb r.e_) vs sc r.c_.bP/\(s.iB ≠ [108,101,116]->r.c_.bP=y.c_.bP)/\(s.iB=[108,101,116]->∃t,r.c_.bP=y.c_.bP.set s.gC.toNat t/\tm t<=2000/\Sh (eb r.e_) t/\(r.e_=0->tm (Gl y.c_.bP s.aP[v])<=2000/\oX n (Gl y.c_.bP s.aP[v])=some t))/\(r.e_=0->Dec s v->It vs sc s.aP[v]/\tm (Gl y.c_.bP s.aP[v])<=2000)) ?_ λr hr=>?_
   ·refine bK.eqn (tQ hg) ?_;refine (Tz n _ y (hx _ hm) hT (by omega) (by omega)).bind λa ha=>?_;refine bK.bind (P:=λd=>d=true ↔ Dec s v) ?_ λd hd=>?_
    ·unfold Dec;refine bK.iteb (λh=>.some ⟨λ_=>.inl (BI h),λ_=>rfl⟩) λg1=>bK.iteb (λh=>.some ⟨λ_=>.inr (.inl (BI h)),λ_=>rfl⟩) λg2=>bK.iteb (λh=>.some ⟨λ_=>.inr (.inr (.inl (BI h))),λ_=>rfl⟩) λg3=>?_;have g1:=Pj g1;have g2:=Pj g2;have g3:=Pj g3;refine bK.iteb (λh=>.some ⟨λhv=>.inr (.inr (.inr ⟨BI h,by have:(v:Int)=0:=(by simpa using hv);omega⟩)),λhv=>?_⟩) λg4=>.some ⟨λh=>(nomatch h),λhv=>?_⟩
     ·rcases hv with h | h | h | ⟨_,h⟩
      ·exact absurd h g1
      ·exact absurd h g2
      ·exact absurd h g3
      ·subst h;rfl
     ·have g4:=Pj g4
      rcases hv with h | h | h | ⟨h,_⟩
      ·exact absurd h g1
      ·exact absurd h g2
      ·exact absurd h g3
      ·exact absurd h g4
    have hTa:Ao (eb y.e_) vs sc a.c_.bP:=by rw [ha.1];exact hT
    refine bK.iteb (λhd1=>?_) λhd0=>?_
    ·have hdec:=hd.1 hd1;have hpx:=hp v _ hg hdec;refine (Ls hTa hpx (by omega) (by omega)).bind λw hw=>?_;obtain ⟨w1,w2,w3,w4⟩:=hw;have hew:=ha.2.trans w2;have hwc:w.2.c_=y.c_:=w1.trans ha.1
     have hpl:w.2.e_=0->tm (Gl y.c_.bP s.aP[v])<=2000/\oX n (Gl y.c_.bP s.aP[v])=some w.1/\Sh (eb y.e_) w.1:=λh0=>by
      rcases w3 with ⟨h1,h2,h3,_⟩ | ⟨_,_,h3⟩
      ·rw [ha.1] at h1 h2;exact ⟨h1,h2,h3⟩
      ·exact absurd h0 h3
     refine bK.iteb (λhl=>?_) λhl=>?_
     ·have hl:=BI hl;obtain ⟨_,u,hu⟩:=hv hl;obtain ⟨h0,hu1⟩:=DJ hu;refine (bK.idx (Q:=λ_=>True) h0 (by rw [hwc,hT.len];exact hu1) λ_ _=>trivial).bind λ_ _=>?_
      have hsh:Sh (eb w.2.e_) w.1:=by
       rcases w3 with ⟨_,_,h3,_⟩ | ⟨_,h2,h3⟩
       ·exact h3.mono hew.eb
       ·rw [h2];exact .z (TZ.2 h3)
      refine .some ⟨hew,by simp only [hwc],?_,λh=>absurd hl h,λ_=>⟨w.1,by simp only [hwc],w4,hsh,λh=>⟨(hpl h).1,(hpl h).2.1⟩⟩,λh _=>⟨hpx,(hpl h).1⟩⟩;simp only [hwc];exact (hT.mono hew.eb λ_ h=>h).set h0 hsh w4
     ·have hl:=Pj hl;exact .some ⟨hew,by rw [hwc],by rw [hwc];exact hT.mono hew.eb λ_ h=>h,λ_=>by rw [hwc],λh=>absurd h hl,λh _=>⟨hpx,(hpl h).1⟩⟩
    ·have hnd:¬ Dec s v:=λh=>by rw [hd.2 h] at hd0;cases hd0
     exact .some ⟨ha.2,by rw [ha.1],by rw [ha.1];exact hT.mono ha.2.eb λ_ h=>h,λ_=>by rw [ha.1],λh=>absurd (.inl h) hnd,λ_ h=>absurd h hnd⟩
   ·obtain ⟨r1,r2,r3,r4,r5,r6⟩:=hr;refine (ih (v+1) r r3 (by omega) (by omega)).mono λz hz=>⟨r1.trans hz.e,by rw [hz.c,r2],hz.ok,λh=>(hz.no h).trans (r4 h),λh _=>?_,λh h'=>absurd hlt h',λh0 i x hi hxi hd=>?_⟩
    ·have hl1:=(hv h).1;have hT2:=hz.un h (by omega);obtain ⟨t,q1,q2,q3,q4⟩:=r5 h;exact ⟨_,t,hg,by rw [hT2,q1],q2,q3.mono hz.e.eb,λh0=>q4 (hz.e.zero h0)⟩
    ·have hr0:=hz.e.zero h0
     rcases xed v i with hlt2 | hge
     ·have hnl:s.iB ≠ [108,101,116]:=λh=>by
       have:=(hv h).1;have:=(vE.1 hxi).1;omega
      obtain ⟨k1,k2⟩:=hz.px h0 i x hlt2 hxi hd;rw [r4 hnl] at k2;exact ⟨k1,k2⟩
     ·obtain rfl:i=v:=by omega
      rw [hg] at hxi;cases hxi
      exact r6 hr0 hd
def NI (s:aC):List aF:=if s.iB=[108,101,116] ∨ s.iB=[105,102] ∨ s.iB=[102,111,114] then s.aP else if s.iB=[112,117,116] then s.aP.take 1 else []
def Ks (s:aC):List Int:=if s.iB=[102,111,114] then [s.gC] else []
def Rk (s:aC):List Int:=if s.iB=[102,111,114] ∨ s.iB=[108,101,116] then [s.gC] else []
mutual
def frS:aC->List Int
 | ⟨o,v,f,l,b,e,a⟩=>Ks ⟨o,v,f,l,b,e,a⟩++(AM b++AM e)
def AM:List aC->List Int
 | []=>[]
 | s::l=>frS s++AM l
end
mutual
def dvS:aC->List Int
 | ⟨o,v,f,l,b,e,a⟩=>Rk ⟨o,v,f,l,b,e,a⟩++(Mz b++Mz e)
def Mz:List aC->List Int
 | []=>[]
 | s::l=>dvS s++Mz l
end
mutual
def pbS:aC->List aF
 | ⟨o,v,f,l,b,e,a⟩=>NI ⟨o,v,f,l,b,e,a⟩++(Mw b++Mw e)
def Mw:List aC->List aF
 | []=>[]
 | s::l=>pbS s++Mw l
end
theorem ON (s:aC):frS s=Ks s++(AM s.bV++AM s.gT):=by cases s;rw [frS]
theorem dvS_eq (s:aC):dvS s=Rk s++(Mz s.bV++Mz s.gT):=by cases s;rw [dvS]
theorem pbS_eq (s:aC):pbS s=NI s++(Mw s.bV++Mw s.gT):=by cases s;rw [pbS]
inductive PV (L:List Int):aF->Prop
 | num {n a}:PV L ⟨[110,117,109],1,n,-1,[],a⟩
 | var {v a}:v ∈ L->PV L ⟨[118,97,114],1,0,v,[],a⟩
 | un {o x a}:(o=[110,111,116] ∨ o=[110,101,103])->PV L x->PV L ⟨o,1,0,-1,[x],a⟩
 | bin {o x y a}:Kh o->PV L x->PV L y->PV L ⟨o,1,0,-1,[x,y],a⟩
theorem It.pv {vs:List aL} {sc pl:List Int} (hc:∀v ∈ sc,∀u,bN vs v=some u->u.bT=1->v ∈ pl) {x:aF} (h:It vs sc x):PV pl x:=by
 induction h with
 | num=>exact .num
 | var h1 h2 h3=>exact .var (hc _ h1 _ h2 h3)
 | un h _ ih=>exact .un h ih
 | bin h _ _ i1 i2=>exact .bin h i1 i2
theorem PV.mono {L L':List Int} (hl:∀v ∈ L,v ∈ L') {x:aF} (h:PV L x):PV L' x:=by
 induction h with
 | num=>exact .num
 | var h=>exact .var (hl _ h)
 | un h _ ih=>exact .un h ih
 | bin h _ _ i1 i2=>exact .bin h i1 i2
theorem Nb {T:List aN} {ty n v a:Int} {l:List aF}:Gl T ⟨[118,97,114],ty,n,v,l,a⟩=(bN T v).getD tz0:=by rw [Gl,if_neg (by decide),if_pos rfl]
theorem PV.plx {L:List Int} {T T':List aN} (hl:∀v ∈ L,bN T' v=bN T v) {x:aF} (h:PV L x):Gl T' x=Gl T x:=by
 induction h with
 | num=>rw [Ha,Ha]
 | @var v a h=>
   rw [Nb,Nb,hl _ h]
 | un h _ ih=>
   obtain ⟨n1,n2,_⟩:=Sign1.ne h;rw [CC n1 n2,CC n1 n2,Be,Be,Be,Be,ih]
 | bin h _ _ i1 i2=>
   obtain ⟨n1,n2,_⟩:=h.ne;rw [CC n1 n2,CC n1 n2,Be,Be,Be,Be,Be,Be,i1,i2]
def QX (T:List aN) (L:List Int) (x:aF):Prop:=PV L x/\Sh false (Gl T x)/\tm (Gl T x)<=2000/\xz x<=50000000
theorem QX.mono {T T':List aN} {L L':List Int} {x:aF} (h:QX T L x) (hl:∀v ∈ L,v ∈ L') (ht:∀v ∈ L,bN T' v=bN T v):QX T' L' x:=by
 obtain ⟨h1,h2,h3,h4⟩:=h;refine ⟨h1.mono hl,?_,?_,h4⟩
 ·rw [h1.plx ht];exact h2
 ·rw [h1.plx ht];exact h3
def DOk (pl dv:List Int):Prop:=dv.Nodup/\∀v ∈ dv,v ∉ pl/\0<=v
structure RO (pl dv fr:List Int) (pb:List aF) (y r:aT):Prop where
 fors:r.c_.dT=y.c_.dT++fr
 low:r.c_.tT.length=y.c_.tT.length+fr.length
 high:r.c_.pC.length=y.c_.pC.length+fr.length
 un:∀v,0<=v->v ∉ dv->bN r.c_.bP v=bN y.c_.bP v
 sub:∀v ∈ fr,v ∈ dv
 nn:∀v ∈ dv,0<=v
 ok:DOk pl dv->(∀v ∈ pl,0<=v)->(∀v ∈ dv,∃t,bN r.c_.bP v=some t/\Sh false t/\tm t<=2000)/\(∀(k:Nat) v,fr[k]? = some v->bN r.c_.bP v=some ⟨2,((4+y.c_.dT.length+k:Nat):Int),[]⟩)/\∀x ∈ pb,QX r.c_.bP (pl++dv) x
theorem RO.refl (pl:List Int) (y:aT):RO pl [] [] [] y y:=
 ⟨(iF _).symm,rfl,rfl,λ_ _ _=>rfl,λ_ h=>h,λ_ h=>(nomatch h),λ_ _=>⟨λ_ h=>(nomatch h),λk v h=>(nomatch h),λ_ h=>(nomatch h)⟩⟩
theorem RO.app {pl pl2 dv dv2 fr fr2:List Int} {pb pb2:List aF} {y d r:aT} (h:RO pl dv fr pb y d) (k:RO pl2 dv2 fr2 pb2 d r) (hp:∀v ∈ pl2,v ∈ pl ∨ v ∈ dv):RO pl (dv++dv2) (fr++fr2) (pb++pb2) y r:=by
 refine ⟨by rw [k.fors,h.fors,Je],by rw [k.low,h.low,mS];omega,by rw [k.high,h.high,mS];omega,λv h0 hv=>?_,λv hv=>?_,λv hv=>?_,λhd hpl=>?_⟩
 ·rw [zK,not_or] at hv;rw [k.un v h0 hv.2,h.un v h0 hv.1]
 ·rcases zK.1 hv with hv | hv
  ·exact Jb _ (h.sub v hv)
  ·exact Ms _ (k.sub v hv)
 ·rcases zK.1 hv with hv | hv
  ·exact h.nn v hv
  ·exact k.nn v hv
 ·obtain ⟨d1,d2⟩:=hd;obtain ⟨n1,n2,n3⟩:=List.nodup_append.1 d1;obtain ⟨a1,a2,a3⟩:=h.ok ⟨n1,λv hv=>d2 v (Jb _ hv)⟩ hpl
  obtain ⟨b1,b2,b3⟩:=k.ok ⟨n2,λv hv=>by
   obtain ⟨c1,c2⟩:=d2 v (Ms _ hv);refine ⟨λhv2=>?_,c2⟩
   rcases hp v hv2 with h5 | h5
   ·exact c1 h5
   ·exact n3 v h5 v hv rfl⟩ (λv hv=>by
    rcases hp v hv with h5 | h5
    ·exact hpl v h5
    ·exact h.nn v h5)
  have hun:∀v,v ∈ dv->v ∉ dv2:=λv h5 h6=>n3 v h5 v h6 rfl;refine ⟨λv hv=>?_,λj v hj=>?_,λx hx=>?_⟩
  ·rcases zK.1 hv with hv | hv
   ·rw [k.un v (h.nn v hv) (hun v hv)];exact a1 v hv
   ·exact b1 v hv
  ·rcases xed j fr.length with hlt | hge
   ·rw [ME hlt] at hj;have hm:=h.sub v (ET hj);rw [k.un v (h.nn v hm) (hun v hm)];exact a2 j v hj
   ·rw [Oa hge] at hj;rw [b2 _ v hj,h.fors,mS]
    congr 3;omega
  ·rcases zK.1 hx with hx | hx
   ·refine (a3 x hx).mono (λv hv=>?_) λv hv=>?_
    ·rcases zK.1 hv with hv | hv
     ·exact Jb _ hv
     ·exact Ms _ (Jb _ hv)
    ·rcases zK.1 hv with hv | hv
     ·exact k.un v (hpl v hv) λh6=>(d2 v (Ms _ h6)).1 hv
     ·exact k.un v (h.nn v hv) (hun v hv)
   ·refine (b3 x hx).mono (λv hv=>?_) λv hv=>rfl
    rcases zK.1 hv with hv | hv
    ·rcases hp v hv with h5 | h5
     ·exact Jb _ h5
     ·exact Ms _ (Jb _ h5)
    ·exact Ms _ (Ms _ hv)
def DR (y:aT) (m:Nat):Prop:=y.c_.dT.length+m<=250/\y.c_.tT.length=4+y.c_.dT.length/\y.c_.pC.length=4+y.c_.dT.length
structure BkC (vs:List aL) (sc sc' pl:List Int) (ss:List aC) (y r:aT):Prop where
 e:Er y.e_ r.e_
 t1:Ao (eb r.e_) vs sc r.c_.bP
 ok:r.e_=0->Ao false vs sc' r.c_.bP/\RO pl (Mz ss) (AM ss) (Mw ss) y r
theorem DR.app {pl dv fr:List Int} {pb:List aF} {y r:aT} {m:Nat} (h:DR y (fr.length+m)) (k:RO pl dv fr pb y r):DR r m:=by
 obtain ⟨h1,h2,h3⟩:=h;have h4:=congrArg List.length k.fors;rw [mS] at h4;have h5:=k.low;have h6:=k.high;exact ⟨by omega,by omega,by omega⟩
theorem DR.less {y:aT} {m m':Nat} (h:DR y m) (hm:m'<=m):DR y m':=⟨by have:=h.1;omega,h.2⟩
theorem Ty {vs:List aL} {sc:List Int} {n:Nat} {y:aT} {v:Int} {f a:Int} {x z:aF} {b e:List aC} {u:aL} (hT:Ao false vs sc y.c_.bP) (hx:It vs sc x) (hz:It vs sc z) (hu:bN vs v=some u) (hL:DR y 1) (hbx:xz x<=50000000) (hbz:xz z<=50000000) (hn:50003000<n) :
  bK (lB n y ⟨[102,111,114],v,f,[x,z],b,e,a⟩) λr=>r.e_=y.e_/\r.c_.bP=y.c_.bP.set v.toNat ⟨2,((4+y.c_.dT.length:Nat):Int),[]⟩/\r.c_.dT=y.c_.dT++[v]/\∃s1 s2,gJ n y.c_ x=some s1/\gJ n y.c_ z=some s2/\r.c_.tT=y.c_.tT++[s1.1]/\r.c_.pC=y.c_.pC++[max s1.1 (IntKind.u32.wrap (max s2.2 1 - 1))]:=by
 unfold lB;obtain ⟨l1,l2,l3⟩:=hL;obtain ⟨h0,hu1⟩:=DJ hu;refine bK.eqn HM ?_;refine (MO hT hx (by omega) (n:=n) (by omega)).bind λs1 e1=>?_;refine bK.eqn (v:=z) rfl ?_;refine (MO hT hz (by omega) (n:=n) (by omega)).bind λs2 e2=>?_;refine bK.eqn (v:=⟨2,((4+y.c_.dT.length:Nat):Int),[]⟩) ?_ ?_
 ·unfold DU;rw [cZ (by omega) (by omega),IntKind.wrap_u32]
  congr 2;omega
 refine (bK.idx (Q:=λ_=>True) h0 (by rw [hT.len];exact hu1) λ_ _=>trivial).bind λ_ _=>?_;refine bK.need (by simp only [vM];omega) (bK.need (by simp only [vM];omega) (bK.need (by simp only [vM];omega) (.some ⟨rfl,rfl,rfl,s1,s2,e1,e2,rfl,rfl⟩)))
theorem dec_mem {s:aC} {x:aF} (h:x ∈ NI s):∃i:Nat,s.aP[i]? = some x/\Dec s i:=by
 unfold NI at h
 split at h
 ·rename_i ho;obtain ⟨i,hi⟩:=List.getElem?_of_mem h;refine ⟨i,hi,?_⟩
  rcases ho with ho | ho | ho
  ·exact .inl ho
  ·exact .inr (.inl ho)
  ·exact .inr (.inr (.inl ho))
 ·split at h
  ·rename_i ho;cases hl:s.aP with
   | nil=>rw [hl] at h;cases h
   | cons z l=>
     rw [hl] at h;have h:x ∈ [z]:=h;rw [As.1 h];exact ⟨0,rfl,.inr (.inr (.inr ⟨ho,rfl⟩))⟩
  ·cases h
theorem Ua {vs:List aL} {sc pl:List Int} {n:Nat} {s:aC} {y r:aT} (hT:Ao false vs sc y.c_.bP) (hc:∀v ∈ sc,∀u,bN vs v=some u->u.bT=1->v ∈ pl) (hb:qP s.aP<=50000000) (h:L2R vs sc n s 0 y r) (h0:r.e_=0):∀x ∈ NI s,QX y.c_.bP pl x:=by
 intro x hx;obtain ⟨i,hi,hd⟩:=dec_mem hx;obtain ⟨p1,p2⟩:=h.px h0 i x (Kt _) hi hd;have:=Ay (ET hi);exact ⟨p1.pv hc,(Jv hT p1).1,p2,by omega⟩
theorem Ti {vs:List aL} {sc pl:List Int} {n:Nat} {s:aC} {y r:aT} (hT:Ao false vs sc y.c_.bP) (hc:∀v ∈ sc,∀u,bN vs v=some u->u.bT=1->v ∈ pl) (hb:qP s.aP<=50000000) (h:L2R vs sc n s 0 y r) (h0:r.e_=0) (hf:s.iB ≠ [102,111,114]) (hl:s.iB=[108,101,116]->s.aP.length=1/\∃u,bN vs s.gC=some u):RO pl (Rk s) (Ks s) (NI s) y r:=by
 have hq:=Ua hT hc hb h h0;have hcc:=h.c;unfold Rk Ks;rw [if_neg hf]
 by_cases ho:s.iB=[108,101,116]
 ·rw [if_pos (.inr ho)];obtain ⟨l1,u,hu⟩:=hl ho;obtain ⟨b0,b1⟩:=DJ hu;obtain ⟨x,t,g1,g2,g3,g4,g5⟩:=h.go ho (by omega)
  have hun:∀v,0<=v->v ∉ [s.gC]->bN r.c_.bP v=bN y.c_.bP v:=λv hv hv2=>by
   rw [g2];have hne:s.gC.toNat ≠ v.toNat:=λe=>hv2 (As.2 (by omega));cases hi:bN y.c_.bP v with
   | some w=>exact (Bv hi).2 hne
   | none=>
     unfold bN at hi ⊢;rw [if_pos hv] at hi ⊢;rw [Of hne];exact hi
  refine ⟨by rw [hcc,iF],by rw [hcc];rfl,by rw [hcc];rfl,hun,λ_ h=>(nomatch h),λv hv=>by rw [As.1 hv];exact b0,λhd hpl=>⟨λv hv=>?_,λk v h=>(nomatch h),λx hx=>?_⟩⟩
  ·rw [As.1 hv,g2];obtain ⟨w,hw,_⟩:=bK.idx (l:=y.c_.bP) (Q:=λ_=>True) b0 (by rw [hT.len];exact b1) λ_ _=>trivial;exact ⟨t,(Bv hw).1 ⟨rfl,b0⟩,by rw [AN.2 h0] at g4;exact g4,g3⟩
  ·exact (hq x hx).mono (λv hv=>Jb _ hv) λv hv=>hun v (hpl v hv) λh6=>(hd.2 v h6).1 hv
 ·rw [if_neg (by rintro (h | h);exact hf h;exact ho h)];have hTT:=h.no ho;refine ⟨by rw [hcc,iF],by rw [hcc];rfl,by rw [hcc];rfl,λv _ _=>by rw [hTT],λ_ h=>(nomatch h),λ_ h=>(nomatch h),λhd hpl=>⟨λv hv=>(nomatch hv),λk v h=>(nomatch h),λx hx=>?_⟩⟩;exact (hq x hx).mono (λv hv=>Jb _ hv) λv hv=>by rw [hTT]
theorem own_for {vs:List aL} {sc pl:List Int} {n:Nat} {s:aC} {y a r:aT} (hT:Ao false vs sc y.c_.bP) (hc:∀v ∈ sc,∀u,bN vs v=some u->u.bT=1->v ∈ pl) (hb:qP s.aP<=50000000) (h:L2R vs sc n s 0 y a) (h0:a.e_=0) (hf:s.iB=[102,111,114]) {u:aL} (hu:bN vs s.gC=some u) (hL:y.c_.dT.length<=249)
  (r1:r.c_.bP=a.c_.bP.set s.gC.toNat ⟨2,((4+a.c_.dT.length:Nat):Int),[]⟩) (r2:r.c_.dT=a.c_.dT++[s.gC]) (r3:r.c_.tT.length=a.c_.tT.length+1) (r4:r.c_.pC.length=a.c_.pC.length+1):RO pl (Rk s) (Ks s) (NI s) y r:=by
 have hq:=Ua hT hc hb h h0;have hcc:=h.c;have hTT:=h.no (by rw [hf];decide);have hF:a.c_.dT=y.c_.dT:=by rw [hcc]
 unfold Rk Ks;rw [if_pos hf,if_pos (.inl hf)];obtain ⟨b0,b1⟩:=DJ hu;rw [hTT,hF] at r1
 have hun:∀v,0<=v->v ∉ [s.gC]->bN r.c_.bP v=bN y.c_.bP v:=λv hv hv2=>by
  rw [r1];have hne:s.gC.toNat ≠ v.toNat:=λe=>hv2 (As.2 (by omega));cases hi:bN y.c_.bP v with
  | some w=>exact (Bv hi).2 hne
  | none=>
    unfold bN at hi ⊢;rw [if_pos hv] at hi ⊢;rw [Of hne];exact hi
 have hat:bN r.c_.bP s.gC=some ⟨2,((4+y.c_.dT.length:Nat):Int),[]⟩:=by
  rw [r1];obtain ⟨w,hw,_⟩:=bK.idx (l:=y.c_.bP) (Q:=λ_=>True) b0 (by rw [hT.len];exact b1) λ_ _=>trivial;exact (Bv hw).1 ⟨rfl,b0⟩
 refine ⟨by rw [r2,hF],by rw [r3,hcc];rfl,by rw [r4,hcc];rfl,hun,λ_ h=>h,λv hv=>by rw [As.1 hv];exact b0,λhd hpl=>⟨λv hv=>?_,λk v hk=>?_,λx hx=>?_⟩⟩
 ·rw [As.1 hv];exact ⟨_,hat,.var (by omega) (by omega),by rw [tm,vF];omega⟩
 ·cases k with
  | zero=>injection hk with hk;subst hk;exact hat
  | succ k=>cases hk
 ·exact (hq x hx).mono (λv hv=>Jb _ hv) λv hv=>hun v (hpl v hv) λh6=>(hd.2 v h6).1 hv
abbrev Bf:=aT->List aC->Option aT
def Nu (f:Bf) (n:Nat) (s:aC) (y:aT):Option (aT ⊕ aT):=
 (mI n s n (0:Int) y).bind λy20=>
 (if (y20.e_ == (0:Int))=true then some (decide (s.iB=[102,111,114])) else some false).bind λy79=>
 if y79=true then
  (lB n y20 s).bind λx85=>
  if (x85.e_ != (0:Int))=true then some (.inr x85) else
   (f x85 s.bV).bind λx88=>(f x88 s.gT).bind λx90=>some (.inl x90)
 else if (y20.e_ != (0:Int))=true then some (.inr y20) else
  (f y20 s.bV).bind λx93=>(f x93 s.gT).bind λx95=>some (.inl x95)
theorem LV {f:Bf} {n:Nat} {full:List aC} {k v:Nat} {s:aC} {y:aT} {Q:aT ⊕ aT->Prop} (hg:full[v]? = some s) (hl:full.length<=100000000)
  (h:bK (Nu f n s y) λz=>(∀d,z=.inl d->bK (fZ f n full k ((v+1:Nat):Int) d) Q)/\∀d,z=.inr d->Q (.inr d)):bK (fZ f n full (k+1) (v:Int) y) Q:=by
 have hlt:=(vE.1 hg).1;unfold fZ;refine bK.iteb (λ_=>?_) λh=>absurd h (by rw [Ar (by omega)];decide);refine bK.bind (bK.eqn (tQ hg) h) λz hz=>?_;rw [show IntKind.i64.wrap ((v:Int)+1)=((v+1:Nat):Int) by rw [cZ (by omega) (by omega)];omega];exact bK.elim (λd e=>hz.1 d e) λd e=>.some (hz.2 d e)
section
variable {vs:List aL} {sc pl:List Int} {n:Nat} {s:aC} {y:aT} {f:Bf}
structure UA (vs:List aL) (sc:List Int) (s:aC):Prop where
 tx:∀z ∈ s.aP,TX vs sc z
 px:∀(i:Nat) z,s.aP[i]? = some z->Dec s i->It vs sc z
 lt:s.iB=[108,101,116]->s.aP.length=1/\∃u,bN vs s.gC=some u
theorem PA (h:UA vs sc s) (hT:Ao (eb y.e_) vs sc y.c_.bP) (hb:qP s.aP<=50000000) (hn:100003000<n) (hf:s.iB ≠ [102,111,114]) {Q:aT ⊕ aT->Prop}
  (h1:∀a,L2R vs sc n s 0 y a->a.e_ ≠ 0->Q (.inr a)) (h2:∀a,L2R vs sc n s 0 y a->a.e_=0->bK ((f a s.bV).bind λx=>(f x s.gT).bind λx=>some (.inl x)) Q):bK (Nu f n s y) Q:=by
 have hlen:=zE s.aP;unfold Nu;refine (Ut h.tx h.px h.lt (by omega) (by omega) n 0 y hT (by omega) (by omega)).bind λa ha=>?_;refine bK.bind (P:=λc=>c=false) ?_ λc hc=>?_
 ·exact bK.iteb (λ_=>.some (xep hf)) λ_=>.some rfl
 subst hc;rw [if_neg (by decide)];refine bK.iteb (λh0=>.some (h1 a ha (by simpa using h0))) λh0=>h2 a ha (by simpa using h0)
theorem TO (h:UA vs sc s) (hT:Ao (eb y.e_) vs sc y.c_.bP) (hb:qP s.aP<=50000000) (hn:100003000<n) {x z:aF} (hs:s=⟨[102,111,114],s.gC,s.iC,[x,z],s.bV,s.gT,s.fC⟩) {u:aL} (hu:bN vs s.gC=some u) (hL:y.e_=0->DR y 1) {Q:aT ⊕ aT->Prop}
  (h1:∀a,L2R vs sc n s 0 y a->a.e_ ≠ 0->Q (.inr a)) (h2:∀a r,L2R vs sc n s 0 y a->a.e_=0->r.e_=0->r.c_.bP=a.c_.bP.set s.gC.toNat ⟨2,((4+a.c_.dT.length:Nat):Int),[]⟩->r.c_.dT=a.c_.dT++[s.gC]->r.c_.tT.length=a.c_.tT.length+1->r.c_.pC.length=a.c_.pC.length+1->bK ((f r s.bV).bind λx=>(f x s.gT).bind λx=>some (.inl x)) Q):bK (Nu f n s y) Q:=by
 have hlen:=zE s.aP;have hop:s.iB=[102,111,114]:=by rw [hs]
 have hli:s.aP=[x,z]:=by rw [hs]
 unfold Nu;refine (Ut h.tx h.px h.lt (by omega) (by omega) n 0 y hT (by omega) (by omega)).bind λa ha=>?_;refine bK.iteb (b:=a.e_ == 0) (x:=some (decide (s.iB=[102,111,114]))) (y:=some false) (Q:=λc=>c=(a.e_ == 0)) (λh0=>.some ?_) (λh0=>.some ?_) |>.bind λc hc=>?_
 ·rw [h0];exact Ar hop
 ·rw [h0]
 subst hc;refine bK.iteb (λh0=>?_) λh0=>?_
 ·have h0:a.e_=0:=by simpa using h0
  have hy0:=ha.e.zero h0;have hTT:=ha.no (by rw [hop];decide);have hTy:Ao false vs sc y.c_.bP:=by rw [AN.2 hy0] at hT;exact hT
  have hxz:xz x<=50000000/\xz z<=50000000:=by
   rw [hli] at hb;rw [qP,qP] at hb;omega
  have px:=h.px 0 x (by rw [hli];rfl) (.inr (.inr (.inl hop)));have pz:=h.px 1 z (by rw [hli];rfl) (.inr (.inr (.inl hop)))
  have hLa:DR a 1:=by
   have:=hL hy0;unfold DR at this ⊢;rw [ha.c];exact this
  have hloop:=Ty (n:=n) (y:=a) (f:=s.iC) (a:=s.fC) (b:=s.bV) (e:=s.gT) (by rw [hTT];exact hTy) px pz hu hLa hxz.1 hxz.2 (by omega);rw [←hs] at hloop;refine hloop.bind λr hr=>?_;obtain ⟨r1,r2,r3,s1,s2,_,_,r4,r5⟩:=hr;rw [r1];rw [if_neg (by rw [h0];decide)];exact h2 a r ha h0 (by rw [r1];exact h0) r2 r3 (by rw [r4,mS];rfl) (by rw [r5,mS];rfl)
 ·have h0:a.e_ ≠ 0:=by simpa using h0
  rw [if_pos (by simpa using h0)];exact .some (h1 a ha h0)
end
theorem PP {n:Nat} {y:aT}:fP (n+2) y []=some y:=rfl
theorem EU (s:aC) (l:List aC):uJ (s::l)=1+qP s.aP+uJ s.bV+uJ s.gT+uJ l:=by rw [uJ,yC]
theorem Gr (s:aC) (l:List aC):Mz (s::l)=Rk s++(Mz s.bV++(Mz s.gT++Mz l))/\AM (s::l)=Ks s++(AM s.bV++(AM s.gT++AM l))/\Mw (s::l)=NI s++(Mw s.bV++(Mw s.gT++Mw l)):=by
 rw [Mz,AM,Mw,dvS_eq,ON,pbS_eq];simp only [Je,and_self]
def Hs (vs:List aL) (sc sc':List Int) (ss:List aC):Prop:=
 ∀(n:Nat) (pl:List Int),100005000+uJ ss<=n->uJ ss<=50000000->(∀v ∈ sc,∀u,bN vs v=some u->u.bT=1->v ∈ pl) ->
  ∀(full:List aC) (k v:Nat) (y:aT),full.drop v=ss->v<=full.length->full.length<=100000000->ss.length<k->Ao (eb y.e_) vs sc y.c_.bP->(y.e_=0->DR y (AM ss).length) ->
   bK (fZ (fP n) n full k (v:Int) y) λz=>BkC vs sc sc' pl ss y (z.elim id id)
theorem Hs.blk {vs:List aL} {sc sc':List Int} {ss:List aC} (h:Hs vs sc sc' ss) {n:Nat} {pl:List Int} (hn:100005001+uJ ss<=n) (hz:uJ ss<=50000000) (hc:∀v ∈ sc,∀u,bN vs v=some u->u.bT=1->v ∈ pl) {y:aT} (hT:Ao (eb y.e_) vs sc y.c_.bP) (hL:y.e_=0->DR y (AM ss).length) :
  bK (fP n y ss) (BkC vs sc sc' pl ss y):=by
 have hlen:=GE ss;obtain ⟨m,rfl⟩:∃m,n=m+1:=⟨n - 1,by omega⟩;show bK (nB (fP m) m y ss) _;unfold nB;refine (h m pl (by omega) hz hc ss m 0 y rfl (Kt _) (by omega) (by omega) hT hL).bind λz hz=>?_;cases z with
 | inl r=>exact .some hz
 | inr r=>exact .some hz
theorem JZ {α:Type} {full:List α} {v:Nat} {s:α} {l:List α} (h:full.drop v=s::l):full[v]? = some s/\full.drop (v+1)=l/\v+1<=full.length:=by
 have h1:full[v]? = some s:=by rw [←xen,h];rfl
 refine ⟨h1,?_,(vE.1 h1).1⟩;rw [←List.tail_drop,h];rfl
section
variable {vs:List aL} {sc sc2 sc':List Int} {s:aC} {l:List aC}
theorem wF (h:UA vs sc s) (hf:s.iB ≠ [102,111,114]) (hB:s.bV=[]) (hE:s.gT=[]) (hsub:∀v ∈ sc,v ∈ sc2) (hnew:∀b T,Ao b vs sc T->s.iB ≠ [108,101,116]->Ao b vs sc2 T) (hlet:s.iB=[108,101,116]->sc2=sc++[s.gC]) (hpub:s.iB ≠ [108,101,116]->∀v ∈ sc2,v ∈ sc ∨ ∃u,bN vs v=some u/\u.bT ≠ 1) (hR:Hs vs sc2 sc' l):Hs vs sc sc' (s::l):=by
 intro n pl hn hz hc full k v y hd hv hl hk hT hL;obtain ⟨g1,g2,g3⟩:=JZ hd;obtain ⟨k,rfl⟩:∃j,k=j+1:=⟨k - 1,by rw [dW] at hk;omega⟩;rw [EU,hB,hE,uJ] at hn hz;obtain ⟨d1,d2,d3⟩:=Gr s l;rw [hB,hE,Mz,gK,gK] at d1;rw [hB,hE,AM,gK,gK] at d2;rw [hB,hE,Mw,gK,gK] at d3;have hfr:Ks s=[]:=by unfold Ks;rw [if_neg hf]
 refine LV g1 hl (PA h hT (by omega) (by omega) hf (λa ha h0=>⟨λd e=>(nomatch e),λd e=>?_⟩) λa ha h0=>?_)
 ·cases e;exact ⟨ha.e,ha.ok,λh1=>absurd h1 h0⟩
 ·rw [hB,hE];obtain ⟨m,rfl⟩:∃m,n=m+2:=⟨n - 2,by omega⟩;rw [PP,iR,PP,iR];refine .some ⟨λd e=>?_,λd e=>(nomatch e)⟩;cases e;have hy0:=ha.e.zero h0;have hTy:Ao false vs sc y.c_.bP:=by rw [AN.2 hy0] at hT;exact hT
  have hown:=Ti (pl:=pl) hTy hc (by omega) ha h0 hf h.lt
  have hT2:Ao (eb a.e_) vs sc2 a.c_.bP:=by
   by_cases ho:s.iB=[108,101,116]
   ·rw [hlet ho];obtain ⟨l1,u,hu⟩:=h.lt ho;obtain ⟨x,t,_,q2,q3,q4,_⟩:=ha.go ho (by omega);rw [q2,AN.2 h0] at *;exact hTy.snoc hu q4 q3
   ·exact hnew _ _ ha.ok ho
  refine (hR (m+2) (pl++Rk s) (by omega) (by omega) (λw hw u hu hku=>?_) full k (v+1) a g2 g3 hl (by rw [dW] at hk;omega) hT2 λ_=>?_).mono λz hz=>?_
  ·by_cases ho:s.iB=[108,101,116]
   ·rw [hlet ho] at hw
    rcases zK.1 hw with hw | hw
    ·exact Jb _ (hc w hw u hu hku)
    ·refine Ms _ ?_;unfold Rk;rw [if_pos (.inr ho)];exact hw
   ·rcases hpub ho w hw with hw | ⟨u',hu',hk'⟩
    ·exact Jb _ (hc w hw u hu hku)
    ·rw [hu] at hu';cases hu';exact absurd hku hk'
  ·have hLy:=hL hy0;rw [d2,hfr,gK] at hLy;exact DR.app (fr:=Ks s) (by rw [hfr,eN,Cv];exact hLy) hown
  ·refine ⟨ha.e.trans hz.e,hz.t1.mono (λe=>e) hsub,λhr=>?_⟩;obtain ⟨z1,z2⟩:=hz.ok hr;refine ⟨z1,?_⟩;rw [d1,d2,d3];exact hown.app z2 λw hw=>zK.1 hw
theorem Lm {scb scb' sce':List Int} {pl plb:List Int} {n k v:Nat} {full:List aC} {y r:aT} {dv0 fr0:List Int} {pb0:List aF} (hB:Hs vs scb scb' s.bV) (hE:Hs vs sc sce' s.gT) (hR:Hs vs sc sc' l)
  (hn:100005000+uJ (s::l)<=n) (hz:uJ (s::l)<=50000000) (hc:∀v ∈ sc,∀u,bN vs v=some u->u.bT=1->v ∈ pl) (hcb:∀v ∈ scb,∀u,bN vs v=some u->u.bT=1->v ∈ plb) (hsb:∀v ∈ sc,v ∈ scb) (hsb':∀v ∈ scb,v ∈ scb') (hse':∀v ∈ sc,v ∈ sce')
  (g2:full.drop (v+1)=l) (g3:v+1<=full.length) (hl:full.length<=100000000) (hk:l.length<k) (her:Er y.e_ r.e_) (hr0:r.e_=0) (hT:Ao false vs scb r.c_.bP) (hL:DR r ((AM s.bV).length+((AM s.gT).length+(AM l).length)))
  (hown:RO pl dv0 fr0 pb0 y r) (hpb:∀v ∈ plb,v ∈ pl ∨ v ∈ dv0) (hpp:∀v ∈ pl,v ∈ plb) (hdl:Mz (s::l)=dv0++(Mz s.bV++(Mz s.gT++Mz l))) (hfl:AM (s::l)=fr0++(AM s.bV++(AM s.gT++AM l))) (hpl:Mw (s::l)=pb0++(Mw s.bV++(Mw s.gT++Mw l))) :
  bK ((fP n r s.bV).bind λx=>(fP n x s.gT).bind λx=>some (.inl x)) λz=>(∀d,z=.inl d->bK (fZ (fP n) n full k ((v+1:Nat):Int) d) λz=>BkC vs sc sc' pl (s::l) y (z.elim id id))/\∀d,z=(.inr d:aT ⊕ aT)->BkC vs sc sc' pl (s::l) y ((.inr d:aT ⊕ aT).elim id id):=by
 rw [EU] at hn hz;refine (hB.blk (pl:=plb) (by omega) (by omega) hcb (by rw [AN.2 hr0];exact hT) λ_=>hL.less (by omega)).bind λc hcc=>?_;have hTc:Ao (eb c.e_) vs sc c.c_.bP:=hcc.t1.mono (λe=>e) hsb;refine (hE.blk (pl:=pl) (by omega) (by omega) hc hTc λh0=>?_).bind λd hdd=>?_
 ·exact (DR.app (hL.less (m':=(AM s.bV).length+(AM s.gT).length) (by omega)) (hcc.ok h0).2)
 refine .some ⟨λd' e=>?_,λd' e=>(nomatch e)⟩;cases e;refine (hR n pl (by omega) (by omega) hc full k (v+1) d g2 g3 hl hk hdd.t1 λh0=>?_).mono λz hz=>?_
 ·have hc0:=hdd.e.zero h0;exact DR.app (DR.app hL (hcc.ok hc0).2) (hdd.ok h0).2
 ·refine ⟨her.trans (hcc.e.trans (hdd.e.trans hz.e)),hz.t1,λhr=>?_⟩;obtain ⟨z1,z2⟩:=hz.ok hr;have hd0:=hz.e.zero hr;have hc0:=hdd.e.zero hd0;refine ⟨z1,?_⟩;rw [hdl,hfl,hpl];exact hown.app ((hcc.ok hc0).2.app ((hdd.ok hd0).2.app z2 λw hw=>.inl hw) λw hw=>.inl (hpp w hw)) hpb
theorem Oj {P:aF->Prop} {x z:aF} (h:P x) (k:P z):∀u ∈ [x,z],P u:=λu hu=>by
 rcases AP.1 hu with rfl | hu
 ·exact h
 ·rw [As.1 hu];exact k
theorem HH {P:aF->Prop} {x:aF} (h:P x):∀u ∈ [x],P u:=λu hu=>by rw [As.1 hu];exact h
theorem get_two {P:aF->Prop} {x z:aF} (h:P x) (k:P z):∀(i:Nat) u,[x,z][i]? = some u->P u:=λi u hu=>Oj h k u (ET hu)
theorem PB {P:aF->Prop} {x:aF} (h:P x):∀(i:Nat) u,[x][i]? = some u->P u:=λi u hu=>HH h u (ET hu)
end
theorem DF {L:List Int} {i:Int}:∀v ∈ L,v ∈ L++[i]:=λv hv=>Jb _ hv
theorem JT (vs:List aL) (sc:List Int):Hs vs sc sc []:=by
 intro n pl hn hz hc full k v y hd hv hl hk hT hL;obtain ⟨k,rfl⟩:∃j,k=j+1:=⟨k - 1,by rw [eN] at hk;omega⟩;have hge:full.length<=v:=by have:=congrArg List.length hd;simp only [Pk,eN] at this;omega
 unfold fZ;refine bK.iteb (λh=>absurd (BI h) (by omega)) λ_=>.some ?_;exact ⟨.refl _,hT,λh0=>⟨by have h0:y.e_=0:=h0;rw [AN.2 h0] at hT;exact hT,.refl _ _⟩⟩
theorem TP {vs:List aL} {res:Int} {lf:Bool} {sc sc':List Int} {ss:List aC} (h:FB vs res lf sc ss sc'):Hs vs sc sc' ss:=by
 have nd:∀ {s:aC} {i:Nat} {P:Prop},s.iB ≠ [108,101,116]->s.iB ≠ [105,102]->s.iB ≠ [102,111,114]->(s.iB=[112,117,116]->i ≠ 0)->Dec s i->P:=λa b c d h=>by
  rcases h with h | h | h | ⟨h,h'⟩
  ·exact absurd h a
  ·exact absurd h b
  ·exact absurd h c
  ·exact absurd h' (d h)
 have newv:∀ {b:Bool} {sc:List Int} {T:List aN} {v:Int} {u:aL},Ao b vs sc T->bN vs v=some u->u.bT ≠ 1->Ao b vs (sc++[v]) T:=λh hu hk=>h.more hu hk
 have pub2:∀ {sc:List Int} {v:Int} {u:aL},bN vs v=some u->u.bT ≠ 1->∀w ∈ sc++[v],w ∈ sc ∨ ∃u,bN vs w=some u/\u.bT ≠ 1:=λhu hk w hw=>by
  rcases zK.1 hw with hw | hw
  ·exact .inl hw
  ·rw [As.1 hw];exact .inr ⟨_,hu,hk⟩
 induction h with
 | nil=>exact JT _ _
 | let_ h1 h2 h3 h4 _ ih=>
   refine wF ⟨HH h1,λi z hz _=>PB (h1.pub h2) i z hz,λ_=>⟨rfl,_,h3⟩⟩ (by simp only;decide) rfl rfl DF (λb T _ ho=>absurd rfl ho) (λ_=>rfl) (λho=>absurd rfl ho) ih
 | var_ h1 h2 h3 h4 _ ih=>
   have hk:∀ {u:aL},u.bT=2 ∨ u.bT=3->u.bT ≠ 1:=λh=>by omega
   refine wF ⟨HH h1,λi z hz hd=>nd (by simp only;decide) (by simp only;decide) (by simp only;decide) (λh=>absurd h (by simp only;decide)) hd,λh=>absurd h (by simp only;decide)⟩ (by simp only;decide) rfl rfl DF (λb T hT _=>newv hT h2 (hk h3)) (λh=>absurd h (by simp only;decide)) (λ_=>pub2 h2 (hk h3)) ih
 | arr h1 h2 _ ih=>
   have hk:∀ {u:aL},u.bT=4->u.bT ≠ 1:=λh=>by omega
   refine wF ⟨λ_ h=>(nomatch h),λi z hz hd=>(nomatch hz),λh=>absurd h (by simp only;decide)⟩ (by simp only;decide) rfl rfl DF (λb T hT _=>newv hT h1 (hk h2)) (λh=>absurd h (by simp only;decide)) (λ_=>pub2 h1 (hk h2)) ih
 | set h1 h2 h3 h4 _ ih=>
   have hk:∀ {u:aL},u.bT=2 ∨ u.bT=3->u.bT ≠ 1:=λh=>by omega
   refine wF ⟨HH h1,λi z hz hd=>nd (by simp only;decide) (by simp only;decide) (by simp only;decide) (λh=>absurd h (by simp only;decide)) hd,λh=>absurd h (by simp only;decide)⟩ (by simp only;decide) rfl rfl DF (λb T hT _=>newv hT h2 (hk h3)) (λh=>absurd h (by simp only;decide)) (λ_=>pub2 h2 (hk h3)) ih
 | put h1 h2 h3 h4 h5 h6 h7 h8 _ ih=>
   refine wF ⟨Oj h4 h7,λi z hz hd=>?_,λh=>absurd h (by simp only;decide)⟩ (by simp only;decide) rfl rfl (λ_ h=>h) (λb T hT _=>hT) (λh=>absurd h (by simp only;decide)) (λ_ w hw=>.inl hw) ih;cases i with
   | zero=>injection hz with hz;rw [←hz];exact h4.pub h5
   | succ i=>exact nd (by simp only;decide) (by simp only;decide) (by simp only;decide) (λ_=>by omega) hd
 | @if_ l sc c b e a sc1 sc2 ss sc' h1 h2 hb he hr ib ie ir=>
   intro n pl hn hz hc full k v y hd hv hl hk hT hL;obtain ⟨g1,g2,g3⟩:=JZ hd;obtain ⟨k,rfl⟩:∃j,k=j+1:=⟨k - 1,by rw [dW] at hk;omega⟩;have hz2:=hz;rw [EU] at hz2;have ty:UA vs sc ⟨[105,102],-1,0,[c],b,e,a⟩:=⟨HH h1,λi z hz _=>PB (h1.pub h2) i z hz,λh=>absurd h (by simp only;decide)⟩;obtain ⟨d1,d2,d3⟩:=Gr ⟨[105,102],-1,0,[c],b,e,a⟩ ss;have hfo:Ks ⟨[105,102],-1,0,[c],b,e,a⟩=[]:=by unfold Ks;rw [if_neg (by simp only;decide)]
   have hdo:Rk ⟨[105,102],-1,0,[c],b,e,a⟩=[]:=by unfold Rk;rw [if_neg (by simp only;decide)]
   refine LV g1 hl (PA ty hT (by omega) (by omega) (by simp only;decide) (λw hw h0=>⟨λd e=>(nomatch e),λd e=>?_⟩) λw hw h0=>?_)
   ·cases e;exact ⟨hw.e,hw.ok,λh1=>absurd h1 h0⟩
   ·have hy0:=hw.e.zero h0;have hTy:Ao false vs sc y.c_.bP:=by rw [AN.2 hy0] at hT;exact hT
    have hown:=Ti (pl:=pl) hTy hc (by omega) hw h0 (by simp only;decide) ty.lt;have hLy:=hL hy0;refine Lm (plb:=pl) ib ie ir hn hz hc hc (λ_ h=>h) hb.sub he.sub g2 g3 hl (by rw [dW] at hk;omega) hw.e h0 (by have:=hw.ok;rw [AN.2 h0] at this;exact this) ?_ hown (λ_ h=>.inl h) (λ_ h=>h) d1 d2 d3;rw [d2,mS,mS,mS] at hLy;exact DR.app hLy hown
 | @for_ l sc x z v u b a sc1 ss sc' h1 h2 h3 h4 h5 h6 hb hr ib ir=>
   intro n pl hn hz hc full k w y hd hv hl hk hT hL;obtain ⟨g1,g2,g3⟩:=JZ hd;obtain ⟨k,rfl⟩:∃j,k=j+1:=⟨k - 1,by rw [dW] at hk;omega⟩;have hz2:=hz;rw [EU] at hz2;have ty:UA vs sc ⟨[102,111,114],v,0,[x,z],b,[],a⟩:=⟨Oj h1 h3,λi z hz _=>get_two (h1.pub h2) (h3.pub h4) i z hz,λh=>absurd h (by simp only;decide)⟩;obtain ⟨d1,d2,d3⟩:=Gr ⟨[102,111,114],v,0,[x,z],b,[],a⟩ ss;have hfo:Ks ⟨[102,111,114],v,0,[x,z],b,[],a⟩=[v]:=by unfold Ks;rw [if_pos rfl]
   have hdo:Rk ⟨[102,111,114],v,0,[x,z],b,[],a⟩=[v]:=by unfold Rk;rw [if_pos (.inl rfl)]
   have hcount:y.e_=0->DR y (1+((AM b).length+((AM ([]:List aC)).length+(AM ss).length))):=λh0=>by
    have:=hL h0;rw [d2,hfo,mS,mS,mS] at this;exact this
   refine LV g1 hl (TO ty hT (by omega) (by omega) rfl h5 (λh0=>(hcount h0).less (by omega)) (λw hw h0=>⟨λd e=>(nomatch e),λd e=>?_⟩) λw r hw h0 hr0 r1 r2 r3 r4=>?_)
   ·cases e;exact ⟨hw.e,hw.ok,λh1=>absurd h1 h0⟩
   ·have hy0:=hw.e.zero h0;have hTy:Ao false vs sc y.c_.bP:=by rw [AN.2 hy0] at hT;exact hT
    have hLy:=hcount hy0;have hl1:=hLy.1;have hown:=own_for (pl:=pl) hTy hc (by omega) hw h0 rfl h5 (by omega) r1 r2 r3 r4;have hFw:w.c_.dT=y.c_.dT:=by rw [hw.c]
    have hTw:w.c_.bP=y.c_.bP:=hw.no (by simp only;decide)
    have hTr:Ao false vs (sc++[v]) r.c_.bP:=by
     rw [r1,hFw,hTw];exact hTy.snoc h5 (.var (by omega) (by omega)) (by rw [tm,vF];omega)
    refine Lm (plb:=pl++[v]) ib (JT vs sc) ir hn hz hc (λt ht u hu hku=>?_) DF hb.sub (λ_ h=>h) g2 g3 hl (by rw [dW] at hk;omega) (.inl (hr0.trans hy0.symm)) hr0 hTr ?_ hown (λt ht=>?_) DF d1 d2 d3
    ·rcases zK.1 ht with ht | ht
     ·exact Jb _ (hc t ht u hu hku)
     ·exact Ms _ ht
    ·exact DR.app (fr:=Ks ⟨[102,111,114],v,0,[x,z],b,[],a⟩) (by rw [hfo];exact hLy) hown
    ·rw [hdo];exact zK.1 ht
 | ret h1 h2=>
   refine wF ⟨HH h1,λi z hz hd=>nd (by simp only;decide) (by simp only;decide) (by simp only;decide) (λh=>absurd h (by simp only;decide)) hd,λh=>absurd h (by simp only;decide)⟩ (by simp only;decide) rfl rfl (λ_ h=>h) (λb T hT _=>hT) (λh=>absurd h (by simp only;decide)) (λ_ w hw=>.inl hw) (JT vs _)
theorem JU:∀l:List aC,(AM l).length<=uJ l
 | []=>tJ _
 | ⟨o,v,f,x,b,e,a⟩::l=>by
   have h1:=JU b;have h2:=JU e;have h3:=JU l;rw [AM,EU,ON];have h4:(Ks ⟨o,v,f,x,b,e,a⟩).length<=1:=by unfold Ks;split <;> simp
   simp only [mS] at *;omega
theorem fors_l1 {f:List aC->Option Int} {l:List aC} (hf:∀x ∈ l,f x.bV=some ((AM x.bV).length:Int)/\f x.gT=some ((AM x.gT).length:Int)) (hb:uJ l<=100000000) :
  ∀(k v:Nat) (acc:Int),l.length<v+k->v<=l.length->0<=acc->acc+(AM (l.drop v)).length<=100000000->xP f l k acc (v:Int)=some (acc+(AM (l.drop v)).length):=by
 have hlen:=GE l;intro k
 induction k with
 | zero=>intro v acc h1 h2;omega
 | succ k ih=>
   intro v acc h1 h2 h3 h4;unfold xP
   by_cases hv:v<l.length
   ·have hd:l.drop v=l[v]::l.drop (v+1):=NW hv;obtain ⟨f1,f2⟩:=hf _ (MD hv);have hm:(AM (l.drop v)).length=(Ks l[v]).length+((AM l[v].bV).length+(AM l[v].gT).length)+(AM (l.drop (v+1))).length:=by rw [hd,AM,ON];simp only [mS]
    rw [hm] at h4;rw [if_pos (Ar (by omega)),tQ (vD hv),iR,f1,f2,cZ (n:=(v:Int)+1) (by omega) (by omega),show ((v:Int)+1)=((v+1:Nat):Int) by omega]
    by_cases ho:l[v].iB=[102,111,114]
    ·have hfo:(Ks l[v]).length=1:=by unfold Ks;rw [if_pos ho];rfl
     rw [if_pos (Ar ho),iR,iR,iR,cZ (n:=acc+1) (by omega) (by omega),cZ (n:=((AM l[v].bV).length:Int)+_) (by omega) (by omega),cZ (by omega) (by omega),ih (v+1) _ (by omega) (by omega) (by omega) (by omega),hm]
     congr 1;omega
    ·have hfo:(Ks l[v]).length=0:=by unfold Ks;rw [if_neg ho];rfl
     rw [if_neg (by rw [BJ];exact ho),iR,iR,iR,cZ (n:=((AM l[v].bV).length:Int)+_) (by omega) (by omega),cZ (by omega) (by omega),ih (v+1) _ (by omega) (by omega) (by omega) (by omega),hm]
     congr 1;omega
   ·rw [if_neg (by rw [BJ];omega),xef (by omega),AM]
    congr 1;simp
theorem fors_eq:∀(n:Nat) (l:List aC),uJ l+1<n->uJ l<=100000000->wH n l=some ((AM l).length:Int):=by
 intro n
 induction n with
 | zero=>intro l h;omega
 | succ n ih=>
   intro l h hb;show vA (wH n) n l=_;unfold vA;have hl:=GE l;have hs:=JU l
   have:=fors_l1 (f:=wH n) (l:=l) (λx hx=>by
    have h1:=LA hx;have h2:=yC x;exact ⟨ih _ (by omega) (by omega),ih _ (by omega) (by omega)⟩) hb n 0 0 (by omega) (by omega) (xeb _) (by rw [iE];omega)
   rw [show ((0:Nat):Int)=0 from rfl] at this;rw [this,iR,iE,Int.zero_add]
def KM (vs:List aL) (p j:Nat):aN:=match vs[j]? with | some u=>if j<p/\u.bT=1 then ⟨2,(j:Int),[]⟩ else tz0 | none=>tz0
structure Ini (vs:List aL) (p:Nat) (y:aT):Prop where
 e:y.e_=0
 fors:y.c_.dT=[]
 low:y.c_.tT=[0,0,0,0]
 high:y.c_.pC=[4294967295,4294967295,4294967295,4294967295]
 len:y.c_.bP.length=vs.length
 t:∀j,j<vs.length->y.c_.bP[j]? = some (KM vs p j)
theorem UV {f:aS} {p:Nat} (hp:f.bC=p) (hpl:p<=f.aX.length) (h4:p<=4):∀(k v:Nat) (y:aT),p<v+k->v<=p->Ini f.aX v y->bK (rL f k (v:Int) y) (Ini f.aX p):=by
 have htk:(f.aX.take f.bC.toNat).length=p:=by rw [hp,Di,Jc];omega
 intro k
 induction k with
 | zero=>intro v y h1 h2;omega
 | succ k ih=>
   intro v y h1 h2 hI;unfold rL;refine bK.iteb (λh=>?_) λh=>.some ?_
   ·have hv:v<p:=by have:=BI h;omega
    have hg:(f.aX.take f.bC.toNat)[v]? = some f.aX[v]:=by rw [xec,if_pos (by rw [hp,Di];exact hv),vD (by omega)]
    rw [cZ (by omega) (by omega),show ((v:Int)+1)=((v+1:Nat):Int) by omega];refine bK.bind (P:=Ini f.aX (v+1)) ?_ λz hz=>ih (v+1) z (by omega) (by omega) hz;refine bK.eqn (tQ hg) ?_
    have hold:∀j,j ≠ v->KM f.aX (v+1) j=KM f.aX v j:=λj hj=>by
     unfold KM;cases f.aX[j]? with
     | none=>rfl
     | some u=>
       simp only
       by_cases h:j<v/\u.bT=1
       ·rw [if_pos h,if_pos ⟨by omega,h.2⟩]
       ·rw [if_neg h,if_neg λh2=>h ⟨by omega,h2.2⟩]
    refine bK.iteb (λhk=>?_) λhk=>.some ⟨hI.e,hI.fors,hI.low,hI.high,hI.len,λj hj=>?_⟩
    ·have hk:f.aX[v].bT=1:=by simpa using hk
     refine bK.eqn (v:=⟨2,(v:Int),[]⟩) (by unfold DU;rw [IntKind.wrap_u32];congr 2;omega) ?_;have hT:=hI.t v (by omega);refine bK.eqn (tQ hT) (.some ⟨hI.e,hI.fors,hI.low,hI.high,by rw [qV];exact hI.len,λj hj=>?_⟩);show (y.c_.bP.set ((v:Int)).toNat _)[j]? = _;rw [Di]
     by_cases e:j=v
     ·subst e;rw [Pl (by rw [hI.len];exact hj)];unfold KM;rw [vD hj];simp only;rw [if_pos ⟨by omega,hk⟩]
     ·rw [Of (λh=>e h.symm),hI.t j hj,hold j e]
    ·have hk:f.aX[v].bT ≠ 1:=by simpa using hk
     rw [hI.t j hj]
     by_cases e:j=v
     ·subst e;unfold KM;rw [vD hj];simp only;rw [if_neg λh=>by omega,if_neg λh=>hk h.2]
     ·rw [hold j e]
   ·have hv:v=p:=by have:=Pj h;omega
    subst hv;exact hI
theorem Ini.tok {vs:List aL} {p:Nat} {y:aT} (h:Ini vs p y) (h4:p<=4):Ao false vs (rB p) y.c_.bP:=by
 refine ⟨h.len,λv hv u hu hk=>?_⟩;obtain ⟨v0,v1⟩:=Jt hv;obtain ⟨j,rfl⟩:∃j:Nat,v=j:=⟨v.toNat,by omega⟩;have hj:j<p:=by omega
 obtain ⟨b0,b1⟩:=DJ hu;have hT:=h.t j (by omega);rw [Nt] at hu;refine ⟨KM vs p j,tQ hT,?_,?_⟩
 ·unfold KM;rw [hu];simp only;rw [if_pos ⟨hj,hk⟩];exact .var (by omega) (by omega)
 ·unfold KM;rw [hu];simp only;rw [if_pos ⟨hj,hk⟩,tm,vF];omega
inductive Km (f:aS) (p:Nat):bH × Int->Prop
 | ok {y0 y:aT} {sc':List Int}:Ini f.aX p y0->Ao false f.aX sc' y.c_.bP->RO (rB p) (Mz f.bV) (AM f.bV) (Mw f.bV) y0 y->p<=4->(AM f.bV).length<=250->Km f p (y.c_,0)
 | count:4<p ∨ 250<(AM f.bV).length->Km f p (⟨[],[],[],[]⟩,136)
 | size:p<=4->(AM f.bV).length<=250->Km f p (⟨[],[],[],[]⟩,161)
theorem RM {f:aS} {p:Nat} {res:Int} {lf:Bool} {sc':List Int} (hp:f.bC=p) (hpl:p<=f.aX.length) (hv:f.aX.length<=4096) (hz:uJ f.bV<=50000000) (hf:FB f.aX res lf (rB p) f.bV sc') {n:Nat} (hn:200000000<=n):bK (xR n f) (Km f p):=by
 unfold xR;have hfs:=JU f.bV;refine bK.bind (P:=λc=>c=true ↔ (4<p ∨ 250<(AM f.bV).length)) ?_ λc hc=>?_
 ·refine bK.iteb (λh=>.some ⟨λ_=>.inl (by have:=BI h;omega),λ_=>rfl⟩) λh=>?_;have h:=Pj h;rw [fors_eq n _ (by omega) (by omega),iR];exact .some ⟨λh=>.inr (by have:=BI h;omega),λh2=>Ar (by omega)⟩
 refine bK.iteb (λh=>.some (.count (hc.1 h))) λh=>?_;have hno:¬ (4<p ∨ 250<(AM f.bV).length):=λh2=>by rw [hc.2 h2] at h;cases h
 refine bK.eqn (v:=[4294967295,4294967295,4294967295,4294967295]) rfl ?_;refine bK.need (by omega) (bK.need (by omega) ?_)
 have hI0:Ini f.aX 0 ⟨⟨List.replicate f.aX.length aN.Z,[],[0,0,0,0],[4294967295,4294967295,4294967295,4294967295]⟩,0⟩:=by
  refine ⟨rfl,rfl,rfl,rfl,Ch,λj hj=>?_⟩;show (List.replicate f.aX.length aN.Z)[j]? = _;rw [List.getElem?_replicate,if_pos hj];unfold KM;rw [vD hj];simp only;rw [if_neg λh=>by omega];rfl
 refine (UV hp hpl (by omega) n 0 _ (by omega) (Kt _) hI0).bind λy0 hI=>?_;have hT:=hI.tok (by omega);refine ((TP hf).blk (pl:=rB p) (by omega) hz (λv hv _ _ _=>hv) (by rw [hI.e];exact hT) λ_=>⟨by rw [hI.fors];simp only [eN];omega,by rw [hI.low,hI.fors];rfl,by rw [hI.high,hI.fors];rfl⟩).bind λy hy=>?_;have her:=hy.e;rw [hI.e] at her;refine bK.iteb (λh0=>.some ?_) λh0=>.some ?_
 ·have h0:y.e_ ≠ 0:=by simpa using h0
  rcases her with h1 | ⟨_,h1⟩
  ·exact absurd h1 h0
  ·rw [h1];exact .size (by omega) (by omega)
 ·have h0:y.e_=0:=by simpa using h0
  obtain ⟨z1,z2⟩:=hy.ok h0;exact .ok hI z1 z2 (by omega) (by omega)
structure OF (f:aS) (c:bH) (p:Nat):Prop where
 par:f.bC=p
 pl:p<=f.aX.length
 v:f.aX.length<=4096
 res:f.bR=0 ∨ f.bR=2 ∨ f.bR=3
 ex:f.dG=true->Aj (f.aX.take p) 0<=4
 cl:Km f p (c,0)
 tz:uJ f.bV<=50000000
theorem of_flat {c:aG} {rk:Int->Nat} (hp:PO c rk) {n:Nat} {i:Int} {r:aS × Int} (hn:200000000<=n) (h:wG n c.p_ i=some r) (he:r.2=0) (h2:∃fn,bN c.p_.bF i=some fn/\Mn fn r.1):∃p:Nat,r.1.bC=p/\p<=r.1.aX.length/\r.1.aX.length<=4096/\(r.1.bR=0 ∨ r.1.bR=2 ∨ r.1.bR=3)/\(r.1.dG=true->Aj (r.1.aX.take p) 0<=4)/\uJ r.1.bV<=50000000/\∃sc',FB r.1.aX r.1.bR true (rB p) r.1.bV sc':=by
 obtain ⟨fn0,_,hf0⟩:=h2;obtain ⟨k,fn,_,hfn,hr,hpre,_,sc',hFB⟩:=Flat_ty hp h he;have hm:=ET hfn;obtain ⟨v1,v2,v3⟩:=hp.co.vl fn hm;obtain ⟨_,k2⟩:=hp.co.ki fn hm;have e1:r.1.bC=fn.bC:=by rw [hr]
 have e2:r.1.bR=fn.bR:=by rw [hr]
 have e3:r.1.dG=fn.dG:=by rw [hr]
 have hlen:=hpre.length_le;refine ⟨fn.bC.toNat,by rw [e1];omega,by omega,hf0.v,by rw [e2];exact k2,λh=>?_,hf0.tz,sc',by rw [e2];exact hFB⟩;rw [e3] at h;have:=hp.ex fn hm h;obtain ⟨rest,hrest⟩:=hpre;rw [←hrest,List.take_append_of_le_length (by omega)];exact this
theorem Tl {n:Nat} (hn:200000000<=n) (s:cJ) (i:Int):bK (mR n s i) λr=>r.2.2=true->∃p,OF r.1 r.2.1 p:=by
 unfold mR;refine bK.iteb (λ_=>.some λh=>(nomatch h)) λhs=>?_;have hs:=Pj hs;refine (RN (n:=n) (s:=s) (by omega) (by omega)).bind λr hr=>?_;refine bK.iteb (λ_=>.some λh=>(nomatch h)) λhe=>?_;have he:r.2.1=0:=by simpa using he
 obtain ⟨c,rk,hc,hp⟩:=hr he;obtain ⟨r2,e2,h2,_⟩:=UR hp.pg (n:=n) (i:=i) hp.rkN (by omega);rw [hc] at e2;rw [e2,iR];refine bK.iteb (λ_=>.some λh=>(nomatch h)) λh3=>?_;have h3:r2.2=0:=by simpa using h3
 rw [←hc] at e2;obtain ⟨p,a1,a2,a3,a4,a5,a6,sc',a7⟩:=of_flat hp hn e2 h3 (h2 h3);refine (RM a1 a2 a3 a6 a7 hn).bind λr3 hr3=>.some λh=>⟨p,a1,a2,a3,a4,a5,?_,a6⟩;have h:r3.2=0:=by simpa using h
 have:(r3.1,(0:Int))=r3:=by rw [←h]
 rw [this];exact hr3
theorem OF.closed {f:aS} {c:bH} {p:Nat} (h:OF f c p):∃y0 y sc',c=y.c_/\Ini f.aX p y0/\Ao false f.aX sc' y.c_.bP/\RO (rB p) (Mz f.bV) (AM f.bV) (Mw f.bV) y0 y/\p<=4/\(AM f.bV).length<=250:=by
 have:=h.cl
 generalize hr:(c,(0:Int))=r at this
 cases this with
 | ok h1 h2 h3 h4 h5=>injection hr with hr;exact ⟨_,_,_,hr,h1,h2,h3,h4,h5⟩
 | count=>injection hr with _ hr;cases hr
 | size=>injection hr with _ hr;cases hr
theorem OF.len {f:aS} {c:bH} {p:Nat} (h:OF f c p):c.bP.length=f.aX.length/\c.dT.length<=250:=by
 obtain ⟨y0,y,sc',rfl,h1,h2,h3,_,h5⟩:=h.closed;refine ⟨h2.len,?_⟩;rw [h3.fors,h1.fors,gK];exact h5
abbrev AY (a:Int):Int:=IntKind.i64.wrap a
theorem w64a (a b:Int):AY (AY a+b)=AY (a+b):=by simp only [AY,IntKind.wrap_i64];omega
theorem w64b (a b:Int):AY (a+AY b)=AY (a+b):=by simp only [AY,IntKind.wrap_i64];omega
theorem w64i (a:Int):AY (AY a)=AY a:=by simp only [AY,IntKind.wrap_i64];omega
section
variable {f:aS} {c:bH}
theorem wide_eq (hl:c.bP.length=f.aX.length) {i:Nat} (hi:i<f.aX.length):∃w,yZ f c (i:Int)=some w/\mB f c (i:Int)=some w:=by
 unfold yZ mB;rw [tQ (vD hi),iR,iR];have ht:bN c.bP (i:Int)=some (c.bP[i]'(by omega)):=tQ (vD (by omega));rw [ht,if_pos (Ar (show (i:Int)<(c.bP.length:Int) by omega))]
 have key:bK ((if (f.aX[i].bT == 1)=true then (some (c.bP[i]'(by omega))).bind λx=>some (x.iB == 1) else some false).bind λy9=>if y9=true then some (0:Int) else if (f.aX[i].bT == 3)=true then some 2 else (if (f.aX[i].bT == 4)=true then some (decide (f.bC<=(i:Int))) else some false).bind λy21=>if y21=true then some f.aX[i].pB else some 1) λ_=>True:=by
  refine bK.bind (P:=λ_=>True) (bK.iteb (λ_=>.some trivial) λ_=>.some trivial) λy _=>bK.iteb (λ_=>.some trivial) λ_=>bK.iteb (λ_=>.some trivial) λ_=>?_;exact bK.bind (P:=λ_=>True) (bK.iteb (λ_=>.some trivial) λ_=>.some trivial) λy _=>bK.iteb (λ_=>.some trivial) λ_=>.some trivial
 obtain ⟨w,hw,_⟩:=key;exact ⟨w,hw,hw⟩
theorem Hg (a w:Int):jI ⟨a⟩ w=some (if (w == 0)=true then (-1,⟨a⟩) else (a,⟨AY (a+AY (4*w))⟩)):=by
 unfold jI
 split <;> rfl
theorem lay_l1 {b:Bool} (hl:c.bP.length=f.aX.length) (hv:f.aX.length<=4096):∀(k v:Nat) (fL:Int) (x:dF),f.aX.length<v+k->v<=f.aX.length->x.uI.length=v->AY fL=fL ->
  ∃at2 off2,AL f c k (v:Int) ⟨fL⟩ x=some (⟨at2⟩,{ x with uI:=off2 })/\mP (f,c,b) k fL x.uI (v:Int)=some (at2,off2)/\off2.length=f.aX.length/\AY at2=at2:=by
 intro k
 induction k with
 | zero=>intro v fL x h1 h2;omega
 | succ k ih=>
   intro v fL x h1 h2 h3 h4;unfold AL mP
   by_cases hlt:v<f.aX.length
   ·obtain ⟨w,w1,w2⟩:=wide_eq hl hlt;rw [if_pos (Ar (by omega)),if_pos (Ar (show (v:Int)<((f,c,b).1.aX.length:Int) by show (v:Int)<(f.aX.length:Int);omega)),w1,w2,iR,iR,Hg,iR,cZ (n:=(v:Int)+1) (by omega) (by omega),show ((v:Int)+1)=((v+1:Nat):Int) by omega];cases hw:(w == 0) with
    | true=>
      rw [if_pos rfl,if_pos rfl,vI (by simp;omega),vI (by simp;omega),iR];exact ih (v+1) fL { x with uI:=x.uI++[-1] } (by omega) (by omega) (by simp [h3]) h4
    | false=>
      rw [if_neg (by decide),if_neg (by decide),vI (by simp;omega),vI (by simp;omega),iR];exact ih (v+1) (AY (fL+AY (4*w))) { x with uI:=x.uI++[fL] } (by omega) (by omega) (by simp [h3]) (w64i _)
   ·rw [if_neg (by rw [BJ];omega),if_neg (by rw [BJ];show ¬ (v:Int)<(f.aX.length:Int);omega)];exact ⟨fL,x.uI,rfl,rfl,by omega,h4⟩
theorem lay_l2 (hf:c.dT.length<=250) (a:Int) (x0:dF):∀(k v:Nat) (bd:List Int),c.dT.length<v+k->v<=c.dT.length->bd.length=v->(∀j:Nat,j<v->bd[j]? = some (AY (a+4*j))) ->
  ∃bd2,AK c k (v:Int) ⟨AY (a+4*v)⟩ { x0 with sZ:=bd }=some (⟨AY (a+4*c.dT.length)⟩,{ x0 with sZ:=bd2 })/\bd2.length=c.dT.length/\∀j:Nat,j<c.dT.length->bd2[j]? = some (AY (a+4*j)):=by
 intro k
 induction k with
 | zero=>intro v bd h1 h2;omega
 | succ k ih=>
   intro v bd h1 h2 h3 h4;unfold AK
   by_cases hlt:v<c.dT.length
   ·rw [if_pos (Ar (by omega)),Hg,iR,if_neg (by decide),vI (by simp;omega),cZ (n:=(v:Int)+1) (by omega) (by omega),show ((v:Int)+1)=((v+1:Nat):Int) by omega];have e:AY (AY (a+4*(v:Int))+AY (4*1))=AY (a+4*((v+1:Nat):Int)):=by rw [w64b,w64a];congr 1;omega
    simp only [e];refine ih (v+1) (bd++[AY (a+4*v)]) (by omega) (by omega) (by simp [h3]) λj hj=>?_
    by_cases hj2:j<v
    ·rw [ME (by omega)];exact h4 j hj2
    ·obtain rfl:j=v:=by omega
     rw [Oa (by omega),h3,Nat.sub_self];rfl
   ·rw [if_neg (by rw [BJ];omega)];obtain rfl:v=c.dT.length:=by omega
    exact ⟨bd,rfl,h3,h4⟩
theorem lays_l2 {x9:dF × Int} {off:List Int} (ho:x9.1.uI=off) (hl:off.length<=4096):∀(k v:Nat),off.length<v+k->v<=off.length->eQ off x9 k (v:Int)=some (.inl ()):=by
 intro k
 induction k with
 | zero=>intro v h1 h2;omega
 | succ k ih=>
   intro v h1 h2;unfold eQ
   by_cases hlt:v<off.length
   ·rw [if_pos (Ar (by omega)),ho,tQ (vD hlt),iR,iR,if_neg (by simp),cZ (n:=(v:Int)+1) (by omega) (by omega),show ((v:Int)+1)=((v+1:Nat):Int) by omega];exact ih (v+1) (by omega) (by omega)
   ·rw [if_neg (by rw [BJ];omega)]
theorem lays_l3 {x9:dF × Int} {a:Int} {m:Nat} (hb:x9.1.sZ.length=m) (hm:m<=250) (h:∀j:Nat,j<m->x9.1.sZ[j]? = some (AY (a+4*j))):∀(k v:Nat),m<v+k->v<=m->eP x9 a k (v:Int)=some (.inl ()):=by
 intro k
 induction k with
 | zero=>intro v h1 h2;omega
 | succ k ih=>
   intro v h1 h2;unfold eP
   by_cases hlt:v<m
   ·rw [if_pos (Ar (by omega)),tQ (h v hlt),iR];have e:IntKind.i64.wrap (a+IntKind.i64.wrap (4*(v:Int)))=AY (a+4*v):=w64b _ _;rw [e,if_neg (by simp),cZ (n:=(v:Int)+1) (by omega) (by omega),show ((v:Int)+1)=((v+1:Nat):Int) by omega];exact ih (v+1) (by omega) (by omega)
   ·rw [if_neg (by rw [BJ];omega)]
end
theorem QW {n:Nat} (hn:200000000<=n) (ha:lI n=some true) (s:cJ) (i:Int):lQ n s i=some true:=by
 unfold lQ;rw [ha,iR,if_neg (by decide)];obtain ⟨⟨f,c,b⟩,e,hr⟩:=Tl hn s i;rw [e,iR];cases b with
 | false=>rfl
 | true=>
   obtain ⟨p,ho⟩:=hr rfl;have ho:OF f c p:=ho;obtain ⟨hl,hfl⟩:=ho.len;have hv:=ho.v;rw [if_neg (by simp)];obtain ⟨at2,off2,e1,e2,e3,e4⟩:=lay_l1 (b:=true) hl hv n 0 0 ⟨[],[],0,0⟩ (by omega) (Kt _) rfl rfl;obtain ⟨bd,e5,e6,e7⟩:=lay_l2 hfl at2 ⟨off2,[],0,0⟩ n 0 [] (by omega) (Kt _) rfl λj hj=>absurd hj (Nat.not_lt_zero _);have e8:AY (at2+4*((0:Nat):Int))=at2:=by rw [show at2+4*((0:Nat):Int)=at2 by omega];exact e4
   rw [e8] at e5;have hb':IntKind.i64.wrap (at2+IntKind.i64.wrap (4*(c.dT.length:Int)))=AY (at2+4*c.dT.length):=w64b _ _;rw [show ((0:Nat):Int)=0 from rfl] at e1 e2 e5
   have hlay:∀(t R B2:Int),qT f=some t->jI ⟨AY (at2+4*c.dT.length)⟩ t=some (R,⟨B2⟩)->zA n f c=some (if decide (1016<B2)=true then (⟨[],[],0,0⟩,160) else (⟨off2,bd,R,B2⟩,0)):=λt R B2 h1 h2=>by
    unfold zA;rw [e1,iR,e5,iR,h1,iR,h2,iR]
    split <;> rfl
   have fin:∀(x9:dF × Int) (R B2:Int),x9=(if decide (1016<B2)=true then (⟨[],[],0,0⟩,160) else (⟨off2,bd,R,B2⟩,0)) ->
     (if decide (1016<B2)=true then ((if (x9.2 == (160:Int))=true then some ((x9.1.uI.length:Int) == (0:Int)) else some false).bind λy=>some y)
     else ((if (x9.2 != (0:Int))=true then some true else if (x9.1.FC != B2)=true then some true else if (x9.1.bR != R)=true then some true else if ((x9.1.uI.length:Int) != (off2.length:Int))=true then some true else some ((x9.1.sZ.length:Int) != (c.dT.length:Int))).bind λy=>if y=true then some false else
      (eQ off2 x9 n (0:Int)).bind λy=>y.elim (λ_=>(eP x9 at2 n (0:Int)).bind λz=>z.elim (λ_=>some true) (λz=>some z)) (λy=>some y)))=some true:=by
    intro x9 R B2 hx
    by_cases hB:(1016:Int)<B2
    ·rw [if_pos (Ar hB)] at hx ⊢;subst hx;rfl
    ·rw [if_neg (by rw [BJ];exact hB)] at hx ⊢;have hx1:x9.1.uI=off2:=by rw [hx]
     have hx2:x9.1.sZ=bd:=by rw [hx]
     have q1:=lays_l2 (x9:=x9) hx1 (by omega) n 0 (by omega) (Kt _);have q2:=lays_l3 (x9:=x9) (a:=at2) (by rw [hx2];exact e6) hfl (by rw [hx2];exact e7) n 0 (by omega) (Kt _);rw [show ((0:Nat):Int)=0 from rfl] at q1 q2;rw [q1,iR,q2,iR];subst hx;rw [if_neg (by simp),if_neg (by simp),if_neg (by simp),if_neg (by simp)];show (some ((bd.length:Int) != (c.dT.length:Int))).bind _=_;rw [e6,iR,if_neg (by simp)];rfl
   have hc1:(AY (at2+4*(c.dT.length:Int)):Int)=IntKind.i64.wrap (at2+IntKind.i64.wrap (4*(c.dT.length:Int))):=hb'.symm
   rcases ho.res with h | h | h
   ·have h1:qT f=some 0:=by unfold qT;rw [h];rfl
    rw [hlay 0 (-1) _ h1 (by rw [Hg];rfl),iR,e2,iR,if_neg (by rw [h];decide),if_neg (by rw [h];decide),←hc1];exact fin _ (-1) _ rfl
   ·have h1:qT f=some 1:=by unfold qT;rw [h];rfl
    have h3:AY (AY (at2+4*(c.dT.length:Int))+AY (4*1))=IntKind.i64.wrap (AY (at2+4*(c.dT.length:Int))+4):=rfl;rw [hlay 1 (AY (at2+4*(c.dT.length:Int))) _ h1 (by rw [Hg];rfl),iR,e2,iR,if_pos (by rw [h];decide),if_neg (by rw [h];decide),←hc1,←h3];exact fin _ _ _ rfl
   ·have h1:qT f=some 2:=by unfold qT;rw [h];rfl
    have h3:AY (AY (at2+4*(c.dT.length:Int))+AY (4*2))=IntKind.i64.wrap (IntKind.i64.wrap (AY (at2+4*(c.dT.length:Int))+4)+4):=by
     generalize AY (at2+4*(c.dT.length:Int))=B
     show AY (B+AY (4*2))=AY (AY (B+4)+4);rw [w64b,w64a];congr 1;omega
    rw [hlay 2 (AY (at2+4*(c.dT.length:Int))) _ h1 (by rw [Hg];rfl),iR,e2,iR,if_pos (by rw [h];decide),if_pos (by rw [h];decide),←hc1,←h3];exact fin _ _ _ rfl
theorem Ux:lI 200000000=some true:=by kernel_rfl
theorem lays_ex:∃n,∀(s:cJ) (i:Int),lQ n s i=some true:=⟨_,QW (tJ _) Ux⟩
