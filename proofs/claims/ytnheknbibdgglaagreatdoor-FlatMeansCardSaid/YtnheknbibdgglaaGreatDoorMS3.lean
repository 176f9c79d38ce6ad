import Derived.Test.YtnheknbibdgglaaGreatDoorMA21
import Derived.Lib.Bytealg
set_option linter.all false
namespace Go.Proofs.YtnheknbibdgglaaGreatDoor.Abs
open Go.RowKit
theorem qJ2 {p0 p1:Prop} (h0:p0) (h1:p1):p0/\p1:=⟨h0,h1⟩
theorem qJ3 {p0 p1 p2:Prop} (h0:p0) (h1:p1) (h2:p2):p0/\p1/\p2:=⟨h0,h1,h2⟩
theorem qJ4 {p0 p1 p2 p3:Prop} (h0:p0) (h1:p1) (h2:p2) (h3:p3):p0/\p1/\p2/\p3:=⟨h0,h1,h2,h3⟩
theorem qJ5 {p0 p1 p2 p3 p4:Prop} (h0:p0) (h1:p1) (h2:p2) (h3:p3) (h4:p4):p0/\p1/\p2/\p3/\p4:=⟨h0,h1,h2,h3,h4⟩
theorem qJ6 {p0 p1 p2 p3 p4 p5:Prop} (h0:p0) (h1:p1) (h2:p2) (h3:p3) (h4:p4) (h5:p5):p0/\p1/\p2/\p3/\p4/\p5:=⟨h0,h1,h2,h3,h4,h5⟩
theorem qJ7 {p0 p1 p2 p3 p4 p5 p6:Prop} (h0:p0) (h1:p1) (h2:p2) (h3:p3) (h4:p4) (h5:p5) (h6:p6):p0/\p1/\p2/\p3/\p4/\p5/\p6:=⟨h0,h1,h2,h3,h4,h5,h6⟩
theorem qJ8 {p0 p1 p2 p3 p4 p5 p6 p7:Prop} (h0:p0) (h1:p1) (h2:p2) (h3:p3) (h4:p4) (h5:p5) (h6:p6) (h7:p7):p0/\p1/\p2/\p3/\p4/\p5/\p6/\p7:=⟨h0,h1,h2,h3,h4,h5,h6,h7⟩
theorem qJ9 {p0 p1 p2 p3 p4 p5 p6 p7 p8:Prop} (h0:p0) (h1:p1) (h2:p2) (h3:p3) (h4:p4) (h5:p5) (h6:p6) (h7:p7) (h8:p8):p0/\p1/\p2/\p3/\p4/\p5/\p6/\p7/\p8:=⟨h0,h1,h2,h3,h4,h5,h6,h7,h8⟩
def qB:List Nat->fP->fP
 | [],E=>E
 | t::ts,E=>qB ts (upd E t (E t).weak1)
@[go_sem] theorem weakE_nil {E:fP}:qB [] E=E:=rI rfl
@[go_sem] theorem weakE_cons {t:Nat} {ts:List Nat} {E:fP}:qB (t::ts) E=qB ts (upd E t (E t).weak1):=rI rfl
theorem Jd:∀ {ts:List Nat} {E:fP} {t:Nat},t ∉ ts->qB ts E t=E t:=by
 intro ts
 induction ts with
 | nil=>intro E t _;rfl
 | cons s ts ih=>
   intro E t h;rw [qB,ih (λhm=>h (IZ _ hm))];show (if t=s then _ else E t)=E t;rw [bU (λe=>h (by rw [e];exact Ja))]
theorem qH.weakE {c:Conc} {a:Act} {N:Nat}:∀ {ts:List Nat} {E:fP},qH c E a N->qH c (qB ts E) a N:=by
 intro ts
 induction ts with
 | nil=>intro E h;exact h
 | cons s ts ih=>
   intro E h;refine ih ⟨h.size,λt=>?_⟩;show CR c [if t=s then (E s).weak1 else E t] _
   split
   ·rename_i e;subst e;exact V.weak1_ok (h.fU t)
   ·exact h.fU t
def jB:List (Pa × Nat)->M->M
 | [],m=>m
 | x::us,m=>jB us (Al (m.blk x.1) m x.1 x.2)
@[go_sem] theorem unselfs_nil {m:M}:jB [] m=m:=rI rfl
@[go_sem] theorem unselfs_cons {id:Pa} {off:Nat} {us:List (Pa × Nat)} {m:M}:jB ((id,off)::us) m=jB us (Al (m.blk id) m id off):=rI rfl
theorem QX {m:M} {id:Pa} {off:Nat}:Al (m.blk id) m id off=m.unself id off:=(Sf (j:=0)).symm
theorem fZ.unselfs {c:Conc} {w:World}:∀ {us:List (Pa × Nat)} {m:M},fZ c m w->fZ c (jB us m) w/\∀q,oB q c m w c (jB us m) w:=by
 intro us
 induction us with
 | nil=>intro m h;exact ⟨h,λq=>.refl q c m w⟩
 | cons x us ih=>
   intro m h;obtain ⟨h1,h2,_⟩:=h.unself x.1 x.2;have e:Al (m.blk x.1) m x.1 x.2=m.unself x.1 x.2:=QX;show fZ c (Abs.jB us (Al (m.blk x.1) m x.1 x.2)) w/\_;rw [e];obtain ⟨h3,h4⟩:=ih h1;refine ⟨h3,λq=>?_⟩;show oB q c m w c (Abs.jB us (Al (m.blk x.1) m x.1 x.2)) w;rw [e];exact (h2 q).trans (h4 q)
section
variable {P:Program} {N:Nat} {π:Pa} {k:Nat} {E:fP} {m:M} {Q:Exit->Nat->fP->M->Prop} {f:FuncId} {args:List V} {q:Pa} {R:V->M->Prop}
theorem OB {x:Code} {ts:List Nat} (hts:ts.all (wr x)=true) {t:Nat} (ht:wr x t=false):t ∉ ts:=λhm=>by
 have:=KK.1 hts t hm;rw [ht] at this;cases this
theorem Kc {x:Code} (K0:Nat) (ts:List Nat) (us:List (Pa × Nat)) (hts:ts.all (wr x)=true) (J:fP->M->Prop) (h:SW P N π x k E m (sS (λk' E' m'=>k'<=K0/\J (qB ts E') (jB us m')) Q))
  (h2:∀E' m',J E' m'->(∀t,wr x t=false->E' t=E t)->Q .normal K0 E' m'):SW P N π x k E m Q:=by
 intro hf c a w g1 g2 g3;refine wp_mono (h hf c a w g1 g2 g3) λe a' w' hp=>?_;obtain ⟨c',k',E',m',q1,q2,q3,q4,q5,q6,q7⟩:=hp;cases e with
 | normal=>
   obtain ⟨hk,hJ⟩:=q1;obtain ⟨r1,r2⟩:=q2.unselfs (us:=us);have hfr:∀t,wr x t=false->qB ts E' t=E t:=λt ht=>(Jd (OB hts ht)).trans (q7 t ht);exact ⟨c',K0,qB ts E',jB us m',h2 _ _ hJ hfr,r1,q3.trans (r2 π),q4.weakE,q5.le hk,q6,hfr⟩
 | _=>exact ⟨c',k',E',m',q1,q2,q3,q4,q5,q6,q7⟩
theorem Vx {x:Code} {ts:List Nat} {us:List (Pa × Nat)} (hts:ts.all (wr x)=true) (h:SW P N π x k (qB ts E) (jB us m) Q):SW P N π x k E m Q:=by
 intro hf c a w g1 g2 g3;obtain ⟨r1,r2⟩:=g1.unselfs (us:=us);refine wp_mono (h hf c a w r1 g2.weakE g3) λe a' w' hp=>?_;obtain ⟨c',k',E',m',q1,q2,q3,q4,q5,q6,q7⟩:=hp;exact ⟨c',k',E',m',q1,q2,(r2 π).trans q3,q4,q5,q6,λt ht=>(q7 t ht).trans (Jd (OB hts ht))⟩
theorem Id {body:Code} (ts:List Nat) (us:List (Pa × Nat)) (hts:ts.all (wr body)=true) (Inv:Nat->fP->M->Prop) (c0:Nat) (h0:Inv c0 (qB ts E) (jB us m))
  (step:∀(i c:Nat) (E':fP) (m':M),Inv c E' m'->(∀t,wr body t=false->E' t=E t)->SW P N (i::k::π) body 0 E' m' (sS (λ_ E2 m2=>∃c',c'<c/\Inv c' (qB ts E2) (jB us m2)) λe _ E2 m2=>Q e (k+1) E2 m2)) :
  SW P N π (.loop body) k E m Q:=by
 refine FE (λc E m=>Inv c (qB ts E) (jB us m)) c0 h0 λi c E' m' hI hf=>?_;exact Vx hts (step i c _ _ hI λt ht=>(Jd (OB hts ht)).trans (hf t ht))
theorem SC.weak (h:SC P f (args.map V.weak1) q m R):SC P f args q m R:=λc xs w h1 h2 h3=>h c xs w h1 (MT h2) h3
end
def cI (k:IntKind) (x:Int):List V:=[.lit (.int k x)]
def cS (s:cQ):List V:=[.lit (.string (bs s))]
def cL {α:Type} (f:α->List V) (l:List α):List V:=[.list .none (l.map f)]
def cA {α:Type} (f:α->List V) (l:List α):List V:=l.flatMap f
@[go_sem] theorem cI_eq {k:IntKind} {x:Int}:cI k x=[.lit (.int k x)]:=rI rfl
@[go_sem] theorem cS_eq {s:cQ}:cS s=[.lit (.string (bs s))]:=rI rfl
@[go_sem] theorem cL_eq {α:Type} {f:α->List V} {l:List α}:cL f l=[.list .none (l.map f)]:=rI rfl
def yQ (k:IntKind) (a b:Int):Int:=k.wrap (BitVec.ofInt k.bits a &&& BitVec.ofInt k.bits b).toNat
def orK (k:IntKind) (a b:Int):Int:=k.wrap (BitVec.ofInt k.bits a ||| BitVec.ofInt k.bits b).toNat
def xorK (k:IntKind) (a b:Int):Int:=k.wrap (BitVec.ofInt k.bits a ^^^ BitVec.ofInt k.bits b).toNat
def Rn (k:IntKind) (a b:Int):Int:=k.wrap (a*2 ^ (min b.toNat k.bits))
def Nh (k:IntKind) (a b:Int):Int:=a.fdiv (2 ^ (min b.toNat k.bits))
def comK (k:IntKind) (n:Int):Int:=k.wrap (BitVec.ofInt k.bits (if k.signed then -1 else k.max) ^^^ BitVec.ofInt k.bits n).toNat
section
variable {P:Program} {T:TypeId} {x y:Operand} {C:V->Prop} {kk k2:IntKind} {a b:Int} {c:Bool}
@[go_sem high] theorem sbin_andK:qU P .and T x y (.lit (.int kk a)) (.lit (.int kk b)) C=C (.lit (.int kk (yQ kk a b))):=by simp [qU,yQ]
@[go_sem high] theorem sbin_orK:qU P .or T x y (.lit (.int kk a)) (.lit (.int kk b)) C=C (.lit (.int kk (orK kk a b))):=by simp [qU,orK]
@[go_sem high] theorem sbin_xorK:qU P .xor T x y (.lit (.int kk a)) (.lit (.int kk b)) C=C (.lit (.int kk (xorK kk a b))):=by simp [qU,xorK]
@[go_sem high] theorem sbin_shlK:qU P .shl T x y (.lit (.int kk a)) (.lit (.int k2 b)) C=(0<=b/\C (.lit (.int kk (Rn kk a b)))):=by simp [qU,Rn]
@[go_sem high] theorem sbin_shrK:qU P .shr T x y (.lit (.int kk a)) (.lit (.int k2 b)) C=(0<=b/\C (.lit (.int kk (Nh kk a b)))):=by simp [qU,Nh]
@[go_sem high] theorem sun_neg:Tz .neg (.lit (.int kk a)) C=C (.lit (.int kk (kk.wrap (0 - a)))):=rI rfl
@[go_sem high] theorem sun_com:Tz .xor (.lit (.int kk a)) C=C (.lit (.int kk (comK kk a))):=rI rfl
@[go_sem high] theorem sun_not:Tz .not (.lit (.bool c)) C=C (.lit (.bool (!c))):=rI rfl
end
theorem Mw {α:Type} {f:α->List V} {s:Nat}:∀ {l:List α} {i:Nat} {x:α},(∀x ∈ l,(f x).length=s)->l[i]? = some x->∃rest,(cA f l).drop (i*s)=f x++rest:=by
 intro l
 induction l with
 | nil=>intro i x _ h;cases h
 | cons y l ih=>
   intro i x hf h;have hy:=hf y zc;cases i with
   | zero=>
     obtain rfl:y=x:=by simpa using h
     exact ⟨cA f l,by simp [cA]⟩
   | succ i=>
     obtain ⟨rest,hr⟩:=ih (λz hz=>hf z (by simp [hz])) (by simpa using h);refine ⟨rest,?_⟩;rw [←hr];show List.drop ((i+1)*s) (f y++cA f l)=_;rw [List.drop_append,List.drop_of_length_le (by rw [hy,Kk];omega),hy,Kk,show i*s+s - s=i*s by omega,wN]
theorem lR {q p:Pa} (hp:¬ q <:+ p):(∀a,(a::q=p)=False)/\∀a,(p=a::q)=False:=⟨λ_=>pa1 hp,λ_=>pb1 hp⟩
theorem jZ {q p:Pa} (hp:¬ q <:+ p):(∀a,(a::q=p)=False)/\(∀a,(p=a::q)=False)/\(∀a b c,(a::b::c::q=p)=False)/\∀a b c,(p=a::b::c::q)=False:=⟨λ_=>pa1 hp,λ_=>pb1 hp,λ_ _ _=>pa3 hp,λ_ _ _=>pb3 hp⟩
theorem pz3 {q p:Pa} (hp:¬ q <:+ p):(∀a,(a::q=p)=False)/\(∀a,(p=a::q)=False)/\(∀a b c,(a::b::c::q=p)=False)/\(∀a b c,(p=a::b::c::q)=False)/\(∀a b c d e,(a::b::c::d::e::q=p)=False)/\∀a b c d e,(p=a::b::c::d::e::q)=False:=⟨λ_=>pa1 hp,λ_=>pb1 hp,λ_ _ _=>pa3 hp,λ_ _ _=>pb3 hp,λ_ _ _ _ _=>pa5 hp,λ_ _ _ _ _=>pb5 hp⟩
theorem Vi {α:Type} {f:α->List V} {s:Nat} (l:List α) (h:l.all (λx=>(f x).length == s)=true):∀x ∈ l,(f x).length=s:=λx hx=>by simpa using KK.1 h x hx
theorem cA_one {l:List cQ} {n:Nat} (h:(cA cS l).length=n):l.length=n:=by
 rw [←h];clear h
 induction l with
 | nil=>rfl
 | cons x l ih=>show l.length+1=(cS x++cA cS l).length;rw [nB,←ih];simp [cS];omega
theorem eO {α:Type} {x:Option α} {r:α} {p:Prop} (h:x=some r) (hx:x=none:=by rfl):p:=by rw [hx] at h;cases h
@[go_sem] theorem bs_empty:ByteArray.empty=bs []:=by rfl
@[go_sem] theorem cA_sh_S {l:List cQ}:(cA cS l).map V.shared=cA cS l:=by
 induction l with
 | nil=>rfl
 | cons x l ih=>show List.map V.shared (cS x++cA cS l)=cS x++cA cS l;rw [xds,ih];rfl
theorem no_self {a b:Nat} {q:Pa} (h:a::b::q=q):False:=by have:=vJ List.length h;simp at this;omega
@[go_sem] theorem p02 {a b:Nat} {q:Pa}:(q=a::b::q)=False:=eq_false λh=>no_self h.symm
@[go_sem] theorem p04 {a b c d:Nat} {q:Pa}:(q=a::b::c::d::q)=False:=eq_false λh=>by have:=vJ List.length h;simp at this;omega
attribute [go_sem] ne_eq Ih Sg nB xds List.cons.injEq and_false false_and Int.cast_ofNat_Int Nat.sub_zero Nat.one_mul Bt SQ ES SU
@[go_sem] theorem weak1_fn {f:Fn} {xs ys:List V}:V.weak1 (.fn f xs ys)=.fn f xs ys:=rI rfl
section
variable {P:Program} {C:V->Prop} {rows:List (List V)} {i off n:Nat} {e:TypeId} {lo hi:Option V}
def slC:Option Int->Option Int->Option Nat->Option (List V)->Nat->Nat->(V->Prop)->Prop
 | some l,some h,some s,some r,n,off,C=>0<s/\0<=l/\l<=h/\h<=n/\n<=1073741824/\off+n*s<=r.length/\C (.list .none (Cg s (h.toNat - l.toNat) (r.drop (off+l.toNat*s))))
 | _,_,_,_,_,_,_=>False
@[go_sem] theorem slU_e:OJ P (.ar n e) (.eptr rows i off) lo hi C=slC (lY lo 0) (lY hi n) (cO P e) rows[i]? n off C:=by
 unfold OJ slC;simp only;cases lY lo 0 <;> cases lY hi n <;> cases cO P e <;> cases rows[i]? <;> rfl
@[go_sem] theorem slC_some {l h:Int} {s:Nat} {r:List V}:slC (some l) (some h) (some s) (some r) n off C=(0<s/\0<=l/\l<=h/\h<=n/\n<=1073741824/\off+n*s<=r.length/\C (.list .none (Cg s (h.toNat - l.toNat) (r.drop (off+l.toNat*s))))):=rI rfl
end
theorem ud_sl {P:Program} {T e:TypeId} (h:ud P T=.sl e):P.underlying T=some (.slice e):=by
 unfold ud at h;cases hu:P.underlying T with
 | none=>rw [hu] at h;cases h
 | some d=>rw [hu] at h;cases d <;> first | (cases h;done) | (injection h with h;rw [h])
@[go_sem] theorem cvU_ll {P:Program} {T e:TypeId} {rows:List (List V)} {C:V->Prop} (h1:ud P T=.sl e) (h2:ud P e=.int .u8):cvU P T T (.sl e) (.sl e) (.list .exact rows) C=(rows ≠ []/\C (.list .exact rows)):=by
 show Ag P T T (.list .exact rows) C=_;have hu:=ud_sl h1;have h3:P.underlying e=some (.int .u8):=by rw [ud_u8];exact h2
 unfold Ag;rw [hu];simp only [h3,true_and]
@[go_sem] theorem byteRows_nil:pK []=[]:=rI rfl
@[go_sem] theorem byteRows_cons {x:UInt8} {l:cQ}:pK (x::l)=[.lit (.int .u8 (x.toNat:Int))]::pK l:=rI rfl
section
variable {P:Program} {T:TypeId} {x y:Operand} {C:V->Prop} {a b:Bool} {k:IntKind} {i j:Int}
theorem kX {α β:Type} {s:Sem α} {f:α->Sem β} {r:α} (h:nK P s=some r):nK P (s >>= f)=nK P (f r):=by
 induction s with
 | pure a=>simp only [nK,Option.some.injEq] at h;subst h;rfl
 | program k ih=>exact ih P h
 | _=>cases h
theorem Ps (hT:P.underlying T=some .bool):nK P (Op.equal T (.bool a) (.bool b))=some (a == b):=by
 have hu:nK P (underlying T)=some TypeDesc.bool:=by
  show nK P (match P.underlying T with | some d=>pure d | none=>stuck _)=_;rw [hT];rfl
 show nK P (Op.equalIn (9999+1) T (.bool a) (.bool b))=_;unfold Op.equalIn;rw [kX hu];rfl
@[go_sem high] theorem sbin_beq (hT:P.underlying T=some .bool):qU P .eql T x y (.lit (.bool a)) (.lit (.bool b)) C=C (.lit (.bool (a == b))):=by
 have:nK P (do eqGuard .eql T x y (.bool a) (.bool b);binOp .eql T (.bool a) (.bool b))=some (.bool (a == b)):=by
  have h1:nK P (eqGuard .eql T x y (.bool a) (.bool b))=some ():=rfl;rw [kX h1];show nK P (do pure (Value.bool (←Op.equal T (.bool a) (.bool b))))=_;rw [kX (Ps hT)];rfl
 apply propext;show (∃r,nK P _=some r/\C (.lit r)) ↔ _;rw [this];exact ⟨λ⟨r,h,hc⟩=>by injection h with h;rw [h];exact hc,λhc=>⟨_,rfl,hc⟩⟩
@[go_sem] theorem sminmax_max:rQ true (.lit (.int k i)) (.lit (.int k j)) C=C (.lit (.int k (max i j))):=by simp [rQ]
@[go_sem] theorem sminmax_min:rQ false (.lit (.int k i)) (.lit (.int k j)) C=C (.lit (.int k (min i j))):=by simp [rQ]
end
theorem zU {P:Program} {N:Nat} {π:Pa} {k:Nat} {E:fP} {m:M} {Q:Exit->Nat->fP->M->Prop} {x:Code} (t:Nat) (rows:List (List V)) (ht:wr x t=true) (he:E t=.list .exact rows)
  (h:SW P N π x (k+1) (upd E t (.list (.st (.anon (k::π) 0)) rows)) (m.tokset (k::π) 0 true) Q):SW P N π x k E m Q:=by
 intro hf c a w g1 g2 g3;have hq:fJ c (k::π):=g3.fU.fU;obtain ⟨c',hc'⟩:∃c':Conc,c'={ c with κ:=λs=>if s=.anon (k::π) 0 then some .full else c.κ s }:=⟨_,rfl⟩;have hκ:∀s,c'.κ s=if s=.anon (k::π) 0 then some .full else c.κ s:=by intro s;rw [hc']
 have hρ:c'.ρ=c.ρ:=by rw [hc']
 have hG:c'.G=c.G:=by rw [hc']
 have hlit:c'.lit=c.lit:=by rw [hc']
 have hbase:c'.base=c.base:=by rw [hc']
 have hle:Le c c':=⟨hbase,λb h=>by rw [hlit];exact h,λi b h=>by rw [hρ];exact h,λs i hk=>by
  rw [hκ];split
  ·rename_i e;rw [e,hq.2.1 0] at hk;cases hk
  ·exact hk,λb o v h=>by rw [hG];exact h⟩
 clear hc';have hblk:∀i,(m.tokset (k::π) 0 true).blk i=m.blk i:=λ_=>rfl;have htok:∀i j,(m.tokset (k::π) 0 true).tok i j=if i=(k::π)/\j=0 then true else m.tok i j:=λ_ _=>rfl
 have harr:∀s b cap sz len,c'.κ s=some (.arr b cap sz len)->s ≠ .anon (k::π) 0/\c.κ s=some (.arr b cap sz len):=by
  intro s b cap sz len hk;rw [hκ] at hk
  split at hk
  ·cases hk
  ·rename_i hne;exact ⟨hne,hk⟩
 have hlive:∀s,s ≠ .anon (k::π) 0->fX (m.tokset (k::π) 0 true) s=true->fX m s=true:=by
  intro s hne hl;cases s with
  | anon i j=>
    have hl':(m.tokset (k::π) 0 true).tok i j=true:=hl;rw [htok,bU (by rintro ⟨rfl,rfl⟩;exact hne rfl)] at hl';exact hl'
  | cell i o v=>exact hl
  | priv b=>exact hl
 have hown:∀b,fC c' (m.tokset (k::π) 0 true) b->fC c m b:=by
  rintro b (⟨id,eZ,hr⟩ | ⟨s,cap,sz,len,hl,hk⟩)
  ·exact .inl ⟨id,eZ,by rw [←hρ];exact hr⟩
  ·obtain ⟨h1,h2⟩:=harr _ _ _ _ _ hk;exact .inr ⟨s,cap,sz,len,hlive s h1 hl,h2⟩
 have hR:fZ c' (m.tokset (k::π) 0 true) w:=by
  refine ⟨by rw [hG];exact g1.com,λid vs hv=>?_,λid id' b hi hi' hr hr'=>g1.inj id id' b hi hi' (by rw [←hρ];exact hr) (by rw [←hρ];exact hr'),λs b cap sz len hl hk=>?_,λs s' b cap sz len cap' sz' len' hl hl' hk hk'=>?_,λid off v hb hv=>?_,λg=>(g1.gl g).mono hle,λid eZ=>?_,by rw [hbase];exact g1.base,λb hb=>?_,λb vs hv=>?_⟩
  ·obtain ⟨b,cs,t',k1,k2,k3,k4,k5⟩:=g1.blk id vs hv;exact ⟨b,cs,t',by rw [hρ];exact k1,k2,k3.mono hle,by rw [hG];exact k4,k5⟩
  ·obtain ⟨h1,h2⟩:=harr _ _ _ _ _ hk;obtain ⟨k1,k2,k3,k4⟩:=g1.own s b cap sz len (hlive s h1 hl) h2;exact ⟨k1,λo ho=>by rw [hG];exact k2 o ho,λid eZ=>by rw [hρ];exact k3 id eZ,k4⟩
  ·obtain ⟨h1,h2⟩:=harr _ _ _ _ _ hk;obtain ⟨h3,h4⟩:=harr _ _ _ _ _ hk';exact g1.ownInj s s' b cap sz len cap' sz' len' (hlive s h1 hl) (hlive s' h3 hl') h2 h4
  ·rw [hκ,bU (by rintro ⟨⟩)];exact g1.ver id off v hb hv
  ·have hf':=eZ.anti hle;refine ⟨(g1.ver0 id hf').1,λj=>?_⟩;rw [htok,bU]
   ·exact (g1.ver0 id hf').2 j
   ·rintro ⟨rfl,rfl⟩;have:=eZ.2.1 0;rw [hκ,cG rfl] at this;cases this
  ·rw [hlit] at hb;refine ⟨by rw [hbase];exact (g1.lit b hb).1,(g1.lit b hb).2.1,λho=>(g1.lit b hb).2.2 (hown b ho)⟩
  ·exact (g1.hpr b vs hv).mono hle λ_ _ _ _ _ hB=>hB
 have hfr1:∀id,¬ (k::π) <:+ id->fJ c id->fJ c' id:=by
  intro id eZ hf';refine ⟨by rw [hρ];exact hf'.1,λi=>?_,λoff v=>?_,by rw [hκ,bU (by rintro ⟨⟩)];exact hf'.2.2.2⟩
  ·rw [hκ,bU]
   ·exact hf'.2.1 i
   ·intro e;injection e with e1 e2;exact eZ (e1 ▸ KO _)
  ·rw [hκ,bU (by rintro ⟨⟩)];exact hf'.2.2.1 off v
 have hX:oB (k::π) c m w c' (m.tokset (k::π) 0 true) w:=by
  refine ⟨hle,rfl,rfl,rfl,tW _,λ_ _ _ _=>rfl,λb _ _ o=>by rw [hG],λb _ ho=>hown b ho,hfr1,λid eZ hb=>?_,λb _ hb=>by rw [hlit] at hb;exact hb⟩;refine ⟨hb.blk,λi=>?_,λoff v=>?_,hb.ver,λj=>?_⟩
  ·rw [hκ,bU]
   ·exact hb.anon i
   ·intro e;injection e with e1 e2;exact eZ (e1 ▸ KO _)
  ·rw [hκ,bU (by rintro ⟨⟩)];exact hb.cell off v
  ·rw [htok,bU]
   ·exact hb.tok j
   ·rintro ⟨rfl,_⟩;exact eZ (KO _)
 have hE:qH c' (upd E t (.list (.st (.anon (k::π) 0)) rows)) a N:=by
  refine ⟨g2.size,λt'=>?_⟩;show CR c' [if t'=t then _ else E t'] _
  split
  ·rename_i e;subst e;have h0:=(g2.fU t').mono hle;rw [he] at h0;obtain ⟨x',cap,es,sz,e1,k1,k2,kz,k3,k4,k5,k6,kc,k7⟩:=h0.inv_list;rw [e1];exact .list k1 k2 kz k3 k4 k5 k6 kc (.inl ⟨by rw [hκ,cG rfl],k7.1⟩) .nil
  ·exact (g2.fU t').mono hle
 refine wp_mono (h hf c' a w hR hE (hX.freshK g3)) λe a' w' hp=>?_;obtain ⟨c2,k',E',m',q1,q2,q3,q4,q5,q6,q7⟩:=hp;refine ⟨c2,k',E',m',q1,q2,hX.up.trans q3,q4,q5,q6,λt' ht'=>?_⟩;rw [q7 t' ht'];show (if t'=t then _ else E t')=E t';rw [bU];rintro rfl;rw [ht] at ht';cases ht'
section
variable {P:Program} {c c':Conc} {m m' m0 m1 m2:M} {w w':World} {q p:Pa}
theorem fZ.less (h:fZ c m' w) (hb:∀id vs,m2.blk id=some vs->m'.blk id=some vs/\m2.ver id=m'.ver id) (ht:∀id j,m2.tok id j=true->m'.tok id j=true) (hg:m2.gl=m'.gl)
  (h0:∀id,fJ c id->(∀off,m2.ver id off=0)/\∀j,m2.tok id j=false) (hhp:m2.hp=m'.hp:=by rfl):fZ c m2 w/\∀b,fC c m2 b->fC c m' b:=by
 have hbn:∀id,m2.blk id ≠ none->m'.blk id ≠ none/\m2.ver id=m'.ver id:=by
  intro id eZ;obtain ⟨vs,hv⟩:∃vs,m2.blk id=some vs:=by cases hx:m2.blk id with | none=>exact dE hx eZ | some vs=>exact ⟨vs,rfl⟩
  obtain ⟨h1,h2⟩:=hb id vs hv;exact ⟨by rw [h1];simp,h2⟩
 have hlive:∀s,fX m2 s=true->fX m' s=true:=by
  intro s hl;cases s with
  | anon i j=>exact ht i j hl
  | priv b=>
    have hl':(m2.hp b).isSome=true:=hl;rw [hhp] at hl';exact hl'
  | cell i off v=>
    obtain ⟨h1,vs,rows,h2,h3⟩:=qY hl;obtain ⟨h4,h5⟩:=hb i vs h2;rw [h5] at h1;exact qX h1 h4 h3
 have hown:∀b,fC c m2 b->fC c m' b:=by
  rintro b (⟨id,eZ,hr⟩ | ⟨s,cap,sz,len,hl,hk⟩)
  ·exact .inl ⟨id,(hbn id eZ).1,hr⟩
  ·exact .inr ⟨s,cap,sz,len,hlive s hl,hk⟩
 refine ⟨⟨h.com,λid vs hv=>?_,λid id' b hi hi'=>h.inj id id' b (hbn id hi).1 (hbn id' hi').1,λs b cap sz len hl hk=>?_,λs s' b cap sz len cap' sz' len' hl hl'=>h.ownInj s s' b cap sz len cap' sz' len' (hlive s hl) (hlive s' hl'),λid off v hi hv=>?_,λg=>by rw [hg];exact h.gl g,h0,h.base,λb hl=>⟨(h.lit b hl).1,(h.lit b hl).2.1,λho=>(h.lit b hl).2.2 (hown b ho)⟩,λb vs hv=>h.hpr b vs (by rw [←hhp];exact hv)⟩,hown⟩
 ·obtain ⟨h1,h2⟩:=hb id vs hv;obtain ⟨b,cs,t,k1,k2,k3,k4,k5⟩:=h.blk id vs h1;exact ⟨b,cs,t,k1,k2,by rw [h2];exact k3,k4,k5⟩
 ·obtain ⟨k1,k2,k3,k4⟩:=h.own s b cap sz len (hlive s hl) hk;exact ⟨k1,k2,λid eZ=>k3 id (hbn id eZ).1,k4⟩
 ·obtain ⟨h1,h2⟩:=hbn id hi;rw [h2] at hv;exact h.ver id off v h1 hv
theorem fZ.backT {id:Pa} {j:Nat} (h:fZ c m w) (hf:uU c q) (h':fZ c' m' w') (ht:m'.tok id j=true) (hq:q <:+ id) :
  fZ c' ((m.back q m').tokset id j true) w'/\∀b,fC c' ((m.back q m').tokset id j true) b->fC c' m' b:=by
 have hsub:∀i,q.isSuffixOf i=true->m.blk i=none/\(∀off,m.ver i off=0)/\∀j,m.tok i j=false:=by
  intro i hi;have hf':=hf i (GS.1 hi);exact ⟨h.fresh_blk hf',(h.ver0 i hf').1,(h.ver0 i hf').2⟩
 have hblk:∀i,((m.back q m').tokset id j true).blk i=if q.isSuffixOf i then m.blk i else m'.blk i:=λ_=>rfl;have hver:∀i,((m.back q m').tokset id j true).ver i=if q.isSuffixOf i then m.ver i else m'.ver i:=λ_=>rfl;have htok:∀i k,((m.back q m').tokset id j true).tok i k=if i=id/\k=j then true else (if q.isSuffixOf i then m.tok i else m'.tok i) k:=λ_ _=>rfl;have hqs:=GS.2 hq;refine h'.less (λi vs hv=>?_) (λi k hk=>?_) rfl (λi hi=>⟨λoff=>?_,λk=>?_⟩)
 ·rw [hblk] at hv;rw [hver];cases hs:q.isSuffixOf i with
  | true=>rw [cG hs,(hsub i hs).1] at hv;cases hv
  | false=>rw [bU (by simp [hs])] at hv ⊢;exact ⟨hv,rfl⟩
 ·rw [htok] at hk
  split at hk
  ·rename_i e;rw [e.1,e.2];exact ht
  ·split at hk
   ·rename_i hs;rw [(hsub i hs).2.2 k] at hk;cases hk
   ·exact hk
 ·rw [hver]
  split
  ·rename_i hs;exact (hsub i hs).2.1 off
  ·exact (h'.ver0 i hi).1 off
 ·rw [htok,bU]
  ·split
   ·rename_i hs;exact (hsub i hs).2.2 k
   ·exact (h'.ver0 i hi).2 k
  ·rintro ⟨rfl,rfl⟩;rw [(h'.ver0 i hi).2 k] at ht;cases ht
theorem fZ.give (h:fZ c m1 w) (hf:fJ c p) (hX:oB p c m0 w c m1 w) (info:MD)
  (hin:∀b cap sz len,info=.arr b cap sz len->(∃cs t,zW w b t cs/\cs.size=cap*sz)/\(∀o,len*sz<=o->c.G b o=none)/\(∀id,m1.blk id ≠ none->c.ρ id ≠ some b)/\len<=cap/\0<sz ∧
    (∀s cap' sz' len',fX m1 s=true->c.κ s ≠ some (.arr b cap' sz' len'))/\fC c m0 b/\¬ c.lit b) :
  ∃c',c'.κ (.anon p 0)=some info/\Le c c'/\fZ c' (m1.tokset p 0 true) w/\oB p c m0 w c' (m1.tokset p 0 true) w:=by
 obtain ⟨c',hc'⟩:∃c':Conc,c'={ c with κ:=λs=>if s=.anon p 0 then some info else c.κ s }:=⟨_,rfl⟩;have hκ:∀s,c'.κ s=if s=.anon p 0 then some info else c.κ s:=by intro s;rw [hc']
 have hρ:c'.ρ=c.ρ:=by rw [hc']
 have hG:c'.G=c.G:=by rw [hc']
 have hlit:c'.lit=c.lit:=by rw [hc']
 have hbase:c'.base=c.base:=by rw [hc']
 have hle:Le c c':=⟨hbase,λb h=>by rw [hlit];exact h,λi b h=>by rw [hρ];exact h,λs i hk=>by
  rw [hκ];split
  ·rename_i e;rw [e,hf.2.1 0] at hk;cases hk
  ·exact hk,λb o v h=>by rw [hG];exact h⟩
 clear hc';have htok:∀i j,(m1.tokset p 0 true).tok i j=if i=p/\j=0 then true else m1.tok i j:=λ_ _=>rfl
 have hlive:∀s,s ≠ .anon p 0->fX (m1.tokset p 0 true) s=true->fX m1 s=true:=by
  intro s hne hl;cases s with
  | anon i j=>
    have hl':(m1.tokset p 0 true).tok i j=true:=hl;rw [htok,bU (by rintro ⟨rfl,rfl⟩;exact hne rfl)] at hl';exact hl'
  | cell i o v=>exact hl
  | priv b=>exact hl
 have hold:∀s b cap sz len,s ≠ .anon p 0->c'.κ s=some (.arr b cap sz len)->c.κ s=some (.arr b cap sz len):=by
  intro s b cap sz len hne hk;rw [hκ,bU hne] at hk;exact hk
 have hown:∀b,fC c' (m1.tokset p 0 true) b->fC c m0 b ∨ fC c m1 b:=by
  rintro b (⟨id,eZ,hr⟩ | ⟨s,cap,sz,len,hl,hk⟩)
  ·exact .inr (.inl ⟨id,eZ,by rw [←hρ];exact hr⟩)
  ·by_cases hs:s=.anon p 0
   ·rw [hκ,cG hs] at hk
    injection hk with hk
    exact .inl (hin _ _ _ _ hk).2.2.2.2.2.2.1
   ·exact .inr (.inr ⟨s,cap,sz,len,hlive s hs hl,hold _ _ _ _ _ hs hk⟩)
 refine ⟨c',by rw [hκ,cG rfl],hle,?_,?_⟩
 ·refine ⟨by rw [hG];exact h.com,λid vs hv=>?_,λid id' b hi hi' hr hr'=>h.inj id id' b hi hi' (by rw [←hρ];exact hr) (by rw [←hρ];exact hr'),λs b cap sz len hl hk=>?_,λs s' b cap sz len cap' sz' len' hl hl' hk hk'=>?_,λid off v hb hv=>?_,λg=>(h.gl g).mono hle,λid eZ=>?_,by rw [hbase];exact h.base,λb hb=>?_,λb vs hv=>?_⟩
  ·obtain ⟨b,cs,t',k1,k2,k3,k4,k5⟩:=h.blk id vs hv;exact ⟨b,cs,t',by rw [hρ];exact k1,k2,k3.mono hle,by rw [hG];exact k4,k5⟩
  ·by_cases hs:s=.anon p 0
   ·rw [hκ,cG hs] at hk
    injection hk with hk
    obtain ⟨k1,k2,k3,k4,k5,_⟩:=hin _ _ _ _ hk;exact ⟨k1,λo ho=>by rw [hG];exact k2 o ho,λid eZ=>by rw [hρ];exact k3 id eZ,k4,k5⟩
   ·obtain ⟨k1,k2,k3,k4⟩:=h.own s b cap sz len (hlive s hs hl) (hold _ _ _ _ _ hs hk);exact ⟨k1,λo ho=>by rw [hG];exact k2 o ho,λid eZ=>by rw [hρ];exact k3 id eZ,k4⟩
  ·by_cases hs:s=.anon p 0 <;> by_cases hs':s'=.anon p 0
   ·rw [hs,hs']
   ·rw [hκ,cG hs] at hk
    injection hk with hk
    exact dE (hold _ _ _ _ _ hs' hk') ((hin _ _ _ _ hk).2.2.2.2.2.1 s' _ _ _ (hlive s' hs' hl'))
   ·rw [hκ,cG hs'] at hk'
    injection hk' with hk'
    exact dE (hold _ _ _ _ _ hs hk) ((hin _ _ _ _ hk').2.2.2.2.2.1 s _ _ _ (hlive s hs hl))
   ·exact h.ownInj s s' b cap sz len cap' sz' len' (hlive s hs hl) (hlive s' hs' hl') (hold _ _ _ _ _ hs hk) (hold _ _ _ _ _ hs' hk')
  ·rw [hκ,bU (by rintro ⟨⟩)];exact h.ver id off v hb hv
  ·have hf':=eZ.anti hle;refine ⟨(h.ver0 id hf').1,λj=>?_⟩;rw [htok,bU]
   ·exact (h.ver0 id hf').2 j
   ·rintro ⟨rfl,rfl⟩;have:=eZ.2.1 0;rw [hκ,cG rfl] at this;cases this
  ·rw [hlit] at hb;refine ⟨by rw [hbase];exact (h.lit b hb).1,(h.lit b hb).2.1,?_⟩;rintro (⟨id,eZ,hr⟩ | ⟨s,cap,sz,len,hl,hk⟩)
   ·exact (h.lit b hb).2.2 (.inl ⟨id,eZ,by rw [←hρ];exact hr⟩)
   ·by_cases hs:s=.anon p 0
    ·rw [hκ,cG hs] at hk
     injection hk with hk
     exact (hin _ _ _ _ hk).2.2.2.2.2.2.2 hb
    ·exact (h.lit b hb).2.2 (.inr ⟨s,cap,sz,len,hlive s hs hl,hold _ _ _ _ _ hs hk⟩)
  ·exact (h.hpr b vs hv).mono hle λ_ _ _ _ _ hB=>hB
 ·refine ⟨hX.le.trans hle,hX.os,hX.tape,hX.output,hX.size,hX.heap,λb hb ho o=>by rw [hG],λb hb ho=>(hown b ho).elim (λx=>x) (λx=>hX.own b hb x),λid eZ hf'=>?_,λid eZ hb=>?_,λb hb hl=>hX.lits b hb (by rw [hlit] at hl;exact hl)⟩
  ·have h1:=hX.fresh id eZ hf';refine ⟨by rw [hρ];exact h1.1,λi=>?_,λoff v=>?_,by rw [hκ,bU (by rintro ⟨⟩)];exact h1.2.2.2⟩
   ·rw [hκ,bU]
    ·exact h1.2.1 i
    ·intro e;injection e with e1 e2;exact eZ (e1 ▸ KO _)
   ·rw [hκ,bU (by rintro ⟨⟩)];exact h1.2.2.1 off v
  ·have h1:=hX.keep id eZ hb;refine ⟨h1.blk,λi=>?_,λoff v=>?_,h1.ver,λj=>?_⟩
   ·rw [hκ,bU]
    ·exact h1.anon i
    ·intro e;injection e with e1 e2;exact eZ (e1 ▸ KO _)
   ·rw [hκ,bU (by rintro ⟨⟩)];exact h1.cell off v
   ·rw [htok,bU]
    ·exact h1.tok j
    ·rintro ⟨rfl,_⟩;exact eZ (KO _)
theorem fZ.take {id:Pa} {off:Nat} {cs:List V} {rows:List (List V)} (h:fZ c m w) (hf:fJ c p) (hv:m.blk id=some cs) (ho:cs[off]? = some (.list .self rows)) :
  ∃c',Le c c'/\fZ c' ((m.unself id off).tokset p 0 true) w/\oB p c m w c' ((m.unself id off).tokset p 0 true) w/\∀x,CR c [.list (.st (.cell id off (m.ver id off))) rows] [x]->CR c' [.list (.st (.anon p 0)) rows] [x]:=by
 obtain ⟨h1,h2,h3⟩:=h.unself id off;have hlive:fX m (.cell id off (m.ver id off))=true:=qX rfl hv ho;obtain ⟨b,vals,t,k1,k2,k3,k4,k5⟩:=h.blk id cs hv
 have hl:(EM (m.ver id) id cs)[off]? = some (.list (.st (.cell id off (m.ver id off))) rows):=by
  unfold EM;rw [Tf,ho];rfl
 obtain ⟨x0,_,hx0⟩:=k3.get hl;obtain ⟨a,cap,es,sz,_,g1,g2,g3,g4,g5,g6,g7,g8,g9⟩:=hx0.inv_list
 obtain ⟨info,hinfo⟩:∃info,c.κ (.cell id off (m.ver id off))=some info:=by
  rcases g9 with ⟨h1,_⟩ | ⟨b,h1,_⟩
  ·exact ⟨_,h1⟩
  ·exact ⟨_,h1⟩
 obtain ⟨c',e1,e2,e3,e4⟩:=h1.give (m0:=m) hf (h2 p) info (λb cap sz len hi=>by
  subst hi;obtain ⟨q1,q2,q3,q4,q5⟩:=h.own _ b cap sz len hlive hinfo
  have Da:∀i,(m.unself id off).blk i ≠ none->m.blk i ≠ none:=by
   intro i hi;unfold M.unself at hi;rw [hv] at hi;simp only [ho] at hi;have hi':(if i=id then some (cs.set off (.list .none rows)) else m.blk i) ≠ none:=hi
   by_cases hii:i=id
   ·subst hii;rw [hv];simp
   ·rw [bU hii] at hi';exact hi'
  refine ⟨q1,q2,λi hi=>q3 i (Da i hi),q4,q5,λs cap' sz' len' hs hk=>?_,.inr ⟨_,_,_,_,hlive,hinfo⟩,λhlb=>(h.lit b hlb).2.2 (.inr ⟨_,_,_,_,hlive,hinfo⟩)⟩;obtain ⟨s1,s2⟩:=h3 s hs;exact s2 (m.ver id off) (h.ownInj _ _ _ _ _ _ _ _ _ s1 hlive hk hinfo))
 refine ⟨c',e2,e3,e4,λx hx=>?_⟩;obtain ⟨a,cap,es,sz,rfl,g1,g2,g3,g4,g5,g6,g7,g8,g9⟩:=(hx.mono e2).inv_list;refine .list g1 g2 g3 g4 g5 g6 g7 g8 ?_ .nil;have hk:=e2.κ _ _ hinfo
 rcases g9 with ⟨h1,h2⟩ | ⟨b,h1,h2⟩
 ·exact .inl ⟨by rw [e1,←hk,h1],h2⟩
 ·exact .inr ⟨b,by rw [e1,←hk,h1],h2⟩
theorem fZ.stamped (h:fZ c m w) (hf:fJ c p):∃c',Le c c'/\fZ c' (m.tokset p 0 true) w/\oB p c m w c' (m.tokset p 0 true) w/\∀rows x,CR c [.list .exact rows] [x]->CR c' [.list (.st (.anon p 0)) rows] [x]:=by
 obtain ⟨c',e1,e2,e3,e4⟩:=h.give (m0:=m) hf (.refl p c m w) .full (λ_ _ _ _ h=>by cases h);refine ⟨c',e2,e3,e4,λrows x hx=>?_⟩;obtain ⟨a,cap,es,sz,rfl,g1,g2,g3,g4,g5,g6,g7,g8,g9⟩:=(hx.mono e2).inv_list;exact .list g1 g2 g3 g4 g5 g6 g7 g8 (.inl ⟨e1,g9.1⟩) .nil
theorem Uq {T n:Nat} {id:Pa} {cs:List V} {x:Value} (ha:oD P T=some true) (hn:cO P T=some n) (hl:cs.length=n) (h:fZ c m w) (hv:m.blk id=some cs) (hx:CR c [.ptr id 0] [x]) :
  ∃vals:List Value,(Instr.loadAt T x).run P w=.ok (.agg vals.toArray) w/\CR c (EM (m.ver id) id cs) vals/\(∀u ∈ vals,u.oneCell'=true)/\∃b,x=.pointer (some ⟨b,0,none⟩):=by
 obtain ⟨b,hr,rfl⟩:=hx.inv_ptr;obtain ⟨b',vals,t,hr',hB,k1,k2,k3⟩:=h.blk id cs hv;rw [hr] at hr';injection hr' with e;subst e
 have hlen:vals.toList.length=n:=by rw [k1.len,JH,hl]
 have hld:=run_loadCells_list (P:=P) w ⟨b,0,none⟩ vals.toList (λj u hj=>by
  rw [lT,hB.cell];simpa using hj)
 rw [hlen] at hld;exact ⟨vals.toList,by simp [Instr.loadAt,Instr.sureAddr,loadVar,Fd ha,kC hn,hld],k1,k3,b,rfl⟩
theorem In {fn:Func} {t:Nat} (hr:fn.results.toList=[.tmp t]) (tmps:Array Value) (w:World):(results fn tmps).run P w=.ok (tmps.getD t undef) w:=by
 have he:results fn tmps=(do
   let vs ←fn.results.mapM (GH tmps)
   pure (if h:vs.size=1 then vs[0] else .tuple vs)):=by
  unfold results
  congr 1
 rw [he];simp [xer,hr,GH]
theorem LZ {fn:Func} {t T:Nat} {b:Nat} {z:Value} (hr:fn.results.toList=[.cell t T]) (tmps:Array Value) (w:World) (ht:tmps.getD t undef=.pointer (some ⟨b,0,none⟩)) (hz:(Instr.loadAt T (.pointer (some ⟨b,0,none⟩))).run P w=.ok z w):(results fn tmps).run P w=.ok z w:=by
 have he:results fn tmps=(do
   let vs ←fn.results.mapM (GH tmps)
   pure (if h:vs.size=1 then vs[0] else .tuple vs)):=by
  unfold results
  congr 1
 have hz':(loadVar T ⟨b,0,none⟩).run P w=.ok z w:=by simpa [Instr.loadAt,Instr.sureAddr] using hz
 rw [he];simp [xer,hr,GH,ht,asAddr,hz']
inductive Src (P:Program) (rs:List ResultVar) (E:fP) (m:M) (q:Pa) (k:Nat):Pa->Nat->V->Prop where
 | exact {t rows}:rs=[.tmp t]->E t=.list .exact rows->Src P rs E m q k (k::q) 0 (.list (.st (.anon (k::q) 0)) rows)
 | mine {t rows id j}:rs=[.tmp t]->E t=.list (.st (.anon id j)) rows->m.tok id j=true->Src P rs E m q k id j (.list (.st (.anon id j)) rows)
 | cell {t T b cs off rows}:rs=[.cell t T]->E t=.ptr b 0->q <:+ b->m.blk b=some cs->oD P T=some true->cO P T=some cs.length->cs[off]? = some (.list .self rows)->Src P rs E m q k (k::q) 0 (.agg ((cs.map V.shared).set off (.list (.st (.anon (k::q) 0)) rows)))
theorem Pg {ver:Nat->Nat} {id:Pa} {vs:List V}:(EM ver id vs).map V.shared=vs.map V.shared:=by
 unfold EM;apply OA;intro i;rw [AJ,AJ,Tf];cases vs[i]? with
 | none=>rfl
 | some v=>simp [KX]
theorem Src.ok {fn:Func} {E:fP} {a:Act} {N k:Nat} {id:Pa} {j:Nat} {v:V} (hs:Src P fn.results.toList E m' q k id j v) (h:fZ c' m' w) (hE:qH c' E a N) (hf:uM c' q k) (mb:M) :
  ∃c1 m1 x,(results fn a.tmps).run P w=.ok x w/\fZ c1 m1 w/\oB q c' m' w c1 m1 w/\m1.tok id j=true/\mb.back q m1=mb.back q m'/\CR c1 [v] [x]:=by
 have hp:fJ c' (k::q):=hf.fU.fU
 generalize hrs:fn.results.toList=rs at hs
 cases hs with
 | @exact t rows e1 e2=>
   subst e1;obtain ⟨c1,_,k2,k3,k4⟩:=h.stamped hp;have hx:=hE.fU t;rw [e2] at hx;exact ⟨c1,_,_,In hrs a.tmps w,k2,k3.up,by show (if (k::q)=(k::q)/\0=0 then true else _)=true;rw [cG ⟨rfl,rfl⟩],bZ (iG tG),k4 _ _ hx⟩
 | @mine t rows id j e1 e2 e3=>
   subst e1;have hx:=hE.fU t;rw [e2] at hx;exact ⟨c',m',_,In hrs a.tmps w,h,.refl q c' m' w,e3,rfl,hx⟩
 | @cell t T b cs off rows e1 e2 e3 e4 e5 e6 e7=>
   subst e1;have hx:=hE.fU t;rw [e2] at hx;obtain ⟨vals,l1,l2,l3,bb,l4⟩:=Uq e5 e6 rfl h e4 hx;obtain ⟨c1,k1,k2,k3,k4⟩:=h.take hp e4 e7;rw [l4] at l1;refine ⟨c1,_,.agg vals.toArray,LZ hrs a.tmps w l4 l1,k2,k3.up,by show (if (k::q)=(k::q)/\0=0 then true else _)=true;rw [cG ⟨rfl,rfl⟩],?_,?_⟩
   ·rw [bZ (iG tG)];unfold M.unself;rw [e4];simp only [e7];exact bB e3
   ·have hld:(EM (m'.ver b) b cs)[off]? = some (.list (.st (.cell b off (m'.ver b off))) rows):=by
     unfold EM;rw [Tf,e7];rfl
    obtain ⟨y,hy,hy2⟩:=l2.get hld;have h3:=(DO l2).mono k1;rw [Pg] at h3;have h4:=h3.set off (k4 y hy2)
    have h5:vals.set off y=vals:=by
     apply OA;intro i;rw [KL]
     split
     ·rename_i e;subst e
      split
      ·exact hy.symm
      ·rename_i hlt;rw [xdu za] at hy;cases hy
     ·rfl
    rw [h5] at h4;exact .agg h4 l3 .nil
theorem SC_ofO {f:FuncId} {fn:Func} {body:Code} {args:List V} {R:V->M->Prop} (hf:P.funcs[f]? = some fn) (hb:fn.body=some body) (hen:∀(xs:Array Value) (w:World),(callFunc f xs).run P w=.ok (.enter f xs) w)
  {N:Nat} (hN:fn.ntmps=N) (hfit:CZ N body=true)
  (h:SW P N q body 0 (RS args) m λe k E' m'=>(e=.ret ∨ e=.normal)/\∃id j v,q <:+ id/\Src P fn.results.toList E' m' q k id j v/\R v ((m.back q m').tokset id j true)):SC P f args q m R:=by
 intro c xs w h1 h2 h3;refine .inl ⟨hen _ w,?_⟩;subst hN;have hini:=Mj h2 fn.ntmps;refine calls_of_wp hf hb ?_;rw [xei];refine wp_mono (h hfit c _ w h1 hini h3.sub) ?_;intro e a' w' hp;obtain ⟨c',k',E',m',⟨he,id,j,v,eZ,hsrc,hR⟩,g2,g3,g4,g5,g6,g7⟩:=hp;obtain ⟨c1,m1,x,r1,r2,r3,r4,r5,r6⟩:=hsrc.ok g2 g4 g5 m;obtain ⟨hback,hown⟩:=h1.backT h3 r2 r4 eZ;have g:=g3.trans r3;rw [r5] at hback hown
 have hX:oB q c m w c1 ((m.back q m').tokset id j true) w':=by
  refine ⟨g.le,g.os,g.tape,g.output,g.size,g.heap,g.book,λb hb ho=>g.own b hb (hown b ho),g.fresh,λi hi hb=>?_,g.lits⟩;have hbl:=(g.keep i hi hb).back (m:=m) hi;rw [r5] at hbl;refine ⟨hbl.blk,hbl.anon,hbl.cell,hbl.ver,λk=>?_⟩;show (if i=id/\k=j then true else (m.back q m').tok i k)=false;rw [bU]
  ·exact hbl.tok k
  ·rintro ⟨rfl,_⟩;exact hi eZ
 have hdone:a'.defers=[]/\∃v,(results fn a'.tmps).run P w'=.ok v w'/\DH q c m w R (.returned v) w':=
  ⟨g6,x,r1,x,c1,v,_,rfl,hR,hback,hX,r6⟩
 rcases he with rfl | rfl
 ·exact hdone
 ·exact hdone
theorem SC.forget {f:FuncId} {args:List V} {R:V->M->Prop} (h:SC P f args q m λv m'=>∃id j m1 v1,q <:+ id/\m'=m1.tokset id j true/\v1=v.weak/\m1.tok=m.tok/\R v1 m1):SC P f args q m R:=by
 intro c xs w h1 h2 h3
 have key:∀e w',DH q c m w (λv m'=>∃id j m1 v1,q <:+ id/\m'=m1.tokset id j true/\v1=v.weak/\m1.tok=m.tok/\R v1 m1) e w'->DH q c m w R e w':=by
  rintro e w' ⟨x,c',r,m',e1,⟨id,j,m1,v1,eZ,rfl,rfl,ht,hR⟩,g2,g3,g4⟩;have hf0:m.tok id j=false:=(h1.ver0 id (h3 id eZ)).2 j
  obtain ⟨k1,k2⟩:=g2.less (m2:=m1) (λi vs hv=>⟨hv,rfl⟩) (λi k hk=>by
   show (if i=id/\k=j then true else m1.tok i k)=true
   split
   ·rfl
   ·exact hk) rfl (λi hi=>⟨(g2.ver0 i hi).1,λk=>by
    have:=(g2.ver0 i hi).2 k;have h':(if i=id/\k=j then true else m1.tok i k)=false:=this
    split at h'
    ·cases h'
    ·exact h'⟩)
  refine ⟨x,c',_,m1,e1,hR,k1,⟨g3.le,g3.os,g3.tape,g3.output,g3.size,g3.heap,g3.book,λb hb ho=>g3.own b hb (k2 b ho),g3.fresh,λi hi hb=>?_,g3.lits⟩,V.weak_ok g4⟩;have hbl:=g3.keep i hi hb;refine ⟨hbl.blk,hbl.anon,hbl.cell,hbl.ver,λk=>?_⟩;have h':(if i=id/\k=j then true else m1.tok i k)=false:=hbl.tok k
  split at h'
  ·cases h'
  ·exact h'
 rcases h c xs w h1 h2 h3 with ⟨k1,k2⟩ | ⟨x,w',k1,k2⟩
 ·exact .inl ⟨k1,k2.mono λe w' hp=>key e w' hp⟩
 ·exact .inr ⟨x,w',k1,key _ _ k2⟩
end
section
variable {P:Program} {T:TypeId} {x y:Operand} {C:V->Prop}
def Us:TypeDesc->Value->Value->Option Bool
 | .bool,.bool a,.bool b=>some (a == b)
 | .int _,.int k a,.int k' b=>if k=k' then some (a == b) else none
 | .string,.string a,.string b=>some (a == b)
 | _,_,_=>none
theorem NP {n:Nat} {t:TypeId} {d:TypeDesc} {a b:Value} {r:Bool} (ht:P.underlying t=some d) (h:Us d a b=some r):nK P (Op.equalIn (n+1) t a b)=some r:=by
 have hu:nK P (underlying t)=some d:=by
  show nK P (match P.underlying t with | some d=>pure d | none=>stuck _)=_;rw [ht];rfl
 unfold Op.equalIn;rw [kX hu];unfold Us at h
 split at h
 ·simp only [Option.some.injEq] at h;subst h;rfl
 ·split at h
  ·rename_i hk;simp only [Option.some.injEq] at h;subst h
   simp only [cG hk];rfl
  ·cases h
 ·simp only [Option.some.injEq] at h;subst h;rfl
 ·cases h
theorem Sa {fs:List Field} {B:Field->Option Bool × Unit->Sem (ForInStep (Option Bool × Unit))} {e:Field->Bool} (h:∀f ∈ fs,∀r,nK P (B f r)=some (if e f then .yield (none,()) else .done (some false,()))):nK P (forIn fs (none,()) B)=some (if fs.all e then (none,()) else (some false,())):=by
 induction fs with
 | nil=>rfl
 | cons f fs ih=>
   rw [List.forIn_cons,kX (h f zc _)];cases he:e f with
   | true=>simp only [if_true,List.all_cons,he,Bool.true_and];exact ih λg hg=>h g (by simp [hg])
   | false=>simp [he];rfl
def zO (P:Program) (xs ys:List Value) (f:Field):Option Bool:=match P.underlying f.type,xs[f.offset]?,ys[f.offset]? with
 | some d,some a,some b=>Us d a b
 | _,_,_=>none
def Gb (P:Program) (f:Field):Bool:=f.name != "_" && (match P.underlying f.type with | some (.struct _) | some (.array _ _)=>false | some _=>true | none=>false)
theorem Ns {t:TypeId} {d:TypeDesc} {xs:List Value} {o:Nat} {a:Value} (ht:P.underlying t=some d) (hd:¬ (∃f,d=.struct f)/\¬ ∃n e,d=.array n e) (h:xs[o]? = some a):nK P (part t xs.toArray o)=some a:=by
 have hu:nK P (isAgg t)=some false:=by
  show nK P (do match ←underlying t with | .struct .. | .array .. => pure true | _=>pure false)=_
  have hu:nK P (underlying t)=some d:=by
   show nK P (match P.underlying t with | some d=>pure d | none=>stuck _)=_;rw [ht];rfl
  rw [kX hu];cases d <;> first | rfl | (exact dE ⟨_,rfl⟩ hd.1) | exact dE ⟨_,_,rfl⟩ hd.2
 unfold part;rw [kX hu];simp only [Bt,if_false,xdt,h];rfl
theorem Mt {fs:Array Field} {xs ys:List Value} {e:Field->Bool} (hT:P.underlying T=some (.struct fs)) (hs:P.stoodInHeld T=false) (hf:(fs.toList.all (Gb P))=true) (he:∀f ∈ fs.toList,zO P xs ys f=some (e f)):nK P (Op.equal T (.agg xs.toArray) (.agg ys.toArray))=some (fs.toList.all e):=by
 have hu:nK P (underlying T)=some (TypeDesc.struct fs):=by
  show nK P (match P.underlying T with | some d=>pure d | none=>stuck _)=_;rw [hT];rfl
 show nK P (Op.equalIn (9999+1) T _ _)=_;unfold Op.equalIn;rw [kX hu];have hp:nK P program=some P:=rfl;simp only;rw [kX hp,hs];simp only [Bt,if_false];rw [←Array.forIn_toList,kX (Sa (e:=e) ?_)]
 ·cases fs.toList.all e <;> rfl
 ·intro f hfm r;have h1:=KK.1 hf f hfm;have h2:=he f hfm;unfold Gb at h1;unfold zO at h2;simp only [KN,bne_iff_ne,ne_eq] at h1
  split at h2
  ·rename_i d a b hd ha hb
   have hd2:¬ (∃f,d=.struct f)/\¬ ∃n e,d=.array n e:=by
    have h3:=h1.2;rw [hd] at h3
    constructor
    ·rintro ⟨f,rfl⟩;simp at h3
    ·rintro ⟨n,e,rfl⟩;simp at h3
   simp only [ne_eq,h1.1,Ih,if_true];rw [kX (Ns hd hd2 ha),kX (Ns hd hd2 hb),kX (NP hd h2)];cases e f <;> rfl
  ·cases h2
def Dz (P:Program) (T:TypeId):List Field:=match P.underlying T with | some (.struct fs)=>fs.toList | _=>[]
def JM (P:Program) (T:TypeId):Bool:=match P.underlying T with | some (.struct _)=>true | _=>false
theorem Pr {xs ys:List Value} {es:List Bool} (hT:JM P T=true) (hs:P.stoodInHeld T=false) (hf:((Dz P T).all (Gb P))=true) (he:(Dz P T).map (zO P xs ys)=es.map some):nK P (Op.equal T (.agg xs.toArray) (.agg ys.toArray))=some (es.all id):=by
 unfold JM at hT
 split at hT
 ·rename_i fs hfs;have e1:Dz P T=fs.toList:=by unfold Dz;rw [hfs]
  rw [e1] at hf he
  have key:∀f ∈ fs.toList,zO P xs ys f=some ((zO P xs ys f).getD false):=by
   intro f hfm;have h1:zO P xs ys f ∈ es.map some:=by rw [←he];exact List.mem_map_of_mem hfm
   obtain ⟨b,_,hb⟩:=Iw.1 h1;rw [←hb];rfl
  rw [Mt hfs hs hf key]
  congr 1
  have h2:fs.toList.map (λf=>(zO P xs ys f).getD false)=es:=by
   have:=vJ (List.map λo:Option Bool=>o.getD false) he;rw [List.map_map,List.map_map] at this;simpa [Function.comp_def] using this
  rw [←h2,List.all_map];rfl
 ·cases hT
theorem NB {xs xs':List Value} (h:xs.map V.lit=xs'.map V.lit):xs=xs':=by
 induction xs generalizing xs' with
 | nil=>cases xs' with | nil=>rfl | cons=>cases h
 | cons a xs ih=>
   cases xs' with
   | nil=>cases h
   | cons b xs'=>
     simp only [oC,List.cons.injEq,V.lit.injEq] at h;rw [h.1,ih h.2]
theorem Pl {op:BinOp} {xs ys:Array Value} (hg:P.eqGuardType P.depth T=false):nK P (eqGuard op T x y (.agg xs) (.agg ys))=some ():=by
 have hp:nK P program=some P:=rfl
 cases op <;> first
  | rfl
  | (show nK P (program >>= fun p=>program >>= fun p'=>_)=_
     rw [kX hp,kX hp,hg];rfl)
theorem Ry {xs ys:List Value} {es:List Bool} (hT:JM P T=true) (hs:P.stoodInHeld T=false) (hg:P.eqGuardType P.depth T=false) (hf:((Dz P T).all (Gb P))=true) (he:(Dz P T).map (zO P xs ys)=es.map some) :
  qU P .neq T x y (.agg (xs.map V.lit)) (.agg (ys.map V.lit)) C=C (.lit (.bool (!(es.all id)))):=by
 have key:nK P (do eqGuard .neq T x y (.agg xs.toArray) (.agg ys.toArray);binOp .neq T (.agg xs.toArray) (.agg ys.toArray))=some (.bool (!(es.all id))):=by
  rw [kX (Pl hg)];show nK P (do pure (Value.bool !(←Op.equal T (.agg xs.toArray) (.agg ys.toArray))))=_;rw [kX (Pr hT hs hf he)];rfl
 apply propext;show (∃(xs' ys':List Value) (r:Value),_/\_/\nK P _=some r/\C (.lit r)) ↔ _
 constructor
 ·rintro ⟨xs',ys',r,h1,h2,h3,h4⟩;obtain rfl:=NB h1;obtain rfl:=NB h2;rw [key] at h3
  injection h3 with h3
  rw [h3];exact h4
 ·intro h;exact ⟨xs,ys,_,rfl,rfl,key,h⟩
end
section
variable {P:Program} {N:Nat} {π:Pa} {k:Nat} {E:fP} {m:M} {Q:Exit->Nat->fP->M->Prop}
theorem qT {id:Nat} {ops:List Oper} {y:Code} (h:∀K:Nat->fP->M->Prop,(∀k E m,SW P N π y k E m Q->K k E m)->lU P ops π K ops k E m):SW P N π (.seq (.region id ops.toArray false) y) k E m Q:=
 aN (kM λK hK=>h K λk E m hs=>hK k E m hs)
theorem bX {id:Nat} {ops:List Oper} {n:Nat->fP->M->Prop} (h:∀K:Nat->fP->M->Prop,(∀k E m,n k E m->K k E m)->lU P ops π K ops k E m):SW P N π (.region id ops.toArray false) k E m (sS n Q):=
 kM λK hK=>h K λk E m hs=>hK k E m hs
end
theorem SC_w {P:Program} {f:FuncId} {fn:Func} {body:Code} {args:List V} {q:Pa} {m:M} {R:V->M->Prop} (hf:P.funcs[f]? = some fn) (hb:fn.body=some body) (hen:∀(xs:Array Value) (w:World),(callFunc f xs).run P w=.ok (.enter f xs) w)
  {N:Nat} (hN:fn.ntmps=N) (hfit:CZ N body=true) {rs:Array ResultVar} (hrs:fn.results=rs)
  (h:SW P N q body 0 (RS args) m λe _ E' m'=>(e=.ret ∨ e=.normal)/\Hg P E' m' rs.toList λr=>R r.weak (m.back q m')):SC P f args q m R:=
 SC_of hf hb hen hN hfit (vJ Array.toList hrs) V.weak (λ_ _ _=>V.weak_ok) h
section
variable {P:Program} {N:Nat} {π:Pa} {k:Nat} {E:fP} {m:M} {Q:Exit->Nat->fP->M->Prop}
abbrev Kd (Q:Nat->fP->M->Prop) (k:Nat) (E:fP) (m:M):Prop:=Q k E m
theorem xN {id:Nat} {ops:List Oper} {y:Code} (h:lU P ops π (Kd λk E m=>SW P N π y k E m Q) ops k E m):SW P N π (.seq (.region id ops.toArray false) y) k E m Q:=
 aN (Lw (by rw [xep];exact h))
theorem bC {id:Nat} {ops:List Oper} {y:Code} {k1:Nat} {E1:fP} {m1:M} (h2:SW P N π y k1 E1 m1 Q) (h:∀K:Nat->fP->M->Prop,K k1 E1 m1->lU P ops π K ops k E m:=by intro K hK;first | (simp only [go_sem,seval];exact hK) | (simp only [*,go_sem,seval];exact hK) | (simp only [*,go_sem,seval,lR,jZ];exact hK)):SW P N π (.seq (.region id ops.toArray false) y) k E m Q:=qT λK hK=>h K (hK _ _ _ h2)
theorem dY {id:Nat} {ops:List Oper} {n:Nat->fP->M->Prop} {k1:Nat} {E1:fP} {m1:M} (h2:n k1 E1 m1) (h:∀K:Nat->fP->M->Prop,K k1 E1 m1->lU P ops π K ops k E m:=by intro K hK;first | (simp only [go_sem,seval];exact hK) | (simp only [*,go_sem,seval];exact hK) | (simp only [*,go_sem,seval,lR,jZ];exact hK)):SW P N π (.region id ops.toArray false) k E m (sS n Q):=bX λK hK=>h K (hK _ _ _ h2)
theorem jS {a b:Prop} (h2:b:=by first | (simp only [go_sem,seval,bB,dI,bZ,bG];done) | (simp only [*,go_sem,seval,bB,dI,bZ,bG];done) | (simp only [*,go_sem,seval,bB,dI,bZ,bG,dW,lR,jZ];done)) (h1:a:=by simp):a/\b:=⟨h1,h2⟩
theorem jD {a b:Prop} (h2:b:=by first | (simp only [go_sem,seval,bB,dI,bZ,bG];done) | (simp only [*,go_sem,seval,bB,dI,bZ,bG];done) | (simp only [*,go_sem,seval,bB,dI,bZ,bG,dW,lR,jZ];done)) (h1:a:=by decide):a/\b:=⟨h1,h2⟩
theorem HA {x y:Code} {t:Operand} (b:Bool) (ht:b=true->SW P N π x k E m Q) (hf:b=false->SW P N π y k E m Q) (hb:ev m E t=.lit (.bool b):=by first | (simp only [go_sem,seval];done) | (simp only [*,go_sem,seval];done)):SW P N π (.cond t x y) k E m Q:=SW_if b hb ht hf
theorem cY {α:Type} {A B r:α} {x y:Code} {t:Operand} {b:Bool} (h:(if b=true then A else B)=r) (ht:b=true->A=r->SW P N π x k E m Q) (hf:b=false->B=r->SW P N π y k E m Q) (hb:ev m E t=.lit (.bool b):=by first | (simp only [go_sem,seval];done) | (simp only [*,go_sem,seval];done)):SW P N π (.cond t x y) k E m Q:=SW_if b hb (λc=>ht c (ite_t c h)) λc=>hf c (ite_f c h)
theorem mL {α:Type} {A B r:α} {b:Bool} (h:(if b=true then A else B)=r):b=true/\A=r ∨ b=false/\B=r:=by
 cases b
 ·exact .inr ⟨rfl,h⟩
 ·exact .inl ⟨rfl,h⟩
theorem SC.bA {f:FuncId} {args:List V} {q:Pa} {C:V->M->Prop} {v:V} {m1:M} {H:Prop} (hf:H->SC P f args q m (λr m2=>r=v/\m2=m1)) (hC:C v m1) (h:H:=by first | (simp only [go_sem,seval];done) | (simp only [*,go_sem,seval];done) | (simp only [*,go_sem,seval,lR,jZ];done)):SC P f args q m C:=SC.by_ (hf h) hC
theorem rE {x:Code} (K0:Nat) (J:fP->M->Prop) (h:SW P N π x k E m (sS (λk' E' m'=>k'<=K0/\J (qB [] E') (jB [] m')) Q)) (h2:∀E' m',J E' m'->(∀t,wr x t=false->E' t=E t)->Q .normal K0 E' m'):SW P N π x k E m Q:=Kc K0 [] [] rfl J h h2
theorem rG {body:Code} (Inv:Nat->fP->M->Prop) (c0:Nat) (h0:Inv c0 (qB [] E) (jB [] m))
  (step:∀(i c:Nat) (E':fP) (m':M),Inv c E' m'->(∀t,wr body t=false->E' t=E t)->SW P N (i::k::π) body 0 E' m' (sS (λ_ E2 m2=>∃c',c'<c/\Inv c' (qB [] E2) (jB [] m2)) λe _ E2 m2=>Q e (k+1) E2 m2)):SW P N π (.loop body) k E m Q:=Id [] [] rfl Inv c0 h0 step
theorem SC.wv {f:FuncId} {vs args:List V} {q:Pa} {R:V->M->Prop} (hv:vs.map V.weak1=args) (h:SC P f args q m R):SC P f vs q m R:=SC.weak (hv ▸ h)
theorem oE {f:FuncId} {fn:Func} {body:Code} {args:List V} {q:Pa} {R:V->M->Prop} (hf:P.funcs[f]? = some fn) (hen:∀(xs:Array Value) (w:World),(callFunc f xs).run P w=.ok (.enter f xs) w) {N:Nat} (hN:fn.ntmps=N) {rs:Array ResultVar} (hrs:fn.results=rs)
  (h:SW P N q body 0 (RS args) m λe _ E' m'=>(e=.ret ∨ e=.normal)/\Hg P E' m' rs.toList λr=>R r.weak (m.back q m')) (hb:fn.body=some body:=by rfl) (hfit:CZ N body=true:=by kernel_rfl):SC P f args q m R:=SC_w hf hb hen hN hfit hrs h
theorem SC.ap {p:Pa} {f:FuncId} {args:List V} {q:Pa} {R:V->M->Prop} {cs:List V} (hm:m.blk p=some cs) (h:¬ q <:+ p->m.set p cs=m->SC P f args q m R):SC P f args q m R:=SC.apart hm λhp=>h hp (pF hm)
abbrev V.li (x:Int):V:=.lit (.int .i64 x)
abbrev V.lw (x:Int):V:=.lit (.int .u32 x)
abbrev V.lb (x:Bool):V:=.lit (.bool x)
abbrev V.ls (x:List UInt8):V:=.lit (.string (bs x))
def Ey (P:Program) (n:FuncId) (as:List V) (x:V):Prop:=∀(q:Pa) (m:M) (vs:List V),vs.map V.weak1=as->SC P n vs q m (λv m2=>v=x/\m2=m)
end
