import Derived.Test.YtknbgnpeiohifaaGreatDoorGA21
import Derived.Lib.Bytealg
set_option linter.all false
namespace Go.Proofs.YtknbgnpeiohifaaGreatDoor.Abs
open Go.RowKit
theorem qJ2 {p0 p1:Prop} (h0:p0) (h1:p1):p0/\p1:=⟨h0,h1⟩
theorem qJ3 {p0 p1 p2:Prop} (h0:p0) (h1:p1) (h2:p2):p0/\p1/\p2:=⟨h0,h1,h2⟩
theorem qJ4 {p0 p1 p2 p3:Prop} (h0:p0) (h1:p1) (h2:p2) (h3:p3):p0/\p1/\p2/\p3:=⟨h0,h1,h2,h3⟩
theorem qJ5 {p0 p1 p2 p3 p4:Prop} (h0:p0) (h1:p1) (h2:p2) (h3:p3) (h4:p4):p0/\p1/\p2/\p3/\p4:=⟨h0,h1,h2,h3,h4⟩
theorem qJ6 {p0 p1 p2 p3 p4 p5:Prop} (h0:p0) (h1:p1) (h2:p2) (h3:p3) (h4:p4) (h5:p5):p0/\p1/\p2/\p3/\p4/\p5:=⟨h0,h1,h2,h3,h4,h5⟩
theorem qJ7 {p0 p1 p2 p3 p4 p5 p6:Prop} (h0:p0) (h1:p1) (h2:p2) (h3:p3) (h4:p4) (h5:p5) (h6:p6):p0/\p1/\p2/\p3/\p4/\p5/\p6:=⟨h0,h1,h2,h3,h4,h5,h6⟩
theorem qJ8 {p0 p1 p2 p3 p4 p5 p6 p7:Prop} (h0:p0) (h1:p1) (h2:p2) (h3:p3) (h4:p4) (h5:p5) (h6:p6) (h7:p7):p0/\p1/\p2/\p3/\p4/\p5/\p6/\p7:=⟨h0,h1,h2,h3,h4,h5,h6,h7⟩
theorem qJ9 {p0 p1 p2 p3 p4 p5 p6 p7 p8:Prop} (h0:p0) (h1:p1) (h2:p2) (h3:p3) (h4:p4) (h5:p5) (h6:p6) (h7:p7) (h8:p8):p0/\p1/\p2/\p3/\p4/\p5/\p6/\p7/\p8:=⟨h0,h1,h2,h3,h4,h5,h6,h7,h8⟩
def tA:List Nat->gE->gE
 | [],E=>E
 | t::ts,E=>tA ts (upd E t (E t).weak1)
@[go_sem] theorem weakE_nil {E:gE}:tA [] E=E:=rI rfl
@[go_sem] theorem weakE_cons {t:Nat} {ts:List Nat} {E:gE}:tA (t::ts) E=tA ts (upd E t (E t).weak1):=rI rfl
theorem NZ:∀ {ts:List Nat} {E:gE} {t:Nat},t ∉ ts->tA ts E t=E t:=by
 intro ts
 induction ts with
 | nil=>intro E t _;rfl
 | cons s ts ih=>
   intro E t h;rw [tA,ih (λhm=>h (Nm _ hm))];show (if t=s then _ else E t)=E t;rw [cE (λe=>h (by rw [e];exact PH))]
theorem tY.weakE {c:Conc} {a:Act} {N:Nat}:∀ {ts:List Nat} {E:gE},tY c E a N->tY c (tA ts E) a N:=by
 intro ts
 induction ts with
 | nil=>intro E h;exact h
 | cons s ts ih=>
   intro E h;refine ih ⟨h.size,λt=>?_⟩;show CR c [if t=s then (E s).weak1 else E t] _
   split
   ·rename_i e;subst e;exact V.weak1_ok (h.fW t)
   ·exact h.fW t
def jV:List (Pa × Nat)->M->M
 | [],m=>m
 | x::us,m=>jV us (Ds (m.blk x.1) m x.1 x.2)
@[go_sem] theorem unselfs_nil {m:M}:jV [] m=m:=rI rfl
@[go_sem] theorem unselfs_cons {id:Pa} {off:Nat} {us:List (Pa × Nat)} {m:M}:jV ((id,off)::us) m=jV us (Ds (m.blk id) m id off):=rI rfl
theorem WW {m:M} {id:Pa} {off:Nat}:Ds (m.blk id) m id off=m.unself id off:=(XS (j:=0)).symm
theorem gT.unselfs {c:Conc} {w:World}:∀ {us:List (Pa × Nat)} {m:M},gT c m w->gT c (jV us m) w/\∀q,qK q c m w c (jV us m) w:=by
 intro us
 induction us with
 | nil=>intro m h;exact ⟨h,λq=>.refl q c m w⟩
 | cons x us ih=>
   intro m h;obtain ⟨h1,h2,_⟩:=h.unself x.1 x.2;have e:Ds (m.blk x.1) m x.1 x.2=m.unself x.1 x.2:=WW;show gT c (Abs.jV us (Ds (m.blk x.1) m x.1 x.2)) w/\_;rw [e];obtain ⟨h3,h4⟩:=ih h1;refine ⟨h3,λq=>?_⟩;show qK q c m w c (Abs.jV us (Ds (m.blk x.1) m x.1 x.2)) w;rw [e];exact (h2 q).trans (h4 q)
section
variable {P:Program} {N:Nat} {π:Pa} {k:Nat} {E:gE} {m:M} {Q:Exit->Nat->gE->M->Prop} {f:FuncId} {args:List V} {q:Pa} {R:V->M->Prop}
theorem Uw {x:Code} {ts:List Nat} (hts:ts.all (wr x)=true) {t:Nat} (ht:wr x t=false):t ∉ ts:=λhm=>by
 have:=Rj.1 hts t hm;rw [ht] at this;cases this
theorem Pu {x:Code} (K0:Nat) (ts:List Nat) (us:List (Pa × Nat)) (hts:ts.all (wr x)=true) (J:gE->M->Prop) (h:SW P N π x k E m (vP (λk' E' m'=>k'<=K0/\J (tA ts E') (jV us m')) Q))
  (h2:∀E' m',J E' m'->(∀t,wr x t=false->E' t=E t)->Q .normal K0 E' m'):SW P N π x k E m Q:=by
 intro hf c a w g1 g2 g3;refine wp_mono (h hf c a w g1 g2 g3) λe a' w' hp=>?_;obtain ⟨c',k',E',m',q1,q2,q3,q4,q5,q6,q7⟩:=hp;cases e with
 | normal=>
   obtain ⟨hk,hJ⟩:=q1;obtain ⟨r1,r2⟩:=q2.unselfs (us:=us);have hfr:∀t,wr x t=false->tA ts E' t=E t:=λt ht=>(NZ (Uw hts ht)).trans (q7 t ht);exact ⟨c',K0,tA ts E',jV us m',h2 _ _ hJ hfr,r1,q3.trans (r2 π),q4.weakE,q5.le hk,q6,hfr⟩
 | _=>exact ⟨c',k',E',m',q1,q2,q3,q4,q5,q6,q7⟩
theorem zbc {x:Code} {ts:List Nat} {us:List (Pa × Nat)} (hts:ts.all (wr x)=true) (h:SW P N π x k (tA ts E) (jV us m) Q):SW P N π x k E m Q:=by
 intro hf c a w g1 g2 g3;obtain ⟨r1,r2⟩:=g1.unselfs (us:=us);refine wp_mono (h hf c a w r1 g2.weakE g3) λe a' w' hp=>?_;obtain ⟨c',k',E',m',q1,q2,q3,q4,q5,q6,q7⟩:=hp;exact ⟨c',k',E',m',q1,q2,(r2 π).trans q3,q4,q5,q6,λt ht=>(q7 t ht).trans (NZ (Uw hts ht))⟩
theorem MM {body:Code} (ts:List Nat) (us:List (Pa × Nat)) (hts:ts.all (wr body)=true) (Inv:Nat->gE->M->Prop) (c0:Nat) (h0:Inv c0 (tA ts E) (jV us m))
  (step:∀(i c:Nat) (E':gE) (m':M),Inv c E' m'->(∀t,wr body t=false->E' t=E t)->SW P N (i::k::π) body 0 E' m' (vP (λ_ E2 m2=>∃c',c'<c/\Inv c' (tA ts E2) (jV us m2)) λe _ E2 m2=>Q e (k+1) E2 m2)) :
  SW P N π (.loop body) k E m Q:=by
 refine zbg (λc E m=>Inv c (tA ts E) (jV us m)) c0 h0 λi c E' m' hI hf=>?_;exact zbc hts (step i c _ _ hI λt ht=>(NZ (Uw hts ht)).trans (hf t ht))
theorem SC.weak (h:SC P f (args.map V.weak1) q m R):SC P f args q m R:=λc xs w h1 h2 h3=>h c xs w h1 (SG h2) h3
end
def cI (k:IntKind) (x:Int):List V:=[.lit (.int k x)]
def cS (s:cB):List V:=[.lit (.string (bs s))]
def cA {α:Type} (f:α->List V) (l:List α):List V:=l.flatMap f
@[go_sem] theorem cI_eq {k:IntKind} {x:Int}:cI k x=[.lit (.int k x)]:=rI rfl
@[go_sem] theorem cS_eq {s:cB}:cS s=[.lit (.string (bs s))]:=rI rfl
def Ae (k:IntKind) (a b:Int):Int:=k.wrap (BitVec.ofInt k.bits a &&& BitVec.ofInt k.bits b).toNat
def orK (k:IntKind) (a b:Int):Int:=k.wrap (BitVec.ofInt k.bits a ||| BitVec.ofInt k.bits b).toNat
def xorK (k:IntKind) (a b:Int):Int:=k.wrap (BitVec.ofInt k.bits a ^^^ BitVec.ofInt k.bits b).toNat
def shlK (k:IntKind) (a b:Int):Int:=k.wrap (a*2 ^ (min b.toNat k.bits))
def LB (k:IntKind) (a b:Int):Int:=a.fdiv (2 ^ (min b.toNat k.bits))
def comK (k:IntKind) (n:Int):Int:=k.wrap (BitVec.ofInt k.bits (if k.signed then -1 else k.max) ^^^ BitVec.ofInt k.bits n).toNat
section
variable {P:Program} {T:TypeId} {x y:Operand} {C:V->Prop} {kk k2:IntKind} {a b:Int} {c:Bool}
@[go_sem high] theorem sbin_andK:uR P .and T x y (.lit (.int kk a)) (.lit (.int kk b)) C=C (.lit (.int kk (Ae kk a b))):=by simp [uR,Ae]
@[go_sem high] theorem sbin_orK:uR P .or T x y (.lit (.int kk a)) (.lit (.int kk b)) C=C (.lit (.int kk (orK kk a b))):=by simp [uR,orK]
@[go_sem high] theorem sbin_xorK:uR P .xor T x y (.lit (.int kk a)) (.lit (.int kk b)) C=C (.lit (.int kk (xorK kk a b))):=by simp [uR,xorK]
@[go_sem high] theorem sbin_shlK:uR P .shl T x y (.lit (.int kk a)) (.lit (.int k2 b)) C=(0<=b/\C (.lit (.int kk (shlK kk a b)))):=by simp [uR,shlK]
@[go_sem high] theorem sbin_shrK:uR P .shr T x y (.lit (.int kk a)) (.lit (.int k2 b)) C=(0<=b/\C (.lit (.int kk (LB kk a b)))):=by simp [uR,LB]
@[go_sem high] theorem sun_neg:Zl .neg (.lit (.int kk a)) C=C (.lit (.int kk (kk.wrap (0 - a)))):=rI rfl
@[go_sem high] theorem sun_com:Zl .xor (.lit (.int kk a)) C=C (.lit (.int kk (comK kk a))):=rI rfl
@[go_sem high] theorem sun_not:Zl .not (.lit (.bool c)) C=C (.lit (.bool (!c))):=rI rfl
end
theorem RY {α:Type} {f:α->List V} {s:Nat}:∀ {l:List α} {i:Nat} {x:α},(∀x ∈ l,(f x).length=s)->l[i]? = some x->∃rest,(cA f l).drop (i*s)=f x++rest:=by
 intro l
 induction l with
 | nil=>intro i x _ h;cases h
 | cons y l ih=>
   intro i x hf h;have hy:=hf y zd;cases i with
   | zero=>
     obtain rfl:y=x:=by simpa using h
     exact ⟨cA f l,by simp [cA]⟩
   | succ i=>
     obtain ⟨rest,hr⟩:=ih (λz hz=>hf z (by simp [hz])) (by simpa using h);refine ⟨rest,?_⟩;rw [←hr];show List.drop ((i+1)*s) (f y++cA f l)=_;rw [List.drop_append,List.drop_of_length_le (by rw [hy,NM];omega),hy,NM,show i*s+s - s=i*s by omega,AE]
theorem tX {q p:Pa} (hp:¬ q <:+ p):(∀a,(a::q=p)=False)/\∀a,(p=a::q)=False:=⟨λ_=>pa1 hp,λ_=>pb1 hp⟩
theorem uD {q p:Pa} (hp:¬ q <:+ p):(∀a,(a::q=p)=False)/\(∀a,(p=a::q)=False)/\(∀a b c,(a::b::c::q=p)=False)/\∀a b c,(p=a::b::c::q)=False:=⟨λ_=>pa1 hp,λ_=>pb1 hp,λ_ _ _=>pa3 hp,λ_ _ _=>pb3 hp⟩
theorem pz3 {q p:Pa} (hp:¬ q <:+ p):(∀a,(a::q=p)=False)/\(∀a,(p=a::q)=False)/\(∀a b c,(a::b::c::q=p)=False)/\(∀a b c,(p=a::b::c::q)=False)/\(∀a b c d e,(a::b::c::d::e::q=p)=False)/\∀a b c d e,(p=a::b::c::d::e::q)=False:=⟨λ_=>pa1 hp,λ_=>pb1 hp,λ_ _ _=>pa3 hp,λ_ _ _=>pb3 hp,λ_ _ _ _ _=>pa5 hp,λ_ _ _ _ _=>pb5 hp⟩
theorem zaU {α:Type} {f:α->List V} {s:Nat} (l:List α) (h:l.all (λx=>(f x).length == s)=true):∀x ∈ l,(f x).length=s:=λx hx=>by simpa using Rj.1 h x hx
theorem cA_one {l:List cB} {n:Nat} (h:(cA cS l).length=n):l.length=n:=by
 rw [←h];clear h
 induction l with
 | nil=>rfl
 | cons x l ih=>show l.length+1=(cS x++cA cS l).length;rw [oY,←ih];simp [cS];omega
theorem cK {α:Type} {x:Option α} {r:α} {p:Prop} (h:x=some r) (hx:x=none:=by rfl):p:=by rw [hx] at h;cases h
@[go_sem] theorem bs_empty:ByteArray.empty=bs []:=by rfl
@[go_sem] theorem cA_sh_S {l:List cB}:(cA cS l).map V.shared=cA cS l:=by
 induction l with
 | nil=>rfl
 | cons x l ih=>show List.map V.shared (cS x++cA cS l)=cS x++cA cS l;rw [YI,ih];rfl
theorem VU {a b:Nat} {q:Pa} (h:a::b::q=q):False:=by have:=DI List.length h;simp at this;omega
@[go_sem] theorem p20 {a b:Nat} {q:Pa}:(a::b::q=q)=False:=eq_false VU
@[go_sem] theorem p02 {a b:Nat} {q:Pa}:(q=a::b::q)=False:=eq_false λh=>VU h.symm
@[go_sem] theorem p04 {a b c d:Nat} {q:Pa}:(q=a::b::c::d::q)=False:=eq_false λh=>by have:=DI List.length h;simp at this;omega
attribute [go_sem] ne_eq Nn XU oY YI List.cons.injEq and_false false_and Int.cast_ofNat_Int Nat.sub_zero Nat.one_mul JR YJ Lk Qp
@[go_sem] theorem weak1_fn {f:Fn} {xs ys:List V}:V.weak1 (.fn f xs ys)=.fn f xs ys:=rI rfl
section
variable {P:Program} {C:V->Prop} {rows:List (List V)} {i off n:Nat} {e:TypeId} {lo hi:Option V}
def slC:Option Int->Option Int->Option Nat->Option (List V)->Nat->Nat->(V->Prop)->Prop
 | some l,some h,some s,some r,n,off,C=>0<s/\0<=l/\l<=h/\h<=n/\n<=1073741824/\off+n*s<=r.length/\C (.list .none (FI s (h.toNat - l.toNat) (r.drop (off+l.toNat*s))))
 | _,_,_,_,_,_,_=>False
@[go_sem] theorem slU_e:SY P (.ar n e) (.eptr rows i off) lo hi C=slC (mX lo 0) (mX hi n) (cC P e) rows[i]? n off C:=by
 unfold SY slC;simp only;cases mX lo 0 <;> cases mX hi n <;> cases cC P e <;> cases rows[i]? <;> rfl
@[go_sem] theorem slC_some {l h:Int} {s:Nat} {r:List V}:slC (some l) (some h) (some s) (some r) n off C=(0<s/\0<=l/\l<=h/\h<=n/\n<=1073741824/\off+n*s<=r.length/\C (.list .none (FI s (h.toNat - l.toNat) (r.drop (off+l.toNat*s))))):=rI rfl
end
theorem ud_sl {P:Program} {T e:TypeId} (h:ud P T=.sl e):P.underlying T=some (.slice e):=by
 unfold ud at h;cases hu:P.underlying T with
 | none=>rw [hu] at h;cases h
 | some d=>rw [hu] at h;cases d <;> first | (cases h;done) | (injection h with h;rw [h])
@[go_sem] theorem cvU_ll {P:Program} {T e:TypeId} {rows:List (List V)} {C:V->Prop} (h1:ud P T=.sl e) (h2:ud P e=.int .u8):cvU P T T (.sl e) (.sl e) (.list .exact rows) C=(rows ≠ []/\C (.list .exact rows)):=by
 show Dm P T T (.list .exact rows) C=_;have hu:=ud_sl h1;have h3:P.underlying e=some (.int .u8):=by rw [ud_u8];exact h2
 unfold Dm;rw [hu];simp only [h3,true_and]
@[go_sem] theorem byteRows_nil:sH []=[]:=rI rfl
@[go_sem] theorem byteRows_cons {x:UInt8} {l:cB}:sH (x::l)=[.lit (.int .u8 (x.toNat:Int))]::sH l:=rI rfl
section
variable {P:Program} {T:TypeId} {x y:Operand} {C:V->Prop} {a b:Bool} {k:IntKind} {i j:Int}
@[go_sem] theorem sminmax_max:uK true (.lit (.int k i)) (.lit (.int k j)) C=C (.lit (.int k (max i j))):=by simp [uK]
@[go_sem] theorem sminmax_min:uK false (.lit (.int k i)) (.lit (.int k j)) C=C (.lit (.int k (min i j))):=by simp [uK]
end
theorem EK {P:Program} {N:Nat} {π:Pa} {k:Nat} {E:gE} {m:M} {Q:Exit->Nat->gE->M->Prop} {x:Code} (t:Nat) (rows:List (List V)) (ht:wr x t=true) (he:E t=.list .exact rows)
  (h:SW P N π x (k+1) (upd E t (.list (.st (.anon (k::π) 0)) rows)) (m.tokset (k::π) 0 true) Q):SW P N π x k E m Q:=by
 intro hf c a w g1 g2 g3;have hq:fO c (k::π):=g3.fW.fW;obtain ⟨c',hc'⟩:∃c':Conc,c'={ c with κ:=λs=>if s=.anon (k::π) 0 then some .full else c.κ s }:=⟨_,rfl⟩;have hκ:∀s,c'.κ s=if s=.anon (k::π) 0 then some .full else c.κ s:=by intro s;rw [hc']
 have hρ:c'.ρ=c.ρ:=by rw [hc']
 have hG:c'.G=c.G:=by rw [hc']
 have hlit:c'.lit=c.lit:=by rw [hc']
 have hbase:c'.base=c.base:=by rw [hc']
 have hle:Le c c':=⟨hbase,λb h=>by rw [hlit];exact h,λi b h=>by rw [hρ];exact h,λs i hk=>by
  rw [hκ];split
  ·rename_i e;rw [e,hq.2.1 0] at hk;cases hk
  ·exact hk,λb o v h=>by rw [hG];exact h⟩
 clear hc';have hblk:∀i,(m.tokset (k::π) 0 true).blk i=m.blk i:=λ_=>rfl;have htok:∀i j,(m.tokset (k::π) 0 true).tok i j=if i=(k::π)/\j=0 then true else m.tok i j:=λ_ _=>rfl
 have harr:∀s b cap sz len,c'.κ s=some (.arr b cap sz len)->s ≠ .anon (k::π) 0/\c.κ s=some (.arr b cap sz len):=by
  intro s b cap sz len hk;rw [hκ] at hk
  split at hk
  ·cases hk
  ·rename_i hne;exact ⟨hne,hk⟩
 have hlive:∀s,s ≠ .anon (k::π) 0->gJ (m.tokset (k::π) 0 true) s=true->gJ m s=true:=by
  intro s hne hl;cases s with
  | anon i j=>
    have hl':(m.tokset (k::π) 0 true).tok i j=true:=hl;rw [htok,cE (by rintro ⟨rfl,rfl⟩;exact hne rfl)] at hl';exact hl'
  | cell i o v=>exact hl
  | priv b=>exact hl
 have hown:∀b,fN c' (m.tokset (k::π) 0 true) b->fN c m b:=by
  rintro b (⟨id,gG,hr⟩ | ⟨s,cap,sz,len,hl,hk⟩)
  ·exact .inl ⟨id,gG,by rw [←hρ];exact hr⟩
  ·obtain ⟨h1,h2⟩:=harr _ _ _ _ _ hk;exact .inr ⟨s,cap,sz,len,hlive s h1 hl,h2⟩
 have hR:gT c' (m.tokset (k::π) 0 true) w:=by
  refine ⟨by rw [hG];exact g1.com,λid vs hv=>?_,λid id' b hi hi' hr hr'=>g1.inj id id' b hi hi' (by rw [←hρ];exact hr) (by rw [←hρ];exact hr'),λs b cap sz len hl hk=>?_,λs s' b cap sz len cap' sz' len' hl hl' hk hk'=>?_,λid off v hb hv=>?_,λg=>(g1.gl g).mono hle,λid gG=>?_,by rw [hbase];exact g1.base,λb hb=>?_,λb vs hv=>?_⟩
  ·obtain ⟨b,cs,t',k1,k2,k3,k4,k5⟩:=g1.blk id vs hv;exact ⟨b,cs,t',by rw [hρ];exact k1,k2,k3.mono hle,by rw [hG];exact k4,k5⟩
  ·obtain ⟨h1,h2⟩:=harr _ _ _ _ _ hk;obtain ⟨k1,k2,k3,k4⟩:=g1.own s b cap sz len (hlive s h1 hl) h2;exact ⟨k1,λo ho=>by rw [hG];exact k2 o ho,λid gG=>by rw [hρ];exact k3 id gG,k4⟩
  ·obtain ⟨h1,h2⟩:=harr _ _ _ _ _ hk;obtain ⟨h3,h4⟩:=harr _ _ _ _ _ hk';exact g1.ownInj s s' b cap sz len cap' sz' len' (hlive s h1 hl) (hlive s' h3 hl') h2 h4
  ·rw [hκ,cE (by rintro ⟨⟩)];exact g1.ver id off v hb hv
  ·have hf':=gG.anti hle;refine ⟨(g1.ver0 id hf').1,λj=>?_⟩;rw [htok,cE]
   ·exact (g1.ver0 id hf').2 j
   ·rintro ⟨rfl,rfl⟩;have:=gG.2.1 0;rw [hκ,cX rfl] at this;cases this
  ·rw [hlit] at hb;refine ⟨by rw [hbase];exact (g1.lit b hb).1,(g1.lit b hb).2.1,λho=>(g1.lit b hb).2.2 (hown b ho)⟩
  ·exact (g1.hpr b vs hv).mono hle λ_ _ _ _ _ hB=>hB
 have hfr1:∀id,¬ (k::π) <:+ id->fO c id->fO c' id:=by
  intro id gG hf';refine ⟨by rw [hρ];exact hf'.1,λi=>?_,λoff v=>?_,by rw [hκ,cE (by rintro ⟨⟩)];exact hf'.2.2.2⟩
  ·rw [hκ,cE]
   ·exact hf'.2.1 i
   ·intro e;injection e with e1 e2;exact gG (e1 ▸ Qq _)
  ·rw [hκ,cE (by rintro ⟨⟩)];exact hf'.2.2.1 off v
 have hX:qK (k::π) c m w c' (m.tokset (k::π) 0 true) w:=by
  refine ⟨hle,rfl,rfl,rfl,uZ _,λ_ _ _ _=>rfl,λb _ _ o=>by rw [hG],λb _ ho=>hown b ho,hfr1,λid gG hb=>?_,λb _ hb=>by rw [hlit] at hb;exact hb⟩;refine ⟨hb.blk,λi=>?_,λoff v=>?_,hb.ver,λj=>?_⟩
  ·rw [hκ,cE]
   ·exact hb.anon i
   ·intro e;injection e with e1 e2;exact gG (e1 ▸ Qq _)
  ·rw [hκ,cE (by rintro ⟨⟩)];exact hb.cell off v
  ·rw [htok,cE]
   ·exact hb.tok j
   ·rintro ⟨rfl,_⟩;exact gG (Qq _)
 have hE:tY c' (upd E t (.list (.st (.anon (k::π) 0)) rows)) a N:=by
  refine ⟨g2.size,λt'=>?_⟩;show CR c' [if t'=t then _ else E t'] _
  split
  ·rename_i e;subst e;have h0:=(g2.fW t').mono hle;rw [he] at h0;obtain ⟨x',cap,es,sz,e1,k1,k2,kz,k3,k4,k5,k6,kc,k7⟩:=h0.inv_list;rw [e1];exact .list k1 k2 kz k3 k4 k5 k6 kc (.inl ⟨by rw [hκ,cX rfl],k7.1⟩) .nil
  ·exact (g2.fW t').mono hle
 refine wp_mono (h hf c' a w hR hE (hX.freshK g3)) λe a' w' hp=>?_;obtain ⟨c2,k',E',m',q1,q2,q3,q4,q5,q6,q7⟩:=hp;refine ⟨c2,k',E',m',q1,q2,hX.up.trans q3,q4,q5,q6,λt' ht'=>?_⟩;rw [q7 t' ht'];show (if t'=t then _ else E t')=E t';rw [cE];rintro rfl;rw [ht] at ht';cases ht'
section
variable {P:Program} {c c':Conc} {m m' m0 m1 m2:M} {w w':World} {q p:Pa}
theorem gT.less (h:gT c m' w) (hb:∀id vs,m2.blk id=some vs->m'.blk id=some vs/\m2.ver id=m'.ver id) (ht:∀id j,m2.tok id j=true->m'.tok id j=true) (hg:m2.gl=m'.gl)
  (h0:∀id,fO c id->(∀off,m2.ver id off=0)/\∀j,m2.tok id j=false) (hhp:m2.hp=m'.hp:=by rfl):gT c m2 w/\∀b,fN c m2 b->fN c m' b:=by
 have hbn:∀id,m2.blk id ≠ none->m'.blk id ≠ none/\m2.ver id=m'.ver id:=by
  intro id gG;obtain ⟨vs,hv⟩:∃vs,m2.blk id=some vs:=by cases hx:m2.blk id with | none=>exact cM hx gG | some vs=>exact ⟨vs,rfl⟩
  obtain ⟨h1,h2⟩:=hb id vs hv;exact ⟨by rw [h1];simp,h2⟩
 have hlive:∀s,gJ m2 s=true->gJ m' s=true:=by
  intro s hl;cases s with
  | anon i j=>exact ht i j hl
  | priv b=>
    have hl':(m2.hp b).isSome=true:=hl;rw [hhp] at hl';exact hl'
  | cell i off v=>
    obtain ⟨h1,vs,rows,h2,h3⟩:=vH hl;obtain ⟨h4,h5⟩:=hb i vs h2;rw [h5] at h1;exact vD h1 h4 h3
 have hown:∀b,fN c m2 b->fN c m' b:=by
  rintro b (⟨id,gG,hr⟩ | ⟨s,cap,sz,len,hl,hk⟩)
  ·exact .inl ⟨id,(hbn id gG).1,hr⟩
  ·exact .inr ⟨s,cap,sz,len,hlive s hl,hk⟩
 refine ⟨⟨h.com,λid vs hv=>?_,λid id' b hi hi'=>h.inj id id' b (hbn id hi).1 (hbn id' hi').1,λs b cap sz len hl hk=>?_,λs s' b cap sz len cap' sz' len' hl hl'=>h.ownInj s s' b cap sz len cap' sz' len' (hlive s hl) (hlive s' hl'),λid off v hi hv=>?_,λg=>by rw [hg];exact h.gl g,h0,h.base,λb hl=>⟨(h.lit b hl).1,(h.lit b hl).2.1,λho=>(h.lit b hl).2.2 (hown b ho)⟩,λb vs hv=>h.hpr b vs (by rw [←hhp];exact hv)⟩,hown⟩
 ·obtain ⟨h1,h2⟩:=hb id vs hv;obtain ⟨b,cs,t,k1,k2,k3,k4,k5⟩:=h.blk id vs h1;exact ⟨b,cs,t,k1,k2,by rw [h2];exact k3,k4,k5⟩
 ·obtain ⟨k1,k2,k3,k4⟩:=h.own s b cap sz len (hlive s hl) hk;exact ⟨k1,k2,λid gG=>k3 id (hbn id gG).1,k4⟩
 ·obtain ⟨h1,h2⟩:=hbn id hi;rw [h2] at hv;exact h.ver id off v h1 hv
theorem gT.backT {id:Pa} {j:Nat} (h:gT c m w) (hf:Af c q) (h':gT c' m' w') (ht:m'.tok id j=true) (hq:q <:+ id) :
  gT c' ((m.back q m').tokset id j true) w'/\∀b,fN c' ((m.back q m').tokset id j true) b->fN c' m' b:=by
 have hsub:∀i,q.isSuffixOf i=true->m.blk i=none/\(∀off,m.ver i off=0)/\∀j,m.tok i j=false:=by
  intro i hi;have hf':=hf i (Px.1 hi);exact ⟨h.fresh_blk hf',(h.ver0 i hf').1,(h.ver0 i hf').2⟩
 have hblk:∀i,((m.back q m').tokset id j true).blk i=if q.isSuffixOf i then m.blk i else m'.blk i:=λ_=>rfl;have hver:∀i,((m.back q m').tokset id j true).ver i=if q.isSuffixOf i then m.ver i else m'.ver i:=λ_=>rfl;have htok:∀i k,((m.back q m').tokset id j true).tok i k=if i=id/\k=j then true else (if q.isSuffixOf i then m.tok i else m'.tok i) k:=λ_ _=>rfl;have hqs:=Px.2 hq;refine h'.less (λi vs hv=>?_) (λi k hk=>?_) rfl (λi hi=>⟨λoff=>?_,λk=>?_⟩)
 ·rw [hblk] at hv;rw [hver];cases hs:q.isSuffixOf i with
  | true=>rw [cX hs,(hsub i hs).1] at hv;cases hv
  | false=>rw [cE (by simp [hs])] at hv ⊢;exact ⟨hv,rfl⟩
 ·rw [htok] at hk
  split at hk
  ·rename_i e;rw [e.1,e.2];exact ht
  ·split at hk
   ·rename_i hs;rw [(hsub i hs).2.2 k] at hk;cases hk
   ·exact hk
 ·rw [hver]
  split
  ·rename_i hs;exact (hsub i hs).2.1 off
  ·exact (h'.ver0 i hi).1 off
 ·rw [htok,cE]
  ·split
   ·rename_i hs;exact (hsub i hs).2.2 k
   ·exact (h'.ver0 i hi).2 k
  ·rintro ⟨rfl,rfl⟩;rw [(h'.ver0 i hi).2 k] at ht;cases ht
theorem gT.give (h:gT c m1 w) (hf:fO c p) (hX:qK p c m0 w c m1 w) (info:Sg)
  (hin:∀b cap sz len,info=.arr b cap sz len->(∃cs t,CY w b t cs/\cs.size=cap*sz)/\(∀o,len*sz<=o->c.G b o=none)/\(∀id,m1.blk id ≠ none->c.ρ id ≠ some b)/\len<=cap/\0<sz ∧
    (∀s cap' sz' len',gJ m1 s=true->c.κ s ≠ some (.arr b cap' sz' len'))/\fN c m0 b/\¬ c.lit b) :
  ∃c',c'.κ (.anon p 0)=some info/\Le c c'/\gT c' (m1.tokset p 0 true) w/\qK p c m0 w c' (m1.tokset p 0 true) w:=by
 obtain ⟨c',hc'⟩:∃c':Conc,c'={ c with κ:=λs=>if s=.anon p 0 then some info else c.κ s }:=⟨_,rfl⟩;have hκ:∀s,c'.κ s=if s=.anon p 0 then some info else c.κ s:=by intro s;rw [hc']
 have hρ:c'.ρ=c.ρ:=by rw [hc']
 have hG:c'.G=c.G:=by rw [hc']
 have hlit:c'.lit=c.lit:=by rw [hc']
 have hbase:c'.base=c.base:=by rw [hc']
 have hle:Le c c':=⟨hbase,λb h=>by rw [hlit];exact h,λi b h=>by rw [hρ];exact h,λs i hk=>by
  rw [hκ];split
  ·rename_i e;rw [e,hf.2.1 0] at hk;cases hk
  ·exact hk,λb o v h=>by rw [hG];exact h⟩
 clear hc';have htok:∀i j,(m1.tokset p 0 true).tok i j=if i=p/\j=0 then true else m1.tok i j:=λ_ _=>rfl
 have hlive:∀s,s ≠ .anon p 0->gJ (m1.tokset p 0 true) s=true->gJ m1 s=true:=by
  intro s hne hl;cases s with
  | anon i j=>
    have hl':(m1.tokset p 0 true).tok i j=true:=hl;rw [htok,cE (by rintro ⟨rfl,rfl⟩;exact hne rfl)] at hl';exact hl'
  | cell i o v=>exact hl
  | priv b=>exact hl
 have hold:∀s b cap sz len,s ≠ .anon p 0->c'.κ s=some (.arr b cap sz len)->c.κ s=some (.arr b cap sz len):=by
  intro s b cap sz len hne hk;rw [hκ,cE hne] at hk;exact hk
 have hown:∀b,fN c' (m1.tokset p 0 true) b->fN c m0 b ∨ fN c m1 b:=by
  rintro b (⟨id,gG,hr⟩ | ⟨s,cap,sz,len,hl,hk⟩)
  ·exact .inr (.inl ⟨id,gG,by rw [←hρ];exact hr⟩)
  ·by_cases hs:s=.anon p 0
   ·rw [hκ,cX hs] at hk
    injection hk with hk
    exact .inl (hin _ _ _ _ hk).2.2.2.2.2.2.1
   ·exact .inr (.inr ⟨s,cap,sz,len,hlive s hs hl,hold _ _ _ _ _ hs hk⟩)
 refine ⟨c',by rw [hκ,cX rfl],hle,?_,?_⟩
 ·refine ⟨by rw [hG];exact h.com,λid vs hv=>?_,λid id' b hi hi' hr hr'=>h.inj id id' b hi hi' (by rw [←hρ];exact hr) (by rw [←hρ];exact hr'),λs b cap sz len hl hk=>?_,λs s' b cap sz len cap' sz' len' hl hl' hk hk'=>?_,λid off v hb hv=>?_,λg=>(h.gl g).mono hle,λid gG=>?_,by rw [hbase];exact h.base,λb hb=>?_,λb vs hv=>?_⟩
  ·obtain ⟨b,cs,t',k1,k2,k3,k4,k5⟩:=h.blk id vs hv;exact ⟨b,cs,t',by rw [hρ];exact k1,k2,k3.mono hle,by rw [hG];exact k4,k5⟩
  ·by_cases hs:s=.anon p 0
   ·rw [hκ,cX hs] at hk
    injection hk with hk
    obtain ⟨k1,k2,k3,k4,k5,_⟩:=hin _ _ _ _ hk;exact ⟨k1,λo ho=>by rw [hG];exact k2 o ho,λid gG=>by rw [hρ];exact k3 id gG,k4,k5⟩
   ·obtain ⟨k1,k2,k3,k4⟩:=h.own s b cap sz len (hlive s hs hl) (hold _ _ _ _ _ hs hk);exact ⟨k1,λo ho=>by rw [hG];exact k2 o ho,λid gG=>by rw [hρ];exact k3 id gG,k4⟩
  ·by_cases hs:s=.anon p 0 <;> by_cases hs':s'=.anon p 0
   ·rw [hs,hs']
   ·rw [hκ,cX hs] at hk
    injection hk with hk
    exact cM (hold _ _ _ _ _ hs' hk') ((hin _ _ _ _ hk).2.2.2.2.2.1 s' _ _ _ (hlive s' hs' hl'))
   ·rw [hκ,cX hs'] at hk'
    injection hk' with hk'
    exact cM (hold _ _ _ _ _ hs hk) ((hin _ _ _ _ hk').2.2.2.2.2.1 s _ _ _ (hlive s hs hl))
   ·exact h.ownInj s s' b cap sz len cap' sz' len' (hlive s hs hl) (hlive s' hs' hl') (hold _ _ _ _ _ hs hk) (hold _ _ _ _ _ hs' hk')
  ·rw [hκ,cE (by rintro ⟨⟩)];exact h.ver id off v hb hv
  ·have hf':=gG.anti hle;refine ⟨(h.ver0 id hf').1,λj=>?_⟩;rw [htok,cE]
   ·exact (h.ver0 id hf').2 j
   ·rintro ⟨rfl,rfl⟩;have:=gG.2.1 0;rw [hκ,cX rfl] at this;cases this
  ·rw [hlit] at hb;refine ⟨by rw [hbase];exact (h.lit b hb).1,(h.lit b hb).2.1,?_⟩;rintro (⟨id,gG,hr⟩ | ⟨s,cap,sz,len,hl,hk⟩)
   ·exact (h.lit b hb).2.2 (.inl ⟨id,gG,by rw [←hρ];exact hr⟩)
   ·by_cases hs:s=.anon p 0
    ·rw [hκ,cX hs] at hk
     injection hk with hk
     exact (hin _ _ _ _ hk).2.2.2.2.2.2.2 hb
    ·exact (h.lit b hb).2.2 (.inr ⟨s,cap,sz,len,hlive s hs hl,hold _ _ _ _ _ hs hk⟩)
  ·exact (h.hpr b vs hv).mono hle λ_ _ _ _ _ hB=>hB
 ·refine ⟨hX.le.trans hle,hX.os,hX.tape,hX.output,hX.size,hX.heap,λb hb ho o=>by rw [hG],λb hb ho=>(hown b ho).elim (λx=>x) (λx=>hX.own b hb x),λid gG hf'=>?_,λid gG hb=>?_,λb hb hl=>hX.lits b hb (by rw [hlit] at hl;exact hl)⟩
  ·have h1:=hX.fresh id gG hf';refine ⟨by rw [hρ];exact h1.1,λi=>?_,λoff v=>?_,by rw [hκ,cE (by rintro ⟨⟩)];exact h1.2.2.2⟩
   ·rw [hκ,cE]
    ·exact h1.2.1 i
    ·intro e;injection e with e1 e2;exact gG (e1 ▸ Qq _)
   ·rw [hκ,cE (by rintro ⟨⟩)];exact h1.2.2.1 off v
  ·have h1:=hX.keep id gG hb;refine ⟨h1.blk,λi=>?_,λoff v=>?_,h1.ver,λj=>?_⟩
   ·rw [hκ,cE]
    ·exact h1.anon i
    ·intro e;injection e with e1 e2;exact gG (e1 ▸ Qq _)
   ·rw [hκ,cE (by rintro ⟨⟩)];exact h1.cell off v
   ·rw [htok,cE]
    ·exact h1.tok j
    ·rintro ⟨rfl,_⟩;exact gG (Qq _)
theorem gT.take {id:Pa} {off:Nat} {cs:List V} {rows:List (List V)} (h:gT c m w) (hf:fO c p) (hv:m.blk id=some cs) (ho:cs[off]? = some (.list .self rows)) :
  ∃c',Le c c'/\gT c' ((m.unself id off).tokset p 0 true) w/\qK p c m w c' ((m.unself id off).tokset p 0 true) w/\∀x,CR c [.list (.st (.cell id off (m.ver id off))) rows] [x]->CR c' [.list (.st (.anon p 0)) rows] [x]:=by
 obtain ⟨h1,h2,h3⟩:=h.unself id off;have hlive:gJ m (.cell id off (m.ver id off))=true:=vD rfl hv ho;obtain ⟨b,vals,t,k1,k2,k3,k4,k5⟩:=h.blk id cs hv
 have hl:(IL (m.ver id) id cs)[off]? = some (.list (.st (.cell id off (m.ver id off))) rows):=by
  unfold IL;rw [YL,ho];rfl
 obtain ⟨x0,_,hx0⟩:=k3.get hl;obtain ⟨a,cap,es,sz,_,g1,g2,g3,g4,g5,g6,g7,g8,g9⟩:=hx0.inv_list
 obtain ⟨info,hinfo⟩:∃info,c.κ (.cell id off (m.ver id off))=some info:=by
  rcases g9 with ⟨h1,_⟩ | ⟨b,h1,_⟩
  ·exact ⟨_,h1⟩
  ·exact ⟨_,h1⟩
 obtain ⟨c',e1,e2,e3,e4⟩:=h1.give (m0:=m) hf (h2 p) info (λb cap sz len hi=>by
  subst hi;obtain ⟨q1,q2,q3,q4,q5⟩:=h.own _ b cap sz len hlive hinfo
  have IV:∀i,(m.unself id off).blk i ≠ none->m.blk i ≠ none:=by
   intro i hi;unfold M.unself at hi;rw [hv] at hi;simp only [ho] at hi;have hi':(if i=id then some (cs.set off (.list .none rows)) else m.blk i) ≠ none:=hi
   by_cases hii:i=id
   ·subst hii;rw [hv];simp
   ·rw [cE hii] at hi';exact hi'
  refine ⟨q1,q2,λi hi=>q3 i (IV i hi),q4,q5,λs cap' sz' len' hs hk=>?_,.inr ⟨_,_,_,_,hlive,hinfo⟩,λhlb=>(h.lit b hlb).2.2 (.inr ⟨_,_,_,_,hlive,hinfo⟩)⟩;obtain ⟨s1,s2⟩:=h3 s hs;exact s2 (m.ver id off) (h.ownInj _ _ _ _ _ _ _ _ _ s1 hlive hk hinfo))
 refine ⟨c',e2,e3,e4,λx hx=>?_⟩;obtain ⟨a,cap,es,sz,rfl,g1,g2,g3,g4,g5,g6,g7,g8,g9⟩:=(hx.mono e2).inv_list;refine .list g1 g2 g3 g4 g5 g6 g7 g8 ?_ .nil;have hk:=e2.κ _ _ hinfo
 rcases g9 with ⟨h1,h2⟩ | ⟨b,h1,h2⟩
 ·exact .inl ⟨by rw [e1,←hk,h1],h2⟩
 ·exact .inr ⟨b,by rw [e1,←hk,h1],h2⟩
theorem gT.stamped (h:gT c m w) (hf:fO c p):∃c',Le c c'/\gT c' (m.tokset p 0 true) w/\qK p c m w c' (m.tokset p 0 true) w/\∀rows x,CR c [.list .exact rows] [x]->CR c' [.list (.st (.anon p 0)) rows] [x]:=by
 obtain ⟨c',e1,e2,e3,e4⟩:=h.give (m0:=m) hf (.refl p c m w) .full (λ_ _ _ _ h=>by cases h);refine ⟨c',e2,e3,e4,λrows x hx=>?_⟩;obtain ⟨a,cap,es,sz,rfl,g1,g2,g3,g4,g5,g6,g7,g8,g9⟩:=(hx.mono e2).inv_list;exact .list g1 g2 g3 g4 g5 g6 g7 g8 (.inl ⟨e1,g9.1⟩) .nil
theorem zag {T n:Nat} {id:Pa} {cs:List V} {x:Value} (ha:oC P T=some true) (hn:cC P T=some n) (hl:cs.length=n) (h:gT c m w) (hv:m.blk id=some cs) (hx:CR c [.ptr id 0] [x]) :
  ∃vals:List Value,(Instr.loadAt T x).run P w=.ok (.agg vals.toArray) w/\CR c (IL (m.ver id) id cs) vals/\(∀u ∈ vals,u.oneCell'=true)/\∃b,x=.pointer (some ⟨b,0,none⟩):=by
 obtain ⟨b,hr,rfl⟩:=hx.inv_ptr;obtain ⟨b',vals,t,hr',hB,k1,k2,k3⟩:=h.blk id cs hv;rw [hr] at hr';injection hr' with e;subst e
 have hlen:vals.toList.length=n:=by rw [k1.len,OO,hl]
 have hld:=run_loadCells_list (P:=P) w ⟨b,0,none⟩ vals.toList (λj u hj=>by
  rw [oA,hB.cell];simpa using hj)
 rw [hlen] at hld;exact ⟨vals.toList,by simp [Instr.loadAt,Instr.sureAddr,loadVar,Jk ha,kT hn,hld],k1,k3,b,rfl⟩
theorem MV {fn:Func} {t:Nat} (hr:fn.results.toList=[.tmp t]) (tmps:Array Value) (w:World):(results fn tmps).run P w=.ok (tmps.getD t undef) w:=by
 have he:results fn tmps=(do
   let vs ←fn.results.mapM (KQ tmps)
   pure (if h:vs.size=1 then vs[0] else .tuple vs)):=by
  unfold results
  congr 1
 rw [he];simp [xeq,hr,KQ]
theorem RA {fn:Func} {t T:Nat} {b:Nat} {z:Value} (hr:fn.results.toList=[.cell t T]) (tmps:Array Value) (w:World) (ht:tmps.getD t undef=.pointer (some ⟨b,0,none⟩)) (hz:(Instr.loadAt T (.pointer (some ⟨b,0,none⟩))).run P w=.ok z w):(results fn tmps).run P w=.ok z w:=by
 have he:results fn tmps=(do
   let vs ←fn.results.mapM (KQ tmps)
   pure (if h:vs.size=1 then vs[0] else .tuple vs)):=by
  unfold results
  congr 1
 have hz':(loadVar T ⟨b,0,none⟩).run P w=.ok z w:=by simpa [Instr.loadAt,Instr.sureAddr] using hz
 rw [he];simp [xeq,hr,KQ,ht,asAddr,hz']
inductive Src (P:Program) (rs:List ResultVar) (E:gE) (m:M) (q:Pa) (k:Nat):Pa->Nat->V->Prop where
 | exact {t rows}:rs=[.tmp t]->E t=.list .exact rows->Src P rs E m q k (k::q) 0 (.list (.st (.anon (k::q) 0)) rows)
 | mine {t rows id j}:rs=[.tmp t]->E t=.list (.st (.anon id j)) rows->m.tok id j=true->Src P rs E m q k id j (.list (.st (.anon id j)) rows)
 | cell {t T b cs off rows}:rs=[.cell t T]->E t=.ptr b 0->q <:+ b->m.blk b=some cs->oC P T=some true->cC P T=some cs.length->cs[off]? = some (.list .self rows)->Src P rs E m q k (k::q) 0 (.agg ((cs.map V.shared).set off (.list (.st (.anon (k::q) 0)) rows)))
theorem UY {ver:Nat->Nat} {id:Pa} {vs:List V}:(IL ver id vs).map V.shared=vs.map V.shared:=by
 unfold IL;apply Yz;intro i;rw [KM,KM,YL];cases vs[i]? with
 | none=>rfl
 | some v=>simp [QC]
theorem Src.ok {fn:Func} {E:gE} {a:Act} {N k:Nat} {id:Pa} {j:Nat} {v:V} (hs:Src P fn.results.toList E m' q k id j v) (h:gT c' m' w) (hE:tY c' E a N) (hf:yH c' q k) (mb:M) :
  ∃c1 m1 x,(results fn a.tmps).run P w=.ok x w/\gT c1 m1 w/\qK q c' m' w c1 m1 w/\m1.tok id j=true/\mb.back q m1=mb.back q m'/\CR c1 [v] [x]:=by
 have hp:fO c' (k::q):=hf.fW.fW
 generalize hrs:fn.results.toList=rs at hs
 cases hs with
 | @exact t rows e1 e2=>
   subst e1;obtain ⟨c1,_,k2,k3,k4⟩:=h.stamped hp;have hx:=hE.fW t;rw [e2] at hx;exact ⟨c1,_,_,MV hrs a.tmps w,k2,k3.up,by show (if (k::q)=(k::q)/\0=0 then true else _)=true;rw [cX ⟨rfl,rfl⟩],cG (fR vQ),k4 _ _ hx⟩
 | @mine t rows id j e1 e2 e3=>
   subst e1;have hx:=hE.fW t;rw [e2] at hx;exact ⟨c',m',_,MV hrs a.tmps w,h,.refl q c' m' w,e3,rfl,hx⟩
 | @cell t T b cs off rows e1 e2 e3 e4 e5 e6 e7=>
   subst e1;have hx:=hE.fW t;rw [e2] at hx;obtain ⟨vals,l1,l2,l3,bb,l4⟩:=zag e5 e6 rfl h e4 hx;obtain ⟨c1,k1,k2,k3,k4⟩:=h.take hp e4 e7;rw [l4] at l1;refine ⟨c1,_,.agg vals.toArray,RA hrs a.tmps w l4 l1,k2,k3.up,by show (if (k::q)=(k::q)/\0=0 then true else _)=true;rw [cX ⟨rfl,rfl⟩],?_,?_⟩
   ·rw [cG (fR vQ)];unfold M.unself;rw [e4];simp only [e7];exact cJ e3
   ·have hld:(IL (m'.ver b) b cs)[off]? = some (.list (.st (.cell b off (m'.ver b off))) rows):=by
     unfold IL;rw [YL,e7];rfl
    obtain ⟨y,hy,hy2⟩:=l2.get hld;have h3:=(HL l2).mono k1;rw [UY] at h3;have h4:=h3.set off (k4 y hy2)
    have h5:vals.set off y=vals:=by
     apply Yz;intro i;rw [Uu]
     split
     ·rename_i e;subst e
      split
      ·exact hy.symm
      ·rename_i hlt;rw [VH zb] at hy;cases hy
     ·rfl
    rw [h5] at h4;exact .agg h4 l3 .nil
theorem SC_ofO {f:FuncId} {fn:Func} {body:Code} {args:List V} {R:V->M->Prop} (hf:P.funcs[f]? = some fn) (hb:fn.body=some body) (hen:∀(xs:Array Value) (w:World),(callFunc f xs).run P w=.ok (.enter f xs) w)
  {N:Nat} (hN:fn.ntmps=N) (hfit:IO N body=true)
  (h:SW P N q body 0 (XE args) m λe k E' m'=>(e=.ret ∨ e=.normal)/\∃id j v,q <:+ id/\Src P fn.results.toList E' m' q k id j v/\R v ((m.back q m').tokset id j true)):SC P f args q m R:=by
 intro c xs w h1 h2 h3;refine .inl ⟨hen _ w,?_⟩;subst hN;have hini:=Vc h2 fn.ntmps;refine calls_of_wp hf hb ?_;rw [xef];refine wp_mono (h hfit c _ w h1 hini h3.sub) ?_;intro e a' w' hp;obtain ⟨c',k',E',m',⟨he,id,j,v,gG,hsrc,hR⟩,g2,g3,g4,g5,g6,g7⟩:=hp;obtain ⟨c1,m1,x,r1,r2,r3,r4,r5,r6⟩:=hsrc.ok g2 g4 g5 m;obtain ⟨hback,hown⟩:=h1.backT h3 r2 r4 gG;have g:=g3.trans r3;rw [r5] at hback hown
 have hX:qK q c m w c1 ((m.back q m').tokset id j true) w':=by
  refine ⟨g.le,g.os,g.tape,g.output,g.size,g.heap,g.book,λb hb ho=>g.own b hb (hown b ho),g.fresh,λi hi hb=>?_,g.lits⟩;have hbl:=(g.keep i hi hb).back (m:=m) hi;rw [r5] at hbl;refine ⟨hbl.blk,hbl.anon,hbl.cell,hbl.ver,λk=>?_⟩;show (if i=id/\k=j then true else (m.back q m').tok i k)=false;rw [cE]
  ·exact hbl.tok k
  ·rintro ⟨rfl,_⟩;exact hi gG
 have hdone:a'.defers=[]/\∃v,(results fn a'.tmps).run P w'=.ok v w'/\HB q c m w R (.returned v) w':=
  ⟨g6,x,r1,x,c1,v,_,rfl,hR,hback,hX,r6⟩
 rcases he with rfl | rfl
 ·exact hdone
 ·exact hdone
theorem SC.forget {f:FuncId} {args:List V} {R:V->M->Prop} (h:SC P f args q m λv m'=>∃id j m1 v1,q <:+ id/\m'=m1.tokset id j true/\v1=v.weak/\m1.tok=m.tok/\R v1 m1):SC P f args q m R:=by
 intro c xs w h1 h2 h3
 have key:∀e w',HB q c m w (λv m'=>∃id j m1 v1,q <:+ id/\m'=m1.tokset id j true/\v1=v.weak/\m1.tok=m.tok/\R v1 m1) e w'->HB q c m w R e w':=by
  rintro e w' ⟨x,c',r,m',e1,⟨id,j,m1,v1,gG,rfl,rfl,ht,hR⟩,g2,g3,g4⟩;have hf0:m.tok id j=false:=(h1.ver0 id (h3 id gG)).2 j
  obtain ⟨k1,k2⟩:=g2.less (m2:=m1) (λi vs hv=>⟨hv,rfl⟩) (λi k hk=>by
   show (if i=id/\k=j then true else m1.tok i k)=true
   split
   ·rfl
   ·exact hk) rfl (λi hi=>⟨(g2.ver0 i hi).1,λk=>by
    have:=(g2.ver0 i hi).2 k;have h':(if i=id/\k=j then true else m1.tok i k)=false:=this
    split at h'
    ·cases h'
    ·exact h'⟩)
  refine ⟨x,c',_,m1,e1,hR,k1,⟨g3.le,g3.os,g3.tape,g3.output,g3.size,g3.heap,g3.book,λb hb ho=>g3.own b hb (k2 b ho),g3.fresh,λi hi hb=>?_,g3.lits⟩,V.weak_ok g4⟩;have hbl:=g3.keep i hi hb;refine ⟨hbl.blk,hbl.anon,hbl.cell,hbl.ver,λk=>?_⟩;have h':(if i=id/\k=j then true else m1.tok i k)=false:=hbl.tok k
  split at h'
  ·cases h'
  ·exact h'
 rcases h c xs w h1 h2 h3 with ⟨k1,k2⟩ | ⟨x,w',k1,k2⟩
 ·exact .inl ⟨k1,k2.mono λe w' hp=>key e w' hp⟩
 ·exact .inr ⟨x,w',k1,key _ _ k2⟩
end
section
variable {P:Program} {T:TypeId} {x y:Operand} {C:V->Prop}
end
section
variable {P:Program} {N:Nat} {π:Pa} {k:Nat} {E:gE} {m:M} {Q:Exit->Nat->gE->M->Prop}
theorem Bp {id:Nat} {ops:List Oper} {y:Code} (h:∀K:Nat->gE->M->Prop,(∀k E m,SW P N π y k E m Q->K k E m)->mY P ops π K ops k E m):SW P N π (.seq (.region id ops.toArray false) y) k E m Q:=
 aR (qC λK hK=>h K λk E m hs=>hK k E m hs)
theorem dL {id:Nat} {ops:List Oper} {n:Nat->gE->M->Prop} (h:∀K:Nat->gE->M->Prop,(∀k E m,n k E m->K k E m)->mY P ops π K ops k E m):SW P N π (.region id ops.toArray false) k E m (vP n Q):=
 qC λK hK=>h K λk E m hs=>hK k E m hs
end
theorem SC_w {P:Program} {f:FuncId} {fn:Func} {body:Code} {args:List V} {q:Pa} {m:M} {R:V->M->Prop} (hf:P.funcs[f]? = some fn) (hb:fn.body=some body) (hen:∀(xs:Array Value) (w:World),(callFunc f xs).run P w=.ok (.enter f xs) w)
  {N:Nat} (hN:fn.ntmps=N) (hfit:IO N body=true) {rs:Array ResultVar} (hrs:fn.results=rs)
  (h:SW P N q body 0 (XE args) m λe _ E' m'=>(e=.ret ∨ e=.normal)/\Mu P E' m' rs.toList λr=>R r.weak (m.back q m')):SC P f args q m R:=
 SC_of hf hb hen hN hfit (DI Array.toList hrs) V.weak (λ_ _ _=>V.weak_ok) h
section
variable {P:Program} {N:Nat} {π:Pa} {k:Nat} {E:gE} {m:M} {Q:Exit->Nat->gE->M->Prop}
abbrev Kd (Q:Nat->gE->M->Prop) (k:Nat) (E:gE) (m:M):Prop:=Q k E m
theorem EL {id:Nat} {ops:List Oper} {y:Code} (h:mY P ops π (Kd λk E m=>SW P N π y k E m Q) ops k E m):SW P N π (.seq (.region id ops.toArray false) y) k E m Q:=
 aR (QV (by rw [List.toList_toArray];exact h))
theorem bW {id:Nat} {ops:List Oper} {y:Code} {k1:Nat} {E1:gE} {m1:M} (h2:SW P N π y k1 E1 m1 Q) (h:∀K:Nat->gE->M->Prop,K k1 E1 m1->mY P ops π K ops k E m:=by intro K hK;first | (simp only [go_sem,seval];exact hK) | (simp only [*,go_sem,seval];exact hK) | (simp only [*,go_sem,seval,tX,uD];exact hK)):SW P N π (.seq (.region id ops.toArray false) y) k E m Q:=Bp λK hK=>h K (hK _ _ _ h2)
theorem oB {id:Nat} {ops:List Oper} {n:Nat->gE->M->Prop} {k1:Nat} {E1:gE} {m1:M} (h2:n k1 E1 m1) (h:∀K:Nat->gE->M->Prop,K k1 E1 m1->mY P ops π K ops k E m:=by intro K hK;first | (simp only [go_sem,seval];exact hK) | (simp only [*,go_sem,seval];exact hK) | (simp only [*,go_sem,seval,tX,uD];exact hK)):SW P N π (.region id ops.toArray false) k E m (vP n Q):=dL λK hK=>h K (hK _ _ _ h2)
theorem jS {a b:Prop} (h2:b:=by first | (simp only [go_sem,seval,cJ,eR,cG,cN];done) | (simp only [*,go_sem,seval,cJ,eR,cG,cN];done) | (simp only [*,go_sem,seval,cJ,eR,cG,cN,gP,tX,uD];done)) (h1:a:=by simp):a/\b:=⟨h1,h2⟩
theorem jD {a b:Prop} (h2:b:=by first | (simp only [go_sem,seval,cJ,eR,cG,cN];done) | (simp only [*,go_sem,seval,cJ,eR,cG,cN];done) | (simp only [*,go_sem,seval,cJ,eR,cG,cN,gP,tX,uD];done)) (h1:a:=by decide):a/\b:=⟨h1,h2⟩
theorem SW_ie {x y:Code} {t:Operand} (b:Bool) (ht:b=true->SW P N π x k E m Q) (hf:b=false->SW P N π y k E m Q) (hb:ev m E t=.lit (.bool b):=by first | (simp only [go_sem,seval];done) | (simp only [*,go_sem,seval];done)):SW P N π (.cond t x y) k E m Q:=WI b hb ht hf
theorem gD {α:Type} {A B r:α} {x y:Code} {t:Operand} {b:Bool} (h:(if b=true then A else B)=r) (ht:b=true->A=r->SW P N π x k E m Q) (hf:b=false->B=r->SW P N π y k E m Q) (hb:ev m E t=.lit (.bool b):=by first | (simp only [go_sem,seval];done) | (simp only [*,go_sem,seval];done)):SW P N π (.cond t x y) k E m Q:=WI b hb (λc=>ht c (ite_t c h)) λc=>hf c (ite_f c h)
theorem AZ {α:Type} {A B r:α} {b:Bool} (h:(if b=true then A else B)=r):b=true/\A=r ∨ b=false/\B=r:=by
 cases b
 ·exact .inr ⟨rfl,h⟩
 ·exact .inl ⟨rfl,h⟩
theorem SC.bA {f:FuncId} {args:List V} {q:Pa} {C:V->M->Prop} {v:V} {m1:M} {H:Prop} (hf:H->SC P f args q m (λr m2=>r=v/\m2=m1)) (hC:C v m1) (h:H:=by first | (simp only [go_sem,seval];done) | (simp only [*,go_sem,seval];done) | (simp only [*,go_sem,seval,tX,uD];done)):SC P f args q m C:=SC.by_ (hf h) hC
theorem Bq {x:Code} (K0:Nat) (J:gE->M->Prop) (h:SW P N π x k E m (vP (λk' E' m'=>k'<=K0/\J (tA [] E') (jV [] m')) Q)) (h2:∀E' m',J E' m'->(∀t,wr x t=false->E' t=E t)->Q .normal K0 E' m'):SW P N π x k E m Q:=Pu K0 [] [] rfl J h h2
theorem zR {body:Code} (Inv:Nat->gE->M->Prop) (c0:Nat) (h0:Inv c0 (tA [] E) (jV [] m))
  (step:∀(i c:Nat) (E':gE) (m':M),Inv c E' m'->(∀t,wr body t=false->E' t=E t)->SW P N (i::k::π) body 0 E' m' (vP (λ_ E2 m2=>∃c',c'<c/\Inv c' (tA [] E2) (jV [] m2)) λe _ E2 m2=>Q e (k+1) E2 m2)):SW P N π (.loop body) k E m Q:=MM [] [] rfl Inv c0 h0 step
theorem SC.wv {f:FuncId} {vs args:List V} {q:Pa} {R:V->M->Prop} (hv:vs.map V.weak1=args) (h:SC P f args q m R):SC P f vs q m R:=SC.weak (hv ▸ h)
theorem wG {f:FuncId} {fn:Func} {body:Code} {args:List V} {q:Pa} {R:V->M->Prop} (hf:P.funcs[f]? = some fn) (hen:∀(xs:Array Value) (w:World),(callFunc f xs).run P w=.ok (.enter f xs) w) {N:Nat} (hN:fn.ntmps=N) {rs:Array ResultVar} (hrs:fn.results=rs)
  (h:SW P N q body 0 (XE args) m λe _ E' m'=>(e=.ret ∨ e=.normal)/\Mu P E' m' rs.toList λr=>R r.weak (m.back q m')) (hb:fn.body=some body:=by rfl) (hfit:IO N body=true:=by kernel_rfl):SC P f args q m R:=SC_w hf hb hen hN hfit hrs h
theorem SC.ap {p:Pa} {f:FuncId} {args:List V} {q:Pa} {R:V->M->Prop} {cs:List V} (hm:m.blk p=some cs) (h:¬ q <:+ p->m.set p cs=m->SC P f args q m R):SC P f args q m R:=SC.apart hm λhp=>h hp (Jh hm)
abbrev V.li (x:Int):V:=.lit (.int .i64 x)
abbrev V.lw (x:Int):V:=.lit (.int .u32 x)
abbrev V.lb (x:Bool):V:=.lit (.bool x)
abbrev V.ls (x:List UInt8):V:=.lit (.string (bs x))
def By (P:Program) (n:FuncId) (as:List V) (x:V):Prop:=∀(q:Pa) (m:M) (vs:List V),vs.map V.weak1=as->SC P n vs q m (λv m2=>v=x/\m2=m)
end
