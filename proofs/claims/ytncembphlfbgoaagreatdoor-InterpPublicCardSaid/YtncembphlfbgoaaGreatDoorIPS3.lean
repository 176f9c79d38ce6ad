/- Lemmas of ours. -/
import Derived.Test.YtncembphlfbgoaaGreatDoorIPA21
import Derived.Lib.Bytealg
namespace Go.Proofs.YtncembphlfbgoaaGreatDoor.Abs
open Go.RowKit
def yJ:List Nat->dU->dU
 | [],E=>E
 | t::ts,E=>yJ ts (PZ E t (E t).weak1)
@[go_sem] theorem weakE_nil {E:dU}:yJ [] E=E:=rI rfl
theorem GT:∀ {ts:List Nat} {E:dU} {t:Nat},t ∉ ts->yJ ts E t=E t:=by
 intro ts
 induction ts with
 | nil=>intro E t _;rfl
 | cons s ts ih=>
   intro E t h;rw [yJ,ih (fun hm=>h (Kc _ hm))];show (if t=s then _ else E t)=E t;rw [if_neg (fun e=>h (by rw [e];exact xec))]
theorem kI.weakE {c:Conc} {a:Act} {N:Nat}:∀ {ts:List Nat} {E:dU},kI c E a N->kI c (yJ ts E) a N:=by
 intro ts
 induction ts with
 | nil=>intro E h;exact h
 | cons s ts ih=>
   intro E h;refine ih ⟨h.size,fun t=>?_⟩;show CR c [if t=s then (E s).weak1 else E t] _
   split
   ·rename_i e;subst e;exact V.weak1_ok (h.gB t)
   ·exact h.gB t
def qA:List (Pa × Nat)->M->M
 | [],m=>m
 | x::us,m=>qA us (xR (m.blk x.1) m x.1 x.2)
@[go_sem] theorem unselfs_nil {m:M}:qA [] m=m:=rI rfl
@[go_sem] theorem unselfs_cons {id:Pa} {off:Nat} {us:List (Pa × Nat)} {m:M}:qA ((id,off)::us) m=qA us (xR (m.blk id) m id off):=rI rfl
theorem Oc {m:M} {id:Pa} {off:Nat}:xR (m.blk id) m id off=m.unself id off:=(Pg (j:=0)).symm
theorem fT.unselfs {c:Conc} {w:World}:∀ {us:List (Pa × Nat)} {m:M},fT c m w->fT c (qA us m) w/\∀q,mT q c m w c (qA us m) w:=by
 intro us
 induction us with
 | nil=>intro m h;exact ⟨h,fun q=>.refl q c m w⟩
 | cons x us ih=>
   intro m h;obtain ⟨h1,h2,_⟩:=h.unself x.1 x.2;have e:xR (m.blk x.1) m x.1 x.2=m.unself x.1 x.2:=Oc;show fT c (Abs.qA us (xR (m.blk x.1) m x.1 x.2)) w/\_;rw [e];obtain ⟨h3,h4⟩:=ih h1;refine ⟨h3,fun q=>?_⟩;show mT q c m w c (Abs.qA us (xR (m.blk x.1) m x.1 x.2)) w;rw [e];exact (h2 q).trans (h4 q)
section
variable {P:Program} {N:Nat} {π:Pa} {k:Nat} {E:dU} {m:M} {Q:Exit->Nat->dU->M->Prop} {f:FuncId} {args:List V} {q:Pa} {R:V->M->Prop}
theorem LP {x:Code} {ts:List Nat} (hts:ts.all (wr x)=true) {t:Nat} (ht:wr x t=false):t ∉ ts:=fun hm=>by
 have:=Ga.1 hts t hm;rw [ht] at this;cases this
theorem HN {x:Code} (K0:Nat) (ts:List Nat) (us:List (Pa × Nat)) (hts:ts.all (wr x)=true) (J:dU->M->Prop) (h:SW P N π x k E m (CJ (fun k' E' m'=>k'<=K0/\J (yJ ts E') (qA us m')) Q))
  (h2:∀E' m',J E' m'->(∀t,wr x t=false->E' t=E t)->Q .normal K0 E' m'):SW P N π x k E m Q:=by
 intro hf c a w g1 g2 g3;refine wp_mono (h hf c a w g1 g2 g3) fun e a' w' hp=>?_;obtain ⟨c',k',E',m',q1,q2,q3,q4,q5,q6,q7⟩:=hp;cases e with
 | normal=>
   obtain ⟨hk,hJ⟩:=q1;obtain ⟨r1,r2⟩:=q2.unselfs (us:=us);have hfr:∀t,wr x t=false->yJ ts E' t=E t:=fun t ht=>(GT (LP hts ht)).trans (q7 t ht);exact ⟨c',K0,yJ ts E',qA us m',h2 _ _ hJ hfr,r1,q3.trans (r2 π),q4.weakE,q5.le hk,q6,hfr⟩
 | _=>exact ⟨c',k',E',m',q1,q2,q3,q4,q5,q6,q7⟩
theorem Sk {x:Code} {ts:List Nat} {us:List (Pa × Nat)} (hts:ts.all (wr x)=true) (h:SW P N π x k (yJ ts E) (qA us m) Q):SW P N π x k E m Q:=by
 intro hf c a w g1 g2 g3;obtain ⟨r1,r2⟩:=g1.unselfs (us:=us);refine wp_mono (h hf c a w r1 g2.weakE g3) fun e a' w' hp=>?_;obtain ⟨c',k',E',m',q1,q2,q3,q4,q5,q6,q7⟩:=hp;exact ⟨c',k',E',m',q1,q2,(r2 π).trans q3,q4,q5,q6,fun t ht=>(q7 t ht).trans (GT (LP hts ht))⟩
theorem IU {body:Code} (ts:List Nat) (us:List (Pa × Nat)) (hts:ts.all (wr body)=true) (CF:Nat->dU->M->Prop) (c0:Nat) (h0:CF c0 (yJ ts E) (qA us m))
  (step:∀(i c:Nat) (E':dU) (m':M),CF c E' m'->(∀t,wr body t=false->E' t=E t)->SW P N (i::k::π) body 0 E' m' (CJ (fun _ E2 m2=>∃c',c'<c/\CF c' (yJ ts E2) (qA us m2)) fun e _ E2 m2=>Q e (k+1) E2 m2)) :
  SW P N π (.loop body) k E m Q:=by
 refine DT (fun c E m=>CF c (yJ ts E) (qA us m)) c0 h0 fun i c E' m' hI hf=>?_;exact Sk hts (step i c _ _ hI fun t ht=>(GT (LP hts ht)).trans (hf t ht))
theorem Lu {op:Op} {o:Oper} {fn:Nat} {hist:List M} {C C':V->M->List M->Prop} (h:dop P op o fn q hist E m C) (hC:∀v m h,C v m h->C' v m h):dop P op o fn q hist E m C':=by
 cases op with
 | load T x=>obtain ⟨v,h1,h2,h3⟩:=h;exact ⟨v,h1,h2,hC _ _ _ h3⟩
 | alloc T=>obtain ⟨v,h1,h2⟩:=h;exact ⟨v,h1,hC _ _ _ h2⟩
 | box T x=>exact ⟨h.1,hC _ _ _ h.2⟩
 | _=>
   simp only [dop] at h ⊢
   first
    | (obtain ⟨v,m',h1,h2,h3⟩:=h;exact ⟨v,m',h1,h2,hC _ _ _ h3⟩)
    | (split at h
       ·rename_i he;rw [if_pos he];obtain ⟨v,m',h1,h2,h3⟩:=h;exact ⟨v,m',h1,h2,hC _ _ _ h3⟩
       ·rename_i he;rw [if_neg he];obtain ⟨v,h1,h2⟩:=h;exact ⟨v,h1,hC _ _ _ h2⟩)
theorem PD_K {full:List Oper} {K K':Nat->dU->M->Prop} (hK:∀E m,K (k+full.length) E m->K' (k+full.length) E m):∀ {ord:List (Nat × Nat)} {hist:List M} {E:dU} {m:M},PD P full π k K ord hist E m->PD P full π k K' ord hist E m:=by
 intro ord
 induction ord with
 | nil=>intro hist E m h;exact hK E m h
 | cons x rest ih=>
   obtain ⟨i,fn⟩:=x;intro hist E m h;unfold PD at h ⊢
   split
   ·rename_i ho;rw [ho] at h;exact h
   ·rename_i o ho;rw [ho] at h;simp only at h ⊢
    split
    ·rename_i hg;rw [hg] at h;exact Lu h fun v m' hist'=>ih
    ·rename_i j b hg;rw [hg] at h;simp only at h ⊢
     split
     ·rename_i hd;rw [hd] at h;exact h
     ·rename_i d hd;rw [hd] at h;simp only at h ⊢
      split
      ·rename_i t ht;rw [ht] at h;simp only at h
       split
       ·rename_i hb;rw [if_pos hb] at h;exact Lu h fun v m' hist'=>ih
       ·rename_i hb;rw [if_neg hb] at h;exact ih h
      ·rename_i ht;rw [ht] at h;exact ih h
      ·rename_i h1 h2
       revert h
       split
       ·rename_i t ht;exact absurd ht (h1 t)
       ·rename_i t ht;exact absurd ht (h2 t)
       ·exact _root_.id
theorem Sn {id:Nat} {ops:List Oper} {tbl:List Nat} {ord:List (Nat × Nat)} (k2:Nat) (hk:k+ops.length=k2) (hm:P.follows .mixedOrders=true) (hc:dOk ops tbl ord=true)
  (h:∀K:dU->M->Prop,(∀E m,Q .normal k2 E m->K E m)->PD P ops π k (fun _ E m=>K E m) ord [] E m):SW P N π (.region id ops.toArray true) k E m Q:=by
 subst hk;refine SW_draw (tbl:=tbl) (ord:=ord) hm (by rw [xeg];exact hc) ?_;rw [xeg];exact PD_K (K:=fun _ E m=>Q .normal (k+ops.length) E m) (fun _ _ x=>x) (h (fun E m=>Q .normal (k+ops.length) E m) fun _ _ x=>x)
theorem SC.weak (h:SC P f (args.map V.weak1) q m R):SC P f args q m R:=fun c xs w h1 h2 h3=>h c xs w h1 (Kn h2) h3
end
def cI (k:IntKind) (x:Int):List V:=[.lit (.int k x)]
def cS (s:cQ):List V:=[.lit (.string (bs s))]
def cL {α:Type} (f:α->List V) (l:List α):List V:=[.list .none (l.map f)]
def cA {α:Type} (f:α->List V) (l:List α):List V:=l.flatMap f
@[go_sem] theorem cI_eq {k:IntKind} {x:Int}:cI k x=[.lit (.int k x)]:=rI rfl
@[go_sem] theorem cS_eq {s:cQ}:cS s=[.lit (.string (bs s))]:=rI rfl
@[go_sem] theorem cL_eq {α:Type} {f:α->List V} {l:List α}:cL f l=[.list .none (l.map f)]:=rI rfl
def vT (k:IntKind) (a b:Int):Int:=k.wrap (BitVec.ofInt k.bits a &&& BitVec.ofInt k.bits b).toNat
def orK (k:IntKind) (a b:Int):Int:=k.wrap (BitVec.ofInt k.bits a ||| BitVec.ofInt k.bits b).toNat
def xorK (k:IntKind) (a b:Int):Int:=k.wrap (BitVec.ofInt k.bits a ^^^ BitVec.ofInt k.bits b).toNat
def Oo (k:IntKind) (a b:Int):Int:=k.wrap (a*2 ^ (min b.toNat k.bits))
def KC (k:IntKind) (a b:Int):Int:=a.fdiv (2 ^ (min b.toNat k.bits))
def comK (k:IntKind) (n:Int):Int:=k.wrap (BitVec.ofInt k.bits (if k.signed then -1 else k.max) ^^^ BitVec.ofInt k.bits n).toNat
section
variable {P:Program} {T:TypeId} {x y:Operand} {C:V->Prop} {kk k2:IntKind} {a b:Int} {c:Bool}
@[go_sem high] theorem sbin_andK:oZ P .and T x y (.lit (.int kk a)) (.lit (.int kk b)) C=C (.lit (.int kk (vT kk a b))):=by simp [oZ,vT]
@[go_sem high] theorem sbin_orK:oZ P .or T x y (.lit (.int kk a)) (.lit (.int kk b)) C=C (.lit (.int kk (orK kk a b))):=by simp [oZ,orK]
@[go_sem high] theorem sbin_xorK:oZ P .xor T x y (.lit (.int kk a)) (.lit (.int kk b)) C=C (.lit (.int kk (xorK kk a b))):=by simp [oZ,xorK]
@[go_sem high] theorem sbin_shlK:oZ P .shl T x y (.lit (.int kk a)) (.lit (.int k2 b)) C=(0<=b/\C (.lit (.int kk (Oo kk a b)))):=by simp [oZ,Oo]
@[go_sem high] theorem sbin_shrK:oZ P .shr T x y (.lit (.int kk a)) (.lit (.int k2 b)) C=(0<=b/\C (.lit (.int kk (KC kk a b)))):=by simp [oZ,KC]
@[go_sem high] theorem sun_neg:Qa .neg (.lit (.int kk a)) C=C (.lit (.int kk (kk.wrap (0 - a)))):=rI rfl
@[go_sem high] theorem sun_com:Qa .xor (.lit (.int kk a)) C=C (.lit (.int kk (comK kk a))):=rI rfl
@[go_sem high] theorem sun_not:Qa .not (.lit (.bool c)) C=C (.lit (.bool (!c))):=rI rfl
end
theorem CA {α:Type} {f:α->List V} {s:Nat}:∀ {l:List α} {i:Nat} {x:α},(∀x ∈ l,(f x).length=s)->l[i]? = some x->∃rest,(cA f l).drop (i*s)=f x++rest:=by
 intro l
 induction l with
 | nil=>intro i x _ h;cases h
 | cons y l ih=>
   intro i x hf h;have hy:=hf y (by simp);cases i with
   | zero=>
     obtain rfl:y=x:=by simpa using h
     exact ⟨cA f l,by simp [cA]⟩
   | succ i=>
     obtain ⟨rest,hr⟩:=ih (fun z hz=>hf z (by simp [hz])) (by simpa using h);refine ⟨rest,?_⟩;rw [←hr];show List.drop ((i+1)*s) (f y++cA f l)=_;rw [List.drop_append,List.drop_of_length_le (by rw [hy,Ip];omega),hy,Ip,show i*s+s - s=i*s by omega,uG]
theorem eO {q p:Pa} (hp:¬ q <:+ p):(∀a,(a::q=p)=False)/\∀a,(p=a::q)=False:=⟨fun _=>pa1 hp,fun _=>pb1 hp⟩
theorem gZ {q p:Pa} (hp:¬ q <:+ p):(∀a,(a::q=p)=False)/\(∀a,(p=a::q)=False)/\(∀a b c,(a::b::c::q=p)=False)/\∀a b c,(p=a::b::c::q)=False:=⟨fun _=>pa1 hp,fun _=>pb1 hp,fun _ _ _=>pa3 hp,fun _ _ _=>pb3 hp⟩
theorem RW {α:Type} {f:α->List V} {s:Nat} (l:List α) (h:l.all (fun x=>(f x).length == s)=true):∀x ∈ l,(f x).length=s:=fun x hx=>by simpa using Ga.1 h x hx
theorem cA_one {l:List cQ} {n:Nat} (h:(cA cS l).length=n):l.length=n:=by
 rw [←h];clear h
 induction l with
 | nil=>rfl
 | cons x l ih=>show l.length+1=(cS x++cA cS l).length;rw [nC,←ih];simp [cS];omega
theorem fM {α:Type} {x:Option α} {r:α} {p:Prop} (h:x=some r) (hx:x=none:=by rfl):p:=by rw [hx] at h;cases h
@[go_sem] theorem bs_empty:ByteArray.empty=bs []:=by rfl
@[go_sem] theorem cA_sh_S {l:List cQ}:(cA cS l).map V.shared=cA cS l:=by
 induction l with
 | nil=>rfl
 | cons x l ih=>show List.map V.shared (cS x++cA cS l)=cS x++cA cS l;rw [HS,ih];rfl
theorem no_self {a b:Nat} {q:Pa} (h:a::b::q=q):False:=by have:=congrArg List.length h;simp at this;omega
@[go_sem] theorem p02 {a b:Nat} {q:Pa}:(q=a::b::q)=False:=eq_false fun h=>no_self h.symm
@[go_sem] theorem p04 {a b c d:Nat} {q:Pa}:(q=a::b::c::d::q)=False:=eq_false fun h=>by have:=congrArg List.length h;simp at this;omega
attribute [go_sem] ne_eq not_false_eq_true Ph nC HS List.cons.injEq and_false false_and Int.cast_ofNat_Int Nat.sub_zero Nat.one_mul yI LO IZ Qk
@[go_sem] theorem weak1_fn {f:Fn} {xs ys:List V}:V.weak1 (.fn f xs ys)=.fn f xs ys:=rI rfl
section
variable {P:Program} {C:V->Prop} {rows:List (List V)} {i off n:Nat} {e:TypeId} {lo hi:Option V}
def slC:Option Int->Option Int->Option Nat->Option (List V)->Nat->Nat->(V->Prop)->Prop
 | some l,some h,some s,some r,n,off,C=>0<s/\0<=l/\l<=h/\h<=n/\n<=1073741824/\off+n*s<=r.length/\C (.list .none (Aq s (h.toNat - l.toNat) (r.drop (off+l.toNat*s))))
 | _,_,_,_,_,_,_=>False
@[go_sem] theorem slU_e:LX P (.ar n e) (.eptr rows i off) lo hi C=slC (kK lo 0) (kK hi n) (cO P e) rows[i]? n off C:=by
 unfold LX slC;simp only;cases kK lo 0 <;> cases kK hi n <;> cases cO P e <;> cases rows[i]? <;> rfl
@[go_sem] theorem slC_some {l h:Int} {s:Nat} {r:List V}:slC (some l) (some h) (some s) (some r) n off C=(0<s/\0<=l/\l<=h/\h<=n/\n<=1073741824/\off+n*s<=r.length/\C (.list .none (Aq s (h.toNat - l.toNat) (r.drop (off+l.toNat*s))))):=rI rfl
end
theorem ud_sl {P:Program} {T e:TypeId} (h:ud P T=.sl e):P.underlying T=some (.slice e):=by
 unfold ud at h;cases hu:P.underlying T with
 | none=>rw [hu] at h;cases h
 | some d=>rw [hu] at h;cases d <;> first | (cases h;done) | (injection h with h;rw [h])
@[go_sem] theorem cvU_ll {P:Program} {T e:TypeId} {rows:List (List V)} {C:V->Prop} (h1:ud P T=.sl e) (h2:ud P e=.int .u8):cvU P T T (.sl e) (.sl e) (.list .exact rows) C=(rows ≠ []/\C (.list .exact rows)):=by
 show xO P T T (.list .exact rows) C=_;have hu:=ud_sl h1;have h3:P.underlying e=some (.int .u8):=by rw [ud_u8];exact h2
 unfold xO;rw [hu];simp only [h3,true_and]
@[go_sem] theorem byteRows_nil:nQ []=[]:=rI rfl
@[go_sem] theorem byteRows_cons {x:UInt8} {l:cQ}:nQ (x::l)=[.lit (.int .u8 (x.toNat:Int))]::nQ l:=rI rfl
section
variable {P:Program} {T:TypeId} {x y:Operand} {C:V->Prop} {a b:Bool} {k:IntKind} {i j:Int}
theorem lU {α β:Type} {s:Sem α} {f:α->Sem β} {r:α} (h:pH P s=some r):pH P (s >>= f)=pH P (f r):=by
 induction s with
 | pure a=>simp only [pH,Option.some.injEq] at h;subst h;rfl
 | program k ih=>exact ih P h
 | _=>cases h
@[go_sem] theorem sminmax_max:pR true (.lit (.int k i)) (.lit (.int k j)) C=C (.lit (.int k (max i j))):=by simp [pR]
@[go_sem] theorem sminmax_min:pR false (.lit (.int k i)) (.lit (.int k j)) C=C (.lit (.int k (min i j))):=by simp [pR]
end
theorem zL {P:Program} {N:Nat} {π:Pa} {k:Nat} {E:dU} {m:M} {Q:Exit->Nat->dU->M->Prop} {x:Code} (t:Nat) (rows:List (List V)) (ht:wr x t=true) (he:E t=.list .exact rows)
  (h:SW P N π x (k+1) (PZ E t (.list (.st (.anon (k::π) 0)) rows)) (m.tokset (k::π) 0 true) Q):SW P N π x k E m Q:=by
 intro hf c a w g1 g2 g3;have hq:fP c (k::π):=g3.gB.gB;obtain ⟨c',hc'⟩:∃c':Conc,c'={ c with κ:=fun s=>if s=.anon (k::π) 0 then some .full else c.κ s }:=⟨_,rfl⟩;have hκ:∀s,c'.κ s=if s=.anon (k::π) 0 then some .full else c.κ s:=by intro s;rw [hc']
 have hρ:c'.ρ=c.ρ:=by rw [hc']
 have hG:c'.G=c.G:=by rw [hc']
 have hlit:c'.lit=c.lit:=by rw [hc']
 have hbase:c'.base=c.base:=by rw [hc']
 have hle:Le c c':=⟨hbase,fun b h=>by rw [hlit];exact h,fun i b h=>by rw [hρ];exact h,fun s i hk=>by
  rw [hκ];split
  ·rename_i e;rw [e,hq.2.1 0] at hk;cases hk
  ·exact hk,fun b o v h=>by rw [hG];exact h⟩
 clear hc';have hblk:∀i,(m.tokset (k::π) 0 true).blk i=m.blk i:=fun _=>rfl;have htok:∀i j,(m.tokset (k::π) 0 true).tok i j=if i=(k::π)/\j=0 then true else m.tok i j:=fun _ _=>rfl
 have harr:∀s b cap sz len,c'.κ s=some (.arr b cap sz len)->s ≠ .anon (k::π) 0/\c.κ s=some (.arr b cap sz len):=by
  intro s b cap sz len hk;rw [hκ] at hk
  split at hk
  ·cases hk
  ·rename_i hne;exact ⟨hne,hk⟩
 have hlive:∀s,s ≠ .anon (k::π) 0->fN (m.tokset (k::π) 0 true) s=true->fN m s=true:=by
  intro s hne hl;cases s with
  | anon i j=>
    have hl':(m.tokset (k::π) 0 true).tok i j=true:=hl;rw [htok,if_neg (by rintro ⟨rfl,rfl⟩;exact hne rfl)] at hl';exact hl'
  | cell i o v=>exact hl
  | priv b=>exact hl
 have hown:∀b,gH c' (m.tokset (k::π) 0 true) b->gH c m b:=by
  rintro b (⟨id,eE,hr⟩ | ⟨s,cap,sz,len,hl,hk⟩)
  ·exact .inl ⟨id,eE,by rw [←hρ];exact hr⟩
  ·obtain ⟨h1,h2⟩:=harr _ _ _ _ _ hk;exact .inr ⟨s,cap,sz,len,hlive s h1 hl,h2⟩
 have hR:fT c' (m.tokset (k::π) 0 true) w:=by
  refine ⟨by rw [hG];exact g1.com,fun id vs hv=>?_,fun id id' b hi hi' hr hr'=>g1.inj id id' b hi hi' (by rw [←hρ];exact hr) (by rw [←hρ];exact hr'),fun s b cap sz len hl hk=>?_,fun s s' b cap sz len cap' sz' len' hl hl' hk hk'=>?_,fun id off v hb hv=>?_,fun g=>(g1.gl g).mono hle,fun id eE=>?_,by rw [hbase];exact g1.base,fun b hb=>?_,fun b vs hv=>?_⟩
  ·obtain ⟨b,cs,t',k1,k2,k3,k4,k5⟩:=g1.blk id vs hv;exact ⟨b,cs,t',by rw [hρ];exact k1,k2,k3.mono hle,by rw [hG];exact k4,k5⟩
  ·obtain ⟨h1,h2⟩:=harr _ _ _ _ _ hk;obtain ⟨k1,k2,k3,k4⟩:=g1.own s b cap sz len (hlive s h1 hl) h2;exact ⟨k1,fun o ho=>by rw [hG];exact k2 o ho,fun id eE=>by rw [hρ];exact k3 id eE,k4⟩
  ·obtain ⟨h1,h2⟩:=harr _ _ _ _ _ hk;obtain ⟨h3,h4⟩:=harr _ _ _ _ _ hk';exact g1.ownInj s s' b cap sz len cap' sz' len' (hlive s h1 hl) (hlive s' h3 hl') h2 h4
  ·rw [hκ,if_neg (by rintro ⟨⟩)];exact g1.ver id off v hb hv
  ·have hf':=eE.anti hle;refine ⟨(g1.ver0 id hf').1,fun j=>?_⟩;rw [htok,if_neg]
   ·exact (g1.ver0 id hf').2 j
   ·rintro ⟨rfl,rfl⟩;have:=eE.2.1 0;rw [hκ,if_pos rfl] at this;cases this
  ·rw [hlit] at hb;refine ⟨by rw [hbase];exact (g1.lit b hb).1,(g1.lit b hb).2.1,fun ho=>(g1.lit b hb).2.2 (hown b ho)⟩
  ·exact (g1.hpr b vs hv).mono hle fun _ _ _ _ _ hB=>hB
 have hfr1:∀id,¬ (k::π) <:+ id->fP c id->fP c' id:=by
  intro id eE hf';refine ⟨by rw [hρ];exact hf'.1,fun i=>?_,fun off v=>?_,by rw [hκ,if_neg (by rintro ⟨⟩)];exact hf'.2.2.2⟩
  ·rw [hκ,if_neg]
   ·exact hf'.2.1 i
   ·intro e;injection e with e1 e2;exact eE (e1 ▸ Jb _)
  ·rw [hκ,if_neg (by rintro ⟨⟩)];exact hf'.2.2.1 off v
 have hX:mT (k::π) c m w c' (m.tokset (k::π) 0 true) w:=by
  refine ⟨hle,rfl,rfl,rfl,tJ _,fun _ _ _ _=>rfl,fun b _ _ o=>by rw [hG],fun b _ ho=>hown b ho,hfr1,fun id eE hb=>?_,fun b _ hb=>by rw [hlit] at hb;exact hb⟩;refine ⟨hb.blk,fun i=>?_,fun off v=>?_,hb.ver,fun j=>?_⟩
  ·rw [hκ,if_neg]
   ·exact hb.anon i
   ·intro e;injection e with e1 e2;exact eE (e1 ▸ Jb _)
  ·rw [hκ,if_neg (by rintro ⟨⟩)];exact hb.cell off v
  ·rw [htok,if_neg]
   ·exact hb.tok j
   ·rintro ⟨rfl,_⟩;exact eE (Jb _)
 have hE:kI c' (PZ E t (.list (.st (.anon (k::π) 0)) rows)) a N:=by
  refine ⟨g2.size,fun t'=>?_⟩;show CR c' [if t'=t then _ else E t'] _
  split
  ·rename_i e;subst e;have h0:=(g2.gB t').mono hle;rw [he] at h0;obtain ⟨x',cap,es,sz,e1,k1,k2,kz,k3,k4,k5,k6,kc,k7⟩:=h0.inv_list;rw [e1];exact .list k1 k2 kz k3 k4 k5 k6 kc (.inl ⟨by rw [hκ,if_pos rfl],k7.1⟩) .nil
  ·exact (g2.gB t').mono hle
 refine wp_mono (h hf c' a w hR hE (hX.freshK g3)) fun e a' w' hp=>?_;obtain ⟨c2,k',E',m',q1,q2,q3,q4,q5,q6,q7⟩:=hp;refine ⟨c2,k',E',m',q1,q2,hX.up.trans q3,q4,q5,q6,fun t' ht'=>?_⟩;rw [q7 t' ht'];show (if t'=t then _ else E t')=E t';rw [if_neg];rintro rfl;rw [ht] at ht';cases ht'
section
variable {P:Program} {c c':Conc} {m m' m0 m1 m2:M} {w w':World} {q p:Pa}
theorem fT.less (h:fT c m' w) (hb:∀id vs,m2.blk id=some vs->m'.blk id=some vs/\m2.ver id=m'.ver id) (ht:∀id j,m2.tok id j=true->m'.tok id j=true) (hg:m2.gl=m'.gl)
  (h0:∀id,fP c id->(∀off,m2.ver id off=0)/\∀j,m2.tok id j=false) (hhp:m2.hp=m'.hp:=by rfl):fT c m2 w/\∀b,gH c m2 b->gH c m' b:=by
 have hbn:∀id,m2.blk id ≠ none->m'.blk id ≠ none/\m2.ver id=m'.ver id:=by
  intro id eE;obtain ⟨vs,hv⟩:∃vs,m2.blk id=some vs:=by cases hx:m2.blk id with | none=>exact absurd hx eE | some vs=>exact ⟨vs,rfl⟩
  obtain ⟨h1,h2⟩:=hb id vs hv;exact ⟨by rw [h1];simp,h2⟩
 have hlive:∀s,fN m2 s=true->fN m' s=true:=by
  intro s hl;cases s with
  | anon i j=>exact ht i j hl
  | priv b=>
    have hl':(m2.hp b).isSome=true:=hl;rw [hhp] at hl';exact hl'
  | cell i off v=>
    obtain ⟨h1,vs,rows,h2,h3⟩:=qP hl;obtain ⟨h4,h5⟩:=hb i vs h2;rw [h5] at h1;exact qE h1 h4 h3
 have hown:∀b,gH c m2 b->gH c m' b:=by
  rintro b (⟨id,eE,hr⟩ | ⟨s,cap,sz,len,hl,hk⟩)
  ·exact .inl ⟨id,(hbn id eE).1,hr⟩
  ·exact .inr ⟨s,cap,sz,len,hlive s hl,hk⟩
 refine ⟨⟨h.com,fun id vs hv=>?_,fun id id' b hi hi'=>h.inj id id' b (hbn id hi).1 (hbn id' hi').1,fun s b cap sz len hl hk=>?_,fun s s' b cap sz len cap' sz' len' hl hl'=>h.ownInj s s' b cap sz len cap' sz' len' (hlive s hl) (hlive s' hl'),fun id off v hi hv=>?_,fun g=>by rw [hg];exact h.gl g,h0,h.base,fun b hl=>⟨(h.lit b hl).1,(h.lit b hl).2.1,fun ho=>(h.lit b hl).2.2 (hown b ho)⟩,fun b vs hv=>h.hpr b vs (by rw [←hhp];exact hv)⟩,hown⟩
 ·obtain ⟨h1,h2⟩:=hb id vs hv;obtain ⟨b,cs,t,k1,k2,k3,k4,k5⟩:=h.blk id vs h1;exact ⟨b,cs,t,k1,k2,by rw [h2];exact k3,k4,k5⟩
 ·obtain ⟨k1,k2,k3,k4⟩:=h.own s b cap sz len (hlive s hl) hk;exact ⟨k1,k2,fun id eE=>k3 id (hbn id eE).1,k4⟩
 ·obtain ⟨h1,h2⟩:=hbn id hi;rw [h2] at hv;exact h.ver id off v h1 hv
theorem fT.backT {id:Pa} {j:Nat} (h:fT c m w) (hf:qT c q) (h':fT c' m' w') (ht:m'.tok id j=true) (hq:q <:+ id) :
  fT c' ((m.back q m').tokset id j true) w'/\∀b,gH c' ((m.back q m').tokset id j true) b->gH c' m' b:=by
 have hsub:∀i,q.isSuffixOf i=true->m.blk i=none/\(∀off,m.ver i off=0)/\∀j,m.tok i j=false:=by
  intro i hi;have hf':=hf i (Fz.1 hi);exact ⟨h.fresh_blk hf',(h.ver0 i hf').1,(h.ver0 i hf').2⟩
 have hblk:∀i,((m.back q m').tokset id j true).blk i=if q.isSuffixOf i then m.blk i else m'.blk i:=fun _=>rfl;have hver:∀i,((m.back q m').tokset id j true).ver i=if q.isSuffixOf i then m.ver i else m'.ver i:=fun _=>rfl;have htok:∀i k,((m.back q m').tokset id j true).tok i k=if i=id/\k=j then true else (if q.isSuffixOf i then m.tok i else m'.tok i) k:=fun _ _=>rfl;have hqs:=Fz.2 hq;refine h'.less (fun i vs hv=>?_) (fun i k hk=>?_) rfl (fun i hi=>⟨fun off=>?_,fun k=>?_⟩)
 ·rw [hblk] at hv;rw [hver];cases hs:q.isSuffixOf i with
  | true=>rw [if_pos hs,(hsub i hs).1] at hv;cases hv
  | false=>rw [if_neg (by simp [hs])] at hv ⊢;exact ⟨hv,rfl⟩
 ·rw [htok] at hk
  split at hk
  ·rename_i e;rw [e.1,e.2];exact ht
  ·split at hk
   ·rename_i hs;rw [(hsub i hs).2.2 k] at hk;cases hk
   ·exact hk
 ·rw [hver]
  split
  ·rename_i hs;exact (hsub i hs).2.1 off
  ·exact (h'.ver0 i hi).1 off
 ·rw [htok,if_neg]
  ·split
   ·rename_i hs;exact (hsub i hs).2.2 k
   ·exact (h'.ver0 i hi).2 k
  ·rintro ⟨rfl,rfl⟩;rw [(h'.ver0 i hi).2 k] at ht;cases ht
theorem fT.give (h:fT c m1 w) (hf:fP c p) (hX:mT p c m0 w c m1 w) (info:JX)
  (hin:∀b cap sz len,info=.arr b cap sz len->(∃cs t,xN w b t cs/\cs.size=cap*sz)/\(∀o,len*sz<=o->c.G b o=none)/\(∀id,m1.blk id ≠ none->c.ρ id ≠ some b)/\len<=cap/\0<sz ∧
    (∀s cap' sz' len',fN m1 s=true->c.κ s ≠ some (.arr b cap' sz' len'))/\gH c m0 b/\¬ c.lit b) :
  ∃c',c'.κ (.anon p 0)=some info/\Le c c'/\fT c' (m1.tokset p 0 true) w/\mT p c m0 w c' (m1.tokset p 0 true) w:=by
 obtain ⟨c',hc'⟩:∃c':Conc,c'={ c with κ:=fun s=>if s=.anon p 0 then some info else c.κ s }:=⟨_,rfl⟩;have hκ:∀s,c'.κ s=if s=.anon p 0 then some info else c.κ s:=by intro s;rw [hc']
 have hρ:c'.ρ=c.ρ:=by rw [hc']
 have hG:c'.G=c.G:=by rw [hc']
 have hlit:c'.lit=c.lit:=by rw [hc']
 have hbase:c'.base=c.base:=by rw [hc']
 have hle:Le c c':=⟨hbase,fun b h=>by rw [hlit];exact h,fun i b h=>by rw [hρ];exact h,fun s i hk=>by
  rw [hκ];split
  ·rename_i e;rw [e,hf.2.1 0] at hk;cases hk
  ·exact hk,fun b o v h=>by rw [hG];exact h⟩
 clear hc';have htok:∀i j,(m1.tokset p 0 true).tok i j=if i=p/\j=0 then true else m1.tok i j:=fun _ _=>rfl
 have hlive:∀s,s ≠ .anon p 0->fN (m1.tokset p 0 true) s=true->fN m1 s=true:=by
  intro s hne hl;cases s with
  | anon i j=>
    have hl':(m1.tokset p 0 true).tok i j=true:=hl;rw [htok,if_neg (by rintro ⟨rfl,rfl⟩;exact hne rfl)] at hl';exact hl'
  | cell i o v=>exact hl
  | priv b=>exact hl
 have hold:∀s b cap sz len,s ≠ .anon p 0->c'.κ s=some (.arr b cap sz len)->c.κ s=some (.arr b cap sz len):=by
  intro s b cap sz len hne hk;rw [hκ,if_neg hne] at hk;exact hk
 have hown:∀b,gH c' (m1.tokset p 0 true) b->gH c m0 b ∨ gH c m1 b:=by
  rintro b (⟨id,eE,hr⟩ | ⟨s,cap,sz,len,hl,hk⟩)
  ·exact .inr (.inl ⟨id,eE,by rw [←hρ];exact hr⟩)
  ·by_cases hs:s=.anon p 0
   ·rw [hκ,if_pos hs] at hk
    injection hk with hk
    exact .inl (hin _ _ _ _ hk).2.2.2.2.2.2.1
   ·exact .inr (.inr ⟨s,cap,sz,len,hlive s hs hl,hold _ _ _ _ _ hs hk⟩)
 refine ⟨c',by rw [hκ,if_pos rfl],hle,?_,?_⟩
 ·refine ⟨by rw [hG];exact h.com,fun id vs hv=>?_,fun id id' b hi hi' hr hr'=>h.inj id id' b hi hi' (by rw [←hρ];exact hr) (by rw [←hρ];exact hr'),fun s b cap sz len hl hk=>?_,fun s s' b cap sz len cap' sz' len' hl hl' hk hk'=>?_,fun id off v hb hv=>?_,fun g=>(h.gl g).mono hle,fun id eE=>?_,by rw [hbase];exact h.base,fun b hb=>?_,fun b vs hv=>?_⟩
  ·obtain ⟨b,cs,t',k1,k2,k3,k4,k5⟩:=h.blk id vs hv;exact ⟨b,cs,t',by rw [hρ];exact k1,k2,k3.mono hle,by rw [hG];exact k4,k5⟩
  ·by_cases hs:s=.anon p 0
   ·rw [hκ,if_pos hs] at hk
    injection hk with hk
    obtain ⟨k1,k2,k3,k4,k5,_⟩:=hin _ _ _ _ hk;exact ⟨k1,fun o ho=>by rw [hG];exact k2 o ho,fun id eE=>by rw [hρ];exact k3 id eE,k4,k5⟩
   ·obtain ⟨k1,k2,k3,k4⟩:=h.own s b cap sz len (hlive s hs hl) (hold _ _ _ _ _ hs hk);exact ⟨k1,fun o ho=>by rw [hG];exact k2 o ho,fun id eE=>by rw [hρ];exact k3 id eE,k4⟩
  ·by_cases hs:s=.anon p 0 <;> by_cases hs':s'=.anon p 0
   ·rw [hs,hs']
   ·rw [hκ,if_pos hs] at hk
    injection hk with hk
    exact absurd (hold _ _ _ _ _ hs' hk') ((hin _ _ _ _ hk).2.2.2.2.2.1 s' _ _ _ (hlive s' hs' hl'))
   ·rw [hκ,if_pos hs'] at hk'
    injection hk' with hk'
    exact absurd (hold _ _ _ _ _ hs hk) ((hin _ _ _ _ hk').2.2.2.2.2.1 s _ _ _ (hlive s hs hl))
   ·exact h.ownInj s s' b cap sz len cap' sz' len' (hlive s hs hl) (hlive s' hs' hl') (hold _ _ _ _ _ hs hk) (hold _ _ _ _ _ hs' hk')
  ·rw [hκ,if_neg (by rintro ⟨⟩)];exact h.ver id off v hb hv
  ·have hf':=eE.anti hle;refine ⟨(h.ver0 id hf').1,fun j=>?_⟩;rw [htok,if_neg]
   ·exact (h.ver0 id hf').2 j
   ·rintro ⟨rfl,rfl⟩;have:=eE.2.1 0;rw [hκ,if_pos rfl] at this;cases this
  ·rw [hlit] at hb;refine ⟨by rw [hbase];exact (h.lit b hb).1,(h.lit b hb).2.1,?_⟩;rintro (⟨id,eE,hr⟩ | ⟨s,cap,sz,len,hl,hk⟩)
   ·exact (h.lit b hb).2.2 (.inl ⟨id,eE,by rw [←hρ];exact hr⟩)
   ·by_cases hs:s=.anon p 0
    ·rw [hκ,if_pos hs] at hk
     injection hk with hk
     exact (hin _ _ _ _ hk).2.2.2.2.2.2.2 hb
    ·exact (h.lit b hb).2.2 (.inr ⟨s,cap,sz,len,hlive s hs hl,hold _ _ _ _ _ hs hk⟩)
  ·exact (h.hpr b vs hv).mono hle fun _ _ _ _ _ hB=>hB
 ·refine ⟨hX.le.trans hle,hX.os,hX.tape,hX.output,hX.size,hX.heap,fun b hb ho o=>by rw [hG],fun b hb ho=>(hown b ho).elim (fun x=>x) (fun x=>hX.own b hb x),fun id eE hf'=>?_,fun id eE hb=>?_,fun b hb hl=>hX.lits b hb (by rw [hlit] at hl;exact hl)⟩
  ·have h1:=hX.fresh id eE hf';refine ⟨by rw [hρ];exact h1.1,fun i=>?_,fun off v=>?_,by rw [hκ,if_neg (by rintro ⟨⟩)];exact h1.2.2.2⟩
   ·rw [hκ,if_neg]
    ·exact h1.2.1 i
    ·intro e;injection e with e1 e2;exact eE (e1 ▸ Jb _)
   ·rw [hκ,if_neg (by rintro ⟨⟩)];exact h1.2.2.1 off v
  ·have h1:=hX.keep id eE hb;refine ⟨h1.blk,fun i=>?_,fun off v=>?_,h1.ver,fun j=>?_⟩
   ·rw [hκ,if_neg]
    ·exact h1.anon i
    ·intro e;injection e with e1 e2;exact eE (e1 ▸ Jb _)
   ·rw [hκ,if_neg (by rintro ⟨⟩)];exact h1.cell off v
   ·rw [htok,if_neg]
    ·exact h1.tok j
    ·rintro ⟨rfl,_⟩;exact eE (Jb _)
theorem fT.take {id:Pa} {off:Nat} {cs:List V} {rows:List (List V)} (h:fT c m w) (hf:fP c p) (hv:m.blk id=some cs) (ho:cs[off]? = some (.list .self rows)) :
  ∃c',Le c c'/\fT c' ((m.unself id off).tokset p 0 true) w/\mT p c m w c' ((m.unself id off).tokset p 0 true) w/\∀x,CR c [.list (.st (.cell id off (m.ver id off))) rows] [x]->CR c' [.list (.st (.anon p 0)) rows] [x]:=by
 obtain ⟨h1,h2,h3⟩:=h.unself id off;have hlive:fN m (.cell id off (m.ver id off))=true:=qE rfl hv ho;obtain ⟨b,vals,t,k1,k2,k3,k4,k5⟩:=h.blk id cs hv
 have hl:(Eb (m.ver id) id cs)[off]? = some (.list (.st (.cell id off (m.ver id off))) rows):=by
  unfold Eb;rw [xdp,ho];rfl
 obtain ⟨x0,_,hx0⟩:=k3.get hl;obtain ⟨a,cap,es,sz,_,g1,g2,g3,g4,g5,g6,g7,g8,g9⟩:=hx0.inv_list
 obtain ⟨info,hinfo⟩:∃info,c.κ (.cell id off (m.ver id off))=some info:=by
  rcases g9 with ⟨h1,_⟩ | ⟨b,h1,_⟩
  ·exact ⟨_,h1⟩
  ·exact ⟨_,h1⟩
 obtain ⟨c',e1,e2,e3,e4⟩:=h1.give (m0:=m) hf (h2 p) info (fun b cap sz len hi=>by
  subst hi;obtain ⟨q1,q2,q3,q4,q5⟩:=h.own _ b cap sz len hlive hinfo
  have hbk:∀i,(m.unself id off).blk i ≠ none->m.blk i ≠ none:=by
   intro i hi;unfold M.unself at hi;rw [hv] at hi;simp only [ho] at hi;have hi':(if i=id then some (cs.set off (.list .none rows)) else m.blk i) ≠ none:=hi
   by_cases hii:i=id
   ·subst hii;rw [hv];simp
   ·rw [if_neg hii] at hi';exact hi'
  refine ⟨q1,q2,fun i hi=>q3 i (hbk i hi),q4,q5,fun s cap' sz' len' hs hk=>?_,.inr ⟨_,_,_,_,hlive,hinfo⟩,fun hlb=>(h.lit b hlb).2.2 (.inr ⟨_,_,_,_,hlive,hinfo⟩)⟩;obtain ⟨s1,s2⟩:=h3 s hs;exact s2 (m.ver id off) (h.ownInj _ _ _ _ _ _ _ _ _ s1 hlive hk hinfo))
 refine ⟨c',e2,e3,e4,fun x hx=>?_⟩;obtain ⟨a,cap,es,sz,rfl,g1,g2,g3,g4,g5,g6,g7,g8,g9⟩:=(hx.mono e2).inv_list;refine .list g1 g2 g3 g4 g5 g6 g7 g8 ?_ .nil;have hk:=e2.κ _ _ hinfo
 rcases g9 with ⟨h1,h2⟩ | ⟨b,h1,h2⟩
 ·exact .inl ⟨by rw [e1,←hk,h1],h2⟩
 ·exact .inr ⟨b,by rw [e1,←hk,h1],h2⟩
theorem fT.stamped (h:fT c m w) (hf:fP c p):∃c',Le c c'/\fT c' (m.tokset p 0 true) w/\mT p c m w c' (m.tokset p 0 true) w/\∀rows x,CR c [.list .exact rows] [x]->CR c' [.list (.st (.anon p 0)) rows] [x]:=by
 obtain ⟨c',e1,e2,e3,e4⟩:=h.give (m0:=m) hf (.refl p c m w) .full (fun _ _ _ _ h=>by cases h);refine ⟨c',e2,e3,e4,fun rows x hx=>?_⟩;obtain ⟨a,cap,es,sz,rfl,g1,g2,g3,g4,g5,g6,g7,g8,g9⟩:=(hx.mono e2).inv_list;exact .list g1 g2 g3 g4 g5 g6 g7 g8 (.inl ⟨e1,g9.1⟩) .nil
theorem Ri {T n:Nat} {id:Pa} {cs:List V} {x:Value} (ha:nR P T=some true) (hn:cO P T=some n) (hl:cs.length=n) (h:fT c m w) (hv:m.blk id=some cs) (hx:CR c [.ptr id 0] [x]) :
  ∃vals:List Value,(Instr.loadAt T x).run P w=.ok (.agg vals.toArray) w/\CR c (Eb (m.ver id) id cs) vals/\(∀u ∈ vals,u.oneCell'=true)/\∃b,x=.pointer (some ⟨b,0,none⟩):=by
 obtain ⟨b,hr,rfl⟩:=hx.inv_ptr;obtain ⟨b',vals,t,hr',hB,k1,k2,k3⟩:=h.blk id cs hv;rw [hr] at hr';injection hr' with e;subst e
 have hlen:vals.toList.length=n:=by rw [k1.len,Hr,hl]
 have hld:=run_loadCells_list (P:=P) w ⟨b,0,none⟩ vals.toList (fun j u hj=>by
  rw [kH,hB.cell];simpa using hj)
 rw [hlen] at hld;exact ⟨vals.toList,by simp [Instr.loadAt,Instr.sureAddr,loadVar,Dv ha,iT hn,hld],k1,k3,b,rfl⟩
theorem Gg {fn:Func} {t:Nat} (hr:fn.results.toList=[.tmp t]) (tmps:Array Value) (w:World):(results fn tmps).run P w=.ok (tmps.getD t undef) w:=by
 have he:results fn tmps=(do
   let vs ←fn.results.mapM (EF tmps)
   pure (if h:vs.size=1 then vs[0] else .tuple vs)):=by
  unfold results
  congr 1
 rw [he];simp [xew,hr,EF]
theorem Jn {fn:Func} {t T:Nat} {b:Nat} {z:Value} (hr:fn.results.toList=[.cell t T]) (tmps:Array Value) (w:World) (ht:tmps.getD t undef=.pointer (some ⟨b,0,none⟩)) (hz:(Instr.loadAt T (.pointer (some ⟨b,0,none⟩))).run P w=.ok z w):(results fn tmps).run P w=.ok z w:=by
 have he:results fn tmps=(do
   let vs ←fn.results.mapM (EF tmps)
   pure (if h:vs.size=1 then vs[0] else .tuple vs)):=by
  unfold results
  congr 1
 have hz':(loadVar T ⟨b,0,none⟩).run P w=.ok z w:=by simpa [Instr.loadAt,Instr.sureAddr] using hz
 rw [he];simp [xew,hr,EF,ht,asAddr,hz']
inductive Src (P:Program) (rs:List ResultVar) (E:dU) (m:M) (q:Pa) (k:Nat):Pa->Nat->V->Prop where
 | exact {t rows}:rs=[.tmp t]->E t=.list .exact rows->Src P rs E m q k (k::q) 0 (.list (.st (.anon (k::q) 0)) rows)
 | mine {t rows id j}:rs=[.tmp t]->E t=.list (.st (.anon id j)) rows->m.tok id j=true->Src P rs E m q k id j (.list (.st (.anon id j)) rows)
 | cell {t T b cs off rows}:rs=[.cell t T]->E t=.ptr b 0->q <:+ b->m.blk b=some cs->nR P T=some true->cO P T=some cs.length->cs[off]? = some (.list .self rows)->Src P rs E m q k (k::q) 0 (.agg ((cs.map V.shared).set off (.list (.st (.anon (k::q) 0)) rows)))
theorem Ms {ver:Nat->Nat} {id:Pa} {vs:List V}:(Eb ver id vs).map V.shared=vs.map V.shared:=by
 unfold Eb;apply Nc;intro i;rw [yH,yH,xdp];cases vs[i]? with
 | none=>rfl
 | some v=>simp [Iw]
theorem Src.ok {fn:Func} {E:dU} {a:Act} {N k:Nat} {id:Pa} {j:Nat} {v:V} (hs:Src P fn.results.toList E m' q k id j v) (h:fT c' m' w) (hE:kI c' E a N) (hf:pQ c' q k) (mb:M) :
  ∃c1 m1 x,(results fn a.tmps).run P w=.ok x w/\fT c1 m1 w/\mT q c' m' w c1 m1 w/\m1.tok id j=true/\mb.back q m1=mb.back q m'/\CR c1 [v] [x]:=by
 have hp:fP c' (k::q):=hf.gB.gB
 generalize hrs:fn.results.toList=rs at hs
 cases hs with
 | @exact t rows e1 e2=>
   subst e1;obtain ⟨c1,_,k2,k3,k4⟩:=h.stamped hp;have hx:=hE.gB t;rw [e2] at hx;exact ⟨c1,_,_,Gg hrs a.tmps w,k2,k3.up,by show (if (k::q)=(k::q)/\0=0 then true else _)=true;rw [if_pos ⟨rfl,rfl⟩],cG (kQ tN),k4 _ _ hx⟩
 | @mine t rows id j e1 e2 e3=>
   subst e1;have hx:=hE.gB t;rw [e2] at hx;exact ⟨c',m',_,Gg hrs a.tmps w,h,.refl q c' m' w,e3,rfl,hx⟩
 | @cell t T b cs off rows e1 e2 e3 e4 e5 e6 e7=>
   subst e1;have hx:=hE.gB t;rw [e2] at hx;obtain ⟨vals,l1,l2,l3,bb,l4⟩:=Ri e5 e6 rfl h e4 hx;obtain ⟨c1,k1,k2,k3,k4⟩:=h.take hp e4 e7;rw [l4] at l1;refine ⟨c1,_,.agg vals.toArray,Jn hrs a.tmps w l4 l1,k2,k3.up,by show (if (k::q)=(k::q)/\0=0 then true else _)=true;rw [if_pos ⟨rfl,rfl⟩],?_,?_⟩
   ·rw [cG (kQ tN)];unfold M.unself;rw [e4];simp only [e7];exact bF e3
   ·have hld:(Eb (m'.ver b) b cs)[off]? = some (.list (.st (.cell b off (m'.ver b off))) rows):=by
     unfold Eb;rw [xdp,e7];rfl
    obtain ⟨y,hy,hy2⟩:=l2.get hld;have h3:=(BU l2).mono k1;rw [Ms] at h3;have h4:=h3.set off (k4 y hy2)
    have h5:vals.set off y=vals:=by
     apply Nc;intro i;rw [In]
     split
     ·rename_i e;subst e
      split
      ·exact hy.symm
      ·rename_i hlt;rw [xdq (by omega)] at hy;cases hy
     ·rfl
    rw [h5] at h4;exact .agg h4 l3 .nil
theorem So {f:FuncId} {fn:Func} {body:Code} {args:List V} {R:V->M->Prop} (hf:P.funcs[f]? = some fn) (hb:fn.body=some body) (hen:∀(xs:Array Value) (w:World),(callFunc f xs).run P w=.ok (.enter f xs) w)
  {N:Nat} (hN:fn.ntmps=N) (hfit:BH N body=true)
  (h:SW P N q body 0 (Rw args) m fun e k E' m'=>(e=.ret ∨ e=.normal)/\∃id j v,q <:+ id/\Src P fn.results.toList E' m' q k id j v/\R v ((m.back q m').tokset id j true)):SC P f args q m R:=by
 intro c xs w h1 h2 h3;refine .inl ⟨hen _ w,?_⟩;subst hN;have hini:=Mw h2 fn.ntmps;refine calls_of_wp hf hb ?_;rw [xem];refine wp_mono (h hfit c _ w h1 hini h3.sub) ?_;intro e a' w' hp;obtain ⟨c',k',E',m',⟨he,id,j,v,eE,hsrc,hR⟩,g2,g3,g4,g5,g6,g7⟩:=hp;obtain ⟨c1,m1,x,r1,r2,r3,r4,r5,r6⟩:=hsrc.ok g2 g4 g5 m;obtain ⟨hback,hown⟩:=h1.backT h3 r2 r4 eE;have g:=g3.trans r3;rw [r5] at hback hown
 have hX:mT q c m w c1 ((m.back q m').tokset id j true) w':=by
  refine ⟨g.le,g.os,g.tape,g.output,g.size,g.heap,g.book,fun b hb ho=>g.own b hb (hown b ho),g.fresh,fun i hi hb=>?_,g.lits⟩;have hbl:=(g.keep i hi hb).back (m:=m) hi;rw [r5] at hbl;refine ⟨hbl.blk,hbl.anon,hbl.cell,hbl.ver,fun k=>?_⟩;show (if i=id/\k=j then true else (m.back q m').tok i k)=false;rw [if_neg]
  ·exact hbl.tok k
  ·rintro ⟨rfl,_⟩;exact hi eE
 have hdone:a'.defers=[]/\∃v,(results fn a'.tmps).run P w'=.ok v w'/\Ey q c m w R (.returned v) w':=
  ⟨g6,x,r1,x,c1,v,_,rfl,hR,hback,hX,r6⟩
 rcases he with rfl | rfl
 ·exact hdone
 ·exact hdone
end
section
variable {P:Program} {T:TypeId} {x y:Operand} {C:V->Prop}
def Rk:TypeDesc->Value->Value->Option Bool
 | .bool,.bool a,.bool b=>some (a == b)
 | .int _,.int k a,.int k' b=>if k=k' then some (a == b) else none
 | .string,.string a,.string b=>some (a == b)
 | _,_,_=>none
theorem Lq {n:Nat} {t:TypeId} {d:TypeDesc} {a b:Value} {r:Bool} (ht:P.underlying t=some d) (h:Rk d a b=some r):pH P (Op.equalIn (n+1) t a b)=some r:=by
 have hu:pH P (underlying t)=some d:=by
  show pH P (match P.underlying t with | some d=>pure d | none=>stuck _)=_;rw [ht];rfl
 unfold Op.equalIn;rw [lU hu];unfold Rk at h
 split at h
 ·simp only [Option.some.injEq] at h;subst h;rfl
 ·split at h
  ·rename_i hk;simp only [Option.some.injEq] at h;subst h
   simp only [if_pos hk];rfl
  ·cases h
 ·simp only [Option.some.injEq] at h;subst h;rfl
 ·cases h
theorem Pc {fs:List Field} {B:Field->Option Bool × Unit->Sem (ForInStep (Option Bool × Unit))} {e:Field->Bool} (h:∀f ∈ fs,∀r,pH P (B f r)=some (if e f then .yield (none,()) else .done (some false,()))):pH P (forIn fs (none,()) B)=some (if fs.all e then (none,()) else (some false,())):=by
 induction fs with
 | nil=>rfl
 | cons f fs ih=>
   rw [List.forIn_cons,lU (h f (by simp) _)];cases he:e f with
   | true=>simp only [if_true,List.all_cons,he,Bool.true_and];exact ih fun g hg=>h g (by simp [hg])
   | false=>simp [he];rfl
def xA (P:Program) (xs ys:List Value) (f:Field):Option Bool:=match P.underlying f.type,xs[f.offset]?,ys[f.offset]? with
 | some d,some a,some b=>Rk d a b
 | _,_,_=>none
def Ef (P:Program) (f:Field):Bool:=f.name != "_" && (match P.underlying f.type with | some (.struct _) | some (.array _ _)=>false | some _=>true | none=>false)
theorem KP {t:TypeId} {d:TypeDesc} {xs:List Value} {o:Nat} {a:Value} (ht:P.underlying t=some d) (hd:¬ (∃f,d=.struct f)/\¬ ∃n e,d=.array n e) (h:xs[o]? = some a):pH P (part t xs.toArray o)=some a:=by
 have hu:pH P (isAgg t)=some false:=by
  show pH P (do match ←underlying t with | .struct .. | .array .. => pure true | _=>pure false)=_
  have hu:pH P (underlying t)=some d:=by
   show pH P (match P.underlying t with | some d=>pure d | none=>stuck _)=_;rw [ht];rfl
  rw [lU hu];cases d <;> first | rfl | (exact absurd ⟨_,rfl⟩ hd.1) | exact absurd ⟨_,_,rfl⟩ hd.2
 unfold part;rw [lU hu];simp only [yI,if_false,Qj,h];rfl
theorem JK {fs:Array Field} {xs ys:List Value} {e:Field->Bool} (hT:P.underlying T=some (.struct fs)) (hs:P.stoodInHeld T=false) (hf:(fs.toList.all (Ef P))=true) (he:∀f ∈ fs.toList,xA P xs ys f=some (e f)):pH P (Op.equal T (.agg xs.toArray) (.agg ys.toArray))=some (fs.toList.all e):=by
 have hu:pH P (underlying T)=some (TypeDesc.struct fs):=by
  show pH P (match P.underlying T with | some d=>pure d | none=>stuck _)=_;rw [hT];rfl
 show pH P (Op.equalIn (9999+1) T _ _)=_;unfold Op.equalIn;rw [lU hu];have hp:pH P program=some P:=rfl;simp only;rw [lU hp,hs];simp only [yI,if_false];rw [←Array.forIn_toList,lU (Pc (e:=e) ?_)]
 ·cases fs.toList.all e <;> rfl
 ·intro f hfm r;have h1:=Ga.1 hf f hfm;have h2:=he f hfm;unfold Ef at h1;unfold xA at h2;simp only [Fw,bne_iff_ne,ne_eq] at h1
  split at h2
  ·rename_i d a b hd ha hb
   have hd2:¬ (∃f,d=.struct f)/\¬ ∃n e,d=.array n e:=by
    have h3:=h1.2;rw [hd] at h3
    constructor
    ·rintro ⟨f,rfl⟩;simp at h3
    ·rintro ⟨n,e,rfl⟩;simp at h3
   simp only [ne_eq,h1.1,not_false_eq_true,if_true];rw [lU (KP hd hd2 ha),lU (KP hd hd2 hb),lU (Lq hd h2)];cases e f <;> rfl
  ·cases h2
def BI (P:Program) (T:TypeId):List Field:=match P.underlying T with | some (.struct fs)=>fs.toList | _=>[]
def Hu (P:Program) (T:TypeId):Bool:=match P.underlying T with | some (.struct _)=>true | _=>false
theorem MD {xs ys:List Value} {es:List Bool} (hT:Hu P T=true) (hs:P.stoodInHeld T=false) (hf:((BI P T).all (Ef P))=true) (he:(BI P T).map (xA P xs ys)=es.map some):pH P (Op.equal T (.agg xs.toArray) (.agg ys.toArray))=some (es.all id):=by
 unfold Hu at hT
 split at hT
 ·rename_i fs hfs;have e1:BI P T=fs.toList:=by unfold BI;rw [hfs]
  rw [e1] at hf he
  have key:∀f ∈ fs.toList,xA P xs ys f=some ((xA P xs ys f).getD false):=by
   intro f hfm;have h1:xA P xs ys f ∈ es.map some:=by rw [←he];exact xel hfm
   obtain ⟨b,_,hb⟩:=ER.1 h1;rw [←hb];rfl
  rw [JK hfs hs hf key]
  congr 1
  have h2:fs.toList.map (fun f=>(xA P xs ys f).getD false)=es:=by
   have:=congrArg (List.map fun o:Option Bool=>o.getD false) he;rw [xds,xds] at this;simpa [Function.comp_def] using this
  rw [←h2,List.all_map];rfl
 ·cases hT
theorem La {xs xs':List Value} (h:xs.map V.lit=xs'.map V.lit):xs=xs':=by
 induction xs generalizing xs' with
 | nil=>cases xs' with | nil=>rfl | cons=>cases h
 | cons a xs ih=>
   cases xs' with
   | nil=>cases h
   | cons b xs'=>
     simp only [lQ,List.cons.injEq,V.lit.injEq] at h;rw [h.1,ih h.2]
theorem My {op:BinOp} {xs ys:Array Value} (hg:P.eqGuardType P.depth T=false):pH P (eqGuard op T x y (.agg xs) (.agg ys))=some ():=by
 have hp:pH P program=some P:=rfl
 cases op <;> first
  | rfl
  | (show pH P (program >>= fun p=>program >>= fun p'=>_)=_
     rw [lU hp,lU hp,hg];rfl)
theorem OB {xs ys:List Value} {es:List Bool} (hT:Hu P T=true) (hs:P.stoodInHeld T=false) (hg:P.eqGuardType P.depth T=false) (hf:((BI P T).all (Ef P))=true) (he:(BI P T).map (xA P xs ys)=es.map some) :
  oZ P .neq T x y (.agg (xs.map V.lit)) (.agg (ys.map V.lit)) C=C (.lit (.bool (!(es.all id)))):=by
 have key:pH P (do eqGuard .neq T x y (.agg xs.toArray) (.agg ys.toArray);binOp .neq T (.agg xs.toArray) (.agg ys.toArray))=some (.bool (!(es.all id))):=by
  rw [lU (My hg)];show pH P (do pure (Value.bool !(←Op.equal T (.agg xs.toArray) (.agg ys.toArray))))=_;rw [lU (MD hT hs hf he)];rfl
 apply propext;show (∃(xs' ys':List Value) (r:Value),_/\_/\pH P _=some r/\C (.lit r)) ↔ _
 constructor
 ·rintro ⟨xs',ys',r,h1,h2,h3,h4⟩;obtain rfl:=La h1;obtain rfl:=La h2;rw [key] at h3
  injection h3 with h3
  rw [h3];exact h4
 ·intro h;exact ⟨xs,ys,_,rfl,rfl,key,h⟩
end
section
variable {P:Program} {N:Nat} {π:Pa} {k:Nat} {E:dU} {m:M} {Q:Exit->Nat->dU->M->Prop}
theorem pO {id:Nat} {ops:List Oper} {y:Code} (h:∀K:Nat->dU->M->Prop,(∀k E m,SW P N π y k E m Q->K k E m)->iX P ops π K ops k E m):SW P N π (.seq (.region id ops.toArray false) y) k E m Q:=
 aF (eR fun K hK=>h K fun k E m hs=>hK k E m hs)
theorem aP {id:Nat} {ops:List Oper} {n:Nat->dU->M->Prop} (h:∀K:Nat->dU->M->Prop,(∀k E m,n k E m->K k E m)->iX P ops π K ops k E m):SW P N π (.region id ops.toArray false) k E m (CJ n Q):=
 eR fun K hK=>h K fun k E m hs=>hK k E m hs
end
theorem SC_w {P:Program} {f:FuncId} {fn:Func} {body:Code} {args:List V} {q:Pa} {m:M} {R:V->M->Prop} (hf:P.funcs[f]? = some fn) (hb:fn.body=some body) (hen:∀(xs:Array Value) (w:World),(callFunc f xs).run P w=.ok (.enter f xs) w)
  {N:Nat} (hN:fn.ntmps=N) (hfit:BH N body=true) {rs:Array ResultVar} (hrs:fn.results=rs)
  (h:SW P N q body 0 (Rw args) m fun e _ E' m'=>(e=.ret ∨ e=.normal)/\Gr P E' m' rs.toList fun r=>R r.weak (m.back q m')):SC P f args q m R:=
 SC_of hf hb hen hN hfit (congrArg Array.toList hrs) V.weak (fun _ _ _=>V.weak_ok) h
section
variable {P:Program} {N:Nat} {π:Pa} {k:Nat} {E:dU} {m:M} {Q:Exit->Nat->dU->M->Prop}
abbrev Kd (Q:Nat->dU->M->Prop) (k:Nat) (E:dU) (m:M):Prop:=Q k E m
theorem sW {id:Nat} {ops:List Oper} {y:Code} (h:iX P ops π (Kd fun k E m=>SW P N π y k E m Q) ops k E m):SW P N π (.seq (.region id ops.toArray false) y) k E m Q:=
 aF (IS (by rw [xeg];exact h))
theorem aL {id:Nat} {ops:List Oper} {y:Code} {k1:Nat} {E1:dU} {m1:M} (h2:SW P N π y k1 E1 m1 Q) (h:∀K:Nat->dU->M->Prop,K k1 E1 m1->iX P ops π K ops k E m:=by intro K hK;first | (simp only [go_sem,seval];exact hK) | (simp only [*,go_sem,seval];exact hK) | (simp only [*,go_sem,seval,eO,gZ];exact hK)):SW P N π (.seq (.region id ops.toArray false) y) k E m Q:=pO fun K hK=>h K (hK _ _ _ h2)
theorem cH {id:Nat} {ops:List Oper} {n:Nat->dU->M->Prop} {k1:Nat} {E1:dU} {m1:M} (h2:n k1 E1 m1) (h:∀K:Nat->dU->M->Prop,K k1 E1 m1->iX P ops π K ops k E m:=by intro K hK;first | (simp only [go_sem,seval];exact hK) | (simp only [*,go_sem,seval];exact hK) | (simp only [*,go_sem,seval,eO,gZ];exact hK)):SW P N π (.region id ops.toArray false) k E m (CJ n Q):=aP fun K hK=>h K (hK _ _ _ h2)
theorem jS {a b:Prop} (h2:b:=by first | (simp only [go_sem,seval,bF,dB,cG,bK];done) | (simp only [*,go_sem,seval,bF,dB,cG,bK];done) | (simp only [*,go_sem,seval,bF,dB,cG,bK,dG,eO,gZ];done)) (h1:a:=by simp):a/\b:=⟨h1,h2⟩
theorem jD {a b:Prop} (h2:b:=by first | (simp only [go_sem,seval,bF,dB,cG,bK];done) | (simp only [*,go_sem,seval,bF,dB,cG,bK];done) | (simp only [*,go_sem,seval,bF,dB,cG,bK,dG,eO,gZ];done)) (h1:a:=by decide):a/\b:=⟨h1,h2⟩
theorem Fq {x y:Code} {t:Operand} (b:Bool) (ht:b=true->SW P N π x k E m Q) (hf:b=false->SW P N π y k E m Q) (hb:ev m E t=.lit (.bool b):=by first | (simp only [go_sem,seval];done) | (simp only [*,go_sem,seval];done)):SW P N π (.cond t x y) k E m Q:=SW_if b hb ht hf
theorem bH {α:Type} {A B r:α} {x y:Code} {t:Operand} {b:Bool} (h:(if b=true then A else B)=r) (ht:b=true->A=r->SW P N π x k E m Q) (hf:b=false->B=r->SW P N π y k E m Q) (hb:ev m E t=.lit (.bool b):=by first | (simp only [go_sem,seval];done) | (simp only [*,go_sem,seval];done)):SW P N π (.cond t x y) k E m Q:=SW_if b hb (fun c=>ht c (ite_t c h)) fun c=>hf c (ite_f c h)
theorem dD {α:Type} {A B r:α} {b:Bool} (h:(if b=true then A else B)=r):b=true/\A=r ∨ b=false/\B=r:=by
 cases b
 ·exact .inr ⟨rfl,h⟩
 ·exact .inl ⟨rfl,h⟩
def tblOf (ops:List Oper):List Nat:=ops.foldl (fun t o=>t++[o.after.toList.foldl (fun s e=>if Region.binds .any e then s ||| 2 ^ e.on ||| t.getD e.on 0 else s) 0]) []
theorem eC {id:Nat} {ops:List Oper} (ord:List (Nat × Nat)) (k2:Nat) (h:∀K:dU->M->Prop,(∀E m,Q .normal k2 E m->K E m)->PD P ops π k (fun _ E m=>K E m) ord [] E m) (hk:k+ops.length=k2:=by rfl) (hm:P.follows .mixedOrders=true:=by kernel_rfl) (hc:dOk ops (tblOf ops) ord=true:=by kernel_rfl):SW P N π (.region id ops.toArray true) k E m Q:=Sn k2 hk hm hc h
theorem BN {id:Nat} {ops:List Oper} (ord:List (Nat × Nat)) (k2:Nat) {E1:dU} {m1:M} (h2:Q .normal k2 E1 m1) (h:∀K:dU->M->Prop,K E1 m1->PD P ops π k (fun _ E m=>K E m) ord [] E m:=by intro K hK;first | (simp only [go_sem,seval];exact hK) | (simp only [*,go_sem,seval];exact hK) | (simp only [*,go_sem,seval,eO,gZ];exact hK)) (hk:k+ops.length=k2:=by rfl) (hm:P.follows .mixedOrders=true:=by kernel_rfl) (hc:dOk ops (tblOf ops) ord=true:=by kernel_rfl):SW P N π (.region id ops.toArray true) k E m Q:=eC ord k2 (fun K hK=>h K (hK _ _ h2)) hk hm hc
theorem SC.bA {f:FuncId} {args:List V} {q:Pa} {C:V->M->Prop} {v:V} {m1:M} {H:Prop} (hf:H->SC P f args q m (fun r m2=>r=v/\m2=m1)) (hC:C v m1) (h:H:=by first | (simp only [go_sem,seval];done) | (simp only [*,go_sem,seval];done) | (simp only [*,go_sem,seval,eO,gZ];done)):SC P f args q m C:=SC.by_ (hf h) hC
theorem sF {g:FuncId} {first captured args:List V} {q:Pa} {m1:M} {v:V} {C:V->M->Prop} {H:Prop} (hf:H->SC P g (first++args++captured) q m (fun r m2=>r=v/\m2=m1)) (hC:C v m1) (h:H:=by first | (simp only [go_sem,seval];done) | (simp only [*,go_sem,seval];done) | (simp only [*,go_sem,seval,eO,gZ];done)) (hg:m1.gl=m.gl:=by rfl):Lw P (.fn (.func g) first captured) args q m C:=vN (hf h) hg hC
theorem fX {x:Code} (K0:Nat) (J:dU->M->Prop) (h:SW P N π x k E m (CJ (fun k' E' m'=>k'<=K0/\J (yJ [] E') (qA [] m')) Q)) (h2:∀E' m',J E' m'->(∀t,wr x t=false->E' t=E t)->Q .normal K0 E' m'):SW P N π x k E m Q:=HN K0 [] [] rfl J h h2
theorem kX {body:Code} (CF:Nat->dU->M->Prop) (c0:Nat) (h0:CF c0 (yJ [] E) (qA [] m))
  (step:∀(i c:Nat) (E':dU) (m':M),CF c E' m'->(∀t,wr body t=false->E' t=E t)->SW P N (i::k::π) body 0 E' m' (CJ (fun _ E2 m2=>∃c',c'<c/\CF c' (yJ [] E2) (qA [] m2)) fun e _ E2 m2=>Q e (k+1) E2 m2)):SW P N π (.loop body) k E m Q:=IU [] [] rfl CF c0 h0 step
theorem SC.wv {f:FuncId} {vs args:List V} {q:Pa} {R:V->M->Prop} (hv:vs.map V.weak1=args) (h:SC P f args q m R):SC P f vs q m R:=SC.weak (hv ▸ h)
theorem eD {f:FuncId} {fn:Func} {body:Code} {args:List V} {q:Pa} {R:V->M->Prop} (hf:P.funcs[f]? = some fn) (hen:∀(xs:Array Value) (w:World),(callFunc f xs).run P w=.ok (.enter f xs) w) {N:Nat} (hN:fn.ntmps=N) {rs:Array ResultVar} (hrs:fn.results=rs)
  (h:SW P N q body 0 (Rw args) m fun e _ E' m'=>(e=.ret ∨ e=.normal)/\Gr P E' m' rs.toList fun r=>R r.weak (m.back q m')) (hb:fn.body=some body:=by rfl) (hfit:BH N body=true:=by kernel_rfl):SC P f args q m R:=SC_w hf hb hen hN hfit hrs h
theorem SC.ap {p:Pa} {f:FuncId} {args:List V} {q:Pa} {R:V->M->Prop} {cs:List V} (hm:m.blk p=some cs) (h:¬ q <:+ p->m.set p cs=m->SC P f args q m R):SC P f args q m R:=SC.apart hm fun hp=>h hp (nD hm)
def o0:List Nat->List (Nat × Nat)
 | []=>[]
 | a::l=>(a,0)::o0 l
@[go_sem] theorem o0_nil:o0 []=[]:=rI rfl
@[go_sem] theorem o0_cons {a:Nat} {l:List Nat}:o0 (a::l)=(a,0)::o0 l:=rI rfl
end
end Go.Proofs.YtncembphlfbgoaaGreatDoor.Abs
