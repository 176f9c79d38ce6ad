/-
 vB helper theorems of no one function: rules for written walks (where ways meet, loops, drawn regions, calls), and the cells of plain data.
-/
import Derived.Test.YtncembphlfbgoaaDoorCFA21
import Derived.Lib.Bytealg
namespace Go.Proofs.YtncembphlfbgoaaDoor.Abs
open Go.RowKit
def xI:List Nat->dK->dK
 | [],E=>E
 | t::ts,E=>xI ts (zX E t (E t).weak1)
@[go_sem] theorem weakE_nil {E:dK}:xI [] E=E:=_root_.id rfl
theorem By:∀ {ts:List Nat} {E:dK} {t:Nat},t ∉ ts->xI ts E t=E t:=by
 intro ts
 induction ts with
 | nil=>intro E t _;rfl
 | cons s ts ih=>
   intro E t h;rw [xI,ih (fun hm=>h (List.mem_cons_of_mem _ hm))];show (if t=s then _ else E t)=E t;rw [if_neg (fun e=>h (by rw [e];exact List.mem_cons_self))]
theorem fK.weakE {c:Conc} {a:Act} {N:Nat}:∀ {ts:List Nat} {E:dK},fK c E a N->fK c (xI ts E) a N:=by
 intro ts
 induction ts with
 | nil=>intro E h;exact h
 | cons s ts ih=>
   intro E h;refine ih ⟨h.size,fun t=>?_⟩;show CR c [if t=s then (E s).weak1 else E t] _
   split
   ·rename_i e;subst e;exact V.weak1_ok (h.fC t)
   ·exact h.fC t
def nW:List (Pa × Nat)->M->M
 | [],m=>m
 | x::us,m=>nW us (sD (m.blk x.1) m x.1 x.2)
@[go_sem] theorem unselfs_nil {m:M}:nW [] m=m:=_root_.id rfl
@[go_sem] theorem unselfs_cons {id:Pa} {off:Nat} {us:List (Pa × Nat)} {m:M}:nW ((id,off)::us) m=nW us (sD (m.blk id) m id off):=_root_.id rfl
theorem GI {m:M} {id:Pa} {off:Nat}:sD (m.blk id) m id off=m.unself id off:=(Hv (j:=0)).symm
theorem dL.unselfs {c:Conc} {w:World}:∀ {us:List (Pa × Nat)} {m:M},dL c m w->dL c (nW us m) w/\∀q,iG q c m w c (nW us m) w:=by
 intro us
 induction us with
 | nil=>intro m h;exact ⟨h,fun q=>.refl q c m w⟩
 | cons x us ih=>
   intro m h;obtain ⟨h1,h2,_⟩:=h.unself x.1 x.2;have e:sD (m.blk x.1) m x.1 x.2=m.unself x.1 x.2:=GI;show dL c (Abs.nW us (sD (m.blk x.1) m x.1 x.2)) w/\_;rw [e];obtain ⟨h3,h4⟩:=ih h1;refine ⟨h3,fun q=>?_⟩;show iG q c m w c (Abs.nW us (sD (m.blk x.1) m x.1 x.2)) w;rw [e];exact (h2 q).trans (h4 q)
section
variable {P:Program} {N:Nat} {π:Pa} {k:Nat} {E:dK} {m:M} {Q:Exit->Nat->dK->M->Prop} {f:FuncId} {args:List V} {q:Pa} {R:V->M->Prop}
theorem EY {x:Code} {ts:List Nat} (hts:ts.all (wr x)=true) {t:Nat} (ht:wr x t=false):t ∉ ts:=fun hm=>by
 have:=List.all_eq_true.1 hts t hm;rw [ht] at this;cases this
theorem cZ {x:Code} (K0:Nat) (ts:List Nat) (us:List (Pa × Nat)) (hts:ts.all (wr x)=true) (J:dK->M->Prop) (h:SW P N π x k E m (tX (fun k' E' m'=>k'<=K0/\J (xI ts E') (nW us m')) Q))
  (h2:∀E' m',J E' m'->(∀t,wr x t=false->E' t=E t)->Q .normal K0 E' m'):SW P N π x k E m Q:=by
 intro hf c a w g1 g2 g3;refine wp_mono (h hf c a w g1 g2 g3) fun e a' w' hp=>?_;obtain ⟨c',k',E',m',q1,q2,q3,q4,q5,q6,q7⟩:=hp;cases e with
 | normal=>
   obtain ⟨hk,hJ⟩:=q1;obtain ⟨r1,r2⟩:=q2.unselfs (us:=us);have hfr:∀t,wr x t=false->xI ts E' t=E t:=fun t ht=>(By (EY hts ht)).trans (q7 t ht);exact ⟨c',K0,xI ts E',nW us m',h2 _ _ hJ hfr,r1,q3.trans (r2 π),q4.weakE,q5.le hk,q6,hfr⟩
 | _=>exact ⟨c',k',E',m',q1,q2,q3,q4,q5,q6,q7⟩
theorem JJ {x:Code} {ts:List Nat} {us:List (Pa × Nat)} (hts:ts.all (wr x)=true) (h:SW P N π x k (xI ts E) (nW us m) Q):SW P N π x k E m Q:=by
 intro hf c a w g1 g2 g3;obtain ⟨r1,r2⟩:=g1.unselfs (us:=us);refine wp_mono (h hf c a w r1 g2.weakE g3) fun e a' w' hp=>?_;obtain ⟨c',k',E',m',q1,q2,q3,q4,q5,q6,q7⟩:=hp;exact ⟨c',k',E',m',q1,q2,(r2 π).trans q3,q4,q5,q6,fun t ht=>(q7 t ht).trans (By (EY hts ht))⟩
theorem dE {body:Code} (ts:List Nat) (us:List (Pa × Nat)) (hts:ts.all (wr body)=true) (zL:Nat->dK->M->Prop) (c0:Nat) (h0:zL c0 (xI ts E) (nW us m))
  (step:∀(i c:Nat) (E':dK) (m':M),zL c E' m'->(∀t,wr body t=false->E' t=E t)->SW P N (i::k::π) body 0 E' m' (tX (fun _ E2 m2=>∃c',c'<c/\zL c' (xI ts E2) (nW us m2)) fun e _ E2 m2=>Q e (k+1) E2 m2)) :
  SW P N π (.loop body) k E m Q:=by
 refine JL (fun c E m=>zL c (xI ts E) (nW us m)) c0 h0 fun i c E' m' hI hf=>?_;exact JJ hts (step i c _ _ hI fun t ht=>(By (EY hts ht)).trans (hf t ht))
theorem EK {op:Op} {o:Oper} {fn:Nat} {hist:List M} {C C':V->M->List M->Prop} (h:dop P op o fn q hist E m C) (hC:∀v m h,C v m h->C' v m h):dop P op o fn q hist E m C':=by
 cases op with
 | load T x=>obtain ⟨v,h1,h2,h3⟩:=h;exact ⟨v,h1,h2,hC _ _ _ h3⟩
 | alloc T=>obtain ⟨v,h1,h2⟩:=h;exact ⟨v,h1,hC _ _ _ h2⟩
 | box T x=>exact ⟨h.1,hC _ _ _ h.2⟩
 | _=>
   simp only [dop] at h ⊢
   first
    | (obtain ⟨v,m',h1,h2,h3⟩:=h;exact ⟨v,m',h1,h2,hC _ _ _ h3⟩)
    | (split at h
       ·rename_i he;rw [if_pos he];obtain ⟨v,m',h1,h2,h3⟩:=h;exact ⟨v,m',h1,h2,hC _ _ _ h3⟩
       ·rename_i he;rw [if_neg he];obtain ⟨v,h1,h2⟩:=h;exact ⟨v,h1,hC _ _ _ h2⟩)
theorem PD_K {full:List Oper} {K K':Nat->dK->M->Prop} (hK:∀E m,K (k+full.length) E m->K' (k+full.length) E m):∀ {ord:List (Nat × Nat)} {hist:List M} {E:dK} {m:M},PD P full π k K ord hist E m->PD P full π k K' ord hist E m:=by
 intro ord
 induction ord with
 | nil=>intro hist E m h;exact hK E m h
 | cons x rest ih=>
   obtain ⟨i,fn⟩:=x;intro hist E m h;unfold PD at h ⊢
   split
   ·rename_i ho;rw [ho] at h;exact h
   ·rename_i o ho;rw [ho] at h;simp only at h ⊢
    split
    ·rename_i hg;rw [hg] at h;exact EK h fun v m' hist'=>ih
    ·rename_i j b hg;rw [hg] at h;simp only at h ⊢
     split
     ·rename_i hd;rw [hd] at h;exact h
     ·rename_i d hd;rw [hd] at h;simp only at h ⊢
      split
      ·rename_i t ht;rw [ht] at h;simp only at h
       split
       ·rename_i hb;rw [if_pos hb] at h;exact EK h fun v m' hist'=>ih
       ·rename_i hb;rw [if_neg hb] at h;exact ih h
      ·rename_i ht;rw [ht] at h;exact ih h
      ·rename_i h1 h2
       revert h
       split
       ·rename_i t ht;exact absurd ht (h1 t)
       ·rename_i t ht;exact absurd ht (h2 t)
       ·exact _root_.id
theorem bW {id:Nat} {ops:List Oper} {tbl:List Nat} {ord:List (Nat × Nat)} (k2:Nat) (hk:k+ops.length=k2) (hm:P.follows .mixedOrders=true) (hc:dOk ops tbl ord=true)
  (h:∀K:dK->M->Prop,(∀E m,Q .normal k2 E m->K E m)->PD P ops π k (fun _ E m=>K E m) ord [] E m):SW P N π (.region id ops.toArray true) k E m Q:=by
 subst hk;refine SW_draw (tbl:=tbl) (ord:=ord) hm (by rw [List.toList_toArray];exact hc) ?_;rw [List.toList_toArray];exact PD_K (K:=fun _ E m=>Q .normal (k+ops.length) E m) (fun _ _ x=>x) (h (fun E m=>Q .normal (k+ops.length) E m) fun _ _ x=>x)
theorem SC.weak (h:SC P f (args.map V.weak1) q m R):SC P f args q m R:=fun c xs w h1 h2 h3=>h c xs w h1 (DQ h2) h3
end
def cI (k:IntKind) (x:Int):List V:=[.lit (.int k x)]
def cS (s:cD):List V:=[.lit (.string (bs s))]
def cA {α:Type} (f:α->List V) (l:List α):List V:=l.flatMap f
@[go_sem] theorem cS_eq {s:cD}:cS s=[.lit (.string (bs s))]:=_root_.id rfl
def Bp (k:IntKind) (a b:Int):Int:=k.wrap (BitVec.ofInt k.bits a &&& BitVec.ofInt k.bits b).toNat
def orK (k:IntKind) (a b:Int):Int:=k.wrap (BitVec.ofInt k.bits a ||| BitVec.ofInt k.bits b).toNat
section
variable {P:Program} {T:TypeId} {x y:Operand} {C:V->Prop} {kk k2:IntKind} {a b:Int} {c:Bool}
@[go_sem high] theorem sbin_andK:nK P .and T x y (.lit (.int kk a)) (.lit (.int kk b)) C=C (.lit (.int kk (Bp kk a b))):=by simp [nK,Bp]
@[go_sem high] theorem sbin_orK:nK P .or T x y (.lit (.int kk a)) (.lit (.int kk b)) C=C (.lit (.int kk (orK kk a b))):=by simp [nK,orK]
@[go_sem high] theorem sun_not:sun .not (.lit (.bool c)) C=C (.lit (.bool (!c))):=_root_.id rfl
end
end Go.Proofs.YtncembphlfbgoaaDoor.Abs
namespace Go.Proofs.YtncembphlfbgoaaDoor.Abs
open Go.RowKit
theorem zJ {α:Type} {f:α->List V} {s:Nat}:∀ {l:List α} {i:Nat} {x:α},(∀x ∈ l,(f x).length=s)->l[i]? = some x->∃rest,(cA f l).drop (i*s)=f x++rest:=by
 intro l
 induction l with
 | nil=>intro i x _ h;cases h
 | cons y l ih=>
   intro i x hf h;have hy:=hf y (by simp);cases i with
   | zero=>
     obtain rfl:y=x:=by simpa using h
     exact ⟨cA f l,by simp [cA]⟩
   | succ i=>
     obtain ⟨rest,hr⟩:=ih (fun z hz=>hf z (by simp [hz])) (by simpa using h);refine ⟨rest,?_⟩;rw [←hr];show List.drop ((i+1)*s) (f y++cA f l)=_;rw [List.drop_append,List.drop_of_length_le (by rw [hy,Nat.succ_mul];omega),hy,Nat.succ_mul,show i*s+s - s=i*s by omega,List.nil_append]
theorem cF {q p:Pa} (hp:¬ q <:+ p):(∀a,(a::q=p)=False)/\∀a,(p=a::q)=False:=⟨fun _=>pa1 hp,fun _=>pb1 hp⟩
theorem fZ {q p:Pa} (hp:¬ q <:+ p):(∀a,(a::q=p)=False)/\(∀a,(p=a::q)=False)/\(∀a b c,(a::b::c::q=p)=False)/\∀a b c,(p=a::b::c::q)=False:=⟨fun _=>pa1 hp,fun _=>pb1 hp,fun _ _ _=>pa3 hp,fun _ _ _=>pb3 hp⟩
theorem Jv {α:Type} {f:α->List V} {s:Nat} (l:List α) (h:l.all (fun x=>(f x).length == s)=true):∀x ∈ l,(f x).length=s:=fun x hx=>by simpa using List.all_eq_true.1 h x hx
theorem cA_one {l:List cD} {n:Nat} (h:(cA cS l).length=n):l.length=n:=by
 rw [←h];clear h
 induction l with
 | nil=>rfl
 | cons x l ih=>show l.length+1=(cS x++cA cS l).length;rw [List.length_append,←ih];simp [cS];omega
theorem gN {α:Type} {x:Option α} {r:α} {p:Prop} (h:x=some r) (hx:x=none:=by rfl):p:=by rw [hx] at h;cases h
@[go_sem] theorem bs_empty:ByteArray.empty=bs []:=by rfl
@[go_sem] theorem cA_sh_S {l:List cD}:(cA cS l).map V.shared=cA cS l:=by
 induction l with
 | nil=>rfl
 | cons x l ih=>show List.map V.shared (cS x++cA cS l)=cS x++cA cS l;rw [List.map_append,ih];rfl
theorem no_self {a b:Nat} {q:Pa} (h:a::b::q=q):False:=by have:=congrArg List.length h;simp at this;omega
@[go_sem] theorem p02 {a b:Nat} {q:Pa}:(q=a::b::q)=False:=eq_false fun h=>no_self h.symm
@[go_sem] theorem p04 {a b c d:Nat} {q:Pa}:(q=a::b::c::d::q)=False:=eq_false fun h=>by have:=congrArg List.length h;simp at this;omega
attribute [go_sem] ne_eq not_false_eq_true Hw List.length_append List.map_append List.cons.injEq and_false false_and Int.cast_ofNat_Int Nat.sub_zero Nat.one_mul Bool.false_eq_true Nat.mul_one Nat.zero_add Nat.add_zero
@[go_sem] theorem weak1_fn {f:Fn} {xs ys:List V}:V.weak1 (.fn f xs ys)=.fn f xs ys:=_root_.id rfl
section
variable {P:Program} {C:V->Prop} {rows:List (List V)} {i off n:Nat} {e:TypeId} {lo hi:Option V}
def slC:Option Int->Option Int->Option Nat->Option (List V)->Nat->Nat->(V->Prop)->Prop
 | some l,some h,some s,some r,n,off,C=>0<s/\0<=l/\l<=h/\h<=n/\n<=1073741824/\off+n*s<=r.length/\C (.list .none (uA s (h.toNat - l.toNat) (r.drop (off+l.toNat*s))))
 | _,_,_,_,_,_,_=>False
@[go_sem] theorem slU_e:Fb P (.ar n e) (.eptr rows i off) lo hi C=slC (iE lo 0) (iE hi n) (cB P e) rows[i]? n off C:=by
 unfold Fb slC;simp only;cases iE lo 0 <;> cases iE hi n <;> cases cB P e <;> cases rows[i]? <;> rfl
@[go_sem] theorem slC_some {l h:Int} {s:Nat} {r:List V}:slC (some l) (some h) (some s) (some r) n off C=(0<s/\0<=l/\l<=h/\h<=n/\n<=1073741824/\off+n*s<=r.length/\C (.list .none (uA s (h.toNat - l.toNat) (r.drop (off+l.toNat*s))))):=_root_.id rfl
end
theorem ud_sl {P:Program} {T e:TypeId} (h:ud P T=.sl e):P.underlying T=some (.slice e):=by
 unfold ud at h;cases hu:P.underlying T with
 | none=>rw [hu] at h;cases h
 | some d=>rw [hu] at h;cases d <;> first | (cases h;done) | (injection h with h;rw [h])
@[go_sem] theorem cvU_ll {P:Program} {T e:TypeId} {rows:List (List V)} {C:V->Prop} (h1:ud P T=.sl e) (h2:ud P e=.int .u8):cvU P T T (.sl e) (.sl e) (.list .exact rows) C=(rows ≠ []/\C (.list .exact rows)):=by
 show sC P T T (.list .exact rows) C=_;have hu:=ud_sl h1;have h3:P.underlying e=some (.int .u8):=by rw [ud_u8];exact h2
 unfold sC;rw [hu];simp only [h3,true_and]
@[go_sem] theorem byteRows_nil:lN []=[]:=_root_.id rfl
@[go_sem] theorem byteRows_cons {x:UInt8} {l:cD}:lN (x::l)=[.lit (.int .u8 (x.toNat:Int))]::lN l:=_root_.id rfl
section
variable {P:Program} {T:TypeId} {x y:Operand} {C:V->Prop} {a b:Bool} {k:IntKind} {i j:Int}
theorem Ab {α β:Type} {s:Sem α} {f:α->Sem β} {r:α} (h:rK P s=some r):rK P (s >>= f)=rK P (f r):=by
 induction s with
 | pure a=>simp only [rK,Option.some.injEq] at h;subst h;rfl
 | program k ih=>exact ih P h
 | _=>cases h
theorem FI (hT:P.underlying T=some .bool):rK P (Op.equal T (.bool a) (.bool b))=some (a == b):=by
 have hu:rK P (underlying T)=some TypeDesc.bool:=by
  show rK P (match P.underlying T with | some d=>pure d | none=>stuck _)=_;rw [hT];rfl
 show rK P (Op.equalIn (9999+1) T (.bool a) (.bool b))=_;unfold Op.equalIn;rw [Ab hu];rfl
@[go_sem high] theorem sbin_bneq (hT:P.underlying T=some .bool):nK P .neq T x y (.lit (.bool a)) (.lit (.bool b)) C=C (.lit (.bool (a != b))):=by
 have:rK P (do eqGuard .neq T x y (.bool a) (.bool b);binOp .neq T (.bool a) (.bool b))=some (.bool (a != b)):=by
  have h1:rK P (eqGuard .neq T x y (.bool a) (.bool b))=some ():=rfl;rw [Ab h1];show rK P (do pure (Value.bool (!(←Op.equal T (.bool a) (.bool b)))))=_;rw [Ab (FI hT)];rfl
 apply propext;show (∃r,rK P _=some r/\C (.lit r)) ↔ _;rw [this];exact ⟨fun ⟨r,h,hc⟩=>by injection h with h;rw [h];exact hc,fun hc=>⟨_,rfl,hc⟩⟩
@[go_sem] theorem sminmax_max:mH true (.lit (.int k i)) (.lit (.int k j)) C=C (.lit (.int k (max i j))):=by simp [mH]
@[go_sem] theorem sminmax_min:mH false (.lit (.int k i)) (.lit (.int k j)) C=C (.lit (.int k (min i j))):=by simp [mH]
end
theorem wD {P:Program} {N:Nat} {π:Pa} {k:Nat} {E:dK} {m:M} {Q:Exit->Nat->dK->M->Prop} {x:Code} (t:Nat) (rows:List (List V)) (ht:wr x t=true) (he:E t=.list .exact rows)
  (h:SW P N π x (k+1) (zX E t (.list (.st (.anon (k::π) 0)) rows)) (m.tokset (k::π) 0 true) Q):SW P N π x k E m Q:=by
 intro hf c a w g1 g2 g3;have hq:dO c (k::π):=g3.fC.fC;obtain ⟨c',hc'⟩:∃c':Conc,c'={ c with κ:=fun s=>if s=.anon (k::π) 0 then some .full else c.κ s }:=⟨_,rfl⟩;have hκ:∀s,c'.κ s=if s=.anon (k::π) 0 then some .full else c.κ s:=by intro s;rw [hc']
 have hρ:c'.ρ=c.ρ:=by rw [hc']
 have hG:c'.G=c.G:=by rw [hc']
 have hlit:c'.lit=c.lit:=by rw [hc']
 have hbase:c'.base=c.base:=by rw [hc']
 have hle:Le c c':=⟨hbase,fun b h=>by rw [hlit];exact h,fun i b h=>by rw [hρ];exact h,fun s i hk=>by
  rw [hκ];split
  ·rename_i e;rw [e,hq.2.1 0] at hk;cases hk
  ·exact hk,fun b o v h=>by rw [hG];exact h⟩
 clear hc';have hblk:∀i,(m.tokset (k::π) 0 true).blk i=m.blk i:=fun _=>rfl;have htok:∀i j,(m.tokset (k::π) 0 true).tok i j=if i=(k::π)/\j=0 then true else m.tok i j:=fun _ _=>rfl
 have harr:∀s b cap sz len,c'.κ s=some (.arr b cap sz len)->s ≠ .anon (k::π) 0/\c.κ s=some (.arr b cap sz len):=by
  intro s b cap sz len hk;rw [hκ] at hk
  split at hk
  ·cases hk
  ·rename_i hne;exact ⟨hne,hk⟩
 have hlive:∀s,s ≠ .anon (k::π) 0->eI (m.tokset (k::π) 0 true) s=true->eI m s=true:=by
  intro s hne hl;cases s with
  | anon i j=>
    have hl':(m.tokset (k::π) 0 true).tok i j=true:=hl;rw [htok,if_neg (by rintro ⟨rfl,rfl⟩;exact hne rfl)] at hl';exact hl'
  | cell i o v=>exact hl
  | priv b=>exact hl
 have hown:∀b,fB c' (m.tokset (k::π) 0 true) b->fB c m b:=by
  rintro b (⟨id,dD,hr⟩ | ⟨s,cap,sz,len,hl,hk⟩)
  ·exact .inl ⟨id,dD,by rw [←hρ];exact hr⟩
  ·obtain ⟨h1,h2⟩:=harr _ _ _ _ _ hk;exact .inr ⟨s,cap,sz,len,hlive s h1 hl,h2⟩
 have hR:dL c' (m.tokset (k::π) 0 true) w:=by
  refine ⟨by rw [hG];exact g1.com,fun id vs hv=>?_,fun id id' b hi hi' hr hr'=>g1.inj id id' b hi hi' (by rw [←hρ];exact hr) (by rw [←hρ];exact hr'),fun s b cap sz len hl hk=>?_,fun s s' b cap sz len cap' sz' len' hl hl' hk hk'=>?_,fun id off v hb hv=>?_,fun g=>(g1.gl g).mono hle,fun id dD=>?_,by rw [hbase];exact g1.base,fun b hb=>?_,fun b vs hv=>?_⟩
  ·obtain ⟨b,cs,t',k1,k2,k3,k4,k5⟩:=g1.blk id vs hv;exact ⟨b,cs,t',by rw [hρ];exact k1,k2,k3.mono hle,by rw [hG];exact k4,k5⟩
  ·obtain ⟨h1,h2⟩:=harr _ _ _ _ _ hk;obtain ⟨k1,k2,k3,k4⟩:=g1.own s b cap sz len (hlive s h1 hl) h2;exact ⟨k1,fun o ho=>by rw [hG];exact k2 o ho,fun id dD=>by rw [hρ];exact k3 id dD,k4⟩
  ·obtain ⟨h1,h2⟩:=harr _ _ _ _ _ hk;obtain ⟨h3,h4⟩:=harr _ _ _ _ _ hk';exact g1.ownInj s s' b cap sz len cap' sz' len' (hlive s h1 hl) (hlive s' h3 hl') h2 h4
  ·rw [hκ,if_neg (by rintro ⟨⟩)];exact g1.ver id off v hb hv
  ·have hf':=dD.anti hle;refine ⟨(g1.ver0 id hf').1,fun j=>?_⟩;rw [htok,if_neg]
   ·exact (g1.ver0 id hf').2 j
   ·rintro ⟨rfl,rfl⟩;have:=dD.2.1 0;rw [hκ,if_pos rfl] at this;cases this
  ·rw [hlit] at hb;refine ⟨by rw [hbase];exact (g1.lit b hb).1,(g1.lit b hb).2.1,fun ho=>(g1.lit b hb).2.2 (hown b ho)⟩
  ·exact (g1.hpr b vs hv).mono hle fun _ _ _ _ _ hB=>hB
 have hfr1:∀id,¬ (k::π) <:+ id->dO c id->dO c' id:=by
  intro id dD hf';refine ⟨by rw [hρ];exact hf'.1,fun i=>?_,fun off v=>?_,by rw [hκ,if_neg (by rintro ⟨⟩)];exact hf'.2.2.2⟩
  ·rw [hκ,if_neg]
   ·exact hf'.2.1 i
   ·intro e;injection e with e1 e2;exact dD (e1 ▸ List.suffix_refl _)
  ·rw [hκ,if_neg (by rintro ⟨⟩)];exact hf'.2.2.1 off v
 have hX:iG (k::π) c m w c' (m.tokset (k::π) 0 true) w:=by
  refine ⟨hle,rfl,rfl,rfl,Nat.le_refl _,fun _ _ _ _=>rfl,fun b _ _ o=>by rw [hG],fun b _ ho=>hown b ho,hfr1,fun id dD hb=>?_,fun b _ hb=>by rw [hlit] at hb;exact hb⟩;refine ⟨hb.blk,fun i=>?_,fun off v=>?_,hb.ver,fun j=>?_⟩
  ·rw [hκ,if_neg]
   ·exact hb.anon i
   ·intro e;injection e with e1 e2;exact dD (e1 ▸ List.suffix_refl _)
  ·rw [hκ,if_neg (by rintro ⟨⟩)];exact hb.cell off v
  ·rw [htok,if_neg]
   ·exact hb.tok j
   ·rintro ⟨rfl,_⟩;exact dD (List.suffix_refl _)
 have hE:fK c' (zX E t (.list (.st (.anon (k::π) 0)) rows)) a N:=by
  refine ⟨g2.size,fun t'=>?_⟩;show CR c' [if t'=t then _ else E t'] _
  split
  ·rename_i e;subst e;have h0:=(g2.fC t').mono hle;rw [he] at h0;obtain ⟨x',cap,es,sz,e1,k1,k2,kz,k3,k4,k5,k6,kc,k7⟩:=h0.inv_list;rw [e1];exact .list k1 k2 kz k3 k4 k5 k6 kc (.inl ⟨by rw [hκ,if_pos rfl],k7.1⟩) .nil
  ·exact (g2.fC t').mono hle
 refine wp_mono (h hf c' a w hR hE (hX.freshK g3)) fun e a' w' hp=>?_;obtain ⟨c2,k',E',m',q1,q2,q3,q4,q5,q6,q7⟩:=hp;refine ⟨c2,k',E',m',q1,q2,hX.up.trans q3,q4,q5,q6,fun t' ht'=>?_⟩;rw [q7 t' ht'];show (if t'=t then _ else E t')=E t';rw [if_neg];rintro rfl;rw [ht] at ht';cases ht'
end Go.Proofs.YtncembphlfbgoaaDoor.Abs
namespace Go.Proofs.YtncembphlfbgoaaDoor.Abs
open Go.RowKit
section
variable {P:Program} {c c':Conc} {m m' m0 m1 m2:M} {w w':World} {q p:Pa}
theorem dL.less (h:dL c m' w) (hb:∀id vs,m2.blk id=some vs->m'.blk id=some vs/\m2.ver id=m'.ver id) (ht:∀id j,m2.tok id j=true->m'.tok id j=true) (hg:m2.gl=m'.gl)
  (h0:∀id,dO c id->(∀off,m2.ver id off=0)/\∀j,m2.tok id j=false) (hhp:m2.hp=m'.hp:=by rfl):dL c m2 w/\∀b,fB c m2 b->fB c m' b:=by
 have hbn:∀id,m2.blk id ≠ none->m'.blk id ≠ none/\m2.ver id=m'.ver id:=by
  intro id dD;obtain ⟨vs,hv⟩:∃vs,m2.blk id=some vs:=by cases hx:m2.blk id with | none=>exact absurd hx dD | some vs=>exact ⟨vs,rfl⟩
  obtain ⟨h1,h2⟩:=hb id vs hv;exact ⟨by rw [h1];simp,h2⟩
 have hlive:∀s,eI m2 s=true->eI m' s=true:=by
  intro s hl;cases s with
  | anon i j=>exact ht i j hl
  | priv b=>
    have hl':(m2.hp b).isSome=true:=hl;rw [hhp] at hl';exact hl'
  | cell i off v=>
    obtain ⟨h1,vs,rows,h2,h3⟩:=nE hl;obtain ⟨h4,h5⟩:=hb i vs h2;rw [h5] at h1;exact mW h1 h4 h3
 have hown:∀b,fB c m2 b->fB c m' b:=by
  rintro b (⟨id,dD,hr⟩ | ⟨s,cap,sz,len,hl,hk⟩)
  ·exact .inl ⟨id,(hbn id dD).1,hr⟩
  ·exact .inr ⟨s,cap,sz,len,hlive s hl,hk⟩
 refine ⟨⟨h.com,fun id vs hv=>?_,fun id id' b hi hi'=>h.inj id id' b (hbn id hi).1 (hbn id' hi').1,fun s b cap sz len hl hk=>?_,fun s s' b cap sz len cap' sz' len' hl hl'=>h.ownInj s s' b cap sz len cap' sz' len' (hlive s hl) (hlive s' hl'),fun id off v hi hv=>?_,fun g=>by rw [hg];exact h.gl g,h0,h.base,fun b hl=>⟨(h.lit b hl).1,(h.lit b hl).2.1,fun ho=>(h.lit b hl).2.2 (hown b ho)⟩,fun b vs hv=>h.hpr b vs (by rw [←hhp];exact hv)⟩,hown⟩
 ·obtain ⟨h1,h2⟩:=hb id vs hv;obtain ⟨b,cs,t,k1,k2,k3,k4,k5⟩:=h.blk id vs h1;exact ⟨b,cs,t,k1,k2,by rw [h2];exact k3,k4,k5⟩
 ·obtain ⟨k1,k2,k3,k4⟩:=h.own s b cap sz len (hlive s hl) hk;exact ⟨k1,k2,fun id dD=>k3 id (hbn id dD).1,k4⟩
 ·obtain ⟨h1,h2⟩:=hbn id hi;rw [h2] at hv;exact h.ver id off v h1 hv
theorem dL.backT {id:Pa} {j:Nat} (h:dL c m w) (hf:jU c q) (h':dL c' m' w') (ht:m'.tok id j=true) (hq:q <:+ id) :
  dL c' ((m.back q m').tokset id j true) w'/\∀b,fB c' ((m.back q m').tokset id j true) b->fB c' m' b:=by
 have hsub:∀i,q.isSuffixOf i=true->m.blk i=none/\(∀off,m.ver i off=0)/\∀j,m.tok i j=false:=by
  intro i hi;have hf':=hf i (List.isSuffixOf_iff_suffix.1 hi);exact ⟨h.fresh_blk hf',(h.ver0 i hf').1,(h.ver0 i hf').2⟩
 have hblk:∀i,((m.back q m').tokset id j true).blk i=if q.isSuffixOf i then m.blk i else m'.blk i:=fun _=>rfl;have hver:∀i,((m.back q m').tokset id j true).ver i=if q.isSuffixOf i then m.ver i else m'.ver i:=fun _=>rfl;have htok:∀i k,((m.back q m').tokset id j true).tok i k=if i=id/\k=j then true else (if q.isSuffixOf i then m.tok i else m'.tok i) k:=fun _ _=>rfl;have hqs:=List.isSuffixOf_iff_suffix.2 hq;refine h'.less (fun i vs hv=>?_) (fun i k hk=>?_) rfl (fun i hi=>⟨fun off=>?_,fun k=>?_⟩)
 ·rw [hblk] at hv;rw [hver];cases hs:q.isSuffixOf i with
  | true=>rw [if_pos hs,(hsub i hs).1] at hv;cases hv
  | false=>rw [if_neg (by simp [hs])] at hv ⊢;exact ⟨hv,rfl⟩
 ·rw [htok] at hk
  split at hk
  ·rename_i e;rw [e.1,e.2];exact ht
  ·split at hk
   ·rename_i hs;rw [(hsub i hs).2.2 k] at hk;cases hk
   ·exact hk
 ·rw [hver]
  split
  ·rename_i hs;exact (hsub i hs).2.1 off
  ·exact (h'.ver0 i hi).1 off
 ·rw [htok,if_neg]
  ·split
   ·rename_i hs;exact (hsub i hs).2.2 k
   ·exact (h'.ver0 i hi).2 k
  ·rintro ⟨rfl,rfl⟩;rw [(h'.ver0 i hi).2 k] at ht;cases ht
theorem dL.give (h:dL c m1 w) (hf:dO c p) (hX:iG p c m0 w c m1 w) (info:DK)
  (hin:∀b cap sz len,info=.arr b cap sz len->(∃cs t,rG w b t cs/\cs.size=cap*sz)/\(∀o,len*sz<=o->c.G b o=none)/\(∀id,m1.blk id ≠ none->c.ρ id ≠ some b)/\len<=cap/\0<sz ∧
    (∀s cap' sz' len',eI m1 s=true->c.κ s ≠ some (.arr b cap' sz' len'))/\fB c m0 b/\¬ c.lit b) :
  ∃c',c'.κ (.anon p 0)=some info/\Le c c'/\dL c' (m1.tokset p 0 true) w/\iG p c m0 w c' (m1.tokset p 0 true) w:=by
 obtain ⟨c',hc'⟩:∃c':Conc,c'={ c with κ:=fun s=>if s=.anon p 0 then some info else c.κ s }:=⟨_,rfl⟩;have hκ:∀s,c'.κ s=if s=.anon p 0 then some info else c.κ s:=by intro s;rw [hc']
 have hρ:c'.ρ=c.ρ:=by rw [hc']
 have hG:c'.G=c.G:=by rw [hc']
 have hlit:c'.lit=c.lit:=by rw [hc']
 have hbase:c'.base=c.base:=by rw [hc']
 have hle:Le c c':=⟨hbase,fun b h=>by rw [hlit];exact h,fun i b h=>by rw [hρ];exact h,fun s i hk=>by
  rw [hκ];split
  ·rename_i e;rw [e,hf.2.1 0] at hk;cases hk
  ·exact hk,fun b o v h=>by rw [hG];exact h⟩
 clear hc';have htok:∀i j,(m1.tokset p 0 true).tok i j=if i=p/\j=0 then true else m1.tok i j:=fun _ _=>rfl
 have hlive:∀s,s ≠ .anon p 0->eI (m1.tokset p 0 true) s=true->eI m1 s=true:=by
  intro s hne hl;cases s with
  | anon i j=>
    have hl':(m1.tokset p 0 true).tok i j=true:=hl;rw [htok,if_neg (by rintro ⟨rfl,rfl⟩;exact hne rfl)] at hl';exact hl'
  | cell i o v=>exact hl
  | priv b=>exact hl
 have hold:∀s b cap sz len,s ≠ .anon p 0->c'.κ s=some (.arr b cap sz len)->c.κ s=some (.arr b cap sz len):=by
  intro s b cap sz len hne hk;rw [hκ,if_neg hne] at hk;exact hk
 have hown:∀b,fB c' (m1.tokset p 0 true) b->fB c m0 b ∨ fB c m1 b:=by
  rintro b (⟨id,dD,hr⟩ | ⟨s,cap,sz,len,hl,hk⟩)
  ·exact .inr (.inl ⟨id,dD,by rw [←hρ];exact hr⟩)
  ·by_cases hs:s=.anon p 0
   ·rw [hκ,if_pos hs] at hk
    injection hk with hk
    exact .inl (hin _ _ _ _ hk).2.2.2.2.2.2.1
   ·exact .inr (.inr ⟨s,cap,sz,len,hlive s hs hl,hold _ _ _ _ _ hs hk⟩)
 refine ⟨c',by rw [hκ,if_pos rfl],hle,?_,?_⟩
 ·refine ⟨by rw [hG];exact h.com,fun id vs hv=>?_,fun id id' b hi hi' hr hr'=>h.inj id id' b hi hi' (by rw [←hρ];exact hr) (by rw [←hρ];exact hr'),fun s b cap sz len hl hk=>?_,fun s s' b cap sz len cap' sz' len' hl hl' hk hk'=>?_,fun id off v hb hv=>?_,fun g=>(h.gl g).mono hle,fun id dD=>?_,by rw [hbase];exact h.base,fun b hb=>?_,fun b vs hv=>?_⟩
  ·obtain ⟨b,cs,t',k1,k2,k3,k4,k5⟩:=h.blk id vs hv;exact ⟨b,cs,t',by rw [hρ];exact k1,k2,k3.mono hle,by rw [hG];exact k4,k5⟩
  ·by_cases hs:s=.anon p 0
   ·rw [hκ,if_pos hs] at hk
    injection hk with hk
    obtain ⟨k1,k2,k3,k4,k5,_⟩:=hin _ _ _ _ hk;exact ⟨k1,fun o ho=>by rw [hG];exact k2 o ho,fun id dD=>by rw [hρ];exact k3 id dD,k4,k5⟩
   ·obtain ⟨k1,k2,k3,k4⟩:=h.own s b cap sz len (hlive s hs hl) (hold _ _ _ _ _ hs hk);exact ⟨k1,fun o ho=>by rw [hG];exact k2 o ho,fun id dD=>by rw [hρ];exact k3 id dD,k4⟩
  ·by_cases hs:s=.anon p 0 <;> by_cases hs':s'=.anon p 0
   ·rw [hs,hs']
   ·rw [hκ,if_pos hs] at hk
    injection hk with hk
    exact absurd (hold _ _ _ _ _ hs' hk') ((hin _ _ _ _ hk).2.2.2.2.2.1 s' _ _ _ (hlive s' hs' hl'))
   ·rw [hκ,if_pos hs'] at hk'
    injection hk' with hk'
    exact absurd (hold _ _ _ _ _ hs hk) ((hin _ _ _ _ hk').2.2.2.2.2.1 s _ _ _ (hlive s hs hl))
   ·exact h.ownInj s s' b cap sz len cap' sz' len' (hlive s hs hl) (hlive s' hs' hl') (hold _ _ _ _ _ hs hk) (hold _ _ _ _ _ hs' hk')
  ·rw [hκ,if_neg (by rintro ⟨⟩)];exact h.ver id off v hb hv
  ·have hf':=dD.anti hle;refine ⟨(h.ver0 id hf').1,fun j=>?_⟩;rw [htok,if_neg]
   ·exact (h.ver0 id hf').2 j
   ·rintro ⟨rfl,rfl⟩;have:=dD.2.1 0;rw [hκ,if_pos rfl] at this;cases this
  ·rw [hlit] at hb;refine ⟨by rw [hbase];exact (h.lit b hb).1,(h.lit b hb).2.1,?_⟩;rintro (⟨id,dD,hr⟩ | ⟨s,cap,sz,len,hl,hk⟩)
   ·exact (h.lit b hb).2.2 (.inl ⟨id,dD,by rw [←hρ];exact hr⟩)
   ·by_cases hs:s=.anon p 0
    ·rw [hκ,if_pos hs] at hk
     injection hk with hk
     exact (hin _ _ _ _ hk).2.2.2.2.2.2.2 hb
    ·exact (h.lit b hb).2.2 (.inr ⟨s,cap,sz,len,hlive s hs hl,hold _ _ _ _ _ hs hk⟩)
  ·exact (h.hpr b vs hv).mono hle fun _ _ _ _ _ hB=>hB
 ·refine ⟨hX.le.trans hle,hX.os,hX.tape,hX.output,hX.size,hX.heap,fun b hb ho o=>by rw [hG],fun b hb ho=>(hown b ho).elim (fun x=>x) (fun x=>hX.own b hb x),fun id dD hf'=>?_,fun id dD hb=>?_,fun b hb hl=>hX.lits b hb (by rw [hlit] at hl;exact hl)⟩
  ·have h1:=hX.fresh id dD hf';refine ⟨by rw [hρ];exact h1.1,fun i=>?_,fun off v=>?_,by rw [hκ,if_neg (by rintro ⟨⟩)];exact h1.2.2.2⟩
   ·rw [hκ,if_neg]
    ·exact h1.2.1 i
    ·intro e;injection e with e1 e2;exact dD (e1 ▸ List.suffix_refl _)
   ·rw [hκ,if_neg (by rintro ⟨⟩)];exact h1.2.2.1 off v
  ·have h1:=hX.keep id dD hb;refine ⟨h1.blk,fun i=>?_,fun off v=>?_,h1.ver,fun j=>?_⟩
   ·rw [hκ,if_neg]
    ·exact h1.anon i
    ·intro e;injection e with e1 e2;exact dD (e1 ▸ List.suffix_refl _)
   ·rw [hκ,if_neg (by rintro ⟨⟩)];exact h1.cell off v
   ·rw [htok,if_neg]
    ·exact h1.tok j
    ·rintro ⟨rfl,_⟩;exact dD (List.suffix_refl _)
theorem dL.take {id:Pa} {off:Nat} {cs:List V} {rows:List (List V)} (h:dL c m w) (hf:dO c p) (hv:m.blk id=some cs) (ho:cs[off]? = some (.list .self rows)) :
  ∃c',Le c c'/\dL c' ((m.unself id off).tokset p 0 true) w/\iG p c m w c' ((m.unself id off).tokset p 0 true) w/\∀x,CR c [.list (.st (.cell id off (m.ver id off))) rows] [x]->CR c' [.list (.st (.anon p 0)) rows] [x]:=by
 obtain ⟨h1,h2,h3⟩:=h.unself id off;have hlive:eI m (.cell id off (m.ver id off))=true:=mW rfl hv ho;obtain ⟨b,vals,t,k1,k2,k3,k4,k5⟩:=h.blk id cs hv
 have hl:(zE (m.ver id) id cs)[off]? = some (.list (.st (.cell id off (m.ver id off))) rows):=by
  unfold zE;rw [List.getElem?_mapIdx,ho];rfl
 obtain ⟨x0,_,hx0⟩:=k3.get hl;obtain ⟨a,cap,es,sz,_,g1,g2,g3,g4,g5,g6,g7,g8,g9⟩:=hx0.inv_list
 obtain ⟨info,hinfo⟩:∃info,c.κ (.cell id off (m.ver id off))=some info:=by
  rcases g9 with ⟨h1,_⟩ | ⟨b,h1,_⟩
  ·exact ⟨_,h1⟩
  ·exact ⟨_,h1⟩
 obtain ⟨c',e1,e2,e3,e4⟩:=h1.give (m0:=m) hf (h2 p) info (fun b cap sz len hi=>by
  subst hi;obtain ⟨q1,q2,q3,q4,q5⟩:=h.own _ b cap sz len hlive hinfo
  have hbk:∀i,(m.unself id off).blk i ≠ none->m.blk i ≠ none:=by
   intro i hi;unfold M.unself at hi;rw [hv] at hi;simp only [ho] at hi;have hi':(if i=id then some (cs.set off (.list .none rows)) else m.blk i) ≠ none:=hi
   by_cases hii:i=id
   ·subst hii;rw [hv];simp
   ·rw [if_neg hii] at hi';exact hi'
  refine ⟨q1,q2,fun i hi=>q3 i (hbk i hi),q4,q5,fun s cap' sz' len' hs hk=>?_,.inr ⟨_,_,_,_,hlive,hinfo⟩,fun hlb=>(h.lit b hlb).2.2 (.inr ⟨_,_,_,_,hlive,hinfo⟩)⟩;obtain ⟨s1,s2⟩:=h3 s hs;exact s2 (m.ver id off) (h.ownInj _ _ _ _ _ _ _ _ _ s1 hlive hk hinfo))
 refine ⟨c',e2,e3,e4,fun x hx=>?_⟩;obtain ⟨a,cap,es,sz,rfl,g1,g2,g3,g4,g5,g6,g7,g8,g9⟩:=(hx.mono e2).inv_list;refine .list g1 g2 g3 g4 g5 g6 g7 g8 ?_ .nil;have hk:=e2.κ _ _ hinfo
 rcases g9 with ⟨h1,h2⟩ | ⟨b,h1,h2⟩
 ·exact .inl ⟨by rw [e1,←hk,h1],h2⟩
 ·exact .inr ⟨b,by rw [e1,←hk,h1],h2⟩
theorem dL.stamped (h:dL c m w) (hf:dO c p):∃c',Le c c'/\dL c' (m.tokset p 0 true) w/\iG p c m w c' (m.tokset p 0 true) w/\∀rows x,CR c [.list .exact rows] [x]->CR c' [.list (.st (.anon p 0)) rows] [x]:=by
 obtain ⟨c',e1,e2,e3,e4⟩:=h.give (m0:=m) hf (.refl p c m w) .full (fun _ _ _ _ h=>by cases h);refine ⟨c',e2,e3,e4,fun rows x hx=>?_⟩;obtain ⟨a,cap,es,sz,rfl,g1,g2,g3,g4,g5,g6,g7,g8,g9⟩:=(hx.mono e2).inv_list;exact .list g1 g2 g3 g4 g5 g6 g7 g8 (.inl ⟨e1,g9.1⟩) .nil
theorem IS {T n:Nat} {id:Pa} {cs:List V} {x:Value} (ha:mL P T=some true) (hn:cB P T=some n) (hl:cs.length=n) (h:dL c m w) (hv:m.blk id=some cs) (hx:CR c [.ptr id 0] [x]) :
  ∃vals:List Value,(Instr.loadAt T x).run P w=.ok (.agg vals.toArray) w/\CR c (zE (m.ver id) id cs) vals/\(∀u ∈ vals,u.oneCell'=true)/\∃b,x=.pointer (some ⟨b,0,none⟩):=by
 obtain ⟨b,hr,rfl⟩:=hx.inv_ptr;obtain ⟨b',vals,t,hr',hB,k1,k2,k3⟩:=h.blk id cs hv;rw [hr] at hr';injection hr' with e;subst e
 have hlen:vals.toList.length=n:=by rw [k1.len,BR,hl]
 have hld:=run_loadCells_list (P:=P) w ⟨b,0,none⟩ vals.toList (fun j u hj=>by
  rw [iP,hB.cell];simpa using hj)
 rw [hlen] at hld;exact ⟨vals.toList,by simp [Instr.loadAt,Instr.sureAddr,loadVar,yF ha,gJ hn,hld],k1,k3,b,rfl⟩
theorem Bc {fn:Func} {t:Nat} (hr:fn.results.toList=[.tmp t]) (tmps:Array Value) (w:World):(results fn tmps).run P w=.ok (tmps.getD t undef) w:=by
 have he:results fn tmps=(do
   let vs ←fn.results.mapM (Aa tmps)
   pure (if h:vs.size=1 then vs[0] else .tuple vs)):=by
  unfold results
  congr 1
 rw [he];simp [Array.mapM_eq_mapM_toList,hr,Aa]
theorem Dg {fn:Func} {t T:Nat} {b:Nat} {z:Value} (hr:fn.results.toList=[.cell t T]) (tmps:Array Value) (w:World) (ht:tmps.getD t undef=.pointer (some ⟨b,0,none⟩)) (hz:(Instr.loadAt T (.pointer (some ⟨b,0,none⟩))).run P w=.ok z w):(results fn tmps).run P w=.ok z w:=by
 have he:results fn tmps=(do
   let vs ←fn.results.mapM (Aa tmps)
   pure (if h:vs.size=1 then vs[0] else .tuple vs)):=by
  unfold results
  congr 1
 have hz':(loadVar T ⟨b,0,none⟩).run P w=.ok z w:=by simpa [Instr.loadAt,Instr.sureAddr] using hz
 rw [he];simp [Array.mapM_eq_mapM_toList,hr,Aa,ht,asAddr,hz']
inductive Src (P:Program) (rs:List ResultVar) (E:dK) (m:M) (q:Pa) (k:Nat):Pa->Nat->V->Prop where
 | exact {t rows}:rs=[.tmp t]->E t=.list .exact rows->Src P rs E m q k (k::q) 0 (.list (.st (.anon (k::q) 0)) rows)
 | mine {t rows id j}:rs=[.tmp t]->E t=.list (.st (.anon id j)) rows->m.tok id j=true->Src P rs E m q k id j (.list (.st (.anon id j)) rows)
 | cell {t T b cs off rows}:rs=[.cell t T]->E t=.ptr b 0->q <:+ b->m.blk b=some cs->mL P T=some true->cB P T=some cs.length->cs[off]? = some (.list .self rows)->Src P rs E m q k (k::q) 0 (.agg ((cs.map V.shared).set off (.list (.st (.anon (k::q) 0)) rows)))
theorem Fv {ver:Nat->Nat} {id:Pa} {vs:List V}:(zE ver id vs).map V.shared=vs.map V.shared:=by
 unfold zE;apply List.ext_getElem?;intro i;rw [List.getElem?_map,List.getElem?_map,List.getElem?_mapIdx];cases vs[i]? with
 | none=>rfl
 | some v=>simp [CB]
theorem Src.ok {fn:Func} {E:dK} {a:Act} {N k:Nat} {id:Pa} {j:Nat} {v:V} (hs:Src P fn.results.toList E m' q k id j v) (h:dL c' m' w) (hE:fK c' E a N) (hf:iF c' q k) (mb:M) :
  ∃c1 m1 x,(results fn a.tmps).run P w=.ok x w/\dL c1 m1 w/\iG q c' m' w c1 m1 w/\m1.tok id j=true/\mb.back q m1=mb.back q m'/\CR c1 [v] [x]:=by
 have hp:dO c' (k::q):=hf.fC.fC
 generalize hrs:fn.results.toList=rs at hs
 cases hs with
 | @exact t rows e1 e2=>
   subst e1;obtain ⟨c1,_,k2,k3,k4⟩:=h.stamped hp;have hx:=hE.fC t;rw [e2] at hx;exact ⟨c1,_,_,Bc hrs a.tmps w,k2,k3.up,by show (if (k::q)=(k::q)/\0=0 then true else _)=true;rw [if_pos ⟨rfl,rfl⟩],cC (iJ oR),k4 _ _ hx⟩
 | @mine t rows id j e1 e2 e3=>
   subst e1;have hx:=hE.fC t;rw [e2] at hx;exact ⟨c',m',_,Bc hrs a.tmps w,h,.refl q c' m' w,e3,rfl,hx⟩
 | @cell t T b cs off rows e1 e2 e3 e4 e5 e6 e7=>
   subst e1;have hx:=hE.fC t;rw [e2] at hx;obtain ⟨vals,l1,l2,l3,bb,l4⟩:=IS e5 e6 rfl h e4 hx;obtain ⟨c1,k1,k2,k3,k4⟩:=h.take hp e4 e7;rw [l4] at l1;refine ⟨c1,_,.agg vals.toArray,Dg hrs a.tmps w l4 l1,k2,k3.up,by show (if (k::q)=(k::q)/\0=0 then true else _)=true;rw [if_pos ⟨rfl,rfl⟩],?_,?_⟩
   ·rw [cC (iJ oR)];unfold M.unself;rw [e4];simp only [e7];exact aQ e3
   ·have hld:(zE (m'.ver b) b cs)[off]? = some (.list (.st (.cell b off (m'.ver b off))) rows):=by
     unfold zE;rw [List.getElem?_mapIdx,e7];rfl
    obtain ⟨y,hy,hy2⟩:=l2.get hld;have h3:=(wF l2).mono k1;rw [Fv] at h3;have h4:=h3.set off (k4 y hy2)
    have h5:vals.set off y=vals:=by
     apply List.ext_getElem?;intro i;rw [List.getElem?_set]
     split
     ·rename_i e;subst e
      split
      ·exact hy.symm
      ·rename_i hlt;rw [List.getElem?_eq_none (by omega)] at hy;cases hy
     ·rfl
    rw [h5] at h4;exact .agg h4 l3 .nil
theorem JN {f:FuncId} {fn:Func} {body:Code} {args:List V} {R:V->M->Prop} (hf:P.funcs[f]? = some fn) (hb:fn.body=some body) (hen:∀(xs:Array Value) (w:World),(callFunc f xs).run P w=.ok (.enter f xs) w)
  {N:Nat} (hN:fn.ntmps=N) (hfit:qN N body=true)
  (h:SW P N q body 0 (ini args) m fun e k E' m'=>(e=.ret ∨ e=.normal)/\∃id j v,q <:+ id/\Src P fn.results.toList E' m' q k id j v/\R v ((m.back q m').tokset id j true)):SC P f args q m R:=by
 intro c xs w h1 h2 h3;refine .inl ⟨hen _ w,?_⟩;subst hN;have hini:=BV h2 fn.ntmps;refine calls_of_wp hf hb ?_;rw [List.size_toArray];refine wp_mono (h hfit c _ w h1 hini h3.sub) ?_;intro e a' w' hp;obtain ⟨c',k',E',m',⟨he,id,j,v,dD,hsrc,hR⟩,g2,g3,g4,g5,g6,g7⟩:=hp;obtain ⟨c1,m1,x,r1,r2,r3,r4,r5,r6⟩:=hsrc.ok g2 g4 g5 m;obtain ⟨hback,hown⟩:=h1.backT h3 r2 r4 dD;have g:=g3.trans r3;rw [r5] at hback hown
 have hX:iG q c m w c1 ((m.back q m').tokset id j true) w':=by
  refine ⟨g.le,g.os,g.tape,g.output,g.size,g.heap,g.book,fun b hb ho=>g.own b hb (hown b ho),g.fresh,fun i hi hb=>?_,g.lits⟩;have hbl:=(g.keep i hi hb).back (m:=m) hi;rw [r5] at hbl;refine ⟨hbl.blk,hbl.anon,hbl.cell,hbl.ver,fun k=>?_⟩;show (if i=id/\k=j then true else (m.back q m').tok i k)=false;rw [if_neg]
  ·exact hbl.tok k
  ·rintro ⟨rfl,_⟩;exact hi dD
 have hdone:a'.defers=[]/\∃v,(results fn a'.tmps).run P w'=.ok v w'/\xL q c m w R (.returned v) w':=
  ⟨g6,x,r1,x,c1,v,_,rfl,hR,hback,hX,r6⟩
 rcases he with rfl | rfl
 ·exact hdone
 ·exact hdone
end
end Go.Proofs.YtncembphlfbgoaaDoor.Abs
namespace Go.Proofs.YtncembphlfbgoaaDoor.Abs
open Go.RowKit
section
variable {P:Program} {T:TypeId} {x y:Operand} {C:V->Prop}
end
end Go.Proofs.YtncembphlfbgoaaDoor.Abs
namespace Go.Proofs.YtncembphlfbgoaaDoor.Abs
open Go.RowKit
section
variable {P:Program} {N:Nat} {π:Pa} {k:Nat} {E:dK} {m:M} {Q:Exit->Nat->dK->M->Prop}
theorem aL {id:Nat} {ops:List Oper} {y:Code} (h:∀K:Nat->dK->M->Prop,(∀k E m,SW P N π y k E m Q->K k E m)->gL P ops π K ops k E m):SW P N π (.seq (.region id ops.toArray false) y) k E m Q:=
 aI (gF fun K hK=>h K fun k E m hs=>hK k E m hs)
theorem aM {id:Nat} {ops:List Oper} {n:Nat->dK->M->Prop} (h:∀K:Nat->dK->M->Prop,(∀k E m,n k E m->K k E m)->gL P ops π K ops k E m):SW P N π (.region id ops.toArray false) k E m (tX n Q):=
 gF fun K hK=>h K fun k E m hs=>hK k E m hs
theorem dA {x y:Code} {t:Operand} (b:Bool) (ht:b=true->SW P N π x k E m Q) (hf:b=false->SW P N π y k E m Q) (hb:ev m E t=.lit (.bool b):=by simp only [go_sem,seval]):SW P N π (.cond t x y) k E m Q:=eK b hb ht hf
end
theorem eN {P:Program} {f:FuncId} {fn:Func} {body:Code} {args:List V} {q:Pa} {m:M} {R:V->M->Prop} (hf:P.funcs[f]? = some fn) (hb:fn.body=some body) (hen:∀(xs:Array Value) (w:World),(callFunc f xs).run P w=.ok (.enter f xs) w)
  {N:Nat} (hN:fn.ntmps=N) (hfit:qN N body=true) {rs:Array ResultVar} (hrs:fn.results=rs)
  (h:SW P N q body 0 (ini args) m fun e _ E' m'=>(e=.ret ∨ e=.normal)/\zZ P E' m' rs.toList fun r=>R r.weak (m.back q m')):SC P f args q m R:=
 SC_of hf hb hen hN hfit (congrArg Array.toList hrs) V.weak (fun _ _ _=>V.weak_ok) h
end Go.Proofs.YtncembphlfbgoaaDoor.Abs
