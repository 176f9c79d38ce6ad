import Derived.Test.YtknbgnpeiohifaaGreatDoorGVs
import Derived.Test.YtknbgnpeiohifaaGreatDoorGPx
set_option linter.all false
namespace Go.Proofs.YtknbgnpeiohifaaGreatDoor.Abs
open Go.RowKit
structure IT (p:Prop):Prop where
 out:p
class iQ (f:FuncId) (C:outParam Prop):Prop where
 ok:C
inductive Pc:Type 1 where
 | v (t:Nat) (T:Type) (e:T->V)
 | o (t:Nat) (T:Type) (e:T->List (List V))
 | b (t:Nat) (T:Type) (e:T->List V)
 | w (t:Nat) (T:Type) (e:T->List V) (g:T->Hp->Hp)
@[reducible] def Pc.T:Pc->Type
 | .v _ T _=>T
 | .o _ T _=>T
 | .b _ T _=>T
 | .w _ T _ _=>T
@[reducible] def Um:List Pc->Type
 | []=>Unit
 | [p]=>p.T
 | p::q::ps=>p.T × Um (q::ps)
inductive Hn:Type 1 where
 | z
 | j (kd id K0:Nat) (ps:List Pc) (ks kb:List Nat) (us:List (Nat × Nat)) (fr:Option Pa) (a b:Hn)
 | l (ps:List Pc) (ks kb:List Nat) (us:List (Nat × Nat)) (fr:Option Pa) (a b:Hn)
 | k (a:Hn)
 | s (t:Nat) (h:Hn)
 | c (a b:Hn)
def SM {β:Type} (H:Hn) (q0:Pa) (m0:M) (o:Option β) (r:β) (G:Prop):Prop:=o=some r->G
@[congr] theorem SM_congr {β:Type} {H:Hn} {q0:Pa} {m0:M} {o:Option β} {r:β} {G G':Prop} (h:G=G'):SM H q0 m0 o r G=SM H q0 m0 o r G':=by rw [h]
structure Gy {β:Type} (H:Hn) (q0:Pa) (m0:M) (o:Option β) (r:β) (G:Prop):Prop where
 h:SM H q0 m0 o r G
structure JPS {α β:Type} (a:Prop) (R:α->Prop) (y:α ⊕ β):Prop where
 l:a
 r:∃y1,y=.inl y1/\R y1
structure PZ (p q:Prop):Prop where
 h:p->q
structure PI2 (p q:Prop):Prop where
 h:p->q
structure MN {γ β:Type} (y:γ) (k:γ->Option β) (r:β) (H:Hn):Prop where
 h:k y=some r
structure YD {γ:Type} (y:γ) (G:Prop):Prop where
 h:G
structure JP (a b:Prop):Prop where
 l:a
 r:b
def TW:V->M->Option (List V)
 | .ptr id _,m=>m.blk id
 | _,_=>none
@[go_sem] theorem blkAt_ptr {id:Pa} {o:Nat} {m:M}:TW (.ptr id o) m=m.blk id:=rI rfl
def locV (v:V) (i:Nat):V:=match v with
 | .fn _ a b=>(a++b).getD i .top
 | _=>.top
def Nv (E:gE) (t:Nat):V:=if t<1000 then E t else match E (t % 1000) with
 | .fn _ a b=>(a++b).getD (t / 1000 - 1) .top
 | _=>.top
@[go_sem] theorem locE_eq {E:gE} {t:Nat}:Nv E t=if t<1000 then E t else locV (E (t % 1000)) (t / 1000 - 1):=by
 unfold Nv locV
 split
 ·rfl
 ·cases E (t % 1000) <;> rfl
def Od (E:gE):List (Nat × Nat)->List (Pa × Nat)
 | []=>[]
 | (t,o)::us=>(match Nv E t with | .ptr id _=>id | _=>[],o)::Od E us
def paOf:V->Pa
 | .ptr id _=>id
 | _=>[]
@[go_sem] theorem paOf_ptr {id:Pa} {o:Nat}:paOf (.ptr id o)=id:=rI rfl
@[go_sem] theorem usE_nil {E:gE}:Od E []=[]:=rI rfl
@[go_sem] theorem usE_cons {E:gE} {t o:Nat} {us:List (Nat × Nat)}:Od E ((t,o)::us)=(paOf (Nv E t),o)::Od E us:=by
 show (match Nv E t with | .ptr id _=>id | _=>[],o)::_=_;cases Nv E t <;> rfl
def ZC (q0:Pa):V->List V->M->M
 | .ptr id _,cs,m=>if q0 <:+ id then m else m.set id cs
 | _,_,m=>m
@[go_sem] theorem putAt_ptr {q0 id:Pa} {o:Nat} {cs:List V} {m:M}:ZC q0 (.ptr id o) cs m=if q0 <:+ id then m else m.set id cs:=rI rfl
def Pc.P (q0:Pa) (E E':gE) (m':M) (R:Prop):(p:Pc)->p.T->Prop
 | .v t _ e,y=>E' t=e y/\R
 | .o t _ e,y=>∃(id:Pa) (j:Nat),E' t=.list (.st (.anon id j)) (e y)/\m'.tok id j=true/\q0 <:+ id/\R
 | .b t _ e,y=>TW (Nv E t) m'=some (e y)/\R
 | .w t _ e _,y=>TW (Nv E t) m'=some (e y)/\R
@[go_sem] theorem own_ex {a:Pa} {b:Nat} {r r':List (List V)} {T:Pa->Nat->Prop}:(∃(id:Pa) (j:Nat),V.list (.st (.anon a b)) r=V.list (.st (.anon id j)) r'/\T id j)=(r=r'/\T a b):=propext ⟨λ⟨_,_,h,k⟩=>by cases h;exact ⟨rfl,k⟩,λ⟨h,k⟩=>⟨a,b,by rw [h],k⟩⟩
def NH (q0:Pa) (E E':gE) (m':M) (R:Prop):(ps:List Pc)->Um ps->Prop
 | [],_=>R
 | [p],y=>p.P q0 E E' m' R y
 | p::q::ps,y=>p.P q0 E E' m' (NH q0 E E' m' R (q::ps) y.2) y.1
def Oe (m:M):V->Bool
 | .list (.st (.anon id j)) _=>m.tok id j
 | _=>true
@[go_sem] theorem tokOf_none {m:M} {l:List (List V)}:Oe m (.list .none l)=true:=rI rfl
@[go_sem] theorem tokOf_lit {m:M} {v:Value}:Oe m (.lit v)=true:=rI rfl
@[go_sem] theorem tokOf_ptr {m:M} {id:Pa} {j:Nat}:Oe m (.ptr id j)=true:=rI rfl
@[go_sem] theorem tokOf_agg {m:M} {l:List V}:Oe m (.agg l)=true:=rI rfl
@[go_sem] theorem tokOf_fn {m:M} {f:Fn} {a b:List V}:Oe m (.fn f a b)=true:=rI rfl
def xD (E E':gE) (m m':M):List Nat->Prop
 | []=>True
 | t::ts=>E' t=E t/\Oe m' (E t)=Oe m (E t)/\xD E E' m m' ts
def xE (E:gE) (m m':M):List Nat->Prop
 | []=>True
 | t::ts=>TW (Nv E t) m'=TW (Nv E t) m/\xE E m m' ts
def Cs (q0:Pa) (E:gE):(ps:List Pc)->Um ps->M->M
 | [],_,m=>m
 | [.b t _ e],y,m=>ZC q0 (Nv E t) (e y) m
 | [_],_,m=>m
 | .b t _ e::q::ps,y,m=>Cs q0 E (q::ps) y.2 (ZC q0 (Nv E t) (e y.1) m)
 | _::q::ps,y,m=>Cs q0 E (q::ps) y.2 m
def Nc:(ps:List Pc)->Um ps->Hp->Hp
 | [],_,h=>h
 | [.w _ _ _ g],y,h=>g y h
 | [_],_,h=>h
 | .w _ _ _ g::q::ps,y,h=>Nc (q::ps) y.2 (g y.1 h)
 | _::q::ps,y,h=>Nc (q::ps) y.2 h
def frOw (fr:Option Pa) (q0:Pa) (m0 m' mb:M):Prop:=match fr with
 | none=>m0.back q0 m'=mb
 | some p=>Fr q0 p m0 m'
@[go_sem] theorem frO_none {q0:Pa} {m0 m' mb:M}:frOw none q0 m0 m' mb=(m0.back q0 m'=mb):=rI rfl
@[go_sem] theorem frO_some {p q0:Pa} {m0 m' mb:M}:frOw (some p) q0 m0 m' mb=Fr q0 p m0 m':=rI rfl
def sI (ps:List Pc) (ks kb:List Nat) (fr:Option Pa) (q0:Pa) (m0:M) (E:gE) (m:M) (y:Um ps) (E':gE) (m':M):Prop:=
 NH q0 E E' m' (xD E E' m m' ks/\xE E m m' kb/\m'.gl=m.gl/\m'.hp=Nc ps y m.hp/\frOw fr q0 m0 m' (Cs q0 E ps y (m0.back q0 m))) ps y
class Ud {α:Type} (l:List α) (n:outParam Int):Prop where
 h:(l.length:Int)=n
class MP {α:Type} (f:α->List V) (s:outParam Nat):Prop where
 h:∀x,(f x).length=s
instance aw_i1 {k:IntKind}:MP (cI k) 1:=⟨λ_=>rfl⟩
instance:MP cS 1:=⟨λ_=>rfl⟩
@[go_sem low] theorem set_fl {α:Type} {f:α->List V} {s:Nat} [c:MP f s] {l:List α} {i:Nat} (hi:(i<l.length)=True) {x:α}:((l.set i x).map f).flatten=Kq (l.map f).flatten (i*s) (f x):=(TP c.h (of_eq_true hi) x).symm
@[go_sem low] theorem len_fl {α:Type} {f:α->List V} {s:Nat} [c:MP f s] {l:List α}:(l.map f).flatten.length=l.length*s:=Ht c.h l
def PY {α:Type} (f:α->List V):Option α->List V
 | some x=>f x
 | none=>[]
@[go_sem] theorem optF_some {α:Type} {f:α->List V} {x:α}:PY f (some x)=f x:=rI rfl
@[go_sem low] theorem RU {α:Type} {f:α->List V} {s:Nat} [c:MP f s]:∀ {l:List α} {n:Nat},List.drop (n*s) (cA f l)=PY f l[n]? ++ cA f (l.drop (n+1)):=by
 intro l
 induction l with
 | nil=>intro n;simp [cA,PY]
 | cons x l ih=>
   intro n;cases n with
   | zero=>simp [cA,PY]
   | succ n=>
     have:cA f (x::l)=f x++cA f l:=by simp [cA]
     rw [this,NM,List.drop_append,c.h,List.drop_of_length_le (by rw [c.h];omega),AE,Nat.add_sub_cancel,ih];simp
@[go_sem low] theorem Pj {α:Type} {f:α->List V} [c:MP f 1] {l:List α} {n:Nat}:List.drop n (cA f l)=PY f l[n]? ++ cA f (l.drop (n+1)):=by
 have:=RU (f:=f) (l:=l) (n:=n) (s:=1)
 rwa [YJ] at this
@[go_sem low] theorem drop_fl {α:Type} {f:α->List V} {s:Nat} [c:MP f s] {l:List α} {n:Nat}:List.drop (n*s) (l.map f).flatten=PY f l[n]? ++ ((l.drop (n+1)).map f).flatten:=RU
section
variable {α β γ:Type} {r:β} {G G':Prop} {H:Hn} {q0:Pa} {m0:M} {o:Option β}
theorem SM.map (h:G'->G) (k:SM H q0 m0 o r G'):SM H q0 m0 o r G:=λe=>h (k e)
theorem A_fx {e:Option β} (h:Gy H q0 m0 e r G):Gy H q0 m0 e r G:=h
theorem A_fix {e:Option β} (h:∀o,IT (o=e)->SM H q0 m0 o r G):Gy H q0 m0 e r G:=⟨h _ ⟨rfl⟩⟩
theorem A_ite {c:Bool} {A B:Option β} {H1 H2:Hn} (ho:IT (o=if c=true then A else B)) (h1:c=true->Gy H1 q0 m0 A r G) (h2:c=false->Gy H2 q0 m0 B r G):SM (.c H1 H2) q0 m0 o r G:=λe=>by
 rw [ho.out] at e;cases c with
 | true=>exact (h1 rfl).h e
 | false=>exact (h2 rfl).h e
theorem A_ite0 {c:Bool} {A B:Option β} (ho:IT (o=if c=true then A else B)) (h1:c=true->Gy .z q0 m0 A r G) (h2:c=false->Gy .z q0 m0 B r G):SM .z q0 m0 o r G:=A_ite (H1:=.z) (H2:=.z) ho h1 h2
theorem A_itet {c:Bool} {A B:Option β} (hc:c=true) (h:Gy H q0 m0 A r G):Gy H q0 m0 (if c=true then A else B) r G:=by rw [cX hc];exact h
theorem A_itef {c:Bool} {A B:Option β} (hc:c=false) (h:Gy H q0 m0 B r G):Gy H q0 m0 (if c=true then A else B) r G:=by rw [cE (by rw [hc];exact Bool.false_ne_true)];exact h
theorem A_need {p p':Prop} [Decidable p] {o':Option β} (e:p=p') (h:p'->Gy H q0 m0 o' r G):Gy H q0 m0 (iN p o') r G:=⟨λe'=>(h (e ▸ (cQ e').1)).h (cQ e').2⟩
theorem A_and {p:Prop} (hp:p) (h:SM H q0 m0 o r G):SM H q0 m0 o r (p/\G):=λe=>⟨hp,h e⟩
theorem pre_idx {α γ:Type} {l:List α} {i:Int} {f:α->Option γ} {r:γ} (e:(aZ l i).bind f=some r):∃y,aZ l i=some y:=(aH e).imp λ_ h=>h.1
theorem ZE {α γ:Type} {a:Option α} {f:α->Option γ} {r:γ} (e:a.bind f=some r):∃y,f y=some r:=(aH e).imp λ_ h=>h.2
theorem A_pre {l:List α} {i:Int} {n:Nat} {x:Option β} (z:IT (o=x)) (hn:i.toNat=n) (hp:x=some r->∃y,aZ l i=some y) (h:∀y,aZ l i=some y->0<=i->i<l.length->(n<l.length)=True->l[n]? = some y->SM H q0 m0 o r (i<(l.length:Int)/\G)):SM H q0 m0 o r (i<(l.length:Int)/\G):=λe=>by
 obtain ⟨y,h1⟩:=hp (z.out.symm.trans e);obtain ⟨a,b,c⟩:=bX h1;subst hn;exact h y h1 a b (eq_true zb) c e
theorem A_idx {l:List α} {i:Int} {n:Nat} {f:α->Option β} (hn:i.toNat=n) (h:∀x,0<=i->i<l.length->(n<l.length)=True->l[n]? = some x->Gy H q0 m0 (f x) r G):Gy H q0 m0 ((aZ l i).bind f) r G:=⟨λe=>by
 subst hn;obtain ⟨x,h1,h2⟩:=aH e;obtain ⟨a,b,c⟩:=bX h1;exact (h x a b (eq_true zb) c).h h2⟩
theorem A_idxk {l:List α} {i n:Int} {f:α->Option β} [k:Ud l n] (h:∀x,0<=i->i<n->i<l.length->(i.toNat<l.length)=True->l[i.toNat]? = some x->Gy H q0 m0 (f x) r G):Gy H q0 m0 ((aZ l i).bind f) r G:=A_idx rfl λx a b c d=>h x a (k.h ▸ b) b c d
theorem A_inl {f:α->Option β} {g:γ->Option β} {x:α} (h:Gy H q0 m0 (f x) r G):Gy H q0 m0 (Sum.elim f g (.inl x)) r G:=h
theorem A_inr {f:α->Option β} {g:γ->Option β} {x:γ} (h:Gy H q0 m0 (g x) r G):Gy H q0 m0 (Sum.elim f g (.inr x)) r G:=h
theorem Ui {a b:Prop} {v:β} (ho:IT (o=some v)) (h:v=r->a/\b):SM H q0 m0 o r (a/\b):=λe=>h (bS (ho.out ▸ e))
theorem A_finJ {a b:Prop} {v:β} (ho:IT (o=some v)) (h:v=r->a/\b):SM H q0 m0 o r (JP a b):=λe=>⟨(h (bS (ho.out ▸ e))).1,(h (bS (ho.out ▸ e))).2⟩
theorem A_finS {δ:Type} {a:Prop} {R:γ->Prop} {v:γ} {y:γ ⊕ δ} {o:Option (γ ⊕ δ)} (ho:IT (o=some (.inl v))) (h1:a) (h2:R v):SM H q0 m0 o y (JPS a R y):=λe=>⟨h1,v,(bS (ho.out ▸ e)).symm,h2⟩
theorem A_pop {y v:γ} {k:γ->Option β} {H':Hn} {o:Option γ} (ho:IT (o=some v)) (pd:MN y k r H') (h:Gy H' q0 m0 (k v) r G):SM H q0 m0 o y (YD y G):=λe=>by
 rw [ho.out] at e;cases e;exact ⟨h.h pd.h⟩
variable {P:Program} {N:Nat} {π:Pa} {k:Nat} {E:gE} {m:M} {Q:Exit->Nat->gE->M->Prop}
theorem A_sw {code:Code} (h:SM H q0 m0 o r (SW P N π code k E m Q)):SM H q0 m0 o r (SW P N π code k E m Q):=h
theorem A_tn {n:Nat->gE->M->Prop} (h:SM H q0 m0 o r (n k E m)):SM H q0 m0 o r (vP n Q .normal k E m):=h
theorem A_tr {n:Nat->gE->M->Prop} (h:SM H q0 m0 o r (Q .ret k E m)):SM H q0 m0 o r (vP n Q .ret k E m):=h
theorem A_te {n:Nat->gE->M->Prop} {i:Nat} (h:SM H q0 m0 o r (Q (.exit i) k E m)):SM H q0 m0 o r (vP n Q (.exit i) k E m):=h
theorem A_bn {id:Nat} (h:SM H q0 m0 o r (Q .normal k E m)):SM H q0 m0 o r (EJ id Q .normal k E m):=h
theorem A_br {id:Nat} (h:SM H q0 m0 o r (Q .ret k E m)):SM H q0 m0 o r (EJ id Q .ret k E m):=h
theorem A_sr {id:Nat} {ops:List Oper} {y:Code} (h:∀K:Nat->gE->M->Prop,IT (∀k E m,SW P N π y k E m Q->K k E m)->SM H q0 m0 o r (mY P ops π K ops k E m)):SM H q0 m0 o r (SW P N π (.seq (.region id ops.toArray false) y) k E m Q):=λe=>
 Bp λK hK=>h K ⟨hK⟩ e
theorem A_r {id:Nat} {ops:List Oper} (h:∀K:Nat->gE->M->Prop,IT (∀k E m,Q .normal k E m->K k E m)->SM H q0 m0 o r (mY P ops π K ops k E m)):SM H q0 m0 o r (SW P N π (.region id ops.toArray false) k E m Q):=λe=>
 qC λK hK=>h K ⟨hK⟩ e
theorem A_K {K:Nat->gE->M->Prop} {S:Nat->gE->M->Prop} (z:IT (∀k E m,S k E m->K k E m)) (h:SM H q0 m0 o r (S k E m)):SM H q0 m0 o r (K k E m):=SM.map (z.out _ _ _) h
theorem A_sd {id:Nat} {ops:List Oper} {y:Code} (sch:List (Nat × List Nat)) (ho:schA ops=sch) (hm:P.follows .mixedOrders=true) (hc:Tk P ops sch=true)
  (h:∀K:Nat->gE->M->Prop,IT (∀k E m,SW P N π y k E m Q->K k E m)->SM H q0 m0 o r (Ld P ops π k K sch E m)):SM H q0 m0 o r (SW P N π (.seq (.region id ops.toArray true) y) k E m Q):=λe=>
 aR (zbd ho hm hc λK hK=>h K ⟨λk E m hs=>hK k E m hs⟩ e)
theorem A_d {id:Nat} {ops:List Oper} (sch:List (Nat × List Nat)) (ho:schA ops=sch) (hm:P.follows .mixedOrders=true) (hc:Tk P ops sch=true)
  (h:∀K:Nat->gE->M->Prop,IT (∀k E m,Q .normal k E m->K k E m)->SM H q0 m0 o r (Ld P ops π k K sch E m)):SM H q0 m0 o r (SW P N π (.region id ops.toArray true) k E m Q):=λe=>
 zbd ho hm hc λK hK=>h K ⟨hK⟩ e
structure cnd (b:Bool) (p q:Prop):Prop where
 h:if b=true then p else q
theorem A_cond {x y:Code} {t:Operand} {b:Bool} (hb:ev m E t=.lit (.bool b)) (h:SM H q0 m0 o r (cnd b (SW P N π x k E m Q) (SW P N π y k E m Q))):SM H q0 m0 o r (SW P N π (.cond t x y) k E m Q):=λe=>
 Br b hb (by
  have:=(h e).h;cases b with
  | true=>exact this
  | false=>exact this)
theorem A_ct (h:SM H q0 m0 o r G):SM H q0 m0 o r (cnd true G G'):=λe=>⟨h e⟩
theorem A_cf (h:SM H q0 m0 o r G'):SM H q0 m0 o r (cnd false G G'):=λe=>⟨by rw [cE Bool.false_ne_true];exact h e⟩
theorem A_c {e:Option β} (ho:IT (o=e)) {b:Bool} {H1 H2:Hn} (h1:b=true->Gy H1 q0 m0 e r G) (h2:b=false->Gy H2 q0 m0 e r G'):SM (.c H1 H2) q0 m0 o r (cnd b G G'):=λe'=>by
 rw [ho.out] at e';cases b with
 | true=>exact A_ct (h1 rfl).h e'
 | false=>exact A_cf (h2 rfl).h e'
theorem A_c0 {e:Option β} (ho:IT (o=e)) {b:Bool} (h1:b=true->Gy .z q0 m0 e r G) (h2:b=false->Gy .z q0 m0 e r G'):SM .z q0 m0 o r (cnd b G G'):=A_c (H1:=.z) (H2:=.z) ho h1 h2
theorem Sp {f:FuncId} {args:List V} {q:Pa} {C:V->M->Prop} (h:SM H q0 m0 o r (SC P f args q m C)):SM H q0 m0 o r (SC P f args q m C):=h
theorem A_call {f:FuncId} {args:List V} {q:Pa} {C:V->M->Prop} {Fa:Option α} {kk:α->Option β} {Co:Prop} (ho:IT (o=Fa.bind kk)) [c:iQ f Co] (h:Co->∀x,Fa=some x->∃v1 m1,SC P f args q m (λv m'=>v=v1/\m'=m1)/\Gy H q0 m0 (kk x) r (C v1 m1)):SM H q0 m0 o r (SC P f args q m C):=λe=>by
 rw [ho.out] at e;obtain ⟨x,h1,h2⟩:=aH e;obtain ⟨_,_,h3,h4⟩:=h c.ok x h1;exact SC.by_ h3 (h4.h h2)
theorem A_callO {f:FuncId} {args:List V} {q:Pa} {C:V->M->Prop} {Fa:Option α} {kk:α->Option β} {Co:Prop} (ho:IT (o=Fa.bind kk)) (hq:q0 <:+ q) [c:iQ f Co] (h:Co->∀x,Fa=some x->∃(v1:Pa->Nat->V) (m1:Pa->Nat->M),SC P f args q m (λv m'=>∃(id:Pa) (j:Nat),q <:+ id/\v=v1 id j/\m'=m1 id j)/\∀id j,q0 <:+ id->Gy H q0 m0 (kk x) r (C (v1 id j) (m1 id j))):SM H q0 m0 o r (SC P f args q m C):=λe=>by
 rw [ho.out] at e;obtain ⟨x,h1,h2⟩:=aH e;obtain ⟨v1,m1,h3,h4⟩:=h c.ok x h1;exact h3.mono λv m' ⟨id,j,hi,hv,hm⟩=>by subst hv hm;exact (h4 id j (hq.trans hi)).h h2
theorem A_callR {f:FuncId} {args:List V} {q:Pa} {C:V->M->Prop} {Fa:Option α} {kk:α->Option β} {Co:Prop} (ho:IT (o=Fa.bind kk)) [c:iQ f Co] (h:Co->∀x,Fa=some x->∃R,SC P f args q m R/\∀v m',PI2 (R v m') (Gy H q0 m0 (kk x) r (C v m'))):SM H q0 m0 o r (SC P f args q m C):=λe=>by
 rw [ho.out] at e;obtain ⟨x,h1,h2⟩:=aH e;obtain ⟨R,h3,h4⟩:=h c.ok x h1;exact h3.mono λv m' hR=>((h4 v m').h hR).h h2
def Rk (x:Code):List Pc->List Nat
 | []=>[]
 | .v t _ _::ps=>if wr x t=true then t::Rk x ps else Rk x ps
 | _::ps=>Rk x ps
theorem Uy {x:Code}:∀ps,(Rk x ps).all (wr x)=true:=by
 intro ps
 induction ps with
 | nil=>rfl
 | cons p ps ih=>
   cases p with
   | v t T e=>
     unfold Rk
     split
     ·rename_i h;simp [h];exact λt ht=>Rj.1 ih t ht
     ·exact ih
   | _=>exact ih
theorem VE {x:Code} {kd id K0:Nat} {ps:List Pc} {ks kb:List Nat} {us:List (Nat × Nat)} {fr:Option Pa} {H1 H2:Hn} {J:Option (Um ps)} {kk:Um ps->Option β} {ts:List Nat} (ho:IT (o=J.bind kk)) (hts:Rk x ps=ts)
  (h1:∀y1,MN y1 kk r H2->Gy H1 q0 m0 (J) y1 (SW P N π x k E m (vP (λk' E' m'=>JP (k'<=K0) (sI ps ks kb fr q0 m0 E m y1 (tA ts E') (jV (Od E us) m'))) λe k E m=>YD y1 (Q e k E m))))
  (h2:∀y1 E' m',PZ (sI ps ks kb fr q0 m0 E m y1 E' m') (Gy H2 q0 m0 (kk y1) r (Q .normal K0 E' m'))):SM (.j kd id K0 ps ks kb us fr H1 H2) q0 m0 o r (SW P N π x k E m Q):=λe=>by
 rw [ho.out] at e;obtain ⟨y1,e1,e2⟩:=aH e;subst hts;refine Pu K0 (Rk x ps) (Od E us) (Uy ps) (λE' m'=>sI ps ks kb fr q0 m0 E m y1 E' m') ?_ ?_
 ·refine FJ ((h1 y1 ⟨e2⟩).h e1) λe k E m h=>?_;cases e with
  | normal=>exact ⟨h.l,h.r⟩
  | _=>exact h.h
 ·intro E' m' hp _;exact ((h2 y1 E' m').h hp).h e2
section
variable {K0 id:Nat} {ps:List Pc} {ks kb:List Nat} {us:List (Nat × Nat)} {fr:Option Pa} {H1 H2:Hn} {J:Option (Um ps)} {kk:Um ps->Option β} {ts:List Nat} {t:Operand} {x x2 y:Code} {ops:Array Oper} {dr:Bool}
theorem A_jb (ho:IT (o=J.bind kk)) (hts:Rk (.block id x) ps=ts)
  (h1:∀y1,MN y1 kk r H2->Gy H1 q0 m0 (J) y1 (SW P N π (.block id x) k E m (vP (λk' E' m'=>JP (k'<=K0) (sI ps ks kb fr q0 m0 E m y1 (tA ts E') (jV (Od E us) m'))) λe k E m=>YD y1 (Q e k E m))))
  (h2:∀y1 E' m',PZ (sI ps ks kb fr q0 m0 E m y1 E' m') (Gy H2 q0 m0 (kk y1) r (SW P N π y K0 E' m' Q))):SM (.j 1 id K0 ps ks kb us fr H1 H2) q0 m0 o r (SW P N π (.seq (.block id x) y) k E m Q):=
 SM.map aR (VE ho hts (λy1 pd=>⟨SM.map (λh=>FJ h λe k E m h=>by cases e <;> exact h) (h1 y1 pd).h⟩) h2)
theorem A_jr (ho:IT (o=J.bind kk)) (hts:Rk (.region id ops dr) ps=ts)
  (h1:∀y1,MN y1 kk r H2->Gy H1 q0 m0 (J) y1 (SW P N π (.region id ops dr) k E m (vP (λk' E' m'=>JP (k'<=K0) (sI ps ks kb fr q0 m0 E m y1 (tA ts E') (jV (Od E us) m'))) λe k E m=>YD y1 (Q e k E m))))
  (h2:∀y1 E' m',PZ (sI ps ks kb fr q0 m0 E m y1 E' m') (Gy H2 q0 m0 (kk y1) r (SW P N π y K0 E' m' Q))):SM (.j 2 id K0 ps ks kb us fr H1 H2) q0 m0 o r (SW P N π (.seq (.region id ops dr) y) k E m Q):=
 SM.map aR (VE ho hts (λy1 pd=>⟨SM.map (λh=>FJ h λe k E m h=>by cases e <;> exact h) (h1 y1 pd).h⟩) h2)
theorem A_jt (ho:IT (o=J.bind kk)) (hts:Rk (.region id ops dr) ps=ts)
  (h1:∀y1,MN y1 kk r H2->Gy H1 q0 m0 (J) y1 (SW P N π (.region id ops dr) k E m (vP (λk' E' m'=>JP (k'<=K0) (sI ps ks kb fr q0 m0 E m y1 (tA ts E') (jV (Od E us) m'))) λe k E m=>YD y1 (Q e k E m))))
  (h2:∀y1 E' m',PZ (sI ps ks kb fr q0 m0 E m y1 E' m') (Gy H2 q0 m0 (kk y1) r (Q .normal K0 E' m'))):SM (.j 2 id K0 ps ks kb us fr H1 H2) q0 m0 o r (SW P N π (.region id ops dr) k E m Q):=VE ho hts h1 h2
end
theorem A_joinS {x:Code} {kd id K0:Nat} {ps:List Pc} {ks kb:List Nat} {us:List (Nat × Nat)} {fr:Option Pa} {H1 H2:Hn} {δ:Type} {J:Option (Um ps ⊕ δ)} {kk:Um ps ⊕ δ->Option β} {ts:List Nat} (ho:IT (o=J.bind kk)) (hts:Rk x ps=ts)
  (h1:∀y1,MN y1 kk r H2->Gy H1 q0 m0 J y1 (SW P N π x k E m (vP (λk' E' m'=>JPS (k'<=K0) (λy=>sI ps ks kb fr q0 m0 E m y (tA ts E') (jV (Od E us) m')) y1) λe k E m=>YD y1 (Q e k E m))))
  (h2:∀y1 E' m',PZ (sI ps ks kb fr q0 m0 E m y1 E' m') (Gy H2 q0 m0 (kk (.inl y1)) r (Q .normal K0 E' m'))):SM (.j kd id K0 ps ks kb us fr H1 H2) q0 m0 o r (SW P N π x k E m Q):=λe=>by
 rw [ho.out] at e;obtain ⟨y1,e1,e2⟩:=aH e;subst hts;refine Pu K0 (Rk x ps) (Od E us) (Uy ps) (λE' m'=>∃y,y1=.inl y/\sI ps ks kb fr q0 m0 E m y E' m') ?_ ?_
 ·refine FJ ((h1 y1 ⟨e2⟩).h e1) λe k E m h=>?_;cases e with
  | normal=>exact ⟨h.l,h.r⟩
  | _=>exact h.h
 ·rintro E' m' ⟨y,rfl,hp⟩ _;exact ((h2 y E' m').h hp).h e2
section
variable {K0 id:Nat} {ps:List Pc} {ks kb:List Nat} {us:List (Nat × Nat)} {fr:Option Pa} {H1 H2:Hn} {ts:List Nat} {t:Operand} {x x2 y:Code} {ops:Array Oper} {dr:Bool}
theorem A_jbS {δ:Type} {J:Option (Um ps ⊕ δ)} {kk:Um ps ⊕ δ->Option β} (ho:IT (o=J.bind kk)) (hts:Rk (.block id x) ps=ts)
  (h1:∀y1,MN y1 kk r H2->Gy H1 q0 m0 J y1 (SW P N π (.block id x) k E m (vP (λk' E' m'=>JPS (k'<=K0) (λy=>sI ps ks kb fr q0 m0 E m y (tA ts E') (jV (Od E us) m')) y1) λe k E m=>YD y1 (Q e k E m))))
  (h2:∀y1 E' m',PZ (sI ps ks kb fr q0 m0 E m y1 E' m') (Gy H2 q0 m0 (kk (.inl y1)) r (SW P N π y K0 E' m' Q))):SM (.j 11 id K0 ps ks kb us fr H1 H2) q0 m0 o r (SW P N π (.seq (.block id x) y) k E m Q):=
 SM.map aR (A_joinS ho hts (λy1 pd=>⟨SM.map (λh=>FJ h λe k E m h=>by cases e <;> exact h) (h1 y1 pd).h⟩) h2)
end
structure SMU {β:Type} (H:Hn) (q0:Pa) (m0:M) (o:Option β) (r:β) (G:Prop):Prop where
 h:SM H q0 m0 o r G
structure NX {δ:Type} (L:Nat->δ->Option γ) (c:Nat) (y:γ) (R:δ->Prop):Prop where
 h:∃v,L c v=some y/\R v
theorem So {body:Code} {ps:List Pc} {ks kb:List Nat} {us:List (Nat × Nat)} {fr:Option Pa} {H1 H2:Hn} {L:Nat->Um ps->Option γ} {n:Nat} {v0:Um ps} {kk:γ->Option β} (ho:IT (o=(L n v0).bind kk)) (hL:∀v,L 0 v=none) {ts:List Nat} (hts:Rk body ps=ts) (h0:sI ps ks kb fr q0 m0 E m v0 (tA ts E) (jV (Od E us) m))
  (h:∀y1,MN y1 kk r H2->∀(i c:Nat) (v:Um ps) (E':gE) (m':M),PZ (sI ps ks kb fr q0 m0 E m v E' m') (SMU H1 q0 m0 (L (c+1) v) y1 (SW P N (i::k::π) body 0 E' m' (vP (λ_ E2 m2=>NX L c y1 (λv'=>sI ps ks kb fr q0 m0 E m v' (tA ts E2) (jV (Od E us) m2))) λe _ E2 m2=>YD y1 (Q e (k+1) E2 m2))))) :
  SM (.l ps ks kb us fr H1 H2) q0 m0 o r (SW P N π (.loop body) k E m Q):=λe=>by
 rw [ho.out] at e;obtain ⟨y1,e1,e2⟩:=aH e;subst hts;refine MM (Rk body ps) (Od E us) (Uy ps) (λc E' m'=>∃v',L c v'=some y1/\sI ps ks kb fr q0 m0 E m v' E' m') n ⟨v0,e1,h0⟩ ?_;rintro i c E' m' ⟨v,hv,hp⟩ _;cases c with
 | zero=>rw [hL] at hv;cases hv
 | succ c=>
   refine FJ (((h y1 ⟨e2⟩ i c v E' m').h hp).h hv) λe k E m h=>?_;cases e with
   | normal=>exact ⟨c,Rh c,h.h⟩
   | _=>exact h.h
theorem A_unf {o o':Option β} (e:o=o') (h:Gy H q0 m0 o' r G):SMU H q0 m0 o r G:=⟨e ▸ h.h⟩
section
variable {body:Code} {p1 p2 p3 p4 p5:Pc} {ks kb:List Nat} {us:List (Nat × Nat)} {fr:Option Pa} {H1 H2:Hn} {n:Nat} {v1:p1.T} {v2:p2.T} {v3:p3.T} {v4:p4.T} {v5:p5.T} {kk:γ->Option β} {ts:List Nat}
theorem A_loop1 {L:Nat->p1.T->Option γ} (ho:IT (o=(L n v1).bind kk)) (hL:∀v1,L 0 v1=none) (hts:Rk body [p1]=ts) (h0:sI [p1] ks kb fr q0 m0 E m v1 (tA ts E) (jV (Od E us) m))
  (h:∀y1,MN y1 kk r H2->∀(i c:Nat) (v1:p1.T) (E':gE) (m':M),PZ (sI [p1] ks kb fr q0 m0 E m v1 E' m') (SMU H1 q0 m0 (L (c+1) v1) y1 (SW P N (i::k::π) body 0 E' m' (vP (λ_ E2 m2=>NX L c y1 (λv'=>sI [p1] ks kb fr q0 m0 E m v' (tA ts E2) (jV (Od E us) m2))) λe _ E2 m2=>YD y1 (Q e (k+1) E2 m2))))) :
  SM (.l [p1] ks kb us fr H1 H2) q0 m0 o r (SW P N π (.loop body) k E m Q):=So (ps:=[p1]) (L:=L) (v0:=v1) ho (λ_=>hL _) hts h0 λy1 pd i c v E' m'=>h y1 pd i c v E' m'
theorem A_loop2 {L:Nat->p1.T->p2.T->Option γ} (ho:IT (o=(L n v1 v2).bind kk)) (hL:∀v1 v2,L 0 v1 v2=none) (hts:Rk body [p1,p2]=ts) (h0:sI [p1,p2] ks kb fr q0 m0 E m (v1,v2) (tA ts E) (jV (Od E us) m))
  (h:∀y1,MN y1 kk r H2->∀(i c:Nat) (v1:p1.T) (v2:p2.T) (E':gE) (m':M),PZ (sI [p1,p2] ks kb fr q0 m0 E m (v1,v2) E' m') (SMU H1 q0 m0 (L (c+1) v1 v2) y1 (SW P N (i::k::π) body 0 E' m' (vP (λ_ E2 m2=>NX (λc (v:p1.T × p2.T)=>L c v.1 v.2) c y1 (λv'=>sI [p1,p2] ks kb fr q0 m0 E m v' (tA ts E2) (jV (Od E us) m2))) λe _ E2 m2=>YD y1 (Q e (k+1) E2 m2))))) :
  SM (.l [p1,p2] ks kb us fr H1 H2) q0 m0 o r (SW P N π (.loop body) k E m Q):=So (ps:=[p1,p2]) (L:=λc v=>L c v.1 v.2) (v0:=(v1,v2)) ho (λ_=>hL _ _) hts h0 λy1 pd i c v E' m'=>h y1 pd i c v.1 v.2 E' m'
theorem A_loop3 {L:Nat->p1.T->p2.T->p3.T->Option γ} (ho:IT (o=(L n v1 v2 v3).bind kk)) (hL:∀v1 v2 v3,L 0 v1 v2 v3=none) (hts:Rk body [p1,p2,p3]=ts) (h0:sI [p1,p2,p3] ks kb fr q0 m0 E m (v1,v2,v3) (tA ts E) (jV (Od E us) m))
  (h:∀y1,MN y1 kk r H2->∀(i c:Nat) (v1:p1.T) (v2:p2.T) (v3:p3.T) (E':gE) (m':M),PZ (sI [p1,p2,p3] ks kb fr q0 m0 E m (v1,v2,v3) E' m') (SMU H1 q0 m0 (L (c+1) v1 v2 v3) y1 (SW P N (i::k::π) body 0 E' m' (vP (λ_ E2 m2=>NX (λc (v:p1.T × p2.T × p3.T)=>L c v.1 v.2.1 v.2.2) c y1 (λv'=>sI [p1,p2,p3] ks kb fr q0 m0 E m v' (tA ts E2) (jV (Od E us) m2))) λe _ E2 m2=>YD y1 (Q e (k+1) E2 m2))))) :
  SM (.l [p1,p2,p3] ks kb us fr H1 H2) q0 m0 o r (SW P N π (.loop body) k E m Q):=So (ps:=[p1,p2,p3]) (L:=λc v=>L c v.1 v.2.1 v.2.2) (v0:=(v1,v2,v3)) ho (λ_=>hL _ _ _) hts h0 λy1 pd i c v E' m'=>h y1 pd i c v.1 v.2.1 v.2.2 E' m'
theorem A_loop4 {L:Nat->p1.T->p2.T->p3.T->p4.T->Option γ} (ho:IT (o=(L n v1 v2 v3 v4).bind kk)) (hL:∀v1 v2 v3 v4,L 0 v1 v2 v3 v4=none) (hts:Rk body [p1,p2,p3,p4]=ts) (h0:sI [p1,p2,p3,p4] ks kb fr q0 m0 E m (v1,v2,v3,v4) (tA ts E) (jV (Od E us) m))
  (h:∀y1,MN y1 kk r H2->∀(i c:Nat) (v1:p1.T) (v2:p2.T) (v3:p3.T) (v4:p4.T) (E':gE) (m':M),PZ (sI [p1,p2,p3,p4] ks kb fr q0 m0 E m (v1,v2,v3,v4) E' m') (SMU H1 q0 m0 (L (c+1) v1 v2 v3 v4) y1 (SW P N (i::k::π) body 0 E' m' (vP (λ_ E2 m2=>NX (λc (v:p1.T × p2.T × p3.T × p4.T)=>L c v.1 v.2.1 v.2.2.1 v.2.2.2) c y1 (λv'=>sI [p1,p2,p3,p4] ks kb fr q0 m0 E m v' (tA ts E2) (jV (Od E us) m2))) λe _ E2 m2=>YD y1 (Q e (k+1) E2 m2))))) :
  SM (.l [p1,p2,p3,p4] ks kb us fr H1 H2) q0 m0 o r (SW P N π (.loop body) k E m Q):=So (ps:=[p1,p2,p3,p4]) (L:=λc v=>L c v.1 v.2.1 v.2.2.1 v.2.2.2) (v0:=(v1,v2,v3,v4)) ho (λ_=>hL _ _ _ _) hts h0 λy1 pd i c v E' m'=>h y1 pd i c v.1 v.2.1 v.2.2.1 v.2.2.2 E' m'
end
theorem A_nx {δ:Type} {L:Nat->δ->Option γ} {c:Nat} {y:β} {y':γ} {R:δ->Prop} (h:SM H q0 m0 o y (NX L c y' R)):SM H q0 m0 o y (NX L c y' R):=h
theorem A_next1 {δ1:Type} {L:Nat->δ1->Option γ} {c:Nat} {y:γ} {R:δ1->Prop} {o:Option γ} {v1:δ1} (ho:IT (o=L c v1)) (h:R v1):SM H q0 m0 o y (NX L c y R):=λe=>⟨v1,ho.out ▸ e,h⟩
theorem A_next2 {δ1 δ2:Type} {L:Nat->δ1->δ2->Option γ} {c:Nat} {y:γ} {R:δ1 × δ2->Prop} {o:Option γ} {v1:δ1} {v2:δ2} (ho:IT (o=L c v1 v2)) (h:R (v1,v2)):SM H q0 m0 o y (NX (λc (v:δ1 × δ2)=>L c v.1 v.2) c y R):=λe=>⟨(v1,v2),ho.out ▸ e,h⟩
theorem A_next3 {δ1 δ2 δ3:Type} {L:Nat->δ1->δ2->δ3->Option γ} {c:Nat} {y:γ} {R:δ1 × δ2 × δ3->Prop} {o:Option γ} {v1:δ1} {v2:δ2} {v3:δ3} (ho:IT (o=L c v1 v2 v3)) (h:R (v1,v2,v3)):SM H q0 m0 o y (NX (λc (v:δ1 × δ2 × δ3)=>L c v.1 v.2.1 v.2.2) c y R):=λe=>⟨(v1,v2,v3),ho.out ▸ e,h⟩
theorem A_next4 {δ1 δ2 δ3 δ4:Type} {L:Nat->δ1->δ2->δ3->δ4->Option γ} {c:Nat} {y:γ} {R:δ1 × δ2 × δ3 × δ4->Prop} {o:Option γ} {v1:δ1} {v2:δ2} {v3:δ3} {v4:δ4} (ho:IT (o=L c v1 v2 v3 v4)) (h:R (v1,v2,v3,v4)):SM H q0 m0 o y (NX (λc (v:δ1 × δ2 × δ3 × δ4)=>L c v.1 v.2.1 v.2.2.1 v.2.2.2) c y R):=λe=>⟨(v1,v2,v3,v4),ho.out ▸ e,h⟩
theorem A_stamp {x:Code} {t:Nat} {rows:List (List V)} (he:E t=.list .exact rows) (ht:wr x t=true) (h:SM H q0 m0 o r (SW P N π x (k+1) (upd E t (.list (.st (.anon (k::π) 0)) rows)) (m.tokset (k::π) 0 true) Q)):SM (.s t H) q0 m0 o r (SW P N π x k E m Q):=λe=>EK t rows ht he (h e)
end
theorem SC.ac {P:Program} {f:FuncId} {args:List V} {p q:Pa} {m:M} {R:V->M->Prop} {cs:List V} (hm:m.blk p=some cs) (h:¬ q <:+ p->((∀a,(a::q=p)=False)/\(∀a,(p=a::q)=False)/\(∀a b c,(a::b::c::q=p)=False)/\(∀a b c,(p=a::b::c::q)=False)/\(∀a b c d e,(a::b::c::d::e::q=p)=False)/\∀a b c d e,(p=a::b::c::d::e::q)=False)->(∀cs',cs=cs'->m.set p cs'=m)->SC P f args q m R):SC P f args q m R:=
 SC.apart hm λhp=>h hp (pz3 hp) λ_ e=>e ▸ Jh hm
theorem cH {P:Program} {m:M} {f:FuncId} {fn:Func} {body:Code} {args:List V} {q:Pa} {R:V->M->Prop} (hf:P.funcs[f]? = some fn) (hen:∀(xs:Array Value) (w:World),(callFunc f xs).run P w=.ok (.enter f xs) w) {N:Nat} (hN:fn.ntmps=N) {rs:Array ResultVar} (hrs:fn.results=rs) (hb:fn.body=some body)
 (h:SW P N q body 0 (XE args) m λe _ E' m'=>(e=.ret ∨ e=.normal)/\Mu P E' m' rs.toList λr=>R r.weak (m.back q m')) (hfit:IO N body=true:=by kernel_rfl):SC P f args q m R:=SC_w hf hb hen hN hfit hrs h
theorem SC.wva {P:Program} {m:M} {f:FuncId} {vs args:List V} {q:Pa} {R:V->M->Prop} (hv:vs.map V.weak1=args) (h:SC P f args q m R):SC P f vs q m R:=SC.weak (hv ▸ h)
structure Off (n:Nat):Prop where
 h:True
theorem Zm {P:Program} {rs:List ResultVar} {E:gE} {m:M} {q:Pa} {k t T off:Nat} {b:Pa} {cs:List V} {rows:List (List V)} {v:V} (o:Off off) (h1:rs=[.cell t T]) (h2:E t=.ptr b 0) (h3:q <:+ b) (h4:m.blk b=some cs) (h5:oC P T=some true) (h6:cC P T=some cs.length) (h7:cs[off]? = some (.list .self rows)) (h8:.agg ((cs.map V.shared).set off (.list (.st (.anon (k::q) 0)) rows))=v):Src P rs E m q k (k::q) 0 v:=h8 ▸ .cell h1 h2 h3 h4 h5 h6 h7
theorem SC_vo {P:Program} {m:M} {f:FuncId} {fn:Func} {body:Code} {args:List V} {q:Pa} {R:V->M->Prop} (hf:P.funcs[f]? = some fn) (hen:∀(xs:Array Value) (w:World),(callFunc f xs).run P w=.ok (.enter f xs) w) {N:Nat} (hN:fn.ntmps=N) {rs:Array ResultVar} (hrs:fn.results=rs) (off:Nat) (hb:fn.body=some body)
 (h:Off off->SW P N q body 0 (XE args) m λe k E' m'=>(e=.ret ∨ e=.normal)/\∃id j v,q <:+ id/\Src P rs.toList E' m' q k id j v/\R v ((m.back q m').tokset id j true)) (hfit:IO N body=true:=by kernel_rfl):SC P f args q m R:=by
 subst hrs;exact SC_ofO hf hb hen hN hfit (h ⟨trivial⟩)
theorem wk {β:Type} {x o:Option β} {r:β} {G:Prop} (H:Hn) (q0:Pa) (m0:M) (e:x=o) (h:x=some r) (k:Gy H q0 m0 o r G:=by repeat' first | ((with_reducible refine A_sw ?_);first | with_reducible refine A_jr ‹_› (by cbv) (λ_ _=>?_) (λ_ _ _=>?_) | with_reducible refine A_jb ‹_› (by cbv) (λ_ _=>?_) (λ_ _ _=>?_) | with_reducible refine A_jbS ‹_› (by cbv) (λ_ _=>?_) (λ_ _ _=>?_) | with_reducible refine A_jt ‹_› (by cbv) (λ_ _=>?_) (λ_ _ _=>?_) | with_reducible refine A_stamp (by simp only [*,go_sem,seval];first | done | rfl) (by cbv) ?_ | with_reducible refine A_sr λ_ _=>?_ | with_reducible refine A_sd _ (by cbv) (by kernel_rfl) (by kernel_rfl) λ_ _=>?_ | with_reducible refine SM.map aR ?_ | with_reducible refine A_r λ_ _=>?_ | with_reducible refine A_cond (by simp only [*,go_sem,seval];first | done | rfl) ?_ | with_reducible refine SM.map dA ?_ | with_reducible refine SM.map dY ?_ | with_reducible refine SM.map dI ?_ | with_reducible refine SM.map lM ?_ | with_reducible refine A_d _ (by cbv) (by kernel_rfl) (by kernel_rfl) λ_ _=>?_ | with_reducible refine A_loop1 ‹_› (λ_=>by with_unfolding_all rfl) (by cbv) (by simp only [sI,NH,Pc.P,xD,xE,Cs,Nc, *,go_sem,seval,cJ,eR,cG,cN,gP,iG,jP,Db,Nn]) (λ_ _ _ _ _ _ _=>?_) | with_reducible refine A_loop2 ‹_› (λ_ _=>by with_unfolding_all rfl) (by cbv) (by simp only [sI,NH,Pc.P,xD,xE,Cs,Nc, *,go_sem,seval,cJ,eR,cG,cN,gP,iG,jP,Db,Nn]) (λ_ _ _ _ _ _ _ _=>?_) | with_reducible refine A_loop3 ‹_› (λ_ _ _=>by with_unfolding_all rfl) (by cbv) (by simp only [sI,NH,Pc.P,xD,xE,Cs,Nc, *,go_sem,seval,cJ,eR,cG,cN,gP,iG,jP,Db,Nn]) (λ_ _ _ _ _ _ _ _ _=>?_) | with_reducible refine A_loop4 ‹_› (λ_ _ _ _=>by with_unfolding_all rfl) (by cbv) (by simp only [sI,NH,Pc.P,xD,xE,Cs,Nc, *,go_sem,seval,cJ,eR,cG,cN,gP,iG,jP,Db,Nn]) (λ_ _ _ _ _ _ _ _ _ _=>?_)) | with_reducible refine A_need (by (try simp only [oY,qB,sY,Lk]);first | done | rfl) λ_=>?_ | with_reducible refine A_idxk λ_ _ _ _ _ _=>?_ | with_reducible refine A_idx (by (try simp only [Int.reduceToNat]);rfl) λ_ _ _ _ _=>?_ | with_reducible refine A_inl ?_ | with_reducible refine A_inr ?_ | with_reducible refine A_itet (by assumption) ?_ | with_reducible refine A_itef (by assumption) ?_ | ((with_reducible refine A_fx ?_);(try (rename IT (_=_)=>z;clear z));(with_reducible refine A_fix λ_ _=>?_)) | ((with_reducible refine A_K ‹IT _› ?_);(try (rename IT (∀_ _ _,_)=>z;clear z))) | with_reducible refine A_tn ?_ | with_reducible refine A_bn ?_ | with_reducible refine A_tr ?_ | with_reducible refine A_br ?_ | with_reducible refine A_te ?_ | with_reducible refine A_ct ?_ | with_reducible refine A_cf ?_ | ((with_reducible refine Sp ?_);refine A_call ‹_› λc _ hx=>?_;refine ⟨_,_,by (apply c;exact hx;(repeat' refine And.intro ?_ ?_);all_goals first | (simp only [*,go_sem,seval,Db];done) | ((try simp only [*,go_sem,seval,Db]);repeat' first | rfl | apply And.intro)),?_⟩;clear hx c) | ((with_reducible refine Sp ?_);refine A_callO ‹_› (by simp only [*,go_sem,seval,Db]) λc _ hx=>?_;refine ⟨_,_,by (apply c;exact hx;(repeat' refine And.intro ?_ ?_);all_goals first | (simp only [*,go_sem,seval,Db];done) | ((try simp only [*,go_sem,seval,Db]);repeat' first | rfl | apply And.intro)),λ_ _ _=>?_⟩;clear hx c) | ((with_reducible refine Sp ?_);refine A_callR ‹_› λc _ hx=>?_;refine ⟨_,by (apply c;exact hx;(repeat' refine And.intro ?_ ?_);all_goals first | (simp only [*,go_sem,seval,Db];done) | ((try simp only [*,go_sem,seval,Db]);repeat' first | rfl | apply And.intro)),λ_ _=>?_⟩;clear hx c) | ((with_reducible refine PI2.mk ?_);(first | rintro ⟨_,rfl,rfl⟩ | rintro ⟨_,_,rfl,rfl⟩)) | ((with_reducible refine PZ.mk ?_);intro hP;simp only [sI,NH,Pc.P,xD,xE,Cs,Nc, *,go_sem,seval,cJ,eR,cG,cN,gP,iG,jP,Db,Nn] at hP;try (repeat first | (with_reducible obtain ⟨_,hP⟩:_/\_:=hP) | (with_reducible obtain ⟨_,hP⟩:∃_,_:=hP))) | with_reducible refine A_unf (by simp only [go_sem];first | done | rfl) ?_ | with_reducible refine A_pop ‹_› ‹MN _ _ _ _› ?_ | ((with_reducible refine A_finJ ‹_› λe=>?_);subst e;refine ⟨by decide,?_⟩;simp only [sI,NH,Pc.P,xD,xE,Cs,Nc, *,go_sem,seval,cJ,eR,cG,cN,gP,iG,jP,Db,Nn];done) | ((with_reducible refine A_finS ‹_› ?_ ?_);(focus decide);simp only [sI,NH,Pc.P,xD,xE,Cs,Nc, *,go_sem,seval,cJ,eR,cG,cN,gP,iG,jP,Db,Nn];done) | ((with_reducible refine A_nx ?_);first | ((with_reducible refine A_next1 ‹_› ?_);simp only [sI,NH,Pc.P,xD,xE,Cs,Nc, *,go_sem,seval,cJ,eR,cG,cN,gP,iG,jP,Db,Nn];done) | ((with_reducible refine A_next2 ‹_› ?_);simp only [sI,NH,Pc.P,xD,xE,Cs,Nc, *,go_sem,seval,cJ,eR,cG,cN,gP,iG,jP,Db,Nn];done) | ((with_reducible refine A_next3 ‹_› ?_);simp only [sI,NH,Pc.P,xD,xE,Cs,Nc, *,go_sem,seval,cJ,eR,cG,cN,gP,iG,jP,Db,Nn];done) | ((with_reducible refine A_next4 ‹_› ?_);simp only [sI,NH,Pc.P,xD,xE,Cs,Nc, *,go_sem,seval,cJ,eR,cG,cN,gP,iG,jP,Db,Nn];done)) | simp only [seval,dN] | ((with_reducible refine Ui ‹_› λe=>?_);subst e;refine ⟨by simp,?_⟩;simp only [sI,NH,Pc.P,xD,xE,Cs,Nc, *,go_sem,seval,cJ,eR,cG,cN,gP,iG,jP,Db,Nn];done) | ((with_reducible refine Ui ‹_› λe=>?_);subst e;refine ⟨by simp,?_⟩;(try simp only [*,go_sem,seval,Db]);exact vt_done (by simp only [*,go_sem,seval,iG,jP,Nn,Db]) (by assumption) (by simp only [*,go_sem,seval,jP,Db]) (by simp only [*,go_sem,seval,jP,Db])) | ((with_reducible refine Ui ‹_› λe=>?_);subst e;refine ⟨by simp,?_⟩;refine ⟨_,_,_,?_,.exact rfl (by simp only [sI,NH,Pc.P,xD,xE,Cs,Nc, *,go_sem,seval,cJ,eR,cG,cN,gP,iG,jP,Db,Nn];first | done | rfl),_,_,?_,by (simp only [sI,NH,Pc.P,xD,xE,Cs,Nc, *,go_sem,seval,cJ,eR,cG,cN,gP,iG,jP,Db,Nn];first | done | rfl),?_⟩;all_goals (simp only [sI,NH,Pc.P,xD,xE,Cs,Nc, *,go_sem,seval,cJ,eR,cG,cN,gP,iG,jP,Db,Nn];done)) | ((with_reducible refine Ui ‹_› λe=>?_);subst e;refine ⟨by simp,?_⟩;refine ⟨_,_,_,?_,.mine rfl (by simp only [sI,NH,Pc.P,xD,xE,Cs,Nc, *,go_sem,seval,cJ,eR,cG,cN,gP,iG,jP,Db,Nn];first | done | rfl) (by simp only [sI,NH,Pc.P,xD,xE,Cs,Nc, *,go_sem,seval,cJ,eR,cG,cN,gP,iG,jP,Db,Nn]),_,_,?_,by (simp only [sI,NH,Pc.P,xD,xE,Cs,Nc, *,go_sem,seval,cJ,eR,cG,cN,gP,iG,jP,Db,Nn];first | done | rfl),?_⟩;all_goals (simp only [sI,NH,Pc.P,xD,xE,Cs,Nc, *,go_sem,seval,cJ,eR,cG,cN,gP,iG,jP,Db,Nn];done)) | ((with_reducible refine Ui ‹_› λe=>?_);subst e;refine ⟨by simp,?_⟩;refine ⟨_,_,_,?_,Zm ‹Off _› rfl (by simp only [sI,NH,Pc.P,xD,xE,Cs,Nc, *,go_sem,seval,cJ,eR,cG,cN,gP,iG,jP,Db,Nn];first | done | rfl) (by simp only [*,go_sem,seval]) (by simp only [sI,NH,Pc.P,xD,xE,Cs,Nc, *,go_sem,seval,cJ,eR,cG,cN,gP,iG,jP,Db,Nn];first | done | rfl) (by simp only [*,go_sem,seval]) (by simp only [*,go_sem,seval];first | done | rfl) rfl rfl,_,_,?_,by (simp only [sI,NH,Pc.P,xD,xE,Cs,Nc, *,go_sem,seval,cJ,eR,cG,cN,gP,iG,jP,Db,Nn];first | done | rfl),?_⟩;all_goals (simp only [sI,NH,Pc.P,xD,xE,Cs,Nc, *,go_sem,seval,cJ,eR,cG,cN,gP,iG,jP,Db,Nn];done)) | simp only [*,go_sem,seval] | with_reducible refine A_and (by omega) ?_ | (refine A_pre ‹_› (by (try simp only [Int.reduceToNat]);rfl) (by intro e;repeat (first | exact pre_idx e | obtain ⟨_,e⟩:=ZE e)) (λ_ hy _ _ _ _=>?_);(rename IT (_=_)=>z;simp only [hy,iX] at z)) | with_reducible refine A_c0 ‹_› (λ_=>?_) (λ_=>?_) | with_reducible refine A_c ‹_› (λ_=>?_) (λ_=>?_) | with_reducible refine A_ite0 ‹_› (λ_=>?_) (λ_=>?_) | with_reducible refine A_ite ‹_› (λ_=>?_) (λ_=>?_)):G:=k.h (e ▸ h)
