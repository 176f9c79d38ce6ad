import Derived.Test.YtljbbjpbefjpiaaGreatDoorPA14
import Derived.Orders
set_option linter.all false
namespace Go.Proofs.YtljbbjpbefjpiaaGreatDoor.Abs
open Go.RowKit
def sI:Op->Bool
 | .store _ _ _=>true
 | .call ⟨.builtin .len,_,_⟩=>false
 | .call ⟨.builtin .min,_,_⟩=>false
 | .call ⟨.builtin .max,_,_⟩=>false
 | .call _=>true
 | _=>false
def FP:Op->Bool
 | .alloc _=>true
 | .box _ _=>true
 | _=>false
def La:Op->Bool
 | .load _ _=>true
 | _=>false
def nE:Op->List Operand
 | .move x=>[x]
 | .assign x=>[x]
 | .pick t x y=>[t,x,y]
 | .box _ x=>[x]
 | .build _ ps=>ps.toList.map (·.2)
 | .buildSlice _ _ ps=>ps.toList.map (·.2)
 | .load _ x=>[x]
 | .store _ a x=>[a,x]
 | .nilCheck x=>[x]
 | .binOp _ _ x y _=>[x,y]
 | .unOp _ _ x=>[x]
 | .convert _ _ x=>[x]
 | .makeFunc _ xs ys=>xs.toList++ys.toList
 | .makeSlice _ l k=>[l,k]
 | .slice _ x lo hi _=>x::(lo.toList++hi.toList)
 | .fieldAddr _ x _=>[x]
 | .field _ x _=>[x]
 | .indexAddr _ x i=>[x,i]
 | .index _ x i=>[x,i]
 | .extract t _=>[t]
 | .call cl=>(match cl.callee with | .value f=>[f] | _=>[])++cl.args.toList
 | _=>[]
def Ek (P:Program) (op:Op) (g:Operand->V) (C:V->Prop):Prop:=
 match op with
 | .move x=>C (g x)
 | .assign x=>C (g x)
 | .pick t x y=>(match g t with | .lit (.bool b)=>C (if b then g x else g y) | _=>False)
 | .build T ps=>zB P T (ps.toList.map λp=>(p.1,g p.2)) C
 | .buildSlice T n ps=>pX P T n (ps.toList.map λp=>(p.1,g p.2)) C
 | .nilCheck x=>(match g x with | .ptr id off=>C (.ptr id off) | .eptr rows i off=>C (.eptr rows i off) | .pp id off=>C (.pp id off) | _=>False)
 | .binOp op T x y _=>qQ P op T x y (g x) (g y) C
 | .unOp op _ x=>sun op (g x) C
 | .convert s d x=>yB P s d (g x) C
 | .makeFunc f xs ys=>C (.fn f (xs.toList.map g) (ys.toList.map g))
 | .makeSlice T (.const a) k=>Ju P T (g (.const a)) (g k) C
 | .slice T x lo hi none=>AI P T (g x) (lo.map g) (hi.map g) C
 | .fieldAddr T x f=>tC P T f (g x) C
 | .field T x f=>BV P T f (g x) C
 | .indexAddr T x i=>vD P T (g x) (g i) C
 | .index T x i=>AJ P T (g x) (g i) C
 | .extract t i=>(match g t with | .tup vs=>(match vs[i]? with | some v=>C v | none=>False) | _=>False)
 | .call ⟨.builtin .len,xs,ts⟩=>(match ts[0]?,xs.toList with | some T,[x]=>Hl P T (g x) C | _,_=>False)
 | .call ⟨.builtin .min,xs,_⟩=>(match xs.toList with | [x,y]=>qP false (g x) (g y) C | _=>False)
 | .call ⟨.builtin .max,xs,_⟩=>(match xs.toList with | [x,y]=>qP true (g x) (g y) C | _=>False)
 | _=>False
section
variable {P:Program} {o:Oper} {q:Pa} {E E1:fC} {m m1:M}
theorem Hk {C:V->M->Prop} (h:Ek P o.op (ev m E) (λv=>C v m)):fP P o q E m C:=by
 obtain ⟨dst,op,ty,pos,after,guard⟩:=o;cases op with
 | call cl=>
   obtain ⟨callee,args,ats⟩:=cl;cases callee with
   | builtin b=>cases b <;> first | exact h | exact h.elim
   | _=>exact h.elim
 | slice T x lo hi mx=>cases mx <;> first | exact h | exact h.elim
 | makeSlice T l k=>cases l <;> first | exact h | exact h.elim
 | _=>first | exact h | exact h.elim
theorem FH {op:Op} {g g1:Operand->V} {C:V->Prop} (h:Ek P op g C) (hg:∀x ∈ nE op,g1 x=g x):Ek P op g1 C:=by
 cases op with
 | call cl=>
   obtain ⟨callee,args,ats⟩:=cl;cases callee with
   | builtin b=>
     cases b <;> first
      | exact h.elim
      | (simp only [Ek] at h ⊢
         split at h
         ·rename_i he;simp only [nE,he,iV,BP,kE,or_false] at hg
          simp_all
         ·exact h.elim)
      | (simp only [Ek] at h ⊢
         split at h
         ·rename_i hT he;simp only [nE,he,iV,BP,kE,or_false] at hg
          simp_all
         ·exact h.elim)
   | _=>exact h.elim
 | build T ps=>
   have:(ps.toList.map λp=>(p.1,g1 p.2))=ps.toList.map λp=>(p.1,g p.2):=xdm λp hp=>by
    rw [hg p.2 (by simp only [nE,Ge];exact ⟨p,hp,rfl⟩)]
   simp only [Ek] at h ⊢;rw [this];exact h
 | buildSlice T n ps=>
   have:(ps.toList.map λp=>(p.1,g1 p.2))=ps.toList.map λp=>(p.1,g p.2):=xdm λp hp=>by
    rw [hg p.2 (by simp only [nE,Ge];exact ⟨p,hp,rfl⟩)]
   simp only [Ek] at h ⊢;rw [this];exact h
 | makeFunc f xs ys=>
   have h1:xs.toList.map g1=xs.toList.map g:=xdm λp hp=>hg p (by simp [nE];exact .inl (by simpa using hp));have h2:ys.toList.map g1=ys.toList.map g:=xdm λp hp=>hg p (by simp [nE];exact .inr (by simpa using hp));simp only [Ek] at h ⊢;rw [h1,h2];exact h
 | slice T x lo hi mx=>
   cases mx with
   | some _=>exact h.elim
   | none=>
     have h0:=hg x (by simp [nE])
     have h1:lo.map g1=lo.map g:=by
      cases lo with
      | none=>rfl
      | some l=>simp [hg l (by simp [nE])]
     have h2:hi.map g1=hi.map g:=by
      cases hi with
      | none=>rfl
      | some l=>simp [hg l (by simp [nE])]
     simp only [Ek] at h ⊢;rw [h0,h1,h2];exact h
 | makeSlice T l k=>
   cases l with
   | const a=>
     have h1:=hg (.const a) (by simp [nE]);have h2:=hg k (by simp [nE]);simp only [Ek] at h ⊢;rw [h1,h2];exact h
   | _=>exact h.elim
 | _=>
   first
    | exact h.elim
    | (simp only [nE,BP,kE,or_false,forall_eq_or_imp,forall_eq] at hg
       simp only [Ek] at h ⊢;simp only [hg];exact h)
def EB (P:Program) (op:Op) (g:Operand->V):Option (List V):=
 match op with
 | .alloc T=>eZ P T
 | .box _ x=>if (g x).cellsOk then some (g x).cells else none
 | _=>none
theorem JY {op:Op} {g g1:Operand->V} (hg:∀x ∈ nE op,g1 x=g x):EB P op g1=EB P op g:=by
 cases op with
 | box T x=>simp only [EB];rw [hg x (by simp [nE])]
 | _=>rfl
theorem MO {c:Conc} {w:World} {a:Act} {N:Nat} {vs:List V} (h:EB P o.op (ev m E)=some vs) (hE:nG c E a N) (hR:iK c m w) :
  ∃cs T,CR c vs cs/\(∀u ∈ cs,u.oneCell'=true)/\(execOp a.eval o).run P w=.ok (.value (.pointer (some ⟨w.heap.size,0,none⟩))) (w.alloc (.cells cs.toArray T)):=by
 obtain ⟨dst,op,ty,pos,after,guard⟩:=o;cases op with
 | alloc T=>
   obtain ⟨z,hz1,hz2,hz3⟩:=uM (P:=P) (T:=T) h c;exact ⟨z.cells.toList,T,hz2,hz3,by simp [execOp,Instr.alloc,hz1 w,newVar,newRow]⟩
 | box T x=>
   simp only [EB] at h
   split at h
   ·rename_i ho
    injection h with h
    obtain ⟨k1,k2⟩:=Ab (hE.ev hR x) ho;exact ⟨(a.eval x).cells.toList,T,by rw [←h];exact k1,k2,by simp [execOp,Instr.box,newVar,newRow]⟩
   ·cases h
 | _=>cases h
theorem Oh {C:V->M->Prop} (hk:sI o.op=true) (h:fP P o q E m C) (hg:∀x ∈ nE o.op,ev m E1 x=ev m E x):fP P o q E1 m C:=by
 obtain ⟨dst,op,ty,pos,after,guard⟩:=o;cases op with
 | store T a x=>
   simp only [nE,BP,kE,or_false,forall_eq_or_imp,forall_eq] at hg;simp only [fP] at h ⊢;rw [hg.1,hg.2];exact h
 | call cl=>
   obtain ⟨callee,args,ats⟩:=cl;cases callee with
   | builtin b=>
     cases b <;> first
      | exact h.elim
      | (simp only [fP,ER] at h ⊢
         split at h
         ·rename_i he;simp only [nE,he,iV,BP,kE,or_false,forall_eq_or_imp,forall_eq] at hg
          first
           | (simp only [hg];exact h)
           | (simp only [hg.1,hg.2];exact h)
         ·exact h.elim)
      | (simp only [fP,ER] at h ⊢
         split at h
         ·rename_i hT he;simp only [nE,he,iV,BP,kE,or_false,forall_eq_or_imp,forall_eq] at hg
          first
           | (simp only [hg];exact h)
           | (simp only [hg.1,hg.2];exact h)
         ·exact h.elim)
   | value f=>
     have h1:args.toList.map (ev m E1)=args.toList.map (ev m E):=xdm λx hx=>hg x (by simp only [nE,BQ];exact .inr hx);have h0:=hg f (by simp [nE]);simp only [fP,ER] at h ⊢;rw [h0,h1];exact h
   | _=>exact h.elim
 | _=>cases hk
end
structure Ev where
 i:Nat
 f:Nat
 o:Oper
 run:Bool
 v:V
 E:fC
 m:M
 m':M
 hist:List M
 ac:List V
def Ev.ef (e:Ev):Bool:=sI e.o.op
def Ev.al (e:Ev):Bool:=e.run && FP e.o.op
def Gate (full:List Oper) (g:Option (Nat × Bool)) (E:fC) (run:Bool):Prop:=
 match g with
 | none=>run=true
 | some (j,b)=>∃d,(full[j]?).bind (·.dst)=some d/\((∃t,E d=.lit (.bool t)/\run=decide (t=b)) ∨ ((∃vs,E d=.lit (.tuple vs))/\run=false))
def popv (P:Program) (op:Op) (f:Nat) (g:Operand->V) (v:V):Prop:=
 match op with
 | .buildSlice T n ps=>if f=1 then Ek P (.buildSlice T n ps) g (λr=>r=.list .exact [])/\v=.nilv else Ek P (.buildSlice T n ps) g (λr=>r=v)
 | op=>Ek P op g (λr=>r=v)
theorem KO {c:Conc} {o:Im} {x:Value} (ho:o=.exact ∨ ∃s,o=.st s) (h:CR c [.list o []] [x]):CR c [.nilv] [x]:=by
 obtain ⟨a,cap,es,sz,rfl,k1,k2,kz,k3,k4,k5,k6,kc,k7⟩:=h.inv_list
 have:cap=0:=by
  rcases ho with rfl | ⟨s,rfl⟩
  ·exact k7.1
  ·rcases k7 with ⟨_,h2⟩ | ⟨b,_,_,h2⟩
   ·exact h2
   ·exact absurd h2 (by simp)
 subst this;exact .nilv .nil
def QC (P:Program) (o:Oper) (q:Pa) (E:fC) (m:M) (C:V->M->Prop):Prop:=fP P o q E m C ∨ (fP P o q E m (λr m1=>r=.list .exact []/\m1=m)/\C .nilv m)
theorem nG.nil0 {c:Conc} {a:Act} {N:Nat} {E:fC} {d:Option Nat} (h:nG c (jW d (.list .exact []) E) a N):nG c (jW d .nilv E) a N:=by
 cases d with
 | none=>exact h
 | some d=>
   refine ⟨h.1,λt=>?_⟩;have h2:CR c [if t=d then .list .exact [] else E t] [a.tmps.getD t undef]:=h.2 t;show CR c [if t=d then .nilv else E t] _
   by_cases e:t=d
   ·rw [if_pos e] at h2 ⊢;exact KO (.inl rfl) h2
   ·rw [if_neg e] at h2 ⊢;exact h2
theorem QB {P:Program} {o:Oper} {q:Pa} {E:fC} {m:M} {c:Conc} {a:Act} {w:World} {N:Nat} {C:V->M->Prop} (hs:QC P o q E m C) (h:iK c m w) (hE:nG c E a N) (hf:sD c q) (hd:∀d,o.dst=some d->d<N) (Q:Exit->Act->World->Prop):o.wp P a w (NM q N o c E m w a C) Q:=by
 rcases hs with hs | ⟨h1,h2⟩
 ·exact yQ hs h hE hf hd Q
 ·refine Oper.wp_mono ?_ (yQ h1 h hE hf hd Q);rintro a' w' ⟨c',v,m',⟨rfl,rfl⟩,hR,hX,hE',hdf⟩;exact ⟨c',.nilv,m',h2,hR,hX,hE'.nil0,hdf⟩
theorem OV {P:Program} {o:Oper} {q:Pa} {E:fC} {m:M} {f:Nat} {g:Operand->V} {v:V} (h:popv P o.op f g v) (hg:∀x ∈ nE o.op,ev m E x=g x):QC P o q E m (λr m1=>r=v/\m1=m):=by
 have e0:∀v:V,(λr=>r=v/\m=m)=λr=>r=v:=λv=>by funext r;simp
 have pp:∀v,Ek P o.op g (λr=>r=v)->fP P o q E m (λr m1=>r=v/\m1=m):=λv h=>Hk (C:=λr m1=>r=v/\m1=m) (by show Ek P o.op (ev m E) (λr=>r=v/\m=m);rw [e0];exact FH h hg);obtain ⟨dst,op,ty,pos,after,guard⟩:=o;cases op with
 | buildSlice T n ps=>
   simp only [popv] at h
   split at h
   ·exact .inr ⟨pp _ h.1,h.2.symm,rfl⟩
   ·exact .inl (pp _ h)
 | _=>exact .inl (pp _ h)
def Did (P:Program) (q:Pa) (e:Ev):Prop:=
 if sI e.o.op then fP P e.o q e.E e.m (λr m1=>r=e.v/\m1=e.m')/\e.m'.gl=e.m.gl
 else if FP e.o.op then EB P e.o.op (ev e.m e.E)=some e.ac/\e.v=.ptr q 0/\e.m'=e.m.set q (e.ac.map V.raw0)
 else match e.o.op with
  | .load T x=>(∀m1 ∈ e.m::e.hist.take e.f,pP P m1 T (ev e.m e.E x) (λr=>r=e.v))/\e.m'=e.m
  | op=>popv P op e.f (ev e.m e.E) e.v/\e.m'=e.m
def IA (P:Program) (full:List Oper) (π:Pa) (k0:Nat) (e:Ev):Prop:=
 full[e.i]? = some e.o/\Gate full e.o.guard e.E e.run/\(e.run=false->e.v=.lit undef/\e.m'=e.m)/\(e.run=true->Did P ((k0+e.i)::π) e)
def Iz:List Ev->fC->M->List M->Prop
 | [],_,_,_=>True
 | e::tr,E,m,hist=>e.E=E/\e.m=m/\e.hist=hist/\Iz tr (jW e.o.dst e.v E) e.m' (if e.ef then m::hist else hist)
def tL:List Ev->fC->fC
 | [],E=>E
 | e::tr,E=>tL tr (jW e.o.dst e.v E)
def wV:List Ev->M->M
 | [],m=>m
 | e::tr,_=>wV tr e.m'
def dop (P:Program) (op:Op) (o:Oper) (f:Nat) (q:Pa) (hist:List M) (E:fC) (m:M) (C:V->M->List M->Prop):Prop:=
 match op with
 | .load T x=>∃v,pP P m T (ev m E x) (λr=>r=v)/\(∀m1 ∈ hist.take f,pP P m1 T (ev m E x) (λr=>r=v))/\C v m hist
 | .alloc T=>∃vs,eZ P T=some vs/\C (.ptr q 0) (m.set q (vs.map V.raw0)) hist
 | .box _ x=>(ev m E x).cellsOk=true/\C (.ptr q 0) (m.set q ((ev m E x).cells.map V.raw0)) hist
 | op=>if sI op then ∃v m',fP P o q E m (λr m1=>r=v/\m1=m')/\m'.gl=m.gl/\C v m' (m::hist)
   else ∃v,popv P op f (ev m E) v/\C v m hist
def PD (P:Program) (full:List Oper) (π:Pa) (k0:Nat) (K:Nat->fC->M->Prop):List (Nat × Nat)->List M->fC->M->Prop
 | [],_,E,m=>K (k0+full.length) E m
 | (i,f)::bO,hist,E,m=>
   match full[i]? with
   | none=>False
   | some o=>
     match o.guard with
     | none=>dop P o.op o f ((k0+i)::π) hist E m (λv m' hist'=>PD P full π k0 K bO hist' (jW o.dst v E) m')
     | some (j,b)=>
       match (full[j]?).bind (·.dst) with
       | none=>False
       | some d=>
         match E d with
         | .lit (.bool t)=>if t=b then dop P o.op o f ((k0+i)::π) hist E m (λv m' hist'=>PD P full π k0 K bO hist' (jW o.dst v E) m') else PD P full π k0 K bO (if sI o.op then m::hist else hist) (jW o.dst (.lit undef) E) m
         | .lit (.tuple _)=>PD P full π k0 K bO (if sI o.op then m::hist else hist) (jW o.dst (.lit undef) E) m
         | _=>False
section
variable {P:Program} {full:List Oper} {π:Pa} {k0:Nat} {K:Nat->fC->M->Prop}
theorem dop_did {o:Oper} {i f:Nat} {q:Pa} {hist:List M} {E:fC} {m:M} {C:V->M->List M->Prop} (h:dop P o.op o f q hist E m C) :
  ∃v m' ac,C v m' (if sI o.op then m::hist else hist)/\Did P q ⟨i,f,o,true,v,E,m,m',hist,ac⟩:=by
 unfold dop at h
 split at h
 ·rename_i T x ho;obtain ⟨v,h1,h2,h3⟩:=h;refine ⟨v,m,[],by rw [ho];exact h3,?_⟩;unfold Did;simp only [ho,sI,FP,BN,if_false];refine ⟨λm1 hm1=>?_,trivial⟩
  rcases BP.1 hm1 with rfl | hm1
  ·exact h1
  ·exact h2 m1 hm1
 ·rename_i T ho;obtain ⟨vs,h1,h2⟩:=h;refine ⟨_,_,vs,by rw [ho];exact h2,?_⟩;unfold Did;simp only [ho,sI,FP,BN,if_false,if_true];exact ⟨h1,trivial,trivial⟩
 ·rename_i T x ho;obtain ⟨h1,h2⟩:=h;refine ⟨_,_,(ev m E x).cells,by rw [ho];exact h2,?_⟩;unfold Did;simp only [ho,sI,FP,BN,if_false,if_true];exact ⟨by simp only [EB,h1,if_true],trivial,trivial⟩
 ·rename_i n1 n2 n3
  split at h
  ·rename_i he;obtain ⟨v,m',h1,h2,h3⟩:=h;refine ⟨v,m',[],by rw [he];exact h3,?_⟩;unfold Did;rw [if_pos he];exact ⟨h1,h2⟩
  ·rename_i he;obtain ⟨v,h1,h3⟩:=h;refine ⟨v,m,[],by rw [if_neg he];exact h3,?_⟩;unfold Did
   have ha:FP o.op=false:=by
    cases hop:o.op with
    | alloc T=>exact absurd hop (n2 T)
    | box T x=>exact absurd hop (n3 T x)
    | _=>rfl
   simp only [he,ha,BN,if_false];exact ⟨h1,trivial⟩
theorem SD:∀(ord:List (Nat × Nat)) (hist:List M) (E:fC) (m:M),PD P full π k0 K ord hist E m ->
  ∃tr:List Ev,tr.map (λe=>(e.i,e.f))=ord/\Iz tr E m hist/\(∀e ∈ tr,IA P full π k0 e)/\K (k0+full.length) (tL tr E) (wV tr m):=by
 intro ord
 induction ord with
 | nil=>intro hist E m h;exact ⟨[],rfl,trivial,by simp,h⟩
 | cons p bO ih=>
   intro hist E m h;obtain ⟨i,f⟩:=p;simp only [PD] at h
   split at h
   ·exact h.elim
   ·rename_i o ho
    have skip:∀(hg:Gate full o.guard E false),PD P full π k0 K bO (if sI o.op then m::hist else hist) (jW o.dst (.lit undef) E) m ->
      ∃tr:List Ev,tr.map (λe=>(e.i,e.f))=(i,f)::bO/\Iz tr E m hist/\(∀e ∈ tr,IA P full π k0 e)/\K (k0+full.length) (tL tr E) (wV tr m):=by
     intro hg h';obtain ⟨tr,h1,h2,h3,h4⟩:=ih _ _ _ h';refine ⟨⟨i,f,o,false,.lit undef,E,m,m,hist,[]⟩::tr,by simp [h1],⟨rfl,rfl,rfl,h2⟩,λe he=>?_,h4⟩
     rcases BP.1 he with rfl | he
     ·exact ⟨ho,hg,λ_=>⟨rfl,rfl⟩,λe=>by cases e⟩
     ·exact h3 e he
    have run:∀(hg:Gate full o.guard E true),dop P o.op o f ((k0+i)::π) hist E m (λv m' hist'=>PD P full π k0 K bO hist' (jW o.dst v E) m') ->
      ∃tr:List Ev,tr.map (λe=>(e.i,e.f))=(i,f)::bO/\Iz tr E m hist/\(∀e ∈ tr,IA P full π k0 e)/\K (k0+full.length) (tL tr E) (wV tr m):=by
     intro hg h';obtain ⟨v,m',ac,h1,hd⟩:=dop_did (i:=i) h';obtain ⟨tr,h1,h2,h3,h4⟩:=ih _ _ _ h1;refine ⟨⟨i,f,o,true,v,E,m,m',hist,ac⟩::tr,by simp [h1],⟨rfl,rfl,rfl,h2⟩,λe he=>?_,h4⟩
     rcases BP.1 he with rfl | he
     ·exact ⟨ho,hg,λe=>Bool.noConfusion e,λ_=>hd⟩
     ·exact h3 e he
    split at h
    ·rename_i hg;exact run (by rw [hg];rfl) h
    ·rename_i j b hg
     split at h
     ·exact h.elim
     ·rename_i d hd
      split at h
      ·rename_i t ht
       split at h
       ·rename_i htb;exact run (by rw [hg];exact ⟨d,hd,.inl ⟨t,ht,by simp [htb]⟩⟩) h
       ·rename_i htb;exact skip (by rw [hg];exact ⟨d,hd,.inl ⟨t,ht,by simp [htb]⟩⟩) h
      ·rename_i vs ht;exact skip (by rw [hg];exact ⟨d,hd,.inr ⟨⟨vs,ht⟩,rfl⟩⟩) h
      ·exact h.elim
end
def Mr (full:List Oper) (o:Oper):List Nat:=match o.guard with | some (j,_)=>((full[j]?).bind (·.dst)).toList | none=>[]
def sX (full:List Oper) (o:Oper):List Nat:=((nE o.op).filterMap λ| .tmp t=>some t | _=>none)++Mr full o
def wI (tbl:List Nat) (x y:Nat):Bool:=(tbl.getD y 0).testBit x
abbrev Key:=Nat × Nat × Oper
def JC (full:List Oper) (tbl:List Nat) (x y:Key):Bool:=
 x.1 != y.1 &&
 (match x.2.2.dst with | some d=>!((sX full y.2.2).contains d || y.2.2.dst == some d) || wI tbl x.1 y.1 | none=>true) &&
 (match y.2.2.dst with | some d=>!((sX full x.2.2).contains d) || wI tbl x.1 y.1 | none=>true) &&
 (!(sI y.2.2.op) || !(sI x.2.2.op || FP x.2.2.op || La x.2.2.op) || wI tbl x.1 y.1)
def pw {α:Type} (r:α->α->Bool):List α->Bool
 | []=>true
 | a::l=>l.all (r a) && pw r l
def IP (tbl:List Nat):List Key->List Nat->Bool
 | [],_=>true
 | (i,f,o)::l,efs=>(!(La o.op) || (efs.drop f).all λj=>wI tbl j i) && IP tbl l (if sI o.op then i::efs else efs)
def Da (full:List Oper) (tbl:List Nat):Bool:=
 full.zipIdx.all λp=>(tbl.getD p.2 0 == p.1.after.toList.foldl (λs e=>if Region.binds .any e then s ||| 2 ^ e.on ||| tbl.getD e.on 0 else s) 0) && p.1.after.toList.all λe=>!(Region.binds .any e) || decide (e.on<p.2)
def keys (full:List Oper) (ord:List (Nat × Nat)):List Key:=ord.map λp=>(p.1,p.2,full.getD p.1 default)
def dOk (full:List Oper) (tbl:List Nat) (ord:List (Nat × Nat)):Bool:=
 (List.range full.length).all (λi=>(ord.map (·.1)).contains i) && pw (JC full tbl) (keys full ord) && IP tbl (keys full ord) [] && Da full tbl
theorem pw_app {α:Type} {r:α->α->Bool} {A B:List α} (h:pw r (A++B)=true):∀x ∈ A,∀y ∈ B,r x y=true:=by
 induction A with
 | nil=>intro x hx;cases hx
 | cons a A ih=>
   simp only [iC,pw,BO,EG] at h;intro x hx y hy
   rcases BP.1 hx with rfl | hx
   ·exact h.1 y (by simp [hy])
   ·exact ih h.2 x hx y hy
theorem Mu {tbl:List Nat} {es:List Edge}:∀(s:Nat) (j:Nat),(es.foldl (λs e=>if Region.binds .any e then s ||| 2 ^ e.on ||| tbl.getD e.on 0 else s) s).testBit j=true ->
  s.testBit j=true ∨ ∃e ∈ es,Region.binds .any e=true/\(e.on=j ∨ wI tbl j e.on=true):=by
 induction es with
 | nil=>intro s j h;exact .inl h
 | cons e es ih=>
   intro s j h;rw [List.foldl_cons] at h
   rcases ih _ j h with h | ⟨e',he',h⟩
   ·split at h
    ·rename_i hb;rw [Nat.testBit_or,Nat.testBit_or,Kq,Kq] at h
     rcases h with (h | h) | h
     ·exact .inl h
     ·refine .inr ⟨e,by simp,hb,.inl ?_⟩;rw [Nat.testBit_two_pow] at h;simpa using h
     ·exact .inr ⟨e,by simp,hb,.inr h⟩
    ·exact .inl h
   ·exact .inr ⟨e',by simp [he'],h⟩
theorem Hh {full:List Oper} {tbl:List Nat} (h:Da full tbl=true) {i j:Nat} {o:Oper} (ho:full[i]? = some o) (hb:wI tbl j i=true):∃e ∈ o.after.toList,Region.binds .any e=true/\(e.on=j ∨ wI tbl j e.on=true):=by
 have h1:=EG.1 h (o,i) (by rw [List.mem_zipIdx_iff_getElem?];exact ho);simp only [BO,beq_iff_eq] at h1;have hb':(tbl.getD i 0).testBit j=true:=hb;rw [h1.1] at hb'
 rcases Mu 0 j hb' with h2 | h2
 ·simp at h2
 ·exact h2
theorem JN {full:List Oper} {tbl:List Nat} (h:Da full tbl=true) {i:Nat} {o:Oper} (ho:full[i]? = some o) {e:Edge} (he:e ∈ o.after.toList) (hb:Region.binds .any e=true):e.on<i:=by
 have h1:=EG.1 h (o,i) (by rw [List.mem_zipIdx_iff_getElem?];exact ho);simp only [BO] at h1;have h2:=EG.1 h1.2 e he;simpa [hb] using h2
def Ev.key (e:Ev):Key:=(e.i,e.f,e.o)
section
variable {P:Program} {full:List Oper} {π:Pa} {k0:Nat}
theorem HW {A B:List Ev} {E:fC}:tL (A++B) E=tL B (tL A E):=by
 induction A generalizing E with
 | nil=>rfl
 | cons e A ih=>exact ih
theorem HU {A B:List Ev} {m:M}:wV (A++B) m=wV B (wV A m):=by
 induction A generalizing m with
 | nil=>rfl
 | cons e A ih=>exact ih
theorem OU {d1 d2:Option Nat} {v1 v2:V} {E:fC} (h:∀d,d2=some d->d1 ≠ some d):jW d1 v1 (jW d2 v2 E)=jW d2 v2 (jW d1 v1 E):=by
 cases d1 with
 | none=>rfl
 | some a=>
   cases d2 with
   | none=>rfl
   | some b=>
     have hne:a ≠ b:=λe=>h b rfl (by rw [e])
     funext t
     show (if t=a then v1 else if t=b then v2 else E t)=if t=b then v2 else if t=a then v1 else E t
     by_cases h1:t=a
     ·rw [if_pos h1,if_neg (by omega),if_pos h1]
     ·rw [if_neg h1,if_neg h1]
theorem Pk {L:List Ev} {d:Option Nat} {v:V}:∀ {E:fC},(∀e ∈ L,∀t,d=some t->e.o.dst ≠ some t)->tL L (jW d v E)=jW d v (tL L E):=by
 induction L with
 | nil=>intro E _;rfl
 | cons e L ih=>
   intro E h;show tL L (jW e.o.dst e.v (jW d v E))=jW d v (tL L (jW e.o.dst e.v E));rw [OU (λt ht=>h e (by simp) t ht)];exact ih (λx hx=>h x (by simp [hx]))
theorem pE {d:Option Nat} {v:V} {E:fC} {t:Nat} (h:d ≠ some t):jW d v E t=E t:=by
 cases d with
 | none=>rfl
 | some a=>
   show (if t=a then v else E t)=E t;rw [if_neg (λe=>h (by rw [e]))]
theorem putE_at {d:Option Nat} {v:V} {E E':fC} {t:Nat} (h:E t=E' t):jW d v E t=jW d v E' t:=by
 cases d with
 | none=>exact h
 | some a=>
   show (if t=a then v else E t)=if t=a then v else E' t;rw [h]
theorem NC {L:List Ev} {t:Nat}:∀ {E:fC},(∀e ∈ L,e.o.dst ≠ some t)->tL L E t=E t:=by
 induction L with
 | nil=>intro E _;rfl
 | cons e L ih=>
   intro E h;exact (ih (λx hx=>h x (by simp [hx]))).trans (pE (h e (by simp)))
theorem Li {L:List Ev} {p:Ev->Bool} {t:Nat}:∀ {E E':fC},E t=E' t->(∀e ∈ L,p e=false->e.o.dst ≠ some t)->tL (L.filter p) E t=tL L E' t:=by
 induction L with
 | nil=>intro E E' h _;exact h
 | cons e L ih=>
   intro E E' h hp;rw [Qb]
   split
   ·exact ih (putE_at h) (λx hx=>hp x (by simp [hx]))
   ·rename_i hpe;refine ih ?_ (λx hx=>hp x (by simp [hx]));rw [pE (hp e (by simp) (by simpa using hpe))];exact h
theorem Iz.right {A B:List Ev}:∀ {E:fC} {m:M} {hist:List M},Iz (A++B) E m hist->∃h',Iz B (tL A E) (wV A m) h'/\h'=((A.filter Ev.ef).reverse.map (·.m))++hist:=by
 induction A with
 | nil=>intro E m hist h;exact ⟨hist,h,rfl⟩
 | cons e A ih=>
   intro E m hist h;obtain ⟨h1,h2,h3,h4⟩:=h;obtain ⟨h',k1,k2⟩:=ih h4;refine ⟨h',k1,?_⟩;rw [k2,Qb]
   split
   ·rename_i he;rw [List.reverse_cons,MW,xM,←h2];rfl
   ·rfl
theorem Iz.head {e:Ev} {B:List Ev} {E:fC} {m:M} {hist:List M} (h:Iz (e::B) E m hist):e.E=E/\e.m=m/\e.hist=hist:=⟨h.1,h.2.1,h.2.2.1⟩
theorem QQ {m:M} {p p':Pa} {vs vs':List V} (h:p ≠ p'):(m.set p vs).set p' vs'=(m.set p' vs').set p vs:=by
 have:(λi=>if i=p' then some vs' else if i=p then some vs else m.blk i)=λi=>if i=p then some vs else if i=p' then some vs' else m.blk i:=by
  funext i
  by_cases h1:i=p'
  ·rw [if_pos h1,if_neg (λe=>h (e.symm.trans h1)),if_pos h1]
  ·rw [if_neg h1,if_neg h1]
 show M.mk _ m.ver m.tok m.gl m.hp=M.mk _ m.ver m.tok m.gl m.hp;exact congrArg (λb=>M.mk b m.ver m.tok m.gl m.hp) this
theorem KC {L:List (Pa × List V)} {p:Pa} {vs:List V}:∀ {m:M},(∀y ∈ L,y.1 ≠ p)->mU (m.set p vs) L=(mU m L).set p vs:=by
 induction L with
 | nil=>intro m _;rfl
 | cons y L ih=>
   intro m h;show mU ((m.set p vs).set y.1 (y.2.map V.raw0)) L=(mU (m.set y.1 (y.2.map V.raw0)) L).set p vs;rw [QQ (λe=>h y (by simp) e.symm)];exact ih (λx hx=>h x (by simp [hx]))
theorem LW {A B:List (Pa × List V)} {m:M}:mU m (A++B)=mU (mU m A) B:=by simp [mU]
theorem KB {L:List (Pa × List V)} {id:Pa}:∀ {m:M},(mU m L).blk id=none->m.blk id=none/\∀x ∈ L,x.1 ≠ id:=by
 induction L with
 | nil=>intro m h;exact ⟨h,by simp⟩
 | cons x L ih=>
   intro m h;obtain ⟨h1,h2⟩:=ih (m:=m.set x.1 (x.2.map V.raw0)) h;have h1':(if id=x.1 then some (x.2.map V.raw0) else m.blk id)=none:=h1
   split at h1'
   ·cases h1'
   ·rename_i hne;refine ⟨h1',λy hy=>?_⟩
    rcases BP.1 hy with rfl | hy
    ·exact λe=>hne e.symm
    ·exact h2 y hy
theorem BX {L:List (Pa × List V)} {id:Pa}:∀ {m:M},(∀x ∈ L,x.1 ≠ id)->(mU m L).blk id=m.blk id:=by
 induction L with
 | nil=>intro m _;rfl
 | cons x L ih=>
   intro m h;refine (ih (m:=m.set x.1 (x.2.map V.raw0)) (λy hy=>h y (by simp [hy]))).trans ?_;show (if id=x.1 then _ else m.blk id)=_;rw [if_neg (λe=>h x (by simp) e.symm)]
theorem Oz {L:List (Pa × List V)}:∀ {m:M},(mU m L).gl=m.gl:=by
 induction L with
 | nil=>intro m;rfl
 | cons x L ih=>intro m;exact ih (m:=m.set x.1 (x.2.map V.raw0))
theorem BW {L:List (Pa × List V)}:∀ {m:M},(mU m L).ver=m.ver:=by
 induction L with
 | nil=>intro m;rfl
 | cons x L ih=>intro m;exact ih (m:=m.set x.1 (x.2.map V.raw0))
theorem DG {L:List (Pa × List V)}:∀ {m:M},(mU m L).hp=m.hp:=by
 induction L with
 | nil=>intro m;rfl
 | cons x L ih=>intro m;exact ih (m:=m.set x.1 (x.2.map V.raw0))
def tT (π:Pa) (k0:Nat) (e:Ev):Pa:=(k0+e.i)::π
def pv (π:Pa) (k0:Nat) (e:Ev):Pa × List V:=(tT π k0 e,e.ac)
theorem IA.next {e:Ev} (h:IA P full π k0 e) (he:e.ef=false):e.m'=if e.al then e.m.set (tT π k0 e) (e.ac.map V.raw0) else e.m:=by
 obtain ⟨_,_,h1,h2⟩:=h;cases hr:e.run with
 | false=>rw [(h1 hr).2,if_neg (by simp [Ev.al,hr])]
 | true=>
   have hd:=h2 hr;unfold Did at hd;have he':sI e.o.op=false:=he;rw [if_neg (by simp [he'])] at hd;cases ha:FP e.o.op with
   | true=>
     rw [if_pos ha] at hd;rw [if_pos (by simp [Ev.al,hr,ha])];exact hd.2.2
   | false=>
     rw [if_neg (by simp [ha])] at hd;rw [if_neg (by simp [Ev.al,ha])]
     split at hd
     ·exact hd.2
     ·exact hd.2
theorem GT {A:List Ev}:∀ {E:fC} {m:M} {hist:List M} {B:List Ev},Iz (A++B) E m hist->(∀e ∈ A,IA P full π k0 e)->(∀e ∈ A,e.ef=false)->wV A m=mU m ((A.filter Ev.al).map (pv π k0)):=by
 induction A with
 | nil=>intro E m hist B _ _ _;rfl
 | cons e A ih=>
   intro E m hist B h hf hn;obtain ⟨h1,h2,h3,h4⟩:=h;have hnx:=(hf e (by simp)).next (hn e (by simp));have hih:=ih h4 (λx hx=>hf x (by simp [hx])) (λx hx=>hn x (by simp [hx]));show wV A e.m'=_;rw [hih,hnx,Qb]
   split
   ·rename_i ha;rw [h2];rfl
   ·rw [h2]
theorem IA.gl {e:Ev} (h:IA P full π k0 e):e.m'.gl=e.m.gl:=by
 cases he:e.ef with
 | false=>
   rw [h.next he];split <;> rfl
 | true=>
   obtain ⟨_,_,h1,h2⟩:=h;cases hr:e.run with
   | false=>rw [(h1 hr).2]
   | true=>
     have hd:=h2 hr;unfold Did at hd;rw [if_pos (show sI e.o.op=true from he)] at hd;exact hd.2
theorem Iz.gl {tr:List Ev}:∀ {E:fC} {m:M} {hist:List M},Iz tr E m hist->(∀e ∈ tr,IA P full π k0 e)->(∀e ∈ tr,e.m.gl=m.gl)/\(wV tr m).gl=m.gl:=by
 induction tr with
 | nil=>intro E m hist _ _;exact ⟨by simp,rfl⟩
 | cons e tr ih=>
   intro E m hist h hf;obtain ⟨h1,h2,h3,h4⟩:=h;obtain ⟨k1,k2⟩:=ih h4 (λx hx=>hf x (by simp [hx]));have hg:=(hf e (by simp)).gl;rw [h2] at hg;refine ⟨λx hx=>?_,k2.trans hg⟩
   rcases BP.1 hx with rfl | hx
   ·rw [h2]
   ·exact (k1 x hx).trans hg
theorem RC {tbl:List Nat} {A:List Key} {e:Key} {B:List Key}:∀ {efs:List Nat},IP tbl (A++e::B) efs=true->La e.2.2.op=true->∀j ∈ (((A.filter (λx=>sI x.2.2.op)).reverse.map (·.1))++efs).drop e.2.1,wI tbl j e.1=true:=by
 induction A with
 | nil=>
   intro efs h hl;obtain ⟨i,f,o⟩:=e;simp only [iV,IP,BO,Kq] at h
   rcases h.1 with h1 | h1
   ·simp [show La o.op=true from hl] at h1
   ·simpa using h1
 | cons a A ih=>
   intro efs h hl;obtain ⟨i,f,o⟩:=a;simp only [iC,IP,BO] at h;have:=ih h.2 hl;rw [Qb]
   split at this
   ·rename_i he;rw [if_pos he];simpa using this
   ·rename_i he;rw [if_neg he];exact this
end
def zW (D:Nat->Bool) (k:Nat):Nat->Bool:=λi=>D i || i == k
def wJ (D:Nat->Bool) (e:Ev):Bool:=e.al && D e.i
theorem jX {D:Nat->Bool} {k i:Nat} (h:i ≠ k):zW D k i=D i:=by
 unfold zW;rw [beq_eq_false_iff_ne.2 h,Bool.or_false]
theorem pA {D:Nat->Bool} {k:Nat}:zW D k k=true:=by simp [zW]
theorem Cz {D:Nat->Bool} {k:Nat} {e:Ev} (h:e.i ≠ k):wJ (zW D k) e=wJ D e:=by
 unfold wJ;rw [jX h]
structure Pair (full:List Oper) (tbl:List Nat) (x y:Ev):Prop where
 ne:x.i ≠ y.i
 wr:∀d,x.o.dst=some d->d ∈ sX full y.o ∨ y.o.dst=some d->wI tbl x.i y.i=true
 rd:∀d,y.o.dst=some d->d ∈ sX full x.o->wI tbl x.i y.i=true
 ef:y.ef=true->x.ef=true ∨ FP x.o.op=true ∨ La x.o.op=true->wI tbl x.i y.i=true
theorem Pair.of {full:List Oper} {tbl:List Nat} {x y:Ev} (h:JC full tbl x.key y.key=true):Pair full tbl x y:=by
 simp only [JC,BO,bne_iff_ne] at h;obtain ⟨⟨⟨h1,h2⟩,h3⟩,h4⟩:=h;refine ⟨h1,λd hd hy=>?_,λd hd hx=>?_,λhy hx=>?_⟩
 ·have hd':x.key.2.2.dst=some d:=hd;rw [hd'] at h2;simp only [Kq,NU] at h2
  rcases h2 with h2 | h2
  ·rw [xdn] at h2
   rcases hy with hy | hy
   ·have:(sX full y.key.2.2).contains d=true:=xed.2 hy;rw [h2.1] at this;cases this
   ·have:(y.key.2.2.dst == some d)=true:=by rw [show y.key.2.2.dst=some d from hy];simp
    rw [h2.2] at this;cases this
  ·exact h2
 ·have hd':y.key.2.2.dst=some d:=hd;rw [hd'] at h3;simp only [Kq,NU] at h3
  rcases h3 with h3 | h3
  ·have:(sX full x.key.2.2).contains d=true:=xed.2 hx;rw [h3] at this;cases this
  ·exact h3
 ·simp only [Kq,NU] at h4
  rcases h4 with (h4 | h4) | h4
  ·have hy':sI y.key.2.2.op=true:=hy;rw [h4] at hy';cases hy'
  ·rw [xdn,xdn] at h4;have e1:sI x.o.op=false:=h4.1.1;have e2:FP x.o.op=false:=h4.1.2;have e3:La x.o.op=false:=h4.2
   rcases hx with hx | hx | hx
   ·rw [show x.ef=sI x.o.op from rfl,e1] at hx;cases hx
   ·rw [e2] at hx;cases hx
   ·rw [e3] at hx;cases hx
  ·exact h4
theorem Bg {π:Pa} {i j:Nat} (h:(i::π) <:+ (j::π)):i=j:=by
 have:=h.eq_of_length (by simp)
 injection this
theorem OA {L:List (Pa × List V)} {x:Pa × List V}:∀ {m:M},x ∈ L->(∀y ∈ L,y.1=x.1->y.2=x.2)->(mU m L).blk x.1=some (x.2.map V.raw0):=by
 induction L generalizing x with
 | nil=>intro m h;cases h
 | cons y L ih=>
   intro m h hc
   by_cases hz:∃z ∈ L,z.1=x.1
   ·obtain ⟨z,hz1,hz2⟩:=hz;have:=ih (x:=z) (m:=m.set y.1 (y.2.map V.raw0)) hz1 (λu hu he=>by rw [hc u (by simp [hu]) (he.trans hz2),hc z (by simp [hz1]) hz2]);rw [hz2,hc z (by simp [hz1]) hz2] at this;exact this
   ·rcases BP.1 h with rfl | h
    ·refine (BX (m:=m.set x.1 (x.2.map V.raw0)) (λu hu he=>hz ⟨u,hu,he⟩)).trans ?_;show (if x.1=x.1 then some (x.2.map V.raw0) else m.blk x.1)=_;rw [if_pos rfl]
    ·exact absurd ⟨x,h,rfl⟩ hz
theorem Ky {P:Program} {m1 m2:M} {T:TypeId} {u:V} {C:V->Prop} (h:pP P m1 T u C) (hb:∀id off,u=.ptr id off->m1.blk id ≠ none->m2.blk id=m1.blk id/\m2.ver id=m1.ver id) (hh:m2.hp=m1.hp):pP P m2 T u C:=by
 have hc:sQ m2 u=sQ m1 u:=by
  cases u with
  | ptr id off=>
    have hn:m1.blk id ≠ none:=by
     intro hx;simp [pP,sQ,hx] at h
    obtain ⟨e1,e2⟩:=hb id off rfl hn;simp only [sQ,e1,e2]
  | pp id off=>simp only [sQ,hh]
  | _=>rfl
 unfold pP at h ⊢;rw [hc];exact h
theorem NY {full:List Oper} {o:Oper} {E:fC} {run:Bool} {a:Act} {c:Conc} (hg:Gate full o.guard E run) (hE:∀d ∈ Mr full o,CR c [E d] [a.tmps.getD d undef]):Region.wanted o (yielded full.toArray a.tmps)=run:=by
 cases hgd:o.guard with
 | none=>rw [hgd] at hg;simp [Region.wanted,hgd,show run=true from hg]
 | some jb=>
   obtain ⟨j,b⟩:=jb;rw [hgd] at hg;obtain ⟨d,hd,hv⟩:=hg;have hCR:=hE d (by simp [Mr,hgd,hd]);have hd':(full.toArray[j]?).bind (·.dst)=some d:=by simpa using hd
   rcases hv with ⟨t,ht,hr⟩ | ⟨⟨vs,ht⟩,hr⟩
   ·rw [ht] at hCR;have hv':=hCR.inv_lit
    have hy:yielded full.toArray a.tmps j=some t:=by
     unfold yielded;rw [hd'];simp only [bU];rw [EE] at hv';cases hq:a.tmps[d]? with
     | none=>rw [hq] at hv';simp [undef] at hv'
     | some u=>rw [hq] at hv';simp at hv';rw [hv']
    simp only [Region.wanted,hgd,hy,hr];cases t <;> cases b <;> rfl
   ·rw [ht] at hCR;have hv':=hCR.inv_lit
    have hy:yielded full.toArray a.tmps j=none:=by
     unfold yielded;rw [hd'];simp only [bU];rw [EE] at hv';cases hq:a.tmps[d]? with
     | none=>rfl
     | some u=>rw [hq] at hv';simp only [xdy] at hv';rw [hv']
    simp [Region.wanted,hgd,hy,hr]
section
variable {P:Program} {full:List Oper} {π:Pa} {k0 N:Nat} {tr:List Ev} {tbl:List Nat} {E0:fC} {m0:M} {c0:Conc} {w0:World} {a0:Act}
structure AF (P:Program) (full:List Oper) (π:Pa) (k0 N:Nat) (tr:List Ev) (tbl:List Nat) (E0:fC) (m0:M):Prop where
 lnk:Iz tr E0 m0 []
 fact:∀e ∈ tr,IA P full π k0 e
 pw:pw (JC full tbl) (tr.map Ev.key)=true
 ld:IP tbl (tr.map Ev.key) []=true
 dst:∀e ∈ tr,∀d,e.o.dst=some d->d<N
theorem AF.pair (g:AF P full π k0 N tr tbl E0 m0) {A B:List Ev} (ht:tr=A++B) {x y:Ev} (hx:x ∈ A) (hy:y ∈ B):Pair full tbl x y:=by
 have h:=g.pw;rw [ht,MW] at h;exact .of (pw_app h _ (xeo hx) _ (xeo hy))
theorem AF.uniq (g:AF P full π k0 N tr tbl E0 m0) {x e:Ev} (hx:x ∈ tr) (he:e ∈ tr) (hi:x.i=e.i):x=e:=by
 obtain ⟨A,B,ht⟩:=xdo he;rw [ht] at hx
 rcases BQ.1 hx with hx | hx
 ·exact absurd hi (g.pair ht hx (by simp:e ∈ e::B)).ne
 ·rcases BP.1 hx with hx | hx
  ·exact hx
  ·exact absurd hi.symm (g.pair (A:=A++[e]) (B:=B) (x:=e) (by simpa using ht) (by simp) hx).ne
theorem AF.look (g:AF P full π k0 N tr tbl E0 m0) {D:Nat->Bool} (hcl:∀i j,D i=true->wI tbl j i=true->D j=true) {A B:List Ev} {e:Ev} (ht:tr=A++e::B) (hu:D e.i=false) (hr:∀j,wI tbl j e.i=true->D j=true) {t:Nat} (hl:t ∈ sX full e.o) :
  tL (tr.filter (λx=>D x.i)) E0 t=e.E t:=by
 have hE:e.E=tL A E0:=by
  have:=g.lnk;rw [ht] at this
  obtain ⟨h',k,_⟩:=this.right;exact k.head.1
 rw [ht,Qm,Qb,if_neg (by simp [hu]),HW,hE];rw [NC]
 ·refine Li rfl λx hx hp hd=>?_;have:=hr x.i ((g.pair ht hx (by simp:e ∈ e::B)).wr t hd (.inl hl));rw [this] at hp;cases hp
 ·intro y hy hd;rw [Gx] at hy;have:=hcl _ _ hy.2 ((g.pair (A:=A++[e]) (B:=B) (x:=e) (by simpa using ht) (by simp) hy.1).rd t hd hl);rw [hu] at this;cases this
theorem AF.put (g:AF P full π k0 N tr tbl E0 m0) {D:Nat->Bool} (hcl:∀i j,D i=true->wI tbl j i=true->D j=true) {e:Ev} (he:e ∈ tr) (hu:D e.i=false) :
  tL (tr.filter (λx=>zW D e.i x.i)) E0=jW e.o.dst e.v (tL (tr.filter (λx=>D x.i)) E0):=by
 obtain ⟨A,B,ht⟩:=xdo he
 have hA:A.filter (λx=>zW D e.i x.i)=A.filter (λx=>D x.i):=xdp λx hx=>by
  have:=(g.pair ht hx (by simp:e ∈ e::B)).ne;exact jX this
 have hB:B.filter (λx=>zW D e.i x.i)=B.filter (λx=>D x.i):=xdp λx hx=>by
  have:=(g.pair (A:=A++[e]) (B:=B) (x:=e) (by simpa using ht) (by simp) hx).ne;exact jX (Ne.symm this)
 rw [ht,Qm,Qm,Qb,Qb,if_pos (by simp [zW]),if_neg (by simp [hu]),hA,hB,HW,HW];refine Pk λy hy t hd hd'=>?_;rw [Gx] at hy;have:=hcl _ _ hy.2 ((g.pair (A:=A++[e]) (B:=B) (x:=e) (by simpa using ht) (by simp) hy.1).wr t hd (.inr hd'));rw [hu] at this;cases this
theorem AF.ev (g:AF P full π k0 N tr tbl E0 m0) {D:Nat->Bool} (hcl:∀i j,D i=true->wI tbl j i=true->D j=true) {e:Ev} (he:e ∈ tr) (hu:D e.i=false) (hr:∀j,wI tbl j e.i=true->D j=true) {m:M} (hm:m.gl=m0.gl) {x:Operand} (hx:x ∈ nE e.o.op) :
  Abs.ev m (tL (tr.filter (λx=>D x.i)) E0) x=Abs.ev e.m e.E x:=by
 obtain ⟨A,B,ht⟩:=xdo he;cases x with
 | tmp t=>
   refine g.look hcl ht hu hr ?_;unfold sX;rw [BQ];exact .inl (List.mem_filterMap.2 ⟨_,hx,rfl⟩)
 | global n=>
   show m.gl n=e.m.gl n;rw [hm,(g.lnk.gl g.fact).1 e he]
 | _=>rfl
theorem path_ne {x e:Ev} (h:x.i ≠ e.i):¬ tT π k0 e <:+ tT π k0 x:=λhs=>h (by have:=Bg hs;omega)
structure CG (P:Program) (full:List Oper) (π:Pa) (k0 N:Nat) (tr:List Ev) (tbl:List Nat) (E0:fC) (m0:M) (c0:Conc) (w0:World) (a0:Act) (D:Nat->Bool) (c:Conc) (a:Act) (w:World):Prop where
 closed:∀i j,D i=true->wI tbl j i=true->D j=true
 cut:∃A1 A2 S,tr=A1++(A2++S)/\(∀e ∈ A1,e.ef=true->D e.i=true)/\(A1=[] ∨ ∃X e,A1=X++[e]/\e.ef=true)/\(∀e ∈ A2,e.ef=false)/\(∀e ∈ S,e.ef=true->D e.i=false)/\(S=[] ∨ ∃e S1,S=e::S1/\e.ef=true) ∧
  iK c (mU (wV A1 m0) ((A2.filter (wJ D)).map (pv π k0))) w/\oM π c0 m0 w0 c (mU (wV A1 m0) ((A2.filter (wJ D)).map (pv π k0))) w ∧
  uL w0.heap.size c (mU (wV A1 m0) ((A2.filter (wJ D)).map (pv π k0))) w ((S.filter (wJ D)).map (pv π k0))/\∀e ∈ A2,wJ D e=true->(wV A1 m0).blk (tT π k0 e)=none
 env:nG c (tL (tr.filter (λx=>D x.i)) E0) a N
 fresh:∀e ∈ tr,D e.i=false->sD c (tT π k0 e)
 freshK:rB c π (k0+full.length)
 defers:a.defers=a0.defers
theorem agree {D:Nat->Bool} {c:Conc} (g:AF P full π k0 N tr tbl E0 m0) (hfr:∀e ∈ tr,D e.i=false->sD c (tT π k0 e)) {base:M} {L1 L2:List Ev} (h1:∀x ∈ L1,x ∈ tr) (h2:∀x ∈ L2,x ∈ tr) (h12:∀x ∈ L1,D x.i=true->x ∈ L2) (h21:∀x ∈ L2,x ∈ L1 ∨ base.blk (tT π k0 x)=none)
  {id:Pa} (hk:c.ρ id ≠ none) (hb:(mU base (L1.map (pv π k0))).blk id ≠ none):(mU base (L2.map (pv π k0))).blk id=(mU base (L1.map (pv π k0))).blk id:=by
 have key:∀(L:List Ev),(∀x ∈ L,x ∈ tr)->∀x ∈ L,(mU base (L.map (pv π k0))).blk (tT π k0 x)=some (x.ac.map V.raw0):=by
  intro L hL x hx;refine OA (x:=pv π k0 x) (xeo hx) λy hy he=>?_;obtain ⟨z,hz,rfl⟩:=Ge.1 hy;have he':(k0+z.i)::π=(k0+x.i)::π:=he
  injection he' with he'
  rw [g.uniq (hL z hz) (hL x hx) (by omega)]
 by_cases hx:∃x ∈ L1,tT π k0 x=id
 ·obtain ⟨x,hx,rfl⟩:=hx
  have hd:D x.i=true:=by
   cases hd:D x.i with
   | true=>rfl
   | false=>exact absurd ((hfr x (h1 x hx) hd).fA).1 hk
  rw [key L1 h1 x hx,key L2 h2 x (h12 x hx hd)]
 ·have e1:(mU base (L1.map (pv π k0))).blk id=base.blk id:=BX λy hy he=>by
   obtain ⟨z,hz,rfl⟩:=Ge.1 hy;exact hx ⟨z,hz,he⟩
  rw [e1] at hb ⊢;refine BX λy hy he=>?_;obtain ⟨z,hz,rfl⟩:=Ge.1 hy
  rcases h21 z hz with h | h
  ·exact hx ⟨z,h,he⟩
  ·exact hb (by rw [←he];exact h)
theorem Rp {α:Type} {X Z:List α} {y:α} {f:Nat} (h:X.length<f):y ∈ (X++y::Z).take f:=by
 rw [List.take_append];obtain ⟨n,hn⟩:∃n,f - X.length=n+1:=⟨f - X.length - 1,by omega⟩;rw [hn];simp
theorem Rq {α:Type} {X Z:List α} {y:α} {f:Nat} (h:f<=X.length):y ∈ (X++y::Z).drop f:=by
 rw [xek];rw [show f - X.length=0 by omega];simp
theorem CG.step {D:Nat->Bool} {c:Conc} {a:Act} {w:World} (g:AF P full π k0 N tr tbl E0 m0) (hI:CG P full π k0 N tr tbl E0 m0 c0 w0 a0 D c a w) {e:Ev} (he:e ∈ tr) (hu:D e.i=false) (hr:∀j,wI tbl j e.i=true->D j=true) {K:Act->World->Prop} {Q:Exit->Act->World->Prop}
  (hK:∀c' a' w',CG P full π k0 N tr tbl E0 m0 c0 w0 a0 (zW D e.i) c' a' w'->K a' w'):wpOp P full.toArray Q e.i K a w:=by
 obtain ⟨hcl,⟨A1,A2,S,ht,hA1,hA1e,hA2,hS,hSe,hRep,hExt,hHalf,hblank⟩,hEnv,hfr,hfrK,hdef⟩:=hI;obtain ⟨M0,hM0⟩:∃M0,M0=mU (wV A1 m0) ((A2.filter (wJ D)).map (pv π k0)):=⟨_,rfl⟩;rw [←hM0] at hRep hExt hHalf;have hfact:=g.fact e he;obtain ⟨ho,hgate,hskip,hrun⟩:=hfact;have hilt:e.i<full.length:=(uD.1 ho).1;have hput:=g.put hcl he hu
 have hM0gl:M0.gl=m0.gl:=by
  rw [hM0,Oz];have h1:=g.lnk;have:Iz (A1++(A2++S)) E0 m0 []:=by rw [←ht];exact h1
  have hA:∀ {A B:List Ev} {E:fC} {m:M} {h:List M},Iz (A++B) E m h->Iz A E m h:=by
   intro A
   induction A with
   | nil=>intro _ _ _ _ _;trivial
   | cons x A ih=>intro B E m h hl;exact ⟨hl.1,hl.2.1,hl.2.2.1,ih hl.2.2.2⟩
  exact ((hA this).gl (λx hx=>g.fact x (by rw [ht];simp [hx]))).2
 have hev:∀x ∈ nE e.o.op,Abs.ev M0 (tL (tr.filter (λx=>D x.i)) E0) x=Abs.ev e.m e.E x:=λx hx=>g.ev hcl he hu hr hM0gl hx
 have hcl':∀i j,zW D e.i i=true->wI tbl j i=true->zW D e.i j=true:=by
  intro i j hi hb;simp only [zW,Kq,beq_iff_eq] at hi ⊢
  rcases hi with hi | rfl
  ·exact .inl (hcl i j hi hb)
  ·exact .inl (hr j hb)
 have hmem:∀x,x ∈ A1 ∨ x ∈ A2 ∨ x ∈ S->x ∈ tr:=by
  intro x hx;rw [ht];simpa using hx
 have hne_of:∀x ∈ tr,D x.i=true->x.i ≠ e.i:=λx _ hd e'=>by rw [e',hu] at hd;cases hd
 have hhpath:∀x ∈ (S.filter (wJ D)).map (pv π k0),¬ tT π k0 e <:+ x.1:=by
  intro x hx;obtain ⟨z,hz,rfl⟩:=Ge.1 hx;rw [Gx] at hz;refine path_ne (hne_of z (hmem z (.inr (.inr hz.1))) ?_);have:=hz.2;simp only [wJ,BO] at this;exact this.2
 -- what stays fresh
 have hfresh':∀c' m' w',oM (tT π k0 e) c M0 w c' m' w'->(∀x ∈ tr,zW D e.i x.i=false->sD c' (tT π k0 x))/\rB c' π (k0+full.length):=by
  intro c' m' w' hX;refine ⟨λx hx hd id gS=>?_,λj hj id gS=>?_⟩
  ·simp only [zW,xdn,beq_eq_false_iff_ne] at hd;exact hX.fresh id (uV gS (by have:=hd.2;omega)) (hfr x hx hd.1 id gS)
  ·exact hX.fresh id (uV gS (by omega)) (hfrK j hj id gS)
 have hhstep:∀c' m' w',oM (tT π k0 e) c M0 w c' m' w'->uL w0.heap.size c' m' w' ((S.filter (wJ D)).map (pv π k0)):=by
  intro c' m' w' hX;refine ⟨λx hx=>(hHalf.all x hx).step hX (hhpath x hx),λx hx y hy hxy=>?_⟩;obtain ⟨⟨b,_,_,h1,_⟩,_⟩:=hHalf.all x hx;obtain ⟨⟨b2,_,_,h2,_⟩,_⟩:=hHalf.all y hy;rw [hX.le.ρ _ _ h1,hX.le.ρ _ _ h2] at hxy;exact hHalf.inj x hx y hy (by rw [h1,h2];exact hxy)
 -- an operation that writes no memory
 have quiet:∀c' a' w',e.ef=false->e.al=false->iK c' M0 w'->oM (tT π k0 e) c M0 w c' M0 w'->nG c' (jW e.o.dst e.v (tL (tr.filter (λx=>D x.i)) E0)) a' N->a'.defers=a.defers->K a' w':=by
  intro c' a' w' hef hal h1 h2 h3 h4
  have hsame:∀L:List Ev,(∀x ∈ L,x ∈ tr)->L.filter (wJ (zW D e.i))=L.filter (wJ D):=λL hL=>xdp λx hx=>by
   by_cases hi:x.i=e.i
   ·rw [g.uniq (hL x hx) he hi];simp [wJ,hal]
   ·exact Cz hi
  have e1:=hsame A2 (λx hx=>hmem x (.inr (.inl hx)));have e2:=hsame S (λx hx=>hmem x (.inr (.inr hx)));refine hK c' a' w' ⟨hcl',⟨A1,A2,S,ht,λx hx hxe=>by simp [zW,hA1 x hx hxe],hA1e,hA2,λx hx hxe=>?_,hSe,?_,?_,?_,λx hx hxa=>?_⟩,by rw [hput];exact h3,(hfresh' _ _ _ h2).1,(hfresh' _ _ _ h2).2,h4.trans hdef⟩
  ·have hne:x.i ≠ e.i:=λhi=>by rw [g.uniq (hmem x (.inr (.inr hx))) he hi,hef] at hxe;cases hxe
   rw [jX hne];exact hS x hx hxe
  ·rw [e1,←hM0];exact h1
  ·rw [e1,←hM0];exact hExt.trans h2.up
  ·rw [e1,e2,←hM0];exact hhstep _ _ _ h2
  ·have:x ∈ A2.filter (wJ (zW D e.i)):=Gx.2 ⟨hx,hxa⟩;rw [e1] at this;exact hblank x hx (Gx.1 this).2
 -- an operation whose effects are done isn't before them
 have notA1:e.ef=false->FP e.o.op=true ∨ La e.o.op=true->e ∉ A1:=by
  intro hef hk hx
  rcases hA1e with h0 | ⟨X,e',h0,hef'⟩
  ·rw [h0] at hx;cases hx
  ·rw [h0] at hx
   rcases BQ.1 hx with hx | hx
   ·have hb:=(g.pair (A:=X) (B:=e'::(A2++S)) (by rw [ht,h0];simp) hx (by simp)).ef hef' (.inr hk);have:=hcl _ _ (hA1 e' (by rw [h0];simp) hef') hb;rw [hu] at this;cases this
   ·rw [DX.1 hx,hef'] at hef;cases hef
 -- an effect
 have effect:e.ef=true->M0=e.m/\∀c' a' w',iK c' e.m' w'->oM (tT π k0 e) c M0 w c' e.m' w'->nG c' (jW e.o.dst e.v (tL (tr.filter (λx=>D x.i)) E0)) a' N->a'.defers=a.defers->K a' w':=by
  intro hef
  obtain ⟨S1,hS1⟩:∃S1,S=e::S1:=by
   have hx:e ∈ A1 ∨ e ∈ A2 ∨ e ∈ S:=by have:=he;rw [ht] at this;simpa using this
   rcases hx with hx | hx | hx
   ·have:=hA1 e hx hef;rw [hu] at this;cases this
   ·have:=hA2 e hx;rw [hef] at this;cases this
   ·rcases hSe with h0 | ⟨e1,S1,h0,hef1⟩
    ·rw [h0] at hx;cases hx
    ·rw [h0] at hx
     rcases BP.1 hx with rfl | hx
     ·exact ⟨S1,h0⟩
     ·have hb:=(g.pair (A:=A1++(A2++[e1])) (B:=S1) (x:=e1) (by rw [ht,h0];simp) (by simp) hx).ef hef (.inl hef1);have:=hS e1 (by rw [h0];simp) hef1;rw [hr _ hb] at this;cases this
  have hal2:A2.filter (wJ D)=A2.filter Ev.al:=xdp λx hx=>by
   cases hxa:x.al with
   | false=>simp [wJ,hxa]
   | true=>
     have hb:=(g.pair (A:=A1++A2) (B:=e::S1) (x:=x) (y:=e) (by rw [ht,hS1];simp) (by simp [hx]) (by simp)).ef hef (.inr (.inl (by simp only [Ev.al,BO] at hxa;exact hxa.2)));simp [wJ,hxa,hr _ hb]
  have hlk:Iz (A1++(A2++e::S1)) E0 m0 []:=by rw [←hS1,←ht];exact g.lnk
  obtain ⟨h1,hlk1,_⟩:=hlk.right;have hseg:=GT (P:=P) (full:=full) (π:=π) (k0:=k0) hlk1 (λx hx=>g.fact x (hmem x (.inr (.inl hx)))) hA2;obtain ⟨h2,hlk2,_⟩:=hlk1.right;have hem:e.m=M0:=by rw [hlk2.head.2.1,hseg,hM0,hal2]
  refine ⟨hem.symm,λc' a' w' k1 k2 k3 k4=>?_⟩
  -- the next stretch
  obtain ⟨T,S2,hTS,hT,hS2⟩:∃T S2,S1=T++S2/\(∀x ∈ T,x.ef=false)/\(S2=[] ∨ ∃x S3,S2=x::S3/\x.ef=true):=by
   clear hlk hlk1 hlk2 hS1
   induction S1 with
   | nil=>exact ⟨[],[],rfl,by simp,.inl rfl⟩
   | cons x S1 ih=>
     cases hxe:x.ef with
     | true=>exact ⟨[],x::S1,rfl,by simp,.inr ⟨x,S1,rfl,hxe⟩⟩
     | false=>
       obtain ⟨T,S2,h1,h2,h3⟩:=ih;exact ⟨x::T,S2,by rw [h1];rfl,λy hy=>(BP.1 hy).elim (λh=>by rw [h];exact hxe) (h2 y),h3⟩
  have hSm:∀x ∈ T++S2,x ∈ S:=λx hx=>by rw [hS1,hTS];exact Jk _ hx
  have hne2:∀x ∈ T++S2,x.i ≠ e.i:=λx hx=>((g.pair (A:=A1++(A2++[e])) (B:=T++S2) (x:=e) (by rw [ht,hS1,hTS];simp) (by simp) hx).ne).symm
  have heal:e.al=false:=by
   cases hal:e.al with
   | false=>rfl
   | true=>
     have h5:sI e.o.op=true:=hef;simp only [Ev.al,BO] at hal;have h6:=hal.2;cases hop:e.o.op with
     | alloc T=>rw [hop] at h5;cases h5
     | box T x=>rw [hop] at h5;cases h5
     | _=>rw [hop] at h6;cases h6
  have hfl:∀L:List Ev,(∀x ∈ L,x ∈ T++S2)->L.filter (wJ (zW D e.i))=L.filter (wJ D):=λL hL=>xdp λx hx=>Cz (hne2 x (hL x hx))
  have hSf:(S.filter (wJ D)).map (pv π k0)=(T.filter (wJ D)).map (pv π k0)++(S2.filter (wJ D)).map (pv π k0):=by
   rw [hS1,hTS,Qb,if_neg (by simp [wJ,heal]),Qm,MW]
  have hH:=hhstep _ _ _ k2;rw [hSf] at hH;have hX1:oM π c0 m0 w0 c' e.m' w':=hExt.trans k2.up
  have hpwt:((T.filter (wJ D)).map (pv π k0)++(S2.filter (wJ D)).map (pv π k0)).Pairwise (λx y=>y.1 ≠ x.1):=by
   rw [←MW,←Qm,List.pairwise_map];refine List.Pairwise.filter _ ?_
   have:∀(L A:List Ev),tr=A++L->L.Pairwise (λx y=>(pv π k0 y).1 ≠ (pv π k0 x).1):=by
    intro L
    induction L with
    | nil=>intro A _;exact .nil
    | cons x L ih=>
      intro A hA;refine .cons (λy hy he'=>?_) (ih (A++[x]) (by rw [hA];simp));have hn:=(g.pair (A:=A++[x]) (B:=L) (x:=x) (by rw [hA];simp) (by simp) hy).ne;have he2:(k0+y.i)::π=(k0+x.i)::π:=he'
      injection he2 with he2
      omega
   exact this (T++S2) (A1++(A2++[e])) (by rw [ht,hS1,hTS];simp)
  obtain ⟨c2,q1,q2,q3,q4,q5,q6⟩:=uL.promote ((T.filter (wJ D)).map (pv π k0)) k1 hX1 hH hpwt (λx hx=>by
   obtain ⟨z,_,rfl⟩:=Ge.1 hx;exact List.suffix_cons _ _)
  have hendM:wV (A1++(A2++[e])) m0=e.m':=by rw [HU,HU];rfl
  have hTmem:∀x ∈ (T.filter (wJ D)).map (pv π k0),∃z ∈ T,x=pv π k0 z/\D z.i=true:=λx hx=>by
   obtain ⟨z,hz,rfl⟩:=Ge.1 hx;rw [Gx] at hz;have:=hz.2;simp only [wJ,BO] at this
   exact ⟨z,hz.1,rfl,this.2⟩
  refine hK c2 a' w' ⟨hcl',⟨A1++(A2++[e]),T,S2,by rw [ht,hS1,hTS];simp,λx hx hxe=>?_,.inr ⟨A1++A2,e,by simp,hef⟩,hT,λx hx hxe=>?_,hS2,?_,?_,?_,λx hx hxa=>?_⟩,?_,λx hx hd id gS=>?_,λj hj id gS=>?_,k4.trans hdef⟩
  ·rcases BQ.1 hx with hx | hx
   ·simp [zW,hA1 x hx hxe]
   ·rcases BQ.1 hx with hx | hx
    ·rw [hA2 x hx] at hxe;cases hxe
    ·rw [DX.1 hx];simp [zW]
  ·have hx':x ∈ T++S2:=by simp [hx]
   rw [jX (hne2 x hx')];exact hS x (hSm x hx') hxe
  ·rw [hendM,hfl T (λx hx=>by simp [hx])];exact q1
  ·rw [hendM,hfl T (λx hx=>by simp [hx])];exact q2
  ·rw [hendM,hfl T (λx hx=>by simp [hx]),hfl S2 (λx hx=>by simp [hx])];exact q4
  ·rw [hendM];have hxm:x ∈ T.filter (wJ (zW D e.i)):=Gx.2 ⟨hx,hxa⟩;rw [hfl T (λx hx=>by simp [hx])] at hxm;exact (hH.all (pv π k0 x) (BQ.2 (.inl (xeo hxm)))).blank.blk
  ·rw [hput];exact k3.mono q3
  ·refine q5 id (λy hy=>?_) ((hfresh' _ _ _ k2).1 x hx hd id gS);obtain ⟨z,hz,rfl,hzd⟩:=hTmem y hy;rintro rfl;have:=Bg gS;have hxz:x.i=z.i:=by omega
   simp only [zW,xdn] at hd;rw [hxz,hzd] at hd;cases hd.1
  ·refine q5 id (λy hy=>?_) ((hfresh' _ _ _ k2).2 j hj id gS);obtain ⟨z,hz,rfl,hzd⟩:=hTmem y hy;rintro rfl;have:=Bg gS;have hzl:z.i<full.length:=(uD.1 (g.fact z (hmem z (.inr (.inr (hSm z (by simp [hz])))))).1).1;omega
 -- the walk
 obtain ⟨A,B,htAB⟩:=xdo he
 have hwanted:Region.wanted e.o (yielded full.toArray a.tmps)=e.run:=NY hgate (c:=c) λd hd=>by
  have:=hEnv.fA d;rw [g.look hcl htAB hu hr (by unfold sX;exact BQ.2 (.inr hd))] at this;exact this
 have hdst:∀d,e.o.dst=some d->d<N:=g.dst e he;have hfe:sD c (tT π k0 e):=hfr e he hu;unfold wpOp;have hops:full.toArray[e.i]? = some e.o:=by simpa using ho
 rw [hops];simp only [hwanted];cases hrn:e.run with
 | false=>
   simp only [BN,if_false];obtain ⟨hv,hm'⟩:=hskip hrn;have hEv:=hEnv.put (v:=.lit undef) (x:=undef) (.lit .nil) hdst;cases hef:e.ef with
   | false=>exact quiet c _ w hef (by simp [Ev.al,hrn]) hRep (.refl _ c M0 w) (by rw [hv];exact hEv) (rW _ _ _)
   | true=>
     obtain ⟨q1,q2⟩:=effect hef;exact q2 c _ w (by rw [hm',←q1];exact hRep) (by rw [hm',←q1];exact .refl _ c M0 w) (by rw [hv];exact hEv) (rW _ _ _)
 | true=>
   simp only [if_true];refine .inl ?_;have hd:=hrun hrn;unfold Did at hd;cases hef:e.ef with
   | true=>
     obtain ⟨q1,q2⟩:=effect hef;have hef':sI e.o.op=true:=hef;rw [if_pos hef'] at hd;have hst:=Oh (E1:=tL (tr.filter (λx=>D x.i)) E0) hef' hd.1 (λx hx=>by have:=hev x hx;rw [q1] at this;exact this);rw [←q1] at hst;refine Oper.wp_mono ?_ (yQ (N:=N) hst hRep hEnv hfe hdst Q);rintro a' w' ⟨c',v,m',⟨rfl,rfl⟩,h1,h2,h3,h4⟩;exact q2 c' a' w' h1 h2 h3 h4
   | false=>
     have hef':sI e.o.op=false:=hef;rw [if_neg (by simp [hef'])] at hd;cases hal:FP e.o.op with
     | false=>
       rw [if_neg (by simp [hal])] at hd
       have hst:QC P e.o (tT π k0 e) (tL (tr.filter (λx=>D x.i)) E0) M0 (λr m1=>r=e.v/\m1=M0):=by
        split at hd
        ·rename_i T x hop;have hnA:=notA1 hef (.inr (by rw [hop];rfl));have hu':Abs.ev M0 (tL (tr.filter (λx=>D x.i)) E0) x=Abs.ev e.m e.E x:=hev x (by rw [hop];simp [nE]);have hcr:=hEnv.ev hRep x
         have fin:∀m1 ∈ e.m::e.hist.take e.f,M0.hp=m1.hp->(∀id,c.ρ id ≠ none->m1.blk id ≠ none->M0.blk id=m1.blk id/\M0.ver id=m1.ver id)->fP P e.o (tT π k0 e) (tL (tr.filter (λx=>D x.i)) E0) M0 (λr m1=>r=e.v/\m1=M0):=by
          intro m1 hm1 hhp hag;unfold fP;simp only [hop,and_true];have hs:=hd.1 m1 hm1;rw [←hu'] at hs;refine Ky hs (λid off gS hb=>?_) hhp;rw [gS] at hcr;obtain ⟨b,hb1,_⟩:=hcr.inv_ptr;exact hag id (by rw [hb1];simp) hb
         have hx:e ∈ A2 ∨ e ∈ S:=by have:=he;rw [ht] at this;simp only [BQ] at this;exact this.resolve_left hnA
         rcases hx with hx | hx
         ·obtain ⟨U,V',hUV⟩:=xdo hx;have hlk:Iz (A1++(U++e::(V'++S))) E0 m0 []:=by have:=g.lnk;rw [ht,hUV] at this;simpa using this
          obtain ⟨h1,hlk1,_⟩:=hlk.right;have hUm:∀x ∈ U,x ∈ A2:=λx hx=>by rw [hUV];simp [hx]
          have hseg:=GT (P:=P) (full:=full) (π:=π) (k0:=k0) hlk1 (λx hx=>g.fact x (hmem x (.inr (.inl (hUm x hx))))) (λx hx=>hA2 x (hUm x hx));obtain ⟨h2,hlk2,_⟩:=hlk1.right;have hem:e.m=mU (wV A1 m0) ((U.filter Ev.al).map (pv π k0)):=by rw [hlk2.head.2.1,hseg]
          refine .inl <| fin e.m (by simp) (by rw [hem,hM0,DG,DG]) λid hk hb=>⟨?_,by rw [hem,hM0,BW,BW]⟩
          rw [hem] at hb ⊢;rw [hM0];refine agree g hfr (λx hx=>hmem x (.inr (.inl (hUm x (Gx.1 hx).1)))) (λx hx=>hmem x (.inr (.inl (Gx.1 hx).1))) (λx hx hdx=>?_) (λx hx=>?_) hk hb
          ·rw [Gx] at hx;exact Gx.2 ⟨hUm x hx.1,by simp [wJ,hx.2,hdx]⟩
          ·rw [Gx] at hx;exact .inr (hblank x hx.1 hx.2)
         ·rcases hSe with h0 | ⟨e1,S1,h0,hef1⟩
          ·rw [h0] at hx;cases hx
          ·rw [h0] at hx;have hx1:e ∈ S1:=(BP.1 hx).resolve_left (λhe1=>by rw [he1,hef1] at hef;cases hef);obtain ⟨U,V',hUV⟩:=xdo hx1;have hlk:Iz ((A1++(A2++(e1::U)))++(e::V')) E0 m0 []:=by have:=g.lnk;rw [ht,h0,hUV] at this;simpa using this
           obtain ⟨hh,hlk1,hhe⟩:=hlk.right;have hhist:e.hist=hh:=hlk1.head.2.2;have hlkb:Iz (A1++(A2++(e1::S1))) E0 m0 []:=by have:=g.lnk;rw [ht,h0] at this;exact this
           obtain ⟨h1,hlk2,_⟩:=hlkb.right;have hseg:=GT (P:=P) (full:=full) (π:=π) (k0:=k0) hlk2 (λx hx=>g.fact x (hmem x (.inr (.inl hx)))) hA2;obtain ⟨h2,hlk3,_⟩:=hlk2.right;have hem:e1.m=mU (wV A1 m0) ((A2.filter Ev.al).map (pv π k0)):=by rw [hlk3.head.2.1,hseg]
           have hcount:(U.filter Ev.ef).length<e.f:=by
            by_cases hlt:(U.filter Ev.ef).length<e.f
            ·exact hlt
            ·exfalso
             have hld:=g.ld;have hkeys:tr.map Ev.key=(A1++(A2++(e1::U))).map Ev.key++e.key::V'.map Ev.key:=by rw [ht,h0,hUV];simp
             rw [hkeys] at hld
             have hall:=RC hld (by show La e.o.op=true;rw [hop];rfl) e1.i (by
              rw [jR];have hf1:((A1++(A2++(e1::U))).map Ev.key).filter (λx=>sI x.2.2.op)=((A1++(A2++(e1::U))).filter Ev.ef).map Ev.key:=by rw [List.filter_map];rfl
              rw [hf1,Qm,Qm,Qb,if_pos hef1];simp only [MW,iG,List.reverse_append,List.reverse_cons,xM,List.map_reverse,xdz,iC,iV];exact Rq (by show e.f<=_;simpa using hlt))
             have:=hS e1 (by rw [h0];simp) hef1;rw [hr _ hall] at this;cases this
           refine .inl <| fin e1.m (Jk _ ?_) (by rw [hem,hM0,DG,DG]) λid hk hb=>⟨?_,by rw [hem,hM0,BW,BW]⟩
           ·rw [hhist,hhe,jR,Qm,Qm,Qb,if_pos hef1];simp only [List.reverse_append,List.reverse_cons,MW,xM,iG,iC,iV];exact Rp (by simpa using hcount)
           ·rw [hem] at hb ⊢;rw [hM0];refine agree g hfr (λx hx=>hmem x (.inr (.inl (Gx.1 hx).1))) (λx hx=>hmem x (.inr (.inl (Gx.1 hx).1))) (λx hx hdx=>?_) (λx hx=>?_) hk hb
            ·rw [Gx] at hx;exact Gx.2 ⟨hx.1,by simp [wJ,hx.2,hdx]⟩
            ·rw [Gx] at hx;refine .inl (Gx.2 ⟨hx.1,?_⟩);have:=hx.2;simp only [wJ,BO] at this;exact this.1
        ·exact OV hd.1 hev
       refine Oper.wp_mono ?_ (QB (N:=N) hst hRep hEnv hfe hdst Q);rintro a' w' ⟨c',v,m',⟨rfl,rfl⟩,h1,h2,h3,h4⟩;exact quiet c' a' w' hef (by simp [Ev.al,hal]) h1 h2 h3 h4
     | true=>
       rw [if_pos hal] at hd;obtain ⟨hac,hv,hm'⟩:=hd;have heal:e.al=true:=by simp [Ev.al,hrn,hal]
       rw [←JY (g1:=Abs.ev M0 (tL (tr.filter (λx=>D x.i)) E0)) hev] at hac;obtain ⟨cs,T,hcs,hone,hexec⟩:=MO (P:=P) hac hEnv hRep;obtain ⟨hR1,hX1,hB1⟩:=hRep.half hfe.fA cs T;have hnA:=notA1 hef (.inl hal);unfold Oper.wp;rw [hexec];show K (a.put e.o.dst (.pointer (some ⟨w.heap.size,0,none⟩))) (w.alloc (.cells cs.toArray T))
       have hρ1:(c.half (tT π k0 e) w.heap.size).ρ (tT π k0 e)=some w.heap.size:=by
        show (if tT π k0 e=tT π k0 e then some w.heap.size else _)=_;rw [if_pos rfl]
       have hE1:nG (c.half (tT π k0 e) w.heap.size) (jW e.o.dst e.v (tL (tr.filter (λx=>D x.i)) E0)) (a.put e.o.dst (.pointer (some ⟨w.heap.size,0,none⟩))) N:=by
        rw [hv];exact (hEnv.mono hX1.le).put (.ptr hρ1 .nil) hdst
       have hnew:Lz w0.heap.size (c.half (tT π k0 e) w.heap.size) M0 (w.alloc (.cells cs.toArray T)) (tT π k0 e) e.ac:=by
        refine ⟨⟨w.heap.size,T,cs.toArray,hρ1,xV.new _ _ _,by simpa using hcs.mono hX1.le,by simpa using hone,hRep.com.out (tM _),λho'=>?_,λhl=>?_,hExt.size⟩,hB1⟩
        ·rcases ho' with ⟨id,gS,hr'⟩ | ho'
         ·have hne:id ≠ tT π k0 e:=by rintro rfl;exact gS hB1.blk
          have hr2:(if id=tT π k0 e then some w.heap.size else c.ρ id)=some w.heap.size:=hr';rw [if_neg hne] at hr2;have:=hRep.lt gS hr2;omega
         ·have:=hRep.own_lt (.inr ho');omega
        ·have:=(hRep.lit _ hl).2.1;omega
       have hHs:=hhstep _ _ _ hX1
       have hHall:uL w0.heap.size (c.half (tT π k0 e) w.heap.size) M0 (w.alloc (.cells cs.toArray T)) (pv π k0 e::(S.filter (wJ D)).map (pv π k0)):=by
        have hlt:∀y ∈ (S.filter (wJ D)).map (pv π k0),(c.half (tT π k0 e) w.heap.size).ρ y.1 ≠ some w.heap.size:=λy hy hy2=>by
         obtain ⟨⟨b,_,_,h1,h2,_⟩,_⟩:=hHalf.all y hy;have:=hX1.le.ρ _ _ h1;rw [this] at hy2
         injection hy2 with hy2
         have:=h2.lt;omega
        refine ⟨λx hx=>?_,λx hx y hy hxy=>?_⟩
        ·rcases BP.1 hx with rfl | hx
         ·exact hnew
         ·exact hHs.all x hx
        ·rcases BP.1 hx with rfl | hx <;> rcases BP.1 hy with rfl | hy
         ·rfl
         ·exact absurd (hxy.symm.trans hρ1) (hlt y hy)
         ·exact absurd (hxy.trans hρ1) (hlt x hx)
         ·exact hHs.inj x hx y hy hxy
       have hcurn:(wV A1 m0).blk (tT π k0 e)=none:=by
        have:=hB1.blk;rw [hM0] at this;exact (KB this).1
       have hx:e ∈ A2 ∨ e ∈ S:=by have:=he;rw [ht] at this;simp only [BQ] at this;exact this.resolve_left hnA
       rcases hx with hx | hx
       ·obtain ⟨U,V',hUV⟩:=xdo hx;have hneU:∀x ∈ U,x.i ≠ e.i:=λx hx=>(g.pair (A:=A1++U) (B:=e::(V'++S)) (x:=x) (y:=e) (by rw [ht,hUV];simp) (by simp [hx]) (by simp)).ne;have hneV:∀x ∈ V'++S,x.i ≠ e.i:=λx hx=>((g.pair (A:=A1++(U++[e])) (B:=V'++S) (x:=e) (by rw [ht,hUV];simp) (by simp) hx).ne).symm;have fU:U.filter (wJ (zW D e.i))=U.filter (wJ D):=xdp λx hx=>Cz (hneU x hx);have fV:V'.filter (wJ (zW D e.i))=V'.filter (wJ D):=xdp λx hx=>Cz (hneV x (by simp [hx]));have fS:S.filter (wJ (zW D e.i))=S.filter (wJ D):=xdp λx hx=>Cz (hneV x (by simp [hx]))
        have hset:mU (wV A1 m0) ((A2.filter (wJ (zW D e.i))).map (pv π k0))=mU M0 [pv π k0 e]:=by
         rw [hM0,hUV,Qm,Qm,Qb,Qb,if_pos (by simp [wJ,zW,heal]),if_neg (by simp [wJ,hu]),fU,fV];simp only [MW,iG,LW];refine (KC (m:=mU (wV A1 m0) ((U.filter (wJ D)).map (pv π k0))) (p:=tT π k0 e) (vs:=e.ac.map V.raw0) λy hy=>?_);obtain ⟨z,hz,rfl⟩:=Ge.1 hy;intro he';have he2:(k0+z.i)::π=(k0+e.i)::π:=he'
         injection he2 with he2
         exact hneV z (by simp [(Gx.1 hz).1]) (by omega)
        obtain ⟨c2,q1,q2,q3,q4,q5,q6⟩:=uL.promote [pv π k0 e] hR1 (hExt.trans hX1.up) hHall (.cons (λy hy=>by
          obtain ⟨z,hz,rfl⟩:=Ge.1 hy;intro he';have he2:(k0+z.i)::π=(k0+e.i)::π:=he'
          injection he2 with he2
          exact hneV z (by simp [(Gx.1 hz).1]) (by omega)) (by
          show List.Pairwise _ ((S.filter (wJ D)).map (pv π k0));rw [List.pairwise_map];refine List.Pairwise.filter _ ?_
          have:∀(L A:List Ev),tr=A++L->L.Pairwise (λx y=>(pv π k0 y).1 ≠ (pv π k0 x).1):=by
           intro L
           induction L with
           | nil=>intro A _;exact .nil
           | cons x L ih=>
             intro A hA;refine .cons (λy hy he'=>?_) (ih (A++[x]) (by rw [hA];simp));have hn:=(g.pair (A:=A++[x]) (B:=L) (x:=x) (by rw [hA];simp) (by simp) hy).ne;have he2:(k0+y.i)::π=(k0+x.i)::π:=he'
             injection he2 with he2
             omega
          exact this S (A1++A2) (by rw [ht];simp))) (λx hx=>by
         rw [DX.1 hx];exact List.suffix_cons _ _)
        refine hK c2 _ _ ⟨hcl',⟨A1,A2,S,ht,λx hx hxe=>by simp [zW,hA1 x hx hxe],hA1e,hA2,λx hx hxe=>?_,hSe,by rw [hset];exact q1,by rw [hset];exact q2,by rw [hset,fS];exact q4,λx hx hxa=>?_⟩,by rw [hput];exact hE1.mono q3,λx hx hd id gS=>?_,λj hj id gS=>?_,(rW _ _ _).trans hdef⟩
        ·rw [jX (hneV x (by simp [hx]))];exact hS x hx hxe
        ·by_cases hi:x.i=e.i
         ·rw [g.uniq (hmem x (.inr (.inl hx))) he hi];exact hcurn
         ·exact hblank x hx (by rw [Cz hi] at hxa;exact hxa)
        ·refine q5 id (λy hy=>?_) ((hfresh' _ _ _ hX1).1 x hx hd id gS);rw [DX.1 hy];rintro rfl;have:=Bg gS;simp only [zW,xdn,beq_eq_false_iff_ne] at hd;exact hd.2 (by omega)
        ·refine q5 id (λy hy=>?_) ((hfresh' _ _ _ hX1).2 j hj id gS);rw [DX.1 hy];rintro rfl;have:=Bg gS;omega
       ·have hneA2:∀x ∈ A1++A2,x.i ≠ e.i:=λx hx'=>(g.pair (A:=A1++A2) (B:=S) (by rw [ht];simp) hx' hx).ne;have f2:A2.filter (wJ (zW D e.i))=A2.filter (wJ D):=xdp λx hx'=>Cz (hneA2 x (by simp [hx']))
        refine hK _ _ _ ⟨hcl',⟨A1,A2,S,ht,λx hx hxe=>by simp [zW,hA1 x hx hxe],hA1e,hA2,λx hx' hxe=>?_,hSe,by rw [f2,←hM0];exact hR1,by rw [f2,←hM0];exact hExt.trans hX1.up,by
         rw [f2,←hM0];refine hHall.sub λy hy=>?_;obtain ⟨z,hz,rfl⟩:=Ge.1 hy;rw [Gx] at hz
         by_cases hi:z.i=e.i
         ·rw [g.uniq (hmem z (.inr (.inr hz.1))) he hi];simp
         ·exact Jk _ (xeo (Gx.2 ⟨hz.1,by have h9:=hz.2;rw [Cz hi] at h9;exact h9⟩)),λx hx' hxa=>?_⟩,by rw [hput];exact hE1,(hfresh' _ _ _ hX1).1,(hfresh' _ _ _ hX1).2,(rW _ _ _).trans hdef⟩
        ·have hne:x.i ≠ e.i:=λhi=>by rw [g.uniq (hmem x (.inr (.inr hx'))) he hi,hef] at hxe;cases hxe
         rw [jX hne];exact hS x hx' hxe
        ·exact hblank x hx' (by rw [Cz (hneA2 x (by simp [hx']))] at hxa;exact hxa)
end
theorem Ex {D:Nat->Bool} {k:Nat} {L:List Nat} (hk:k ∈ L) (hu:D k=false):L.countP (λi=>!(zW D k i))<L.countP (λi=>!(D i)):=by
 have hle:∀L:List Nat,L.countP (λi=>!(zW D k i))<=L.countP (λi=>!(D i)):=λL=>List.countP_mono_left λx _ hx=>by
  simp only [zW,NU,xdn] at hx;simp [hx.1]
 induction L with
 | nil=>cases hk
 | cons x L ih=>
   rw [Qa,Qa]
   by_cases hx:x=k
   ·subst hx;have h1:(!(zW D x x))=false:=by simp [zW]
    have h2:(!(D x))=true:=by simp [hu]
    rw [h1,h2];have:=hle L;simp only [BN,if_false,if_true];omega
   ·have:=ih ((BP.1 hk).resolve_left (λe=>hx e.symm));rw [jX hx]
    split <;> omega
section
variable {P:Program} {full:List Oper} {π:Pa} {k0 N:Nat} {tr:List Ev} {tbl:List Nat} {E0:fC} {m0:M} {c0:Conc} {w0:World} {a0:Act}
theorem CG.congr {D D':Nat->Bool} {c:Conc} {a:Act} {w:World} (h:CG P full π k0 N tr tbl E0 m0 c0 w0 a0 D c a w) (hD:D=D'):CG P full π k0 N tr tbl E0 m0 c0 w0 a0 D' c a w:=hD ▸ h
theorem tD {listed:Array Bool} {i:Nat}:i ∈ Region.ready .any full.toArray listed ↔ i<full.length/\listed.getD i true=false/\∃o,full[i]? = some o/\∀e ∈ o.after.toList,Region.binds .any e=true->listed.getD e.on false=true:=by
 unfold Region.ready;simp only [Gx,PY,List.size_toArray,BO,NU,xdk];refine and_congr_right λhi=>and_congr_right λ_=>?_;have ho:full[i]? = some full[i]:=yP hi;rw [ho]
 constructor
 ·intro h;refine ⟨_,rfl,λe he hb=>?_⟩;simp only [jV,xdy] at h;have:=Array.all_eq_true'.1 h e (by simpa using he);simpa [hb] using this
 ·rintro ⟨o,ho',h⟩
  injection ho' with ho'
  subst ho';simp only [jV,xdy];refine Array.all_eq_true'.2 λe he=>?_;cases hb:Region.binds .any e with
  | false=>rfl
  | true=>simpa using h e (by simpa using he) hb
theorem CG.all {Q:Exit->Act->World->Prop} (g:AF P full π k0 N tr tbl E0 m0) (ht:Da full tbl=true) (hall:∀i,i<full.length->∃e ∈ tr,e.i=i)
  (hQ:∀c a w,iK c (wV tr m0) w->oM π c0 m0 w0 c (wV tr m0) w->nG c (tL tr E0) a N->rB c π (k0+full.length)->a.defers=a0.defers->Q .normal a w) :
  ∀(fuel:Nat) (listed:Array Bool) (c:Conc) (a:Act) (w:World),listed.size=full.length->(List.range full.length).countP (λi=>!(listed.getD i false))<=fuel->CG P full π k0 N tr tbl E0 m0 c0 w0 a0 (λi=>listed.getD i false) c a w->wpAny P .any full.toArray Q fuel listed a w:=by
 -- all is done
 have hdone:∀(listed:Array Bool) (c:Conc) (a:Act) (w:World),(∀i,i<full.length->listed.getD i false=true)->CG P full π k0 N tr tbl E0 m0 c0 w0 a0 (λi=>listed.getD i false) c a w->Q .normal a w:=by
  intro listed c a w hl hI;have hD:∀e ∈ tr,listed.getD e.i false=true:=λe he=>hl _ (uD.1 (g.fact e he).1).1;obtain ⟨_,⟨A1,A2,S,htr,hA1,hA1e,hA2,hS,hSe,hRep,hExt,hHalf,hblank⟩,hEnv,hfr,hfrK,hdef⟩:=hI
  have hS0:S=[]:=by
   rcases hSe with h | ⟨e,S1,h,hef⟩
   ·exact h
   ·have h1:=hS e (by rw [h];simp) hef;have h2:=hD e (by rw [htr,h];simp);have h1':listed.getD e.i false=false:=h1;rw [h2] at h1';cases h1'
  have hf2:A2.filter (wJ λi=>listed.getD i false)=A2.filter Ev.al:=xdp λx hx=>by
   have:=hD x (by rw [htr];simp [hx]);simp only [wJ,this,kY]
  have hlk:Iz (A1++(A2++[])) E0 m0 []:=by rw [←hS0,←htr];exact g.lnk
  obtain ⟨h1,hlk1,_⟩:=hlk.right;have hseg:=GT (P:=P) (full:=full) (π:=π) (k0:=k0) hlk1 (λx hx=>g.fact x (by rw [htr];simp [hx])) hA2
  have hm:mU (wV A1 m0) ((A2.filter (wJ λi=>listed.getD i false)).map (pv π k0))=wV tr m0:=by
   rw [hf2,←hseg,htr,hS0,jR,HU]
  have hE:tr.filter (λx=>listed.getD x.i false)=tr:=List.filter_eq_self.2 λx hx=>hD x hx;rw [hm] at hRep hExt;have hEnv':nG c (tL (tr.filter (λx=>listed.getD x.i false)) E0) a N:=hEnv;rw [hE] at hEnv';exact hQ c a w hRep hExt hEnv' hfrK hdef
 have hready:∀listed:Array Bool,listed.size=full.length->Region.ready .any full.toArray listed=[]->∀i,i<full.length->listed.getD i false=true:=by
  intro listed hsz hr i
  induction i using Nat.strongRecOn with
  | ind i ih=>
    intro hi;cases hx:listed.getD i false with
    | true=>rfl
    | false=>
      exfalso
      have hmem:i ∈ Region.ready .any full.toArray listed:=by
       refine tD.2 ⟨hi,?_,_,yP hi,λe he hb=>?_⟩
       ·rw [EE] at hx ⊢;rw [xea (by omega)] at hx ⊢;exact hx
       ·have hlt:=JN ht (yP hi) he hb;exact ih e.on hlt (by omega)
      rw [hr] at hmem;cases hmem
 intro fuel
 induction fuel with
 | zero=>
   intro listed c a w hsz hc hI
   have hl:∀i,i<full.length->listed.getD i false=true:=by
    intro i hi;have:=List.countP_eq_zero.1 (Nat.le_zero.1 hc) i (PY.2 hi);simpa using this
   refine ⟨?_,hdone listed c a w hl hI⟩;apply List.eq_nil_iff_forall_not_mem.2;intro i hi;obtain ⟨h1,h2,_⟩:=tD.1 hi;have:=hl i h1;rw [EE] at h2 this;rw [xea (by omega)] at h2 this;simp only [xdy] at h2 this;rw [h2] at this;cases this
 | succ fuel ih=>
   intro listed c a w hsz hc hI;refine ⟨λhr=>hdone listed c a w (hready listed hsz hr) hI,λi hi=>?_⟩;obtain ⟨h1,h2,o,ho,h3⟩:=tD.1 hi;obtain ⟨e,he,rfl⟩:=hall i h1
   have hu:listed.getD e.i false=false:=by
    rw [EE] at h2 ⊢;rw [xea (by omega)] at h2 ⊢;exact h2
   refine hI.step g he hu (λj hb=>?_) λc' a' w' hI'=>?_
   ·obtain ⟨ed,hed,hbd,hj⟩:=Hh ht ho hb;have:=h3 ed hed hbd
    rcases hj with hj | hj
    ·rw [←hj];exact this
    ·exact hI.closed _ _ this hj
   ·have hD:zW (λi=>listed.getD i false) e.i=λi=>(listed.setIfInBounds e.i true).getD i false:=by
     funext j
     by_cases hj:j=e.i
     ·subst hj;rw [pA,EE,xfd (by omega)];rfl
     ·rw [jX hj,EE,EE,xfa (λe'=>hj e'.symm)]
    refine ih _ c' a' w' (by simpa using hsz) ?_ (hI'.congr hD);have hlt:=Ex (D:=λi=>listed.getD i false) (PY.2 h1) hu
    have heq:(λi=>!((listed.setIfInBounds e.i true).getD i false))=λi=>!(zW (λi=>listed.getD i false) e.i i):=by
     rw [hD]
    rw [heq];omega
end
theorem SW_draw {P:Program} {N:Nat} {π:Pa} {k:Nat} {E:fC} {m:M} {Q:Exit->Nat->fC->M->Prop} {id:Nat} {ops:Array Oper} {tbl:List Nat} {ord:List (Nat × Nat)} (hm:P.follows .mixedOrders=true) (hc:dOk ops.toList tbl ord=true)
  (h:PD P ops.toList π k (Q .normal) ord [] E m):SW P N π (.region id ops true) k E m Q:=by
 intro hf c a w h1 h2 h3;obtain ⟨tr,t1,t2,t3,t4⟩:=SD ord [] E m h;simp only [dOk,BO,EG,PY] at hc;obtain ⟨⟨⟨c1,c2⟩,c3⟩,c4⟩:=hc
 have hkeys:keys ops.toList ord=tr.map Ev.key:=by
  rw [←t1];unfold keys;rw [xdz];refine xdm λe he=>?_;have:=(t3 e he).1;show (e.i,e.f,ops.toList.getD e.i default)=(e.i,e.f,e.o);rw [List.getD_eq_getElem?_getD,this];rfl
 rw [hkeys] at c2 c3;have hmem:∀e ∈ tr,e.o ∈ ops.toList:=λe he=>Fw (t3 e he).1
 have g:AF P ops.toList π k N tr tbl E m:=⟨t2,t3,c2,c3,λe he d hd=>by
  have hf':DO N ops.toList=true:=hf;have:=EG.1 hf' e.o (hmem e he);rw [hd] at this;simpa using this⟩
 have hall:∀i,i<ops.toList.length->∃e ∈ tr,e.i=i:=by
  intro i hi;have:=c1 i hi;rw [xed,←t1,xdz] at this;obtain ⟨e,he,rfl⟩:=Ge.1 this;exact ⟨e,he,rfl⟩
 refine wp_region_any hm ?_;have hR:=h1.drewN 1;have hw:({ w with drawn:=w.drawn+1 }:World)=w.drewN 1:=rfl;rw [hw]
 have hcl0:∀i j,(Array.replicate ops.size false).getD i false=true->wI tbl j i=true->(Array.replicate ops.size false).getD j false=true:=by
  intro i j hi _
  exfalso
  rw [EE,xep] at hi
  split at hi <;> cases hi
 have hfold:=CG.all (P:=P) (c0:=c) (w0:=w.drewN 1) (a0:=a) (Q:=λe a' w'=>wK π N (wr (.region id ops true)) E c m w a (Q e) a' w') g c4 hall (λc' a' w' g1 g2 g3 g4 g5=>
  ⟨c',_,tL tr E,wV tr m,t4,g1,(oM.drewN π c m w 1).trans g2,g3,g4,g5,λt ht=>NC λe he hd=>by
   have:wr (.region id ops true) t=true:=by
    simp only [wr,xeq,beq_iff_eq];exact ⟨e.o,hmem e he,hd⟩
   rw [ht] at this;cases this⟩)
  ops.size (Array.replicate ops.size false) c a (w.drewN 1) (by simp) (by
   refine Ki List.countP_le_length ?_;simp) ⟨hcl0,?_,?_,λe he _=>?_,λj hj=>h3 j (by omega),rfl⟩
 ·simpa using hfold
 ·have hfalse:∀i,(Array.replicate ops.size false).getD i false=false:=by
   intro i;rw [EE,xep]
   split <;> rfl
  obtain ⟨A2,S,hs,hA2,hSe⟩:∃A2 S,tr=A2++S/\(∀x ∈ A2,x.ef=false)/\(S=[] ∨ ∃x S3,S=x::S3/\x.ef=true):=by
   clear g t2 t3 t4 t1 hall hmem hkeys c2 c3 hfalse
   induction tr with
   | nil=>exact ⟨[],[],rfl,by simp,.inl rfl⟩
   | cons x S1 ih=>
     cases hxe:x.ef with
     | true=>exact ⟨[],x::S1,rfl,by simp,.inr ⟨x,S1,rfl,hxe⟩⟩
     | false=>
       obtain ⟨T,S2,h1,h2,h3⟩:=ih;exact ⟨x::T,S2,by rw [h1];rfl,λy hy=>(BP.1 hy).elim (λh=>by rw [h];exact hxe) (h2 y),h3⟩
  have hno:∀L:List Ev,L.filter (wJ λi=>(Array.replicate ops.size false).getD i false)=[]:=λL=>List.filter_eq_nil_iff.2 λx _=>by
   simp only [wJ,hfalse,Bool.and_false,BN,not_false_eq_true]
  refine ⟨[],A2,S,hs,by simp,.inl rfl,hA2,λx _ _=>hfalse x.i,hSe,?_,?_,?_,λx _ hx=>?_⟩
  ·rw [hno];exact hR
  ·rw [hno];exact .refl π c m _
  ·have hno2:(S.filter (wJ λi=>(Array.replicate ops.size false).getD i false)).map (pv π k)=[]:=by rw [hno];rfl
   rw [hno,hno2];exact ⟨λx hx=>(kE hx).elim,λx hx=>(kE hx).elim⟩
  ·simp only [wJ,hfalse,Bool.and_false] at hx;cases hx
 ·have:tr.filter (λx=>(Array.replicate ops.size false).getD x.i false)=[]:=List.filter_eq_nil_iff.2 λx _=>by
   rw [EE,xep]
   split <;> simp
  rw [this];exact h2
 ·exact h3 _ (by omega)
