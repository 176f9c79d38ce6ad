/-
 Own helper theorems of no one function: the equations by which a drawn region is evaluated.
-/
import Derived.Test.YtldnmmnnohnpkaaGreatDoorILA20
import Derived.Below
import Derived.Test.YtldnmmnnohnpkaaGreatDoorILBase
namespace Go.Proofs.YtldnmmnnohnpkaaGreatDoor.Abs
set_option linter.unusedVariables false
open Go.RowKit
def dt (S:V->Prop) (C:V->Prop):Prop:=∃v,S v/\C v
@[go_sem] theorem zo7 {a:V} {C:V->Prop}:dt (fun v=>a=v) C=C a:=propext ⟨fun ⟨_,h,hc⟩=>h ▸ hc,fun h=>⟨a,rfl,h⟩⟩
@[go_sem] theorem dt_and {p:Prop} {S C:V->Prop}:dt (fun v=>p/\S v) C=(p/\dt S C):=propext ⟨fun ⟨v,⟨hp,hs⟩,hc⟩=>⟨hp,v,hs,hc⟩,fun ⟨hp,v,hs,hc⟩=>⟨v,⟨hp,hs⟩,hc⟩⟩
@[congr] theorem dt_congr {S S':V->Prop} {C:V->Prop} (h:∀v,S v=S' v):dt S C=dt S' C:=by rw [show S=S' from funext h]
def dm (S:V->M->Prop) (m:M) (C:V->M->Prop):Prop:=∃v m',S v m'/\m'.gl=m.gl/\C v m'
@[go_sem] theorem dm_eq {a:V} {b m:M} {C:V->M->Prop}:dm (fun v m'=>a=v/\b=m') m C=(b.gl=m.gl/\C a b):=propext ⟨fun ⟨_,_,⟨h1,h2⟩,hg,hc⟩=>by subst h1 h2;exact ⟨hg,hc⟩,fun ⟨hg,h⟩=>⟨a,b,⟨rfl,rfl⟩,hg,h⟩⟩
@[go_sem] theorem dm_and {p:Prop} {S:V->M->Prop} {m:M} {C:V->M->Prop}:dm (fun v m'=>p/\S v m') m C=(p/\dm S m C):=propext ⟨fun ⟨v,m',⟨hp,hs⟩,hc⟩=>⟨hp,v,m',hs,hc⟩,fun ⟨hp,v,m',hs,hc⟩=>⟨v,m',⟨hp,hs⟩,hc⟩⟩
@[congr] theorem dm_congr {S S':V->M->Prop} {m:M} {C:V->M->Prop} (h:∀v m',S v m'=S' v m'):dm S m C=dm S' m C:=by rw [show S=S' from funext fun v=>funext fun m'=>h v m']
def dcall (P:Program) (f:V) (args:List V) (q:Pa) (m:M) (C:V->M->Prop):Prop:=∃v m',sfn P f args q m (fun r m1=>r=v/\m1=m')/\m'.gl=m.gl/\C v m'
theorem zaT {P:Program} {g:FuncId} {first captured args:List V} {q:Pa} {m m':M} {v:V} {C:V->M->Prop} (h:SC P g (first++args++captured) q m (fun r m1=>r=v/\m1=m')) (hg:m'.gl=m.gl) (hc:C v m'):dcall P (.fn (.func g) first captured) args q m C:=⟨v,m',h,hg,hc⟩
@[congr] theorem dcall_congr {P:Program} {f f':V} {as as':List V} {q:Pa} {m:M} {C:V->M->Prop} (h1:f=f') (h2:as=as'):dcall P f as q m C=dcall P f' as' q m C:=by rw [h1,h2]
def zf1 (P:Program) (full:List Oper) (π:Pa) (k0:Nat) (K:Nat->Env->M->Prop) (i f:Nat) (rest:List (Nat × Nat)) (hist:List M) (E:Env) (m:M) (o:Oper):Prop:=
 match o.guard with
 | none=>dop P o.op o f ((k0+i)::π) hist E m (fun v m' hist'=>PD P full π k0 K rest hist' (putE o.dst v E) m')
 | some (j,b)=>
   match (full[j]?).bind (·.dst) with
   | none=>False
   | some d=>
     match E d with
     | .lit (.bool t)=>if t=b then dop P o.op o f ((k0+i)::π) hist E m (fun v m' hist'=>PD P full π k0 K rest hist' (putE o.dst v E) m') else PD P full π k0 K rest (if isEf o.op then m::hist else hist) (putE o.dst (.lit undef) E) m
     | .lit (.tuple _)=>PD P full π k0 K rest (if isEf o.op then m::hist else hist) (putE o.dst (.lit undef) E) m
     | _=>False
def nthO (os:List Oper) (i:Nat) (C:Oper->Prop):Prop:=match os[i]? with | some o=>C o | none=>False
@[go_sem] theorem nthO_zero {o:Oper} {os:List Oper} {C:Oper->Prop}:nthO (o::os) 0 C=C o:=_root_.id rfl
@[go_sem] theorem nthO_succ {o:Oper} {os:List Oper} {i:Nat} {C:Oper->Prop}:nthO (o::os) (i+1) C=nthO os i C:=by
 unfold nthO;rw [List.getElem?_cons_succ]
def don (P:Program) (full:List Oper) (π:Pa) (k0:Nat) (K:Nat->Env->M->Prop) (rest:List (Nat × Nat)) (hist:List M) (E:Env) (m:M) (d:Option Nat) (v:V):Prop:=PD P full π k0 K rest hist (putE d v E) m
def donM (P:Program) (full:List Oper) (π:Pa) (k0:Nat) (K:Nat->Env->M->Prop) (rest:List (Nat × Nat)) (hist:List M) (E:Env) (d:Option Nat) (v:V) (m:M):Prop:=PD P full π k0 K rest hist (putE d v E) m
def donL (P:Program) (T:TypeId) (u:V) (hist:List M) (C:V->Prop) (v:V):Prop:=(∀m1 ∈ hist,zfv P m1 T u (fun r=>r=v))/\C v
def dgon (P:Program) (full:List Oper) (π:Pa) (k0:Nat) (K:Nat->Env->M->Prop) (i f:Nat) (rest:List (Nat × Nat)) (hist:List M) (E:Env) (m:M) (d:Option Nat) (op:Op) (ty:TypeId) (pos:String) (after:Array Edge) (b:Bool) (v:V):Prop:=
 gsel v b (zf1 P full π k0 K i f rest hist E m ⟨d,op,ty,pos,after,none⟩) (PD P full π k0 K rest (if isEf op then m::hist else hist) (putE d (.lit undef) E) m)
section
variable {P:Program} {full:List Oper} {π:Pa} {k0:Nat} {K:Nat->Env->M->Prop} {i f:Nat} {rest:List (Nat × Nat)} {hist:List M} {E:Env} {m:M} {d:Option Nat} {ty:TypeId} {pos:String} {after:Array Edge} {v:V}
@[go_sem] theorem pd_nil:PD P full π k0 K [] hist E m=K (k0+full.length) E m:=_root_.id rfl
@[go_sem] theorem pd_cons:PD P full π k0 K ((i,f)::rest) hist E m=nthO full i (zf1 P full π k0 K i f rest hist E m):=by
 simp only [PD,nthO];cases full[i]? with
 | none=>rfl
 | some o=>rfl
@[go_sem] theorem don_at:don P full π k0 K rest hist E m d v=PD P full π k0 K rest hist (putE d v E) m:=_root_.id rfl
@[go_sem] theorem donM_at:donM P full π k0 K rest hist E d v m=PD P full π k0 K rest hist (putE d v E) m:=_root_.id rfl
@[go_sem] theorem donL_nil {T:TypeId} {u:V} {C:V->Prop}:donL P T u [] C v=C v:=by simp [donL]
@[go_sem] theorem donL_cons {T:TypeId} {u:V} {C:V->Prop} {m1:M} {hs:List M}:donL P T u (m1::hs) C v=(zfv P m1 T u (fun r=>r=v)/\donL P T u hs C v):=by simp [donL,and_assoc]
@[go_sem] theorem dgon_tt {op:Op}:dgon P full π k0 K i f rest hist E m d op ty pos after true (.lit (.bool true))=zf1 P full π k0 K i f rest hist E m ⟨d,op,ty,pos,after,none⟩:=_root_.id rfl
@[go_sem] theorem dgon_ff {op:Op}:dgon P full π k0 K i f rest hist E m d op ty pos after false (.lit (.bool false))=zf1 P full π k0 K i f rest hist E m ⟨d,op,ty,pos,after,none⟩:=_root_.id rfl
@[go_sem] theorem dgon_tf {op:Op}:dgon P full π k0 K i f rest hist E m d op ty pos after false (.lit (.bool true))=PD P full π k0 K rest (if isEf op then m::hist else hist) (putE d (.lit undef) E) m:=_root_.id rfl
@[go_sem] theorem dgon_ft {op:Op}:dgon P full π k0 K i f rest hist E m d op ty pos after true (.lit (.bool false))=PD P full π k0 K rest (if isEf op then m::hist else hist) (putE d (.lit undef) E) m:=_root_.id rfl
@[go_sem] theorem dp_guard {op:Op} {j:Nat} {b:Bool}:zf1 P full π k0 K i f rest hist E m ⟨d,op,ty,pos,after,some (j,b)⟩=zng full j E (dgon P full π k0 K i f rest hist E m d op ty pos after b):=by
 unfold zf1 zng dgon gsel;simp only;cases (full[j]?).bind (·.dst) with
 | none=>rfl
 | some d'=>
   simp only
   generalize E d'=v
   cases v with
   | lit u=>cases u <;> rfl
   | _=>rfl
@[go_sem] theorem dp_load {T:TypeId} {x:Operand}:zf1 P full π k0 K i f rest hist E m ⟨d,.load T x,ty,pos,after,none⟩=dt (fun v=>zfv P m T (ev m E x) (fun r=>r=v)) (donL P T (ev m E x) (hist.take f) (don P full π k0 K rest hist E m d)):=_root_.id rfl
@[go_sem] theorem dp_alloc {T:TypeId}:zf1 P full π k0 K i f rest hist E m ⟨d,.alloc T,ty,pos,after,none⟩=zld (zbv P T) (fun zs=>don P full π k0 K rest hist E (m.set ((k0+i)::π) (zs.map V.raw0)) d (.ptr ((k0+i)::π) 0)):=by
 apply propext;show (∃vs,zbv P T=some vs/\_) ↔ _;unfold zld
 constructor
 ·rintro ⟨vs,h,hc⟩;rw [h];exact hc
 ·intro h;cases hz:zbv P T with
  | none=>rw [hz] at h;exact h.elim
  | some vs=>rw [hz] at h;exact ⟨vs,rfl,h⟩
@[go_sem] theorem dp_move {x:Operand}:zf1 P full π k0 K i f rest hist E m ⟨d,.move x,ty,pos,after,none⟩=don P full π k0 K rest hist E m d (ev m E x):=zo7
@[go_sem] theorem dp_assign {x:Operand}:zf1 P full π k0 K i f rest hist E m ⟨d,.assign x,ty,pos,after,none⟩=don P full π k0 K rest hist E m d (ev m E x):=zo7
@[go_sem] theorem dp_pick {t x y:Operand}:zf1 P full π k0 K i f rest hist E m ⟨d,.pick t x y,ty,pos,after,none⟩=dt (fun v=>znO (ev m E t) (ev m E x) (ev m E y) (fun r=>r=v)) (don P full π k0 K rest hist E m d):=_root_.id rfl
@[go_sem] theorem dp_build {T:TypeId} {ps:Array (Nat × Operand)}:zf1 P full π k0 K i f rest hist E m ⟨d,.build T ps,ty,pos,after,none⟩=dt (fun v=>ziX P T (ps.toList.map fun p=>(p.1,ev m E p.2)) (fun r=>r=v)) (don P full π k0 K rest hist E m d):=_root_.id rfl
@[go_sem] theorem dp_buildSlice {T:TypeId} {n:Nat} {ps:Array (Nat × Operand)}:zf1 P full π k0 K i f rest hist E m ⟨d,.buildSlice T n ps,ty,pos,after,none⟩=dt (fun v=>zec P T n (ps.toList.map fun p=>(p.1,ev m E p.2)) (fun r=>r=v)) (don P full π k0 K rest hist E m d):=_root_.id rfl
@[go_sem] theorem dp_nilCheck {x:Operand}:zf1 P full π k0 K i f rest hist E m ⟨d,.nilCheck x,ty,pos,after,none⟩=dt (fun v=>snil (ev m E x) (fun r=>r=v)) (don P full π k0 K rest hist E m d):=by
 have:∀v,pop P (.nilCheck x) (ev m E) (fun r=>r=v)=snil (ev m E x) (fun r=>r=v):=by
  intro v;simp only [pop,snil]
  generalize ev m E x=u
  cases u <;> rfl
 show dt (fun v=>pop P (.nilCheck x) (ev m E) (fun r=>r=v)) _=_;rw [funext this];rfl
@[go_sem] theorem dp_binOp {op:BinOp} {T T':TypeId} {x y:Operand}:zf1 P full π k0 K i f rest hist E m ⟨d,.binOp op T x y T',ty,pos,after,none⟩=dt (fun v=>sbin P op T x y (ev m E x) (ev m E y) (fun r=>r=v)) (don P full π k0 K rest hist E m d):=_root_.id rfl
@[go_sem] theorem dp_unOp {op:UnOp} {T:TypeId} {x:Operand}:zf1 P full π k0 K i f rest hist E m ⟨d,.unOp op T x,ty,pos,after,none⟩=dt (fun v=>sun op (ev m E x) (fun r=>r=v)) (don P full π k0 K rest hist E m d):=_root_.id rfl
@[go_sem] theorem dp_convert {s t:TypeId} {x:Operand}:zf1 P full π k0 K i f rest hist E m ⟨d,.convert s t x,ty,pos,after,none⟩=dt (fun v=>zjS P s t (ev m E x) (fun r=>r=v)) (don P full π k0 K rest hist E m d):=_root_.id rfl
@[go_sem] theorem dp_slice {T:TypeId} {x:Operand} {lo hi:Option Operand}:zf1 P full π k0 K i f rest hist E m ⟨d,.slice T x lo hi none,ty,pos,after,none⟩=dt (fun v=>zj3 P T (ev m E x) (lo.map (ev m E)) (hi.map (ev m E)) (fun r=>r=v)) (don P full π k0 K rest hist E m d):=_root_.id rfl
@[go_sem] theorem dp_fieldAddr {T g:Nat} {x:Operand}:zf1 P full π k0 K i f rest hist E m ⟨d,.fieldAddr T x g,ty,pos,after,none⟩=dt (fun v=>zgf P T g (ev m E x) (fun r=>r=v)) (don P full π k0 K rest hist E m d):=_root_.id rfl
@[go_sem] theorem dp_indexAddr {T:TypeId} {x y:Operand}:zf1 P full π k0 K i f rest hist E m ⟨d,.indexAddr T x y,ty,pos,after,none⟩=dt (fun v=>zgD P T (ev m E x) (ev m E y) (fun r=>r=v)) (don P full π k0 K rest hist E m d):=_root_.id rfl
@[go_sem] theorem dp_index {T:TypeId} {x y:Operand}:zf1 P full π k0 K i f rest hist E m ⟨d,.index T x y,ty,pos,after,none⟩=dt (fun v=>zj4 P T (ev m E x) (ev m E y) (fun r=>r=v)) (don P full π k0 K rest hist E m d):=_root_.id rfl
@[go_sem] theorem dp_extract {t:Operand} {n:Nat}:zf1 P full π k0 K i f rest hist E m ⟨d,.extract t n,ty,pos,after,none⟩=dt (fun v=>zgm (ev m E t) n (fun r=>r=v)) (don P full π k0 K rest hist E m d):=by
 have:∀v,pop P (.extract t n) (ev m E) (fun r=>r=v)=zgm (ev m E t) n (fun r=>r=v):=by
  intro v;simp only [pop,zgm]
  generalize ev m E t=u
  cases u with
  | tup vs=>cases vs[n]? <;> rfl
  | _=>rfl
 show dt (fun v=>pop P (.extract t n) (ev m E) (fun r=>r=v)) _=_;rw [funext this];rfl
@[go_sem] theorem dp_len {T:TypeId} {x:Operand}:zf1 P full π k0 K i f rest hist E m ⟨d,.call ⟨.builtin .len,#[x],#[T]⟩,ty,pos,after,none⟩=dt (fun v=>slen P T (ev m E x) (fun r=>r=v)) (don P full π k0 K rest hist E m d):=_root_.id rfl
@[go_sem] theorem dp_min {x y:Operand} {ts:Array TypeId}:zf1 P full π k0 K i f rest hist E m ⟨d,.call ⟨.builtin .min,#[x,y],ts⟩,ty,pos,after,none⟩=dt (fun v=>zfa false (ev m E x) (ev m E y) (fun r=>r=v)) (don P full π k0 K rest hist E m d):=_root_.id rfl
@[go_sem] theorem dp_max {x y:Operand} {ts:Array TypeId}:zf1 P full π k0 K i f rest hist E m ⟨d,.call ⟨.builtin .max,#[x,y],ts⟩,ty,pos,after,none⟩=dt (fun v=>zfa true (ev m E x) (ev m E y) (fun r=>r=v)) (don P full π k0 K rest hist E m d):=_root_.id rfl
@[go_sem] theorem dp_append {t u:TypeId} {s x:Operand}:zf1 P full π k0 K i f rest hist E m ⟨d,.call ⟨.builtin .append,#[s,x],#[t,u]⟩,ty,pos,after,none⟩=dm (fun v m'=>zgE P ((k0+i)::π) m t u (ev m E s) (ev m E x) (fun r m1=>r=v/\m1=m')) m (donM P full π k0 K rest (m::hist) E d):=_root_.id rfl
@[go_sem] theorem dp_clear {T:TypeId} {x:Operand}:zf1 P full π k0 K i f rest hist E m ⟨d,.call ⟨.builtin .clear,#[x],#[T]⟩,ty,pos,after,none⟩=dm (fun v m'=>zkw P m T (ev m E x) (fun r m1=>r=v/\m1=m')) m (donM P full π k0 K rest (m::hist) E d):=_root_.id rfl
@[go_sem] theorem dp_store {T:TypeId} {x y:Operand}:zf1 P full π k0 K i f rest hist E m ⟨d,.store T x y,ty,pos,after,none⟩=dm (fun v m'=>ziW P m T (ev m E x) (ev m E y) (fun m1=>.lit undef=v/\m1=m')) m (donM P full π k0 K rest (m::hist) E d):=_root_.id rfl
@[go_sem] theorem dp_call {g:Operand} {xs:Array Operand} {ts:Array TypeId}:zf1 P full π k0 K i f rest hist E m ⟨d,.call ⟨.value g,xs,ts⟩,ty,pos,after,none⟩=dcall P (ev m E g) (xs.toList.map (ev m E)) ((k0+i)::π) m (donM P full π k0 K rest (m::hist) E d):=by
 have:∀v m',zbL P ⟨d,.call ⟨.value g,xs,ts⟩,ty,pos,after,none⟩ ((k0+i)::π) E m (fun r m1=>r=v/\m1=m')=sfn P (ev m E g) (xs.toList.map (ev m E)) ((k0+i)::π) m (fun r m1=>r=v/\m1=m'):=by
  intro v m';simp only [zbL,zlW,sfn]
  generalize ev m E g=u
  cases u with
  | fn g _ _=>cases g <;> rfl
  | _=>rfl
 show (∃v m',zbL P ⟨d,.call ⟨.value g,xs,ts⟩,ty,pos,after,none⟩ ((k0+i)::π) E m (fun r m1=>r=v/\m1=m')/\_)=_;simp only [this];rfl
end
end Go.Proofs.YtldnmmnnohnpkaaGreatDoor.Abs
namespace Go.Proofs.YtldnmmnnohnpkaaGreatDoor.Abs
set_option linter.unusedVariables false
open Go.RowKit
section
variable {P:Program} {N:Nat} {π:Pa} {k:Nat} {E:Env} {m:M} {Q:Exit->Nat->Env->M->Prop}
theorem zpj {body:Code} (Inv:Env->M->Prop) (μ:Env->M->Nat) (h0:Inv E m)
  (step:∀(i:Nat) (E':Env) (m':M),Inv E' m'->(∀t,wr body t=false->E' t=E t)->SW P N (i::k::π) body 0 E' m' (zlP (fun _ E2 m2=>Inv E2 m2/\μ E2 m2<μ E' m') fun e _ E2 m2=>Q e (k+1) E2 m2)) :
  SW P N π (.loop body) k E m Q:=by
 refine SW_loop Inv μ h0 fun i E' m' hI hf=>zpn (step i E' m' hI hf) fun e k2 E2 m2 h=>?_;cases e <;> exact h
theorem SW_gen {x:Code} (J:Env->M->Prop) (hJ:J E m) (h:∀E' m',J E' m'->SW P N π x k E' m' Q):SW P N π x k E m Q:=h E m hJ
theorem znH {x:Code} (J:M->Prop) (hJ:J m) (h:∀m',J m'->SW P N π x k E m' Q):SW P N π x k E m Q:=h m hJ
theorem zak (q:Pa) (m:M):m.back q m=m:=by
 cases m;simp [M.back]
theorem zam {q id:Pa} {m m':M} {vs:List V} (h:q <:+ id):m.back q (m'.set id vs)=m.back q m':=by
 have hs:q.isSuffixOf id=true:=List.isSuffixOf_iff_suffix.2 h;unfold M.back
 congr 1
 funext i
 show (if q.isSuffixOf i then m.blk i else if i=id then some vs else m'.blk i)=_
 split
 ·rfl
 ·rename_i hi;rw [if_neg (by rintro rfl;exact hi hs)]
theorem zaW {q id:Pa} {m m':M} {n:Nat} {b:Bool} (h:q <:+ id):m.back q (m'.tokset id n b)=m.back q m':=by
 have hs:q.isSuffixOf id=true:=List.isSuffixOf_iff_suffix.2 h;unfold M.back
 congr 1
 funext i
 show (if q.isSuffixOf i then m.tok i else fun j=>if i=id/\j=n then b else m'.tok i j)=_
 split
 ·rfl
 ·rename_i hi
  funext j
  rw [if_neg (by rintro ⟨rfl,_⟩;exact hi hs)]
theorem zaY {q id:Pa} {m m':M} {off:Nat} (h:q <:+ id):m.back q (m'.bump id off)=m.back q m':=by
 have hs:q.isSuffixOf id=true:=List.isSuffixOf_iff_suffix.2 h;unfold M.back
 congr 1
 funext i
 show (if q.isSuffixOf i then m.ver i else fun o=>if i=id/\o=off then m'.ver i o+1 else m'.ver i o)=_
 split
 ·rfl
 ·rename_i hi
  funext j
  rw [if_neg (by rintro ⟨rfl,_⟩;exact hi hs)]
theorem zgl {q:Pa}:q <:+ q:=List.suffix_refl q
theorem zdp {q p:Pa} {n:Nat} (h:q <:+ p):q <:+ (n::p):=h.trans (List.suffix_cons n p)
theorem zo9 {m:M} {id:Pa} {j:Nat}:m.drop (.st (.anon id j))=m.tokset id j false:=_root_.id rfl
end
end Go.Proofs.YtldnmmnnohnpkaaGreatDoor.Abs
namespace Go.Proofs.YtldnmmnnohnpkaaGreatDoor.Abs
set_option linter.unusedVariables false
open Go.RowKit
def M.start:M:=⟨fun _=>none,fun _ _=>0,fun _ _=>false,fun _=>.top,fun _=>none⟩
def Conc.start (w:World) (G:GG):Conc:=⟨w.heap.size,fun _=>False,fun _=>none,fun _=>none,G⟩
section
variable {P:Program} {w:World} {G:GG}
theorem zkC {α:Type} {x:α} {p:Prop} (h:(none:Option α)=some x):p:=by cases h
theorem zmW (q:Pa):zfP (Conc.start w G) q:=fun _ _=>⟨rfl,fun _=>rfl,fun _ _=>rfl,rfl⟩
end
end Go.Proofs.YtldnmmnnohnpkaaGreatDoor.Abs
namespace Go.Proofs.YtldnmmnnohnpkaaGreatDoor
set_option linter.unusedVariables false
open Go.RowKit
end Go.Proofs.YtldnmmnnohnpkaaGreatDoor
namespace Go.Proofs.YtldnmmnnohnpkaaGreatDoor.Abs
set_option linter.unusedVariables false
open Go.RowKit
abbrev Str:=List UInt8
def bs (l:Str):ByteArray:=⟨l.toArray⟩
theorem zkt (l:Str):(bs l).size=l.length:=by simp [bs,ByteArray.size]
theorem bs_inj {a b:Str}:bs a=bs b ↔ a=b:=by
 constructor
 ·intro h;have:=congrArg (fun x:ByteArray=>x.data.toList) h;simpa [bs] using this
 ·rintro rfl;rfl
theorem bs_get (l:Str) (i:Nat) (h:i<(bs l).size):(bs l)[i]=l[i]'(by rw [zkt] at h;exact h):=by
 show (bs l).data[i]=_;simp [bs]
theorem zod (l:Str) (a b:Nat):(bs l).extract a b=bs ((l.take b).drop a):=by
 apply ByteArray.ext;rw [ByteArray.data_extract];apply Array.ext';simp [bs,List.drop_take]
def zfF (l:Str):List (List V):=l.map fun b=>[.lit (.int .u8 (b.toNat:Int))]
theorem zk0 (l:Str):zcG (bs l)=zfF l:=by simp [zcG,zfF,bs]
def sgo (o:Option UInt8) (C:V->Prop):Prop:=match o with | some c=>C (.lit (.int .u8 (c.toNat:Int))) | none=>False
section
variable {P:Program} {T:TypeId} {x y:Operand} {C:V->Prop} {m:M} {E:Env} {s t l:Str} {k:IntKind} {i:Int} {o:Own} {f:FuncId} {args:List V} {q p:Pa}
@[go_sem] theorem sgo_some {c:UInt8}:sgo (some c) C=C (.lit (.int .u8 (c.toNat:Int))):=_root_.id rfl
@[congr] theorem sgo_congr {o o':Option UInt8} (h:o=o'):sgo o C=sgo o' C:=by rw [h]
@[go_sem high] theorem ev_strb:ev m E (.const (.string ⟨l.toArray⟩))=.lit (.string (bs l)):=_root_.id rfl
@[go_sem high] theorem sbin_seqlb:sbin P .eql T x y (.lit (.string (bs s))) (.lit (.string (bs t))) C=C (.lit (.bool (decide (s=t)))):=by
 rw [zoD];simp only [bs_inj]
@[go_sem high] theorem sbin_sneqb:sbin P .neq T x y (.lit (.string (bs s))) (.lit (.string (bs t))) C=C (.lit (.bool (decide (s ≠ t)))):=by
 have:((bs s).toList == (bs t).toList)=decide (s=t):=by
  by_cases h:s=t
  ·subst h;simp
  ·have:¬ (bs s).toList=(bs t).toList:=fun e=>h (bs_inj.1 (zgQ e));simp [h,this]
 simp [sbin,this]
@[go_sem high] theorem slenU_sb:znP .str (.lit (.string (bs s))) C=C (.lit (.int .i64 s.length)):=by rw [slenU_s,zkt]
@[go_sem high] theorem sindexU_sb:zlb P .str (.lit (.string (bs s))) (.lit (.int k i)) C=(0<=i/\sgo s[i.toNat]? C):=by
 rw [zou];apply propext;refine and_congr_right fun _=>?_
 by_cases h:i.toNat<s.length
 ·have h':i.toNat<(bs s).size:=by rw [zkt];exact h
  rw [List.getElem?_eq_getElem h,sgo_some];exact ⟨fun ⟨_,hc⟩=>by rw [bs_get] at hc;exact hc,fun hc=>⟨h',by rw [bs_get];exact hc⟩⟩
 ·rw [List.getElem?_eq_none (by omega)];exact ⟨fun ⟨h',_⟩=>absurd (by rw [zkt] at h';exact h') h,fun hc=>hc.elim⟩
def slB:Option Int->Option Int->Str->(V->Prop)->Prop
 | some a,some b,s,C=>0<=a/\a<=b/\b<=s.length/\C (.lit (.string (bs ((s.take b.toNat).drop a.toNat))))
 | _,_,_,_=>False
@[go_sem high] theorem slU_sb {lo hi:Option V}:slU P .str (.lit (.string (bs s))) lo hi C=slB (bndV lo 0) (bndV hi s.length) s C:=by
 rw [slU_s,zkt];unfold slS slB;cases bndV lo 0 <;> cases bndV hi s.length <;> first | rfl | (simp only [zkt,zod])
@[go_sem] theorem slB_some {a b:Int}:slB (some a) (some b) s C=(0<=a/\a<=b/\b<=s.length/\C (.lit (.string (bs ((s.take b.toNat).drop a.toNat))))):=_root_.id rfl
@[go_sem high] theorem cvU_lsb {D e:TypeId}:cvU P T D (.sl e) .str (.list o (zfF s)) C=(ud P e=.int .u8/\C (.lit (.string (bs s)))):=by
 rw [←zk0,cvU_ls]
@[go_sem high] theorem cvU_slb {D e:TypeId}:cvU P T D .str (.sl e) (.lit (.string (bs s))) C=(ud P e=.int .u8/\s.length<=4611686018427387904/\C (.list .none (zfF s))):=by
 rw [cvU_sl,zk0,zkt]
@[congr] theorem slB_congr {a a' b b':Option Int} {s s':Str} (h1:a=a') (h2:b=b') (h3:s=s'):slB a b s C=slB a' b' s' C:=by rw [h1,h2,h3]
theorem SC.by_ {C:V->M->Prop} {v:V} {m':M} (h:SC P f args q m (fun r m1=>r=v/\m1=m')) (hC:C v m'):SC P f args q m C:=
 h.mono fun _ _ ⟨e1,e2⟩=>by rw [e1,e2];exact hC
theorem za0 {a:List V} (h:m.blk p=some a):m.set p a=m:=by
 cases m with | mk blk ver tok gl=>
 unfold M.set
 congr 1
 funext i
 show (if i=p then some a else blk i)=blk i
 split
 ·rename_i hi;rw [hi];exact h.symm
 ·rfl
theorem zaz {m2:M} {a:List V} (h:¬ q <:+ p):m.back q (m2.set p a)=(m.back q m2).set p a:=by
 have hs:¬ q.isSuffixOf p=true:=fun e=>h (List.isSuffixOf_iff_suffix.1 e);unfold M.back M.set
 congr 1
 funext i
 show (if q.isSuffixOf i then m.blk i else if i=p then some a else m2.blk i)=(if i=p then some a else if q.isSuffixOf i then m.blk i else m2.blk i)
 by_cases h1:i=p
 ·subst h1;rw [if_neg hs,if_pos rfl,if_pos rfl]
 ·rw [if_neg h1,if_neg h1]
end
attribute [go_sem] List.map_cons List.map_nil List.toList_toArray Option.map_some Option.map_none List.nil_append List.append_nil List.cons_append true_and and_true List.drop_succ_cons List.drop_zero List.take_succ_cons List.take_zero List.set_cons_zero List.set_cons_succ List.length_cons List.length_nil List.length_map List.getElem?_cons_zero List.getElem?_cons_succ List.getElem?_map List.forall_mem_cons List.not_mem_nil false_implies implies_true Bool.not_true Bool.not_false beq_self_eq_true Bool.or_true Bool.true_or Bool.and_true Bool.true_and Bool.or_false Bool.false_or Bool.and_false Bool.false_and List.forall_mem_map Int.natCast_nonneg Int.toNat_natCast decide_true decide_false List.take_length
end Go.Proofs.YtldnmmnnohnpkaaGreatDoor.Abs
namespace Go.Proofs.YtldnmmnnohnpkaaGreatDoor.Abs
set_option linter.unusedVariables false
open Go.RowKit
end Go.Proofs.YtldnmmnnohnpkaaGreatDoor.Abs
namespace Go.Proofs.YtldnmmnnohnpkaaGreatDoor.Abs
set_option linter.unusedVariables false
open Go.RowKit
def need {α:Type} (p:Prop) [Decidable p] (x:Option α):Option α:=if p then x else none
theorem zaM {α:Type} {p:Prop} [Decidable p] {x:Option α} {r:α} (h:need p x=some r):p/\x=some r:=by
 unfold need at h
 split at h
 ·rename_i hp;exact ⟨hp,h⟩
 ·cases h
theorem zl0 {α:Type} {p:Prop} [Decidable p] {x:Option α} (hp:p):need p x=x:=if_pos hp
theorem bind_some {α β:Type} {x:Option α} {f:α->Option β} {r:β} (h:x.bind f=some r):∃a,x=some a/\f a=some r:=Option.bind_eq_some_iff.1 h
theorem za9 (b:Bool):b=true ∨ b=false:=by cases b <;> simp
def idxL {α:Type} (l:List α) (i:Int):Option α:=if 0<=i then l[i.toNat]? else none
theorem zaw {α:Type} {l:List α} {i:Int} {x:α} (h:idxL l i=some x):0<=i/\i<l.length/\l[i.toNat]? = some x:=by
 unfold idxL at h
 split at h
 ·rename_i h0;obtain ⟨h1,_⟩:=List.getElem?_eq_some_iff.1 h;exact ⟨h0,by omega,h⟩
 ·cases h
theorem zaA {α:Type} {b:Bool} {x y:α} {r:α} (hb:b=true) (h:(if b=true then x else y)=r):x=r:=by rw [hb] at h;exact h
theorem zaB {α:Type} {b:Bool} {x y:α} {r:α} (hb:b=false) (h:(if b=true then x else y)=r):y=r:=by rw [hb] at h;exact h
theorem zag {α:Type} {x y:α} (h:some x=some y):x=y:=by injection h
section
variable {P:Program} {N:Nat} {π:Pa} {k:Nat} {E:Env} {m:M} {Q:Exit->Nat->Env->M->Prop} {q p:Pa} {f:FuncId} {args:List V} {R:V->M->Prop}
theorem least {p:Nat->Prop} (h:∃c,p c):∃c,p c/\∀d,p d->c<=d:=by
 obtain ⟨c,hc⟩:=h
 induction c using Nat.strongRecOn with
 | _ c ih=>
   by_cases hx:∃d,d<c/\p d
   ·obtain ⟨d,hd,hp⟩:=hx;exact ih d hd hp
   ·exact ⟨c,hc,fun d hd=>Nat.le_of_not_lt fun hlt=>hx ⟨d,hlt,hd⟩⟩
theorem zkL {body:Code} (Inv:Nat->Env->M->Prop) (c0:Nat) (h0:Inv c0 E m)
  (step:∀(i c:Nat) (E':Env) (m':M),Inv c E' m'->(∀t,wr body t=false->E' t=E t)->SW P N (i::k::π) body 0 E' m' (zlP (fun _ E2 m2=>∃c',c'<c/\Inv c' E2 m2) fun e _ E2 m2=>Q e (k+1) E2 m2)) :
  SW P N π (.loop body) k E m Q:=by
 have hμ:∀(E:Env) (m:M),∃c,(∃c',Inv c' E m)->Inv c E m/\∀d,Inv d E m->c<=d:=by
  intro E m
  by_cases h:∃c',Inv c' E m
  ·obtain ⟨c,h1,h2⟩:=least h;exact ⟨c,fun _=>⟨h1,h2⟩⟩
  ·exact ⟨0,fun h'=>absurd h' h⟩
 refine zpj (fun E m=>∃c,Inv c E m) (fun E m=>Classical.choose (hμ E m)) ⟨c0,h0⟩ fun i E' m' hI hf=>?_;obtain ⟨h1,h2⟩:=Classical.choose_spec (hμ E' m') hI;refine zpn (step i _ E' m' h1 hf) fun e k2 E2 m2 h=>?_;cases e with
 | normal=>
   obtain ⟨c',hc,hI2⟩:=h;obtain ⟨h3,h4⟩:=Classical.choose_spec (hμ E2 m2) ⟨c',hI2⟩;exact ⟨⟨c',hI2⟩,Nat.lt_of_le_of_lt (h4 c' hI2) hc⟩
 | _=>exact h
theorem SC.apart {cs:List V} (hm:m.blk p=some cs) (h:¬ q <:+ p->SC P f args q m R):SC P f args q m R:=by
 intro c xs w h1 h2 h3;refine h (fun hs=>?_) c xs w h1 h2 h3;have:=h1.fresh_blk (h3 p hs);rw [hm] at this;cases this
theorem pa1 (hp:¬ q <:+ p) {a:Nat}:(a::q=p)=False:=eq_false fun h=>hp (h ▸ zdp zgl)
theorem pa3 (hp:¬ q <:+ p) {a b c:Nat}:(a::b::c::q=p)=False:=eq_false fun h=>hp (h ▸ zdp (zdp (zdp zgl)))
theorem pb1 (hp:¬ q <:+ p) {a:Nat}:(p=a::q)=False:=eq_false fun h=>hp (h ▸ zdp zgl)
theorem pb3 (hp:¬ q <:+ p) {a b c:Nat}:(p=a::b::c::q)=False:=eq_false fun h=>hp (h ▸ zdp (zdp (zdp zgl)))
@[go_sem] theorem sf1 {a:Nat}:(q <:+ a::q)=True:=eq_true (zdp zgl)
@[go_sem] theorem sf2 {a b:Nat}:(q <:+ a::b::q)=True:=eq_true (zdp (zdp zgl))
@[go_sem] theorem sf3 {a b c:Nat}:(q <:+ a::b::c::q)=True:=eq_true (zdp (zdp (zdp zgl)))
@[go_sem] theorem sf5 {a b c d e:Nat}:(q <:+ a::b::c::d::e::q)=True:=eq_true (zdp (zdp (zdp (zdp (zdp zgl)))))
end
@[go_sem] theorem byteRows_len {l:Str}:(zfF l).length=l.length:=by simp [zfF]
@[go_sem] theorem int0:Int.toNat 0=0:=_root_.id rfl
attribute [go_sem] Nat.zero_le Nat.zero_ne_one Nat.one_ne_zero Nat.le_refl Int.le_refl and_self
end Go.Proofs.YtldnmmnnohnpkaaGreatDoor.Abs
