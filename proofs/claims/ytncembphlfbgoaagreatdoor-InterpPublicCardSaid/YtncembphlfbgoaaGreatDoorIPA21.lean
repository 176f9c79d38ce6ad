/- Lemmas of ours. -/
import Derived.Test.YtncembphlfbgoaaGreatDoorIPA20
import Derived.Below
import Derived.Deep.Matrix
import Derived.ChangeArms
import Derived.WideShapes
namespace Go.Proofs.YtncembphlfbgoaaGreatDoor.Abs
open Go.RowKit
def dt (S:V->Prop) (C:V->Prop):Prop:=∃v,S v/\C v
@[go_sem] theorem Lt {a:V} {C:V->Prop}:dt (fun v=>a=v) C=C a:=propext ⟨fun ⟨_,h,hc⟩=>h ▸ hc,fun h=>⟨a,rfl,h⟩⟩
@[go_sem] theorem dt_and {p:Prop} {S C:V->Prop}:dt (fun v=>p/\S v) C=(p/\dt S C):=propext ⟨fun ⟨v,⟨hp,hs⟩,hc⟩=>⟨hp,v,hs,hc⟩,fun ⟨hp,v,hs,hc⟩=>⟨v,⟨hp,hs⟩,hc⟩⟩
@[congr] theorem dt_congr {S S':V->Prop} {C:V->Prop} (h:∀v,S v=S' v):dt S C=dt S' C:=by rw [show S=S' from funext h]
def dm (S:V->M->Prop) (m:M) (C:V->M->Prop):Prop:=∃v m',S v m'/\m'.gl=m.gl/\C v m'
@[go_sem] theorem dm_eq {a:V} {b m:M} {C:V->M->Prop}:dm (fun v m'=>a=v/\b=m') m C=(b.gl=m.gl/\C a b):=propext ⟨fun ⟨_,_,⟨h1,h2⟩,hg,hc⟩=>by subst h1 h2;exact ⟨hg,hc⟩,fun ⟨hg,h⟩=>⟨a,b,⟨rfl,rfl⟩,hg,h⟩⟩
@[go_sem] theorem dm_and {p:Prop} {S:V->M->Prop} {m:M} {C:V->M->Prop}:dm (fun v m'=>p/\S v m') m C=(p/\dm S m C):=propext ⟨fun ⟨v,m',⟨hp,hs⟩,hc⟩=>⟨hp,v,m',hs,hc⟩,fun ⟨hp,v,m',hs,hc⟩=>⟨v,m',⟨hp,hs⟩,hc⟩⟩
@[congr] theorem dm_congr {S S':V->M->Prop} {m:M} {C:V->M->Prop} (h:∀v m',S v m'=S' v m'):dm S m C=dm S' m C:=by rw [show S=S' from funext fun v=>funext fun m'=>h v m']
def Lw (P:Program) (f:V) (args:List V) (q:Pa) (m:M) (C:V->M->Prop):Prop:=∃v m',Ke P f args q m (fun r m1=>r=v/\m1=m')/\m'.gl=m.gl/\C v m'
theorem vN {P:Program} {g:FuncId} {first captured args:List V} {q:Pa} {m m':M} {v:V} {C:V->M->Prop} (h:SC P g (first++args++captured) q m (fun r m1=>r=v/\m1=m')) (hg:m'.gl=m.gl) (hc:C v m'):Lw P (.fn (.func g) first captured) args q m C:=⟨v,m',h,hg,hc⟩
@[congr] theorem dcall_congr {P:Program} {f f':V} {as as':List V} {q:Pa} {m:M} {C:V->M->Prop} (h1:f=f') (h2:as=as'):Lw P f as q m C=Lw P f' as' q m C:=by rw [h1,h2]
def pT (P:Program) (full:List Oper) (π:Pa) (k0:Nat) (K:Nat->dU->M->Prop) (i f:Nat) (rest:List (Nat × Nat)) (hist:List M) (E:dU) (m:M) (o:Oper):Prop:=
 match o.guard with
 | none=>dop P o.op o f ((k0+i)::π) hist E m (fun v m' hist'=>PD P full π k0 K rest hist' (gC o.dst v E) m')
 | some (j,b)=>
   match (full[j]?).bind (·.dst) with
   | none=>False
   | some d=>
     match E d with
     | .lit (.bool t)=>if t=b then dop P o.op o f ((k0+i)::π) hist E m (fun v m' hist'=>PD P full π k0 K rest hist' (gC o.dst v E) m') else PD P full π k0 K rest (if rT o.op then m::hist else hist) (gC o.dst (.lit undef) E) m
     | .lit (.tuple _)=>PD P full π k0 K rest (if rT o.op then m::hist else hist) (gC o.dst (.lit undef) E) m
     | _=>False
def EI (os:List Oper) (i:Nat) (C:Oper->Prop):Prop:=match os[i]? with | some o=>C o | none=>False
@[go_sem] theorem nthO_zero {o:Oper} {os:List Oper} {C:Oper->Prop}:EI (o::os) 0 C=C o:=rI rfl
@[go_sem] theorem nthO_succ {o:Oper} {os:List Oper} {i:Nat} {C:Oper->Prop}:EI (o::os) (i+1) C=EI os i C:=by
 unfold EI;rw [Ki]
def Ih (P:Program) (full:List Oper) (π:Pa) (k0:Nat) (K:Nat->dU->M->Prop) (rest:List (Nat × Nat)) (hist:List M) (E:dU) (m:M) (d:Option Nat) (v:V):Prop:=PD P full π k0 K rest hist (gC d v E) m
def RG (P:Program) (full:List Oper) (π:Pa) (k0:Nat) (K:Nat->dU->M->Prop) (rest:List (Nat × Nat)) (hist:List M) (E:dU) (d:Option Nat) (v:V) (m:M):Prop:=PD P full π k0 K rest hist (gC d v E) m
def Pj (P:Program) (T:TypeId) (u:V) (hist:List M) (C:V->Prop) (v:V):Prop:=(∀m1 ∈ hist,oW P m1 T u (fun r=>r=v))/\C v
def Pk (P:Program) (full:List Oper) (π:Pa) (k0:Nat) (K:Nat->dU->M->Prop) (i f:Nat) (rest:List (Nat × Nat)) (hist:List M) (E:dU) (m:M) (d:Option Nat) (op:Op) (ty:TypeId) (pos:String) (after:Array Edge) (b:Bool) (v:V):Prop:=
 gsel v b (pT P full π k0 K i f rest hist E m ⟨d,op,ty,pos,after,none⟩) (PD P full π k0 K rest (if rT op then m::hist else hist) (gC d (.lit undef) E) m)
section
variable {P:Program} {full:List Oper} {π:Pa} {k0:Nat} {K:Nat->dU->M->Prop} {i f:Nat} {rest:List (Nat × Nat)} {hist:List M} {E:dU} {m:M} {d:Option Nat} {ty:TypeId} {pos:String} {after:Array Edge} {v:V}
@[go_sem] theorem pd_nil:PD P full π k0 K [] hist E m=K (k0+full.length) E m:=rI rfl
@[go_sem] theorem pd_cons:PD P full π k0 K ((i,f)::rest) hist E m=EI full i (pT P full π k0 K i f rest hist E m):=by
 simp only [PD,EI];cases full[i]? with
 | none=>rfl
 | some o=>rfl
@[go_sem] theorem don_at:Ih P full π k0 K rest hist E m d v=PD P full π k0 K rest hist (gC d v E) m:=rI rfl
@[go_sem] theorem donM_at:RG P full π k0 K rest hist E d v m=PD P full π k0 K rest hist (gC d v E) m:=rI rfl
@[go_sem] theorem donL_nil {T:TypeId} {u:V} {C:V->Prop}:Pj P T u [] C v=C v:=by simp [Pj]
@[go_sem] theorem donL_cons {T:TypeId} {u:V} {C:V->Prop} {m1:M} {hs:List M}:Pj P T u (m1::hs) C v=(oW P m1 T u (fun r=>r=v)/\Pj P T u hs C v):=by simp [Pj,and_assoc]
@[go_sem] theorem dgon_tt {op:Op}:Pk P full π k0 K i f rest hist E m d op ty pos after true (.lit (.bool true))=pT P full π k0 K i f rest hist E m ⟨d,op,ty,pos,after,none⟩:=rI rfl
@[go_sem] theorem dgon_ff {op:Op}:Pk P full π k0 K i f rest hist E m d op ty pos after false (.lit (.bool false))=pT P full π k0 K i f rest hist E m ⟨d,op,ty,pos,after,none⟩:=rI rfl
@[go_sem] theorem dgon_tf {op:Op}:Pk P full π k0 K i f rest hist E m d op ty pos after false (.lit (.bool true))=PD P full π k0 K rest (if rT op then m::hist else hist) (gC d (.lit undef) E) m:=rI rfl
@[go_sem] theorem dgon_ft {op:Op}:Pk P full π k0 K i f rest hist E m d op ty pos after true (.lit (.bool false))=PD P full π k0 K rest (if rT op then m::hist else hist) (gC d (.lit undef) E) m:=rI rfl
@[go_sem] theorem dp_guard {op:Op} {j:Nat} {b:Bool}:pT P full π k0 K i f rest hist E m ⟨d,op,ty,pos,after,some (j,b)⟩=Hx full j E (Pk P full π k0 K i f rest hist E m d op ty pos after b):=by
 unfold pT Hx Pk gsel;simp only;cases (full[j]?).bind (·.dst) with
 | none=>rfl
 | some d'=>
   simp only
   generalize E d'=v
   cases v with
   | lit u=>cases u <;> rfl
   | _=>rfl
@[go_sem] theorem dp_load {T:TypeId} {x:Operand}:pT P full π k0 K i f rest hist E m ⟨d,.load T x,ty,pos,after,none⟩=dt (fun v=>oW P m T (ev m E x) (fun r=>r=v)) (Pj P T (ev m E x) (hist.take f) (Ih P full π k0 K rest hist E m d)):=rI rfl
@[go_sem] theorem dp_alloc {T:TypeId}:pT P full π k0 K i f rest hist E m ⟨d,.alloc T,ty,pos,after,none⟩=ED (dJ P T) (fun zs=>Ih P full π k0 K rest hist E (m.set ((k0+i)::π) (zs.map V.raw0)) d (.ptr ((k0+i)::π) 0)):=by
 apply propext;show (∃vs,dJ P T=some vs/\_) ↔ _;unfold ED
 constructor
 ·rintro ⟨vs,h,hc⟩;rw [h];exact hc
 ·intro h;cases hz:dJ P T with
  | none=>rw [hz] at h;exact h.elim
  | some vs=>rw [hz] at h;exact ⟨vs,rfl,h⟩
@[go_sem] theorem dp_move {x:Operand}:pT P full π k0 K i f rest hist E m ⟨d,.move x,ty,pos,after,none⟩=Ih P full π k0 K rest hist E m d (ev m E x):=Lt
@[go_sem] theorem dp_assign {x:Operand}:pT P full π k0 K i f rest hist E m ⟨d,.assign x,ty,pos,after,none⟩=Ih P full π k0 K rest hist E m d (ev m E x):=Lt
@[go_sem] theorem dp_pick {t x y:Operand}:pT P full π k0 K i f rest hist E m ⟨d,.pick t x y,ty,pos,after,none⟩=dt (fun v=>Is (ev m E t) (ev m E x) (ev m E y) (fun r=>r=v)) (Ih P full π k0 K rest hist E m d):=rI rfl
@[go_sem] theorem dp_build {T:TypeId} {ps:Array (Nat × Operand)}:pT P full π k0 K i f rest hist E m ⟨d,.build T ps,ty,pos,after,none⟩=dt (fun v=>xF P T (ps.toList.map fun p=>(p.1,ev m E p.2)) (fun r=>r=v)) (Ih P full π k0 K rest hist E m d):=rI rfl
@[go_sem] theorem dp_buildSlice {T:TypeId} {n:Nat} {ps:Array (Nat × Operand)}:pT P full π k0 K i 0 rest hist E m ⟨d,.buildSlice T n ps,ty,pos,after,none⟩=dt (fun v=>oG P T n (ps.toList.map fun p=>(p.1,ev m E p.2)) (fun r=>r=v)) (Ih P full π k0 K rest hist E m d):=rI rfl
@[go_sem] theorem dp_nil0 {T:TypeId} {n:Nat} {ps:Array (Nat × Operand)}:pT P full π k0 K i 1 rest hist E m ⟨d,.buildSlice T n ps,ty,pos,after,none⟩=(oG P T n (ps.toList.map fun p=>(p.1,ev m E p.2)) (fun r=>r=.list .exact [])/\Ih P full π k0 K rest hist E m d .nilv):=by
 apply propext
 constructor
 ·rintro ⟨v,⟨h1,rfl⟩,h2⟩;exact ⟨h1,h2⟩
 ·rintro ⟨h1,h2⟩;exact ⟨.nilv,⟨h1,rfl⟩,h2⟩
@[go_sem] theorem dp_nilCheck {x:Operand}:pT P full π k0 K i f rest hist E m ⟨d,.nilCheck x,ty,pos,after,none⟩=dt (fun v=>Dt (ev m E x) (fun r=>r=v)) (Ih P full π k0 K rest hist E m d):=by
 have:∀v,EG P (.nilCheck x) (ev m E) (fun r=>r=v)=Dt (ev m E x) (fun r=>r=v):=by
  intro v;simp only [EG,Dt]
  generalize ev m E x=u
  cases u <;> rfl
 show dt (fun v=>EG P (.nilCheck x) (ev m E) (fun r=>r=v)) _=_;rw [funext this];rfl
@[go_sem] theorem dp_binOp {op:BinOp} {T T':TypeId} {x y:Operand}:pT P full π k0 K i f rest hist E m ⟨d,.binOp op T x y T',ty,pos,after,none⟩=dt (fun v=>oZ P op T x y (ev m E x) (ev m E y) (fun r=>r=v)) (Ih P full π k0 K rest hist E m d):=rI rfl
@[go_sem] theorem dp_unOp {op:UnOp} {T:TypeId} {x:Operand}:pT P full π k0 K i f rest hist E m ⟨d,.unOp op T x,ty,pos,after,none⟩=dt (fun v=>Qa op (ev m E x) (fun r=>r=v)) (Ih P full π k0 K rest hist E m d):=rI rfl
@[go_sem] theorem dp_convert {s t:TypeId} {x:Operand}:pT P full π k0 K i f rest hist E m ⟨d,.convert s t x,ty,pos,after,none⟩=dt (fun v=>xO P s t (ev m E x) (fun r=>r=v)) (Ih P full π k0 K rest hist E m d):=rI rfl
@[go_sem] theorem dp_slice {T:TypeId} {x:Operand} {lo hi:Option Operand}:pT P full π k0 K i f rest hist E m ⟨d,.slice T x lo hi none,ty,pos,after,none⟩=dt (fun v=>Ay P T (ev m E x) (lo.map (ev m E)) (hi.map (ev m E)) (fun r=>r=v)) (Ih P full π k0 K rest hist E m d):=rI rfl
@[go_sem] theorem dp_fieldAddr {T g:Nat} {x:Operand}:pT P full π k0 K i f rest hist E m ⟨d,.fieldAddr T x g,ty,pos,after,none⟩=dt (fun v=>tC P T g (ev m E x) (fun r=>r=v)) (Ih P full π k0 K rest hist E m d):=rI rfl
@[go_sem] theorem dp_indexAddr {T:TypeId} {x y:Operand}:pT P full π k0 K i f rest hist E m ⟨d,.indexAddr T x y,ty,pos,after,none⟩=dt (fun v=>uA P T (ev m E x) (ev m E y) (fun r=>r=v)) (Ih P full π k0 K rest hist E m d):=rI rfl
@[go_sem] theorem dp_index {T:TypeId} {x y:Operand}:pT P full π k0 K i f rest hist E m ⟨d,.index T x y,ty,pos,after,none⟩=dt (fun v=>Az P T (ev m E x) (ev m E y) (fun r=>r=v)) (Ih P full π k0 K rest hist E m d):=rI rfl
@[go_sem] theorem dp_extract {t:Operand} {n:Nat}:pT P full π k0 K i f rest hist E m ⟨d,.extract t n,ty,pos,after,none⟩=dt (fun v=>tO (ev m E t) n (fun r=>r=v)) (Ih P full π k0 K rest hist E m d):=by
 have:∀v,EG P (.extract t n) (ev m E) (fun r=>r=v)=tO (ev m E t) n (fun r=>r=v):=by
  intro v;simp only [EG,tO]
  generalize ev m E t=u
  cases u with
  | tup vs=>cases vs[n]? <;> rfl
  | _=>rfl
 show dt (fun v=>EG P (.extract t n) (ev m E) (fun r=>r=v)) _=_;rw [funext this];rfl
@[go_sem] theorem dp_len {T:TypeId} {x:Operand}:pT P full π k0 K i f rest hist E m ⟨d,.call ⟨.builtin .len,#[x],#[T]⟩,ty,pos,after,none⟩=dt (fun v=>Gq P T (ev m E x) (fun r=>r=v)) (Ih P full π k0 K rest hist E m d):=rI rfl
@[go_sem] theorem dp_min {x y:Operand} {ts:Array TypeId}:pT P full π k0 K i f rest hist E m ⟨d,.call ⟨.builtin .min,#[x,y],ts⟩,ty,pos,after,none⟩=dt (fun v=>pR false (ev m E x) (ev m E y) (fun r=>r=v)) (Ih P full π k0 K rest hist E m d):=rI rfl
@[go_sem] theorem dp_max {x y:Operand} {ts:Array TypeId}:pT P full π k0 K i f rest hist E m ⟨d,.call ⟨.builtin .max,#[x,y],ts⟩,ty,pos,after,none⟩=dt (fun v=>pR true (ev m E x) (ev m E y) (fun r=>r=v)) (Ih P full π k0 K rest hist E m d):=rI rfl
@[go_sem] theorem dp_append {t u:TypeId} {s x:Operand}:pT P full π k0 K i f rest hist E m ⟨d,.call ⟨.builtin .append,#[s,x],#[t,u]⟩,ty,pos,after,none⟩=dm (fun v m'=>uB P ((k0+i)::π) m t u (ev m E s) (ev m E x) (fun r m1=>r=v/\m1=m')) m (RG P full π k0 K rest (m::hist) E d):=rI rfl
@[go_sem] theorem dp_clear {T:TypeId} {x:Operand}:pT P full π k0 K i f rest hist E m ⟨d,.call ⟨.builtin .clear,#[x],#[T]⟩,ty,pos,after,none⟩=dm (fun v m'=>BY P m T (ev m E x) (fun r m1=>r=v/\m1=m')) m (RG P full π k0 K rest (m::hist) E d):=rI rfl
@[go_sem] theorem dp_store {T:TypeId} {x y:Operand}:pT P full π k0 K i f rest hist E m ⟨d,.store T x y,ty,pos,after,none⟩=dm (fun v m'=>xE P m T (ev m E x) (ev m E y) (fun m1=>.lit undef=v/\m1=m')) m (RG P full π k0 K rest (m::hist) E d):=rI rfl
@[go_sem] theorem dp_call {g:Operand} {xs:Array Operand} {ts:Array TypeId}:pT P full π k0 K i f rest hist E m ⟨d,.call ⟨.value g,xs,ts⟩,ty,pos,after,none⟩=Lw P (ev m E g) (xs.toList.map (ev m E)) ((k0+i)::π) m (RG P full π k0 K rest (m::hist) E d):=by
 have:∀v m',dW P ⟨d,.call ⟨.value g,xs,ts⟩,ty,pos,after,none⟩ ((k0+i)::π) E m (fun r m1=>r=v/\m1=m')=Ke P (ev m E g) (xs.toList.map (ev m E)) ((k0+i)::π) m (fun r m1=>r=v/\m1=m'):=by
  intro v m';simp only [dW,Fb,Ke]
  generalize ev m E g=u
  cases u with
  | fn g _ _=>cases g <;> rfl
  | _=>rfl
 show (∃v m',dW P ⟨d,.call ⟨.value g,xs,ts⟩,ty,pos,after,none⟩ ((k0+i)::π) E m (fun r m1=>r=v/\m1=m')/\_)=_;simp only [this];rfl
end
section
variable {P:Program} {N:Nat} {π:Pa} {k:Nat} {E:dU} {m:M} {Q:Exit->Nat->dU->M->Prop}
theorem PF {body:Code} (CF:dU->M->Prop) (μ:dU->M->Nat) (h0:CF E m)
  (step:∀(i:Nat) (E':dU) (m':M),CF E' m'->(∀t,wr body t=false->E' t=E t)->SW P N (i::k::π) body 0 E' m' (CJ (fun _ E2 m2=>CF E2 m2/\μ E2 m2<μ E' m') fun e _ E2 m2=>Q e (k+1) E2 m2)) :
  SW P N π (.loop body) k E m Q:=by
 refine SW_loop CF μ h0 fun i E' m' hI hf=>NP (step i E' m' hI hf) fun e k2 E2 m2 h=>?_;cases e <;> exact h
theorem Sm {x:Code} (J:dU->M->Prop) (hJ:J E m) (h:∀E' m',J E' m'->SW P N π x k E' m' Q):SW P N π x k E m Q:=h E m hJ
theorem HM {x:Code} (J:M->Prop) (hJ:J m) (h:∀m',J m'->SW P N π x k E m' Q):SW P N π x k E m Q:=h m hJ
theorem bK (q:Pa) (m:M):m.back q m=m:=by
 cases m;simp [M.back]
theorem bF {q id:Pa} {m m':M} {vs:List V} (h:q <:+ id):m.back q (m'.set id vs)=m.back q m':=by
 have hs:q.isSuffixOf id=true:=Fz.2 h;unfold M.back
 congr 1
 funext i
 show (if q.isSuffixOf i then m.blk i else if i=id then some vs else m'.blk i)=_
 split
 ·rfl
 ·rename_i hi;rw [if_neg (by rintro rfl;exact hi hs)]
theorem cG {q id:Pa} {m m':M} {n:Nat} {b:Bool} (h:q <:+ id):m.back q (m'.tokset id n b)=m.back q m':=by
 have hs:q.isSuffixOf id=true:=Fz.2 h;unfold M.back
 congr 1
 funext i
 show (if q.isSuffixOf i then m.tok i else fun j=>if i=id/\j=n then b else m'.tok i j)=_
 split
 ·rfl
 ·rename_i hi
  funext j
  rw [if_neg (by rintro ⟨rfl,_⟩;exact hi hs)]
theorem dB {q id:Pa} {m m':M} {off:Nat} (h:q <:+ id):m.back q (m'.bump id off)=m.back q m':=by
 have hs:q.isSuffixOf id=true:=Fz.2 h;unfold M.back
 congr 1
 funext i
 show (if q.isSuffixOf i then m.ver i else fun o=>if i=id/\o=off then m'.ver i o+1 else m'.ver i o)=_
 split
 ·rfl
 ·rename_i hi
  funext j
  rw [if_neg (by rintro ⟨rfl,_⟩;exact hi hs)]
theorem tN {q:Pa}:q <:+ q:=Jb q
theorem kQ {q p:Pa} {n:Nat} (h:q <:+ p):q <:+ (n::p):=h.trans (Nf n p)
theorem Ph {m:M} {id:Pa} {j:Nat}:m.drop (.st (.anon id j))=m.tokset id j false:=rI rfl
end
def M.start:M:=⟨fun _=>none,fun _ _=>0,fun _ _=>false,fun _=>.top,fun _=>none⟩
def Conc.start (w:World) (G:GG):Conc:=⟨w.heap.size,fun _=>False,fun _=>none,fun _=>none,G⟩
section
variable {P:Program} {w:World} {G:GG}
theorem Ea {α:Type} {x:α} {p:Prop} (h:(none:Option α)=some x):p:=by cases h
theorem Kw (q:Pa):qT (Conc.start w G) q:=fun _ _=>⟨rfl,fun _=>rfl,fun _ _=>rfl,rfl⟩
theorem GL {c:Conc} {k:IntKind} {a:Option Addr} {cap:Nat} {zs:List Int} (hl:zs.length<=cap) (hm:cap<=maxLen) (ha:0<zs.length->∃b off,a=some ⟨b,off,none⟩) (hG:GB c.G a (zs.map (Value.int k))):CR c [.list .none (zs.map fun z=>[.lit (.int k z)])] [.slice a zs.length cap]:=by
 have hcr:∀l:List Int,CR c ((l.map fun z=>[V.lit (.int k z)]).flatten) (l.map (Value.int k)):=by
  intro l
  induction l with
  | nil=>exact .nil
  | cons z l ih=>exact .lit ih
 have:=CR.list (o:=.none) (a:=a) (cap:=cap) (c:=c) (rows:=zs.map fun z=>[V.lit (.int k z)]) (es:=zs.map (Value.int k)) (sz:=1) (vs:=[]) (cs:=[]) (hcr zs) (by intro r hr;obtain ⟨y,_,rfl⟩:=ER.1 hr;rfl) (by decide) (by simpa using hl) hm (by simpa using ha) hG (by intro u hu;obtain ⟨y,_,rfl⟩:=ER.1 hu;rfl) trivial .nil;simpa using this
end
end Go.Proofs.YtncembphlfbgoaaGreatDoor.Abs
namespace Go.Proofs.YtncembphlfbgoaaGreatDoor
open Go.RowKit
def rowG (x:Addr) (len:Nat) (k:IntKind) (zs:List Int):GG:=fun b o=>if b=x.block/\x.off<=o/\o<x.off+len then some (.int k (zs.getD (o - x.off) 0)) else none
theorem OI (G:GG) (k:IntKind) (zs:List Int) (h:∀n ∈ zs,(Lit.int k n).wf=true):xM G (zs.map (Na.int k)) (zs.map (Value.int k)):=by
 induction zs with
 | nil=>exact .nil
 | cons z zs ih=>exact .int (h z (by simp)) (ih fun n hn=>h n (by simp [hn]))
theorem CD.le {G G':GG} (hle:∀b o v,G b o=some v->G' b o=some v) {es:List Na} {a:Option Addr} {len cap:Nat} (h:CD G es a len cap):CD G' es a len cap:=by
 obtain ⟨h0,hc,hm,cs,h1,ha⟩:=h;refine ⟨h0,hc,hm,cs,h1.mono hle,fun hl=>?_⟩;obtain ⟨b,off,e,h⟩:=ha hl;exact ⟨b,off,e,fun i u hu=>hle _ _ _ (h i u hu)⟩
theorem row_in {k:IntKind} {w:World} {a:Option Addr} {len cap:Nat} {zs:List Int}
  (h:(a=none/\len=0/\cap=0/\zs=[]) ∨ ∃x,a=some x/\len<=cap/\cap<=maxLen/\zs.length=cap/\(∀i,i<zs.length->w.cell? (x.add i)=some (.int k (zs.getD i 0)))/\∀n ∈ zs,(Lit.int k n).wf=true) :
  ∃G,Ez w G/\CD G ((zs.take len).map (Na.int k)) a len cap/\(zs.take len).length=len/\∀n ∈ zs.take len,(Lit.int k n).wf=true:=by
 rcases h with ⟨rfl,rfl,rfl,rfl⟩ | ⟨x,rfl,hlc,hm,hz,hcell,hwf⟩
 ·exact ⟨fun _ _=>none,fun b o v h=>(by cases h),⟨rfl,tJ _,by decide,[],.nil,fun h=>by cases h⟩,rfl,by simp⟩
 ·have hwf':∀n ∈ zs.take len,(Lit.int k n).wf=true:=fun n hn=>hwf n (Kb hn);have hlen:(zs.take len).length=len:=by rw [Ei];omega
  rcases Nat.eq_zero_or_pos len with h0 | h0
  ·subst h0;exact ⟨fun _ _=>none,fun b o v h=>(by cases h),⟨by simp,Kh _,hm,[],by simpa using .nil,fun h=>by cases h⟩,rfl,by simp⟩
  ·have hsp:x=⟨x.block,x.off,none⟩:=by
    have h1:=hcell 0 (by omega);cases hs:x.spot with
    | none=>cases x;simp_all
    | some s=>
      unfold World.cell? Addr.add at h1;rw [if_pos rfl,hs] at h1
      split at h1 <;> simp at h1
   refine ⟨rowG x len k zs,fun b o v hv=>?_,⟨by simp;omega,hlc,hm,(zs.take len).map (Value.int k),OI _ _ _ hwf',fun _=>⟨x.block,x.off,by rw [←hsp],fun i u hu=>?_⟩⟩,hlen,hwf'⟩
   ·unfold rowG at hv
    split at hv
    ·rename_i hb
     injection hv with hv
     subst hv;have:=hcell (o - x.off) (by omega);rw [hsp,kH] at this;rw [hb.1,←this]
     congr 2;simp;omega
    ·cases hv
   ·have hi:i<len:=by have:=(qJ.1 hu).1;simp at this;omega
    unfold rowG;rw [if_pos ⟨rfl,by omega,by omega⟩];rw [show x.off+i - x.off=i by omega];rw [yH,xek hi,tA (by omega)] at hu;rw [Kj,tA (by omega)];exact hu
end Go.Proofs.YtncembphlfbgoaaGreatDoor
namespace Go.Proofs.YtncembphlfbgoaaGreatDoor.Abs
open Go.RowKit
abbrev cQ:=List UInt8
def bs (l:cQ):ByteArray:=⟨l.toArray⟩
theorem Eh (l:cQ):(bs l).size=l.length:=by simp [bs,ByteArray.size]
theorem Sb {a b:cQ}:bs a=bs b ↔ a=b:=by
 constructor
 ·intro h;have:=congrArg (fun x:ByteArray=>x.data.toList) h;simpa [bs] using this
 ·rintro rfl;rfl
theorem Sc (l:cQ) (i:Nat) (h:i<(bs l).size):(bs l)[i]=l[i]'(by rw [Eh] at h;exact h):=by
 show (bs l).data[i]=_;simp [bs]
theorem MN (l:cQ) (a b:Nat):(bs l).extract a b=bs ((l.take b).drop a):=by
 apply ByteArray.ext;rw [ByteArray.data_extract];apply Array.ext';simp [bs,List.drop_take]
def nQ (l:cQ):List (List V):=l.map fun b=>[.lit (.int .u8 (b.toNat:Int))]
theorem JO (l:cQ):jN (bs l)=nQ l:=by simp [jN,nQ,bs]
def sgo (o:Option UInt8) (C:V->Prop):Prop:=match o with | some c=>C (.lit (.int .u8 (c.toNat:Int))) | none=>False
section
variable {P:Program} {T:TypeId} {x y:Operand} {C:V->Prop} {m:M} {E:dU} {s t l:cQ} {k:IntKind} {i:Int} {o:HO} {f:FuncId} {args:List V} {q p:Pa}
@[go_sem] theorem QG {c:UInt8}:sgo (some c) C=C (.lit (.int .u8 (c.toNat:Int))):=rI rfl
@[congr] theorem sgo_congr {o o':Option UInt8} (h:o=o'):sgo o C=sgo o' C:=by rw [h]
@[go_sem high] theorem ev_strb:ev m E (.const (.string ⟨l.toArray⟩))=.lit (.string (bs l)):=rI rfl
@[go_sem high] theorem sbin_seqlb:oZ P .eql T x y (.lit (.string (bs s))) (.lit (.string (bs t))) C=C (.lit (.bool (decide (s=t)))):=by
 rw [OA];simp only [Sb]
@[go_sem high] theorem sbin_sneqb:oZ P .neq T x y (.lit (.string (bs s))) (.lit (.string (bs t))) C=C (.lit (.bool (decide (s ≠ t)))):=by
 have:((bs s).toList == (bs t).toList)=decide (s=t):=by
  by_cases h:s=t
  ·subst h;simp
  ·have:¬ (bs s).toList=(bs t).toList:=fun e=>h (Sb.1 (xD e));simp [h,this]
 simp [oZ,this]
@[go_sem high] theorem slenU_sb:It .str (.lit (.string (bs s))) C=C (.lit (.int .i64 s.length)):=by rw [slenU_s,Eh]
@[go_sem high] theorem sindexU_sb:EZ P .str (.lit (.string (bs s))) (.lit (.int k i)) C=(0<=i/\sgo s[i.toNat]? C):=by
 rw [Om];apply propext;refine and_congr_right fun _=>?_
 by_cases h:i.toNat<s.length
 ·have h':i.toNat<(bs s).size:=by rw [Eh];exact h
  rw [tA h,QG];exact ⟨fun ⟨_,hc⟩=>by rw [Sc] at hc;exact hc,fun hc=>⟨h',by rw [Sc];exact hc⟩⟩
 ·rw [xdq (by omega)];exact ⟨fun ⟨h',_⟩=>absurd (by rw [Eh] at h';exact h') h,fun hc=>hc.elim⟩
def slB:Option Int->Option Int->cQ->(V->Prop)->Prop
 | some a,some b,s,C=>0<=a/\a<=b/\b<=s.length/\C (.lit (.string (bs ((s.take b.toNat).drop a.toNat))))
 | _,_,_,_=>False
@[go_sem high] theorem slU_sb {lo hi:Option V}:LX P .str (.lit (.string (bs s))) lo hi C=slB (kK lo 0) (kK hi s.length) s C:=by
 rw [slU_s,Eh];unfold slS slB;cases kK lo 0 <;> cases kK hi s.length <;> first | rfl | (simp only [Eh,MN])
@[go_sem] theorem slB_some {a b:Int}:slB (some a) (some b) s C=(0<=a/\a<=b/\b<=s.length/\C (.lit (.string (bs ((s.take b.toNat).drop a.toNat))))):=rI rfl
@[go_sem high] theorem cvU_lsb {D e:TypeId}:cvU P T D (.sl e) .str (.list o (nQ s)) C=(ud P e=.int .u8/\C (.lit (.string (bs s)))):=by
 rw [←JO,cvU_ls]
@[congr] theorem slB_congr {a a' b b':Option Int} {s s':cQ} (h1:a=a') (h2:b=b') (h3:s=s'):slB a b s C=slB a' b' s' C:=by rw [h1,h2,h3]
theorem SC.by_ {C:V->M->Prop} {v:V} {m':M} (h:SC P f args q m (fun r m1=>r=v/\m1=m')) (hC:C v m'):SC P f args q m C:=
 h.mono fun _ _ ⟨e1,e2⟩=>by rw [e1,e2];exact hC
theorem nD {a:List V} (h:m.blk p=some a):m.set p a=m:=by
 cases m with | mk blk ver tok gl=>
 unfold M.set
 congr 1
 funext i
 show (if i=p then some a else blk i)=blk i
 split
 ·rename_i hi;rw [hi];exact h.symm
 ·rfl
theorem dG {m2:M} {a:List V} (h:¬ q <:+ p):m.back q (m2.set p a)=(m.back q m2).set p a:=by
 have hs:¬ q.isSuffixOf p=true:=fun e=>h (Fz.1 e);unfold M.back M.set
 congr 1
 funext i
 show (if q.isSuffixOf i then m.blk i else if i=p then some a else m2.blk i)=(if i=p then some a else if q.isSuffixOf i then m.blk i else m2.blk i)
 by_cases h1:i=p
 ·subst h1;rw [if_neg hs,if_pos rfl,if_pos rfl]
 ·rw [if_neg h1,if_neg h1]
end
attribute [go_sem] lQ oU xeg Ej xeh uG Et BO true_and and_true zM qU Dm Bd EB FZ jC lA sY Qg Ki yH xeb HT false_implies implies_true Bool.not_true Bool.not_false beq_self_eq_true Bool.or_true Bool.true_or Bool.and_true Bool.true_and Bool.or_false Bool.false_or Bool.and_false Bool.false_and List.forall_mem_map xdt yG decide_true decide_false xen
theorem Ia {G:GG} {k:IntKind}:∀ {zs:List Int} {cs:List Value},xM G (zs.map (Na.int k)) cs->cs=zs.map (Value.int k):=by
 intro zs
 induction zs with
 | nil=>intro cs h;exact h.inv_nil
 | cons z zs ih=>
   intro cs h;obtain ⟨xs,rfl,_,h2⟩:=h.inv_int;rw [ih h2];rfl
theorem QD {c:Conc} {k:IntKind} {a:Option Addr} {len cap:Nat} {zs:List Int} (h:CD c.G (zs.map (Na.int k)) a len cap):CR c [.list .none (zs.map fun z=>[.lit (.int k z)])] [.slice a len cap]:=by
 obtain ⟨h0,h1,h2,cs,h3,h4⟩:=h;obtain rfl:=Ia h3;rw [sY] at h0;subst h0;refine GL h1 h2 (fun hl=>?_) (fun hl=>?_)
 ·obtain ⟨b,off,e,_⟩:=h4 hl;exact ⟨b,off,e⟩
 ·rw [sY] at hl;exact h4 hl
theorem RX {c:Conc} {a:Option Addr} {len cap:Nat} {zs:List Int} (h:CD c.G (zs.map (Na.int .u8)) a len cap) (hw:∀n ∈ zs,(Lit.int .u8 n).wf=true):CR c [.list .none (nQ (zs.map fun z=>z.toNat.toUInt8))] [.slice a len cap]:=by
 have e:nQ (zs.map fun z=>z.toNat.toUInt8)=zs.map fun z=>[V.lit (.int .u8 z)]:=by
  unfold nQ;rw [xds];refine PW fun z hz=>?_;have h1:=hw z hz
  have h2:0<=z/\z<256:=by
   simp [Lit.wf,IntKind.min,IntKind.max,IntKind.signed,IntKind.bits] at h1
   omega
  simp only [Function.comp]
  have h3:((z.toNat.toUInt8.toNat:Nat):Int)=z:=by
   rw [Nat.toUInt8,UInt8.toNat_ofNat'];omega
  rw [h3]
 rw [e];exact QD h
def gX {α:Type} (p:Prop) [Decidable p] (x:Option α):Option α:=if p then x else none
theorem bP {α:Type} {p:Prop} [Decidable p] {x:Option α} {r:α} (h:gX p x=some r):p/\x=some r:=by
 unfold gX at h
 split at h
 ·rename_i hp;exact ⟨hp,h⟩
 ·cases h
theorem Fe {α:Type} {p:Prop} [Decidable p] {x:Option α} (hp:p):gX p x=x:=if_pos hp
theorem aA {α β:Type} {x:Option α} {f:α->Option β} {r:β} (h:x.bind f=some r):∃a,x=some a/\f a=some r:=Option.bind_eq_some_iff.1 h
theorem bool_or (b:Bool):b=true ∨ b=false:=by cases b <;> simp
def bV {α:Type} (l:List α) (i:Int):Option α:=if 0<=i then l[i.toNat]? else none
theorem aZ {α:Type} {l:List α} {i:Int} {x:α} (h:bV l i=some x):0<=i/\i<l.length/\l[i.toNat]? = some x:=by
 unfold bV at h
 split at h
 ·rename_i h0;obtain ⟨h1,_⟩:=qJ.1 h;exact ⟨h0,by omega,h⟩
 ·cases h
theorem ite_t {α:Type} {b:Bool} {x y:α} {r:α} (hb:b=true) (h:(if b=true then x else y)=r):x=r:=by rw [hb] at h;exact h
theorem ite_f {α:Type} {b:Bool} {x y:α} {r:α} (hb:b=false) (h:(if b=true then x else y)=r):y=r:=by rw [hb] at h;exact h
theorem bO {α:Type} {x y:α} (h:some x=some y):x=y:=by injection h
section
variable {P:Program} {N:Nat} {π:Pa} {k:Nat} {E:dU} {m:M} {Q:Exit->Nat->dU->M->Prop} {q p:Pa} {f:FuncId} {args:List V} {R:V->M->Prop}
theorem least {p:Nat->Prop} (h:∃c,p c):∃c,p c/\∀d,p d->c<=d:=by
 obtain ⟨c,hc⟩:=h
 induction c using Nat.strongRecOn with
 | _ c ih=>
   by_cases hx:∃d,d<c/\p d
   ·obtain ⟨d,hd,hp⟩:=hx;exact ih d hd hp
   ·exact ⟨c,hc,fun d hd=>Nat.le_of_not_lt fun hlt=>hx ⟨d,hlt,hd⟩⟩
theorem DT {body:Code} (CF:Nat->dU->M->Prop) (c0:Nat) (h0:CF c0 E m)
  (step:∀(i c:Nat) (E':dU) (m':M),CF c E' m'->(∀t,wr body t=false->E' t=E t)->SW P N (i::k::π) body 0 E' m' (CJ (fun _ E2 m2=>∃c',c'<c/\CF c' E2 m2) fun e _ E2 m2=>Q e (k+1) E2 m2)) :
  SW P N π (.loop body) k E m Q:=by
 have hμ:∀(E:dU) (m:M),∃c,(∃c',CF c' E m)->CF c E m/\∀d,CF d E m->c<=d:=by
  intro E m
  by_cases h:∃c',CF c' E m
  ·obtain ⟨c,h1,h2⟩:=least h;exact ⟨c,fun _=>⟨h1,h2⟩⟩
  ·exact ⟨0,fun h'=>absurd h' h⟩
 refine PF (fun E m=>∃c,CF c E m) (fun E m=>Classical.choose (hμ E m)) ⟨c0,h0⟩ fun i E' m' hI hf=>?_;obtain ⟨h1,h2⟩:=Classical.choose_spec (hμ E' m') hI;refine NP (step i _ E' m' h1 hf) fun e k2 E2 m2 h=>?_;cases e with
 | normal=>
   obtain ⟨c',hc,hI2⟩:=h;obtain ⟨h3,h4⟩:=Classical.choose_spec (hμ E2 m2) ⟨c',hI2⟩;exact ⟨⟨c',hI2⟩,Nat.lt_of_le_of_lt (h4 c' hI2) hc⟩
 | _=>exact h
theorem SC.apart {cs:List V} (hm:m.blk p=some cs) (h:¬ q <:+ p->SC P f args q m R):SC P f args q m R:=by
 intro c xs w h1 h2 h3;refine h (fun hs=>?_) c xs w h1 h2 h3;have:=h1.fresh_blk (h3 p hs);rw [hm] at this;cases this
theorem pa1 (hp:¬ q <:+ p) {a:Nat}:(a::q=p)=False:=eq_false fun h=>hp (h ▸ kQ tN)
theorem pa3 (hp:¬ q <:+ p) {a b c:Nat}:(a::b::c::q=p)=False:=eq_false fun h=>hp (h ▸ kQ (kQ (kQ tN)))
theorem pb1 (hp:¬ q <:+ p) {a:Nat}:(p=a::q)=False:=eq_false fun h=>hp (h ▸ kQ tN)
theorem pb3 (hp:¬ q <:+ p) {a b c:Nat}:(p=a::b::c::q)=False:=eq_false fun h=>hp (h ▸ kQ (kQ (kQ tN)))
@[go_sem] theorem sf1 {a:Nat}:(q <:+ a::q)=True:=eq_true (kQ tN)
@[go_sem] theorem sf2 {a b:Nat}:(q <:+ a::b::q)=True:=eq_true (kQ (kQ tN))
@[go_sem] theorem sf3 {a b c:Nat}:(q <:+ a::b::c::q)=True:=eq_true (kQ (kQ (kQ tN)))
@[go_sem] theorem sf5 {a b c d e:Nat}:(q <:+ a::b::c::d::e::q)=True:=eq_true (kQ (kQ (kQ (kQ (kQ tN)))))
end
@[go_sem] theorem byteRows_len {l:cQ}:(nQ l).length=l.length:=by simp [nQ]
@[go_sem] theorem int0:Int.toNat 0=0:=rI rfl
attribute [go_sem] Kh xdu Nat.one_ne_zero tJ Qf and_self
open Go.RowKit Go.ChangeShapes Go.WideShapes
def vY (w:World):GG:=fun b o=>w.cell? ⟨b,o,none⟩
theorem LT {w:World}:Ez w (vY w):=fun _ _ _ h=>h
theorem Ok {w:World} {a:Addr} {v:Value} (h:w.cell? a=some v):a=⟨a.block,a.off,none⟩:=by
 obtain ⟨b,o,s⟩:=a;cases s with
 | none=>rfl
 | some s=>
   unfold World.cell? at h
   split at h
   ·simp at h
   ·cases h
theorem GQ {w:World} {a:Addr} {es:List Value} (h:∀i u,es[i]? = some u->w.cell? (a.add i)=some u):GB (vY w) (some a) es:=by
 intro h0;have h1:=h 0 es[0] (tA h0);have e:a=⟨a.block,a.off,none⟩:=Ok (v:=es[0]) (by simpa [Addr.add] using h1);refine ⟨a.block,a.off,by rw [←e],fun i u hu=>?_⟩;have h2:=h i u hu;rw [e,kH] at h2;exact h2
section
variable {w:World} {c:Conc} (hc:c.G=vY w)
include hc
theorem GR {k:IntKind} {a:Addr} {len cap:Nat} {zs:List Int} (hl:len<=cap) (hm:cap<=maxLen) (hz:len<=zs.length) (hcell:∀i,i<len->w.cell? (a.add i)=some (.int k (zs.getD i 0))) :
  CR c [.list .none ((zs.take len).map fun z=>[.lit (.int k z)])] [.slice (some a) len cap]:=by
 have hlen:(zs.take len).length=len:=by rw [Ei];omega
 have hL:GB c.G (some a) ((zs.take len).map (Value.int k)):=by
  rw [hc];refine GQ fun i u hu=>?_;have hi:i<len:=by have:=(qJ.1 hu).1;rw [sY,hlen] at this;exact this
  rw [hcell i hi];rw [yH,xek hi,tA (by omega)] at hu;rw [Kj,tA (by omega)];exact hu
 have:=GL (c:=c) (k:=k) (a:=some a) (cap:=cap) (zs:=zs.take len) (by omega) hm (fun h=>by
  obtain ⟨b,off,e,_⟩:=hL (by rw [sY];exact h);exact ⟨b,off,e⟩) hL
 rw [hlen] at this;exact this
theorem LR {k:IntKind} {a:Addr} {len cap:Nat} {A:Nat->Option Addr} {L C:Nat->Nat} {Z:Nat->List Int} (hl:len<=cap) (hm:cap<=maxLen)
  (h:∀r,r<len->w.cell? (a.add r)=some (.slice (A r) (L r) (C r))/\CR c [.list .none (((Z r).take (L r)).map fun z=>[.lit (.int k z)])] [.slice (A r) (L r) (C r)]) :
  CR c [.list .none (((List.range len).map fun r=>(Z r).take (L r)).map fun x=>[.list .none (x.map fun z=>[.lit (.int k z)])])] [.slice (some a) len cap]:=by
 have hcr:∀l:List Nat,(∀r ∈ l,r<len)->CR c ((l.map fun r=>(Z r).take (L r)).map fun x=>[V.list .none (x.map fun z=>[.lit (.int k z)])]).flatten (l.map fun r=>.slice (A r) (L r) (C r)):=by
  intro l
  induction l with
  | nil=>intro _;exact .nil
  | cons r l ih=>intro hr;exact CR.cons (h r (hr r (xec ..))).2 (ih fun x hx=>hr x (Kc _ hx))
 have hL:GB c.G (some a) ((List.range len).map fun r=>.slice (A r) (L r) (C r)):=by
  rw [hc];refine GQ fun i u hu=>?_;have hi:i<len:=by have:=(qJ.1 hu).1;simpa using this
  rw [yH,List.getElem?_range hi] at hu;rw [(h i hi).1];exact hu
 have:=CR.list (o:=.none) (a:=some a) (cap:=cap) (c:=c) (rows:=((List.range len).map fun r=>(Z r).take (L r)).map fun x=>[.list .none (x.map fun z=>[.lit (.int k z)])]) (es:=(List.range len).map fun r=>.slice (A r) (L r) (C r)) (sz:=1) (vs:=[]) (cs:=[])
  (hcr _ fun r hr=>Kk.1 hr) (by intro r hr;obtain ⟨y,_,rfl⟩:=ER.1 hr;rfl) (by decide) (by simpa using hl) hm (fun h0=>by
    obtain ⟨b,off,e,_⟩:=hL (by simpa using h0);exact ⟨b,off,e⟩) hL (by intro u hu;obtain ⟨y,_,rfl⟩:=ER.1 hu;rfl) trivial .nil
 simpa using this
end
section
variable {H:Type} {enc:TypeId × Value->H} {P:Program} {w:World} {held:Bool}
theorem LQ {t e fuel:Nat} {k:IntKind} {cs:List Value} {x:DataW H × List MemPlace} (ht:P.underlying t=some (.slice e)) (he:P.underlying e=some (.int k)) (hc:P.cellsOf e=1)
  (h:DataW.trod enc P w 0 (fun _=>true) held fuel t cs=some x) :
  ∃ws:List Int,(∀z ∈ ws,(Lit.int k z).wf=true)/\∀c:Conc,c.G=vY w->∃a len cap,cs=[.slice a len cap]/\CR c [.list .none (ws.map fun z=>[.lit (.int k z)])] [.slice a len cap]:=by
 rcases open_ints ht he hc h with ⟨rfl,_⟩ | ⟨a,len,cap,zs,rfl,_,hl,hm,hz,_,hcell,hw⟩
 ·exact ⟨[],(by simp),fun c _=>⟨none,0,0,rfl,GL (zs:=[]) (Kh _) (Kh _) (fun h=>by cases h) (fun h=>by cases h)⟩⟩
 ·rw [if_pos rfl] at hz;exact ⟨zs.take len,fun z hz=>hw z (Kb hz),fun c hc=>⟨some a,len,cap,rfl,GR hc hl hm (by omega) fun i hi=>hcell i (by omega)⟩⟩
theorem NY {t e q fuel:Nat} {k:IntKind} {cs:List Value} {x:DataW H × List MemPlace} (ht:P.underlying t=some (.slice e)) (he:P.underlying e=some (.slice q)) (hq:P.underlying q=some (.int k)) (ce:P.cellsOf e=1) (cq:P.cellsOf q=1)
  (h:DataW.trod enc P w 0 (fun _=>true) held fuel t cs=some x) :
  ∃as:List (List Int),(∀x ∈ as,∀z ∈ x,(Lit.int k z).wf=true)/\∀c:Conc,c.G=vY w->∃a len cap,cs=[.slice a len cap]/\CR c [.list .none (as.map fun x=>[.list .none (x.map fun z=>[.lit (.int k z)])])] [.slice a len cap]:=by
 rcases Go.Deep.open_int_rows ht he hq ce cq h with ⟨rfl,_⟩ | ⟨a,len,cap,A,L,C,Z,rfl,_,hl,hm,_,hr⟩
 ·refine ⟨[],(by simp),fun c _=>⟨none,0,0,rfl,?_⟩⟩;exact CR.list (o:=.none) (rows:=[]) (es:=[]) (sz:=1) .nil (fun _ h=>by cases h) (by decide) (Kh _) (Kh _) (fun h=>by cases h) (fun h=>by cases h) (fun _ h=>by cases h) trivial .nil
 ·refine ⟨(List.range len).map fun r=>(Z r).take (L r),fun x hx z hz=>?_,fun c hc=>⟨some a,len,cap,rfl,LR (C:=C) (A:=A) hc hl hm fun r hrl=>?_⟩⟩
  ·obtain ⟨r,hr',rfl⟩:=ER.1 hx;exact (hr r (by have:=Kk.1 hr';omega)).2.2.2.2.1 z (Kb hz)
  ·obtain ⟨h1,h2,h3,h4,h5,h6,h7⟩:=hr r (by omega);refine ⟨h1,?_⟩;cases hA:A r with
   | none=>
     have h8:=h6 hA;have h9:L r=0:=by omega
     rw [h8,h9,Bd];exact GL (zs:=[]) (Kh _) (Kh _) (fun h=>by cases h) (fun h=>by cases h)
   | some a'=>exact GR hc h2 h3 (by omega) fun i hi=>(h7 a' hA).2 i (by omega)
theorem NJ {t e0 e1 q fuel:Nat} {fs:Array Field} {f0 f1:Field} {k k':IntKind} {cs:Array Value} {x:DataW H × List MemPlace} (ht:P.underlying t=some (.struct fs)) (hf0:fs[0]? = some f0) (hf1:fs[1]? = some f1) (ho0:f0.offset=0) (ho1:f1.offset=1)
  (ct:P.cellsOf t=2) (c0:P.cellsOf f0.type=1) (c1:P.cellsOf f1.type=1) (hu0:P.underlying f0.type=some (.slice e0)) (he0:P.underlying e0=some (.int k)) (ce0:P.cellsOf e0=1)
  (hu1:P.underlying f1.type=some (.slice e1)) (he1:P.underlying e1=some (.slice q)) (hq:P.underlying q=some (.int k')) (ce1:P.cellsOf e1=1) (cq:P.cellsOf q=1)
  (h:DataW.trod enc P w 0 (fun _=>true) held fuel t (Value.agg cs).cells.toList=some x) :
  ∃(ws:List Int) (as:List (List Int)),(∀z ∈ ws,(Lit.int k z).wf=true)/\(∀x ∈ as,∀z ∈ x,(Lit.int k' z).wf=true) ∧
   ∀c:Conc,c.G=vY w->CR c [.agg [.list .none (ws.map fun z=>[.lit (.int k z)]),.list .none (as.map fun x=>[.list .none (x.map fun z=>[.lit (.int k' z)])])]] [.agg cs]:=by
 obtain ⟨xs,n,rfl,_,hl,hx,hel⟩:=DataW.trod_struct ht h;have hsz:cs.toList.length=2:=by rw [ct] at hl;exact hl
 obtain ⟨l⟩:=cs
 match l,hsz with
 | [v0,v1],_=>
   have k0:=hel 0 f0 hf0;have k1:=hel 1 f1 hf1;rw [ho0,c0] at k0;rw [ho1,c1] at k1
   have hn:fs.size ≥ 2:=by
    have:=(Array.getElem?_eq_some_iff.1 hf1).1;omega
   obtain ⟨y0,hy0⟩:∃y,xs[0]? = some y:=⟨xs[0],tA (by omega)⟩;obtain ⟨y1,hy1⟩:∃y,xs[1]? = some y:=⟨xs[1],tA (by omega)⟩;rw [hy0] at k0;rw [hy1] at k1;obtain ⟨ws,hw,g0⟩:=LQ hu0 he0 ce0 k0;obtain ⟨as,ha,g1⟩:=NY hu1 he1 hq ce1 cq k1;refine ⟨ws,as,hw,ha,fun c hc=>?_⟩;obtain ⟨a0,l0,cp0,e0,r0⟩:=g0 c hc;obtain ⟨a1,l1,cp1,e1,r1⟩:=g1 c hc
   obtain rfl:v0=.slice a0 l0 cp0:=by
    have e0:[v0]=[.slice a0 l0 cp0]:=e0;simpa using e0
   obtain rfl:v1=.slice a1 l1 cp1:=by
    have e1:[v1]=[.slice a1 l1 cp1]:=e1;simpa using e1
   refine CR.agg (xs:=[.slice a0 l0 cp0,.slice a1 l1 cp1]) (CR.cons r0 r1) (fun u hu=>?_) .nil;simp only [vA,HT,or_false] at hu
   rcases hu with rfl | rfl <;> rfl
end
end Go.Proofs.YtncembphlfbgoaaGreatDoor.Abs
