/- Lemmas of ours. -/
import Derived.Test.YtncembphlfbgoaaGreatDoorIFA20
import Derived.Below
import Derived.Deep.Matrix
import Derived.ChangeArms
import Derived.WideShapes
namespace Go.Proofs.YtncembphlfbgoaaGreatDoor.Abs
open Go.RowKit
def dt (S:V->Prop) (C:V->Prop):Prop:=∃v,S v/\C v
@[go_sem] theorem KL {a:V} {C:V->Prop}:dt (fun v=>a=v) C=C a:=propext ⟨fun ⟨_,h,hc⟩=>h ▸ hc,fun h=>⟨a,rfl,h⟩⟩
@[go_sem] theorem dt_and {p:Prop} {S C:V->Prop}:dt (fun v=>p/\S v) C=(p/\dt S C):=propext ⟨fun ⟨v,⟨hp,hs⟩,hc⟩=>⟨hp,v,hs,hc⟩,fun ⟨hp,v,hs,hc⟩=>⟨v,⟨hp,hs⟩,hc⟩⟩
@[congr] theorem dt_congr {S S':V->Prop} {C:V->Prop} (h:∀v,S v=S' v):dt S C=dt S' C:=by rw [show S=S' from funext h]
def dm (S:V->M->Prop) (m:M) (C:V->M->Prop):Prop:=∃v m',S v m'/\m'.gl=m.gl/\C v m'
@[go_sem] theorem dm_eq {a:V} {b m:M} {C:V->M->Prop}:dm (fun v m'=>a=v/\b=m') m C=(b.gl=m.gl/\C a b):=propext ⟨fun ⟨_,_,⟨h1,h2⟩,hg,hc⟩=>by subst h1 h2;exact ⟨hg,hc⟩,fun ⟨hg,h⟩=>⟨a,b,⟨rfl,rfl⟩,hg,h⟩⟩
@[go_sem] theorem dm_and {p:Prop} {S:V->M->Prop} {m:M} {C:V->M->Prop}:dm (fun v m'=>p/\S v m') m C=(p/\dm S m C):=propext ⟨fun ⟨v,m',⟨hp,hs⟩,hc⟩=>⟨hp,v,m',hs,hc⟩,fun ⟨hp,v,m',hs,hc⟩=>⟨v,m',⟨hp,hs⟩,hc⟩⟩
@[congr] theorem dm_congr {S S':V->M->Prop} {m:M} {C:V->M->Prop} (h:∀v m',S v m'=S' v m'):dm S m C=dm S' m C:=by rw [show S=S' from funext fun v=>funext fun m'=>h v m']
def MY (P:Program) (f:V) (args:List V) (q:Pa) (m:M) (C:V->M->Prop):Prop:=∃v m',Jy P f args q m (fun r m1=>r=v/\m1=m')/\m'.gl=m.gl/\C v m'
theorem cB {P:Program} {g:FuncId} {first captured args:List V} {q:Pa} {m m':M} {v:V} {C:V->M->Prop} (h:SC P g (first++args++captured) q m (fun r m1=>r=v/\m1=m')) (hg:m'.gl=m.gl) (hc:C v m'):MY P (.fn (.func g) first captured) args q m C:=⟨v,m',h,hg,hc⟩
@[congr] theorem dcall_congr {P:Program} {f f':V} {as as':List V} {q:Pa} {m:M} {C:V->M->Prop} (h1:f=f') (h2:as=as'):MY P f as q m C=MY P f' as' q m C:=by rw [h1,h2]
def pW (P:Program) (full:List Oper) (π:Pa) (k0:Nat) (K:Nat->eA->M->Prop) (i f:Nat) (rest:List (Nat × Nat)) (hist:List M) (E:eA) (m:M) (o:Oper):Prop:=
 match o.guard with
 | none=>dop P o.op o f ((k0+i)::π) hist E m (fun v m' hist'=>PD P full π k0 K rest hist' (gD o.dst v E) m')
 | some (j,b)=>
   match (full[j]?).bind (·.dst) with
   | none=>False
   | some d=>
     match E d with
     | .lit (.bool t)=>if t=b then dop P o.op o f ((k0+i)::π) hist E m (fun v m' hist'=>PD P full π k0 K rest hist' (gD o.dst v E) m') else PD P full π k0 K rest (if rE o.op then m::hist else hist) (gD o.dst (.lit undef) E) m
     | .lit (.tuple _)=>PD P full π k0 K rest (if rE o.op then m::hist else hist) (gD o.dst (.lit undef) E) m
     | _=>False
def Et (os:List Oper) (i:Nat) (C:Oper->Prop):Prop:=match os[i]? with | some o=>C o | none=>False
@[go_sem] theorem nthO_zero {o:Oper} {os:List Oper} {C:Oper->Prop}:Et (o::os) 0 C=C o:=rI rfl
@[go_sem] theorem nthO_succ {o:Oper} {os:List Oper} {i:Nat} {C:Oper->Prop}:Et (o::os) (i+1) C=Et os i C:=by
 unfold Et;rw [Lh]
def Ik (P:Program) (full:List Oper) (π:Pa) (k0:Nat) (K:Nat->eA->M->Prop) (rest:List (Nat × Nat)) (hist:List M) (E:eA) (m:M) (d:Option Nat) (v:V):Prop:=PD P full π k0 K rest hist (gD d v E) m
def QS (P:Program) (full:List Oper) (π:Pa) (k0:Nat) (K:Nat->eA->M->Prop) (rest:List (Nat × Nat)) (hist:List M) (E:eA) (d:Option Nat) (v:V) (m:M):Prop:=PD P full π k0 K rest hist (gD d v E) m
def OB (P:Program) (T:TypeId) (u:V) (hist:List M) (C:V->Prop) (v:V):Prop:=(∀m1 ∈ hist,oM P m1 T u (fun r=>r=v))/\C v
def OC (P:Program) (full:List Oper) (π:Pa) (k0:Nat) (K:Nat->eA->M->Prop) (i f:Nat) (rest:List (Nat × Nat)) (hist:List M) (E:eA) (m:M) (d:Option Nat) (op:Op) (ty:TypeId) (pos:String) (after:Array Edge) (b:Bool) (v:V):Prop:=
 gsel v b (pW P full π k0 K i f rest hist E m ⟨d,op,ty,pos,after,none⟩) (PD P full π k0 K rest (if rE op then m::hist else hist) (gD d (.lit undef) E) m)
section
variable {P:Program} {full:List Oper} {π:Pa} {k0:Nat} {K:Nat->eA->M->Prop} {i f:Nat} {rest:List (Nat × Nat)} {hist:List M} {E:eA} {m:M} {d:Option Nat} {ty:TypeId} {pos:String} {after:Array Edge} {v:V}
@[go_sem] theorem pd_nil:PD P full π k0 K [] hist E m=K (k0+full.length) E m:=rI rfl
@[go_sem] theorem pd_cons:PD P full π k0 K ((i,f)::rest) hist E m=Et full i (pW P full π k0 K i f rest hist E m):=by
 simp only [PD,Et];cases full[i]? with
 | none=>rfl
 | some o=>rfl
@[go_sem] theorem don_at:Ik P full π k0 K rest hist E m d v=PD P full π k0 K rest hist (gD d v E) m:=rI rfl
@[go_sem] theorem donM_at:QS P full π k0 K rest hist E d v m=PD P full π k0 K rest hist (gD d v E) m:=rI rfl
@[go_sem] theorem donL_nil {T:TypeId} {u:V} {C:V->Prop}:OB P T u [] C v=C v:=by simp [OB]
@[go_sem] theorem donL_cons {T:TypeId} {u:V} {C:V->Prop} {m1:M} {hs:List M}:OB P T u (m1::hs) C v=(oM P m1 T u (fun r=>r=v)/\OB P T u hs C v):=by simp [OB,and_assoc]
@[go_sem] theorem dgon_tt {op:Op}:OC P full π k0 K i f rest hist E m d op ty pos after true (.lit (.bool true))=pW P full π k0 K i f rest hist E m ⟨d,op,ty,pos,after,none⟩:=rI rfl
@[go_sem] theorem dgon_ff {op:Op}:OC P full π k0 K i f rest hist E m d op ty pos after false (.lit (.bool false))=pW P full π k0 K i f rest hist E m ⟨d,op,ty,pos,after,none⟩:=rI rfl
@[go_sem] theorem dgon_tf {op:Op}:OC P full π k0 K i f rest hist E m d op ty pos after false (.lit (.bool true))=PD P full π k0 K rest (if rE op then m::hist else hist) (gD d (.lit undef) E) m:=rI rfl
@[go_sem] theorem dgon_ft {op:Op}:OC P full π k0 K i f rest hist E m d op ty pos after true (.lit (.bool false))=PD P full π k0 K rest (if rE op then m::hist else hist) (gD d (.lit undef) E) m:=rI rfl
@[go_sem] theorem dp_guard {op:Op} {j:Nat} {b:Bool}:pW P full π k0 K i f rest hist E m ⟨d,op,ty,pos,after,some (j,b)⟩=GY full j E (OC P full π k0 K i f rest hist E m d op ty pos after b):=by
 unfold pW GY OC gsel;simp only;cases (full[j]?).bind (·.dst) with
 | none=>rfl
 | some d'=>
   simp only
   generalize E d'=v
   cases v with
   | lit u=>cases u <;> rfl
   | _=>rfl
@[go_sem] theorem dp_load {T:TypeId} {x:Operand}:pW P full π k0 K i f rest hist E m ⟨d,.load T x,ty,pos,after,none⟩=dt (fun v=>oM P m T (ev m E x) (fun r=>r=v)) (OB P T (ev m E x) (hist.take f) (Ik P full π k0 K rest hist E m d)):=rI rfl
@[go_sem] theorem dp_alloc {T:TypeId}:pW P full π k0 K i f rest hist E m ⟨d,.alloc T,ty,pos,after,none⟩=Ep (dI P T) (fun zs=>Ik P full π k0 K rest hist E (m.set ((k0+i)::π) (zs.map V.raw0)) d (.ptr ((k0+i)::π) 0)):=by
 apply propext;show (∃vs,dI P T=some vs/\_) ↔ _;unfold Ep
 constructor
 ·rintro ⟨vs,h,hc⟩;rw [h];exact hc
 ·intro h;cases hz:dI P T with
  | none=>rw [hz] at h;exact h.elim
  | some vs=>rw [hz] at h;exact ⟨vs,rfl,h⟩
@[go_sem] theorem dp_move {x:Operand}:pW P full π k0 K i f rest hist E m ⟨d,.move x,ty,pos,after,none⟩=Ik P full π k0 K rest hist E m d (ev m E x):=KL
@[go_sem] theorem dp_assign {x:Operand}:pW P full π k0 K i f rest hist E m ⟨d,.assign x,ty,pos,after,none⟩=Ik P full π k0 K rest hist E m d (ev m E x):=KL
@[go_sem] theorem dp_pick {t x y:Operand}:pW P full π k0 K i f rest hist E m ⟨d,.pick t x y,ty,pos,after,none⟩=dt (fun v=>HR (ev m E t) (ev m E x) (ev m E y) (fun r=>r=v)) (Ik P full π k0 K rest hist E m d):=rI rfl
@[go_sem] theorem dp_build {T:TypeId} {ps:Array (Nat × Operand)}:pW P full π k0 K i f rest hist E m ⟨d,.build T ps,ty,pos,after,none⟩=dt (fun v=>wW P T (ps.toList.map fun p=>(p.1,ev m E p.2)) (fun r=>r=v)) (Ik P full π k0 K rest hist E m d):=rI rfl
@[go_sem] theorem dp_buildSlice {T:TypeId} {n:Nat} {ps:Array (Nat × Operand)}:pW P full π k0 K i f rest hist E m ⟨d,.buildSlice T n ps,ty,pos,after,none⟩=dt (fun v=>oX P T n (ps.toList.map fun p=>(p.1,ev m E p.2)) (fun r=>r=v)) (Ik P full π k0 K rest hist E m d):=rI rfl
@[go_sem] theorem dp_nilCheck {x:Operand}:pW P full π k0 K i f rest hist E m ⟨d,.nilCheck x,ty,pos,after,none⟩=dt (fun v=>Dg (ev m E x) (fun r=>r=v)) (Ik P full π k0 K rest hist E m d):=by
 have:∀v,Fj P (.nilCheck x) (ev m E) (fun r=>r=v)=Dg (ev m E x) (fun r=>r=v):=by
  intro v;simp only [Fj,Dg]
  generalize ev m E x=u
  cases u <;> rfl
 show dt (fun v=>Fj P (.nilCheck x) (ev m E) (fun r=>r=v)) _=_;rw [funext this];rfl
@[go_sem] theorem dp_binOp {op:BinOp} {T T':TypeId} {x y:Operand}:pW P full π k0 K i f rest hist E m ⟨d,.binOp op T x y T',ty,pos,after,none⟩=dt (fun v=>oQ P op T x y (ev m E x) (ev m E y) (fun r=>r=v)) (Ik P full π k0 K rest hist E m d):=rI rfl
@[go_sem] theorem dp_unOp {op:UnOp} {T:TypeId} {x:Operand}:pW P full π k0 K i f rest hist E m ⟨d,.unOp op T x,ty,pos,after,none⟩=dt (fun v=>Po op (ev m E x) (fun r=>r=v)) (Ik P full π k0 K rest hist E m d):=rI rfl
@[go_sem] theorem dp_convert {s t:TypeId} {x:Operand}:pW P full π k0 K i f rest hist E m ⟨d,.convert s t x,ty,pos,after,none⟩=dt (fun v=>xE P s t (ev m E x) (fun r=>r=v)) (Ik P full π k0 K rest hist E m d):=rI rfl
@[go_sem] theorem dp_slice {T:TypeId} {x:Operand} {lo hi:Option Operand}:pW P full π k0 K i f rest hist E m ⟨d,.slice T x lo hi none,ty,pos,after,none⟩=dt (fun v=>Am P T (ev m E x) (lo.map (ev m E)) (hi.map (ev m E)) (fun r=>r=v)) (Ik P full π k0 K rest hist E m d):=rI rfl
@[go_sem] theorem dp_fieldAddr {T g:Nat} {x:Operand}:pW P full π k0 K i f rest hist E m ⟨d,.fieldAddr T x g,ty,pos,after,none⟩=dt (fun v=>sJ P T g (ev m E x) (fun r=>r=v)) (Ik P full π k0 K rest hist E m d):=rI rfl
@[go_sem] theorem dp_indexAddr {T:TypeId} {x y:Operand}:pW P full π k0 K i f rest hist E m ⟨d,.indexAddr T x y,ty,pos,after,none⟩=dt (fun v=>tJ P T (ev m E x) (ev m E y) (fun r=>r=v)) (Ik P full π k0 K rest hist E m d):=rI rfl
@[go_sem] theorem dp_index {T:TypeId} {x y:Operand}:pW P full π k0 K i f rest hist E m ⟨d,.index T x y,ty,pos,after,none⟩=dt (fun v=>An P T (ev m E x) (ev m E y) (fun r=>r=v)) (Ik P full π k0 K rest hist E m d):=rI rfl
@[go_sem] theorem dp_extract {t:Operand} {n:Nat}:pW P full π k0 K i f rest hist E m ⟨d,.extract t n,ty,pos,after,none⟩=dt (fun v=>sX (ev m E t) n (fun r=>r=v)) (Ik P full π k0 K rest hist E m d):=by
 have:∀v,Fj P (.extract t n) (ev m E) (fun r=>r=v)=sX (ev m E t) n (fun r=>r=v):=by
  intro v;simp only [Fj,sX]
  generalize ev m E t=u
  cases u with
  | tup vs=>cases vs[n]? <;> rfl
  | _=>rfl
 show dt (fun v=>Fj P (.extract t n) (ev m E) (fun r=>r=v)) _=_;rw [funext this];rfl
@[go_sem] theorem dp_len {T:TypeId} {x:Operand}:pW P full π k0 K i f rest hist E m ⟨d,.call ⟨.builtin .len,#[x],#[T]⟩,ty,pos,after,none⟩=dt (fun v=>Ga P T (ev m E x) (fun r=>r=v)) (Ik P full π k0 K rest hist E m d):=rI rfl
@[go_sem] theorem dp_min {x y:Operand} {ts:Array TypeId}:pW P full π k0 K i f rest hist E m ⟨d,.call ⟨.builtin .min,#[x,y],ts⟩,ty,pos,after,none⟩=dt (fun v=>pS false (ev m E x) (ev m E y) (fun r=>r=v)) (Ik P full π k0 K rest hist E m d):=rI rfl
@[go_sem] theorem dp_max {x y:Operand} {ts:Array TypeId}:pW P full π k0 K i f rest hist E m ⟨d,.call ⟨.builtin .max,#[x,y],ts⟩,ty,pos,after,none⟩=dt (fun v=>pS true (ev m E x) (ev m E y) (fun r=>r=v)) (Ik P full π k0 K rest hist E m d):=rI rfl
@[go_sem] theorem dp_append {t u:TypeId} {s x:Operand}:pW P full π k0 K i f rest hist E m ⟨d,.call ⟨.builtin .append,#[s,x],#[t,u]⟩,ty,pos,after,none⟩=dm (fun v m'=>tK P ((k0+i)::π) m t u (ev m E s) (ev m E x) (fun r m1=>r=v/\m1=m')) m (QS P full π k0 K rest (m::hist) E d):=rI rfl
@[go_sem] theorem dp_clear {T:TypeId} {x:Operand}:pW P full π k0 K i f rest hist E m ⟨d,.call ⟨.builtin .clear,#[x],#[T]⟩,ty,pos,after,none⟩=dm (fun v m'=>BJ P m T (ev m E x) (fun r m1=>r=v/\m1=m')) m (QS P full π k0 K rest (m::hist) E d):=rI rfl
@[go_sem] theorem dp_store {T:TypeId} {x y:Operand}:pW P full π k0 K i f rest hist E m ⟨d,.store T x y,ty,pos,after,none⟩=dm (fun v m'=>wV P m T (ev m E x) (ev m E y) (fun m1=>.lit undef=v/\m1=m')) m (QS P full π k0 K rest (m::hist) E d):=rI rfl
@[go_sem] theorem dp_call {g:Operand} {xs:Array Operand} {ts:Array TypeId}:pW P full π k0 K i f rest hist E m ⟨d,.call ⟨.value g,xs,ts⟩,ty,pos,after,none⟩=MY P (ev m E g) (xs.toList.map (ev m E)) ((k0+i)::π) m (QS P full π k0 K rest (m::hist) E d):=by
 have:∀v m',dX P ⟨d,.call ⟨.value g,xs,ts⟩,ty,pos,after,none⟩ ((k0+i)::π) E m (fun r m1=>r=v/\m1=m')=Jy P (ev m E g) (xs.toList.map (ev m E)) ((k0+i)::π) m (fun r m1=>r=v/\m1=m'):=by
  intro v m';simp only [dX,EQ,Jy]
  generalize ev m E g=u
  cases u with
  | fn g _ _=>cases g <;> rfl
  | _=>rfl
 show (∃v m',dX P ⟨d,.call ⟨.value g,xs,ts⟩,ty,pos,after,none⟩ ((k0+i)::π) E m (fun r m1=>r=v/\m1=m')/\_)=_;simp only [this];rfl
end
section
variable {P:Program} {N:Nat} {π:Pa} {k:Nat} {E:eA} {m:M} {Q:Exit->Nat->eA->M->Prop}
theorem OV {body:Code} (Ct:eA->M->Prop) (μ:eA->M->Nat) (h0:Ct E m)
  (step:∀(i:Nat) (E':eA) (m':M),Ct E' m'->(∀t,wr body t=false->E' t=E t)->SW P N (i::k::π) body 0 E' m' (Da (fun _ E2 m2=>Ct E2 m2/\μ E2 m2<μ E' m') fun e _ E2 m2=>Q e (k+1) E2 m2)) :
  SW P N π (.loop body) k E m Q:=by
 refine SW_loop Ct μ h0 fun i E' m' hI hf=>Nl (step i E' m' hI hf) fun e k2 E2 m2 h=>?_;cases e <;> exact h
theorem Rw {x:Code} (J:eA->M->Prop) (hJ:J E m) (h:∀E' m',J E' m'->SW P N π x k E' m' Q):SW P N π x k E m Q:=h E m hJ
theorem Jp {x:Code} (J:M->Prop) (hJ:J m) (h:∀m',J m'->SW P N π x k E m' Q):SW P N π x k E m Q:=h m hJ
theorem aJ (q:Pa) (m:M):m.back q m=m:=by
 cases m;simp [M.back]
theorem aO {q id:Pa} {m m':M} {vs:List V} (h:q <:+ id):m.back q (m'.set id vs)=m.back q m':=by
 have hs:q.isSuffixOf id=true:=Fk.2 h;unfold M.back
 congr 1
 funext i
 show (if q.isSuffixOf i then m.blk i else if i=id then some vs else m'.blk i)=_
 split
 ·rfl
 ·rename_i hi;rw [if_neg (by rintro rfl;exact hi hs)]
theorem cH {q id:Pa} {m m':M} {n:Nat} {b:Bool} (h:q <:+ id):m.back q (m'.tokset id n b)=m.back q m':=by
 have hs:q.isSuffixOf id=true:=Fk.2 h;unfold M.back
 congr 1
 funext i
 show (if q.isSuffixOf i then m.tok i else fun j=>if i=id/\j=n then b else m'.tok i j)=_
 split
 ·rfl
 ·rename_i hi
  funext j
  rw [if_neg (by rintro ⟨rfl,_⟩;exact hi hs)]
theorem cM {q id:Pa} {m m':M} {off:Nat} (h:q <:+ id):m.back q (m'.bump id off)=m.back q m':=by
 have hs:q.isSuffixOf id=true:=Fk.2 h;unfold M.back
 congr 1
 funext i
 show (if q.isSuffixOf i then m.ver i else fun o=>if i=id/\o=off then m'.ver i o+1 else m'.ver i o)=_
 split
 ·rfl
 ·rename_i hi
  funext j
  rw [if_neg (by rintro ⟨rfl,_⟩;exact hi hs)]
theorem sW {q:Pa}:q <:+ q:=Iy q
theorem kH {q p:Pa} {n:Nat} (h:q <:+ p):q <:+ (n::p):=h.trans (MA n p)
theorem Oz {m:M} {id:Pa} {j:Nat}:m.drop (.st (.anon id j))=m.tokset id j false:=rI rfl
end
def M.start:M:=⟨fun _=>none,fun _ _=>0,fun _ _=>false,fun _=>.top,fun _=>none⟩
def Conc.start (w:World) (G:GG):Conc:=⟨w.heap.size,fun _=>False,fun _=>none,fun _=>none,G⟩
section
variable {P:Program} {w:World} {G:GG}
theorem DN {α:Type} {x:α} {p:Prop} (h:(none:Option α)=some x):p:=by cases h
theorem JN (q:Pa):qR (Conc.start w G) q:=fun _ _=>⟨rfl,fun _=>rfl,fun _ _=>rfl,rfl⟩
theorem Gq {c:Conc} {k:IntKind} {a:Option Addr} {cap:Nat} {zs:List Int} (hl:zs.length<=cap) (hm:cap<=maxLen) (ha:0<zs.length->∃b off,a=some ⟨b,off,none⟩) (hG:Gj c.G a (zs.map (Value.int k))):CR c [.list .none (zs.map fun z=>[.lit (.int k z)])] [.slice a zs.length cap]:=by
 have hcr:∀l:List Int,CR c ((l.map fun z=>[V.lit (.int k z)]).flatten) (l.map (Value.int k)):=by
  intro l
  induction l with
  | nil=>exact .nil
  | cons z l ih=>exact .lit ih
 have:=CR.list (o:=.none) (a:=a) (cap:=cap) (c:=c) (rows:=zs.map fun z=>[V.lit (.int k z)]) (es:=zs.map (Value.int k)) (sz:=1) (vs:=[]) (cs:=[]) (hcr zs) (by intro r hr;obtain ⟨y,_,rfl⟩:=EG.1 hr;rfl) (by decide) (by simpa using hl) hm (by simpa using ha) hG (by intro u hu;obtain ⟨y,_,rfl⟩:=EG.1 hu;rfl) trivial .nil;simpa using this
end
end Go.Proofs.YtncembphlfbgoaaGreatDoor.Abs
namespace Go.Proofs.YtncembphlfbgoaaGreatDoor
open Go.RowKit
def rowG (x:Addr) (len:Nat) (k:IntKind) (zs:List Int):GG:=fun b o=>if b=x.block/\x.off<=o/\o<x.off+len then some (.int k (zs.getD (o - x.off) 0)) else none
theorem Oc (G:GG) (k:IntKind) (zs:List Int) (h:∀n ∈ zs,(Lit.int k n).wf=true):xC G (zs.map (Mv.int k)) (zs.map (Value.int k)):=by
 induction zs with
 | nil=>exact .nil
 | cons z zs ih=>exact .int (h z (by simp)) (ih fun n hn=>h n (by simp [hn]))
theorem Cs.le {G G':GG} (hle:∀b o v,G b o=some v->G' b o=some v) {es:List Mv} {a:Option Addr} {len cap:Nat} (h:Cs G es a len cap):Cs G' es a len cap:=by
 obtain ⟨h0,hc,hm,cs,h1,ha⟩:=h;refine ⟨h0,hc,hm,cs,h1.mono hle,fun hl=>?_⟩;obtain ⟨b,off,e,h⟩:=ha hl;exact ⟨b,off,e,fun i u hu=>hle _ _ _ (h i u hu)⟩
theorem row_in {k:IntKind} {w:World} {a:Option Addr} {len cap:Nat} {zs:List Int}
  (h:(a=none/\len=0/\cap=0/\zs=[]) ∨ ∃x,a=some x/\len<=cap/\cap<=maxLen/\zs.length=cap/\(∀i,i<zs.length->w.cell? (x.add i)=some (.int k (zs.getD i 0)))/\∀n ∈ zs,(Lit.int k n).wf=true) :
  ∃G,Em w G/\Cs G ((zs.take len).map (Mv.int k)) a len cap/\(zs.take len).length=len/\∀n ∈ zs.take len,(Lit.int k n).wf=true:=by
 rcases h with ⟨rfl,rfl,rfl,rfl⟩ | ⟨x,rfl,hlc,hm,hz,hcell,hwf⟩
 ·exact ⟨fun _ _=>none,fun b o v h=>(by cases h),⟨rfl,sU _,by decide,[],.nil,fun h=>by cases h⟩,rfl,by simp⟩
 ·have hwf':∀n ∈ zs.take len,(Lit.int k n).wf=true:=fun n hn=>hwf n (Jw hn);have hlen:(zs.take len).length=len:=by rw [EF];omega
  rcases Nat.eq_zero_or_pos len with h0 | h0
  ·subst h0;exact ⟨fun _ _=>none,fun b o v h=>(by cases h),⟨by simp,La _,hm,[],by simpa using .nil,fun h=>by cases h⟩,rfl,by simp⟩
  ·have hsp:x=⟨x.block,x.off,none⟩:=by
    have h1:=hcell 0 (by omega);cases hs:x.spot with
    | none=>cases x;simp_all
    | some s=>
      unfold World.cell? Addr.add at h1;rw [if_pos rfl,hs] at h1
      split at h1 <;> simp at h1
   refine ⟨rowG x len k zs,fun b o v hv=>?_,⟨by simp;omega,hlc,hm,(zs.take len).map (Value.int k),Oc _ _ _ hwf',fun _=>⟨x.block,x.off,by rw [←hsp],fun i u hu=>?_⟩⟩,hlen,hwf'⟩
   ·unfold rowG at hv
    split at hv
    ·rename_i hb
     injection hv with hv
     subst hv;have:=hcell (o - x.off) (by omega);rw [hsp,jY] at this;rw [hb.1,←this]
     congr 2;simp;omega
    ·cases hv
   ·have hi:i<len:=by have:=(qS.1 hu).1;simp at this;omega
    unfold rowG;rw [if_pos ⟨rfl,by omega,by omega⟩];rw [show x.off+i - x.off=i by omega];rw [zC,xeq hi,tH (by omega)] at hu;rw [JA,tH (by omega)];exact hu
end Go.Proofs.YtncembphlfbgoaaGreatDoor
namespace Go.Proofs.YtncembphlfbgoaaGreatDoor.Abs
open Go.RowKit
abbrev cR:=List UInt8
def bs (l:cR):ByteArray:=⟨l.toArray⟩
theorem DV (l:cR):(bs l).size=l.length:=by simp [bs,ByteArray.size]
theorem Rl {a b:cR}:bs a=bs b ↔ a=b:=by
 constructor
 ·intro h;have:=congrArg (fun x:ByteArray=>x.data.toList) h;simpa [bs] using this
 ·rintro rfl;rfl
theorem Rm (l:cR) (i:Nat) (h:i<(bs l).size):(bs l)[i]=l[i]'(by rw [DV] at h;exact h):=by
 show (bs l).data[i]=_;simp [bs]
theorem Ml (l:cR) (a b:Nat):(bs l).extract a b=bs ((l.take b).drop a):=by
 apply ByteArray.ext;rw [ByteArray.data_extract];apply Array.ext';simp [bs,List.drop_take]
def nG (l:cR):List (List V):=l.map fun b=>[.lit (.int .u8 (b.toNat:Int))]
theorem Jk (l:cR):jH (bs l)=nG l:=by simp [jH,nG,bs]
def sgo (o:Option UInt8) (C:V->Prop):Prop:=match o with | some c=>C (.lit (.int .u8 (c.toNat:Int))) | none=>False
section
variable {P:Program} {T:TypeId} {x y:Operand} {C:V->Prop} {m:M} {E:eA} {s t l:cR} {k:IntKind} {i:Int} {o:Hl} {f:FuncId} {args:List V} {q p:Pa}
@[go_sem] theorem PU {c:UInt8}:sgo (some c) C=C (.lit (.int .u8 (c.toNat:Int))):=rI rfl
@[congr] theorem sgo_congr {o o':Option UInt8} (h:o=o'):sgo o C=sgo o' C:=by rw [h]
@[go_sem high] theorem ev_strb:ev m E (.const (.string ⟨l.toArray⟩))=.lit (.string (bs l)):=rI rfl
@[go_sem high] theorem sbin_seqlb:oQ P .eql T x y (.lit (.string (bs s))) (.lit (.string (bs t))) C=C (.lit (.bool (decide (s=t)))):=by
 rw [NS];simp only [Rl]
@[go_sem high] theorem sbin_sneqb:oQ P .neq T x y (.lit (.string (bs s))) (.lit (.string (bs t))) C=C (.lit (.bool (decide (s ≠ t)))):=by
 have:((bs s).toList == (bs t).toList)=decide (s=t):=by
  by_cases h:s=t
  ·subst h;simp
  ·have:¬ (bs s).toList=(bs t).toList:=fun e=>h (Rl.1 (wU e));simp [h,this]
 simp [oQ,this]
@[go_sem high] theorem slenU_sb:HS .str (.lit (.string (bs s))) C=C (.lit (.int .i64 s.length)):=by rw [slenU_s,DV]
@[go_sem high] theorem sindexU_sb:EO P .str (.lit (.string (bs s))) (.lit (.int k i)) C=(0<=i/\sgo s[i.toNat]? C):=by
 rw [NG];apply propext;refine and_congr_right fun _=>?_
 by_cases h:i.toNat<s.length
 ·have h':i.toNat<(bs s).size:=by rw [DV];exact h
  rw [tH h,PU];exact ⟨fun ⟨_,hc⟩=>by rw [Rm] at hc;exact hc,fun hc=>⟨h',by rw [Rm];exact hc⟩⟩
 ·rw [xdp (by omega)];exact ⟨fun ⟨h',_⟩=>absurd (by rw [DV] at h';exact h') h,fun hc=>hc.elim⟩
def slB:Option Int->Option Int->cR->(V->Prop)->Prop
 | some a,some b,s,C=>0<=a/\a<=b/\b<=s.length/\C (.lit (.string (bs ((s.take b.toNat).drop a.toNat))))
 | _,_,_,_=>False
@[go_sem high] theorem slU_sb {lo hi:Option V}:Ls P .str (.lit (.string (bs s))) lo hi C=slB (kC lo 0) (kC hi s.length) s C:=by
 rw [slU_s,DV];unfold slS slB;cases kC lo 0 <;> cases kC hi s.length <;> first | rfl | (simp only [DV,Ml])
@[go_sem] theorem slB_some {a b:Int}:slB (some a) (some b) s C=(0<=a/\a<=b/\b<=s.length/\C (.lit (.string (bs ((s.take b.toNat).drop a.toNat))))):=rI rfl
@[go_sem high] theorem cvU_lsb {D e:TypeId}:cvU P T D (.sl e) .str (.list o (nG s)) C=(ud P e=.int .u8/\C (.lit (.string (bs s)))):=by
 rw [←Jk,cvU_ls]
@[congr] theorem slB_congr {a a' b b':Option Int} {s s':cR} (h1:a=a') (h2:b=b') (h3:s=s'):slB a b s C=slB a' b' s' C:=by rw [h1,h2,h3]
theorem SC.by_ {C:V->M->Prop} {v:V} {m':M} (h:SC P f args q m (fun r m1=>r=v/\m1=m')) (hC:C v m'):SC P f args q m C:=
 h.mono fun _ _ ⟨e1,e2⟩=>by rw [e1,e2];exact hC
theorem mU {a:List V} (h:m.blk p=some a):m.set p a=m:=by
 cases m with | mk blk ver tok gl=>
 unfold M.set
 congr 1
 funext i
 show (if i=p then some a else blk i)=blk i
 split
 ·rename_i hi;rw [hi];exact h.symm
 ·rfl
theorem bF {m2:M} {a:List V} (h:¬ q <:+ p):m.back q (m2.set p a)=(m.back q m2).set p a:=by
 have hs:¬ q.isSuffixOf p=true:=fun e=>h (Fk.1 e);unfold M.back M.set
 congr 1
 funext i
 show (if q.isSuffixOf i then m.blk i else if i=p then some a else m2.blk i)=(if i=p then some a else if q.isSuffixOf i then m.blk i else m2.blk i)
 by_cases h1:i=p
 ·subst h1;rw [if_neg hs,if_pos rfl,if_pos rfl]
 ·rw [if_neg h1,if_neg h1]
end
attribute [go_sem] mK oL xef Ee xeg tS Ef BB true_and and_true zB qU CY AQ En FI jK lD uQ Pu Lh zC xeb Ix false_implies implies_true Bool.not_true Bool.not_false beq_self_eq_true Bool.or_true Bool.true_or Bool.and_true Bool.true_and Bool.or_false Bool.false_or Bool.and_false Bool.false_and List.forall_mem_map xds AP decide_true decide_false xem
theorem Hv {G:GG} {k:IntKind}:∀ {zs:List Int} {cs:List Value},xC G (zs.map (Mv.int k)) cs->cs=zs.map (Value.int k):=by
 intro zs
 induction zs with
 | nil=>intro cs h;exact h.inv_nil
 | cons z zs ih=>
   intro cs h;obtain ⟨xs,rfl,_,h2⟩:=h.inv_int;rw [ih h2];rfl
theorem PR {c:Conc} {k:IntKind} {a:Option Addr} {len cap:Nat} {zs:List Int} (h:Cs c.G (zs.map (Mv.int k)) a len cap):CR c [.list .none (zs.map fun z=>[.lit (.int k z)])] [.slice a len cap]:=by
 obtain ⟨h0,h1,h2,cs,h3,h4⟩:=h;obtain rfl:=Hv h3;rw [uQ] at h0;subst h0;refine Gq h1 h2 (fun hl=>?_) (fun hl=>?_)
 ·obtain ⟨b,off,e,_⟩:=h4 hl;exact ⟨b,off,e⟩
 ·rw [uQ] at hl;exact h4 hl
theorem Ri {c:Conc} {a:Option Addr} {len cap:Nat} {zs:List Int} (h:Cs c.G (zs.map (Mv.int .u8)) a len cap) (hw:∀n ∈ zs,(Lit.int .u8 n).wf=true):CR c [.list .none (nG (zs.map fun z=>z.toNat.toUInt8))] [.slice a len cap]:=by
 have e:nG (zs.map fun z=>z.toNat.toUInt8)=zs.map fun z=>[V.lit (.int .u8 z)]:=by
  unfold nG;rw [xdr];refine Pk fun z hz=>?_;have h1:=hw z hz
  have h2:0<=z/\z<256:=by
   simp [Lit.wf,IntKind.min,IntKind.max,IntKind.signed,IntKind.bits] at h1
   omega
  simp only [Function.comp]
  have h3:((z.toNat.toUInt8.toNat:Nat):Int)=z:=by
   rw [Nat.toUInt8,UInt8.toNat_ofNat'];omega
  rw [h3]
 rw [e];exact PR h
def gV {α:Type} (p:Prop) [Decidable p] (x:Option α):Option α:=if p then x else none
theorem bS {α:Type} {p:Prop} [Decidable p] {x:Option α} {r:α} (h:gV p x=some r):p/\x=some r:=by
 unfold gV at h
 split at h
 ·rename_i hp;exact ⟨hp,h⟩
 ·cases h
theorem DO {α:Type} {p:Prop} [Decidable p] {x:Option α} (hp:p):gV p x=x:=if_pos hp
theorem aA {α β:Type} {x:Option α} {f:α->Option β} {r:β} (h:x.bind f=some r):∃a,x=some a/\f a=some r:=Option.bind_eq_some_iff.1 h
theorem bool_or (b:Bool):b=true ∨ b=false:=by cases b <;> simp
def bY {α:Type} (l:List α) (i:Int):Option α:=if 0<=i then l[i.toNat]? else none
theorem aX {α:Type} {l:List α} {i:Int} {x:α} (h:bY l i=some x):0<=i/\i<l.length/\l[i.toNat]? = some x:=by
 unfold bY at h
 split at h
 ·rename_i h0;obtain ⟨h1,_⟩:=qS.1 h;exact ⟨h0,by omega,h⟩
 ·cases h
theorem ite_t {α:Type} {b:Bool} {x y:α} {r:α} (hb:b=true) (h:(if b=true then x else y)=r):x=r:=by rw [hb] at h;exact h
theorem ite_f {α:Type} {b:Bool} {x y:α} {r:α} (hb:b=false) (h:(if b=true then x else y)=r):y=r:=by rw [hb] at h;exact h
theorem bV {α:Type} {x y:α} (h:some x=some y):x=y:=by injection h
section
variable {P:Program} {N:Nat} {π:Pa} {k:Nat} {E:eA} {m:M} {Q:Exit->Nat->eA->M->Prop} {q p:Pa} {f:FuncId} {args:List V} {R:V->M->Prop}
theorem least {p:Nat->Prop} (h:∃c,p c):∃c,p c/\∀d,p d->c<=d:=by
 obtain ⟨c,hc⟩:=h
 induction c using Nat.strongRecOn with
 | _ c ih=>
   by_cases hx:∃d,d<c/\p d
   ·obtain ⟨d,hd,hp⟩:=hx;exact ih d hd hp
   ·exact ⟨c,hc,fun d hd=>Nat.le_of_not_lt fun hlt=>hx ⟨d,hlt,hd⟩⟩
theorem DF {body:Code} (Ct:Nat->eA->M->Prop) (c0:Nat) (h0:Ct c0 E m)
  (step:∀(i c:Nat) (E':eA) (m':M),Ct c E' m'->(∀t,wr body t=false->E' t=E t)->SW P N (i::k::π) body 0 E' m' (Da (fun _ E2 m2=>∃c',c'<c/\Ct c' E2 m2) fun e _ E2 m2=>Q e (k+1) E2 m2)) :
  SW P N π (.loop body) k E m Q:=by
 have hμ:∀(E:eA) (m:M),∃c,(∃c',Ct c' E m)->Ct c E m/\∀d,Ct d E m->c<=d:=by
  intro E m
  by_cases h:∃c',Ct c' E m
  ·obtain ⟨c,h1,h2⟩:=least h;exact ⟨c,fun _=>⟨h1,h2⟩⟩
  ·exact ⟨0,fun h'=>absurd h' h⟩
 refine OV (fun E m=>∃c,Ct c E m) (fun E m=>Classical.choose (hμ E m)) ⟨c0,h0⟩ fun i E' m' hI hf=>?_;obtain ⟨h1,h2⟩:=Classical.choose_spec (hμ E' m') hI;refine Nl (step i _ E' m' h1 hf) fun e k2 E2 m2 h=>?_;cases e with
 | normal=>
   obtain ⟨c',hc,hI2⟩:=h;obtain ⟨h3,h4⟩:=Classical.choose_spec (hμ E2 m2) ⟨c',hI2⟩;exact ⟨⟨c',hI2⟩,Nat.lt_of_le_of_lt (h4 c' hI2) hc⟩
 | _=>exact h
theorem SC.apart {cs:List V} (hm:m.blk p=some cs) (h:¬ q <:+ p->SC P f args q m R):SC P f args q m R:=by
 intro c xs w h1 h2 h3;refine h (fun hs=>?_) c xs w h1 h2 h3;have:=h1.fresh_blk (h3 p hs);rw [hm] at this;cases this
theorem pa1 (hp:¬ q <:+ p) {a:Nat}:(a::q=p)=False:=eq_false fun h=>hp (h ▸ kH sW)
theorem pa3 (hp:¬ q <:+ p) {a b c:Nat}:(a::b::c::q=p)=False:=eq_false fun h=>hp (h ▸ kH (kH (kH sW)))
theorem pb1 (hp:¬ q <:+ p) {a:Nat}:(p=a::q)=False:=eq_false fun h=>hp (h ▸ kH sW)
theorem pb3 (hp:¬ q <:+ p) {a b c:Nat}:(p=a::b::c::q)=False:=eq_false fun h=>hp (h ▸ kH (kH (kH sW)))
@[go_sem] theorem sf1 {a:Nat}:(q <:+ a::q)=True:=eq_true (kH sW)
@[go_sem] theorem sf2 {a b:Nat}:(q <:+ a::b::q)=True:=eq_true (kH (kH sW))
@[go_sem] theorem sf3 {a b c:Nat}:(q <:+ a::b::c::q)=True:=eq_true (kH (kH (kH sW)))
@[go_sem] theorem sf5 {a b c d e:Nat}:(q <:+ a::b::c::d::e::q)=True:=eq_true (kH (kH (kH (kH (kH sW)))))
end
@[go_sem] theorem byteRows_len {l:cR}:(nG l).length=l.length:=by simp [nG]
@[go_sem] theorem int0:Int.toNat 0=0:=rI rfl
attribute [go_sem] La xdt Nat.one_ne_zero sU Pg and_self
open Go.RowKit Go.ChangeShapes Go.WideShapes
def xY (w:World):GG:=fun b o=>w.cell? ⟨b,o,none⟩
theorem Lm {w:World}:Em w (xY w):=fun _ _ _ h=>h
theorem NE {w:World} {a:Addr} {v:Value} (h:w.cell? a=some v):a=⟨a.block,a.off,none⟩:=by
 obtain ⟨b,o,s⟩:=a;cases s with
 | none=>rfl
 | some s=>
   unfold World.cell? at h
   split at h
   ·simp at h
   ·cases h
theorem Gu {w:World} {a:Addr} {es:List Value} (h:∀i u,es[i]? = some u->w.cell? (a.add i)=some u):Gj (xY w) (some a) es:=by
 intro h0;have h1:=h 0 es[0] (tH h0);have e:a=⟨a.block,a.off,none⟩:=NE (v:=es[0]) (by simpa [Addr.add] using h1);refine ⟨a.block,a.off,by rw [←e],fun i u hu=>?_⟩;have h2:=h i u hu;rw [e,jY] at h2;exact h2
section
variable {w:World} {c:Conc} (hc:c.G=xY w)
include hc
theorem Gv {k:IntKind} {a:Addr} {len cap:Nat} {zs:List Int} (hl:len<=cap) (hm:cap<=maxLen) (hz:len<=zs.length) (hcell:∀i,i<len->w.cell? (a.add i)=some (.int k (zs.getD i 0))) :
  CR c [.list .none ((zs.take len).map fun z=>[.lit (.int k z)])] [.slice (some a) len cap]:=by
 have hlen:(zs.take len).length=len:=by rw [EF];omega
 have hL:Gj c.G (some a) ((zs.take len).map (Value.int k)):=by
  rw [hc];refine Gu fun i u hu=>?_;have hi:i<len:=by have:=(qS.1 hu).1;rw [uQ,hlen] at this;exact this
  rw [hcell i hi];rw [zC,xeq hi,tH (by omega)] at hu;rw [JA,tH (by omega)];exact hu
 have:=Gq (c:=c) (k:=k) (a:=some a) (cap:=cap) (zs:=zs.take len) (by omega) hm (fun h=>by
  obtain ⟨b,off,e,_⟩:=hL (by rw [uQ];exact h);exact ⟨b,off,e⟩) hL
 rw [hlen] at this;exact this
theorem Ll {k:IntKind} {a:Addr} {len cap:Nat} {A:Nat->Option Addr} {L C:Nat->Nat} {Z:Nat->List Int} (hl:len<=cap) (hm:cap<=maxLen)
  (h:∀r,r<len->w.cell? (a.add r)=some (.slice (A r) (L r) (C r))/\CR c [.list .none (((Z r).take (L r)).map fun z=>[.lit (.int k z)])] [.slice (A r) (L r) (C r)]) :
  CR c [.list .none (((List.range len).map fun r=>(Z r).take (L r)).map fun x=>[.list .none (x.map fun z=>[.lit (.int k z)])])] [.slice (some a) len cap]:=by
 have hcr:∀l:List Nat,(∀r ∈ l,r<len)->CR c ((l.map fun r=>(Z r).take (L r)).map fun x=>[V.list .none (x.map fun z=>[.lit (.int k z)])]).flatten (l.map fun r=>.slice (A r) (L r) (C r)):=by
  intro l
  induction l with
  | nil=>intro _;exact .nil
  | cons r l ih=>intro hr;exact CR.cons (h r (hr r (xec ..))).2 (ih fun x hx=>hr x (Jx _ hx))
 have hL:Gj c.G (some a) ((List.range len).map fun r=>.slice (A r) (L r) (C r)):=by
  rw [hc];refine Gu fun i u hu=>?_;have hi:i<len:=by have:=(qS.1 hu).1;simpa using this
  rw [zC,List.getElem?_range hi] at hu;rw [(h i hi).1];exact hu
 have:=CR.list (o:=.none) (a:=some a) (cap:=cap) (c:=c) (rows:=((List.range len).map fun r=>(Z r).take (L r)).map fun x=>[.list .none (x.map fun z=>[.lit (.int k z)])]) (es:=(List.range len).map fun r=>.slice (A r) (L r) (C r)) (sz:=1) (vs:=[]) (cs:=[])
  (hcr _ fun r hr=>JB.1 hr) (by intro r hr;obtain ⟨y,_,rfl⟩:=EG.1 hr;rfl) (by decide) (by simpa using hl) hm (fun h0=>by
    obtain ⟨b,off,e,_⟩:=hL (by simpa using h0);exact ⟨b,off,e⟩) hL (by intro u hu;obtain ⟨y,_,rfl⟩:=EG.1 hu;rfl) trivial .nil
 simpa using this
end
section
variable {H:Type} {enc:TypeId × Value->H} {P:Program} {w:World} {held:Bool}
theorem Lk {t e fuel:Nat} {k:IntKind} {cs:List Value} {x:DataW H × List MemPlace} (ht:P.underlying t=some (.slice e)) (he:P.underlying e=some (.int k)) (hc:P.cellsOf e=1)
  (h:DataW.trod enc P w 0 (fun _=>true) held fuel t cs=some x) :
  ∃ws:List Int,(∀z ∈ ws,(Lit.int k z).wf=true)/\∀c:Conc,c.G=xY w->∃a len cap,cs=[.slice a len cap]/\CR c [.list .none (ws.map fun z=>[.lit (.int k z)])] [.slice a len cap]:=by
 rcases open_ints ht he hc h with ⟨rfl,_⟩ | ⟨a,len,cap,zs,rfl,_,hl,hm,hz,_,hcell,hw⟩
 ·exact ⟨[],(by simp),fun c _=>⟨none,0,0,rfl,Gq (zs:=[]) (La _) (La _) (fun h=>by cases h) (fun h=>by cases h)⟩⟩
 ·rw [if_pos rfl] at hz;exact ⟨zs.take len,fun z hz=>hw z (Jw hz),fun c hc=>⟨some a,len,cap,rfl,Gv hc hl hm (by omega) fun i hi=>hcell i (by omega)⟩⟩
theorem Nt {t e q fuel:Nat} {k:IntKind} {cs:List Value} {x:DataW H × List MemPlace} (ht:P.underlying t=some (.slice e)) (he:P.underlying e=some (.slice q)) (hq:P.underlying q=some (.int k)) (ce:P.cellsOf e=1) (cq:P.cellsOf q=1)
  (h:DataW.trod enc P w 0 (fun _=>true) held fuel t cs=some x) :
  ∃as:List (List Int),(∀x ∈ as,∀z ∈ x,(Lit.int k z).wf=true)/\∀c:Conc,c.G=xY w->∃a len cap,cs=[.slice a len cap]/\CR c [.list .none (as.map fun x=>[.list .none (x.map fun z=>[.lit (.int k z)])])] [.slice a len cap]:=by
 rcases Go.Deep.open_int_rows ht he hq ce cq h with ⟨rfl,_⟩ | ⟨a,len,cap,A,L,C,Z,rfl,_,hl,hm,_,hr⟩
 ·refine ⟨[],(by simp),fun c _=>⟨none,0,0,rfl,?_⟩⟩;exact CR.list (o:=.none) (rows:=[]) (es:=[]) (sz:=1) .nil (fun _ h=>by cases h) (by decide) (La _) (La _) (fun h=>by cases h) (fun h=>by cases h) (fun _ h=>by cases h) trivial .nil
 ·refine ⟨(List.range len).map fun r=>(Z r).take (L r),fun x hx z hz=>?_,fun c hc=>⟨some a,len,cap,rfl,Ll (C:=C) (A:=A) hc hl hm fun r hrl=>?_⟩⟩
  ·obtain ⟨r,hr',rfl⟩:=EG.1 hx;exact (hr r (by have:=JB.1 hr';omega)).2.2.2.2.1 z (Jw hz)
  ·obtain ⟨h1,h2,h3,h4,h5,h6,h7⟩:=hr r (by omega);refine ⟨h1,?_⟩;cases hA:A r with
   | none=>
     have h8:=h6 hA;have h9:L r=0:=by omega
     rw [h8,h9,AQ];exact Gq (zs:=[]) (La _) (La _) (fun h=>by cases h) (fun h=>by cases h)
   | some a'=>exact Gv hc h2 h3 (by omega) fun i hi=>(h7 a' hA).2 i (by omega)
theorem args_in {t e0 e1 q fuel:Nat} {fs:Array Field} {f0 f1:Field} {k k':IntKind} {cs:Array Value} {x:DataW H × List MemPlace} (ht:P.underlying t=some (.struct fs)) (hf0:fs[0]? = some f0) (hf1:fs[1]? = some f1) (ho0:f0.offset=0) (ho1:f1.offset=1)
  (ct:P.cellsOf t=2) (c0:P.cellsOf f0.type=1) (c1:P.cellsOf f1.type=1) (hu0:P.underlying f0.type=some (.slice e0)) (he0:P.underlying e0=some (.int k)) (ce0:P.cellsOf e0=1)
  (hu1:P.underlying f1.type=some (.slice e1)) (he1:P.underlying e1=some (.slice q)) (hq:P.underlying q=some (.int k')) (ce1:P.cellsOf e1=1) (cq:P.cellsOf q=1)
  (h:DataW.trod enc P w 0 (fun _=>true) held fuel t (Value.agg cs).cells.toList=some x) :
  ∃(ws:List Int) (as:List (List Int)),(∀z ∈ ws,(Lit.int k z).wf=true)/\(∀x ∈ as,∀z ∈ x,(Lit.int k' z).wf=true) ∧
   ∀c:Conc,c.G=xY w->CR c [.agg [.list .none (ws.map fun z=>[.lit (.int k z)]),.list .none (as.map fun x=>[.list .none (x.map fun z=>[.lit (.int k' z)])])]] [.agg cs]:=by
 obtain ⟨xs,n,rfl,_,hl,hx,hel⟩:=DataW.trod_struct ht h;have hsz:cs.toList.length=2:=by rw [ct] at hl;exact hl
 obtain ⟨l⟩:=cs
 match l,hsz with
 | [v0,v1],_=>
   have k0:=hel 0 f0 hf0;have k1:=hel 1 f1 hf1;rw [ho0,c0] at k0;rw [ho1,c1] at k1
   have hn:fs.size ≥ 2:=by
    have:=(Array.getElem?_eq_some_iff.1 hf1).1;omega
   obtain ⟨y0,hy0⟩:∃y,xs[0]? = some y:=⟨xs[0],tH (by omega)⟩;obtain ⟨y1,hy1⟩:∃y,xs[1]? = some y:=⟨xs[1],tH (by omega)⟩;rw [hy0] at k0;rw [hy1] at k1;obtain ⟨ws,hw,g0⟩:=Lk hu0 he0 ce0 k0;obtain ⟨as,ha,g1⟩:=Nt hu1 he1 hq ce1 cq k1;refine ⟨ws,as,hw,ha,fun c hc=>?_⟩;obtain ⟨a0,l0,cp0,e0,r0⟩:=g0 c hc;obtain ⟨a1,l1,cp1,e1,r1⟩:=g1 c hc
   obtain rfl:v0=.slice a0 l0 cp0:=by
    have e0:[v0]=[.slice a0 l0 cp0]:=e0;simpa using e0
   obtain rfl:v1=.slice a1 l1 cp1:=by
    have e1:[v1]=[.slice a1 l1 cp1]:=e1;simpa using e1
   refine CR.agg (xs:=[.slice a0 l0 cp0,.slice a1 l1 cp1]) (CR.cons r0 r1) (fun u hu=>?_) .nil;simp only [vI,Ix,or_false] at hu
   rcases hu with rfl | rfl <;> rfl
end
end Go.Proofs.YtncembphlfbgoaaGreatDoor.Abs
