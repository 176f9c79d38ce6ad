import Derived.Test.YtnnomaboaiokeaaGreatDoorIA20
import Derived.Below
set_option linter.all false
namespace Go.Proofs.YtnnomaboaiokeaaGreatDoor.Abs
open Go.RowKit
def dt (S:V->Prop) (C:V->Prop):Prop:=∃v,S v/\C v
@[go_sem] theorem Oh {a:V} {C:V->Prop}:dt (λv=>a=v) C=C a:=propext ⟨λ⟨_,h,hc⟩=>h ▸ hc,λh=>⟨a,rfl,h⟩⟩
@[congr] theorem dt_congr {S S':V->Prop} {C:V->Prop} (h:∀v,S v=S' v):dt S C=dt S' C:=by rw [show S=S' from funext h]
def dm (S:V->M->Prop) (m:M) (C:V->M->Prop):Prop:=∃v m',S v m'/\m'.gl=m.gl/\C v m'
@[go_sem] theorem dm_eq {a:V} {b m:M} {C:V->M->Prop}:dm (λv m'=>a=v/\b=m') m C=(b.gl=m.gl/\C a b):=propext ⟨λ⟨_,_,⟨h1,h2⟩,hg,hc⟩=>by subst h1 h2;exact ⟨hg,hc⟩,λ⟨hg,h⟩=>⟨a,b,⟨rfl,rfl⟩,hg,h⟩⟩
@[go_sem] theorem dm_and {p:Prop} {S:V->M->Prop} {m:M} {C:V->M->Prop}:dm (λv m'=>p/\S v m') m C=(p/\dm S m C):=propext ⟨λ⟨v,m',⟨hp,hs⟩,hc⟩=>⟨hp,v,m',hs,hc⟩,λ⟨hp,v,m',hs,hc⟩=>⟨v,m',⟨hp,hs⟩,hc⟩⟩
@[congr] theorem dm_congr {S S':V->M->Prop} {m:M} {C:V->M->Prop} (h:∀v m',S v m'=S' v m'):dm S m C=dm S' m C:=by rw [show S=S' from funext λv=>funext λm'=>h v m']
def IK (P:Program) (f:V) (args:List V) (q:Pa) (m:M) (C:V->M->Prop):Prop:=∃v m',MX P f args q m (λr m1=>r=v/\m1=m')/\m'.gl=m.gl/\C v m'
theorem gQ {P:Program} {g:FuncId} {first captured args:List V} {q:Pa} {m m':M} {v:V} {C:V->M->Prop} (h:SC P g (first++args++captured) q m (λr m1=>r=v/\m1=m')) (hg:m'.gl=m.gl) (hc:C v m'):IK P (.fn (.func g) first captured) args q m C:=⟨v,m',h,hg,hc⟩
@[congr] theorem dcall_congr {P:Program} {f f':V} {as as':List V} {q:Pa} {m:M} {C:V->M->Prop} (h1:f=f') (h2:as=as'):IK P f as q m C=IK P f' as' q m C:=by rw [h1,h2]
def sG (P:Program) (full:List Oper) (π:Pa) (k0:Nat) (K:Nat->dD->M->Prop) (i f:Nat) (rest:List (Nat × Nat)) (hist:List M) (E:dD) (m:M) (o:Oper):Prop:=
 match o.guard with
 | none=>dop P o.op o f ((k0+i)::π) hist E m (λv m' hist'=>PD P full π k0 K rest hist' (gG o.dst v E) m')
 | some (j,b)=>
   match (full[j]?).bind (·.dst) with
   | none=>False
   | some d=>
     match E d with
     | .lit (.bool t)=>if t=b then dop P o.op o f ((k0+i)::π) hist E m (λv m' hist'=>PD P full π k0 K rest hist' (gG o.dst v E) m') else PD P full π k0 K rest (if tR o.op then m::hist else hist) (gG o.dst (.lit undef) E) m
     | .lit (.tuple _)=>PD P full π k0 K rest (if tR o.op then m::hist else hist) (gG o.dst (.lit undef) E) m
     | _=>False
def GJ (os:List Oper) (i:Nat) (C:Oper->Prop):Prop:=match os[i]? with | some o=>C o | none=>False
@[go_sem] theorem nthO_zero {o:Oper} {os:List Oper} {C:Oper->Prop}:GJ (o::os) 0 C=C o:=rI rfl
@[go_sem] theorem nthO_succ {o:Oper} {os:List Oper} {i:Nat} {C:Oper->Prop}:GJ (o::os) (i+1) C=GJ os i C:=by
 unfold GJ;rw [iS]
def Lc (P:Program) (full:List Oper) (π:Pa) (k0:Nat) (K:Nat->dD->M->Prop) (rest:List (Nat × Nat)) (hist:List M) (E:dD) (m:M) (d:Option Nat) (v:V):Prop:=PD P full π k0 K rest hist (gG d v E) m
def donM (P:Program) (full:List Oper) (π:Pa) (k0:Nat) (K:Nat->dD->M->Prop) (rest:List (Nat × Nat)) (hist:List M) (E:dD) (d:Option Nat) (v:V) (m:M):Prop:=PD P full π k0 K rest hist (gG d v E) m
def RU (P:Program) (T:TypeId) (u:V) (hist:List M) (C:V->Prop) (v:V):Prop:=(∀m1 ∈ hist,pN P m1 T u (λr=>r=v))/\C v
def RV (P:Program) (full:List Oper) (π:Pa) (k0:Nat) (K:Nat->dD->M->Prop) (i f:Nat) (rest:List (Nat × Nat)) (hist:List M) (E:dD) (m:M) (d:Option Nat) (op:Op) (ty:TypeId) (pos:String) (after:Array Edge) (b:Bool) (v:V):Prop:=
 gsel v b (sG P full π k0 K i f rest hist E m ⟨d,op,ty,pos,after,none⟩) (PD P full π k0 K rest (if tR op then m::hist else hist) (gG d (.lit undef) E) m)
section
variable {P:Program} {full:List Oper} {π:Pa} {k0:Nat} {K:Nat->dD->M->Prop} {i f:Nat} {rest:List (Nat × Nat)} {hist:List M} {E:dD} {m:M} {d:Option Nat} {ty:TypeId} {pos:String} {after:Array Edge} {v:V}
@[go_sem] theorem pd_nil:PD P full π k0 K [] hist E m=K (k0+full.length) E m:=rI rfl
@[go_sem] theorem pd_cons:PD P full π k0 K ((i,f)::rest) hist E m=GJ full i (sG P full π k0 K i f rest hist E m):=by
 simp only [PD,GJ];cases full[i]? with
 | none=>rfl
 | some o=>rfl
@[go_sem] theorem don_at:Lc P full π k0 K rest hist E m d v=PD P full π k0 K rest hist (gG d v E) m:=rI rfl
@[go_sem] theorem donM_at:donM P full π k0 K rest hist E d v m=PD P full π k0 K rest hist (gG d v E) m:=rI rfl
@[go_sem] theorem donL_nil {T:TypeId} {u:V} {C:V->Prop}:RU P T u [] C v=C v:=by simp [RU]
@[go_sem] theorem donL_cons {T:TypeId} {u:V} {C:V->Prop} {m1:M} {hs:List M}:RU P T u (m1::hs) C v=(pN P m1 T u (λr=>r=v)/\RU P T u hs C v):=by simp [RU,and_assoc]
@[go_sem] theorem dgon_tt {op:Op}:RV P full π k0 K i f rest hist E m d op ty pos after true (.lit (.bool true))=sG P full π k0 K i f rest hist E m ⟨d,op,ty,pos,after,none⟩:=rI rfl
@[go_sem] theorem dgon_ff {op:Op}:RV P full π k0 K i f rest hist E m d op ty pos after false (.lit (.bool false))=sG P full π k0 K i f rest hist E m ⟨d,op,ty,pos,after,none⟩:=rI rfl
@[go_sem] theorem dgon_tf {op:Op}:RV P full π k0 K i f rest hist E m d op ty pos after false (.lit (.bool true))=PD P full π k0 K rest (if tR op then m::hist else hist) (gG d (.lit undef) E) m:=rI rfl
@[go_sem] theorem dgon_ft {op:Op}:RV P full π k0 K i f rest hist E m d op ty pos after true (.lit (.bool false))=PD P full π k0 K rest (if tR op then m::hist else hist) (gG d (.lit undef) E) m:=rI rfl
@[go_sem] theorem dp_guard {op:Op} {j:Nat} {b:Bool}:sG P full π k0 K i f rest hist E m ⟨d,op,ty,pos,after,some (j,b)⟩=Kl full j E (RV P full π k0 K i f rest hist E m d op ty pos after b):=by
 unfold sG Kl RV gsel;simp only;cases (full[j]?).bind (·.dst) with
 | none=>rfl
 | some d'=>
   simp only
   generalize E d'=v
   cases v with
   | lit u=>cases u <;> rfl
   | _=>rfl
@[go_sem] theorem dp_load {T:TypeId} {x:Operand}:sG P full π k0 K i f rest hist E m ⟨d,.load T x,ty,pos,after,none⟩=dt (λv=>pN P m T (ev m E x) (λr=>r=v)) (RU P T (ev m E x) (hist.take f) (Lc P full π k0 K rest hist E m d)):=rI rfl
@[go_sem] theorem dp_alloc {T:TypeId}:sG P full π k0 K i f rest hist E m ⟨d,.alloc T,ty,pos,after,none⟩=GF (cY P T) (λzs=>Lc P full π k0 K rest hist E (m.set ((k0+i)::π) (zs.map V.raw0)) d (.ptr ((k0+i)::π) 0)):=by
 apply propext;show (∃vs,cY P T=some vs/\_) ↔ _;unfold GF
 constructor
 ·rintro ⟨vs,h,hc⟩;rw [h];exact hc
 ·intro h;cases hz:cY P T with
  | none=>rw [hz] at h;exact h.elim
  | some vs=>rw [hz] at h;exact ⟨vs,rfl,h⟩
@[go_sem] theorem dp_box {T:TypeId} {x:Operand}:sG P full π k0 K i f rest hist E m ⟨d,.box T x,ty,pos,after,none⟩=((ev m E x).cellsOk=true/\Lc P full π k0 K rest hist E (m.set ((k0+i)::π) ((ev m E x).cells.map V.raw0)) d (.ptr ((k0+i)::π) 0)):=rI rfl
@[go_sem] theorem dp_move {x:Operand}:sG P full π k0 K i f rest hist E m ⟨d,.move x,ty,pos,after,none⟩=Lc P full π k0 K rest hist E m d (ev m E x):=Oh
@[go_sem] theorem dp_assign {x:Operand}:sG P full π k0 K i f rest hist E m ⟨d,.assign x,ty,pos,after,none⟩=Lc P full π k0 K rest hist E m d (ev m E x):=Oh
@[go_sem] theorem dp_pick {t x y:Operand}:sG P full π k0 K i f rest hist E m ⟨d,.pick t x y,ty,pos,after,none⟩=dt (λv=>Lt (ev m E t) (ev m E x) (ev m E y) (λr=>r=v)) (Lc P full π k0 K rest hist E m d):=rI rfl
@[go_sem] theorem dp_build {T:TypeId} {ps:Array (Nat × Operand)}:sG P full π k0 K i f rest hist E m ⟨d,.build T ps,ty,pos,after,none⟩=dt (λv=>AG P T (ps.toList.map λp=>(p.1,ev m E p.2)) (λr=>r=v)) (Lc P full π k0 K rest hist E m d):=rI rfl
@[go_sem] theorem dp_buildSlice {T:TypeId} {n:Nat} {ps:Array (Nat × Operand)}:sG P full π k0 K i 0 rest hist E m ⟨d,.buildSlice T n ps,ty,pos,after,none⟩=dt (λv=>oQ P T n (ps.toList.map λp=>(p.1,ev m E p.2)) (λr=>r=v)) (Lc P full π k0 K rest hist E m d):=rI rfl
@[go_sem] theorem dp_nilCheck {x:Operand}:sG P full π k0 K i f rest hist E m ⟨d,.nilCheck x,ty,pos,after,none⟩=dt (λv=>Ho (ev m E x) (λr=>r=v)) (Lc P full π k0 K rest hist E m d):=by
 have:∀v,GI P (.nilCheck x) (ev m E) (λr=>r=v)=Ho (ev m E x) (λr=>r=v):=by
  intro v;simp only [GI,Ho]
  generalize ev m E x=u
  cases u <;> rfl
 show dt (λv=>GI P (.nilCheck x) (ev m E) (λr=>r=v)) _=_;rw [funext this];rfl
@[go_sem] theorem dp_binOp {op:BinOp} {T T':TypeId} {x y:Operand}:sG P full π k0 K i f rest hist E m ⟨d,.binOp op T x y T',ty,pos,after,none⟩=dt (λv=>rP P op T x y (ev m E x) (ev m E y) (λr=>r=v)) (Lc P full π k0 K rest hist E m d):=rI rfl
@[go_sem] theorem dp_unOp {op:UnOp} {T:TypeId} {x:Operand}:sG P full π k0 K i f rest hist E m ⟨d,.unOp op T x,ty,pos,after,none⟩=dt (λv=>SJ op (ev m E x) (λr=>r=v)) (Lc P full π k0 K rest hist E m d):=rI rfl
@[go_sem] theorem dp_convert {s t:TypeId} {x:Operand}:sG P full π k0 K i f rest hist E m ⟨d,.convert s t x,ty,pos,after,none⟩=dt (λv=>AP P s t (ev m E x) (λr=>r=v)) (Lc P full π k0 K rest hist E m d):=rI rfl
@[go_sem] theorem dp_slice {T:TypeId} {x:Operand} {lo hi:Option Operand}:sG P full π k0 K i f rest hist E m ⟨d,.slice T x lo hi none,ty,pos,after,none⟩=dt (λv=>CY P T (ev m E x) (lo.map (ev m E)) (hi.map (ev m E)) (λr=>r=v)) (Lc P full π k0 K rest hist E m d):=rI rfl
@[go_sem] theorem dp_fieldAddr {T g:Nat} {x:Operand}:sG P full π k0 K i f rest hist E m ⟨d,.fieldAddr T x g,ty,pos,after,none⟩=dt (λv=>uU P T g (ev m E x) (λr=>r=v)) (Lc P full π k0 K rest hist E m d):=rI rfl
@[go_sem] theorem dp_indexAddr {T:TypeId} {x y:Operand}:sG P full π k0 K i f rest hist E m ⟨d,.indexAddr T x y,ty,pos,after,none⟩=dt (λv=>xJ P T (ev m E x) (ev m E y) (λr=>r=v)) (Lc P full π k0 K rest hist E m d):=rI rfl
@[go_sem] theorem dp_index {T:TypeId} {x y:Operand}:sG P full π k0 K i f rest hist E m ⟨d,.index T x y,ty,pos,after,none⟩=dt (λv=>Da P T (ev m E x) (ev m E y) (λr=>r=v)) (Lc P full π k0 K rest hist E m d):=rI rfl
@[go_sem] theorem dp_extract {t:Operand} {n:Nat}:sG P full π k0 K i f rest hist E m ⟨d,.extract t n,ty,pos,after,none⟩=dt (λv=>vC (ev m E t) n (λr=>r=v)) (Lc P full π k0 K rest hist E m d):=by
 have:∀v,GI P (.extract t n) (ev m E) (λr=>r=v)=vC (ev m E t) n (λr=>r=v):=by
  intro v;simp only [GI,vC]
  generalize ev m E t=u
  cases u with
  | tup vs=>cases vs[n]? <;> rfl
  | _=>rfl
 show dt (λv=>GI P (.extract t n) (ev m E) (λr=>r=v)) _=_;rw [funext this];rfl
@[go_sem] theorem dp_len {T:TypeId} {x:Operand}:sG P full π k0 K i f rest hist E m ⟨d,.call ⟨.builtin .len,#[x],#[T]⟩,ty,pos,after,none⟩=dt (λv=>IS P T (ev m E x) (λr=>r=v)) (Lc P full π k0 K rest hist E m d):=rI rfl
@[go_sem] theorem dp_min {x y:Operand} {ts:Array TypeId}:sG P full π k0 K i f rest hist E m ⟨d,.call ⟨.builtin .min,#[x,y],ts⟩,ty,pos,after,none⟩=dt (λv=>rK false (ev m E x) (ev m E y) (λr=>r=v)) (Lc P full π k0 K rest hist E m d):=rI rfl
@[go_sem] theorem dp_max {x y:Operand} {ts:Array TypeId}:sG P full π k0 K i f rest hist E m ⟨d,.call ⟨.builtin .max,#[x,y],ts⟩,ty,pos,after,none⟩=dt (λv=>rK true (ev m E x) (ev m E y) (λr=>r=v)) (Lc P full π k0 K rest hist E m d):=rI rfl
@[go_sem] theorem dp_append {t u:TypeId} {s x:Operand}:sG P full π k0 K i f rest hist E m ⟨d,.call ⟨.builtin .append,#[s,x],#[t,u]⟩,ty,pos,after,none⟩=dm (λv m'=>vU P ((k0+i)::π) m t u (ev m E s) (ev m E x) (λr m1=>r=v/\m1=m')) m (donM P full π k0 K rest (m::hist) E d):=rI rfl
@[go_sem] theorem dp_store {T:TypeId} {x y:Operand}:sG P full π k0 K i f rest hist E m ⟨d,.store T x y,ty,pos,after,none⟩=dm (λv m'=>Bt P m T (ev m E x) (ev m E y) (λm1=>.lit undef=v/\m1=m')) m (donM P full π k0 K rest (m::hist) E d):=rI rfl
@[go_sem] theorem dp_call {g:Operand} {xs:Array Operand} {ts:Array TypeId}:sG P full π k0 K i f rest hist E m ⟨d,.call ⟨.value g,xs,ts⟩,ty,pos,after,none⟩=IK P (ev m E g) (xs.toList.map (ev m E)) ((k0+i)::π) m (donM P full π k0 K rest (m::hist) E d):=by
 have:∀v m',dW P ⟨d,.call ⟨.value g,xs,ts⟩,ty,pos,after,none⟩ ((k0+i)::π) E m (λr m1=>r=v/\m1=m')=MX P (ev m E g) (xs.toList.map (ev m E)) ((k0+i)::π) m (λr m1=>r=v/\m1=m'):=by
  intro v m';simp only [dW,Hu,MX]
  generalize ev m E g=u
  cases u with
  | fn g _ _=>cases g <;> rfl
  | _=>rfl
 show (∃v m',dW P ⟨d,.call ⟨.value g,xs,ts⟩,ty,pos,after,none⟩ ((k0+i)::π) E m (λr m1=>r=v/\m1=m')/\_)=_;simp only [this];rfl
end
section
variable {P:Program} {N:Nat} {π:Pa} {k:Nat} {E:dD} {m:M} {Q:Exit->Nat->dD->M->Prop}
theorem So {body:Code} (EW:dD->M->Prop) (μ:dD->M->Nat) (h0:EW E m)
  (step:∀(i:Nat) (E':dD) (m':M),EW E' m'->(∀t,wr body t=false->E' t=E t)->SW P N (i::k::π) body 0 E' m' (qY (λ_ E2 m2=>EW E2 m2/\μ E2 m2<μ E' m') λe _ E2 m2=>Q e (k+1) E2 m2)) :
  SW P N π (.loop body) k E m Q:=by
 refine SW_loop EW μ h0 λi E' m' hI hf=>yK (step i E' m' hI hf) λe k2 E2 m2 h=>?_;cases e <;> exact h
theorem Vs {x:Code} (J:dD->M->Prop) (hJ:J E m) (h:∀E' m',J E' m'->SW P N π x k E' m' Q):SW P N π x k E m Q:=h E m hJ
theorem MJ {x:Code} (J:M->Prop) (hJ:J m) (h:∀m',J m'->SW P N π x k E m' Q):SW P N π x k E m Q:=h m hJ
def VB (m:M) (π:Pa) (k:Nat):Prop:=∀j,k<=j->∀id,(j::π) <:+ id->m.blk id=none/\(∀off,m.ver id off=0)/\∀i,m.tok id i=false
theorem Vt {x:Code} (h:VB m π k->SW P N π x k E m Q):SW P N π x k E m Q:=by
 intro hf c a w h1 h2 h3;exact h (λj hj id eL=>⟨h1.fresh_blk (h3 j hj id eL),(h1.ver0 id (h3 j hj id eL)).1,(h1.ver0 id (h3 j hj id eL)).2⟩) hf c a w h1 h2 h3
theorem VB.fW {j:Nat} (h:VB m π k) (hj:k<=j):m.blk (j::π)=none/\(∀off,m.ver (j::π) off=0)/\∀i,m.tok (j::π) i=false:=h j hj _ (Lo _)
theorem aZ (q:Pa) (m:M):m.back q m=m:=by
 cases m;simp [M.back]
theorem aW {q id:Pa} {m m':M} {vs:List V} (h:q <:+ id):m.back q (m'.set id vs)=m.back q m':=by
 have hs:q.isSuffixOf id=true:=KI.2 h;unfold M.back
 congr 1
 funext i
 show (if q.isSuffixOf i then m.blk i else if i=id then some vs else m'.blk i)=_
 split
 ·rfl
 ·rename_i hi;rw [if_neg (by rintro rfl;exact hi hs)]
theorem aP {q id:Pa} {m m':M} {n:Nat} {b:Bool} (h:q <:+ id):m.back q (m'.tokset id n b)=m.back q m':=by
 have hs:q.isSuffixOf id=true:=KI.2 h;unfold M.back
 congr 1
 funext i
 show (if q.isSuffixOf i then m.tok i else λj=>if i=id/\j=n then b else m'.tok i j)=_
 split
 ·rfl
 ·rename_i hi
  funext j
  rw [if_neg (by rintro ⟨rfl,_⟩;exact hi hs)]
theorem aV {q id:Pa} {m m':M} {off:Nat} (h:q <:+ id):m.back q (m'.bump id off)=m.back q m':=by
 have hs:q.isSuffixOf id=true:=KI.2 h;unfold M.back
 congr 1
 funext i
 show (if q.isSuffixOf i then m.ver i else λo=>if i=id/\o=off then m'.ver i o+1 else m'.ver i o)=_
 split
 ·rfl
 ·rename_i hi
  funext j
  rw [if_neg (by rintro ⟨rfl,_⟩;exact hi hs)]
theorem tO {q:Pa}:q <:+ q:=Lo q
theorem gE {q p:Pa} {n:Nat} (h:q <:+ p):q <:+ (n::p):=h.trans (List.suffix_cons n p)
theorem RS {m:M} {id:Pa} {j:Nat}:m.drop (.st (.anon id j))=m.tokset id j false:=rI rfl
end
def M.start:M:=⟨λ_=>none,λ_ _=>0,λ_ _=>false,λ_=>.top,λ_=>none⟩
def Conc.start (w:World) (G:GG):Conc:=⟨w.heap.size,λ_=>False,λ_=>none,λ_=>none,G⟩
section
variable {P:Program} {w:World} {G:GG}
theorem Gh {α:Type} {x:α} {p:Prop} (h:(none:Option α)=some x):p:=by cases h
theorem Nn (q:Pa):sK (Conc.start w G) q:=λ_ _=>⟨rfl,λ_=>rfl,λ_ _=>rfl,rfl⟩
theorem ints_in {c:Conc} {k:IntKind} {a:Option Addr} {cap:Nat} {zs:List Int} (hl:zs.length<=cap) (hm:cap<=maxLen) (ha:0<zs.length->∃b off,a=some ⟨b,off,none⟩) (hG:ML c.G a (zs.map (Value.int k))):CR c [.list .none (zs.map λz=>[.lit (.int k z)])] [.slice a zs.length cap]:=by
 have hcr:∀l:List Int,CR c ((l.map λz=>[V.lit (.int k z)]).flatten) (l.map (Value.int k)):=by
  intro l
  induction l with
  | nil=>exact .nil
  | cons z l ih=>exact .lit ih
 have:=CR.list (o:=.none) (a:=a) (cap:=cap) (c:=c) (rows:=zs.map λz=>[V.lit (.int k z)]) (es:=zs.map (Value.int k)) (sz:=1) (vs:=[]) (cs:=[]) (hcr zs) (by intro r hr;obtain ⟨y,_,rfl⟩:=HN.1 hr;rfl) (by decide) (by simpa using hl) hm (by simpa using ha) hG (by intro u hu;obtain ⟨y,_,rfl⟩:=HN.1 hu;rfl) trivial .nil;simpa using this
end
end Go.Proofs.YtnnomaboaiokeaaGreatDoor.Abs
namespace Go.Proofs.YtnnomaboaiokeaaGreatDoor
open Go.RowKit
def rowG (x:Addr) (len:Nat) (k:IntKind) (zs:List Int):GG:=λb o=>if b=x.block/\x.off<=o/\o<x.off+len then some (.int k (zs.getD (o - x.off) 0)) else none
theorem Rv (G:GG) (k:IntKind) (zs:List Int) (h:∀n ∈ zs,(Lit.int k n).wf=true):AK G (zs.map (OH.int k)) (zs.map (Value.int k)):=by
 induction zs with
 | nil=>exact .nil
 | cons z zs ih=>exact .int (h z (by simp)) (ih λn hn=>h n (by simp [hn]))
def vR (G H:GG):GG:=λb o=>match G b o with | some v=>some v | none=>H b o
theorem LO {w:World} {G H:GG} (h:FX w G) (k:FX w H):FX w (vR G H):=by
 intro b o v hv;unfold vR at hv
 split at hv
 ·rename_i u hu;injection hv with hv;subst hv;exact h _ _ _ hu
 ·exact k _ _ _ hv
theorem KA {G H:GG} {b o:Nat} {v:Value} (h:G b o=some v):vR G H b o=some v:=by simp [vR,h]
theorem IL {w:World} {G H:GG} (h:FX w G) (k:FX w H) {b o:Nat} {v:Value} (hv:H b o=some v):vR G H b o=some v:=by
 unfold vR
 split
 ·rename_i u hu;have h1:=h _ _ _ hu;have h2:=k _ _ _ hv;rw [h1] at h2;exact h2
 ·exact hv
theorem CH.le {G G':GG} (hle:∀b o v,G b o=some v->G' b o=some v) {es:List OH} {a:Option Addr} {len cap:Nat} (h:CH G es a len cap):CH G' es a len cap:=by
 obtain ⟨h0,hc,hm,cs,h1,ha⟩:=h;refine ⟨h0,hc,hm,cs,h1.mono hle,λhl=>?_⟩;obtain ⟨b,off,e,h⟩:=ha hl;exact ⟨b,off,e,λi u hu=>hle _ _ _ (h i u hu)⟩
theorem TJ {k:IntKind} {w:World} {a:Option Addr} {len cap:Nat} {zs:List Int}
  (h:(a=none/\len=0/\cap=0/\zs=[]) ∨ ∃x,a=some x/\len<=cap/\cap<=maxLen/\zs.length=cap/\(∀i,i<zs.length->w.cell? (x.add i)=some (.int k (zs.getD i 0)))/\∀n ∈ zs,(Lit.int k n).wf=true) :
  ∃G,FX w G/\CH G ((zs.take len).map (OH.int k)) a len cap/\(zs.take len).length=len/\∀n ∈ zs.take len,(Lit.int k n).wf=true:=by
 rcases h with ⟨rfl,rfl,rfl,rfl⟩ | ⟨x,rfl,hlc,hm,hz,hcell,hwf⟩
 ·exact ⟨λ_ _=>none,λb o v h=>(by cases h),⟨rfl,rM _,by decide,[],.nil,λh=>by cases h⟩,rfl,by simp⟩
 ·have hwf':∀n ∈ zs.take len,(Lit.int k n).wf=true:=λn hn=>hwf n (OC hn);have hlen:(zs.take len).length=len:=by rw [Ji];omega
  rcases Nat.eq_zero_or_pos len with h0 | h0
  ·subst h0;exact ⟨λ_ _=>none,λb o v h=>(by cases h),⟨by simp,KH _,hm,[],by simpa using .nil,λh=>by cases h⟩,rfl,by simp⟩
  ·have hsp:x=⟨x.block,x.off,none⟩:=by
    have h1:=hcell 0 (by omega);cases hs:x.spot with
    | none=>cases x;simp_all
    | some s=>
      unfold World.cell? Addr.add at h1;rw [if_pos rfl,hs] at h1
      split at h1 <;> simp at h1
   refine ⟨rowG x len k zs,λb o v hv=>?_,⟨by simp;omega,hlc,hm,(zs.take len).map (Value.int k),Rv _ _ _ hwf',λ_=>⟨x.block,x.off,by rw [←hsp],λi u hu=>?_⟩⟩,hlen,hwf'⟩
   ·unfold rowG at hv
    split at hv
    ·rename_i hb
     injection hv with hv
     subst hv;have:=hcell (o - x.off) (by omega);rw [hsp,mV] at this;rw [hb.1,←this]
     congr 2;simp;omega
    ·cases hv
   ·have hi:i<len:=by have:=(uG.1 hu).1;simp at this;omega
    unfold rowG;rw [if_pos ⟨rfl,by omega,by omega⟩];rw [show x.off+i - x.off=i by omega];rw [gW,xfj hi,uS (by omega)] at hu;rw [List.getD_eq_getElem?_getD,uS (by omega)];exact hu
end Go.Proofs.YtnnomaboaiokeaaGreatDoor
namespace Go.Proofs.YtnnomaboaiokeaaGreatDoor.Abs
open Go.RowKit
abbrev cF:=List UInt8
def bs (l:cF):ByteArray:=⟨l.toArray⟩
theorem Gm (l:cF):(bs l).size=l.length:=by simp [bs,ByteArray.size]
theorem Ve {a b:cF}:bs a=bs b ↔ a=b:=by
 constructor
 ·intro h;have:=congrArg (λx:ByteArray=>x.data.toList) h;simpa [bs] using this
 ·rintro rfl;rfl
theorem Vf (l:cF) (i:Nat) (h:i<(bs l).size):(bs l)[i]=l[i]'(by rw [Gm] at h;exact h):=by
 show (bs l).data[i]=_;simp [bs]
theorem PK (l:cF) (a b:Nat):(bs l).extract a b=bs ((l.take b).drop a):=by
 apply ByteArray.ext;rw [ByteArray.data_extract];apply Array.ext';simp [bs,List.drop_take]
def pR (l:cF):List (List V):=l.map λb=>[.lit (.int .u8 (b.toNat:Int))]
theorem ME (l:cF):kV (bs l)=pR l:=by simp [kV,pR,bs]
def sgo (o:Option UInt8) (C:V->Prop):Prop:=match o with | some c=>C (.lit (.int .u8 (c.toNat:Int))) | none=>False
section
variable {P:Program} {T:TypeId} {x y:Operand} {C:V->Prop} {m:M} {E:dD} {s t l:cF} {k:IntKind} {i:Int} {o:Jt} {f:FuncId} {args:List V} {q p:Pa}
@[go_sem] theorem Ty {c:UInt8}:sgo (some c) C=C (.lit (.int .u8 (c.toNat:Int))):=rI rfl
@[congr] theorem sgo_congr {o o':Option UInt8} (h:o=o'):sgo o C=sgo o' C:=by rw [h]
@[go_sem high] theorem ev_strb:ev m E (.const (.string ⟨l.toArray⟩))=.lit (.string (bs l)):=rI rfl
@[go_sem high] theorem sbin_seqlb:rP P .eql T x y (.lit (.string (bs s))) (.lit (.string (bs t))) C=C (.lit (.bool (decide (s=t)))):=by
 rw [Rr];simp only [Ve]
@[go_sem high] theorem sbin_sneqb:rP P .neq T x y (.lit (.string (bs s))) (.lit (.string (bs t))) C=C (.lit (.bool (decide (s ≠ t)))):=by
 have:((bs s).toList == (bs t).toList)=decide (s=t):=by
  by_cases h:s=t
  ·subst h;simp
  ·have:¬ (bs s).toList=(bs t).toList:=λe=>h (Ve.1 (Az e));simp [h,this]
 simp [rP,this]
@[go_sem high] theorem slenU_sb:Lu .str (.lit (.string (bs s))) C=C (.lit (.int .i64 s.length)):=by rw [slenU_s,Gm]
@[go_sem high] theorem sindexU_sb:Hr P .str (.lit (.string (bs s))) (.lit (.int k i)) C=(0<=i/\sgo s[i.toNat]? C):=by
 rw [Ri];apply propext;refine and_congr_right λ_=>?_
 by_cases h:i.toNat<s.length
 ·have h':i.toNat<(bs s).size:=by rw [Gm];exact h
  rw [uS h,Ty];exact ⟨λ⟨_,hc⟩=>by rw [Vf] at hc;exact hc,λhc=>⟨h',by rw [Vf];exact hc⟩⟩
 ·rw [OJ (by omega)];exact ⟨λ⟨h',_⟩=>absurd (by rw [Gm] at h';exact h') h,λhc=>hc.elim⟩
def slB:Option Int->Option Int->cF->(V->Prop)->Prop
 | some a,some b,s,C=>0<=a/\a<=b/\b<=s.length/\C (.lit (.string (bs ((s.take b.toNat).drop a.toNat))))
 | _,_,_,_=>False
@[go_sem high] theorem slU_sb {lo hi:Option V}:OT P .str (.lit (.string (bs s))) lo hi C=slB (mH lo 0) (mH hi s.length) s C:=by
 rw [slU_s,Gm];unfold slS slB;cases mH lo 0 <;> cases mH hi s.length <;> first | rfl | (simp only [Gm,PK])
@[go_sem] theorem slB_some {a b:Int}:slB (some a) (some b) s C=(0<=a/\a<=b/\b<=s.length/\C (.lit (.string (bs ((s.take b.toNat).drop a.toNat))))):=rI rfl
@[go_sem high] theorem cvU_lsb {D e:TypeId}:cvU P T D (.sl e) .str (.list o (pR s)) C=(ud P e=.int .u8/\C (.lit (.string (bs s)))):=by
 rw [←ME,cvU_ls]
@[congr] theorem slB_congr {a a' b b':Option Int} {s s':cF} (h1:a=a') (h2:b=b') (h3:s=s'):slB a b s C=slB a' b' s' C:=by rw [h1,h2,h3]
theorem SC.by_ {C:V->M->Prop} {v:V} {m':M} (h:SC P f args q m (λr m1=>r=v/\m1=m')) (hC:C v m'):SC P f args q m C:=
 h.mono λ_ _ ⟨e1,e2⟩=>by rw [e1,e2];exact hC
theorem Ht {a:List V} (h:m.blk p=some a):m.set p a=m:=by
 cases m with | mk blk ver tok gl=>
 unfold M.set
 congr 1
 funext i
 show (if i=p then some a else blk i)=blk i
 split
 ·rename_i hi;rw [hi];exact h.symm
 ·rfl
theorem bE {m2:M} {a:List V} (h:¬ q <:+ p):m.back q (m2.set p a)=(m.back q m2).set p a:=by
 have hs:¬ q.isSuffixOf p=true:=λe=>h (KI.1 e);unfold M.back M.set
 congr 1
 funext i
 show (if q.isSuffixOf i then m.blk i else if i=p then some a else m2.blk i)=(if i=p then some a else if q.isSuffixOf i then m.blk i else m2.blk i)
 by_cases h1:i=p
 ·subst h1;rw [if_neg hs,if_pos rfl,if_pos rfl]
 ·rw [if_neg h1,if_neg h1]
end
attribute [go_sem] gT iQ iV iI jU gC gS iD true_and and_true iT iB jB jG jA iZ dT eI gZ iU iS gW jH iH false_implies implies_true jN jM beq_self_eq_true jT jR jO jF Bool.or_false Bool.false_or Bool.and_false Bool.false_and List.forall_mem_map Int.natCast_nonneg CS decide_true decide_false xey
theorem KU {G:GG} {k:IntKind}:∀ {zs:List Int} {cs:List Value},AK G (zs.map (OH.int k)) cs->cs=zs.map (Value.int k):=by
 intro zs
 induction zs with
 | nil=>intro cs h;exact h.inv_nil
 | cons z zs ih=>
   intro cs h;obtain ⟨xs,rfl,_,h2⟩:=h.inv_int;rw [ih h2];rfl
theorem Ns {c:Conc} {k:IntKind} {a:Option Addr} {len cap:Nat} {zs:List Int} (h:CH c.G (zs.map (OH.int k)) a len cap):CR c [.list .none (zs.map λz=>[.lit (.int k z)])] [.slice a len cap]:=by
 obtain ⟨h0,h1,h2,cs,h3,h4⟩:=h;obtain rfl:=KU h3;rw [gZ] at h0;subst h0;refine ints_in h1 h2 (λhl=>?_) (λhl=>?_)
 ·obtain ⟨b,off,e,_⟩:=h4 hl;exact ⟨b,off,e⟩
 ·rw [gZ] at hl;exact h4 hl
theorem Vb {c:Conc} {a:Option Addr} {len cap:Nat} {zs:List Int} (h:CH c.G (zs.map (OH.int .u8)) a len cap) (hw:∀n ∈ zs,(Lit.int .u8 n).wf=true):CR c [.list .none (pR (zs.map λz=>z.toNat.toUInt8))] [.slice a len cap]:=by
 have e:pR (zs.map λz=>z.toNat.toUInt8)=zs.map λz=>[V.lit (.int .u8 z)]:=by
  unfold pR;rw [xee];refine QN λz hz=>?_;have h1:=hw z hz
  have h2:0<=z/\z<256:=by
   simp [Lit.wf,IntKind.min,IntKind.max,IntKind.signed,IntKind.bits] at h1
   omega
  simp only [Function.comp]
  have h3:((z.toNat.toUInt8.toNat:Nat):Int)=z:=by
   rw [Nat.toUInt8,UInt8.toNat_ofNat'];omega
  rw [h3]
 rw [e];exact Ns h
def gY {α:Type} (p:Prop) [Decidable p] (x:Option α):Option α:=if p then x else none
theorem cH {α:Type} {p:Prop} [Decidable p] {x:Option α} {r:α} (h:gY p x=some r):p/\x=some r:=by
 unfold gY at h
 split at h
 ·rename_i hp;exact ⟨hp,h⟩
 ·cases h
theorem uV {α:Type} {p:Prop} [Decidable p] {x:Option α} (hp:p):gY p x=x:=if_pos hp
theorem aI {α β:Type} {x:Option α} {f:α->Option β} {r:β} (h:x.bind f=some r):∃a,x=some a/\f a=some r:=Option.bind_eq_some_iff.1 h
theorem bool_or (b:Bool):b=true ∨ b=false:=by cases b <;> simp
def bM {α:Type} (l:List α) (i:Int):Option α:=if 0<=i then l[i.toNat]? else none
theorem bZ {α:Type} {l:List α} {i:Int} {x:α} (h:bM l i=some x):0<=i/\i<l.length/\l[i.toNat]? = some x:=by
 unfold bM at h
 split at h
 ·rename_i h0;obtain ⟨h1,_⟩:=uG.1 h;exact ⟨h0,by omega,h⟩
 ·cases h
theorem NT {α:Type} {l:List α} {i:Nat}:bM l (i:Int)=l[i]? := by
 unfold bM;rw [if_pos (by omega),CS]
theorem ite_t {α:Type} {b:Bool} {x y:α} {r:α} (hb:b=true) (h:(if b=true then x else y)=r):x=r:=by rw [hb] at h;exact h
theorem ite_f {α:Type} {b:Bool} {x y:α} {r:α} (hb:b=false) (h:(if b=true then x else y)=r):y=r:=by rw [hb] at h;exact h
theorem bU {α:Type} {x y:α} (h:some x=some y):x=y:=by injection h
section
variable {P:Program} {N:Nat} {π:Pa} {k:Nat} {E:dD} {m:M} {Q:Exit->Nat->dD->M->Prop} {q p:Pa} {f:FuncId} {args:List V} {R:V->M->Prop}
theorem least {p:Nat->Prop} (h:∃c,p c):∃c,p c/\∀d,p d->c<=d:=by
 obtain ⟨c,hc⟩:=h
 induction c using Nat.strongRecOn with
 | _ c ih=>
   by_cases hx:∃d,d<c/\p d
   ·obtain ⟨d,hd,hp⟩:=hx;exact ih d hd hp
   ·exact ⟨c,hc,λd hd=>Nat.le_of_not_lt λhlt=>hx ⟨d,hlt,hd⟩⟩
theorem Vu {body:Code} (EW:Nat->dD->M->Prop) (c0:Nat) (h0:EW c0 E m)
  (step:∀(i c:Nat) (E':dD) (m':M),EW c E' m'->(∀t,wr body t=false->E' t=E t)->SW P N (i::k::π) body 0 E' m' (qY (λ_ E2 m2=>∃c',c'<c/\EW c' E2 m2) λe _ E2 m2=>Q e (k+1) E2 m2)) :
  SW P N π (.loop body) k E m Q:=by
 have hμ:∀(E:dD) (m:M),∃c,(∃c',EW c' E m)->EW c E m/\∀d,EW d E m->c<=d:=by
  intro E m
  by_cases h:∃c',EW c' E m
  ·obtain ⟨c,h1,h2⟩:=least h;exact ⟨c,λ_=>⟨h1,h2⟩⟩
  ·exact ⟨0,λh'=>absurd h' h⟩
 refine So (λE m=>∃c,EW c E m) (λE m=>Classical.choose (hμ E m)) ⟨c0,h0⟩ λi E' m' hI hf=>?_;obtain ⟨h1,h2⟩:=Classical.choose_spec (hμ E' m') hI;refine yK (step i _ E' m' h1 hf) λe k2 E2 m2 h=>?_;cases e with
 | normal=>
   obtain ⟨c',hc,hI2⟩:=h;obtain ⟨h3,h4⟩:=Classical.choose_spec (hμ E2 m2) ⟨c',hI2⟩;exact ⟨⟨c',hI2⟩,Nat.lt_of_le_of_lt (h4 c' hI2) hc⟩
 | _=>exact h
theorem SC.apart {cs:List V} (hm:m.blk p=some cs) (h:¬ q <:+ p->SC P f args q m R):SC P f args q m R:=by
 intro c xs w h1 h2 h3;refine h (λhs=>?_) c xs w h1 h2 h3;have:=h1.fresh_blk (h3 p hs);rw [hm] at this;cases this
theorem pa1 (hp:¬ q <:+ p) {a:Nat}:(a::q=p)=False:=eq_false λh=>hp (h ▸ gE tO)
theorem pa3 (hp:¬ q <:+ p) {a b c:Nat}:(a::b::c::q=p)=False:=eq_false λh=>hp (h ▸ gE (gE (gE tO)))
theorem pa5 (hp:¬ q <:+ p) {a b c d e:Nat}:(a::b::c::d::e::q=p)=False:=eq_false λh=>hp (h ▸ gE (gE (gE (gE (gE tO)))))
theorem pb1 (hp:¬ q <:+ p) {a:Nat}:(p=a::q)=False:=eq_false λh=>hp (h ▸ gE tO)
theorem pb2 (hp:¬ q <:+ p) {a b:Nat}:(p=a::b::q)=False:=eq_false λh=>hp (h ▸ gE (gE tO))
theorem pb3 (hp:¬ q <:+ p) {a b c:Nat}:(p=a::b::c::q)=False:=eq_false λh=>hp (h ▸ gE (gE (gE tO)))
theorem pb5 (hp:¬ q <:+ p) {a b c d e:Nat}:(p=a::b::c::d::e::q)=False:=eq_false λh=>hp (h ▸ gE (gE (gE (gE (gE tO)))))
@[go_sem] theorem sf1 {a:Nat}:(q <:+ a::q)=True:=eq_true (gE tO)
@[go_sem] theorem sf3 {a b c:Nat}:(q <:+ a::b::c::q)=True:=eq_true (gE (gE (gE tO)))
@[go_sem] theorem sf5 {a b c d e:Nat}:(q <:+ a::b::c::d::e::q)=True:=eq_true (gE (gE (gE (gE (gE tO)))))
end
@[go_sem] theorem byteRows_len {l:cF}:(pR l).length=l.length:=by simp [pR]
@[go_sem] theorem int0:Int.toNat 0=0:=rI rfl
attribute [go_sem] KH jQ jP rM Sy and_self
