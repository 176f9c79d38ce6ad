/-
 vB helper theorems of no one function: the equations by which a drawn region is evaluated.
-/
import Derived.Test.YtncembphlfbgoaaDoorCFA20
import Derived.Below
import Derived.Test.YtncembphlfbgoaaDoorCFBase
namespace Go.Proofs.YtncembphlfbgoaaDoor.Abs
open Go.RowKit
def dt (S:V->Prop) (C:V->Prop):Prop:=∃v,S v/\C v
@[go_sem] theorem Gt {a:V} {C:V->Prop}:dt (fun v=>a=v) C=C a:=propext ⟨fun ⟨_,h,hc⟩=>h ▸ hc,fun h=>⟨a,rfl,h⟩⟩
@[congr] theorem dt_congr {S S':V->Prop} {C:V->Prop} (h:∀v,S v=S' v):dt S C=dt S' C:=by rw [show S=S' from funext h]
def dm (S:V->M->Prop) (m:M) (C:V->M->Prop):Prop:=∃v m',S v m'/\m'.gl=m.gl/\C v m'
@[go_sem] theorem dm_eq {a:V} {b m:M} {C:V->M->Prop}:dm (fun v m'=>a=v/\b=m') m C=(b.gl=m.gl/\C a b):=propext ⟨fun ⟨_,_,⟨h1,h2⟩,hg,hc⟩=>by subst h1 h2;exact ⟨hg,hc⟩,fun ⟨hg,h⟩=>⟨a,b,⟨rfl,rfl⟩,hg,h⟩⟩
@[congr] theorem dm_congr {S S':V->M->Prop} {m:M} {C:V->M->Prop} (h:∀v m',S v m'=S' v m'):dm S m C=dm S' m C:=by rw [show S=S' from funext fun v=>funext fun m'=>h v m']
def Gu (P:Program) (f:V) (args:List V) (q:Pa) (m:M) (C:V->M->Prop):Prop:=∃v m',DN P f args q m (fun r m1=>r=v/\m1=m')/\m'.gl=m.gl/\C v m'
theorem bS {P:Program} {g:FuncId} {first captured args:List V} {q:Pa} {m m':M} {v:V} {C:V->M->Prop} (h:SC P g (first++args++captured) q m (fun r m1=>r=v/\m1=m')) (hg:m'.gl=m.gl) (hc:C v m'):Gu P (.fn (.func g) first captured) args q m C:=⟨v,m',h,hg,hc⟩
@[congr] theorem dcall_congr {P:Program} {f f':V} {as as':List V} {q:Pa} {m:M} {C:V->M->Prop} (h1:f=f') (h2:as=as'):Gu P f as q m C=Gu P f' as' q m C:=by rw [h1,h2]
def mQ (P:Program) (full:List Oper) (π:Pa) (k0:Nat) (K:Nat->dK->M->Prop) (i f:Nat) (rest:List (Nat × Nat)) (hist:List M) (E:dK) (m:M) (o:Oper):Prop:=
 match o.guard with
 | none=>dop P o.op o f ((k0+i)::π) hist E m (fun v m' hist'=>PD P full π k0 K rest hist' (eL o.dst v E) m')
 | some (j,b)=>
   match (full[j]?).bind (·.dst) with
   | none=>False
   | some d=>
     match E d with
     | .lit (.bool t)=>if t=b then dop P o.op o f ((k0+i)::π) hist E m (fun v m' hist'=>PD P full π k0 K rest hist' (eL o.dst v E) m') else PD P full π k0 K rest (if nO o.op then m::hist else hist) (eL o.dst (.lit undef) E) m
     | .lit (.tuple _)=>PD P full π k0 K rest (if nO o.op then m::hist else hist) (eL o.dst (.lit undef) E) m
     | _=>False
def Ac (os:List Oper) (i:Nat) (C:Oper->Prop):Prop:=match os[i]? with | some o=>C o | none=>False
@[go_sem] theorem nthO_zero {o:Oper} {os:List Oper} {C:Oper->Prop}:Ac (o::os) 0 C=C o:=_root_.id rfl
@[go_sem] theorem nthO_succ {o:Oper} {os:List Oper} {i:Nat} {C:Oper->Prop}:Ac (o::os) (i+1) C=Ac os i C:=by
 unfold Ac;rw [List.getElem?_cons_succ]
def CQ (P:Program) (full:List Oper) (π:Pa) (k0:Nat) (K:Nat->dK->M->Prop) (rest:List (Nat × Nat)) (hist:List M) (E:dK) (m:M) (d:Option Nat) (v:V):Prop:=PD P full π k0 K rest hist (eL d v E) m
def donM (P:Program) (full:List Oper) (π:Pa) (k0:Nat) (K:Nat->dK->M->Prop) (rest:List (Nat × Nat)) (hist:List M) (E:dK) (d:Option Nat) (v:V) (m:M):Prop:=PD P full π k0 K rest hist (eL d v E) m
def Hy (P:Program) (T:TypeId) (u:V) (hist:List M) (C:V->Prop) (v:V):Prop:=(∀m1 ∈ hist,lJ P m1 T u (fun r=>r=v))/\C v
def Hz (P:Program) (full:List Oper) (π:Pa) (k0:Nat) (K:Nat->dK->M->Prop) (i f:Nat) (rest:List (Nat × Nat)) (hist:List M) (E:dK) (m:M) (d:Option Nat) (op:Op) (ty:TypeId) (pos:String) (after:Array Edge) (b:Bool) (v:V):Prop:=
 gsel v b (mQ P full π k0 K i f rest hist E m ⟨d,op,ty,pos,after,none⟩) (PD P full π k0 K rest (if nO op then m::hist else hist) (eL d (.lit undef) E) m)
section
variable {P:Program} {full:List Oper} {π:Pa} {k0:Nat} {K:Nat->dK->M->Prop} {i f:Nat} {rest:List (Nat × Nat)} {hist:List M} {E:dK} {m:M} {d:Option Nat} {ty:TypeId} {pos:String} {after:Array Edge} {v:V}
@[go_sem] theorem pd_nil:PD P full π k0 K [] hist E m=K (k0+full.length) E m:=_root_.id rfl
@[go_sem] theorem pd_cons:PD P full π k0 K ((i,f)::rest) hist E m=Ac full i (mQ P full π k0 K i f rest hist E m):=by
 simp only [PD,Ac];cases full[i]? with
 | none=>rfl
 | some o=>rfl
@[go_sem] theorem don_at:CQ P full π k0 K rest hist E m d v=PD P full π k0 K rest hist (eL d v E) m:=_root_.id rfl
@[go_sem] theorem donM_at:donM P full π k0 K rest hist E d v m=PD P full π k0 K rest hist (eL d v E) m:=_root_.id rfl
@[go_sem] theorem donL_nil {T:TypeId} {u:V} {C:V->Prop}:Hy P T u [] C v=C v:=by simp [Hy]
@[go_sem] theorem donL_cons {T:TypeId} {u:V} {C:V->Prop} {m1:M} {hs:List M}:Hy P T u (m1::hs) C v=(lJ P m1 T u (fun r=>r=v)/\Hy P T u hs C v):=by simp [Hy,and_assoc]
@[go_sem] theorem dgon_tt {op:Op}:Hz P full π k0 K i f rest hist E m d op ty pos after true (.lit (.bool true))=mQ P full π k0 K i f rest hist E m ⟨d,op,ty,pos,after,none⟩:=_root_.id rfl
@[go_sem] theorem dgon_ff {op:Op}:Hz P full π k0 K i f rest hist E m d op ty pos after false (.lit (.bool false))=mQ P full π k0 K i f rest hist E m ⟨d,op,ty,pos,after,none⟩:=_root_.id rfl
@[go_sem] theorem dgon_tf {op:Op}:Hz P full π k0 K i f rest hist E m d op ty pos after false (.lit (.bool true))=PD P full π k0 K rest (if nO op then m::hist else hist) (eL d (.lit undef) E) m:=_root_.id rfl
@[go_sem] theorem dgon_ft {op:Op}:Hz P full π k0 K i f rest hist E m d op ty pos after true (.lit (.bool false))=PD P full π k0 K rest (if nO op then m::hist else hist) (eL d (.lit undef) E) m:=_root_.id rfl
@[go_sem] theorem dp_guard {op:Op} {j:Nat} {b:Bool}:mQ P full π k0 K i f rest hist E m ⟨d,op,ty,pos,after,some (j,b)⟩=BW full j E (Hz P full π k0 K i f rest hist E m d op ty pos after b):=by
 unfold mQ BW Hz gsel;simp only;cases (full[j]?).bind (·.dst) with
 | none=>rfl
 | some d'=>
   simp only
   generalize E d'=v
   cases v with
   | lit u=>cases u <;> rfl
   | _=>rfl
@[go_sem] theorem dp_load {T:TypeId} {x:Operand}:mQ P full π k0 K i f rest hist E m ⟨d,.load T x,ty,pos,after,none⟩=dt (fun v=>lJ P m T (ev m E x) (fun r=>r=v)) (Hy P T (ev m E x) (hist.take f) (CQ P full π k0 K rest hist E m d)):=_root_.id rfl
@[go_sem] theorem dp_alloc {T:TypeId}:mQ P full π k0 K i f rest hist E m ⟨d,.alloc T,ty,pos,after,none⟩=zY (dC P T) (fun zs=>CQ P full π k0 K rest hist E (m.set ((k0+i)::π) (zs.map V.raw0)) d (.ptr ((k0+i)::π) 0)):=by
 apply propext;show (∃vs,dC P T=some vs/\_) ↔ _;unfold zY
 constructor
 ·rintro ⟨vs,h,hc⟩;rw [h];exact hc
 ·intro h;cases hz:dC P T with
  | none=>rw [hz] at h;exact h.elim
  | some vs=>rw [hz] at h;exact ⟨vs,rfl,h⟩
@[go_sem] theorem dp_move {x:Operand}:mQ P full π k0 K i f rest hist E m ⟨d,.move x,ty,pos,after,none⟩=CQ P full π k0 K rest hist E m d (ev m E x):=Gt
@[go_sem] theorem dp_assign {x:Operand}:mQ P full π k0 K i f rest hist E m ⟨d,.assign x,ty,pos,after,none⟩=CQ P full π k0 K rest hist E m d (ev m E x):=Gt
@[go_sem] theorem dp_pick {t x y:Operand}:mQ P full π k0 K i f rest hist E m ⟨d,.pick t x y,ty,pos,after,none⟩=dt (fun v=>Cy (ev m E t) (ev m E x) (ev m E y) (fun r=>r=v)) (CQ P full π k0 K rest hist E m d):=_root_.id rfl
@[go_sem] theorem dp_build {T:TypeId} {ps:Array (Nat × Operand)}:mQ P full π k0 K i f rest hist E m ⟨d,.build T ps,ty,pos,after,none⟩=dt (fun v=>sN P T (ps.toList.map fun p=>(p.1,ev m E p.2)) (fun r=>r=v)) (CQ P full π k0 K rest hist E m d):=_root_.id rfl
@[go_sem] theorem dp_buildSlice {T:TypeId} {n:Nat} {ps:Array (Nat × Operand)}:mQ P full π k0 K i 0 rest hist E m ⟨d,.buildSlice T n ps,ty,pos,after,none⟩=dt (fun v=>lU P T n (ps.toList.map fun p=>(p.1,ev m E p.2)) (fun r=>r=v)) (CQ P full π k0 K rest hist E m d):=_root_.id rfl
@[go_sem] theorem dp_nilCheck {x:Operand}:mQ P full π k0 K i f rest hist E m ⟨d,.nilCheck x,ty,pos,after,none⟩=dt (fun v=>As (ev m E x) (fun r=>r=v)) (CQ P full π k0 K rest hist E m d):=by
 have:∀v,An P (.nilCheck x) (ev m E) (fun r=>r=v)=As (ev m E x) (fun r=>r=v):=by
  intro v;simp only [An,As]
  generalize ev m E x=u
  cases u <;> rfl
 show dt (fun v=>An P (.nilCheck x) (ev m E) (fun r=>r=v)) _=_;rw [funext this];rfl
@[go_sem] theorem dp_binOp {op:BinOp} {T T':TypeId} {x y:Operand}:mQ P full π k0 K i f rest hist E m ⟨d,.binOp op T x y T',ty,pos,after,none⟩=dt (fun v=>nK P op T x y (ev m E x) (ev m E y) (fun r=>r=v)) (CQ P full π k0 K rest hist E m d):=_root_.id rfl
@[go_sem] theorem dp_unOp {op:UnOp} {T:TypeId} {x:Operand}:mQ P full π k0 K i f rest hist E m ⟨d,.unOp op T x,ty,pos,after,none⟩=dt (fun v=>sun op (ev m E x) (fun r=>r=v)) (CQ P full π k0 K rest hist E m d):=_root_.id rfl
@[go_sem] theorem dp_convert {s t:TypeId} {x:Operand}:mQ P full π k0 K i f rest hist E m ⟨d,.convert s t x,ty,pos,after,none⟩=dt (fun v=>sC P s t (ev m E x) (fun r=>r=v)) (CQ P full π k0 K rest hist E m d):=_root_.id rfl
@[go_sem] theorem dp_slice {T:TypeId} {x:Operand} {lo hi:Option Operand}:mQ P full π k0 K i f rest hist E m ⟨d,.slice T x lo hi none,ty,pos,after,none⟩=dt (fun v=>uF P T (ev m E x) (lo.map (ev m E)) (hi.map (ev m E)) (fun r=>r=v)) (CQ P full π k0 K rest hist E m d):=_root_.id rfl
@[go_sem] theorem dp_fieldAddr {T g:Nat} {x:Operand}:mQ P full π k0 K i f rest hist E m ⟨d,.fieldAddr T x g,ty,pos,after,none⟩=dt (fun v=>oL P T g (ev m E x) (fun r=>r=v)) (CQ P full π k0 K rest hist E m d):=_root_.id rfl
@[go_sem] theorem dp_indexAddr {T:TypeId} {x y:Operand}:mQ P full π k0 K i f rest hist E m ⟨d,.indexAddr T x y,ty,pos,after,none⟩=dt (fun v=>pX P T (ev m E x) (ev m E y) (fun r=>r=v)) (CQ P full π k0 K rest hist E m d):=_root_.id rfl
@[go_sem] theorem dp_index {T:TypeId} {x y:Operand}:mQ P full π k0 K i f rest hist E m ⟨d,.index T x y,ty,pos,after,none⟩=dt (fun v=>uG P T (ev m E x) (ev m E y) (fun r=>r=v)) (CQ P full π k0 K rest hist E m d):=_root_.id rfl
@[go_sem] theorem dp_extract {t:Operand} {n:Nat}:mQ P full π k0 K i f rest hist E m ⟨d,.extract t n,ty,pos,after,none⟩=dt (fun v=>oS (ev m E t) n (fun r=>r=v)) (CQ P full π k0 K rest hist E m d):=by
 have:∀v,An P (.extract t n) (ev m E) (fun r=>r=v)=oS (ev m E t) n (fun r=>r=v):=by
  intro v;simp only [An,oS]
  generalize ev m E t=u
  cases u with
  | tup vs=>cases vs[n]? <;> rfl
  | _=>rfl
 show dt (fun v=>An P (.extract t n) (ev m E) (fun r=>r=v)) _=_;rw [funext this];rfl
@[go_sem] theorem dp_len {T:TypeId} {x:Operand}:mQ P full π k0 K i f rest hist E m ⟨d,.call ⟨.builtin .len,#[x],#[T]⟩,ty,pos,after,none⟩=dt (fun v=>BE P T (ev m E x) (fun r=>r=v)) (CQ P full π k0 K rest hist E m d):=_root_.id rfl
@[go_sem] theorem dp_min {x y:Operand} {ts:Array TypeId}:mQ P full π k0 K i f rest hist E m ⟨d,.call ⟨.builtin .min,#[x,y],ts⟩,ty,pos,after,none⟩=dt (fun v=>mH false (ev m E x) (ev m E y) (fun r=>r=v)) (CQ P full π k0 K rest hist E m d):=_root_.id rfl
@[go_sem] theorem dp_max {x y:Operand} {ts:Array TypeId}:mQ P full π k0 K i f rest hist E m ⟨d,.call ⟨.builtin .max,#[x,y],ts⟩,ty,pos,after,none⟩=dt (fun v=>mH true (ev m E x) (ev m E y) (fun r=>r=v)) (CQ P full π k0 K rest hist E m d):=_root_.id rfl
@[go_sem] theorem dp_append {t u:TypeId} {s x:Operand}:mQ P full π k0 K i f rest hist E m ⟨d,.call ⟨.builtin .append,#[s,x],#[t,u]⟩,ty,pos,after,none⟩=dm (fun v m'=>pC P ((k0+i)::π) m t u (ev m E s) (ev m E x) (fun r m1=>r=v/\m1=m')) m (donM P full π k0 K rest (m::hist) E d):=_root_.id rfl
@[go_sem] theorem dp_store {T:TypeId} {x y:Operand}:mQ P full π k0 K i f rest hist E m ⟨d,.store T x y,ty,pos,after,none⟩=dm (fun v m'=>sM P m T (ev m E x) (ev m E y) (fun m1=>.lit undef=v/\m1=m')) m (donM P full π k0 K rest (m::hist) E d):=_root_.id rfl
@[go_sem] theorem dp_call {g:Operand} {xs:Array Operand} {ts:Array TypeId}:mQ P full π k0 K i f rest hist E m ⟨d,.call ⟨.value g,xs,ts⟩,ty,pos,after,none⟩=Gu P (ev m E g) (xs.toList.map (ev m E)) ((k0+i)::π) m (donM P full π k0 K rest (m::hist) E d):=by
 have:∀v m',dF P ⟨d,.call ⟨.value g,xs,ts⟩,ty,pos,after,none⟩ ((k0+i)::π) E m (fun r m1=>r=v/\m1=m')=DN P (ev m E g) (xs.toList.map (ev m E)) ((k0+i)::π) m (fun r m1=>r=v/\m1=m'):=by
  intro v m';simp only [dF,Av,DN]
  generalize ev m E g=u
  cases u with
  | fn g _ _=>cases g <;> rfl
  | _=>rfl
 show (∃v m',dF P ⟨d,.call ⟨.value g,xs,ts⟩,ty,pos,after,none⟩ ((k0+i)::π) E m (fun r m1=>r=v/\m1=m')/\_)=_;simp only [this];rfl
end
end Go.Proofs.YtncembphlfbgoaaDoor.Abs
namespace Go.Proofs.YtncembphlfbgoaaDoor.Abs
open Go.RowKit
section
variable {P:Program} {N:Nat} {π:Pa} {k:Nat} {E:dK} {m:M} {Q:Exit->Nat->dK->M->Prop}
theorem HR {body:Code} (zL:dK->M->Prop) (μ:dK->M->Nat) (h0:zL E m)
  (step:∀(i:Nat) (E':dK) (m':M),zL E' m'->(∀t,wr body t=false->E' t=E t)->SW P N (i::k::π) body 0 E' m' (tX (fun _ E2 m2=>zL E2 m2/\μ E2 m2<μ E' m') fun e _ E2 m2=>Q e (k+1) E2 m2)) :
  SW P N π (.loop body) k E m Q:=by
 refine SW_loop zL μ h0 fun i E' m' hI hf=>GC (step i E' m' hI hf) fun e k2 E2 m2 h=>?_;cases e <;> exact h
theorem JK {x:Code} (J:dK->M->Prop) (hJ:J E m) (h:∀E' m',J E' m'->SW P N π x k E' m' Q):SW P N π x k E m Q:=h E m hJ
theorem DG {x:Code} (J:M->Prop) (hJ:J m) (h:∀m',J m'->SW P N π x k E m' Q):SW P N π x k E m Q:=h m hJ
theorem aK (q:Pa) (m:M):m.back q m=m:=by
 cases m;simp [M.back]
theorem aQ {q id:Pa} {m m':M} {vs:List V} (h:q <:+ id):m.back q (m'.set id vs)=m.back q m':=by
 have hs:q.isSuffixOf id=true:=List.isSuffixOf_iff_suffix.2 h;unfold M.back
 congr 1
 funext i
 show (if q.isSuffixOf i then m.blk i else if i=id then some vs else m'.blk i)=_
 split
 ·rfl
 ·rename_i hi;rw [if_neg (by rintro rfl;exact hi hs)]
theorem cC {q id:Pa} {m m':M} {n:Nat} {b:Bool} (h:q <:+ id):m.back q (m'.tokset id n b)=m.back q m':=by
 have hs:q.isSuffixOf id=true:=List.isSuffixOf_iff_suffix.2 h;unfold M.back
 congr 1
 funext i
 show (if q.isSuffixOf i then m.tok i else fun j=>if i=id/\j=n then b else m'.tok i j)=_
 split
 ·rfl
 ·rename_i hi
  funext j
  rw [if_neg (by rintro ⟨rfl,_⟩;exact hi hs)]
theorem cQ {q id:Pa} {m m':M} {off:Nat} (h:q <:+ id):m.back q (m'.bump id off)=m.back q m':=by
 have hs:q.isSuffixOf id=true:=List.isSuffixOf_iff_suffix.2 h;unfold M.back
 congr 1
 funext i
 show (if q.isSuffixOf i then m.ver i else fun o=>if i=id/\o=off then m'.ver i o+1 else m'.ver i o)=_
 split
 ·rfl
 ·rename_i hi
  funext j
  rw [if_neg (by rintro ⟨rfl,_⟩;exact hi hs)]
theorem oR {q:Pa}:q <:+ q:=List.suffix_refl q
theorem iJ {q p:Pa} {n:Nat} (h:q <:+ p):q <:+ (n::p):=h.trans (List.suffix_cons n p)
theorem Hw {m:M} {id:Pa} {j:Nat}:m.drop (.st (.anon id j))=m.tokset id j false:=_root_.id rfl
end
end Go.Proofs.YtncembphlfbgoaaDoor.Abs
namespace Go.Proofs.YtncembphlfbgoaaDoor.Abs
open Go.RowKit
def M.start:M:=⟨fun _=>none,fun _ _=>0,fun _ _=>false,fun _=>.top,fun _=>none⟩
def Conc.start (w:World) (G:GG):Conc:=⟨w.heap.size,fun _=>False,fun _=>none,fun _=>none,G⟩
section
variable {P:Program} {w:World} {G:GG}
theorem zD {α:Type} {x:α} {p:Prop} (h:(none:Option α)=some x):p:=by cases h
theorem DT (q:Pa):jU (Conc.start w G) q:=fun _ _=>⟨rfl,fun _=>rfl,fun _ _=>rfl,rfl⟩
theorem ints_in {c:Conc} {k:IntKind} {a:Option Addr} {cap:Nat} {zs:List Int} (hl:zs.length<=cap) (hm:cap<=maxLen) (ha:0<zs.length->∃b off,a=some ⟨b,off,none⟩) (hG:DI c.G a (zs.map (Value.int k))):CR c [.list .none (zs.map fun z=>[.lit (.int k z)])] [.slice a zs.length cap]:=by
 have hcr:∀l:List Int,CR c ((l.map fun z=>[V.lit (.int k z)]).flatten) (l.map (Value.int k)):=by
  intro l
  induction l with
  | nil=>exact .nil
  | cons z l ih=>exact .lit ih
 have:=CR.list (o:=.none) (a:=a) (cap:=cap) (c:=c) (rows:=zs.map fun z=>[V.lit (.int k z)]) (es:=zs.map (Value.int k)) (sz:=1) (vs:=[]) (cs:=[]) (hcr zs) (by intro r hr;obtain ⟨y,_,rfl⟩:=List.mem_map.1 hr;rfl) (by decide) (by simpa using hl) hm (by simpa using ha) hG (by intro u hu;obtain ⟨y,_,rfl⟩:=List.mem_map.1 hu;rfl) trivial .nil;simpa using this
end
end Go.Proofs.YtncembphlfbgoaaDoor.Abs
namespace Go.Proofs.YtncembphlfbgoaaDoor
open Go.RowKit
def rowG (x:Addr) (len:Nat) (k:IntKind) (zs:List Int):GG:=fun b o=>if b=x.block/\x.off<=o/\o<x.off+len then some (.int k (zs.getD (o - x.off) 0)) else none
theorem He (G:GG) (k:IntKind) (zs:List Int) (h:∀n ∈ zs,(Lit.int k n).wf=true):rX G (zs.map (EX.int k)) (zs.map (Value.int k)):=by
 induction zs with
 | nil=>exact .nil
 | cons z zs ih=>exact .int (h z (by simp)) (ih fun n hn=>h n (by simp [hn]))
def zW (G H:GG):GG:=fun b o=>match G b o with | some v=>some v | none=>H b o
theorem HL {w:World} {G H:GG} (h:yY w G) (k:yY w H):yY w (zW G H):=by
 intro b o v hv;unfold zW at hv
 split at hv
 ·rename_i u hu;injection hv with hv;subst hv;exact h _ _ _ hu
 ·exact k _ _ _ hv
theorem FT {G H:GG} {b o:Nat} {v:Value} (h:G b o=some v):zW G H b o=some v:=by simp [zW,h]
theorem EO {w:World} {G H:GG} (h:yY w G) (k:yY w H) {b o:Nat} {v:Value} (hv:H b o=some v):zW G H b o=some v:=by
 unfold zW
 split
 ·rename_i u hu;have h1:=h _ _ _ hu;have h2:=k _ _ _ hv;rw [h1] at h2;exact h2
 ·exact hv
theorem xF.le {G G':GG} (hle:∀b o v,G b o=some v->G' b o=some v) {es:List EX} {a:Option Addr} {len cap:Nat} (h:xF G es a len cap):xF G' es a len cap:=by
 obtain ⟨h0,hc,hm,cs,h1,ha⟩:=h;refine ⟨h0,hc,hm,cs,h1.mono hle,fun hl=>?_⟩;obtain ⟨b,off,e,h⟩:=ha hl;exact ⟨b,off,e,fun i u hu=>hle _ _ _ (h i u hu)⟩
theorem row_in {k:IntKind} {w:World} {a:Option Addr} {len cap:Nat} {zs:List Int}
  (h:(a=none/\len=0/\cap=0/\zs=[]) ∨ ∃x,a=some x/\len<=cap/\cap<=maxLen/\zs.length=cap/\(∀i,i<zs.length->w.cell? (x.add i)=some (.int k (zs.getD i 0)))/\∀n ∈ zs,(Lit.int k n).wf=true) :
  ∃G,yY w G/\xF G ((zs.take len).map (EX.int k)) a len cap/\(zs.take len).length=len/\∀n ∈ zs.take len,(Lit.int k n).wf=true:=by
 rcases h with ⟨rfl,rfl,rfl,rfl⟩ | ⟨x,rfl,hlc,hm,hz,hcell,hwf⟩
 ·exact ⟨fun _ _=>none,fun b o v h=>(by cases h),⟨rfl,Nat.le_refl _,by decide,[],.nil,fun h=>by cases h⟩,rfl,by simp⟩
 ·have hwf':∀n ∈ zs.take len,(Lit.int k n).wf=true:=fun n hn=>hwf n (List.mem_of_mem_take hn);have hlen:(zs.take len).length=len:=by rw [List.length_take];omega
  rcases Nat.eq_zero_or_pos len with h0 | h0
  ·subst h0;exact ⟨fun _ _=>none,fun b o v h=>(by cases h),⟨by simp,Nat.zero_le _,hm,[],by simpa using .nil,fun h=>by cases h⟩,rfl,by simp⟩
  ·have hsp:x=⟨x.block,x.off,none⟩:=by
    have h1:=hcell 0 (by omega);cases hs:x.spot with
    | none=>cases x;simp_all
    | some s=>
      unfold World.cell? Addr.add at h1;rw [if_pos rfl,hs] at h1
      split at h1 <;> simp at h1
   refine ⟨rowG x len k zs,fun b o v hv=>?_,⟨by simp;omega,hlc,hm,(zs.take len).map (Value.int k),He _ _ _ hwf',fun _=>⟨x.block,x.off,by rw [←hsp],fun i u hu=>?_⟩⟩,hlen,hwf'⟩
   ·unfold rowG at hv
    split at hv
    ·rename_i hb
     injection hv with hv
     subst hv;have:=hcell (o - x.off) (by omega);rw [hsp,iP] at this;rw [hb.1,←this]
     congr 2;simp;omega
    ·cases hv
   ·have hi:i<len:=by have:=(List.getElem?_eq_some_iff.1 hu).1;simp at this;omega
    unfold rowG;rw [if_pos ⟨rfl,by omega,by omega⟩];rw [show x.off+i - x.off=i by omega];rw [List.getElem?_map,List.getElem?_take_of_lt hi,List.getElem?_eq_getElem (by omega)] at hu;rw [List.getD_eq_getElem?_getD,List.getElem?_eq_getElem (by omega)];exact hu
end Go.Proofs.YtncembphlfbgoaaDoor
namespace Go.Proofs.YtncembphlfbgoaaDoor.Abs
open Go.RowKit
abbrev cD:=List UInt8
def bs (l:cD):ByteArray:=⟨l.toArray⟩
theorem zK (l:cD):(bs l).size=l.length:=by simp [bs,ByteArray.size]
theorem JA {a b:cD}:bs a=bs b ↔ a=b:=by
 constructor
 ·intro h;have:=congrArg (fun x:ByteArray=>x.data.toList) h;simpa [bs] using this
 ·rintro rfl;rfl
theorem JB (l:cD) (i:Nat) (h:i<(bs l).size):(bs l)[i]=l[i]'(by rw [zK] at h;exact h):=by
 show (bs l).data[i]=_;simp [bs]
theorem FS (l:cD) (a b:Nat):(bs l).extract a b=bs ((l.take b).drop a):=by
 apply ByteArray.ext;rw [ByteArray.data_extract];apply Array.ext';simp [bs,List.drop_take]
def lN (l:cD):List (List V):=l.map fun b=>[.lit (.int .u8 (b.toNat:Int))]
theorem DA (l:cD):gT (bs l)=lN l:=by simp [gT,lN,bs]
def sgo (o:Option UInt8) (C:V->Prop):Prop:=match o with | some c=>C (.lit (.int .u8 (c.toNat:Int))) | none=>False
section
variable {P:Program} {T:TypeId} {x y:Operand} {C:V->Prop} {m:M} {E:dK} {s t l:cD} {k:IntKind} {i:Int} {o:vB} {f:FuncId} {args:List V} {q p:Pa}
@[go_sem] theorem It {c:UInt8}:sgo (some c) C=C (.lit (.int .u8 (c.toNat:Int))):=_root_.id rfl
@[congr] theorem sgo_congr {o o':Option UInt8} (h:o=o'):sgo o C=sgo o' C:=by rw [h]
@[go_sem high] theorem ev_strb:ev m E (.const (.string ⟨l.toArray⟩))=.lit (.string (bs l)):=_root_.id rfl
@[go_sem high] theorem sbin_seqlb:nK P .eql T x y (.lit (.string (bs s))) (.lit (.string (bs t))) C=C (.lit (.bool (decide (s=t)))):=by
 rw [GY];simp only [JA]
@[go_sem high] theorem sbin_sneqb:nK P .neq T x y (.lit (.string (bs s))) (.lit (.string (bs t))) C=C (.lit (.bool (decide (s ≠ t)))):=by
 have:((bs s).toList == (bs t).toList)=decide (s=t):=by
  by_cases h:s=t
  ·subst h;simp
  ·have:¬ (bs s).toList=(bs t).toList:=fun e=>h (JA.1 (rW e));simp [h,this]
 simp [nK,this]
@[go_sem high] theorem slenU_sb:DX .str (.lit (.string (bs s))) C=C (.lit (.int .i64 s.length)):=by rw [slenU_s,zK]
@[go_sem high] theorem sindexU_sb:Au P .str (.lit (.string (bs s))) (.lit (.int k i)) C=(0<=i/\sgo s[i.toNat]? C):=by
 rw [GP];apply propext;refine and_congr_right fun _=>?_
 by_cases h:i.toNat<s.length
 ·have h':i.toNat<(bs s).size:=by rw [zK];exact h
  rw [List.getElem?_eq_getElem h,It];exact ⟨fun ⟨_,hc⟩=>by rw [JB] at hc;exact hc,fun hc=>⟨h',by rw [JB];exact hc⟩⟩
 ·rw [List.getElem?_eq_none (by omega)];exact ⟨fun ⟨h',_⟩=>absurd (by rw [zK] at h';exact h') h,fun hc=>hc.elim⟩
def slB:Option Int->Option Int->cD->(V->Prop)->Prop
 | some a,some b,s,C=>0<=a/\a<=b/\b<=s.length/\C (.lit (.string (bs ((s.take b.toNat).drop a.toNat))))
 | _,_,_,_=>False
@[go_sem high] theorem slU_sb {lo hi:Option V}:Fb P .str (.lit (.string (bs s))) lo hi C=slB (iE lo 0) (iE hi s.length) s C:=by
 rw [slU_s,zK];unfold slS slB;cases iE lo 0 <;> cases iE hi s.length <;> first | rfl | (simp only [zK,FS])
@[go_sem] theorem slB_some {a b:Int}:slB (some a) (some b) s C=(0<=a/\a<=b/\b<=s.length/\C (.lit (.string (bs ((s.take b.toNat).drop a.toNat))))):=_root_.id rfl
@[go_sem high] theorem cvU_lsb {D e:TypeId}:cvU P T D (.sl e) .str (.list o (lN s)) C=(ud P e=.int .u8/\C (.lit (.string (bs s)))):=by
 rw [←DA,cvU_ls]
@[congr] theorem slB_congr {a a' b b':Option Int} {s s':cD} (h1:a=a') (h2:b=b') (h3:s=s'):slB a b s C=slB a' b' s' C:=by rw [h1,h2,h3]
theorem SC.by_ {C:V->M->Prop} {v:V} {m':M} (h:SC P f args q m (fun r m1=>r=v/\m1=m')) (hC:C v m'):SC P f args q m C:=
 h.mono fun _ _ ⟨e1,e2⟩=>by rw [e1,e2];exact hC
theorem cM {a:List V} (h:m.blk p=some a):m.set p a=m:=by
 cases m with | mk blk ver tok gl=>
 unfold M.set
 congr 1
 funext i
 show (if i=p then some a else blk i)=blk i
 split
 ·rename_i hi;rw [hi];exact h.symm
 ·rfl
theorem aW {m2:M} {a:List V} (h:¬ q <:+ p):m.back q (m2.set p a)=(m.back q m2).set p a:=by
 have hs:¬ q.isSuffixOf p=true:=fun e=>h (List.isSuffixOf_iff_suffix.1 e);unfold M.back M.set
 congr 1
 funext i
 show (if q.isSuffixOf i then m.blk i else if i=p then some a else m2.blk i)=(if i=p then some a else if q.isSuffixOf i then m.blk i else m2.blk i)
 by_cases h1:i=p
 ·subst h1;rw [if_neg hs,if_pos rfl,if_pos rfl]
 ·rw [if_neg h1,if_neg h1]
end
attribute [go_sem] List.map_cons List.map_nil List.toList_toArray Option.map_some Option.map_none List.nil_append List.append_nil List.cons_append true_and and_true List.drop_succ_cons List.drop_zero List.take_succ_cons List.take_zero List.set_cons_zero List.set_cons_succ List.length_cons List.length_nil List.length_map List.getElem?_cons_zero List.getElem?_cons_succ List.getElem?_map List.forall_mem_cons List.not_mem_nil false_implies implies_true Bool.not_true Bool.not_false beq_self_eq_true Bool.or_true Bool.true_or Bool.and_true Bool.true_and Bool.or_false Bool.false_or Bool.and_false Bool.false_and List.forall_mem_map Int.natCast_nonneg Int.toNat_natCast decide_true decide_false List.take_length
end Go.Proofs.YtncembphlfbgoaaDoor.Abs
namespace Go.Proofs.YtncembphlfbgoaaDoor.Abs
open Go.RowKit
theorem Cn {G:GG} {k:IntKind}:∀ {zs:List Int} {cs:List Value},rX G (zs.map (EX.int k)) cs->cs=zs.map (Value.int k):=by
 intro zs
 induction zs with
 | nil=>intro cs h;exact h.inv_nil
 | cons z zs ih=>
   intro cs h;obtain ⟨xs,rfl,_,h2⟩:=h.inv_int;rw [ih h2];rfl
theorem Iq {c:Conc} {k:IntKind} {a:Option Addr} {len cap:Nat} {zs:List Int} (h:xF c.G (zs.map (EX.int k)) a len cap):CR c [.list .none (zs.map fun z=>[.lit (.int k z)])] [.slice a len cap]:=by
 obtain ⟨h0,h1,h2,cs,h3,h4⟩:=h;obtain rfl:=Cn h3;rw [List.length_map] at h0;subst h0;refine ints_in h1 h2 (fun hl=>?_) (fun hl=>?_)
 ·obtain ⟨b,off,e,_⟩:=h4 hl;exact ⟨b,off,e⟩
 ·rw [List.length_map] at hl;exact h4 hl
theorem Jw {c:Conc} {a:Option Addr} {len cap:Nat} {zs:List Int} (h:xF c.G (zs.map (EX.int .u8)) a len cap) (hw:∀n ∈ zs,(Lit.int .u8 n).wf=true):CR c [.list .none (lN (zs.map fun z=>z.toNat.toUInt8))] [.slice a len cap]:=by
 have e:lN (zs.map fun z=>z.toNat.toUInt8)=zs.map fun z=>[V.lit (.int .u8 z)]:=by
  unfold lN;rw [List.map_map];refine List.map_congr_left fun z hz=>?_;have h1:=hw z hz
  have h2:0<=z/\z<256:=by
   simp [Lit.wf,IntKind.min,IntKind.max,IntKind.signed,IntKind.bits] at h1
   omega
  simp only [Function.comp]
  have h3:((z.toNat.toUInt8.toNat:Nat):Int)=z:=by
   rw [Nat.toUInt8,UInt8.toNat_ofNat'];omega
  rw [h3]
 rw [e];exact Iq h
end Go.Proofs.YtncembphlfbgoaaDoor.Abs
namespace Go.Proofs.YtncembphlfbgoaaDoor.Abs
open Go.RowKit
def kM {α:Type} (p:Prop) [Decidable p] (x:Option α):Option α:=if p then x else none
theorem cK {α:Type} {p:Prop} [Decidable p] {x:Option α} {r:α} (h:kM p x=some r):p/\x=some r:=by
 unfold kM at h
 split at h
 ·rename_i hp;exact ⟨hp,h⟩
 ·cases h
theorem Bv {α:Type} {p:Prop} [Decidable p] {x:Option α} (hp:p):kM p x=x:=if_pos hp
theorem aC {α β:Type} {x:Option α} {f:α->Option β} {r:β} (h:x.bind f=some r):∃a,x=some a/\f a=some r:=Option.bind_eq_some_iff.1 h
theorem cY (b:Bool):b=true ∨ b=false:=by cases b <;> simp
def cJ {α:Type} (l:List α) (i:Int):Option α:=if 0<=i then l[i.toNat]? else none
theorem bF {α:Type} {l:List α} {i:Int} {x:α} (h:cJ l i=some x):0<=i/\i<l.length/\l[i.toNat]? = some x:=by
 unfold cJ at h
 split at h
 ·rename_i h0;obtain ⟨h1,_⟩:=List.getElem?_eq_some_iff.1 h;exact ⟨h0,by omega,h⟩
 ·cases h
theorem bC {α:Type} {b:Bool} {x y:α} {r:α} (hb:b=true) (h:(if b=true then x else y)=r):x=r:=by rw [hb] at h;exact h
theorem bD {α:Type} {b:Bool} {x y:α} {r:α} (hb:b=false) (h:(if b=true then x else y)=r):y=r:=by rw [hb] at h;exact h
theorem aJ {α:Type} {x y:α} (h:some x=some y):x=y:=by injection h
section
variable {P:Program} {N:Nat} {π:Pa} {k:Nat} {E:dK} {m:M} {Q:Exit->Nat->dK->M->Prop} {q p:Pa} {f:FuncId} {args:List V} {R:V->M->Prop}
theorem least {p:Nat->Prop} (h:∃c,p c):∃c,p c/\∀d,p d->c<=d:=by
 obtain ⟨c,hc⟩:=h
 induction c using Nat.strongRecOn with
 | _ c ih=>
   by_cases hx:∃d,d<c/\p d
   ·obtain ⟨d,hd,hp⟩:=hx;exact ih d hd hp
   ·exact ⟨c,hc,fun d hd=>Nat.le_of_not_lt fun hlt=>hx ⟨d,hlt,hd⟩⟩
theorem JL {body:Code} (zL:Nat->dK->M->Prop) (c0:Nat) (h0:zL c0 E m)
  (step:∀(i c:Nat) (E':dK) (m':M),zL c E' m'->(∀t,wr body t=false->E' t=E t)->SW P N (i::k::π) body 0 E' m' (tX (fun _ E2 m2=>∃c',c'<c/\zL c' E2 m2) fun e _ E2 m2=>Q e (k+1) E2 m2)) :
  SW P N π (.loop body) k E m Q:=by
 have hμ:∀(E:dK) (m:M),∃c,(∃c',zL c' E m)->zL c E m/\∀d,zL d E m->c<=d:=by
  intro E m
  by_cases h:∃c',zL c' E m
  ·obtain ⟨c,h1,h2⟩:=least h;exact ⟨c,fun _=>⟨h1,h2⟩⟩
  ·exact ⟨0,fun h'=>absurd h' h⟩
 refine HR (fun E m=>∃c,zL c E m) (fun E m=>Classical.choose (hμ E m)) ⟨c0,h0⟩ fun i E' m' hI hf=>?_;obtain ⟨h1,h2⟩:=Classical.choose_spec (hμ E' m') hI;refine GC (step i _ E' m' h1 hf) fun e k2 E2 m2 h=>?_;cases e with
 | normal=>
   obtain ⟨c',hc,hI2⟩:=h;obtain ⟨h3,h4⟩:=Classical.choose_spec (hμ E2 m2) ⟨c',hI2⟩;exact ⟨⟨c',hI2⟩,Nat.lt_of_le_of_lt (h4 c' hI2) hc⟩
 | _=>exact h
theorem SC.apart {cs:List V} (hm:m.blk p=some cs) (h:¬ q <:+ p->SC P f args q m R):SC P f args q m R:=by
 intro c xs w h1 h2 h3;refine h (fun hs=>?_) c xs w h1 h2 h3;have:=h1.fresh_blk (h3 p hs);rw [hm] at this;cases this
theorem pa1 (hp:¬ q <:+ p) {a:Nat}:(a::q=p)=False:=eq_false fun h=>hp (h ▸ iJ oR)
theorem pa3 (hp:¬ q <:+ p) {a b c:Nat}:(a::b::c::q=p)=False:=eq_false fun h=>hp (h ▸ iJ (iJ (iJ oR)))
theorem pb1 (hp:¬ q <:+ p) {a:Nat}:(p=a::q)=False:=eq_false fun h=>hp (h ▸ iJ oR)
theorem pb3 (hp:¬ q <:+ p) {a b c:Nat}:(p=a::b::c::q)=False:=eq_false fun h=>hp (h ▸ iJ (iJ (iJ oR)))
@[go_sem] theorem sf1 {a:Nat}:(q <:+ a::q)=True:=eq_true (iJ oR)
@[go_sem] theorem sf2 {a b:Nat}:(q <:+ a::b::q)=True:=eq_true (iJ (iJ oR))
@[go_sem] theorem sf3 {a b c:Nat}:(q <:+ a::b::c::q)=True:=eq_true (iJ (iJ (iJ oR)))
@[go_sem] theorem sf5 {a b c d e:Nat}:(q <:+ a::b::c::d::e::q)=True:=eq_true (iJ (iJ (iJ (iJ (iJ oR)))))
end
@[go_sem] theorem byteRows_len {l:cD}:(lN l).length=l.length:=by simp [lN]
@[go_sem] theorem int0:Int.toNat 0=0:=_root_.id rfl
attribute [go_sem] Nat.zero_le Nat.zero_ne_one Nat.one_ne_zero Nat.le_refl Int.le_refl and_self
end Go.Proofs.YtncembphlfbgoaaDoor.Abs
