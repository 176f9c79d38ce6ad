/-
 vB helper theorems of no one function: the equations by which a region is evaluated.
-/
import Derived.Test.YtncembphlfbgoaaDoorCFA8
namespace Go.Proofs.YtncembphlfbgoaaDoor.Abs
open Go.RowKit
def gsel (v:V) (b:Bool) (yes no:Prop):Prop:=
 match v with
 | .lit (.bool t)=>if t=b then yes else no
 | .lit (.tuple _)=>no
 | _=>False
def BW (full:List Oper) (j:Nat) (E:dK) (C:V->Prop):Prop:=
 match (full[j]?).bind (·.dst) with
 | some d=>C (E d)
 | none=>False
@[go_sem] theorem gslot_zero {os:List Oper} {d:Nat} {op:Op} {t:TypeId} {p:String} {a:Array Edge} {g:Option (Nat × Bool)} {E:dK} {C:V->Prop}:BW (⟨some d,op,t,p,a,g⟩::os) 0 E C=C (E d):=_root_.id rfl
@[go_sem] theorem gslot_succ {o:Oper} {os:List Oper} {j:Nat} {E:dK} {C:V->Prop}:BW (o::os) (j+1) E C=BW os j E C:=_root_.id rfl
def EB (P:Program) (full:List Oper) (π:Pa) (K:Nat->dK->M->Prop) (os:List Oper) (k:Nat) (d:Option Nat) (E:dK) (m:M) (v:V):Prop:=gL P full π K os (k+1) (eL d v E) m
def konM (P:Program) (full:List Oper) (π:Pa) (K:Nat->dK->M->Prop) (os:List Oper) (k:Nat) (d:Option Nat) (E:dK) (m:M):Prop:=gL P full π K os (k+1) (eL d (.lit undef) E) m
def Gn (P:Program) (full:List Oper) (π:Pa) (K:Nat->dK->M->Prop) (os:List Oper) (k:Nat) (d:Option Nat) (E:dK) (v:V) (m:M):Prop:=gL P full π K os (k+1) (eL d v E) m
def konZ (P:Program) (full:List Oper) (π:Pa) (K:Nat->dK->M->Prop) (os:List Oper) (k:Nat) (d:Option Nat) (E:dK) (m:M) (zs:List V):Prop:=gL P full π K os (k+1) (eL d (.ptr (k::π) 0) E) (m.set (k::π) (zs.map V.raw0))
def gon (P:Program) (full:List Oper) (π:Pa) (K:Nat->dK->M->Prop) (os:List Oper) (k:Nat) (d:Option Nat) (op:Op) (ty:TypeId) (pos:String) (after:Array Edge) (b:Bool) (E:dK) (m:M) (v:V):Prop:=
 gsel v b (gL P full π K (⟨d,op,ty,pos,after,none⟩::os) k E m) (gL P full π K os (k+1) (eL d (.lit undef) E) m)
section
variable {P:Program} {full os:List Oper} {π:Pa} {K:Nat->dK->M->Prop} {k:Nat} {E:dK} {m:M} {d:Option Nat} {ty:TypeId} {pos:String} {after:Array Edge} {g:Option (Nat × Bool)} {q:Pa}
@[go_sem] theorem kon_at {v:V}:EB P full π K os k d E m v=gL P full π K os (k+1) (eL d v E) m:=_root_.id rfl
@[go_sem] theorem konM_at:konM P full π K os k d E m=gL P full π K os (k+1) (eL d (.lit undef) E) m:=_root_.id rfl
@[go_sem] theorem konVM_at {v:V}:Gn P full π K os k d E v m=gL P full π K os (k+1) (eL d v E) m:=_root_.id rfl
@[go_sem] theorem konZ_at {zs:List V}:konZ P full π K os k d E m zs=gL P full π K os (k+1) (eL d (.ptr (k::π) 0) E) (m.set (k::π) (zs.map V.raw0)):=_root_.id rfl
@[go_sem] theorem gon_tt {op:Op}:gon P full π K os k d op ty pos after true E m (.lit (.bool true))=gL P full π K (⟨d,op,ty,pos,after,none⟩::os) k E m:=_root_.id rfl
@[go_sem] theorem gon_ff {op:Op}:gon P full π K os k d op ty pos after false E m (.lit (.bool false))=gL P full π K (⟨d,op,ty,pos,after,none⟩::os) k E m:=_root_.id rfl
@[go_sem] theorem gon_tf {op:Op}:gon P full π K os k d op ty pos after false E m (.lit (.bool true))=gL P full π K os (k+1) (eL d (.lit undef) E) m:=_root_.id rfl
@[go_sem] theorem gon_ft {op:Op}:gon P full π K os k d op ty pos after true E m (.lit (.bool false))=gL P full π K os (k+1) (eL d (.lit undef) E) m:=_root_.id rfl
@[go_sem] theorem gon_undef {op:Op} {b:Bool}:gon P full π K os k d op ty pos after b E m (.lit undef)=gL P full π K os (k+1) (eL d (.lit undef) E) m:=_root_.id rfl
@[go_sem] theorem pops_nil:gL P full π K [] k E m=K k E m:=_root_.id rfl
@[go_sem] theorem pops_guard {op:Op} {j:Nat} {b:Bool}:gL P full π K (⟨d,op,ty,pos,after,some (j,b)⟩::os) k E m =
  BW full j E (gon P full π K os k d op ty pos after b E m):=by
 conv=>lhs;unfold gL
 unfold BW gon gsel;simp only;cases (full[j]?).bind (·.dst) with
 | none=>rfl
 | some d'=>
   simp only
   generalize E d'=v
   cases v with
   | lit u=>cases u <;> rfl
   | _=>rfl
@[go_sem] theorem pops_move {x:Operand}:gL P full π K (⟨d,.move x,ty,pos,after,none⟩::os) k E m=gL P full π K os (k+1) (eL d (ev m E x) E) m:=_root_.id rfl
@[go_sem] theorem pops_assign {x:Operand}:gL P full π K (⟨d,.assign x,ty,pos,after,none⟩::os) k E m=gL P full π K os (k+1) (eL d (ev m E x) E) m:=_root_.id rfl
def Cy (u x y:V) (C:V->Prop):Prop:=match u with | .lit (.bool b)=>C (if b then x else y) | _=>False
@[go_sem] theorem spick_tt {x y:V} {C:V->Prop}:Cy (.lit (.bool true)) x y C=C x:=_root_.id rfl
@[go_sem] theorem spick_ff {x y:V} {C:V->Prop}:Cy (.lit (.bool false)) x y C=C y:=_root_.id rfl
@[go_sem] theorem pops_pick {t x y:Operand}:gL P full π K (⟨d,.pick t x y,ty,pos,after,none⟩::os) k E m=Cy (ev m E t) (ev m E x) (ev m E y) (EB P full π K os k d E m):=_root_.id rfl
def zY (o:Option (List V)) (C:List V->Prop):Prop:=match o with | some zs=>C zs | none=>False
@[go_sem] theorem salloc_some {zs:List V} {C:List V->Prop}:zY (some zs) C=C zs:=_root_.id rfl
@[go_sem] theorem pops_alloc {T:TypeId}:gL P full π K (⟨d,.alloc T,ty,pos,after,none⟩::os) k E m=zY (dC P T) (konZ P full π K os k d E m):=by
 conv=>lhs;unfold gL
 simp only [dF,zY];cases dC P T <;> rfl
@[go_sem] theorem pops_box {T:TypeId} {x:Operand}:gL P full π K (⟨d,.box T x,ty,pos,after,none⟩::os) k E m=((ev m E x).cellsOk=true/\gL P full π K os (k+1) (eL d (.ptr (k::π) 0) E) (m.set (k::π) ((ev m E x).cells.map V.raw0))):=_root_.id rfl
@[go_sem] theorem pops_build {T:TypeId} {ps:Array (Nat × Operand)}:gL P full π K (⟨d,.build T ps,ty,pos,after,none⟩::os) k E m=sN P T (ps.toList.map fun p=>(p.1,ev m E p.2)) (EB P full π K os k d E m):=_root_.id rfl
@[go_sem] theorem HZ {T:TypeId} {n:Nat} {ps:Array (Nat × Operand)}:gL P full π K (⟨d,.buildSlice T n ps,ty,pos,after,none⟩::os) k E m=lU P T n (ps.toList.map fun p=>(p.1,ev m E p.2)) (EB P full π K os k d E m):=_root_.id rfl
@[go_sem] theorem pops_load {T:TypeId} {x:Operand}:gL P full π K (⟨d,.load T x,ty,pos,after,none⟩::os) k E m=lJ P m T (ev m E x) (EB P full π K os k d E m):=_root_.id rfl
@[go_sem] theorem pops_store {T:TypeId} {x y:Operand}:gL P full π K (⟨d,.store T x y,ty,pos,after,none⟩::os) k E m=sM P m T (ev m E x) (ev m E y) (konM P full π K os k d E):=_root_.id rfl
def As (v:V) (C:V->Prop):Prop:=match v with | .ptr id off=>C (.ptr id off) | .eptr rows i off=>C (.eptr rows i off) | .pp id off=>C (.pp id off) | _=>False
@[go_sem] theorem snil_ptr {id:Pa} {off:Nat} {C:V->Prop}:As (.ptr id off) C=C (.ptr id off):=_root_.id rfl
@[go_sem] theorem snil_pp {id:Pa} {off:Nat} {C:V->Prop}:As (.pp id off) C=C (.pp id off):=_root_.id rfl
@[go_sem] theorem pops_nilCheck {x:Operand}:gL P full π K (⟨d,.nilCheck x,ty,pos,after,none⟩::os) k E m=As (ev m E x) (EB P full π K os k d E m):=by
 conv=>lhs;unfold gL
 simp only [dF,As]
 generalize ev m E x=v
 cases v <;> rfl
@[go_sem] theorem pops_binOp {op:BinOp} {T T':TypeId} {x y:Operand}:gL P full π K (⟨d,.binOp op T x y T',ty,pos,after,none⟩::os) k E m=nK P op T x y (ev m E x) (ev m E y) (EB P full π K os k d E m):=_root_.id rfl
@[go_sem] theorem pops_unOp {op:UnOp} {T:TypeId} {x:Operand}:gL P full π K (⟨d,.unOp op T x,ty,pos,after,none⟩::os) k E m=sun op (ev m E x) (EB P full π K os k d E m):=_root_.id rfl
@[go_sem] theorem pops_convert {s t:TypeId} {x:Operand}:gL P full π K (⟨d,.convert s t x,ty,pos,after,none⟩::os) k E m=sC P s t (ev m E x) (EB P full π K os k d E m):=_root_.id rfl
@[go_sem] theorem ID {T:TypeId} {l kk:Operand}:gL P full π K (⟨d,.makeSlice T l kk,ty,pos,after,none⟩::os) k E m=At P (k::π) m T (ev m E l) (ev m E kk) (Gn P full π K os k d E):=_root_.id rfl
@[go_sem] theorem pops_makeFunc {f:Fn} {xs ys:Array Operand}:gL P full π K (⟨d,.makeFunc f xs ys,ty,pos,after,none⟩::os) k E m=gL P full π K os (k+1) (eL d (.fn f (xs.toList.map (ev m E)) (ys.toList.map (ev m E))) E) m:=_root_.id rfl
@[go_sem] theorem pops_slice {T:TypeId} {x:Operand} {lo hi:Option Operand}:gL P full π K (⟨d,.slice T x lo hi none,ty,pos,after,none⟩::os) k E m=uF P T (ev m E x) (lo.map (ev m E)) (hi.map (ev m E)) (EB P full π K os k d E m):=_root_.id rfl
@[go_sem] theorem IF {T f:Nat} {x:Operand}:gL P full π K (⟨d,.fieldAddr T x f,ty,pos,after,none⟩::os) k E m=oL P T f (ev m E x) (EB P full π K os k d E m):=_root_.id rfl
@[go_sem] theorem pops_field {T f:Nat} {x:Operand}:gL P full π K (⟨d,.field T x f,ty,pos,after,none⟩::os) k E m=wG P T f (ev m E x) (EB P full π K os k d E m):=_root_.id rfl
@[go_sem] theorem IE {T:TypeId} {x i:Operand}:gL P full π K (⟨d,.indexAddr T x i,ty,pos,after,none⟩::os) k E m=pX P T (ev m E x) (ev m E i) (EB P full π K os k d E m):=_root_.id rfl
@[go_sem] theorem pops_index {T:TypeId} {x i:Operand}:gL P full π K (⟨d,.index T x i,ty,pos,after,none⟩::os) k E m=uG P T (ev m E x) (ev m E i) (EB P full π K os k d E m):=_root_.id rfl
def oS (t:V) (i:Nat) (C:V->Prop):Prop:=match t with | .tup vs=>(match vs[i]? with | some v=>C v | none=>False) | _=>False
@[go_sem] theorem sextract_0 {v:V} {vs:List V} {C:V->Prop}:oS (.tup (v::vs)) 0 C=C v:=_root_.id rfl
@[go_sem] theorem sextract_1 {u v:V} {vs:List V} {C:V->Prop}:oS (.tup (u::v::vs)) 1 C=C v:=_root_.id rfl
@[go_sem] theorem sextract_2 {t u v:V} {vs:List V} {C:V->Prop}:oS (.tup (t::u::v::vs)) 2 C=C v:=_root_.id rfl
@[go_sem] theorem pops_extract {t:Operand} {i:Nat}:gL P full π K (⟨d,.extract t i,ty,pos,after,none⟩::os) k E m=oS (ev m E t) i (EB P full π K os k d E m):=by
 conv=>lhs;unfold gL
 simp only [dF,oS]
 generalize ev m E t=v
 cases v with
 | tup vs=>cases vs[i]? <;> rfl
 | _=>rfl
def DN (P:Program) (f:V) (args:List V) (q:Pa) (m:M) (C:V->M->Prop):Prop:=
 match f with
 | .fn (.func g) first captured=>SC P g (first++args++captured) q m C
 | _=>False
@[go_sem] theorem sfn_fn {g:Nat} {first captured args:List V} {C:V->M->Prop}:DN P (.fn (.func g) first captured) args q m C=SC P g (first++args++captured) q m C:=_root_.id rfl
@[go_sem] theorem pops_call {f:Operand} {xs:Array Operand} {ts:Array TypeId}:gL P full π K (⟨d,.call ⟨.value f,xs,ts⟩,ty,pos,after,none⟩::os) k E m=DN P (ev m E f) (xs.toList.map (ev m E)) (k::π) m (Gn P full π K os k d E):=by
 conv=>lhs;unfold gL
 simp only [dF,Av,DN]
 generalize ev m E f=v
 cases v with
 | fn g _ _=>cases g <;> rfl
 | _=>rfl
@[go_sem] theorem pops_len {T:TypeId} {x:Operand}:gL P full π K (⟨d,.call ⟨.builtin .len,#[x],#[T]⟩,ty,pos,after,none⟩::os) k E m=BE P T (ev m E x) (EB P full π K os k d E m):=_root_.id rfl
@[go_sem] theorem pops_max {x y:Operand} {ts:Array TypeId}:gL P full π K (⟨d,.call ⟨.builtin .max,#[x,y],ts⟩,ty,pos,after,none⟩::os) k E m=mH true (ev m E x) (ev m E y) (EB P full π K os k d E m):=_root_.id rfl
@[go_sem] theorem pops_append {t u:TypeId} {s x:Operand}:gL P full π K (⟨d,.call ⟨.builtin .append,#[s,x],#[t,u]⟩,ty,pos,after,none⟩::os) k E m=pC P (k::π) m t u (ev m E s) (ev m E x) (Gn P full π K os k d E):=_root_.id rfl
@[go_sem] theorem ev_tmp {t:Nat}:ev m E (.tmp t)=E t:=_root_.id rfl
@[go_sem] theorem ev_int {kk:IntKind} {n:Int}:ev m E (.const (.int kk n))=.lit (.int kk n):=_root_.id rfl
@[go_sem] theorem ev_bool {b:Bool}:ev m E (.const (.bool b))=.lit (.bool b):=_root_.id rfl
@[go_sem] theorem ev_nils:ev m E (.const (.slice none 0 0))=.list .exact []:=_root_.id rfl
@[go_sem] theorem ev_func {f:Nat}:ev m E (.func f)=.fn (.func f) [] []:=_root_.id rfl
@[go_sem] theorem ev_global {gg:Nat}:ev m E (.global gg)=m.gl gg:=_root_.id rfl
@[go_sem] theorem putE_some {i:Nat} {v:V}:eL (some i) v E=zX E i v:=_root_.id rfl
@[go_sem] theorem putE_none {v:V}:eL none v E=E:=_root_.id rfl
@[go_sem] theorem upd_at {i j:Nat} {v:V}:zX E i v j=if j=i then v else E j:=_root_.id rfl
@[go_sem] theorem ini_0 {v:V} {vs:List V}:ini (v::vs) 0=v:=_root_.id rfl
@[go_sem] theorem ini_1 {u v:V} {vs:List V}:ini (u::v::vs) 1=v:=_root_.id rfl
@[go_sem] theorem ini_2 {t u v:V} {vs:List V}:ini (t::u::v::vs) 2=v:=_root_.id rfl
@[go_sem] theorem ini_3 {s t u v:V} {vs:List V}:ini (s::t::u::v::vs) 3=v:=_root_.id rfl
section
variable {T:TypeId} {x y:Operand} {C:V->Prop} {kk:IntKind} {a b:Int}
@[go_sem] theorem sbin_add:nK P .add T x y (.lit (.int kk a)) (.lit (.int kk b)) C=C (.lit (.int kk (kk.wrap (a+b)))):=by simp [nK]
@[go_sem] theorem sbin_sub:nK P .sub T x y (.lit (.int kk a)) (.lit (.int kk b)) C=C (.lit (.int kk (kk.wrap (a - b)))):=by simp [nK]
@[go_sem] theorem sbin_mul:nK P .mul T x y (.lit (.int kk a)) (.lit (.int kk b)) C=C (.lit (.int kk (kk.wrap (a*b)))):=by simp [nK]
@[go_sem] theorem sbin_rem:nK P .rem T x y (.lit (.int kk a)) (.lit (.int kk b)) C=(b ≠ 0/\C (.lit (.int kk (a.tmod b)))):=by simp [nK]
@[go_sem] theorem sbin_eql:nK P .eql T x y (.lit (.int kk a)) (.lit (.int kk b)) C=C (.lit (.bool (a == b))):=by simp [nK]
@[go_sem] theorem sbin_neq:nK P .neq T x y (.lit (.int kk a)) (.lit (.int kk b)) C=C (.lit (.bool (a != b))):=by simp [nK]
@[go_sem] theorem sbin_lss:nK P .lss T x y (.lit (.int kk a)) (.lit (.int kk b)) C=C (.lit (.bool (decide (a<b)))):=by simp [nK]
@[go_sem] theorem sbin_leq:nK P .leq T x y (.lit (.int kk a)) (.lit (.int kk b)) C=C (.lit (.bool (decide (a<=b)))):=by simp [nK]
@[go_sem] theorem sbin_gtr:nK P .gtr T x y (.lit (.int kk a)) (.lit (.int kk b)) C=C (.lit (.bool (decide (b<a)))):=by simp [nK]
@[go_sem] theorem sbin_geq:nK P .geq T x y (.lit (.int kk a)) (.lit (.int kk b)) C=C (.lit (.bool (decide (b<=a)))):=by simp [nK]
theorem rW {s t:ByteArray} (h:s.toList=t.toList):s=t:=by
 have h1:s.data.toList=t.data.toList:=by rw [←Go.ByteArray.toList_eq,←Go.ByteArray.toList_eq,h]
 cases s;cases t;simp at h1;simp [h1]
@[go_sem] theorem GY {s t:ByteArray}:nK P .eql T x y (.lit (.string s)) (.lit (.string t)) C=C (.lit (.bool (decide (s=t)))):=by
 have:(s.toList == t.toList)=decide (s=t):=by
  by_cases h:s=t
  ·subst h;simp
  ·have:¬ s.toList=t.toList:=fun e=>h (rW e);simp [h,this]
 simp [nK,this]
end
end
section
variable {P:Program} {C:V->Prop} {CM:V->M->Prop} {Cm:M->Prop} {Cl:List V->Prop} {m:M} {E:dK}
@[congr] theorem sbin_congr {op:BinOp} {T:TypeId} {x y:Operand} {u u' v v':V} (h1:u=u') (h2:v=v'):nK P op T x y u v C=nK P op T x y u' v' C:=by rw [h1,h2]
@[congr] theorem sun_congr {op:UnOp} {u u':V} (h1:u=u'):sun op u C=sun op u' C:=by rw [h1]
@[congr] theorem sload_congr {T:TypeId} {u u':V} (h1:u=u'):lJ P m T u C=lJ P m T u' C:=by rw [h1]
@[congr] theorem sstore_congr {T:TypeId} {u u' v v':V} (h1:u=u') (h2:v=v'):sM P m T u v Cm=sM P m T u' v' Cm:=by rw [h1,h2]
@[congr] theorem spick_congr {t t' u u' v v':V} (h0:t=t') (h1:u=u') (h2:v=v'):Cy t u v C=Cy t' u' v' C:=by rw [h0,h1,h2]
@[congr] theorem snil_congr {u u':V} (h1:u=u'):As u C=As u' C:=by rw [h1]
@[congr] theorem Iu {u u':V} {i:Nat} (h1:u=u'):oS u i C=oS u' i C:=by rw [h1]
@[congr] theorem sfn_congr {f f':V} {as as':List V} {q:Pa} (h1:f=f') (h2:as=as'):DN P f as q m CM=DN P f' as' q m CM:=by rw [h1,h2]
@[congr] theorem SC_congr {f:FuncId} {as as':List V} {q:Pa} (h2:as=as'):SC P f as q m CM=SC P f as' q m CM:=by rw [h2]
@[congr] theorem sappend_congr {q:Pa} {t u:TypeId} {s s' x x':V} (h1:s=s') (h2:x=x'):pC P q m t u s x CM=pC P q m t u s' x' CM:=by rw [h1,h2]
@[congr] theorem smake_congr {q:Pa} {T:TypeId} {u u' v v':V} (h1:u=u') (h2:v=v'):At P q m T u v CM=At P q m T u' v' CM:=by rw [h1,h2]
@[congr] theorem slen_congr {T:TypeId} {u u':V} (h1:u=u'):BE P T u C=BE P T u' C:=by rw [h1]
@[congr] theorem sminmax_congr {b:Bool} {u u' v v':V} (h1:u=u') (h2:v=v'):mH b u v C=mH b u' v' C:=by rw [h1,h2]
@[congr] theorem sslice_congr {T:TypeId} {u u':V} {lo lo' hi hi':Option V} (h1:u=u') (h2:lo=lo') (h3:hi=hi'):uF P T u lo hi C=uF P T u' lo' hi' C:=by rw [h1,h2,h3]
@[congr] theorem sindexA_congr {T:TypeId} {u u' v v':V} (h1:u=u') (h2:v=v'):pX P T u v C=pX P T u' v' C:=by rw [h1,h2]
@[congr] theorem sindex_congr {T:TypeId} {u u' v v':V} (h1:u=u') (h2:v=v'):uG P T u v C=uG P T u' v' C:=by rw [h1,h2]
@[congr] theorem sfieldA_congr {T f:Nat} {u u':V} (h1:u=u'):oL P T f u C=oL P T f u' C:=by rw [h1]
@[congr] theorem sfield_congr {T f:Nat} {u u':V} (h1:u=u'):wG P T f u C=wG P T f u' C:=by rw [h1]
@[congr] theorem sconv_congr {s t:TypeId} {u u':V} (h1:u=u'):sC P s t u C=sC P s t u' C:=by rw [h1]
@[congr] theorem sbuild_congr {T:TypeId} {ps ps':List (Nat × V)} (h1:ps=ps'):sN P T ps C=sN P T ps' C:=by rw [h1]
@[congr] theorem Gg {T n:Nat} {ps ps':List (Nat × V)} (h1:ps=ps'):lU P T n ps C=lU P T n ps' C:=by rw [h1]
@[congr] theorem salloc_congr {o o':Option (List V)} (h1:o=o'):zY o Cl=zY o' Cl:=by rw [h1]
end
theorem gF {P:Program} {N:Nat} {π:Pa} {k:Nat} {E:dK} {m:M} {Q:Exit->Nat->dK->M->Prop} {id:Nat} {ops:List Oper} (h:∀K:Nat->dK->M->Prop,(∀k E m,Q .normal k E m->K k E m)->gL P ops π K ops k E m):SW P N π (.region id ops.toArray false) k E m Q:=by
 refine HS ?_;simpa using h (Q .normal) (fun _ _ _ x=>x)
section
variable {P:Program} {C:V->Prop} {m:M} {E:dK} {n:Nat->dK->M->Prop} {Q:Exit->Nat->dK->M->Prop} {k i id:Nat}
@[go_sem] theorem aE:tX n Q .normal k E m=n k E m:=_root_.id rfl
@[go_sem] theorem bZ:tX n Q (.exit i) k E m=Q (.exit i) k E m:=_root_.id rfl
@[go_sem] theorem bE:tX n Q .ret k E m=Q .ret k E m:=_root_.id rfl
@[go_sem] theorem aT:qJ id Q .normal k E m=Q .normal k E m:=_root_.id rfl
@[go_sem] theorem bQ:qJ id Q (.exit i) k E m=if i=id then Q .normal k E m else Q (.exit i) k E m:=by
 unfold qJ;simp only;split <;> rfl
@[go_sem] theorem bX:qJ id Q .ret k E m=Q .ret k E m:=_root_.id rfl
@[go_sem] theorem resV_tmp {t:Nat}:zZ P E m [.tmp t] C=C (E t):=_root_.id rfl
@[go_sem] theorem resV_cell {p T:Nat}:zZ P E m [.cell p T] C=lJ P m T (E p) C:=_root_.id rfl
@[go_sem] theorem resV_tt {t u:Nat}:zZ P E m [.tmp t,.tmp u] C=C (.tup [E t,E u]):=_root_.id rfl
@[go_sem] theorem resV_ct {p T u:Nat}:zZ P E m [.cell p T,.tmp u] C=lJ P m T (E p) fun v=>C (.tup [v,E u]):=_root_.id rfl
@[go_sem] theorem resV_ttt {t u v:Nat}:zZ P E m [.tmp t,.tmp u,.tmp v] C=C (.tup [E t,E u,E v]):=_root_.id rfl
@[go_sem] theorem resV_ctt {p T u v:Nat}:zZ P E m [.cell p T,.tmp u,.tmp v] C=lJ P m T (E p) fun x=>C (.tup [x,E u,E v]):=_root_.id rfl
@[go_sem] theorem resV_nil:zZ P E m [] C=C (.tup []):=_root_.id rfl
end
end Go.Proofs.YtncembphlfbgoaaDoor.Abs
namespace Go.Proofs.YtncembphlfbgoaaDoor.Abs
open Go.RowKit
def Conc.half (c:Conc) (q:Pa) (b:Nat):Conc:={ c with ρ:=fun id=>if id=q then some b else c.ρ id }
def Conc.full1 (c:Conc) (q:Pa):Conc:={ c with κ:=fun s=>match s with | .cell id off v=>if id=q/\v=0 then some .full else c.κ (.cell id off v) | s=>c.κ s }
section
variable {c c':Conc} {m m':M} {w w':World}
theorem Le.half {q:Pa} {b:Nat} (hf:dO c q):Le c (c.half q b):=by
 refine ⟨rfl,fun _ h=>h,fun id b' h=>?_,fun _ _ h=>h,fun _ _ _ h=>h⟩;show (if id=q then some b else c.ρ id)=some b';rw [if_neg]
 ·exact h
 ·rintro rfl;rw [hf.1] at h;cases h
theorem dL.half (h:dL c m w) {q:Pa} (hf:dO c q) (cs:List Value) (t:TypeId) :
  dL (c.half q w.heap.size) m (w.alloc (.cells cs.toArray t))/\iG q c m w (c.half q w.heap.size) m (w.alloc (.cells cs.toArray t))/\uC (c.half q w.heap.size) m q:=by
 have hle:Le c (c.half q w.heap.size):=Le.half hf;have hnb:=h.fresh_blk hf;have hg:w.grownBy (w.alloc (.cells cs.toArray t)) none:=AQ (zV w none) _;have h1:=h.grown hg
 have hρ:∀id,m.blk id ≠ none->(c.half q w.heap.size).ρ id=c.ρ id:=by
  intro id dD;show (if id=q then _ else c.ρ id)=_;rw [if_neg (by rintro rfl;exact dD hnb)]
 have hown:∀b,fB (c.half q w.heap.size) m b->fB c m b:=by
  rintro b (⟨id,dD,hr⟩ | ho)
  ·exact .inl ⟨id,dD,by rw [←hρ id dD];exact hr⟩
  ·exact .inr ho
 have hX:=dL.ext_grown q c m hg
 refine ⟨⟨h1.com,fun id vs hv=>?_,fun id id' b hi hi' hr hr'=>h1.inj id id' b hi hi' (by rw [←hρ id hi];exact hr) (by rw [←hρ id' hi'];exact hr'),fun s b cap sz len hl hk=>?_,h1.ownInj,h1.ver,fun g=>(h1.gl g).mono hle,fun id hfr=>h1.ver0 id (hfr.anti hle),h1.base,fun b hb=>⟨(h1.lit b hb).1,(h1.lit b hb).2.1,fun ho=>(h1.lit b hb).2.2 (hown b ho)⟩,fun b vs hv=>?_⟩,
  ⟨hle,hX.os,hX.tape,hX.output,hX.size,hX.heap,fun _ _ _ _=>rfl,fun b _ ho=>hown b ho,fun id dD hfr=>?_,fun id dD hb=>⟨hb.blk,hb.anon,hb.cell,hb.ver,hb.tok⟩,fun _ _ x=>x⟩,⟨hnb,hf.2.1,hf.2.2.1,(h.ver0 q hf).1,(h.ver0 q hf).2⟩⟩
 ·obtain ⟨b,ys,t',k1,k2,k3,k4,k5⟩:=h1.blk id vs hv;exact ⟨b,ys,t',by rw [hρ id (by rw [hv];simp)];exact k1,k2,k3.mono hle,k4,k5⟩
 ·obtain ⟨k1,k2,k3,k4⟩:=h1.own s b cap sz len hl hk;exact ⟨k1,k2,fun id dD=>by rw [hρ id dD];exact k3 id dD,k4⟩
 ·exact (h1.hpr b vs hv).mono hle fun _ _ _ _ _ hB=>hB
 ·have hne:id ≠ q:=by rintro rfl;exact dD (List.suffix_refl _)
  exact ⟨by show (if id=q then _ else c.ρ id)=none;rw [if_neg hne];exact hfr.1,hfr.2⟩
structure ET (n0:Nat) (c:Conc) (m:M) (w:World) (p:Pa) (vs:List V):Prop where
 fC:∃b t cs,c.ρ p=some b/\rG w b t cs/\CR c vs cs.toList/\(∀u ∈ cs.toList,u.oneCell'=true)/\Bi c.G b/\¬ fB c m b/\¬ c.lit b/\n0<=b
 blank:uC c m p
theorem ET.step {n0:Nat} {p q:Pa} {vs:List V} (h:ET n0 c m w p vs) (hX:iG q c m w c' m' w') (hp:¬ q <:+ p):ET n0 c' m' w' p vs:=by
 obtain ⟨⟨b,t,cs,h1,h2,h3,h4,h5,h6,h7,h8⟩,h9⟩:=h;have hlt:=h2.lt;refine ⟨⟨b,t,cs,hX.le.ρ _ _ h1,(hX.heap b hlt h6 (.inr h5)).trans h2,h3.mono hX.le,h4,fun o=>?_,fun ho=>h6 (hX.own b hlt ho),fun hl=>h7 (hX.lits b hlt hl),h8⟩,hX.keep p hp h9⟩;rw [hX.book b hlt h6 o];exact h5 o
theorem Le.full1 {p:Pa} (hb:uC c m p):Le c (c.full1 p):=by
 refine ⟨rfl,fun _ h=>h,fun _ _ h=>h,fun s i h=>?_,fun _ _ _ h=>h⟩;cases s with
 | anon id j=>exact h
 | priv b=>exact h
 | cell id off v=>
   show (if id=p/\v=0 then some DK.full else c.κ (.cell id off v))=some i;rw [if_neg]
   ·exact h
   ·rintro ⟨rfl,_⟩;rw [hb.cell] at h;cases h
theorem ET.promote {n0:Nat} {p:Pa} {vs:List V} (h:dL c m w) (hh:ET n0 c m w p vs) :
  dL (c.full1 p) (m.set p (vs.map V.raw0)) w/\Le c (c.full1 p)/\∀b,fB (c.full1 p) (m.set p (vs.map V.raw0)) b->fB c m b ∨ c.ρ p=some b:=by
 obtain ⟨⟨bp,t,cs,h1,h2,h3,h4,h5,h6,h7,h8⟩,h9⟩:=hh;have hle:Le c (c.full1 p):=Le.full1 h9;have hκa:∀id j,(c.full1 p).κ (.anon id j)=c.κ (.anon id j):=fun _ _=>rfl;have hκc:∀id off v,(c.full1 p).κ (.cell id off v)=if id=p/\v=0 then some .full else c.κ (.cell id off v):=fun _ _ _=>rfl;have hset:∀id,(m.set p (vs.map V.raw0)).blk id=if id=p then some (vs.map V.raw0) else m.blk id:=fun _=>rfl
 have harr:∀s b cap sz len,(c.full1 p).κ s=some (.arr b cap sz len)->c.κ s=some (.arr b cap sz len):=by
  intro s b cap sz len hk;cases s with
  | anon id j=>exact hk
  | priv b=>exact hk
  | cell id off v=>
    rw [hκc] at hk
    split at hk
    ·cases hk
    ·exact hk
 have hlive:∀s b cap sz len,eI (m.set p (vs.map V.raw0)) s=true->c.κ s=some (.arr b cap sz len)->eI m s=true:=by
  intro s b cap sz len hl hk;cases s with
  | anon id j=>exact hl
  | priv b=>exact hl
  | cell id off v=>
    obtain ⟨k1,xs,rows,k2,k3⟩:=nE hl;rw [hset] at k2
    split at k2
    ·rename_i e;subst e;rw [h9.cell] at hk;cases hk
    ·exact mW k1 k2 k3
 have hblk:∀id,id ≠ p->(m.set p (vs.map V.raw0)).blk id ≠ none->m.blk id ≠ none:=by
  intro id hne dD;rw [hset,if_neg hne] at dD;exact dD
 have hown:∀b,fB (c.full1 p) (m.set p (vs.map V.raw0)) b->fB c m b ∨ c.ρ p=some b:=by
  rintro b (⟨id,dD,hr⟩ | ⟨s,cap,sz,len,hl,hk⟩)
  ·by_cases e:id=p
   ·subst e;exact .inr hr
   ·exact .inl (.inl ⟨id,hblk id e dD,hr⟩)
  ·have k1:=harr _ _ _ _ _ hk;exact .inl (.inr ⟨s,cap,sz,len,hlive _ _ _ _ _ hl k1,k1⟩)
 have hnp:∀id,m.blk id ≠ none->c.ρ id ≠ some bp:=fun id dD hr=>h6 (.inl ⟨id,dD,hr⟩);refine ⟨⟨h.com,fun id xs hx=>?_,fun id id' b hi hi' hr hr'=>?_,fun s b cap sz len hl hk=>?_,fun s s' b cap sz len cap' sz' len' hl hl' hk hk'=>?_,fun id off v hb hv=>?_,fun g=>(h.gl g).mono hle,fun id hf=>h.ver0 id (hf.anti hle),h.base,fun b hb=>⟨(h.lit b hb).1,(h.lit b hb).2.1,fun ho=>?_⟩,fun b vs hv=>?_⟩,hle,hown⟩
 ·rw [hset] at hx
  split at hx
  ·rename_i e;subst e
   injection hx with hx
   subst hx;refine ⟨bp,cs,t,h1,h2,?_,h5,h4⟩;exact Ez hle h3 (fun n=>by rw [hκc,if_pos ⟨rfl,h9.ver n⟩])
  ·obtain ⟨b,ys,t',hr,hB,k1,k2,k3⟩:=h.blk id xs hx;exact ⟨b,ys,t',hr,hB,k1.mono hle,k2,k3⟩
 ·by_cases e1:id=p <;> by_cases e2:id'=p
  ·rw [e1,e2]
  ·subst e1;have hr1:c.ρ id=some b:=hr;rw [h1] at hr1;injection hr1 with e;subst e
   exact absurd hr' (hnp id' (hblk id' e2 hi'))
  ·subst e2;have hr1:c.ρ id'=some b:=hr';rw [h1] at hr1;injection hr1 with e;subst e
   exact absurd hr (hnp id (hblk id e1 hi))
  ·exact h.inj id id' b (hblk id e1 hi) (hblk id' e2 hi') hr hr'
 ·have hk0:=harr _ _ _ _ _ hk;have hl0:=hlive _ _ _ _ _ hl hk0;obtain ⟨k1,k2,k3,k4⟩:=h.own s b cap sz len hl0 hk0;refine ⟨k1,k2,fun id dD hr=>?_,k4⟩
  by_cases e:id=p
  ·subst e;have hr1:c.ρ id=some b:=hr;rw [h1] at hr1;injection hr1 with e;subst e
   exact h6 (.inr ⟨s,cap,sz,len,hl0,hk0⟩)
  ·exact k3 id (hblk id e dD) hr
 ·have k1:=harr _ _ _ _ _ hk;have k2:=harr _ _ _ _ _ hk';exact h.ownInj s s' b cap sz len cap' sz' len' (hlive _ _ _ _ _ hl k1) (hlive _ _ _ _ _ hl' k2) k1 k2
 ·have hv':m.ver id off<v:=hv;rw [hκc,if_neg (by rintro ⟨_,rfl⟩;omega)]
  by_cases e:id=p
  ·subst e;exact h9.cell off v
  ·exact h.ver id off v (hblk id e hb) hv'
 ·rcases hown b ho with ho | ho
  ·exact (h.lit b hb).2.2 ho
  ·rw [h1] at ho;injection ho with e;subst e;exact h7 hb
 ·exact (h.hpr b vs hv).mono hle fun _ _ _ _ _ hB=>hB
theorem uC.promote {p id:Pa} {vs:List V} (h:uC c m id) (hne:id ≠ p):uC (c.full1 p) (m.set p vs) id:=by
 refine ⟨?_,h.anon,fun off v=>?_,h.ver,h.tok⟩
 ·show (if id=p then _ else m.blk id)=none;rw [if_neg hne];exact h.blk
 ·show (if id=p/\v=0 then _ else c.κ (.cell id off v))=none;rw [if_neg (by rintro ⟨e,_⟩;exact hne e)];exact h.cell off v
theorem dO.promote {p id:Pa} (h:dO c id) (hne:id ≠ p):dO (c.full1 p) id:=by
 refine ⟨h.1,h.2.1,fun off v=>?_,h.2.2.2⟩;show (if id=p/\v=0 then _ else c.κ (.cell id off v))=none;rw [if_neg (by rintro ⟨e,_⟩;exact hne e)];exact h.2.2.1 off v
theorem iG.promote {π p:Pa} {vs:List V} {c0:Conc} {m0:M} {w0:World} (hX:iG π c0 m0 w0 c m w) (h:dL c m w) (hh:ET w0.heap.size c m w p vs) (hp:π <:+ p):iG π c0 m0 w0 (c.full1 p) (m.set p (vs.map V.raw0)) w:=by
 obtain ⟨_,k2,k3⟩:=hh.promote h;have hne:∀id,¬ π <:+ id->id ≠ p:=fun id dD e=>dD (e ▸ hp);refine ⟨hX.le.trans k2,hX.os,hX.tape,hX.output,hX.size,hX.heap,hX.book,fun b hb ho=>?_,fun id dD hf=>(hX.fresh id dD hf).promote (hne id dD),fun id dD hb=>(hX.keep id dD hb).promote (hne id dD),hX.lits⟩
 rcases k3 b ho with ho | ho
 ·exact hX.own b hb ho
 ·obtain ⟨⟨b',_,_,h1,_,_,_,_,_,_,h8⟩,_⟩:=hh;rw [h1] at ho;injection ho with e;omega
def iD (m:M) (L:List (Pa × List V)):M:=L.foldl (fun m x=>m.set x.1 (x.2.map V.raw0)) m
structure pK (n0:Nat) (c:Conc) (m:M) (w:World) (L:List (Pa × List V)):Prop where
 all:∀x ∈ L,ET n0 c m w x.1 x.2
 inj:∀x ∈ L,∀y ∈ L,c.ρ x.1=c.ρ y.1->x.1=y.1
theorem pK.sub {n0:Nat} {L L':List (Pa × List V)} (h:pK n0 c m w L) (hs:∀x ∈ L',x ∈ L):pK n0 c m w L':=⟨fun x hx=>h.all x (hs x hx),fun x hx y hy=>h.inj x (hs x hx) y (hs y hy)⟩
theorem Br {n0:Nat} {x:Pa × List V} {L:List (Pa × List V)} (h:dL c m w) (hh:pK n0 c m w (x::L)) (hx:∀y ∈ L,y.1 ≠ x.1):pK n0 (c.full1 x.1) (m.set x.1 (x.2.map V.raw0)) w L:=by
 obtain ⟨_,k2,k3⟩:=(hh.all x (by simp)).promote h;refine ⟨fun y hy=>?_,fun y hy z hz=>hh.inj y (by simp [hy]) z (by simp [hz])⟩;obtain ⟨⟨b,t,cs,h1,h2,h3,h4,h5,h6,h7,h8⟩,h9⟩:=hh.all y (by simp [hy]);refine ⟨⟨b,t,cs,h1,h2,h3.mono k2,h4,h5,fun ho=>?_,h7,h8⟩,h9.promote (hx y hy)⟩
 rcases k3 b ho with ho | ho
 ·exact h6 ho
 ·exact hx y hy (hh.inj y (by simp [hy]) x (by simp) (by rw [h1,ho]))
theorem pK.promote {π:Pa} {c0:Conc} {m0:M} {w0:World}:∀(L:List (Pa × List V)) {R:List (Pa × List V)} {c:Conc} {m:M},dL c m w->iG π c0 m0 w0 c m w->pK w0.heap.size c m w (L++R)->(L++R).Pairwise (fun x y=>y.1 ≠ x.1)->(∀x ∈ L,π <:+ x.1) ->
  ∃c',dL c' (iD m L) w/\iG π c0 m0 w0 c' (iD m L) w/\Le c c'/\pK w0.heap.size c' (iD m L) w R/\(∀id,(∀x ∈ L,id ≠ x.1)->dO c id->dO c' id)/\c'.ρ=c.ρ:=by
 intro L
 induction L with
 | nil=>intro R c m h hX hh _ _;exact ⟨c,h,hX,.refl c,hh,fun _ _ x=>x,rfl⟩
 | cons x L ih=>
   intro R c m h hX hh hp hπ;rw [List.cons_append,List.pairwise_cons] at hp;have hhx:=hh.all x (by simp);obtain ⟨k1,k2,k3⟩:=hhx.promote h;obtain ⟨c',g1,g2,g3,g4,g5,g6⟩:=ih k1 (hX.promote h hhx (hπ x (by simp))) (Br h hh hp.1) hp.2 (fun y hy=>hπ y (by simp [hy]));exact ⟨c',g1,g2,k2.trans g3,g4,fun id dD hf=>g5 id (fun y hy=>dD y (by simp [hy])) (hf.promote (dD x (by simp))),g6⟩
end
end Go.Proofs.YtncembphlfbgoaaDoor.Abs
