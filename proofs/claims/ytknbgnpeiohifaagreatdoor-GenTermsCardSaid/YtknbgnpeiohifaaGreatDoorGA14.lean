import Derived.Test.YtknbgnpeiohifaaGreatDoorGA8
set_option linter.all false
namespace Go.Proofs.YtknbgnpeiohifaaGreatDoor.Abs
open Go.RowKit
def XI (v:V) (b:Bool) (yes no:Prop):Prop:=
 match v with
 | .lit (.bool t)=>if t=b then yes else no
 | .lit (.tuple _)=>no
 | _=>False
def JA (full:List Oper) (j:Nat) (E:gE) (C:V->Prop):Prop:=
 match (full[j]?).bind (·.dst) with
 | some d=>C (E d)
 | none=>False
@[go_sem] theorem gslot_zero {os:List Oper} {d:Nat} {op:Op} {t:TypeId} {p:String} {a:Array Edge} {g:Option (Nat × Bool)} {E:gE} {C:V->Prop}:JA (⟨some d,op,t,p,a,g⟩::os) 0 E C=C (E d):=rI rfl
@[go_sem] theorem gslot_succ {o:Oper} {os:List Oper} {j:Nat} {E:gE} {C:V->Prop}:JA (o::os) (j+1) E C=JA os j E C:=rI rfl
def Sw (P:Program) (full:List Oper) (π:Pa) (K:Nat->gE->M->Prop) (os:List Oper) (k:Nat) (d:Option Nat) (E:gE) (m:M) (v:V):Prop:=mY P full π K os (k+1) (mZ d v E) m
def konM (P:Program) (full:List Oper) (π:Pa) (K:Nat->gE->M->Prop) (os:List Oper) (k:Nat) (d:Option Nat) (E:gE) (m:M):Prop:=mY P full π K os (k+1) (mZ d (.lit undef) E) m
def We (P:Program) (full:List Oper) (π:Pa) (K:Nat->gE->M->Prop) (os:List Oper) (k:Nat) (d:Option Nat) (E:gE) (v:V) (m:M):Prop:=mY P full π K os (k+1) (mZ d v E) m
def konZ (P:Program) (full:List Oper) (π:Pa) (K:Nat->gE->M->Prop) (os:List Oper) (k:Nat) (d:Option Nat) (E:gE) (m:M) (zs:List V):Prop:=mY P full π K os (k+1) (mZ d (.ptr (k::π) 0) E) (m.set (k::π) (zs.map V.raw0))
def gon (P:Program) (full:List Oper) (π:Pa) (K:Nat->gE->M->Prop) (os:List Oper) (k:Nat) (d:Option Nat) (op:Op) (ty:TypeId) (pos:String) (after:Array Edge) (b:Bool) (E:gE) (m:M) (v:V):Prop:=
 XI v b (mY P full π K (⟨d,op,ty,pos,after,none⟩::os) k E m) (mY P full π K os (k+1) (mZ d (.lit undef) E) m)
section
variable {P:Program} {full os:List Oper} {π:Pa} {K:Nat->gE->M->Prop} {k:Nat} {E:gE} {m:M} {d:Option Nat} {ty:TypeId} {pos:String} {after:Array Edge} {g:Option (Nat × Bool)} {q:Pa}
@[go_sem] theorem kon_at {v:V}:Sw P full π K os k d E m v=mY P full π K os (k+1) (mZ d v E) m:=rI rfl
@[go_sem] theorem konM_at:konM P full π K os k d E m=mY P full π K os (k+1) (mZ d (.lit undef) E) m:=rI rfl
@[go_sem] theorem konVM_at {v:V}:We P full π K os k d E v m=mY P full π K os (k+1) (mZ d v E) m:=rI rfl
@[go_sem] theorem konZ_at {zs:List V}:konZ P full π K os k d E m zs=mY P full π K os (k+1) (mZ d (.ptr (k::π) 0) E) (m.set (k::π) (zs.map V.raw0)):=rI rfl
@[go_sem] theorem gon_tt {op:Op}:gon P full π K os k d op ty pos after true E m (.lit (.bool true))=mY P full π K (⟨d,op,ty,pos,after,none⟩::os) k E m:=rI rfl
@[go_sem] theorem gon_ff {op:Op}:gon P full π K os k d op ty pos after false E m (.lit (.bool false))=mY P full π K (⟨d,op,ty,pos,after,none⟩::os) k E m:=rI rfl
@[go_sem] theorem gon_tf {op:Op}:gon P full π K os k d op ty pos after false E m (.lit (.bool true))=mY P full π K os (k+1) (mZ d (.lit undef) E) m:=rI rfl
@[go_sem] theorem gon_ft {op:Op}:gon P full π K os k d op ty pos after true E m (.lit (.bool false))=mY P full π K os (k+1) (mZ d (.lit undef) E) m:=rI rfl
@[go_sem] theorem gon_undef {op:Op} {b:Bool}:gon P full π K os k d op ty pos after b E m (.lit undef)=mY P full π K os (k+1) (mZ d (.lit undef) E) m:=rI rfl
@[go_sem] theorem pops_nil:mY P full π K [] k E m=K k E m:=rI rfl
@[go_sem] theorem pops_guard {op:Op} {j:Nat} {b:Bool}:mY P full π K (⟨d,op,ty,pos,after,some (j,b)⟩::os) k E m =
  JA full j E (gon P full π K os k d op ty pos after b E m):=by
 conv=>lhs;unfold mY
 unfold JA gon XI;simp only;cases (full[j]?).bind (·.dst) with
 | none=>rfl
 | some d'=>
   simp only
   generalize E d'=v
   cases v with
   | lit u=>cases u <;> rfl
   | _=>rfl
@[go_sem] theorem pops_move {x:Operand}:mY P full π K (⟨d,.move x,ty,pos,after,none⟩::os) k E m=mY P full π K os (k+1) (mZ d (ev m E x) E) m:=rI rfl
@[go_sem] theorem pops_assign {x:Operand}:mY P full π K (⟨d,.assign x,ty,pos,after,none⟩::os) k E m=mY P full π K os (k+1) (mZ d (ev m E x) E) m:=rI rfl
def Qz (u x y:V) (C:V->Prop):Prop:=match u with | .lit (.bool b)=>C (if b then x else y) | _=>False
@[go_sem] theorem spick_tt {x y:V} {C:V->Prop}:Qz (.lit (.bool true)) x y C=C x:=rI rfl
@[go_sem] theorem spick_ff {x y:V} {C:V->Prop}:Qz (.lit (.bool false)) x y C=C y:=rI rfl
@[go_sem] theorem pops_pick {t x y:Operand}:mY P full π K (⟨d,.pick t x y,ty,pos,after,none⟩::os) k E m=Qz (ev m E t) (ev m E x) (ev m E y) (Sw P full π K os k d E m):=rI rfl
def KP (o:Option (List V)) (C:List V->Prop):Prop:=match o with | some zs=>C zs | none=>False
@[go_sem] theorem salloc_some {zs:List V} {C:List V->Prop}:KP (some zs) C=C zs:=rI rfl
@[go_sem] theorem pops_alloc {T:TypeId}:mY P full π K (⟨d,.alloc T,ty,pos,after,none⟩::os) k E m=KP (cZ P T) (konZ P full π K os k d E m):=by
 conv=>lhs;unfold mY
 simp only [jF,KP];cases cZ P T <;> rfl
@[go_sem] theorem pops_box {T:TypeId} {x:Operand}:mY P full π K (⟨d,.box T x,ty,pos,after,none⟩::os) k E m=((ev m E x).cellsOk=true/\mY P full π K os (k+1) (mZ d (.ptr (k::π) 0) E) (m.set (k::π) ((ev m E x).cells.map V.raw0))):=rI rfl
@[go_sem] theorem pops_build {T:TypeId} {ps:Array (Nat × Operand)}:mY P full π K (⟨d,.build T ps,ty,pos,after,none⟩::os) k E m=FO P T (ps.toList.map λp=>(p.1,ev m E p.2)) (Sw P full π K os k d E m):=rI rfl
@[go_sem] theorem YB {T:TypeId} {n:Nat} {ps:Array (Nat × Operand)}:mY P full π K (⟨d,.buildSlice T n ps,ty,pos,after,none⟩::os) k E m=tU P T n (ps.toList.map λp=>(p.1,ev m E p.2)) (Sw P full π K os k d E m):=rI rfl
@[go_sem] theorem pops_load {T:TypeId} {x:Operand}:mY P full π K (⟨d,.load T x,ty,pos,after,none⟩::os) k E m=yO P m T (ev m E x) (Sw P full π K os k d E m):=rI rfl
@[go_sem] theorem pops_store {T:TypeId} {x y:Operand}:mY P full π K (⟨d,.store T x y,ty,pos,after,none⟩::os) k E m=DY P m T (ev m E x) (ev m E y) (konM P full π K os k d E):=rI rfl
def Rw (v:V) (C:V->Prop):Prop:=match v with | .ptr id off=>C (.ptr id off) | .eptr rows i off=>C (.eptr rows i off) | .pp id off=>C (.pp id off) | _=>False
@[go_sem] theorem snil_ptr {id:Pa} {off:Nat} {C:V->Prop}:Rw (.ptr id off) C=C (.ptr id off):=rI rfl
@[go_sem] theorem snil_pp {id:Pa} {off:Nat} {C:V->Prop}:Rw (.pp id off) C=C (.pp id off):=rI rfl
@[go_sem] theorem pops_nilCheck {x:Operand}:mY P full π K (⟨d,.nilCheck x,ty,pos,after,none⟩::os) k E m=Rw (ev m E x) (Sw P full π K os k d E m):=by
 conv=>lhs;unfold mY
 simp only [jF,Rw]
 generalize ev m E x=v
 cases v <;> rfl
@[go_sem] theorem pops_binOp {op:BinOp} {T T':TypeId} {x y:Operand}:mY P full π K (⟨d,.binOp op T x y T',ty,pos,after,none⟩::os) k E m=uR P op T x y (ev m E x) (ev m E y) (Sw P full π K os k d E m):=rI rfl
@[go_sem] theorem pops_unOp {op:UnOp} {T:TypeId} {x:Operand}:mY P full π K (⟨d,.unOp op T x,ty,pos,after,none⟩::os) k E m=Zl op (ev m E x) (Sw P full π K os k d E m):=rI rfl
@[go_sem] theorem pops_convert {s t:TypeId} {x:Operand}:mY P full π K (⟨d,.convert s t x,ty,pos,after,none⟩::os) k E m=Dm P s t (ev m E x) (Sw P full π K os k d E m):=rI rfl
@[go_sem] theorem ZF {T:TypeId} {l kk:Operand}:mY P full π K (⟨d,.makeSlice T l kk,ty,pos,after,none⟩::os) k E m=Mn P (k::π) m T l (ev m E l) (ev m E kk) (We P full π K os k d E):=rI rfl
@[go_sem] theorem pops_makeFunc {f:Fn} {xs ys:Array Operand}:mY P full π K (⟨d,.makeFunc f xs ys,ty,pos,after,none⟩::os) k E m=mY P full π K os (k+1) (mZ d (.fn f (xs.toList.map (ev m E)) (ys.toList.map (ev m E))) E) m:=rI rfl
@[go_sem] theorem pops_slice {T:TypeId} {x:Operand} {lo hi:Option Operand}:mY P full π K (⟨d,.slice T x lo hi none,ty,pos,after,none⟩::os) k E m=FM P T (ev m E x) (lo.map (ev m E)) (hi.map (ev m E)) (Sw P full π K os k d E m):=rI rfl
@[go_sem] theorem ZH {T f:Nat} {x:Operand}:mY P full π K (⟨d,.fieldAddr T x f,ty,pos,after,none⟩::os) k E m=Ce P T f (ev m E x) (Sw P full π K os k d E m):=rI rfl
@[go_sem] theorem pops_field {T f:Nat} {x:Operand}:mY P full π K (⟨d,.field T x f,ty,pos,after,none⟩::os) k E m=HN P T f (ev m E x) (Sw P full π K os k d E m):=rI rfl
@[go_sem] theorem ZG {T:TypeId} {x i:Operand}:mY P full π K (⟨d,.indexAddr T x i,ty,pos,after,none⟩::os) k E m=Cd P T (ev m E x) (ev m E i) (Sw P full π K os k d E m):=rI rfl
@[go_sem] theorem pops_index {T:TypeId} {x i:Operand}:mY P full π K (⟨d,.index T x i,ty,pos,after,none⟩::os) k E m=FN P T (ev m E x) (ev m E i) (Sw P full π K os k d E m):=rI rfl
def yZ (t:V) (i:Nat) (C:V->Prop):Prop:=match t with | .tup vs=>(match vs[i]? with | some v=>C v | none=>False) | _=>False
@[go_sem] theorem sextract_0 {v:V} {vs:List V} {C:V->Prop}:yZ (.tup (v::vs)) 0 C=C v:=rI rfl
@[go_sem] theorem sextract_1 {u v:V} {vs:List V} {C:V->Prop}:yZ (.tup (u::v::vs)) 1 C=C v:=rI rfl
@[go_sem] theorem sextract_2 {t u v:V} {vs:List V} {C:V->Prop}:yZ (.tup (t::u::v::vs)) 2 C=C v:=rI rfl
@[go_sem] theorem pops_extract {t:Operand} {i:Nat}:mY P full π K (⟨d,.extract t i,ty,pos,after,none⟩::os) k E m=yZ (ev m E t) i (Sw P full π K os k d E m):=by
 conv=>lhs;unfold mY
 simp only [jF,yZ]
 generalize ev m E t=v
 cases v with
 | tup vs=>cases vs[i]? <;> rfl
 | _=>rfl
def sfn (P:Program) (f:V) (args:List V) (q:Pa) (m:M) (C:V->M->Prop):Prop:=
 match f with
 | .fn (.func g) first captured=>SC P g (first++args++captured) q m C
 | _=>False
@[go_sem] theorem sfn_fn {g:Nat} {first captured args:List V} {C:V->M->Prop}:sfn P (.fn (.func g) first captured) args q m C=SC P g (first++args++captured) q m C:=rI rfl
@[go_sem] theorem pops_call {f:Operand} {xs:Array Operand} {ts:Array TypeId}:mY P full π K (⟨d,.call ⟨.value f,xs,ts⟩,ty,pos,after,none⟩::os) k E m=sfn P (ev m E f) (xs.toList.map (ev m E)) (k::π) m (We P full π K os k d E):=by
 conv=>lhs;unfold mY
 simp only [jF,Td,sfn]
 generalize ev m E f=v
 cases v with
 | fn g _ _=>cases g <;> rfl
 | _=>rfl
@[go_sem] theorem pops_len {T:TypeId} {x:Operand}:mY P full π K (⟨d,.call ⟨.builtin .len,#[x],#[T]⟩,ty,pos,after,none⟩::os) k E m=PQ P T (ev m E x) (Sw P full π K os k d E m):=rI rfl
@[go_sem] theorem pops_min {x y:Operand} {ts:Array TypeId}:mY P full π K (⟨d,.call ⟨.builtin .min,#[x,y],ts⟩,ty,pos,after,none⟩::os) k E m=uK false (ev m E x) (ev m E y) (Sw P full π K os k d E m):=rI rfl
@[go_sem] theorem pops_max {x y:Operand} {ts:Array TypeId}:mY P full π K (⟨d,.call ⟨.builtin .max,#[x,y],ts⟩,ty,pos,after,none⟩::os) k E m=uK true (ev m E x) (ev m E y) (Sw P full π K os k d E m):=rI rfl
@[go_sem] theorem pops_append {t u:TypeId} {s x:Operand}:mY P full π K (⟨d,.call ⟨.builtin .append,#[s,x],#[t,u]⟩,ty,pos,after,none⟩::os) k E m=zX P (k::π) m t u (ev m E s) (ev m E x) (We P full π K os k d E):=rI rfl
@[go_sem] theorem ev_tmp {t:Nat}:ev m E (.tmp t)=E t:=rI rfl
@[go_sem] theorem ev_int {kk:IntKind} {n:Int}:ev m E (.const (.int kk n))=.lit (.int kk n):=rI rfl
@[go_sem] theorem ev_bool {b:Bool}:ev m E (.const (.bool b))=.lit (.bool b):=rI rfl
@[go_sem] theorem ev_nils:ev m E (.const (.slice none 0 0))=.list .exact []:=rI rfl
@[go_sem] theorem ev_func {f:Nat}:ev m E (.func f)=.fn (.func f) [] []:=rI rfl
@[go_sem] theorem ev_global {gg:Nat}:ev m E (.global gg)=m.gl gg:=rI rfl
@[go_sem] theorem putE_some {i:Nat} {v:V}:mZ (some i) v E=upd E i v:=rI rfl
@[go_sem] theorem putE_none {v:V}:mZ none v E=E:=rI rfl
@[go_sem] theorem upd_at {i j:Nat} {v:V}:upd E i v j=if j=i then v else E j:=rI rfl
@[go_sem] theorem ini_0 {v:V} {vs:List V}:XE (v::vs) 0=v:=rI rfl
@[go_sem] theorem ini_1 {u v:V} {vs:List V}:XE (u::v::vs) 1=v:=rI rfl
@[go_sem] theorem ini_2 {t u v:V} {vs:List V}:XE (t::u::v::vs) 2=v:=rI rfl
@[go_sem] theorem ini_3 {s t u v:V} {vs:List V}:XE (s::t::u::v::vs) 3=v:=rI rfl
@[go_sem] theorem ini_4 {r s t u v:V} {vs:List V}:XE (r::s::t::u::v::vs) 4=v:=rI rfl
section
variable {T:TypeId} {x y:Operand} {C:V->Prop} {kk:IntKind} {a b:Int}
@[go_sem] theorem sbin_add:uR P .add T x y (.lit (.int kk a)) (.lit (.int kk b)) C=C (.lit (.int kk (kk.wrap (a+b)))):=by simp [uR]
@[go_sem] theorem sbin_sub:uR P .sub T x y (.lit (.int kk a)) (.lit (.int kk b)) C=C (.lit (.int kk (kk.wrap (a - b)))):=by simp [uR]
@[go_sem] theorem sbin_mul:uR P .mul T x y (.lit (.int kk a)) (.lit (.int kk b)) C=C (.lit (.int kk (kk.wrap (a*b)))):=by simp [uR]
@[go_sem] theorem sbin_quo:uR P .quo T x y (.lit (.int kk a)) (.lit (.int kk b)) C=(b ≠ 0/\C (.lit (.int kk (kk.wrap (a.tdiv b))))):=by simp [uR]
@[go_sem] theorem sbin_rem:uR P .rem T x y (.lit (.int kk a)) (.lit (.int kk b)) C=(b ≠ 0/\C (.lit (.int kk (a.tmod b)))):=by simp [uR]
@[go_sem] theorem sbin_eql:uR P .eql T x y (.lit (.int kk a)) (.lit (.int kk b)) C=C (.lit (.bool (a == b))):=by simp [uR]
@[go_sem] theorem sbin_neq:uR P .neq T x y (.lit (.int kk a)) (.lit (.int kk b)) C=C (.lit (.bool (a != b))):=by simp [uR]
@[go_sem] theorem sbin_lss:uR P .lss T x y (.lit (.int kk a)) (.lit (.int kk b)) C=C (.lit (.bool (decide (a<b)))):=by simp [uR]
@[go_sem] theorem sbin_leq:uR P .leq T x y (.lit (.int kk a)) (.lit (.int kk b)) C=C (.lit (.bool (decide (a<=b)))):=by simp [uR]
@[go_sem] theorem sbin_gtr:uR P .gtr T x y (.lit (.int kk a)) (.lit (.int kk b)) C=C (.lit (.bool (decide (b<a)))):=by simp [uR]
@[go_sem] theorem sbin_geq:uR P .geq T x y (.lit (.int kk a)) (.lit (.int kk b)) C=C (.lit (.bool (decide (b<=a)))):=by simp [uR]
theorem CX {s t:ByteArray} (h:s.toList=t.toList):s=t:=by
 have h1:s.data.toList=t.data.toList:=by rw [←Go.ByteArray.toList_eq,←Go.ByteArray.toList_eq,h]
 cases s;cases t;simp at h1;simp [h1]
@[go_sem] theorem Xo {s t:ByteArray}:uR P .eql T x y (.lit (.string s)) (.lit (.string t)) C=C (.lit (.bool (decide (s=t)))):=by
 have:(s.toList == t.toList)=decide (s=t):=by
  by_cases h:s=t
  ·subst h;simp
  ·have:¬ s.toList=t.toList:=λe=>h (CX e);simp [h,this]
 simp [uR,this]
end
end
section
variable {P:Program} {C:V->Prop} {CM:V->M->Prop} {Cm:M->Prop} {Cl:List V->Prop} {m:M} {E:gE}
@[congr] theorem sbin_congr {op:BinOp} {T:TypeId} {x y:Operand} {u u' v v':V} (h1:u=u') (h2:v=v'):uR P op T x y u v C=uR P op T x y u' v' C:=by rw [h1,h2]
@[congr] theorem sun_congr {op:UnOp} {u u':V} (h1:u=u'):Zl op u C=Zl op u' C:=by rw [h1]
@[congr] theorem sload_congr {T:TypeId} {u u':V} (h1:u=u'):yO P m T u C=yO P m T u' C:=by rw [h1]
@[congr] theorem sstore_congr {T:TypeId} {u u' v v':V} (h1:u=u') (h2:v=v'):DY P m T u v Cm=DY P m T u' v' Cm:=by rw [h1,h2]
@[congr] theorem spick_congr {t t' u u' v v':V} (h0:t=t') (h1:u=u') (h2:v=v'):Qz t u v C=Qz t' u' v' C:=by rw [h0,h1,h2]
@[congr] theorem snil_congr {u u':V} (h1:u=u'):Rw u C=Rw u' C:=by rw [h1]
@[congr] theorem Zt {u u':V} {i:Nat} (h1:u=u'):yZ u i C=yZ u' i C:=by rw [h1]
@[congr] theorem sfn_congr {f f':V} {as as':List V} {q:Pa} (h1:f=f') (h2:as=as'):sfn P f as q m CM=sfn P f' as' q m CM:=by rw [h1,h2]
@[congr] theorem SC_congr {f:FuncId} {as as':List V} {q:Pa} (h2:as=as'):SC P f as q m CM=SC P f as' q m CM:=by rw [h2]
@[congr] theorem sappend_congr {q:Pa} {t u:TypeId} {s s' x x':V} (h1:s=s') (h2:x=x'):zX P q m t u s x CM=zX P q m t u s' x' CM:=by rw [h1,h2]
@[congr] theorem smake_congr {q:Pa} {T:TypeId} {u u' v v':V} (h1:u=u') (h2:v=v'):Fy P q m T u v CM=Fy P q m T u' v' CM:=by rw [h1,h2]
@[congr] theorem smakeO_congr {q:Pa} {T:TypeId} {o:Operand} {u u' v v':V} (h1:u=u') (h2:v=v'):Mn P q m T o u v CM=Mn P q m T o u' v' CM:=by rw [h1,h2]
@[congr] theorem smakeL_congr {T:TypeId} {u u' v v':V} (h1:u=u') (h2:v=v'):HJ P T u v C=HJ P T u' v' C:=by rw [h1,h2]
@[go_sem] theorem smakeO_t {q:Pa} {T:TypeId} {t:Nat} {u v:V}:Mn P q m T (.tmp t) u v CM=Fy P q m T u v CM:=rI rfl
@[congr] theorem slen_congr {T:TypeId} {u u':V} (h1:u=u'):PQ P T u C=PQ P T u' C:=by rw [h1]
@[congr] theorem sminmax_congr {b:Bool} {u u' v v':V} (h1:u=u') (h2:v=v'):uK b u v C=uK b u' v' C:=by rw [h1,h2]
@[congr] theorem sslice_congr {T:TypeId} {u u':V} {lo lo' hi hi':Option V} (h1:u=u') (h2:lo=lo') (h3:hi=hi'):FM P T u lo hi C=FM P T u' lo' hi' C:=by rw [h1,h2,h3]
@[congr] theorem sindexA_congr {T:TypeId} {u u' v v':V} (h1:u=u') (h2:v=v'):Cd P T u v C=Cd P T u' v' C:=by rw [h1,h2]
@[congr] theorem sindex_congr {T:TypeId} {u u' v v':V} (h1:u=u') (h2:v=v'):FN P T u v C=FN P T u' v' C:=by rw [h1,h2]
@[congr] theorem sfieldA_congr {T f:Nat} {u u':V} (h1:u=u'):Ce P T f u C=Ce P T f u' C:=by rw [h1]
@[congr] theorem sfield_congr {T f:Nat} {u u':V} (h1:u=u'):HN P T f u C=HN P T f u' C:=by rw [h1]
@[congr] theorem sconv_congr {s t:TypeId} {u u':V} (h1:u=u'):Dm P s t u C=Dm P s t u' C:=by rw [h1]
@[congr] theorem sbuild_congr {T:TypeId} {ps ps':List (Nat × V)} (h1:ps=ps'):FO P T ps C=FO P T ps' C:=by rw [h1]
@[congr] theorem VO {T n:Nat} {ps ps':List (Nat × V)} (h1:ps=ps'):tU P T n ps C=tU P T n ps' C:=by rw [h1]
@[congr] theorem salloc_congr {o o':Option (List V)} (h1:o=o'):KP o Cl=KP o' Cl:=by rw [h1]
end
theorem qC {P:Program} {N:Nat} {π:Pa} {k:Nat} {E:gE} {m:M} {Q:Exit->Nat->gE->M->Prop} {id:Nat} {ops:List Oper} (h:∀K:Nat->gE->M->Prop,(∀k E m,Q .normal k E m->K k E m)->mY P ops π K ops k E m):SW P N π (.region id ops.toArray false) k E m Q:=by
 refine QV ?_;simpa using h (Q .normal) (λ_ _ _ x=>x)
section
variable {P:Program} {C:V->Prop} {m:M} {E:gE} {n:Nat->gE->M->Prop} {Q:Exit->Nat->gE->M->Prop} {k i id:Nat}
@[go_sem] theorem aV:vP n Q .normal k E m=n k E m:=rI rfl
@[go_sem] theorem eH:vP n Q (.exit i) k E m=Q (.exit i) k E m:=rI rfl
@[go_sem] theorem eN:vP n Q .ret k E m=Q .ret k E m:=rI rfl
@[go_sem] theorem cR:EJ id Q .normal k E m=Q .normal k E m:=rI rfl
@[go_sem] theorem dN:EJ id Q (.exit i) k E m=if i=id then Q .normal k E m else Q (.exit i) k E m:=by
 unfold EJ;simp only;split <;> rfl
@[go_sem] theorem nE:EJ id Q .ret k E m=Q .ret k E m:=rI rfl
@[go_sem] theorem resV_tmp {t:Nat}:Mu P E m [.tmp t] C=C (E t):=rI rfl
@[go_sem] theorem resV_cell {p T:Nat}:Mu P E m [.cell p T] C=yO P m T (E p) C:=rI rfl
@[go_sem] theorem resV_tt {t u:Nat}:Mu P E m [.tmp t,.tmp u] C=C (.tup [E t,E u]):=rI rfl
@[go_sem] theorem resV_ct {p T u:Nat}:Mu P E m [.cell p T,.tmp u] C=yO P m T (E p) λv=>C (.tup [v,E u]):=rI rfl
@[go_sem] theorem resV_ttt {t u v:Nat}:Mu P E m [.tmp t,.tmp u,.tmp v] C=C (.tup [E t,E u,E v]):=rI rfl
@[go_sem] theorem resV_ctt {p T u v:Nat}:Mu P E m [.cell p T,.tmp u,.tmp v] C=yO P m T (E p) λx=>C (.tup [x,E u,E v]):=rI rfl
@[go_sem] theorem resV_nil:Mu P E m [] C=C (.tup []):=rI rfl
end
def Conc.half (c:Conc) (q:Pa) (b:Nat):Conc:={ c with ρ:=λid=>if id=q then some b else c.ρ id }
def Conc.full1 (c:Conc) (q:Pa):Conc:={ c with κ:=λs=>match s with | .cell id off v=>if id=q/\v=0 then some .full else c.κ (.cell id off v) | s=>c.κ s }
section
variable {c c':Conc} {m m':M} {w w':World}
theorem Le.half {q:Pa} {b:Nat} (hf:fO c q):Le c (c.half q b):=by
 refine ⟨rfl,λ_ h=>h,λid b' h=>?_,λ_ _ h=>h,λ_ _ _ h=>h⟩;show (if id=q then some b else c.ρ id)=some b';rw [cE]
 ·exact h
 ·rintro rfl;rw [hf.1] at h;cases h
theorem gT.half (h:gT c m w) {q:Pa} (hf:fO c q) (cs:List Value) (t:TypeId) :
  gT (c.half q w.heap.size) m (w.alloc (.cells cs.toArray t))/\qK q c m w (c.half q w.heap.size) m (w.alloc (.cells cs.toArray t))/\CZ (c.half q w.heap.size) m q:=by
 have hle:Le c (c.half q w.heap.size):=Le.half hf;have hnb:=h.fresh_blk hf;have hg:w.grownBy (w.alloc (.cells cs.toArray t)) none:=ME (KH w none) _;have h1:=h.grown hg
 have hρ:∀id,m.blk id ≠ none->(c.half q w.heap.size).ρ id=c.ρ id:=by
  intro id gG;show (if id=q then _ else c.ρ id)=_;rw [cE (by rintro rfl;exact gG hnb)]
 have hown:∀b,fN (c.half q w.heap.size) m b->fN c m b:=by
  rintro b (⟨id,gG,hr⟩ | ho)
  ·exact .inl ⟨id,gG,by rw [←hρ id gG];exact hr⟩
  ·exact .inr ho
 have hX:=gT.ext_grown q c m hg
 refine ⟨⟨h1.com,λid vs hv=>?_,λid id' b hi hi' hr hr'=>h1.inj id id' b hi hi' (by rw [←hρ id hi];exact hr) (by rw [←hρ id' hi'];exact hr'),λs b cap sz len hl hk=>?_,h1.ownInj,h1.ver,λg=>(h1.gl g).mono hle,λid hfr=>h1.ver0 id (hfr.anti hle),h1.base,λb hb=>⟨(h1.lit b hb).1,(h1.lit b hb).2.1,λho=>(h1.lit b hb).2.2 (hown b ho)⟩,λb vs hv=>?_⟩,
  ⟨hle,hX.os,hX.tape,hX.output,hX.size,hX.heap,λ_ _ _ _=>rfl,λb _ ho=>hown b ho,λid gG hfr=>?_,λid gG hb=>⟨hb.blk,hb.anon,hb.cell,hb.ver,hb.tok⟩,λ_ _ x=>x⟩,⟨hnb,hf.2.1,hf.2.2.1,(h.ver0 q hf).1,(h.ver0 q hf).2⟩⟩
 ·obtain ⟨b,ys,t',k1,k2,k3,k4,k5⟩:=h1.blk id vs hv;exact ⟨b,ys,t',by rw [hρ id (by rw [hv];simp)];exact k1,k2,k3.mono hle,k4,k5⟩
 ·obtain ⟨k1,k2,k3,k4⟩:=h1.own s b cap sz len hl hk;exact ⟨k1,k2,λid gG=>by rw [hρ id gG];exact k3 id gG,k4⟩
 ·exact (h1.hpr b vs hv).mono hle λ_ _ _ _ _ hB=>hB
 ·have hne:id ≠ q:=by rintro rfl;exact gG (Qq _)
  exact ⟨by show (if id=q then _ else c.ρ id)=none;rw [cE hne];exact hfr.1,hfr.2⟩
structure Half (n0:Nat) (c:Conc) (m:M) (w:World) (p:Pa) (vs:List V):Prop where
 fW:∃b t cs,c.ρ p=some b/\CY w b t cs/\CR c vs cs.toList/\(∀u ∈ cs.toList,u.oneCell'=true)/\NI c.G b/\¬ fN c m b/\¬ c.lit b/\n0<=b
 blank:CZ c m p
theorem Le.full1 {p:Pa} (hb:CZ c m p):Le c (c.full1 p):=by
 refine ⟨rfl,λ_ h=>h,λ_ _ h=>h,λs i h=>?_,λ_ _ _ h=>h⟩;cases s with
 | anon id j=>exact h
 | priv b=>exact h
 | cell id off v=>
   show (if id=p/\v=0 then some Sg.full else c.κ (.cell id off v))=some i;rw [cE]
   ·exact h
   ·rintro ⟨rfl,_⟩;rw [hb.cell] at h;cases h
theorem Half.promote {n0:Nat} {p:Pa} {vs:List V} (h:gT c m w) (hh:Half n0 c m w p vs) :
  gT (c.full1 p) (m.set p (vs.map V.raw0)) w/\Le c (c.full1 p)/\∀b,fN (c.full1 p) (m.set p (vs.map V.raw0)) b->fN c m b ∨ c.ρ p=some b:=by
 obtain ⟨⟨bp,t,cs,h1,h2,h3,h4,h5,h6,h7,h8⟩,h9⟩:=hh;have hle:Le c (c.full1 p):=Le.full1 h9;have hκa:∀id j,(c.full1 p).κ (.anon id j)=c.κ (.anon id j):=λ_ _=>rfl;have hκc:∀id off v,(c.full1 p).κ (.cell id off v)=if id=p/\v=0 then some .full else c.κ (.cell id off v):=λ_ _ _=>rfl;have hset:∀id,(m.set p (vs.map V.raw0)).blk id=if id=p then some (vs.map V.raw0) else m.blk id:=λ_=>rfl
 have harr:∀s b cap sz len,(c.full1 p).κ s=some (.arr b cap sz len)->c.κ s=some (.arr b cap sz len):=by
  intro s b cap sz len hk;cases s with
  | anon id j=>exact hk
  | priv b=>exact hk
  | cell id off v=>
    rw [hκc] at hk
    split at hk
    ·cases hk
    ·exact hk
 have hlive:∀s b cap sz len,gJ (m.set p (vs.map V.raw0)) s=true->c.κ s=some (.arr b cap sz len)->gJ m s=true:=by
  intro s b cap sz len hl hk;cases s with
  | anon id j=>exact hl
  | priv b=>exact hl
  | cell id off v=>
    obtain ⟨k1,xs,rows,k2,k3⟩:=vH hl;rw [hset] at k2
    split at k2
    ·rename_i e;subst e;rw [h9.cell] at hk;cases hk
    ·exact vD k1 k2 k3
 have hblk:∀id,id ≠ p->(m.set p (vs.map V.raw0)).blk id ≠ none->m.blk id ≠ none:=by
  intro id hne gG;rw [hset,cE hne] at gG;exact gG
 have hown:∀b,fN (c.full1 p) (m.set p (vs.map V.raw0)) b->fN c m b ∨ c.ρ p=some b:=by
  rintro b (⟨id,gG,hr⟩ | ⟨s,cap,sz,len,hl,hk⟩)
  ·by_cases e:id=p
   ·subst e;exact .inr hr
   ·exact .inl (.inl ⟨id,hblk id e gG,hr⟩)
  ·have k1:=harr _ _ _ _ _ hk;exact .inl (.inr ⟨s,cap,sz,len,hlive _ _ _ _ _ hl k1,k1⟩)
 have hnp:∀id,m.blk id ≠ none->c.ρ id ≠ some bp:=λid gG hr=>h6 (.inl ⟨id,gG,hr⟩);refine ⟨⟨h.com,λid xs hx=>?_,λid id' b hi hi' hr hr'=>?_,λs b cap sz len hl hk=>?_,λs s' b cap sz len cap' sz' len' hl hl' hk hk'=>?_,λid off v hb hv=>?_,λg=>(h.gl g).mono hle,λid hf=>h.ver0 id (hf.anti hle),h.base,λb hb=>⟨(h.lit b hb).1,(h.lit b hb).2.1,λho=>?_⟩,λb vs hv=>?_⟩,hle,hown⟩
 ·rw [hset] at hx
  split at hx
  ·rename_i e;subst e
   injection hx with hx
   subst hx;refine ⟨bp,cs,t,h1,h2,?_,h5,h4⟩;exact TA hle h3 (λn=>by rw [hκc,cX ⟨rfl,h9.ver n⟩])
  ·obtain ⟨b,ys,t',hr,hB,k1,k2,k3⟩:=h.blk id xs hx;exact ⟨b,ys,t',hr,hB,k1.mono hle,k2,k3⟩
 ·by_cases e1:id=p <;> by_cases e2:id'=p
  ·rw [e1,e2]
  ·subst e1;have hr1:c.ρ id=some b:=hr;rw [h1] at hr1;injection hr1 with e;subst e
   exact cM hr' (hnp id' (hblk id' e2 hi'))
  ·subst e2;have hr1:c.ρ id'=some b:=hr';rw [h1] at hr1;injection hr1 with e;subst e
   exact cM hr (hnp id (hblk id e1 hi))
  ·exact h.inj id id' b (hblk id e1 hi) (hblk id' e2 hi') hr hr'
 ·have hk0:=harr _ _ _ _ _ hk;have hl0:=hlive _ _ _ _ _ hl hk0;obtain ⟨k1,k2,k3,k4⟩:=h.own s b cap sz len hl0 hk0;refine ⟨k1,k2,λid gG hr=>?_,k4⟩
  by_cases e:id=p
  ·subst e;have hr1:c.ρ id=some b:=hr;rw [h1] at hr1;injection hr1 with e;subst e
   exact h6 (.inr ⟨s,cap,sz,len,hl0,hk0⟩)
  ·exact k3 id (hblk id e gG) hr
 ·have k1:=harr _ _ _ _ _ hk;have k2:=harr _ _ _ _ _ hk';exact h.ownInj s s' b cap sz len cap' sz' len' (hlive _ _ _ _ _ hl k1) (hlive _ _ _ _ _ hl' k2) k1 k2
 ·have hv':m.ver id off<v:=hv;rw [hκc,cE (by rintro ⟨_,rfl⟩;omega)]
  by_cases e:id=p
  ·subst e;exact h9.cell off v
  ·exact h.ver id off v (hblk id e hb) hv'
 ·rcases hown b ho with ho | ho
  ·exact (h.lit b hb).2.2 ho
  ·rw [h1] at ho;injection ho with e;subst e;exact h7 hb
 ·exact (h.hpr b vs hv).mono hle λ_ _ _ _ _ hB=>hB
theorem CZ.promote {p id:Pa} {vs:List V} (h:CZ c m id) (hne:id ≠ p):CZ (c.full1 p) (m.set p vs) id:=by
 refine ⟨?_,h.anon,λoff v=>?_,h.ver,h.tok⟩
 ·show (if id=p then _ else m.blk id)=none;rw [cE hne];exact h.blk
 ·show (if id=p/\v=0 then _ else c.κ (.cell id off v))=none;rw [cE (by rintro ⟨e,_⟩;exact hne e)];exact h.cell off v
theorem fO.promote {p id:Pa} (h:fO c id) (hne:id ≠ p):fO (c.full1 p) id:=by
 refine ⟨h.1,h.2.1,λoff v=>?_,h.2.2.2⟩;show (if id=p/\v=0 then _ else c.κ (.cell id off v))=none;rw [cE (by rintro ⟨e,_⟩;exact hne e)];exact h.2.2.1 off v
theorem qK.promote {π p:Pa} {vs:List V} {c0:Conc} {m0:M} {w0:World} (hX:qK π c0 m0 w0 c m w) (h:gT c m w) (hh:Half w0.heap.size c m w p vs) (hp:π <:+ p):qK π c0 m0 w0 (c.full1 p) (m.set p (vs.map V.raw0)) w:=by
 obtain ⟨_,k2,k3⟩:=hh.promote h;have hne:∀id,¬ π <:+ id->id ≠ p:=λid gG e=>gG (e ▸ hp);refine ⟨hX.le.trans k2,hX.os,hX.tape,hX.output,hX.size,hX.heap,hX.book,λb hb ho=>?_,λid gG hf=>(hX.fresh id gG hf).promote (hne id gG),λid gG hb=>(hX.keep id gG hb).promote (hne id gG),hX.lits⟩
 rcases k3 b ho with ho | ho
 ·exact hX.own b hb ho
 ·obtain ⟨⟨b',_,_,h1,_,_,_,_,_,_,h8⟩,_⟩:=hh;rw [h1] at ho;injection ho with e;omega
end
