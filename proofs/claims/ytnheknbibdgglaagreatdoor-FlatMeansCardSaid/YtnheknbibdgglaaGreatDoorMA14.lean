import Derived.Test.YtnheknbibdgglaaGreatDoorMA8
set_option linter.all false
namespace Go.Proofs.YtnheknbibdgglaaGreatDoor.Abs
open Go.RowKit
def RV (v:V) (b:Bool) (yes no:Prop):Prop:=
 match v with
 | .lit (.bool t)=>if t=b then yes else no
 | .lit (.tuple _)=>no
 | _=>False
def Gv (full:List Oper) (j:Nat) (E:fP) (C:V->Prop):Prop:=
 match (full[j]?).bind (·.dst) with
 | some d=>C (E d)
 | none=>False
@[go_sem] theorem gslot_zero {os:List Oper} {d:Nat} {op:Op} {t:TypeId} {p:String} {a:Array Edge} {g:Option (Nat × Bool)} {E:fP} {C:V->Prop}:Gv (⟨some d,op,t,p,a,g⟩::os) 0 E C=C (E d):=rI rfl
@[go_sem] theorem gslot_succ {o:Oper} {os:List Oper} {j:Nat} {E:fP} {C:V->Prop}:Gv (o::os) (j+1) E C=Gv os j E C:=rI rfl
def NH (P:Program) (full:List Oper) (π:Pa) (K:Nat->fP->M->Prop) (os:List Oper) (k:Nat) (d:Option Nat) (E:fP) (m:M) (v:V):Prop:=lU P full π K os (k+1) (lE d v E) m
def konM (P:Program) (full:List Oper) (π:Pa) (K:Nat->fP->M->Prop) (os:List Oper) (k:Nat) (d:Option Nat) (E:fP) (m:M):Prop:=lU P full π K os (k+1) (lE d (.lit undef) E) m
def Qr (P:Program) (full:List Oper) (π:Pa) (K:Nat->fP->M->Prop) (os:List Oper) (k:Nat) (d:Option Nat) (E:fP) (v:V) (m:M):Prop:=lU P full π K os (k+1) (lE d v E) m
def konZ (P:Program) (full:List Oper) (π:Pa) (K:Nat->fP->M->Prop) (os:List Oper) (k:Nat) (d:Option Nat) (E:fP) (m:M) (zs:List V):Prop:=lU P full π K os (k+1) (lE d (.ptr (k::π) 0) E) (m.set (k::π) (zs.map V.raw0))
def gon (P:Program) (full:List Oper) (π:Pa) (K:Nat->fP->M->Prop) (os:List Oper) (k:Nat) (d:Option Nat) (op:Op) (ty:TypeId) (pos:String) (after:Array Edge) (b:Bool) (E:fP) (m:M) (v:V):Prop:=
 RV v b (lU P full π K (⟨d,op,ty,pos,after,none⟩::os) k E m) (lU P full π K os (k+1) (lE d (.lit undef) E) m)
section
variable {P:Program} {full os:List Oper} {π:Pa} {K:Nat->fP->M->Prop} {k:Nat} {E:fP} {m:M} {d:Option Nat} {ty:TypeId} {pos:String} {after:Array Edge} {g:Option (Nat × Bool)} {q:Pa}
@[go_sem] theorem kon_at {v:V}:NH P full π K os k d E m v=lU P full π K os (k+1) (lE d v E) m:=rI rfl
@[go_sem] theorem konM_at:konM P full π K os k d E m=lU P full π K os (k+1) (lE d (.lit undef) E) m:=rI rfl
@[go_sem] theorem konVM_at {v:V}:Qr P full π K os k d E v m=lU P full π K os (k+1) (lE d v E) m:=rI rfl
@[go_sem] theorem konZ_at {zs:List V}:konZ P full π K os k d E m zs=lU P full π K os (k+1) (lE d (.ptr (k::π) 0) E) (m.set (k::π) (zs.map V.raw0)):=rI rfl
@[go_sem] theorem gon_tt {op:Op}:gon P full π K os k d op ty pos after true E m (.lit (.bool true))=lU P full π K (⟨d,op,ty,pos,after,none⟩::os) k E m:=rI rfl
@[go_sem] theorem gon_ff {op:Op}:gon P full π K os k d op ty pos after false E m (.lit (.bool false))=lU P full π K (⟨d,op,ty,pos,after,none⟩::os) k E m:=rI rfl
@[go_sem] theorem gon_tf {op:Op}:gon P full π K os k d op ty pos after false E m (.lit (.bool true))=lU P full π K os (k+1) (lE d (.lit undef) E) m:=rI rfl
@[go_sem] theorem gon_ft {op:Op}:gon P full π K os k d op ty pos after true E m (.lit (.bool false))=lU P full π K os (k+1) (lE d (.lit undef) E) m:=rI rfl
@[go_sem] theorem gon_undef {op:Op} {b:Bool}:gon P full π K os k d op ty pos after b E m (.lit undef)=lU P full π K os (k+1) (lE d (.lit undef) E) m:=rI rfl
@[go_sem] theorem pops_nil:lU P full π K [] k E m=K k E m:=rI rfl
@[go_sem] theorem pops_guard {op:Op} {j:Nat} {b:Bool}:lU P full π K (⟨d,op,ty,pos,after,some (j,b)⟩::os) k E m =
  Gv full j E (gon P full π K os k d op ty pos after b E m):=by
 conv=>lhs;unfold lU
 unfold Gv gon RV;simp only;cases (full[j]?).bind (·.dst) with
 | none=>rfl
 | some d'=>
   simp only
   generalize E d'=v
   cases v with
   | lit u=>cases u <;> rfl
   | _=>rfl
@[go_sem] theorem pops_move {x:Operand}:lU P full π K (⟨d,.move x,ty,pos,after,none⟩::os) k E m=lU P full π K os (k+1) (lE d (ev m E x) E) m:=rI rfl
@[go_sem] theorem pops_assign {x:Operand}:lU P full π K (⟨d,.assign x,ty,pos,after,none⟩::os) k E m=lU P full π K os (k+1) (lE d (ev m E x) E) m:=rI rfl
def KU (u x y:V) (C:V->Prop):Prop:=match u with | .lit (.bool b)=>C (if b then x else y) | _=>False
@[go_sem] theorem spick_tt {x y:V} {C:V->Prop}:KU (.lit (.bool true)) x y C=C x:=rI rfl
@[go_sem] theorem spick_ff {x y:V} {C:V->Prop}:KU (.lit (.bool false)) x y C=C y:=rI rfl
@[go_sem] theorem pops_pick {t x y:Operand}:lU P full π K (⟨d,.pick t x y,ty,pos,after,none⟩::os) k E m=KU (ev m E t) (ev m E x) (ev m E y) (NH P full π K os k d E m):=rI rfl
def GF (o:Option (List V)) (C:List V->Prop):Prop:=match o with | some zs=>C zs | none=>False
@[go_sem] theorem salloc_some {zs:List V} {C:List V->Prop}:GF (some zs) C=C zs:=rI rfl
@[go_sem] theorem pops_alloc {T:TypeId}:lU P full π K (⟨d,.alloc T,ty,pos,after,none⟩::os) k E m=GF (dK P T) (konZ P full π K os k d E m):=by
 conv=>lhs;unfold lU
 simp only [iH,GF];cases dK P T <;> rfl
@[go_sem] theorem pops_box {T:TypeId} {x:Operand}:lU P full π K (⟨d,.box T x,ty,pos,after,none⟩::os) k E m=((ev m E x).cellsOk=true/\lU P full π K os (k+1) (lE d (.ptr (k::π) 0) E) (m.set (k::π) ((ev m E x).cells.map V.raw0))):=rI rfl
@[go_sem] theorem pops_build {T:TypeId} {ps:Array (Nat × Operand)}:lU P full π K (⟨d,.build T ps,ty,pos,after,none⟩::os) k E m=Cr P T (ps.toList.map λp=>(p.1,ev m E p.2)) (NH P full π K os k d E m):=rI rfl
@[go_sem] theorem SV {T:TypeId} {n:Nat} {ps:Array (Nat × Operand)}:lU P full π K (⟨d,.buildSlice T n ps,ty,pos,after,none⟩::os) k E m=qR P T n (ps.toList.map λp=>(p.1,ev m E p.2)) (NH P full π K os k d E m):=rI rfl
@[go_sem] theorem pops_load {T:TypeId} {x:Operand}:lU P full π K (⟨d,.load T x,ty,pos,after,none⟩::os) k E m=uQ P m T (ev m E x) (NH P full π K os k d E m):=rI rfl
@[go_sem] theorem pops_store {T:TypeId} {x y:Operand}:lU P full π K (⟨d,.store T x y,ty,pos,after,none⟩::os) k E m=AM P m T (ev m E x) (ev m E y) (konM P full π K os k d E):=rI rfl
def LO (v:V) (C:V->Prop):Prop:=match v with | .ptr id off=>C (.ptr id off) | .eptr rows i off=>C (.eptr rows i off) | .pp id off=>C (.pp id off) | _=>False
@[go_sem] theorem snil_ptr {id:Pa} {off:Nat} {C:V->Prop}:LO (.ptr id off) C=C (.ptr id off):=rI rfl
@[go_sem] theorem snil_pp {id:Pa} {off:Nat} {C:V->Prop}:LO (.pp id off) C=C (.pp id off):=rI rfl
@[go_sem] theorem pops_nilCheck {x:Operand}:lU P full π K (⟨d,.nilCheck x,ty,pos,after,none⟩::os) k E m=LO (ev m E x) (NH P full π K os k d E m):=by
 conv=>lhs;unfold lU
 simp only [iH,LO]
 generalize ev m E x=v
 cases v <;> rfl
@[go_sem] theorem pops_binOp {op:BinOp} {T T':TypeId} {x y:Operand}:lU P full π K (⟨d,.binOp op T x y T',ty,pos,after,none⟩::os) k E m=qU P op T x y (ev m E x) (ev m E y) (NH P full π K os k d E m):=rI rfl
@[go_sem] theorem pops_unOp {op:UnOp} {T:TypeId} {x:Operand}:lU P full π K (⟨d,.unOp op T x,ty,pos,after,none⟩::os) k E m=Tz op (ev m E x) (NH P full π K os k d E m):=rI rfl
@[go_sem] theorem pops_convert {s t:TypeId} {x:Operand}:lU P full π K (⟨d,.convert s t x,ty,pos,after,none⟩::os) k E m=Ag P s t (ev m E x) (NH P full π K os k d E m):=rI rfl
@[go_sem] theorem TY {T:TypeId} {l kk:Operand}:lU P full π K (⟨d,.makeSlice T l kk,ty,pos,after,none⟩::os) k E m=HM P (k::π) m T l (ev m E l) (ev m E kk) (Qr P full π K os k d E):=rI rfl
@[go_sem] theorem pops_makeFunc {f:Fn} {xs ys:Array Operand}:lU P full π K (⟨d,.makeFunc f xs ys,ty,pos,after,none⟩::os) k E m=lU P full π K os (k+1) (lE d (.fn f (xs.toList.map (ev m E)) (ys.toList.map (ev m E))) E) m:=rI rfl
@[go_sem] theorem pops_slice {T:TypeId} {x:Operand} {lo hi:Option Operand}:lU P full π K (⟨d,.slice T x lo hi none,ty,pos,after,none⟩::os) k E m=Cp P T (ev m E x) (lo.map (ev m E)) (hi.map (ev m E)) (NH P full π K os k d E m):=rI rfl
@[go_sem] theorem Ua {T f:Nat} {x:Operand}:lU P full π K (⟨d,.fieldAddr T x f,ty,pos,after,none⟩::os) k E m=yV P T f (ev m E x) (NH P full π K os k d E m):=rI rfl
@[go_sem] theorem pops_field {T f:Nat} {x:Operand}:lU P full π K (⟨d,.field T x f,ty,pos,after,none⟩::os) k E m=DP P T f (ev m E x) (NH P full π K os k d E m):=rI rfl
@[go_sem] theorem TZ {T:TypeId} {x i:Operand}:lU P full π K (⟨d,.indexAddr T x i,ty,pos,after,none⟩::os) k E m=yU P T (ev m E x) (ev m E i) (NH P full π K os k d E m):=rI rfl
@[go_sem] theorem pops_index {T:TypeId} {x i:Operand}:lU P full π K (⟨d,.index T x i,ty,pos,after,none⟩::os) k E m=Cq P T (ev m E x) (ev m E i) (NH P full π K os k d E m):=rI rfl
def uW (t:V) (i:Nat) (C:V->Prop):Prop:=match t with | .tup vs=>(match vs[i]? with | some v=>C v | none=>False) | _=>False
@[go_sem] theorem sextract_0 {v:V} {vs:List V} {C:V->Prop}:uW (.tup (v::vs)) 0 C=C v:=rI rfl
@[go_sem] theorem sextract_1 {u v:V} {vs:List V} {C:V->Prop}:uW (.tup (u::v::vs)) 1 C=C v:=rI rfl
@[go_sem] theorem sextract_2 {t u v:V} {vs:List V} {C:V->Prop}:uW (.tup (t::u::v::vs)) 2 C=C v:=rI rfl
@[go_sem] theorem pops_extract {t:Operand} {i:Nat}:lU P full π K (⟨d,.extract t i,ty,pos,after,none⟩::os) k E m=uW (ev m E t) i (NH P full π K os k d E m):=by
 conv=>lhs;unfold lU
 simp only [iH,uW]
 generalize ev m E t=v
 cases v with
 | tup vs=>cases vs[i]? <;> rfl
 | _=>rfl
def sfn (P:Program) (f:V) (args:List V) (q:Pa) (m:M) (C:V->M->Prop):Prop:=
 match f with
 | .fn (.func g) first captured=>SC P g (first++args++captured) q m C
 | _=>False
@[go_sem] theorem sfn_fn {g:Nat} {first captured args:List V} {C:V->M->Prop}:sfn P (.fn (.func g) first captured) args q m C=SC P g (first++args++captured) q m C:=rI rfl
@[go_sem] theorem pops_call {f:Operand} {xs:Array Operand} {ts:Array TypeId}:lU P full π K (⟨d,.call ⟨.value f,xs,ts⟩,ty,pos,after,none⟩::os) k E m=sfn P (ev m E f) (xs.toList.map (ev m E)) (k::π) m (Qr P full π K os k d E):=by
 conv=>lhs;unfold lU
 simp only [iH,Nk,sfn]
 generalize ev m E f=v
 cases v with
 | fn g _ _=>cases g <;> rfl
 | _=>rfl
@[go_sem] theorem pops_len {T:TypeId} {x:Operand}:lU P full π K (⟨d,.call ⟨.builtin .len,#[x],#[T]⟩,ty,pos,after,none⟩::os) k E m=Kn P T (ev m E x) (NH P full π K os k d E m):=rI rfl
@[go_sem] theorem pops_max {x y:Operand} {ts:Array TypeId}:lU P full π K (⟨d,.call ⟨.builtin .max,#[x,y],ts⟩,ty,pos,after,none⟩::os) k E m=rQ true (ev m E x) (ev m E y) (NH P full π K os k d E m):=rI rfl
@[go_sem] theorem pops_append {t u:TypeId} {s x:Operand}:lU P full π K (⟨d,.call ⟨.builtin .append,#[s,x],#[t,u]⟩,ty,pos,after,none⟩::os) k E m=vL P (k::π) m t u (ev m E s) (ev m E x) (Qr P full π K os k d E):=rI rfl
@[go_sem] theorem ev_tmp {t:Nat}:ev m E (.tmp t)=E t:=rI rfl
@[go_sem] theorem ev_int {kk:IntKind} {n:Int}:ev m E (.const (.int kk n))=.lit (.int kk n):=rI rfl
@[go_sem] theorem ev_bool {b:Bool}:ev m E (.const (.bool b))=.lit (.bool b):=rI rfl
@[go_sem] theorem ev_nils:ev m E (.const (.slice none 0 0))=.list .exact []:=rI rfl
@[go_sem] theorem ev_nilp:ev m E (.const (.pointer none))=.lit (.pointer none):=rI rfl
@[go_sem] theorem ev_func {f:Nat}:ev m E (.func f)=.fn (.func f) [] []:=rI rfl
@[go_sem] theorem ev_global {gg:Nat}:ev m E (.global gg)=m.gl gg:=rI rfl
@[go_sem] theorem putE_some {i:Nat} {v:V}:lE (some i) v E=upd E i v:=rI rfl
@[go_sem] theorem putE_none {v:V}:lE none v E=E:=rI rfl
@[go_sem] theorem upd_at {i j:Nat} {v:V}:upd E i v j=if j=i then v else E j:=rI rfl
@[go_sem] theorem ini_0 {v:V} {vs:List V}:RS (v::vs) 0=v:=rI rfl
@[go_sem] theorem ini_1 {u v:V} {vs:List V}:RS (u::v::vs) 1=v:=rI rfl
@[go_sem] theorem ini_2 {t u v:V} {vs:List V}:RS (t::u::v::vs) 2=v:=rI rfl
@[go_sem] theorem ini_3 {s t u v:V} {vs:List V}:RS (s::t::u::v::vs) 3=v:=rI rfl
section
variable {T:TypeId} {x y:Operand} {C:V->Prop} {kk:IntKind} {a b:Int}
@[go_sem] theorem sbin_add:qU P .add T x y (.lit (.int kk a)) (.lit (.int kk b)) C=C (.lit (.int kk (kk.wrap (a+b)))):=by simp [qU]
@[go_sem] theorem sbin_sub:qU P .sub T x y (.lit (.int kk a)) (.lit (.int kk b)) C=C (.lit (.int kk (kk.wrap (a - b)))):=by simp [qU]
@[go_sem] theorem sbin_mul:qU P .mul T x y (.lit (.int kk a)) (.lit (.int kk b)) C=C (.lit (.int kk (kk.wrap (a*b)))):=by simp [qU]
@[go_sem] theorem sbin_quo:qU P .quo T x y (.lit (.int kk a)) (.lit (.int kk b)) C=(b ≠ 0/\C (.lit (.int kk (kk.wrap (a.tdiv b))))):=by simp [qU]
@[go_sem] theorem sbin_rem:qU P .rem T x y (.lit (.int kk a)) (.lit (.int kk b)) C=(b ≠ 0/\C (.lit (.int kk (a.tmod b)))):=by simp [qU]
@[go_sem] theorem sbin_eql:qU P .eql T x y (.lit (.int kk a)) (.lit (.int kk b)) C=C (.lit (.bool (a == b))):=by simp [qU]
@[go_sem] theorem sbin_neq:qU P .neq T x y (.lit (.int kk a)) (.lit (.int kk b)) C=C (.lit (.bool (a != b))):=by simp [qU]
@[go_sem] theorem sbin_lss:qU P .lss T x y (.lit (.int kk a)) (.lit (.int kk b)) C=C (.lit (.bool (decide (a<b)))):=by simp [qU]
@[go_sem] theorem sbin_leq:qU P .leq T x y (.lit (.int kk a)) (.lit (.int kk b)) C=C (.lit (.bool (decide (a<=b)))):=by simp [qU]
@[go_sem] theorem sbin_gtr:qU P .gtr T x y (.lit (.int kk a)) (.lit (.int kk b)) C=C (.lit (.bool (decide (b<a)))):=by simp [qU]
@[go_sem] theorem sbin_geq:qU P .geq T x y (.lit (.int kk a)) (.lit (.int kk b)) C=C (.lit (.bool (decide (b<=a)))):=by simp [qU]
theorem zR {s t:ByteArray} (h:s.toList=t.toList):s=t:=by
 have h1:s.data.toList=t.data.toList:=by rw [←Go.ByteArray.toList_eq,←Go.ByteArray.toList_eq,h]
 cases s;cases t;simp at h1;simp [h1]
@[go_sem] theorem Rx {s t:ByteArray}:qU P .eql T x y (.lit (.string s)) (.lit (.string t)) C=C (.lit (.bool (decide (s=t)))):=by
 have:(s.toList == t.toList)=decide (s=t):=by
  by_cases h:s=t
  ·subst h;simp
  ·have:¬ s.toList=t.toList:=λe=>h (zR e);simp [h,this]
 simp [qU,this]
end
end
section
variable {P:Program} {C:V->Prop} {CM:V->M->Prop} {Cm:M->Prop} {Cl:List V->Prop} {m:M} {E:fP}
@[congr] theorem sbin_congr {op:BinOp} {T:TypeId} {x y:Operand} {u u' v v':V} (h1:u=u') (h2:v=v'):qU P op T x y u v C=qU P op T x y u' v' C:=by rw [h1,h2]
@[congr] theorem sun_congr {op:UnOp} {u u':V} (h1:u=u'):Tz op u C=Tz op u' C:=by rw [h1]
@[congr] theorem sload_congr {T:TypeId} {u u':V} (h1:u=u'):uQ P m T u C=uQ P m T u' C:=by rw [h1]
@[congr] theorem sstore_congr {T:TypeId} {u u' v v':V} (h1:u=u') (h2:v=v'):AM P m T u v Cm=AM P m T u' v' Cm:=by rw [h1,h2]
@[congr] theorem spick_congr {t t' u u' v v':V} (h0:t=t') (h1:u=u') (h2:v=v'):KU t u v C=KU t' u' v' C:=by rw [h0,h1,h2]
@[congr] theorem snil_congr {u u':V} (h1:u=u'):LO u C=LO u' C:=by rw [h1]
@[congr] theorem TK {u u':V} {i:Nat} (h1:u=u'):uW u i C=uW u' i C:=by rw [h1]
@[congr] theorem sfn_congr {f f':V} {as as':List V} {q:Pa} (h1:f=f') (h2:as=as'):sfn P f as q m CM=sfn P f' as' q m CM:=by rw [h1,h2]
@[congr] theorem SC_congr {f:FuncId} {as as':List V} {q:Pa} (h2:as=as'):SC P f as q m CM=SC P f as' q m CM:=by rw [h2]
@[congr] theorem sappend_congr {q:Pa} {t u:TypeId} {s s' x x':V} (h1:s=s') (h2:x=x'):vL P q m t u s x CM=vL P q m t u s' x' CM:=by rw [h1,h2]
@[congr] theorem smake_congr {q:Pa} {T:TypeId} {u u' v v':V} (h1:u=u') (h2:v=v'):BX P q m T u v CM=BX P q m T u' v' CM:=by rw [h1,h2]
@[congr] theorem smakeO_congr {q:Pa} {T:TypeId} {o:Operand} {u u' v v':V} (h1:u=u') (h2:v=v'):HM P q m T o u v CM=HM P q m T o u' v' CM:=by rw [h1,h2]
@[go_sem] theorem smakeO_t {q:Pa} {T:TypeId} {t:Nat} {u v:V}:HM P q m T (.tmp t) u v CM=BX P q m T u v CM:=rI rfl
@[congr] theorem slen_congr {T:TypeId} {u u':V} (h1:u=u'):Kn P T u C=Kn P T u' C:=by rw [h1]
@[congr] theorem sminmax_congr {b:Bool} {u u' v v':V} (h1:u=u') (h2:v=v'):rQ b u v C=rQ b u' v' C:=by rw [h1,h2]
@[congr] theorem sslice_congr {T:TypeId} {u u':V} {lo lo' hi hi':Option V} (h1:u=u') (h2:lo=lo') (h3:hi=hi'):Cp P T u lo hi C=Cp P T u' lo' hi' C:=by rw [h1,h2,h3]
@[congr] theorem sindexA_congr {T:TypeId} {u u' v v':V} (h1:u=u') (h2:v=v'):yU P T u v C=yU P T u' v' C:=by rw [h1,h2]
@[congr] theorem sindex_congr {T:TypeId} {u u' v v':V} (h1:u=u') (h2:v=v'):Cq P T u v C=Cq P T u' v' C:=by rw [h1,h2]
@[congr] theorem sfieldA_congr {T f:Nat} {u u':V} (h1:u=u'):yV P T f u C=yV P T f u' C:=by rw [h1]
@[congr] theorem sfield_congr {T f:Nat} {u u':V} (h1:u=u'):DP P T f u C=DP P T f u' C:=by rw [h1]
@[congr] theorem sconv_congr {s t:TypeId} {u u':V} (h1:u=u'):Ag P s t u C=Ag P s t u' C:=by rw [h1]
@[congr] theorem sbuild_congr {T:TypeId} {ps ps':List (Nat × V)} (h1:ps=ps'):Cr P T ps C=Cr P T ps' C:=by rw [h1]
@[congr] theorem Qb {T n:Nat} {ps ps':List (Nat × V)} (h1:ps=ps'):qR P T n ps C=qR P T n ps' C:=by rw [h1]
@[congr] theorem salloc_congr {o o':Option (List V)} (h1:o=o'):GF o Cl=GF o' Cl:=by rw [h1]
end
theorem kM {P:Program} {N:Nat} {π:Pa} {k:Nat} {E:fP} {m:M} {Q:Exit->Nat->fP->M->Prop} {id:Nat} {ops:List Oper} (h:∀K:Nat->fP->M->Prop,(∀k E m,Q .normal k E m->K k E m)->lU P ops π K ops k E m):SW P N π (.region id ops.toArray false) k E m Q:=by
 refine Lw ?_;simpa using h (Q .normal) (λ_ _ _ x=>x)
section
variable {P:Program} {C:V->Prop} {m:M} {E:fP} {n:Nat->fP->M->Prop} {Q:Exit->Nat->fP->M->Prop} {k i id:Nat}
@[go_sem] theorem aR:sS n Q .normal k E m=n k E m:=rI rfl
@[go_sem] theorem cV:sS n Q (.exit i) k E m=Q (.exit i) k E m:=rI rfl
@[go_sem] theorem cE:sS n Q .ret k E m=Q .ret k E m:=rI rfl
@[go_sem] theorem bJ:Bp id Q .normal k E m=Q .normal k E m:=rI rfl
@[go_sem] theorem cM:Bp id Q (.exit i) k E m=if i=id then Q .normal k E m else Q (.exit i) k E m:=by
 unfold Bp;simp only;split <;> rfl
@[go_sem] theorem gP:Bp id Q .ret k E m=Q .ret k E m:=rI rfl
@[go_sem] theorem resV_tmp {t:Nat}:Hg P E m [.tmp t] C=C (E t):=rI rfl
@[go_sem] theorem resV_cell {p T:Nat}:Hg P E m [.cell p T] C=uQ P m T (E p) C:=rI rfl
@[go_sem] theorem resV_tt {t u:Nat}:Hg P E m [.tmp t,.tmp u] C=C (.tup [E t,E u]):=rI rfl
@[go_sem] theorem resV_ct {p T u:Nat}:Hg P E m [.cell p T,.tmp u] C=uQ P m T (E p) λv=>C (.tup [v,E u]):=rI rfl
@[go_sem] theorem resV_ttt {t u v:Nat}:Hg P E m [.tmp t,.tmp u,.tmp v] C=C (.tup [E t,E u,E v]):=rI rfl
@[go_sem] theorem resV_ctt {p T u v:Nat}:Hg P E m [.cell p T,.tmp u,.tmp v] C=uQ P m T (E p) λx=>C (.tup [x,E u,E v]):=rI rfl
@[go_sem] theorem resV_nil:Hg P E m [] C=C (.tup []):=rI rfl
end
def Conc.half (c:Conc) (q:Pa) (b:Nat):Conc:={ c with ρ:=λid=>if id=q then some b else c.ρ id }
def Conc.full1 (c:Conc) (q:Pa):Conc:={ c with κ:=λs=>match s with | .cell id off v=>if id=q/\v=0 then some .full else c.κ (.cell id off v) | s=>c.κ s }
section
variable {c c':Conc} {m m':M} {w w':World}
theorem Le.half {q:Pa} {b:Nat} (hf:fJ c q):Le c (c.half q b):=by
 refine ⟨rfl,λ_ h=>h,λid b' h=>?_,λ_ _ h=>h,λ_ _ _ h=>h⟩;show (if id=q then some b else c.ρ id)=some b';rw [bU]
 ·exact h
 ·rintro rfl;rw [hf.1] at h;cases h
theorem fZ.half (h:fZ c m w) {q:Pa} (hf:fJ c q) (cs:List Value) (t:TypeId) :
  fZ (c.half q w.heap.size) m (w.alloc (.cells cs.toArray t))/\oB q c m w (c.half q w.heap.size) m (w.alloc (.cells cs.toArray t))/\xO (c.half q w.heap.size) m q:=by
 have hle:Le c (c.half q w.heap.size):=Le.half hf;have hnb:=h.fresh_blk hf;have hg:w.grownBy (w.alloc (.cells cs.toArray t)) none:=HX (Gw w none) _;have h1:=h.grown hg
 have hρ:∀id,m.blk id ≠ none->(c.half q w.heap.size).ρ id=c.ρ id:=by
  intro id eZ;show (if id=q then _ else c.ρ id)=_;rw [bU (by rintro rfl;exact eZ hnb)]
 have hown:∀b,fC (c.half q w.heap.size) m b->fC c m b:=by
  rintro b (⟨id,eZ,hr⟩ | ho)
  ·exact .inl ⟨id,eZ,by rw [←hρ id eZ];exact hr⟩
  ·exact .inr ho
 have hX:=fZ.ext_grown q c m hg
 refine ⟨⟨h1.com,λid vs hv=>?_,λid id' b hi hi' hr hr'=>h1.inj id id' b hi hi' (by rw [←hρ id hi];exact hr) (by rw [←hρ id' hi'];exact hr'),λs b cap sz len hl hk=>?_,h1.ownInj,h1.ver,λg=>(h1.gl g).mono hle,λid hfr=>h1.ver0 id (hfr.anti hle),h1.base,λb hb=>⟨(h1.lit b hb).1,(h1.lit b hb).2.1,λho=>(h1.lit b hb).2.2 (hown b ho)⟩,λb vs hv=>?_⟩,
  ⟨hle,hX.os,hX.tape,hX.output,hX.size,hX.heap,λ_ _ _ _=>rfl,λb _ ho=>hown b ho,λid eZ hfr=>?_,λid eZ hb=>⟨hb.blk,hb.anon,hb.cell,hb.ver,hb.tok⟩,λ_ _ x=>x⟩,⟨hnb,hf.2.1,hf.2.2.1,(h.ver0 q hf).1,(h.ver0 q hf).2⟩⟩
 ·obtain ⟨b,ys,t',k1,k2,k3,k4,k5⟩:=h1.blk id vs hv;exact ⟨b,ys,t',by rw [hρ id (by rw [hv];simp)];exact k1,k2,k3.mono hle,k4,k5⟩
 ·obtain ⟨k1,k2,k3,k4⟩:=h1.own s b cap sz len hl hk;exact ⟨k1,k2,λid eZ=>by rw [hρ id eZ];exact k3 id eZ,k4⟩
 ·exact (h1.hpr b vs hv).mono hle λ_ _ _ _ _ hB=>hB
 ·have hne:id ≠ q:=by rintro rfl;exact eZ (KO _)
  exact ⟨by show (if id=q then _ else c.ρ id)=none;rw [bU hne];exact hfr.1,hfr.2⟩
structure Half (n0:Nat) (c:Conc) (m:M) (w:World) (p:Pa) (vs:List V):Prop where
 fU:∃b t cs,c.ρ p=some b/\zW w b t cs/\CR c vs cs.toList/\(∀u ∈ cs.toList,u.oneCell'=true)/\Iv c.G b/\¬ fC c m b/\¬ c.lit b/\n0<=b
 blank:xO c m p
theorem Le.full1 {p:Pa} (hb:xO c m p):Le c (c.full1 p):=by
 refine ⟨rfl,λ_ h=>h,λ_ _ h=>h,λs i h=>?_,λ_ _ _ h=>h⟩;cases s with
 | anon id j=>exact h
 | priv b=>exact h
 | cell id off v=>
   show (if id=p/\v=0 then some MD.full else c.κ (.cell id off v))=some i;rw [bU]
   ·exact h
   ·rintro ⟨rfl,_⟩;rw [hb.cell] at h;cases h
theorem Half.promote {n0:Nat} {p:Pa} {vs:List V} (h:fZ c m w) (hh:Half n0 c m w p vs) :
  fZ (c.full1 p) (m.set p (vs.map V.raw0)) w/\Le c (c.full1 p)/\∀b,fC (c.full1 p) (m.set p (vs.map V.raw0)) b->fC c m b ∨ c.ρ p=some b:=by
 obtain ⟨⟨bp,t,cs,h1,h2,h3,h4,h5,h6,h7,h8⟩,h9⟩:=hh;have hle:Le c (c.full1 p):=Le.full1 h9;have hκa:∀id j,(c.full1 p).κ (.anon id j)=c.κ (.anon id j):=λ_ _=>rfl;have hκc:∀id off v,(c.full1 p).κ (.cell id off v)=if id=p/\v=0 then some .full else c.κ (.cell id off v):=λ_ _ _=>rfl;have hset:∀id,(m.set p (vs.map V.raw0)).blk id=if id=p then some (vs.map V.raw0) else m.blk id:=λ_=>rfl
 have harr:∀s b cap sz len,(c.full1 p).κ s=some (.arr b cap sz len)->c.κ s=some (.arr b cap sz len):=by
  intro s b cap sz len hk;cases s with
  | anon id j=>exact hk
  | priv b=>exact hk
  | cell id off v=>
    rw [hκc] at hk
    split at hk
    ·cases hk
    ·exact hk
 have hlive:∀s b cap sz len,fX (m.set p (vs.map V.raw0)) s=true->c.κ s=some (.arr b cap sz len)->fX m s=true:=by
  intro s b cap sz len hl hk;cases s with
  | anon id j=>exact hl
  | priv b=>exact hl
  | cell id off v=>
    obtain ⟨k1,xs,rows,k2,k3⟩:=qY hl;rw [hset] at k2
    split at k2
    ·rename_i e;subst e;rw [h9.cell] at hk;cases hk
    ·exact qX k1 k2 k3
 have hblk:∀id,id ≠ p->(m.set p (vs.map V.raw0)).blk id ≠ none->m.blk id ≠ none:=by
  intro id hne eZ;rw [hset,bU hne] at eZ;exact eZ
 have hown:∀b,fC (c.full1 p) (m.set p (vs.map V.raw0)) b->fC c m b ∨ c.ρ p=some b:=by
  rintro b (⟨id,eZ,hr⟩ | ⟨s,cap,sz,len,hl,hk⟩)
  ·by_cases e:id=p
   ·subst e;exact .inr hr
   ·exact .inl (.inl ⟨id,hblk id e eZ,hr⟩)
  ·have k1:=harr _ _ _ _ _ hk;exact .inl (.inr ⟨s,cap,sz,len,hlive _ _ _ _ _ hl k1,k1⟩)
 have hnp:∀id,m.blk id ≠ none->c.ρ id ≠ some bp:=λid eZ hr=>h6 (.inl ⟨id,eZ,hr⟩);refine ⟨⟨h.com,λid xs hx=>?_,λid id' b hi hi' hr hr'=>?_,λs b cap sz len hl hk=>?_,λs s' b cap sz len cap' sz' len' hl hl' hk hk'=>?_,λid off v hb hv=>?_,λg=>(h.gl g).mono hle,λid hf=>h.ver0 id (hf.anti hle),h.base,λb hb=>⟨(h.lit b hb).1,(h.lit b hb).2.1,λho=>?_⟩,λb vs hv=>?_⟩,hle,hown⟩
 ·rw [hset] at hx
  split at hx
  ·rename_i e;subst e
   injection hx with hx
   subst hx;refine ⟨bp,cs,t,h1,h2,?_,h5,h4⟩;exact NG hle h3 (λn=>by rw [hκc,cG ⟨rfl,h9.ver n⟩])
  ·obtain ⟨b,ys,t',hr,hB,k1,k2,k3⟩:=h.blk id xs hx;exact ⟨b,ys,t',hr,hB,k1.mono hle,k2,k3⟩
 ·by_cases e1:id=p <;> by_cases e2:id'=p
  ·rw [e1,e2]
  ·subst e1;have hr1:c.ρ id=some b:=hr;rw [h1] at hr1;injection hr1 with e;subst e
   exact dE hr' (hnp id' (hblk id' e2 hi'))
  ·subst e2;have hr1:c.ρ id'=some b:=hr';rw [h1] at hr1;injection hr1 with e;subst e
   exact dE hr (hnp id (hblk id e1 hi))
  ·exact h.inj id id' b (hblk id e1 hi) (hblk id' e2 hi') hr hr'
 ·have hk0:=harr _ _ _ _ _ hk;have hl0:=hlive _ _ _ _ _ hl hk0;obtain ⟨k1,k2,k3,k4⟩:=h.own s b cap sz len hl0 hk0;refine ⟨k1,k2,λid eZ hr=>?_,k4⟩
  by_cases e:id=p
  ·subst e;have hr1:c.ρ id=some b:=hr;rw [h1] at hr1;injection hr1 with e;subst e
   exact h6 (.inr ⟨s,cap,sz,len,hl0,hk0⟩)
  ·exact k3 id (hblk id e eZ) hr
 ·have k1:=harr _ _ _ _ _ hk;have k2:=harr _ _ _ _ _ hk';exact h.ownInj s s' b cap sz len cap' sz' len' (hlive _ _ _ _ _ hl k1) (hlive _ _ _ _ _ hl' k2) k1 k2
 ·have hv':m.ver id off<v:=hv;rw [hκc,bU (by rintro ⟨_,rfl⟩;omega)]
  by_cases e:id=p
  ·subst e;exact h9.cell off v
  ·exact h.ver id off v (hblk id e hb) hv'
 ·rcases hown b ho with ho | ho
  ·exact (h.lit b hb).2.2 ho
  ·rw [h1] at ho;injection ho with e;subst e;exact h7 hb
 ·exact (h.hpr b vs hv).mono hle λ_ _ _ _ _ hB=>hB
theorem xO.promote {p id:Pa} {vs:List V} (h:xO c m id) (hne:id ≠ p):xO (c.full1 p) (m.set p vs) id:=by
 refine ⟨?_,h.anon,λoff v=>?_,h.ver,h.tok⟩
 ·show (if id=p then _ else m.blk id)=none;rw [bU hne];exact h.blk
 ·show (if id=p/\v=0 then _ else c.κ (.cell id off v))=none;rw [bU (by rintro ⟨e,_⟩;exact hne e)];exact h.cell off v
theorem fJ.promote {p id:Pa} (h:fJ c id) (hne:id ≠ p):fJ (c.full1 p) id:=by
 refine ⟨h.1,h.2.1,λoff v=>?_,h.2.2.2⟩;show (if id=p/\v=0 then _ else c.κ (.cell id off v))=none;rw [bU (by rintro ⟨e,_⟩;exact hne e)];exact h.2.2.1 off v
theorem oB.promote {π p:Pa} {vs:List V} {c0:Conc} {m0:M} {w0:World} (hX:oB π c0 m0 w0 c m w) (h:fZ c m w) (hh:Half w0.heap.size c m w p vs) (hp:π <:+ p):oB π c0 m0 w0 (c.full1 p) (m.set p (vs.map V.raw0)) w:=by
 obtain ⟨_,k2,k3⟩:=hh.promote h;have hne:∀id,¬ π <:+ id->id ≠ p:=λid eZ e=>eZ (e ▸ hp);refine ⟨hX.le.trans k2,hX.os,hX.tape,hX.output,hX.size,hX.heap,hX.book,λb hb ho=>?_,λid eZ hf=>(hX.fresh id eZ hf).promote (hne id eZ),λid eZ hb=>(hX.keep id eZ hb).promote (hne id eZ),hX.lits⟩
 rcases k3 b ho with ho | ho
 ·exact hX.own b hb ho
 ·obtain ⟨⟨b',_,_,h1,_,_,_,_,_,_,h8⟩,_⟩:=hh;rw [h1] at ho;injection ho with e;omega
end
