import Derived.Test.YtknbgnpeiohifaaGreatDoorGA14
import Derived.Orders
set_option linter.all false
namespace Go.Proofs.YtknbgnpeiohifaaGreatDoor.Abs
open Go.RowKit
def isEf:Op->Bool
 | .store _ _ _=>true
 | .call ⟨.builtin .len,_,_⟩=>false
 | .call ⟨.builtin .min,_,_⟩=>false
 | .call ⟨.builtin .max,_,_⟩=>false
 | .call _=>true
 | _=>false
def isAl:Op->Bool
 | .alloc _=>true
 | .box _ _=>true
 | _=>false
def tH:Op->List Operand
 | .move x=>[x]
 | .assign x=>[x]
 | .pick t x y=>[t,x,y]
 | .box _ x=>[x]
 | .build _ ps=>ps.toList.map (·.2)
 | .buildSlice _ _ ps=>ps.toList.map (·.2)
 | .load _ x=>[x]
 | .store _ a x=>[a,x]
 | .nilCheck x=>[x]
 | .binOp _ _ x y _=>[x,y]
 | .unOp _ _ x=>[x]
 | .convert _ _ x=>[x]
 | .makeFunc _ xs ys=>xs.toList++ys.toList
 | .makeSlice _ l k=>[l,k]
 | .slice _ x lo hi _=>x::(lo.toList++hi.toList)
 | .fieldAddr _ x _=>[x]
 | .field _ x _=>[x]
 | .indexAddr _ x i=>[x,i]
 | .index _ x i=>[x,i]
 | .extract t _=>[t]
 | .call cl=>(match cl.callee with | .value f=>[f] | _=>[])++cl.args.toList
 | _=>[]
def PT (P:Program) (op:Op) (g:Operand->V) (C:V->Prop):Prop:=
 match op with
 | .move x=>C (g x)
 | .assign x=>C (g x)
 | .pick t x y=>(match g t with | .lit (.bool b)=>C (if b then g x else g y) | _=>False)
 | .build T ps=>FO P T (ps.toList.map λp=>(p.1,g p.2)) C
 | .buildSlice T n ps=>tU P T n (ps.toList.map λp=>(p.1,g p.2)) C
 | .nilCheck x=>(match g x with | .ptr id off=>C (.ptr id off) | .eptr rows i off=>C (.eptr rows i off) | .pp id off=>C (.pp id off) | _=>False)
 | .binOp op T x y _=>uR P op T x y (g x) (g y) C
 | .unOp op _ x=>Zl op (g x) C
 | .convert s d x=>Dm P s d (g x) C
 | .makeFunc f xs ys=>C (.fn f (xs.toList.map g) (ys.toList.map g))
 | .makeSlice T (.const a) k=>HJ P T (g (.const a)) (g k) C
 | .slice T x lo hi none=>FM P T (g x) (lo.map g) (hi.map g) C
 | .fieldAddr T x f=>Ce P T f (g x) C
 | .field T x f=>HN P T f (g x) C
 | .indexAddr T x i=>Cd P T (g x) (g i) C
 | .index T x i=>FN P T (g x) (g i) C
 | .extract t i=>(match g t with | .tup vs=>(match vs[i]? with | some v=>C v | none=>False) | _=>False)
 | .call ⟨.builtin .len,xs,ts⟩=>(match ts[0]?,xs.toList with | some T,[x]=>PQ P T (g x) C | _,_=>False)
 | .call ⟨.builtin .min,xs,_⟩=>(match xs.toList with | [x,y]=>uK false (g x) (g y) C | _=>False)
 | .call ⟨.builtin .max,xs,_⟩=>(match xs.toList with | [x,y]=>uK true (g x) (g y) C | _=>False)
 | _=>False
section
variable {P:Program} {o:Oper} {q:Pa} {E E1:gE} {m m1:M}
theorem UF {C:V->M->Prop} (h:PT P o.op (ev m E) (λv=>C v m)):jF P o q E m C:=by
 obtain ⟨dst,op,ty,pos,after,guard⟩:=o;cases op with
 | call cl=>
   obtain ⟨callee,args,ats⟩:=cl;cases callee with
   | builtin b=>cases b <;> first | exact h | exact h.elim
   | _=>exact h.elim
 | slice T x lo hi mx=>cases mx <;> first | exact h | exact h.elim
 | makeSlice T l k=>cases l <;> first | exact h | exact h.elim
 | _=>first | exact h | exact h.elim
theorem JY {op:Op} {g g1:Operand->V} {C:V->Prop} (h:PT P op g C) (hg:∀x ∈ tH op,g1 x=g x):PT P op g1 C:=by
 cases op with
 | call cl=>
   obtain ⟨callee,args,ats⟩:=cl;cases callee with
   | builtin b=>
     cases b <;> first
      | exact h.elim
      | (simp only [PT] at h ⊢
         split at h
         ·rename_i he;simp only [tH,he,AE,Di,St,or_false] at hg
          simp_all
         ·exact h.elim)
      | (simp only [PT] at h ⊢
         split at h
         ·rename_i hT he;simp only [tH,he,AE,Di,St,or_false] at hg
          simp_all
         ·exact h.elim)
   | _=>exact h.elim
 | build T ps=>
   have:(ps.toList.map λp=>(p.1,g1 p.2))=ps.toList.map λp=>(p.1,g p.2):=xdj λp hp=>by
    rw [hg p.2 (by simp only [tH,Qo];exact ⟨p,hp,rfl⟩)]
   simp only [PT] at h ⊢;rw [this];exact h
 | buildSlice T n ps=>
   have:(ps.toList.map λp=>(p.1,g1 p.2))=ps.toList.map λp=>(p.1,g p.2):=xdj λp hp=>by
    rw [hg p.2 (by simp only [tH,Qo];exact ⟨p,hp,rfl⟩)]
   simp only [PT] at h ⊢;rw [this];exact h
 | makeFunc f xs ys=>
   have h1:xs.toList.map g1=xs.toList.map g:=xdj λp hp=>hg p (by simp [tH];exact .inl (by simpa using hp));have h2:ys.toList.map g1=ys.toList.map g:=xdj λp hp=>hg p (by simp [tH];exact .inr (by simpa using hp));simp only [PT] at h ⊢;rw [h1,h2];exact h
 | slice T x lo hi mx=>
   cases mx with
   | some _=>exact h.elim
   | none=>
     have h0:=hg x (by simp [tH])
     have h1:lo.map g1=lo.map g:=by
      cases lo with
      | none=>rfl
      | some l=>simp [hg l (by simp [tH])]
     have h2:hi.map g1=hi.map g:=by
      cases hi with
      | none=>rfl
      | some l=>simp [hg l (by simp [tH])]
     simp only [PT] at h ⊢;rw [h0,h1,h2];exact h
 | makeSlice T l k=>
   cases l with
   | const a=>
     have h1:=hg (.const a) (by simp [tH]);have h2:=hg k (by simp [tH]);simp only [PT] at h ⊢;rw [h1,h2];exact h
   | _=>exact h.elim
 | _=>
   first
    | exact h.elim
    | (simp only [tH,Di,St,or_false,forall_eq_or_imp,forall_eq] at hg
       simp only [PT] at h ⊢;simp only [hg];exact h)
end
structure Ev where
 i:Nat
 f:Nat
 o:Oper
 run:Bool
 v:V
 E:gE
 m:M
 m':M
 hist:List M
 ac:List V
def Qm (full:List Oper) (g:Option (Nat × Bool)) (E:gE) (run:Bool):Prop:=
 match g with
 | none=>run=true
 | some (j,b)=>∃d,(full[j]?).bind (·.dst)=some d/\((∃t,E d=.lit (.bool t)/\run=decide (t=b)) ∨ ((∃vs,E d=.lit (.tuple vs))/\run=false))
theorem ZU {c:Conc} {o:NV} {x:Value} (ho:o=.exact ∨ ∃s,o=.st s) (h:CR c [.list o []] [x]):CR c [.nilv] [x]:=by
 obtain ⟨a,cap,es,sz,rfl,k1,k2,kz,k3,k4,k5,k6,kc,k7⟩:=h.inv_list
 have:cap=0:=by
  rcases ho with rfl | ⟨s,rfl⟩
  ·exact k7.1
  ·rcases k7 with ⟨_,h2⟩ | ⟨b,_,_,h2⟩
   ·exact h2
   ·exact cM h2 zd
 subst this;exact .nilv .nil
section
variable {P:Program} {full:List Oper} {π:Pa} {k0:Nat} {K:Nat->gE->M->Prop}
end
def RM (full:List Oper) (o:Oper):List Nat:=match o.guard with | some (j,_)=>((full[j]?).bind (·.dst)).toList | none=>[]
def BK (full:List Oper) (o:Oper):List Nat:=((tH o.op).filterMap λ| .tmp t=>some t | _=>none)++RM full o
def HD (tbl:List Nat) (x y:Nat):Bool:=(tbl.getD y 0).testBit x
def pw {α:Type} (r:α->α->Bool):List α->Bool
 | []=>true
 | a::l=>l.all (r a) && pw r l
def Rr (full:List Oper) (tbl:List Nat):Bool:=
 full.zipIdx.all λp=>(tbl.getD p.2 0 == p.1.after.toList.foldl (λs e=>if Region.binds .any e then s ||| 2 ^ e.on ||| tbl.getD e.on 0 else s) 0) && p.1.after.toList.all λe=>!(Region.binds .any e) || decide (e.on<p.2)
theorem Vg {tbl:List Nat} {es:List Edge}:∀(s:Nat) (j:Nat),(es.foldl (λs e=>if Region.binds .any e then s ||| 2 ^ e.on ||| tbl.getD e.on 0 else s) s).testBit j=true ->
  s.testBit j=true ∨ ∃e ∈ es,Region.binds .any e=true/\(e.on=j ∨ HD tbl j e.on=true):=by
 induction es with
 | nil=>intro s j h;exact .inl h
 | cons e es ih=>
   intro s j h;rw [List.foldl_cons] at h
   rcases ih _ j h with h | ⟨e',he',h⟩
   ·split at h
    ·rename_i hb;rw [Nat.testBit_or,Nat.testBit_or,xdv,xdv] at h
     rcases h with (h | h) | h
     ·exact .inl h
     ·refine .inr ⟨e,zd,hb,.inl ?_⟩;rw [Nat.testBit_two_pow] at h;simpa using h
     ·exact .inr ⟨e,zd,hb,.inr h⟩
    ·exact .inl h
   ·exact .inr ⟨e',by simp [he'],h⟩
theorem Zi {full:List Oper} {tbl:List Nat} (h:Rr full tbl=true) {i j:Nat} {o:Oper} (ho:full[i]? = some o) (hb:HD tbl j i=true):∃e ∈ o.after.toList,Region.binds .any e=true/\(e.on=j ∨ HD tbl j e.on=true):=by
 have h1:=Rj.1 h (o,i) (by rw [List.mem_zipIdx_iff_getElem?];exact ho);simp only [Su,beq_iff_eq] at h1;have hb':(tbl.getD i 0).testBit j=true:=hb;rw [h1.1] at hb'
 rcases Vg 0 j hb' with h2 | h2
 ·simp at h2
 ·exact h2
theorem edge_lt {full:List Oper} {tbl:List Nat} (h:Rr full tbl=true) {i:Nat} {o:Oper} (ho:full[i]? = some o) {e:Edge} (he:e ∈ o.after.toList) (hb:Region.binds .any e=true):e.on<i:=by
 have h1:=Rj.1 h (o,i) (by rw [List.mem_zipIdx_iff_getElem?];exact ho);simp only [Su] at h1;have h2:=Rj.1 h1.2 e he;simpa [hb] using h2
section
variable {P:Program} {full:List Oper} {π:Pa} {k0:Nat}
theorem xR {d:Option Nat} {v:V} {E:gE} {t:Nat} (h:d ≠ some t):mZ d v E t=E t:=by
 cases d with
 | none=>rfl
 | some a=>
   show (if t=a then v else E t)=E t;rw [cE (λe=>h (by rw [e]))]
end
def Lm (D:Nat->Bool) (k:Nat):Nat->Bool:=λi=>D i || i == k
theorem sE {D:Nat->Bool} {k i:Nat} (h:i ≠ k):Lm D k i=D i:=by
 unfold Lm;rw [beq_eq_false_iff_ne.2 h,Bool.or_false]
theorem tI {D:Nat->Bool} {k:Nat}:Lm D k k=true:=by simp [Lm]
theorem Mm {π:Pa} {i j:Nat} (h:(i::π) <:+ (j::π)):i=j:=by
 have:=h.eq_of_length zd
 injection this
theorem Qr {full:List Oper} {o:Oper} {E:gE} {run:Bool} {a:Act} {c:Conc} (hg:Qm full o.guard E run) (hE:∀d ∈ RM full o,CR c [E d] [a.tmps.getD d undef]):Region.wanted o (yielded full.toArray a.tmps)=run:=by
 cases hgd:o.guard with
 | none=>rw [hgd] at hg;simp [Region.wanted,hgd,show run=true from hg]
 | some jb=>
   obtain ⟨j,b⟩:=jb;rw [hgd] at hg;obtain ⟨d,hd,hv⟩:=hg;have hCR:=hE d (by simp [RM,hgd,hd]);have hd':(full.toArray[j]?).bind (·.dst)=some d:=by simpa using hd
   rcases hv with ⟨t,ht,hr⟩ | ⟨⟨vs,ht⟩,hr⟩
   ·rw [ht] at hCR;have hv':=hCR.inv_lit
    have hy:yielded full.toArray a.tmps j=some t:=by
     unfold yielded;rw [hd'];simp only [iX];rw [VF] at hv';cases hq:a.tmps[d]? with
     | none=>rw [hq] at hv';simp [undef] at hv'
     | some u=>rw [hq] at hv';simp at hv';rw [hv']
    simp only [Region.wanted,hgd,hy,hr];cases t <;> cases b <;> rfl
   ·rw [ht] at hCR;have hv':=hCR.inv_lit
    have hy:yielded full.toArray a.tmps j=none:=by
     unfold yielded;rw [hd'];simp only [iX];rw [VF] at hv';cases hq:a.tmps[d]? with
     | none=>rfl
     | some u=>rw [hq] at hv';simp only [Option.getD_some] at hv';rw [hv']
    simp [Region.wanted,hgd,hy,hr]
section
variable {P:Program} {full:List Oper} {π:Pa} {k0 N:Nat} {tr:List Ev} {tbl:List Nat} {E0:gE} {m0:M} {c0:Conc} {w0:World} {a0:Act}
end
theorem Vl {D:Nat->Bool} {k:Nat} {L:List Nat} (hk:k ∈ L) (hu:D k=false):L.countP (λi=>!(Lm D k i))<L.countP (λi=>!(D i)):=by
 have hle:∀L:List Nat,L.countP (λi=>!(Lm D k i))<=L.countP (λi=>!(D i)):=λL=>List.countP_mono_left λx _ hx=>by
  simp only [Lm,xdw,Bool.or_eq_false_iff] at hx;simp [hx.1]
 induction L with
 | nil=>cases hk
 | cons x L ih=>
   rw [Yy,Yy]
   by_cases hx:x=k
   ·subst hx;have h1:(!(Lm D x x))=false:=by simp [Lm]
    have h2:(!(D x))=true:=by simp [hu]
    rw [h1,h2];have:=hle L;simp only [JR,if_false,if_true];omega
   ·have:=ih ((Di.1 hk).resolve_left (λe=>hx e.symm));rw [sE hx]
    split <;> omega
section
variable {P:Program} {full:List Oper} {π:Pa} {k0 N:Nat} {tr:List Ev} {tbl:List Nat} {E0:gE} {m0:M} {c0:Conc} {w0:World} {a0:Act}
theorem Mv {listed:Array Bool} {i:Nat}:i ∈ Region.ready .any full.toArray listed ↔ i<full.length/\listed.getD i true=false/\∃o,full[i]? = some o/\∀e ∈ o.after.toList,Region.binds .any e=true->listed.getD e.on false=true:=by
 unfold Region.ready;simp only [Ut,Yx,xef,Su,xdw,xdu];refine and_congr_right λhi=>and_congr_right λ_=>?_;have ho:full[i]? = some full[i]:=yN hi;rw [ho]
 constructor
 ·intro h;refine ⟨_,rfl,λe he hb=>?_⟩;simp only [PJ,Option.getD_some] at h;have:=Array.all_eq_true'.1 h e (by simpa using he);simpa [hb] using this
 ·rintro ⟨o,ho',h⟩
  injection ho' with ho'
  subst ho';simp only [PJ,Option.getD_some];refine Array.all_eq_true'.2 λe he=>?_;cases hb:Region.binds .any e with
  | false=>rfl
  | true=>simpa using h e (by simpa using he) hb
end
