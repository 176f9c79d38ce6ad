import Derived.Test.YtljbbjpbefjpiaaGreatDoorPA20
import Derived.Below
set_option linter.all false
namespace Go.Proofs.YtljbbjpbefjpiaaGreatDoor.Abs
open Go.RowKit
def dt (S:V->Prop) (C:V->Prop):Prop:=∃v,S v/\C v
@[go_sem] theorem ND {a:V} {C:V->Prop}:dt (λv=>a=v) C=C a:=propext ⟨λ⟨_,h,hc⟩=>h ▸ hc,λh=>⟨a,rfl,h⟩⟩
@[congr] theorem dt_congr {S S':V->Prop} {C:V->Prop} (h:∀v,S v=S' v):dt S C=dt S' C:=by rw [show S=S' from funext h]
def dm (S:V->M->Prop) (m:M) (C:V->M->Prop):Prop:=∃v m',S v m'/\m'.gl=m.gl/\C v m'
@[go_sem] theorem dm_eq {a:V} {b m:M} {C:V->M->Prop}:dm (λv m'=>a=v/\b=m') m C=(b.gl=m.gl/\C a b):=propext ⟨λ⟨_,_,⟨h1,h2⟩,hg,hc⟩=>by subst h1 h2;exact ⟨hg,hc⟩,λ⟨hg,h⟩=>⟨a,b,⟨rfl,rfl⟩,hg,h⟩⟩
@[congr] theorem dm_congr {S S':V->M->Prop} {m:M} {C:V->M->Prop} (h:∀v m',S v m'=S' v m'):dm S m C=dm S' m C:=by rw [show S=S' from funext λv=>funext λm'=>h v m']
def Gs (P:Program) (f:V) (args:List V) (q:Pa) (m:M) (C:V->M->Prop):Prop:=∃v m',Kk P f args q m (λr m1=>r=v/\m1=m')/\m'.gl=m.gl/\C v m'
theorem lK {P:Program} {g:FuncId} {first captured args:List V} {q:Pa} {m m':M} {v:V} {C:V->M->Prop} (h:SC P g (first++args++captured) q m (λr m1=>r=v/\m1=m')) (hg:m'.gl=m.gl) (hc:C v m'):Gs P (.fn (.func g) first captured) args q m C:=⟨v,m',h,hg,hc⟩
@[congr] theorem dcall_congr {P:Program} {f f':V} {as as':List V} {q:Pa} {m:M} {C:V->M->Prop} (h1:f=f') (h2:as=as'):Gs P f as q m C=Gs P f' as' q m C:=by rw [h1,h2]
def rD (P:Program) (full:List Oper) (π:Pa) (k0:Nat) (K:Nat->fC->M->Prop) (i f:Nat) (bO:List (Nat × Nat)) (hist:List M) (E:fC) (m:M) (o:Oper):Prop:=
 match o.guard with
 | none=>dop P o.op o f ((k0+i)::π) hist E m (λv m' hist'=>PD P full π k0 K bO hist' (jW o.dst v E) m')
 | some (j,b)=>
   match (full[j]?).bind (·.dst) with
   | none=>False
   | some d=>
     match E d with
     | .lit (.bool t)=>if t=b then dop P o.op o f ((k0+i)::π) hist E m (λv m' hist'=>PD P full π k0 K bO hist' (jW o.dst v E) m') else PD P full π k0 K bO (if sI o.op then m::hist else hist) (jW o.dst (.lit undef) E) m
     | .lit (.tuple _)=>PD P full π k0 K bO (if sI o.op then m::hist else hist) (jW o.dst (.lit undef) E) m
     | _=>False
def En (os:List Oper) (i:Nat) (C:Oper->Prop):Prop:=match os[i]? with | some o=>C o | none=>False
@[go_sem] theorem nthO_zero {o:Oper} {os:List Oper} {C:Oper->Prop}:En (o::os) 0 C=C o:=rI rfl
@[go_sem] theorem nthO_succ {o:Oper} {os:List Oper} {i:Nat} {C:Oper->Prop}:En (o::os) (i+1) C=En os i C:=by
 unfold En;rw [kP]
def IU (P:Program) (full:List Oper) (π:Pa) (k0:Nat) (K:Nat->fC->M->Prop) (bO:List (Nat × Nat)) (hist:List M) (E:fC) (m:M) (d:Option Nat) (v:V):Prop:=PD P full π k0 K bO hist (jW d v E) m
def donM (P:Program) (full:List Oper) (π:Pa) (k0:Nat) (K:Nat->fC->M->Prop) (bO:List (Nat × Nat)) (hist:List M) (E:fC) (d:Option Nat) (v:V) (m:M):Prop:=PD P full π k0 K bO hist (jW d v E) m
def Po (P:Program) (T:TypeId) (u:V) (hist:List M) (C:V->Prop) (v:V):Prop:=(∀m1 ∈ hist,pP P m1 T u (λr=>r=v))/\C v
def Ps (P:Program) (full:List Oper) (π:Pa) (k0:Nat) (K:Nat->fC->M->Prop) (i f:Nat) (bO:List (Nat × Nat)) (hist:List M) (E:fC) (m:M) (d:Option Nat) (op:Op) (ty:TypeId) (pos:String) (after:Array Edge) (b:Bool) (v:V):Prop:=
 gsel v b (rD P full π k0 K i f bO hist E m ⟨d,op,ty,pos,after,none⟩) (PD P full π k0 K bO (if sI op then m::hist else hist) (jW d (.lit undef) E) m)
section
variable {P:Program} {full:List Oper} {π:Pa} {k0:Nat} {K:Nat->fC->M->Prop} {i f:Nat} {bO:List (Nat × Nat)} {hist:List M} {E:fC} {m:M} {d:Option Nat} {ty:TypeId} {pos:String} {after:Array Edge} {v:V}
@[go_sem] theorem pd_nil:PD P full π k0 K [] hist E m=K (k0+full.length) E m:=rI rfl
@[go_sem] theorem pd_cons:PD P full π k0 K ((i,f)::bO) hist E m=En full i (rD P full π k0 K i f bO hist E m):=by
 simp only [PD,En];cases full[i]? with
 | none=>rfl
 | some o=>rfl
@[go_sem] theorem don_at:IU P full π k0 K bO hist E m d v=PD P full π k0 K bO hist (jW d v E) m:=rI rfl
@[go_sem] theorem donM_at:donM P full π k0 K bO hist E d v m=PD P full π k0 K bO hist (jW d v E) m:=rI rfl
@[go_sem] theorem donL_nil {T:TypeId} {u:V} {C:V->Prop}:Po P T u [] C v=C v:=by simp [Po]
@[go_sem] theorem donL_cons {T:TypeId} {u:V} {C:V->Prop} {m1:M} {hs:List M}:Po P T u (m1::hs) C v=(pP P m1 T u (λr=>r=v)/\Po P T u hs C v):=by simp [Po,and_assoc]
@[go_sem] theorem dgon_tt {op:Op}:Ps P full π k0 K i f bO hist E m d op ty pos after true (.lit (.bool true))=rD P full π k0 K i f bO hist E m ⟨d,op,ty,pos,after,none⟩:=rI rfl
@[go_sem] theorem dgon_ff {op:Op}:Ps P full π k0 K i f bO hist E m d op ty pos after false (.lit (.bool false))=rD P full π k0 K i f bO hist E m ⟨d,op,ty,pos,after,none⟩:=rI rfl
@[go_sem] theorem dgon_tf {op:Op}:Ps P full π k0 K i f bO hist E m d op ty pos after false (.lit (.bool true))=PD P full π k0 K bO (if sI op then m::hist else hist) (jW d (.lit undef) E) m:=rI rfl
@[go_sem] theorem dgon_ft {op:Op}:Ps P full π k0 K i f bO hist E m d op ty pos after true (.lit (.bool false))=PD P full π k0 K bO (if sI op then m::hist else hist) (jW d (.lit undef) E) m:=rI rfl
@[go_sem] theorem dp_guard {op:Op} {j:Nat} {b:Bool}:rD P full π k0 K i f bO hist E m ⟨d,op,ty,pos,after,some (j,b)⟩=HT full j E (Ps P full π k0 K i f bO hist E m d op ty pos after b):=by
 unfold rD HT Ps gsel;simp only;cases (full[j]?).bind (·.dst) with
 | none=>rfl
 | some d'=>
   simp only
   generalize E d'=v
   cases v with
   | lit u=>cases u <;> rfl
   | _=>rfl
@[go_sem] theorem dp_load {T:TypeId} {x:Operand}:rD P full π k0 K i f bO hist E m ⟨d,.load T x,ty,pos,after,none⟩=dt (λv=>pP P m T (ev m E x) (λr=>r=v)) (Po P T (ev m E x) (hist.take f) (IU P full π k0 K bO hist E m d)):=rI rfl
@[go_sem] theorem dp_alloc {T:TypeId}:rD P full π k0 K i f bO hist E m ⟨d,.alloc T,ty,pos,after,none⟩=Ei (eZ P T) (λzs=>IU P full π k0 K bO hist E (m.set ((k0+i)::π) (zs.map V.raw0)) d (.ptr ((k0+i)::π) 0)):=by
 apply propext;show (∃vs,eZ P T=some vs/\_) ↔ _;unfold Ei
 constructor
 ·rintro ⟨vs,h,hc⟩;rw [h];exact hc
 ·intro h;cases hz:eZ P T with
  | none=>rw [hz] at h;exact h.elim
  | some vs=>rw [hz] at h;exact ⟨vs,rfl,h⟩
@[go_sem] theorem dp_move {x:Operand}:rD P full π k0 K i f bO hist E m ⟨d,.move x,ty,pos,after,none⟩=IU P full π k0 K bO hist E m d (ev m E x):=ND
@[go_sem] theorem dp_assign {x:Operand}:rD P full π k0 K i f bO hist E m ⟨d,.assign x,ty,pos,after,none⟩=IU P full π k0 K bO hist E m d (ev m E x):=ND
@[go_sem] theorem dp_pick {t x y:Operand}:rD P full π k0 K i f bO hist E m ⟨d,.pick t x y,ty,pos,after,none⟩=dt (λv=>IE (ev m E t) (ev m E x) (ev m E y) (λr=>r=v)) (IU P full π k0 K bO hist E m d):=rI rfl
@[go_sem] theorem dp_build {T:TypeId} {ps:Array (Nat × Operand)}:rD P full π k0 K i f bO hist E m ⟨d,.build T ps,ty,pos,after,none⟩=dt (λv=>zB P T (ps.toList.map λp=>(p.1,ev m E p.2)) (λr=>r=v)) (IU P full π k0 K bO hist E m d):=rI rfl
@[go_sem] theorem dp_buildSlice {T:TypeId} {n:Nat} {ps:Array (Nat × Operand)}:rD P full π k0 K i 0 bO hist E m ⟨d,.buildSlice T n ps,ty,pos,after,none⟩=dt (λv=>pX P T n (ps.toList.map λp=>(p.1,ev m E p.2)) (λr=>r=v)) (IU P full π k0 K bO hist E m d):=rI rfl
@[go_sem] theorem dp_nilCheck {x:Operand}:rD P full π k0 K i f bO hist E m ⟨d,.nilCheck x,ty,pos,after,none⟩=dt (λv=>EL (ev m E x) (λr=>r=v)) (IU P full π k0 K bO hist E m d):=by
 have:∀v,Ek P (.nilCheck x) (ev m E) (λr=>r=v)=EL (ev m E x) (λr=>r=v):=by
  intro v;simp only [Ek,EL]
  generalize ev m E x=u
  cases u <;> rfl
 show dt (λv=>Ek P (.nilCheck x) (ev m E) (λr=>r=v)) _=_;rw [funext this];rfl
@[go_sem] theorem dp_binOp {op:BinOp} {T T':TypeId} {x y:Operand}:rD P full π k0 K i f bO hist E m ⟨d,.binOp op T x y T',ty,pos,after,none⟩=dt (λv=>qQ P op T x y (ev m E x) (ev m E y) (λr=>r=v)) (IU P full π k0 K bO hist E m d):=rI rfl
@[go_sem] theorem dp_unOp {op:UnOp} {T:TypeId} {x:Operand}:rD P full π k0 K i f bO hist E m ⟨d,.unOp op T x,ty,pos,after,none⟩=dt (λv=>sun op (ev m E x) (λr=>r=v)) (IU P full π k0 K bO hist E m d):=rI rfl
@[go_sem] theorem dp_convert {s t:TypeId} {x:Operand}:rD P full π k0 K i f bO hist E m ⟨d,.convert s t x,ty,pos,after,none⟩=dt (λv=>yB P s t (ev m E x) (λr=>r=v)) (IU P full π k0 K bO hist E m d):=rI rfl
@[go_sem] theorem dp_slice {T:TypeId} {x:Operand} {lo hi:Option Operand}:rD P full π k0 K i f bO hist E m ⟨d,.slice T x lo hi none,ty,pos,after,none⟩=dt (λv=>AI P T (ev m E x) (lo.map (ev m E)) (hi.map (ev m E)) (λr=>r=v)) (IU P full π k0 K bO hist E m d):=rI rfl
@[go_sem] theorem dp_fieldAddr {T g:Nat} {x:Operand}:rD P full π k0 K i f bO hist E m ⟨d,.fieldAddr T x g,ty,pos,after,none⟩=dt (λv=>tC P T g (ev m E x) (λr=>r=v)) (IU P full π k0 K bO hist E m d):=rI rfl
@[go_sem] theorem dp_indexAddr {T:TypeId} {x y:Operand}:rD P full π k0 K i f bO hist E m ⟨d,.indexAddr T x y,ty,pos,after,none⟩=dt (λv=>vD P T (ev m E x) (ev m E y) (λr=>r=v)) (IU P full π k0 K bO hist E m d):=rI rfl
@[go_sem] theorem dp_index {T:TypeId} {x y:Operand}:rD P full π k0 K i f bO hist E m ⟨d,.index T x y,ty,pos,after,none⟩=dt (λv=>AJ P T (ev m E x) (ev m E y) (λr=>r=v)) (IU P full π k0 K bO hist E m d):=rI rfl
@[go_sem] theorem dp_extract {t:Operand} {n:Nat}:rD P full π k0 K i f bO hist E m ⟨d,.extract t n,ty,pos,after,none⟩=dt (λv=>tO (ev m E t) n (λr=>r=v)) (IU P full π k0 K bO hist E m d):=by
 have:∀v,Ek P (.extract t n) (ev m E) (λr=>r=v)=tO (ev m E t) n (λr=>r=v):=by
  intro v;simp only [Ek,tO]
  generalize ev m E t=u
  cases u with
  | tup vs=>cases vs[n]? <;> rfl
  | _=>rfl
 show dt (λv=>Ek P (.extract t n) (ev m E) (λr=>r=v)) _=_;rw [funext this];rfl
@[go_sem] theorem dp_len {T:TypeId} {x:Operand}:rD P full π k0 K i f bO hist E m ⟨d,.call ⟨.builtin .len,#[x],#[T]⟩,ty,pos,after,none⟩=dt (λv=>Hl P T (ev m E x) (λr=>r=v)) (IU P full π k0 K bO hist E m d):=rI rfl
@[go_sem] theorem dp_min {x y:Operand} {ts:Array TypeId}:rD P full π k0 K i f bO hist E m ⟨d,.call ⟨.builtin .min,#[x,y],ts⟩,ty,pos,after,none⟩=dt (λv=>qP false (ev m E x) (ev m E y) (λr=>r=v)) (IU P full π k0 K bO hist E m d):=rI rfl
@[go_sem] theorem dp_max {x y:Operand} {ts:Array TypeId}:rD P full π k0 K i f bO hist E m ⟨d,.call ⟨.builtin .max,#[x,y],ts⟩,ty,pos,after,none⟩=dt (λv=>qP true (ev m E x) (ev m E y) (λr=>r=v)) (IU P full π k0 K bO hist E m d):=rI rfl
@[go_sem] theorem dp_append {t u:TypeId} {s x:Operand}:rD P full π k0 K i f bO hist E m ⟨d,.call ⟨.builtin .append,#[s,x],#[t,u]⟩,ty,pos,after,none⟩=dm (λv m'=>uE P ((k0+i)::π) m t u (ev m E s) (ev m E x) (λr m1=>r=v/\m1=m')) m (donM P full π k0 K bO (m::hist) E d):=rI rfl
@[go_sem] theorem dp_store {T:TypeId} {x y:Operand}:rD P full π k0 K i f bO hist E m ⟨d,.store T x y,ty,pos,after,none⟩=dm (λv m'=>zA P m T (ev m E x) (ev m E y) (λm1=>.lit undef=v/\m1=m')) m (donM P full π k0 K bO (m::hist) E d):=rI rfl
@[go_sem] theorem dp_call {g:Operand} {xs:Array Operand} {ts:Array TypeId}:rD P full π k0 K i f bO hist E m ⟨d,.call ⟨.value g,xs,ts⟩,ty,pos,after,none⟩=Gs P (ev m E g) (xs.toList.map (ev m E)) ((k0+i)::π) m (donM P full π k0 K bO (m::hist) E d):=by
 have:∀v m',fP P ⟨d,.call ⟨.value g,xs,ts⟩,ty,pos,after,none⟩ ((k0+i)::π) E m (λr m1=>r=v/\m1=m')=Kk P (ev m E g) (xs.toList.map (ev m E)) ((k0+i)::π) m (λr m1=>r=v/\m1=m'):=by
  intro v m';simp only [fP,ER,Kk]
  generalize ev m E g=u
  cases u with
  | fn g _ _=>cases g <;> rfl
  | _=>rfl
 show (∃v m',fP P ⟨d,.call ⟨.value g,xs,ts⟩,ty,pos,after,none⟩ ((k0+i)::π) E m (λr m1=>r=v/\m1=m')/\_)=_;simp only [this];rfl
end
section
variable {P:Program} {N:Nat} {π:Pa} {k:Nat} {E:fC} {m:M} {Q:Exit->Nat->fC->M->Prop}
theorem PS {body:Code} (CG:fC->M->Prop) (μ:fC->M->Nat) (h0:CG E m)
  (step:∀(i:Nat) (E':fC) (m':M),CG E' m'->(∀t,wr body t=false->E' t=E t)->SW P N (i::k::π) body 0 E' m' (pW (λ_ E2 m2=>CG E2 m2/\μ E2 m2<μ E' m') λe _ E2 m2=>Q e (k+1) E2 m2)) :
  SW P N π (.loop body) k E m Q:=by
 refine SW_loop CG μ h0 λi E' m' hI hf=>vU (step i E' m' hI hf) λe k2 E2 m2 h=>?_;cases e <;> exact h
theorem Sz {x:Code} (J:fC->M->Prop) (hJ:J E m) (h:∀E' m',J E' m'->SW P N π x k E' m' Q):SW P N π x k E m Q:=h E m hJ
theorem JZ {x:Code} (J:M->Prop) (hJ:J m) (h:∀m',J m'->SW P N π x k E m' Q):SW P N π x k E m Q:=h m hJ
theorem bC (q:Pa) (m:M):m.back q m=m:=by
 cases m;simp [M.back]
theorem bJ {q id:Pa} {m m':M} {vs:List V} (h:q <:+ id):m.back q (m'.set id vs)=m.back q m':=by
 have hs:q.isSuffixOf id=true:=NT.2 h;unfold M.back
 congr 1
 funext i
 show (if q.isSuffixOf i then m.blk i else if i=id then some vs else m'.blk i)=_
 split
 ·rfl
 ·rename_i hi;rw [if_neg (by rintro rfl;exact hi hs)]
theorem aV {q id:Pa} {m m':M} {n:Nat} {b:Bool} (h:q <:+ id):m.back q (m'.tokset id n b)=m.back q m':=by
 have hs:q.isSuffixOf id=true:=NT.2 h;unfold M.back
 congr 1
 funext i
 show (if q.isSuffixOf i then m.tok i else λj=>if i=id/\j=n then b else m'.tok i j)=_
 split
 ·rfl
 ·rename_i hi
  funext j
  rw [if_neg (by rintro ⟨rfl,_⟩;exact hi hs)]
theorem bG {q id:Pa} {m m':M} {off:Nat} (h:q <:+ id):m.back q (m'.bump id off)=m.back q m':=by
 have hs:q.isSuffixOf id=true:=NT.2 h;unfold M.back
 congr 1
 funext i
 show (if q.isSuffixOf i then m.ver i else λo=>if i=id/\o=off then m'.ver i o+1 else m'.ver i o)=_
 split
 ·rfl
 ·rename_i hi
  funext j
  rw [if_neg (by rintro ⟨rfl,_⟩;exact hi hs)]
theorem sV {q:Pa}:q <:+ q:=Jl q
theorem jL {q p:Pa} {n:Nat} (h:q <:+ p):q <:+ (n::p):=h.trans (List.suffix_cons n p)
theorem Pm {m:M} {id:Pa} {j:Nat}:m.drop (.st (.anon id j))=m.tokset id j false:=rI rfl
end
def M.start:M:=⟨λ_=>none,λ_ _=>0,λ_ _=>false,λ_=>.top,λ_=>none⟩
def Conc.start (w:World) (G:GG):Conc:=⟨w.heap.size,λ_=>False,λ_=>none,λ_=>none,G⟩
section
variable {P:Program} {w:World} {G:GG}
theorem DK {α:Type} {x:α} {p:Prop} (h:(none:Option α)=some x):p:=by cases h
theorem Kv (q:Pa):sD (Conc.start w G) q:=λ_ _=>⟨rfl,λ_=>rfl,λ_ _=>rfl,rfl⟩
theorem ints_in {c:Conc} {k:IntKind} {a:Option Addr} {cap:Nat} {zs:List Int} (hl:zs.length<=cap) (hm:cap<=maxLen) (ha:0<zs.length->∃b off,a=some ⟨b,off,none⟩) (hG:Kb c.G a (zs.map (Value.int k))):CR c [.list .none (zs.map λz=>[.lit (.int k z)])] [.slice a zs.length cap]:=by
 have hcr:∀l:List Int,CR c ((l.map λz=>[V.lit (.int k z)]).flatten) (l.map (Value.int k)):=by
  intro l
  induction l with
  | nil=>exact .nil
  | cons z l ih=>exact .lit ih
 have:=CR.list (o:=.none) (a:=a) (cap:=cap) (c:=c) (rows:=zs.map λz=>[V.lit (.int k z)]) (es:=zs.map (Value.int k)) (sz:=1) (vs:=[]) (cs:=[]) (hcr zs) (by intro r hr;obtain ⟨y,_,rfl⟩:=Ge.1 hr;rfl) (by decide) (by simpa using hl) hm (by simpa using ha) hG (by intro u hu;obtain ⟨y,_,rfl⟩:=Ge.1 hu;rfl) trivial .nil;simpa using this
end
end Go.Proofs.YtljbbjpbefjpiaaGreatDoor.Abs
namespace Go.Proofs.YtljbbjpbefjpiaaGreatDoor
open Go.RowKit
def rowG (x:Addr) (len:Nat) (k:IntKind) (zs:List Int):GG:=λb o=>if b=x.block/\x.off<=o/\o<x.off+len then some (.int k (zs.getD (o - x.off) 0)) else none
theorem OR (G:GG) (k:IntKind) (zs:List Int) (h:∀n ∈ zs,(Lit.int k n).wf=true):xU G (zs.map (MT.int k)) (zs.map (Value.int k)):=by
 induction zs with
 | nil=>exact .nil
 | cons z zs ih=>exact .int (h z (by simp)) (ih λn hn=>h n (by simp [hn]))
def Ef (G H:GG):GG:=λb o=>match G b o with | some v=>some v | none=>H b o
theorem PC {w:World} {G H:GG} (h:DC w G) (k:DC w H):DC w (Ef G H):=by
 intro b o v hv;unfold Ef at hv
 split at hv
 ·rename_i u hu;injection hv with hv;subst hv;exact h _ _ _ hu
 ·exact k _ _ _ hv
theorem MJ {G H:GG} {b o:Nat} {v:Value} (h:G b o=some v):Ef G H b o=some v:=by simp [Ef,h]
theorem Lq {w:World} {G H:GG} (h:DC w G) (k:DC w H) {b o:Nat} {v:Value} (hv:H b o=some v):Ef G H b o=some v:=by
 unfold Ef
 split
 ·rename_i u hu;have h1:=h _ _ _ hu;have h2:=k _ _ _ hv;rw [h1] at h2;exact h2
 ·exact hv
theorem CB.le {G G':GG} (hle:∀b o v,G b o=some v->G' b o=some v) {es:List MT} {a:Option Addr} {len cap:Nat} (h:CB G es a len cap):CB G' es a len cap:=by
 obtain ⟨h0,hc,hm,cs,h1,ha⟩:=h;refine ⟨h0,hc,hm,cs,h1.mono hle,λhl=>?_⟩;obtain ⟨b,off,e,h⟩:=ha hl;exact ⟨b,off,e,λi u hu=>hle _ _ _ (h i u hu)⟩
theorem row_in {k:IntKind} {w:World} {a:Option Addr} {len cap:Nat} {zs:List Int}
  (h:(a=none/\len=0/\cap=0/\zs=[]) ∨ ∃x,a=some x/\len<=cap/\cap<=maxLen/\zs.length=cap/\(∀i,i<zs.length->w.cell? (x.add i)=some (.int k (zs.getD i 0)))/\∀n ∈ zs,(Lit.int k n).wf=true) :
  ∃G,DC w G/\CB G ((zs.take len).map (MT.int k)) a len cap/\(zs.take len).length=len/\∀n ∈ zs.take len,(Lit.int k n).wf=true:=by
 rcases h with ⟨rfl,rfl,rfl,rfl⟩ | ⟨x,rfl,hlc,hm,hz,hcell,hwf⟩
 ·exact ⟨λ_ _=>none,λb o v h=>(by cases h),⟨rfl,tM _,by decide,[],.nil,λh=>by cases h⟩,rfl,by simp⟩
 ·have hwf':∀n ∈ zs.take len,(Lit.int k n).wf=true:=λn hn=>hwf n (LE hn);have hlen:(zs.take len).length=len:=by rw [In];omega
  rcases Nat.eq_zero_or_pos len with h0 | h0
  ·subst h0;exact ⟨λ_ _=>none,λb o v h=>(by cases h),⟨by simp,NS _,hm,[],by simpa using .nil,λh=>by cases h⟩,rfl,by simp⟩
  ·have hsp:x=⟨x.block,x.off,none⟩:=by
    have h1:=hcell 0 (by omega);cases hs:x.spot with
    | none=>cases x;simp_all
    | some s=>
      unfold World.cell? Addr.add at h1;rw [if_pos rfl,hs] at h1
      split at h1 <;> simp at h1
   refine ⟨rowG x len k zs,λb o v hv=>?_,⟨by simp;omega,hlc,hm,(zs.take len).map (Value.int k),OR _ _ _ hwf',λ_=>⟨x.block,x.off,by rw [←hsp],λi u hu=>?_⟩⟩,hlen,hwf'⟩
   ·unfold rowG at hv
    split at hv
    ·rename_i hb
     injection hv with hv
     subst hv;have:=hcell (o - x.off) (by omega);rw [hsp,nD] at this;rw [hb.1,←this]
     congr 2;simp;omega
    ·cases hv
   ·have hi:i<len:=by have:=(uD.1 hu).1;simp at this;omega
    unfold rowG;rw [if_pos ⟨rfl,by omega,by omega⟩];rw [show x.off+i - x.off=i by omega];rw [jJ,xew hi,yP (by omega)] at hu;rw [List.getD_eq_getElem?_getD,yP (by omega)];exact hu
end Go.Proofs.YtljbbjpbefjpiaaGreatDoor
namespace Go.Proofs.YtljbbjpbefjpiaaGreatDoor.Abs
open Go.RowKit
abbrev cB:=List UInt8
def bs (l:cB):ByteArray:=⟨l.toArray⟩
def RU (i:Int):cB:=(Utf8.encode i).data.toList
@[go_sem] theorem enc_bs {i:Int}:Utf8.encode i=bs (RU i):=rI rfl
theorem AD (l:cB):(bs l).size=l.length:=by simp [bs,ByteArray.size]
theorem Sm {a b:cB}:bs a=bs b ↔ a=b:=by
 constructor
 ·intro h;have:=congrArg (λx:ByteArray=>x.data.toList) h;simpa [bs] using this
 ·rintro rfl;rfl
theorem PB (a b:cB):bs a++bs b=bs (a++b):=by
 apply ByteArray.ext;rw [ByteArray.data_append];simp [bs]
theorem Sn (l:cB) (i:Nat) (h:i<(bs l).size):(bs l)[i]=l[i]'(by rw [AD] at h;exact h):=by
 show (bs l).data[i]=_;simp [bs]
theorem MI (l:cB) (a b:Nat):(bs l).extract a b=bs ((l.take b).drop a):=by
 apply ByteArray.ext;rw [ByteArray.data_extract];apply Array.ext';simp [bs,List.drop_take]
def mT (l:cB):List (List V):=l.map λb=>[.lit (.int .u8 (b.toNat:Int))]
theorem Fk (l:cB):lZ (bs l)=mT l:=by simp [lZ,mT,bs]
def sgo (o:Option UInt8) (C:V->Prop):Prop:=match o with | some c=>C (.lit (.int .u8 (c.toNat:Int))) | none=>False
section
variable {P:Program} {T:TypeId} {x y:Operand} {C:V->Prop} {m:M} {E:fC} {s t l:cB} {k:IntKind} {i:Int} {o:Im} {f:FuncId} {args:List V} {q p:Pa}
@[go_sem] theorem QO {c:UInt8}:sgo (some c) C=C (.lit (.int .u8 (c.toNat:Int))):=rI rfl
@[congr] theorem sgo_congr {o o':Option UInt8} (h:o=o'):sgo o C=sgo o' C:=by rw [h]
@[go_sem high] theorem ev_strb:ev m E (.const (.string ⟨l.toArray⟩))=.lit (.string (bs l)):=rI rfl
@[go_sem high] theorem sbin_seqlb:qQ P .eql T x y (.lit (.string (bs s))) (.lit (.string (bs t))) C=C (.lit (.bool (decide (s=t)))):=by
 rw [OF];simp only [Sm]
@[go_sem high] theorem sbin_sneqb:qQ P .neq T x y (.lit (.string (bs s))) (.lit (.string (bs t))) C=C (.lit (.bool (decide (s ≠ t)))):=by
 have:((bs s).toList == (bs t).toList)=decide (s=t):=by
  by_cases h:s=t
  ·subst h;simp
  ·have:¬ (bs s).toList=(bs t).toList:=λe=>h (Sm.1 (xL e));simp [h,this]
 simp [qQ,this]
@[go_sem high] theorem sbin_saddb:qQ P .add T x y (.lit (.string (bs s))) (.lit (.string (bs t))) C=(s.length+t.length<=4611686018427387904/\C (.lit (.string (bs (s++t))))):=by
 rw [OH,AD,AD,PB]
@[go_sem high] theorem slenU_sb:IF .str (.lit (.string (bs s))) C=C (.lit (.int .i64 s.length)):=by rw [slenU_s,AD]
@[go_sem high] theorem sindexU_sb:EN P .str (.lit (.string (bs s))) (.lit (.int k i)) C=(0<=i/\sgo s[i.toNat]? C):=by
 rw [Oo];apply propext;refine and_congr_right λ_=>?_
 by_cases h:i.toNat<s.length
 ·have h':i.toNat<(bs s).size:=by rw [AD];exact h
  rw [yP h,QO];exact ⟨λ⟨_,hc⟩=>by rw [Sn] at hc;exact hc,λhc=>⟨h',by rw [Sn];exact hc⟩⟩
 ·rw [xdw (by omega)];exact ⟨λ⟨h',_⟩=>absurd (by rw [AD] at h';exact h') h,λhc=>hc.elim⟩
def slB:Option Int->Option Int->cB->(V->Prop)->Prop
 | some a,some b,s,C=>0<=a/\a<=b/\b<=s.length/\C (.lit (.string (bs ((s.take b.toNat).drop a.toNat))))
 | _,_,_,_=>False
@[go_sem high] theorem slU_sb {lo hi:Option V}:LP P .str (.lit (.string (bs s))) lo hi C=slB (mW lo 0) (mW hi s.length) s C:=by
 rw [slU_s,AD];unfold slS slB;cases mW lo 0 <;> cases mW hi s.length <;> first | rfl | (simp only [AD,MI])
@[go_sem] theorem slB_some {a b:Int}:slB (some a) (some b) s C=(0<=a/\a<=b/\b<=s.length/\C (.lit (.string (bs ((s.take b.toNat).drop a.toNat))))):=rI rfl
@[go_sem high] theorem cvU_lsb {D e:TypeId}:cvU P T D (.sl e) .str (.list o (mT s)) C=(ud P e=.int .u8/\C (.lit (.string (bs s)))):=by
 rw [←Fk,cvU_ls]
@[congr] theorem slB_congr {a a' b b':Option Int} {s s':cB} (h1:a=a') (h2:b=b') (h3:s=s'):slB a b s C=slB a' b' s' C:=by rw [h1,h2,h3]
theorem SC.by_ {C:V->M->Prop} {v:V} {m':M} (h:SC P f args q m (λr m1=>r=v/\m1=m')) (hC:C v m'):SC P f args q m C:=
 h.mono λ_ _ ⟨e1,e2⟩=>by rw [e1,e2];exact hC
theorem EP {a:List V} (h:m.blk p=some a):m.set p a=m:=by
 cases m with | mk blk ver tok gl=>
 unfold M.set
 congr 1
 funext i
 show (if i=p then some a else blk i)=blk i
 split
 ·rename_i hi;rw [hi];exact h.symm
 ·rfl
theorem bH {m2:M} {a:List V} (h:¬ q <:+ p):m.back q (m2.set p a)=(m.back q m2).set p a:=by
 have hs:¬ q.isSuffixOf p=true:=λe=>h (NT.1 e);unfold M.back M.set
 congr 1
 funext i
 show (if q.isSuffixOf i then m.blk i else if i=p then some a else m2.blk i)=(if i=p then some a else if q.isSuffixOf i then m.blk i else m2.blk i)
 by_cases h1:i=p
 ·subst h1;rw [if_neg hs,if_pos rfl,if_pos rfl]
 ·rw [if_neg h1,if_neg h1]
end
attribute [go_sem] iG jA kO jV lI iV jR iC true_and and_true kQ jU kN lD kU kT gK iT jI kS kP jJ kX kE false_implies implies_true lC kW beq_self_eq_true lH lG kY lB Bool.or_false Bool.false_or Bool.and_false Bool.false_and List.forall_mem_map Int.natCast_nonneg yV decide_true decide_false xer
theorem Iq {G:GG} {k:IntKind}:∀ {zs:List Int} {cs:List Value},xU G (zs.map (MT.int k)) cs->cs=zs.map (Value.int k):=by
 intro zs
 induction zs with
 | nil=>intro cs h;exact h.inv_nil
 | cons z zs ih=>
   intro cs h;obtain ⟨xs,rfl,_,h2⟩:=h.inv_int;rw [ih h2];rfl
theorem QI {c:Conc} {k:IntKind} {a:Option Addr} {len cap:Nat} {zs:List Int} (h:CB c.G (zs.map (MT.int k)) a len cap):CR c [.list .none (zs.map λz=>[.lit (.int k z)])] [.slice a len cap]:=by
 obtain ⟨h0,h1,h2,cs,h3,h4⟩:=h;obtain rfl:=Iq h3;rw [jI] at h0;subst h0;refine ints_in h1 h2 (λhl=>?_) (λhl=>?_)
 ·obtain ⟨b,off,e,_⟩:=h4 hl;exact ⟨b,off,e⟩
 ·rw [jI] at hl;exact h4 hl
theorem Si {c:Conc} {a:Option Addr} {len cap:Nat} {zs:List Int} (h:CB c.G (zs.map (MT.int .u8)) a len cap) (hw:∀n ∈ zs,(Lit.int .u8 n).wf=true):CR c [.list .none (mT (zs.map λz=>z.toNat.toUInt8))] [.slice a len cap]:=by
 have e:mT (zs.map λz=>z.toNat.toUInt8)=zs.map λz=>[V.lit (.int .u8 z)]:=by
  unfold mT;rw [xdz];refine xdm λz hz=>?_;have h1:=hw z hz
  have h2:0<=z/\z<256:=by
   simp [Lit.wf,IntKind.min,IntKind.max,IntKind.signed,IntKind.bits] at h1
   omega
  simp only [Function.comp]
  have h3:((z.toNat.toUInt8.toNat:Nat):Int)=z:=by
   rw [Nat.toUInt8,UInt8.toNat_ofNat'];omega
  rw [h3]
 rw [e];exact QI h
def iU {α:Type} (p:Prop) [Decidable p] (x:Option α):Option α:=if p then x else none
theorem dK {α:Type} {p:Prop} [Decidable p] {x:Option α} {r:α} (h:iU p x=some r):p/\x=some r:=by
 unfold iU at h
 split at h
 ·rename_i hp;exact ⟨hp,h⟩
 ·cases h
theorem dN {α:Type} {p:Prop} [Decidable p] {x:Option α} (hp:p):iU p x=x:=if_pos hp
theorem aH {α β:Type} {x:Option α} {f:α->Option β} {r:β} (h:x.bind f=some r):∃a,x=some a/\f a=some r:=Option.bind_eq_some_iff.1 h
theorem bool_or (b:Bool):b=true ∨ b=false:=by cases b <;> simp
def bY {α:Type} (l:List α) (i:Int):Option α:=if 0<=i then l[i.toNat]? else none
theorem cO {α:Type} {l:List α} {i:Int} {x:α} (h:bY l i=some x):0<=i/\i<l.length/\l[i.toNat]? = some x:=by
 unfold bY at h
 split at h
 ·rename_i h0;obtain ⟨h1,_⟩:=uD.1 h;exact ⟨h0,by omega,h⟩
 ·cases h
theorem Fd {α:Type} {l:List α} {i:Nat}:bY l (i:Int)=l[i]? := by
 unfold bY;rw [if_pos (by omega),yV]
theorem ite_t {α:Type} {b:Bool} {x y:α} {r:α} (hb:b=true) (h:(if b=true then x else y)=r):x=r:=by rw [hb] at h;exact h
theorem ite_f {α:Type} {b:Bool} {x y:α} {r:α} (hb:b=false) (h:(if b=true then x else y)=r):y=r:=by rw [hb] at h;exact h
theorem bX {α:Type} {x y:α} (h:some x=some y):x=y:=by injection h
section
variable {P:Program} {N:Nat} {π:Pa} {k:Nat} {E:fC} {m:M} {Q:Exit->Nat->fC->M->Prop} {q p:Pa} {f:FuncId} {args:List V} {R:V->M->Prop}
theorem least {p:Nat->Prop} (h:∃c,p c):∃c,p c/\∀d,p d->c<=d:=by
 obtain ⟨c,hc⟩:=h
 induction c using Nat.strongRecOn with
 | _ c ih=>
   by_cases hx:∃d,d<c/\p d
   ·obtain ⟨d,hd,hp⟩:=hx;exact ih d hd hp
   ·exact ⟨c,hc,λd hd=>Nat.le_of_not_lt λhlt=>hx ⟨d,hlt,hd⟩⟩
theorem SA {body:Code} (CG:Nat->fC->M->Prop) (c0:Nat) (h0:CG c0 E m)
  (step:∀(i c:Nat) (E':fC) (m':M),CG c E' m'->(∀t,wr body t=false->E' t=E t)->SW P N (i::k::π) body 0 E' m' (pW (λ_ E2 m2=>∃c',c'<c/\CG c' E2 m2) λe _ E2 m2=>Q e (k+1) E2 m2)) :
  SW P N π (.loop body) k E m Q:=by
 have hμ:∀(E:fC) (m:M),∃c,(∃c',CG c' E m)->CG c E m/\∀d,CG d E m->c<=d:=by
  intro E m
  by_cases h:∃c',CG c' E m
  ·obtain ⟨c,h1,h2⟩:=least h;exact ⟨c,λ_=>⟨h1,h2⟩⟩
  ·exact ⟨0,λh'=>absurd h' h⟩
 refine PS (λE m=>∃c,CG c E m) (λE m=>Classical.choose (hμ E m)) ⟨c0,h0⟩ λi E' m' hI hf=>?_;obtain ⟨h1,h2⟩:=Classical.choose_spec (hμ E' m') hI;refine vU (step i _ E' m' h1 hf) λe k2 E2 m2 h=>?_;cases e with
 | normal=>
   obtain ⟨c',hc,hI2⟩:=h;obtain ⟨h3,h4⟩:=Classical.choose_spec (hμ E2 m2) ⟨c',hI2⟩;exact ⟨⟨c',hI2⟩,Nat.lt_of_le_of_lt (h4 c' hI2) hc⟩
 | _=>exact h
theorem SC.apart {cs:List V} (hm:m.blk p=some cs) (h:¬ q <:+ p->SC P f args q m R):SC P f args q m R:=by
 intro c xs w h1 h2 h3;refine h (λhs=>?_) c xs w h1 h2 h3;have:=h1.fresh_blk (h3 p hs);rw [hm] at this;cases this
theorem pa1 (hp:¬ q <:+ p) {a:Nat}:(a::q=p)=False:=eq_false λh=>hp (h ▸ jL sV)
theorem pa3 (hp:¬ q <:+ p) {a b c:Nat}:(a::b::c::q=p)=False:=eq_false λh=>hp (h ▸ jL (jL (jL sV)))
theorem pa5 (hp:¬ q <:+ p) {a b c d e:Nat}:(a::b::c::d::e::q=p)=False:=eq_false λh=>hp (h ▸ jL (jL (jL (jL (jL sV)))))
theorem pb1 (hp:¬ q <:+ p) {a:Nat}:(p=a::q)=False:=eq_false λh=>hp (h ▸ jL sV)
theorem pb3 (hp:¬ q <:+ p) {a b c:Nat}:(p=a::b::c::q)=False:=eq_false λh=>hp (h ▸ jL (jL (jL sV)))
theorem pb5 (hp:¬ q <:+ p) {a b c d e:Nat}:(p=a::b::c::d::e::q)=False:=eq_false λh=>hp (h ▸ jL (jL (jL (jL (jL sV)))))
@[go_sem] theorem sf1 {a:Nat}:(q <:+ a::q)=True:=eq_true (jL sV)
@[go_sem] theorem sf3 {a b c:Nat}:(q <:+ a::b::c::q)=True:=eq_true (jL (jL (jL sV)))
@[go_sem] theorem sf5 {a b c d e:Nat}:(q <:+ a::b::c::d::e::q)=True:=eq_true (jL (jL (jL (jL (jL sV)))))
end
@[go_sem] theorem byteRows_len {l:cB}:(mT l).length=l.length:=by simp [mT]
@[go_sem] theorem byteRows_all {l:cB}:(∀r ∈ mT l,r.length=1)=True:=by
 apply eq_true;intro r hr;obtain ⟨b,_,rfl⟩:=Ge.1 hr;rfl
@[go_sem] theorem int0:Int.toNat 0=0:=rI rfl
attribute [go_sem] NS lF lE tM NR and_self
