/- Lemmas of ours. -/
import Derived.Test.YtncembphlfbgoaaGreatDoorIPTyp
import Derived.ProofKit
namespace Go.Proofs.YtncembphlfbgoaaGreatDoor.Abs
open IntKind (i64 u32 u64 u8)
open Go.RowKit
set_option linter.unusedVariables false
def qV (z:Int):Prop:=0<=z/\z<18446744073709551616
theorem qV.wrap (z:Int):qV (u64.wrap z):=by
 simp only [qV,IntKind.wrap,IntKind.bits,IntKind.signed,Bool.false_and,yI,if_false];omega
theorem Dn (z:Int):0<=u32.wrap z/\u32.wrap z<4294967296:=by
 simp only [IntKind.wrap,IntKind.bits,IntKind.signed,Bool.false_and,yI,if_false];omega
theorem w32_id {z:Int} (h:0<=z) (h':z<4294967296):u32.wrap z=z:=by
 simp only [IntKind.wrap,IntKind.bits,IntKind.signed,Bool.false_and,yI,if_false];omega
theorem qV.w32 (z:Int):qV (u32.wrap z):=⟨(Dn z).1,by have:=(Dn z).2;omega⟩
theorem qV.shr {a:Int} (h:qV a) (b:Int):qV (KC .u64 a b):=by
 show qV (a.fdiv _);rw [Int.fdiv_eq_ediv_of_nonneg _ (Int.pow_nonneg (by decide))];refine ⟨Int.ediv_nonneg h.1 (Int.pow_nonneg (by decide)),Int.lt_of_le_of_lt (Int.ediv_le_self _ h.1) h.2⟩
theorem qV.one:qV 1:=⟨by decide,by decide⟩
theorem qV.zero:qV 0:=⟨by decide,by decide⟩
theorem Iq {c:Bool}:bE (vG c) qV:=by
 cases c
 ·exact .some qV.zero
 ·exact .some qV.one
theorem EC {c:Bool}:bE (vZ c) fun _=>True:=by
 cases c
 ·exact .some trivial
 ·exact .some trivial
theorem OD {a b:Int}:bE (mJ a b) qV:=by
 unfold mJ;exact bE.need (qV.wrap _).1 (bE.need (qV.wrap _).1 (.some (qV.wrap _)))
theorem OE {a b:Int}:bE (mK a b) fun _=>True:=by
 unfold mK;exact bE.need (qV.wrap _).1 (bE.need (qV.wrap _).1 (.some trivial))
theorem Km {op:cQ} {a b:Int} (ha:qV a) (hb:qV b):bE (uQ op a b) qV:=by
 unfold uQ;refine bE.iteb (fun _=>.some (qV.wrap _)) fun _=>?_;refine bE.iteb (fun _=>.some (qV.wrap _)) fun _=>?_;refine bE.iteb (fun _=>.some (qV.wrap _)) fun _=>?_;refine bE.iteb (fun _=>.some (qV.wrap _)) fun _=>?_;refine bE.iteb (fun _=>.some (qV.wrap _)) fun _=>?_;refine bE.iteb (fun _=>bE.need hb.1 (.some (qV.wrap _))) fun _=>?_;refine bE.iteb (fun _=>bE.need hb.1 (.some (ha.shr _))) fun _=>?_;refine bE.iteb (fun _=>bE.bind OD fun _ h=>.some h) fun _=>?_;refine bE.iteb (fun _=>bE.bind Iq fun _ h=>.some h) fun _=>?_;refine bE.iteb (fun _=>bE.bind Iq fun _ h=>.some h) fun _=>?_;exact bE.iteb (fun _=>.some (qV.wrap _)) fun _=>.some (qV.wrap _)
theorem OT {o a b:Int}:bE (yM o a b) fun _=>True:=by
 unfold yM;refine bE.iteb (fun _=>.some trivial) fun _=>?_;refine bE.iteb (fun _=>.some trivial) fun _=>?_;refine bE.iteb (fun _=>.some trivial) fun _=>?_;refine bE.iteb (fun _=>bE.need (Dn _).1 (.some trivial)) fun _=>?_;refine bE.iteb (fun _=>bE.need (Dn _).1 (.some trivial)) fun _=>?_;exact bE.bind OE fun _ _=>.some trivial
theorem two_tot {o a b:Int}:bE (yL o a b) fun _=>True:=by
 unfold yL;refine bE.iteb (fun _=>bE.bind EC fun _ _=>.some trivial) fun _=>?_;refine bE.iteb (fun _=>bE.bind EC fun _ _=>.some trivial) fun _=>?_;refine bE.iteb (fun _=>.some trivial) fun _=>?_;refine bE.iteb (fun _=>.some trivial) fun _=>?_;refine bE.iteb (fun _=>.some trivial) fun _=>?_;refine bE.iteb (fun _=>bE.iteb (fun _=>.some trivial) fun h=>bE.need (by simpa using h) (.some trivial)) fun _=>?_;refine bE.iteb (fun _=>bE.iteb (fun _=>.some trivial) fun h=>bE.need (by simpa using h) (.some trivial)) fun _=>?_;exact bE.bind OT fun _ _=>.some trivial
theorem op_tot {s:cQ}:∀(c j:Nat),j<=15->15<j+c->bE (qF s c (j:Int)) fun _=>True:=by
 intro c
 induction c with
 | zero=>intro j h1 h2;omega
 | succ c ih=>
   intro j h1 h2;unfold qF;have hlen:dR.length=15:=by kernel_rfl
   refine bE.iteb (fun h=>?_) fun _=>.some trivial;have h:=Dk h;refine bE.bind (bE.idx (Q:=fun _=>True) (by omega) (by omega) fun _ _=>trivial) fun x _=>?_;refine bE.iteb (fun _=>.some trivial) fun _=>?_;rw [fG (by omega) (by omega)];exact ih (j+1) (by omega) (by omega)
theorem JV {s:cQ} {n:Nat} (hn:16<=n):bE (sE n s) fun _=>True:=by
 unfold sE;exact bE.bind (op_tot n 0 (by omega) (by omega)) fun y _=>bE.elim (fun _ _=>.some trivial) fun _ _=>.some trivial
theorem IL {o a:Int} {n:Nat} (hn:2<=n):bE (jE n (aY.mk o 0 [aY.mk 1 a []]) []) fun _=>True:=by
 obtain ⟨m,rfl⟩:∃m,n=m+2:=⟨n - 2,by omega⟩;rw [jE];unfold qB;refine bE.iteb (fun h=>by simp at h) fun _=>?_;have h1:jE (m+1) (aY.mk 1 a []) []=some (a,true):=rfl;rw [show bV ([aY.mk 1 a []]:List aY) 0=some (aY.mk 1 a []) from rfl,mS,h1,mS];refine bE.bind (P:=fun y=>y=true) (.some rfl) fun y hy=>?_;subst hy;refine bE.iteb (fun _=>?_) fun h=>by cases h
 refine bE.bind EC fun _ _=>bE.bind (P:=fun _=>True) ?_ fun _ _=>.some trivial;unfold ES;exact bE.iteb (fun _=>.some trivial) fun _=>.some trivial
theorem IK {o a b:Int} {n:Nat} (hn:2<=n):bE (jE n (aY.mk o 0 [aY.mk 1 a [],aY.mk 1 b []]) []) fun _=>True:=by
 obtain ⟨m,rfl⟩:∃m,n=m+2:=⟨n - 2,by omega⟩;rw [jE];unfold qB;refine bE.iteb (fun h=>by simp at h) fun _=>?_;have h1:∀z,jE (m+1) (aY.mk 1 z []) []=some (z,true):=fun _=>rfl;rw [show bV ([aY.mk 1 a [],aY.mk 1 b []]:List aY) 0=some (aY.mk 1 a []) from rfl,mS,h1,mS];refine bE.bind (P:=fun y=>y=false) (.some rfl) fun y hy=>?_;subst hy;refine bE.iteb (fun h=>by cases h) fun _=>?_;rw [show bV ([aY.mk 1 a [],aY.mk 1 b []]:List aY) 1=some (aY.mk 1 b []) from rfl,mS,h1,mS];refine bE.iteb (fun h=>by cases h) fun _=>?_;exact bE.bind two_tot fun _ _=>.some trivial
theorem FC (n:Nat):bU (n+1)=cY (gK n) (bU n) n:=by
 show (eZ (n+1)).1=_;rw [eZ];rfl
theorem FQ (n:Nat):gK (n+1)=iC (bU n) n:=by
 show (eZ (n+1)).2=_;rw [eZ];rfl
structure Dj (fr:aJ) (hs:List (List Int)):Prop where
 wl:fr.cC.length=fr.f_.aV.length
 al:fr.cE.length=fr.f_.aV.length
 w:∀z ∈ fr.cC,qV z
 r:qV fr.oP
 lt:∀k ∈ fr.cE,k<(hs.length:Int)
 ar:∀(i:Nat) v,fr.f_.aV[i]? = some v->v.bX=4->∃k a,fr.cE[i]? = some k/\0<=k/\hs[k.toNat]? = some a/\(a.length:Int)=v.jB
 vo:∀v ∈ fr.f_.aV,CS v
structure VP (r:aE) (k:Nat) (x:Int × aE):Prop where
 w:qV x.1
 p:x.2.p_=r.p_
 f:x.2.eB=r.eB
 e:x.2.e_=r.e_
 t:x.2.bT.length<=r.bT.length+k
theorem rG (r:aE):bE (bN r) fun b=>b=false->r.e_=0:=by
 unfold bN;refine bE.bind (P:=fun b=>b=false->r.e_=0) (bE.iteb (fun _=>.some fun h=>by cases h) fun _=>.some fun h=>by simpa using h) fun _ h=>.some h
theorem Fa {r:aE} {a b c:Int} (h:r.bT.length+1<=1073741824):bE (eQ r a b c) fun x=>x.p_=r.p_/\x.eB=r.eB/\x.e_=r.e_/\x.fQ=r.fQ/\x.bT.length=r.bT.length+1:=by
 unfold eQ;exact bE.need (by simpa using h) (.some ⟨rfl,rfl,rfl,rfl,by simp⟩)
theorem Sh {rc:aE->aJ->List (List Int)->aG->Option (Int × aE)} {e:aG} {fr:aJ} {hs:List (List Int)}
  (hr:∀x ∈ e.aM,∀r:aE,r.bT.length+xz x<=1073741824->bE (rc r fr hs x) (VP r (xz x))) (hl:e.aM.length<10) :
  ∀(c j:Nat) (vs:List Int) (r:aE),j<=e.aM.length->e.aM.length<j+c->vs.length=j->(∀z ∈ vs,qV z)->r.bT.length+tY (e.aM.drop j)<=1073741824 ->
   bE (dY rc e fr hs c vs (j:Int) r) fun s=>match s with
    | .inl x=>x.1.length=e.aM.length/\(∀z ∈ x.1,qV z)/\VP r (tY (e.aM.drop j)) (0,x.2)
    | .inr x=>VP r (tY (e.aM.drop j)) x:=by
 intro c
 induction c with
 | zero=>intro j vs r h1 h2;omega
 | succ c ih=>
   intro j vs r h1 h2 h3 h4 h5;unfold dY;refine bE.iteb (fun h=>?_) fun h=>?_
   ·have h:=Dk h;have hj:j<e.aM.length:=by omega
    have hd:e.aM.drop j=e.aM[j]::e.aM.drop (j+1):=NU hj;rw [hd,tY] at h5 ⊢;refine bE.eqn (v:=e.aM[j]) (by unfold bV;rw [if_pos (by omega),yG,tA hj]) ?_;refine bE.bind (hr _ (xdw _) r (by omega)) fun x hx=>?_;refine bE.bind (rG _) fun b hb=>?_;have hp:=Dl e.aM[j];refine bE.iteb (fun _=>.some ?_) fun _=>?_
    ·exact ⟨qV.zero,hx.p,hx.f,hx.e,by have:=hx.t;simp only;omega⟩
    ·refine bE.need (by simp only [uW];omega) ?_;rw [fG (by omega) (by omega)];refine (ih (j+1) (vs++[x.1]) x.2 (by omega) (by omega) (by simp [h3]) (fun z hz=>?_) (by have:=hx.t;omega)).mono fun s hs=>?_
     ·rcases At.1 hz with hz | hz
      ·exact h4 z hz
      ·rw [zN.1 hz];exact hx.w
     ·cases s with
      | inl y=>exact ⟨hs.1,hs.2.1,qV.zero,hs.2.2.p.trans hx.p,hs.2.2.f.trans hx.f,hs.2.2.e.trans hx.e,by have h6:=hs.2.2.t;have h7:=hx.t;simp only at h6 ⊢;omega⟩
      | inr y=>exact ⟨hs.w,hs.p.trans hx.p,hs.f.trans hx.f,hs.e.trans hx.e,by have h6:=hs.t;have h7:=hx.t;omega⟩
   ·have h:¬ (j:Int)<(e.aM.length:Int):=by simpa using h
    exact .some ⟨by show vs.length=_;omega,h4,qV.zero,rfl,rfl,rfl,by simp only;omega⟩
theorem VP.refl {r:aE} {v:Int} (h:qV v) {k:Nat}:VP r k (v,r):=⟨h,rfl,rfl,rfl,Nat.le_add_right _ _⟩
theorem VP.more {r:aE} {k l:Nat} {x:Int × aE} (h:VP r k x) (hk:k<=l):VP r l x:=⟨h.w,h.p,h.f,h.e,by have:=h.t;omega⟩
theorem VP.trans {r:aE} {k l:Nat} {v:Int} {s:aE} {x:Int × aE} (h:VP r k (v,s)) (h':VP s l x):VP r (k+l) x:=⟨h'.w,h'.p.trans h.p,h'.f.trans h.f,h'.e.trans h.e,by have h1:=h.t;have h2:=h'.t;simp only at h1;omega⟩
theorem KS {n:Nat} (hn:20<=n) {r:aE} {e:aG} {vs:List Int} (hl:0<e.aM.length) (hv:vs.length=1 ∨ vs.length=2) (hw:∀z ∈ vs,qV z) (ht:r.bT.length+1<=1073741824) :
  bE (eG n r e vs) (VP r 1):=by
 obtain ⟨m,rfl⟩:∃m,n=m+20:=⟨n - 20,by omega⟩;unfold eG;refine bE.bind (P:=fun _=>True) (bE.iteb (fun _=>bE.bind (bE.idx (Q:=fun _=>True) (by omega) (by omega) fun _ _=>trivial) fun _ _=>.some trivial) fun _=>.some trivial) fun y2 _=>?_
 have hsee:∀ {s:aE},s.p_=r.p_/\s.eB=r.eB/\s.e_=r.e_/\s.fQ=r.fQ/\s.bT.length=r.bT.length+1->∀ {z:Int},qV z->VP r 1 (z,s)/\∀t,VP r 1 (z,{ s with fQ:=t }):=by
  rintro s ⟨h1,h2,h3,_,h5⟩ z hz;exact ⟨⟨hz,h1,h2,h3,by simp only;omega⟩,fun t=>⟨hz,h1,h2,h3,by simp only;omega⟩⟩
 have hself:∀ {z:Int},qV z->VP r 1 (z,r)/\∀t,VP r 1 (z,{ r with fQ:=t }):=fun {z} hz=>⟨VP.refl hz,fun t=>⟨hz,rfl,rfl,rfl,Nat.le_add_right _ _⟩⟩
 rcases hv with hv | hv
 ·obtain ⟨x,rfl⟩:∃x,vs=[x]:=by
   match vs,hv with
   | [x],_=>exact ⟨x,rfl⟩
  have hx:=hw x (by simp);refine bE.iteb (fun h=>by simp at h) fun _=>?_;refine bE.iteb (fun _=>?_) fun _=>?_
  ·refine bE.eqn (v:=x) rfl ?_;exact bE.bind (Km hx qV.zero) fun z hz=>.some (VP.refl hz)
  ·refine bE.bind (P:=fun _=>True) (bE.iteb (fun _=>.some trivial) fun _=>.some trivial) fun yd _=>?_;refine bE.iteb (fun _=>?_) fun _=>?_
   ·refine bE.eqn (v:=x) rfl ?_;refine bE.bind (Fa ht) fun s hs=>?_;refine bE.bind (JV (by omega)) fun o _=>?_;refine bE.eqn (v:=aY.mk o 0 [aY.mk 1 (u32.wrap x) []]) rfl ?_;refine bE.bind (IL (by omega)) fun q _=>?_;exact bE.iteb (fun _=>.some ((hsee hs (qV.wrap _)).2 2)) fun _=>.some (hsee hs (qV.wrap _)).1
   ·refine bE.bind (JV (by omega)) fun o _=>?_;refine bE.eqn (v:=aY.mk o 0 [aY.mk 1 (u32.wrap x) []]) rfl ?_;refine bE.bind (IL (by omega)) fun q _=>?_;exact bE.iteb (fun _=>.some ((hself (qV.wrap _)).2 2)) fun _=>.some (hself (qV.wrap _)).1
 ·obtain ⟨x,y,rfl⟩:∃x y,vs=[x,y]:=by
   match vs,hv with
   | [x,y],_=>exact ⟨x,y,rfl⟩
  have hx:=hw x (by simp);have hy:=hw y (by simp);refine bE.iteb (fun _=>?_) fun h=>by simp at h
  refine bE.eqn (v:=y) rfl ?_;refine bE.iteb (fun _=>?_) fun _=>?_
  ·refine bE.eqn (v:=x) rfl ?_;exact bE.bind (Km hx hy) fun z hz=>.some (VP.refl hz)
  ·refine bE.bind (P:=fun _=>True) (bE.iteb (fun _=>.some trivial) fun _=>.some trivial) fun yd _=>?_;refine bE.iteb (fun _=>?_) fun _=>?_
   ·refine bE.eqn (v:=x) rfl ?_;refine bE.bind (Fa ht) fun s hs=>?_;refine bE.bind (JV (by omega)) fun o _=>?_;refine bE.eqn (v:=aY.mk o 0 [aY.mk 1 (u32.wrap x) [],aY.mk 1 (u32.wrap y) []]) rfl ?_;refine bE.bind (IK (by omega)) fun q _=>?_;exact bE.iteb (fun _=>.some ((hsee hs (qV.wrap _)).2 2)) fun _=>.some (hsee hs (qV.wrap _)).1
   ·refine bE.bind (JV (by omega)) fun o _=>?_;refine bE.eqn (v:=aY.mk o 0 [aY.mk 1 (u32.wrap x) [],aY.mk 1 (u32.wrap y) []]) rfl ?_;refine bE.bind (IK (by omega)) fun q _=>?_;exact bE.iteb (fun _=>.some ((hself (qV.wrap _)).2 2)) fun _=>.some (hself (qV.wrap _)).1
def NG (op:cQ):Nat:=if op=[115,101,108,101,99,116] then 3 else if op=[119,105,100,101] then 2 else 1
theorem Ao {vs:List Int} {i:Nat} (h:i<vs.length) (hw:∀z ∈ vs,qV z):bE (bV vs (i:Int)) qV:=bE.idx (by omega) (by omega) fun x hx=>hw x (Al hx)
theorem Px {op:cQ} {vs:List Int} (hl:NG op<=vs.length) (hw:∀z ∈ vs,qV z):bE (rU op vs) fun x=>qV x.1/\(x.2=false->op ≠ [115,101,108,101,99,116]/\op ≠ [108,111,110,103]/\op ≠ [108,111]/\op ≠ [104,105]/\op ≠ [119,105,100,101]):=by
 unfold rU;unfold NG at hl;refine bE.iteb (fun h=>?_) fun h1=>?_
 ·have h:=Dk h;rw [if_pos h] at hl;refine bE.bind (Ao (i:=0) (by omega) hw) fun x hx=>?_;refine bE.iteb (fun _=>?_) fun _=>?_
  ·exact bE.bind (Ao (i:=1) (by omega) hw) fun x hx=>.some ⟨hx,fun h=>by cases h⟩
  ·exact bE.bind (Ao (i:=2) (by omega) hw) fun x hx=>.some ⟨hx,fun h=>by cases h⟩
 have h1:op ≠ [115,101,108,101,99,116]:=LK h1;rw [if_neg h1] at hl;have hl0:0<vs.length:=by split at hl <;> omega
 refine bE.iteb (fun h=>bE.bind (Ao (i:=0) hl0 hw) fun x hx=>.some ⟨hx,fun h=>by cases h⟩) fun h2=>?_;refine bE.iteb (fun h=>bE.bind (Ao (i:=0) hl0 hw) fun x hx=>.some ⟨qV.wrap _,fun h=>by cases h⟩) fun h3=>?_;refine bE.iteb (fun h=>bE.bind (Ao (i:=0) hl0 hw) fun x hx=>.some ⟨hx.shr _,fun h=>by cases h⟩) fun h4=>?_;refine bE.iteb (fun h=>?_) fun h5=>?_
 ·rw [if_pos (Dk h)] at hl;exact bE.bind (Ao (i:=0) hl0 hw) fun x hx=>bE.bind (Ao (i:=1) (by omega) hw) fun y hy=>.some ⟨qV.wrap _,fun h=>by cases h⟩
 ·exact .some ⟨qV.zero,fun _=>⟨h1,LK h2,LK h3,LK h4,LK h5⟩⟩
section
variable {fr:aJ} {hs:List (List Int)} {sc:List Int}
def IP (v:Int) (fr:aJ) (hs:List (List Int)) (r:aE) (k:Nat) (x:Int × aE):Prop:=
 VP r k x/\(bN x.2=some false->0<=x.1/\∃a b,bV fr.cE v=some a/\bV hs a=some b/\x.1<b.length)
theorem uH {ri:aE->aJ->List (List Int)->aG->Int->Option (Int × aE)} {rc:aE->aJ->List (List Int)->aG->Option (Int × aE)} {e:aG} {N:Nat} {r:aE}
  {o:cQ} {k:Nat} (ho:e.kL=o) (hk:e.aM.length=k) (h1:o ≠ [110,117,109]) (h2:o ≠ [118,97,114]) (h3:o ≠ [105,110,100,101,120]) (har:NG o<=k)
  (hnb:o ≠ [115,101,108,101,99,116]->k=1 ∨ k=2) (hl0:0<k) (hl:k<10)
  (hr:∀x ∈ e.aM,∀r:aE,r.bT.length+xz x<=1073741824->bE (rc r fr hs x) (VP r (xz x))) (hN:30<=N) (ht:r.bT.length+xz e<=1073741824) :
  bE (cY ri rc N r fr hs e) (VP r (xz e)):=by
 rw [Be] at ht ⊢;subst ho hk;unfold cY;rw [if_neg (by simpa using h1),if_neg (by simpa using h2),if_neg (by simpa using h3)];refine bE.bind (Sh hr hl N 0 [] r (by omega) (by omega) rfl (fun z hz=>by cases hz) (by rw [qU];omega)) fun s hs=>?_;rw [qU] at hs;cases s with
 | inl y=>
   obtain ⟨g1,g2,g3⟩:=hs;refine bE.bind (Px (op:=e.kL) (vs:=y.1) (by rw [g1];exact har) g2) fun b hb=>?_;refine bE.iteb (fun _=>.some ?_) fun h0=>?_
   ·exact ⟨hb.1,g3.p,g3.f,g3.e,by have:=g3.t;simp only at this ⊢;omega⟩
   ·have h4:=hb.2 h0;refine bE.bind (KS (by omega) hl0 (by rw [g1];exact hnb h4.1) g2 (by have:=g3.t;simp only at this;omega)) fun x hx=>.some ?_;have:=g3.trans hx;exact ⟨this.w,this.p,this.f,this.e,by have:=this.t;simp only at this ⊢;omega⟩
 | inr y=>exact .some (hs.more (by omega))
theorem Fo (r:aE):bE (bN r) fun b=>bN r=some b:=by
 obtain ⟨b,hb,_⟩:=rG r;exact ⟨b,hb,hb⟩
theorem kZ {α:Type} {l:List α} {i:Int} {x:α} (h:bV l i=some x):0<=i/\l[i.toNat]? = some x:=by
 unfold bV at h
 split at h
 ·exact ⟨‹_›,h⟩
 ·cases h
theorem rW {α:Type} {l:List α} {i:Nat} {x:α} (h:l[i]? = some x) {j:Int} (hj:j=(i:Int)):bV l j=some x:=by
 subst hj;unfold bV;rw [if_pos (by omega),yG,h]
theorem Dj.arr (hF:Dj fr hs) {v:Int} {u:bB} (h:bV fr.f_.aV v=some u) (hk:u.bX=4):∃k a,bV fr.cE v=some k/\bV hs k=some a/\(a.length:Int)=u.jB/\1<=u.jB/\u.jB<=1024/\0<=k:=by
 obtain ⟨h0,h1⟩:=kZ h;obtain ⟨k,a,g1,g2,g3,g4⟩:=hF.ar _ _ h1 hk;refine ⟨k,a,?_,?_,g4,?_⟩
 ·unfold bV;rw [if_pos h0,g1]
 ·unfold bV;rw [if_pos g2,g3]
 ·have:=(hF.vo u (Al h1)).2.2 hk;unfold wM at this;omega
theorem wQ (hF:Dj fr hs):∀N:Nat,
  (∀e,TX fr.f_.aV sc e->2*xz e+40<=N->∀r:aE,r.bT.length+xz e<=1073741824->bE (bU N r fr hs e) (VP r (xz e))) ∧
  (∀e v u,TX fr.f_.aV sc e->bV fr.f_.aV v=some u->u.bX=4->2*xz e+41<=N->∀r:aE,r.bT.length+xz e+1<=1073741824->bE (gK N r fr hs e v) (IP v fr hs r (xz e+1))):=by
 intro N
 induction N with
 | zero=>exact ⟨fun e _ h=>by omega,fun e v u _ _ _ h=>by omega⟩
 | succ N ih=>
   obtain ⟨ihv,ihi⟩:=ih;refine ⟨fun e he hN r ht=>?_,fun e v u he hu hk hN r ht=>?_⟩
   ·rw [FC]
    have hrec:∀x ∈ e.aM,TX fr.f_.aV sc x->∀r:aE,r.bT.length+xz x<=1073741824->bE (bU N r fr hs x) (VP r (xz x)):=by
     intro x hx hT r hr;refine ihv x hT ?_ r hr;have:=xzL_mem hx;rw [Be e] at hN;omega
    cases he with
    | num=>
      unfold cY;rw [if_pos (by rfl)];exact .some (VP.refl (qV.wrap _))
    | @var v u a h1 h2 h3=>
      unfold cY;rw [if_neg (by simp),if_pos (by rfl)];obtain ⟨g0,g1⟩:=kZ h2;have g2:=(qJ.1 g1).1;refine bE.bind (bE.idx (Q:=qV) (by exact g0) (by rw [hF.wl];simp only;omega) fun x hx=>hF.w x (Al hx)) fun z hz=>.some (VP.refl hz)
    | @index v u i a h1 h2 h3 h4 h5 h6=>
      unfold cY;rw [if_neg (by simp),if_neg (by simp),if_pos (by rfl)];refine bE.eqn (v:=i) rfl ?_;have hz:xz ⟨[105,110,100,101,120],2,0,v,[i],a⟩=xz i+1:=by rw [Be];simp only [tY];omega
      rw [hz] at hN ht ⊢;refine bE.bind (ihi i v u h4 h2 h3 (by omega) r (by omega)) fun x hx=>?_;refine bE.bind (Fo x.2) fun b hb=>?_;refine bE.iteb (fun _=>.some ⟨qV.zero,hx.1.p,hx.1.f,hx.1.e,hx.1.t⟩) fun h=>?_;rw [h] at hb;obtain ⟨g0,k,ar,g1,g2,g3⟩:=hx.2 hb;refine bE.eqn g1 (bE.eqn g2 ?_);exact bE.bind (bE.idx (Q:=fun _=>True) g0 g3 fun _ _=>trivial) fun z _=>.some ⟨qV.wrap _,hx.1.p,hx.1.f,hx.1.e,hx.1.t⟩
    | @un o x a ho h1=>
      have hr:∀y ∈ [x],∀r:aE,r.bT.length+xz y<=1073741824->bE (bU N r fr hs y) (VP r (xz y)):=fun y hy=>by
       rw [zN.1 hy];exact hrec x (zN.2 rfl) h1
      have hNN:30<=N:=by have:=Dl ⟨o,x.cM,0,-1,[x],a⟩;omega
      rcases ho with rfl | rfl
      ·exact uH (o:=[110,111,116]) (k:=1) rfl rfl (by decide) (by decide) (by decide) (by decide) (by decide) (by decide) (by decide) hr hNN ht
      ·exact uH (o:=[110,101,103]) (k:=1) rfl rfl (by decide) (by decide) (by decide) (by decide) (by decide) (by decide) (by decide) hr hNN ht
    | @bin o x y t a h1 h2 hb=>
      have hr:∀z ∈ [x,y],∀r:aE,r.bT.length+xz z<=1073741824->bE (bU N r fr hs z) (VP r (xz z)):=fun z hz=>by
       refine hrec z hz ?_;simp only [vA,HT,or_false] at hz
       rcases hz with rfl | rfl
       ·exact h1
       ·exact h2
      have hNN:30<=N:=by have:=Dl ⟨o,t,0,-1,[x,y],a⟩;omega
      have ho:o ∈ BT:=by
       unfold BT
       rcases hb with ⟨h | h,_⟩ | ⟨h | h | h,_⟩ | ⟨h,_⟩ | ⟨h | h,_⟩ | ⟨h | h | h | h | h,_⟩ <;> rw [h] <;> decide
      have hs:∀o ∈ BT,o ≠ [110,117,109]/\o ≠ [118,97,114]/\o ≠ [105,110,100,101,120]/\NG o<=2:=by decide
      obtain ⟨g1,g2,g3,g4⟩:=hs o ho;exact uH (k:=2) rfl rfl g1 g2 g3 g4 (fun _=>.inr rfl) (by decide) (by decide) hr hNN ht
    | @sel c x y a h1 h2 h3 h4 h5=>
      have hr:∀z ∈ [c,x,y],∀r:aE,r.bT.length+xz z<=1073741824->bE (bU N r fr hs z) (VP r (xz z)):=fun z hz=>by
       refine hrec z hz ?_;simp only [vA,HT,or_false] at hz
       rcases hz with rfl | rfl | rfl
       ·exact h1
       ·exact h2
       ·exact h3
      have hNN:30<=N:=by have:=Dl ⟨[115,101,108,101,99,116],Hb (vU x.cM y.cM),0,-1,[c,x,y],a⟩;omega
      exact uH (o:=[115,101,108,101,99,116]) (k:=3) rfl rfl (by decide) (by decide) (by decide) (by decide) (fun h=>absurd rfl h) (by decide) (by decide) hr hNN ht
    | @long x a h1 h2=>
      have hr:∀y ∈ [x],∀r:aE,r.bT.length+xz y<=1073741824->bE (bU N r fr hs y) (VP r (xz y)):=fun y hy=>by
       rw [zN.1 hy];exact hrec x (zN.2 rfl) h1
      have hNN:30<=N:=by have:=Dl ⟨[108,111,110,103],3,0,-1,[x],a⟩;omega
      exact uH (o:=[108,111,110,103]) (k:=1) rfl rfl (by decide) (by decide) (by decide) (by decide) (by decide) (by decide) (by decide) hr hNN ht
    | @wide x y a h1 h2 h3 h4=>
      have hr:∀z ∈ [x,y],∀r:aE,r.bT.length+xz z<=1073741824->bE (bU N r fr hs z) (VP r (xz z)):=fun z hz=>by
       refine hrec z hz ?_;simp only [vA,HT,or_false] at hz
       rcases hz with rfl | rfl
       ·exact h1
       ·exact h2
      have hNN:30<=N:=by have:=Dl ⟨[119,105,100,101],3,0,-1,[x,y],a⟩;omega
      exact uH (o:=[119,105,100,101]) (k:=2) rfl rfl (by decide) (by decide) (by decide) (by decide) (fun _=>.inr rfl) (by decide) (by decide) hr hNN ht
    | @half o x a ho h1 h2=>
      have hr:∀y ∈ [x],∀r:aE,r.bT.length+xz y<=1073741824->bE (bU N r fr hs y) (VP r (xz y)):=fun y hy=>by
       rw [zN.1 hy];exact hrec x (zN.2 rfl) h1
      have hNN:30<=N:=by have:=Dl ⟨o,2,0,-1,[x],a⟩;omega
      rcases ho with rfl | rfl
      ·exact uH (o:=[108,111]) (k:=1) rfl rfl (by decide) (by decide) (by decide) (by decide) (by decide) (by decide) (by decide) hr hNN ht
      ·exact uH (o:=[104,105]) (k:=1) rfl rfl (by decide) (by decide) (by decide) (by decide) (by decide) (by decide) (by decide) hr hNN ht
   ·rw [FQ];unfold iC;refine bE.bind (ihv e he (by omega) r (by omega)) fun x hx=>?_;refine bE.bind (Fo x.2) fun b hb=>?_;refine bE.iteb (fun h=>.some ⟨⟨qV.zero,hx.p,hx.f,hx.e,by have:=hx.t;simp only at this ⊢;omega⟩,fun h'=>?_⟩) fun h=>?_
    ·rw [hb,h] at h';cases h'
    ·obtain ⟨k,ar,g1,g2,g3,g4,g5,g6⟩:=hF.arr hu hk;refine bE.eqn g1 (bE.eqn g2 ?_);refine bE.bind (Fa (by have:=hx.t;omega)) fun s hs=>?_;refine bE.iteb (fun h2=>.some ⟨⟨qV.zero,hs.1.trans hx.p,hs.2.1.trans hx.f,hs.2.2.1.trans hx.e,by have:=hx.t;have:=hs.2.2.2.2;simp only;omega⟩,fun h'=>?_⟩) fun h2=>.some ⟨⟨qV.w32 _,hs.1.trans hx.p,hs.2.1.trans hx.f,hs.2.2.1.trans hx.e,by have:=hx.t;have:=hs.2.2.2.2;simp only;omega⟩,fun _=>?_⟩
     ·exfalso
      unfold bN at h';simp at h'
     ·have h2:=LK h2;rw [w32_id (z:=(ar.length:Int)) (by omega) (by omega)] at h2;exact ⟨(Dn _).1,k,ar,g1,g2,by simp only;omega⟩
end
def SG (P:aN):MU:=fun k r ps=>∃f,bV P.bD k=some f/\r=f.cR/\ps=f.aV.take f.aW.toNat
structure NM (P:aN) (f:aR):Prop where
 body:∃l n sc n' sc',TB (SG P) f.aV f.cR l n sc f.eK n' sc'
 p0:0<=f.aW
 p1:f.aW<=f.aV.length
 vl:f.aV.length<=250
 vo:∀v ∈ f.aV,CS v
 sz:Am f.eK<=3001
theorem TB.each {sg:MU} {vs:List bB} {res:Int} {l:Bool} {n n':Nat} {sc sc':List Int} {ss:List aH} (h:TB sg vs res l n sc ss n' sc'):∀s ∈ ss,∃l n sc n' sc',TB sg vs res l n sc [s] n' sc':=by
 induction h with
 | nil=>intro s hs;cases hs
 | let_ h1 h2 h3 h4 _ ih=>exact fun s hs=>(vA.1 hs).elim (fun e=>e ▸ ⟨true,_,_,_,_,.let_ h1 h2 h3 h4 .nil⟩) (ih s)
 | var_ h1 h2 h3 _ ih=>exact fun s hs=>(vA.1 hs).elim (fun e=>e ▸ ⟨true,_,_,_,_,.var_ h1 h2 h3 .nil⟩) (ih s)
 | arr h1 h2 _ ih=>exact fun s hs=>(vA.1 hs).elim (fun e=>e ▸ ⟨true,_,[],_,_,.arr h1 h2 .nil⟩) (ih s)
 | callv h1 h2 h3 h4 h5 _ ih=>exact fun s hs=>(vA.1 hs).elim (fun e=>e ▸ ⟨true,_,_,_,_,.callv h1 h2 h3 h4 h5 .nil⟩) (ih s)
 | set h1 h2 h3 h4 h5 _ ih=>exact fun s hs=>(vA.1 hs).elim (fun e=>e ▸ ⟨true,0,_,_,_,.set h1 h2 h3 h4 h5 .nil⟩) (ih s)
 | calls h1 h2 h3 h4 h5 h6 _ ih=>exact fun s hs=>(vA.1 hs).elim (fun e=>e ▸ ⟨true,0,_,_,_,.calls h1 h2 h3 h4 h5 h6 .nil⟩) (ih s)
 | put h1 h2 h3 h4 h5 h6 h7 h8 _ ih=>exact fun s hs=>(vA.1 hs).elim (fun e=>e ▸ ⟨true,0,_,_,_,.put h1 h2 h3 h4 h5 h6 h7 h8 .nil⟩) (ih s)
 | do_ h1 h2 _ ih=>exact fun s hs=>(vA.1 hs).elim (fun e=>e ▸ ⟨true,0,_,_,_,.do_ h1 h2 .nil⟩) (ih s)
 | if_ h1 h2 h3 h4 _ _ _ ih=>exact fun s hs=>(vA.1 hs).elim (fun e=>e ▸ ⟨true,_,_,_,_,.if_ h1 h2 h3 h4 .nil⟩) (ih s)
 | for_ h1 h2 h3 h4 h5 h6 h7 _ _ ih=>exact fun s hs=>(vA.1 hs).elim (fun e=>e ▸ ⟨true,_,_,_,_,.for_ h1 h2 h3 h4 h5 h6 h7 .nil⟩) (ih s)
 | ret h1 h2 h3=>exact fun s hs=>by rw [zN.1 hs];exact ⟨_,0,_,_,_,.ret h1 h2 h3⟩
 | retc h1 h2 h3=>exact fun s hs=>by rw [zN.1 hs];exact ⟨_,0,_,_,_,.retc h1 h2 h3⟩
structure RP (r:aE) (k:Nat) (r':aE):Prop where
 p:r'.p_=r.p_
 f:r'.eB<=r.eB
 m:r'.bT.length+4000*r'.eB.toNat<=r.bT.length+4000*r.eB.toNat+k
 e:r'.e_=r.e_ ∨ r'.e_=70
theorem RP.refl {r:aE} {k:Nat}:RP r k r:=⟨rfl,Qf _,Nat.le_add_right _ _,.inl rfl⟩
theorem RP.trans {r s t:aE} {k l:Nat} (h:RP r k s) (h':RP s l t):RP r (k+l) t:=
 ⟨h'.p.trans h.p,Int.le_trans h'.f h.f,by have:=h.m;have:=h'.m;omega,by rcases h'.e with e | e;rw [e];exact h.e;exact .inr e⟩
theorem RP.more {r s:aE} {k l:Nat} (h:RP r k s) (hk:k<=l):RP r l s:=⟨h.p,h.f,by have:=h.m;omega,h.e⟩
theorem VP.rp {r:aE} {k:Nat} {x:Int × aE} (h:VP r k x):RP r k x.2:=⟨h.p,by rw [h.f];exact Qf _,by have:=h.t;rw [h.f];omega,.inl h.e⟩
structure FP (fr:aJ) (hs:List (List Int)) (fr':aJ) (hs':List (List Int)):Prop where
 f:fr'.f_=fr.f_
 a:fr'.cE=fr.cE
 wl:fr'.cC.length=fr.cC.length
 w:∀z ∈ fr'.cC,qV z
 r:qV fr'.oP
 h:hs'.map List.length=hs.map List.length
theorem FP.ok {fr fr':aJ} {hs hs':List (List Int)} (h:FP fr hs fr' hs') (hF:Dj fr hs):Dj fr' hs':=by
 have hl:hs'.length=hs.length:=by have:=congrArg List.length h.h;simpa using this
 refine ⟨by rw [h.wl,h.f,hF.wl],by rw [h.a,h.f,hF.al],h.w,h.r,fun k hk=>by rw [h.a] at hk;rw [hl];exact hF.lt k hk,fun i v hv hk=>?_,fun v hv=>hF.vo v (by rw [←h.f];exact hv)⟩;rw [h.f] at hv;obtain ⟨k,a,g1,g2,g3,g4⟩:=hF.ar i v hv hk;have h1:(hs'.map List.length)[k.toNat]? = some a.length:=by rw [h.h,yH,g3];rfl
 rw [yH] at h1;cases h2:hs'[k.toNat]? with
 | none=>rw [h2] at h1;cases h1
 | some b=>
   rw [h2] at h1;simp only [Ej,Option.some.injEq] at h1;exact ⟨k,b,by rw [h.a];exact g1,g2,h2,by rw [h1];exact g4⟩
theorem Dj.fp {fr:aJ} {hs:List (List Int)} (hF:Dj fr hs):FP fr hs fr hs:=⟨rfl,rfl,rfl,hF.w,hF.r,rfl⟩
theorem FP.trans {fr fr' fr'':aJ} {hs hs' hs'':List (List Int)} (h:FP fr hs fr' hs') (k:FP fr' hs' fr'' hs''):FP fr hs fr'' hs'':=⟨k.f.trans h.f,k.a.trans h.a,k.wl.trans h.wl,k.w,k.r,k.h.trans h.h⟩
theorem Js {fr:aJ} {hs:List (List Int)} (hF:Dj fr hs) {v z:Int} (hv:0<=v->v<fr.cC.length) (hz:qV z):bE (cZ fr hs v z) fun x=>FP fr hs x.1 x.2:=by
 unfold cZ;refine bE.iteb (fun h=>?_) fun _=>.some hF.fp;have h:=Dk h;refine bE.bind (bE.idx (Q:=fun _=>True) h (hv h) fun _ _=>trivial) fun _ _=>.some ⟨rfl,rfl,by simp,fun y hy=>?_,hF.r,rfl⟩
 rcases HW hy with hy | hy
 ·exact hF.w y hy
 ·rw [hy];exact hz
theorem LA {r:aE} (h:r.eB<=1000000):bE (iH r) fun x=>x.p_=r.p_/\x.bT=r.bT/\x.fQ=r.fQ/\(r.eB<=0/\x.eB=r.eB/\x.e_=70 ∨ 0<r.eB/\x.eB=r.eB - 1/\x.e_=r.e_):=by
 unfold iH;refine bE.iteb (fun h1=>.some ⟨rfl,rfl,rfl,.inl ⟨Dk h1,rfl,rfl⟩⟩) fun h1=>?_;have h1:=LK h1;refine .some ⟨rfl,rfl,rfl,.inr ⟨by omega,?_,rfl⟩⟩;exact fG (by omega) (by omega)
structure RI (P:aN) (M:Nat) (r:aE):Prop where
 p:r.p_=P
 f:r.eB<=1000000
 m:r.bT.length+4000*r.eB.toNat<=M
theorem RI.step {P:aN} {M k:Nat} {r s:aE} (h:RI P M r) (k':RP r k s):RI P (M+k) s:=⟨k'.p.trans h.p,Int.le_trans k'.f h.f,by have:=h.m;have:=k'.m;omega⟩
def MP (r:aE) (fr:aJ) (hs:List (List Int)) (k:Nat) (x:aE × aJ × List (List Int)):Prop:=RP r k x.1/\FP fr hs x.2.1 x.2.2
theorem Og {fr:aJ} {hs:List (List Int)} {sc:List Int} (hF:Dj fr hs) {n:Nat} {r:aE} {v:Int} {u:bB} {i x:aG} {a:Int} (h2:bV fr.f_.aV v=some u) (h3:u.bX=4)
  (hi:TX fr.f_.aV sc i) (hx:TX fr.f_.aV sc x) (hn:2*(xz i+xz x)+50<=n) (ht:r.bT.length+xz i+xz x+1<=1073741824) :
  bE (hM n r fr hs ⟨[112,117,116],v,0,[i,x],[],[],a⟩) (MP r fr hs (xz i+xz x+1)):=by
 unfold hM;refine bE.eqn (v:=i) rfl ?_;refine bE.bind ((wQ hF n).2 i v u hi h2 h3 (by omega) r (by omega)) fun y hy=>?_;refine bE.bind (Fo y.2) fun b hb=>?_;have hy1:=hy.1.rp;refine bE.iteb (fun _=>.some ⟨hy1.more (by omega),hF.fp⟩) fun h=>?_;rw [h] at hb;obtain ⟨g0,k,ar,g1,g2,g3⟩:=hy.2 hb;refine bE.eqn (v:=x) rfl ?_;refine bE.bind ((wQ hF n).1 x hx (by omega) y.2 (by have:=hy.1.t;omega)) fun z hz=>?_;refine bE.bind (Fo z.2) fun b2 hb2=>?_;have hR:RP r (xz i+xz x+1) z.2:=(hy1.trans hz.rp).more (by omega);refine bE.iteb (fun _=>?_) fun _=>.some ⟨hR,hF.fp⟩;refine bE.eqn g1 (bE.eqn g2 ?_);refine bE.bind (bE.idx (Q:=fun _=>True) g0 g3 fun _ _=>trivial) fun q _=>.some ⟨hR,rfl,rfl,rfl,hF.w,hF.r,?_⟩;obtain ⟨g4,g5⟩:=kZ g2;refine Nc fun j=>?_;rw [yH,yH,In]
 split
 ·rename_i hj;subst hj;rw [g5,if_pos (qJ.1 g5).1];simp
 ·rfl
def St (P:aN) (f:aR) (s:aH):Prop:=∃l n sc n' sc',TB (SG P) f.aV f.cR l n sc [s] n' sc'
abbrev StF:=aE->aJ->List (List Int)->aH->Option (aE × aJ × List (List Int))
abbrev Sw:=aE->aJ->List (List Int)->List aH->Option (aE × aJ × List (List Int))
def HQ (P:aN) (n:Nat) (blk:Sw):Prop:=∀r fr hs ss,RI P 1000000000 r->Dj fr hs->(∀s ∈ ss,St P fr.f_ s)->Am ss<=3001->3*r.eB.toNat+7000<=n->bE (blk r fr hs ss) (MP r fr hs 0)
def NS (P:aN) (n:Nat) (st:StF):Prop:=∀r fr hs s,RI P 999996000 r->Dj fr hs->St P fr.f_ s->tz s<=3001->3*r.eB.toNat+7002<=n->bE (st r fr hs s) (MP r fr hs 3002)
def Fs (P:aN) (n:Nat) (o:cQ) (st:StF):Prop:=∀r fr hs s,s.kL=o->RI P 999996000 r->Dj fr hs->St P fr.f_ s->tz s<=3001->3*r.eB.toNat+7001<=n->bE (st r fr hs s) (MP r fr hs 3002)
section
variable {P:aN} {n:Nat}
theorem RP.eq {r r':aE} (k:Nat) (h1:r'.p_=r.p_) (h2:r'.eB=r.eB) (h3:r'.bT=r.bT) (h4:r'.e_=r.e_ ∨ r'.e_=70):RP r k r':=⟨h1,by rw [h2];exact Qf _,by rw [h2,h3];omega,h4⟩
theorem JP {st:StF} (hst:NS P n st) {ss:List aH} (hl:ss.length<=3001) (hz:∀s ∈ ss,tz s<=3001):∀(c j:Nat) r fr hs,j<=ss.length->ss.length<j+c->RI P 1000000000 r->Dj fr hs->(∀s ∈ ss,St P fr.f_ s)->3*r.eB.toNat+7000<=n+1 ->
  bE (dS st ss c (j:Int) r fr hs) fun s=>MP r fr hs 0 (s.elim id id):=by
 intro c
 induction c with
 | zero=>intro j r fr hs h1 h2;omega
 | succ c ih=>
   intro j r fr hs h1 h2 hI hF hT hn;unfold dS;refine bE.iteb (fun h=>?_) fun h=>.some ⟨RP.refl,hF.fp⟩;have h:=Dk h;have hj:j<ss.length:=by omega
   have hm:ss[j] ∈ ss:=xdw _
   refine bE.bind (P:=fun s=>match s with
    | .inl x=>RP r 0 x.1/\FP fr hs x.2.1 x.2.2
    | .inr x=>MP r fr hs 0 x) ?_ fun s hs'=>?_
   ·refine bE.eqn (v:=ss[j]) (rW (tA hj) rfl) ?_;refine bE.bind (rG r) fun b _=>?_;refine bE.iteb (fun _=>.some ⟨RP.refl,hF.fp⟩) fun _=>?_;refine bE.bind (LA hI.f) fun x hx=>?_;obtain ⟨x1,x2,_,x3⟩:=hx;refine bE.bind (rG x) fun b hb=>?_;refine bE.iteb (fun hb'=>?_) fun hb'=>.some ⟨?_,hF.fp⟩
    ·have hb0:b=false:=by simpa using hb'
     have he:=hb hb0
     rcases x3 with ⟨_,_,x5⟩ | ⟨x4,x5,x6⟩
     ·rw [x5] at he;cases he
     ·have hm':=hI.m;have hfu:4000*x.eB.toNat+4000=4000*r.eB.toNat:=by rw [x5];omega
      refine bE.bind (hst x fr hs ss[j] ⟨x1.trans hI.p,by have:=hI.f;omega,by rw [x2];omega⟩ hF (hT _ hm) (hz _ hm) (by omega)) fun y hy=>.some ⟨?_,hy.2⟩;show RP r 0 y.1;refine ⟨hy.1.p.trans x1,by have:=hy.1.f;omega,by have:=hy.1.m;rw [x2] at this;omega,?_⟩
      rcases hy.1.e with e | e
      ·exact .inl (e.trans x6)
      ·exact .inr e
    ·rcases x3 with ⟨_,x4,x5⟩ | ⟨x4,x5,x6⟩
     ·exact RP.eq 0 x1 x4 x2 (.inr x5)
     ·show RP r 0 x;exact ⟨x1,by omega,by rw [x2,x5];omega,.inl x6⟩
   ·cases s with
    | inr x=>exact .some hs'
    | inl x=>
      obtain ⟨g1,g2⟩:=hs';show bE (dS st ss c _ x.1 x.2.1 x.2.2) _;rw [fG (by omega) (by omega)];have hI':=hI.step g1;refine (ih (j+1) x.1 x.2.1 x.2.2 (by omega) (by omega) hI' (g2.ok hF) (fun s hs=>by rw [g2.f];exact hT s hs) (by have:=g1.f;omega)).mono fun s hs=>⟨g1.trans hs.1,g2.trans hs.2⟩
theorem Mx {st:StF} (hst:NS P n st):HQ P (n+1) (eH st n):=by
 intro r fr hs ss hI hF hT hz hn;unfold eH;have hl:=tzL_len ss;refine bE.bind (JP hst (by omega) (fun s hs=>Kl (tzL_mem hs) hz) n 0 r fr hs (by omega) (by omega) hI hF hT hn) fun y hy=>?_;cases y with
 | inl y=>exact .some hy
 | inr y=>exact .some hy
theorem TB.each_st {f:aR} {l:Bool} {k k':Nat} {sc sc':List Int} {ss:List aH} (h:TB (SG P) f.aV f.cR l k sc ss k' sc'):∀s ∈ ss,St P f s:=fun s hs=>h.each s hs
theorem NN {s:aH} (h:tz s<=3001):tY s.aM+Am s.eK+Am s.sX<=3000:=by rw [yK] at h;omega
theorem MH {blk:Sw} (hb:HQ P n blk):Fs P (n+1) [105,102] (eA blk n):=by
 intro r fr hs s ho hI hF ⟨l,k,sc,k',sc',hT⟩ hz hn;have hx:=NN hz;have hm:=hI.m;unfold eA;cases hT with
 | @if_ l n sc c b e a n1 sc1 n2 sc2 ss n' sc' h1 h2 h3 h4 h5=>
   simp only [tY] at hx;refine bE.eqn (v:=c) rfl ?_;refine bE.bind ((wQ hF _).1 c h1 (by omega) r (by omega)) fun y hy=>?_;refine bE.bind (rG y.2) fun d _=>?_;have hyt:=hy.t;refine bE.iteb (fun _=>.some ⟨hy.rp.more (by omega),hF.fp⟩) fun _=>?_
   have hgo:∀(z:Int) (bs:List aH),(∀s ∈ bs,St P fr.f_ s)->Am bs<=3001->bE ((eQ y.2 1 z 0).bind fun x14=>(blk x14 fr hs bs).bind fun x16=>some (x16.1,x16.2.1,x16.2.2)) (MP r fr hs 3002):=by
    intro z bs hbs hbz;refine bE.bind (Fa (by omega)) fun x hx'=>?_;obtain ⟨e1,e2,e3,e4,e5⟩:=hx';have hR:RP r (xz c+1) x:=⟨e1.trans hy.p,by rw [e2,hy.f];exact Qf _,by rw [e2,hy.f];omega,.inl (e3.trans hy.e)⟩;refine bE.bind (hb x fr hs bs ⟨hR.p.trans hI.p,by have:=hR.f;have:=hI.f;omega,by have:=hR.m;omega⟩ hF hbs hbz (by have:=hR.f;omega)) fun w hw=>.some ⟨(hR.trans hw.1).more (by omega),hw.2⟩
   refine bE.iteb (fun _=>hgo 1 b (h3.each_st) (by omega)) fun _=>hgo 0 e (h4.each_st) (by omega)
 | _=>simp at ho
end
section
variable {P:aN} {n:Nat}
theorem HZ {blk:Sw} (hb:HQ P n blk) {y:Int × aE} {s:aH} {f:aR} (hbs:∀t ∈ s.eK,St P f t) (hbz:Am s.eK<=3001) (hv:0<=s.lO->s.lO<f.aV.length) :
  ∀(c:Nat) (v:Int) r fr hs,fr.f_=f->RI P 1000000000 r->Dj fr hs->3*r.eB.toNat+7000<=n->1<=c->(r.e_=0->r.eB.toNat+2<=c) ->
  bE (fB blk y s c v r fr hs) (MP r fr hs 0):=by
 intro c
 induction c with
 | zero=>intro v r fr hs _ _ _ _ h;omega
 | succ c ih=>
   intro v r fr hs hf hI hF hn hc he;unfold fB;refine bE.bind (P:=fun b=>b=true->r.e_=0) ?_ fun b hb0=>?_
   ·refine bE.iteb (fun _=>bE.bind (rG r) fun b hb=>.some fun h=>hb (by simpa using h)) fun _=>.some fun h=>by cases h
   refine bE.iteb (fun h=>?_) fun _=>.some ⟨RP.refl,hF.fp⟩;have he0:=hb0 h;have hc2:=he he0;refine bE.bind (LA hI.f) fun x hx=>?_;obtain ⟨x1,x2,_,x3⟩:=hx;refine bE.bind (Js hF (v:=s.lO) (by rw [hF.wl,hf];exact hv) (qV.wrap v)) fun t ht=>?_
   have hxr:RP r 0 x:=by
    rcases x3 with ⟨_,x4,x5⟩ | ⟨x4,x5,x6⟩
    ·exact RP.eq 0 x1 x4 x2 (.inr x5)
    ·exact ⟨x1,by omega,by rw [x2,x5];omega,.inl x6⟩
   have hIx:RI P 1000000000 x:=hI.step hxr;refine bE.bind (hb x t.1 t.2 s.eK hIx (ht.ok hF) (fun q hq=>by rw [ht.f,hf];exact hbs q hq) hbz (by have:=hxr.f;omega)) fun w hw=>?_;have hwr:RP r 0 w.1:=hxr.trans hw.1;have hwf:FP fr hs w.2.1 w.2.2:=ht.trans hw.2;refine (ih _ w.1 w.2.1 w.2.2 (hwf.f.trans hf) (hI.step hwr) (hwf.ok hF) (by have:=hwr.f;omega) (by omega) (fun he'=>?_)).mono fun z hz=>⟨hwr.trans hz.1,hwf.trans hz.2⟩
   rcases x3 with ⟨_,_,x5⟩ | ⟨x4,x5,_⟩
   ·rcases hw.1.e with e | e
    ·rw [e,x5] at he';cases he'
    ·rw [e] at he';cases he'
   ·have:=hw.1.f;omega
theorem Mg {blk:Sw} (hb:HQ P n blk):Fs P (n+1) [102,111,114] (dZ blk n):=by
 intro r fr hs s ho hI hF ⟨l,k,sc,k',sc',hT⟩ hz hn;have hx:=NN hz;have hm:=hI.m;unfold dZ;cases hT with
 | @for_ l n sc x y u b a n1 sc1 ss n' sc' h1 h2 h3 h4 h5 h6 h7 h8=>
   simp only [tY] at hx;refine bE.eqn (v:=x) rfl ?_;refine bE.bind ((wQ hF _).1 x h1 (by omega) r (by omega)) fun p hp=>?_;refine bE.bind (rG p.2) fun d _=>?_;have hpt:=hp.t;refine bE.iteb (fun _=>.some ⟨hp.rp.more (by omega),hF.fp⟩) fun _=>?_;refine bE.eqn (v:=y) rfl ?_;refine bE.bind ((wQ hF _).1 y h3 (by omega) p.2 (by omega)) fun q hq=>?_;refine bE.bind (rG q.2) fun d _=>?_;have hqt:=hq.t;have hRq:RP r (xz x+xz y) q.2:=hp.rp.trans hq.rp;refine bE.iteb (fun _=>.some ⟨hRq.more (by omega),hF.fp⟩) fun _=>?_;refine bE.bind (Fa (by omega)) fun w hw=>?_;obtain ⟨e1,e2,e3,e4,e5⟩:=hw;have hR:RP r (xz x+xz y+1) w:=⟨e1.trans hRq.p,by rw [e2];exact hRq.f,by have:=hRq.m;rw [e2];omega,by rw [e3];exact hRq.e⟩;have hI2:RI P 1000000000 w:=⟨hR.p.trans hI.p,by have:=hR.f;have:=hI.f;omega,by have:=hR.m;omega⟩;refine bE.bind (HZ (y:=q) hb (f:=fr.f_) (s:=⟨[102,111,114],(k:Int),0,[x,y],b,[],a⟩) h7.each_st (by simp only;omega) (fun _=>by have:=(qJ.1 h5).1;simp only;omega) _ _ w fr hs rfl hI2 hF (by have:=hR.f;omega) (by omega) (fun _=>by have:=hR.f;omega)) fun z hz=>.some ⟨(hR.trans hz.1).more (by omega),hz.2⟩
 | _=>simp at ho
theorem Qz {fc fi fo:StF} (hc:Fs P n [99,97,108,108] fc) (hi:Fs P n [105,102] fi) (ho:Fs P n [102,111,114] fo):NS P (n+1) (dP fc fi fo n):=by
 intro r fr hs s hI hF hS hz hn;have hx:=NN hz;have hm:=hI.m
 have hput:∀(x:aG) (v:Int) (sc:List Int),TX fr.f_.aV sc x->xz x<=3000->(0<=v->v<fr.f_.aV.length)->bE ((bU n r fr hs x).bind fun x4=>(bN x4.2).bind fun x11=>if (!x11)=true then (cZ fr hs v x4.1).bind fun x14=>some (x4.2,x14.1,x14.2) else some (x4.2,fr,hs)) (MP r fr hs 3002):=by
  intro x v sc h1 h2 h3;refine bE.bind ((wQ hF n).1 x h1 (by omega) r (by omega)) fun y hy=>?_;refine bE.bind (rG y.2) fun d _=>?_;refine bE.iteb (fun _=>?_) fun _=>.some ⟨hy.rp.more (by omega),hF.fp⟩;exact bE.bind (Js hF (by rw [hF.wl];exact h3) hy.w) fun t ht=>.some ⟨hy.rp.more (by omega),ht⟩
 unfold dP;have hS':=hS;obtain ⟨l,k,sc,k',sc',hT⟩:=hS;cases hT with
 | @let_ l n sc x u a ss n' sc' h1 h2 h3 h4 h5=>
   simp only [tY] at hx;refine bE.iteb (fun _=>?_) fun h=>absurd h (by simp);refine bE.eqn (v:=x) rfl ?_;exact hput x _ sc h1 (by omega) fun _=>by have:=(qJ.1 h3).1;simp only;omega
 | @var_ l n sc x u a ss n' sc' h1 h3 h4 h5=>
   simp only [tY] at hx;refine bE.iteb (fun h=>absurd h (by simp)) fun _=>?_;refine bE.iteb (fun _=>?_) fun h=>absurd h (by simp);refine bE.eqn (v:=x) rfl ?_;exact hput x _ sc h1 (by omega) fun _=>by have:=(qJ.1 h3).1;simp only;omega
 | @set l n sc v u x a ss n' sc' h1 h2 h3 h4 h5 h6=>
   simp only [tY] at hx;refine bE.iteb (fun h=>absurd h (by simp)) fun _=>?_;refine bE.iteb (fun h=>absurd h (by simp)) fun _=>?_;refine bE.iteb (fun _=>?_) fun h=>absurd h (by simp);refine bE.eqn (v:=x) rfl ?_;exact hput x _ sc h4 (by omega) fun _=>by have:=(qJ.1 (kZ h2).2).1;have:=(kZ h2).1;simp only;omega
 | @arr l n sc u a ss n' sc' h1 h2 h3=>
   refine bE.iteb (fun h=>absurd h (by simp)) fun _=>?_;refine bE.iteb (fun h=>absurd h (by simp)) fun _=>?_;refine bE.iteb (fun h=>absurd h (by simp)) fun _=>?_;refine bE.iteb (fun _=>?_) fun h=>absurd h (by simp);obtain ⟨k,ar,g1,g2,g3,g4,g5,g6⟩:=hF.arr (rW h1 rfl) h2;refine bE.eqn g1 (bE.eqn g2 (bE.need (by omega) (.some ⟨RP.refl,rfl,rfl,rfl,hF.w,hF.r,?_⟩)));obtain ⟨g7,g8⟩:=kZ g2;refine Nc fun j=>?_;rw [yH,yH,In]
   split
   ·rename_i hj;subst hj;rw [g8,if_pos (qJ.1 g8).1];simp
   ·rfl
 | @put l n sc v u i x a ss n' sc' h1 h2 h3 h4 h5 h6 h7 h8 h9=>
   simp only [tY] at hx;refine bE.iteb (fun h=>absurd h (by simp)) fun _=>?_;refine bE.iteb (fun h=>absurd h (by simp)) fun _=>?_;refine bE.iteb (fun h=>absurd h (by simp)) fun _=>?_;refine bE.iteb (fun h=>absurd h (by simp)) fun _=>?_;refine bE.iteb (fun _=>?_) fun h=>absurd h (by simp);exact bE.bind (Og hF h2 h3 h4 h7 (by omega) (by omega)) fun t ht=>.some ⟨ht.1.more (by omega),ht.2⟩
 | @if_ l n sc c b e a n1 sc1 n2 sc2 ss n' sc' h1 h2 h3 h4 h5=>
   refine bE.iteb (fun h=>absurd h (by simp)) fun _=>?_;refine bE.iteb (fun h=>absurd h (by simp)) fun _=>?_;refine bE.iteb (fun h=>absurd h (by simp)) fun _=>?_;refine bE.iteb (fun h=>absurd h (by simp)) fun _=>?_;refine bE.iteb (fun h=>absurd h (by simp)) fun _=>?_;refine bE.iteb (fun h=>absurd h (by simp)) fun _=>?_;refine bE.iteb (fun _=>?_) fun h=>absurd h (by simp);exact bE.bind (hi r fr hs _ rfl hI hF hS' hz (by omega)) fun t ht=>.some ht
 | @for_ l n sc x y u b a n1 sc1 ss n' sc' h1 h2 h3 h4 h5 h6 h7 h8=>
   refine bE.iteb (fun h=>absurd h (by simp)) fun _=>?_;refine bE.iteb (fun h=>absurd h (by simp)) fun _=>?_;refine bE.iteb (fun h=>absurd h (by simp)) fun _=>?_;refine bE.iteb (fun h=>absurd h (by simp)) fun _=>?_;refine bE.iteb (fun h=>absurd h (by simp)) fun _=>?_;refine bE.iteb (fun h=>absurd h (by simp)) fun _=>?_;refine bE.iteb (fun h=>absurd h (by simp)) fun _=>?_;refine bE.iteb (fun _=>?_) fun h=>absurd h (by simp);exact bE.bind (ho r fr hs _ rfl hI hF hS' hz (by omega)) fun t ht=>.some ht
 | @ret n sc x a h1 h2 h3=>
   simp only [tY] at hx;refine bE.iteb (fun h=>absurd h (by simp)) fun _=>?_;refine bE.iteb (fun h=>absurd h (by simp)) fun _=>?_;refine bE.iteb (fun h=>absurd h (by simp)) fun _=>?_;refine bE.iteb (fun h=>absurd h (by simp)) fun _=>?_;refine bE.iteb (fun h=>absurd h (by simp)) fun _=>?_;refine bE.iteb (fun h=>absurd h (by simp)) fun _=>?_;refine bE.iteb (fun h=>absurd h (by simp)) fun _=>?_;refine bE.iteb (fun h=>absurd h (by simp)) fun _=>?_;refine bE.iteb (fun _=>?_) fun h=>absurd h (by simp);refine bE.eqn (v:=x) rfl ?_;exact bE.bind ((wQ hF _).1 x h1 (by omega) r (by omega)) fun y hy=>.some ⟨hy.rp.more (by omega),rfl,rfl,rfl,hF.w,hy.w,rfl⟩
 | _=>
   refine bE.iteb (fun h=>absurd h (by simp)) fun _=>?_;refine bE.iteb (fun h=>absurd h (by simp)) fun _=>?_;refine bE.iteb (fun h=>absurd h (by simp)) fun _=>?_;refine bE.iteb (fun h=>absurd h (by simp)) fun _=>?_;refine bE.iteb (fun h=>absurd h (by simp)) fun _=>?_;refine bE.iteb (fun _=>?_) fun h=>absurd h (by simp);exact bE.bind (hc r fr hs _ rfl hI hF hS' hz (by omega)) fun t ht=>.some ht
end
theorem DW {α:Type} {l:List α} {i:Nat} {x:α}:(l.set i x).length=l.length:=GI
structure OL (p b:Nat) (l:List bB) (i:Nat) (rs:List Int) (hs:List (List Int)) (x:List Int × List (List Int)):Prop where
 len:x.1.length=rs.length
 low:∀j,j<p+i->x.1[j]? = rs[j]?
 pre:hs <+: x.2
 lt:(∀k ∈ rs,k<((b+hs.length:Nat):Int))->∀k ∈ x.1,k<((b+x.2.length:Nat):Int)
 ar:∀(j:Nat) v,l[j]? = some v->v.bX=4->∃k a,x.1[p+i+j]? = some ((b+k:Nat):Int)/\x.2[k]? = some a/\(a.length:Int)=v.jB
theorem FM (p b:Nat):∀(l:List bB) (i:Nat) (rs:List Int) (hs:List (List Int)),(∀v ∈ l,CS v)->p+i+l.length<=rs.length->bE (Ew p l i b rs hs) (OL p b l i rs hs)
 | [],i,rs,hs,h,hl=>.some ⟨rfl,fun _ _=>rfl,PN _,fun h=>h,fun j v hv=>by simp at hv⟩
 | v::l,i,rs,hs,h,hl=>by
   have hv:=h v (xec ..);have ht:∀u ∈ l,CS u:=fun u hu=>h u (Kc _ hu);rw [jC] at hl;unfold Ew
   by_cases hk:v.bX=4
   ·rw [if_pos hk];have hs':=hv.2.2 hk;have hsz:1<=v.jB/\v.jB<=1024:=by unfold wM at hs';omega
    refine bE.need (by omega) ((FM p b l (i+1) _ _ ht (by rw [DW];omega)).mono fun x hx=>?_);refine ⟨by rw [hx.len,DW],fun j hj=>by rw [hx.low j (by omega),Ja (by omega)],(xej _ _).trans hx.pre,fun hlt=>hx.lt fun k hk'=>?_,fun j u hu hku=>?_⟩
    ·rw [nC,uW]
     rcases HW hk' with hk' | hk'
     ·have:=hlt k hk';omega
     ·omega
    ·cases j with
     | zero=>
       simp only [Qg,Option.some.injEq] at hu;subst hu;refine ⟨hs.length,List.replicate v.jB.toNat 0,?_,?_,by rw [PQ];omega⟩
       ·rw [hx.low _ (by omega),Qk,Io (by omega)]
       ·obtain ⟨z,hz⟩:=hx.pre;rw [←hz,Nb,GP (tJ _),xdx];rfl
     | succ j=>
       rw [Ki] at hu;obtain ⟨k,a,g1,g2,g3⟩:=hx.ar j u hu hku;exact ⟨k,a,by rw [show p+i+(j+1)=p+(i+1)+j by omega];exact g1,g2,g3⟩
   ·rw [if_neg hk];refine (FM p b l (i+1) rs hs ht (by omega)).mono fun x hx=>⟨hx.len,fun j hj=>hx.low j (by omega),hx.pre,hx.lt,fun j u hu hku=>?_⟩;cases j with
    | zero=>
      simp only [Qg,Option.some.injEq] at hu;subst hu;exact absurd hku hk
    | succ j=>
      rw [Ki] at hu;obtain ⟨k,a,g1,g2,g3⟩:=hx.ar j u hu hku;exact ⟨k,a,by rw [show p+i+(j+1)=p+(i+1)+j by omega];exact g1,g2,g3⟩
structure LF (f:aR) (hs:List (List Int)) (j:Nat) (to:aJ):Prop where
 ff:to.f_=f
 wl:to.cC.length=f.aV.length
 al:to.cE.length=f.aV.length
 w:∀z ∈ to.cC,qV z
 r:qV to.oP
 lt:∀k ∈ to.cE,k<(hs.length:Int)
 ar:∀(i:Nat) v,f.aV[i]? = some v->v.bX=4->(i<j ∨ f.aW.toNat<=i)->∃k a,to.cE[i]? = some k/\0<=k/\hs[k.toNat]? = some a/\(a.length:Int)=v.jB
section
variable {P:aN} {n:Nat}
theorem KU {f:aR} (h:NM P f) (hs:List (List Int)):bE (zC f hs.length) fun o=>LF f (hs++o.2) 0 o.1:=by
 unfold zC;have h1:=h.p0;have h2:=h.p1;have h3:=h.vl;refine bE.need ⟨h1,h2,by omega⟩ ?_;refine bE.bind (FM f.aW.toNat hs.length (f.aV.drop f.aW.toNat) 0 (List.replicate f.aV.length (-1)) [] (fun v hv=>h.vo v (PS hv)) (by rw [PQ,HR];omega)) fun x hx=>.some ?_;refine ⟨rfl,by simp,by rw [hx.len];simp,fun z hz=>by rw [(PR.1 hz).2];exact qV.zero,qV.zero,fun k hk=>?_,fun i v hv hk hi=>?_⟩
 ·have:=hx.lt (fun k hk=>by rw [(PR.1 hk).2];omega) k hk;rw [nC];exact this
 ·have hi:f.aW.toNat<=i:=by omega
  obtain ⟨k,a,g1,g2,g3⟩:=hx.ar (i - f.aW.toNat) v (by rw [xdv,show f.aW.toNat+(i - f.aW.toNat)=i by omega];exact hv) hk;refine ⟨_,a,by rw [show i=f.aW.toNat+0+(i - f.aW.toNat) by omega];exact g1,by omega,?_,g3⟩;rw [yG,GP (by omega),Nat.add_sub_cancel_left];exact g2
theorem put_tok {f:aR} {hs:List (List Int)} {j:Nat} {to:aJ} (h:LF f hs j to) {hs':List (List Int)} {v:Nat} {z:Int} (hv:v<f.aV.length) (hz:qV z):bE (cZ to hs' (v:Int) z) fun x=>LF f hs j x.1:=by
 unfold cZ;refine bE.iteb (fun h'=>?_) fun _=>.some h;refine bE.bind (bE.idx (Q:=fun _=>True) (by omega) (by rw [h.wl];omega) fun _ _=>trivial) fun _ _=>.some ⟨h.ff,by rw [DW];exact h.wl,h.al,fun y hy=>?_,h.r,h.lt,h.ar⟩
 rcases HW hy with hy | hy
 ·exact h.w y hy
 ·rw [hy];exact hz
theorem LF.val {f:aR} {hs:List (List Int)} {j:Nat} {to:aJ} (h:LF f hs j to) (hk:∀v,f.aV[j]? = some v->v.bX ≠ 4):LF f hs (j+1) to:=
 ⟨h.ff,h.wl,h.al,h.w,h.r,h.lt,fun i v hv hk' hi=>h.ar i v hv hk' (by
  by_cases hij:i=j
  ·subst hij;exact absurd hk' (hk v hv)
  ·omega)⟩
theorem Cz {fr:aJ} {hs h2:List (List Int)} {sc:List Int} {f:aR} (hF:Dj fr hs) (hf:NM P f):∀(l:List aG) (j:Nat) r (to:aJ),
  (∀(i:Nat) x,l[i]? = some x->∃p,f.aV[j+i]? = some p/\Eq fr.f_.aV sc p x)->LF f (hs++h2) j to->2*tY l+40<=n->r.bT.length+tY l<=1073741824 ->
  bE (rJ n fr hs h2 l j r to) fun c=>match c with
   | .inl r'=>RP r (tY l) r'
   | .inr x=>RP r (tY l) x.1/\LF f (hs++h2) (j+l.length) x.2
 | [],j,r,to,_,hT,_,_=>.some ⟨RP.refl,hT⟩
 | x::l,j,r,to,hA,hT,hn,ht=>by
   obtain ⟨p,hp,ha⟩:=hA 0 x rfl;rw [Qk] at hp;have hjl:=(qJ.1 hp).1
   have hA':∀(i:Nat) y,l[i]? = some y->∃p,f.aV[j+1+i]? = some p/\Eq fr.f_.aV sc p y:=fun i y hy=>by
    have:=hA (i+1) y (by rw [Ki];exact hy);rw [show j+1+i=j+(i+1) by omega];exact this
   rw [tY] at hn ht ⊢;have hlen:j+(x::l).length=j+1+l.length:=by rw [jC];omega
   rw [hlen];unfold rJ
   have hval:TX fr.f_.aV sc x->x.cM ≠ 4->p.bX ≠ 4->bE (if x.cM=4 then
    (bV fr.cE x.lO).bind fun k=>
    gX (0<=k/\k<(hs.length:Int)/\j<to.cE.length) <|
    rJ n fr hs h2 l (j+1) r { to with cE:=to.cE.set j k }
   else
    (bU n r fr hs x).bind fun v=>
    (bN v.2).bind fun e=>
    if e=true then some (.inl v.2) else
    (cZ to (hs++h2) (j:Int) v.1).bind fun t=>
    rJ n fr hs h2 l (j+1) v.2 t.1) fun c=>match c with
    | .inl r'=>RP r (xz x+tY l) r'
    | .inr z=>RP r (xz x+tY l) z.1/\LF f (hs++h2) (j+1+l.length) z.2:=by
    intro hx h4 hk;rw [if_neg h4];refine bE.bind ((wQ hF n).1 x hx (by omega) r (by omega)) fun y hy=>?_;refine bE.bind (rG y.2) fun d _=>?_;have hyt:=hy.t;refine bE.iteb (fun _=>.some (hy.rp.more (by omega))) fun _=>?_;refine bE.bind (put_tok hT hjl hy.w) fun t ht'=>?_;refine (Cz hF hf l (j+1) y.2 t.1 hA' (ht'.val fun v hv=>by rw [hp] at hv;cases hv;exact hk) (by omega) (by omega)).mono fun c hc=>?_;cases c with
    | inl r'=>exact hy.rp.trans hc
    | inr z=>exact ⟨hy.rp.trans hc.1,hc.2⟩
   cases ha with
   | pub h1 h2 h3=>exact hval h2 (by rw [h3];decide) (by omega)
   | val h1 h2 h3 h4=>
     refine hval h3 ?_ h2;have:=(h3.range hF.vo).2;omega
   | @arr v u a h1 h2' h3 h4 h5=>
     rw [if_pos (by rfl)];obtain ⟨k,ar,g1,g2,g3,g4,g5,g6⟩:=hF.arr h3 h4;refine bE.eqn g1 ?_;obtain ⟨g7,g8⟩:=kZ g2;have hkl:=(qJ.1 g8).1;refine bE.need ⟨g6,by omega,by rw [hT.al];exact hjl⟩ ?_
     have hT':LF f (hs++h2) (j+1) { to with cE:=to.cE.set j k }:=by
      refine ⟨hT.ff,hT.wl,by rw [DW];exact hT.al,hT.w,hT.r,fun q hq=>?_,fun i w hw hk' hi=>?_⟩
      ·rcases HW hq with hq | hq
       ·exact hT.lt q hq
       ·rw [hq,nC];omega
      ·show ∃q a,(to.cE.set j k)[i]? = some q/\_
       by_cases hij:i=j
       ·subst hij;rw [hp] at hw;cases hw
        exact ⟨k,ar,by rw [Io (by rw [hT.al];exact hjl)],g6,by rw [FB hkl];exact g8,by rw [g3,h5]⟩
       ·rw [Ja (by omega)];exact hT.ar i w hw hk' (by omega)
     refine (Cz hF hf l (j+1) r _ hA' hT' (by omega) (by omega)).mono fun c hc=>?_;cases c with
     | inl r'=>exact hc.more (by omega)
     | inr z=>exact ⟨hc.1.more (by omega),hc.2⟩
theorem LF.frok {f:aR} {hs:List (List Int)} {j:Nat} {to:aJ} (h:LF f hs j to) (hj:f.aW.toNat<=j) (hf:NM P f):Dj to hs:=by
 refine ⟨by rw [h.ff];exact h.wl,by rw [h.ff];exact h.al,h.w,h.r,h.lt,fun i v hv hk=>h.ar i v (by rw [←h.ff];exact hv) hk (by omega),fun v hv=>hf.vo v (by rw [←h.ff];exact hv)⟩
end
section
variable {P:aN} {n:Nat}
theorem Fp {blk:Sw} (hb:HQ P n blk) (hP:∀k f,bV P.bD k=some f->NM P f) {r:aE} {fr:aJ} {hs:List (List Int)} {s:aH} {sc:List Int} {q:Int} {ps:List bB}
  (hI:RI P 999996000 r) (hF:Dj fr hs) (hz:tY s.aM<=3000) (hn:3*r.eB.toNat+7001<=n+1) (hg:SG P s.pP q ps) (ha:DS fr.f_.aV sc ps s.aM) (hv:0<=s.lO->s.lO<fr.f_.aV.length) :
  bE (dT blk n r fr hs s) (MP r fr hs 3002):=by
 obtain ⟨f,hf,rfl,rfl⟩:=hg;have hm:=hI.m;have hT:=hP _ f hf;have hsl:=xzL_len s.aM;unfold dT;refine bE.need (by omega) ?_;refine bE.eqn (v:=f) (by rw [hI.p];exact hf) ?_;refine bE.bind (KU hT hs) fun o ho=>?_;have h0:=hT.p0;have h1:=hT.p1;have hpl:(f.aV.take f.aW.toNat).length=f.aW.toNat:=by rw [Ei];omega
 refine bE.bind (Cz (n:=n) (sc:=sc) hF hT s.aM 0 r o.1 (fun i x hx=>?_) ho (by omega) (by omega)) fun c hc=>?_
 ·have hi:=(qJ.1 hx).1;have hi2:i<(f.aV.take f.aW.toNat).length:=by rw [←ha.1];exact hi
  refine ⟨(f.aV.take f.aW.toNat)[i],?_,ha.2 i _ x (tA hi2) hx⟩;rw [IZ,List.getElem_take];exact tA _
 cases c with
 | inl r'=>exact .some ⟨RP.more hc (by omega),hF.fp⟩
 | inr c=>
   obtain ⟨hc1,hc2⟩:=hc;rw [IZ,ha.1,hpl] at hc2;have hFr:=hc2.frok (tJ _) hT;obtain ⟨bl,bn,bsc,bn',bsc',hB⟩:=hT.body;refine bE.bind (hb c.1 c.2 (hs++o.2) c.2.f_.eK ⟨hc1.p.trans hI.p,by have:=hc1.f;have:=hI.f;omega,by have:=hc1.m;omega⟩ hFr (fun t ht=>by rw [hc2.ff] at ht ⊢;exact hB.each t ht) (by rw [hc2.ff];exact hT.sz) (by have:=hc1.f;omega)) fun b hb'=>?_;have hR:RP r 3002 b.1:=(hc1.trans hb'.1).more (by omega)
   have hlen:(b.2.2.take hs.length).map List.length=hs.map List.length:=by
    rw [List.map_take,hb'.2.h,HS];have:(hs.map List.length).length=hs.length:=sY ..;rw [←this,List.take_left]
   have hFP:FP fr hs fr (b.2.2.take hs.length):=⟨rfl,rfl,rfl,hF.w,hF.r,hlen⟩;refine bE.bind (rG b.1) fun d _=>?_;refine bE.iteb (fun _=>.some ⟨hR,hFP⟩) fun _=>?_;refine bE.ite (fun _=>.some ⟨hR,rfl,rfl,rfl,hF.w,hb'.2.r,hlen⟩) fun _=>?_;refine bE.bind (Js (hFP.ok hF) (v:=s.lO) (z:=b.2.1.oP) (by rw [hF.wl];exact hv) hb'.2.r) fun p hp=>.some ⟨hR,hFP.trans hp⟩
theorem RT {blk:Sw} (hb:HQ P n blk) (hP:∀k f,bV P.bD k=some f->NM P f):Fs P (n+1) [99,97,108,108] (dT blk n):=by
 intro r fr hs s ho hI hF ⟨l,k,sc,k',sc',hT⟩ hz hn;have hx:=NN hz;cases hT with
 | callv h1 h2 h3 h4 h5 h6=>exact Fp hb hP hI hF (by omega) hn h1 h2 fun _=>by have:=(qJ.1 h4).1;simp only;omega
 | calls h1 h2 h3 h4 h5 h6 h7=>exact Fp hb hP hI hF (by omega) hn h4 h5 fun _=>by have:=(qJ.1 (kZ h2).2).1;have:=(kZ h2).1;simp only;omega
 | do_ h1 h2 h3=>exact Fp hb hP hI hF (by omega) hn h1 h2 fun h=>by simp at h
 | retc h1 h2 h3=>exact Fp hb hP hI hF (by omega) hn h1 h3 fun h=>by simp at h
 | _=>simp at ho
theorem Nw (hP:∀k f,bV P.bD k=some f->NM P f):∀n,HQ P n (cV n)/\NS P n (fA n)/\Fs P n [99,97,108,108] (gU n)/\Fs P n [105,102] (gF n)/\Fs P n [102,111,114] (gE n)
 | 0=>⟨fun _ _ _ _ _ _ _ _ h=>by omega,fun _ _ _ _ _ _ _ _ h=>by omega,fun _ _ _ _ _ _ _ _ _ h=>by omega,fun _ _ _ _ _ _ _ _ _ h=>by omega,fun _ _ _ _ _ _ _ _ _ h=>by omega⟩
 | n+1=>by
   obtain ⟨i1,i2,i3,i4,i5⟩:=Nw hP n
   have e:bQ (n+1)=(eH (fA n) n,dP (gU n) (gF n) (gE n) n,dT (cV n) n,eA (cV n) n,dZ (cV n) n):=by
    rw [bQ];rfl
   have e1:cV (n+1)=eH (fA n) n:=by show (bQ (n+1)).1=_;rw [e]
   have e2:fA (n+1)=dP (gU n) (gF n) (gE n) n:=by show (bQ (n+1)).2.1=_;rw [e]
   have e3:gU (n+1)=dT (cV n) n:=by show (bQ (n+1)).2.2.1=_;rw [e]
   have e4:gF (n+1)=eA (cV n) n:=by show (bQ (n+1)).2.2.2.1=_;rw [e]
   have e5:gE (n+1)=dZ (cV n) n:=by show (bQ (n+1)).2.2.2.2=_;rw [e]
   rw [e1,e2,e3,e4,e5];exact ⟨Mx i2,Qz i3 i4 i5,RT i1 hP,MH i1,Mg i1⟩
end
def tX (a:T_interp_Args):List bB->Nat->Nat->Prop
 | [],_,_=>True
 | v::l,w,k=>if v.bX=4 then (∃x,a.iS[k]? = some x/\(x.length:Int)=v.jB)/\tX a l w (k+1) else (∃x,a.dK[w]? = some x)/\tX a l (w+1) k
theorem JH {f:aR} {a:T_interp_Args} (hl:(f.aV.take f.aW.toNat).length<=250):∀(c i w k:Nat),i<=(f.aV.take f.aW.toNat).length->(f.aV.take f.aW.toNat).length<i+c->w<=i->k<=i ->
  bE (pM f a c (w:Int) (k:Int) (i:Int)) fun s=>match s with
   | .inl _=>tX a ((f.aV.take f.aW.toNat).drop i) w k
   | .inr b=>b=false:=by
 intro c
 induction c with
 | zero=>intro i w k h1 h2;omega
 | succ c ih=>
   intro i w k h1 h2 h3 h4;unfold pM;refine bE.iteb (fun h=>?_) fun h=>?_
   ·have h:=Dk h;have hi:i<(f.aV.take f.aW.toNat).length:=by omega
    have hd:(f.aV.take f.aW.toNat).drop i=(f.aV.take f.aW.toNat)[i]::(f.aV.take f.aW.toNat).drop (i+1):=NU hi;rw [hd]
    refine bE.bind (P:=fun y=>match y with
     | .inl x=>∃w' k':Nat,x=((w':Int),(k':Int))/\w'<=i+1/\k'<=i+1/\(tX a ((f.aV.take f.aW.toNat).drop (i+1)) w' k'->tX a ((f.aV.take f.aW.toNat)[i]::(f.aV.take f.aW.toNat).drop (i+1)) w k)
     | .inr b=>b=false) ?_ fun y hy=>?_
    ·refine bE.eqn (v:=(f.aV.take f.aW.toNat)[i]) (rW (tA hi) rfl) ?_;refine bE.iteb (fun hk=>?_) fun hk=>?_
     ·have hk:(f.aV.take f.aW.toNat)[i].bX=4:=by simpa using hk
      refine bE.bind (P:=fun b=>b=false->∃x,a.iS[k]? = some x/\(x.length:Int)=(f.aV.take f.aW.toNat)[i].jB) ?_ fun b hb=>?_
      ·refine bE.iteb (fun _=>.some fun h=>by cases h) fun hkl=>?_;have hkl:=LK hkl;have hk2:k<a.iS.length:=by omega
       refine bE.eqn (v:=a.iS[k]) (rW (tA hk2) rfl) (.some fun h=>⟨_,tA hk2,by simpa using h⟩)
      ·refine bE.iteb (fun _=>.some rfl) fun hb'=>.some ⟨w,k+1,?_,by omega,by omega,fun hr=>?_⟩
       ·rw [fG (by omega) (by omega)];rfl
       ·unfold tX;rw [if_pos hk];exact ⟨hb hb',hr⟩
     ·have hk:¬ (f.aV.take f.aW.toNat)[i].bX=4:=by simpa using hk
      refine bE.bind (P:=fun b=>b=false->∃x,a.dK[w]? = some x) ?_ fun b hb=>?_
      ·refine bE.iteb (fun _=>.some fun h=>by cases h) fun hkl=>?_;have hkl:=LK hkl;have hk2:w<a.dK.length:=by omega
       refine bE.iteb (fun _=>bE.eqn (v:=a.dK[w]) (rW (tA hk2) rfl) (.some fun _=>⟨_,tA hk2⟩)) fun _=>.some fun _=>⟨_,tA hk2⟩
      ·refine bE.iteb (fun _=>.some rfl) fun hb'=>.some ⟨w+1,k,?_,by omega,by omega,fun hr=>?_⟩
       ·rw [fG (by omega) (by omega)];rfl
       ·unfold tX;rw [if_neg hk];exact ⟨hb hb',hr⟩
    ·cases y with
     | inr b=>exact .some hy
     | inl x=>
       obtain ⟨w',k',rfl,g1,g2,g3⟩:=hy;show bE (pM f a c (w':Int) (k':Int) _) _;rw [fG (by omega) (by omega)];refine (ih (i+1) w' k' (by omega) (by omega) g1 g2).mono fun s hs=>?_;cases s with
       | inl _=>exact g3 hs
       | inr b=>exact hs
   ·have h:=LK h;rw [List.drop_eq_nil_of_le (by omega)];exact .some trivial
section
variable {P:aN} {n:Nat}
theorem FR {f:aR} {a:T_interp_Args} (hf:NM P f) (hn:300<=n):bE (mR n f a) fun b=>b=true->tX a (f.aV.take f.aW.toNat) 0 0:=by
 unfold mR;have h1:=hf.vl;have hl:(f.aV.take f.aW.toNat).length<=250:=by rw [Ei];omega
 refine bE.need ⟨hf.p0,hf.p1⟩ (bE.bind (JH hl n 0 0 0 (by omega) (by omega) (by omega) (by omega)) fun y hy=>?_);cases y with
 | inl x=>
   rw [qU] at hy;exact bE.bind (P:=fun _=>True) (bE.iteb (fun _=>.some trivial) fun _=>.some trivial) fun b _=>.some fun _=>hy
 | inr b=>exact .some fun h=>by rw [hy] at h;cases h
theorem LF.app {f:aR} {hs:List (List Int)} {j:Nat} {to:aJ} (h:LF f hs j to) (x:List Int):LF f (hs++[x]) j to:=by
 refine ⟨h.ff,h.wl,h.al,h.w,h.r,fun k hk=>by have:=h.lt k hk;rw [nC];omega,fun i v hv hk hi=>?_⟩;obtain ⟨k,a,g1,g2,g3,g4⟩:=h.ar i v hv hk hi;exact ⟨k,a,g1,g2,by rw [FB (qJ.1 g3).1];exact g3,g4⟩
theorem Dw {f:aR} {a:T_interp_Args} (hf:NM P f) (ha:∀z ∈ a.dK,qV z):∀(l:List bB) (i w k:Nat) (to:aJ) (hs:List (List Int)),(∀(j:Nat) v,l[j]? = some v->f.aV[i+j]? = some v)->tX a l w k->LF f hs i to ->
  bE (vC a l i w k to hs) fun t=>LF f t.2 (i+l.length) t.1
 | [],i,w,k,to,hs,_,_,h=>.some h
 | v::l,i,w,k,to,hs,hv,hp,h=>by
   have hv0:f.aV[i]? = some v:=hv 0 v rfl;have hil:=(qJ.1 hv0).1
   have hv':∀(j:Nat) u,l[j]? = some u->f.aV[i+1+j]? = some u:=fun j u hu=>by
    have:=hv (j+1) u (by rw [Ki];exact hu);rw [show i+1+j=i+(j+1) by omega];exact this
   have hlen:i+(v::l).length=i+1+l.length:=by rw [jC];omega
   rw [hlen];unfold vC;unfold tX at hp
   by_cases hk:v.bX=4
   ·rw [if_pos hk] at hp ⊢;obtain ⟨⟨x,hx,hsz⟩,hp⟩:=hp;have hs':=(hf.vo v (Al hv0)).2.2 hk;have hs2:1<=v.jB/\v.jB<=1024:=by unfold wM at hs';omega
    refine bE.eqn (rW hx rfl) (bE.need ⟨by omega,by omega,by rw [h.al];exact hil⟩ ?_);refine Dw hf ha l (i+1) w (k+1) _ _ hv' hp ?_;have h':=h.app x;refine ⟨h'.ff,h'.wl,by rw [DW];exact h'.al,h'.w,h'.r,fun q hq=>?_,fun j u hu hk' hj=>?_⟩
    ·rcases HW hq with hq | hq
     ·exact h'.lt q hq
     ·rw [hq,nC,uW];omega
    ·show ∃q a,(to.cE.set i (hs.length:Int))[j]? = some q/\_
     by_cases hij:j=i
     ·subst hij;rw [hv0] at hu;cases hu
      exact ⟨_,x,by rw [Io (by rw [h.al];exact hil)],by omega,by rw [yG,GP (tJ _),xdx];rfl,hsz⟩
     ·rw [Ja (by omega)];exact h'.ar j u hu hk' (by omega)
   ·rw [if_neg hk] at hp ⊢;obtain ⟨⟨x,hx⟩,hp⟩:=hp;refine bE.eqn (rW hx rfl) (bE.need (by rw [h.wl];exact hil) ?_);refine Dw hf ha l (i+1) (w+1) k _ _ hv' hp ?_;have h':=h.val (fun u hu=>by rw [hv0] at hu;cases hu;exact hk);refine ⟨h'.ff,by rw [DW];exact h'.wl,h'.al,fun y hy=>?_,h'.r,h'.lt,h'.ar⟩
    rcases HW hy with hy | hy
    ·exact h'.w y hy
    ·rw [hy];exact ha x (Al hx)
theorem Hi {hs:List (List Int)} {fr:aJ} (hF:Dj fr hs):∀(l:List bB) (i:Nat) (out:List (List Int)),(∀(j:Nat) v,l[j]? = some v->fr.f_.aV[i+j]? = some v)->bE (KR hs l i fr.cE out) fun o=>o.length<=out.length+l.length/\((∀y ∈ out,y.length<=1024)->∀y ∈ o,y.length<=1024)
 | [],i,out,_=>.some ⟨tJ _,fun h=>h⟩
 | v::l,i,out,hv=>by
   have hv':∀(j:Nat) u,l[j]? = some u->fr.f_.aV[i+1+j]? = some u:=fun j u hu=>by
    have:=hv (j+1) u (by rw [Ki];exact hu);rw [show i+1+j=i+(j+1) by omega];exact this
   unfold KR;refine bE.ite (fun hk=>?_) fun _=>(Hi hF l (i+1) out hv').mono fun o ho=>⟨by have:=ho.1;rw [jC];omega,ho.2⟩;obtain ⟨k,a,g1,g2,g3,g4⟩:=hF.ar i v (hv 0 v rfl) hk;refine bE.eqn (rW g1 rfl) (bE.need g2 ?_);refine bE.eqn (v:=a) (by unfold bV;rw [if_pos g2];exact g3) ?_;have hs':=(hF.vo v (Al (hv 0 v rfl))).2.2 hk;have hs2:v.jB<=1024:=by unfold wM at hs';omega
   refine (Hi hF l (i+1) _ hv').mono fun o ho=>⟨by have:=ho.1;rw [nC,uW] at this;rw [jC];omega,fun h=>ho.2 fun y hy=>?_⟩
   rcases At.1 hy with hy | hy
   ·exact h y hy
   ·rw [zN.1 hy];omega
def MW (n:Nat) (P:aN) (fn:Int) (a:T_interp_Args):Prop:=(fn<0 ∨ (P.bD.length:Int)<=fn) ∨ ∃f,bV P.bD fn=some f/\mR n f a=some false
theorem Nj (hP:∀k f,bV P.bD k=some f->NM P f) {fn:Int} {a:T_interp_Args} (ha:∀z ∈ a.dK,qV z) {fuel:Int} (h1:fuel<=2000) (hn:20000<=n):bE (nS n P fn a fuel) fun x=>(x.2=0/\x.1.zK.length<=9000000/\x.1.iS.length<=250/\∀y ∈ x.1.iS,y.length<=1024) ∨ (x.2=10/\MW n P fn a) ∨ (x.2=11/\MW n P fn a) ∨ (x.2=70/\¬ MW n P fn a):=by
 unfold nS;refine bE.ite (fun h=>.some (.inr (.inr (.inl ⟨rfl,.inl h⟩)))) fun h=>?_
 obtain ⟨f,hf⟩:∃f,bV P.bD fn=some f:=by
  obtain ⟨f,e,_⟩:=bE.idx (l:=P.bD) (i:=fn) (Q:=fun _=>True) (by omega) (by omega) fun _ _=>trivial;exact ⟨f,e⟩
 have hT:=hP fn f hf;have hp1:=hT.p1;have hp0:=hT.p0;have hvl:=hT.vl;refine bE.eqn hf ?_;refine bE.bind (KU hT []) fun o ho=>?_;obtain ⟨b,eb,hb⟩:=FR (a:=a) hT (show 300<=n by omega);refine bE.eqn eb ?_;refine bE.ite (fun h0=>.some (.inr (.inl ⟨rfl,.inr ⟨f,hf,h0 ▸ eb⟩⟩))) fun hb0=>?_;have hb':=hb (by simpa using hb0);have hpl:(f.aV.take f.aW.toNat).length=f.aW.toNat:=by rw [Ei];omega
 refine bE.bind (Dw hT ha (f.aV.take f.aW.toNat) 0 0 0 o.1 o.2 (fun j v hv=>?_) hb' (by simpa using ho)) fun t ht=>?_
 ·rw [IZ];rw [Qe] at hv
  split at hv
  ·exact hv
  ·cases hv
 have hFr:=ht.frok (by rw [hpl];omega) hT;obtain ⟨bl,bn,bsc,bn',bsc',hB⟩:=hT.body;refine bE.bind ((Nw hP n).1 ⟨P,fuel,0,0,[]⟩ t.1 t.2 f.eK ⟨rfl,by simp only;omega,by simp only [lA];omega⟩ hFr (fun s hs=>by rw [ht.ff];exact hB.each s hs) hT.sz (by simp only;omega)) fun w hw=>?_;refine bE.ite (fun he=>.some ?_) fun _=>?_
 ·rcases hw.1.e with e | e
  ·exact absurd e he
  ·refine .inr (.inr (.inr ⟨e,fun hB=>?_⟩))
   rcases hB with hB | ⟨f',k1,k2⟩
   ·exact h hB
   ·rw [hf] at k1;cases k1
    rw [eb] at k2;cases k2
    exact hb0 rfl
 have hFw:=hw.2.ok hFr;refine bE.bind (P:=fun o=>o.zK.length<=9000000/\o.iS.length<=250/\∀y ∈ o.iS,y.length<=1024) ?_ fun o ho=>.some (.inl ⟨rfl,ho⟩);unfold BC;have hwm:=hw.1.m;simp only [lA] at hwm;have hwf:w.2.1.f_=f:=hw.2.f.trans ht.ff;refine bE.need ⟨hFw.lt,by rw [hwf];exact hp0,by rw [hwf];exact hp1,by rw [hwf];omega⟩ ?_;refine bE.bind (Hi hFw _ 0 [] fun j v hv=>?_) fun o ho=>.some ⟨by simp only;omega,by have:=ho.1;rw [Ei,hwf] at this;simp only [lA] at this ⊢;omega,ho.2 fun y hy=>by cases hy⟩;rw [IZ];rw [Qe] at hv
 split at hv
 ·exact hv
 ·cases hv
end
def sf (d:Int) (r:aE):aE:={ r with eB:=r.eB+d }
section
variable {α β γ δ:Type} {R:α->β->Prop} {S:γ->δ->Prop}
end
variable {d:Int}
abbrev VlF:=aE->aJ->List (List Int)->aG->Option (Int × aE)
end Go.Proofs.YtncembphlfbgoaaGreatDoor.Abs
namespace Go.Proofs.YtncembphlfbgoaaGreatDoor.Abs
open IntKind (i64 u32 u64 u8)
open Go.RowKit
set_option linter.unusedVariables false
def Pm {α:Type} (Q:α->Prop) (x:Option α):Prop:=∀a,x=some a->Q a
section
variable {α β:Type} {Q:α->Prop} {T:β->Prop}
theorem Pm.some {a:α} (h:Q a):Pm Q (some a):=fun x hx=>by cases hx;exact h
theorem Pm.bind {x:Option β} {f:β->Option α} (h:Pm T x) (k:∀a,T a->Pm Q (f a)):Pm Q (x.bind f):=by
 intro c hc;obtain ⟨a,h1,h2⟩:=aA hc;exact k a (h a h1) c h2
theorem Pm.any {x:Option β} {f:β->Option α} (k:∀a,Pm Q (f a)):Pm Q (x.bind f):=Pm.bind (T:=fun _=>True) (fun _ _=>trivial) fun a _=>k a
theorem Pm.ite {c:Prop} [Decidable c] {x y:Option α} (h1:Pm Q x) (h2:Pm Q y):Pm Q (if c then x else y):=by
 split
 ·exact h1
 ·exact h2
theorem Pm.need {c:Prop} [Decidable c] {x:Option α} (h:Pm Q x):Pm Q (gX c x):=fun a ha=>h a (bP ha).2
end
def KF (r s:aE):Prop:=s.e_=r.e_/\s.eB=r.eB/\s.p_=r.p_
theorem KF.refl {r:aE}:KF r r:=⟨rfl,rfl,rfl⟩
theorem KF.trans {r s t:aE} (h:KF r s) (k:KF s t):KF r t:=⟨k.1.trans h.1,k.2.1.trans h.2.1,k.2.2.trans h.2.2⟩
theorem FI {r:aE} {a b c:Int}:Pm (KF r) (eQ r a b c):=by
 unfold eQ;exact Pm.need (.some ⟨rfl,rfl,rfl⟩)
theorem Ml {n:Nat} {r:aE} {e:aG} {vs:List Int}:Pm (fun x=>KF r x.2) (eG n r e vs):=by
 unfold eG;refine Pm.any fun y2=>Pm.ite (Pm.any fun x=>Pm.ite (Pm.any fun _=>Pm.any fun _=>.some KF.refl) (Pm.any fun _=>Pm.ite ?_ ?_)) (Pm.ite (Pm.any fun _=>Pm.any fun _=>.some KF.refl) (Pm.any fun _=>Pm.ite ?_ ?_))
 ·exact Pm.any fun _=>Pm.bind FI fun s h=>Pm.any fun _=>Pm.any fun _=>Pm.any fun _=>Pm.ite (.some h) (.some h)
 ·exact Pm.any fun _=>Pm.any fun _=>Pm.any fun _=>Pm.ite (.some KF.refl) (.some KF.refl)
 ·exact Pm.any fun _=>Pm.bind FI fun s h=>Pm.any fun _=>Pm.any fun _=>Pm.any fun _=>Pm.ite (.some h) (.some h)
 ·exact Pm.any fun _=>Pm.any fun _=>Pm.any fun _=>Pm.ite (.some KF.refl) (.some KF.refl)
theorem NI {rc:VlF} (hr:∀r fr hs e,Pm (fun x=>KF r x.2) (rc r fr hs e)) {e:aG} {fr:aJ} {hs:List (List Int)}:∀(c:Nat) (vs:List Int) (j:Int) r,
  Pm (fun x=>match x with | .inl z=>KF r z.2 | .inr z=>KF r z.2) (dY rc e fr hs c vs j r)
 | 0,vs,j,r=>fun a h=>by cases h
 | c+1,vs,j,r=>by
   unfold dY;refine Pm.ite (Pm.any fun x=>Pm.bind (hr _ _ _ _) fun a h=>?_) (.some KF.refl);refine Pm.any fun b=>Pm.ite (.some h) (Pm.need fun z hz=>?_);have:=NI hr c _ _ a.2 z hz;cases z with
   | inl z=>exact h.trans this
   | inr z=>exact h.trans this
theorem BP:∀n:Nat,(∀r fr hs e,Pm (fun x=>KF r x.2) (bU n r fr hs e))/\(∀r fr hs e v,Pm (fun x=>KF r x.2) (gK n r fr hs e v))
 | 0=>⟨fun _ _ _ _ _ h=>(by cases h),fun _ _ _ _ _ _ h=>(by cases h)⟩
 | n+1=>by
   obtain ⟨h1,h2⟩:=BP n;rw [FC,FQ];refine ⟨fun r fr hs e=>?_,fun r fr hs e v=>?_⟩
   ·unfold cY;refine Pm.ite (.some KF.refl) (Pm.ite (Pm.any fun _=>.some KF.refl) (Pm.ite (Pm.any fun _=>Pm.bind (h2 _ _ _ _ _) fun a h=>?_) (Pm.bind (NI h1 n _ _ _) fun a h=>?_)))
    ·exact Pm.any fun _=>Pm.ite (.some h) (Pm.any fun _=>Pm.any fun _=>Pm.any fun _=>.some h)
    ·cases a with
     | inl z=>exact Pm.any fun _=>Pm.ite (.some h) (Pm.bind Ml fun a h'=>.some (h.trans h'))
     | inr z=>exact .some h
   ·unfold iC;refine Pm.bind (h1 _ _ _ _) fun a h=>?_;refine Pm.any fun _=>Pm.ite (.some h) (Pm.any fun _=>Pm.any fun _=>Pm.bind FI fun s h'=>?_);exact Pm.ite (.some (h.trans h')) (.some (h.trans h'))
abbrev G3:=aE × aJ × List (List Int)
def r3 (a:G3):aE:=a.1
def s3 (d:Int) (a:G3):G3:=(sf d a.1,a.2)
def rS (a:G3 ⊕ G3):aE:=a.elim r3 r3
section
variable {α β:Type} {d:Int} {r:aE} {ρ:α->aE} {τ:α->α} {ρ':β->aE} {τ':β->β} {x y x' y':Option α}
end
section
variable {d:Int}
def rC (a:aE ⊕ (aE × aJ)):aE:=a.elim id (·.1)
end
theorem MR {x:List bC} {n:Nat} (h:x.length<=1073741824) (hn:x.length<n):nE n x x=some true:=by
 have hl:∀(c j:Nat),j<=x.length->x.length<j+c->iU x x c (j:Int)=some (.inl ()):=by
  intro c
  induction c with
  | zero=>intro j h1 h2;omega
  | succ c ih=>
    intro j h1 h2;unfold iU
    by_cases hj:j<x.length
    ·rw [if_pos (DU (by omega)),rW (tA hj) rfl,mS,mS,if_neg (by simp),fG (by omega) (by omega)];exact ih (j+1) (by omega) (by omega)
    ·rw [if_neg (by simp;omega)]
 unfold nE;rw [if_neg (by simp),show (0:Int)=((0:Nat):Int) from rfl,hl n 0 (by omega) (by omega)];rfl
theorem PO.tfn {c:aD} {rk:Int->Nat} (hp:PO c rk):∀k f,bV c.p_.bD k=some f->NM c.p_ f:=by
 intro k f h;obtain ⟨h0,h1⟩:=kZ h;have hm:f ∈ c.p_.bD:=Al h1;obtain ⟨sc',hb⟩:=(hp.tf _ f h1).body;have hv:=hp.co.vl f hm;exact ⟨⟨_,_,_,_,_,TB.mono (fun k r ps hg=>hg.2) (PN _) hb⟩,hv.2.1,hv.2.2,hv.1,(hp.co.ki f hm).1,hp.sz f hm⟩
theorem anchorM:pA 10000000=some true:=by kernel_rfl
def Tw {α β:Type} (R:α->β->Prop) (x:Option α) (y:Option β):Prop:=∀a b,x=some a->y=some b->R a b
section
variable {α β γ δ:Type} {R:α->β->Prop} {S:γ->δ->Prop} {x:Option α} {y:Option β} {f:α->Option γ} {g:β->Option δ}
theorem Tw.some {a:α} {b:β} (h:R a b):Tw R (some a) (some b):=fun x y hx hy=>by cases hx;cases hy;exact h
theorem Tw.bind (h:Tw R x y) (k:∀a b,R a b->Tw S (f a) (g b)):Tw S (x.bind f) (y.bind g):=fun c d hc hd=>by
 obtain ⟨a,h1,h2⟩:=aA hc;obtain ⟨b,h3,h4⟩:=aA hd;exact k a b (h a b h1 h3) c d h2 h4
theorem Tw.any (k:∀a b,x=Option.some a->y=Option.some b->Tw S (f a) (g b)):Tw S (x.bind f) (y.bind g):=fun c d hc hd=>by
 obtain ⟨a,h1,h2⟩:=aA hc;obtain ⟨b,h3,h4⟩:=aA hd;exact k a b h1 h3 c d h2 h4
theorem Tw.same {g:α->Option δ} (k:∀a,x=Option.some a->Tw S (f a) (g a)):Tw S (x.bind f) (x.bind g):=Tw.any fun a b h1 h2=>by
 rw [h1] at h2;cases h2;exact k a h1
theorem Tw.ite {c:Prop} [Decidable c] {x':Option α} {y':Option β} (h1:c->Tw R x y) (h2:¬ c->Tw R x' y'):Tw R (if c then x else x') (if c then y else y'):=by
 by_cases hc:c
 ·rw [if_pos hc,if_pos hc];exact h1 hc
 ·rw [if_neg hc,if_neg hc];exact h2 hc
theorem Tw.need {c d:Prop} [Decidable c] [Decidable d] (h:c->d->Tw R x y):Tw R (gX c x) (gX d y):=fun a b ha hb=>by
 obtain ⟨h1,h2⟩:=bP ha;obtain ⟨h3,h4⟩:=bP hb;exact h h1 h3 a b h2 h4
theorem Tw.mono {R':α->β->Prop} (h:Tw R x y) (k:∀a b,R a b->R' a b):Tw R' x y:=fun a b ha hb=>k a b (h a b ha hb)
theorem Tw.none {y:Option β}:Tw R (none:Option α) y:=fun a b ha=>by cases ha
theorem Tw.pm {P Q:α->Prop} {x y:Option α} (h1:Pm P x) (h2:Pm Q y):Tw (fun a b=>P a/\Q b) x y:=fun a b ha hb=>⟨h1 a ha,h2 b hb⟩
end
theorem Nn {s:cQ}:∀(c:Nat) (j:Int),Pm (fun y=>match y with | .inl _=>True | .inr k=>∃x ∈ dR,x.GZ=s/\x.op_=k) (qF s c j)
 | 0,j=>fun a h=>by cases h
 | c+1,j=>by
   unfold qF;refine Pm.ite ?_ (.some trivial);intro a ha;obtain ⟨x,h1,h2⟩:=aA ha
   have hm:x ∈ dR:=by
    unfold bV at h1
    split at h1
    ·exact Al h1
    ·cases h1
   revert h2
   split
   ·rename_i he;intro h2;cases h2;exact ⟨x,hm,by simpa using he,rfl⟩
   ·intro h2;exact Nn c _ a h2
theorem Op_div {s:cQ} {n:Nat} (h1:s ≠ [47]) (h2:s ≠ [37]):Pm (fun k=>k ≠ 16/\k ≠ 17) (sE n s):=by
 unfold sE;intro k hk;obtain ⟨y,e1,e2⟩:=aA hk;have:=Nn n 0 y e1;have hall:∀x ∈ dR,(x.op_=16->x.GZ=[47])/\(x.op_=17->x.GZ=[37]):=by decide
 cases y with
 | inl u=>cases e2;exact ⟨by decide,by decide⟩
 | inr q=>
   cases e2;obtain ⟨x,hx,h3,h4⟩:=this;have:=hall x hx;subst h3 h4;exact ⟨fun h=>h1 (this.1 h),fun h=>h2 (this.2 h)⟩
theorem RE {o a:Int} {n:Nat}:Pm (fun x=>x.2=true) (jE n (aY.mk o 0 [aY.mk 1 a []]) []):=by
 match n with
 | 0=>exact fun a h=>by cases h
 | 1=>
   rw [jE];unfold qB;refine fun x hx=>?_;rw [if_neg (by simp)] at hx;obtain ⟨y,h1,h2⟩:=aA hx;cases h1;obtain ⟨z,h3,h4⟩:=aA h2;cases h3
 | n+2=>
   rw [jE];unfold qB;rw [if_neg (by simp)];have h1:jE (n+1) (aY.mk 1 a []) []=some (a,true):=rfl;rw [show bV ([aY.mk 1 a []]:List aY) 0=some (aY.mk 1 a []) from rfl,mS,h1,mS];refine Pm.bind (T:=fun y=>y=true) (.some rfl) fun y hy=>?_;subst hy;rw [if_pos rfl];exact Pm.any fun _=>Pm.any fun _=>.some rfl
theorem two_ok {o a b:Int} (h1:o ≠ 16) (h2:o ≠ 17):Pm (fun x=>x.2=true) (yL o a b):=by
 unfold yL;refine Pm.ite (Pm.any fun _=>.some rfl) (Pm.ite (Pm.any fun _=>.some rfl) (Pm.ite (.some rfl) (Pm.ite (.some rfl) (Pm.ite (.some rfl) ?_))));rw [if_neg (by simpa using h1),if_neg (by simpa using h2)];exact Pm.any fun _=>.some rfl
theorem RD {o a b:Int} (h1:o ≠ 16) (h2:o ≠ 17) {n:Nat}:Pm (fun x=>x.2=true) (jE n (aY.mk o 0 [aY.mk 1 a [],aY.mk 1 b []]) []):=by
 match n with
 | 0=>exact fun a h=>by cases h
 | 1=>
   rw [jE];unfold qB;refine fun x hx=>?_;rw [if_neg (by simp)] at hx;obtain ⟨y,h1,h2⟩:=aA hx;cases h1;obtain ⟨z,h3,h4⟩:=aA h2;cases h3
 | n+2=>
   rw [jE];unfold qB;rw [if_neg (by simp)];have h3:∀z,jE (n+1) (aY.mk 1 z []) []=some (z,true):=fun _=>rfl;rw [show bV ([aY.mk 1 a [],aY.mk 1 b []]:List aY) 0=some (aY.mk 1 a []) from rfl,mS,h3,mS];refine Pm.bind (T:=fun y=>y=false) (.some rfl) fun y hy=>?_;subst hy;rw [if_neg (by simp)];rw [show bV ([aY.mk 1 a [],aY.mk 1 b []]:List aY) 1=some (aY.mk 1 b []) from rfl,mS,h3,mS];rw [if_neg (by simp)];exact Pm.bind (two_ok h1 h2) fun x hx=>.some hx
theorem Tw.bindP {α β γ δ:Type} {R:α->β->Prop} {S:γ->δ->Prop} {T:α->Prop} {x:Option α} {y:Option β} {f:α->Option γ} {g:β->Option δ} (h:Tw R x y) (hP:Pm T x) (k:∀a b,R a b->T a->Tw S (f a) (g b)):Tw S (x.bind f) (y.bind g):=fun c d hc hd=>by
 obtain ⟨a,h1,h2⟩:=aA hc;obtain ⟨b,h3,h4⟩:=aA hd;exact k a b (h a b h1 h3) (hP a h1) c d h2 h4
theorem opl {a2:List Int} (h2:a2.length<=2) {F:Nat->Int->aY->Option aY} (h0:∀v t,F 0 v t=none)
  (hs:∀c v t,F (c+1) v t=if (decide (v<(a2.length:Int)))=true then (bV a2 v).bind fun x=>(BS (u32.wrap x)).bind fun y=>gX (t.aM.length+[y].length<=1073741824) <| F c (i64.wrap (v+(1:Int))) ({ t with aM:=(t.aM++[y]) }:aY) else some t) :
  ∀(c j:Nat) t,j<=a2.length->Pm (fun t'=>∃ts:List Int,ts.length=a2.length - j/\t'=⟨t.kL,t.N_,t.aM++ts.map fun z=>aY.mk 1 z []⟩) (F c (j:Int) t)
 | 0,j,t,_=>fun a h=>by rw [h0] at h;cases h
 | c+1,j,t,hj=>fun a h=>by
   rw [hs] at h
   by_cases hl:j<a2.length
   ·rw [if_pos (DU (by omega))] at h;obtain ⟨x,h1,h⟩:=aA h;obtain ⟨y,h3,h⟩:=aA h;obtain ⟨_,h⟩:=bP h;rw [fG (by omega) (by omega)] at h;obtain rfl:aY.mk 1 (u32.wrap x) []=y:=Option.some.inj h3;obtain ⟨ts,g1,g2⟩:=opl h2 h0 hs c (j+1) _ (by omega) a h;exact ⟨u32.wrap x::ts,by rw [jC];omega,by rw [g2];simp⟩
   ·rw [if_neg (by simp;omega)] at h;cases h;exact ⟨[],by rw [lA];omega,by cases t;simp⟩
theorem JC {ts:List Int} (h:ts.length=1):∃a,ts=[a]:=by
 match ts,h with
 | [a],_=>exact ⟨a,rfl⟩
theorem JB {ts:List Int} (h:ts.length=2):∃a b,ts=[a,b]:=by
 match ts,h with
 | [a,b],_=>exact ⟨a,b,rfl⟩
theorem An {n:Nat} {r:aE} {e:aG} {vs:List Int} (h1:e.kL ≠ [47]) (h2:e.kL ≠ [37]) (hv:vs.length=1 ∨ vs.length=2):Pm (fun x=>x.2=r) (eG n r e vs):=by
 unfold eG
 have hd:Pm (fun b=>b=false) (if (decide (e.kL=([47]:cQ)))=true then some true else some (decide (e.kL=([37]:cQ)))):=by
  rw [if_neg (by simpa using h1)];exact .some (by simpa using h2)
 refine Pm.any fun y2=>?_
 by_cases hl:vs.length=2
 ·rw [if_pos (DU (by omega))];refine Pm.any fun x=>Pm.ite (Pm.any fun _=>Pm.any fun _=>.some rfl) (Pm.bind hd fun b hb=>?_);subst hb;rw [if_neg (by simp)];refine Pm.bind (Op_div h1 h2) fun k hk=>?_;refine Pm.bind (opl (F:=jU vs) (by omega) (fun _ _=>rfl) (fun _ _ _=>rfl) n 0 _ (by omega)) fun t ht=>?_;obtain ⟨ts,g1,rfl⟩:=ht;obtain ⟨a,b,rfl⟩:=JB (ts:=ts) (by omega);refine Pm.bind (RD hk.1 hk.2) fun q hq=>?_;rw [if_neg (by simp [hq])];exact .some rfl
 ·rw [if_neg (by simp;omega)];refine Pm.ite (Pm.any fun _=>Pm.any fun _=>.some rfl) (Pm.bind hd fun b hb=>?_);subst hb;rw [if_neg (by simp)];refine Pm.any fun k=>?_;refine Pm.bind (opl (F:=jT vs) (by omega) (fun _ _=>rfl) (fun _ _ _=>rfl) n 0 _ (by omega)) fun t ht=>?_;obtain ⟨ts,g1,rfl⟩:=ht;obtain ⟨a,rfl⟩:=JC (ts:=ts) (by omega);refine Pm.bind RE fun q hq=>?_;rw [if_neg (by simp [hq])];exact .some rfl
def isB (op:cQ):Bool:=decide (op=[115,101,108,101,99,116]) || decide (op=[108,111,110,103]) || decide (op=[108,111]) || decide (op=[104,105]) || decide (op=[119,105,100,101])
theorem NF {op:cQ} {vs:List Int}:Pm (fun x=>x.2=isB op) (rU op vs):=by
 unfold rU isB
 by_cases c1:op=[115,101,108,101,99,116]
 ·subst c1;rw [if_pos (DU rfl)];show Pm (fun x:Int × Bool=>x.2=true) _;exact Pm.any fun _=>Pm.ite (Pm.any fun _=>.some rfl) (Pm.any fun _=>.some rfl)
 rw [if_neg (by simpa using c1)]
 by_cases c2:op=[108,111,110,103]
 ·subst c2;rw [if_pos (DU rfl)];show Pm (fun x:Int × Bool=>x.2=true) _;exact Pm.any fun _=>.some rfl
 rw [if_neg (by simpa using c2)]
 by_cases c3:op=[108,111]
 ·subst c3;rw [if_pos (DU rfl)];show Pm (fun x:Int × Bool=>x.2=true) _;exact Pm.any fun _=>.some rfl
 rw [if_neg (by simpa using c3)]
 by_cases c4:op=[104,105]
 ·subst c4;rw [if_pos (DU rfl)];show Pm (fun x:Int × Bool=>x.2=true) _;exact Pm.any fun _=>.some rfl
 rw [if_neg (by simpa using c4)]
 by_cases c5:op=[119,105,100,101]
 ·subst c5;rw [if_pos (DU rfl)];show Pm (fun x:Int × Bool=>x.2=true) _;exact Pm.any fun _=>Pm.any fun _=>.some rfl
 rw [if_neg (by simpa using c5)];exact .some (by simp [c1,c2,c3,c4,c5])
structure FE (fr fr':aJ) (hs hs':List (List Int)):Prop where
 f:fr'.f_=fr.f_
 a:fr'.cE=fr.cE
 h:hs'.map List.length=hs.map List.length
 w:∀(i:Nat) v,fr.f_.aV[i]? = some v->v.bX=1->fr'.cC[i]? = fr.cC[i]?
 r:fr.f_.cR=1->fr'.oP=fr.oP
theorem Hq {hs hs':List (List Int)} (h:hs'.map List.length=hs.map List.length) {k:Int} {a b:List Int} (ha:bV hs k=some a) (hb:bV hs' k=some b):b.length=a.length:=by
 obtain ⟨_,h1⟩:=kZ ha;obtain ⟨_,h2⟩:=kZ hb;have h3:=congrArg (fun l=>l[k.toNat]?) h;simp only [yH,h1,h2,Ej,Option.some.injEq] at h3;exact h3
def LE (es:List aG) (vs vs':List Int):Prop:=vs'.length=vs.length/\∀(i:Nat) x,es[i]? = some x->i<vs.length->x.cM=1->vs'[i]? = vs[i]?
def VE (e:aG) (a b:Int × aE):Prop:=b.2=a.2/\(e.cM=1->b.1=a.1)
def AE (es:List aG):((List Int × aE) ⊕ (Int × aE))->((List Int × aE) ⊕ (Int × aE))->Prop
 | .inl a,.inl b=>b.2=a.2/\LE es a.1 b.1/\a.1.length=es.length
 | .inr a,.inr b=>b=a
 | _,_=>False
section
variable {fr fr':aJ} {hs hs':List (List Int)} {sc:List Int}
theorem NH {rc:VlF} {e:aG} (hr:∀x ∈ e.aM,∀r,Tw (VE x) (rc r fr hs x) (rc r fr' hs' x)) (hl:e.aM.length<10):∀(c:Nat) (vs vs':List Int) (j:Nat) r,LE e.aM vs vs'->vs.length=j->j<=e.aM.length ->
  Tw (AE e.aM) (dY rc e fr hs c vs (j:Int) r) (dY rc e fr' hs' c vs' (j:Int) r)
 | 0,vs,vs',j,r,_,_,_=>Tw.none
 | c+1,vs,vs',j,r,hL,hj,hjl=>by
   unfold dY
   refine Tw.ite (fun h=>?_) fun h=>.some ⟨rfl,hL,by
    have h:¬ (j:Int)<(e.aM.length:Int):=by simpa using h
    show vs.length=_;omega⟩
   refine Tw.same fun x hx=>?_;obtain ⟨_,hx⟩:=kZ hx;rw [yG] at hx;refine Tw.bind (hr x (Al hx) r) fun a b hab=>?_;obtain ⟨h1,h2⟩:=hab;rw [h1];refine Tw.same (x:=bN a.2) fun d hd=>Tw.ite (fun _=>.some rfl) fun _=>Tw.need fun _ _=>?_;have hjl':=(qJ.1 hx).1;rw [fG (by omega) (by omega)];refine NH hr hl c (vs++[a.1]) (vs'++[b.1]) (j+1) a.2 ⟨by simp [hL.1],fun i y hy hi ht=>?_⟩ (by simp [hj]) (by omega);rw [nC,uW] at hi
   by_cases hij:i<vs.length
   ·rw [FB (by rw [hL.1];exact hij),FB hij];exact hL.2 i y hy hij ht
   ·have hij:i=j:=by omega
    subst hij;rw [hx] at hy;cases hy
    rw [GP (by rw [hL.1];omega),GP (by omega),hL.1,h2 ht]
theorem Bf {ri:aE->aJ->List (List Int)->aG->Int->Option (Int × aE)} {rc:VlF} {e:aG} {n:Nat} {r:aE} (hr:∀x ∈ e.aM,∀r,Tw (VE x) (rc r fr hs x) (rc r fr' hs' x)) (hl:e.aM.length<10)
  (h1:e.kL ≠ [110,117,109]) (h2:e.kL ≠ [118,97,114]) (h3:e.kL ≠ [105,110,100,101,120]) (hB:isB e.kL=true->e.cM ≠ 1)
  (hO:isB e.kL=false->∀vs vs' r,LE e.aM vs vs'->vs.length=e.aM.length->Tw (VE e) (eG n r e vs) (eG n r e vs')) :
  Tw (VE e) (cY ri rc n r fr hs e) (cY ri rc n r fr' hs' e):=by
 unfold cY;rw [if_neg (by simpa using h1),if_neg (by simpa using h2),if_neg (by simpa using h3),if_neg (by simpa using h1),if_neg (by simpa using h2),if_neg (by simpa using h3)];refine Tw.bind (NH hr hl n [] [] 0 r ⟨rfl,fun i x _ hi=>by cases hi⟩ rfl (Kh _)) fun s t hst=>?_;cases s with
 | inl a=>
   cases t with
   | inr b=>exact hst.elim
   | inl b=>
     obtain ⟨g1,g2,g3⟩:=hst;refine Tw.bind (Tw.pm NF NF) fun p q hpq=>?_;rw [hpq.1,hpq.2,g1];cases hb:isB e.kL with
     | true=>
       rw [if_pos rfl,if_pos rfl];exact .some ⟨rfl,fun h=>absurd h (hB hb)⟩
     | false=>
       rw [if_neg (by simp),if_neg (by simp)];exact Tw.bind (hO hb a.1 b.1 a.2 g2 g3) fun p q h=>.some h
 | inr a=>
   cases t with
   | inl b=>exact hst.elim
   | inr b=>
     obtain rfl:b=a:=hst;exact .some ⟨rfl,fun _=>rfl⟩
theorem LE.one {x:aG} {vs vs':List Int} (h:LE [x] vs vs') (hl:vs.length=1):∃a b,vs=[a]/\vs'=[b]/\(x.cM=1->b=a):=by
 obtain ⟨a,rfl⟩:=JC hl;obtain ⟨b,rfl⟩:=JC h.1;exact ⟨a,b,rfl,rfl,fun ht=>by simpa using h.2 0 x rfl (by simp) ht⟩
theorem LE.two {x y:aG} {vs vs':List Int} (h:LE [x,y] vs vs') (hl:vs.length=2):∃a b a' b',vs=[a,b]/\vs'=[a',b']/\(x.cM=1->a'=a)/\(y.cM=1->b'=b):=by
 obtain ⟨a,b,rfl⟩:=JB hl;obtain ⟨a',b',rfl⟩:=JB h.1;exact ⟨a,b,a',b',rfl,rfl,fun ht=>by simpa using h.2 0 x rfl (by simp) ht,fun ht=>by simpa using h.2 1 y rfl (by simp) ht⟩
theorem FN {a b:Int} (h:vU a b=1):a=1/\b=1:=by
 unfold vU at h
 split at h
 ·omega
 ·split at h <;> omega
theorem Sy.pub {o:cQ} {x y:aG} {t:Int} (h:Sy o x y t) (ht:t=1):x.cM=1/\y.cM=1:=by
 rcases h with ⟨_,h1,h2,_⟩ | ⟨_,h1,_,h2⟩ | ⟨_,h1,_⟩ | ⟨_,h0,h1⟩ | ⟨_,h1,_⟩
 ·exact ⟨h1,h2⟩
 ·exact ⟨by omega,h1⟩
 ·exact FN (h1.symm.trans ht)
 ·split at h1
  ·omega
  ·exact FN (h1.symm.trans ht)
 ·exact FN (h1.symm.trans ht)
theorem Do (hE:FE fr fr' hs hs'):∀N:Nat,
  (∀e,TX fr.f_.aV sc e->∀r,Tw (VE e) (bU N r fr hs e) (bU N r fr' hs' e)) ∧
  (∀e v,TX fr.f_.aV sc e->e.cM=1->∀r,Tw (fun a b=>b=a) (gK N r fr hs e v) (gK N r fr' hs' e v)):=by
 intro N
 induction N with
 | zero=>exact ⟨fun _ _ _=>Tw.none,fun _ _ _ _ _=>Tw.none⟩
 | succ N ih=>
   obtain ⟨ihv,ihi⟩:=ih;refine ⟨fun e he r=>?_,fun e v he ht r=>?_⟩
   ·rw [FC];cases he with
    | num=>
      unfold cY;rw [if_pos (by rfl),if_pos (by rfl)];exact .some ⟨rfl,fun _=>rfl⟩
    | @var v u a h1 h2 h3=>
      unfold cY;rw [if_neg (by simp),if_pos (by rfl),if_neg (by simp),if_pos (by rfl)];refine Tw.any fun x y hx hy=>.some ⟨rfl,fun ht=>?_⟩;obtain ⟨_,hu⟩:=kZ h2;obtain ⟨_,hx⟩:=kZ hx;obtain ⟨_,hy⟩:=kZ hy;have:=hE.w _ u hu ht;rw [hx,hy] at this;exact Option.some.inj this
    | @index v u i a h1 h2 h3 h4 h5 h6=>
      unfold cY;rw [if_neg (by simp),if_neg (by simp),if_pos (by rfl),if_neg (by simp),if_neg (by simp),if_pos (by rfl)];refine Tw.same fun x hx=>?_;obtain rfl:i=x:=Option.some.inj hx;refine Tw.bind (ihi i v h4 h5 r) fun p q hpq=>?_;subst hpq;refine Tw.same fun b _=>Tw.ite (fun _=>.some ⟨rfl,fun _=>rfl⟩) fun _=>Tw.any fun _ _ _ _=>Tw.any fun _ _ _ _=>Tw.any fun _ _ _ _=>.some ⟨rfl,fun h=>by cases h⟩
    | @un o x a ho h1=>
      refine Bf (fun y hy r=>by rw [zN.1 hy];exact ihv x h1 r) (by simp) ?_ ?_ ?_ ?_ ?_
      iterate 3 (rcases ho with rfl | rfl <;> simp)
      ·intro h;rcases ho with rfl | rfl <;> cases h
      ·intro _ vs vs' r hL hl;obtain ⟨p,q,rfl,rfl,hpq⟩:=hL.one hl;have hne:o ≠ [47]/\o ≠ [37]:=by rcases ho with rfl | rfl <;> decide
       intro u v hu hv;refine ⟨(An hne.1 hne.2 (.inl rfl) v hv).trans (An hne.1 hne.2 (.inl rfl) u hu).symm,fun ht=>?_⟩;rw [hpq ht,hu] at hv;rw [Option.some.inj hv]
    | @bin o x y t a h1 h2 hb=>
      refine Bf (fun z hz r=>?_) (by simp) ?_ ?_ ?_ ?_ ?_
      ·simp only [vA,HT,or_false] at hz
       rcases hz with rfl | rfl
       ·exact ihv _ h1 r
       ·exact ihv _ h2 r
      iterate 3 (rcases hb with ⟨h | h,_⟩ | ⟨h | h | h,_⟩ | ⟨h,_⟩ | ⟨h | h,_⟩ | ⟨h | h | h | h | h,_⟩ <;> simp [h])
      ·show isB o=true->t ≠ 1;intro hB;exfalso;revert hB
       rcases hb with ⟨h | h,_⟩ | ⟨h | h | h,_⟩ | ⟨h,_⟩ | ⟨h | h,_⟩ | ⟨h | h | h | h | h,_⟩ <;> rw [h] <;> decide
      ·intro _ vs vs' r hL hl;obtain ⟨p,q,p',q',rfl,rfl,e1,e2⟩:=hL.two hl;intro u v hu hv
       by_cases hd:x.cM=1/\y.cM=1
       ·rw [e1 hd.1,e2 hd.2,hu] at hv;rw [Option.some.inj hv];exact ⟨rfl,fun _=>rfl⟩
       ·have hne:o ≠ [47]/\o ≠ [37]:=by
         rcases hb with ⟨_,h1,h2,_⟩ | ⟨h | h | h,_⟩ | ⟨h,_⟩ | ⟨h | h,_⟩ | ⟨h | h | h | h | h,_⟩
         ·exact absurd ⟨h1,h2⟩ hd
         all_goals rw [h];decide
        exact ⟨(An hne.1 hne.2 (.inr rfl) v hv).trans (An hne.1 hne.2 (.inr rfl) u hu).symm,fun ht=>absurd (hb.pub ht) hd⟩
    | @sel c x y a h1 h2 h3 h4 h5=>
      refine Bf (fun z hz r=>?_) (by simp) (by simp) (by simp) (by simp) (fun _=>?_) (fun h=>by cases h)
      ·simp only [vA,HT,or_false] at hz
       rcases hz with rfl | rfl | rfl
       ·exact ihv _ h1 r
       ·exact ihv _ h2 r
       ·exact ihv _ h3 r
      ·simp only;unfold Hb
       split <;> omega
    | @long x a h1 h2=>
      exact Bf (fun y hy r=>by rw [zN.1 hy];exact ihv x h1 r) (by simp) (by simp) (by simp) (by simp) (fun _=>by simp) (fun h=>by cases h)
    | @wide x y a h1 h2 h3 h4=>
      refine Bf (fun z hz r=>?_) (by simp) (by simp) (by simp) (by simp) (fun _=>by simp) (fun h=>by cases h);simp only [vA,HT,or_false] at hz
      rcases hz with rfl | rfl
      ·exact ihv _ h1 r
      ·exact ihv _ h2 r
    | @half o x a ho h1 h2=>
      refine Bf (fun y hy r=>by rw [zN.1 hy];exact ihv x h1 r) (by simp) ?_ ?_ ?_ (fun _=>by simp) ?_
      iterate 3 (rcases ho with rfl | rfl <;> simp)
      intro h;rcases ho with rfl | rfl <;> cases h
   ·rw [FQ];unfold iC;refine Tw.bind (ihv e he r) fun p q hpq=>?_;obtain ⟨g1,g2⟩:=hpq;obtain rfl:q=p:=Prod.ext (g2 ht) g1;refine Tw.same fun b _=>Tw.ite (fun _=>.some rfl) fun _=>?_;rw [hE.a];refine Tw.same fun k hk=>Tw.any fun x y hx hy=>?_;rw [Hq hE.h hx hy];exact Tw.same fun s _=>Tw.ite (fun _=>.some rfl) fun _=>.some rfl
end
def GE (r:aE) (fr:aJ) (a b:G3):Prop:=b.1=a.1/\a.1.p_=r.p_/\a.2.1.f_=fr.f_/\FE a.2.1 b.2.1 a.2.2 b.2.2
def GS (r:aE) (fr:aJ):(G3 ⊕ G3)->(G3 ⊕ G3)->Prop
 | .inl a,.inl b=>GE r fr a b
 | .inr a,.inr b=>GE r fr a b
 | _,_=>False
theorem GE.rf {r s:aE} {fr fr':aJ} {hs hs':List (List Int)} (hp:s.p_=r.p_) (hE:FE fr fr' hs hs'):GE r fr (s,fr,hs) (s,fr',hs'):=⟨rfl,hp,rfl,hE⟩
theorem GE.of {r s:aE} {fr fr2:aJ} (hp:s.p_=r.p_) (hf:fr2.f_=fr.f_) {c d:G3} (k:GE s fr2 c d):GE r fr c d:=⟨k.1,k.2.1.trans hp,k.2.2.1.trans hf,k.2.2.2⟩
theorem GS.of {r s:aE} {fr fr2:aJ} (hp:s.p_=r.p_) (hf:fr2.f_=fr.f_) {c d:G3 ⊕ G3} (k:GS s fr2 c d):GS r fr c d:=by
 cases c with
 | inl c=>cases d with
   | inl d=>exact GE.of hp hf k
   | inr d=>exact k.elim
 | inr c=>cases d with
   | inl d=>exact k.elim
   | inr d=>exact GE.of hp hf k
def PK (P:aN) (blk:Sw):Prop:=∀r fr fr' hs hs' ss,r.p_=P->FE fr fr' hs hs'->(∀s ∈ ss,St P fr.f_ s)->Tw (GE r fr) (blk r fr hs ss) (blk r fr' hs' ss)
def OkST (P:aN) (st:StF):Prop:=∀r fr fr' hs hs' s,r.p_=P->FE fr fr' hs hs'->St P fr.f_ s->Tw (GE r fr) (st r fr hs s) (st r fr' hs' s)
def JW (P:aN) (o:cQ) (st:StF):Prop:=∀r fr fr' hs hs' s,s.kL=o->r.p_=P->FE fr fr' hs hs'->St P fr.f_ s->Tw (GE r fr) (st r fr hs s) (st r fr' hs' s)
theorem RY {r:aE}:Pm (fun x=>x.p_=r.p_) (iH r):=by
 unfold iH;exact Pm.ite (.some rfl) (.some rfl)
section
variable {P:aN} {n:Nat} {fr fr':aJ} {hs hs':List (List Int)} {r:aE}
theorem EH {x y:Option G3} (h:Tw (GE r fr) x y):Tw (GE r fr) (x.bind fun a=>some (a.1,a.2.1,a.2.2)) (y.bind fun a=>some (a.1,a.2.1,a.2.2)):=h.bind fun a b hab=>.some hab
theorem Gm {st:StF} (hst:OkST P st) {ss:List aH}:∀(c:Nat) (j:Int) r fr fr' hs hs',r.p_=P->FE fr fr' hs hs'->(∀s ∈ ss,St P fr.f_ s)->Tw (GS r fr) (dS st ss c j r fr hs) (dS st ss c j r fr' hs')
 | 0,j,r,fr,fr',hs,hs',_,_,_=>Tw.none
 | c+1,j,r,fr,fr',hs,hs',hp,hE,hT=>by
   unfold dS;refine Tw.ite (fun _=>Tw.bind (R:=GS r fr) ?_ fun s t hst'=>?_) fun _=>.some (GE.rf rfl hE)
   ·refine Tw.same fun s hs'=>Tw.same (x:=bN r) fun b _=>Tw.ite (fun _=>.some (GE.rf rfl hE)) fun _=>Tw.same fun b hb=>?_;have hbp:=RY b hb;have hm:s ∈ ss:=Al (kZ hs').2;exact Tw.same (x:=bN b) fun e _=>Tw.ite (fun _=>Tw.bind (hst b _ _ _ _ s (hbp.trans hp) hE (hT s hm)) fun a a' h=>.some (GE.of hbp rfl h:GE r fr a a')) fun _=>.some (GE.rf hbp hE)
   ·cases s with
    | inl a=>cases t with
      | inr b=>exact hst'.elim
      | inl b=>
        obtain ⟨g1,g2,g3,g4⟩:=hst';show Tw (GS r fr) (dS st ss c _ a.1 a.2.1 a.2.2) (dS st ss c _ b.1 b.2.1 b.2.2);rw [g1];exact (Gm hst c _ a.1 a.2.1 b.2.1 a.2.2 b.2.2 (g2.trans hp) g4 (by rw [g3];exact hT)).mono fun p q h=>GS.of g2 g3 h
    | inr a=>cases t with
      | inl b=>exact hst'.elim
      | inr b=>exact .some hst'
theorem Sd {st:StF} (hst:OkST P st):PK P (eH st n):=fun r fr fr' hs hs' ss hp hE hT=>by
 unfold eH;refine Tw.bind (Gm hst n 0 r fr fr' hs hs' hp hE hT) fun a b hab=>?_;cases a with
 | inl a=>cases b with
   | inl b=>exact .some hab
   | inr b=>exact hab.elim
 | inr a=>cases b with
   | inl b=>exact hab.elim
   | inr b=>exact .some hab
theorem Jr (hE:FE fr fr' hs hs') {v z z':Int} (hz:∀u,bV fr.f_.aV v=some u->u.bX=1->z'=z):Tw (fun a b=>a.1.f_=fr.f_/\FE a.1 b.1 a.2 b.2) (cZ fr hs v z) (cZ fr' hs' v z'):=by
 unfold cZ;refine Tw.ite (fun h0=>Tw.any fun x y hx hy=>.some ⟨rfl,hE.f,hE.a,hE.h,fun i u hu hk=>?_,hE.r⟩) fun _=>.some ⟨rfl,hE⟩;have h0:=Dk h0;have lx:=(qJ.1 (kZ hx).2).1;have ly:=(qJ.1 (kZ hy).2).1;show (fr'.cC.set v.toNat z')[i]? = (fr.cC.set v.toNat z)[i]?
 by_cases hi:i=v.toNat
 ·subst hi;rw [Io ly,Io lx,hz u (by unfold bV;rw [if_pos h0];exact hu) hk]
 ·rw [Ja (by omega),Ja (by omega)];exact hE.w i u hu hk
theorem FW (hE:FE fr fr' hs hs') {sc:List Int} {v:Int} {x:aG} (hx:TX fr.f_.aV sc x) (hv:∀u,bV fr.f_.aV v=some u->u.bX=1->x.cM=1) :
  Tw (GE r fr) ((bU n r fr hs x).bind fun x4=>(bN x4.2).bind fun x11=>if (!x11)=true then (cZ fr hs v x4.1).bind fun x14=>some (x4.2,x14.1,x14.2) else some (x4.2,fr,hs))
   ((bU n r fr' hs' x).bind fun x4=>(bN x4.2).bind fun x11=>if (!x11)=true then (cZ fr' hs' v x4.1).bind fun x14=>some (x4.2,x14.1,x14.2) else some (x4.2,fr',hs')):=by
 refine Tw.bindP ((Do hE n).1 x hx r) ((BP n).1 r fr hs x) fun a b hab hk=>?_;obtain ⟨h1,h2⟩:=hab;rw [h1];refine Tw.same (x:=bN a.2) fun e _=>Tw.ite (fun _=>Tw.bind (Jr hE fun u hu hk=>h2 (hv u hu hk)) fun c d hcd=>.some ?_) fun _=>.some ⟨rfl,hk.2.2,rfl,hE⟩;exact ⟨rfl,hk.2.2,hcd.1,hcd.2⟩
theorem Ix {k:Int} {a' b':List Int} (h:hs'.map List.length=hs.map List.length) (hl:b'.length=a'.length):(hs'.set k.toNat b').map List.length=(hs.set k.toNat a').map List.length:=by
 rw [PP,PP,h,hl]
theorem Qy (hE:FE fr fr' hs hs') {sc:List Int} {v:Int} {i x:aG} {a:Int} (hi:TX fr.f_.aV sc i) (ht:i.cM=1) (hx:TX fr.f_.aV sc x) :
  Tw (GE r fr) (hM n r fr hs ⟨[112,117,116],v,0,[i,x],[],[],a⟩) (hM n r fr' hs' ⟨[112,117,116],v,0,[i,x],[],[],a⟩):=by
 unfold hM;refine Tw.same fun x' hx'=>?_;obtain rfl:i=x':=Option.some.inj hx';refine Tw.bindP ((Do hE n).2 i v hi ht r) ((BP n).2 r fr hs i v) fun p q hpq hk=>?_;subst hpq;refine Tw.same fun b _=>Tw.ite (fun _=>.some ⟨rfl,hk.2.2,rfl,hE⟩) fun _=>Tw.same fun x' hx'=>?_;obtain rfl:x=x':=Option.some.inj hx';refine Tw.bindP ((Do hE n).1 x hx q.2) ((BP n).1 q.2 fr hs x) fun c d hcd hk2=>?_;rw [hcd.1,hE.a];refine Tw.same (x:=bN c.2) fun b _=>Tw.ite (fun _=>?_) fun _=>.some ⟨rfl,hk2.2.2.trans hk.2.2,rfl,hE⟩;refine Tw.same fun k hk3=>Tw.any fun y y' hy hy'=>Tw.any fun _ _ _ _=>.some ⟨rfl,hk2.2.2.trans hk.2.2,rfl,hE.f,hE.a,?_,hE.w,hE.r⟩;exact Ix hE.h (by rw [GI,GI];exact Hq hE.h hy hy')
theorem Pp {blk:Sw} (hb:PK P blk):JW P [105,102] (eA blk n):=fun r fr fr' hs hs' s ho hp hE hT=>by
 obtain ⟨l,m,sc,n',sc',hT⟩:=hT;unfold eA;cases hT with
 | @if_ _ _ _ c b e a n1 sc1 n2 sc2 _ _ _ h1 h2 h3 h4 _=>
   refine Tw.same fun x' hx'=>?_;obtain rfl:c=x':=Option.some.inj hx';refine Tw.bindP ((Do hE n).1 c h1 r) ((BP n).1 r fr hs c) fun p q hpq hk=>?_;obtain rfl:q=p:=Prod.ext (hpq.2 h2) hpq.1;refine Tw.same fun b' _=>Tw.ite (fun _=>.some ⟨rfl,hk.2.2,rfl,hE⟩) fun _=>Tw.ite (fun _=>Tw.same fun t ht=>?_) fun _=>Tw.same fun t ht=>?_
   ·have ht:=(FI t ht).2.2.trans hk.2.2;exact EH ((hb t fr fr' hs hs' _ (ht.trans hp) hE (h3.each)).mono fun c d h=>GE.of ht rfl h)
   ·have ht:=(FI t ht).2.2.trans hk.2.2;exact EH ((hb t fr fr' hs hs' _ (ht.trans hp) hE (h4.each)).mono fun c d h=>GE.of ht rfl h)
 | _=>cases ho
theorem Fd {blk:Sw} (hb:PK P blk) {q:Int × aE} {s:aH}:∀(c:Nat) (v:Int) r fr fr' hs hs',r.p_=P->FE fr fr' hs hs'->(∀t ∈ s.eK,St P fr.f_ t) ->
  Tw (GE r fr) (fB blk q s c v r fr hs) (fB blk q s c v r fr' hs')
 | 0,v,r,fr,fr',hs,hs',_,_,_=>Tw.none
 | c+1,v,r,fr,fr',hs,hs',hp,hE,hT=>by
   unfold fB;refine Tw.same fun e _=>Tw.ite (fun _=>Tw.same fun b hb'=>Tw.bind (Jr hE fun _ _ _=>rfl) fun t t' htt=>?_) fun _=>.some ⟨rfl,rfl,rfl,hE⟩;have hbp:=RY b hb';refine Tw.bind (hb b t.1 t'.1 t.2 t'.2 _ (hbp.trans hp) htt.2 (by rw [htt.1];exact hT)) fun x y hxy=>?_;obtain ⟨g1,g2,g3,g4⟩:=hxy;rw [g1];exact (Fd hb c _ x.1 x.2.1 y.2.1 x.2.2 y.2.2 (g2.trans (hbp.trans hp)) g4 (by rw [g3,htt.1];exact hT)).mono fun p q h=>GE.of (g2.trans hbp) (g3.trans htt.1) h
theorem OC {blk:Sw} (hb:PK P blk):JW P [102,111,114] (dZ blk n):=fun r fr fr' hs hs' s ho hp hE hT=>by
 obtain ⟨l,m,sc,n',sc',hT⟩:=hT;unfold dZ;cases hT with
 | @for_ _ _ _ x y u b a n1 sc1 _ _ _ h1 h2 h3 h4 h5 h6 h7 _=>
   refine Tw.same fun x' hx'=>?_;obtain rfl:x=x':=Option.some.inj hx';refine Tw.bindP ((Do hE n).1 x h1 r) ((BP n).1 r fr hs x) fun p q hpq hk=>?_;obtain rfl:q=p:=Prod.ext (hpq.2 h2) hpq.1;refine Tw.same fun b' _=>Tw.ite (fun _=>.some ⟨rfl,hk.2.2,rfl,hE⟩) fun _=>Tw.same fun y' hy'=>?_;obtain rfl:y=y':=Option.some.inj hy';refine Tw.bindP ((Do hE n).1 y h3 q.2) ((BP n).1 q.2 fr hs y) fun c d hcd hk2=>?_;obtain rfl:d=c:=Prod.ext (hcd.2 h4) hcd.1;have hkk:=hk2.2.2.trans hk.2.2;refine Tw.same fun b' _=>Tw.ite (fun _=>.some ⟨rfl,hkk,rfl,hE⟩) fun _=>Tw.same fun t ht=>?_;have ht:=(FI t ht).2.2.trans hkk;exact EH ((Fd hb n _ t fr fr' hs hs' (ht.trans hp) hE h7.each).mono fun c d h=>GE.of ht rfl h)
 | _=>cases ho
def CE (r:aE) (f:aR) (hs hs':List (List Int)):(aE ⊕ (aE × aJ))->(aE ⊕ (aE × aJ))->Prop
 | .inl a,.inl b=>b=a/\a.p_=r.p_
 | .inr a,.inr b=>b.1=a.1/\a.1.p_=r.p_/\a.2.f_=f/\FE a.2 b.2 hs hs'
 | _,_=>False
theorem DR (hE:FE fr fr' hs hs') {h2:List (List Int)} {sc:List Int} {f:aR}:∀(l:List aG) (i:Nat) r to to',(∀(j:Nat) x,l[j]? = some x->∃p,f.aV[i+j]? = some p/\Eq fr.f_.aV sc p x)->to.f_=f->FE to to' (hs++h2) (hs'++h2) ->
  Tw (CE r f (hs++h2) (hs'++h2)) (rJ n fr hs h2 l i r to) (rJ n fr' hs' h2 l i r to')
 | [],i,r,to,to',_,hf,hT=>.some ⟨rfl,rfl,hf,hT⟩
 | x::l,i,r,to,to',hA,hf,hT=>by
   unfold rJ
   have hA':∀(j:Nat) x,l[j]? = some x->∃p,f.aV[i+1+j]? = some p/\Eq fr.f_.aV sc p x:=fun j y hy=>by
    have:=hA (j+1) y (by rw [Ki];exact hy);rw [show i+(j+1)=i+1+j by omega] at this;exact this
   refine Tw.ite (fun h4=>?_) fun h4=>?_
   ·rw [hE.a];refine Tw.same fun k _=>Tw.need fun _ _=>DR hE l (i+1) r _ _ hA' hf ⟨hT.f,?_,hT.h,hT.w,hT.r⟩;show to'.cE.set i k=to.cE.set i k;rw [hT.a]
   ·obtain ⟨p,hp,hA⟩:=hA 0 x rfl;rw [Qk] at hp
    have hX:TX fr.f_.aV sc x/\(p.bX=1->x.cM=1):=by
     cases hA with
     | arr=>exact absurd rfl h4
     | pub _ h1 h2=>exact ⟨h1,fun _=>h2⟩
     | val h1 _ h2 _=>exact ⟨h2,fun h=>absurd h h1⟩
    refine Tw.bindP ((Do hE n).1 x hX.1 r) ((BP n).1 r fr hs x) fun a b hab hk=>?_;obtain ⟨h1,h2'⟩:=hab;rw [h1];refine Tw.same (x:=bN a.2) fun e _=>Tw.ite (fun _=>.some ⟨rfl,hk.2.2⟩) fun _=>Tw.bind (Jr hT fun u hu hk=>h2' (hX.2 ?_)) fun t t' htt=>?_
    ·rw [hf] at hu;have:=(kZ hu).2;rw [yG,hp] at this;cases this;exact hk
    ·refine Tw.mono (DR hE l (i+1) a.2 t.1 t'.1 hA' (htt.1.trans hf) ⟨htt.2.f,htt.2.a,hT.h,htt.2.w,htt.2.r⟩) fun c d h=>?_;cases c with
     | inl c=>cases d with
       | inl d=>exact ⟨h.1,h.2.trans hk.2.2⟩
       | inr d=>exact h.elim
     | inr c=>cases d with
       | inl d=>exact h.elim
       | inr d=>exact ⟨h.1,h.2.1.trans hk.2.2,h.2.2⟩
theorem ML {f:aR} {s:aH} (ho:s.kL=[99,97,108,108]) (h:St P f s):∃g sc,bV P.bD s.pP=some g/\DS f.aV sc (g.aV.take g.aW.toNat) s.aM/\(∀u,bV f.aV s.lO=some u->u.bX=1->g.cR=1)/\(s.lO=-2->f.cR=g.cR):=by
 obtain ⟨l,m,sc,n',sc',h⟩:=h;cases h with
 | @callv _ n _ k r ps xs u a _ _ _ h1 h2 h3 h4 h5 _=>
   obtain ⟨g,e1,rfl,rfl⟩:=h1;refine ⟨g,_,e1,h2,fun u' hu hk=>?_,fun h=>by simp only at h;omega⟩;have:=(kZ hu).2;rw [yG,h4] at this;cases this;omega
 | @calls _ n _ v u k r ps xs a _ _ _ h1 h2 h3 h4 h5 h6 _=>
   obtain ⟨g,e1,rfl,rfl⟩:=h4;refine ⟨g,_,e1,h5,fun u' hu hk=>?_,fun h=>?_⟩
   ·have hu:bV f.aV v=some u':=hu;rw [h2] at hu;cases hu;omega
   ·have:=(kZ h2).1;have h:v=-2:=h;omega
 | @do_ _ n _ k r ps xs a _ _ _ h1 h2 _=>
   obtain ⟨g,e1,rfl,rfl⟩:=h1;exact ⟨g,_,e1,h2,fun u' hu hk=>by have:=(kZ hu).1;simp at this,fun h=>by simp at h⟩
 | @retc n _ k ps xs a h1 h2 h3=>
   obtain ⟨g,e1,e2,rfl⟩:=h1;exact ⟨g,_,e1,h3,fun u' hu hk=>by have:=(kZ hu).1;simp at this,fun _=>e2⟩
 | _=>cases ho
theorem call_tw (hP:∀k f,bV P.bD k=some f->NM P f) {blk:Sw} (hb:PK P blk):JW P [99,97,108,108] (dT blk n):=fun r fr fr' hs hs' s ho hp hE hT=>by
 obtain ⟨g,sc,e1,hA,hv1,hv2⟩:=ML ho hT;have hG:=hP _ _ e1;unfold dT;refine Tw.need fun _ _=>?_;have hl:hs'.length=hs.length:=by have:=congrArg List.length hE.h;simpa using this
 rw [hp,e1,mS,mS,hl];refine Tw.same fun o ho'=>?_
 have hof:o.1.f_=g:=by
  unfold zC at ho';obtain ⟨_,ho'⟩:=bP ho';obtain ⟨q,_,ho'⟩:=aA ho';cases ho';rfl
 have hpl:=hG.p1;have hp0:=hG.p0
 have hAr:∀(j:Nat) x,s.aM[j]? = some x->∃p,g.aV[0+j]? = some p/\Eq fr.f_.aV sc p x:=fun j x hx=>by
  have h1:=(qJ.1 hx).1;have h2:=hA.1;rw [Ei] at h2
  have h3:(g.aV.take g.aW.toNat)[j]? = some g.aV[j]:=by
   rw [xek (by omega),tA (by omega)]
  exact ⟨g.aV[j],by rw [IZ,tA (by omega)],hA.2 j _ x h3 hx⟩
 have hE0:FE o.1 o.1 (hs++o.2) (hs'++o.2):=⟨rfl,rfl,by rw [HS,HS,hE.h],fun _ _ _ _=>rfl,fun _=>rfl⟩;refine Tw.bind (DR hE (h2:=o.2) s.aM 0 r o.1 o.1 hAr hof hE0) fun c d hcd=>?_;cases c with
 | inl c=>cases d with
   | inr d=>exact hcd.elim
   | inl d=>exact .some ⟨hcd.1,hcd.2,rfl,hE⟩
 | inr c=>cases d with
   | inl d=>exact hcd.elim
   | inr d=>
     obtain ⟨c1,c2,c3,c4⟩:=hcd;obtain ⟨bl,bn,bsc,bn',bsc',hB⟩:=hG.body;show Tw (GE r fr) ((blk c.1 c.2 (hs++o.2) c.2.f_.eK).bind _) ((blk d.1 d.2 (hs'++o.2) d.2.f_.eK).bind _);rw [c1,c4.f,c3];refine Tw.bind (hb c.1 c.2 d.2 (hs++o.2) (hs'++o.2) g.eK (c2.trans hp) c4 (by rw [c3];exact hB.each)) fun b b' hbb=>?_;obtain ⟨b1,b2,b3,b4⟩:=hbb;rw [b1];have hh:(b'.2.2.take hs.length).map List.length=(b.2.2.take hs.length).map List.length:=by rw [List.map_take,List.map_take,b4.h]
     have hE2:FE fr fr' (b.2.2.take hs.length) (b'.2.2.take hs.length):=⟨hE.f,hE.a,hh,hE.w,hE.r⟩;have hres:g.cR=1->b'.2.1.oP=b.2.1.oP:=fun h=>b4.r (by rw [b3,c3];exact h);have hpp:=b2.trans c2;refine Tw.same (x:=bN b.1) fun e _=>Tw.ite (fun _=>.some ⟨rfl,hpp,rfl,hE2⟩) fun _=>Tw.ite (fun hv=>.some ⟨rfl,hpp,rfl,hE.f,hE.a,hh,hE.w,fun h=>hres (by rw [←hv2 hv];exact h)⟩) fun _=>?_;refine Tw.bind (Jr hE2 fun u hu hk=>hres (hv1 u hu hk)) fun t t' htt=>.some ⟨rfl,hpp,htt.1,htt.2⟩
theorem stmt_tw {fc fi fo:StF} (hc:JW P [99,97,108,108] fc) (hi:JW P [105,102] fi) (hf:JW P [102,111,114] fo):OkST P (dP fc fi fo n):=fun r fr fr' hs hs' s hp hE hT=>by
 have hT':=hT;obtain ⟨l,m,sc,n',sc',hT⟩:=hT;unfold dP;have hcall:s.kL=[99,97,108,108]->Tw (GE r fr) ((fc r fr hs s).bind fun x67=>some (x67.1,x67.2.1,x67.2.2)) ((fc r fr' hs' s).bind fun x67=>some (x67.1,x67.2.1,x67.2.2)):=fun ho=>EH (hc r fr fr' hs hs' s ho hp hE hT');cases hT with
 | @let_ _ n _ x u a _ _ _ h1 h2 h3 h4 _=>
   rw [if_pos (by rfl),if_pos (by rfl)];refine Tw.same fun x' hx'=>?_;obtain rfl:x=x':=Option.some.inj hx';exact FW hE h1 fun _ _ _=>h2
 | @var_ _ n _ x u a _ _ _ h1 h3 h4 _=>
   iterate 1 rw [if_neg (by simp)]
   rw [if_pos (by rfl)]
   iterate 1 rw [if_neg (by simp)]
   rw [if_pos (by rfl)];refine Tw.same fun x' hx'=>?_;obtain rfl:x=x':=Option.some.inj hx';refine FW hE h1 fun u' hu hk=>?_;have:=(kZ hu).2;rw [yG,h3] at this;cases this;rw [h4] at hk;unfold Hb at hk
   split at hk <;> omega
 | @set _ n _ v u x a _ _ _ h1 h2 h3 h4 h5 _=>
   iterate 2 rw [if_neg (by simp)]
   rw [if_pos (by rfl)]
   iterate 2 rw [if_neg (by simp)]
   rw [if_pos (by rfl)];refine Tw.same fun x' hx'=>?_;obtain rfl:x=x':=Option.some.inj hx';refine FW hE h4 fun u' hu hk=>?_;rw [h2] at hu;cases hu;omega
 | @arr _ n _ u a _ _ _ h1 h2 _=>
   iterate 3 rw [if_neg (by simp)]
   rw [if_pos (by rfl)]
   iterate 3 rw [if_neg (by simp)]
   rw [if_pos (by rfl),hE.a];refine Tw.same fun k _=>Tw.any fun y y' hy hy'=>Tw.need fun _ _=>.some ⟨rfl,rfl,rfl,hE.f,hE.a,?_,hE.w,hE.r⟩;exact Ix hE.h (by rw [PQ,PQ];exact Hq hE.h hy hy')
 | @put _ n _ v u i x a _ _ _ h1 h2 h3 h4 h5 h6 h7 h8 _=>
   iterate 4 rw [if_neg (by simp)]
   rw [if_pos (by rfl)]
   iterate 4 rw [if_neg (by simp)]
   rw [if_pos (by rfl)];exact EH (Qy hE h4 h5 h7)
 | if_ h1 h2 h3 h4 _=>
   iterate 6 rw [if_neg (by simp)]
   rw [if_pos (by rfl)]
   iterate 6 rw [if_neg (by simp)]
   rw [if_pos (by rfl)];exact EH (hi r fr fr' hs hs' _ rfl hp hE hT')
 | for_ h1 h2 h3 h4 h5 h6 h7 _=>
   iterate 7 rw [if_neg (by simp)]
   rw [if_pos (by rfl)]
   iterate 7 rw [if_neg (by simp)]
   rw [if_pos (by rfl)];exact EH (hf r fr fr' hs hs' _ rfl hp hE hT')
 | @ret _ _ x a h1 h2 h3=>
   iterate 8 rw [if_neg (by simp)]
   rw [if_pos (by rfl)]
   iterate 8 rw [if_neg (by simp)]
   rw [if_pos (by rfl)];refine Tw.same fun x' hx'=>?_;obtain rfl:x=x':=Option.some.inj hx';refine Tw.bindP ((Do hE n).1 x h1 r) ((BP n).1 r fr hs x) fun p q hpq hk=>.some ⟨hpq.1,hk.2.2,rfl,hE.f,hE.a,hE.h,hE.w,fun h=>hpq.2 ?_⟩;have h:fr.f_.cR=1:=h;unfold MZ at h3;omega
 | _=>
   iterate 5 rw [if_neg (by simp)]
   rw [if_pos (by rfl)]
   iterate 5 rw [if_neg (by simp)]
   rw [if_pos (by rfl)];exact hcall rfl
theorem Rx (hP:∀k f,bV P.bD k=some f->NM P f):∀n,PK P (cV n)/\OkST P (fA n)/\JW P [99,97,108,108] (gU n)/\JW P [105,102] (gF n)/\JW P [102,111,114] (gE n)
 | 0=>⟨fun _ _ _ _ _ _ _ _ _=>Tw.none,fun _ _ _ _ _ _ _ _ _=>Tw.none,fun _ _ _ _ _ _ _ _ _ _=>Tw.none,fun _ _ _ _ _ _ _ _ _ _=>Tw.none,fun _ _ _ _ _ _ _ _ _ _=>Tw.none⟩
 | n+1=>by
   obtain ⟨i1,i2,i3,i4,i5⟩:=Rx hP n
   have e:bQ (n+1)=(eH (fA n) n,dP (gU n) (gF n) (gE n) n,dT (cV n) n,eA (cV n) n,dZ (cV n) n):=by
    rw [bQ];rfl
   have e1:cV (n+1)=eH (fA n) n:=by show (bQ (n+1)).1=_;rw [e]
   have e2:fA (n+1)=dP (gU n) (gF n) (gE n) n:=by show (bQ (n+1)).2.1=_;rw [e]
   have e3:gU (n+1)=dT (cV n) n:=by show (bQ (n+1)).2.2.1=_;rw [e]
   have e4:gF (n+1)=eA (cV n) n:=by show (bQ (n+1)).2.2.2.1=_;rw [e]
   have e5:gE (n+1)=dZ (cV n) n:=by show (bQ (n+1)).2.2.2.2=_;rw [e]
   rw [e1,e2,e3,e4,e5];exact ⟨Sd i2,stmt_tw i3 i4 i5,call_tw hP i1,Pp i1,OC i1⟩
end
def JT (a c:T_interp_Args):List bB->Nat->Prop
 | [],_=>True
 | v::l,w=>if v.bX=4 then JT a c l w else (v.bX=1->c.dK[w]? = a.dK[w]?)/\JT a c l (w+1)
section
variable {P:aN} {n:Nat}
theorem EE {f:aR} {a c:T_interp_Args}:∀(l:List bB) (i w k:Nat) (to to':aJ) (hs hs':List (List Int)),(∀(j:Nat) v,l[j]? = some v->f.aV[i+j]? = some v)->JT a c l w->tX a l w k->tX c l w k->to.f_=f->FE to to' hs hs' ->
  Tw (fun t t'=>t.1.f_=f/\FE t.1 t'.1 t.2 t'.2) (vC a l i w k to hs) (vC c l i w k to' hs')
 | [],i,w,k,to,to',hs,hs',_,_,_,_,hf,hE=>.some ⟨hf,hE⟩
 | v::l,i,w,k,to,to',hs,hs',hv,hp,ha,hc,hf,hE=>by
   have hv0:f.aV[i]? = some v:=hv 0 v rfl
   have hv':∀(j:Nat) u,l[j]? = some u->f.aV[i+1+j]? = some u:=fun j u hu=>by
    have:=hv (j+1) u (by rw [Ki];exact hu);rw [show i+1+j=i+(j+1) by omega];exact this
   have hlen:hs'.length=hs.length:=by have:=congrArg List.length hE.h;simpa using this
   unfold vC;unfold JT at hp;unfold tX at ha hc
   by_cases hk:v.bX=4
   ·rw [if_pos hk] at hp ha hc;rw [if_pos hk,if_pos hk];obtain ⟨⟨x,hx,sx⟩,ha⟩:=ha;obtain ⟨⟨y,hy,sy⟩,hc⟩:=hc;rw [rW hx rfl,rW hy rfl,mS,mS,hlen];refine Tw.need fun _ _=>EE l (i+1) w (k+1) _ _ _ _ hv' hp ha hc hf ⟨hE.f,?_,?_,hE.w,hE.r⟩
    ·show to'.cE.set i _=to.cE.set i _;rw [hE.a]
    ·rw [HS,HS,hE.h];simp only [lQ,oU];rw [show y.length=x.length by omega]
   ·rw [if_neg hk] at hp ha hc;rw [if_neg hk,if_neg hk];obtain ⟨⟨x,hx⟩,ha⟩:=ha;obtain ⟨⟨y,hy⟩,hc⟩:=hc;rw [rW hx rfl,rW hy rfl,mS,mS];refine Tw.need fun lx ly=>EE l (i+1) (w+1) k _ _ _ _ hv' hp.2 ha hc hf ⟨hE.f,hE.a,hE.h,fun j u hu hk1=>?_,hE.r⟩;show (to'.cC.set i y)[j]? = (to.cC.set i x)[j]?
    by_cases hj:j=i
    ·subst hj;rw [Io ly,Io lx];have hu':to.f_.aV[j]? = some u:=hu;rw [hf,hv0] at hu';cases hu';have:=hp.1 hk1;rw [hx,hy] at this;exact this
    ·rw [Ja (by omega),Ja (by omega)];exact hE.w j u hu hk1
theorem run_tw (hP:∀k f,bV P.bD k=some f->NM P f) {fn:Int} {a c:T_interp_Args} {fuel:Int} {f:aR} (hf:bV P.bD fn=some f) (hp:JT a c (f.aV.take f.aW.toNat) 0) (ha:tX a (f.aV.take f.aW.toNat) 0 0) (hc:tX c (f.aV.take f.aW.toNat) 0 0)
  (fa:mR n f a=some true) (fc:mR n f c=some true) :
  Tw (fun x y=>y.2=x.2/\y.1.Gn=x.1.Gn/\y.1.zK=x.1.zK) (nS n P fn a fuel) (nS n P fn c fuel):=by
 unfold nS;refine Tw.ite (fun _=>.some ⟨rfl,rfl,rfl⟩) fun _=>?_;rw [hf,mS,mS];refine Tw.same fun o ho=>?_;rw [fa,fc,mS,mS,if_neg (by simp),if_neg (by simp)];have hT:=hP fn f hf
 have hof:o.1.f_=f:=by
  unfold zC at ho;obtain ⟨_,ho⟩:=bP ho;obtain ⟨q,_,ho⟩:=aA ho;cases ho;rfl
 refine Tw.bind (EE (f:=f) _ 0 0 0 o.1 o.1 o.2 o.2 (fun j v hv=>?_) hp ha hc hof ⟨rfl,rfl,rfl,fun _ _ _ _=>rfl,fun _=>rfl⟩) fun t t' htt=>?_
 ·rw [IZ];rw [Qe] at hv
  split at hv
  ·exact hv
  ·cases hv
 obtain ⟨bl,bn,bsc,bn',bsc',hB⟩:=hT.body;refine Tw.bind ((Rx hP n).1 ⟨P,fuel,0,0,[]⟩ t.1 t'.1 t.2 t'.2 f.eK rfl htt.2 (by rw [htt.1];exact hB.each)) fun b b' hbb=>?_;rw [hbb.1];refine Tw.ite (fun _=>.some ⟨rfl,rfl,rfl⟩) fun _=>Tw.any fun x y hx hy=>.some ⟨rfl,?_⟩;unfold BC at hx hy;obtain ⟨_,hx⟩:=bP hx;obtain ⟨_,hy⟩:=bP hy;obtain ⟨_,_,hx⟩:=aA hx;obtain ⟨_,_,hy⟩:=aA hy;cases hx;cases hy;exact ⟨rfl,rfl⟩
end
def PJ (aw ws:List Int):List bB->Nat->Prop
 | [],_=>True
 | v::l,w=>if v.bX=4 then PJ aw ws l w else (v.bX=1->w<aw.length->w<ws.length->ws[w]? = aw[w]?)/\PJ aw ws l (w+1)
theorem Rv {f:aR} {a:T_interp_Args} (hp0:0<=f.aW) (hp1:f.aW<=f.aV.length) (hl:f.aV.length<=250):∀(d i w:Nat) (s:T_interp_Args),i<=(f.aV.take f.aW.toNat).length->(f.aV.take f.aW.toNat).length<i+d->w<=i ->
  bE (fZ f a d (w:Int) (i:Int) s) fun s'=>s'.dK.length=s.dK.length/\(∀j,j<w->s'.dK[j]? = s.dK[j]?)/\PJ a.dK s'.dK ((f.aV.take f.aW.toNat).drop i) w/\∀z ∈ s'.dK,z ∈ s.dK ∨ z ∈ a.dK:=by
 have hpl:(f.aV.take f.aW.toNat).length=f.aW.toNat:=by rw [Ei];omega
 intro d
 induction d with
 | zero=>intro i w s h1 h2;omega
 | succ d ih=>
   intro i w s h1 h2 h3;unfold fZ;refine bE.iteb (fun h=>?_) fun h=>?_
   ·have h:=Dk h;have hi:i<f.aW.toNat:=by omega
    have hi2:i<(f.aV.take f.aW.toNat).length:=by omega
    have hd:(f.aV.take f.aW.toNat).drop i=f.aV[i]::(f.aV.take f.aW.toNat).drop (i+1):=by
     rw [NU hi2,List.getElem_take]
    rw [hd];rw [rW (tA (show i<f.aV.length by omega)) rfl,mS,show i64.wrap ((i:Int)+(1:Int))=(i:Int)+1 from fG (by omega) (by omega)];unfold PJ
    by_cases hk:f.aV[i].bX=4
    ·rw [if_pos (by simpa using hk),mS];refine (ih (i+1) w s (by omega) (by omega) (by omega)).mono fun s' hw=>?_;rw [if_pos hk];exact hw
    ·rw [if_neg (by simpa using hk)];refine bE.bind (P:=fun y=>∃s2,y=(((w+1:Nat):Int),s2)/\s2.dK.length=s.dK.length/\(∀j,j<w->s2.dK[j]? = s.dK[j]?)/\(f.aV[i].bX=1->w<a.dK.length->w<s.dK.length->s2.dK[w]? = a.dK[w]?)/\∀z ∈ s2.dK,z ∈ s.dK ∨ z ∈ a.dK) ?_ fun y hy=>?_
     ·rw [fG (by omega) (by omega)];refine bE.bind (P:=fun b=>b=true ↔ f.aV[i].bX=1/\w<a.dK.length/\w<s.dK.length) ?_ fun b hb=>?_
      ·by_cases k1:f.aV[i].bX=1
       ·rw [if_pos (by simpa using k1)]
        by_cases k2:w<a.dK.length
        ·rw [if_pos (DU (by omega))];refine .some ?_;rw [Fv];exact ⟨fun h=>⟨k1,k2,by omega⟩,fun h=>by omega⟩
        ·rw [if_neg (by rw [Fv];omega)];exact .some ⟨fun h=>(by cases h),fun h=>absurd h.2.1 k2⟩
       ·rw [if_neg (by simpa using k1)];exact .some ⟨fun h=>(by cases h),fun h=>absurd h.1 k1⟩
      ·refine bE.iteb (fun hbt=>?_) fun hbf=>?_
       ·obtain ⟨k1,k2,k3⟩:=hb.1 hbt;rw [rW (tA k2) rfl,mS,rW (tA k3) rfl,mS,yG];refine .some ⟨_,rfl,by simp,fun j hj=>?_,fun _ _ _=>?_,fun z hz=>?_⟩
        ·show (s.dK.set w _)[j]? = _;rw [Ja (by omega)]
        ·show (s.dK.set w _)[w]? = _;rw [Io k3,tA k2]
        ·rcases HW hz with g | g
         ·exact .inl g
         ·exact .inr (by rw [g];exact xdw _)
       ·exact .some ⟨s,rfl,rfl,fun _ _=>rfl,fun k1 k2 k3=>(by rw [hb.2 ⟨k1,k2,k3⟩] at hbf;cases hbf),fun z hz=>.inl hz⟩
     ·obtain ⟨s2,rfl,g1,g2,g3,g4⟩:=hy;refine (ih (i+1) (w+1) s2 (by omega) (by omega) (by omega)).mono fun s' hw=>?_;obtain ⟨q1,q2,q3,q4⟩:=hw;rw [if_neg hk];refine ⟨q1.trans g1,fun j hj=>(q2 j (by omega)).trans (g2 j hj),⟨fun k1 k2 k3=>?_,q3⟩,fun z hz=>?_⟩
      ·rw [q2 w (by omega)];exact g3 k1 k2 (by omega)
      ·rcases q4 z hz with g | g
       ·exact g4 z g
       ·exact .inr g
   ·have h:=LK h;rw [List.drop_eq_nil_of_le (by omega)];exact .some ⟨rfl,fun _ _=>rfl,trivial,fun z hz=>.inl hz⟩
theorem Jt {a c:T_interp_Args}:∀(l:List bB) (w k k':Nat),PJ a.dK c.dK l w->tX a l w k->tX c l w k'->JT a c l w
 | [],_,_,_,_,_,_=>trivial
 | v::l,w,k,k',hw,ha,hc=>by
   unfold PJ at hw;unfold tX at ha hc;unfold JT
   by_cases hk:v.bX=4
   ·rw [if_pos hk] at hw ha hc ⊢;exact Jt l w (k+1) (k'+1) hw ha.2 hc.2
   ·rw [if_neg hk] at hw ha hc ⊢;obtain ⟨⟨x,hx⟩,ha⟩:=ha;obtain ⟨⟨y,hy⟩,hc⟩:=hc;exact ⟨fun h1=>hw.1 h1 (qJ.1 hx).1 (qJ.1 hy).1,Jt l (w+1) k k' hw.2 ha hc⟩
theorem ON {f:aR} {a c:T_interp_Args} (hl:(f.aV.take f.aW.toNat).length<=250):∀(d i w k k':Nat),i<=(f.aV.take f.aW.toNat).length->(f.aV.take f.aW.toNat).length<i+d->w<=i->JT a c ((f.aV.take f.aW.toNat).drop i) w->tX a ((f.aV.take f.aW.toNat).drop i) w k->tX c ((f.aV.take f.aW.toNat).drop i) w k' ->
  lL f a c d (w:Int) (i:Int)=some (.inl ()):=by
 intro d
 induction d with
 | zero=>intro i w k k' h1 h2;omega
 | succ d ih=>
   intro i w k k' h1 h2 h3 hp ha hc;unfold lL
   by_cases h:i<(f.aV.take f.aW.toNat).length
   ·have hd:(f.aV.take f.aW.toNat).drop i=(f.aV.take f.aW.toNat)[i]::(f.aV.take f.aW.toNat).drop (i+1):=NU h;rw [hd] at hp ha hc;rw [if_pos (DU (by omega)),rW (tA h) rfl,mS];unfold JT at hp;unfold tX at ha hc
    by_cases hk:(f.aV.take f.aW.toNat)[i].bX=4
    ·rw [if_pos hk] at hp ha hc;rw [if_pos (by simpa using hk),mS];show lL f a c d (w:Int) _=_;rw [fG (by omega) (by omega)];exact ih (i+1) w (k+1) (k'+1) (by omega) (by omega) (by omega) hp ha.2 hc.2
    ·rw [if_neg hk] at hp ha hc;obtain ⟨⟨x,hx⟩,ha⟩:=ha;obtain ⟨⟨y,hy⟩,hc⟩:=hc;rw [if_neg (by simpa using hk)]
     have hy0:(if ((f.aV.take f.aW.toNat)[i].bX == (1:Int))=true then (bV a.dK (w:Int)).bind fun x35=>(bV c.dK (w:Int)).bind fun x36=>some (x35 != x36) else some false)=some false:=by
      split
      ·rename_i h1;have h1:(f.aV.take f.aW.toNat)[i].bX=1:=by simpa using h1
       have h4:=hp.1 h1;rw [hx,hy] at h4;rw [rW hx rfl,rW hy rfl,mS,mS];cases h4;simp
      ·rfl
     rw [hy0,mS,if_neg (by simp),mS];show lL f a c d _ _=_;rw [fG (by omega) (by omega),fG (by omega) (by omega)];exact ih (i+1) (w+1) k k' (by omega) (by omega) (by omega) hp.2 ha hc
   ·rw [if_neg (by rw [Fv];omega)]
theorem QO {n:Nat} {p:aN} {fn:Int} {a:T_interp_Args} {fuel:Int} {x:dX × Int} (h:nS n p fn a fuel=some x) (h0:x.2 ≠ 0):x.1=dX.Z:=by
 unfold nS at h
 split at h
 ·cases h;rfl
 obtain ⟨f,_,h⟩:=aA h;obtain ⟨o,_,h⟩:=aA h;obtain ⟨ft,_,h⟩:=aA h
 split at h
 ·cases h;rfl
 obtain ⟨t,_,h⟩:=aA h;obtain ⟨b,_,h⟩:=aA h
 split at h
 ·cases h;rfl
 obtain ⟨o,_,h⟩:=aA h;cases h;exact absurd rfl h0
theorem II {a0:cQ} {a:T_interp_Args} {k:Int}:bE (kM a0 a k) fun b=>b=false->a0.length<=3000/\k<=2000/\a.dK.length<=10:=by
 unfold kM;refine bE.bind (P:=fun b=>b=false->a0.length<=3000/\k<=2000/\a.dK.length<=10) ?_ fun b hb=>.some hb;refine bE.iteb (fun _=>.some fun h=>by cases h) fun g1=>?_;refine bE.iteb (fun _=>.some fun h=>by cases h) fun g2=>?_;refine bE.iteb (fun _=>.some fun h=>by cases h) fun _=>?_;have g1:=LK g1;have g2:=LK g2;exact .some fun h=>by have:=LK h;omega
theorem OM (a0:cQ) (a1:Int) (a2 a3:T_interp_Args) (a4:Int) (hwa:∀z ∈ a2.dK,qV z) (hwb:∀z ∈ a3.dK,qV z):gP 10000000 a0 a1 a2 a3 a4=some true:=by
 have hT:bE (gP 10000000 a0 a1 a2 a3 a4) fun b=>b=true:=by
  unfold gP;refine bE.eqn anchorM ?_;refine bE.iteb (fun h=>by cases h) fun _=>?_;refine bE.bind (P:=fun b=>b=false->a0.length<=3000/\a4<=2000/\a3.dK.length<=10) ?_ fun b hb=>?_
  ·exact bE.bind II fun b hb=>bE.iteb (fun _=>.some fun h=>by cases h) fun _=>II.bind fun b hb=>.some hb
  refine bE.iteb (fun _=>.some rfl) fun hb'=>?_;obtain ⟨g1,g2,g3⟩:=hb hb';refine bE.bind (PL g1 (by omega)) fun r hr=>?_;refine bE.bind (P:=fun b=>b=false->r.2.1=0/\0<=a1/\a1<r.1.bD.length) ?_ fun b hb=>?_
  ·refine bE.iteb (fun _=>.some fun h=>by cases h) fun h1=>?_;refine bE.iteb (fun _=>.some fun h=>by cases h) fun h2=>.some fun h3=>⟨by simpa using h1,?_,?_⟩
   ·have:=LK h2;omega
   ·have:=LK h3;omega
  refine bE.iteb (fun _=>.some rfl) fun hb'=>?_;obtain ⟨e0,e1,e2⟩:=hb hb';obtain ⟨c,rk,hc,hpo⟩:=hr e0;have hP:∀k f,bV r.1.bD k=some f->NM r.1 f:=by rw [←hc];exact hpo.tfn
  obtain ⟨f,hf⟩:∃f,bV r.1.bD a1=some f:=by
   obtain ⟨f,e,_⟩:=bE.idx (l:=r.1.bD) (i:=a1) (Q:=fun _=>True) e1 e2 fun _ _=>trivial;exact ⟨f,e⟩
  have hF:=hP a1 f hf;have hp0:=hF.p0;have hp1:=hF.p1;have hvl:=hF.vl;have htl:(f.aV.take f.aW.toNat).length<=250:=by rw [Ei];omega
  refine bE.eqn hf ?_;refine bE.need (by omega) ?_;obtain ⟨y39,ew,w1,w2,w3,w4⟩:=Rv (f:=f) (a:=a2) hp0 hp1 hvl 10000000 0 0 (T_interp_Args.mk a3.dK a3.iS) (by omega) (by omega) (by omega);refine bE.eqn ew ?_;rw [qU] at w3;have hW:∀z ∈ (y39).dK,qV z:=fun z hz=>(w4 z hz).elim (hwb z) (hwa z);obtain ⟨fa,ea,hfa⟩:=FR (a:=a2) hF (show 300<=10000000 by omega);obtain ⟨fc,ec,hfc⟩:=FR (a:=y39) hF (show 300<=10000000 by omega);rw [ea,mS,ec,mS]
  by_cases hfit:fa=true/\fc=true
  ·obtain ⟨rfl,rfl⟩:=hfit;refine bE.bind (P:=fun b=>b=false) (bE.iteb (fun h=>by cases h) fun _=>.some rfl) fun b hb0=>?_;subst hb0;refine bE.iteb (fun h=>by cases h) fun _=>?_;have hPP:=Jt _ 0 0 0 w3 (hfa rfl) (hfc rfl)
   have hpub:pG 10000000 f a2 (y39)=some true:=by
    unfold pG;rw [ea,mS,if_neg (by simp),ec,mS,mS,if_neg (by simp),Fe ⟨hp0,hp1⟩];have:=ON (f:=f) (a:=a2) (c:=y39) htl 10000000 0 0 0 0 (by omega) (by omega) (by omega) (by rw [qU];exact hPP) (by rw [qU];exact hfa rfl) (by rw [qU];exact hfc rfl);rw [show ((0:Nat):Int)=0 from rfl] at this;rw [this];rfl
   obtain ⟨x,ex,hx⟩:=Nj (n:=10000000) hP (fn:=a1) (a:=a2) hwa (fuel:=a4) g2 (by omega);obtain ⟨y,ey,hy⟩:=Nj (n:=10000000) hP (fn:=a1) (a:=y39) hW (fuel:=a4) g2 (by omega);obtain ⟨t1,t2,t3⟩:=run_tw hP hf hPP (hfa rfl) (hfc rfl) ea ec (fuel:=a4) x y ex ey;refine bE.eqn ex (bE.eqn ey ?_);refine bE.bind (P:=fun b=>b=true) (bE.eqn hpub ?_) fun b hb=>.some hb;rw [if_pos rfl,if_pos (by simp [t1]),if_pos (by simp [t2]),t3]
   have hb:x.1.zK.length<=9000000:=by
    by_cases h0:x.2=0
    ·rcases hx with h | h | h | h
     ·exact h.2.1
     ·exact absurd (h.1.symm.trans h0) (by decide)
     ·exact absurd (h.1.symm.trans h0) (by decide)
     ·exact absurd (h.1.symm.trans h0) (by decide)
    ·have:=QO ex h0;rw [this];decide
   rw [MR (by omega) (by omega),mS];exact .some rfl
  ·refine bE.bind (P:=fun b=>b=true) ?_ fun b hb0=>?_
   ·refine bE.iteb (fun _=>.some rfl) fun h1=>.some ?_;cases fa with
    | false=>cases h1
    | true=>cases fc with
      | false=>rfl
      | true=>exact absurd ⟨rfl,rfl⟩ hfit
   subst hb0;refine bE.iteb (fun _=>?_) fun h=>by cases h
   have hpub:pG 10000000 f a2 (y39)=some false:=by
    unfold pG;rw [ea,mS];cases fa with
    | false=>rfl
    | true=>
      rw [if_neg (by simp),ec,mS];cases fc with
      | false=>rfl
      | true=>exact absurd ⟨rfl,rfl⟩ hfit
   exact bE.eqn hpub (.some rfl)
 obtain ⟨b,e,rfl⟩:=hT;exact e
theorem Gv:∃n,∀(a0:cQ) (a1:Int) (a2 a3:T_interp_Args) (a4:Int),(∀z ∈ a2.dK,(Lit.int .u64 z).wf=true)->(∀z ∈ a3.dK,(Lit.int .u64 z).wf=true)->gP n a0 a1 a2 a3 a4=some true:=
 ⟨_,fun a0 a1 a2 a3 a4 h k=>OM a0 a1 a2 a3 a4 (fun z hz=>by have:=bounds_u64 (h z hz);unfold qV;omega) (fun z hz=>by have:=bounds_u64 (k z hz);unfold qV;omega)⟩
end Go.Proofs.YtncembphlfbgoaaGreatDoor.Abs
