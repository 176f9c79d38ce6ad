/- Lemmas of ours. -/
import Derived.Test.YtncembphlfbgoaaGreatDoorIFTyp
import Derived.ProofKit
namespace Go.Proofs.YtncembphlfbgoaaGreatDoor.Abs
open IntKind (i64 u32 u64 u8)
open Go.RowKit
set_option linter.unusedVariables false
def qT (z:Int):Prop:=0<=z/\z<18446744073709551616
theorem qT.wrap (z:Int):qT (u64.wrap z):=by
 simp only [qT,IntKind.wrap,IntKind.bits,IntKind.signed,Bool.false_and,xX,if_false];omega
theorem CZ (z:Int):0<=u32.wrap z/\u32.wrap z<4294967296:=by
 simp only [IntKind.wrap,IntKind.bits,IntKind.signed,Bool.false_and,xX,if_false];omega
theorem w32_id {z:Int} (h:0<=z) (h':z<4294967296):u32.wrap z=z:=by
 simp only [IntKind.wrap,IntKind.bits,IntKind.signed,Bool.false_and,xX,if_false];omega
theorem qT.w32 (z:Int):qT (u32.wrap z):=⟨(CZ z).1,by have:=(CZ z).2;omega⟩
theorem qT.shr {a:Int} (h:qT a) (b:Int):qT (JT .u64 a b):=by
 show qT (a.fdiv _);rw [Int.fdiv_eq_ediv_of_nonneg _ (Int.pow_nonneg (by decide))];refine ⟨Int.ediv_nonneg h.1 (Int.pow_nonneg (by decide)),Int.lt_of_le_of_lt (Int.ediv_le_self _ h.1) h.2⟩
theorem qT.one:qT 1:=⟨by decide,by decide⟩
theorem qT.zero:qT 0:=⟨by decide,by decide⟩
theorem HP {c:Bool}:bC (uV c) qT:=by
 cases c
 ·exact .some qT.zero
 ·exact .some qT.one
theorem Eo {c:Bool}:bC (vN c) fun _=>True:=by
 cases c
 ·exact .some trivial
 ·exact .some trivial
theorem NW {a b:Int}:bC (mA a b) qT:=by
 unfold mA;exact bC.need (qT.wrap _).1 (bC.need (qT.wrap _).1 (.some (qT.wrap _)))
theorem NX {a b:Int}:bC (mB a b) fun _=>True:=by
 unfold mB;exact bC.need (qT.wrap _).1 (bC.need (qT.wrap _).1 (.some trivial))
theorem JF {op:cR} {a b:Int} (ha:qT a) (hb:qT b):bC (uE op a b) qT:=by
 unfold uE;refine bC.iteb (fun _=>.some (qT.wrap _)) fun _=>?_;refine bC.iteb (fun _=>.some (qT.wrap _)) fun _=>?_;refine bC.iteb (fun _=>.some (qT.wrap _)) fun _=>?_;refine bC.iteb (fun _=>.some (qT.wrap _)) fun _=>?_;refine bC.iteb (fun _=>.some (qT.wrap _)) fun _=>?_;refine bC.iteb (fun _=>bC.need hb.1 (.some (qT.wrap _))) fun _=>?_;refine bC.iteb (fun _=>bC.need hb.1 (.some (ha.shr _))) fun _=>?_;refine bC.iteb (fun _=>bC.bind NW fun _ h=>.some h) fun _=>?_;refine bC.iteb (fun _=>bC.bind HP fun _ h=>.some h) fun _=>?_;refine bC.iteb (fun _=>bC.bind HP fun _ h=>.some h) fun _=>?_;exact bC.iteb (fun _=>.some (qT.wrap _)) fun _=>.some (qT.wrap _)
theorem Oj {o a b:Int}:bC (yC o a b) fun _=>True:=by
 unfold yC;refine bC.iteb (fun _=>.some trivial) fun _=>?_;refine bC.iteb (fun _=>.some trivial) fun _=>?_;refine bC.iteb (fun _=>.some trivial) fun _=>?_;refine bC.iteb (fun _=>bC.need (CZ _).1 (.some trivial)) fun _=>?_;refine bC.iteb (fun _=>bC.need (CZ _).1 (.some trivial)) fun _=>?_;exact bC.bind NX fun _ _=>.some trivial
theorem two_tot {o a b:Int}:bC (Db o a b) fun _=>True:=by
 unfold Db;refine bC.iteb (fun _=>bC.bind Eo fun _ _=>.some trivial) fun _=>?_;refine bC.iteb (fun _=>bC.bind Eo fun _ _=>.some trivial) fun _=>?_;refine bC.iteb (fun _=>.some trivial) fun _=>?_;refine bC.iteb (fun _=>.some trivial) fun _=>?_;refine bC.iteb (fun _=>.some trivial) fun _=>?_;refine bC.iteb (fun _=>bC.iteb (fun _=>.some trivial) fun h=>bC.need (by simpa using h) (.some trivial)) fun _=>?_;refine bC.iteb (fun _=>bC.iteb (fun _=>.some trivial) fun h=>bC.need (by simpa using h) (.some trivial)) fun _=>?_;exact bC.bind Oj fun _ _=>.some trivial
theorem op_tot {s:cR}:∀(c j:Nat),j<=15->15<j+c->bC (sM s c (j:Int)) fun _=>True:=by
 intro c
 induction c with
 | zero=>intro j h1 h2;omega
 | succ c ih=>
   intro j h1 h2;unfold sM;have hlen:dY.length=15:=by kernel_rfl
   refine bC.iteb (fun h=>?_) fun _=>.some trivial;have h:=DW h;refine bC.bind (bC.idx (Q:=fun _=>True) (by omega) (by omega) fun _ _=>trivial) fun x _=>?_;refine bC.iteb (fun _=>.some trivial) fun _=>?_;rw [fR (by omega) (by omega)];exact ih (j+1) (by omega) (by omega)
theorem Js {s:cR} {n:Nat} (hn:16<=n):bC (uF n s) fun _=>True:=by
 unfold uF;exact bC.bind (op_tot n 0 (by omega) (by omega)) fun y _=>bC.elim (fun _ _=>.some trivial) fun _ _=>.some trivial
theorem Ii {o a:Int} {n:Nat} (hn:2<=n):bC (pN n (bH.mk o 0 [bH.mk 1 a []]) []) fun _=>True:=by
 obtain ⟨m,rfl⟩:∃m,n=m+2:=⟨n - 2,by omega⟩;rw [pN];unfold wG;refine bC.iteb (fun h=>by simp at h) fun _=>?_;have h1:pN (m+1) (bH.mk 1 a []) []=some (a,true):=rfl;rw [show bY ([bH.mk 1 a []]:List bH) 0=some (bH.mk 1 a []) from rfl,pI,h1,pI];refine bC.bind (P:=fun y=>y=true) (.some rfl) fun y hy=>?_;subst hy;refine bC.iteb (fun _=>?_) fun h=>by cases h
 refine bC.bind Eo fun _ _=>bC.bind (P:=fun _=>True) ?_ fun _ _=>.some trivial;unfold EH;exact bC.iteb (fun _=>.some trivial) fun _=>.some trivial
theorem Ih {o a b:Int} {n:Nat} (hn:2<=n):bC (pN n (bH.mk o 0 [bH.mk 1 a [],bH.mk 1 b []]) []) fun _=>True:=by
 obtain ⟨m,rfl⟩:∃m,n=m+2:=⟨n - 2,by omega⟩;rw [pN];unfold wG;refine bC.iteb (fun h=>by simp at h) fun _=>?_;have h1:∀z,pN (m+1) (bH.mk 1 z []) []=some (z,true):=fun _=>rfl;rw [show bY ([bH.mk 1 a [],bH.mk 1 b []]:List bH) 0=some (bH.mk 1 a []) from rfl,pI,h1,pI];refine bC.bind (P:=fun y=>y=false) (.some rfl) fun y hy=>?_;subst hy;refine bC.iteb (fun h=>by cases h) fun _=>?_;rw [show bY ([bH.mk 1 a [],bH.mk 1 b []]:List bH) 1=some (bH.mk 1 b []) from rfl,pI,h1,pI];refine bC.iteb (fun h=>by cases h) fun _=>?_;exact bC.bind two_tot fun _ _=>.some trivial
theorem Fm (n:Nat):bP (n+1)=eC (eZ n) (bP n) n:=by
 show (eW (n+1)).1=_;rw [eW];rfl
theorem FA (n:Nat):eZ (n+1)=hM (bP n) n:=by
 show (eW (n+1)).2=_;rw [eW];rfl
structure CW (fr:aK) (hs:List (List Int)):Prop where
 wl:fr.cC.length=fr.f_.bB.length
 al:fr.cK.length=fr.f_.bB.length
 w:∀z ∈ fr.cC,qT z
 r:qT fr.qH
 lt:∀k ∈ fr.cK,k<(hs.length:Int)
 ar:∀(i:Nat) v,fr.f_.bB[i]? = some v->v.cF=4->∃k a,fr.cK[i]? = some k/\0<=k/\hs[k.toNat]? = some a/\(a.length:Int)=v.iV
 vo:∀v ∈ fr.f_.bB,Cz v
structure VP (r:aE) (k:Nat) (x:Int × aE):Prop where
 w:qT x.1
 p:x.2.p_=r.p_
 f:x.2.dP=r.dP
 e:x.2.e_=r.e_
 t:x.2.bT.length<=r.bT.length+k
theorem qO (r:aE):bC (bE r) fun b=>b=false->r.e_=0:=by
 unfold bE;refine bC.bind (P:=fun b=>b=false->r.e_=0) (bC.iteb (fun _=>.some fun h=>by cases h) fun _=>.some fun h=>by simpa using h) fun _ h=>.some h
theorem EP {r:aE} {a b c:Int} (h:r.bT.length+1<=1073741824):bC (dF r a b c) fun x=>x.p_=r.p_/\x.dP=r.dP/\x.e_=r.e_/\x.fP=r.fP/\x.bT.length=r.bT.length+1:=by
 unfold dF;exact bC.need (by simpa using h) (.some ⟨rfl,rfl,rfl,rfl,by simp⟩)
theorem Rr {rc:aE->aK->List (List Int)->aG->Option (Int × aE)} {e:aG} {fr:aK} {hs:List (List Int)}
  (hr:∀x ∈ e.aP,∀r:aE,r.bT.length+xz x<=1073741824->bC (rc r fr hs x) (VP r (xz x))) (hl:e.aP.length<10) :
  ∀(c j:Nat) (vs:List Int) (r:aE),j<=e.aP.length->e.aP.length<j+c->vs.length=j->(∀z ∈ vs,qT z)->r.bT.length+tG (e.aP.drop j)<=1073741824 ->
   bC (dU rc e fr hs c vs (j:Int) r) fun s=>match s with
    | .inl x=>x.1.length=e.aP.length/\(∀z ∈ x.1,qT z)/\VP r (tG (e.aP.drop j)) (0,x.2)
    | .inr x=>VP r (tG (e.aP.drop j)) x:=by
 intro c
 induction c with
 | zero=>intro j vs r h1 h2;omega
 | succ c ih=>
   intro j vs r h1 h2 h3 h4 h5;unfold dU;refine bC.iteb (fun h=>?_) fun h=>?_
   ·have h:=DW h;have hj:j<e.aP.length:=by omega
    have hd:e.aP.drop j=e.aP[j]::e.aP.drop (j+1):=Ps hj;rw [hd,tG] at h5 ⊢;refine bC.eqn (v:=e.aP[j]) (by unfold bY;rw [if_pos (by omega),AP,tH hj]) ?_;refine bC.bind (hr _ (xdv _) r (by omega)) fun x hx=>?_;refine bC.bind (qO _) fun b hb=>?_;have hp:=CX e.aP[j];refine bC.iteb (fun _=>.some ?_) fun _=>?_
    ·exact ⟨qT.zero,hx.p,hx.f,hx.e,by have:=hx.t;simp only;omega⟩
    ·refine bC.need (by simp only [uP];omega) ?_;rw [fR (by omega) (by omega)];refine (ih (j+1) (vs++[x.1]) x.2 (by omega) (by omega) (by simp [h3]) (fun z hz=>?_) (by have:=hx.t;omega)).mono fun s hs=>?_
     ·rcases Ah.1 hz with hz | hz
      ·exact h4 z hz
      ·rw [AU.1 hz];exact hx.w
     ·cases s with
      | inl y=>exact ⟨hs.1,hs.2.1,qT.zero,hs.2.2.p.trans hx.p,hs.2.2.f.trans hx.f,hs.2.2.e.trans hx.e,by have h6:=hs.2.2.t;have h7:=hx.t;simp only at h6 ⊢;omega⟩
      | inr y=>exact ⟨hs.w,hs.p.trans hx.p,hs.f.trans hx.f,hs.e.trans hx.e,by have h6:=hs.t;have h7:=hx.t;omega⟩
   ·have h:¬ (j:Int)<(e.aP.length:Int):=by simpa using h
    exact .some ⟨by show vs.length=_;omega,h4,qT.zero,rfl,rfl,rfl,by simp only;omega⟩
theorem VP.refl {r:aE} {v:Int} (h:qT v) {k:Nat}:VP r k (v,r):=⟨h,rfl,rfl,rfl,Nat.le_add_right _ _⟩
theorem VP.more {r:aE} {k l:Nat} {x:Int × aE} (h:VP r k x) (hk:k<=l):VP r l x:=⟨h.w,h.p,h.f,h.e,by have:=h.t;omega⟩
theorem VP.trans {r:aE} {k l:Nat} {v:Int} {s:aE} {x:Int × aE} (h:VP r k (v,s)) (h':VP s l x):VP r (k+l) x:=⟨h'.w,h'.p.trans h.p,h'.f.trans h.f,h'.e.trans h.e,by have h1:=h.t;have h2:=h'.t;simp only at h1;omega⟩
theorem Kk {n:Nat} (hn:20<=n) {r:aE} {e:aG} {vs:List Int} (hl:0<e.aP.length) (hv:vs.length=1 ∨ vs.length=2) (hw:∀z ∈ vs,qT z) (ht:r.bT.length+1<=1073741824) :
  bC (eT n r e vs) (VP r 1):=by
 obtain ⟨m,rfl⟩:∃m,n=m+20:=⟨n - 20,by omega⟩;unfold eT;refine bC.bind (P:=fun _=>True) (bC.iteb (fun _=>bC.bind (bC.idx (Q:=fun _=>True) (by omega) (by omega) fun _ _=>trivial) fun _ _=>.some trivial) fun _=>.some trivial) fun y2 _=>?_
 have hsee:∀ {s:aE},s.p_=r.p_/\s.dP=r.dP/\s.e_=r.e_/\s.fP=r.fP/\s.bT.length=r.bT.length+1->∀ {z:Int},qT z->VP r 1 (z,s)/\∀t,VP r 1 (z,{ s with fP:=t }):=by
  rintro s ⟨h1,h2,h3,_,h5⟩ z hz;exact ⟨⟨hz,h1,h2,h3,by simp only;omega⟩,fun t=>⟨hz,h1,h2,h3,by simp only;omega⟩⟩
 have hself:∀ {z:Int},qT z->VP r 1 (z,r)/\∀t,VP r 1 (z,{ r with fP:=t }):=fun {z} hz=>⟨VP.refl hz,fun t=>⟨hz,rfl,rfl,rfl,Nat.le_add_right _ _⟩⟩
 rcases hv with hv | hv
 ·obtain ⟨x,rfl⟩:∃x,vs=[x]:=by
   match vs,hv with
   | [x],_=>exact ⟨x,rfl⟩
  have hx:=hw x (by simp);refine bC.iteb (fun h=>by simp at h) fun _=>?_;refine bC.iteb (fun _=>?_) fun _=>?_
  ·refine bC.eqn (v:=x) rfl ?_;exact bC.bind (JF hx qT.zero) fun z hz=>.some (VP.refl hz)
  ·refine bC.bind (P:=fun _=>True) (bC.iteb (fun _=>.some trivial) fun _=>.some trivial) fun yd _=>?_;refine bC.iteb (fun _=>?_) fun _=>?_
   ·refine bC.eqn (v:=x) rfl ?_;refine bC.bind (EP ht) fun s hs=>?_;refine bC.bind (Js (by omega)) fun o _=>?_;refine bC.eqn (v:=bH.mk o 0 [bH.mk 1 (u32.wrap x) []]) rfl ?_;refine bC.bind (Ii (by omega)) fun q _=>?_;exact bC.iteb (fun _=>.some ((hsee hs (qT.wrap _)).2 2)) fun _=>.some (hsee hs (qT.wrap _)).1
   ·refine bC.bind (Js (by omega)) fun o _=>?_;refine bC.eqn (v:=bH.mk o 0 [bH.mk 1 (u32.wrap x) []]) rfl ?_;refine bC.bind (Ii (by omega)) fun q _=>?_;exact bC.iteb (fun _=>.some ((hself (qT.wrap _)).2 2)) fun _=>.some (hself (qT.wrap _)).1
 ·obtain ⟨x,y,rfl⟩:∃x y,vs=[x,y]:=by
   match vs,hv with
   | [x,y],_=>exact ⟨x,y,rfl⟩
  have hx:=hw x (by simp);have hy:=hw y (by simp);refine bC.iteb (fun _=>?_) fun h=>by simp at h
  refine bC.eqn (v:=y) rfl ?_;refine bC.iteb (fun _=>?_) fun _=>?_
  ·refine bC.eqn (v:=x) rfl ?_;exact bC.bind (JF hx hy) fun z hz=>.some (VP.refl hz)
  ·refine bC.bind (P:=fun _=>True) (bC.iteb (fun _=>.some trivial) fun _=>.some trivial) fun yd _=>?_;refine bC.iteb (fun _=>?_) fun _=>?_
   ·refine bC.eqn (v:=x) rfl ?_;refine bC.bind (EP ht) fun s hs=>?_;refine bC.bind (Js (by omega)) fun o _=>?_;refine bC.eqn (v:=bH.mk o 0 [bH.mk 1 (u32.wrap x) [],bH.mk 1 (u32.wrap y) []]) rfl ?_;refine bC.bind (Ih (by omega)) fun q _=>?_;exact bC.iteb (fun _=>.some ((hsee hs (qT.wrap _)).2 2)) fun _=>.some (hsee hs (qT.wrap _)).1
   ·refine bC.bind (Js (by omega)) fun o _=>?_;refine bC.eqn (v:=bH.mk o 0 [bH.mk 1 (u32.wrap x) [],bH.mk 1 (u32.wrap y) []]) rfl ?_;refine bC.bind (Ih (by omega)) fun q _=>?_;exact bC.iteb (fun _=>.some ((hself (qT.wrap _)).2 2)) fun _=>.some (hself (qT.wrap _)).1
def Nc (op:cR):Nat:=if op=[115,101,108,101,99,116] then 3 else if op=[119,105,100,101] then 2 else 1
theorem Ac {vs:List Int} {i:Nat} (h:i<vs.length) (hw:∀z ∈ vs,qT z):bC (bY vs (i:Int)) qT:=bC.idx (by omega) (by omega) fun x hx=>hw x (AT hx)
theorem OP {op:cR} {vs:List Int} (hl:Nc op<=vs.length) (hw:∀z ∈ vs,qT z):bC (uW op vs) fun x=>qT x.1/\(x.2=false->op ≠ [115,101,108,101,99,116]/\op ≠ [108,111,110,103]/\op ≠ [108,111]/\op ≠ [104,105]/\op ≠ [119,105,100,101]):=by
 unfold uW;unfold Nc at hl;refine bC.iteb (fun h=>?_) fun h1=>?_
 ·have h:=DW h;rw [if_pos h] at hl;refine bC.bind (Ac (i:=0) (by omega) hw) fun x hx=>?_;refine bC.iteb (fun _=>?_) fun _=>?_
  ·exact bC.bind (Ac (i:=1) (by omega) hw) fun x hx=>.some ⟨hx,fun h=>by cases h⟩
  ·exact bC.bind (Ac (i:=2) (by omega) hw) fun x hx=>.some ⟨hx,fun h=>by cases h⟩
 have h1:op ≠ [115,101,108,101,99,116]:=Mw h1;rw [if_neg h1] at hl;have hl0:0<vs.length:=by split at hl <;> omega
 refine bC.iteb (fun h=>bC.bind (Ac (i:=0) hl0 hw) fun x hx=>.some ⟨hx,fun h=>by cases h⟩) fun h2=>?_;refine bC.iteb (fun h=>bC.bind (Ac (i:=0) hl0 hw) fun x hx=>.some ⟨qT.wrap _,fun h=>by cases h⟩) fun h3=>?_;refine bC.iteb (fun h=>bC.bind (Ac (i:=0) hl0 hw) fun x hx=>.some ⟨hx.shr _,fun h=>by cases h⟩) fun h4=>?_;refine bC.iteb (fun h=>?_) fun h5=>?_
 ·rw [if_pos (DW h)] at hl;exact bC.bind (Ac (i:=0) hl0 hw) fun x hx=>bC.bind (Ac (i:=1) (by omega) hw) fun y hy=>.some ⟨qT.wrap _,fun h=>by cases h⟩
 ·exact .some ⟨qT.zero,fun _=>⟨h1,Mw h2,Mw h3,Mw h4,Mw h5⟩⟩
section
variable {fr:aK} {hs:List (List Int)} {sc:List Int}
def IP (v:Int) (fr:aK) (hs:List (List Int)) (r:aE) (k:Nat) (x:Int × aE):Prop:=
 VP r k x/\(bE x.2=some false->0<=x.1/\∃a b,bY fr.cK v=some a/\bY hs a=some b/\x.1<b.length)
theorem tT {ri:aE->aK->List (List Int)->aG->Int->Option (Int × aE)} {rc:aE->aK->List (List Int)->aG->Option (Int × aE)} {e:aG} {N:Nat} {r:aE}
  {o:cR} {k:Nat} (ho:e.lE=o) (hk:e.aP.length=k) (h1:o ≠ [110,117,109]) (h2:o ≠ [118,97,114]) (h3:o ≠ [105,110,100,101,120]) (har:Nc o<=k)
  (hnb:o ≠ [115,101,108,101,99,116]->k=1 ∨ k=2) (hl0:0<k) (hl:k<10)
  (hr:∀x ∈ e.aP,∀r:aE,r.bT.length+xz x<=1073741824->bC (rc r fr hs x) (VP r (xz x))) (hN:30<=N) (ht:r.bT.length+xz e<=1073741824) :
  bC (eC ri rc N r fr hs e) (VP r (xz e)):=by
 rw [AR] at ht ⊢;subst ho hk;unfold eC;rw [if_neg (by simpa using h1),if_neg (by simpa using h2),if_neg (by simpa using h3)];refine bC.bind (Rr hr hl N 0 [] r (by omega) (by omega) rfl (fun z hz=>by cases hz) (by rw [qU];omega)) fun s hs=>?_;rw [qU] at hs;cases s with
 | inl y=>
   obtain ⟨g1,g2,g3⟩:=hs;refine bC.bind (OP (op:=e.lE) (vs:=y.1) (by rw [g1];exact har) g2) fun b hb=>?_;refine bC.iteb (fun _=>.some ?_) fun h0=>?_
   ·exact ⟨hb.1,g3.p,g3.f,g3.e,by have:=g3.t;simp only at this ⊢;omega⟩
   ·have h4:=hb.2 h0;refine bC.bind (Kk (by omega) hl0 (by rw [g1];exact hnb h4.1) g2 (by have:=g3.t;simp only at this;omega)) fun x hx=>.some ?_;have:=g3.trans hx;exact ⟨this.w,this.p,this.f,this.e,by have:=this.t;simp only at this ⊢;omega⟩
 | inr y=>exact .some (hs.more (by omega))
theorem Fb (r:aE):bC (bE r) fun b=>bE r=some b:=by
 obtain ⟨b,hb,_⟩:=qO r;exact ⟨b,hb,hb⟩
theorem wC {α:Type} {l:List α} {i:Int} {x:α} (h:bY l i=some x):0<=i/\l[i.toNat]? = some x:=by
 unfold bY at h
 split at h
 ·exact ⟨‹_›,h⟩
 ·cases h
theorem yV {α:Type} {l:List α} {i:Nat} {x:α} (h:l[i]? = some x) {j:Int} (hj:j=(i:Int)):bY l j=some x:=by
 subst hj;unfold bY;rw [if_pos (by omega),AP,h]
theorem CW.arr (hF:CW fr hs) {v:Int} {u:aZ} (h:bY fr.f_.bB v=some u) (hk:u.cF=4):∃k a,bY fr.cK v=some k/\bY hs k=some a/\(a.length:Int)=u.iV/\1<=u.iV/\u.iV<=1024/\0<=k:=by
 obtain ⟨h0,h1⟩:=wC h;obtain ⟨k,a,g1,g2,g3,g4⟩:=hF.ar _ _ h1 hk;refine ⟨k,a,?_,?_,g4,?_⟩
 ·unfold bY;rw [if_pos h0,g1]
 ·unfold bY;rw [if_pos g2,g3]
 ·have:=(hF.vo u (AT h1)).2.2 hk;unfold wA at this;omega
theorem wF (hF:CW fr hs):∀N:Nat,
  (∀e,TX fr.f_.bB sc e->2*xz e+40<=N->∀r:aE,r.bT.length+xz e<=1073741824->bC (bP N r fr hs e) (VP r (xz e))) ∧
  (∀e v u,TX fr.f_.bB sc e->bY fr.f_.bB v=some u->u.cF=4->2*xz e+41<=N->∀r:aE,r.bT.length+xz e+1<=1073741824->bC (eZ N r fr hs e v) (IP v fr hs r (xz e+1))):=by
 intro N
 induction N with
 | zero=>exact ⟨fun e _ h=>by omega,fun e v u _ _ _ h=>by omega⟩
 | succ N ih=>
   obtain ⟨ihv,ihi⟩:=ih;refine ⟨fun e he hN r ht=>?_,fun e v u he hu hk hN r ht=>?_⟩
   ·rw [Fm]
    have hrec:∀x ∈ e.aP,TX fr.f_.bB sc x->∀r:aE,r.bT.length+xz x<=1073741824->bC (bP N r fr hs x) (VP r (xz x)):=by
     intro x hx hT r hr;refine ihv x hT ?_ r hr;have:=xzL_mem hx;rw [AR e] at hN;omega
    cases he with
    | num=>
      unfold eC;rw [if_pos (by rfl)];exact .some (VP.refl (qT.wrap _))
    | @var v u a h1 h2 h3=>
      unfold eC;rw [if_neg (by simp),if_pos (by rfl)];obtain ⟨g0,g1⟩:=wC h2;have g2:=(qS.1 g1).1;refine bC.bind (bC.idx (Q:=qT) (by exact g0) (by rw [hF.wl];simp only;omega) fun x hx=>hF.w x (AT hx)) fun z hz=>.some (VP.refl hz)
    | @index v u i a h1 h2 h3 h4 h5 h6=>
      unfold eC;rw [if_neg (by simp),if_neg (by simp),if_pos (by rfl)];refine bC.eqn (v:=i) rfl ?_;have hz:xz ⟨[105,110,100,101,120],2,0,v,[i],a⟩=xz i+1:=by rw [AR];simp only [tG];omega
      rw [hz] at hN ht ⊢;refine bC.bind (ihi i v u h4 h2 h3 (by omega) r (by omega)) fun x hx=>?_;refine bC.bind (Fb x.2) fun b hb=>?_;refine bC.iteb (fun _=>.some ⟨qT.zero,hx.1.p,hx.1.f,hx.1.e,hx.1.t⟩) fun h=>?_;rw [h] at hb;obtain ⟨g0,k,ar,g1,g2,g3⟩:=hx.2 hb;refine bC.eqn g1 (bC.eqn g2 ?_);exact bC.bind (bC.idx (Q:=fun _=>True) g0 g3 fun _ _=>trivial) fun z _=>.some ⟨qT.wrap _,hx.1.p,hx.1.f,hx.1.e,hx.1.t⟩
    | @un o x a ho h1=>
      have hr:∀y ∈ [x],∀r:aE,r.bT.length+xz y<=1073741824->bC (bP N r fr hs y) (VP r (xz y)):=fun y hy=>by
       rw [AU.1 hy];exact hrec x (AU.2 rfl) h1
      have hNN:30<=N:=by have:=CX ⟨o,x.cU,0,-1,[x],a⟩;omega
      rcases ho with rfl | rfl
      ·exact tT (o:=[110,111,116]) (k:=1) rfl rfl (by decide) (by decide) (by decide) (by decide) (by decide) (by decide) (by decide) hr hNN ht
      ·exact tT (o:=[110,101,103]) (k:=1) rfl rfl (by decide) (by decide) (by decide) (by decide) (by decide) (by decide) (by decide) hr hNN ht
    | @bin o x y t a h1 h2 hb=>
      have hr:∀z ∈ [x,y],∀r:aE,r.bT.length+xz z<=1073741824->bC (bP N r fr hs z) (VP r (xz z)):=fun z hz=>by
       refine hrec z hz ?_;simp only [vI,Ix,or_false] at hz
       rcases hz with rfl | rfl
       ·exact h1
       ·exact h2
      have hNN:30<=N:=by have:=CX ⟨o,t,0,-1,[x,y],a⟩;omega
      have ho:o ∈ BE:=by
       unfold BE
       rcases hb with ⟨h | h,_⟩ | ⟨h | h | h,_⟩ | ⟨h,_⟩ | ⟨h | h,_⟩ | ⟨h | h | h | h | h,_⟩ <;> rw [h] <;> decide
      have hs:∀o ∈ BE,o ≠ [110,117,109]/\o ≠ [118,97,114]/\o ≠ [105,110,100,101,120]/\Nc o<=2:=by decide
      obtain ⟨g1,g2,g3,g4⟩:=hs o ho;exact tT (k:=2) rfl rfl g1 g2 g3 g4 (fun _=>.inr rfl) (by decide) (by decide) hr hNN ht
    | @sel c x y a h1 h2 h3 h4 h5=>
      have hr:∀z ∈ [c,x,y],∀r:aE,r.bT.length+xz z<=1073741824->bC (bP N r fr hs z) (VP r (xz z)):=fun z hz=>by
       refine hrec z hz ?_;simp only [vI,Ix,or_false] at hz
       rcases hz with rfl | rfl | rfl
       ·exact h1
       ·exact h2
       ·exact h3
      have hNN:30<=N:=by have:=CX ⟨[115,101,108,101,99,116],IJ (xF x.cU y.cU),0,-1,[c,x,y],a⟩;omega
      exact tT (o:=[115,101,108,101,99,116]) (k:=3) rfl rfl (by decide) (by decide) (by decide) (by decide) (fun h=>absurd rfl h) (by decide) (by decide) hr hNN ht
    | @long x a h1 h2=>
      have hr:∀y ∈ [x],∀r:aE,r.bT.length+xz y<=1073741824->bC (bP N r fr hs y) (VP r (xz y)):=fun y hy=>by
       rw [AU.1 hy];exact hrec x (AU.2 rfl) h1
      have hNN:30<=N:=by have:=CX ⟨[108,111,110,103],3,0,-1,[x],a⟩;omega
      exact tT (o:=[108,111,110,103]) (k:=1) rfl rfl (by decide) (by decide) (by decide) (by decide) (by decide) (by decide) (by decide) hr hNN ht
    | @wide x y a h1 h2 h3 h4=>
      have hr:∀z ∈ [x,y],∀r:aE,r.bT.length+xz z<=1073741824->bC (bP N r fr hs z) (VP r (xz z)):=fun z hz=>by
       refine hrec z hz ?_;simp only [vI,Ix,or_false] at hz
       rcases hz with rfl | rfl
       ·exact h1
       ·exact h2
      have hNN:30<=N:=by have:=CX ⟨[119,105,100,101],3,0,-1,[x,y],a⟩;omega
      exact tT (o:=[119,105,100,101]) (k:=2) rfl rfl (by decide) (by decide) (by decide) (by decide) (fun _=>.inr rfl) (by decide) (by decide) hr hNN ht
    | @half o x a ho h1 h2=>
      have hr:∀y ∈ [x],∀r:aE,r.bT.length+xz y<=1073741824->bC (bP N r fr hs y) (VP r (xz y)):=fun y hy=>by
       rw [AU.1 hy];exact hrec x (AU.2 rfl) h1
      have hNN:30<=N:=by have:=CX ⟨o,2,0,-1,[x],a⟩;omega
      rcases ho with rfl | rfl
      ·exact tT (o:=[108,111]) (k:=1) rfl rfl (by decide) (by decide) (by decide) (by decide) (by decide) (by decide) (by decide) hr hNN ht
      ·exact tT (o:=[104,105]) (k:=1) rfl rfl (by decide) (by decide) (by decide) (by decide) (by decide) (by decide) (by decide) hr hNN ht
   ·rw [FA];unfold hM;refine bC.bind (ihv e he (by omega) r (by omega)) fun x hx=>?_;refine bC.bind (Fb x.2) fun b hb=>?_;refine bC.iteb (fun h=>.some ⟨⟨qT.zero,hx.p,hx.f,hx.e,by have:=hx.t;simp only at this ⊢;omega⟩,fun h'=>?_⟩) fun h=>?_
    ·rw [hb,h] at h';cases h'
    ·obtain ⟨k,ar,g1,g2,g3,g4,g5,g6⟩:=hF.arr hu hk;refine bC.eqn g1 (bC.eqn g2 ?_);refine bC.bind (EP (by have:=hx.t;omega)) fun s hs=>?_;refine bC.iteb (fun h2=>.some ⟨⟨qT.zero,hs.1.trans hx.p,hs.2.1.trans hx.f,hs.2.2.1.trans hx.e,by have:=hx.t;have:=hs.2.2.2.2;simp only;omega⟩,fun h'=>?_⟩) fun h2=>.some ⟨⟨qT.w32 _,hs.1.trans hx.p,hs.2.1.trans hx.f,hs.2.2.1.trans hx.e,by have:=hx.t;have:=hs.2.2.2.2;simp only;omega⟩,fun _=>?_⟩
     ·exfalso
      unfold bE at h';simp at h'
     ·have h2:=Mw h2;rw [w32_id (z:=(ar.length:Int)) (by omega) (by omega)] at h2;exact ⟨(CZ _).1,k,ar,g1,g2,by simp only;omega⟩
end
def SG (P:aR):Mr:=fun k r ps=>∃f,bY P.bG k=some f/\r=f.cX/\ps=f.bB.take f.bD.toNat
structure Ru (P:aR) (f:aY):Prop where
 body:∃l n sc n' sc',TB (SG P) f.bB f.cX l n sc f.eH n' sc'
 p0:0<=f.bD
 p1:f.bD<=f.bB.length
 vl:f.bB.length<=250
 vo:∀v ∈ f.bB,Cz v
 sz:Aa f.eH<=3001
theorem TB.each {sg:Mr} {vs:List aZ} {res:Int} {l:Bool} {n n':Nat} {sc sc':List Int} {ss:List aH} (h:TB sg vs res l n sc ss n' sc'):∀s ∈ ss,∃l n sc n' sc',TB sg vs res l n sc [s] n' sc':=by
 induction h with
 | nil=>intro s hs;cases hs
 | let_ h1 h2 h3 h4 _ ih=>exact fun s hs=>(vI.1 hs).elim (fun e=>e ▸ ⟨true,_,_,_,_,.let_ h1 h2 h3 h4 .nil⟩) (ih s)
 | var_ h1 h2 h3 _ ih=>exact fun s hs=>(vI.1 hs).elim (fun e=>e ▸ ⟨true,_,_,_,_,.var_ h1 h2 h3 .nil⟩) (ih s)
 | arr h1 h2 _ ih=>exact fun s hs=>(vI.1 hs).elim (fun e=>e ▸ ⟨true,_,[],_,_,.arr h1 h2 .nil⟩) (ih s)
 | callv h1 h2 h3 h4 h5 _ ih=>exact fun s hs=>(vI.1 hs).elim (fun e=>e ▸ ⟨true,_,_,_,_,.callv h1 h2 h3 h4 h5 .nil⟩) (ih s)
 | set h1 h2 h3 h4 h5 _ ih=>exact fun s hs=>(vI.1 hs).elim (fun e=>e ▸ ⟨true,0,_,_,_,.set h1 h2 h3 h4 h5 .nil⟩) (ih s)
 | calls h1 h2 h3 h4 h5 h6 _ ih=>exact fun s hs=>(vI.1 hs).elim (fun e=>e ▸ ⟨true,0,_,_,_,.calls h1 h2 h3 h4 h5 h6 .nil⟩) (ih s)
 | put h1 h2 h3 h4 h5 h6 h7 h8 _ ih=>exact fun s hs=>(vI.1 hs).elim (fun e=>e ▸ ⟨true,0,_,_,_,.put h1 h2 h3 h4 h5 h6 h7 h8 .nil⟩) (ih s)
 | do_ h1 h2 _ ih=>exact fun s hs=>(vI.1 hs).elim (fun e=>e ▸ ⟨true,0,_,_,_,.do_ h1 h2 .nil⟩) (ih s)
 | if_ h1 h2 h3 h4 _ _ _ ih=>exact fun s hs=>(vI.1 hs).elim (fun e=>e ▸ ⟨true,_,_,_,_,.if_ h1 h2 h3 h4 .nil⟩) (ih s)
 | for_ h1 h2 h3 h4 h5 h6 h7 _ _ ih=>exact fun s hs=>(vI.1 hs).elim (fun e=>e ▸ ⟨true,_,_,_,_,.for_ h1 h2 h3 h4 h5 h6 h7 .nil⟩) (ih s)
 | ret h1 h2 h3=>exact fun s hs=>by rw [AU.1 hs];exact ⟨_,0,_,_,_,.ret h1 h2 h3⟩
 | retc h1 h2 h3=>exact fun s hs=>by rw [AU.1 hs];exact ⟨_,0,_,_,_,.retc h1 h2 h3⟩
structure RP (r:aE) (k:Nat) (r':aE):Prop where
 p:r'.p_=r.p_
 f:r'.dP<=r.dP
 m:r'.bT.length+4000*r'.dP.toNat<=r.bT.length+4000*r.dP.toNat+k
 e:r'.e_=r.e_ ∨ r'.e_=70
theorem RP.refl {r:aE} {k:Nat}:RP r k r:=⟨rfl,Pg _,Nat.le_add_right _ _,.inl rfl⟩
theorem RP.trans {r s t:aE} {k l:Nat} (h:RP r k s) (h':RP s l t):RP r (k+l) t:=
 ⟨h'.p.trans h.p,Int.le_trans h'.f h.f,by have:=h.m;have:=h'.m;omega,by rcases h'.e with e | e;rw [e];exact h.e;exact .inr e⟩
theorem RP.more {r s:aE} {k l:Nat} (h:RP r k s) (hk:k<=l):RP r l s:=⟨h.p,h.f,by have:=h.m;omega,h.e⟩
theorem VP.rp {r:aE} {k:Nat} {x:Int × aE} (h:VP r k x):RP r k x.2:=⟨h.p,by rw [h.f];exact Pg _,by have:=h.t;rw [h.f];omega,.inl h.e⟩
structure FP (fr:aK) (hs:List (List Int)) (fr':aK) (hs':List (List Int)):Prop where
 f:fr'.f_=fr.f_
 a:fr'.cK=fr.cK
 wl:fr'.cC.length=fr.cC.length
 w:∀z ∈ fr'.cC,qT z
 r:qT fr'.qH
 h:hs'.map List.length=hs.map List.length
theorem FP.ok {fr fr':aK} {hs hs':List (List Int)} (h:FP fr hs fr' hs') (hF:CW fr hs):CW fr' hs':=by
 have hl:hs'.length=hs.length:=by have:=congrArg List.length h.h;simpa using this
 refine ⟨by rw [h.wl,h.f,hF.wl],by rw [h.a,h.f,hF.al],h.w,h.r,fun k hk=>by rw [h.a] at hk;rw [hl];exact hF.lt k hk,fun i v hv hk=>?_,fun v hv=>hF.vo v (by rw [←h.f];exact hv)⟩;rw [h.f] at hv;obtain ⟨k,a,g1,g2,g3,g4⟩:=hF.ar i v hv hk;have h1:(hs'.map List.length)[k.toNat]? = some a.length:=by rw [h.h,zC,g3];rfl
 rw [zC] at h1;cases h2:hs'[k.toNat]? with
 | none=>rw [h2] at h1;cases h1
 | some b=>
   rw [h2] at h1;simp only [Ee,Option.some.injEq] at h1;exact ⟨k,b,by rw [h.a];exact g1,g2,h2,by rw [h1];exact g4⟩
theorem CW.fp {fr:aK} {hs:List (List Int)} (hF:CW fr hs):FP fr hs fr hs:=⟨rfl,rfl,rfl,hF.w,hF.r,rfl⟩
theorem FP.trans {fr fr' fr'':aK} {hs hs' hs'':List (List Int)} (h:FP fr hs fr' hs') (k:FP fr' hs' fr'' hs''):FP fr hs fr'' hs'':=⟨k.f.trans h.f,k.a.trans h.a,k.wl.trans h.wl,k.w,k.r,k.h.trans h.h⟩
theorem IR {fr:aK} {hs:List (List Int)} (hF:CW fr hs) {v z:Int} (hv:0<=v->v<fr.cC.length) (hz:qT z):bC (dN fr hs v z) fun x=>FP fr hs x.1 x.2:=by
 unfold dN;refine bC.iteb (fun h=>?_) fun _=>.some hF.fp;have h:=DW h;refine bC.bind (bC.idx (Q:=fun _=>True) h (hv h) fun _ _=>trivial) fun _ _=>.some ⟨rfl,rfl,by simp,fun y hy=>?_,hF.r,rfl⟩
 rcases HN hy with hy | hy
 ·exact hF.w y hy
 ·rw [hy];exact hz
theorem KR {r:aE} (h:r.dP<=1000000):bC (fJ r) fun x=>x.p_=r.p_/\x.bT=r.bT/\x.fP=r.fP/\(r.dP<=0/\x.dP=r.dP/\x.e_=70 ∨ 0<r.dP/\x.dP=r.dP - 1/\x.e_=r.e_):=by
 unfold fJ;refine bC.iteb (fun h1=>.some ⟨rfl,rfl,rfl,.inl ⟨DW h1,rfl,rfl⟩⟩) fun h1=>?_;have h1:=Mw h1;refine .some ⟨rfl,rfl,rfl,.inr ⟨by omega,?_,rfl⟩⟩;exact fR (by omega) (by omega)
structure RI (P:aR) (M:Nat) (r:aE):Prop where
 p:r.p_=P
 f:r.dP<=1000000
 m:r.bT.length+4000*r.dP.toNat<=M
theorem RI.step {P:aR} {M k:Nat} {r s:aE} (h:RI P M r) (k':RP r k s):RI P (M+k) s:=⟨k'.p.trans h.p,Int.le_trans k'.f h.f,by have:=h.m;have:=k'.m;omega⟩
def MP (r:aE) (fr:aK) (hs:List (List Int)) (k:Nat) (x:aE × aK × List (List Int)):Prop:=RP r k x.1/\FP fr hs x.2.1 x.2.2
theorem NA {fr:aK} {hs:List (List Int)} {sc:List Int} (hF:CW fr hs) {n:Nat} {r:aE} {v:Int} {u:aZ} {i x:aG} {a:Int} (h2:bY fr.f_.bB v=some u) (h3:u.cF=4)
  (hi:TX fr.f_.bB sc i) (hx:TX fr.f_.bB sc x) (hn:2*(xz i+xz x)+50<=n) (ht:r.bT.length+xz i+xz x+1<=1073741824) :
  bC (iS n r fr hs ⟨[112,117,116],v,0,[i,x],[],[],a⟩) (MP r fr hs (xz i+xz x+1)):=by
 unfold iS;refine bC.eqn (v:=i) rfl ?_;refine bC.bind ((wF hF n).2 i v u hi h2 h3 (by omega) r (by omega)) fun y hy=>?_;refine bC.bind (Fb y.2) fun b hb=>?_;have hy1:=hy.1.rp;refine bC.iteb (fun _=>.some ⟨hy1.more (by omega),hF.fp⟩) fun h=>?_;rw [h] at hb;obtain ⟨g0,k,ar,g1,g2,g3⟩:=hy.2 hb;refine bC.eqn (v:=x) rfl ?_;refine bC.bind ((wF hF n).1 x hx (by omega) y.2 (by have:=hy.1.t;omega)) fun z hz=>?_;refine bC.bind (Fb z.2) fun b2 hb2=>?_;have hR:RP r (xz i+xz x+1) z.2:=(hy1.trans hz.rp).more (by omega);refine bC.iteb (fun _=>?_) fun _=>.some ⟨hR,hF.fp⟩;refine bC.eqn g1 (bC.eqn g2 ?_);refine bC.bind (bC.idx (Q:=fun _=>True) g0 g3 fun _ _=>trivial) fun q _=>.some ⟨hR,rfl,rfl,rfl,hF.w,hF.r,?_⟩;obtain ⟨g4,g5⟩:=wC g2;refine Mz fun j=>?_;rw [zC,zC,HM]
 split
 ·rename_i hj;subst hj;rw [g5,if_pos (qS.1 g5).1];simp
 ·rfl
def St (P:aR) (f:aY) (s:aH):Prop:=∃l n sc n' sc',TB (SG P) f.bB f.cX l n sc [s] n' sc'
abbrev StF:=aE->aK->List (List Int)->aH->Option (aE × aK × List (List Int))
abbrev RF:=aE->aK->List (List Int)->List aH->Option (aE × aK × List (List Int))
def Hn (P:aR) (n:Nat) (blk:RF):Prop:=∀r fr hs ss,RI P 1000000000 r->CW fr hs->(∀s ∈ ss,St P fr.f_ s)->Aa ss<=3001->3*r.dP.toNat+7000<=n->bC (blk r fr hs ss) (MP r fr hs 0)
def Nn (P:aR) (n:Nat) (st:StF):Prop:=∀r fr hs s,RI P 999996000 r->CW fr hs->St P fr.f_ s->tz s<=3001->3*r.dP.toNat+7002<=n->bC (st r fr hs s) (MP r fr hs 3002)
def Fe (P:aR) (n:Nat) (o:cR) (st:StF):Prop:=∀r fr hs s,s.lE=o->RI P 999996000 r->CW fr hs->St P fr.f_ s->tz s<=3001->3*r.dP.toNat+7001<=n->bC (st r fr hs s) (MP r fr hs 3002)
section
variable {P:aR} {n:Nat}
theorem RP.eq {r r':aE} (k:Nat) (h1:r'.p_=r.p_) (h2:r'.dP=r.dP) (h3:r'.bT=r.bT) (h4:r'.e_=r.e_ ∨ r'.e_=70):RP r k r':=⟨h1,by rw [h2];exact Pg _,by rw [h2,h3];omega,h4⟩
theorem Jl {st:StF} (hst:Nn P n st) {ss:List aH} (hl:ss.length<=3001) (hz:∀s ∈ ss,tz s<=3001):∀(c j:Nat) r fr hs,j<=ss.length->ss.length<j+c->RI P 1000000000 r->CW fr hs->(∀s ∈ ss,St P fr.f_ s)->3*r.dP.toNat+7000<=n+1 ->
  bC (eM st ss c (j:Int) r fr hs) fun s=>MP r fr hs 0 (s.elim id id):=by
 intro c
 induction c with
 | zero=>intro j r fr hs h1 h2;omega
 | succ c ih=>
   intro j r fr hs h1 h2 hI hF hT hn;unfold eM;refine bC.iteb (fun h=>?_) fun h=>.some ⟨RP.refl,hF.fp⟩;have h:=DW h;have hj:j<ss.length:=by omega
   have hm:ss[j] ∈ ss:=xdv _
   refine bC.bind (P:=fun s=>match s with
    | .inl x=>RP r 0 x.1/\FP fr hs x.2.1 x.2.2
    | .inr x=>MP r fr hs 0 x) ?_ fun s hs'=>?_
   ·refine bC.eqn (v:=ss[j]) (yV (tH hj) rfl) ?_;refine bC.bind (qO r) fun b _=>?_;refine bC.iteb (fun _=>.some ⟨RP.refl,hF.fp⟩) fun _=>?_;refine bC.bind (KR hI.f) fun x hx=>?_;obtain ⟨x1,x2,_,x3⟩:=hx;refine bC.bind (qO x) fun b hb=>?_;refine bC.iteb (fun hb'=>?_) fun hb'=>.some ⟨?_,hF.fp⟩
    ·have hb0:b=false:=by simpa using hb'
     have he:=hb hb0
     rcases x3 with ⟨_,_,x5⟩ | ⟨x4,x5,x6⟩
     ·rw [x5] at he;cases he
     ·have hm':=hI.m;have hfu:4000*x.dP.toNat+4000=4000*r.dP.toNat:=by rw [x5];omega
      refine bC.bind (hst x fr hs ss[j] ⟨x1.trans hI.p,by have:=hI.f;omega,by rw [x2];omega⟩ hF (hT _ hm) (hz _ hm) (by omega)) fun y hy=>.some ⟨?_,hy.2⟩;show RP r 0 y.1;refine ⟨hy.1.p.trans x1,by have:=hy.1.f;omega,by have:=hy.1.m;rw [x2] at this;omega,?_⟩
      rcases hy.1.e with e | e
      ·exact .inl (e.trans x6)
      ·exact .inr e
    ·rcases x3 with ⟨_,x4,x5⟩ | ⟨x4,x5,x6⟩
     ·exact RP.eq 0 x1 x4 x2 (.inr x5)
     ·show RP r 0 x;exact ⟨x1,by omega,by rw [x2,x5];omega,.inl x6⟩
   ·cases s with
    | inr x=>exact .some hs'
    | inl x=>
      obtain ⟨g1,g2⟩:=hs';show bC (eM st ss c _ x.1 x.2.1 x.2.2) _;rw [fR (by omega) (by omega)];have hI':=hI.step g1;refine (ih (j+1) x.1 x.2.1 x.2.2 (by omega) (by omega) hI' (g2.ok hF) (fun s hs=>by rw [g2.f];exact hT s hs) (by have:=g1.f;omega)).mono fun s hs=>⟨g1.trans hs.1,g2.trans hs.2⟩
theorem LW {st:StF} (hst:Nn P n st):Hn P (n+1) (eD st n):=by
 intro r fr hs ss hI hF hT hz hn;unfold eD;have hl:=tzL_len ss;refine bC.bind (Jl hst (by omega) (fun s hs=>JE (tzL_mem hs) hz) n 0 r fr hs (by omega) (by omega) hI hF hT hn) fun y hy=>?_;cases y with
 | inl y=>exact .some hy
 | inr y=>exact .some hy
theorem TB.each_st {f:aY} {l:Bool} {k k':Nat} {sc sc':List Int} {ss:List aH} (h:TB (SG P) f.bB f.cX l k sc ss k' sc'):∀s ∈ ss,St P f s:=fun s hs=>h.each s hs
theorem Nj {s:aH} (h:tz s<=3001):tG s.aP+Aa s.eH+Aa s.rZ<=3000:=by rw [yB] at h;omega
theorem Mg {blk:RF} (hb:Hn P n blk):Fe P (n+1) [105,102] (dW blk n):=by
 intro r fr hs s ho hI hF ⟨l,k,sc,k',sc',hT⟩ hz hn;have hx:=Nj hz;have hm:=hI.m;unfold dW;cases hT with
 | @if_ l n sc c b e a n1 sc1 n2 sc2 ss n' sc' h1 h2 h3 h4 h5=>
   simp only [tG] at hx;refine bC.eqn (v:=c) rfl ?_;refine bC.bind ((wF hF _).1 c h1 (by omega) r (by omega)) fun y hy=>?_;refine bC.bind (qO y.2) fun d _=>?_;have hyt:=hy.t;refine bC.iteb (fun _=>.some ⟨hy.rp.more (by omega),hF.fp⟩) fun _=>?_
   have hgo:∀(z:Int) (bs:List aH),(∀s ∈ bs,St P fr.f_ s)->Aa bs<=3001->bC ((dF y.2 1 z 0).bind fun x14=>(blk x14 fr hs bs).bind fun x16=>some (x16.1,x16.2.1,x16.2.2)) (MP r fr hs 3002):=by
    intro z bs hbs hbz;refine bC.bind (EP (by omega)) fun x hx'=>?_;obtain ⟨e1,e2,e3,e4,e5⟩:=hx';have hR:RP r (xz c+1) x:=⟨e1.trans hy.p,by rw [e2,hy.f];exact Pg _,by rw [e2,hy.f];omega,.inl (e3.trans hy.e)⟩;refine bC.bind (hb x fr hs bs ⟨hR.p.trans hI.p,by have:=hR.f;have:=hI.f;omega,by have:=hR.m;omega⟩ hF hbs hbz (by have:=hR.f;omega)) fun w hw=>.some ⟨(hR.trans hw.1).more (by omega),hw.2⟩
   refine bC.iteb (fun _=>hgo 1 b (h3.each_st) (by omega)) fun _=>hgo 0 e (h4.each_st) (by omega)
 | _=>simp at ho
end
section
variable {P:aR} {n:Nat}
theorem Hu {blk:RF} (hb:Hn P n blk) {y:Int × aE} {s:aH} {f:aY} (hbs:∀t ∈ s.eH,St P f t) (hbz:Aa s.eH<=3001) (hv:0<=s.mD->s.mD<f.bB.length) :
  ∀(c:Nat) (v:Int) r fr hs,fr.f_=f->RI P 1000000000 r->CW fr hs->3*r.dP.toNat+7000<=n->1<=c->(r.e_=0->r.dP.toNat+2<=c) ->
  bC (eY blk y s c v r fr hs) (MP r fr hs 0):=by
 intro c
 induction c with
 | zero=>intro v r fr hs _ _ _ _ h;omega
 | succ c ih=>
   intro v r fr hs hf hI hF hn hc he;unfold eY;refine bC.bind (P:=fun b=>b=true->r.e_=0) ?_ fun b hb0=>?_
   ·refine bC.iteb (fun _=>bC.bind (qO r) fun b hb=>.some fun h=>hb (by simpa using h)) fun _=>.some fun h=>by cases h
   refine bC.iteb (fun h=>?_) fun _=>.some ⟨RP.refl,hF.fp⟩;have he0:=hb0 h;have hc2:=he he0;refine bC.bind (KR hI.f) fun x hx=>?_;obtain ⟨x1,x2,_,x3⟩:=hx;refine bC.bind (IR hF (v:=s.mD) (by rw [hF.wl,hf];exact hv) (qT.wrap v)) fun t ht=>?_
   have hxr:RP r 0 x:=by
    rcases x3 with ⟨_,x4,x5⟩ | ⟨x4,x5,x6⟩
    ·exact RP.eq 0 x1 x4 x2 (.inr x5)
    ·exact ⟨x1,by omega,by rw [x2,x5];omega,.inl x6⟩
   have hIx:RI P 1000000000 x:=hI.step hxr;refine bC.bind (hb x t.1 t.2 s.eH hIx (ht.ok hF) (fun q hq=>by rw [ht.f,hf];exact hbs q hq) hbz (by have:=hxr.f;omega)) fun w hw=>?_;have hwr:RP r 0 w.1:=hxr.trans hw.1;have hwf:FP fr hs w.2.1 w.2.2:=ht.trans hw.2;refine (ih _ w.1 w.2.1 w.2.2 (hwf.f.trans hf) (hI.step hwr) (hwf.ok hF) (by have:=hwr.f;omega) (by omega) (fun he'=>?_)).mono fun z hz=>⟨hwr.trans hz.1,hwf.trans hz.2⟩
   rcases x3 with ⟨_,_,x5⟩ | ⟨x4,x5,_⟩
   ·rcases hw.1.e with e | e
    ·rw [e,x5] at he';cases he'
    ·rw [e] at he';cases he'
   ·have:=hw.1.f;omega
theorem LD {blk:RF} (hb:Hn P n blk):Fe P (n+1) [102,111,114] (dV blk n):=by
 intro r fr hs s ho hI hF ⟨l,k,sc,k',sc',hT⟩ hz hn;have hx:=Nj hz;have hm:=hI.m;unfold dV;cases hT with
 | @for_ l n sc x y u b a n1 sc1 ss n' sc' h1 h2 h3 h4 h5 h6 h7 h8=>
   simp only [tG] at hx;refine bC.eqn (v:=x) rfl ?_;refine bC.bind ((wF hF _).1 x h1 (by omega) r (by omega)) fun p hp=>?_;refine bC.bind (qO p.2) fun d _=>?_;have hpt:=hp.t;refine bC.iteb (fun _=>.some ⟨hp.rp.more (by omega),hF.fp⟩) fun _=>?_;refine bC.eqn (v:=y) rfl ?_;refine bC.bind ((wF hF _).1 y h3 (by omega) p.2 (by omega)) fun q hq=>?_;refine bC.bind (qO q.2) fun d _=>?_;have hqt:=hq.t;have hRq:RP r (xz x+xz y) q.2:=hp.rp.trans hq.rp;refine bC.iteb (fun _=>.some ⟨hRq.more (by omega),hF.fp⟩) fun _=>?_;refine bC.bind (EP (by omega)) fun w hw=>?_;obtain ⟨e1,e2,e3,e4,e5⟩:=hw;have hR:RP r (xz x+xz y+1) w:=⟨e1.trans hRq.p,by rw [e2];exact hRq.f,by have:=hRq.m;rw [e2];omega,by rw [e3];exact hRq.e⟩;have hI2:RI P 1000000000 w:=⟨hR.p.trans hI.p,by have:=hR.f;have:=hI.f;omega,by have:=hR.m;omega⟩;refine bC.bind (Hu (y:=q) hb (f:=fr.f_) (s:=⟨[102,111,114],(k:Int),0,[x,y],b,[],a⟩) h7.each_st (by simp only;omega) (fun _=>by have:=(qS.1 h5).1;simp only;omega) _ _ w fr hs rfl hI2 hF (by have:=hR.f;omega) (by omega) (fun _=>by have:=hR.f;omega)) fun z hz=>.some ⟨(hR.trans hz.1).more (by omega),hz.2⟩
 | _=>simp at ho
theorem PP {fc fi fo:StF} (hc:Fe P n [99,97,108,108] fc) (hi:Fe P n [105,102] fi) (ho:Fe P n [102,111,114] fo):Nn P (n+1) (dO fc fi fo n):=by
 intro r fr hs s hI hF hS hz hn;have hx:=Nj hz;have hm:=hI.m
 have hput:∀(x:aG) (v:Int) (sc:List Int),TX fr.f_.bB sc x->xz x<=3000->(0<=v->v<fr.f_.bB.length)->bC ((bP n r fr hs x).bind fun x4=>(bE x4.2).bind fun x11=>if (!x11)=true then (dN fr hs v x4.1).bind fun x14=>some (x4.2,x14.1,x14.2) else some (x4.2,fr,hs)) (MP r fr hs 3002):=by
  intro x v sc h1 h2 h3;refine bC.bind ((wF hF n).1 x h1 (by omega) r (by omega)) fun y hy=>?_;refine bC.bind (qO y.2) fun d _=>?_;refine bC.iteb (fun _=>?_) fun _=>.some ⟨hy.rp.more (by omega),hF.fp⟩;exact bC.bind (IR hF (by rw [hF.wl];exact h3) hy.w) fun t ht=>.some ⟨hy.rp.more (by omega),ht⟩
 unfold dO;have hS':=hS;obtain ⟨l,k,sc,k',sc',hT⟩:=hS;cases hT with
 | @let_ l n sc x u a ss n' sc' h1 h2 h3 h4 h5=>
   simp only [tG] at hx;refine bC.iteb (fun _=>?_) fun h=>absurd h (by simp);refine bC.eqn (v:=x) rfl ?_;exact hput x _ sc h1 (by omega) fun _=>by have:=(qS.1 h3).1;simp only;omega
 | @var_ l n sc x u a ss n' sc' h1 h3 h4 h5=>
   simp only [tG] at hx;refine bC.iteb (fun h=>absurd h (by simp)) fun _=>?_;refine bC.iteb (fun _=>?_) fun h=>absurd h (by simp);refine bC.eqn (v:=x) rfl ?_;exact hput x _ sc h1 (by omega) fun _=>by have:=(qS.1 h3).1;simp only;omega
 | @set l n sc v u x a ss n' sc' h1 h2 h3 h4 h5 h6=>
   simp only [tG] at hx;refine bC.iteb (fun h=>absurd h (by simp)) fun _=>?_;refine bC.iteb (fun h=>absurd h (by simp)) fun _=>?_;refine bC.iteb (fun _=>?_) fun h=>absurd h (by simp);refine bC.eqn (v:=x) rfl ?_;exact hput x _ sc h4 (by omega) fun _=>by have:=(qS.1 (wC h2).2).1;have:=(wC h2).1;simp only;omega
 | @arr l n sc u a ss n' sc' h1 h2 h3=>
   refine bC.iteb (fun h=>absurd h (by simp)) fun _=>?_;refine bC.iteb (fun h=>absurd h (by simp)) fun _=>?_;refine bC.iteb (fun h=>absurd h (by simp)) fun _=>?_;refine bC.iteb (fun _=>?_) fun h=>absurd h (by simp);obtain ⟨k,ar,g1,g2,g3,g4,g5,g6⟩:=hF.arr (yV h1 rfl) h2;refine bC.eqn g1 (bC.eqn g2 (bC.need (by omega) (.some ⟨RP.refl,rfl,rfl,rfl,hF.w,hF.r,?_⟩)));obtain ⟨g7,g8⟩:=wC g2;refine Mz fun j=>?_;rw [zC,zC,HM]
   split
   ·rename_i hj;subst hj;rw [g8,if_pos (qS.1 g8).1];simp
   ·rfl
 | @put l n sc v u i x a ss n' sc' h1 h2 h3 h4 h5 h6 h7 h8 h9=>
   simp only [tG] at hx;refine bC.iteb (fun h=>absurd h (by simp)) fun _=>?_;refine bC.iteb (fun h=>absurd h (by simp)) fun _=>?_;refine bC.iteb (fun h=>absurd h (by simp)) fun _=>?_;refine bC.iteb (fun h=>absurd h (by simp)) fun _=>?_;refine bC.iteb (fun _=>?_) fun h=>absurd h (by simp);exact bC.bind (NA hF h2 h3 h4 h7 (by omega) (by omega)) fun t ht=>.some ⟨ht.1.more (by omega),ht.2⟩
 | @if_ l n sc c b e a n1 sc1 n2 sc2 ss n' sc' h1 h2 h3 h4 h5=>
   refine bC.iteb (fun h=>absurd h (by simp)) fun _=>?_;refine bC.iteb (fun h=>absurd h (by simp)) fun _=>?_;refine bC.iteb (fun h=>absurd h (by simp)) fun _=>?_;refine bC.iteb (fun h=>absurd h (by simp)) fun _=>?_;refine bC.iteb (fun h=>absurd h (by simp)) fun _=>?_;refine bC.iteb (fun h=>absurd h (by simp)) fun _=>?_;refine bC.iteb (fun _=>?_) fun h=>absurd h (by simp);exact bC.bind (hi r fr hs _ rfl hI hF hS' hz (by omega)) fun t ht=>.some ht
 | @for_ l n sc x y u b a n1 sc1 ss n' sc' h1 h2 h3 h4 h5 h6 h7 h8=>
   refine bC.iteb (fun h=>absurd h (by simp)) fun _=>?_;refine bC.iteb (fun h=>absurd h (by simp)) fun _=>?_;refine bC.iteb (fun h=>absurd h (by simp)) fun _=>?_;refine bC.iteb (fun h=>absurd h (by simp)) fun _=>?_;refine bC.iteb (fun h=>absurd h (by simp)) fun _=>?_;refine bC.iteb (fun h=>absurd h (by simp)) fun _=>?_;refine bC.iteb (fun h=>absurd h (by simp)) fun _=>?_;refine bC.iteb (fun _=>?_) fun h=>absurd h (by simp);exact bC.bind (ho r fr hs _ rfl hI hF hS' hz (by omega)) fun t ht=>.some ht
 | @ret n sc x a h1 h2 h3=>
   simp only [tG] at hx;refine bC.iteb (fun h=>absurd h (by simp)) fun _=>?_;refine bC.iteb (fun h=>absurd h (by simp)) fun _=>?_;refine bC.iteb (fun h=>absurd h (by simp)) fun _=>?_;refine bC.iteb (fun h=>absurd h (by simp)) fun _=>?_;refine bC.iteb (fun h=>absurd h (by simp)) fun _=>?_;refine bC.iteb (fun h=>absurd h (by simp)) fun _=>?_;refine bC.iteb (fun h=>absurd h (by simp)) fun _=>?_;refine bC.iteb (fun h=>absurd h (by simp)) fun _=>?_;refine bC.iteb (fun _=>?_) fun h=>absurd h (by simp);refine bC.eqn (v:=x) rfl ?_;exact bC.bind ((wF hF _).1 x h1 (by omega) r (by omega)) fun y hy=>.some ⟨hy.rp.more (by omega),rfl,rfl,rfl,hF.w,hy.w,rfl⟩
 | _=>
   refine bC.iteb (fun h=>absurd h (by simp)) fun _=>?_;refine bC.iteb (fun h=>absurd h (by simp)) fun _=>?_;refine bC.iteb (fun h=>absurd h (by simp)) fun _=>?_;refine bC.iteb (fun h=>absurd h (by simp)) fun _=>?_;refine bC.iteb (fun h=>absurd h (by simp)) fun _=>?_;refine bC.iteb (fun _=>?_) fun h=>absurd h (by simp);exact bC.bind (hc r fr hs _ rfl hI hF hS' hz (by omega)) fun t ht=>.some ht
end
theorem DI {α:Type} {l:List α} {i:Nat} {x:α}:(l.set i x).length=l.length:=HL
structure OL (p b:Nat) (l:List aZ) (i:Nat) (rs:List Int) (hs:List (List Int)) (x:List Int × List (List Int)):Prop where
 len:x.1.length=rs.length
 low:∀j,j<p+i->x.1[j]? = rs[j]?
 pre:hs <+: x.2
 lt:(∀k ∈ rs,k<((b+hs.length:Nat):Int))->∀k ∈ x.1,k<((b+x.2.length:Nat):Int)
 ar:∀(j:Nat) v,l[j]? = some v->v.cF=4->∃k a,x.1[p+i+j]? = some ((b+k:Nat):Int)/\x.2[k]? = some a/\(a.length:Int)=v.iV
theorem Fy (p b:Nat):∀(l:List aZ) (i:Nat) (rs:List Int) (hs:List (List Int)),(∀v ∈ l,Cz v)->p+i+l.length<=rs.length->bC (Eh p l i b rs hs) (OL p b l i rs hs)
 | [],i,rs,hs,h,hl=>.some ⟨rfl,fun _ _=>rfl,Pd _,fun h=>h,fun j v hv=>by simp at hv⟩
 | v::l,i,rs,hs,h,hl=>by
   have hv:=h v (xec ..);have ht:∀u ∈ l,Cz u:=fun u hu=>h u (Jx _ hu);rw [jK] at hl;unfold Eh
   by_cases hk:v.cF=4
   ·rw [if_pos hk];have hs':=hv.2.2 hk;have hsz:1<=v.iV/\v.iV<=1024:=by unfold wA at hs';omega
    refine bC.need (by omega) ((Fy p b l (i+1) _ _ ht (by rw [DI];omega)).mono fun x hx=>?_);refine ⟨by rw [hx.len,DI],fun j hj=>by rw [hx.low j (by omega),My (by omega)],(xej _ _).trans hx.pre,fun hlt=>hx.lt fun k hk'=>?_,fun j u hu hku=>?_⟩
    ·rw [nL,uP]
     rcases HN hk' with hk' | hk'
     ·have:=hlt k hk';omega
     ·omega
    ·cases j with
     | zero=>
       simp only [Pu,Option.some.injEq] at hu;subst hu;refine ⟨hs.length,List.replicate v.iV.toNat 0,?_,?_,by rw [xdm];omega⟩
       ·rw [hx.low _ (by omega),xdg,Li (by omega)]
       ·obtain ⟨z,hz⟩:=hx.pre;rw [←hz,Mx,Hr (sU _),xdx];rfl
     | succ j=>
       rw [Lh] at hu;obtain ⟨k,a,g1,g2,g3⟩:=hx.ar j u hu hku;exact ⟨k,a,by rw [show p+i+(j+1)=p+(i+1)+j by omega];exact g1,g2,g3⟩
   ·rw [if_neg hk];refine (Fy p b l (i+1) rs hs ht (by omega)).mono fun x hx=>⟨hx.len,fun j hj=>hx.low j (by omega),hx.pre,hx.lt,fun j u hu hku=>?_⟩;cases j with
    | zero=>
      simp only [Pu,Option.some.injEq] at hu;subst hu;exact absurd hku hk
    | succ j=>
      rw [Lh] at hu;obtain ⟨k,a,g1,g2,g3⟩:=hx.ar j u hu hku;exact ⟨k,a,by rw [show p+i+(j+1)=p+(i+1)+j by omega];exact g1,g2,g3⟩
structure KV (f:aY) (hs:List (List Int)) (j:Nat) (to:aK):Prop where
 ff:to.f_=f
 wl:to.cC.length=f.bB.length
 al:to.cK.length=f.bB.length
 w:∀z ∈ to.cC,qT z
 r:qT to.qH
 lt:∀k ∈ to.cK,k<(hs.length:Int)
 ar:∀(i:Nat) v,f.bB[i]? = some v->v.cF=4->(i<j ∨ f.bD.toNat<=i)->∃k a,to.cK[i]? = some k/\0<=k/\hs[k.toNat]? = some a/\(a.length:Int)=v.iV
section
variable {P:aR} {n:Nat}
theorem Km {f:aY} (h:Ru P f) (hs:List (List Int)):bC (Cg f hs.length) fun o=>KV f (hs++o.2) 0 o.1:=by
 unfold Cg;have h1:=h.p0;have h2:=h.p1;have h3:=h.vl;refine bC.need ⟨h1,h2,by omega⟩ ?_;refine bC.bind (Fy f.bD.toNat hs.length (f.bB.drop f.bD.toNat) 0 (List.replicate f.bB.length (-1)) [] (fun v hv=>h.vo v (Pf hv)) (by rw [xdm,Ho];omega)) fun x hx=>.some ?_;refine ⟨rfl,by simp,by rw [hx.len];simp,fun z hz=>by rw [(Pe.1 hz).2];exact qT.zero,qT.zero,fun k hk=>?_,fun i v hv hk hi=>?_⟩
 ·have:=hx.lt (fun k hk=>by rw [(Pe.1 hk).2];omega) k hk;rw [nL];exact this
 ·have hi:f.bD.toNat<=i:=by omega
  obtain ⟨k,a,g1,g2,g3⟩:=hx.ar (i - f.bD.toNat) v (by rw [xdu,show f.bD.toNat+(i - f.bD.toNat)=i by omega];exact hv) hk;refine ⟨_,a,by rw [show i=f.bD.toNat+0+(i - f.bD.toNat) by omega];exact g1,by omega,?_,g3⟩;rw [AP,Hr (by omega),Nat.add_sub_cancel_left];exact g2
theorem put_tok {f:aY} {hs:List (List Int)} {j:Nat} {to:aK} (h:KV f hs j to) {hs':List (List Int)} {v:Nat} {z:Int} (hv:v<f.bB.length) (hz:qT z):bC (dN to hs' (v:Int) z) fun x=>KV f hs j x.1:=by
 unfold dN;refine bC.iteb (fun h'=>?_) fun _=>.some h;refine bC.bind (bC.idx (Q:=fun _=>True) (by omega) (by rw [h.wl];omega) fun _ _=>trivial) fun _ _=>.some ⟨h.ff,by rw [DI];exact h.wl,h.al,fun y hy=>?_,h.r,h.lt,h.ar⟩
 rcases HN hy with hy | hy
 ·exact h.w y hy
 ·rw [hy];exact hz
theorem KV.val {f:aY} {hs:List (List Int)} {j:Nat} {to:aK} (h:KV f hs j to) (hk:∀v,f.bB[j]? = some v->v.cF ≠ 4):KV f hs (j+1) to:=
 ⟨h.ff,h.wl,h.al,h.w,h.r,h.lt,fun i v hv hk' hi=>h.ar i v hv hk' (by
  by_cases hij:i=j
  ·subst hij;exact absurd hk' (hk v hv)
  ·omega)⟩
theorem Cn {fr:aK} {hs h2:List (List Int)} {sc:List Int} {f:aY} (hF:CW fr hs) (hf:Ru P f):∀(l:List aG) (j:Nat) r (to:aK),
  (∀(i:Nat) x,l[i]? = some x->∃p,f.bB[j+i]? = some p/\FG fr.f_.bB sc p x)->KV f (hs++h2) j to->2*tG l+40<=n->r.bT.length+tG l<=1073741824 ->
  bC (qQ n fr hs h2 l j r to) fun c=>match c with
   | .inl r'=>RP r (tG l) r'
   | .inr x=>RP r (tG l) x.1/\KV f (hs++h2) (j+l.length) x.2
 | [],j,r,to,_,hT,_,_=>.some ⟨RP.refl,hT⟩
 | x::l,j,r,to,hA,hT,hn,ht=>by
   obtain ⟨p,hp,ha⟩:=hA 0 x rfl;rw [xdg] at hp;have hjl:=(qS.1 hp).1
   have hA':∀(i:Nat) y,l[i]? = some y->∃p,f.bB[j+1+i]? = some p/\FG fr.f_.bB sc p y:=fun i y hy=>by
    have:=hA (i+1) y (by rw [Lh];exact hy);rw [show j+1+i=j+(i+1) by omega];exact this
   rw [tG] at hn ht ⊢;have hlen:j+(x::l).length=j+1+l.length:=by rw [jK];omega
   rw [hlen];unfold qQ
   have hval:TX fr.f_.bB sc x->x.cU ≠ 4->p.cF ≠ 4->bC (if x.cU=4 then
    (bY fr.cK x.mD).bind fun k=>
    gV (0<=k/\k<(hs.length:Int)/\j<to.cK.length) <|
    qQ n fr hs h2 l (j+1) r { to with cK:=to.cK.set j k }
   else
    (bP n r fr hs x).bind fun v=>
    (bE v.2).bind fun e=>
    if e=true then some (.inl v.2) else
    (dN to (hs++h2) (j:Int) v.1).bind fun t=>
    qQ n fr hs h2 l (j+1) v.2 t.1) fun c=>match c with
    | .inl r'=>RP r (xz x+tG l) r'
    | .inr z=>RP r (xz x+tG l) z.1/\KV f (hs++h2) (j+1+l.length) z.2:=by
    intro hx h4 hk;rw [if_neg h4];refine bC.bind ((wF hF n).1 x hx (by omega) r (by omega)) fun y hy=>?_;refine bC.bind (qO y.2) fun d _=>?_;have hyt:=hy.t;refine bC.iteb (fun _=>.some (hy.rp.more (by omega))) fun _=>?_;refine bC.bind (put_tok hT hjl hy.w) fun t ht'=>?_;refine (Cn hF hf l (j+1) y.2 t.1 hA' (ht'.val fun v hv=>by rw [hp] at hv;cases hv;exact hk) (by omega) (by omega)).mono fun c hc=>?_;cases c with
    | inl r'=>exact hy.rp.trans hc
    | inr z=>exact ⟨hy.rp.trans hc.1,hc.2⟩
   cases ha with
   | pub h1 h2 h3=>exact hval h2 (by rw [h3];decide) (by omega)
   | val h1 h2 h3 h4=>
     refine hval h3 ?_ h2;have:=(h3.range hF.vo).2;omega
   | @arr v u a h1 h2' h3 h4 h5=>
     rw [if_pos (by rfl)];obtain ⟨k,ar,g1,g2,g3,g4,g5,g6⟩:=hF.arr h3 h4;refine bC.eqn g1 ?_;obtain ⟨g7,g8⟩:=wC g2;have hkl:=(qS.1 g8).1;refine bC.need ⟨g6,by omega,by rw [hT.al];exact hjl⟩ ?_
     have hT':KV f (hs++h2) (j+1) { to with cK:=to.cK.set j k }:=by
      refine ⟨hT.ff,hT.wl,by rw [DI];exact hT.al,hT.w,hT.r,fun q hq=>?_,fun i w hw hk' hi=>?_⟩
      ·rcases HN hq with hq | hq
       ·exact hT.lt q hq
       ·rw [hq,nL];omega
      ·show ∃q a,(to.cK.set j k)[i]? = some q/\_
       by_cases hij:i=j
       ·subst hij;rw [hp] at hw;cases hw
        exact ⟨k,ar,by rw [Li (by rw [hT.al];exact hjl)],g6,by rw [FX hkl];exact g8,by rw [g3,h5]⟩
       ·rw [My (by omega)];exact hT.ar i w hw hk' (by omega)
     refine (Cn hF hf l (j+1) r _ hA' hT' (by omega) (by omega)).mono fun c hc=>?_;cases c with
     | inl r'=>exact hc.more (by omega)
     | inr z=>exact ⟨hc.1.more (by omega),hc.2⟩
theorem KV.frok {f:aY} {hs:List (List Int)} {j:Nat} {to:aK} (h:KV f hs j to) (hj:f.bD.toNat<=j) (hf:Ru P f):CW to hs:=by
 refine ⟨by rw [h.ff];exact h.wl,by rw [h.ff];exact h.al,h.w,h.r,h.lt,fun i v hv hk=>h.ar i v (by rw [←h.ff];exact hv) hk (by omega),fun v hv=>hf.vo v (by rw [←h.ff];exact hv)⟩
end
section
variable {P:aR} {n:Nat}
theorem Fc {blk:RF} (hb:Hn P n blk) (hP:∀k f,bY P.bG k=some f->Ru P f) {r:aE} {fr:aK} {hs:List (List Int)} {s:aH} {sc:List Int} {q:Int} {ps:List aZ}
  (hI:RI P 999996000 r) (hF:CW fr hs) (hz:tG s.aP<=3000) (hn:3*r.dP.toNat+7001<=n+1) (hg:SG P s.pE q ps) (ha:Ej fr.f_.bB sc ps s.aP) (hv:0<=s.mD->s.mD<fr.f_.bB.length) :
  bC (dS blk n r fr hs s) (MP r fr hs 3002):=by
 obtain ⟨f,hf,rfl,rfl⟩:=hg;have hm:=hI.m;have hT:=hP _ f hf;have hsl:=xzL_len s.aP;unfold dS;refine bC.need (by omega) ?_;refine bC.eqn (v:=f) (by rw [hI.p];exact hf) ?_;refine bC.bind (Km hT hs) fun o ho=>?_;have h0:=hT.p0;have h1:=hT.p1;have hpl:(f.bB.take f.bD.toNat).length=f.bD.toNat:=by rw [EF];omega
 refine bC.bind (Cn (n:=n) (sc:=sc) hF hT s.aP 0 r o.1 (fun i x hx=>?_) ho (by omega) (by omega)) fun c hc=>?_
 ·have hi:=(qS.1 hx).1;have hi2:i<(f.bB.take f.bD.toNat).length:=by rw [←ha.1];exact hi
  refine ⟨(f.bB.take f.bD.toNat)[i],?_,ha.2 i _ x (tH hi2) hx⟩;rw [JD,List.getElem_take];exact tH _
 cases c with
 | inl r'=>exact .some ⟨RP.more hc (by omega),hF.fp⟩
 | inr c=>
   obtain ⟨hc1,hc2⟩:=hc;rw [JD,ha.1,hpl] at hc2;have hFr:=hc2.frok (sU _) hT;obtain ⟨bl,bn,bsc,bn',bsc',hB⟩:=hT.body;refine bC.bind (hb c.1 c.2 (hs++o.2) c.2.f_.eH ⟨hc1.p.trans hI.p,by have:=hc1.f;have:=hI.f;omega,by have:=hc1.m;omega⟩ hFr (fun t ht=>by rw [hc2.ff] at ht ⊢;exact hB.each t ht) (by rw [hc2.ff];exact hT.sz) (by have:=hc1.f;omega)) fun b hb'=>?_;have hR:RP r 3002 b.1:=(hc1.trans hb'.1).more (by omega)
   have hlen:(b.2.2.take hs.length).map List.length=hs.map List.length:=by
    rw [List.map_take,hb'.2.h,JC];have:(hs.map List.length).length=hs.length:=uQ ..;rw [←this,List.take_left]
   have hFP:FP fr hs fr (b.2.2.take hs.length):=⟨rfl,rfl,rfl,hF.w,hF.r,hlen⟩;refine bC.bind (qO b.1) fun d _=>?_;refine bC.iteb (fun _=>.some ⟨hR,hFP⟩) fun _=>?_;refine bC.ite (fun _=>.some ⟨hR,rfl,rfl,rfl,hF.w,hb'.2.r,hlen⟩) fun _=>?_;refine bC.bind (IR (hFP.ok hF) (v:=s.mD) (z:=b.2.1.qH) (by rw [hF.wl];exact hv) hb'.2.r) fun p hp=>.some ⟨hR,hFP.trans hp⟩
theorem Re {blk:RF} (hb:Hn P n blk) (hP:∀k f,bY P.bG k=some f->Ru P f):Fe P (n+1) [99,97,108,108] (dS blk n):=by
 intro r fr hs s ho hI hF ⟨l,k,sc,k',sc',hT⟩ hz hn;have hx:=Nj hz;cases hT with
 | callv h1 h2 h3 h4 h5 h6=>exact Fc hb hP hI hF (by omega) hn h1 h2 fun _=>by have:=(qS.1 h4).1;simp only;omega
 | calls h1 h2 h3 h4 h5 h6 h7=>exact Fc hb hP hI hF (by omega) hn h4 h5 fun _=>by have:=(qS.1 (wC h2).2).1;have:=(wC h2).1;simp only;omega
 | do_ h1 h2 h3=>exact Fc hb hP hI hF (by omega) hn h1 h2 fun h=>by simp at h
 | retc h1 h2 h3=>exact Fc hb hP hI hF (by omega) hn h1 h3 fun h=>by simp at h
 | _=>simp at ho
theorem MS (hP:∀k f,bY P.bG k=some f->Ru P f):∀n,Hn P n (cW n)/\Nn P n (eX n)/\Fe P n [99,97,108,108] (gR n)/\Fe P n [105,102] (gB n)/\Fe P n [102,111,114] (gA n)
 | 0=>⟨fun _ _ _ _ _ _ _ _ h=>by omega,fun _ _ _ _ _ _ _ _ h=>by omega,fun _ _ _ _ _ _ _ _ _ h=>by omega,fun _ _ _ _ _ _ _ _ _ h=>by omega,fun _ _ _ _ _ _ _ _ _ h=>by omega⟩
 | n+1=>by
   obtain ⟨i1,i2,i3,i4,i5⟩:=MS hP n
   have e:bO (n+1)=(eD (eX n) n,dO (gR n) (gB n) (gA n) n,dS (cW n) n,dW (cW n) n,dV (cW n) n):=by
    rw [bO];rfl
   have e1:cW (n+1)=eD (eX n) n:=by show (bO (n+1)).1=_;rw [e]
   have e2:eX (n+1)=dO (gR n) (gB n) (gA n) n:=by show (bO (n+1)).2.1=_;rw [e]
   have e3:gR (n+1)=dS (cW n) n:=by show (bO (n+1)).2.2.1=_;rw [e]
   have e4:gB (n+1)=dW (cW n) n:=by show (bO (n+1)).2.2.2.1=_;rw [e]
   have e5:gA (n+1)=dV (cW n) n:=by show (bO (n+1)).2.2.2.2=_;rw [e]
   rw [e1,e2,e3,e4,e5];exact ⟨LW i2,PP i3 i4 i5,Re i1 hP,Mg i1,LD i1⟩
end
def El (a:T_interp_Args):List aZ->Nat->Nat->Prop
 | [],_,_=>True
 | v::l,w,k=>if v.cF=4 then (∃x,a.kD[k]? = some x/\(x.length:Int)=v.iV)/\El a l w (k+1) else (∃x,a.tQ[w]? = some x)/\El a l (w+1) k
theorem Jc {f:aY} {a:T_interp_Args} (hl:(f.bB.take f.bD.toNat).length<=250):∀(c i w k:Nat),i<=(f.bB.take f.bD.toNat).length->(f.bB.take f.bD.toNat).length<i+c->w<=i->k<=i ->
  bC (pC f a c (w:Int) (k:Int) (i:Int)) fun s=>match s with
   | .inl _=>El a ((f.bB.take f.bD.toNat).drop i) w k
   | .inr b=>b=false:=by
 intro c
 induction c with
 | zero=>intro i w k h1 h2;omega
 | succ c ih=>
   intro i w k h1 h2 h3 h4;unfold pC;refine bC.iteb (fun h=>?_) fun h=>?_
   ·have h:=DW h;have hi:i<(f.bB.take f.bD.toNat).length:=by omega
    have hd:(f.bB.take f.bD.toNat).drop i=(f.bB.take f.bD.toNat)[i]::(f.bB.take f.bD.toNat).drop (i+1):=Ps hi;rw [hd]
    refine bC.bind (P:=fun y=>match y with
     | .inl x=>∃w' k':Nat,x=((w':Int),(k':Int))/\w'<=i+1/\k'<=i+1/\(El a ((f.bB.take f.bD.toNat).drop (i+1)) w' k'->El a ((f.bB.take f.bD.toNat)[i]::(f.bB.take f.bD.toNat).drop (i+1)) w k)
     | .inr b=>b=false) ?_ fun y hy=>?_
    ·refine bC.eqn (v:=(f.bB.take f.bD.toNat)[i]) (yV (tH hi) rfl) ?_;refine bC.iteb (fun hk=>?_) fun hk=>?_
     ·have hk:(f.bB.take f.bD.toNat)[i].cF=4:=by simpa using hk
      refine bC.bind (P:=fun b=>b=false->∃x,a.kD[k]? = some x/\(x.length:Int)=(f.bB.take f.bD.toNat)[i].iV) ?_ fun b hb=>?_
      ·refine bC.iteb (fun _=>.some fun h=>by cases h) fun hkl=>?_;have hkl:=Mw hkl;have hk2:k<a.kD.length:=by omega
       refine bC.eqn (v:=a.kD[k]) (yV (tH hk2) rfl) (.some fun h=>⟨_,tH hk2,by simpa using h⟩)
      ·refine bC.iteb (fun _=>.some rfl) fun hb'=>.some ⟨w,k+1,?_,by omega,by omega,fun hr=>?_⟩
       ·rw [fR (by omega) (by omega)];rfl
       ·unfold El;rw [if_pos hk];exact ⟨hb hb',hr⟩
     ·have hk:¬ (f.bB.take f.bD.toNat)[i].cF=4:=by simpa using hk
      refine bC.bind (P:=fun b=>b=false->∃x,a.tQ[w]? = some x) ?_ fun b hb=>?_
      ·refine bC.iteb (fun _=>.some fun h=>by cases h) fun hkl=>?_;have hkl:=Mw hkl;have hk2:w<a.tQ.length:=by omega
       refine bC.iteb (fun _=>bC.eqn (v:=a.tQ[w]) (yV (tH hk2) rfl) (.some fun _=>⟨_,tH hk2⟩)) fun _=>.some fun _=>⟨_,tH hk2⟩
      ·refine bC.iteb (fun _=>.some rfl) fun hb'=>.some ⟨w+1,k,?_,by omega,by omega,fun hr=>?_⟩
       ·rw [fR (by omega) (by omega)];rfl
       ·unfold El;rw [if_neg hk];exact ⟨hb hb',hr⟩
    ·cases y with
     | inr b=>exact .some hy
     | inl x=>
       obtain ⟨w',k',rfl,g1,g2,g3⟩:=hy;show bC (pC f a c (w':Int) (k':Int) _) _;rw [fR (by omega) (by omega)];refine (ih (i+1) w' k' (by omega) (by omega) g1 g2).mono fun s hs=>?_;cases s with
       | inl _=>exact g3 hs
       | inr b=>exact hs
   ·have h:=Mw h;rw [List.drop_eq_nil_of_le (by omega)];exact .some trivial
section
variable {P:aR} {n:Nat}
theorem Ol {f:aY} {a:T_interp_Args} (hf:Ru P f) (hn:300<=n):bC (uG n f a) fun b=>b=true->El a (f.bB.take f.bD.toNat) 0 0:=by
 unfold uG;have h1:=hf.vl;have hl:(f.bB.take f.bD.toNat).length<=250:=by rw [EF];omega
 refine bC.need ⟨hf.p0,hf.p1⟩ (bC.bind (Jc hl n 0 0 0 (by omega) (by omega) (by omega) (by omega)) fun y hy=>?_);cases y with
 | inl x=>
   rw [qU] at hy;exact bC.bind (P:=fun _=>True) (bC.iteb (fun _=>.some trivial) fun _=>.some trivial) fun b _=>.some fun _=>hy
 | inr b=>exact .some fun h=>by rw [hy] at h;cases h
theorem KV.app {f:aY} {hs:List (List Int)} {j:Nat} {to:aK} (h:KV f hs j to) (x:List Int):KV f (hs++[x]) j to:=by
 refine ⟨h.ff,h.wl,h.al,h.w,h.r,fun k hk=>by have:=h.lt k hk;rw [nL];omega,fun i v hv hk hi=>?_⟩;obtain ⟨k,a,g1,g2,g3,g4⟩:=h.ar i v hv hk hi;exact ⟨k,a,g1,g2,by rw [FX (qS.1 g3).1];exact g3,g4⟩
theorem Dj {f:aY} {a:T_interp_Args} (hf:Ru P f) (ha:∀z ∈ a.tQ,qT z):∀(l:List aZ) (i w k:Nat) (to:aK) (hs:List (List Int)),(∀(j:Nat) v,l[j]? = some v->f.bB[i+j]? = some v)->El a l w k->KV f hs i to ->
  bC (Ab a l i w k to hs) fun t=>KV f t.2 (i+l.length) t.1
 | [],i,w,k,to,hs,_,_,h=>.some h
 | v::l,i,w,k,to,hs,hv,hp,h=>by
   have hv0:f.bB[i]? = some v:=hv 0 v rfl;have hil:=(qS.1 hv0).1
   have hv':∀(j:Nat) u,l[j]? = some u->f.bB[i+1+j]? = some u:=fun j u hu=>by
    have:=hv (j+1) u (by rw [Lh];exact hu);rw [show i+1+j=i+(j+1) by omega];exact this
   have hlen:i+(v::l).length=i+1+l.length:=by rw [jK];omega
   rw [hlen];unfold Ab;unfold El at hp
   by_cases hk:v.cF=4
   ·rw [if_pos hk] at hp ⊢;obtain ⟨⟨x,hx,hsz⟩,hp⟩:=hp;have hs':=(hf.vo v (AT hv0)).2.2 hk;have hs2:1<=v.iV/\v.iV<=1024:=by unfold wA at hs';omega
    refine bC.eqn (yV hx rfl) (bC.need ⟨by omega,by omega,by rw [h.al];exact hil⟩ ?_);refine Dj hf ha l (i+1) w (k+1) _ _ hv' hp ?_;have h':=h.app x;refine ⟨h'.ff,h'.wl,by rw [DI];exact h'.al,h'.w,h'.r,fun q hq=>?_,fun j u hu hk' hj=>?_⟩
    ·rcases HN hq with hq | hq
     ·exact h'.lt q hq
     ·rw [hq,nL,uP];omega
    ·show ∃q a,(to.cK.set i (hs.length:Int))[j]? = some q/\_
     by_cases hij:j=i
     ·subst hij;rw [hv0] at hu;cases hu
      exact ⟨_,x,by rw [Li (by rw [h.al];exact hil)],by omega,by rw [AP,Hr (sU _),xdx];rfl,hsz⟩
     ·rw [My (by omega)];exact h'.ar j u hu hk' (by omega)
   ·rw [if_neg hk] at hp ⊢;obtain ⟨⟨x,hx⟩,hp⟩:=hp;refine bC.eqn (yV hx rfl) (bC.need (by rw [h.wl];exact hil) ?_);refine Dj hf ha l (i+1) (w+1) k _ _ hv' hp ?_;have h':=h.val (fun u hu=>by rw [hv0] at hu;cases hu;exact hk);refine ⟨h'.ff,by rw [DI];exact h'.wl,h'.al,fun y hy=>?_,h'.r,h'.lt,h'.ar⟩
    rcases HN hy with hy | hy
    ·exact h'.w y hy
    ·rw [hy];exact ha x (AT hx)
theorem GK {hs:List (List Int)} {fr:aK} (hF:CW fr hs):∀(l:List aZ) (i:Nat) (out:List (List Int)),(∀(j:Nat) v,l[j]? = some v->fr.f_.bB[i+j]? = some v)->bC (Kj hs l i fr.cK out) fun o=>o.length<=out.length+l.length/\((∀y ∈ out,y.length<=1024)->∀y ∈ o,y.length<=1024)
 | [],i,out,_=>.some ⟨sU _,fun h=>h⟩
 | v::l,i,out,hv=>by
   have hv':∀(j:Nat) u,l[j]? = some u->fr.f_.bB[i+1+j]? = some u:=fun j u hu=>by
    have:=hv (j+1) u (by rw [Lh];exact hu);rw [show i+1+j=i+(j+1) by omega];exact this
   unfold Kj;refine bC.ite (fun hk=>?_) fun _=>(GK hF l (i+1) out hv').mono fun o ho=>⟨by have:=ho.1;rw [jK];omega,ho.2⟩;obtain ⟨k,a,g1,g2,g3,g4⟩:=hF.ar i v (hv 0 v rfl) hk;refine bC.eqn (yV g1 rfl) (bC.need g2 ?_);refine bC.eqn (v:=a) (by unfold bY;rw [if_pos g2];exact g3) ?_;have hs':=(hF.vo v (AT (hv 0 v rfl))).2.2 hk;have hs2:v.iV<=1024:=by unfold wA at hs';omega
   refine (GK hF l (i+1) _ hv').mono fun o ho=>⟨by have:=ho.1;rw [nL,uP] at this;rw [jK];omega,fun h=>ho.2 fun y hy=>?_⟩
   rcases Ah.1 hy with hy | hy
   ·exact h y hy
   ·rw [AU.1 hy];omega
def Jq (n:Nat) (P:aR) (fn:Int) (a:T_interp_Args):Prop:=(fn<0 ∨ (P.bG.length:Int)<=fn) ∨ ∃f,bY P.bG fn=some f/\uG n f a=some false
theorem MF (hP:∀k f,bY P.bG k=some f->Ru P f) {fn:Int} {a:T_interp_Args} (ha:∀z ∈ a.tQ,qT z) {fuel:Int} (h1:fuel<=2000) (hn:20000<=n):bC (oK n P fn a fuel) fun x=>(x.2=0/\x.1.Cr.length<=9000000/\x.1.kD.length<=250/\∀y ∈ x.1.kD,y.length<=1024) ∨ (x.2=10/\Jq n P fn a) ∨ (x.2=11/\Jq n P fn a) ∨ (x.2=70/\¬ Jq n P fn a):=by
 unfold oK;refine bC.ite (fun h=>.some (.inr (.inr (.inl ⟨rfl,.inl h⟩)))) fun h=>?_
 obtain ⟨f,hf⟩:∃f,bY P.bG fn=some f:=by
  obtain ⟨f,e,_⟩:=bC.idx (l:=P.bG) (i:=fn) (Q:=fun _=>True) (by omega) (by omega) fun _ _=>trivial;exact ⟨f,e⟩
 have hT:=hP fn f hf;have hp1:=hT.p1;have hp0:=hT.p0;have hvl:=hT.vl;refine bC.eqn hf ?_;refine bC.bind (Km hT []) fun o ho=>?_;obtain ⟨b,eb,hb⟩:=Ol (a:=a) hT (show 300<=n by omega);refine bC.eqn eb ?_;refine bC.ite (fun h0=>.some (.inr (.inl ⟨rfl,.inr ⟨f,hf,h0 ▸ eb⟩⟩))) fun hb0=>?_;have hb':=hb (by simpa using hb0);have hpl:(f.bB.take f.bD.toNat).length=f.bD.toNat:=by rw [EF];omega
 refine bC.bind (Dj hT ha (f.bB.take f.bD.toNat) 0 0 0 o.1 o.2 (fun j v hv=>?_) hb' (by simpa using ho)) fun t ht=>?_
 ·rw [JD];rw [xdl] at hv
  split at hv
  ·exact hv
  ·cases hv
 have hFr:=ht.frok (by rw [hpl];omega) hT;obtain ⟨bl,bn,bsc,bn',bsc',hB⟩:=hT.body;refine bC.bind ((MS hP n).1 ⟨P,fuel,0,0,[]⟩ t.1 t.2 f.eH ⟨rfl,by simp only;omega,by simp only [lD];omega⟩ hFr (fun s hs=>by rw [ht.ff];exact hB.each s hs) hT.sz (by simp only;omega)) fun w hw=>?_;refine bC.ite (fun he=>.some ?_) fun _=>?_
 ·rcases hw.1.e with e | e
  ·exact absurd e he
  ·refine .inr (.inr (.inr ⟨e,fun hB=>?_⟩))
   rcases hB with hB | ⟨f',k1,k2⟩
   ·exact h hB
   ·rw [hf] at k1;cases k1
    rw [eb] at k2;cases k2
    exact hb0 rfl
 have hFw:=hw.2.ok hFr;refine bC.bind (P:=fun o=>o.Cr.length<=9000000/\o.kD.length<=250/\∀y ∈ o.kD,y.length<=1024) ?_ fun o ho=>.some (.inl ⟨rfl,ho⟩);unfold DL;have hwm:=hw.1.m;simp only [lD] at hwm;have hwf:w.2.1.f_=f:=hw.2.f.trans ht.ff;refine bC.need ⟨hFw.lt,by rw [hwf];exact hp0,by rw [hwf];exact hp1,by rw [hwf];omega⟩ ?_;refine bC.bind (GK hFw _ 0 [] fun j v hv=>?_) fun o ho=>.some ⟨by simp only;omega,by have:=ho.1;rw [EF,hwf] at this;simp only [lD] at this ⊢;omega,ho.2 fun y hy=>by cases hy⟩;rw [JD];rw [xdl] at hv
 split at hv
 ·exact hv
 ·cases hv
end
def sf (d:Int) (r:aE):aE:={ r with dP:=r.dP+d }
def sv (d:Int) (x:Int × aE):Int × aE:=(x.1,sf d x.2)
def Sm {α β:Type} (R:α->β->Prop) (x:Option α) (y:Option β):Prop:=∀a,x=some a->∃b,y=some b/\R a b
section
variable {α β γ δ:Type} {R:α->β->Prop} {S:γ->δ->Prop}
theorem Sm.some {a:α} {b:β} (h:R a b):Sm R (some a) (some b):=fun x hx=>⟨b,rfl,by cases hx;exact h⟩
theorem Sm.bind {x:Option α} {y:Option β} {f:α->Option γ} {g:β->Option δ} (h:Sm R x y) (k:∀a b,R a b->Sm S (f a) (g b)):Sm S (x.bind f) (y.bind g):=by
 intro c hc;obtain ⟨a,h1,h2⟩:=aA hc;obtain ⟨b,h3,h4⟩:=h a h1;rw [h3];exact k a b h4 c h2
theorem Sm.same {x:Option α} {f:α->Option γ} {g:α->Option δ} (k:∀a,Sm S (f a) (g a)):Sm S (x.bind f) (x.bind g):=Sm.bind (R:=Eq) (fun a h=>⟨a,h,rfl⟩) fun a b h=>by subst h;exact k a
theorem Sm.ite {c:Prop} [Decidable c] {x x':Option α} {y y':Option β} (h1:Sm R x y) (h2:Sm R x' y'):Sm R (if c then x else x') (if c then y else y'):=by
 split
 ·exact h1
 ·exact h2
theorem Sm.need {c:Prop} [Decidable c] {x:Option α} {y:Option β} (h:Sm R x y):Sm R (gV c x) (gV c y):=by
 intro a ha;obtain ⟨h1,h2⟩:=bS ha;rw [DO h1];exact h a h2
end
variable {d:Int}
theorem IH {r:aE} {a b c:Int}:Sm (fun x y=>y=sf d x) (dF r a b c) (dF (sf d r) a b c):=by
 unfold dF;exact Sm.need (.some rfl)
theorem LI {n:Nat} {r:aE} {e:aG} {vs:List Int}:Sm (fun x y=>y=sv d x) (eT n r e vs) (eT n (sf d r) e vs):=by
 unfold eT;refine Sm.same fun y2=>Sm.ite (Sm.same fun x=>Sm.ite (Sm.same fun _=>Sm.same fun _=>.some rfl) (Sm.same fun _=>Sm.ite ?_ ?_)) (Sm.ite (Sm.same fun _=>Sm.same fun _=>.some rfl) (Sm.same fun _=>Sm.ite ?_ ?_))
 ·refine Sm.same fun _=>Sm.bind IH fun s t h=>?_;subst h;exact Sm.same fun _=>Sm.same fun _=>Sm.same fun _=>Sm.ite (.some rfl) (.some rfl)
 ·exact Sm.same fun _=>Sm.same fun _=>Sm.same fun _=>Sm.ite (.some rfl) (.some rfl)
 ·refine Sm.same fun _=>Sm.bind IH fun s t h=>?_;subst h;exact Sm.same fun _=>Sm.same fun _=>Sm.same fun _=>Sm.ite (.some rfl) (.some rfl)
 ·exact Sm.same fun _=>Sm.same fun _=>Sm.same fun _=>Sm.ite (.some rfl) (.some rfl)
abbrev VlF:=aE->aK->List (List Int)->aG->Option (Int × aE)
theorem Nf {rc:VlF} (hr:∀r fr hs e,Sm (fun x y=>y=sv d x) (rc r fr hs e) (rc (sf d r) fr hs e)) {e:aG} {fr:aK} {hs:List (List Int)}:∀(c:Nat) (vs:List Int) (j:Int) r,
  Sm (fun x y=>y=match x with | .inl z=>.inl (z.1,sf d z.2) | .inr z=>.inr (sv d z)) (dU rc e fr hs c vs j r) (dU rc e fr hs c vs j (sf d r))
 | 0,vs,j,r=>fun a h=>by cases h
 | c+1,vs,j,r=>by
   unfold dU;refine Sm.ite (Sm.same fun x=>Sm.bind (hr _ _ _ _) fun a b h=>?_) (.some rfl);subst h;exact Sm.same (x:=bE a.2) fun b=>Sm.ite (.some rfl) (Sm.need (Nf hr c _ _ a.2))
theorem Ln:∀n:Nat,(∀r fr hs e,Sm (fun x y=>y=sv d x) (bP n r fr hs e) (bP n (sf d r) fr hs e))/\(∀r fr hs e v,Sm (fun x y=>y=sv d x) (eZ n r fr hs e v) (eZ n (sf d r) fr hs e v))
 | 0=>⟨fun _ _ _ _ _ h=>(by cases h),fun _ _ _ _ _ _ h=>(by cases h)⟩
 | n+1=>by
   obtain ⟨h1,h2⟩:=Ln n;rw [Fm,FA];refine ⟨fun r fr hs e=>?_,fun r fr hs e v=>?_⟩
   ·unfold eC;refine Sm.ite (.some rfl) (Sm.ite (Sm.same fun _=>.some rfl) (Sm.ite (Sm.same fun _=>Sm.bind (h2 _ _ _ _ _) fun a b h=>?_) (Sm.bind (Nf h1 n _ _ _) fun a b h=>?_)))
    ·subst h;exact Sm.same (x:=bE a.2) fun _=>Sm.ite (.some rfl) (Sm.same fun _=>Sm.same fun _=>Sm.same fun _=>.some rfl)
    ·subst h;cases a with
     | inl z=>
       refine Sm.same fun _=>Sm.ite (.some rfl) (Sm.bind LI fun a b h=>?_);subst h;exact .some rfl
     | inr z=>exact .some rfl
   ·unfold hM;refine Sm.bind (h1 _ _ _ _) fun a b h=>?_;subst h;refine Sm.same (x:=bE a.2) fun _=>Sm.ite (.some rfl) (Sm.same fun _=>Sm.same fun _=>Sm.bind IH fun s t h=>?_);subst h;exact Sm.ite (.some rfl) (.some rfl)
end Go.Proofs.YtncembphlfbgoaaGreatDoor.Abs
namespace Go.Proofs.YtncembphlfbgoaaGreatDoor.Abs
open IntKind (i64 u32 u64 u8)
open Go.RowKit
set_option linter.unusedVariables false
def Pm {α:Type} (Q:α->Prop) (x:Option α):Prop:=∀a,x=some a->Q a
section
variable {α β:Type} {Q:α->Prop} {T:β->Prop}
theorem Pm.some {a:α} (h:Q a):Pm Q (some a):=fun x hx=>by cases hx;exact h
theorem Pm.bind {x:Option β} {f:β->Option α} (h:Pm T x) (k:∀a,T a->Pm Q (f a)):Pm Q (x.bind f):=by
 intro c hc;obtain ⟨a,h1,h2⟩:=aA hc;exact k a (h a h1) c h2
theorem Pm.any {x:Option β} {f:β->Option α} (k:∀a,Pm Q (f a)):Pm Q (x.bind f):=Pm.bind (T:=fun _=>True) (fun _ _=>trivial) fun a _=>k a
theorem Pm.ite {c:Prop} [Decidable c] {x y:Option α} (h1:Pm Q x) (h2:Pm Q y):Pm Q (if c then x else y):=by
 split
 ·exact h1
 ·exact h2
theorem Pm.need {c:Prop} [Decidable c] {x:Option α} (h:Pm Q x):Pm Q (gV c x):=fun a ha=>h a (bS ha).2
end
def KF (r s:aE):Prop:=s.e_=r.e_/\s.dP=r.dP/\s.p_=r.p_
theorem KF.refl {r:aE}:KF r r:=⟨rfl,rfl,rfl⟩
theorem KF.trans {r s t:aE} (h:KF r s) (k:KF s t):KF r t:=⟨k.1.trans h.1,k.2.1.trans h.2.1,k.2.2.trans h.2.2⟩
theorem II {r:aE} {a b c:Int}:Pm (KF r) (dF r a b c):=by
 unfold dF;exact Pm.need (.some ⟨rfl,rfl,rfl⟩)
theorem LJ {n:Nat} {r:aE} {e:aG} {vs:List Int}:Pm (fun x=>KF r x.2) (eT n r e vs):=by
 unfold eT;refine Pm.any fun y2=>Pm.ite (Pm.any fun x=>Pm.ite (Pm.any fun _=>Pm.any fun _=>.some KF.refl) (Pm.any fun _=>Pm.ite ?_ ?_)) (Pm.ite (Pm.any fun _=>Pm.any fun _=>.some KF.refl) (Pm.any fun _=>Pm.ite ?_ ?_))
 ·exact Pm.any fun _=>Pm.bind II fun s h=>Pm.any fun _=>Pm.any fun _=>Pm.any fun _=>Pm.ite (.some h) (.some h)
 ·exact Pm.any fun _=>Pm.any fun _=>Pm.any fun _=>Pm.ite (.some KF.refl) (.some KF.refl)
 ·exact Pm.any fun _=>Pm.bind II fun s h=>Pm.any fun _=>Pm.any fun _=>Pm.any fun _=>Pm.ite (.some h) (.some h)
 ·exact Pm.any fun _=>Pm.any fun _=>Pm.any fun _=>Pm.ite (.some KF.refl) (.some KF.refl)
theorem Ng {rc:VlF} (hr:∀r fr hs e,Pm (fun x=>KF r x.2) (rc r fr hs e)) {e:aG} {fr:aK} {hs:List (List Int)}:∀(c:Nat) (vs:List Int) (j:Int) r,
  Pm (fun x=>match x with | .inl z=>KF r z.2 | .inr z=>KF r z.2) (dU rc e fr hs c vs j r)
 | 0,vs,j,r=>fun a h=>by cases h
 | c+1,vs,j,r=>by
   unfold dU;refine Pm.ite (Pm.any fun x=>Pm.bind (hr _ _ _ _) fun a h=>?_) (.some KF.refl);refine Pm.any fun b=>Pm.ite (.some h) (Pm.need fun z hz=>?_);have:=Ng hr c _ _ a.2 z hz;cases z with
   | inl z=>exact h.trans this
   | inr z=>exact h.trans this
theorem Lo:∀n:Nat,(∀r fr hs e,Pm (fun x=>KF r x.2) (bP n r fr hs e))/\(∀r fr hs e v,Pm (fun x=>KF r x.2) (eZ n r fr hs e v))
 | 0=>⟨fun _ _ _ _ _ h=>(by cases h),fun _ _ _ _ _ _ h=>(by cases h)⟩
 | n+1=>by
   obtain ⟨h1,h2⟩:=Lo n;rw [Fm,FA];refine ⟨fun r fr hs e=>?_,fun r fr hs e v=>?_⟩
   ·unfold eC;refine Pm.ite (.some KF.refl) (Pm.ite (Pm.any fun _=>.some KF.refl) (Pm.ite (Pm.any fun _=>Pm.bind (h2 _ _ _ _ _) fun a h=>?_) (Pm.bind (Ng h1 n _ _ _) fun a h=>?_)))
    ·exact Pm.any fun _=>Pm.ite (.some h) (Pm.any fun _=>Pm.any fun _=>Pm.any fun _=>.some h)
    ·cases a with
     | inl z=>exact Pm.any fun _=>Pm.ite (.some h) (Pm.bind LJ fun a h'=>.some (h.trans h'))
     | inr z=>exact .some h
   ·unfold hM;refine Pm.bind (h1 _ _ _ _) fun a h=>?_;refine Pm.any fun _=>Pm.ite (.some h) (Pm.any fun _=>Pm.any fun _=>Pm.bind II fun s h'=>?_);exact Pm.ite (.some (h.trans h')) (.some (h.trans h'))
abbrev G3:=aE × aK × List (List Int)
def r3 (a:G3):aE:=a.1
def s3 (d:Int) (a:G3):G3:=(sf d a.1,a.2)
def rS (a:G3 ⊕ G3):aE:=a.elim r3 r3
def sS (d:Int) (a:G3 ⊕ G3):G3 ⊕ G3:=a.elim (fun a=>.inl (s3 d a)) (fun a=>.inr (s3 d a))
def mJ {α:Type} (d:Int) (ρ:α->aE) (τ:α->α) (r:aE) (x y:Option α):Prop:=∀a,x=some a->(ρ a).e_=0->r.e_=0/\(ρ a).dP<=r.dP/\(r.dP+d<=1000000->y=some (τ a))
abbrev Fu (d:Int) (r:aE) (x y:Option G3):Prop:=mJ d r3 (s3 d) r x y
abbrev FuS (d:Int) (r:aE) (x y:Option (G3 ⊕ G3)):Prop:=mJ d rS (sS d) r x y
section
variable {α β:Type} {d:Int} {r:aE} {ρ:α->aE} {τ:α->α} {ρ':β->aE} {τ':β->β} {x y x' y':Option α}
theorem mJ.some {a:α}:mJ d ρ τ (ρ a) (some a) (some (τ a)):=fun b ha he=>by
 cases ha;exact ⟨he,Pg _,fun _=>rfl⟩
theorem Ld {r:aE} {z:aK × List (List Int)}:Fu d r (some (r,z)) (some (sf d r,z)):=mJ.some (ρ:=r3) (τ:=s3 d) (a:=(r,z))
theorem mJ.ite {c:Prop} [Decidable c] (h1:mJ d ρ τ r x y) (h2:mJ d ρ τ r x' y'):mJ d ρ τ r (if c then x else x') (if c then y else y'):=by
 split
 ·exact h1
 ·exact h2
theorem mJ.need {c:Prop} [Decidable c] (h:mJ d ρ τ r x y):mJ d ρ τ r (gV c x) (gV c y):=fun a ha he=>by
 obtain ⟨h1,h2⟩:=bS ha;obtain ⟨h3,h4,h5⟩:=h a h2 he;exact ⟨h3,h4,fun h6=>by rw [DO h1];exact h5 h6⟩
theorem mJ.same {γ:Type} {o:Option γ} {f g:γ->Option α} (k:∀a,mJ d ρ τ r (f a) (g a)):mJ d ρ τ r (o.bind f) (o.bind g):=fun a ha he=>by
 obtain ⟨b,h1,h2⟩:=aA ha;rw [h1];exact k b a h2 he
theorem mJ.kf {s:aE} (h:KF r s) (k:mJ d ρ τ s x y):mJ d ρ τ r x y:=fun a ha he=>by
 obtain ⟨h1,h2,h3⟩:=k a ha he;exact ⟨by rw [←h.1];exact h1,by rw [←h.2.1];exact h2,fun h4=>h3 (by rw [h.2.1];exact h4)⟩
theorem mJ.val {γ:Type} {o o':Option γ} {σ:γ->aE} {υ:γ->γ} {f g:γ->Option α} (hS:Sm (fun a b=>b=υ a) o o') (hK:Pm (fun a=>KF r (σ a)) o) (k:∀a,mJ d ρ τ (σ a) (f a) (g (υ a))):mJ d ρ τ r (o.bind f) (o'.bind g):=fun a ha he=>by
 obtain ⟨b,h1,h2⟩:=aA ha;obtain ⟨b',h3,h4⟩:=hS b h1;subst h4;rw [h3];exact mJ.kf (hK b h1) (k b) a h2 he
theorem mJ.bind {f g:α->Option β} (h:mJ d ρ τ r x y) (k:∀a,mJ d ρ' τ' (ρ a) (f a) (g (τ a))):mJ d ρ' τ' r (x.bind f) (y.bind g):=fun a ha he=>by
 obtain ⟨b,h1,h2⟩:=aA ha;obtain ⟨h3,h4,h5⟩:=k b a h2 he;obtain ⟨h6,h7,h8⟩:=h b h1 h3;refine ⟨h6,Int.le_trans h4 h7,fun h9=>?_⟩;rw [h8 h9];exact h5 (by omega)
theorem mJ.burn (h0:0<=d) {f g:aE->Option α} (k:∀b,mJ d ρ τ b (f b) (g (sf d b))):mJ d ρ τ r ((fJ r).bind f) ((fJ (sf d r)).bind g):=fun a ha he=>by
 obtain ⟨b,h2,h3⟩:=aA ha;obtain ⟨h4,h5,h6⟩:=k b a h3 he;unfold fJ at h2
 by_cases hf:r.dP<=0
 ·rw [if_pos (Fh hf)] at h2;cases h2;cases h4
 ·rw [if_neg (by simpa using hf)] at h2;cases h2;have hw:i64.wrap (r.dP - 1)<=r.dP:=by rw [IntKind.wrap_i64];omega
  refine ⟨h4,Int.le_trans h5 hw,fun h9=>?_⟩;have hw2:i64.wrap (r.dP - 1)=r.dP - 1:=fR (by omega) (by omega)
  have hb:fJ (sf d r)=Option.some (sf d { r with dP:=i64.wrap (r.dP - 1) }):=by
   unfold fJ
   have hng:¬ decide ((sf d r).dP<=0)=true:=by
    rw [FV];show ¬ r.dP+d<=0;omega
   rw [if_neg hng];simp only [sf,hw2];rw [fR (by omega) (by omega)]
   congr 2
   omega
  rw [hb];exact h6 (by show i64.wrap (r.dP - 1)+d<=1000000;omega)
def No (d:Int) (st:StF):Prop:=∀r fr hs s,Fu d r (st r fr hs s) (st (sf d r) fr hs s)
def OY (d:Int) (st:RF):Prop:=∀r fr hs s,Fu d r (st r fr hs s) (st (sf d r) fr hs s)
theorem yA {n:Nat} {fr:aK} {hs:List (List Int)} {e:aG} {f g:Int × aE->Option α} (k:∀a:Int × aE,mJ d ρ τ a.2 (f a) (g (sv d a))):mJ d ρ τ r ((bP n r fr hs e).bind f) ((bP n (sf d r) fr hs e).bind g):=
 mJ.val (σ:=(·.2)) ((Ln n).1 r fr hs e) ((Lo n).1 r fr hs e) k
theorem QK {n:Nat} {fr:aK} {hs:List (List Int)} {e:aG} {v:Int} {f g:Int × aE->Option α} (k:∀a:Int × aE,mJ d ρ τ a.2 (f a) (g (sv d a))):mJ d ρ τ r ((eZ n r fr hs e v).bind f) ((eZ n (sf d r) fr hs e v).bind g):=
 mJ.val (σ:=(·.2)) ((Ln n).2 r fr hs e v) ((Lo n).2 r fr hs e v) k
theorem Lz {a b c:Int} {f g:aE->Option α} (k:∀a:aE,mJ d ρ τ a (f a) (g (sf d a))):mJ d ρ τ r ((dF r a b c).bind f) ((dF (sf d r) a b c).bind g):=
 mJ.val (σ:=id) IH II k
theorem PN {n:Nat}:No d (iS n):=fun r fr hs s=>by
 unfold iS;refine mJ.same fun x=>QK fun a=>mJ.same (o:=bE a.2) fun b=>mJ.ite Ld (mJ.same fun y=>yA fun c=>mJ.same (o:=bE c.2) fun b=>mJ.ite (mJ.same fun _=>mJ.same fun _=>mJ.same fun _=>Ld) Ld)
theorem FU (h0:0<=d) {st:StF} (hst:No d st) {ss:List aH}:∀(c:Nat) (j:Int) r fr hs,FuS d r (eM st ss c j r fr hs) (eM st ss c j (sf d r) fr hs)
 | 0,j,r,fr,hs=>fun a h=>by cases h
 | c+1,j,r,fr,hs=>by
   unfold eM;refine mJ.ite (mJ.bind (ρ:=rS) (τ:=sS d) (mJ.same fun s=>mJ.same (o:=bE r) fun b=>mJ.ite (mJ.some (ρ:=rS) (τ:=sS d) (a:=.inr (r,fr,hs))) (mJ.burn h0 fun b=>mJ.same (o:=bE b) fun e=>mJ.ite (mJ.bind (hst b fr hs s) fun a=>mJ.some (ρ:=rS) (τ:=sS d) (a:=.inl a)) (mJ.some (ρ:=rS) (τ:=sS d) (a:=.inl (b,fr,hs))))) fun a=>?_) (mJ.some (ρ:=rS) (τ:=sS d) (a:=.inl (r,fr,hs)));cases a with
   | inl a=>exact FU h0 hst c _ a.1 a.2.1 a.2.2
   | inr a=>exact mJ.some (ρ:=rS) (τ:=sS d) (a:=.inr a)
theorem Ro (h0:0<=d) {st:StF} (hst:No d st) {n:Nat}:OY d (eD st n):=fun r fr hs ss=>by
 unfold eD;refine mJ.bind (FU h0 hst n 0 r fr hs) fun a=>?_;cases a with
 | inl a=>exact mJ.some (ρ:=r3) (τ:=s3 d) (a:=a)
 | inr a=>exact mJ.some (ρ:=r3) (τ:=s3 d) (a:=a)
end
section
variable {d:Int}
theorem Ew {r:aE} {x y:Option G3} (h:Fu d r x y):Fu d r (x.bind fun a=>some (a.1,a.2.1,a.2.2)) (y.bind fun a=>some (a.1,a.2.1,a.2.2)):=mJ.bind h fun a=>mJ.some (ρ:=r3) (τ:=s3 d) (a:=a)
theorem OG {blk:RF} (hb:OY d blk) {n:Nat}:No d (dW blk n):=fun r fr hs s=>by
 unfold dW;refine mJ.same fun x=>yA fun a=>mJ.same (o:=bE a.2) fun e=>mJ.ite Ld (mJ.ite (Lz fun b=>Ew (hb b fr hs s.eH)) (Lz fun b=>Ew (hb b fr hs s.rZ)))
theorem ES (h0:0<=d) {blk:RF} (hb:OY d blk) {q:Int × aE} {s:aH}:∀(c:Nat) (v:Int) r fr hs,Fu d r (eY blk q s c v r fr hs) (eY blk (sv d q) s c v (sf d r) fr hs)
 | 0,v,r,fr,hs=>fun a h=>by cases h
 | c+1,v,r,fr,hs=>by
   unfold eY;refine mJ.same (o:=(if (decide (v<(u32.wrap q.1)))=true then (bE r).bind fun x40=>some (!x40) else some false)) fun e=>mJ.ite (mJ.burn h0 fun b=>mJ.same fun t=>mJ.bind (hb b t.1 t.2 s.eH) fun a=>ES h0 hb c _ a.1 a.2.1 a.2.2) Ld
theorem NV (h0:0<=d) {blk:RF} (hb:OY d blk) {n:Nat}:No d (dV blk n):=fun r fr hs s=>by
 unfold dV;refine mJ.same fun x=>yA fun a=>mJ.same (o:=bE a.2) fun e=>mJ.ite Ld (mJ.same fun y=>yA fun c=>mJ.same (o:=bE c.2) fun e=>mJ.ite Ld (Lz fun b=>Ew (ES h0 hb n _ b fr hs)))
def rC (a:aE ⊕ (aE × aK)):aE:=a.elim id (·.1)
def sC (d:Int) (a:aE ⊕ (aE × aK)):aE ⊕ (aE × aK):=a.elim (fun r=>.inl (sf d r)) (fun x=>.inr (sf d x.1,x.2))
theorem DE {n:Nat} {fr:aK} {hs h2:List (List Int)}:∀(l:List aG) (i:Nat) r to,mJ d rC (sC d) r (qQ n fr hs h2 l i r to) (qQ n fr hs h2 l i (sf d r) to)
 | [],i,r,to=>mJ.some (ρ:=rC) (τ:=sC d) (a:=.inr (r,to))
 | x::l,i,r,to=>by
   unfold qQ;refine mJ.ite (mJ.same fun k=>mJ.need (DE l (i+1) r _)) (yA fun a=>mJ.same (o:=bE a.2) fun e=>mJ.ite (mJ.some (ρ:=rC) (τ:=sC d) (a:=.inl a.2)) (mJ.same fun t=>DE l (i+1) a.2 t.1))
theorem call_fu {blk:RF} (hb:OY d blk) {n:Nat}:No d (dS blk n):=fun r fr hs s=>by
 unfold dS;refine mJ.need (mJ.same (o:=bY r.p_.bG s.pE) fun f=>mJ.same fun o=>mJ.bind (DE s.aP 0 r o.1) fun c=>?_);cases c with
 | inl r'=>exact Ld
 | inr c=>exact mJ.bind (hb c.1 c.2 (hs++o.2) c.2.f_.eH) fun b=>mJ.same (o:=bE b.1) fun e=>mJ.ite Ld (mJ.ite Ld (mJ.same fun p=>Ld))
theorem stmt_fu {fc fi fo:StF} (hc:No d fc) (hi:No d fi) (ho:No d fo) {n:Nat}:No d (dO fc fi fo n):=fun r fr hs s=>by
 unfold dO
 have hv:∀(v:Int) (x:aG),Fu d r ((bP n r fr hs x).bind fun x4=>(bE x4.2).bind fun x11=>if (!x11)=true then (dN fr hs v x4.1).bind fun x14=>some (x4.2,x14.1,x14.2) else some (x4.2,fr,hs)) ((bP n (sf d r) fr hs x).bind fun x4=>(bE x4.2).bind fun x11=>if (!x11)=true then (dN fr hs v x4.1).bind fun x14=>some (x4.2,x14.1,x14.2) else some (x4.2,fr,hs)):=fun v x=>
  yA fun a=>mJ.same (o:=bE a.2) fun e=>mJ.ite (mJ.same fun p=>Ld) Ld
 refine mJ.ite (mJ.same fun x=>hv _ x) (mJ.ite (mJ.same fun x=>hv _ x) (mJ.ite (mJ.same fun x=>hv _ x) (mJ.ite (mJ.same fun k=>mJ.same fun a=>mJ.need Ld) (mJ.ite (Ew (PN r fr hs s)) (mJ.ite (Ew (hc r fr hs s)) (mJ.ite (Ew (hi r fr hs s)) (mJ.ite (Ew (ho r fr hs s)) (mJ.ite (mJ.same fun x=>yA fun a=>Ld) Ld))))))))
theorem QL (h0:0<=d):∀n,OY d (cW n)/\No d (eX n)/\No d (gR n)/\No d (gB n)/\No d (gA n)
 | 0=>⟨fun _ _ _ _ _ h=>(by cases h),fun _ _ _ _ _ h=>(by cases h),fun _ _ _ _ _ h=>(by cases h),fun _ _ _ _ _ h=>(by cases h),fun _ _ _ _ _ h=>(by cases h)⟩
 | n+1=>by
   obtain ⟨i1,i2,i3,i4,i5⟩:=QL h0 n
   have e:bO (n+1)=(eD (eX n) n,dO (gR n) (gB n) (gA n) n,dS (cW n) n,dW (cW n) n,dV (cW n) n):=by
    rw [bO];rfl
   have e1:cW (n+1)=eD (eX n) n:=by show (bO (n+1)).1=_;rw [e]
   have e2:eX (n+1)=dO (gR n) (gB n) (gA n) n:=by show (bO (n+1)).2.1=_;rw [e]
   have e3:gR (n+1)=dS (cW n) n:=by show (bO (n+1)).2.2.1=_;rw [e]
   have e4:gB (n+1)=dW (cW n) n:=by show (bO (n+1)).2.2.2.1=_;rw [e]
   have e5:gA (n+1)=dV (cW n) n:=by show (bO (n+1)).2.2.2.2=_;rw [e]
   rw [e1,e2,e3,e4,e5];exact ⟨Ro h0 i2,stmt_fu i3 i4 i5,call_fu i1,OG i1,NV h0 i1⟩
end
theorem run_fu {n:Nat} {p:aR} {fn:Int} {a:T_interp_Args} {fuel d:Int} (h0:0<=d) (hf:fuel+d<=1000000) {x:eF} (h:oK n p fn a fuel=some (x,0)):oK n p fn a (fuel+d)=some (x,0):=by
 unfold oK at h ⊢
 by_cases c1:fn<0 ∨ (p.bG.length:Int)<=fn
 ·rw [if_pos c1] at h;cases h
 rw [if_neg c1] at h ⊢;obtain ⟨f,e1,h⟩:=aA h;obtain ⟨o,e2,h⟩:=aA h;obtain ⟨ft,e3,h⟩:=aA h;rw [e1,pI,e2,pI,e3,pI]
 by_cases c2:ft=false
 ·rw [if_pos c2] at h;cases h
 rw [if_neg c2] at h ⊢;obtain ⟨t,e4,h⟩:=aA h;obtain ⟨b,e5,h⟩:=aA h;rw [e4,pI]
 by_cases c3:b.1.e_ ≠ 0
 ·rw [if_pos c3] at h;simp only [Option.some.injEq,Prod.mk.injEq] at h;exact absurd h.2 c3
 rw [if_neg c3] at h;have c4:b.1.e_=0:=by simpa using c3
 obtain ⟨_,_,g⟩:=(QL h0 n).1 ⟨p,fuel,0,0,[]⟩ t.1 t.2 f.eH b e5 c4;have g:=g hf;rw [show (⟨p,fuel+d,0,0,[]⟩:aE)=sf d ⟨p,fuel,0,0,[]⟩ from rfl,g,pI];have c5:¬ (s3 d b).1.e_ ≠ 0:=fun hc=>hc c4;rw [if_neg c5];exact h
theorem LB {x:List Int}:∀(c j:Nat),j<=x.length->x.length<j+c->x.length<=1073741824->iX x x c (j:Int)=some (.inl ()):=by
 intro c
 induction c with
 | zero=>intro j h1 h2;omega
 | succ c ih=>
   intro j h1 h2 h3;unfold iX
   by_cases hj:j<x.length
   ·rw [if_pos (Fh (by omega)),yV (tH hj) rfl,pI,pI,if_neg (by simp),fR (by omega) (by omega)];exact ih (j+1) (by omega) (by omega) h3
   ·rw [if_neg (by simp;omega)]
theorem Mo {x:List bA} {n:Nat} (h:x.length<=1073741824) (hn:x.length<n):mV n x x=some true:=by
 have hl:∀(c j:Nat),j<=x.length->x.length<j+c->iP x x c (j:Int)=some (.inl ()):=by
  intro c
  induction c with
  | zero=>intro j h1 h2;omega
  | succ c ih=>
    intro j h1 h2;unfold iP
    by_cases hj:j<x.length
    ·rw [if_pos (Fh (by omega)),yV (tH hj) rfl,pI,pI,if_neg (by simp),fR (by omega) (by omega)];exact ih (j+1) (by omega) (by omega)
    ·rw [if_neg (by simp;omega)]
 unfold mV;rw [if_neg (by simp),show (0:Int)=((0:Nat):Int) from rfl,hl n 0 (by omega) (by omega)];rfl
theorem NU {x:List (List Int)} {n:Nat} (h:x.length<=1073741824) (hn:x.length<n) (hx:∀y ∈ x,y.length<=1073741824/\y.length<n):nX n x x=some true:=by
 have hl:∀(c j:Nat),j<=x.length->x.length<j+c->iY n x x c (j:Int)=some (.inl ()):=by
  intro c
  induction c with
  | zero=>intro j h1 h2;omega
  | succ c ih=>
    intro j h1 h2;unfold iY
    by_cases hj:j<x.length
    ·obtain ⟨g1,g2⟩:=hx x[j] (xdv _);rw [if_pos (Fh (by omega)),yV (tH hj) rfl,pI,pI,if_neg (by simp),show (0:Int)=((0:Nat):Int) from rfl,LB n 0 (by omega) (by omega) g1];simp only [pI,FW];rw [fR (by omega) (by omega)];exact ih (j+1) (by omega) (by omega)
    ·rw [if_neg (by simp;omega)]
 unfold nX;rw [if_neg (by simp),show (0:Int)=((0:Nat):Int) from rfl,hl n 0 (by omega) (by omega)];rfl
theorem PO.tfn {c:aD} {rk:Int->Nat} (hp:PO c rk):∀k f,bY c.p_.bG k=some f->Ru c.p_ f:=by
 intro k f h;obtain ⟨h0,h1⟩:=wC h;have hm:f ∈ c.p_.bG:=AT h1;obtain ⟨sc',hb⟩:=(hp.tf _ f h1).body;have hv:=hp.co.vl f hm;exact ⟨⟨_,_,_,_,_,TB.mono (fun k r ps hg=>hg.2) (Pd _) hb⟩,hv.2.1,hv.2.2,hv.1,(hp.co.ki f hm).1,hp.sz f hm⟩
theorem anchorM:oR 10000000=some true:=by kernel_rfl
theorem fuel_ok (a0:cR) (a1:Int) (a2:T_interp_Args) (a3 a4:Int) (ha:∀z ∈ a2.tQ,qT z):gY 10000000 a0 a1 a2 a3 a4=some true:=by
 have hT:bC (gY 10000000 a0 a1 a2 a3 a4) fun b=>b=true:=by
  unfold gY;refine bC.eqn anchorM ?_;refine bC.iteb (fun h=>by cases h) fun _=>?_;refine bC.bind (P:=fun b=>b=false->a0.length<=3000/\a3<=2000/\a3<=a4/\a4<=2000) ?_ fun b hb=>?_
  ·unfold pG;refine bC.bind (P:=fun b=>b=false->a0.length<=3000/\a3<=2000) ?_ fun b hb=>?_
   ·refine bC.bind (P:=fun b=>b=false->a0.length<=3000/\a3<=2000) ?_ fun b hb=>.some hb;refine bC.iteb (fun _=>.some fun h=>by cases h) fun g1=>?_;refine bC.iteb (fun _=>.some fun h=>by cases h) fun _=>?_;refine bC.iteb (fun _=>.some fun h=>by cases h) fun _=>?_;have g1:=Mw g1;exact .some fun h=>by have:=Mw h;omega
   ·refine bC.iteb (fun _=>.some fun h=>by cases h) fun g0=>?_;obtain ⟨g1,g2⟩:=hb g0;refine bC.iteb (fun _=>.some fun h=>by cases h) fun g3=>?_;have g3:=Mw g3;exact .some fun h=>by have:=Mw h;omega
  refine bC.iteb (fun _=>.some rfl) fun hb'=>?_;obtain ⟨g1,g2,g3,g4⟩:=hb hb';refine bC.bind (Pb g1 (by omega)) fun r hr=>?_;refine bC.iteb (fun _=>.some rfl) fun he=>?_;obtain ⟨c,rk,hc,hp⟩:=hr (by simpa using he);have hP:∀k f,bY r.1.bG k=some f->Ru r.1 f:=by rw [←hc];exact hp.tfn
  obtain ⟨x,ex,hx⟩:=MF (n:=10000000) hP (fn:=a1) (a:=a2) ha (fuel:=a3) g2 (by omega);obtain ⟨y,ey,hy⟩:=MF (n:=10000000) hP (fn:=a1) (a:=a2) ha (fuel:=a4) g4 (by omega);refine bC.eqn ex (bC.eqn ey ?_)
  by_cases h0:x.2=0
  ·have ex':oK 10000000 r.1 a1 a2 a3=some (x.1,0):=by rw [ex,←h0]
   have hd:=run_fu (d:=a4 - a3) (by omega) (by omega) ex';rw [show a3+(a4 - a3)=a4 by omega,ey] at hd;obtain rfl:y=(x.1,0):=by simpa using hd
   have hb:x.1.Cr.length<=9000000/\x.1.kD.length<=250/\∀y ∈ x.1.kD,y.length<=1024:=by
    rcases hx with h | h | h | h
    ·exact h.2
    ·exact absurd (h.1.symm.trans h0) (by decide)
    ·exact absurd (h.1.symm.trans h0) (by decide)
    ·exact absurd (h.1.symm.trans h0) (by decide)
   refine bC.iteb (fun h=>by rw [h0] at h;cases h) fun _=>?_;refine bC.bind (P:=fun b=>b=true) ?_ fun b hb=>.some hb;refine bC.iteb (fun _=>?_) fun h=>by cases h
   refine bC.iteb (fun _=>?_) fun h=>by simp at h
   refine bC.iteb (fun _=>?_) fun h=>by simp at h
   refine bC.eqn (NU (by omega) (by omega) (fun y hy=>by have:=hb.2.2 y hy;omega)) ?_;refine bC.iteb (fun _=>?_) fun h=>by cases h
   exact bC.eqn (Mo (by omega) (by omega)) (.some rfl)
  ·refine bC.iteb (fun _=>?_) fun h=>absurd (by simpa using h) h0;refine bC.bind (P:=fun b=>b=true) ?_ fun b hb=>.some hb;refine bC.iteb (fun _=>.some rfl) fun h=>?_;have h70:x.2=70:=by simpa using h
   refine bC.iteb (fun _=>.some rfl) fun hy0=>.some ?_;have hy0:y.2 ≠ 0:=by simpa using hy0
   have hnb:¬ Jq 10000000 r.1 a1 a2:=by
    rcases hx with h | h | h | h
    ·exact absurd h.1 h0
    ·exact absurd (h.1.symm.trans h70) (by decide)
    ·exact absurd (h.1.symm.trans h70) (by decide)
    ·exact h.2
   rcases hy with h | h | h | h
   ·exact absurd h.1 hy0
   ·exact absurd h.2 hnb
   ·exact absurd h.2 hnb
   ·simp [h.1]
 obtain ⟨b,e,rfl⟩:=hT;exact e
theorem HD:∃n,∀(a0:cR) (a1:Int) (a2:T_interp_Args) (a3 a4:Int),(∀z ∈ a2.tQ,(Lit.int .u64 z).wf=true)->gY n a0 a1 a2 a3 a4=some true:=
 ⟨_,fun a0 a1 a2 a3 a4 h=>fuel_ok a0 a1 a2 a3 a4 fun z hz=>by have:=bounds_u64 (h z hz);unfold qT;omega⟩
end Go.Proofs.YtncembphlfbgoaaGreatDoor.Abs
