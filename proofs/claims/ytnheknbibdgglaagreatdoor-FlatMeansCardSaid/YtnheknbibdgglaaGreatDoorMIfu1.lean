import Derived.Test.YtnheknbibdgglaaGreatDoorMRwg
namespace Go.Proofs.YtnheknbibdgglaaGreatDoor.Abs
open IntKind (i64 u32 u64 u8)
open Go.RowKit
set_option linter.all false
def sP (z:Int):Prop:=0<=z/\z<18446744073709551616
theorem sP.wrap (z:Int):sP (u64.wrap z):=by
 simp only [sP,IntKind.wrap,IntKind.bits,IntKind.signed,Bool.false_and,Bt,if_false];omega
theorem ET (z:Int):0<=u32.wrap z/\u32.wrap z<4294967296:=by
 simp only [IntKind.wrap,IntKind.bits,IntKind.signed,Bool.false_and,Bt,if_false];omega
theorem w32_id {z:Int} (h:0<=z) (h':z<4294967296):u32.wrap z=z:=by
 simp only [IntKind.wrap,IntKind.bits,IntKind.signed,Bool.false_and,Bt,if_false];omega
theorem sP.w32 (z:Int):sP (u32.wrap z):=⟨(ET z).1,by have:=(ET z).2;omega⟩
theorem sP.shr {a:Int} (h:sP a) (b:Int):sP (Nh .u64 a b):=by
 show sP (a.fdiv _);rw [Int.fdiv_eq_ediv_of_nonneg _ (Int.pow_nonneg zb)];refine ⟨Int.ediv_nonneg h.1 (Int.pow_nonneg zb),Int.lt_of_le_of_lt (Int.ediv_le_self _ h.1) h.2⟩
theorem sP.one:sP 1:=⟨zb,zb⟩
theorem sP.zero:sP 0:=⟨zb,zb⟩
theorem KS {c:Bool}:aW (uO c) sP:=by
 cases c
 ·exact .some sP.zero
 ·exact .some sP.one
theorem GE {c:Bool}:aW (vP c) λ_=>True:=by
 cases c
 ·exact .some trivial
 ·exact .some trivial
theorem Rz {a b:Int}:aW (lK a b) sP:=by
 unfold lK;exact aW.need (sP.wrap _).1 (aW.need (sP.wrap _).1 (.some (sP.wrap _)))
theorem RB {a b:Int}:aW (lL a b) λ_=>True:=by
 unfold lL;exact aW.need (sP.wrap _).1 (aW.need (sP.wrap _).1 (.some trivial))
theorem MS {op:cQ} {a b:Int} (ha:sP a) (hb:sP b):aW (wG op a b) sP:=by
 unfold wG;refine aW.iteb (λ_=>.some (sP.wrap _)) λ_=>?_;refine aW.iteb (λ_=>.some (sP.wrap _)) λ_=>?_;refine aW.iteb (λ_=>.some (sP.wrap _)) λ_=>?_;refine aW.iteb (λ_=>.some (sP.wrap _)) λ_=>?_;refine aW.iteb (λ_=>.some (sP.wrap _)) λ_=>?_;refine aW.iteb (λ_=>aW.need hb.1 (.some (sP.wrap _))) λ_=>?_;refine aW.iteb (λ_=>aW.need hb.1 (.some (ha.shr _))) λ_=>?_;refine aW.iteb (λ_=>aW.bind Rz λ_ h=>.some h) λ_=>?_;refine aW.iteb (λ_=>aW.bind KS λ_ h=>.some h) λ_=>?_;refine aW.iteb (λ_=>aW.bind KS λ_ h=>.some h) λ_=>?_;exact aW.iteb (λ_=>.some (sP.wrap _)) λ_=>.some (sP.wrap _)
theorem RO {o a b:Int}:aW (yD o a b) λ_=>True:=by
 unfold yD;refine aW.iteb (λ_=>.some trivial) λ_=>?_;refine aW.iteb (λ_=>.some trivial) λ_=>?_;refine aW.iteb (λ_=>.some trivial) λ_=>?_;refine aW.iteb (λ_=>aW.need (ET _).1 (.some trivial)) λ_=>?_;refine aW.iteb (λ_=>aW.need (ET _).1 (.some trivial)) λ_=>?_;exact aW.bind RB λ_ _=>.some trivial
theorem two_tot {o a b:Int}:aW (Dc o a b) λ_=>True:=by
 unfold Dc;refine aW.iteb (λ_=>aW.bind GE λ_ _=>.some trivial) λ_=>?_;refine aW.iteb (λ_=>aW.bind GE λ_ _=>.some trivial) λ_=>?_;refine aW.iteb (λ_=>.some trivial) λ_=>?_;refine aW.iteb (λ_=>.some trivial) λ_=>?_;refine aW.iteb (λ_=>.some trivial) λ_=>?_;refine aW.iteb (λ_=>aW.iteb (λ_=>.some trivial) λh=>aW.need (by simpa using h) (.some trivial)) λ_=>?_;refine aW.iteb (λ_=>aW.iteb (λ_=>.some trivial) λh=>aW.need (by simpa using h) (.some trivial)) λ_=>?_;exact aW.bind RO λ_ _=>.some trivial
theorem op_tot {s:cQ}:∀(c j:Nat),j<=15->15<j+c->aW (qO s c (j:Int)) λ_=>True:=by
 intro c
 induction c with
 | zero=>intro j h1 h2;omega
 | succ c ih=>
   intro j h1 h2;unfold qO;have hlen:eY.length=15:=zd
   refine aW.iteb (λh=>?_) λ_=>.some trivial;have h:=EG h;refine aW.bind (aW.idx (Q:=λ_=>True) za za λ_ _=>trivial) λx _=>?_;refine aW.iteb (λ_=>.some trivial) λ_=>?_;rw [fD za za];exact ih (j+1) za za
theorem MC {s:cQ} {n:Nat} (hn:16<=n):aW (sL n s) λ_=>True:=by
 unfold sL;exact aW.bind (op_tot n 0 za za) λy _=>aW.elim (λ_ _=>.some trivial) λ_ _=>.some trivial
theorem Lq {o a:Int} {n:Nat} (hn:2<=n):aW (nZ n (bH.mk o 0 [bH.mk 1 a []]) []) λ_=>True:=by
 obtain ⟨m,rfl⟩:∃m,n=m+2:=⟨n - 2,za⟩;rw [nZ];unfold vY;refine aW.iteb (λh=>by simp at h) λ_=>?_;have h1:nZ (m+1) (bH.mk 1 a []) []=some (a,true):=rfl;rw [show aS ([bH.mk 1 a []]:List bH) 0=some (bH.mk 1 a []) from rfl,nA,h1,nA];refine aW.bind (P:=λy=>y=true) (.some rfl) λy hy=>?_;subst hy;refine aW.iteb (λ_=>?_) λh=>by cases h
 refine aW.bind GE λ_ _=>aW.bind (P:=λ_=>True) ?_ λ_ _=>.some trivial;unfold EU;exact aW.iteb (λ_=>.some trivial) λ_=>.some trivial
theorem Lo {o a b:Int} {n:Nat} (hn:2<=n):aW (nZ n (bH.mk o 0 [bH.mk 1 a [],bH.mk 1 b []]) []) λ_=>True:=by
 obtain ⟨m,rfl⟩:∃m,n=m+2:=⟨n - 2,za⟩;rw [nZ];unfold vY;refine aW.iteb (λh=>by simp at h) λ_=>?_;have h1:∀z,nZ (m+1) (bH.mk 1 z []) []=some (z,true):=λ_=>rfl;rw [show aS ([bH.mk 1 a [],bH.mk 1 b []]:List bH) 0=some (bH.mk 1 a []) from rfl,nA,h1,nA];refine aW.bind (P:=λy=>y=false) (.some rfl) λy hy=>?_;subst hy;refine aW.iteb (λh=>by cases h) λ_=>?_;rw [show aS ([bH.mk 1 a [],bH.mk 1 b []]:List bH) 1=some (bH.mk 1 b []) from rfl,nA,h1,nA];refine aW.iteb (λh=>by cases h) λ_=>?_;exact aW.bind two_tot λ_ _=>.some trivial
theorem FJ (n:Nat):aV (n+1)=dG (fW n) (aV n) n:=by
 show (fS (n+1)).1=_;rw [fS];rfl
theorem FY (n:Nat):fW (n+1)=jE (aV n) n:=by
 show (fS (n+1)).2=_;rw [fS];rfl
structure DI (fr:aI) (hs:List (List Int)):Prop where
 wl:fr.bP.length=fr.f_.aO.length
 al:fr.aX.length=fr.f_.aO.length
 w:∀z ∈ fr.bP,sP z
 r:sP fr.eX
 lt:∀k ∈ fr.aX,k<(hs.length:Int)
 ar:∀(i:Nat) v,fr.f_.aO[i]? = some v->v.bF=4->∃k a,fr.aX[i]? = some k/\0<=k/\hs[k.toNat]? = some a/\(a.length:Int)=v.gA
 vo:∀v ∈ fr.f_.aO,sE v
structure VP (r:aE) (k:Nat) (x:Int × aE):Prop where
 w:sP x.1
 p:x.2.p_=r.p_
 f:x.2.dO=r.dO
 e:x.2.e_=r.e_
 t:x.2.bT.length<=r.bT.length+k
theorem sN (r:aE):aW (bO r) λb=>b=false->r.e_=0:=by
 unfold bO;refine aW.bind (P:=λb=>b=false->r.e_=0) (aW.iteb (λ_=>.some λh=>by cases h) λ_=>.some λh=>by simpa using h) λ_ h=>.some h
theorem Hc {r:aE} {a b c:Int} (h:r.bT.length+1<=1073741824):aW (cX r a b c) λx=>x.p_=r.p_/\x.dO=r.dO/\x.e_=r.e_/\x.cN=r.cN/\x.bT.length=r.bT.length+1:=by
 unfold cX;exact aW.need (by simpa using h) (.some ⟨rfl,rfl,rfl,rfl,zc⟩)
theorem Vs {rc:aE->aI->List (List Int)->aF->Option (Int × aE)} {e:aF} {fr:aI} {hs:List (List Int)}
  (hr:∀x ∈ e.aM,∀r:aE,r.bT.length+xz x<=1073741824->aW (rc r fr hs x) (VP r (xz x))) (hl:e.aM.length<10) :
  ∀(c j:Nat) (vs:List Int) (r:aE),j<=e.aM.length->e.aM.length<j+c->vs.length=j->(∀z ∈ vs,sP z)->r.bT.length+oY (e.aM.drop j)<=1073741824 ->
   aW (eI rc e fr hs c vs (j:Int) r) λs=>match s with
    | .inl x=>x.1.length=e.aM.length/\(∀z ∈ x.1,sP z)/\VP r (oY (e.aM.drop j)) (0,x.2)
    | .inr x=>VP r (oY (e.aM.drop j)) x:=by
 intro c
 induction c with
 | zero=>intro j vs r h1 h2;omega
 | succ c ih=>
   intro j vs r h1 h2 h3 h4 h5;unfold eI;refine aW.iteb (λh=>?_) λh=>?_
   ·have h:=EG h;have hj:j<e.aM.length:=za
    have hd:e.aM.drop j=e.aM[j]::e.aM.drop (j+1):=On hj;rw [hd,oY] at h5 ⊢;refine aW.eqn (v:=e.aM[j]) (by unfold aS;rw [cG za,wR,tS hj]) ?_;refine aW.bind (hr _ (Oo _) r za) λx hx=>?_;refine aW.bind (sN _) λb hb=>?_;have hp:=EQ e.aM[j];refine aW.iteb (λ_=>.some ?_) λ_=>?_
    ·exact ⟨sP.zero,hx.p,hx.f,hx.e,by have:=hx.t;simp only;omega⟩
    ·refine aW.need (by simp only [tF];omega) ?_;rw [fD za za];refine (ih (j+1) (vs++[x.1]) x.2 za za (by simp [h3]) (λz hz=>?_) (by have:=hx.t;omega)).mono λs hs=>?_
     ·rcases BV.1 hz with hz | hz
      ·exact h4 z hz
      ·rw [zA.1 hz];exact hx.w
     ·cases s with
      | inl y=>exact ⟨hs.1,hs.2.1,sP.zero,hs.2.2.p.trans hx.p,hs.2.2.f.trans hx.f,hs.2.2.e.trans hx.e,by have h6:=hs.2.2.t;have h7:=hx.t;simp only at h6 ⊢;omega⟩
      | inr y=>exact ⟨hs.w,hs.p.trans hx.p,hs.f.trans hx.f,hs.e.trans hx.e,by have h6:=hs.t;have h7:=hx.t;omega⟩
   ·have h:¬ (j:Int)<(e.aM.length:Int):=by simpa using h
    exact .some ⟨by show vs.length=_;omega,h4,sP.zero,rfl,rfl,rfl,yz⟩
theorem VP.refl {r:aE} {v:Int} (h:sP v) {k:Nat}:VP r k (v,r):=⟨h,rfl,rfl,rfl,Nat.le_add_right _ _⟩
theorem VP.more {r:aE} {k l:Nat} {x:Int × aE} (h:VP r k x) (hk:k<=l):VP r l x:=⟨h.w,h.p,h.f,h.e,by have:=h.t;omega⟩
theorem VP.trans {r:aE} {k l:Nat} {v:Int} {s:aE} {x:Int × aE} (h:VP r k (v,s)) (h':VP s l x):VP r (k+l) x:=⟨h'.w,h'.p.trans h.p,h'.f.trans h.f,h'.e.trans h.e,by have h1:=h.t;have h2:=h'.t;simp only at h1;omega⟩
theorem Nu {n:Nat} (hn:20<=n) {r:aE} {e:aF} {vs:List Int} (hl:0<e.aM.length) (hv:vs.length=1 ∨ vs.length=2) (hw:∀z ∈ vs,sP z) (ht:r.bT.length+1<=1073741824) :
  aW (fQ n r e vs) (VP r 1):=by
 obtain ⟨m,rfl⟩:∃m,n=m+20:=⟨n - 20,za⟩;unfold fQ;refine aW.bind (P:=λ_=>True) (aW.iteb (λ_=>aW.bind (aW.idx (Q:=λ_=>True) za za λ_ _=>trivial) λ_ _=>.some trivial) λ_=>.some trivial) λy2 _=>?_
 have hsee:∀ {s:aE},s.p_=r.p_/\s.dO=r.dO/\s.e_=r.e_/\s.cN=r.cN/\s.bT.length=r.bT.length+1->∀ {z:Int},sP z->VP r 1 (z,s)/\∀t,VP r 1 (z,{ s with cN:=t }):=by
  rintro s ⟨h1,h2,h3,_,h5⟩ z hz;exact ⟨⟨hz,h1,h2,h3,yz⟩,λt=>⟨hz,h1,h2,h3,yz⟩⟩
 have hself:∀ {z:Int},sP z->VP r 1 (z,r)/\∀t,VP r 1 (z,{ r with cN:=t }):=λ{z} hz=>⟨VP.refl hz,λt=>⟨hz,rfl,rfl,rfl,Nat.le_add_right _ _⟩⟩
 rcases hv with hv | hv
 ·obtain ⟨x,rfl⟩:∃x,vs=[x]:=by
   match vs,hv with
   | [x],_=>exact ⟨x,rfl⟩
  have hx:=hw x zc;refine aW.iteb (λh=>by simp at h) λ_=>?_;refine aW.iteb (λ_=>?_) λ_=>?_
  ·refine aW.eqn (v:=x) rfl ?_;exact aW.bind (MS hx sP.zero) λz hz=>.some (VP.refl hz)
  ·refine aW.bind (P:=λ_=>True) (aW.iteb (λ_=>.some trivial) λ_=>.some trivial) λyd _=>?_;refine aW.iteb (λ_=>?_) λ_=>?_
   ·refine aW.eqn (v:=x) rfl ?_;refine aW.bind (Hc ht) λs hs=>?_;refine aW.bind (MC za) λo _=>?_;refine aW.eqn (v:=bH.mk o 0 [bH.mk 1 (u32.wrap x) []]) rfl ?_;refine aW.bind (Lq za) λq _=>?_;exact aW.iteb (λ_=>.some ((hsee hs (sP.wrap _)).2 2)) λ_=>.some (hsee hs (sP.wrap _)).1
   ·refine aW.bind (MC za) λo _=>?_;refine aW.eqn (v:=bH.mk o 0 [bH.mk 1 (u32.wrap x) []]) rfl ?_;refine aW.bind (Lq za) λq _=>?_;exact aW.iteb (λ_=>.some ((hself (sP.wrap _)).2 2)) λ_=>.some (hself (sP.wrap _)).1
 ·obtain ⟨x,y,rfl⟩:∃x y,vs=[x,y]:=by
   match vs,hv with
   | [x,y],_=>exact ⟨x,y,rfl⟩
  have hx:=hw x zc;have hy:=hw y zc;refine aW.iteb (λ_=>?_) λh=>by simp at h
  refine aW.eqn (v:=y) rfl ?_;refine aW.iteb (λ_=>?_) λ_=>?_
  ·refine aW.eqn (v:=x) rfl ?_;exact aW.bind (MS hx hy) λz hz=>.some (VP.refl hz)
  ·refine aW.bind (P:=λ_=>True) (aW.iteb (λ_=>.some trivial) λ_=>.some trivial) λyd _=>?_;refine aW.iteb (λ_=>?_) λ_=>?_
   ·refine aW.eqn (v:=x) rfl ?_;refine aW.bind (Hc ht) λs hs=>?_;refine aW.bind (MC za) λo _=>?_;refine aW.eqn (v:=bH.mk o 0 [bH.mk 1 (u32.wrap x) [],bH.mk 1 (u32.wrap y) []]) rfl ?_;refine aW.bind (Lo za) λq _=>?_;exact aW.iteb (λ_=>.some ((hsee hs (sP.wrap _)).2 2)) λ_=>.some (hsee hs (sP.wrap _)).1
   ·refine aW.bind (MC za) λo _=>?_;refine aW.eqn (v:=bH.mk o 0 [bH.mk 1 (u32.wrap x) [],bH.mk 1 (u32.wrap y) []]) rfl ?_;refine aW.bind (Lo za) λq _=>?_;exact aW.iteb (λ_=>.some ((hself (sP.wrap _)).2 2)) λ_=>.some (hself (sP.wrap _)).1
def QH (op:cQ):Nat:=if op=[115,101,108,101,99,116] then 3 else if op=[119,105,100,101] then 2 else 1
theorem Ce {vs:List Int} {i:Nat} (h:i<vs.length) (hw:∀z ∈ vs,sP z):aW (aS vs (i:Int)) sP:=aW.idx za za λx hx=>hw x (zX hx)
theorem Su {op:cQ} {vs:List Int} (hl:QH op<=vs.length) (hw:∀z ∈ vs,sP z):aW (sX op vs) λx=>sP x.1/\(x.2=false->op ≠ [115,101,108,101,99,116]/\op ≠ [108,111,110,103]/\op ≠ [108,111]/\op ≠ [104,105]/\op ≠ [119,105,100,101]):=by
 unfold sX;unfold QH at hl;refine aW.iteb (λh=>?_) λh1=>?_
 ·have h:=EG h;rw [cG h] at hl;refine aW.bind (Ce (i:=0) za hw) λx hx=>?_;refine aW.iteb (λ_=>?_) λ_=>?_
  ·exact aW.bind (Ce (i:=1) za hw) λx hx=>.some ⟨hx,λh=>by cases h⟩
  ·exact aW.bind (Ce (i:=2) za hw) λx hx=>.some ⟨hx,λh=>by cases h⟩
 have h1:op ≠ [115,101,108,101,99,116]:=PP h1;rw [bU h1] at hl;have hl0:0<vs.length:=by split at hl <;> omega
 refine aW.iteb (λh=>aW.bind (Ce (i:=0) hl0 hw) λx hx=>.some ⟨hx,λh=>by cases h⟩) λh2=>?_;refine aW.iteb (λh=>aW.bind (Ce (i:=0) hl0 hw) λx hx=>.some ⟨sP.wrap _,λh=>by cases h⟩) λh3=>?_;refine aW.iteb (λh=>aW.bind (Ce (i:=0) hl0 hw) λx hx=>.some ⟨hx.shr _,λh=>by cases h⟩) λh4=>?_;refine aW.iteb (λh=>?_) λh5=>?_
 ·rw [cG (EG h)] at hl;exact aW.bind (Ce (i:=0) hl0 hw) λx hx=>aW.bind (Ce (i:=1) za hw) λy hy=>.some ⟨sP.wrap _,λh=>by cases h⟩
 ·exact .some ⟨sP.zero,λ_=>⟨h1,PP h2,PP h3,PP h4,PP h5⟩⟩
section
variable {fr:aI} {hs:List (List Int)} {sc:List Int}
def IP (v:Int) (fr:aI) (hs:List (List Int)) (r:aE) (k:Nat) (x:Int × aE):Prop:=
 VP r k x/\(bO x.2=some false->0<=x.1/\∃a b,aS fr.aX v=some a/\aS hs a=some b/\x.1<b.length)
theorem vV {ri:aE->aI->List (List Int)->aF->Int->Option (Int × aE)} {rc:aE->aI->List (List Int)->aF->Option (Int × aE)} {e:aF} {N:Nat} {r:aE}
  {o:cQ} {k:Nat} (ho:e.eG=o) (hk:e.aM.length=k) (h1:o ≠ [110,117,109]) (h2:o ≠ [118,97,114]) (h3:o ≠ [105,110,100,101,120]) (har:QH o<=k)
  (hnb:o ≠ [115,101,108,101,99,116]->k=1 ∨ k=2) (hl0:0<k) (hl:k<10)
  (hr:∀x ∈ e.aM,∀r:aE,r.bT.length+xz x<=1073741824->aW (rc r fr hs x) (VP r (xz x))) (hN:30<=N) (ht:r.bT.length+xz e<=1073741824) :
  aW (dG ri rc N r fr hs e) (VP r (xz e)):=by
 rw [yZ] at ht ⊢;subst ho hk;unfold dG;rw [bU (by simpa using h1),bU (by simpa using h2),bU (by simpa using h3)];refine aW.bind (Vs hr hl N 0 [] r za za rfl (λz hz=>by cases hz) (by rw [sR];omega)) λs hs=>?_;rw [sR] at hs;cases s with
 | inl y=>
   obtain ⟨g1,g2,g3⟩:=hs;refine aW.bind (Su (op:=e.eG) (vs:=y.1) (by rw [g1];exact har) g2) λb hb=>?_;refine aW.iteb (λ_=>.some ?_) λh0=>?_
   ·exact ⟨hb.1,g3.p,g3.f,g3.e,by have:=g3.t;simp only at this ⊢;omega⟩
   ·have h4:=hb.2 h0;refine aW.bind (Nu za hl0 (by rw [g1];exact hnb h4.1) g2 (by have:=g3.t;simp only at this;omega)) λx hx=>.some ?_;have:=g3.trans hx;exact ⟨this.w,this.p,this.f,this.e,by have:=this.t;simp only at this ⊢;omega⟩
 | inr y=>exact .some (hs.more za)
theorem Hv (r:aE):aW (bO r) λb=>bO r=some b:=by
 obtain ⟨b,hb,_⟩:=sN r;exact ⟨b,hb,hb⟩
theorem Ax {α:Type} {l:List α} {i:Int} {x:α} (h:aS l i=some x):0<=i/\l[i.toNat]? = some x:=by
 unfold aS at h
 split at h
 ·exact ⟨‹_›,h⟩
 ·cases h
theorem Bj {α:Type} {l:List α} {i:Nat} {x:α} (h:l[i]? = some x) {j:Int} (hj:j=(i:Int)):aS l j=some x:=by
 subst hj;unfold aS;rw [cG za,wR,h]
theorem DI.arr (hF:DI fr hs) {v:Int} {u:aJ} (h:aS fr.f_.aO v=some u) (hk:u.bF=4):∃k a,aS fr.aX v=some k/\aS hs k=some a/\(a.length:Int)=u.gA/\1<=u.gA/\u.gA<=1024/\0<=k:=by
 obtain ⟨h0,h1⟩:=Ax h;obtain ⟨k,a,g1,g2,g3,g4⟩:=hF.ar _ _ h1 hk;refine ⟨k,a,?_,?_,g4,?_⟩
 ·unfold aS;rw [cG h0,g1]
 ·unfold aS;rw [cG g2,g3]
 ·have:=(hF.vo u (zX h1)).2.2 hk;unfold yR at this;omega
theorem zB (hF:DI fr hs):∀N:Nat,
  (∀e,TX fr.f_.aO sc e->2*xz e+40<=N->∀r:aE,r.bT.length+xz e<=1073741824->aW (aV N r fr hs e) (VP r (xz e))) ∧
  (∀e v u,TX fr.f_.aO sc e->aS fr.f_.aO v=some u->u.bF=4->2*xz e+41<=N->∀r:aE,r.bT.length+xz e+1<=1073741824->aW (fW N r fr hs e v) (IP v fr hs r (xz e+1))):=by
 intro N
 induction N with
 | zero=>exact ⟨λe _ h=>za,λe v u _ _ _ h=>za⟩
 | succ N ih=>
   obtain ⟨ihv,ihi⟩:=ih;refine ⟨λe he hN r ht=>?_,λe v u he hu hk hN r ht=>?_⟩
   ·rw [FJ]
    have hrec:∀x ∈ e.aM,TX fr.f_.aO sc x->∀r:aE,r.bT.length+xz x<=1073741824->aW (aV N r fr hs x) (VP r (xz x)):=by
     intro x hx hT r hr;refine ihv x hT ?_ r hr;have:=FH hx;rw [yZ e] at hN;omega
    cases he with
    | num=>
      unfold dG;rw [cG (by rfl)];exact .some (VP.refl (sP.wrap _))
    | @var v u a h1 h2 h3=>
      unfold dG;rw [bU zc,cG (by rfl)];obtain ⟨g0,g1⟩:=Ax h2;have g2:=(sG.1 g1).1;refine aW.bind (aW.idx (Q:=sP) (by exact g0) (by rw [hF.wl];simp only;omega) λx hx=>hF.w x (zX hx)) λz hz=>.some (VP.refl hz)
    | @index v u i a h1 h2 h3 h4 h5 h6=>
      unfold dG;rw [bU zc,bU zc,cG (by rfl)];refine aW.eqn (v:=i) rfl ?_;have hz:xz ⟨[105,110,100,101,120],2,0,v,[i],a⟩=xz i+1:=by rw [yZ];simp only [oY];omega
      rw [hz] at hN ht ⊢;refine aW.bind (ihi i v u h4 h2 h3 za r za) λx hx=>?_;refine aW.bind (Hv x.2) λb hb=>?_;refine aW.iteb (λ_=>.some ⟨sP.zero,hx.1.p,hx.1.f,hx.1.e,hx.1.t⟩) λh=>?_;rw [h] at hb;obtain ⟨g0,k,ar,g1,g2,g3⟩:=hx.2 hb;refine aW.eqn g1 (aW.eqn g2 ?_);exact aW.bind (aW.idx (Q:=λ_=>True) g0 g3 λ_ _=>trivial) λz _=>.some ⟨sP.wrap _,hx.1.p,hx.1.f,hx.1.e,hx.1.t⟩
    | @un o x a ho h1=>
      have hr:∀y ∈ [x],∀r:aE,r.bT.length+xz y<=1073741824->aW (aV N r fr hs y) (VP r (xz y)):=λy hy=>by
       rw [zA.1 hy];exact hrec x (zA.2 rfl) h1
      have hNN:30<=N:=by have:=EQ ⟨o,x.cP,0,-1,[x],a⟩;omega
      rcases ho with rfl | rfl
      ·exact vV (o:=[110,111,116]) (k:=1) rfl rfl zb zb zb zb zb zb zb hr hNN ht
      ·exact vV (o:=[110,101,103]) (k:=1) rfl rfl zb zb zb zb zb zb zb hr hNN ht
    | @bin o x y t a h1 h2 hb=>
      have hr:∀z ∈ [x,y],∀r:aE,r.bT.length+xz z<=1073741824->aW (aV N r fr hs z) (VP r (xz z)):=λz hz=>by
       refine hrec z hz ?_;simp only [Cj,MR,or_false] at hz
       rcases hz with rfl | rfl
       ·exact h1
       ·exact h2
      have hNN:30<=N:=by have:=EQ ⟨o,t,0,-1,[x,y],a⟩;omega
      have ho:o ∈ DN:=by
       unfold DN
       rcases hb with ⟨h | h,_⟩ | ⟨h | h | h,_⟩ | ⟨h,_⟩ | ⟨h | h,_⟩ | ⟨h | h | h | h | h,_⟩ <;> rw [h] <;> decide
      have hs:∀o ∈ DN,o ≠ [110,117,109]/\o ≠ [118,97,114]/\o ≠ [105,110,100,101,120]/\QH o<=2:=zb
      obtain ⟨g1,g2,g3,g4⟩:=hs o ho;exact vV (k:=2) rfl rfl g1 g2 g3 g4 (λ_=>.inr rfl) zb zb hr hNN ht
    | @sel c x y a h1 h2 h3 h4 h5=>
      have hr:∀z ∈ [c,x,y],∀r:aE,r.bT.length+xz z<=1073741824->aW (aV N r fr hs z) (VP r (xz z)):=λz hz=>by
       refine hrec z hz ?_;simp only [Cj,MR,or_false] at hz
       rcases hz with rfl | rfl | rfl
       ·exact h1
       ·exact h2
       ·exact h3
      have hNN:30<=N:=by have:=EQ ⟨[115,101,108,101,99,116],HP (Ai x.cP y.cP),0,-1,[c,x,y],a⟩;omega
      exact vV (o:=[115,101,108,101,99,116]) (k:=3) rfl rfl zb zb zb zb (λh=>dE rfl h) zb zb hr hNN ht
    | @long x a h1 h2=>
      have hr:∀y ∈ [x],∀r:aE,r.bT.length+xz y<=1073741824->aW (aV N r fr hs y) (VP r (xz y)):=λy hy=>by
       rw [zA.1 hy];exact hrec x (zA.2 rfl) h1
      have hNN:30<=N:=by have:=EQ ⟨[108,111,110,103],3,0,-1,[x],a⟩;omega
      exact vV (o:=[108,111,110,103]) (k:=1) rfl rfl zb zb zb zb zb zb zb hr hNN ht
    | @wide x y a h1 h2 h3 h4=>
      have hr:∀z ∈ [x,y],∀r:aE,r.bT.length+xz z<=1073741824->aW (aV N r fr hs z) (VP r (xz z)):=λz hz=>by
       refine hrec z hz ?_;simp only [Cj,MR,or_false] at hz
       rcases hz with rfl | rfl
       ·exact h1
       ·exact h2
      have hNN:30<=N:=by have:=EQ ⟨[119,105,100,101],3,0,-1,[x,y],a⟩;omega
      exact vV (o:=[119,105,100,101]) (k:=2) rfl rfl zb zb zb zb (λ_=>.inr rfl) zb zb hr hNN ht
    | @half o x a ho h1 h2=>
      have hr:∀y ∈ [x],∀r:aE,r.bT.length+xz y<=1073741824->aW (aV N r fr hs y) (VP r (xz y)):=λy hy=>by
       rw [zA.1 hy];exact hrec x (zA.2 rfl) h1
      have hNN:30<=N:=by have:=EQ ⟨o,2,0,-1,[x],a⟩;omega
      rcases ho with rfl | rfl
      ·exact vV (o:=[108,111]) (k:=1) rfl rfl zb zb zb zb zb zb zb hr hNN ht
      ·exact vV (o:=[104,105]) (k:=1) rfl rfl zb zb zb zb zb zb zb hr hNN ht
   ·rw [FY];unfold jE;refine aW.bind (ihv e he za r za) λx hx=>?_;refine aW.bind (Hv x.2) λb hb=>?_;refine aW.iteb (λh=>.some ⟨⟨sP.zero,hx.p,hx.f,hx.e,by have:=hx.t;simp only at this ⊢;omega⟩,λh'=>?_⟩) λh=>?_
    ·rw [hb,h] at h';cases h'
    ·obtain ⟨k,ar,g1,g2,g3,g4,g5,g6⟩:=hF.arr hu hk;refine aW.eqn g1 (aW.eqn g2 ?_);refine aW.bind (Hc (by have:=hx.t;omega)) λs hs=>?_;refine aW.iteb (λh2=>.some ⟨⟨sP.zero,hs.1.trans hx.p,hs.2.1.trans hx.f,hs.2.2.1.trans hx.e,by have:=hx.t;have:=hs.2.2.2.2;simp only;omega⟩,λh'=>?_⟩) λh2=>.some ⟨⟨sP.w32 _,hs.1.trans hx.p,hs.2.1.trans hx.f,hs.2.2.1.trans hx.e,by have:=hx.t;have:=hs.2.2.2.2;simp only;omega⟩,λ_=>?_⟩
     ·exfalso
      unfold bO at h';simp at h'
     ·have h2:=PP h2;rw [w32_id (z:=(ar.length:Int)) za za] at h2;exact ⟨(ET _).1,k,ar,g1,g2,yz⟩
end
def SG (P:aK):Hz:=λk r ps=>∃f,aS P.aU k=some f/\r=f.bV/\ps=f.aO.take f.aQ.toNat
inductive WT (sg:Hz) (vs:List aJ):aA->Prop
 | asg {o sc x v u a}:(o=[108,101,116] ∨ o=[118,97,114] ∨ o=[115,101,116])->TX vs sc x->xz x<=3000->aS vs v=some u->WT sg vs ⟨o,v,0,[x],[],[],a⟩
 | arr {v u a}:aS vs v=some u->u.bF=4->WT sg vs ⟨[97,114,114],v,0,[],[],[],a⟩
 | put {sc v u i x a}:aS vs v=some u->u.bF=4->TX vs sc i->TX vs sc x->xz i+xz x<=3000->WT sg vs ⟨[112,117,116],v,0,[i,x],[],[],a⟩
 | call {sc f xs r ps a} {v:Int}:sg f r ps->zS vs sc ps xs->oY xs<=3000->(0<=v->v<vs.length)->WT sg vs ⟨[99,97,108,108],v,f,xs,[],[],a⟩
 | if_ {sc c b e a}:TX vs sc c->xz c<=3000->b.length<=20000->e.length<=20000->(∀s ∈ b,WT sg vs s)->(∀s ∈ e,WT sg vs s)->WT sg vs ⟨[105,102],-1,0,[c],b,e,a⟩
 | for_ {sc x y b a} {v:Int}:TX vs sc x->TX vs sc y->xz x+xz y<=3000->(0<=v->v<vs.length)->b.length<=20000->(∀s ∈ b,WT sg vs s)->WT sg vs ⟨[102,111,114],v,0,[x,y],b,[],a⟩
 | ret {sc x a}:TX vs sc x->xz x<=3000->WT sg vs ⟨[114,101,116,117,114,110],-1,0,[x],[],[],a⟩
structure SY (P:aK) (f:aP):Prop where
 body:∀s ∈ f.bR,WT (SG P) f.aO s
 p0:0<=f.aQ
 p1:f.aQ<=f.aO.length
 vl:f.aO.length<=5000
 vo:∀v ∈ f.aO,sE v
 sz:f.bR.length<=20000
theorem IV {α:Type} {l:List α} {v:Int} {x:α} (h:aS l v=some x):v<l.length:=by
 obtain ⟨a,b,_⟩:=aY h;exact b
theorem TB.wt {sg:Hz} {vs:List aJ} {res:Int} {l:Bool} {n n':Nat} {sc sc':List Int} {ss:List aA} (h:TB sg vs res l n sc ss n' sc'):uS ss<=3001->∀s ∈ ss,WT sg vs s:=by
 have key:∀ {s:aA} {ss:List aA},(tz s+uS ss<=3001->WT sg vs s)->(uS ss<=3001->∀t ∈ ss,WT sg vs t)->uS (s::ss)<=3001->∀t ∈ s::ss,WT sg vs t:=by
  intro s ss h1 h2 hz t ht;rw [uS] at hz
  rcases Cj.1 ht with rfl | ht
  ·exact h1 hz
  ·exact h2 za t ht
 have hn:∀ {n:Nat} {u:aJ},vs[n]? = some u->aS vs (n:Int)=some u:=λh=>Bj h rfl
 induction h with
 | nil=>intro _ s hs;cases hs
 | let_ h1 h2 h3 h4 _ ih=>exact key (λhz=>.asg (.inl rfl) h1 (by rw [qC] at hz;simp only [oY] at hz;omega) (hn h3)) ih
 | var_ h1 h2 h3 _ ih=>exact key (λhz=>.asg (.inr (.inl rfl)) h1 (by rw [qC] at hz;simp only [oY] at hz;omega) (hn h2)) ih
 | arr h1 h2 _ ih=>exact key (λhz=>.arr (hn h1) h2) ih
 | callv h1 h2 h3 h4 h5 _ ih=>exact key (λhz=>.call h1 h2 (by rw [qC] at hz;simp only at hz;omega) λ_=>IV (hn h4)) ih
 | set h1 h2 h3 h4 h5 _ ih=>exact key (λhz=>.asg (.inr (.inr rfl)) h4 (by rw [qC] at hz;simp only [oY] at hz;omega) h2) ih
 | calls h1 h2 h3 h4 h5 h6 _ ih=>exact key (λhz=>.call h4 h5 (by rw [qC] at hz;simp only at hz;omega) λ_=>IV h2) ih
 | put h1 h2 h3 h4 h5 h6 h7 h8 _ ih=>exact key (λhz=>.put h2 h3 h4 h7 (by rw [qC] at hz;simp only [oY] at hz;omega)) ih
 | do_ h1 h2 _ ih=>exact key (λhz=>.call h1 h2 (by rw [qC] at hz;simp only at hz;omega) λh=>by simp at h) ih
 | @if_ l n sc c b e a n1 sc1 n2 sc2 ss n' sc' h1 h2 h3 h4 _ i1 i2 ih=>exact key (fun hz=>by
    rw [qC] at hz;simp only [oY] at hz;have:=FK b;have:=FK e;exact .if_ h1 za za za (i1 za) (i2 za)) ih
 | @for_ l n sc x y u b a n1 sc1 ss n' sc' h1 h2 h3 h4 h5 h6 h7 _ i1 ih=>exact key (fun hz=>by
    rw [qC] at hz;simp only [oY] at hz;have:=FK b;exact .for_ h1 h3 za (λ_=>IV (hn h5)) za (i1 za)) ih
 | ret h1 h2 h3=>exact key (λhz=>.ret h1 (by rw [qC] at hz;simp only [oY] at hz;omega)) λ_ t ht=>(nomatch ht)
 | retc h1 h2 h3=>exact key (λhz=>.call h1 h3 (by rw [qC] at hz;simp only at hz;omega) λh=>by simp at h) λ_ t ht=>(nomatch ht)
structure RP (r:aE) (k:Nat) (r':aE):Prop where
 p:r'.p_=r.p_
 f:r'.dO<=r.dO
 m:r'.bT.length+4000*r'.dO.toNat<=r.bT.length+4000*r.dO.toNat+k
 e:r'.e_=r.e_ ∨ r'.e_=70
theorem RP.refl {r:aE} {k:Nat}:RP r k r:=⟨rfl,Oz _,Nat.le_add_right _ _,.inl rfl⟩
theorem RP.trans {r s t:aE} {k l:Nat} (h:RP r k s) (h':RP s l t):RP r (k+l) t:=
 ⟨h'.p.trans h.p,Int.le_trans h'.f h.f,by have:=h.m;have:=h'.m;omega,by rcases h'.e with e | e;rw [e];exact h.e;exact .inr e⟩
theorem RP.more {r s:aE} {k l:Nat} (h:RP r k s) (hk:k<=l):RP r l s:=⟨h.p,h.f,by have:=h.m;omega,h.e⟩
theorem VP.rp {r:aE} {k:Nat} {x:Int × aE} (h:VP r k x):RP r k x.2:=⟨h.p,by rw [h.f];exact Oz _,by have:=h.t;rw [h.f];omega,.inl h.e⟩
structure FP (fr:aI) (hs:List (List Int)) (fr':aI) (hs':List (List Int)):Prop where
 f:fr'.f_=fr.f_
 a:fr'.aX=fr.aX
 wl:fr'.bP.length=fr.bP.length
 w:∀z ∈ fr'.bP,sP z
 r:sP fr'.eX
 h:hs'.map List.length=hs.map List.length
theorem FP.ok {fr fr':aI} {hs hs':List (List Int)} (h:FP fr hs fr' hs') (hF:DI fr hs):DI fr' hs':=by
 have hl:hs'.length=hs.length:=by have:=vJ List.length h.h;simpa using this
 refine ⟨by rw [h.wl,h.f,hF.wl],by rw [h.a,h.f,hF.al],h.w,h.r,λk hk=>by rw [h.a] at hk;rw [hl];exact hF.lt k hk,λi v hv hk=>?_,λv hv=>hF.vo v (by rw [←h.f];exact hv)⟩;rw [h.f] at hv;obtain ⟨k,a,g1,g2,g3,g4⟩:=hF.ar i v hv hk;have h1:(hs'.map List.length)[k.toNat]? = some a.length:=by rw [h.h,AJ,g3];rfl
 rw [AJ] at h1;cases h2:hs'[k.toNat]? with
 | none=>rw [h2] at h1;cases h1
 | some b=>
   rw [h2] at h1;simp only [FI,Option.some.injEq] at h1;exact ⟨k,b,by rw [h.a];exact g1,g2,h2,by rw [h1];exact g4⟩
theorem DI.fp {fr:aI} {hs:List (List Int)} (hF:DI fr hs):FP fr hs fr hs:=⟨rfl,rfl,rfl,hF.w,hF.r,rfl⟩
theorem FP.trans {fr fr' fr'':aI} {hs hs' hs'':List (List Int)} (h:FP fr hs fr' hs') (k:FP fr' hs' fr'' hs''):FP fr hs fr'' hs'':=⟨k.f.trans h.f,k.a.trans h.a,k.wl.trans h.wl,k.w,k.r,k.h.trans h.h⟩
theorem Md {fr:aI} {hs:List (List Int)} (hF:DI fr hs) {v z:Int} (hv:0<=v->v<fr.bP.length) (hz:sP z):aW (cF fr hs v z) λx=>FP fr hs x.1 x.2:=by
 unfold cF;refine aW.iteb (λh=>?_) λ_=>.some hF.fp;have h:=EG h;refine aW.bind (aW.idx (Q:=λ_=>True) h (hv h) λ_ _=>trivial) λ_ _=>.some ⟨rfl,rfl,zc,λy hy=>?_,hF.r,rfl⟩
 rcases KM hy with hy | hy
 ·exact hF.w y hy
 ·rw [hy];exact hz
theorem NY {r:aE} (h:r.dO<=1000000):aW (jL r) λx=>x.p_=r.p_/\x.bT=r.bT/\x.cN=r.cN/\(r.dO<=0/\x.dO=r.dO/\x.e_=70 ∨ 0<r.dO/\x.dO=r.dO - 1/\x.e_=r.e_):=by
 unfold jL;refine aW.iteb (λh1=>.some ⟨rfl,rfl,rfl,.inl ⟨EG h1,rfl,rfl⟩⟩) λh1=>?_;have h1:=PP h1;refine .some ⟨rfl,rfl,rfl,.inr ⟨za,?_,rfl⟩⟩;exact fD za za
structure RI (P:aK) (M:Nat) (r:aE):Prop where
 p:r.p_=P
 f:r.dO<=1000000
 m:r.bT.length+4000*r.dO.toNat<=M
theorem RI.step {P:aK} {M k:Nat} {r s:aE} (h:RI P M r) (k':RP r k s):RI P (M+k) s:=⟨k'.p.trans h.p,Int.le_trans k'.f h.f,by have:=h.m;have:=k'.m;omega⟩
def MP (r:aE) (fr:aI) (hs:List (List Int)) (k:Nat) (x:aE × aI × List (List Int)):Prop:=RP r k x.1/\FP fr hs x.2.1 x.2.2
theorem Re {fr:aI} {hs:List (List Int)} {sc:List Int} (hF:DI fr hs) {n:Nat} {r:aE} {v:Int} {u:aJ} {i x:aF} {a:Int} (h2:aS fr.f_.aO v=some u) (h3:u.bF=4)
  (hi:TX fr.f_.aO sc i) (hx:TX fr.f_.aO sc x) (hn:2*(xz i+xz x)+50<=n) (ht:r.bT.length+xz i+xz x+1<=1073741824) :
  aW (eF n r fr hs ⟨[112,117,116],v,0,[i,x],[],[],a⟩) (MP r fr hs (xz i+xz x+1)):=by
 unfold eF;refine aW.eqn (v:=i) rfl ?_;refine aW.bind ((zB hF n).2 i v u hi h2 h3 za r za) λy hy=>?_;refine aW.bind (Hv y.2) λb hb=>?_;have hy1:=hy.1.rp;refine aW.iteb (λ_=>.some ⟨hy1.more za,hF.fp⟩) λh=>?_;rw [h] at hb;obtain ⟨g0,k,ar,g1,g2,g3⟩:=hy.2 hb;refine aW.eqn (v:=x) rfl ?_;refine aW.bind ((zB hF n).1 x hx za y.2 (by have:=hy.1.t;omega)) λz hz=>?_;refine aW.bind (Hv z.2) λb2 hb2=>?_;have hR:RP r (xz i+xz x+1) z.2:=(hy1.trans hz.rp).more za;refine aW.iteb (λ_=>?_) λ_=>.some ⟨hR,hF.fp⟩;refine aW.eqn g1 (aW.eqn g2 ?_);refine aW.bind (aW.idx (Q:=λ_=>True) g0 g3 λ_ _=>trivial) λq _=>.some ⟨hR,rfl,rfl,rfl,hF.w,hF.r,?_⟩;obtain ⟨g4,g5⟩:=Ax g2;refine OA λj=>?_;rw [AJ,AJ,KL]
 split
 ·rename_i hj;subst hj;rw [g5,cG (sG.1 g5).1];simp
 ·rfl
def St (P:aK) (f:aP) (s:aA):Prop:=WT (SG P) f.aO s
abbrev VH:=aE->aI->List (List Int)->aA->Option (aE × aI × List (List Int))
abbrev BkF:=aE->aI->List (List Int)->List aA->Option (aE × aI × List (List Int))
def Kf (P:aK) (n:Nat) (blk:BkF):Prop:=∀r fr hs ss,RI P 1000000000 r->DI fr hs->(∀s ∈ ss,St P fr.f_ s)->ss.length<=20000->3*r.dO.toNat+50000<=n->aW (blk r fr hs ss) (MP r fr hs 0)
def QP (P:aK) (n:Nat) (st:VH):Prop:=∀r fr hs s,RI P 999996000 r->DI fr hs->St P fr.f_ s->3*r.dO.toNat+50002<=n->aW (st r fr hs s) (MP r fr hs 3002)
def HB (P:aK) (n:Nat) (o:cQ) (st:VH):Prop:=∀r fr hs s,s.eG=o->RI P 999996000 r->DI fr hs->St P fr.f_ s->3*r.dO.toNat+50001<=n->aW (st r fr hs s) (MP r fr hs 3002)
section
variable {P:aK} {n:Nat}
theorem RP.eq {r r':aE} (k:Nat) (h1:r'.p_=r.p_) (h2:r'.dO=r.dO) (h3:r'.bT=r.bT) (h4:r'.e_=r.e_ ∨ r'.e_=70):RP r k r':=⟨h1,by rw [h2];exact Oz _,by rw [h2,h3];omega,h4⟩
theorem My {st:VH} (Cc:QP P n st) {ss:List aA} (hl:ss.length<=20000):∀(c j:Nat) r fr hs,j<=ss.length->ss.length<j+c->RI P 1000000000 r->DI fr hs->(∀s ∈ ss,St P fr.f_ s)->3*r.dO.toNat+50000<=n+1 ->
  aW (eL st ss c (j:Int) r fr hs) λs=>MP r fr hs 0 (s.elim id id):=by
 intro c
 induction c with
 | zero=>intro j r fr hs h1 h2;omega
 | succ c ih=>
   intro j r fr hs h1 h2 hI hF hT hn;unfold eL;refine aW.iteb (λh=>?_) λh=>.some ⟨RP.refl,hF.fp⟩;have h:=EG h;have hj:j<ss.length:=za
   have hm:ss[j] ∈ ss:=Oo _
   refine aW.bind (P:=λs=>match s with
    | .inl x=>RP r 0 x.1/\FP fr hs x.2.1 x.2.2
    | .inr x=>MP r fr hs 0 x) ?_ λs hs'=>?_
   ·refine aW.eqn (v:=ss[j]) (Bj (tS hj) rfl) ?_;refine aW.bind (sN r) λb _=>?_;refine aW.iteb (λ_=>.some ⟨RP.refl,hF.fp⟩) λ_=>?_;refine aW.bind (NY hI.f) λx hx=>?_;obtain ⟨x1,x2,_,x3⟩:=hx;refine aW.bind (sN x) λb hb=>?_;refine aW.iteb (λhb'=>?_) λhb'=>.some ⟨?_,hF.fp⟩
    ·have hb0:b=false:=by simpa using hb'
     have he:=hb hb0
     rcases x3 with ⟨_,_,x5⟩ | ⟨x4,x5,x6⟩
     ·rw [x5] at he;cases he
     ·have hm':=hI.m;have hfu:4000*x.dO.toNat+4000=4000*r.dO.toNat:=by rw [x5];omega
      refine aW.bind (Cc x fr hs ss[j] ⟨x1.trans hI.p,by have:=hI.f;omega,by rw [x2];omega⟩ hF (hT _ hm) za) λy hy=>.some ⟨?_,hy.2⟩;show RP r 0 y.1;refine ⟨hy.1.p.trans x1,by have:=hy.1.f;omega,by have:=hy.1.m;rw [x2] at this;omega,?_⟩
      rcases hy.1.e with e | e
      ·exact .inl (e.trans x6)
      ·exact .inr e
    ·rcases x3 with ⟨_,x4,x5⟩ | ⟨x4,x5,x6⟩
     ·exact RP.eq 0 x1 x4 x2 (.inr x5)
     ·show RP r 0 x;exact ⟨x1,za,by rw [x2,x5];omega,.inl x6⟩
   ·cases s with
    | inr x=>exact .some hs'
    | inl x=>
      obtain ⟨g1,g2⟩:=hs';show aW (eL st ss c _ x.1 x.2.1 x.2.2) _;rw [fD za za];have hI':=hI.step g1;refine (ih (j+1) x.1 x.2.1 x.2.2 za za hI' (g2.ok hF) (λs hs=>by rw [g2.f];exact hT s hs) (by have:=g1.f;omega)).mono λs hs=>⟨g1.trans hs.1,g2.trans hs.2⟩
theorem Pk {st:VH} (Cc:QP P n st):Kf P (n+1) (eT st n):=by
 intro r fr hs ss hI hF hT hz hn;unfold eT;refine aW.bind (My Cc hz n 0 r fr hs za za hI hF hT hn) λy hy=>?_;cases y with
 | inl y=>exact .some hy
 | inr y=>exact .some hy
theorem Px {blk:BkF} (hb:Kf P n blk):HB P (n+1) [105,102] (eK blk n):=by
 intro r fr hs s ho hI hF hT hn;have hm:=hI.m;unfold eK;cases hT with
 | @if_ sc c b e a h1 h2 h3 h4 h5 h6=>
   refine aW.eqn (v:=c) rfl ?_;refine aW.bind ((zB hF _).1 c h1 za r za) λy hy=>?_;refine aW.bind (sN y.2) λd _=>?_;have hyt:=hy.t;refine aW.iteb (λ_=>.some ⟨hy.rp.more za,hF.fp⟩) λ_=>?_
   have hgo:∀(z:Int) (bs:List aA),(∀s ∈ bs,St P fr.f_ s)->bs.length<=20000->aW ((cX y.2 1 z 0).bind λx14=>(blk x14 fr hs bs).bind λx16=>some (x16.1,x16.2.1,x16.2.2)) (MP r fr hs 3002):=by
    intro z bs hbs hbz;refine aW.bind (Hc za) λx hx'=>?_;obtain ⟨e1,e2,e3,e4,e5⟩:=hx';have hR:RP r (xz c+1) x:=⟨e1.trans hy.p,by rw [e2,hy.f];exact Oz _,by rw [e2,hy.f];omega,.inl (e3.trans hy.e)⟩;refine aW.bind (hb x fr hs bs ⟨hR.p.trans hI.p,by have:=hR.f;have:=hI.f;omega,by have:=hR.m;omega⟩ hF hbs hbz (by have:=hR.f;omega)) λw hw=>.some ⟨(hR.trans hw.1).more za,hw.2⟩
   refine aW.iteb (λ_=>hgo 1 b h5 h3) λ_=>hgo 0 e h6 h4
 | asg h=>rcases h with rfl | rfl | rfl <;> simp at ho
 | _=>simp at ho
end
section
variable {P:aK} {n:Nat}
theorem Kq {blk:BkF} (hb:Kf P n blk) {y:Int × aE} {s:aA} {f:aP} (hbs:∀t ∈ s.bR,St P f t) (hbz:s.bR.length<=20000) (hv:0<=s.cZ->s.cZ<f.aO.length) :
  ∀(c:Nat) (v:Int) r fr hs,fr.f_=f->RI P 1000000000 r->DI fr hs->3*r.dO.toNat+50000<=n->1<=c->(r.e_=0->r.dO.toNat+2<=c) ->
  aW (gV blk y s c v r fr hs) (MP r fr hs 0):=by
 intro c
 induction c with
 | zero=>intro v r fr hs _ _ _ _ h;omega
 | succ c ih=>
   intro v r fr hs hf hI hF hn hc he;unfold gV;refine aW.bind (P:=λb=>b=true->r.e_=0) ?_ λb hb0=>?_
   ·refine aW.iteb (λ_=>aW.bind (sN r) λb hb=>.some λh=>hb (by simpa using h)) λ_=>.some λh=>by cases h
   refine aW.iteb (λh=>?_) λ_=>.some ⟨RP.refl,hF.fp⟩;have he0:=hb0 h;have hc2:=he he0;refine aW.bind (NY hI.f) λx hx=>?_;obtain ⟨x1,x2,_,x3⟩:=hx;refine aW.bind (Md hF (v:=s.cZ) (by rw [hF.wl,hf];exact hv) (sP.wrap v)) λt ht=>?_
   have hxr:RP r 0 x:=by
    rcases x3 with ⟨_,x4,x5⟩ | ⟨x4,x5,x6⟩
    ·exact RP.eq 0 x1 x4 x2 (.inr x5)
    ·exact ⟨x1,za,by rw [x2,x5];omega,.inl x6⟩
   have hIx:RI P 1000000000 x:=hI.step hxr;refine aW.bind (hb x t.1 t.2 s.bR hIx (ht.ok hF) (λq hq=>by rw [ht.f,hf];exact hbs q hq) hbz (by have:=hxr.f;omega)) λw hw=>?_;have hwr:RP r 0 w.1:=hxr.trans hw.1;have hwf:FP fr hs w.2.1 w.2.2:=ht.trans hw.2;refine (ih _ w.1 w.2.1 w.2.2 (hwf.f.trans hf) (hI.step hwr) (hwf.ok hF) (by have:=hwr.f;omega) za (λhe'=>?_)).mono λz hz=>⟨hwr.trans hz.1,hwf.trans hz.2⟩
   rcases x3 with ⟨_,_,x5⟩ | ⟨x4,x5,_⟩
   ·rcases hw.1.e with e | e
    ·rw [e,x5] at he';cases he'
    ·rw [e] at he';cases he'
   ·have:=hw.1.f;omega
theorem OU {blk:BkF} (hb:Kf P n blk):HB P (n+1) [102,111,114] (eJ blk n):=by
 intro r fr hs s ho hI hF hT hn;have hm:=hI.m;unfold eJ;cases hT with
 | @for_ sc x y b a v h1 h3 h5 h6 h7 h8=>
   refine aW.eqn (v:=x) rfl ?_;refine aW.bind ((zB hF _).1 x h1 za r za) λp hp=>?_;refine aW.bind (sN p.2) λd _=>?_;have hpt:=hp.t;refine aW.iteb (λ_=>.some ⟨hp.rp.more za,hF.fp⟩) λ_=>?_;refine aW.eqn (v:=y) rfl ?_;refine aW.bind ((zB hF _).1 y h3 za p.2 za) λq hq=>?_;refine aW.bind (sN q.2) λd _=>?_;have hqt:=hq.t;have hRq:RP r (xz x+xz y) q.2:=hp.rp.trans hq.rp;refine aW.iteb (λ_=>.some ⟨hRq.more za,hF.fp⟩) λ_=>?_;refine aW.bind (Hc za) λw hw=>?_;obtain ⟨e1,e2,e3,e4,e5⟩:=hw;have hR:RP r (xz x+xz y+1) w:=⟨e1.trans hRq.p,by rw [e2];exact hRq.f,by have:=hRq.m;rw [e2];omega,by rw [e3];exact hRq.e⟩;have hI2:RI P 1000000000 w:=⟨hR.p.trans hI.p,by have:=hR.f;have:=hI.f;omega,by have:=hR.m;omega⟩;refine aW.bind (Kq (y:=q) hb (f:=fr.f_) (s:=⟨[102,111,114],v,0,[x,y],b,[],a⟩) h8 h7 h6 _ _ w fr hs rfl hI2 hF (by have:=hR.f;omega) za (λ_=>by have:=hR.f;omega)) λz hz=>.some ⟨(hR.trans hz.1).more za,hz.2⟩
 | asg h=>rcases h with rfl | rfl | rfl <;> simp at ho
 | _=>simp at ho
theorem TA {fc fi fo:VH} (hc:HB P n [99,97,108,108] fc) (hi:HB P n [105,102] fi) (ho:HB P n [102,111,114] fo):QP P (n+1) (dS fc fi fo n):=by
 intro r fr hs s hI hF hS hn;have hm:=hI.m
 have hput:∀(x:aF) (v:Int) (sc:List Int),TX fr.f_.aO sc x->xz x<=3000->(0<=v->v<fr.f_.aO.length)->aW ((aV n r fr hs x).bind λx4=>(bO x4.2).bind λx11=>if (!x11)=true then (cF fr hs v x4.1).bind λx14=>some (x4.2,x14.1,x14.2) else some (x4.2,fr,hs)) (MP r fr hs 3002):=by
  intro x v sc h1 h2 h3;refine aW.bind ((zB hF n).1 x h1 za r za) λy hy=>?_;refine aW.bind (sN y.2) λd _=>?_;refine aW.iteb (λ_=>?_) λ_=>.some ⟨hy.rp.more za,hF.fp⟩;exact aW.bind (Md hF (by rw [hF.wl];exact h3) hy.w) λt ht=>.some ⟨hy.rp.more za,ht⟩
 unfold dS;have hS':=hS;cases hS with
 | @asg o sc x v u a h1 h2 h3 h4=>
   have hv:0<=v->v<fr.f_.aO.length:=λ_=>IV h4
   rcases h1 with rfl | rfl | rfl
   ·refine aW.iteb (λ_=>?_) λh=>dE h zc;refine aW.eqn (v:=x) rfl ?_;exact hput x _ sc h2 za hv
   ·refine aW.iteb (λh=>dE h zc) λ_=>?_;refine aW.iteb (λ_=>?_) λh=>dE h zc;refine aW.eqn (v:=x) rfl ?_;exact hput x _ sc h2 za hv
   ·refine aW.iteb (λh=>dE h zc) λ_=>?_;refine aW.iteb (λh=>dE h zc) λ_=>?_;refine aW.iteb (λ_=>?_) λh=>dE h zc;refine aW.eqn (v:=x) rfl ?_;exact hput x _ sc h2 za hv
 | @arr v u a h1 h2=>
   refine aW.iteb (λh=>dE h zc) λ_=>?_;refine aW.iteb (λh=>dE h zc) λ_=>?_;refine aW.iteb (λh=>dE h zc) λ_=>?_;refine aW.iteb (λ_=>?_) λh=>dE h zc;obtain ⟨k,ar,g1,g2,g3,g4,g5,g6⟩:=hF.arr h1 h2;refine aW.eqn g1 (aW.eqn g2 (aW.need za (.some ⟨RP.refl,rfl,rfl,rfl,hF.w,hF.r,?_⟩)));obtain ⟨g7,g8⟩:=Ax g2;refine OA λj=>?_;rw [AJ,AJ,KL]
   split
   ·rename_i hj;subst hj;rw [g8,cG (sG.1 g8).1];simp
   ·rfl
 | @put sc v u i x a h2 h3 h4 h7 h8=>
   refine aW.iteb (λh=>dE h zc) λ_=>?_;refine aW.iteb (λh=>dE h zc) λ_=>?_;refine aW.iteb (λh=>dE h zc) λ_=>?_;refine aW.iteb (λh=>dE h zc) λ_=>?_;refine aW.iteb (λ_=>?_) λh=>dE h zc;exact aW.bind (Re hF h2 h3 h4 h7 za za) λt ht=>.some ⟨ht.1.more za,ht.2⟩
 | if_=>
   refine aW.iteb (λh=>dE h zc) λ_=>?_;refine aW.iteb (λh=>dE h zc) λ_=>?_;refine aW.iteb (λh=>dE h zc) λ_=>?_;refine aW.iteb (λh=>dE h zc) λ_=>?_;refine aW.iteb (λh=>dE h zc) λ_=>?_;refine aW.iteb (λh=>dE h zc) λ_=>?_;refine aW.iteb (λ_=>?_) λh=>dE h zc;exact aW.bind (hi r fr hs _ rfl hI hF hS' za) λt ht=>.some ht
 | for_=>
   refine aW.iteb (λh=>dE h zc) λ_=>?_;refine aW.iteb (λh=>dE h zc) λ_=>?_;refine aW.iteb (λh=>dE h zc) λ_=>?_;refine aW.iteb (λh=>dE h zc) λ_=>?_;refine aW.iteb (λh=>dE h zc) λ_=>?_;refine aW.iteb (λh=>dE h zc) λ_=>?_;refine aW.iteb (λh=>dE h zc) λ_=>?_;refine aW.iteb (λ_=>?_) λh=>dE h zc;exact aW.bind (ho r fr hs _ rfl hI hF hS' za) λt ht=>.some ht
 | @ret sc x a h1 h2=>
   refine aW.iteb (λh=>dE h zc) λ_=>?_;refine aW.iteb (λh=>dE h zc) λ_=>?_;refine aW.iteb (λh=>dE h zc) λ_=>?_;refine aW.iteb (λh=>dE h zc) λ_=>?_;refine aW.iteb (λh=>dE h zc) λ_=>?_;refine aW.iteb (λh=>dE h zc) λ_=>?_;refine aW.iteb (λh=>dE h zc) λ_=>?_;refine aW.iteb (λh=>dE h zc) λ_=>?_;refine aW.iteb (λ_=>?_) λh=>dE h zc;refine aW.eqn (v:=x) rfl ?_;exact aW.bind ((zB hF _).1 x h1 za r za) λy hy=>.some ⟨hy.rp.more za,rfl,rfl,rfl,hF.w,hy.w,rfl⟩
 | call=>
   refine aW.iteb (λh=>dE h zc) λ_=>?_;refine aW.iteb (λh=>dE h zc) λ_=>?_;refine aW.iteb (λh=>dE h zc) λ_=>?_;refine aW.iteb (λh=>dE h zc) λ_=>?_;refine aW.iteb (λh=>dE h zc) λ_=>?_;refine aW.iteb (λ_=>?_) λh=>dE h zc;exact aW.bind (hc r fr hs _ rfl hI hF hS' za) λt ht=>.some ht
end
theorem FO {α:Type} {l:List α} {i:Nat} {x:α}:(l.set i x).length=l.length:=yS
structure OL (p b:Nat) (l:List aJ) (i:Nat) (rs:List Int) (hs:List (List Int)) (x:List Int × List (List Int)):Prop where
 len:x.1.length=rs.length
 low:∀j,j<p+i->x.1[j]? = rs[j]?
 pre:hs <+: x.2
 lt:(∀k ∈ rs,k<((b+hs.length:Nat):Int))->∀k ∈ x.1,k<((b+x.2.length:Nat):Int)
 ar:∀(j:Nat) v,l[j]? = some v->v.bF=4->∃k a,x.1[p+i+j]? = some ((b+k:Nat):Int)/\x.2[k]? = some a/\(a.length:Int)=v.gA
theorem HW (p b:Nat):∀(l:List aJ) (i:Nat) (rs:List Int) (hs:List (List Int)),(∀v ∈ l,sE v)->p+i+l.length<=rs.length->aW (BZ p l i b rs hs) (OL p b l i rs hs)
 | [],i,rs,hs,h,hl=>.some ⟨rfl,λ_ _=>rfl,Ig _,λh=>h,λj v hv=>by simp at hv⟩
 | v::l,i,rs,hs,h,hl=>by
   have hv:=h v (Ja ..);have ht:∀u ∈ l,sE u:=λu hu=>h u (IZ _ hu);rw [jJ] at hl;unfold BZ
   by_cases hk:v.bF=4
   ·rw [cG hk];have hs':=hv.2.2 hk;have hsz:1<=v.gA/\v.gA<=1024:=by unfold yR at hs';omega
    refine aW.need za ((HW p b l (i+1) _ _ ht (by rw [FO];omega)).mono λx hx=>?_);refine ⟨by rw [hx.len,FO],λj hj=>by rw [hx.low j za,MM za],(GR _ _).trans hx.pre,λhlt=>hx.lt λk hk'=>?_,λj u hu hku=>?_⟩
    ·rw [nB,tF]
     rcases KM hk' with hk' | hk'
     ·have:=hlt k hk';omega
     ·omega
    ·cases j with
     | zero=>
       simp only [KJ,Option.some.injEq] at hu;subst hu;refine ⟨hs.length,List.replicate v.gA.toNat 0,?_,?_,by rw [Oy];omega⟩
       ·rw [hx.low _ za,SU,Ki za]
       ·obtain ⟨z,hz⟩:=hx.pre;rw [←hz,ML,GT (tW _),Tc];rfl
     | succ j=>
       rw [ED] at hu;obtain ⟨k,a,g1,g2,g3⟩:=hx.ar j u hu hku;exact ⟨k,a,by rw [show p+i+(j+1)=p+(i+1)+j by omega];exact g1,g2,g3⟩
   ·rw [bU hk];refine (HW p b l (i+1) rs hs ht za).mono λx hx=>⟨hx.len,λj hj=>hx.low j za,hx.pre,hx.lt,λj u hu hku=>?_⟩;cases j with
    | zero=>
      simp only [KJ,Option.some.injEq] at hu;subst hu;exact dE hku hk
    | succ j=>
      rw [ED] at hu;obtain ⟨k,a,g1,g2,g3⟩:=hx.ar j u hu hku;exact ⟨k,a,by rw [show p+i+(j+1)=p+(i+1)+j by omega];exact g1,g2,g3⟩
structure Oe (f:aP) (hs:List (List Int)) (j:Nat) (to:aI):Prop where
 ff:to.f_=f
 wl:to.bP.length=f.aO.length
 al:to.aX.length=f.aO.length
 w:∀z ∈ to.bP,sP z
 r:sP to.eX
 lt:∀k ∈ to.aX,k<(hs.length:Int)
 ar:∀(i:Nat) v,f.aO[i]? = some v->v.bF=4->(i<j ∨ f.aQ.toNat<=i)->∃k a,to.aX[i]? = some k/\0<=k/\hs[k.toNat]? = some a/\(a.length:Int)=v.gA
section
variable {P:aK} {n:Nat}
theorem Jw {f:aP} (h:SY P f) (hs:List (List Int)):aW (uF f hs.length) λo=>Oe f (hs++o.2) 0 o.1:=by
 unfold uF;have h1:=h.p0;have h2:=h.p1;have h3:=h.vl;refine aW.need ⟨h1,h2,za⟩ ?_;refine aW.bind (HW f.aQ.toNat hs.length (f.aO.drop f.aQ.toNat) 0 (List.replicate f.aO.length (-1)) [] (λv hv=>h.vo v (QT hv)) (by rw [Oy,HG];omega)) λx hx=>.some ?_;refine ⟨rfl,zc,by rw [hx.len];simp,λz hz=>by rw [(PR.1 hz).2];exact sP.zero,sP.zero,λk hk=>?_,λi v hv hk hi=>?_⟩
 ·have:=hx.lt (λk hk=>by rw [(PR.1 hk).2];omega) k hk;rw [nB];exact this
 ·have hi:f.aQ.toNat<=i:=za
  obtain ⟨k,a,g1,g2,g3⟩:=hx.ar (i - f.aQ.toNat) v (by rw [QS,show f.aQ.toNat+(i - f.aQ.toNat)=i by omega];exact hv) hk;refine ⟨_,a,by rw [show i=f.aQ.toNat+0+(i - f.aQ.toNat) by omega];exact g1,za,?_,g3⟩;rw [wR,GT za,Nat.add_sub_cancel_left];exact g2
theorem put_tok {f:aP} {hs:List (List Int)} {j:Nat} {to:aI} (h:Oe f hs j to) {hs':List (List Int)} {v:Nat} {z:Int} (hv:v<f.aO.length) (hz:sP z):aW (cF to hs' (v:Int) z) λx=>Oe f hs j x.1:=by
 unfold cF;refine aW.iteb (λh'=>?_) λ_=>.some h;refine aW.bind (aW.idx (Q:=λ_=>True) za (by rw [h.wl];omega) λ_ _=>trivial) λ_ _=>.some ⟨h.ff,by rw [FO];exact h.wl,h.al,λy hy=>?_,h.r,h.lt,h.ar⟩
 rcases KM hy with hy | hy
 ·exact h.w y hy
 ·rw [hy];exact hz
theorem Oe.val {f:aP} {hs:List (List Int)} {j:Nat} {to:aI} (h:Oe f hs j to) (hk:∀v,f.aO[j]? = some v->v.bF ≠ 4):Oe f hs (j+1) to:=
 ⟨h.ff,h.wl,h.al,h.w,h.r,h.lt,λi v hv hk' hi=>h.ar i v hv hk' (by
  by_cases hij:i=j
  ·subst hij;exact dE hk' (hk v hv)
  ·omega)⟩
theorem Ew {fr:aI} {hs h2:List (List Int)} {sc:List Int} {f:aP} (hF:DI fr hs) (hf:SY P f):∀(l:List aF) (j:Nat) r (to:aI),
  (∀(i:Nat) x,l[i]? = some x->∃p,f.aO[j+i]? = some p/\Bq fr.f_.aO sc p x)->Oe f (hs++h2) j to->2*oY l+40<=n->r.bT.length+oY l<=1073741824 ->
  aW (mN n fr hs h2 l j r to) λc=>match c with
   | .inl r'=>RP r (oY l) r'
   | .inr x=>RP r (oY l) x.1/\Oe f (hs++h2) (j+l.length) x.2
 | [],j,r,to,_,hT,_,_=>.some ⟨RP.refl,hT⟩
 | x::l,j,r,to,hA,hT,hn,ht=>by
   obtain ⟨p,hp,ha⟩:=hA 0 x rfl;rw [SU] at hp;have hjl:=(sG.1 hp).1
   have hA':∀(i:Nat) y,l[i]? = some y->∃p,f.aO[j+1+i]? = some p/\Bq fr.f_.aO sc p y:=λi y hy=>by
    have:=hA (i+1) y (by rw [ED];exact hy);rw [show j+1+i=j+(i+1) by omega];exact this
   rw [oY] at hn ht ⊢;have hlen:j+(x::l).length=j+1+l.length:=by rw [jJ];omega
   rw [hlen];unfold mN
   have hval:TX fr.f_.aO sc x->x.cP ≠ 4->p.bF ≠ 4->aW (if x.cP=4 then
    (aS fr.aX x.cZ).bind λk=>
    iE (0<=k/\k<(hs.length:Int)/\j<to.aX.length) <|
    mN n fr hs h2 l (j+1) r { to with aX:=to.aX.set j k }
   else
    (aV n r fr hs x).bind λv=>
    (bO v.2).bind λe=>
    if e=true then some (.inl v.2) else
    (cF to (hs++h2) (j:Int) v.1).bind λt=>
    mN n fr hs h2 l (j+1) v.2 t.1) λc=>match c with
    | .inl r'=>RP r (xz x+oY l) r'
    | .inr z=>RP r (xz x+oY l) z.1/\Oe f (hs++h2) (j+1+l.length) z.2:=by
    intro hx h4 hk;rw [bU h4];refine aW.bind ((zB hF n).1 x hx za r za) λy hy=>?_;refine aW.bind (sN y.2) λd _=>?_;have hyt:=hy.t;refine aW.iteb (λ_=>.some (hy.rp.more za)) λ_=>?_;refine aW.bind (put_tok hT hjl hy.w) λt ht'=>?_;refine (Ew hF hf l (j+1) y.2 t.1 hA' (ht'.val λv hv=>by rw [hp] at hv;cases hv;exact hk) za za).mono λc hc=>?_;cases c with
    | inl r'=>exact hy.rp.trans hc
    | inr z=>exact ⟨hy.rp.trans hc.1,hc.2⟩
   cases ha with
   | pub h1 h2 h3=>exact hval h2 (by rw [h3];decide) za
   | val h1 h2 h3 h4=>
     refine hval h3 ?_ h2;have:=(h3.range hF.vo).2;omega
   | @arr v u a h1 h2' h3 h4 h5=>
     rw [cG (by rfl)];obtain ⟨k,ar,g1,g2,g3,g4,g5,g6⟩:=hF.arr h3 h4;refine aW.eqn g1 ?_;obtain ⟨g7,g8⟩:=Ax g2;have hkl:=(sG.1 g8).1;refine aW.need ⟨g6,za,by rw [hT.al];exact hjl⟩ ?_
     have hT':Oe f (hs++h2) (j+1) { to with aX:=to.aX.set j k }:=by
      refine ⟨hT.ff,hT.wl,by rw [FO];exact hT.al,hT.w,hT.r,λq hq=>?_,λi w hw hk' hi=>?_⟩
      ·rcases KM hq with hq | hq
       ·exact hT.lt q hq
       ·rw [hq,nB];omega
      ·show ∃q a,(to.aX.set j k)[i]? = some q/\_
       by_cases hij:i=j
       ·subst hij;rw [hp] at hw;cases hw
        exact ⟨k,ar,by rw [Ki (by rw [hT.al];exact hjl)],g6,by rw [HH hkl];exact g8,by rw [g3,h5]⟩
       ·rw [MM za];exact hT.ar i w hw hk' za
     refine (Ew hF hf l (j+1) r _ hA' hT' za za).mono λc hc=>?_;cases c with
     | inl r'=>exact hc.more za
     | inr z=>exact ⟨hc.1.more za,hc.2⟩
theorem Oe.frok {f:aP} {hs:List (List Int)} {j:Nat} {to:aI} (h:Oe f hs j to) (hj:f.aQ.toNat<=j) (hf:SY P f):DI to hs:=by
 refine ⟨by rw [h.ff];exact h.wl,by rw [h.ff];exact h.al,h.w,h.r,h.lt,λi v hv hk=>h.ar i v (by rw [←h.ff];exact hv) hk za,λv hv=>hf.vo v (by rw [←h.ff];exact hv)⟩
end
section
variable {P:aK} {n:Nat}
theorem Vf {blk:BkF} (hb:Kf P n blk) (hP:∀k f,aS P.aU k=some f->SY P f) {r:aE} {fr:aI} {hs:List (List Int)} {s:aA} {sc:List Int} {q:Int} {ps:List aJ}
  (hI:RI P 999996000 r) (hF:DI fr hs) (hz:oY s.aM<=3000) (hn:3*r.dO.toNat+50001<=n+1) (hg:SG P s.gI q ps) (ha:zS fr.f_.aO sc ps s.aM) (hv:0<=s.cZ->s.cZ<fr.f_.aO.length) :
  aW (dZ blk n r fr hs s) (MP r fr hs 3002):=by
 obtain ⟨f,hf,rfl,rfl⟩:=hg;have hm:=hI.m;have hT:=hP _ f hf;have hsl:=GQ s.aM;unfold dZ;refine aW.need za ?_;refine aW.eqn (v:=f) (by rw [hI.p];exact hf) ?_;refine aW.bind (Jw hT hs) λo ho=>?_;have h0:=hT.p0;have h1:=hT.p1;have hpl:(f.aO.take f.aQ.toNat).length=f.aQ.toNat:=by rw [EC];omega
 refine aW.bind (Ew (n:=n) (sc:=sc) hF hT s.aM 0 r o.1 (λi x hx=>?_) ho za za) λc hc=>?_
 ·have hi:=(sG.1 hx).1;have hi2:i<(f.aO.take f.aQ.toNat).length:=by rw [←ha.1];exact hi
  refine ⟨(f.aO.take f.aQ.toNat)[i],?_,ha.2 i _ x (tS hi2) hx⟩;rw [ES,List.getElem_take];exact tS _
 cases c with
 | inl r'=>exact .some ⟨RP.more hc za,hF.fp⟩
 | inr c=>
   obtain ⟨hc1,hc2⟩:=hc;rw [ES,ha.1,hpl] at hc2;have hFr:=hc2.frok (tW _) hT;refine aW.bind (hb c.1 c.2 (hs++o.2) c.2.f_.bR ⟨hc1.p.trans hI.p,by have:=hc1.f;have:=hI.f;omega,by have:=hc1.m;omega⟩ hFr (λt ht=>by rw [hc2.ff] at ht ⊢;exact hT.body t ht) (by rw [hc2.ff];exact hT.sz) (by have:=hc1.f;omega)) λb hb'=>?_;have hR:RP r 3002 b.1:=(hc1.trans hb'.1).more za
   have hlen:(b.2.2.take hs.length).map List.length=hs.map List.length:=by
    rw [List.map_take,hb'.2.h,xds];have:(hs.map List.length).length=hs.length:=wM ..;rw [←this,List.take_left]
   have hFP:FP fr hs fr (b.2.2.take hs.length):=⟨rfl,rfl,rfl,hF.w,hF.r,hlen⟩;refine aW.bind (sN b.1) λd _=>?_;refine aW.iteb (λ_=>.some ⟨hR,hFP⟩) λ_=>?_;refine aW.ite (λ_=>.some ⟨hR,rfl,rfl,rfl,hF.w,hb'.2.r,hlen⟩) λ_=>?_;refine aW.bind (Md (hFP.ok hF) (v:=s.cZ) (z:=b.2.1.eX) (by rw [hF.wl];exact hv) hb'.2.r) λp hp=>.some ⟨hR,hFP.trans hp⟩
theorem Vc {blk:BkF} (hb:Kf P n blk) (hP:∀k f,aS P.aU k=some f->SY P f):HB P (n+1) [99,97,108,108] (dZ blk n):=by
 intro r fr hs s ho hI hF hT hn;cases hT with
 | call h1 h2 h3 h4=>exact Vf hb hP hI hF h3 hn h1 h2 h4
 | asg h=>rcases h with rfl | rfl | rfl <;> simp at ho
 | _=>simp at ho
theorem Qw (hP:∀k f,aS P.aU k=some f->SY P f):∀n,Kf P n (dA n)/\QP P n (fT n)/\HB P n [99,97,108,108] (iV n)/\HB P n [105,102] (iA n)/\HB P n [102,111,114] (gZ n)
 | 0=>⟨λ_ _ _ _ _ _ _ _ h=>za,λ_ _ _ _ _ _ _ h=>za,λ_ _ _ _ _ _ _ _ h=>za,λ_ _ _ _ _ _ _ _ h=>za,λ_ _ _ _ _ _ _ _ h=>za⟩
 | n+1=>by
   obtain ⟨i1,i2,i3,i4,i5⟩:=Qw hP n
   have e:bQ (n+1)=(eT (fT n) n,dS (iV n) (iA n) (gZ n) n,dZ (dA n) n,eK (dA n) n,eJ (dA n) n):=by
    rw [bQ];rfl
   have e1:dA (n+1)=eT (fT n) n:=by show (bQ (n+1)).1=_;rw [e]
   have e2:fT (n+1)=dS (iV n) (iA n) (gZ n) n:=by show (bQ (n+1)).2.1=_;rw [e]
   have e3:iV (n+1)=dZ (dA n) n:=by show (bQ (n+1)).2.2.1=_;rw [e]
   have e4:iA (n+1)=eK (dA n) n:=by show (bQ (n+1)).2.2.2.1=_;rw [e]
   have e5:gZ (n+1)=eJ (dA n) n:=by show (bQ (n+1)).2.2.2.2=_;rw [e]
   rw [e1,e2,e3,e4,e5];exact ⟨Pk i2,TA i3 i4 i5,Vc i1 hP,Px i1,OU i1⟩
end
def Gz (a:T_interp_Args):List aJ->Nat->Nat->Prop
 | [],_,_=>True
 | v::l,w,k=>if v.bF=4 then (∃x,a.iX[k]? = some x/\(x.length:Int)=v.gA)/\Gz a l w (k+1) else (∃x,a.tE[w]? = some x)/\Gz a l (w+1) k
theorem Ml {f:aP} {a:T_interp_Args} (hl:(f.aO.take f.aQ.toNat).length<=5000):∀(c i w k:Nat),i<=(f.aO.take f.aQ.toNat).length->(f.aO.take f.aQ.toNat).length<i+c->w<=i->k<=i ->
  aW (pI f a c (w:Int) (k:Int) (i:Int)) λs=>match s with
   | .inl _=>Gz a ((f.aO.take f.aQ.toNat).drop i) w k
   | .inr b=>b=false:=by
 intro c
 induction c with
 | zero=>intro i w k h1 h2;omega
 | succ c ih=>
   intro i w k h1 h2 h3 h4;unfold pI;refine aW.iteb (λh=>?_) λh=>?_
   ·have h:=EG h;have hi:i<(f.aO.take f.aQ.toNat).length:=za
    have hd:(f.aO.take f.aQ.toNat).drop i=(f.aO.take f.aQ.toNat)[i]::(f.aO.take f.aQ.toNat).drop (i+1):=On hi;rw [hd]
    refine aW.bind (P:=λy=>match y with
     | .inl x=>∃w' k':Nat,x=((w':Int),(k':Int))/\w'<=i+1/\k'<=i+1/\(Gz a ((f.aO.take f.aQ.toNat).drop (i+1)) w' k'->Gz a ((f.aO.take f.aQ.toNat)[i]::(f.aO.take f.aQ.toNat).drop (i+1)) w k)
     | .inr b=>b=false) ?_ λy hy=>?_
    ·refine aW.eqn (v:=(f.aO.take f.aQ.toNat)[i]) (Bj (tS hi) rfl) ?_;refine aW.iteb (λhk=>?_) λhk=>?_
     ·have hk:(f.aO.take f.aQ.toNat)[i].bF=4:=by simpa using hk
      refine aW.bind (P:=λb=>b=false->∃x,a.iX[k]? = some x/\(x.length:Int)=(f.aO.take f.aQ.toNat)[i].gA) ?_ λb hb=>?_
      ·refine aW.iteb (λ_=>.some λh=>by cases h) λhkl=>?_;have hkl:=PP hkl;have hk2:k<a.iX.length:=za
       refine aW.eqn (v:=a.iX[k]) (Bj (tS hk2) rfl) (.some λh=>⟨_,tS hk2,by simpa using h⟩)
      ·refine aW.iteb (λ_=>.some rfl) λhb'=>.some ⟨w,k+1,?_,za,za,λhr=>?_⟩
       ·rw [fD za za];rfl
       ·unfold Gz;rw [cG hk];exact ⟨hb hb',hr⟩
     ·have hk:¬ (f.aO.take f.aQ.toNat)[i].bF=4:=by simpa using hk
      refine aW.bind (P:=λb=>b=false->∃x,a.tE[w]? = some x) ?_ λb hb=>?_
      ·refine aW.iteb (λ_=>.some λh=>by cases h) λhkl=>?_;have hkl:=PP hkl;have hk2:w<a.tE.length:=za
       refine aW.iteb (λ_=>aW.eqn (v:=a.tE[w]) (Bj (tS hk2) rfl) (.some λ_=>⟨_,tS hk2⟩)) λ_=>.some λ_=>⟨_,tS hk2⟩
      ·refine aW.iteb (λ_=>.some rfl) λhb'=>.some ⟨w+1,k,?_,za,za,λhr=>?_⟩
       ·rw [fD za za];rfl
       ·unfold Gz;rw [bU hk];exact ⟨hb hb',hr⟩
    ·cases y with
     | inr b=>exact .some hy
     | inl x=>
       obtain ⟨w',k',rfl,g1,g2,g3⟩:=hy;show aW (pI f a c (w':Int) (k':Int) _) _;rw [fD za za];refine (ih (i+1) w' k' za za g1 g2).mono λs hs=>?_;cases s with
       | inl _=>exact g3 hs
       | inr b=>exact hs
   ·have h:=PP h;rw [xea za];exact .some trivial
section
variable {P:aK} {n:Nat}
theorem Li {f:aP} {a:T_interp_Args} (hf:SY P f) (hn:6000<=n):aW (rR n f a) λb=>b=true->Gz a (f.aO.take f.aQ.toNat) 0 0:=by
 unfold rR;have h1:=hf.vl;have hl:(f.aO.take f.aQ.toNat).length<=5000:=by rw [EC];omega
 refine aW.need ⟨hf.p0,hf.p1⟩ (aW.bind (Ml hl n 0 0 0 za za za za) λy hy=>?_);cases y with
 | inl x=>
   rw [sR] at hy;exact aW.bind (P:=λ_=>True) (aW.iteb (λ_=>.some trivial) λ_=>.some trivial) λb _=>.some λ_=>hy
 | inr b=>exact .some λh=>by rw [hy] at h;cases h
theorem Oe.app {f:aP} {hs:List (List Int)} {j:Nat} {to:aI} (h:Oe f hs j to) (x:List Int):Oe f (hs++[x]) j to:=by
 refine ⟨h.ff,h.wl,h.al,h.w,h.r,λk hk=>by have:=h.lt k hk;rw [nB];omega,λi v hv hk hi=>?_⟩;obtain ⟨k,a,g1,g2,g3,g4⟩:=h.ar i v hv hk hi;exact ⟨k,a,g1,g2,by rw [HH (sG.1 g3).1];exact g3,g4⟩
theorem BY {f:aP} {a:T_interp_Args} (hf:SY P f) (ha:∀z ∈ a.tE,sP z):∀(l:List aJ) (i w k:Nat) (to:aI) (hs:List (List Int)),(∀(j:Nat) v,l[j]? = some v->f.aO[i+j]? = some v)->Gz a l w k->Oe f hs i to ->
  aW (sF a l i w k to hs) λt=>Oe f t.2 (i+l.length) t.1
 | [],i,w,k,to,hs,_,_,h=>.some h
 | v::l,i,w,k,to,hs,hv,hp,h=>by
   have hv0:f.aO[i]? = some v:=hv 0 v rfl;have hil:=(sG.1 hv0).1
   have hv':∀(j:Nat) u,l[j]? = some u->f.aO[i+1+j]? = some u:=λj u hu=>by
    have:=hv (j+1) u (by rw [ED];exact hu);rw [show i+1+j=i+(j+1) by omega];exact this
   have hlen:i+(v::l).length=i+1+l.length:=by rw [jJ];omega
   rw [hlen];unfold sF;unfold Gz at hp
   by_cases hk:v.bF=4
   ·rw [cG hk] at hp ⊢;obtain ⟨⟨x,hx,hsz⟩,hp⟩:=hp;have hs':=(hf.vo v (zX hv0)).2.2 hk;have hs2:1<=v.gA/\v.gA<=1024:=by unfold yR at hs';omega
    refine aW.eqn (Bj hx rfl) (aW.need ⟨za,za,by rw [h.al];exact hil⟩ ?_);refine BY hf ha l (i+1) w (k+1) _ _ hv' hp ?_;have h':=h.app x;refine ⟨h'.ff,h'.wl,by rw [FO];exact h'.al,h'.w,h'.r,λq hq=>?_,λj u hu hk' hj=>?_⟩
    ·rcases KM hq with hq | hq
     ·exact h'.lt q hq
     ·rw [hq,nB,tF];omega
    ·show ∃q a,(to.aX.set i (hs.length:Int))[j]? = some q/\_
     by_cases hij:j=i
     ·subst hij;rw [hv0] at hu;cases hu
      exact ⟨_,x,by rw [Ki (by rw [h.al];exact hil)],za,by rw [wR,GT (tW _),Tc];rfl,hsz⟩
     ·rw [MM za];exact h'.ar j u hu hk' za
   ·rw [bU hk] at hp ⊢;obtain ⟨⟨x,hx⟩,hp⟩:=hp;refine aW.eqn (Bj hx rfl) (aW.need (by rw [h.wl];exact hil) ?_);refine BY hf ha l (i+1) (w+1) k _ _ hv' hp ?_;have h':=h.val (λu hu=>by rw [hv0] at hu;cases hu;exact hk);refine ⟨h'.ff,by rw [FO];exact h'.wl,h'.al,λy hy=>?_,h'.r,h'.lt,h'.ar⟩
    rcases KM hy with hy | hy
    ·exact h'.w y hy
    ·rw [hy];exact ha x (zX hx)
theorem Ju {hs:List (List Int)} {fr:aI} (hF:DI fr hs):∀(l:List aJ) (i:Nat) (out:List (List Int)),(∀(j:Nat) v,l[j]? = some v->fr.f_.aO[i+j]? = some v)->aW (Iy hs l i fr.aX out) λo=>o.length<=out.length+l.length/\((∀y ∈ out,y.length<=1024)->∀y ∈ o,y.length<=1024)
 | [],i,out,_=>.some ⟨tW _,λh=>h⟩
 | v::l,i,out,hv=>by
   have hv':∀(j:Nat) u,l[j]? = some u->fr.f_.aO[i+1+j]? = some u:=λj u hu=>by
    have:=hv (j+1) u (by rw [ED];exact hu);rw [show i+1+j=i+(j+1) by omega];exact this
   unfold Iy;refine aW.ite (λhk=>?_) λ_=>(Ju hF l (i+1) out hv').mono λo ho=>⟨by have:=ho.1;rw [jJ];omega,ho.2⟩;obtain ⟨k,a,g1,g2,g3,g4⟩:=hF.ar i v (hv 0 v rfl) hk;refine aW.eqn (Bj g1 rfl) (aW.need g2 ?_);refine aW.eqn (v:=a) (by unfold aS;rw [cG g2];exact g3) ?_;have hs':=(hF.vo v (zX (hv 0 v rfl))).2.2 hk;have hs2:v.gA<=1024:=by unfold yR at hs';omega
   refine (Ju hF l (i+1) _ hv').mono λo ho=>⟨by have:=ho.1;rw [nB,tF] at this;rw [jJ];omega,λh=>ho.2 λy hy=>?_⟩
   rcases BV.1 hy with hy | hy
   ·exact h y hy
   ·rw [zA.1 hy];omega
def FF (n:Nat) (P:aK) (fn:Int) (a:T_interp_Args):Prop:=(fn<0 ∨ (P.aU.length:Int)<=fn) ∨ ∃f,aS P.aU fn=some f/\rR n f a=some false
theorem Qc (hP:∀k f,aS P.aU k=some f->SY P f) {fn:Int} {a:T_interp_Args} (ha:∀z ∈ a.tE,sP z) {fuel:Int} (h1:fuel<=2000) (hn:70000<=n):aW (sB n P fn a fuel) λx=>(x.2=0/\¬ FF n P fn a/\x.1.uL.length<=9000000/\x.1.iX.length<=5000/\∀y ∈ x.1.iX,y.length<=1024) ∨ (x.2=10/\FF n P fn a) ∨ (x.2=11/\(fn<0 ∨ (P.aU.length:Int)<=fn)) ∨ (x.2=70/\¬ FF n P fn a):=by
 unfold sB;refine aW.ite (λh=>.some (.inr (.inr (.inl ⟨rfl,h⟩)))) λh=>?_
 obtain ⟨f,hf⟩:∃f,aS P.aU fn=some f:=by
  obtain ⟨f,e,_⟩:=aW.idx (l:=P.aU) (i:=fn) (Q:=λ_=>True) za za λ_ _=>trivial;exact ⟨f,e⟩
 have hT:=hP fn f hf;have hp1:=hT.p1;have hp0:=hT.p0;have hvl:=hT.vl;refine aW.eqn hf ?_;refine aW.bind (Jw hT []) λo ho=>?_;obtain ⟨b,eb,hb⟩:=Li (a:=a) hT (show 6000<=n by omega);refine aW.eqn eb ?_;refine aW.ite (λh0=>.some (.inr (.inl ⟨rfl,.inr ⟨f,hf,h0 ▸ eb⟩⟩))) λhb0=>?_;have hb':=hb (by simpa using hb0)
 have hnb:¬ FF n P fn a:=λhB=>by
  rcases hB with hB | ⟨f',k1,k2⟩
  ·exact h hB
  ·rw [hf] at k1;cases k1
   rw [eb] at k2;cases k2
   exact hb0 rfl
 have hpl:(f.aO.take f.aQ.toNat).length=f.aQ.toNat:=by rw [EC];omega
 refine aW.bind (BY hT ha (f.aO.take f.aQ.toNat) 0 0 0 o.1 o.2 (λj v hv=>?_) hb' (by simpa using ho)) λt ht=>?_
 ·rw [ES];rw [MJ] at hv
  split at hv
  ·exact hv
  ·cases hv
 have hFr:=ht.frok (by rw [hpl];omega) hT;refine aW.bind ((Qw hP n).1 ⟨P,fuel,0,0,[]⟩ t.1 t.2 f.bR ⟨rfl,yz,by simp only [mO];omega⟩ hFr (λs hs=>by rw [ht.ff];exact hT.body s hs) hT.sz yz) λw hw=>?_;refine aW.ite (λhe=>.some ?_) λ_=>?_
 ·rcases hw.1.e with e | e
  ·exact dE e he
  ·exact .inr (.inr (.inr ⟨e,hnb⟩))
 have hFw:=hw.2.ok hFr;refine aW.bind (P:=λo=>o.uL.length<=9000000/\o.iX.length<=5000/\∀y ∈ o.iX,y.length<=1024) ?_ λo ho=>.some (.inl ⟨rfl,hnb,ho⟩);unfold AD;have hwm:=hw.1.m;simp only [mO] at hwm;have hwf:w.2.1.f_=f:=hw.2.f.trans ht.ff;refine aW.need ⟨hFw.lt,by rw [hwf];exact hp0,by rw [hwf];exact hp1,by rw [hwf];omega⟩ ?_;refine aW.bind (Ju hFw _ 0 [] λj v hv=>?_) λo ho=>.some ⟨yz,by have:=ho.1;rw [EC,hwf] at this;simp only [mO] at this ⊢;omega,ho.2 λy hy=>by cases hy⟩;rw [ES];rw [MJ] at hv
 split at hv
 ·exact hv
 ·cases hv
end
def Tw {α β:Type} (R:α->β->Prop) (x:Option α) (y:Option β):Prop:=∀a b,x=some a->y=some b->R a b
section
variable {α β γ δ:Type} {R:α->β->Prop} {S:γ->δ->Prop} {x:Option α} {y:Option β} {f:α->Option γ} {g:β->Option δ}
theorem Tw.some {a:α} {b:β} (h:R a b):Tw R (some a) (some b):=λx y hx hy=>by cases hx;cases hy;exact h
theorem Tw.bind (h:Tw R x y) (k:∀a b,R a b->Tw S (f a) (g b)):Tw S (x.bind f) (y.bind g):=λc d hc hd=>by
 obtain ⟨a,h1,h2⟩:=aD hc;obtain ⟨b,h3,h4⟩:=aD hd;exact k a b (h a b h1 h3) c d h2 h4
theorem Tw.any (k:∀a b,x=Option.some a->y=Option.some b->Tw S (f a) (g b)):Tw S (x.bind f) (y.bind g):=λc d hc hd=>by
 obtain ⟨a,h1,h2⟩:=aD hc;obtain ⟨b,h3,h4⟩:=aD hd;exact k a b h1 h3 c d h2 h4
theorem Tw.same {g:α->Option δ} (k:∀a,x=Option.some a->Tw S (f a) (g a)):Tw S (x.bind f) (x.bind g):=Tw.any λa b h1 h2=>by
 rw [h1] at h2;cases h2;exact k a h1
theorem Tw.bindE {x y:Option α} {g:α->Option δ} (h:Tw Eq x y) (k:∀a,Tw S (f a) (g a)):Tw S (x.bind f) (y.bind g):=Tw.bind h λa b e=>by subst e;exact k a
theorem Tw.ite {c:Prop} [Decidable c] {x':Option α} {y':Option β} (h1:c->Tw R x y) (h2:¬ c->Tw R x' y'):Tw R (if c then x else x') (if c then y else y'):=by
 by_cases hc:c
 ·rw [cG hc,cG hc];exact h1 hc
 ·rw [bU hc,bU hc];exact h2 hc
theorem Tw.need {c d:Prop} [Decidable c] [Decidable d] (h:c->d->Tw R x y):Tw R (iE c x) (iE d y):=λa b ha hb=>by
 obtain ⟨h1,h2⟩:=bN ha;obtain ⟨h3,h4⟩:=bN hb;exact h h1 h3 a b h2 h4
theorem Tw.none {y:Option β}:Tw R (none:Option α) y:=λa b ha=>by cases ha
theorem Tw.noneR {x:Option α}:Tw R x (Option.none:Option β):=λa b _ hb=>by cases hb
theorem Tw.map {γ δ:Type} {S:γ->δ->Prop} {x:Option α} {h:α->β} {f:α->Option γ} {g:β->Option δ} (k:∀a,x=Option.some a->Tw S (f a) (g (h a))):Tw S (x.bind f) ((x.map h).bind g):=λc d hc hd=>by
 obtain ⟨a,h1,h2⟩:=aD hc;rw [h1,FI,nA] at hd;exact k a h1 c d h2 hd
theorem Tw.refl {x:Option α}:Tw Eq x x:=λa b ha hb=>by
 rw [ha] at hb;cases hb;rfl
end
theorem Uc {s:cQ}:∀(c d:Nat) (j:Int),Tw Eq (qO s c j) (qO s d j)
 | 0,_,_=>Tw.none
 | _,0,_=>Tw.noneR
 | c+1,d+1,j=>by
   unfold qO;exact Tw.ite (λ_=>Tw.same λx _=>Tw.ite (λ_=>Tw.refl) λ_=>Uc c d _) λ_=>Tw.refl
theorem QO {s:cQ} (n m:Nat):Tw Eq (sL n s) (sL m s):=by
 unfold sL;exact Tw.bindE (Uc n m 0) λ_=>Tw.refl
theorem Jv {vs:List Int}:∀(c d:Nat) (j:Int) (t:bH),Tw Eq (cU vs c j t) (cU vs d j t)
 | 0,_,_,_=>Tw.none
 | _,0,_,_=>Tw.noneR
 | c+1,d+1,j,t=>by
   unfold cU;exact Tw.ite (λ_=>Tw.same λx _=>Tw.same λy _=>Tw.need λ_ _=>Jv c d _ _) λ_=>Tw.refl
theorem Gc:∀(n m:Nat) (t:bH) (l:List Int),Tw Eq (nZ n t l) (nZ m t l)
 | 0,_,_,_=>Tw.none
 | _,0,_,_=>Tw.noneR
 | n+1,m+1,t,l=>by
   rw [nZ,nZ];unfold vY;exact Tw.ite (λ_=>Tw.refl) λ_=>Tw.same λx _=>Tw.bindE (Gc n m x l) λa=>Tw.same λb _=>Tw.ite (λ_=>Tw.refl) λ_=>Tw.same λy _=>Tw.bindE (Gc n m y l) λc=>Tw.refl
structure Rr (r s:aE):Prop where
 t:s.cN=r.cN
 tr:s.bT=r.bT
 e:r.e_=0
 e':s.e_=0
def VX (a b:Int × aE):Prop:=b.1=a.1/\Rr a.2 b.2
variable {r s:aE}
theorem Rr.ended (h:Rr r s):bO s=bO r:=by
 unfold bO;rw [h.t,h.e,h.e']
theorem Rr.see {a b c:Int} (h:Rr r s):Tw Rr (cX r a b c) (cX s a b c):=by
 unfold cX;exact Tw.need λ_ _=>.some ⟨h.t,by simp only [h.tr],h.e,h.e'⟩
theorem Pb {e e':aF} {vs:List Int} (h:Rr r s) (ho:e'.eG=e.eG) (hl:e'.aM.length=e.aM.length) (ht:∀x y,aS e.aM 0=some x->aS e'.aM 0=some y->y.cP=x.cP) (n m:Nat) :
  Tw VX (fQ n r e vs) (fQ m s e' vs):=by
 unfold fQ;rw [ho,hl]
 have hT:∀ {r s:aE} (y:Int × Bool),Rr r s->Tw VX (if (!y.2)=true then some ((u64.wrap y.1),({ r with cN:=(2:Int) }:aE)) else some ((u64.wrap y.1),r)) (if (!y.2)=true then some ((u64.wrap y.1),({ s with cN:=(2:Int) }:aE)) else some ((u64.wrap y.1),s)):=λy h=>
  Tw.ite (λ_=>.some ⟨rfl,rfl,h.tr,h.e,h.e'⟩) λ_=>.some ⟨rfl,h⟩
 have hY:Tw Eq (if (decide ((0:Int)<(e.aM.length:Int)))=true then (aS e.aM (0:Int)).bind λx4=>some (x4.cP == (3:Int)) else some false) (if (decide ((0:Int)<(e.aM.length:Int)))=true then (aS e'.aM (0:Int)).bind λx4=>some (x4.cP == (3:Int)) else some false):=
  Tw.ite (λ_=>Tw.any λa b h1 h2=>.some (by rw [ht a b h1 h2])) λ_=>Tw.refl
 refine Tw.bindE hY λy2=>Tw.ite (λ_=>Tw.same λx _=>Tw.ite (λ_=>Tw.same λ_ _=>Tw.same λ_ _=>.some ⟨rfl,h⟩) λ_=>Tw.same λ_ _=>Tw.ite ?_ ?_) λ_=>Tw.ite (λ_=>Tw.same λ_ _=>Tw.same λ_ _=>.some ⟨rfl,h⟩) λ_=>Tw.same λ_ _=>Tw.ite ?_ ?_
 ·exact λ_=>Tw.same λ_ _=>Tw.bind h.see λa b hab=>Tw.bindE (QO n m) λk=>Tw.bindE (Jv n m _ _) λt=>Tw.bindE (Gc n m t []) λy=>hT y hab
 ·exact λ_=>Tw.bindE (QO n m) λk=>Tw.bindE (Jv n m _ _) λt=>Tw.bindE (Gc n m t []) λy=>hT y h
 ·exact λ_=>Tw.same λ_ _=>Tw.bind h.see λa b hab=>Tw.bindE (QO n m) λk=>Tw.bindE (Jv n m _ _) λt=>Tw.bindE (Gc n m t []) λy=>hT y hab
 ·exact λ_=>Tw.bindE (QO n m) λk=>Tw.bindE (Jv n m _ _) λt=>Tw.bindE (Gc n m t []) λy=>hT y h
structure VRf (vs:List aJ) (sc as:List Int) (fr fx:aI) (hs hx:List (List Int)):Prop where
 w:∀v ∈ sc,∀u,aS vs v=some u->u.bF ≠ 4->∀a b,aS fr.bP v=some a->aS fx.bP (mp as v)=some b->b=a
 a:∀v ∈ sc,∀u,aS vs v=some u->u.bF=4->∀k k',aS fr.aX v=some k->aS fx.aX (mp as v)=some k'->aS hx k'=aS hs k
theorem QA (as:List Int) (l:List aF):(EE as l).length=l.length:=by
 induction l with
 | nil=>rfl
 | cons x l ih=>rw [EE,jJ,jJ,ih]
theorem fxL_get (as:List Int) (l:List aF) (i:Nat):(EE as l)[i]? = (l[i]?).map (fx as):=by
 induction l generalizing i with
 | nil=>rfl
 | cons x l ih=>
   rw [EE];cases i with
   | zero=>rfl
   | succ i=>exact ih i
theorem QB (as:List Int) (l:List aF) (i:Int):aS (EE as l) i=(aS l i).map (fx as):=by
 unfold aS
 split
 ·exact fxL_get as l _
 ·rfl
abbrev VlF:=aE->aI->List (List Int)->aF->Option (Int × aE)
def AX:((List Int × aE) ⊕ (Int × aE))->((List Int × aE) ⊕ (Int × aE))->Prop
 | .inl a,.inl b=>b.1=a.1/\Rr a.2 b.2
 | .inr a,.inr b=>VX a b
 | _,_=>False
section
variable {vs:List aJ} {sc as:List Int} {fr fx':aI} {hs hx:List (List Int)}
theorem QJ {rc sd:VlF} {e:aF} (hr:∀x ∈ e.aM,∀r s,Rr r s->Tw VX (rc r fr hs x) (sd s fx' hx (fx as x))):∀(c d:Nat) (l:List Int) (j:Int) r s,Rr r s ->
  Tw AX (eI rc e fr hs c l j r) (eI sd (fx as e) fx' hx d l j s)
 | 0,_,_,_,_,_,_=>Tw.none
 | _,0,_,_,_,_,_=>Tw.noneR
 | c+1,d+1,l,j,r,s,h=>by
   have hl:(fx as e).aM=EE as e.aM:=by rw [Aj]
   unfold eI;rw [hl,QA];refine Tw.ite (λ_=>?_) λ_=>.some ⟨rfl,h⟩;rw [QB];refine Tw.map λx hx1=>?_;obtain ⟨_,hx2⟩:=Ax hx1;refine Tw.bind (hr x (zX hx2) r s h) λa b hab=>?_;rw [hab.2.ended,hab.1];exact Tw.same λz _=>Tw.ite (λ_=>.some ⟨rfl,hab.2⟩) λ_=>Tw.need λ_ _=>QJ hr c d _ _ _ _ hab.2
theorem wS (hV:VRf vs sc as fr fx' hs hx):∀N M:Nat,
  (∀e,TX vs sc e->∀r s,Rr r s->Tw VX (aV N r fr hs e) (aV M s fx' hx (fx as e))) ∧
  (∀e v u,TX vs sc e->v ∈ sc->aS vs v=some u->u.bF=4->∀r s,Rr r s->Tw VX (fW N r fr hs e v) (fW M s fx' hx (fx as e) (mp as v)))
 | 0,_=>⟨λ_ _ _ _ _=>Tw.none,λ_ _ _ _ _ _ _ _ _ _=>Tw.none⟩
 | _,0=>⟨λ_ _ _ _ _=>Tw.noneR,λ_ _ _ _ _ _ _ _ _ _=>Tw.noneR⟩
 | N+1,M+1=>by
   obtain ⟨ihv,ihi⟩:=wS hV N M;rw [FJ,FJ,FY,FY];refine ⟨λe he r s h=>?_,λe v u he hv hu hk r s h=>?_⟩
   ·have key:∀(e:aF),(∀x ∈ e.aM,TX vs sc x)->e.eG ≠ [110,117,109]->e.eG ≠ [118,97,114]->e.eG ≠ [105,110,100,101,120]->Tw VX (dG (fW N) (aV N) N r fr hs e) (dG (fW M) (aV M) M s fx' hx (fx as e)):=by
     intro e hl h1 h2 h3;obtain ⟨f1,f2,f3⟩:=iD as e;have f4:(fx as e).aM=EE as e.aM:=by rw [Aj]
     unfold dG;rw [f2,bU (by simpa using h1),bU (by simpa using h2),bU (by simpa using h3),bU (by simpa using h1),bU (by simpa using h2),bU (by simpa using h3)];refine Tw.bind (QJ (λx hx r s h=>ihv x (hl x hx) r s h) N M [] 0 r s h) λp q hpq=>?_;cases p with
     | inl a=>
       cases q with
       | inr b=>exact hpq.elim
       | inl b=>
         obtain ⟨g1,g2⟩:=hpq;show Tw VX ((sX e.eG a.1).bind _) ((sX e.eG b.1).bind _);rw [g1];refine Tw.same λz _=>Tw.ite (λ_=>.some ⟨rfl,g2⟩) λ_=>Tw.bind (Pb g2 f2 (by rw [f4,QA]) (λx y hx hy=>?_) N M) λp q hpq=>.some hpq;rw [f4,QB,hx,FI] at hy;rw [←jN hy];exact (iD as x).1
     | inr a=>
       cases q with
       | inl b=>exact hpq.elim
       | inr b=>exact .some hpq
    cases he with
    | num=>
      rw [Aj];unfold dG;rw [cG (by rfl),cG (by rfl)];exact .some ⟨rfl,h⟩
    | @var v u a h1 h2 h3=>
      rw [Aj];unfold dG;rw [bU zc,cG (by rfl),bU zc,cG (by rfl)];exact Tw.any λx y hx hy=>.some ⟨hV.w v h1 u h2 h3 x y hx hy,h⟩
    | @index v u i a h1 h2 h3 h4 h5 h6=>
      rw [Aj];unfold dG;rw [bU zc,bU zc,cG (by rfl),bU zc,bU zc,cG (by rfl)];simp only [EE];refine Tw.bind (R:=λp q=>p=i/\q=fx as i) (.some ⟨rfl,rfl⟩) λp q hpq=>?_;rw [hpq.1,hpq.2];refine Tw.bind (ihi i v u h4 h1 h2 h3 r s h) λp q hpq=>?_;rw [hpq.2.ended,hpq.1];refine Tw.same λz _=>Tw.ite (λ_=>.some ⟨rfl,hpq.2⟩) λ_=>Tw.any λk k' hk hk'=>?_;rw [hV.a v h1 u h2 h3 k k' hk hk'];exact Tw.same λ_ _=>Tw.same λ_ _=>.some ⟨rfl,hpq.2⟩
    | @un o x a ho h1=>exact key _ (λz hz=>by rw [zA.1 hz];exact h1) (by rcases ho with rfl | rfl <;> simp) (by rcases ho with rfl | rfl <;> simp) (by rcases ho with rfl | rfl <;> simp)
    | @bin o x y t a h1 h2 hb=>
      refine key _ (λz hz=>?_) ?_ ?_ ?_
      ·simp only [Cj,MR,or_false] at hz
       rcases hz with rfl | rfl
       ·exact h1
       ·exact h2
      all_goals (rcases hb with ⟨h | h,_⟩ | ⟨h | h | h,_⟩ | ⟨h,_⟩ | ⟨h | h,_⟩ | ⟨h | h | h | h | h,_⟩ <;> simp [h])
    | @sel c x y a h1 h2 h3 h4 h5=>
      refine key _ (λz hz=>?_) zc zc zc;simp only [Cj,MR,or_false] at hz
      rcases hz with rfl | rfl | rfl
      ·exact h1
      ·exact h2
      ·exact h3
    | @long x a h1 h2=>exact key _ (λz hz=>by rw [zA.1 hz];exact h1) zc zc zc
    | @wide x y a h1 h2 h3 h4=>
      refine key _ (λz hz=>?_) zc zc zc;simp only [Cj,MR,or_false] at hz
      rcases hz with rfl | rfl
      ·exact h1
      ·exact h2
    | @half o x a ho h1 h2=>exact key _ (λz hz=>by rw [zA.1 hz];exact h1) (by rcases ho with rfl | rfl <;> simp) (by rcases ho with rfl | rfl <;> simp) (by rcases ho with rfl | rfl <;> simp)
   ·unfold jE;refine Tw.bind (ihv e he r s h) λp q hpq=>?_;rw [hpq.2.ended,hpq.1];refine Tw.same λz _=>Tw.ite (λ_=>.some ⟨rfl,hpq.2⟩) λ_=>Tw.any λk k' q1 q2=>?_;rw [hV.a v hv u hu hk k k' q1 q2];refine Tw.same λx _=>Tw.bind hpq.2.see λa b hab=>Tw.ite (λ_=>.some ⟨rfl,?_⟩) λ_=>.some ⟨rfl,hab⟩;exact ⟨rfl,hab.tr,hab.e,hab.e'⟩
end
end Go.Proofs.YtnheknbibdgglaaGreatDoor.Abs
namespace Go.Proofs.YtnheknbibdgglaaGreatDoor.Abs
open IntKind (i64 u32 u64 u8)
open Go.RowKit
set_option linter.all false
def Pm {α:Type} (Q:α->Prop) (x:Option α):Prop:=∀a,x=some a->Q a
section
variable {α β:Type} {Q:α->Prop} {T:β->Prop}
theorem Pm.some {a:α} (h:Q a):Pm Q (some a):=λx hx=>by cases hx;exact h
theorem Pm.bind {x:Option β} {f:β->Option α} (h:Pm T x) (k:∀a,T a->Pm Q (f a)):Pm Q (x.bind f):=by
 intro c hc;obtain ⟨a,h1,h2⟩:=aD hc;exact k a (h a h1) c h2
theorem Pm.any {x:Option β} {f:β->Option α} (k:∀a,Pm Q (f a)):Pm Q (x.bind f):=Pm.bind (T:=λ_=>True) (λ_ _=>trivial) λa _=>k a
theorem Pm.ite {c:Prop} [Decidable c] {x y:Option α} (h1:Pm Q x) (h2:Pm Q y):Pm Q (if c then x else y):=by
 split
 ·exact h1
 ·exact h2
theorem Pm.need {c:Prop} [Decidable c] {x:Option α} (h:Pm Q x):Pm Q (iE c x):=λa ha=>h a (bN ha).2
end
def KF (r s:aE):Prop:=s.e_=r.e_/\s.dO=r.dO/\s.p_=r.p_
theorem KF.refl {r:aE}:KF r r:=⟨rfl,rfl,rfl⟩
theorem KF.trans {r s t:aE} (h:KF r s) (k:KF s t):KF r t:=⟨k.1.trans h.1,k.2.1.trans h.2.1,k.2.2.trans h.2.2⟩
theorem LT {r:aE} {a b c:Int}:Pm (KF r) (cX r a b c):=by
 unfold cX;exact Pm.need (.some ⟨rfl,rfl,rfl⟩)
theorem OZ {n:Nat} {r:aE} {e:aF} {vs:List Int}:Pm (λx=>KF r x.2) (fQ n r e vs):=by
 unfold fQ;refine Pm.any λy2=>Pm.ite (Pm.any λx=>Pm.ite (Pm.any λ_=>Pm.any λ_=>.some KF.refl) (Pm.any λ_=>Pm.ite ?_ ?_)) (Pm.ite (Pm.any λ_=>Pm.any λ_=>.some KF.refl) (Pm.any λ_=>Pm.ite ?_ ?_))
 ·exact Pm.any λ_=>Pm.bind LT λs h=>Pm.any λ_=>Pm.any λ_=>Pm.any λ_=>Pm.ite (.some h) (.some h)
 ·exact Pm.any λ_=>Pm.any λ_=>Pm.any λ_=>Pm.ite (.some KF.refl) (.some KF.refl)
 ·exact Pm.any λ_=>Pm.bind LT λs h=>Pm.any λ_=>Pm.any λ_=>Pm.any λ_=>Pm.ite (.some h) (.some h)
 ·exact Pm.any λ_=>Pm.any λ_=>Pm.any λ_=>Pm.ite (.some KF.refl) (.some KF.refl)
theorem QI {rc:VlF} (hr:∀r fr hs e,Pm (λx=>KF r x.2) (rc r fr hs e)) {e:aF} {fr:aI} {hs:List (List Int)}:∀(c:Nat) (vs:List Int) (j:Int) r,
  Pm (λx=>match x with | .inl z=>KF r z.2 | .inr z=>KF r z.2) (eI rc e fr hs c vs j r)
 | 0,vs,j,r=>λa h=>by cases h
 | c+1,vs,j,r=>by
   unfold eI;refine Pm.ite (Pm.any λx=>Pm.bind (hr _ _ _ _) λa h=>?_) (.some KF.refl);refine Pm.any λb=>Pm.ite (.some h) (Pm.need λz hz=>?_);have:=QI hr c _ _ a.2 z hz;cases z with
   | inl z=>exact h.trans this
   | inr z=>exact h.trans this
theorem LE:∀n:Nat,(∀r fr hs e,Pm (λx=>KF r x.2) (aV n r fr hs e))/\(∀r fr hs e v,Pm (λx=>KF r x.2) (fW n r fr hs e v))
 | 0=>⟨λ_ _ _ _ _ h=>(by cases h),λ_ _ _ _ _ _ h=>(by cases h)⟩
 | n+1=>by
   obtain ⟨h1,h2⟩:=LE n;rw [FJ,FY];refine ⟨λr fr hs e=>?_,λr fr hs e v=>?_⟩
   ·unfold dG;refine Pm.ite (.some KF.refl) (Pm.ite (Pm.any λ_=>.some KF.refl) (Pm.ite (Pm.any λ_=>Pm.bind (h2 _ _ _ _ _) λa h=>?_) (Pm.bind (QI h1 n _ _ _) λa h=>?_)))
    ·exact Pm.any λ_=>Pm.ite (.some h) (Pm.any λ_=>Pm.any λ_=>Pm.any λ_=>.some h)
    ·cases a with
     | inl z=>exact Pm.any λ_=>Pm.ite (.some h) (Pm.bind OZ λa h'=>.some (h.trans h'))
     | inr z=>exact .some h
   ·unfold jE;refine Pm.bind (h1 _ _ _ _) λa h=>?_;refine Pm.any λ_=>Pm.ite (.some h) (Pm.any λ_=>Pm.any λ_=>Pm.bind LT λs h'=>?_);exact Pm.ite (.some (h.trans h')) (.some (h.trans h'))
inductive Cd
 | blk (l:List aA)
 | st (s:aA)
 | rds (v hi:Int) (s:aA)
def Bi (o:cQ):Prop:=o=[108,101,116] ∨ o=[118,97,114] ∨ o=[115,101,116]
inductive RX (P:aK):Cd->aE->aI->List (List Int)->aE->aI->List (List Int)->Prop
 | nil {r fr hs}:RX P (.blk []) r fr hs r fr hs
 | dead {r fr hs s l}:r.cN ≠ 0->RX P (.blk (s::l)) r fr hs r fr hs
 | cons {r:aE} {fr hs s l f r1 fr1 hs1 r2 fr2 hs2}:r.cN=0->RX P (.st s) { r with dO:=f } fr hs r1 fr1 hs1->RX P (.blk l) r1 fr1 hs1 r2 fr2 hs2->RX P (.blk (s::l)) r fr hs r2 fr2 hs2
 | asg {r fr hs} {s:aA} {x n} {y:Int × aE} {w:aI × List (List Int)}:Bi s.eG->aS s.aM 0=some x->aV n r fr hs x=some y->(y.2.cN=0->cF fr hs s.cZ y.1=some w)->(y.2.cN ≠ 0->w=(fr,hs))->RX P (.st s) r fr hs y.2 w.1 w.2
 | arr {r} {fr:aI} {hs} {s:aA} {k a}:s.eG=[97,114,114]->aS fr.aX s.cZ=some k->aS hs k=some a->RX P (.st s) r fr hs r fr (hs.set k.toNat (List.replicate a.length 0))
 | put {r fr hs} {s:aA} {n} {y:aE × aI × List (List Int)}:s.eG=[112,117,116]->eF n r fr hs s=some y->RX P (.st s) r fr hs y.1 y.2.1 y.2.2
 | ret {r} {fr:aI} {hs} {s:aA} {x n} {y:Int × aE}:s.eG=[114,101,116,117,114,110]->aS s.aM 0=some x->aV n r fr hs x=some y->RX P (.st s) r fr hs y.2 { fr with eX:=y.1 } hs
 | iff_ {r fr hs} {s:aA} {x n} {y:Int × aE}:s.eG=[105,102]->aS s.aM 0=some x->aV n r fr hs x=some y->y.2.cN ≠ 0->RX P (.st s) r fr hs y.2 fr hs
 | ift {r fr hs} {s:aA} {x n} {y:Int × aE} {z r1 fr1 hs1}:s.eG=[105,102]->aS s.aM 0=some x->aV n r fr hs x=some y->y.2.cN=0->cX y.2 1 (if y.1 ≠ 0 then 1 else 0) 0=some z->RX P (.blk (if y.1 ≠ 0 then s.bR else s.iP)) z fr hs r1 fr1 hs1->RX P (.st s) r fr hs r1 fr1 hs1
 | for1 {r fr hs} {s:aA} {x n} {y:Int × aE}:s.eG=[102,111,114]->aS s.aM 0=some x->aV n r fr hs x=some y->y.2.cN ≠ 0->RX P (.st s) r fr hs y.2 fr hs
 | for2 {r fr hs} {s:aA} {x x' n} {y z:Int × aE}:s.eG=[102,111,114]->aS s.aM 0=some x->aV n r fr hs x=some y->y.2.cN=0->aS s.aM 1=some x'->aV n y.2 fr hs x'=some z->z.2.cN ≠ 0->RX P (.st s) r fr hs z.2 fr hs
 | for3 {r fr hs} {s:aA} {x x' n} {y z:Int × aE} {w r1 fr1 hs1}:s.eG=[102,111,114]->aS s.aM 0=some x->aV n r fr hs x=some y->y.2.cN=0->aS s.aM 1=some x'->aV n y.2 fr hs x'=some z->z.2.cN=0->cX z.2 2 (u32.wrap y.1) (u32.wrap z.1)=some w ->
    RX P (.rds (u32.wrap y.1) (u32.wrap z.1) s) w fr hs r1 fr1 hs1->RX P (.st s) r fr hs r1 fr1 hs1
 | rdone {v hi s r fr hs}:¬ v<hi ∨ r.cN ≠ 0->RX P (.rds v hi s) r fr hs r fr hs
 | round {v hi} {s:aA} {r:aE} {fr hs f r2 fr2 hs2 r3 fr3 hs3} {w:aI × List (List Int)}:v<hi->r.cN=0->cF fr hs s.cZ (u64.wrap v)=some w->RX P (.blk s.bR) { r with dO:=f } w.1 w.2 r2 fr2 hs2->RX P (.rds (u32.wrap (v+1)) hi s) r2 fr2 hs2 r3 fr3 hs3->RX P (.rds v hi s) r fr hs r3 fr3 hs3
 | calla {r fr hs} {s:aA} {f o n r1}:s.eG=[99,97,108,108]->aS P.aU s.gI=some f->uF f hs.length=some o->mN n fr hs o.2 s.aM 0 r o.1=some (.inl r1)->RX P (.st s) r fr hs r1 fr hs
 | call {r} {fr:aI} {hs:List (List Int)} {s:aA} {f o n r1 to r2} {to2:aI} {hs2:List (List Int)} {w:aI × List (List Int)}:s.eG=[99,97,108,108]->aS P.aU s.gI=some f->uF f hs.length=some o->mN n fr hs o.2 s.aM 0 r o.1=some (.inr (r1,to))->RX P (.blk to.f_.bR) r1 to (hs++o.2) r2 to2 hs2 ->
    (r2.cN ≠ 0->w=(fr,hs2.take hs.length))->(r2.cN=0->s.cZ=-2->w=({ fr with eX:=to2.eX },hs2.take hs.length))->(r2.cN=0->s.cZ ≠ -2->cF fr (hs2.take hs.length) s.cZ to2.eX=some w)->RX P (.st s) r fr hs r2 w.1 w.2
 | skip {r fr hs} {s:aA}:¬ Bi s.eG->s.eG ≠ [97,114,114]->s.eG ≠ [112,117,116]->s.eG ≠ [99,97,108,108]->s.eG ≠ [105,102]->s.eG ≠ [102,111,114]->s.eG ≠ [114,101,116,117,114,110]->RX P (.st s) r fr hs r fr hs
section
variable {P:aK} {r:aE}
theorem UP (r:aE):bO r=some (decide (r.cN ≠ 0) || decide (r.e_ ≠ 0)):=by
 unfold bO
 by_cases h:r.cN=0
 ·by_cases h2:r.e_=0
  ·simp [h,h2]
  ·simp [h,h2]
 ·simp [h]
theorem nD {b:Bool} (h:bO r=some b) (he:r.e_=0):(b=true->r.cN ≠ 0)/\(b=false->r.cN=0):=by
 rw [UP] at h;have h:=jN h;subst h;rw [he]
 by_cases ht:r.cN=0 <;> simp [ht]
def Gx (P:aK) (c:Cd) (r:aE) (fr:aI) (hs:List (List Int)) (o:Option (aE × aI × List (List Int))):Prop:=
 r.p_=P->∀x,o=some x->x.1.p_=P/\(x.1.e_=0->r.e_=0/\RX P c r fr hs x.1 x.2.1 x.2.2)
def GxB (P:aK) (f:aE->aI->List (List Int)->List aA->Option (aE × aI × List (List Int))):Prop:=∀r fr hs ss,Gx P (.blk ss) r fr hs (f r fr hs ss)
def GxS (P:aK) (f:aE->aI->List (List Int)->aA->Option (aE × aI × List (List Int))):Prop:=∀r fr hs s,Gx P (.st s) r fr hs (f r fr hs s)
def GxO (P:aK) (o:cQ) (f:aE->aI->List (List Int)->aA->Option (aE × aI × List (List Int))):Prop:=∀r fr hs s,s.eG=o->Gx P (.st s) r fr hs (f r fr hs s)
theorem Vk {x:aE} (h:jL r=some x):x.p_=r.p_/\(x.e_=0->r.e_=0/\∃f,x={ r with dO:=f }):=by
 unfold jL at h
 split at h
 ·have h:=jN h;subst h;exact ⟨rfl,λe=>dE e (by simp only;decide)⟩
 ·have h:=jN h;subst h;exact ⟨rfl,λe=>⟨e,_,rfl⟩⟩
theorem UF {α:Type} {l:List α} {j:Nat} {x:α} (h:aS l (j:Int)=some x):l.drop j=x::l.drop (j+1):=by
 obtain ⟨_,h1⟩:=Ax h;rw [wR] at h1;obtain ⟨h2,h3⟩:=sG.1 h1;rw [On h2,h3]
theorem PF {st:aE->aI->List (List Int)->aA->Option (aE × aI × List (List Int))} (Cc:GxS P st) {ss:List aA}:∀(c j:Nat) r fr hs y,j+c<=1000000000->j<=ss.length->r.p_=P->eL st ss c (j:Int) r fr hs=some y ->
  (y.elim id id).1.p_=P/\((y.elim id id).1.e_=0->r.e_=0/\RX P (.blk (ss.drop j)) r fr hs (y.elim id id).1 (y.elim id id).2.1 (y.elim id id).2.2)
 | 0,j,r,fr,hs,y,_,_,_,h=>by cases h
 | c+1,j,r,fr,hs,y,hl,hj,hp,h=>by
   unfold eL at h
   by_cases hlt:(j:Int)<(ss.length:Int)
   ·rw [cG (vO hlt)] at h;obtain ⟨q,h1,h⟩:=aD h;obtain ⟨s,hs1,h1⟩:=aD h1;rw [UF hs1];obtain ⟨b,hb,h1⟩:=aD h1;cases b with
    | true=>
      rw [cG rfl] at h1;have h1:=jN h1;subst h1;have h:=jN h;subst h;exact ⟨hp,λhe=>⟨he,.dead ((nD hb he).1 rfl)⟩⟩
    | false=>
      rw [bU zb] at h1;obtain ⟨x,hx,h1⟩:=aD h1;obtain ⟨b2,hb2,h1⟩:=aD h1;obtain ⟨x1,x2⟩:=Vk hx
      have hstep:∀z:aE × aI × List (List Int),q=.inl z->eL st ss c ((j+1:Nat):Int) z.1 z.2.1 z.2.2=some y:=by
       intro z hz;subst hz;have h:eL st ss c (i64.wrap ((j:Int)+1)) z.1 z.2.1 z.2.2=some y:=h;rw [fD za za] at h;exact h
      cases b2 with
      | true=>
        rw [bU zb] at h1;have h1:=jN h1;obtain ⟨g1,g2⟩:=PF Cc c (j+1) x fr hs y za za (x1.trans hp) (hstep (x,fr,hs) h1.symm);refine ⟨g1,λhe=>?_⟩;obtain ⟨e1,_⟩:=g2 he;obtain ⟨e0,f,rfl⟩:=x2 e1;exact dE ((nD hb e0).2 rfl) ((nD hb2 e1).1 rfl)
      | false=>
        rw [cG zb] at h1;obtain ⟨z,hz,h1⟩:=aD h1;have h1:=jN h1;obtain ⟨p1,p2⟩:=Cc x fr hs s (x1.trans hp) z hz;obtain ⟨g1,g2⟩:=PF Cc c (j+1) z.1 z.2.1 z.2.2 y za za p1 (hstep _ h1.symm);refine ⟨g1,λhe=>?_⟩;obtain ⟨e1,g3⟩:=g2 he;obtain ⟨e2,k3⟩:=p2 e1;obtain ⟨e0,f,rfl⟩:=x2 e2;exact ⟨e0,.cons ((nD hb e0).2 rfl) k3 g3⟩
   ·rw [bU (by simpa using hlt)] at h;have h:=jN h;subst h;have:ss.drop j=[]:=xea za;rw [this];exact ⟨hp,λhe=>⟨he,.nil⟩⟩
theorem blk_x {st:aE->aI->List (List Int)->aA->Option (aE × aI × List (List Int))} (Cc:GxS P st) {n:Nat} (hn:n<=1000000000):GxB P (eT st n):=by
 intro r fr hs ss hp x h;unfold eT at h;obtain ⟨y,hy,h⟩:=aD h;have g:=PF Cc n 0 r fr hs y za (HI _) hp hy;cases y with
 | inl y=>have h:=jN h;subst h;exact g
 | inr y=>have h:=jN h;subst h;exact g
theorem KR {n:Nat} {fr hs} {e:aF} {y:Int × aE} (hp:r.p_=P) (h:aV n r fr hs e=some y):y.2.p_=P/\(y.2.e_=0->r.e_=0):=by
 obtain ⟨h1,_,h3⟩:=(LE n).1 r fr hs e y h;exact ⟨h3.trans hp,λhe=>h1.symm.trans he⟩
theorem see_x {a b c:Int} {y:aE} (hp:r.p_=P) (h:cX r a b c=some y):y.p_=P/\(y.e_=0->r.e_=0):=by
 obtain ⟨h1,_,h3⟩:=LT y h;exact ⟨h3.trans hp,λhe=>h1.symm.trans he⟩
theorem UX {blk:aE->aI->List (List Int)->List aA->Option (aE × aI × List (List Int))} (hb:GxB P blk) {n:Nat}:GxO P [105,102] (eK blk n):=by
 intro r fr hs s ho hp x h;unfold eK at h;obtain ⟨e,he,h⟩:=aD h;obtain ⟨y,hy,h⟩:=aD h;obtain ⟨b,hb1,h⟩:=aD h;obtain ⟨v1,v2⟩:=KR hp hy;cases b with
 | true=>
   rw [cG rfl] at h;have h:=jN h;subst h;exact ⟨v1,λe0=>⟨v2 e0,.iff_ ho he hy ((nD hb1 e0).1 rfl)⟩⟩
 | false=>
   rw [bU zb] at h
   have hgo:∀(z:Int) (bs:List aA),((cX y.2 1 z 0).bind λx14=>(blk x14 fr hs bs).bind λx16=>some (x16.1,x16.2.1,x16.2.2))=some x->z=(if y.1 ≠ 0 then 1 else 0)->bs=(if y.1 ≠ 0 then s.bR else s.iP)->x.1.p_=P/\(x.1.e_=0->r.e_=0/\RX P (.st s) r fr hs x.1 x.2.1 x.2.2):=by
    intro z bs h hz hbs;obtain ⟨w,hw,h⟩:=aD h;obtain ⟨u,hu,h⟩:=aD h;have h:=jN h;subst h;obtain ⟨s1,s2⟩:=see_x v1 hw;obtain ⟨g1,g2⟩:=hb w fr hs bs s1 u hu;refine ⟨g1,λe0=>?_⟩;obtain ⟨e1,g3⟩:=g2 e0;subst hz hbs;exact ⟨v2 (s2 e1),.ift ho he hy ((nD hb1 (s2 e1)).2 rfl) hw g3⟩
   by_cases hc:y.1=0
   ·rw [bU (by simp [hc])] at h;exact hgo 0 _ h (by simp [hc]) (by simp [hc])
   ·rw [cG (by simpa using hc)] at h;exact hgo 1 _ h (by simp [hc]) (by simp [hc])
theorem rds_x {blk:aE->aI->List (List Int)->List aA->Option (aE × aI × List (List Int))} (hb:GxB P blk) {y:Int × aE} {s:aA}:∀(c:Nat) (v:Int) r fr hs,Gx P (.rds v (u32.wrap y.1) s) r fr hs (gV blk y s c v r fr hs)
 | 0,v,r,fr,hs=>λ_ x h=>by cases h
 | c+1,v,r,fr,hs=>λhp x h=>by
   unfold gV at h;obtain ⟨b,hb1,h⟩:=aD h
   have hbb:b=true->v<u32.wrap y.1/\(r.e_=0->r.cN=0):=by
    intro e;subst e
    split at hb1
    ·rename_i hlt;obtain ⟨d,hd,hb1⟩:=aD hb1;have hb1:=jN hb1;have hdf:d=false:=by cases d <;> simp_all
     exact ⟨EG hlt,λe=>(nD hd e).2 hdf⟩
    ·cases hb1
   have hbn:b=false->r.e_=0->¬ v<u32.wrap y.1 ∨ r.cN ≠ 0:=by
    intro e e0;subst e
    split at hb1
    ·obtain ⟨d,hd,hb1⟩:=aD hb1;have hb1:=jN hb1;have hdf:d=true:=by cases d <;> simp_all
     exact .inr ((nD hd e0).1 hdf)
    ·rename_i hlt;exact .inl (by simpa using hlt)
   cases b with
   | false=>
     rw [bU zb] at h;have h:=jN h;subst h;exact ⟨hp,λe0=>⟨e0,.rdone (hbn rfl e0)⟩⟩
   | true=>
     rw [cG rfl] at h;obtain ⟨z,hz,h⟩:=aD h;obtain ⟨w,hw,h⟩:=aD h;obtain ⟨u,hu,h⟩:=aD h;obtain ⟨x1,x2⟩:=Vk hz;obtain ⟨g1,g2⟩:=hb z w.1 w.2 s.bR (x1.trans hp) u hu;obtain ⟨k1,k2⟩:=rds_x hb c _ u.1 u.2.1 u.2.2 g1 x h;refine ⟨k1,λe0=>?_⟩;obtain ⟨e1,k3⟩:=k2 e0;obtain ⟨e2,g3⟩:=g2 e1;obtain ⟨e3,f,rfl⟩:=x2 e2;exact ⟨e3,.round (hbb rfl).1 ((hbb rfl).2 e3) hw g3 k3⟩
theorem TS {blk:aE->aI->List (List Int)->List aA->Option (aE × aI × List (List Int))} (hb:GxB P blk) {n:Nat}:GxO P [102,111,114] (eJ blk n):=by
 intro r fr hs s ho hp x h;unfold eJ at h;obtain ⟨e,he,h⟩:=aD h;obtain ⟨y,hy,h⟩:=aD h;obtain ⟨b,hb1,h⟩:=aD h;obtain ⟨v1,v2⟩:=KR hp hy;cases b with
 | true=>
   rw [cG rfl] at h;have h:=jN h;subst h;exact ⟨v1,λe0=>⟨v2 e0,.for1 ho he hy ((nD hb1 e0).1 rfl)⟩⟩
 | false=>
   rw [bU zb] at h;obtain ⟨e',he',h⟩:=aD h;obtain ⟨z,hz,h⟩:=aD h;obtain ⟨b2,hb2,h⟩:=aD h;obtain ⟨w1,w2⟩:=KR v1 hz;cases b2 with
   | true=>
     rw [cG rfl] at h;have h:=jN h;subst h;exact ⟨w1,λe0=>⟨v2 (w2 e0),.for2 ho he hy ((nD hb1 (w2 e0)).2 rfl) he' hz ((nD hb2 e0).1 rfl)⟩⟩
   | false=>
     rw [bU zb] at h;obtain ⟨w,hw,h⟩:=aD h;obtain ⟨u,hu,h⟩:=aD h;have h:=jN h;subst h;obtain ⟨s1,s2⟩:=see_x w1 hw;obtain ⟨g1,g2⟩:=rds_x hb n _ w fr hs s1 u hu;refine ⟨g1,λe0=>?_⟩;obtain ⟨e1,g3⟩:=g2 e0;have e2:=s2 e1;exact ⟨v2 (w2 e2),.for3 ho he hy ((nD hb1 (w2 e2)).2 rfl) he' hz ((nD hb2 e2).2 rfl) hw g3⟩
theorem PH {n:Nat} {fr:aI} {hs h2:List (List Int)}:∀(l:List aF) (i:Nat) r (to:aI) c,r.p_=P->mN n fr hs h2 l i r to=some c->match c with
  | .inl r'=>r'.p_=P/\(r'.e_=0->r.e_=0/\r'.cN ≠ 0)
  | .inr x=>x.1.p_=P/\x.2.f_=to.f_/\(x.1.e_=0->r.e_=0)
 | [],i,r,to,c,hp,h=>by
   unfold mN at h;have h:=jN h;subst h;exact ⟨hp,rfl,λe=>e⟩
 | x::l,i,r,to,c,hp,h=>by
   unfold mN at h
   split at h
   ·obtain ⟨k,_,h⟩:=aD h;obtain ⟨_,h⟩:=bN h;exact PH l (i+1) r { to with aX:=to.aX.set i k } c hp h
   ·obtain ⟨v,hv,h⟩:=aD h;obtain ⟨b,hb,h⟩:=aD h;obtain ⟨v1,v2⟩:=KR hp hv
    split at h
    ·rename_i hbt;have h:=jN h;subst h;exact ⟨v1,λe=>⟨v2 e,(nD hb e).1 hbt⟩⟩
    ·obtain ⟨t,ht,h⟩:=aD h
     have htf:t.1.f_=to.f_:=by
      unfold cF at ht
      split at ht
      ·obtain ⟨_,_,ht⟩:=aD ht;rw [←jN ht]
      ·rw [←jN ht]
     have:=PH l (i+1) v.2 t.1 c v1 h;cases c with
     | inl r'=>exact ⟨this.1,λe=>⟨v2 (this.2 e).1,(this.2 e).2⟩⟩
     | inr q=>exact ⟨this.1,this.2.1.trans htf,λe=>v2 (this.2.2 e)⟩
theorem call_x {blk:aE->aI->List (List Int)->List aA->Option (aE × aI × List (List Int))} (hb:GxB P blk) {n:Nat}:GxO P [99,97,108,108] (dZ blk n):=by
 intro r fr hs s ho hp x h;unfold dZ at h;obtain ⟨_,h⟩:=bN h;obtain ⟨f,hf,h⟩:=aD h;rw [hp] at hf;obtain ⟨o,hop,h⟩:=aD h;obtain ⟨c,hc,h⟩:=aD h;have ha:=PH s.aM 0 r o.1 c hp hc;cases c with
 | inl r1=>
   have h:=jN h;subst h;exact ⟨ha.1,λe=>⟨(ha.2 e).1,.calla ho hf hop hc⟩⟩
 | inr c=>
   obtain ⟨b,Da,h⟩:=aD (show (blk c.1 c.2 (hs++o.2) c.2.f_.bR).bind _=some x from h);obtain ⟨g1,g2⟩:=hb c.1 c.2 (hs++o.2) c.2.f_.bR ha.1 b Da;obtain ⟨d,hd,h⟩:=aD h
   have fin:∀w:aI × List (List Int),x=(b.1,w.1,w.2)->(b.1.e_=0->b.1.cN ≠ 0->w=(fr,b.2.2.take hs.length))->(b.1.e_=0->b.1.cN=0->s.cZ=-2->w=({ fr with eX:=b.2.1.eX },b.2.2.take hs.length))->(b.1.e_=0->b.1.cN=0->s.cZ ≠ -2->cF fr (b.2.2.take hs.length) s.cZ b.2.1.eX=some w)->x.1.p_=P/\(x.1.e_=0->r.e_=0/\RX P (.st s) r fr hs x.1 x.2.1 x.2.2):=by
    intro w hx h1 h2 h3;subst hx;refine ⟨g1,λe=>?_⟩;obtain ⟨e1,g3⟩:=g2 e;exact ⟨ha.2.2 e1,.call (to:=c.2) ho hf hop hc g3 (h1 e) (h2 e) (h3 e)⟩
   cases d with
   | true=>
     rw [cG rfl] at h;have h:=jN h;exact fin (fr,_) h.symm (λ_ _=>rfl) (λe ht=>dE ht ((nD hd e).1 rfl)) (λe ht=>dE ht ((nD hd e).1 rfl))
   | false=>
     rw [bU zb] at h
     split at h
     ·rename_i hv;have h:=jN h;exact fin (_,_) h.symm (λe ht=>dE ((nD hd e).2 rfl) ht) (λ_ _ _=>rfl) (λ_ _ hn=>dE hv hn)
     ·rename_i hv;obtain ⟨p,hpp,h⟩:=aD h;have h:=jN h;exact fin p h.symm (λe ht=>dE ((nD hd e).2 rfl) ht) (λ_ _ hn=>dE hn hv) (λ_ _ _=>hpp)
theorem stmt_x {fc fi fo:aE->aI->List (List Int)->aA->Option (aE × aI × List (List Int))} (hc:GxO P [99,97,108,108] fc) (hi:GxO P [105,102] fi) (ho:GxO P [102,111,114] fo) {n:Nat}:GxS P (dS fc fi fo n):=by
 intro r fr hs s hp x h;unfold dS at h
 have asg:Bi s.eG->((aS s.aM (0:Int)).bind λx3=>(aV n r fr hs x3).bind λx4=>(bO x4.2).bind λx11=>if (!x11)=true then (cF fr hs s.cZ x4.1).bind λx14=>some (x4.2,x14.1,x14.2) else some (x4.2,fr,hs))=some x->x.1.p_=P/\(x.1.e_=0->r.e_=0/\RX P (.st s) r fr hs x.1 x.2.1 x.2.2):=by
  intro h0 h;obtain ⟨e,he,h⟩:=aD h;obtain ⟨y,hy,h⟩:=aD h;obtain ⟨b,hb,h⟩:=aD h;obtain ⟨v1,v2⟩:=KR hp hy;cases b with
  | true=>
    rw [bU zb] at h;have h:=jN h;subst h;exact ⟨v1,λe0=>⟨v2 e0,.asg (w:=(fr,hs)) h0 he hy (λht=>dE ht ((nD hb e0).1 rfl)) λ_=>rfl⟩⟩
  | false=>
    rw [cG zb] at h;obtain ⟨w,hw,h⟩:=aD h;have h:=jN h;subst h;exact ⟨v1,λe0=>⟨v2 e0,.asg (w:=w) h0 he hy (λ_=>hw) λht=>dE ((nD hb e0).2 rfl) ht⟩⟩
 by_cases c1:s.eG=[108,101,116]
 ·rw [cG (vO c1)] at h;exact asg (.inl c1) h
 rw [bU (by simpa using c1)] at h
 by_cases c2:s.eG=[118,97,114]
 ·rw [cG (vO c2)] at h;exact asg (.inr (.inl c2)) h
 rw [bU (by simpa using c2)] at h
 by_cases c3:s.eG=[115,101,116]
 ·rw [cG (vO c3)] at h;exact asg (.inr (.inr c3)) h
 rw [bU (by simpa using c3)] at h
 by_cases c4:s.eG=[97,114,114]
 ·rw [cG (vO c4)] at h;obtain ⟨k,hk,h⟩:=aD h;obtain ⟨a,ha,h⟩:=aD h;obtain ⟨_,h⟩:=bN h;have h:=jN h;subst h;exact ⟨hp,λe0=>⟨e0,.arr c4 hk ha⟩⟩
 rw [bU (by simpa using c4)] at h
 by_cases c5:s.eG=[112,117,116]
 ·rw [cG (vO c5)] at h;obtain ⟨y,hy,h⟩:=aD h;have h:=jN h;subst h
  have key:KF r y.1:=by
   have hy2:=hy;unfold eF at hy2;obtain ⟨e,_,hy2⟩:=aD hy2;obtain ⟨i,hi1,hy2⟩:=aD hy2;have k1:=(LE n).2 r fr hs e s.cZ i hi1;obtain ⟨b,_,hy2⟩:=aD hy2
   split at hy2
   ·rw [←jN hy2];exact k1
   ·obtain ⟨e',_,hy2⟩:=aD hy2;obtain ⟨z,hz,hy2⟩:=aD hy2;have k2:=k1.trans ((LE n).1 _ _ _ e' z hz);obtain ⟨b2,_,hy2⟩:=aD hy2
    split at hy2
    ·obtain ⟨_,_,hy2⟩:=aD hy2;obtain ⟨_,_,hy2⟩:=aD hy2;obtain ⟨_,_,hy2⟩:=aD hy2;rw [←jN hy2];exact k2
    ·rw [←jN hy2];exact k2
  exact ⟨key.2.2.trans hp,λe0=>⟨key.1.symm.trans e0,.put c5 hy⟩⟩
 rw [bU (by simpa using c5)] at h
 have three:∀(f:aE->aI->List (List Int)->aA->Option (aE × aI × List (List Int))) (o:cQ),GxO P o f->s.eG=o->((f r fr hs s).bind λx67=>some (x67.1,x67.2.1,x67.2.2))=some x->x.1.p_=P/\(x.1.e_=0->r.e_=0/\RX P (.st s) r fr hs x.1 x.2.1 x.2.2):=by
  intro f o hf ho h;obtain ⟨y,hy,h⟩:=aD h;have h:=jN h;subst h;exact hf r fr hs s ho hp y hy
 by_cases c6:s.eG=[99,97,108,108]
 ·rw [cG (vO c6)] at h;exact three fc _ hc c6 h
 rw [bU (by simpa using c6)] at h
 by_cases c7:s.eG=[105,102]
 ·rw [cG (vO c7)] at h;exact three fi _ hi c7 h
 rw [bU (by simpa using c7)] at h
 by_cases c8:s.eG=[102,111,114]
 ·rw [cG (vO c8)] at h;exact three fo _ ho c8 h
 rw [bU (by simpa using c8)] at h
 by_cases c9:s.eG=[114,101,116,117,114,110]
 ·rw [cG (vO c9)] at h;obtain ⟨e,he,h⟩:=aD h;obtain ⟨y,hy,h⟩:=aD h;obtain ⟨v1,v2⟩:=KR hp hy;have h:=jN h;subst h;exact ⟨v1,λe0=>⟨v2 e0,.ret c9 he hy⟩⟩
 rw [bU (by simpa using c9)] at h;have h:=jN h;subst h;exact ⟨hp,λe0=>⟨e0,.skip (λh=>by rcases h with h | h | h;exact c1 h;exact c2 h;exact c3 h) c4 c5 c6 c7 c8 c9⟩⟩
theorem grp_x:∀n,n<=1000000000->GxB P (dA n)/\GxS P (fT n)/\GxO P [99,97,108,108] (iV n)/\GxO P [105,102] (iA n)/\GxO P [102,111,114] (gZ n)
 | 0,_=>⟨λ_ _ _ _ _ _ h=>(by cases h),λ_ _ _ _ _ _ h=>(by cases h),λ_ _ _ _ _ _ _ h=>(by cases h),λ_ _ _ _ _ _ _ h=>(by cases h),λ_ _ _ _ _ _ _ h=>(by cases h)⟩
 | n+1,hn=>by
   obtain ⟨i1,i2,i3,i4,i5⟩:=grp_x n za
   have e:bQ (n+1)=(eT (fT n) n,dS (iV n) (iA n) (gZ n) n,dZ (dA n) n,eK (dA n) n,eJ (dA n) n):=by
    rw [bQ];rfl
   have e1:dA (n+1)=eT (fT n) n:=by show (bQ (n+1)).1=_;rw [e]
   have e2:fT (n+1)=dS (iV n) (iA n) (gZ n) n:=by show (bQ (n+1)).2.1=_;rw [e]
   have e3:iV (n+1)=dZ (dA n) n:=by show (bQ (n+1)).2.2.1=_;rw [e]
   have e4:iA (n+1)=eK (dA n) n:=by show (bQ (n+1)).2.2.2.1=_;rw [e]
   have e5:gZ (n+1)=eJ (dA n) n:=by show (bQ (n+1)).2.2.2.2=_;rw [e]
   rw [e1,e2,e3,e4,e5];exact ⟨blk_x i2 za,stmt_x i3 i4 i5,call_x i1,UX i1,TS i1⟩
end
abbrev BT:=aI
abbrev Hs:=List (List Int)
structure Oj (vc:List aJ) (np:Int) (as:List Int) (vs:List aJ) (lo base:Int) (fa:List Int):Prop where
 k:∀v u,aS vc v=some u->∃u',aS vs (mp as v)=some u'/\u'.bF=u.bF/\(u.bF=4->u'.gA=u.gA)
 wi:∀u v a b,aS vc u=some a->aS vc v=some b->a.bF ≠ 4->b.bF ≠ 4->mp as u=mp as v->u=v
 wl:∀v u,aS vc v=some u->u.bF ≠ 4->lo<=mp as v
 ai:∀u v a b,aS vc u=some a->aS vc v=some b->a.bF=4->b.bF=4->np<=u->np<=v->mp as u=mp as v->u=v
 al:∀v u k,aS vc v=some u->u.bF=4->np<=v->aS fa v=some k->lo<=mp as v/\base<=k
 aj:∀u v a b k,aS vc u=some a->aS vc v=some b->a.bF=4->b.bF=4->np<=u->np<=v->aS fa u=some k->aS fa v=some k->u=v
 lov:lo<=vs.length
 lo0:0<=lo
structure DG (vc:List aJ) (np:Int) (as:List Int) (vs vF:List aJ) (lo base:Int) (sc:List Int) (R:Int->Int->Prop) (fr fx:BT) (hs hx:Hs):Prop where
 act:Oj vc np as vs lo base fr.aX
 eq:∀k x,R k x->∃a k',aS fx.aX x=some k'/\aS hs k=some a/\aS hx k'=some a
 inj:∀k x k2 x2,R k x->R k2 x2->(k=k2 ↔ x=x2)
 kx:∀k x,R k x->∃u,aS vs x=some u/\u.bF=4
 old:∀k x,R k x->(k<base/\x<lo) ∨ ∃v u,aS vc v=some u/\u.bF=4/\np<=v/\aS fr.aX v=some k/\mp as v=x
 w:∀v ∈ sc,∀u,aS vc v=some u->u.bF ≠ 4->∃a,aS fr.bP v=some a/\aS fx.bP (mp as v)=some a
 a:∀v ∈ sc,∀u,aS vc v=some u->u.bF=4->∃k,aS fr.aX v=some k/\R k (mp as v)
 so:∀v u,aS vc v=some u->u.bF=4->∃k a,aS fr.aX v=some k/\aS hs k=some a/\(a.length:Int)=u.gA
 sx:∀x u,aS vF x=some u->u.bF=4->∃k a,aS fx.aX x=some k/\aS hx k=some a/\(a.length:Int)=u.gA
 fj:∀x y u w k,aS vF x=some u->u.bF=4->aS vF y=some w->w.bF=4->aS fx.aX x=some k->aS fx.aX y=some k->x=y
 pre:vs <+: vF
theorem rL {α:Type} {l:List α} {i:Int} {x:α} (h:aS l i=some x):0<=i/\i<l.length:=by
 obtain ⟨a,b,_⟩:=aY h;exact ⟨a,b⟩
theorem Em {α:Type} {l:List α} {i j:Int} {x y:α} (h:aS l i=some y):aS (l.set i.toNat x) j=if j=i then some x else aS l j:=by
 obtain ⟨h0,h1⟩:=rL h
 by_cases e:j=i
 ·subst e;rw [cG rfl];unfold aS;rw [cG h0,Ki za]
 ·rw [bU e];unfold aS
  by_cases hj:0<=j
  ·rw [cG hj,cG hj,MM za]
  ·rw [bU hj,bU hj]
theorem Qu {α:Type} {l:List α} {i:Int} (h0:0<=i) (h1:i<l.length):∃x,aS l i=some x:=by
 unfold aS;rw [cG h0];exact ⟨_,tS za⟩
theorem rY {fr:BT} {hs:Hs} {v z:Int} {w:BT × Hs} (h:cF fr hs v z=some w):w.2=hs/\w.1.f_=fr.f_/\w.1.aX=fr.aX/\w.1.eX=fr.eX/\w.1.bP.length=fr.bP.length/\(v<0->w.1=fr)/\(0<=v->(∃y,aS fr.bP v=some y)/\∀j,aS w.1.bP j=if j=v then some z else aS fr.bP j):=by
 unfold cF at h
 by_cases hv:0<=v
 ·rw [cG (vO hv)] at h;obtain ⟨y,hy,h⟩:=aD h;have h:=jN h;subst h;exact ⟨rfl,rfl,rfl,rfl,zc,λe=>za,λ_=>⟨⟨y,hy⟩,λj=>Em hy⟩⟩
 ·rw [bU (by simpa using hv)] at h;have h:=jN h;subst h;exact ⟨rfl,rfl,rfl,rfl,rfl,λ_=>rfl,λe=>dE e hv⟩
section
variable {vc vs vs' vF:List aJ} {np lo base:Int} {as sc sc':List Int} {R:Int->Int->Prop} {fr fx fr' fx2:BT} {hs hx hs' hx2:Hs}
theorem Oj.mono {fa:List Int} (h:Oj vc np as vs lo base fa) (hv:vs <+: vs'):Oj vc np as vs' lo base fa:=
 ⟨λv u hu=>by obtain ⟨u',h1,h2⟩:=h.k v u hu;exact ⟨u',gN hv h1,h2⟩,h.wi,h.wl,h.ai,h.al,h.aj,by have:=hv.length_le;have:=h.lov;omega,h.lo0⟩
theorem DG.mono (h:DG vc np as vs vF lo base sc R fr fx hs hx) (hv:vs <+: vs') (hF:vs' <+: vF):DG vc np as vs' vF lo base sc R fr fx hs hx:=
 ⟨h.act.mono hv,h.eq,h.inj,λk x hk=>by obtain ⟨u,h1,h2⟩:=h.kx k x hk;exact ⟨u,gN hv h1,h2⟩,h.old,h.w,h.a,h.so,h.sx,h.fj,hF⟩
theorem DG.sub (h:DG vc np as vs vF lo base sc R fr fx hs hx) (hs':∀v ∈ sc',v ∈ sc):DG vc np as vs vF lo base sc' R fr fx hs hx:=
 ⟨h.act,h.eq,h.inj,h.kx,h.old,λv hv=>h.w v (hs' v hv),λv hv=>h.a v (hs' v hv),h.so,h.sx,h.fj,h.pre⟩
theorem DG.vr (h:DG vc np as vs vF lo base sc R fr fx hs hx):VRf vc sc as fr fx hs hx:=
 ⟨λv hv u hu hk a b ha hb=>by
  obtain ⟨c,h1,h2⟩:=h.w v hv u hu hk;rw [ha] at h1;rw [hb] at h2
  rw [jN h1,jN h2],λv hv u hu hk k k' hk1 hk2=>by
  obtain ⟨c,h1,h2⟩:=h.a v hv u hu hk;rw [hk1] at h1;obtain rfl:=jN h1;obtain ⟨a,k2,g1,g2,g3⟩:=h.eq _ _ h2;rw [hk2] at g1;obtain rfl:=jN g1;rw [g2,g3]⟩
theorem DG.put (h:DG vc np as vs vF lo base sc R fr fx hs hx) {v z:Int} {u:aJ} {w wx:BT × Hs} (hu:aS vc v=some u) (hk:u.bF ≠ 4) (h1:cF fr hs v z=some w) (h2:cF fx hx (mp as v) z=some wx) :
  DG vc np as vs vF lo base (sc++[v]) R w.1 wx.1 w.2 wx.2:=by
 obtain ⟨p1,_,p3,_,_,_,p7⟩:=rY h1;obtain ⟨q1,_,q3,_,_,_,q7⟩:=rY h2;obtain ⟨u',k1,_,_⟩:=h.act.k v u hu;have hv0:=(rL hu).1;obtain ⟨_,p7⟩:=p7 hv0;obtain ⟨_,q7⟩:=q7 (rL k1).1;refine ⟨by rw [p3];exact h.act,by rw [q3,p1,q1];exact h.eq,h.inj,h.kx,by rw [p3];exact h.old,λx hx y hy hky=>?_,λx hx y hy hky=>?_,by rw [p3,p1];exact h.so,by rw [q3,q1];exact h.sx,by rw [q3];exact h.fj,h.pre⟩
 ·rw [p7,q7]
  by_cases e:x=v
  ·subst e;exact ⟨z,by rw [cG rfl],by rw [cG rfl]⟩
  ·rw [bU e,bU λe2=>e (h.act.wi x v y u hy hu hky hk e2)]
   rcases BV.1 hx with hx | hx
   ·exact h.w x hx y hy hky
   ·exact dE (zA.1 hx) e
 ·rw [p3]
  rcases BV.1 hx with hx | hx
  ·exact h.a x hx y hy hky
  ·rw [zA.1 hx,hu] at hy;rw [←jN hy] at hky;exact dE hky hk
theorem DG.other (h:DG vc np as vs vF lo base sc R fr fx hs hx) (hA:fx2.aX=fx.aX) (hw:∀v ∈ sc,∀u,aS vc v=some u->u.bF ≠ 4->aS fx2.bP (mp as v)=aS fx.bP (mp as v)):DG vc np as vs vF lo base sc R fr fx2 hs hx:=
 ⟨h.act,by rw [hA];exact h.eq,h.inj,h.kx,h.old,λv hv u hu hk=>by
  obtain ⟨a,h1,h2⟩:=h.w v hv u hu hk;exact ⟨a,h1,by rw [hw v hv u hu hk];exact h2⟩,h.a,h.so,by rw [hA];exact h.sx,by rw [hA];exact h.fj,h.pre⟩
theorem IT {hs:Hs} {k j:Int} {a b c:List Int} (hk:aS hs k=some a) (hl:b.length=a.length) (hj:aS hs j=some c):∃d,aS (hs.set k.toNat b) j=some d/\d.length=c.length:=by
 rw [Em hk]
 by_cases e:j=k
 ·subst e;rw [hk] at hj;exact ⟨b,by rw [cG rfl],by rw [hl,jN hj]⟩
 ·exact ⟨c,by rw [bU e];exact hj,rfl⟩
theorem DG.set (h:DG vc np as vs vF lo base sc R fr fx hs hx) {v k k':Int} {u:aJ} {a a' b:List Int} (hu:aS vc v=some u) (hk:u.bF=4) (hv:np<=v ∨ R k (mp as v)) (h1:aS fr.aX v=some k) (h2:aS fx.aX (mp as v)=some k') (h3:aS hs k=some a) (h4:aS hx k'=some a') (hb:b.length=a.length) (hb':b.length=a'.length) :
  DG vc np as vs vF lo base (sc++[v]) (λx y=>R x y ∨ x=k/\y=mp as v) fr fx (hs.set k.toNat b) (hx.set k'.toNat b):=by
 obtain ⟨u',g1,g2,_⟩:=h.act.k v u hu
 have hne:∀k2 x2,R k2 x2->(k2=k ↔ x2=mp as v):=by
  intro k2 x2 hR
  by_cases hRk:R k (mp as v)
  ·exact h.inj _ _ _ _ hR hRk
  ·have hnv:=hv.resolve_right hRk;obtain ⟨l1,l2⟩:=h.act.al v u k hu hk hnv h1
   rcases h.old _ _ hR with ⟨o1,o2⟩ | ⟨v2,u2,o1,o2,o3,o4,o5⟩
   ·exact ⟨λe=>za,λe=>za⟩
   ·refine ⟨λe=>?_,λe=>?_⟩
    ·subst e;have:=h.act.aj v2 v u2 u _ o1 hu o2 hk o3 hnv o4 h1;subst this;exact o5.symm
    ·have:=h.act.ai v2 v u2 u o1 hu o2 hk o3 hnv (o5.trans e);subst this;rw [h1] at o4;exact (jN o4).symm
 refine ⟨h.act,λk2 x2 hR=>?_,λk2 x2 k3 x3 hR hS=>?_,λk2 x2 hR=>?_,λk2 x2 hR=>?_,λx hx y hy hky=>?_,λx hx y hy hky=>?_,λx y hy hky=>?_,λx y hy hky=>?_,h.fj,h.pre⟩
 ·have new:∃a k'',aS fx.aX (mp as v)=some k''/\aS (hs.set k.toNat b) k=some a/\aS (hx.set k'.toNat b) k''=some a:=⟨b,k',h2,by rw [Em h3,cG rfl],by rw [Em h4,cG rfl]⟩
  rcases hR with hR | ⟨rfl,rfl⟩
  ·by_cases e:k2=k
   ·have e2:=(hne _ _ hR).1 e;subst e e2;exact new
   ·have e2:x2 ≠ mp as v:=λe2=>e ((hne _ _ hR).2 e2);obtain ⟨c,k3,q1,q2,q3⟩:=h.eq _ _ hR;obtain ⟨u3,q4,q5⟩:=h.kx _ _ hR
    have e4:k3 ≠ k':=λe3=>e2 (by
     subst e3;exact h.fj _ _ u3 u' k3 (gN h.pre q4) q5 (gN h.pre g1) (by rw [g2];exact hk) q1 h2)
    exact ⟨c,k3,q1,by rw [Em h3,bU e];exact q2,by rw [Em h4,bU e4];exact q3⟩
  ·exact new
 ·rcases hR with hR | ⟨rfl,rfl⟩ <;> rcases hS with hS | ⟨rfl,rfl⟩
  ·exact h.inj _ _ _ _ hR hS
  ·exact hne _ _ hR
  ·have:=hne _ _ hS;exact ⟨λe=>(this.1 e.symm).symm,λe=>(this.2 e.symm).symm⟩
  ·exact ⟨λ_=>rfl,λ_=>rfl⟩
 ·rcases hR with hR | ⟨rfl,rfl⟩
  ·exact h.kx _ _ hR
  ·exact ⟨u',g1,g2.trans hk⟩
 ·rcases hR with hR | ⟨rfl,rfl⟩
  ·exact h.old _ _ hR
  ·rcases hv with hv | hv
   ·exact .inr ⟨v,u,hu,hk,hv,h1,rfl⟩
   ·exact h.old _ _ hv
 ·rcases BV.1 hx with hx | hx
  ·exact h.w x hx y hy hky
  ·rw [zA.1 hx,hu] at hy;rw [←jN hy] at hky;exact dE hk hky
 ·rcases BV.1 hx with hx | hx
  ·obtain ⟨q,q1,q2⟩:=h.a x hx y hy hky;exact ⟨q,q1,.inl q2⟩
  ·rw [zA.1 hx];exact ⟨k,h1,.inr ⟨rfl,rfl⟩⟩
 ·obtain ⟨q,c,q1,q2,q3⟩:=h.so x y hy hky;obtain ⟨d,d1,d2⟩:=IT h3 hb q2;exact ⟨q,d,q1,d1,by rw [d2];exact q3⟩
 ·obtain ⟨q,c,q1,q2,q3⟩:=h.sx x y hy hky;obtain ⟨d,d1,d2⟩:=IT h4 hb' q2;exact ⟨q,d,q1,d1,by rw [d2];exact q3⟩
end
section
variable {P:aK} {r r':aE} {fr fr':BT} {hs hs':Hs} {s:aA}
theorem rx_dead {b:List aA} (h:r.cN ≠ 0):RX P (.blk b) r fr hs r fr hs:=by
 cases b with
 | nil=>exact .nil
 | cons s l=>exact .dead h
theorem Hd {l:List aA} (h:RX P (.blk l) r fr hs r' fr' hs') (ht:r.cN ≠ 0):r'=r/\fr'=fr/\hs'=hs:=by
 cases h with
 | nil=>exact ⟨rfl,rfl,rfl⟩
 | dead _=>exact ⟨rfl,rfl,rfl⟩
 | cons h0 _ _=>exact dE h0 ht
theorem LW {b:List aA}:∀ {a:List aA} {r:aE} {fr hs},RX P (.blk (a++b)) r fr hs r' fr' hs'->∃r1 fr1 hs1,RX P (.blk a) r fr hs r1 fr1 hs1/\RX P (.blk b) r1 fr1 hs1 r' fr' hs'
 | [],_,_,_,h=>⟨_,_,_,.nil,h⟩
 | s::a,_,_,_,h=>by
   cases h with
   | dead h=>exact ⟨_,_,_,.dead h,rx_dead h⟩
   | cons h0 h1 h2=>
     obtain ⟨r1,f1,h1',g1,g2⟩:=LW h2;exact ⟨r1,f1,h1',.cons h0 h1 g1,g2⟩
theorem HR (h:RX P (.blk [s]) r fr hs r' fr' hs'):(r.cN ≠ 0/\r'=r/\fr'=fr/\hs'=hs) ∨ (r.cN=0/\∃f,RX P (.st s) { r with dO:=f } fr hs r' fr' hs'):=by
 cases h with
 | dead h=>exact .inl ⟨h,rfl,rfl,rfl⟩
 | cons h0 h1 h2=>
   cases h2 with
   | nil=>exact .inr ⟨h0,_,h1⟩
theorem LV (h:RX P (.st s) r fr hs r' fr' hs') (ho:Bi s.eG):∃x n y w,aS s.aM 0=some x/\aV n r fr hs x=some y/\r'=y.2/\fr'=w.1/\hs'=w.2/\(y.2.cN=0->cF fr hs s.cZ y.1=some w)/\(y.2.cN ≠ 0->w=(fr,hs)):=by
 cases h with
 | @asg _ _ _ _ x n y w h1 h2 h3 h4 h5=>exact ⟨x,n,y,w,h2,h3,rfl,rfl,rfl,h4,h5⟩
 | skip h1=>exact dE ho h1
 | _=>exfalso;simp_all [Bi]
theorem TR (h:RX P (.st s) r fr hs r' fr' hs') (ho:s.eG=[97,114,114]):∃k a,aS fr.aX s.cZ=some k/\aS hs k=some a/\r'=r/\fr'=fr/\hs'=hs.set k.toNat (List.replicate a.length 0):=by
 cases h with
 | @arr _ _ _ _ k a h1 h2 h3=>exact ⟨k,a,h2,h3,rfl,rfl,rfl⟩
 | asg h1=>exfalso;simp_all [Bi]
 | _=>exfalso;simp_all
theorem TQ (h:RX P (.st s) r fr hs r' fr' hs') (ho:s.eG=[112,117,116]):∃n y,eF n r fr hs s=some y/\r'=y.1/\fr'=y.2.1/\hs'=y.2.2:=by
 cases h with
 | @put _ _ _ _ n y h1 h2=>exact ⟨n,y,h2,rfl,rfl,rfl⟩
 | asg h1=>exfalso;simp_all [Bi]
 | _=>exfalso;simp_all
theorem TP (h:RX P (.st s) r fr hs r' fr' hs') (ho:s.eG=[114,101,116,117,114,110]):∃x n y,aS s.aM 0=some x/\aV n r fr hs x=some y/\r'=y.2/\fr'={ fr with eX:=y.1 }/\hs'=hs:=by
 cases h with
 | @ret _ _ _ _ x n y h1 h2 h3=>exact ⟨x,n,y,h2,h3,rfl,rfl,rfl⟩
 | asg h1=>exfalso;simp_all [Bi]
 | _=>exfalso;simp_all
theorem rx_if (h:RX P (.st s) r fr hs r' fr' hs') (ho:s.eG=[105,102]):∃x n y,aS s.aM 0=some x/\aV n r fr hs x=some y/\((y.2.cN ≠ 0/\r'=y.2/\fr'=fr/\hs'=hs) ∨ (y.2.cN=0/\∃z,cX y.2 1 (if y.1 ≠ 0 then 1 else 0) 0=some z/\RX P (.blk (if y.1 ≠ 0 then s.bR else s.iP)) z fr hs r' fr' hs')):=by
 cases h with
 | @iff_ _ _ _ _ x n y h1 h2 h3 h4=>exact ⟨x,n,y,h2,h3,.inl ⟨h4,rfl,rfl,rfl⟩⟩
 | @ift _ _ _ _ x n y z _ _ _ h1 h2 h3 h4 h5 h6=>exact ⟨x,n,y,h2,h3,.inr ⟨h4,z,h5,h6⟩⟩
 | asg h1=>exfalso;simp_all [Bi]
 | _=>exfalso;simp_all
theorem OS (h:RX P (.st s) r fr hs r' fr' hs') (ho:s.eG=[102,111,114]):∃x n y,aS s.aM 0=some x/\aV n r fr hs x=some y/\((y.2.cN ≠ 0/\r'=y.2/\fr'=fr/\hs'=hs) ∨ (y.2.cN=0/\∃x' n' z,aS s.aM 1=some x'/\aV n' y.2 fr hs x'=some z/\((z.2.cN ≠ 0/\r'=z.2/\fr'=fr/\hs'=hs) ∨ (z.2.cN=0/\∃w,cX z.2 2 (u32.wrap y.1) (u32.wrap z.1)=some w/\RX P (.rds (u32.wrap y.1) (u32.wrap z.1) s) w fr hs r' fr' hs')))):=by
 cases h with
 | @for1 _ _ _ _ x n y h1 h2 h3 h4=>exact ⟨x,n,y,h2,h3,.inl ⟨h4,rfl,rfl,rfl⟩⟩
 | @for2 _ _ _ _ x x' n y z h1 h2 h3 h4 h5 h6 h7=>exact ⟨x,n,y,h2,h3,.inr ⟨h4,x',n,z,h5,h6,.inl ⟨h7,rfl,rfl,rfl⟩⟩⟩
 | @for3 _ _ _ _ x x' n y z w _ _ _ h1 h2 h3 h4 h5 h6 h7 h8 h9=>exact ⟨x,n,y,h2,h3,.inr ⟨h4,x',n,z,h5,h6,.inr ⟨h7,w,h8,h9⟩⟩⟩
 | asg h1=>exfalso;simp_all [Bi]
 | _=>exfalso;simp_all
theorem LU {v hi:Int} (h:RX P (.rds v hi s) r fr hs r' fr' hs'):((¬ v<hi ∨ r.cN ≠ 0)/\r'=r/\fr'=fr/\hs'=hs) ∨ (v<hi/\r.cN=0/\∃w f r2 fr2 hs2,cF fr hs s.cZ (u64.wrap v)=some w/\RX P (.blk s.bR) { r with dO:=f } w.1 w.2 r2 fr2 hs2/\RX P (.rds (u32.wrap (v+1)) hi s) r2 fr2 hs2 r' fr' hs'):=by
 cases h with
 | rdone h=>exact .inl ⟨h,rfl,rfl,rfl⟩
 | round h1 h2 h3 h4 h5=>exact .inr ⟨h1,h2,_,_,_,_,_,h3,h4,h5⟩
end
theorem Rr.fuel {r s:aE} (h:Rr r s) (f g:Int):Rr { r with dO:=f } { s with dO:=g }:=⟨h.t,h.tr,h.e,h.e'⟩
structure BK (b:aA) (lo:Int):Prop where
 o:b.eG=[114,101,116,117,114,110] ∨ b.eG=[115,101,116] ∨ b.eG=[118,97,114]
 s:b.eG=[115,101,116]->0<=b.cZ/\b.cZ<lo
def Rt (b:aA) (fr fx:BT):Prop:=(b.eG=[114,101,116,117,114,110]->fx.eX=fr.eX)/\(b.eG=[115,101,116]->aS fx.bP b.cZ=some fr.eX)
structure pL (vc:List aJ) (np:Int) (as:List Int) (vs vF:List aJ) (lo base:Int) (sc:List Int) (R:Int->Int->Prop) (b:aA) (last:Prop) (fr fx:BT) (hs hx:Hs) (r rx:aE) (fr' fx':BT) (hs' hx':Hs):Prop where
 rr:Rr r rx
 eq:∀k x,R k x->∃a k',aS fx.aX x=some k'/\aS hs' k=some a/\aS hx' k'=some a
 fw:∀x,x<lo->(b.eG=[115,101,116]->x ≠ b.cZ)->aS fx'.bP x=aS fx.bP x
 res:b.eG ≠ [114,101,116,117,114,110]->fx'.eX=fx.eX
 fa:fr'.aX=fr.aX
 fx:fx'.aX=fx.aX
 ff:fr'.f_=fr.f_
 hl:hs'.length=hs.length
 ok:r.cN=0->∃R':Int->Int->Prop,(∀k x,R k x->R' k x)/\DG vc np as vs vF lo base sc R' fr' fx' hs' hx'/\(last->Rt b fr' fx')
section
variable {vc vs vs' vF:List aJ} {np lo base:Int} {as sc sc':List Int} {R:Int->Int->Prop} {fr fx fr1 fx1 fr2 fx2:BT} {hs hx hs1 hx1 hs2 hx2:Hs} {b:aA} {last last':Prop} {r rx r1 rx1:aE}
theorem pL.still (h:DG vc np as vs vF lo base sc R fr fx hs hx) (hr:Rr r rx) (hl:r.cN=0->¬ last):pL vc np as vs vF lo base sc R b last fr fx hs hx r rx fr fx hs hx:=
 ⟨hr,h.eq,λ_ _ _=>rfl,λ_=>rfl,rfl,rfl,rfl,rfl,λht=>⟨R,λ_ _ h=>h,h,λl=>dE l (hl ht)⟩⟩
theorem pL.seq (h:pL vc np as vs vF lo base sc R b last fr fx hs hx r rx fr1 fx1 hs1 hx1) (hd:r.cN ≠ 0->r1=r/\fr2=fr1/\hs2=hs1) (hd':rx.cN ≠ 0->rx1=rx/\fx2=fx1/\hx2=hx1)
  (k:∀R':Int->Int->Prop,r.cN=0->DG vc np as vs vF lo base sc R' fr1 fx1 hs1 hx1->pL vc np as vs' vF lo base sc' R' b last' fr1 fx1 hs1 hx1 r1 rx1 fr2 fx2 hs2 hx2):pL vc np as vs' vF lo base sc' R b last' fr fx hs hx r1 rx1 fr2 fx2 hs2 hx2:=by
 by_cases ht:r.cN=0
 ·obtain ⟨R',g1,g2,g3⟩:=h.ok ht;have h2:=k R' ht g2;refine ⟨h2.rr,λk x hR=>?_,λx hx1' hx2'=>(h2.fw x hx1' hx2').trans (h.fw x hx1' hx2'),λe=>(h2.res e).trans (h.res e),h2.fa.trans h.fa,h2.fx.trans h.fx,h2.ff.trans h.ff,h2.hl.trans h.hl,λht2=>?_⟩
  ·obtain ⟨a,k',q1,q2,q3⟩:=h2.eq k x (g1 k x hR);exact ⟨a,k',by rw [←h.fx];exact q1,q2,q3⟩
  ·obtain ⟨R2,q1,q2,q3⟩:=h2.ok ht2;exact ⟨R2,λk x hR=>q1 k x (g1 k x hR),q2,q3⟩
 ·obtain ⟨rfl,rfl,rfl⟩:=hd ht;obtain ⟨rfl,rfl,rfl⟩:=hd' (by rw [h.rr.t];exact ht);exact ⟨h.rr,h.eq,h.fw,h.res,h.fa,h.fx,h.ff,h.hl,λe=>dE e ht⟩
theorem pL.mono (h:pL vc np as vs vF lo base sc R b last fr fx hs hx r rx fr1 fx1 hs1 hx1) (hv:vs <+: vs') (hF:vs' <+: vF) (hsc:∀v ∈ sc',v ∈ sc) (hl:last'->last):pL vc np as vs' vF lo base sc' R b last' fr fx hs hx r rx fr1 fx1 hs1 hx1:=
 ⟨h.rr,h.eq,h.fw,h.res,h.fa,h.fx,h.ff,h.hl,λht=>by
  obtain ⟨R',g1,g2,g3⟩:=h.ok ht;exact ⟨R',g1,(g2.mono hv hF).sub hsc,λl=>g3 (hl l)⟩⟩
end
section
variable {P PX:aK} {vc vs vs' vF:List aJ} {np lo base:Int} {as sc sc':List Int} {R:Int->Int->Prop} {fr fx fr1 fx1 fr2 fx2:BT} {hs hx hs1 hx1 hs2 hx2:Hs} {b:aA} {last last':Prop} {r rx r1 rx1:aE} {s sx:aA}
theorem pL.dead (h:DG vc np as vs vF lo base sc R fr fx hs hx) (hr:Rr r rx) (ht:r.cN ≠ 0):pL vc np as vs' vF lo base sc' R b last fr fx hs hx r rx fr fx hs hx:=
 ⟨hr,h.eq,λ_ _ _=>rfl,λ_=>rfl,rfl,rfl,rfl,rfl,λe=>dE e ht⟩
theorem pL.go {R':Int->Int->Prop} (h:DG vc np as vs vF lo base sc R fr fx hs hx) (hr:Rr r rx) (hR:∀k x,R k x->R' k x) (h':DG vc np as vs vF lo base sc' R' fr1 fx1 hs1 hx1) (fa:fr1.aX=fr.aX) (fxa:fx1.aX=fx.aX) (ff:fr1.f_=fr.f_) (hl:hs1.length=hs.length)
  (fw:∀x,x<lo->(b.eG=[115,101,116]->x ≠ b.cZ)->aS fx1.bP x=aS fx.bP x) (res:b.eG ≠ [114,101,116,117,114,110]->fx1.eX=fx.eX) (hl':r.cN=0->last->Rt b fr1 fx1):pL vc np as vs vF lo base sc' R b last fr fx hs hx r rx fr1 fx1 hs1 hx1:=
 ⟨hr,λk x hk=>by obtain ⟨a,k',q1,q2,q3⟩:=h'.eq k x (hR k x hk);exact ⟨a,k',by rw [←fxa];exact q1,q2,q3⟩,fw,res,fa,fxa,ff,hl,λht=>⟨R',hR,h',hl' ht⟩⟩
theorem LR (h:DG vc np as vs vF lo base sc R fr fx hs hx) (hr:Rr r rx) {v:Int} {u:aJ} {x:aF} (hu:aS vc v=some u) (hk:u.bF ≠ 4) (hx':TX vc sc x) (ho:Bi s.eG) (hox:Bi sx.eG) (hv:s.cZ=v) (hvx:sx.cZ=mp as v) (hl:aS s.aM 0=some x) (hlx:aS sx.aM 0=some (Abs.fx as x))
  (h1:RX P (.st s) r fr hs r1 fr1 hs1) (h2:RX PX (.st sx) rx fx hx rx1 fx1 hx1):pL vc np as vs vF lo base (sc++[v]) R b False fr fx hs hx r1 rx1 fr1 fx1 hs1 hx1:=by
 obtain ⟨e,n,y,w,e1,e2,rfl,rfl,rfl,e6,e7⟩:=LV h1 ho;obtain ⟨e',m,y',w',f1,f2,rfl,rfl,rfl,f6,f7⟩:=LV h2 hox;rw [hl] at e1;obtain rfl:=jN e1
 rw [hlx] at f1;obtain rfl:=jN f1
 obtain ⟨g1,g2⟩:=(wS h.vr n m).1 x hx' r rx hr y y' e2 f2
 by_cases ht:y.2.cN=0
 ·have ht':y'.2.cN=0:=by rw [g2.t];exact ht
  have p1:=e6 ht;have p2:=f6 ht';rw [hv] at p1;rw [hvx,g1] at p2;obtain ⟨a1,a2,a3,a4,a5,a6,a7⟩:=rY p1;obtain ⟨b1,b2,b3,b4,b5,b6,b7⟩:=rY p2;have hlo:=h.act.wl v u hu hk;have h0:=h.act.lo0;obtain ⟨_,b7⟩:=b7 za;refine pL.go h g2 (λ_ _ h=>h) (h.put hu hk p1 p2) a3 b3 a2 (by rw [a1]) (λz hz _=>?_) (λ_=>b4) λ_=>False.elim;rw [b7,bU za]
 ·obtain rfl:=e7 ht;obtain rfl:=f7 (by rw [g2.t];exact ht);exact pL.dead h g2 ht
theorem sim_arr (h:DG vc np as vs vF lo base sc R fr fx hs hx) (hr:Rr r rx) {v:Int} {u:aJ} (hu:aS vc v=some u) (hk:u.bF=4) (hn:np<=v) (ho:s.eG=[97,114,114]) (hox:sx.eG=[97,114,114]) (hv:s.cZ=v) (hvx:sx.cZ=mp as v)
  (h1:RX P (.st s) r fr hs r1 fr1 hs1) (h2:RX PX (.st sx) rx fx hx rx1 fx1 hx1):pL vc np as vs vF lo base (sc++[v]) R b False fr fx hs hx r1 rx1 fr1 fx1 hs1 hx1:=by
 obtain ⟨k,a,e1,e2,rfl,rfl,rfl⟩:=TR h1 ho;obtain ⟨k',a',f1,f2,rfl,rfl,rfl⟩:=TR h2 hox;rw [hv] at e1;rw [hvx] at f1;obtain ⟨u',u1,u2,u3⟩:=h.act.k v u hu
 have hla:a'.length=a.length:=by
  obtain ⟨k2,a2,q1,q2,q3⟩:=h.so v u hu hk;rw [e1] at q1;obtain rfl:=jN q1
  rw [e2] at q2;obtain rfl:=jN q2
  obtain ⟨k3,a3,s1,s2,s3⟩:=h.sx _ u' (gN h.pre u1) (u2.trans hk);rw [f1] at s1;obtain rfl:=jN s1
  rw [f2] at s2;obtain rfl:=jN s2
  have:=u3 hk;omega
 rw [hla];exact pL.go h hr (λ_ _ h=>.inl h) (h.set hu hk (.inl hn) e1 f1 e2 f2 zc (by simp [hla])) rfl rfl rfl zc (λ_ _ _=>rfl) (λ_=>rfl) λ_=>False.elim
theorem sim_put (h:DG vc np as vs vF lo base sc R fr fx hs hx) (hr:Rr r rx) {v:Int} {u:aJ} {i x:aF} (hv:v ∈ sc) (hu:aS vc v=some u) (hk:u.bF=4) (hi:TX vc sc i) (hx':TX vc sc x) (ho:s.eG=[112,117,116]) (hox:sx.eG=[112,117,116]) (hsv:s.cZ=v) (hvx:sx.cZ=mp as v) (hl:s.aM=[i,x]) (hlx:sx.aM=[Abs.fx as i,Abs.fx as x])
  (h1:RX P (.st s) r fr hs r1 fr1 hs1) (h2:RX PX (.st sx) rx fx hx rx1 fx1 hx1):pL vc np as vs vF lo base sc R b False fr fx hs hx r1 rx1 fr1 fx1 hs1 hx1:=by
 obtain ⟨n,y,e1,rfl,rfl,rfl⟩:=TQ h1 ho;obtain ⟨m,y',f1,rfl,rfl,rfl⟩:=TQ h2 hox;unfold eF at e1 f1;rw [hl,hsv] at e1;rw [hlx,hvx] at f1;obtain ⟨i1,e2,e1⟩:=aD e1;obtain rfl:i=i1:=jN e2;obtain ⟨i2,f2,f1⟩:=aD f1;obtain rfl:Abs.fx as i=i2:=jN f2;obtain ⟨p,hp,e1⟩:=aD e1;obtain ⟨q,hq,f1⟩:=aD f1;obtain ⟨g1,g2⟩:=(wS h.vr n m).2 i v u hi hv hu hk r rx hr p q hp hq;obtain ⟨d,hd,e1⟩:=aD e1;obtain ⟨d',hd',f1⟩:=aD f1;rw [g2.ended,hd] at hd';obtain rfl:=jN hd';cases d with
 | true=>
   rw [cG rfl] at e1 f1;obtain rfl:=jN e1;obtain rfl:=jN f1;exact pL.dead h g2 ((nD hd g2.e).1 rfl)
 | false=>
   rw [bU zb] at e1 f1;obtain ⟨x1,e2,e1⟩:=aD e1;obtain rfl:x=x1:=jN e2;obtain ⟨x2,f2,f1⟩:=aD f1;obtain rfl:Abs.fx as x=x2:=jN f2;obtain ⟨c,hc,e1⟩:=aD e1;obtain ⟨c',hc',f1⟩:=aD f1;obtain ⟨g3,g4⟩:=(wS h.vr n m).1 x hx' p.2 q.2 g2 c c' hc hc';obtain ⟨d,hd2,e1⟩:=aD e1;obtain ⟨d',hd2',f1⟩:=aD f1;rw [g4.ended,hd2] at hd2';obtain rfl:=jN hd2';cases d with
   | true=>
     rw [bU zb] at e1 f1;obtain rfl:=jN e1;obtain rfl:=jN f1;exact pL.dead h g4 ((nD hd2 g4.e).1 rfl)
   | false=>
     rw [cG zb] at e1 f1;obtain ⟨k,k1,e1⟩:=aD e1;obtain ⟨a,a1,e1⟩:=aD e1;obtain ⟨_,_,e1⟩:=aD e1;obtain ⟨k',k1',f1⟩:=aD f1;obtain ⟨a',a1',f1⟩:=aD f1;obtain ⟨_,_,f1⟩:=aD f1;obtain rfl:=jN e1;obtain rfl:=jN f1;obtain ⟨k2,s1,s2⟩:=h.a v hv u hu hk;rw [k1] at s1;obtain rfl:=jN s1
     have hae:a'=a:=by
      have:=h.vr.a v hv u hu hk k k' k1 k1';rw [a1,a1'] at this;exact jN this
     subst hae;rw [g1,g3];exact pL.go h g4 (λ_ _ h=>.inl h) ((h.set hu hk (.inr s2) k1 k1' a1 a1' zc zc).sub λz hz=>MI _ hz) rfl rfl rfl zc (λ_ _ _=>rfl) (λ_=>rfl) λ_=>False.elim
theorem sim_ret (h:DG vc np as vs vF lo base sc R fr fx hs hx) (hr:Rr r rx) {x:aF} (hb:BK b lo) (hx':TX vc sc x) (ho:s.eG=[114,101,116,117,114,110]) (hl:aS s.aM 0=some x) (hlx:aS sx.aM 0=some (Abs.fx as x)) (hox:sx.eG=b.eG) (hvx:b.eG=[115,101,116]->sx.cZ=b.cZ) (hvv:b.eG=[118,97,114]->sx.cZ=vs.length)
  (h1:RX P (.st s) r fr hs r1 fr1 hs1) (h2:RX PX (.st sx) rx fx hx rx1 fx1 hx1):pL vc np as vs vF lo base sc R b True fr fx hs hx r1 rx1 fr1 fx1 hs1 hx1:=by
 obtain ⟨e,n,y,e1,e2,rfl,rfl,rfl⟩:=TP h1 ho;rw [hl] at e1;obtain rfl:=jN e1
 have hrel:∀(z:Int) {fx2:BT} {hs hx:Hs},DG vc np as vs vF lo base sc R fr fx2 hs hx->DG vc np as vs vF lo base sc R { fr with eX:=z } fx2 hs hx:=λz fx2 _ _ h=>⟨h.act,h.eq,h.inj,h.kx,h.old,h.w,h.a,h.so,h.sx,h.fj,h.pre⟩
 by_cases hret:b.eG=[114,101,116,117,114,110]
 ·obtain ⟨e',m,y',f1,f2,rfl,rfl,rfl⟩:=TP h2 (hox.trans hret);rw [hlx] at f1;obtain rfl:=jN f1
  obtain ⟨g1,g2⟩:=(wS h.vr n m).1 x hx' r rx hr y y' e2 f2;refine pL.go h g2 (λ_ _ h=>h) (hrel _ (h.other rfl λ_ _ _ _ _=>rfl)) rfl rfl rfl rfl (λ_ _ _=>rfl) (λe=>dE hret e) λ_ _=>⟨λ_=>g1,λe=>by rw [hret] at e;exact dE e zb⟩
 ·have hba:Bi sx.eG:=by
   rw [hox]
   rcases hb.o with e | e | e
   ·exact dE e hret
   ·exact .inr (.inr e)
   ·exact .inr (.inl e)
  obtain ⟨e',m,y',w',f1,f2,rfl,rfl,rfl,f6,f7⟩:=LV h2 hba;rw [hlx] at f1;obtain rfl:=jN f1
  obtain ⟨g1,g2⟩:=(wS h.vr n m).1 x hx' r rx hr y y' e2 f2
  by_cases ht:y.2.cN=0
  ·have p2:=f6 (by rw [g2.t];exact ht);obtain ⟨b1,b2,b3,b4,b5,b6,b7⟩:=rY p2;have hlv:=h.act.lov;have h0:=h.act.lo0
   have hv0:0<=sx.cZ/\(b.eG=[115,101,116]/\sx.cZ<lo/\sx.cZ=b.cZ ∨ b.eG=[118,97,114]/\sx.cZ=vs.length):=by
    rcases hb.o with e | e | e
    ·exact dE e hret
    ·have:=hb.s e;rw [hvx e];exact ⟨this.1,.inl ⟨e,this.2,rfl⟩⟩
    ·rw [hvv e];exact ⟨za,.inr ⟨e,rfl⟩⟩
   obtain ⟨_,b7⟩:=b7 hv0.1;rw [b1];refine pL.go h g2 (λ_ _ h=>h) (hrel _ (h.other b3 λv hv u hu hk=>?_)) rfl b3 rfl rfl (λz hz hzb=>?_) (λ_=>b4) λ_ _=>⟨λe=>dE e hret,λe=>?_⟩
   ·obtain ⟨u',k1,_,_⟩:=h.act.k v u hu;have:=h.act.wl v u hu hk;have:=(rL k1).2;rw [b7,bU]
    rcases hv0.2 with ⟨_,e,_⟩ | ⟨_,e⟩ <;> omega
   ·rw [b7,bU]
    rcases hv0.2 with ⟨e1,_,e⟩ | ⟨_,e⟩
    ·have:=hzb e1;omega
    ·omega
   ·rcases hv0.2 with ⟨_,_,e2⟩ | ⟨e2,_⟩
    ·rw [b7,←e2,cG rfl,g1]
    ·rw [e] at e2;exact dE e2 zb
  ·obtain rfl:=f7 (by rw [g2.t];exact ht);exact ⟨g2,h.eq,λ_ _ _=>rfl,λ_=>rfl,rfl,rfl,rfl,rfl,λe=>dE e ht⟩
end
section
variable {P PX:aK} {vc vs vs' vF ps:List aJ} {np lo base:Int} {as sc:List Int} {R:Int->Int->Prop} {fr fx fx1:BT} {hs hx hx1 h2:Hs}
theorem Kg.own_is {fU:Int} {l:List aF} {i:Nat} {o:List aA} {own:List Int} (h:Kg as fU ps vs l i o own vs') :
  own.length=l.length/\vs.length<=vs'.length/\∀(j:Nat) y w,l[j]? = some y->own[j]? = some w->(y.cP=4->w=mp as y.cZ)/\(y.cP ≠ 4->(vs.length:Int)<=w/\w<vs'.length/\∀(j2:Nat) y2 w2,j<j2->l[j2]? = some y2->y2.cP ≠ 4->own[j2]? = some w2->w<w2):=by
 induction h with
 | nil=>exact ⟨rfl,tW _,λj y w h=>by simp at h⟩
 | @arr vs y l i o own vs' h1 h2 ih=>
   obtain ⟨i1,i2,i3⟩:=ih;refine ⟨by simp [i1],i2,λj z w hz hw=>?_⟩;cases j with
   | zero=>
     simp only [KJ,Option.some.injEq] at hz hw;subst hz hw;exact ⟨λ_=>rfl,λh=>dE h1 h⟩
   | succ j=>
     rw [ED] at hz hw;obtain ⟨g1,g2⟩:=i3 j z w hz hw;refine ⟨g1,λhn=>?_⟩;obtain ⟨g3,g4,g5⟩:=g2 hn;refine ⟨g3,g4,λj2 y2 w2 hj hy hn2 hw2=>?_⟩;cases j2 with
     | zero=>omega
     | succ j2=>exact g5 j2 y2 w2 za (by rwa [ED] at hy) hn2 (by rwa [ED] at hw2)
 | @val vs y l i u o own vs' h1 hu h2 ih=>
   obtain ⟨i1,i2,i3⟩:=ih;rw [nB,tF] at i2;refine ⟨by simp [i1],za,λj z w hz hw=>?_⟩;cases j with
   | zero=>
     simp only [KJ,Option.some.injEq] at hz hw;subst hz hw;refine ⟨λh=>dE h h1,λ_=>⟨Oz _,za,λj2 y2 w2 hj hy hn2 hw2=>?_⟩⟩;cases j2 with
     | zero=>omega
     | succ j2=>
       obtain ⟨_,g2⟩:=i3 j2 y2 w2 (by rwa [ED] at hy) (by rwa [ED] at hw2);have:=(g2 hn2).1;rw [nB,tF] at this;omega
   | succ j=>
     rw [ED] at hz hw;obtain ⟨g1,g2⟩:=i3 j z w hz hw;refine ⟨g1,λhn=>?_⟩;obtain ⟨g3,g4,g5⟩:=g2 hn;rw [nB,tF] at g3;refine ⟨za,g4,λj2 y2 w2 hj hy hn2 hw2=>?_⟩;cases j2 with
     | zero=>omega
     | succ j2=>exact g5 j2 y2 w2 za (by rwa [ED] at hy) hn2 (by rwa [ED] at hw2)
structure ArgR (l:List aF) (i:Nat) (own:List Int) (fr fx1 to to1:BT):Prop where
 f:to1.f_=to.f_
 r:to1.eX=to.eX
 lo:∀j:Int,j<i->aS to1.bP j=aS to.bP j/\aS to1.aX j=aS to.aX j
 hi:∀j:Int,(i+l.length:Nat)<=j->aS to1.aX j=aS to.aX j
 v:∀(j:Nat) y w,l[j]? = some y->own[j]? = some w->(y.cP ≠ 4->∃z,aS to1.bP ((i+j:Nat):Int)=some z/\aS fx1.bP w=some z)/\(y.cP=4->∃k,aS to1.aX ((i+j:Nat):Int)=some k/\aS fr.aX y.cZ=some k)
theorem Oa {fU:Int} {l:List aF} {i:Nat} {o:List aA} {own:List Int} (h:Kg as fU ps vs l i o own vs'):∀ {r rx rx1:aE} {fx:BT} {to:BT} {n:Nat} {c},DG vc np as vs vF lo base sc R fr fx hs hx->vs' <+: vF->Rr r rx->r.cN=0->(∀(j:Nat) y,l[j]? = some y->y.cP ≠ 4->TX vc sc y)->mN n fr hs h2 l i r to=some c->RX PX (.blk o) rx fx hx rx1 fx1 hx1 ->
  hx1=hx/\fx1.aX=fx.aX/\fx1.eX=fx.eX/\(∀x:Int,x<vs.length->aS fx1.bP x=aS fx.bP x)/\match c with
   | .inl r1=>Rr r1 rx1/\r1.cN ≠ 0
   | .inr x=>Rr x.1 rx1/\x.1.cN=0/\ArgR l i own fr fx1 to x.2:=by
 induction h with
 | nil=>
   intro r rx rx1 fx to n c hR hF hr ht hT hc hx';unfold mN at hc;obtain rfl:=jN hc;cases hx' with
   | nil=>exact ⟨rfl,rfl,rfl,λ_ _=>rfl,hr,ht,rfl,rfl,λ_ _=>⟨rfl,rfl⟩,λ_ _=>rfl,λj y w h=>by simp at h⟩
 | @arr vs y l i o own vs' h1 hA ih=>
   intro r rx rx1 fx to n c hR hF hr ht hT hc hx';unfold mN at hc;rw [cG h1] at hc;obtain ⟨k,hk,hc⟩:=aD hc;obtain ⟨⟨k0,k1,k2⟩,hc⟩:=bN hc;obtain ⟨g1,g2,g3,g4,g5⟩:=ih hR hF hr ht (λj z hz=>hT (j+1) z (by rw [ED];exact hz)) hc hx';refine ⟨g1,g2,g3,g4,?_⟩;cases c with
   | inl r1=>exact g5
   | inr x=>
     obtain ⟨g6,g7,g8⟩:=g5;obtain ⟨z,hz⟩:=Qu (l:=to.aX) (i:=(i:Int)) za za
     have hset:∀j:Int,aS (to.aX.set i k) j=if j=i then some k else aS to.aX j:=λj=>by
      have:=Em (x:=k) (j:=j) hz
      rwa [wR] at this
     refine ⟨g6,g7,g8.f,g8.r,λj hj=>?_,λj hj=>?_,λj z w hz hw=>?_⟩
     ·obtain ⟨q1,q2⟩:=g8.lo j za;exact ⟨q1,by rw [q2];show aS (to.aX.set i k) j=_;rw [hset,bU za]⟩
     ·rw [jJ] at hj;rw [g8.hi j za];show aS (to.aX.set i k) j=_;rw [hset,bU za]
     ·cases j with
      | zero=>
        simp only [KJ,Option.some.injEq] at hz;subst hz;refine ⟨λh=>dE h1 h,λ_=>⟨k,?_,hk⟩⟩;rw [(g8.lo _ za).2];show aS (to.aX.set i k) _=_;rw [hset,cG za]
      | succ j=>
        rw [ED] at hz hw;have:=g8.v j z w hz hw;rw [show i+1+j=i+(j+1) by omega] at this;exact this
 | @val vs y l i u o own vs' h1 hu hA ih=>
   intro r rx rx1 fx to n c hR hF hr ht hT hc hx';unfold mN at hc;rw [bU h1] at hc;obtain ⟨v,hv,hc⟩:=aD hc;obtain ⟨b,hb,hc⟩:=aD hc;obtain ⟨_,hown,_⟩:=hA.own_is;have hpre:vs <+: vs':=(GR _ _).trans hA.pre;cases hx' with
   | dead h=>exact dE ht (by rw [←hr.t];exact h)
   | @cons _ _ _ _ _ f r2 fr2 hs2 _ _ _ _ h3 h4=>
     obtain ⟨x,m,y',w',f1,f2,rfl,rfl,rfl,f6,f7⟩:=LV h3 (by
      show Bi (if u.bF=1 then _ else _)
      split
      ·exact .inl rfl
      ·exact .inr (.inl rfl))
     obtain rfl:Abs.fx as y=x:=jN f1;obtain ⟨g1,g2⟩:=(wS hR.vr n m).1 y (hT 0 y rfl h1) r _ (show Rr r { rx with dO:=f } from ⟨hr.t,hr.tr,hr.e,hr.e'⟩) v y' hv f2;cases b with
     | true=>
       rw [cG rfl] at hc;obtain rfl:=jN hc;have hvt:=(nD hb g2.e).1 rfl;obtain rfl:=f7 (by rw [g2.t];exact hvt);obtain ⟨rfl,rfl,rfl⟩:=Hd h4 (by rw [g2.t];exact hvt);exact ⟨rfl,rfl,rfl,λ_ _=>rfl,g2,hvt⟩
     | false=>
       rw [bU zb] at hc;obtain ⟨t,ht2,hc⟩:=aD hc;have hvt:=(nD hb g2.e).2 rfl;have p2:=f6 (by rw [g2.t];exact hvt);obtain ⟨b1,b2,b3,b4,b5,b6,b7⟩:=rY p2;obtain ⟨c1,c2,c3,c4,c5,c6,c7⟩:=rY ht2;obtain ⟨_,b7⟩:=b7 (show (0:Int)<=(vs.length:Int) by omega);obtain ⟨_,c7⟩:=c7 za
       have hR2:DG vc np as (vs++[u]) vF lo base sc R fr w'.1 hs hx:=(hR.other b3 λv hv u hu hk=>by
        obtain ⟨u',k1,_,_⟩:=hR.act.k v u hu;have:=(rL k1).2;rw [b7,bU (show ¬ mp as v=(vs.length:Int) by omega)]).mono (GR _ _) (hA.pre.trans hF)
       rw [b1] at h4;obtain ⟨q1,q2,q3,q4,q5⟩:=ih (to:=t.1) hR2 hF g2 hvt (λj z hz=>hT (j+1) z (by rw [ED];exact hz)) hc h4;rw [nB,tF] at q4;refine ⟨q1,q2.trans b3,q3.trans b4,λx hx=>?_,?_⟩
       ·rw [q4 x za,b7,bU (show ¬ x=(vs.length:Int) by omega)]
       ·cases c with
        | inl r1=>exact q5
        | inr x=>
          obtain ⟨q6,q7,q8⟩:=q5;refine ⟨q6,q7,q8.f.trans c2,q8.r.trans c4,λj hj=>?_,λj hj=>?_,λj z w hz hw=>?_⟩
          ·obtain ⟨s1,s2⟩:=q8.lo j za;exact ⟨by rw [s1,c7,bU za],by rw [s2,c3]⟩
          ·rw [jJ] at hj;rw [q8.hi j za,c3]
          ·cases j with
           | zero=>
             simp only [KJ,Option.some.injEq] at hz hw;subst hz hw;refine ⟨λ_=>⟨v.1,?_,?_⟩,λh=>dE h h1⟩
             ·rw [(q8.lo _ za).1,c7,cG za]
             ·rw [q4 _ za,b7,cG (show (vs.length:Int)=(vs.length:Int) from rfl),g1]
           | succ j=>
             rw [ED] at hz hw;have:=q8.v j z w hz hw;rw [show i+1+j=i+(j+1) by omega] at this;exact this
end
structure ON (p b:Nat) (l:List aJ) (i:Nat) (rs:List Int) (hs:Hs) (x:List Int × Hs):Prop where
 len:x.1.length=rs.length
 low:∀j,j<p+i->x.1[j]? = rs[j]?
 pre:hs <+: x.2
 num:∀(j:Nat) v,l[j]? = some v->v.bF=4->∃m:Nat,hs.length<=m/\x.1[p+i+j]? = some ((b+m:Nat):Int)/\x.2[m]? = some (List.replicate v.gA.toNat 0)/\0<v.gA/\∀(j2:Nat) v2 a,j<j2->l[j2]? = some v2->v2.bF=4->x.1[p+i+j2]? = some a->((b+m:Nat):Int)<a
theorem FU (p b:Nat):∀(l:List aJ) (i:Nat) (rs:List Int) (hs:Hs) (x:List Int × Hs),BZ p l i b rs hs=some x->p+i+l.length<=rs.length->ON p b l i rs hs x
 | [],i,rs,hs,x,h,hl=>by
   unfold BZ at h;obtain rfl:=jN h;exact ⟨rfl,λ_ _=>rfl,Ig _,λj v h=>by simp at h⟩
 | v::l,i,rs,hs,x,h,hl=>by
   rw [jJ] at hl;unfold BZ at h
   have hrest:∀ {i':Nat} {rs':List Int} {hs':Hs},ON p b l (i+1) rs' hs' x->∀(j:Nat) u,(v::l)[j+1]? = some u->u.bF=4->∃m:Nat,hs'.length<=m/\x.1[p+i+(j+1)]? = some ((b+m:Nat):Int)/\x.2[m]? = some (List.replicate u.gA.toNat 0)/\0<u.gA/\∀(j2:Nat) v2 a,j+1<j2->(v::l)[j2]? = some v2->v2.bF=4->x.1[p+i+j2]? = some a->((b+m:Nat):Int)<a:=by
    intro i' rs' hs' g j u hu hk;rw [ED] at hu;obtain ⟨m,m1,m2,m3,m4,m5⟩:=g.num j u hu hk;refine ⟨m,m1,by rw [show p+i+(j+1)=p+(i+1)+j by omega];exact m2,m3,m4,λj2 v2 a hj hv2 hk2 ha=>?_⟩;cases j2 with
    | zero=>omega
    | succ j2=>
      rw [ED] at hv2;exact m5 j2 v2 a za hv2 hk2 (by rw [show p+(i+1)+j2=p+i+(j2+1) by omega];exact ha)
   by_cases hk:v.bF=4
   ·rw [cG hk] at h;obtain ⟨hsz,h⟩:=bN h;have g:=FU p b l (i+1) _ _ x h (by rw [yS];omega);refine ⟨by rw [g.len,yS],λj hj=>by rw [g.low j za,MM za],(GR _ _).trans g.pre,λj u hu hku=>?_⟩;cases j with
    | zero=>
      simp only [KJ,Option.some.injEq] at hu;subst hu;refine ⟨hs.length,tW _,?_,?_,hsz.1,λj2 v2 a hj hv2 hk2 ha=>?_⟩
      ·rw [g.low _ za,SU,Ki za]
      ·obtain ⟨z,hz⟩:=g.pre;rw [←hz,ML,GT (tW _),Tc];rfl
      ·cases j2 with
       | zero=>omega
       | succ j2=>
         rw [ED] at hv2;obtain ⟨m,m1,m2,_⟩:=g.num j2 v2 hv2 hk2;rw [show p+i+(j2+1)=p+(i+1)+j2 by omega,m2] at ha;rw [←jN ha];rw [nB,tF] at m1;omega
    | succ j=>
      obtain ⟨m,m1,m2⟩:=hrest (i':=0) g j u hu hku;rw [nB,tF] at m1;exact ⟨m,za,m2⟩
   ·rw [bU hk] at h;have g:=FU p b l (i+1) rs hs x h za;refine ⟨g.len,λj hj=>g.low j za,g.pre,λj u hu hku=>?_⟩;cases j with
    | zero=>
      simp only [KJ,Option.some.injEq] at hu;subst hu;exact dE hku hk
    | succ j=>exact hrest (i':=0) g j u hu hku
theorem oM {α:Type} {l:List α} {v:Int} {x:α} (h:aS l v=some x):∃i:Nat,v=(i:Int)/\l[i]? = some x:=by
 obtain ⟨h0,h1⟩:=Ax h;exact ⟨v.toNat,za,h1⟩
section
variable {P PX:aK} {vc vs vs' v1 vF:List aJ} {np lo base:Int} {as sc own:List Int} {R:Int->Int->Prop} {fr fx fx1 to:BT} {hs hx:Hs} {xs:List aF} {f:aP}
theorem cmap {fv:List aJ} {pn:Nat} (hpn:pn<=fv.length) (hol:own.length=pn) {i:Nat} (hi:i<fv.length):(i<pn->own[i]? = some (mp (own++uT v1.length (fv.drop pn).length) (i:Int)))/\(pn<=i->mp (own++uT v1.length (fv.drop pn).length) (i:Int)=(v1.length:Int)+((i - pn:Nat):Int)):=by
 have hlen:(own++uT v1.length (fv.drop pn).length).length=fv.length:=by
  rw [nB,hol];simp [uT];omega
 have hmp:mp (own++uT v1.length (fv.drop pn).length) (i:Int)=((own++uT v1.length (fv.drop pn).length)[i]?).getD (i:Int):=by
  unfold mp;rw [bU (by rw [hlen];omega),wR]
 rw [hmp];refine ⟨λh=>?_,λh=>?_⟩
 ·rw [HH za,tS za];rfl
 ·have hn:(uT v1.length (fv.drop pn).length)[i - own.length]? = some ((v1.length+(i - pn):Nat):Int):=by
   unfold uT;rw [AJ,xel (by rw [HG];omega),hol];rfl
  rw [GT za,hn];simp
theorem Bq.k4 {p:aJ} {x:aF} (h:Bq vc sc p x) (hv:∀u ∈ vc,sE u):(x.cP=4 ↔ p.bF=4)/\(x.cP ≠ 4->TX vc sc x)/\(x.cP=4->x.cZ ∈ sc/\∃u,aS vc x.cZ=some u/\u.bF=4/\u.gA=p.gA):=by
 cases h with
 | arr h1 h2 h3 h4 h5=>exact ⟨⟨λ_=>h1,λ_=>rfl⟩,λh=>dE rfl h,λ_=>⟨h2,_,h3,h4,h5⟩⟩
 | pub h1 h2 h3=>exact ⟨⟨λh=>za,λh=>za⟩,λ_=>h2,λh=>za⟩
 | val h1 h2 h3 h4=>
   have:=(h3.range hv).2;exact ⟨⟨λh=>za,λh=>dE h h2⟩,λ_=>h3,λh=>za⟩
theorem Vd (h:DG vc np as v1 vF lo base sc R fr fx1 hs hx) {L:Nat} (hL:vs.length=L) (hlo:lo<=(L:Int)) {fU:Int} {o1:List aA} {pn:Nat} (hpn:pn<=f.aO.length) (hA:Kg as fU f.aO vs xs 0 o1 own v1) (hvc:∀u ∈ vc,sE u) (hvo:∀u ∈ f.aO,sE u) (hxl:xs.length=pn)
  (hT:∀(j:Nat) p y,f.aO[j]? = some p->xs[j]? = some y->Bq vc sc p y) {x:List Int × Hs} (ho:BZ pn (f.aO.drop pn) 0 hs.length (List.replicate f.aO.length (-1)) []=some x) (hR:ArgR xs 0 own fr fx1 ⟨f,List.replicate f.aO.length 0,x.1,0⟩ to)
  (hF:v1++f.aO.drop pn <+: vF) (hx0:∀k y,R k y->y<(L:Int)) (hm:zV vc vs as sc (sc.map (mp as))):DG f.aO pn (own++uT v1.length (f.aO.drop pn).length) (v1++f.aO.drop pn) vF L hs.length (rJ pn) R to fx1 (hs++x.2) hx:=by
 obtain ⟨o1',o2,o3⟩:=hA.own_is;have hol:own.length=pn:=o1'.trans hxl;have hN:=FU pn hs.length (f.aO.drop pn) 0 _ _ x ho (by rw [Oy,HG];omega);obtain ⟨scX1,_,_,q3⟩:=hA.ok (resT:=0) hvo hvc hm (λk p y h1 h2=>hT k p y (by rwa [ES] at h1) h2) za;have hmap:=Qe (fv:=f.aO) (v1:=v1) (scX1:=scX1) hpn hol (λk p hk hp=>q3 k p za hp)
 -- parameters
 have hpar:∀(i:Nat) u,f.aO[i]? = some u->i<pn->∃y w,xs[i]? = some y/\own[i]? = some w/\mp (own++uT v1.length (f.aO.drop pn).length) (i:Int)=w/\Bq vc sc u y:=by
  intro i u hu hi;have h1:xs[i]? = some xs[i]:=tS za;have h2:=(cmap (v1:=v1) hpn hol (sG.1 hu).1).1 hi;exact ⟨_,_,h1,h2,rfl,hT i u _ hu h1⟩
 have hloc:∀(i:Nat) u,f.aO[i]? = some u->pn<=i->mp (own++uT v1.length (f.aO.drop pn).length) (i:Int)=(v1.length:Int)+((i - pn:Nat):Int):=λi u hu hi=>(cmap hpn hol (sG.1 hu).1).2 hi
 have hwpar:∀(i:Nat) u,f.aO[i]? = some u->i<pn->u.bF ≠ 4->(L:Int)<=mp (own++uT v1.length (f.aO.drop pn).length) (i:Int)/\mp (own++uT v1.length (f.aO.drop pn).length) (i:Int)<v1.length/\∀(i2:Nat) u2,i<i2->i2<pn->f.aO[i2]? = some u2->u2.bF ≠ 4->mp (own++uT v1.length (f.aO.drop pn).length) (i:Int)<mp (own++uT v1.length (f.aO.drop pn).length) (i2:Int):=by
  intro i u hu hi hk;obtain ⟨y,w,p1,p2,p3,p4⟩:=hpar i u hu hi;have hy:y.cP ≠ 4:=λe=>hk ((p4.k4 hvc).1.1 e);obtain ⟨s1,s2,s3⟩:=(o3 i y w p1 p2).2 hy;rw [p3];refine ⟨za,s2,λi2 u2 hlt hi2 hu2 hk2=>?_⟩;obtain ⟨y2,w2,t1,t2,t3,t4⟩:=hpar i2 u2 hu2 hi2;rw [t3];exact s3 i2 y2 w2 hlt t1 (λe=>hk2 ((t4.k4 hvc).1.1 e)) t2
 -- new arrays
 have hnew:∀(i:Nat) u,f.aO[i]? = some u->u.bF=4->pn<=i->∃m:Nat,aS to.aX (i:Int)=some ((hs.length+m:Nat):Int)/\x.2[m]? = some (List.replicate u.gA.toNat 0)/\0<u.gA/\∀(i2:Nat) u2 a,i<i2->f.aO[i2]? = some u2->u2.bF=4->aS to.aX (i2:Int)=some a->((hs.length+m:Nat):Int)<a:=by
  intro i u hu hk hi
  have hget:∀i2:Nat,pn<=i2->aS to.aX (i2:Int)=x.1[i2]? := λi2 h2=>by
   rw [hR.hi (i2:Int) za];show aS x.1 (i2:Int)=_;unfold aS;rw [cG za,wR]
  obtain ⟨m,m1,m2,m3,m4,m5⟩:=hN.num (i - pn) u (by rw [QS,show pn+(i - pn)=i by omega];exact hu) hk;rw [show pn+0+(i - pn)=i by omega] at m2;refine ⟨m,by rw [hget i hi];exact m2,m3,m4,λi2 u2 a hlt hu2 hk2 ha=>?_⟩;rw [hget i2 za] at ha;exact m5 (i2 - pn) u2 a za (by rw [QS,show pn+(i2 - pn)=i2 by omega];exact hu2) hk2 (by rw [show pn+0+(i2 - pn)=i2 by omega];exact ha)
 have harr:∀(i:Nat) u,f.aO[i]? = some u->i<pn->u.bF=4->∃(y:aF) (k:Int),aS to.aX (i:Int)=some k/\R k (mp (own++uT v1.length (f.aO.drop pn).length) (i:Int))/\aS fr.aX y.cZ=some k/\∃w,aS vc y.cZ=some w/\w.bF=4/\w.gA=u.gA:=by
  intro i u hu hi hk;obtain ⟨y,w,p1,p2,p3,p4⟩:=hpar i u hu hi;obtain ⟨k1,_,k3⟩:=p4.k4 hvc;have hy:=k1.2 hk;obtain ⟨hs1,w',w1,w2,w3⟩:=k3 hy;obtain ⟨k,e1,e2⟩:=(hR.v i y w p1 p2).2 hy;rw [ES] at e1;obtain ⟨k',e3,e4⟩:=h.a y.cZ hs1 w' w1 w2;rw [e2] at e3;obtain rfl:=jN e3;rw [p3,(o3 i y w p1 p2).1 hy];exact ⟨y,k,e1,e4,e2,w',w1,w2,w3⟩
 have hact:Oj f.aO pn (own++uT v1.length (f.aO.drop pn).length) (v1++f.aO.drop pn) L hs.length to.aX:=by
  refine ⟨hmap.k,λu v a b hu hv ha hb e=>?_,λv u hu hk=>?_,λu v a b hu hv ha hb hnu hnv e=>?_,λv u k hu hk hn hkk=>?_,λu v a b k hu hv ha hb hnu hnv e1 e2=>?_,by rw [nB];omega,za⟩
  ·obtain ⟨i,rfl,hi⟩:=oM hu;obtain ⟨j,rfl,hj⟩:=oM hv
   have:i=j:=by
    by_cases c1:i<pn <;> by_cases c2:j<pn
    ·obtain ⟨_,_,s3⟩:=hwpar i a hi c1 ha;obtain ⟨_,_,t3⟩:=hwpar j b hj c2 hb
     rcases Nat.lt_trichotomy i j with hlt | hlt | hlt
     ·have:=s3 j b hlt c2 hj hb;omega
     ·exact hlt
     ·have:=t3 i a hlt c1 hi ha;omega
    ·have:=(hwpar i a hi c1 ha).2.1;have:=hloc j b hj za;omega
    ·have:=(hwpar j b hj c2 hb).2.1;have:=hloc i a hi za;omega
    ·have:=hloc j b hj za;have:=hloc i a hi za;omega
   rw [this]
  ·obtain ⟨i,rfl,hi⟩:=oM hu
   by_cases c1:i<pn
   ·exact (hwpar i u hi c1 hk).1
   ·rw [hloc i u hi za];omega
  ·obtain ⟨i,rfl,hi⟩:=oM hu;obtain ⟨j,rfl,hj⟩:=oM hv;have:=hloc i a hi za;have:=hloc j b hj za;omega
  ·obtain ⟨i,rfl,hi⟩:=oM hu;obtain ⟨m,m1,_⟩:=hnew i u hi hk za;rw [hkk] at m1;have:=jN m1;have:=hloc i u hi za;omega
  ·obtain ⟨i,rfl,hi⟩:=oM hu;obtain ⟨j,rfl,hj⟩:=oM hv;obtain ⟨m,m1,_,_,m5⟩:=hnew i a hi ha za;obtain ⟨m',m1',_,_,m5'⟩:=hnew j b hj hb za;rw [e1] at m1;rw [e2] at m1';have q1:=jN m1;have q2:=jN m1'
   rcases Nat.lt_trichotomy i j with hlt | hlt | hlt
   ·have:=m5 j b k hlt hj hb e2;omega
   ·rw [hlt]
   ·have:=m5' i a k hlt hi ha e1;omega
 have hsub:∀ {k:Int} {a:List Int},aS hs k=some a->aS (hs++x.2) k=some a:=λh=>gN (GR _ _) h;refine ⟨hact,λk y hR'=>?_,h.inj,λk y hR'=>?_,λk y hR'=>?_,λv hv u hu hk=>?_,λv hv u hu hk=>?_,λv u hu hk=>?_,h.sx,h.fj,hF⟩
 ·obtain ⟨a,k',e1,e2,e3⟩:=h.eq k y hR';exact ⟨a,k',e1,hsub e2,e3⟩
 ·obtain ⟨u,e1,e2⟩:=h.kx k y hR';exact ⟨u,gN (GR _ _) e1,e2⟩
 ·obtain ⟨a,k',e1,e2,e3⟩:=h.eq k y hR';exact .inl ⟨(rL e2).2,hx0 k y hR'⟩
 ·unfold rJ at hv;obtain ⟨i,hi,rfl⟩:=Iw.1 hv;have hi:=Te.1 hi;obtain ⟨i',e,hu'⟩:=oM hu;obtain rfl:i=i':=Int.ofNat.inj e;obtain ⟨y,w,p1,p2,p3,p4⟩:=hpar i u hu' hi;obtain ⟨z,z1,z2⟩:=(hR.v i y w p1 p2).1 λe=>hk ((p4.k4 hvc).1.1 e);rw [ES] at z1;exact ⟨z,z1,by show aS fx1.bP (mp _ (i:Int))=_;rw [p3];exact z2⟩
 ·unfold rJ at hv;obtain ⟨i,hi,rfl⟩:=Iw.1 hv;have hi:=Te.1 hi;obtain ⟨i',e,hu'⟩:=oM hu;obtain rfl:i=i':=Int.ofNat.inj e;obtain ⟨y,k,e1,e2,_⟩:=harr i u hu' hi hk;exact ⟨k,e1,e2⟩
 ·obtain ⟨i,rfl,hi⟩:=oM hu
  by_cases c1:i<pn
  ·obtain ⟨y,k,e1,_,e3,w,w1,w2,w3⟩:=harr i u hi c1 hk;obtain ⟨k2,a,s1,s2,s3⟩:=h.so y.cZ w w1 w2;rw [e3] at s1;obtain rfl:=jN s1;exact ⟨k,a,e1,hsub s2,by rw [s3,w3]⟩
  ·obtain ⟨m,m1,m3,m4,_⟩:=hnew i u hi hk za;refine ⟨_,List.replicate u.gA.toNat 0,m1,?_,by rw [Oy];omega⟩;unfold aS;rw [cG za,wR,GT za,Nat.add_sub_cancel_left];exact m3
end
theorem TB.cut {sg:Hz} {vs:List aJ} {res:Int} {l:Bool} {n n':Nat} {sc sc':List Int} {s:aA} {ss:List aA} (h:TB sg vs res l n sc (s::ss) n' sc'):∃n1 sc1,TB sg vs res l n sc [s] n1 sc1/\TB sg vs res l n1 sc1 ss n' sc':=by
 cases h with
 | let_ h1 h2 h3 h4 h=>exact ⟨_,_,.let_ h1 h2 h3 h4 .nil,h⟩
 | var_ h1 h2 h3 h=>exact ⟨_,_,.var_ h1 h2 h3 .nil,h⟩
 | arr h1 h2 h=>exact ⟨_,_,.arr h1 h2 .nil,h⟩
 | callv h1 h2 h3 h4 h5 h=>exact ⟨_,_,.callv h1 h2 h3 h4 h5 .nil,h⟩
 | set h1 h2 h3 h4 h5 h=>exact ⟨_,_,.set h1 h2 h3 h4 h5 .nil,h⟩
 | calls h1 h2 h3 h4 h5 h6 h=>exact ⟨_,_,.calls h1 h2 h3 h4 h5 h6 .nil,h⟩
 | put h1 h2 h3 h4 h5 h6 h7 h8 h=>exact ⟨_,_,.put h1 h2 h3 h4 h5 h6 h7 h8 .nil,h⟩
 | do_ h1 h2 h=>exact ⟨_,_,.do_ h1 h2 .nil,h⟩
 | if_ h1 h2 h3 h4 h=>exact ⟨_,_,.if_ h1 h2 h3 h4 .nil,h⟩
 | for_ h1 h2 h3 h4 h5 h6 h7 h=>exact ⟨_,_,.for_ h1 h2 h3 h4 h5 h6 h7 .nil,h⟩
 | ret h1 h2 h3=>exact ⟨_,_,.ret h1 h2 h3,.nil⟩
 | retc h1 h2 h3=>exact ⟨_,_,.retc h1 h2 h3,.nil⟩
theorem TB.leN {sg:Hz} {vs:List aJ} {res:Int} {lf:Bool} {n n':Nat} {sc sc':List Int} {l:List aA} (h:TB sg vs res lf n sc l n' sc'):n<=n':=by
 induction h with
 | nil | ret | retc=>exact tW _
 | let_ _ _ _ _ _ ih=>omega
 | var_ _ _ _ _ ih=>omega
 | arr _ _ _ ih=>omega
 | callv _ _ _ _ _ _ ih=>omega
 | set _ _ _ _ _ _ ih=>exact ih
 | calls _ _ _ _ _ _ _ ih=>exact ih
 | put _ _ _ _ _ _ _ _ _ ih=>exact ih
 | do_ _ _ _ ih=>exact ih
 | if_ _ _ _ _ _ i1 i2 i3=>omega
 | for_ _ _ _ _ _ _ _ _ i1 i2=>omega
theorem TB.subN {sg:Hz} {vs:List aJ} {res:Int} {lf:Bool} {n n':Nat} {sc sc':List Int} {l:List aA} (h:TB sg vs res lf n sc l n' sc'):∀v ∈ sc,v ∈ sc':=by
 have ap:∀ {sc sc':List Int} {x:Int},(∀v ∈ sc++[x],v ∈ sc')->∀v ∈ sc,v ∈ sc':=λh v hv=>h v (MI _ hv)
 induction h with
 | nil | ret | retc=>exact λ_ h=>h
 | let_ _ _ _ _ _ ih=>exact ap ih
 | var_ _ _ _ _ ih=>exact ap ih
 | arr _ _ _ ih=>exact ap ih
 | callv _ _ _ _ _ _ ih=>exact ap ih
 | set _ _ _ _ _ _ ih=>exact ih
 | calls _ _ _ _ _ _ _ ih=>exact ih
 | put _ _ _ _ _ _ _ _ _ ih=>exact ih
 | do_ _ _ _ ih=>exact ih
 | if_ _ _ _ _ _ i1 i2 i3=>exact i3
 | for_ _ _ _ _ _ _ _ _ i1 i2=>exact i2
section
variable {p:aK} {vs v:List aJ} {as:List Int} {b:aA} {s:aA} {l o:List aA}
theorem Ak.cut (h:Ak p vs (s::l) as b o v):∃o1 o2 v1,o=o1++o2/\Ak p vs [s] as b o1 v1/\Ak p v1 l as b o2 v:=by
 cases h with
 | @call _ _ _ _ _ f o1 own v1 o2 v2 o3 _ h1 h2 h3 h4 h5 h6 h7=>exact ⟨(o1++o2)++[],o3,v2,by rw [ER],.call h1 h2 h3 h4 h5 h6 .nil,h7⟩
 | ret h1 h2 h3 h4=>exact ⟨_,_,_,rfl,.ret h1 h2 h3 .nil,h4⟩
 | retv h1 h2 h3 h4=>exact ⟨_,_,_,rfl,.retv h1 h2 h3 .nil,h4⟩
 | other h1 h2 h3 h4 h5=>exact ⟨_,_,_,rfl,.other h1 h2 h3 h4 .nil,h5⟩
theorem Ak.oth (h:Ak p vs [s] as b o v) (h1:s.eG ≠ [99,97,108,108]) (h2:s.eG ≠ [114,101,116,117,114,110]):∃o1 v1 o2,Ak p vs s.bR as b o1 v1/\Ak p v1 s.iP as b o2 v/\o=[{ s with cZ:=mp as s.cZ,aM:=EE as s.aM,bR:=o1,iP:=o2 }]:=by
 cases h with
 | call h=>exact dE h h1
 | ret h=>exact dE h h2
 | retv h=>exact dE h h2
 | other _ _ h3 h4 h5=>
   obtain ⟨rfl,rfl⟩:=h5.nil_inv;exact ⟨_,_,_,h3,h4,rfl⟩
theorem Ak.cal (h:Ak p vs [s] as b o v) (h1:s.eG=[99,97,108,108]):∃f o1 own v1 o2,aS p.aU s.gI=some f/\Kg as s.fV f.aO vs s.aM 0 o1 own v1/\0<=f.aQ/\f.aQ<=f.aO.length ∧
  Ak p (v1++f.aO.drop f.aQ.toNat) f.bR (own++uT v1.length (f.aO.drop f.aQ.toNat).length) (Gs f s as b) o2 v/\o=o1++o2:=by
 cases h with
 | call _ h2 h3 h4 h5 h6 h7=>
   obtain ⟨rfl,rfl⟩:=h7.nil_inv;exact ⟨_,_,_,_,_,h2,h3,h4,h5,h6,by rw [ER]⟩
 | ret h=>rw [h1] at h;exact dE h zb
 | retv h=>rw [h1] at h;exact dE h zb
 | other h=>exact dE h1 h
theorem Ak.rt (h:Ak p vs [s] as b o v) (h1:s.eG=[114,101,116,117,114,110]):∃y r sx,s.aM=y::r/\o=[sx]/\vs <+: v/\sx.eG=b.eG/\sx.aM=[fx as y]/\(b.eG ≠ [118,97,114]->sx.cZ=b.cZ)/\(b.eG=[118,97,114]->sx.cZ=vs.length):=by
 have hp:=h.pre;cases h with
 | call h=>rw [h1] at h;exact dE h zb
 | ret _ h2 h3 h4=>
   obtain ⟨rfl,rfl⟩:=h4.nil_inv;obtain ⟨b1,b2,_⟩:=wK b s.fV;exact ⟨_,_,_,h2,rfl,hp,b1,rfl,λ_=>b2,λe=>dE e h3⟩
 | retv _ h2 h3 h4=>
   obtain ⟨rfl,rfl⟩:=h4.nil_inv;obtain ⟨b1,b2,_⟩:=wK b s.fV;exact ⟨_,_,_,h2,rfl,hp,b1,rfl,λe=>dE h3 e,λ_=>rfl⟩
 | other _ h=>exact dE h1 h
end
def LL (hs hs':Hs):Prop:=∀k a,aS hs k=some a->∃a',aS hs' k=some a'/\a'.length=a.length
theorem LL.refl (hs:Hs):LL hs hs:=λk a h=>⟨a,h,rfl⟩
theorem LL.trans {a b c:Hs} (h:LL a b) (k:LL b c):LL a c:=λi x hx=>by
 obtain ⟨y,h1,h2⟩:=h i x hx;obtain ⟨z,h3,h4⟩:=k i y h1;exact ⟨z,h3,h4.trans h2⟩
theorem NJ {α:Type} {l:List α} {k:Int} {x:α} {n:Nat} (h:aS l k=some x) (hk:k<n):aS (l.take n) k=some x:=by
 obtain ⟨h0,h1⟩:=Ax h;unfold aS;rw [cG h0,MJ,cG za,h1]
theorem Rf {n:Nat} {r:aE} {fr:BT} {hs:Hs} {s:aA} {y} (h:eF n r fr hs s=some y):LL hs y.2.2:=by
 unfold eF at h;obtain ⟨x,_,h⟩:=aD h;obtain ⟨p,_,h⟩:=aD h;obtain ⟨d,_,h⟩:=aD h
 split at h
 ·obtain rfl:=jN h;exact LL.refl _
 ·obtain ⟨x,_,h⟩:=aD h;obtain ⟨p,_,h⟩:=aD h;obtain ⟨d,_,h⟩:=aD h
  split at h
  ·obtain ⟨k,_,h⟩:=aD h;obtain ⟨a,ha,h⟩:=aD h;obtain ⟨_,_,h⟩:=aD h;obtain rfl:=jN h;exact λj c hj=>IT ha zc hj
  ·obtain rfl:=jN h;exact LL.refl _
theorem rx_len {P:aK} {cd:Cd} {r r1:aE} {fr fr1:BT} {hs hs1:Hs} (h:RX P cd r fr hs r1 fr1 hs1):LL hs hs1:=by
 induction h with
 | cons _ _ _ i1 i2=>exact i1.trans i2
 | @asg r fr hs s x n y w h1 h2 h3 h4 h5=>
   by_cases ht:y.2.cN=0
   ·rw [(rY (h4 ht)).1];exact LL.refl _
   ·rw [h5 ht];exact LL.refl _
 | arr _ _ h3=>exact λj c hj=>IT h3 zc hj
 | put _ h2=>exact Rf h2
 | ift _ _ _ _ _ _ ih=>exact ih
 | for3 _ _ _ _ _ _ _ _ _ ih=>exact ih
 | round _ _ h3 _ _ i1 i2=>
   rw [(rY h3).1] at i1;exact i1.trans i2
 | @call r fr hs s f o n r1 to r2 to2 hs2 w h1 h2 h3 h4 h5 h6 h7 h8 ih=>
   have hw:w.2=hs2.take hs.length:=by
    by_cases ht:r2.cN=0
    ·by_cases hv:s.cZ=-2
     ·rw [h7 ht hv]
     ·exact (rY (h8 ht hv)).1
    ·rw [h6 ht]
   rw [hw];intro k a hk;obtain ⟨a',g1,g2⟩:=ih k a (gN (GR _ _) hk);exact ⟨a',NJ g1 (rL hk).2,g2⟩
 | _=>exact LL.refl _
def Lst (l:List aA):Prop:=∃t,l.getLast? = some t/\FG t
structure FnOk (P:aK) (f:aP):Prop where
 p0:0<=f.aQ
 p1:f.aQ<=f.aO.length
 vo:∀u ∈ f.aO,sE u
 rk:f.bV=0 ∨ f.bV=2 ∨ f.bV=3
 body:∃n' sc',TB (SG P) f.aO f.bV true f.aQ.toNat (rJ f.aQ.toNat) f.bR n' sc'
 ret:f.bV ≠ 0->Lst f.bR
def Of (P PX:aK) (vF:List aJ) (l:List aA) (r:aE) (fr:BT) (hs:Hs) (r1:aE) (fr1:BT) (hs1:Hs):Prop:=
 ∀ ⦃vc vs vs':List aJ⦄ ⦃o:List aA⦄ ⦃sc sc':List Int⦄ ⦃n n':Nat⦄ ⦃lf:Bool⦄ ⦃res:Int⦄ ⦃as:List Int⦄ ⦃b:aA⦄ ⦃np lo base:Int⦄ ⦃R:Int->Int->Prop⦄ ⦃fx:BT⦄ ⦃hx:Hs⦄ ⦃rx rx1:aE⦄ ⦃fx1:BT⦄ ⦃hx1:Hs⦄,
  (∀u ∈ vc,sE u)->Ak P vs l as b o vs'->TB (SG P) vc res lf n sc l n' sc'->np<=(n:Int)->DG vc np as vs vF lo base sc R fr fx hs hx->Rr r rx->vs' <+: vF->BK b lo->RX PX (.blk o) rx fx hx rx1 fx1 hx1 ->
  pL vc np as vs' vF lo base sc' R b (Lst l) fr fx hs hx r1 rx1 fr1 fx1 hs1 hx1
def SimR (P PX:aK) (vF:List aJ) (v hi:Int) (s:aA) (r:aE) (fr:BT) (hs:Hs) (r1:aE) (fr1:BT) (hs1:Hs):Prop:=
 ∀ ⦃vc vs vs':List aJ⦄ ⦃ob:List aA⦄ ⦃sc sc1:List Int⦄ ⦃n n1:Nat⦄ ⦃res:Int⦄ ⦃as:List Int⦄ ⦃b sx:aA⦄ ⦃np lo base:Int⦄ ⦃R:Int->Int->Prop⦄ ⦃fx:BT⦄ ⦃hx:Hs⦄ ⦃rx rx1:aE⦄ ⦃fx1:BT⦄ ⦃hx1:Hs⦄ ⦃u:aJ⦄,
  (∀u ∈ vc,sE u)->Ak P vs s.bR as b ob vs'->TB (SG P) vc res false n (sc++[s.cZ]) s.bR n1 sc1->np<=(n:Int)->aS vc s.cZ=some u->u.bF ≠ 4->sx.cZ=mp as s.cZ->sx.bR=ob->DG vc np as vs vF lo base sc R fr fx hs hx->Rr r rx->vs' <+: vF->BK b lo->RX PX (.rds v hi sx) rx fx hx rx1 fx1 hx1 ->
  pL vc np as vs' vF lo base sc R b False fr fx hs hx r1 rx1 fr1 fx1 hs1 hx1
def Sim (P PX:aK) (vF:List aJ):Cd->aE->BT->Hs->aE->BT->Hs->Prop
 | .blk l,r,fr,hs,r1,fr1,hs1=>Of P PX vF l r fr hs r1 fr1 hs1
 | .st s,r,fr,hs,r1,fr1,hs1=>r.cN=0->Of P PX vF [s] r fr hs r1 fr1 hs1
 | .rds v hi s,r,fr,hs,r1,fr1,hs1=>SimR P PX vF v hi s r fr hs r1 fr1 hs1
section
variable {P PX:aK} {vc vs vs' vF:List aJ} {np lo base:Int} {as sc sc':List Int} {R:Int->Int->Prop} {fr fx fr1 fx1 fr2 fx2:BT} {hs hx hs1 hx1 hs2 hx2:Hs} {b:aA} {last last':Prop} {r rx r1 rx1:aE} {s sx:aA}
theorem nl (h:¬ FG s):Lst [s]->False:=λ⟨t,ht,hR⟩=>by
 rw [List.getLast?_singleton] at ht;rw [←jN ht] at hR;exact h hR
theorem UG {vc:List aJ} {n:Nat} {u:aJ} (h:vc[n]? = some u):aS vc (n:Int)=some u:=by
 unfold aS;rw [cG za,wR,h]
theorem DG.shrink (h:DG vc np as vs' vF lo base sc R fr fx hs hx) (hv:vs <+: vs') (hA:Oj vc np as vs lo base fr.aX):DG vc np as vs vF lo base sc R fr fx hs hx:=
 ⟨hA,h.eq,h.inj,λk x hR=>by
  obtain ⟨u,h1,h2⟩:=h.kx k x hR
  rcases h.old k x hR with ⟨_,h3⟩ | ⟨v,u2,h3,h4,_,_,h5⟩
  ·have:=hA.lov;obtain ⟨y,hy⟩:=Qu (l:=vs) (rL h1).1 za;have:=gN hv hy;rw [h1] at this;obtain rfl:=jN this;exact ⟨_,hy,h2⟩
  ·obtain ⟨u',q1,q2,_⟩:=hA.k v u2 h3;exact ⟨u',by rw [←h5];exact q1,q2.trans h4⟩,h.old,h.w,h.a,h.so,h.sx,h.fj,hv.trans h.pre⟩
theorem GY (H:RX P (.st s) r fr hs r1 fr1 hs1) (h0:r.cN=0) (hc:s.eG ≠ [99,97,108,108]) (hi:s.eG ≠ [105,102]) (hf:s.eG ≠ [102,111,114]):Of P PX vF [s] r fr hs r1 fr1 hs1:=by
 intro vc vs vs' o sc sc' n n' lf res as b np lo base R fx hx rx rx1 fx1 hx1 hvc hF hT hn hR hr hV hb hx'
 have one:∀ {sx:aA},RX PX (.blk [sx]) rx fx hx rx1 fx1 hx1->∃f,RX PX (.st sx) { rx with dO:=f } fx hx rx1 fx1 hx1:=λh=>by
  rcases HR h with ⟨h1,_⟩ | ⟨_,h1⟩
  ·exact dE h0 (by rw [←hr.t];exact h1)
  ·exact h1
 have pl:s.eG ≠ [114,101,116,117,114,110]->s.bR=[]->s.iP=[]->vs'=vs/\∃f,RX PX (.st { s with cZ:=mp as s.cZ,aM:=EE as s.aM,bR:=[],iP:=[] }) { rx with dO:=f } fx hx rx1 fx1 hx1:=λh1 h2 h3=>by
  obtain ⟨o1,v1,o2,g1,g2,rfl⟩:=hF.oth hc h1;rw [h2] at g1;rw [h3] at g2;obtain ⟨rfl,rfl⟩:=g1.nil_inv;obtain ⟨rfl,rfl⟩:=g2.nil_inv;exact ⟨rfl,one hx'⟩
 have rs:∀f,Rr r { rx with dO:=f }:=λf=>hr.fuel r.dO f;have nr:s.eG ≠ [114,101,116,117,114,110]->¬ FG s:=λh1 h=>h.elim h1 λh=>hc h.1;have sn:∀ {sc:List Int} {x:Int},x ∈ sc->∀v ∈ sc,v ∈ sc++[x]:=λ_ v h=>MI _ h;cases hT with
 | let_ k1 k2 k3 k4 k5=>
   cases k5;obtain ⟨rfl,f,hx'⟩:=pl zc rfl rfl;exact (LR hR (rs f) (UG k3) za k1 (.inl rfl) (.inl rfl) rfl rfl rfl (by simp only [EE];rfl) H hx').mono (Ig _) hV (λ_ h=>h) (nl (nr zc))
 | var_ k1 k2 k3 k5=>
   cases k5;obtain ⟨rfl,f,hx'⟩:=pl zc rfl rfl;have:=k1.range hvc;exact (LR hR (rs f) (UG k2) (by rw [k3];unfold HP;split <;> omega) k1 (.inr (.inl rfl)) (.inr (.inl rfl)) rfl rfl rfl (by simp only [EE];rfl) H hx').mono (Ig _) hV (λ_ h=>h) (nl (nr zc))
 | arr k1 k2 k5=>
   cases k5;obtain ⟨rfl,f,hx'⟩:=pl zc rfl rfl;exact (sim_arr hR (rs f) (UG k1) k2 hn rfl rfl rfl rfl H hx').mono (Ig _) hV (λ_ h=>h) (nl (nr zc))
 | set k1 k2 k3 k4 k5 k6=>
   cases k6;obtain ⟨rfl,f,hx'⟩:=pl zc rfl rfl;exact (LR hR (rs f) k2 za k4 (.inr (.inr rfl)) (.inr (.inr rfl)) rfl rfl rfl (by simp only [EE];rfl) H hx').mono (Ig _) hV (λ_ h=>MI _ h) (nl (nr zc))
 | put k1 k2 k3 k4 k5 k6 k7 k8 k9=>
   cases k9;obtain ⟨rfl,f,hx'⟩:=pl zc rfl rfl;exact (sim_put hR (rs f) k1 k2 k3 k4 k7 rfl rfl rfl rfl rfl (by simp only [EE]) H hx').mono (Ig _) hV (λ_ h=>h) (nl (nr zc))
 | ret k1 k2 k3=>
   obtain ⟨y,q,sx,e1,rfl,e3,e4,e5,e6,e7⟩:=hF.rt rfl;obtain ⟨rfl,rfl⟩:=List.cons.inj e1;obtain ⟨f,hx'⟩:=one hx';exact (sim_ret hR (rs f) hb k1 rfl rfl (by rw [e5];rfl) e4 (λe=>e6 (by rw [e];decide)) e7 H hx').mono e3 hV (λ_ h=>h) λ_=>trivial
 | callv=>exact dE rfl hc
 | calls=>exact dE rfl hc
 | do_=>exact dE rfl hc
 | retc=>exact dE rfl hc
 | if_=>exact dE rfl hi
 | for_=>exact dE rfl hf
theorem UE {o:List aA} {res:Int} {lf:Bool} {n n':Nat} (ho:s.eG=[105,102]) (hF:Ak P vs [s] as b o vs') (hT:TB (SG P) vc res lf n sc [s] n' sc') :
  ∃x o1 v1 o2 n1 sc1 n2 sc2 sx,s.aM=[x]/\TX vc sc x/\Ak P vs s.bR as b o1 v1/\Ak P v1 s.iP as b o2 vs'/\TB (SG P) vc res false n sc s.bR n1 sc1/\TB (SG P) vc res false n1 sc s.iP n2 sc2/\sc'=sc/\o=[sx]/\sx.eG=[105,102]/\aS sx.aM 0=some (Abs.fx as x)/\sx.bR=o1/\sx.iP=o2:=by
 obtain ⟨o1,v1,o2,g1,g2,rfl⟩:=hF.oth (by rw [ho];decide) (by rw [ho];decide);cases hT with
 | if_ k1 k2 k3 k4 k5=>
   cases k5;exact ⟨_,_,_,_,_,_,_,_,_,rfl,k1,g1,g2,k3,k4,rfl,rfl,rfl,by simp only [EE];rfl,rfl,rfl⟩
 | _=>exact dE ho zc
theorem Mq {o:List aA} {res:Int} {lf:Bool} {n n':Nat} (ho:s.eG=[102,111,114]) (hF:Ak P vs [s] as b o vs') (hT:TB (SG P) vc res lf n sc [s] n' sc') :
  ∃x y u o1 n1 sc1 sx,s.aM=[x,y]/\TX vc sc x/\TX vc sc y/\aS vc s.cZ=some u/\u.bF ≠ 4/\Ak P vs s.bR as b o1 vs'/\TB (SG P) vc res false (n+1) (sc++[s.cZ]) s.bR n1 sc1/\sc'=sc/\o=[sx]/\sx.eG=[102,111,114]/\sx.cZ=mp as s.cZ/\sx.aM=[Abs.fx as x,Abs.fx as y]/\sx.bR=o1:=by
 obtain ⟨o1,v1,o2,g1,g2,rfl⟩:=hF.oth (by rw [ho];decide) (by rw [ho];decide);cases hT with
 | for_ k1 k2 k3 k4 k5 k6 k7 k8=>
   cases k8;obtain ⟨rfl,rfl⟩:=g2.nil_inv;exact ⟨_,_,_,_,_,_,_,rfl,k1,k3,UG k5,za,g1,k7,rfl,rfl,rfl,rfl,by simp only [EE],rfl⟩
 | _=>exact dE ho zc
theorem NV {res:Int} {lf:Bool} {n n':Nat} (ho:s.eG=[99,97,108,108]) (hT:TB (SG P) vc res lf n sc [s] n' sc') :
  ∃r ps,SG P s.gI r ps/\zS vc sc ps s.aM/\((s.cZ=-1/\sc'=sc) ∨ (s.cZ=-2/\sc'=sc/\r ≠ 0) ∨ (0<=s.cZ/\r ≠ 0/\∃u,aS vc s.cZ=some u/\u.bF=r/\∀v ∈ sc',v ∈ sc++[s.cZ])):=by
 cases hT with
 | callv k1 k2 k3 k4 k5 k6=>
   cases k6;exact ⟨_,_,k1,k2,.inr (.inr ⟨SR _,k3,_,UG k4,k5,λ_ h=>h⟩)⟩
 | calls k1 k2 k3 k4 k5 k6 k7=>
   cases k7;exact ⟨_,_,k4,k5,.inr (.inr ⟨(rL k2).1,za,_,k2,k6.symm,λ_ h=>MI _ h⟩)⟩
 | do_ k1 k2 k3=>
   cases k3;exact ⟨_,_,k1,k2,.inl ⟨rfl,rfl⟩⟩
 | retc k1 k2 k3=>exact ⟨_,_,k1,k3,.inr (.inl ⟨rfl,rfl,k2⟩)⟩
 | _=>exact dE ho zc
theorem st_skip (h1:¬ Bi s.eG) (h2:s.eG ≠ [97,114,114]) (h3:s.eG ≠ [112,117,116]) (h4:s.eG ≠ [99,97,108,108]) (h5:s.eG ≠ [105,102]) (h6:s.eG ≠ [102,111,114]) (h7:s.eG ≠ [114,101,116,117,114,110]):Of P PX vF [s] r fr hs r fr hs:=by
 intro vc vs vs' o sc sc' n n' lf res as b np lo base R fx hx rx rx1 fx1 hx1 hvc hF hT;cases hT with
 | let_=>exact dE (.inl rfl) h1
 | var_=>exact dE (.inr (.inl rfl)) h1
 | set=>exact dE (.inr (.inr rfl)) h1
 | arr=>exact dE rfl h2
 | put=>exact dE rfl h3
 | callv=>exact dE rfl h4
 | calls=>exact dE rfl h4
 | do_=>exact dE rfl h4
 | retc=>exact dE rfl h4
 | if_=>exact dE rfl h5
 | for_=>exact dE rfl h6
 | ret=>exact dE rfl h7
end
section
variable {P PX:aK} {vc vs vs' vF:List aJ} {np lo base:Int} {as sc sc':List Int} {R:Int->Int->Prop} {fr fx fr1 fx1 fr2 fx2:BT} {hs hx hs1 hx1 hs2 hx2:Hs} {b:aA} {last last':Prop} {r rx r1 rx1 r2:aE} {s sx:aA}
theorem Tr (f:aP) (s:aA) (as:List Int) (b:aA):(s.cZ=-2->(Gs f s as b).eG=b.eG/\(Gs f s as b).cZ=b.cZ)/\(s.cZ=-1->(Gs f s as b).eG=[118,97,114])/\(0<=s.cZ->(Gs f s as b).eG=[115,101,116]/\(Gs f s as b).cZ=mp as s.cZ):=by
 refine ⟨λh=>?_,λh=>?_,λh=>?_⟩
 ·unfold Gs;rw [cG h]
  split <;> exact ⟨rfl,rfl⟩
 ·unfold Gs;rw [bU za,cG h]
 ·unfold Gs;rw [bU za,bU za];exact ⟨rfl,rfl⟩
theorem DG.mapok (h:DG vc np as vs vF lo base sc R fr fx hs hx):zV vc vs as sc (sc.map (mp as)):=⟨h.act.k,λv hv=>Iw.2 ⟨v,hv,rfl⟩⟩
theorem st_call {f:aP} {w0 w:BT × Hs} {k:Nat} {to to2:BT} (ho:s.eG=[99,97,108,108]) (h0:r.cN=0) (hP:∀i f,aS P.aU i=some f->FnOk P f) (hf:aS P.aU s.gI=some f) (hop:uF f hs.length=some w0) (hca:mN k fr hs w0.2 s.aM 0 r w0.1=some (.inr (r1,to)))
  (ih:Of P PX vF to.f_.bR r1 to (hs++w0.2) r2 to2 hs2) (hlen:LL (hs++w0.2) hs2) (h1:r2.cN ≠ 0->w=(fr,hs2.take hs.length)) (h2:r2.cN=0->s.cZ=-2->w=({ fr with eX:=to2.eX },hs2.take hs.length)) (h3:r2.cN=0->s.cZ ≠ -2->cF fr (hs2.take hs.length) s.cZ to2.eX=some w):Of P PX vF [s] r fr hs r2 w.1 w.2:=by
 intro vc vs vs' o sc sc' n n' lf res as b np lo base R fx hx rx rx1 fx1 hx1 hvc hF hT hn hR hr hV hb hx';obtain ⟨f',o1,own,v1,o2,e1,hA,p0,p1,hFl,rfl⟩:=hF.cal ho;rw [hf] at e1;obtain rfl:=jN e1
 obtain ⟨rr,ps,hsg,hta,hcase⟩:=NV ho hT;obtain ⟨f',e1,e2,e3⟩:=hsg;rw [hf] at e1;obtain rfl:=jN e1
 subst e2 e3;have ok:=hP _ _ hf;obtain ⟨nb,sb,hbody⟩:=ok.body;have hxl:s.aM.length=f.aQ.toNat:=by rw [hta.1,EC];omega
 have hTA:∀(j:Nat) p y,f.aO[j]? = some p->s.aM[j]? = some y->Bq vc sc p y:=λj p y hp hy=>hta.2 j p y (by rw [MJ,cG (by have:=(sG.1 hy).1;omega)];exact hp) hy
 have hTV:∀(j:Nat) y,s.aM[j]? = some y->y.cP ≠ 4->TX vc sc y:=λj y hy hne=>by
  have hj:=(sG.1 hy).1;exact ((hTA j f.aO[j] y (tS za) hy).k4 hvc).2.1 hne
 unfold uF at hop;obtain ⟨_,hop⟩:=bN hop;obtain ⟨x,hx0,hop⟩:=aD hop;obtain rfl:=jN hop;obtain ⟨ra,fa,ha,g1,g2⟩:=LW hx';have hpre:=hA.pre;have hpre2:=hFl.pre;have hpv:vs <+: vs':=hF.pre;obtain ⟨rfl,a2,a3,a4,a5,a6,a7⟩:=Oa hA hR (((GR _ _).trans hpre2).trans hV) hr h0 hTV hca g1
 have hlv:∀ {v:Int} {u:aJ},aS vc v=some u->mp as v<vs.length:=λhu=>by
  obtain ⟨u',q,_⟩:=hR.act.k _ _ hu;exact (rL q).2
 have hR1:=(hR.other a2 λv hv u hu hk=>a4 _ (hlv hu)).mono hpre (((GR _ _).trans hpre2).trans hV)
 have hcr:=Vd hR1 (L:=vs.length) rfl hR.act.lov (pn:=f.aQ.toNat) za hA hvc ok.vo hxl hTA hx0 a7 (hpre2.trans hV) (λk y hk=>by
  obtain ⟨u,q,_⟩:=hR.kx k y hk;exact (rL q).2) hR.mapok
 have hfe:to.f_=f:=a7.f;rw [hfe] at ih;obtain ⟨t1,t2,t3⟩:=Tr f s as b;have hlo:=hR.act.lov
 have Da:BK (Gs f s as b) (vs.length:Int):=by
  rcases hcase with ⟨c,_⟩ | ⟨c,_⟩ | ⟨c,_,u,hu,hk,_⟩
  ·exact ⟨.inr (.inr (t2 c)),λe=>by rw [t2 c] at e;exact dE e zb⟩
  ·obtain ⟨q1,q2⟩:=t1 c;refine ⟨by rw [q1];exact hb.o,λe=>?_⟩;rw [q1] at e;have:=hb.s e;rw [q2];omega
  ·obtain ⟨q1,q2⟩:=t3 c;refine ⟨.inr (.inl q1),λ_=>?_⟩;rw [q2];obtain ⟨u',q,_⟩:=hR.act.k _ _ hu;exact rL q
 have hp:=ih ok.vo hFl hbody (Oz _) hcr a5 hV Da g2
 have hw2:w.2=hs2.take hs.length/\w.1.aX=fr.aX/\w.1.f_=fr.f_:=by
  by_cases ht:r2.cN=0
  ·by_cases hv:s.cZ=-2
   ·rw [h2 ht hv];exact ⟨rfl,rfl,rfl⟩
   ·obtain ⟨q1,q2,q3,_⟩:=rY (h3 ht hv);exact ⟨q1,q3,q2⟩
  ·rw [h1 ht];exact ⟨rfl,rfl,rfl⟩
 obtain ⟨hw2,hwa,hwf⟩:=hw2;have hold:∀ {k:Int} {a:List Int},aS hs2 k=some a->k<hs.length->aS w.2 k=some a:=λh hk=>by rw [hw2];exact NJ h hk
 have hfw:∀x:Int,x<vs.length->((Gs f s as b).eG=[115,101,116]->x ≠ (Gs f s as b).cZ)->aS fx1.bP x=aS fx.bP x:=λx h1 h2=>(hp.fw x h1 h2).trans (a4 x h1);have hk4:∀ {u:aJ},u.bF=f.bV->u.bF ≠ 4:=λe=>by have:=ok.rk;omega
 have heq:∀k x,R k x->∃a k',aS fx.aX x=some k'/\aS w.2 k=some a/\aS hx1 k'=some a:=λk x hk=>by
  obtain ⟨a,k',q1,q2,q3⟩:=hp.eq k x hk;obtain ⟨_,_,_,q4,_⟩:=hR.eq k x hk;exact ⟨a,k',by rw [←a2];exact q1,hold q2 (rL q4).2,q3⟩
 have hres:b.eG ≠ [114,101,116,117,114,110]->(Gs f s as b).eG ≠ [114,101,116,117,114,110]:=λe=>by
  rcases hcase with ⟨c,_⟩ | ⟨c,_⟩ | ⟨c,_⟩
  ·rw [t2 c];decide
  ·rw [(t1 c).1];exact e
  ·rw [(t3 c).1];decide
 refine ⟨hp.rr,heq,λx hx hb'=>hfw x za λe=>?_,λe=>(hp.res (hres e)).trans a3,hwa,hp.fx.trans a2,hwf,?_,λht=>⟨R,λ_ _ h=>h,?_,?_⟩⟩
 ·rcases hcase with ⟨c,_⟩ | ⟨c,_⟩ | ⟨c,_,u,hu,hk,_⟩
  ·rw [t2 c] at e;exact dE e zb
  ·rw [(t1 c).1] at e;rw [(t1 c).2];exact hb' e
  ·rw [(t3 c).2];have:=hR.act.wl _ _ hu (hk4 hk);omega
 ·rw [hw2,EC,hp.hl,nB];omega
 ·obtain ⟨R',i1,i2,i3⟩:=hp.ok ht
  have hww:∀v:Int,(0<=s.cZ->v ≠ s.cZ)->aS w.1.bP v=aS fr.bP v:=λv hv=>by
   by_cases hv2:s.cZ=-2
   ·rw [h2 ht hv2]
   ·obtain ⟨_,_,_,_,_,q6,q7⟩:=rY (h3 ht hv2)
    by_cases h0:0<=s.cZ
    ·rw [(q7 h0).2,bU (hv h0)]
    ·rw [q6 za]
  have hin:∀v ∈ sc',(0<=s.cZ->v ≠ s.cZ)->v ∈ sc:=λv hv hne=>by
   rcases hcase with ⟨c,e⟩ | ⟨c,e,_⟩ | ⟨c,_,u,hu,hk,hs'⟩
   ·rw [e] at hv;exact hv
   ·rw [e] at hv;exact hv
   ·rcases BV.1 (hs' v hv) with h | h
    ·exact h
    ·exact dE (zA.1 h) (hne c)
  refine ⟨by rw [hwa];exact hR.act.mono hpv,λk x hk=>?_,hR.inj,λk x hk=>?_,by rw [hwa];exact hR.old,λv hv u hu hk=>?_,λv hv u hu hk=>?_,λv u hu hk=>?_,i2.sx,i2.fj,hV⟩
  ·obtain ⟨a,k',q1,q2,q3⟩:=heq k x hk;exact ⟨a,k',by rw [hp.fx,a2];exact q1,q2,q3⟩
  ·obtain ⟨u,q1,q2⟩:=hR.kx k x hk;exact ⟨u,gN hpv q1,q2⟩
  ·by_cases e:0<=s.cZ/\v=s.cZ
   ·rcases hcase with ⟨c,_⟩ | ⟨c,_⟩ | ⟨c,hr0,u2,hu2,hk2,_⟩
    ·omega
    ·omega
    ·have q:=(i3 (ok.ret hr0)).2 (t3 c).1;rw [(t3 c).2] at q;obtain ⟨_,_,_,_,_,_,q7⟩:=rY (h3 ht za);exact ⟨to2.eX,by rw [(q7 c).2,cG e.2],by rw [e.2];exact q⟩
   ·have hne:0<=s.cZ->v ≠ s.cZ:=λh0 e2=>e ⟨h0,e2⟩;obtain ⟨a,q1,q2⟩:=hR.w v (hin v hv hne) u hu hk;refine ⟨a,(hww v hne).trans q1,(hfw (mp as v) (hlv hu) λe2=>?_).trans q2⟩
    rcases hcase with ⟨c,_⟩ | ⟨c,_⟩ | ⟨c,_,u2,hu2,hk2,_⟩
    ·rw [t2 c] at e2;exact dE e2 zb
    ·rw [(t1 c).1] at e2;rw [(t1 c).2];have:=(hb.s e2).2;have:=hR.act.wl v u hu hk;omega
    ·rw [(t3 c).2];exact λe3=>hne c (hR.act.wi _ _ _ _ hu hu2 hk (hk4 hk2) e3)
  ·have hne:0<=s.cZ->v ≠ s.cZ:=λh0 e2=>by
    rcases hcase with ⟨c,_⟩ | ⟨c,_⟩ | ⟨c,_,u2,hu2,hk2,_⟩
    ·omega
    ·omega
    ·rw [←e2,hu] at hu2;rw [←jN hu2] at hk2;exact hk4 hk2 hk
   rw [hwa];exact hR.a v (hin v hv hne) u hu hk
  ·obtain ⟨k,a,q1,q2,q3⟩:=hR.so v u hu hk;obtain ⟨a',q4,q5⟩:=hlen k a (gN (GR _ _) q2);exact ⟨k,a',by rw [hwa];exact q1,hold q4 (rL q2).2,by rw [q5];exact q3⟩
 ·intro ⟨t,ht1,ht2⟩;rw [List.getLast?_singleton] at ht1;rw [←jN ht1] at ht2;obtain ⟨R',i1,i2,i3⟩:=hp.ok ht
  rcases ht2 with e | ⟨_,e⟩
  ·rw [ho] at e;exact dE e zb
  ·rcases hcase with ⟨c,_⟩ | ⟨c,_,hr0⟩ | ⟨c,_⟩
   ·omega
   ·have q:=i3 (ok.ret hr0);obtain ⟨q1,q2⟩:=t1 c;unfold Rt at q ⊢;rw [q1,q2] at q;rw [h2 ht e];exact q
   ·omega
theorem TC {f:aP} {w0:BT × Hs} {k:Nat} (ho:s.eG=[99,97,108,108]) (h0:r.cN=0) (hP:∀i f,aS P.aU i=some f->FnOk P f) (hf:aS P.aU s.gI=some f) (hca:mN k fr hs w0.2 s.aM 0 r w0.1=some (.inl r1)):Of P PX vF [s] r fr hs r1 fr hs:=by
 intro vc vs vs' o sc sc' n n' lf res as b np lo base R fx hx rx rx1 fx1 hx1 hvc hF hT hn hR hr hV hb hx';obtain ⟨f',o1,own,v1,o2,e1,hA,p0,p1,hFl,rfl⟩:=hF.cal ho;rw [hf] at e1;obtain rfl:=jN e1
 obtain ⟨rr,ps,hsg,hta,hcase⟩:=NV ho hT;obtain ⟨f',e1,e2,e3⟩:=hsg;rw [hf] at e1;obtain rfl:=jN e1
 subst e2 e3;have ok:=hP _ _ hf;have hxl:s.aM.length=f.aQ.toNat:=by rw [hta.1,EC];omega
 have hTA:∀(j:Nat) p y,f.aO[j]? = some p->s.aM[j]? = some y->Bq vc sc p y:=λj p y hp hy=>hta.2 j p y (by rw [MJ,cG (by have:=(sG.1 hy).1;omega)];exact hp) hy
 have hTV:∀(j:Nat) y,s.aM[j]? = some y->y.cP ≠ 4->TX vc sc y:=λj y hy hne=>by
  have hj:=(sG.1 hy).1;exact ((hTA j f.aO[j] y (tS za) hy).k4 hvc).2.1 hne
 obtain ⟨ra,fa,ha,g1,g2⟩:=LW hx';obtain ⟨rfl,a2,a3,a4,a5,a6⟩:=Oa hA hR (((GR _ _).trans hFl.pre).trans hV) hr h0 hTV hca g1;obtain ⟨rfl,rfl,rfl⟩:=Hd g2 (by rw [a5.t];exact a6);have hlo:=hR.act.lov;exact ⟨a5,λk x hk=>by rw [←a2];obtain ⟨a,k',q1,q2,q3⟩:=hR.eq k x hk;exact ⟨a,k',by rw [a2];exact q1,q2,q3⟩,λx hx _=>a4 x za,λ_=>a3,rfl,a2,rfl,rfl,λe=>dE e a6⟩
end
section
variable {P PX:aK} {vF:List aJ}
theorem sim (hP:∀i f,aS P.aU i=some f->FnOk P f) {cd:Cd} {r r1:aE} {fr fr1:BT} {hs hs1:Hs} (h:RX P cd r fr hs r1 fr1 hs1):Sim P PX vF cd r fr hs r1 fr1 hs1:=by
 induction h with
 | nil=>
   intro vc vs vs' o sc sc' n n' lf res as b np lo base R fx hx rx rx1 fx1 hx1 hvc hF hT hn hR hr hV hb hx';obtain ⟨rfl,rfl⟩:=hF.nil_inv;cases hT;cases hx';exact pL.still hR hr λ_ ⟨t,ht,_⟩=>nomatch ht
 | dead ht=>
   intro vc vs vs' o sc sc' n n' lf res as b np lo base R fx hx rx rx1 fx1 hx1 hvc hF hT hn hR hr hV hb hx';obtain ⟨rfl,rfl,rfl⟩:=Hd hx' (by rw [hr.t];exact ht);exact pL.dead hR hr ht
 | @cons r fr hs s l f r1 fr1 hs1 r2 fr2 hs2 ht h1 h2 i1 i2=>
   intro vc vs vs' o sc sc' n n' lf res as b np lo base R fx hx rx rx1 fx1 hx1 hvc hF hT hn hR hr hV hb hx';obtain ⟨o1,o2,v1,rfl,g1,g2⟩:=hF.cut;obtain ⟨n1,sc1,k1,k2⟩:=hT.cut;obtain ⟨ra,fa,ha,x1,x2⟩:=LW hx';have p1:=i1 ht hvc g1 k1 hn hR (rx:=rx) (hr.fuel f rx.dO) (g2.pre.trans hV) hb x1;cases l with
   | nil=>
     obtain ⟨rfl,rfl⟩:=g2.nil_inv;cases k2;cases x2;cases h2;exact p1
   | cons t l=>
     refine p1.seq (λe=>Hd h2 e) (λe=>Hd x2 e) λR' ht' hR'=>?_;have hle:=k1.leN;refine (i2 hvc g2 k2 za hR' p1.rr hV hb x2).mono (Ig _) hV (λ_ h=>h) λ⟨u,hu,hu2⟩=>⟨u,by rw [←hu,List.getLast?_cons_cons],hu2⟩
 | @asg r fr hs s x n y w h1 h2 h3 h4 h5=>
   intro ht
   have nf:∀ {o:cQ},o ≠ [108,101,116]->o ≠ [118,97,114]->o ≠ [115,101,116]->s.eG ≠ o:=λa b c e=>by
    rcases h1 with h | h | h
    ·exact a (e.symm.trans h)
    ·exact b (e.symm.trans h)
    ·exact c (e.symm.trans h)
   exact GY (.asg h1 h2 h3 h4 h5) ht (nf zb zb zb) (nf zb zb zb) (nf zb zb zb)
 | arr h1 h2 h3=>exact λht=>GY (.arr h1 h2 h3) ht (by rw [h1];decide) (by rw [h1];decide) (by rw [h1];decide)
 | put h1 h2=>exact λht=>GY (.put h1 h2) ht (by rw [h1];decide) (by rw [h1];decide) (by rw [h1];decide)
 | ret h1 h2 h3=>exact λht=>GY (.ret h1 h2 h3) ht (by rw [h1];decide) (by rw [h1];decide) (by rw [h1];decide)
 | @iff_ r fr hs s x n y h1 h2 h3 h4=>
   intro h0 vc vs vs' o sc sc' n n' lf res as b np lo base R fx hx rx rx1 fx1 hx1 hvc hF hT hn hR hr hV hb hx';obtain ⟨x',o1,v1,o2,n1,sc1,n2,sc2,sx,e1,e2,e3,e4,e5,e6,rfl,rfl,e8,e9,e10,e11⟩:=UE h1 hF hT;rw [e1] at h2;obtain rfl:x'=x:=jN h2
   rcases HR hx' with ⟨q,_⟩ | ⟨_,f,q⟩
   ·exact dE h0 (by rw [←hr.t];exact q)
   obtain ⟨z,m,y',f1,f2,f3⟩:=rx_if q e8;rw [e9] at f1;obtain rfl:=jN f1;obtain ⟨g1,g2⟩:=(wS hR.vr _ m).1 x' e2 _ _ (hr.fuel r.dO f) y y' h3 f2
   rcases f3 with ⟨_,rfl,rfl,rfl⟩ | ⟨f4,_⟩
   ·exact pL.dead hR g2 h4
   ·exact dE f4 (by rw [g2.t];exact h4)
 | @ift r fr hs s x n y z r1 fr1 hs1 h1 h2 h3 h4 h5 h6 ih=>
   intro h0 vc vs vs' o sc sc' n n' lf res as b np lo base R fx hx rx rx1 fx1 hx1 hvc hF hT hn hR hr hV hb hx';obtain ⟨x',o1,v1,o2,n1,sc1,n2,sc2,sx,e1,e2,e3,e4,e5,e6,rfl,rfl,e8,e9,e10,e11⟩:=UE h1 hF hT;rw [e1] at h2;obtain rfl:x'=x:=jN h2
   rcases HR hx' with ⟨q,_⟩ | ⟨_,f,q⟩
   ·exact dE h0 (by rw [←hr.t];exact q)
   obtain ⟨z',m,y',f1,f2,f3⟩:=rx_if q e8;rw [e9] at f1;obtain rfl:=jN f1;obtain ⟨g1,g2⟩:=(wS hR.vr _ m).1 x' e2 _ _ (hr.fuel r.dO f) y y' h3 f2
   have hns:Lst [s]->False:=nl λh=>by
    rcases h with h | h
    ·rw [h1] at h;exact dE h zb
    ·rw [h1] at h;exact dE h.1 zb
   rcases f3 with ⟨f4,_⟩ | ⟨_,zx,f5,f6⟩
   ·exact dE h4 (by rw [←g2.t];exact f4)
   rw [g1] at f5 f6;have hz:Rr z zx:=g2.see _ _ h5 f5
   by_cases hy:y.1 ≠ 0
   ·rw [cG hy] at f6;rw [cG hy] at ih;rw [e10] at f6;exact (ih hvc e3 e5 hn hR hz (e4.pre.trans hV) hb f6).mono e4.pre hV e5.subN λh=>(hns h).elim
   ·rw [bU hy] at f6;rw [bU hy] at ih;rw [e11] at f6;have:=e5.leN;exact (ih hvc e4 e6 za (hR.mono e3.pre (e4.pre.trans hV)) hz hV hb f6).mono (Ig _) hV e6.subN λh=>(hns h).elim
 | @for1 r fr hs s x n y h1 h2 h3 h4=>
   intro h0 vc vs vs' o sc sc' n n' lf res as b np lo base R fx hx rx rx1 fx1 hx1 hvc hF hT hn hR hr hV hb hx';obtain ⟨x1,x2,u,o1,n1,sc1,sx,e1,e2,e3,e4,e5,e6,e7,rfl,rfl,e8,e9,e10,e11⟩:=Mq h1 hF hT;rw [e1] at h2;obtain rfl:x1=x:=jN h2
   rcases HR hx' with ⟨q,_⟩ | ⟨_,f,q⟩
   ·exact dE h0 (by rw [←hr.t];exact q)
   obtain ⟨z,m,y',f1,f2,f3⟩:=OS q e8;rw [e10] at f1;obtain rfl:=jN f1;obtain ⟨g1,g2⟩:=(wS hR.vr _ m).1 x1 e2 _ _ (hr.fuel r.dO f) y y' h3 f2
   rcases f3 with ⟨_,rfl,rfl,rfl⟩ | ⟨f4,_⟩
   ·exact pL.dead hR g2 h4
   ·exact dE f4 (by rw [g2.t];exact h4)
 | @for2 r fr hs s x x' n y z h1 h2 h3 h4 h5 h6 h7=>
   intro h0 vc vs vs' o sc sc' n n' lf res as b np lo base R fx hx rx rx1 fx1 hx1 hvc hF hT hn hR hr hV hb hx';obtain ⟨x1,x2,u,o1,n1,sc1,sx,e1,e2,e3,e4,e5,e6,e7,rfl,rfl,e8,e9,e10,e11⟩:=Mq h1 hF hT;rw [e1] at h2 h5;obtain rfl:x1=x:=jN h2;obtain rfl:x2=x':=jN h5
   rcases HR hx' with ⟨q,_⟩ | ⟨_,f,q⟩
   ·exact dE h0 (by rw [←hr.t];exact q)
   obtain ⟨z1,m,y',f1,f2,f3⟩:=OS q e8;rw [e10] at f1;obtain rfl:=jN f1;obtain ⟨g1,g2⟩:=(wS hR.vr _ m).1 x1 e2 _ _ (hr.fuel r.dO f) y y' h3 f2
   rcases f3 with ⟨f4,_⟩ | ⟨_,z2,m2,z',f5,f6,f7⟩
   ·exact dE h4 (by rw [←g2.t];exact f4)
   rw [e10] at f5;obtain rfl:=jN f5;obtain ⟨g3,g4⟩:=(wS hR.vr _ m2).1 x2 e3 _ _ g2 z z' h6 f6
   rcases f7 with ⟨_,rfl,rfl,rfl⟩ | ⟨f8,_⟩
   ·exact pL.dead hR g4 h7
   ·exact dE f8 (by rw [g4.t];exact h7)
 | @for3 r fr hs s x x' n y z w r1 fr1 hs1 h1 h2 h3 h4 h5 h6 h7 h8 h9 ih=>
   intro h0 vc vs vs' o sc sc' n n' lf res as b np lo base R fx hx rx rx1 fx1 hx1 hvc hF hT hn hR hr hV hb hx';obtain ⟨x1,x2,u,o1,n1,sc1,sx,e1,e2,e3,e4,e5,e6,e7,rfl,rfl,e8,e9,e10,e11⟩:=Mq h1 hF hT;rw [e1] at h2 h5;obtain rfl:x1=x:=jN h2;obtain rfl:x2=x':=jN h5
   rcases HR hx' with ⟨q,_⟩ | ⟨_,f,q⟩
   ·exact dE h0 (by rw [←hr.t];exact q)
   obtain ⟨z1,m,y',f1,f2,f3⟩:=OS q e8;rw [e10] at f1;obtain rfl:=jN f1;obtain ⟨g1,g2⟩:=(wS hR.vr _ m).1 x1 e2 _ _ (hr.fuel r.dO f) y y' h3 f2
   have hns:Lst [s]->False:=nl λh=>by
    rcases h with h | h
    ·rw [h1] at h;exact dE h zb
    ·rw [h1] at h;exact dE h.1 zb
   rcases f3 with ⟨f4,_⟩ | ⟨_,z2,m2,z',f5,f6,f7⟩
   ·exact dE h4 (by rw [←g2.t];exact f4)
   rw [e10] at f5;obtain rfl:=jN f5;obtain ⟨g3,g4⟩:=(wS hR.vr _ m2).1 x2 e3 _ _ g2 z z' h6 f6
   rcases f7 with ⟨f8,_⟩ | ⟨_,w',f9,f10⟩
   ·exact dE h7 (by rw [←g4.t];exact f8)
   rw [g1,g3] at f9 f10;have hw:Rr w w':=g4.see _ _ h8 f9;exact (ih hvc e6 e7 za e4 e5 e9 e11 hR hw hV hb f10).mono (Ig _) hV (λ_ h=>h) λh=>(hns h).elim
 | @rdone v hi s r fr hs h=>
   intro vc vs vs' ob sc sc1 n n1 res as b sx np lo base R fx hx rx rx1 fx1 hx1 u hvc hF hT hn hu hk hv hbo hR hr hV hb hx'
   rcases LU hx' with ⟨_,rfl,rfl,rfl⟩ | ⟨q1,q2,_⟩
   ·exact (pL.still hR hr λ_=>id).mono hF.pre hV (λ_ h=>h) id
   ·rcases h with h | h
    ·exact dE q1 h
    ·exact dE (hr.t.symm.trans q2) h
 | @round v hi s r fr hs f r2 fr2 hs2 r3 fr3 hs3 w h1 h2 h3 h4 h5 i1 i2=>
   intro vc vs vs' ob sc sc1 n n1 res as b sx np lo base R fx hx rx rx1 fx1 hx1 u hvc hF hT hn hu hk hv hbo hR hr hV hb hx'
   rcases LU hx' with ⟨q,_⟩ | ⟨_,_,w',f',ra,fa,ha,q3,q4,q5⟩
   ·rcases q with q | q
    ·exact dE h1 q
    ·exact dE h2 (by rw [←hr.t];exact q)
   rw [hv] at q3;rw [hbo] at q4;have hR1:=hR.put hu hk h3 q3;obtain ⟨a1,a2,a3,a4,a5,a6,a7⟩:=rY h3;obtain ⟨b1,b2,b3,b4,b5,b6,b7⟩:=rY q3;have hlo:=hR.act.wl _ _ hu hk;have h0:=hR.act.lo0;obtain ⟨_,b7⟩:=b7 za;have p0:pL vc np as vs vF lo base (sc++[s.cZ]) R b False fr fx hs hx r rx w.1 w'.1 w.2 w'.2:=pL.go hR hr (λ_ _ h=>h) hR1 a3 b3 a2 (by rw [a1]) (λz hz _=>by rw [b7,bU za]) (λ_=>b4) λ_=>False.elim;have hact:Oj vc np as vs lo base fr.aX:=hR.act;refine p0.seq (λe=>dE h2 e) (λe=>dE h2 (by rw [←hr.t];exact e)) λR1 _ hR2=>?_;have p1:=i1 hvc hF hT hn hR2 (hr.fuel f f') hV hb q4;refine p1.seq (λe=>?_) (λe=>?_) λR2 ht hR3=>?_
   ·rcases LU h5 with ⟨_,q⟩ | ⟨_,q,_⟩
    ·exact q
    ·exact dE q e
   ·rcases LU q5 with ⟨_,q⟩ | ⟨_,q,_⟩
    ·exact q
    ·exact dE q e
   ·have hs1:=hT.subN;exact i2 hvc hF hT hn hu hk hv hbo ((hR3.shrink hF.pre (by rw [p1.fa,a3];exact hact)).sub λz hz=>hs1 _ (MI _ hz)) p1.rr hV hb q5
 | @calla r fr hs s f o n r1 h1 h2 h3 h4=>exact λht=>TC h1 ht hP h2 h4
 | @call r fr hs s f o n r1 to r2 to2 hs2 w h1 h2 h3 h4 h5 h6 h7 h8 ih=>exact λht=>st_call h1 ht hP h2 h3 h4 ih (rx_len h5) h6 h7 h8
 | skip h1 h2 h3 h4 h5 h6 h7=>exact λ_=>st_skip h1 h2 h3 h4 h5 h6 h7
end
inductive XS:aA->Prop
 | mk {s:aA}:oY s.aM<=3000->(∀t ∈ s.bR,XS t)->(∀t ∈ s.iP,XS t)->XS s
inductive NR:aA->Prop
 | mk {s:aA}:s.eG ≠ [114,101,116,117,114,110]->(s.eG=[99,97,108,108]->s.cZ ≠ -2)->(∀t ∈ s.bR,NR t)->(∀t ∈ s.iP,NR t)->NR s
theorem NR.o {s:aA} (h:NR s):s.eG ≠ [114,101,116,117,114,110]/\(s.eG=[99,97,108,108]->s.cZ ≠ -2)/\(∀t ∈ s.bR,NR t)/\(∀t ∈ s.iP,NR t):=by
 cases h with
 | mk a b c d=>exact ⟨a,b,c,d⟩
mutual
theorem PN (as:List Int):∀x,xz (fx as x)=xz x
 | ⟨o,t,n,v,l,a⟩=>by rw [fx,xz,xz,Ow as l]
theorem Ow (as:List Int):∀l,oY (EE as l)=oY l
 | []=>by rw [EE]
 | x::l=>by rw [EE,oY,oY,PN as x,Ow as l]
end
theorem El {α:Type} {p:α->Prop} {x:α} (h:p x):∀t ∈ [x],p t:=λt ht=>by rw [zA.1 ht];exact h
theorem yK {α:Type} {p:α->Prop} {a b:List α} (h:∀t ∈ a,p t) (k:∀t ∈ b,p t):∀t ∈ a++b,p t:=λt ht=>(BV.1 ht).elim (h t) (k t)
theorem jC {α:Type} {p:α->Prop}:∀t ∈ ([]:List α),p t:=λt ht=>nomatch ht
section
variable {p:aK} {vs v ps vs':List aJ} {as own:List Int} {b:aA} {s:aA} {l o:List aA}
theorem Kg.xs {fU:Int} {xs:List aF} {i:Nat} (h:Kg as fU ps vs xs i o own vs'):oY xs<=3000->(∀t ∈ o,XS t)/\∀t ∈ o,NR t:=by
 induction h with
 | nil=>exact λ_=>⟨jC,jC⟩
 | arr _ _ ih=>exact λh=>by rw [oY] at h;exact ih za
 | @val vs y l i u o own vs' h1 hu h2 ih=>
   intro h;rw [oY] at h;obtain ⟨i1,i2⟩:=ih za;refine ⟨λt ht=>?_,λt ht=>?_⟩
   ·rcases Cj.1 ht with rfl | ht
    ·exact .mk (by simp only [oY,PN];omega) jC jC
    ·exact i1 t ht
   ·rcases Cj.1 ht with rfl | ht
    ·refine .mk ?_ ?_ jC jC
     ·simp only;split <;> decide
     ·simp only;split <;> (intro h;exact dE h zb)
    ·exact i2 t ht
theorem Ak.xs (hP:∀i f,aS p.aU i=some f->uS f.bR<=3001) (h:Ak p vs l as b o v):uS l<=3001->b.bR=[]->b.iP=[]->∀t ∈ o,XS t:=by
 have tk:∀(f:aP) (s:aA) (as:List Int) (b:aA),b.bR=[]->b.iP=[]->(Gs f s as b).bR=[]/\(Gs f s as b).iP=[]:=by
  intro f s as b h1 h2;unfold Gs
  split
  ·split <;> exact ⟨h1,h2⟩
  ·split <;> exact ⟨rfl,rfl⟩
 have bt:∀(b:aA) (a:Int),b.bR=[]->b.iP=[]->(FD b a).bR=[]/\(FD b a).iP=[]:=by
  intro b a h1 h2;unfold FD
  split <;> exact ⟨h1,h2⟩
 induction h with
 | nil=>exact λ_ _ _=>jC
 | @call vs s l as b f o1 own v1 o2 v2 o3 v3 h1 h2 h3 h4 h5 h6 h7 i1 i2=>
   intro hz hb1 hb2;rw [uS,qC] at hz;obtain ⟨t1,t2⟩:=tk f s as b hb1 hb2;exact yK (yK (h3.xs za).1 (i1 (hP _ _ h2) t1 t2)) (i2 za hb1 hb2)
 | @ret vs s l as b y r o v h1 h2 h3 h4 ih=>
   intro hz hb1 hb2;rw [uS,qC,h2,oY] at hz;obtain ⟨t1,t2⟩:=bt b s.fV hb1 hb2;exact yK (El (.mk (by simp only [oY,PN];omega) (by simp only [t1];exact jC) (by simp only [t2];exact jC))) (ih za hb1 hb2)
 | @retv vs s l as b y r o v h1 h2 h3 h4 ih=>
   intro hz hb1 hb2;rw [uS,qC,h2,oY] at hz;obtain ⟨t1,t2⟩:=bt b s.fV hb1 hb2;exact yK (El (.mk (by simp only [oY,PN];omega) (by simp only [t1];exact jC) (by simp only [t2];exact jC))) (ih za hb1 hb2)
 | @other vs s l as b o1 v1 o2 v2 o3 v3 h1 h2 h3 h4 h5 i1 i2 i3=>
   intro hz hb1 hb2;rw [uS,qC] at hz;exact yK (El (.mk (by rw [Ow];omega) (i1 za hb1 hb2) (i2 za hb1 hb2))) (i3 za hb1 hb2)
theorem Ak.nr (hP:∀i f,aS p.aU i=some f->uS f.bR<=3001) (h:Ak p vs l as b o v):uS l<=3001->b.bR=[]->b.iP=[]->(b.eG=[114,101,116,117,114,110]/\(∀t ∈ l,NR t) ∨ b.eG=[115,101,116] ∨ b.eG=[118,97,114])->∀t ∈ o,NR t:=by
 have nb:∀ {b:aA} (w:Int) (y:List aF),b.bR=[]->b.iP=[]->(b.eG=[115,101,116] ∨ b.eG=[118,97,114])->∀ {a:Int} {v:Int},NR ⟨(FD b a).eG,v,w,y,(FD b a).bR,(FD b a).iP,(FD b a).fV⟩:=by
  intro b w y h1 h2 h3 a v;obtain ⟨b1,_,_,b4,b5⟩:=wK b a;rw [b1,b4,b5,h1,h2];refine .mk ?_ ?_ jC jC
  ·rcases h3 with h | h <;> (simp only;rw [h];decide)
  ·rcases h3 with h | h <;> (simp only;rw [h];intro e;exact dE e zb)
 induction h with
 | nil=>exact λ_ _ _ _=>jC
 | @call vs s l as b f o1 own v1 o2 v2 o3 v3 h1 h2 h3 h4 h5 h6 h7 i1 i2=>
   intro hz hb1 hb2 hb;rw [uS,qC] at hz
   have tk:(Gs f s as b).bR=[]/\(Gs f s as b).iP=[]:=by
    unfold Gs
    split
    ·split <;> exact ⟨hb1,hb2⟩
    ·split <;> exact ⟨rfl,rfl⟩
   have hb':(Gs f s as b).eG=[115,101,116] ∨ (Gs f s as b).eG=[118,97,114]:=by
    obtain ⟨t1,t2,t3⟩:=Tr f s as b
    by_cases e:s.cZ=-2
    ·rw [(t1 e).1]
     rcases hb with ⟨_,hb⟩ | hb
     ·exact dE e ((hb s (Ja ..)).o.2.1 h1)
     ·exact hb
    ·unfold Gs;rw [bU e]
     split
     ·exact .inr rfl
     ·exact .inl rfl
   exact yK (yK (h3.xs za).2 (i1 (hP _ _ h2) tk.1 tk.2 (.inr hb'))) (i2 za hb1 hb2 (hb.imp_left λ⟨e,h⟩=>⟨e,λt ht=>h t (IZ _ ht)⟩))
 | @ret vs s l as b y r o v h1 h2 h3 h4 ih=>
   intro hz hb1 hb2 hb;rw [uS] at hz
   rcases hb with ⟨_,hb⟩ | hb
   ·exact dE h1 (hb s (Ja ..)).o.1
   ·exact yK (El (nb _ _ hb1 hb2 hb)) (ih za hb1 hb2 (.inr hb))
 | @retv vs s l as b y r o v h1 h2 h3 h4 ih=>
   intro hz hb1 hb2 hb;rw [uS] at hz
   rcases hb with ⟨_,hb⟩ | hb
   ·exact dE h1 (hb s (Ja ..)).o.1
   ·exact yK (El (nb _ _ hb1 hb2 hb)) (ih za hb1 hb2 (.inr hb))
 | @other vs s l as b o1 v1 o2 v2 o3 v3 h1 h2 h3 h4 h5 i1 i2 i3=>
   intro hz hb1 hb2 hb;rw [uS,qC] at hz;refine yK (El (.mk h2 (λe=>dE e h1) (i1 za hb1 hb2 ?_) (i2 za hb1 hb2 ?_))) (i3 za hb1 hb2 ?_)
   ·exact hb.imp_left λ⟨e,h⟩=>⟨e,(h s (Ja ..)).o.2.2.1⟩
   ·exact hb.imp_left λ⟨e,h⟩=>⟨e,(h s (Ja ..)).o.2.2.2⟩
   ·exact hb.imp_left λ⟨e,h⟩=>⟨e,λt ht=>h t (IZ _ ht)⟩
end
theorem TB.nr {sg:Hz} {vs:List aJ} {res:Int} {lf:Bool} {n n':Nat} {sc sc':List Int} {l:List aA} (h:TB sg vs res lf n sc l n' sc'):lf=false ∨ res=0->∀t ∈ l,NR t:=by
 have one:∀ {s:aA} {l:List aA},NR s->(∀t ∈ l,NR t)->∀t ∈ s::l,NR t:=λh k t ht=>(Cj.1 ht).elim (λe=>e ▸ h) (k t)
 induction h with
 | nil=>exact λ_=>jC
 | let_ _ _ _ _ _ ih=>exact λh=>one (.mk zc zc jC jC) (ih h)
 | var_ _ _ _ _ ih=>exact λh=>one (.mk zc zc jC jC) (ih h)
 | arr _ _ _ ih=>exact λh=>one (.mk zc zc jC jC) (ih h)
 | callv _ _ _ _ _ _ ih=>exact λh=>one (.mk zc (λ_=>yz) jC jC) (ih h)
 | set _ _ _ _ _ _ ih=>exact λh=>one (.mk zc zc jC jC) (ih h)
 | calls _ h2 _ _ _ _ _ ih=>exact λh=>one (.mk zc (λ_=>by have:=(rL h2).1;simp only;omega) jC jC) (ih h)
 | put _ _ _ _ _ _ _ _ _ ih=>exact λh=>one (.mk zc zc jC jC) (ih h)
 | do_ _ _ _ ih=>exact λh=>one (.mk zc zc jC jC) (ih h)
 | if_ _ _ _ _ _ i1 i2 i3=>exact λh=>one (.mk zc zc (i1 (.inl rfl)) (i2 (.inl rfl))) (i3 h)
 | for_ _ _ _ _ _ _ _ _ i1 i2=>exact λh=>one (.mk zc zc (i1 (.inl rfl)) jC) (i2 h)
 | ret _ h2=>exact λh=>by rcases h with h | h;cases h;exact dE h h2
 | retc _ h2=>exact λh=>by rcases h with h | h;cases h;exact dE h h2
def NRc:Cd->Prop
 | .blk l=>∀t ∈ l,NR t
 | .st s=>NR s
 | .rds _ _ s=>NR s
theorem rx_nr {P:aK} {cd:Cd} {r r1:aE} {fr fr1:BT} {hs hs1:Hs} (h:RX P cd r fr hs r1 fr1 hs1):NRc cd->fr1.eX=fr.eX:=by
 induction h with
 | cons _ _ _ i1 i2=>exact λh=>(i2 λt ht=>h t (IZ _ ht)).trans (i1 (h _ (Ja ..)))
 | @asg r fr hs s x n y w h1 h2 h3 h4 h5=>
   intro _
   by_cases ht:y.2.cN=0
   ·exact (rY (h4 ht)).2.2.2.1
   ·rw [h5 ht]
 | @put r fr hs s n y h1 h2=>
   intro _;unfold eF at h2;obtain ⟨x,_,h⟩:=aD h2;obtain ⟨p,_,h⟩:=aD h;obtain ⟨d,_,h⟩:=aD h
   split at h
   ·obtain rfl:=jN h;rfl
   ·obtain ⟨x,_,h⟩:=aD h;obtain ⟨p,_,h⟩:=aD h;obtain ⟨d,_,h⟩:=aD h
    split at h
    ·obtain ⟨k,_,h⟩:=aD h;obtain ⟨a,ha,h⟩:=aD h;obtain ⟨_,_,h⟩:=aD h;obtain rfl:=jN h;rfl
    ·obtain rfl:=jN h;rfl
 | ret h1=>exact λh=>dE h1 h.o.1
 | ift _ _ _ _ _ _ ih=>
   refine λh=>ih ?_;show ∀t ∈ _,NR t
   split
   ·exact h.o.2.2.1
   ·exact h.o.2.2.2
 | for3 _ _ _ _ _ _ _ _ _ ih=>exact λh=>ih h
 | round _ _ h3 _ _ i1 i2=>exact λh=>((i2 h).trans (i1 h.o.2.2.1)).trans (rY h3).2.2.2.1
 | @call r fr hs s f o n r1 to r2 to2 hs2 w h1 h2 h3 h4 h5 h6 h7 h8 ih=>
   intro h
   by_cases ht:r2.cN=0
   ·by_cases hv:s.cZ=-2
    ·exact dE hv (h.o.2.1 h1)
    ·exact (rY (h8 ht hv)).2.2.2.1
   ·rw [h6 ht]
 | _=>exact λ_=>rfl
theorem FB.wt {sg:Hz} {vs:List aJ} {res:Int} {l:Bool} {sc sc':List Int} {ss:List aA} (h:FB vs res l sc ss sc'):(∀t ∈ ss,XS t)->rP ss<=16384->∀s ∈ ss,WT sg vs s:=by
 have key:∀ {s:aA} {ss:List aA},(oY s.aM<=3000->(∀t ∈ s.bR,XS t)->(∀t ∈ s.iP,XS t)->rP s.bR+rP s.iP<=16384->WT sg vs s)->((∀t ∈ ss,XS t)->rP ss<=16384->∀t ∈ ss,WT sg vs t)->(∀t ∈ s::ss,XS t)->rP (s::ss)<=16384->∀t ∈ s::ss,WT sg vs t:=by
  intro s ss h1 h2 hx hz t ht;rw [rP,Tx] at hz
  rcases Cj.1 ht with rfl | ht
  ·cases hx t (Ja ..) with
   | mk a b c=>exact h1 a b c za
  ·exact h2 (λt ht=>hx t (IZ _ ht)) za t ht
 induction h with
 | nil=>exact λ_ _=>jC
 | let_ h1 h2 h3 h4 _ ih=>exact key (λhz _ _ _=>.asg (.inl rfl) h1 (by simp only [oY] at hz;omega) h3) ih
 | var_ h1 h2 h3 h4 _ ih=>exact key (λhz _ _ _=>.asg (.inr (.inl rfl)) h1 (by simp only [oY] at hz;omega) h2) ih
 | arr h1 h2 _ ih=>exact key (λ_ _ _ _=>.arr h1 h2) ih
 | set h1 h2 h3 h4 _ ih=>exact key (λhz _ _ _=>.asg (.inr (.inr rfl)) h1 (by simp only [oY] at hz;omega) h2) ih
 | put h1 h2 h3 h4 h5 h6 h7 h8 _ ih=>exact key (λhz _ _ _=>.put h2 h3 h4 h7 (by simp only [oY] at hz;omega)) ih
 | @if_ l sc c b e a sc1 sc2 ss sc' h1 h2 h3 h4 h5 i1 i2 i3=>exact key (fun hz k1 k2 k3=>by
    have:=GX b;have:=GX e;simp only at k3;exact .if_ h1 (by simp only [oY] at hz;omega) za za (i1 k1 za) (i2 k2 za)) i3
 | @for_ l sc x y v u b a sc1 ss sc' h1 h2 h3 h4 h5 h6 h7 h8 i1 i2=>exact key (fun hz k1 k2 k3=>by
    have:=GX b;simp only at k3;exact .for_ h1 h3 (by simp only [oY] at hz;omega) (λ_=>(rL h5).2) za (i1 k1 za)) i2
 | ret h1 h2=>exact fun hx hz=>El (by
    cases hx _ (Ja ..) with
    | mk a b c=>exact .ret h1 (by simp only [oY] at a;omega))
end Go.Proofs.YtnheknbibdgglaaGreatDoor.Abs
namespace Go.Proofs.YtnheknbibdgglaaGreatDoor.Abs
open IntKind (i64 u32 u64 u8)
open Go.RowKit
set_option linter.all false
theorem JQ {α:Type} (l:List α) (i:Nat):aS l (i:Int)=l[i]? := by
 unfold aS;rw [cG za,wR]
structure RA (l:List aJ) (i:Nat) (to:BT) (hs:Hs) (t:BT × Hs):Prop where
 f:t.1.f_=to.f_
 r:t.1.eX=to.eX
 out:∀j:Nat,j<i ∨ i+l.length<=j->t.1.aX[j]? = to.aX[j]? /\ t.1.bP[j]? = to.bP[j]?
 pre:hs <+: t.2
 num:∀(j:Nat) v,l[j]? = some v->v.bF=4->∃m:Nat,hs.length<=m/\t.1.aX[i+j]? = some (m:Int)/\∀(j2:Nat) v2 a,j<j2->l[j2]? = some v2->v2.bF=4->t.1.aX[i+j2]? = some a->(m:Int)<a
theorem uC {a:T_interp_Args}:∀(l:List aJ) (i w k:Nat) (to:BT) (hs:Hs) (t:BT × Hs),sF a l i w k to hs=some t->RA l i to hs t
 | [],i,w,k,to,hs,t,h=>by
   unfold sF at h;obtain rfl:=jN h;exact ⟨rfl,rfl,λ_ _=>⟨rfl,rfl⟩,Ig _,λj v h=>by simp at h⟩
 | v::l,i,w,k,to,hs,t,h=>by
   unfold sF at h
   by_cases hk:v.bF=4
   ·rw [cG hk] at h;obtain ⟨x,hx,h⟩:=aD h;obtain ⟨⟨_,_,hi⟩,h⟩:=bN h;have g:=uC l (i+1) w (k+1) _ _ t h;refine ⟨g.f,g.r,λj hj=>?_,(GR _ _).trans g.pre,λj u hu hku=>?_⟩
    ·rw [jJ] at hj;obtain ⟨g1,g2⟩:=g.out j za;exact ⟨by rw [g1];exact MM za,g2⟩
    ·cases j with
     | zero=>
       refine ⟨hs.length,tW _,?_,λj2 v2 b hj hv2 hk2 hb=>?_⟩
       ·rw [(g.out _ za).1];exact Ki hi
       ·cases j2 with
        | zero=>omega
        | succ j2=>
          rw [ED] at hv2;obtain ⟨m,m1,m2,_⟩:=g.num j2 v2 hv2 hk2;rw [show i+(j2+1)=i+1+j2 by omega,m2] at hb;rw [←jN hb];rw [nB,tF] at m1;omega
     | succ j=>
       rw [ED] at hu;obtain ⟨m,m1,m2,m3⟩:=g.num j u hu hku;rw [nB,tF] at m1;refine ⟨m,za,by rw [show i+(j+1)=i+1+j by omega];exact m2,λj2 v2 b hj hv2 hk2 hb=>?_⟩;cases j2 with
       | zero=>omega
       | succ j2=>exact m3 j2 v2 b za (by rwa [ED] at hv2) hk2 (by rw [show i+1+j2=i+(j2+1) by omega];exact hb)
   ·rw [bU hk] at h;obtain ⟨x,hx,h⟩:=aD h;obtain ⟨hi,h⟩:=bN h;have g:=uC l (i+1) (w+1) k _ _ t h;refine ⟨g.f,g.r,λj hj=>?_,g.pre,λj u hu hku=>?_⟩
    ·rw [jJ] at hj;obtain ⟨g1,g2⟩:=g.out j za;exact ⟨g1,by rw [g2];exact MM za⟩
    ·cases j with
     | zero=>
       simp only [KJ,Option.some.injEq] at hu;subst hu;exact dE hku hk
     | succ j=>
       rw [ED] at hu;obtain ⟨m,m1,m2,m3⟩:=g.num j u hu hku;refine ⟨m,m1,by rw [show i+(j+1)=i+1+j by omega];exact m2,λj2 v2 b hj hv2 hk2 hb=>?_⟩;cases j2 with
       | zero=>omega
       | succ j2=>exact m3 j2 v2 b za (by rwa [ED] at hv2) hk2 (by rw [show i+1+j2=i+(j2+1) by omega];exact hb)
theorem Fe {a:T_interp_Args}:∀(l:List aJ) (i w k:Nat) (to to':BT) (hs hs':Hs) (t t':BT × Hs),sF a l i w k to hs=some t->sF a l i w k to' hs'=some t'->∀(j:Nat) v,l[j]? = some v ->
  (v.bF=4->∃(q q':Nat) (x:List Int),t.1.aX[i+j]? = some (q:Int)/\t'.1.aX[i+j]? = some (q':Int)/\t.2[q]? = some x/\t'.2[q']? = some x)/\(v.bF ≠ 4->∃z,t.1.bP[i+j]? = some z/\t'.1.bP[i+j]? = some z)
 | [],i,w,k,to,to',hs,hs',t,t',h,h',j,v,hv=>by simp at hv
 | v::l,i,w,k,to,to',hs,hs',t,t',h,h',j,u,hu=>by
   unfold sF at h h'
   by_cases hk:v.bF=4
   ·rw [cG hk] at h h';obtain ⟨x,hx,h⟩:=aD h;obtain ⟨⟨_,_,hi⟩,h⟩:=bN h;obtain ⟨x',hx',h'⟩:=aD h';obtain ⟨⟨_,_,hi'⟩,h'⟩:=bN h';rw [hx] at hx';obtain rfl:=jN hx';cases j with
    | zero=>
      simp only [KJ,Option.some.injEq] at hu;subst hu;have g:=uC _ _ _ _ _ _ _ h;have g':=uC _ _ _ _ _ _ _ h'
      have last:∀ {hs:Hs} {t:Hs},hs++[x] <+: t->t[hs.length]? = some x:=λh=>by
       obtain ⟨z,hz⟩:=h;rw [←hz,ML,GT (tW _),Tc];rfl
      refine ⟨λ_=>⟨hs.length,hs'.length,x,?_,?_,last g.pre,last g'.pre⟩,λe=>dE hk e⟩
      ·rw [(g.out _ za).1];exact Ki hi
      ·rw [(g'.out _ za).1];exact Ki hi'
    | succ j=>
      rw [ED] at hu;rw [show i+(j+1)=i+1+j by omega];exact Fe l (i+1) w (k+1) _ _ _ _ t t' h h' j u hu
   ·rw [bU hk] at h h';obtain ⟨x,hx,h⟩:=aD h;obtain ⟨hi,h⟩:=bN h;obtain ⟨x',hx',h'⟩:=aD h';obtain ⟨hi',h'⟩:=bN h';rw [hx] at hx';obtain rfl:=jN hx';cases j with
    | zero=>
      simp only [KJ,Option.some.injEq] at hu;subst hu;have g:=uC _ _ _ _ _ _ _ h;have g':=uC _ _ _ _ _ _ _ h';refine ⟨λe=>dE e hk,λ_=>⟨x,?_,?_⟩⟩
      ·rw [(g.out _ za).2];exact Ki hi
      ·rw [(g'.out _ za).2];exact Ki hi'
    | succ j=>
      rw [ED] at hu;rw [show i+(j+1)=i+1+j by omega];exact Fe l (i+1) (w+1) k _ _ _ _ t t' h h' j u hu
section
variable {P:aK} {f:aP} {a:T_interp_Args} {o t:BT × Hs}
theorem Lj (hp:f.aQ.toNat<=f.aO.length) (ho:uF f 0=some o) (ht:sF a (f.aO.take f.aQ.toNat) 0 0 0 o.1 o.2=some t) {i j:Nat} {u v:aJ} {k:Int} (hu:f.aO[i]? = some u) (hv:f.aO[j]? = some v) (hku:u.bF=4) (hkv:v.bF=4) (h1:t.1.aX[i]? = some k) (h2:t.1.aX[j]? = some k):i=j:=by
 unfold uF at ho;obtain ⟨_,ho⟩:=bN ho;obtain ⟨x,hx,ho⟩:=aD ho;obtain rfl:=jN ho;have g:=uC _ _ _ _ _ _ _ ht;have hN:=FU f.aQ.toNat 0 (f.aO.drop f.aQ.toNat) 0 _ _ x hx (by rw [Oy,HG];omega);have hlt:(f.aO.take f.aQ.toNat).length=f.aQ.toNat:=by rw [EC];omega
 have par:∀ {i:Nat} {u:aJ},f.aO[i]? = some u->i<f.aQ.toNat->(f.aO.take f.aQ.toNat)[i]? = some u:=λh hi=>by rw [MJ,cG hi,h]
 have loc:∀ {i:Nat} {u:aJ},f.aO[i]? = some u->f.aQ.toNat<=i->(f.aO.drop f.aQ.toNat)[i - f.aQ.toNat]? = some u:=λ{i} _ h hi=>by rw [QS,show f.aQ.toNat+(i - f.aQ.toNat)=i by omega,h]
 have getl:∀ {i:Nat},f.aQ.toNat<=i->t.1.aX[i]? = x.1[f.aQ.toNat+0+(i - f.aQ.toNat)]? := λ{i} hi=>by
  rw [(g.out i za).1,show f.aQ.toNat+0+(i - f.aQ.toNat)=i by omega]
 have lp:∀ {i:Nat} {u:aJ} {k:Int},f.aO[i]? = some u->u.bF=4->f.aQ.toNat<=i->t.1.aX[i]? = some k->k<x.2.length:=λ{i u k} hu hk hi h=>by
  obtain ⟨m,_,m2,m3,_⟩:=hN.num _ u (loc hu hi) hk;rw [getl hi,m2] at h;rw [←jN h];have:=(sG.1 m3).1;omega
 have pp:∀ {i:Nat} {u:aJ} {k:Int},f.aO[i]? = some u->u.bF=4->i<f.aQ.toNat->t.1.aX[i]? = some k->x.2.length<=k:=λ{i u k} hu hk hi h=>by
  obtain ⟨m,m1,m2,_⟩:=g.num i u (par hu hi) hk;rw [ES,h] at m2;rw [jN m2];simp only at m1;omega
 have lo:∀ {i j:Nat} {u v:aJ} {k:Int},f.aO[i]? = some u->f.aO[j]? = some v->u.bF=4->v.bF=4->t.1.aX[i]? = some k->t.1.aX[j]? = some k->i<j->False:=by
  intro i j u v k hu hv hku hkv h1 h2 hij
  by_cases hi:i<f.aQ.toNat
  ·by_cases hj:j<f.aQ.toNat
   ·obtain ⟨m,m1,m2,m3⟩:=g.num i u (par hu hi) hku;have:=m3 j v k hij (par hv hj) hkv (by rw [ES];exact h2);rw [ES,h1] at m2;have:=jN m2;omega
   ·have:=pp hu hku hi h1;have:=lp hv hkv za h2;omega
  ·obtain ⟨m,_,m2,_,_,m5⟩:=hN.num _ u (loc hu za) hku;have:=m5 (j - f.aQ.toNat) v k za (loc hv za) hkv (by rw [←getl za];exact h2);rw [getl za,m2] at h1;have:=jN h1;omega
 rcases Nat.lt_trichotomy i j with h | h | h
 ·exact (lo hu hv hku hkv h1 h2 h).elim
 ·exact h
 ·exact (lo hv hu hkv hku h2 h1 h).elim
end
theorem Jt {hs hs':Hs} {rs rs':List Int}:∀(l:List aJ) (i:Nat) (out x y:Hs),(∀(j:Nat) v,l[j]? = some v->v.bF=4->∃k k' a,aS rs ((i+j:Nat):Int)=some k/\aS rs' ((i+j:Nat):Int)=some k'/\aS hs k=some a/\aS hs' k'=some a)->Iy hs l i rs out=some x->Iy hs' l i rs' out=some y->x=y
 | [],i,out,x,y,_,h1,h2=>by
   unfold Iy at h1 h2;rw [←jN h1,←jN h2]
 | v::l,i,out,x,y,h,h1,h2=>by
   have h':∀(j:Nat) u,l[j]? = some u->u.bF=4->∃k k' a,aS rs ((i+1+j:Nat):Int)=some k/\aS rs' ((i+1+j:Nat):Int)=some k'/\aS hs k=some a/\aS hs' k'=some a:=λj u hu hk=>by
    rw [show i+1+j=i+(j+1) by omega];exact h (j+1) u (by rw [ED];exact hu) hk
   unfold Iy at h1 h2
   by_cases hk:v.bF=4
   ·rw [cG hk] at h1 h2;obtain ⟨k,k',b,e1,e2,e3,e4⟩:=h 0 v rfl hk;rw [SU] at e1 e2;rw [e1,nA] at h1;rw [e2,nA] at h2;obtain ⟨_,h1⟩:=bN h1;obtain ⟨_,h2⟩:=bN h2;rw [e3,nA] at h1;rw [e4,nA] at h2;exact Jt l (i+1) _ x y h' h1 h2
   ·rw [bU hk] at h1 h2;exact Jt l (i+1) _ x y h' h1 h2
theorem rx_f {P:aK} {cd:Cd} {r r1:aE} {fr fr1:BT} {hs hs1:Hs} (h:RX P cd r fr hs r1 fr1 hs1):fr1.f_=fr.f_:=by
 induction h with
 | cons _ _ _ i1 i2=>exact i2.trans i1
 | @asg r fr hs s x n y w h1 h2 h3 h4 h5=>
   by_cases ht:y.2.cN=0
   ·exact (rY (h4 ht)).2.1
   ·rw [h5 ht]
 | @put r fr hs s n y h1 h2=>
   unfold eF at h2;obtain ⟨x,_,h⟩:=aD h2;obtain ⟨p,_,h⟩:=aD h;obtain ⟨d,_,h⟩:=aD h
   split at h
   ·obtain rfl:=jN h;rfl
   ·obtain ⟨x,_,h⟩:=aD h;obtain ⟨p,_,h⟩:=aD h;obtain ⟨d,_,h⟩:=aD h
    split at h
    ·obtain ⟨k,_,h⟩:=aD h;obtain ⟨a,ha,h⟩:=aD h;obtain ⟨_,_,h⟩:=aD h;obtain rfl:=jN h;rfl
    ·obtain rfl:=jN h;rfl
 | ift _ _ _ _ _ _ ih=>exact ih
 | for3 _ _ _ _ _ _ _ _ _ ih=>exact ih
 | round _ _ h3 _ _ i1 i2=>exact (i2.trans i1).trans (rY h3).2.1
 | @call r fr hs s f o n r1 to r2 to2 hs2 w h1 h2 h3 h4 h5 h6 h7 h8 ih=>
   by_cases ht:r2.cN=0
   ·by_cases hv:s.cZ=-2
    ·rw [h7 ht hv]
    ·exact (rY (h8 ht hv)).2.1
   ·rw [h6 ht]
 | _=>rfl
theorem run_x {P:aK} {f:aP} {n:Nat} {fn fuel:Int} {a:T_interp_Args} {x:cC × Int} (hf:aS P.aU fn=some f) (hT:SY P f) (ha:∀z ∈ a.tE,sP z) (hn:6000<=n) (hn2:n<=1000000000) (h:sB n P fn a fuel=some x) (h0:x.2=0) :
  ∃o t r1 fr1 hs1,uF f 0=some o/\sF a (f.aO.take f.aQ.toNat) 0 0 0 o.1 o.2=some t/\DI t.1 t.2/\t.1.f_=f/\t.1.eX=0/\RX P (.blk f.bR) ⟨P,fuel,0,0,[]⟩ t.1 t.2 r1 fr1 hs1/\AD r1 fr1 hs1=some x.1:=by
 have hlt:=rL hf;have hp1:=hT.p1;have hp0:=hT.p0;unfold sB at h;rw [bU za,hf,nA] at h;obtain ⟨o,ho,h⟩:=aD h;obtain ⟨o',ho',hto⟩:=Jw hT [];rw [show ([]:Hs).length=0 from rfl,ho] at ho';obtain rfl:=jN ho';obtain ⟨b,eb,hb⟩:=Li (a:=a) hT hn;rw [eb,nA] at h
 by_cases hbf:b=false
 ·rw [cG hbf] at h;rw [←jN h] at h0;exact dE h0 zb
 rw [bU hbf] at h;obtain ⟨t,ht,h⟩:=aD h;obtain ⟨w,hw,h⟩:=aD h;have hpl:(f.aO.take f.aQ.toNat).length=f.aQ.toNat:=by rw [EC];omega
 obtain ⟨t',ht',htt⟩:=BY hT ha (f.aO.take f.aQ.toNat) 0 0 0 o.1 o.2 (λj v hv=>by
  rw [ES];rw [MJ] at hv
  split at hv
  ·exact hv
  ·cases hv) (hb (by simpa using hbf)) (by simpa using hto)
 rw [ht] at ht';obtain rfl:=jN ht';have hFr:=htt.frok (by rw [hpl];omega) hT;have hra:=uC _ _ _ _ _ _ _ ht
 by_cases he:w.1.e_=0
 ·rw [bU (by simpa using he)] at h;obtain ⟨y,hy,h⟩:=aD h;have h:=jN h;subst h;obtain ⟨_,g2⟩:=(grp_x (P:=P) n hn2).1 _ _ _ _ rfl _ hw;refine ⟨o,t,_,_,_,ho,ht,hFr,htt.ff,?_,(g2 he).2,hy⟩;unfold uF at ho;obtain ⟨_,ho⟩:=bN ho;obtain ⟨z,_,ho⟩:=aD ho;rw [hra.r,←jN ho]
 ·rw [cG (by simpa using he)] at h;rw [←jN h] at h0;exact dE h0 he
section
variable {c:aG} {rk:Int->Nat}
theorem PO.fn (hp:PO c rk) {i:Int} {f:aP} (h:aS c.p_.aU i=some f):FnOk c.p_ f:=by
 obtain ⟨k,rfl,hk⟩:=oM h;have hm:=zX hk;obtain ⟨vl1,vl2,vl3⟩:=hp.co.vl f hm;obtain ⟨ki1,ki2⟩:=hp.co.ki f hm;have tf:=hp.tf k f hk;obtain ⟨sc',hb⟩:=tf.body;exact ⟨vl2,vl3,ki1,ki2,⟨_,sc',hb.mono (λ_ _ _ h=>h.2) (Ig _)⟩,tf.ret⟩
theorem PO.tfn (hp:PO c rk) {i:Int} {f:aP} (h:aS c.p_.aU i=some f):SY c.p_ f:=by
 have ok:=hp.fn h;obtain ⟨k,rfl,hk⟩:=oM h;have hm:=zX hk;obtain ⟨n',sc',hb⟩:=ok.body;have hsz:=hp.sz f hm;have:=FK f.bR;exact ⟨hb.wt hsz,ok.p0,ok.p1,by have:=(hp.co.vl f hm).1;omega,ok.vo,za⟩
theorem PO.nr (hp:PO c rk) {i:Int} {f:aP} (h:aS c.p_.aU i=some f):f.bV=2 ∨ f.bV=3 ∨ ∀t ∈ f.bR,NR t:=by
 have ok:=hp.fn h;obtain ⟨n',sc',hb⟩:=ok.body
 rcases ok.rk with h | h | h
 ·exact .inr (.inr (hb.nr (.inr h)))
 ·exact .inl h
 ·exact .inr (.inl h)
end
theorem Kg.vo {as own:List Int} {fU:Int} {ps vs vs':List aJ} {xs:List aF} {i:Nat} {o:List aA} (h:Kg as fU ps vs xs i o own vs') (hp:∀u ∈ ps,sE u):(∀u ∈ vs,sE u)->∀u ∈ vs',sE u:=by
 induction h with
 | nil=>exact λh=>h
 | arr _ _ ih=>exact ih
 | val _ hu _ ih=>exact λh=>ih (yK h (El (hp _ (zX hu))))
theorem Ak.vo {p:aK} {vs v:List aJ} {as:List Int} {b:aA} {l o:List aA} (hP:∀i f,aS p.aU i=some f->(∀u ∈ f.aO,sE u)/\(f.bV=2 ∨ f.bV=3 ∨ ∀t ∈ f.bR,NR t)) (h:Ak p vs l as b o v):(∀u ∈ vs,sE u)->(b.eG=[118,97,114]->b.gI=2 ∨ b.gI=3 ∨ ∀t ∈ l,NR t)->∀u ∈ v,sE u:=by
 have tail:∀ {b s:aA} {l:List aA},(b.eG=[118,97,114]->b.gI=2 ∨ b.gI=3 ∨ ∀t ∈ s::l,NR t)->b.eG=[118,97,114]->b.gI=2 ∨ b.gI=3 ∨ ∀t ∈ l,NR t:=λh e=>by
  rcases h e with h | h | h
  ·exact .inl h
  ·exact .inr (.inl h)
  ·exact .inr (.inr λt ht=>h t (IZ _ ht))
 induction h with
 | nil=>exact λh _=>h
 | @call vs s l as b f o1 own v1 o2 v2 o3 v3 h1 h2 h3 h4 h5 h6 h7 i1 i2=>
   intro hv hb;obtain ⟨q1,q2⟩:=hP _ _ h2;refine i2 (i1 (yK (h3.vo q1 hv) λu hu=>q1 u (QT hu)) ?_) (tail hb);unfold Gs
   by_cases e:s.cZ=-2
   ·rw [cG e];intro e2
    have e3:b.eG=[118,97,114]:=by
     revert e2
     split <;> exact λh=>h
    have hfn:∀ {x:Int},(if b.fV<0 then { b with fV:=x } else b).gI=b.gI:=by intro x;split <;> rfl
    rw [hfn]
    rcases hb e3 with h | h | h
    ·exact .inl h
    ·exact .inr (.inl h)
    ·exact dE e ((h s (Ja ..)).o.2.1 h1)
   ·rw [bU e]
    by_cases e2:s.cZ=-1
    ·rw [cG e2];exact λ_=>q2
    ·rw [bU e2];exact λh=>dE h zc
 | @ret vs s l as b y r o v h1 h2 h3 h4 ih=>exact λhv hb=>ih hv (tail hb)
 | @retv vs s l as b y r o v h1 h2 h3 h4 ih=>
   intro hv hb;refine ih (yK hv (El ?_)) (tail hb)
   rcases hb h3 with h | h | h
   ·rw [h];exact OG zb zb
   ·rw [h];exact OG zb zb
   ·exact dE h1 (h s (Ja ..)).o.1
 | @other vs s l as b o1 v1 o2 v2 o3 v3 h1 h2 h3 h4 h5 i1 i2 i3=>
   intro hv hb;refine i3 (i2 (i1 hv λe=>?_) λe=>?_) (tail hb)
   ·exact (hb e).imp_right λh=>h.imp_right λh=>(h s (Ja ..)).o.2.2.1
   ·exact (hb e).imp_right λh=>h.imp_right λh=>(h s (Ja ..)).o.2.2.2
theorem fits_eq {f g:aP} {a:T_interp_Args} {n:Nat} (ht:g.aO.take g.aQ.toNat=f.aO.take f.aQ.toNat) (h1:0<=f.aQ/\f.aQ<=(f.aO.length:Int)) (h2:0<=g.aQ/\g.aQ<=(g.aO.length:Int)):rR n g a=rR n f a:=by
 have hl:∀(c:Nat) (w k i:Int),pI g a c w k i=pI f a c w k i:=by
  intro c
  induction c with
  | zero=>intro w k i;rfl
  | succ c ih=>intro w k i;simp only [pI,ht,ih]
 unfold rR;rw [FW h1,FW h2,hl]
section
variable {c:aG} {rk:Int->Nat} {f g:aP} {k:Nat}
structure Bs (c:aG) (i:Int) (f g:aP):Prop where
 hf:aS c.p_.aU i=some f
 eq:g={ f with aO:=g.aO,bR:=g.bR }
 pre:f.aO <+: g.aO
 fl:Ak c.p_ f.aO f.bR [] ⟨[114,101,116,117,114,110],-1,0,[],[],[],-1⟩ g.bR g.aO
 fb:∃sc',FB g.aO f.bV true (rJ f.aQ.toNat) g.bR sc'
 v:g.aO.length<=4096
 sz:rP g.bR<=16384
theorem Bs.pn {i:Int} (h:Bs c i f g):g.aQ=f.aQ:=by rw [h.eq]
theorem Bs.tk {i:Int} (h:Bs c i f g) (h1:f.aQ.toNat<=f.aO.length):g.aO.take g.aQ.toNat=f.aO.take f.aQ.toNat:=by
 rw [h.pn];obtain ⟨z,hz⟩:=h.pre;rw [←hz,List.take_append_of_le_length h1]
theorem Bs.tfn {i:Int} (h:Bs c i f g) (hp:PO c rk) (P:aK):SY P g:=by
 have ok:=hp.fn h.hf
 have hsz:∀i f,aS c.p_.aU i=some f->uS f.bR<=3001:=λi f h=>by
  obtain ⟨k,rfl,hk⟩:=oM h;exact hp.sz f (zX hk)
 have hxs:=h.fl.xs hsz (hsz _ _ h.hf) rfl rfl;obtain ⟨sc',hfb⟩:=h.fb;have hle:=h.pre.length_le;have hp1:=ok.p1;have:=h.v;have:=GX g.bR;have:=h.sz;exact ⟨hfb.wt hxs h.sz,by rw [h.pn];exact ok.p0,by rw [h.pn];omega,za,h.fl.vo (λi f hf=>⟨(hp.fn hf).vo,hp.nr hf⟩) ok.vo (λe=>dE e zb),za⟩
theorem Bs.bad {i:Int} (h:Bs c i f g) (hp:PO c rk) {n:Nat} {a:T_interp_Args}:FF n c.p_ i a ↔ FF n ⟨[g]⟩ 0 a:=by
 have ok:=hp.fn h.hf;have hle:=h.pre.length_le;have hp0:=ok.p0;have hp1:=ok.p1;have e:=fits_eq (n:=n) (a:=a) (h.tk za) ⟨hp0,hp1⟩ (by rw [h.pn];exact ⟨hp0,za⟩);have hlt:=rL h.hf;have hg:aS ([g]:List aP) 0=some g:=rfl
 constructor
 ·rintro (hb | ⟨f',h1,h2⟩)
  ·omega
  ·rw [h.hf] at h1;obtain rfl:=jN h1
   exact .inr ⟨g,hg,e.trans h2⟩
 ·rintro (hb | ⟨g',h1,h2⟩)
  ·simp at hb
  ·rw [show aS (⟨[g]⟩:aK).aU 0=some g from rfl] at h1;obtain rfl:=jN h1
   exact .inr ⟨f,h.hf,e.symm.trans h2⟩
theorem Bs.same {i:Int} (h:Bs c i f g) (hp:PO c rk) {n:Nat} (hn:6000<=n) (hn2:n<=1000000000) {a:T_interp_Args} (ha:∀z ∈ a.tE,sP z) {fuel:Int} {x y:cC × Int} (hx:sB n c.p_ i a fuel=some x) (hy:sB n ⟨[g]⟩ 0 a fuel=some y) (hx0:x.2=0) (hy0:y.2=0):x.1=y.1:=by
 have ok:=hp.fn h.hf;have hp0:=ok.p0;have hp1:=ok.p1;obtain ⟨n',sc',hb⟩:=ok.body;have hTg:=h.tfn hp ⟨[g]⟩;have hle:=h.pre.length_le;have htk:=h.tk za;obtain ⟨o,t,r1,fr1,hs1,x1,x2,x3,x4,x5,x6,x7⟩:=run_x h.hf (hp.tfn h.hf) ha hn hn2 hx hx0;obtain ⟨o',t',rx1,fx1,hx1,y1,y2,y3,y4,y5,y6,y7⟩:=run_x (show aS (⟨[g]⟩:aK).aU 0=some g from rfl) hTg ha hn hn2 hy hy0;rw [htk] at y2;have two:=Fe _ _ _ _ _ _ _ _ _ _ x2 y2
 have pos:∀ {fr:BT} {hs:Hs} {vs:List aJ} {v:Int} {u:aJ},DI fr hs->fr.f_.aO=vs->aS vs v=some u->u.bF=4->∃k a,aS fr.aX v=some k/\0<=k/\aS hs k=some a/\(a.length:Int)=u.gA:=by
  intro fr hs vs v u hF hv hu hk;subst hv;obtain ⟨j,rfl,hj⟩:=oM hu;obtain ⟨k,a,g1,g2,g3,g4⟩:=hF.ar j u hj hk;exact ⟨k,a,by rw [JQ];exact g1,g2,by unfold aS;rw [cG g2];exact g3,g4⟩
 have injX:∀(u v:Int) (a b:aJ) (k:Int),aS f.aO u=some a->aS f.aO v=some b->a.bF=4->b.bF=4->aS t.1.aX u=some k->aS t.1.aX v=some k->u=v:=by
  intro u v a b k hu hv ha hb h1 h2;obtain ⟨i1,rfl,hi⟩:=oM hu;obtain ⟨j1,rfl,hj⟩:=oM hv;rw [JQ] at h1 h2;rw [Lj za x1 x2 hi hj ha hb h1 h2]
 have injY:∀(u v:Int) (a b:aJ) (k:Int),aS g.aO u=some a->a.bF=4->aS g.aO v=some b->b.bF=4->aS t'.1.aX u=some k->aS t'.1.aX v=some k->u=v:=by
  intro u v a b k hu ha hv hb h1 h2;obtain ⟨i1,rfl,hi⟩:=oM hu;obtain ⟨j1,rfl,hj⟩:=oM hv;rw [JQ] at h1 h2;rw [Lj (by rw [h.pn];omega) y1 (by rw [htk];exact y2) hi hj ha hb h1 h2]
 let R:Int->Int->Prop:=λk x=>∃u,aS f.aO x=some u/\u.bF=4/\x<f.aQ/\aS t.1.aX x=some k
 have par:∀ {v:Int} {u:aJ},aS f.aO v=some u->v<f.aQ->∃j:Nat,v=(j:Int)/\(f.aO.take f.aQ.toNat)[j]? = some u:=by
  intro v u hu hv;obtain ⟨j,rfl,hj⟩:=oM hu;exact ⟨j,rfl,by rw [MJ,cG za,hj]⟩
 have hxf:t.1.f_.aO=f.aO:=by rw [x4]
 have hyf:t'.1.f_.aO=g.aO:=by rw [y4]
 have hact:Oj f.aO 0 [] f.aO 0 0 t.1.aX:=by
  refine ⟨λv u hu=>⟨u,by rw [xE];exact hu,rfl,λ_=>rfl⟩,λu v _ _ _ _ _ _ e=>by rwa [xE,xE] at e,λv u hu _=>by rw [xE];exact (rL hu).1,λu v _ _ _ _ _ _ _ _ e=>by rwa [xE,xE] at e,λv u k hu hk _ hkk=>?_,λu v a b k hu hv ha hb _ _ h1 h2=>injX u v a b k hu hv ha hb h1 h2,za,Oz _⟩;obtain ⟨k',_,g1,g2,_⟩:=pos x3 hxf hu hk;rw [hkk] at g1;rw [xE,jN g1];exact ⟨(rL hu).1,g2⟩
 have hrel:DG f.aO 0 [] f.aO g.aO 0 0 (rJ f.aQ.toNat) R t.1 t'.1 t.2 t'.2:=by
  refine ⟨hact,λk x hR=>?_,λk x k2 x2 hR hR2=>?_,λk x ⟨u,h1,h2,_⟩=>⟨u,h1,h2⟩,λk x ⟨u,h1,h2,h3,h4⟩=>.inr ⟨x,u,h1,h2,(rL h1).1,h4,xE x⟩,λv hv u hu hk=>?_,λv hv u hu hk=>?_,λv u hu hk=>?_,λx u hu hk=>?_,λx y u w k hu ha hv hb h1 h2=>injY x y u w k hu ha hv hb h1 h2,h.pre⟩
  ·obtain ⟨u,h1,h2,h3,h4⟩:=hR;obtain ⟨j,rfl,hj⟩:=par h1 h3;obtain ⟨q,q',z,e1,e2,e3,e4⟩:=(two j u hj).1 h2;rw [ES] at e1 e2;rw [JQ,e1] at h4;rw [←jN h4];exact ⟨z,(q':Int),by rw [JQ];exact e2,by rw [JQ];exact e3,by rw [JQ];exact e4⟩
  ·obtain ⟨u,h1,h2,h3,h4⟩:=hR;obtain ⟨u2,i1,i2,i3,i4⟩:=hR2
   constructor
   ·rintro rfl;exact injX x x2 u u2 k h1 i1 h2 i2 h4 i4
   ·rintro rfl;rw [h4] at i4;exact jN i4
  ·have hm:=GI hv;obtain ⟨j,rfl,hj⟩:=par hu za;obtain ⟨z,e1,e2⟩:=(two j u hj).2 hk;rw [ES] at e1 e2;exact ⟨z,by rw [JQ];exact e1,by rw [xE,JQ];exact e2⟩
  ·have hm:=GI hv;obtain ⟨k,_,g1,_⟩:=pos x3 hxf hu hk;exact ⟨k,g1,u,by rw [xE];exact hu,hk,by rw [xE];omega,by rw [xE];exact g1⟩
  ·obtain ⟨k,a,g1,_,g3,g4⟩:=pos x3 hxf hu hk;exact ⟨k,a,g1,g3,g4⟩
  ·obtain ⟨k,a,g1,_,g3,g4⟩:=pos y3 hyf hu hk;exact ⟨k,a,g1,g3,g4⟩
 have hpost:=(sim (vF:=g.aO) (PX:=⟨[g]⟩) (λ_ _ hf=>hp.fn hf) x6:Of c.p_ ⟨[g]⟩ g.aO f.bR _ _ _ _ _ _) ok.vo h.fl hb za hrel (show Rr ⟨c.p_,fuel,0,0,[]⟩ ⟨⟨[g]⟩,fuel,0,0,[]⟩ from ⟨rfl,rfl,rfl,rfl⟩) (Ig _) ⟨.inl rfl,λe=>dE e zb⟩ y6;have hf1:fr1.f_=f:=(rx_f x6).trans x4;have hf2:fx1.f_=g:=(rx_f y6).trans y4
 have hsz:∀i f,aS c.p_.aU i=some f->uS f.bR<=3001:=λi f h=>by
  obtain ⟨k,rfl,hk⟩:=oM h;exact hp.sz f (zX hk)
 have hres:r1.cN=0->fx1.eX=fr1.eX:=λht=>by
  obtain ⟨R',_,_,g3⟩:=hpost.ok ht
  by_cases hr0:f.bV=0
  ·have hnr:=hb.nr (.inr hr0);have hnr2:=h.fl.nr hsz (hsz _ _ h.hf) rfl rfl (.inl ⟨rfl,hnr⟩);rw [rx_nr x6 hnr,rx_nr y6 hnr2,x5,y5]
  ·exact (g3 (ok.ret hr0)).1 rfl
 unfold AD at x7 y7;obtain ⟨_,x7⟩:=bN x7;obtain ⟨_,y7⟩:=bN y7;obtain ⟨oa,xa,x7⟩:=aD x7;obtain ⟨ob,ya,y7⟩:=aD y7;rw [hf1] at xa;rw [hf2,htk] at ya
 have hab:oa=ob:=Jt _ _ _ _ _ (λj v hv hk=>by
  have hj:j<f.aQ.toNat:=by
   have:=(sG.1 hv).1;rw [EC] at this;omega
  have hv':aS f.aO (j:Int)=some v:=by
   rw [JQ];rw [MJ,cG hj] at hv;exact hv
  obtain ⟨k,_,g1,_⟩:=pos x3 hxf hv' hk;obtain ⟨a,k',q1,q2,q3⟩:=hpost.eq k j ⟨v,hv',hk,za,g1⟩;rw [ES];exact ⟨k,k',a,by rw [hpost.fa];exact g1,by rw [hpost.fx];exact q1,q2,q3⟩) xa ya
 have e1:=hpost.rr.t;have e2:=hpost.rr.tr;rw [←jN x7,←jN y7,e1,e2,hab]
 by_cases ht:r1.cN=0
 ·rw [cG ht,cG ht,hres ht]
 ·rw [bU ht,bU ht]
end
theorem Un {x:List Int}:∀(c j:Nat),j<=x.length->x.length<j+c->x.length<=1073741824->iQ x x c (j:Int)=some (.inl ())
 | 0,j,h1,h2,_=>za
 | c+1,j,h1,h2,h3=>by
   unfold iQ
   by_cases hj:j<x.length
   ·rw [cG (vO za),Bj (tS hj) rfl,nA,nA,bU zc,fD za za];exact Un c (j+1) za za h3
   ·rw [bU (by simp;omega)]
theorem Uo {x:cC × Int} {n:Nat} (hn:2000<=n) (hx:∀y ∈ x.1.iX,y.length<=1024):∀(c j:Nat),j<=x.1.iX.length->x.1.iX.length<j+c->x.1.iX.length<=1073741824->gT n x x c (j:Int)=some (.inl ())
 | 0,j,h1,h2,_=>za
 | c+1,j,h1,h2,h3=>by
   unfold gT
   by_cases hj:j<x.1.iX.length
   ·have hy:=hx _ (Oo hj);rw [cG (vO za),Bj (tS hj) rfl,nA,nA,bU zc];have h3':=Un (x:=x.1.iX[j]) n 0 (HI _) za za;rw [show ((0:Nat):Int)=0 from rfl] at h3';rw [h3',nA];show gT n x x c (i64.wrap ((j:Int)+1))=_;rw [fD za za];exact Uo hn hx c (j+1) za za h3
   ·rw [bU (by simp;omega)]
theorem Up {x y:cC × Int} (hxy:x.1.uL=y.1.uL):∀(c j:Nat),j<=x.1.uL.length->x.1.uL.length<j+c->x.1.uL.length<=1073741824->iR x y c (j:Int)=some (.inl ())
 | 0,j,h1,h2,_=>za
 | c+1,j,h1,h2,h3=>by
   unfold iR
   by_cases hj:j<x.1.uL.length
   ·rw [cG (vO za),←hxy,Bj (tS hj) rfl,nA,nA,bU zc,fD za za];exact Up hxy c (j+1) za za h3
   ·rw [bU (by simp;omega)]
theorem VL {n:Nat} {p:aK} {i:Int} {r:aP × Int} (h:tR n p i=some r) (hi:i<0 ∨ (p.aU.length:Int)<=i):r.2=11:=by
 unfold tR at h
 have e:(if (decide (i<(0:Int)))=true then some true else some (decide ((p.aU.length:Int)<=i)):Option Bool)=some true:=by
  by_cases h0:i<0
  ·rw [cG (vO h0)]
  ·rw [bU (by simpa using h0),vO za]
 rw [e,nA,cG rfl] at h;rw [←jN h]
theorem Um {n:Nat} (hn:500000000<=n) (hn2:n<=1000000000) (han:nH n=some true) (s:cQ) (i:Int) (a:T_interp_Args) (fuel:Int) (ha:∀z ∈ a.tE,sP z):lO n s i a fuel=some true:=by
 unfold lO;rw [han,nA,bU zb]
 obtain ⟨d,hd,hd2⟩:∃d:Bool,(if (decide ((2000:Int)<(s.length:Int)))=true then some true else if (decide ((2000:Int)<fuel))=true then some true else if (decide ((10:Int)<(a.tE.length:Int)))=true then some true else some (decide ((10:Int)<(a.iX.length:Int))))=some d/\(d=false->s.length<=2000/\fuel<=2000):=by
  by_cases h1:(2000:Int)<(s.length:Int)
  ·exact ⟨true,by rw [cG (vO h1)],λh=>nomatch h⟩
  rw [bU (by simpa using h1)]
  by_cases h2:(2000:Int)<fuel
  ·exact ⟨true,by rw [cG (vO h2)],λh=>nomatch h⟩
  rw [bU (by simpa using h2)]
  by_cases h3:(10:Int)<(a.tE.length:Int)
  ·exact ⟨true,by rw [cG (vO h3)],λh=>nomatch h⟩
  rw [bU (by simpa using h3)];exact ⟨_,rfl,λ_=>za⟩
 rw [hd,nA];cases d with
 | true=>rw [cG rfl]
 | false=>
 obtain ⟨hs,hfu⟩:=hd2 rfl;rw [bU zb];obtain ⟨r,e,hr⟩:=SN (n:=n) (s:=s) za za;rw [e,nA]
 by_cases he:r.2.1=0
 ·rw [bU (show ¬ (r.2.1 != (0:Int))=true by simpa using he)];obtain ⟨c,rk,hc,hp⟩:=hr he;obtain ⟨q,eq,h2,h3⟩:=VK hp.pg (n:=n) (i:=i) hp.rkN za;rw [←hc,eq,nA]
  by_cases hq:q.2=0
  ·rw [bU (show ¬ (q.2 != (0:Int))=true by simpa using hq)];obtain ⟨k,f,hk,hf,h5,h6,h7,sc',h8⟩:=Flat_ty hp eq hq;obtain ⟨f',hf',hok⟩:=h2 hq;have hif:aS c.p_.aU i=some f:=by rw [hk];rw [JQ];exact hf
   have hB:Bs c i f q.1:=⟨hif,h5,h6,h7,⟨sc',h8⟩,hok.v,hok.sz⟩;obtain ⟨x,ex,hx⟩:=Qc (n:=n) (fn:=i) (a:=a) (fuel:=fuel) (P:=c.p_) (λk f h=>hp.tfn h) ha hfu za
   obtain ⟨y,ey,hy⟩:=Qc (n:=n) (fn:=0) (a:=a) (fuel:=fuel) (P:=⟨[q.1]⟩) (λk g h=>by
    obtain ⟨j,rfl,hj⟩:=oM h;cases j with
    | zero=>rw [←jN hj];exact hB.tfn hp _
    | succ j=>simp at hj) ha hfu za
   rw [ex,nA,ey,nA];have hbad:=hB.bad hp (n:=n) (a:=a);have hin:=rL hif
   by_cases h0:x.2=0/\y.2=0
   ·have hxy:=hB.same hp za hn2 ha ex ey h0.1 h0.2
    obtain ⟨t1,t2,t3⟩:x.1.uL.length<=9000000/\x.1.iX.length<=5000/\∀y ∈ x.1.iX,y.length<=1024:=by
     rcases hx with h | h | h | h
     ·exact h.2.2
     ·exact dE (h0.1.symm.trans h.1) zb
     ·exact dE (h0.1.symm.trans h.1) zb
     ·exact dE (h0.1.symm.trans h.1) zb
    obtain rfl:x=y:=Prod.ext hxy (h0.1.trans h0.2.symm);rw [bU (show ¬ (x.2 != (0:Int))=true by simpa using h0.1),nA,bU (show ¬ (x.2 != (0:Int))=true by simpa using h0.1),bU zc,bU zc,bU zc,nA,bU zc];have l1:=Up (x:=x) (y:=x) rfl n 0 (HI _) za za;have l2:=Uo (x:=x) (n:=n) za t3 n 0 (HI _) za za;rw [show ((0:Nat):Int)=0 from rfl] at l1 l2;rw [l1,nA];show Option.bind _ _=_;rw [l2,nA];rfl
   ·have hyx:(if (x.2 != (0:Int))=true then some true else some (y.2 != (0:Int)):Option Bool)=some true:=by
     by_cases hx0:x.2=0
     ·rw [bU (by simpa using hx0)];simp only [bne_iff_ne,Option.some.injEq];exact λh=>h0 ⟨hx0,h⟩
     ·rw [cG (by simpa using hx0)]
    rw [hyx,nA,cG rfl]
    have k1:x.2=10 ↔ FF n c.p_ i a:=by
     rcases hx with ⟨h,hn,_⟩ | ⟨h,hb⟩ | ⟨h,hb⟩ | ⟨h,hn⟩
     ·exact ⟨λe=>dE (h.symm.trans e) zb,λhb=>dE hb hn⟩
     ·exact ⟨λ_=>hb,λ_=>h⟩
     ·omega
     ·exact ⟨λe=>dE (h.symm.trans e) zb,λhb=>dE hb hn⟩
    have k2:y.2=10 ↔ FF n ⟨[q.1]⟩ 0 a:=by
     rcases hy with ⟨h,hn,_⟩ | ⟨h,hb⟩ | ⟨h,hb⟩ | ⟨h,hn⟩
     ·exact ⟨λe=>dE (h.symm.trans e) zb,λhb=>dE hb hn⟩
     ·exact ⟨λ_=>hb,λ_=>h⟩
     ·simp at hb
     ·exact ⟨λe=>dE (h.symm.trans e) zb,λhb=>dE hb hn⟩
    have k3:x.2=10 ↔ y.2=10:=k1.trans (hbad.trans k2.symm)
    by_cases e10:x.2=10
    ·rw [e10,k3.1 e10];rfl
    ·have e11:¬ y.2=10:=λh=>e10 (k3.2 h);have e12:(x.2 == (10:Int))=false:=by simpa using e10
     have e13:(y.2 == (10:Int))=false:=by simpa using e11
     rw [e12,e13];rfl
  ·rw [cG (show (q.2 != (0:Int))=true by simpa using hq)]
   by_cases hi:0<=i/\i<c.p_.aU.length
   ·have h4:=(h3 hi.1 hi.2).resolve_left hq;rw [h4];rfl
   ·rw [VL eq za];rfl
 ·rw [cG (show (r.2.1 != (0:Int))=true by simpa using he)]
theorem Vu:nH 500000000=some true:=zd
theorem Mr:∃n,∀(a0:cQ) (a1:Int) (a2:T_interp_Args) (a3:Int),(∀z ∈ a2.tE,(Lit.int .u64 z).wf=true)->lO n a0 a1 a2 a3=some true:=
 ⟨_,λa0 a1 a2 a3 h=>Um (tW _) zb Vu a0 a1 a2 a3 λz hz=>by have:=bounds_u64 (h z hz);unfold sP;omega⟩
