import Derived.Test.YtljbbjpbefjpiaaGreatDoorPH1
namespace Go.Proofs.YtljbbjpbefjpiaaGreatDoor.Abs
open Go.RowKit
def isMk:Op->Bool
 | .makeSlice _ (.const _) _=>false
 | .makeSlice _ _ _=>true
 | _=>false
def isX (op:Op):Bool:=sI op || FP op || isMk op
def JV (P:Program) (full:List Oper) (π:Pa) (k0:Nat) (E:fC) (m:M) (i:Nat):Prop:=xR P full π k0 E m i
def PX (P:Program) (full:List Oper) (tbl:List Nat) (π:Pa) (k0:Nat) (K:Nat->fC->M->Prop):List Nat->List Nat->fC->M->Prop
 | [],_,E,m=>K (k0+full.length) E m
 | i::is,fl,E,m=>match full[i]? with
   | some o=>
     if isX o.op then fP P o ((k0+i)::π) E m (λr m1=>(∀j ∈ fl.filter (λj=>!(wI tbl j i)),JV P full π k0 E m1 j)/\PX P full tbl π k0 K is (fl.filter (λj=>!(wI tbl j i))) (jW o.dst r E) m1)
     else ∃v,ax P o.op ((k0+i)::π) (ev m E) m v/\PX P full tbl π k0 K is (i::fl) (jW o.dst v E) m
   | none=>False
def xOk (full:List Oper) (tbl:List Nat) (i j:Nat):Bool:=
 match full[i]?,full[j]? with
 | some x,some y=>(match x.dst with
   | some d=>(i == j || y.dst != some d) && (!((sX full y).contains d) || wI tbl i j)
   | none=>isX x.op)
 | _,_=>false
def He (full:List Oper) (tbl:List Nat) (x y:Nat):Bool:=(!(match full[x]? with | some o=>isX o.op | none=>false) || wI tbl x y) && !(wI tbl y x) && x != y
def pxChk (full:List Oper) (tbl:List Nat) (ord:List Nat):Bool:=
 Da full tbl && full.all (λo=>o.guard.isNone) && (List.range full.length).all (λi=>(List.range full.length).all λj=>xOk full tbl i j) &&
 (List.range full.length).all (λi=>ord.contains i) && ord.all (λi=>decide (i<full.length)) && pw (He full tbl) ord && (List.range full.length).all (λi=>!(wI tbl i i))
section
theorem Jp {P:Program} {o:Oper} {q:Pa} {E E':fC} {m:M} {C:V->M->Prop} (hx:isX o.op=true) (h:fP P o q E m C) (hev:∀x ∈ nE o.op,ev m E' x=ev m E x):fP P o q E' m C:=by
 obtain ⟨dst,op,ty,pos,after,guard⟩:=o;cases op with
 | call cl=>
   obtain ⟨callee,args,ats⟩:=cl;have ha:args.toList.map (ev m E')=args.toList.map (ev m E):=xdm (λx hx=>hev x (by simp only [nE];exact xen _ hx));cases callee with
   | value f=>
     simp only [fP] at h ⊢;rw [DH] at h ⊢;rw [hev f (by simp [nE]),ha];exact h
   | builtin b=>
     have hx':∀x ∈ args.toList,ev m E' x=ev m E x:=λx hx=>hev x (by simp only [nE];exact xen _ hx)
     cases b <;> first
      | exact h.elim
      | (cases hx;done)
      | (have key:∀(l1:List TypeId) (l2:List Operand),(∀x ∈ l2,ev m E' x=ev m E x)->(match l1,l2 with | [t,u],[s,x]=>uE P q m t u (ev m E s) (ev m E x) C | _,_=>False)->(match l1,l2 with | [t,u],[s,x]=>uE P q m t u (ev m E' s) (ev m E' x) C | _,_=>False):=by
          intro l1 l2 hl h
          split at h
          ·show uE _ _ _ _ _ _ _ _;rw [hl _ (by simp),hl _ (by simp)];exact h
          ·exact h.elim
         exact key ats.toList args.toList hx' h)
      | (have key:∀(o1:Option TypeId) (l2:List Operand),(∀x ∈ l2,ev m E' x=ev m E x)->(match o1,l2 with | some T,[x]=>FF P m T (ev m E x) C | _,_=>False)->(match o1,l2 with | some T,[x]=>FF P m T (ev m E' x) C | _,_=>False):=by
          intro l1 l2 hl h
          split at h
          ·show FF _ _ _ _ _;rw [hl _ (by simp)];exact h
          ·exact h.elim
         exact key ats[0]? args.toList hx' h)
   | _=>exact h.elim
 | store T a x=>simp only [fP] at h ⊢;rw [hev a (by simp [nE]),hev x (by simp [nE])];exact h
 | alloc T=>exact h
 | box T x=>simp only [fP] at h ⊢;rw [hev x (by simp [nE])];exact h
 | makeSlice T l k=>simp only [fP] at h ⊢;rw [hev l (by simp [nE]),hev k (by simp [nE])];exact h
 | _=>cases hx
end
section
variable {P:Program} {full:List Oper} {π:Pa} {k0 N:Nat} {tbl:List Nat} {E0:fC} {K:Nat->fC->M->Prop}
structure Kc (P:Program) (full:List Oper) (tbl:List Nat) (π:Pa) (k0:Nat) (K:Nat->fC->M->Prop) (E0:fC) (D:Nat->Bool) (is fl:List Nat) (E:fC) (m:M) (Er:fC):Prop where
 px:PX P full tbl π k0 K is fl E m
 hd:∀i o,is.head? = some i->full[i]? = some o->isX o.op=true
 un:∀i ∈ is,D i=false
 dn:∀i,i<full.length->i ∉ is->D i=false->i ∈ fl/\JV P full π k0 E m i
 slot:∀i o t,full[i]? = some o->o.dst=some t->D i=true->Er t=E t
 out:∀t,(∀i o,full[i]? = some o->o.dst=some t->D i=false)->Er t=E0 t
 base:∀t,(∀i o,full[i]? = some o->o.dst=some t->i ∈ is)->E t=E0 t
 ordd:pw (He full tbl) is=true
 fi:∀j ∈ fl,∀i ∈ is,wI tbl i j=false
variable {D:Nat->Bool} {is fl:List Nat} {E Er:fC} {m:M}
theorem Hw (hc:∀i,i<full.length->∀j,j<full.length->xOk full tbl i j=true) {i j:Nat} {x y:Oper} (hx:full[i]? = some x) (hy:full[j]? = some y) {d:Nat} (hd:x.dst=some d):(i ≠ j->y.dst ≠ some d)/\(d ∈ sX full y->wI tbl i j=true):=by
 have:=hc i (uD.1 hx).1 j (uD.1 hy).1;unfold xOk at this;rw [hx,hy] at this;simp only [hd,BO,Kq,beq_iff_eq,bne_iff_ne,NU] at this;refine ⟨λhne=>this.1.resolve_left hne,λhm=>this.2.resolve_left λh=>?_⟩;have hm':(sX full y).contains d=true:=xed.2 hm;rw [h] at hm';cases hm'
theorem Nk {α:Type} {r:α->α->Bool} {a:α} {l:List α} (h:pw r (a::l)=true):(∀y ∈ l,r a y=true)/\pw r l=true:=by
 simp only [pw,BO,EG] at h;exact h
theorem Kc.down (hc:∀i,i<full.length->∀j,j<full.length->xOk full tbl i j=true) (hni:∀i,i<full.length->wI tbl i i=false):∀ {is fl:List Nat} {E:fC} {m:M} {Er:fC},PX P full tbl π k0 K is fl E m->(∀i ∈ is,D i=false)->(∀i,i<full.length->i ∉ is->D i=false->i ∈ fl/\JV P full π k0 E m i) ->
  (∀i o t,full[i]? = some o->o.dst=some t->D i=true->Er t=E t)->(∀t,(∀i o,full[i]? = some o->o.dst=some t->D i=false)->Er t=E0 t)->(∀t,(∀i o,full[i]? = some o->o.dst=some t->i ∈ is)->E t=E0 t)->pw (He full tbl) is=true->(∀j ∈ fl,∀i ∈ is,wI tbl i j=false) ->
  ∃is' fl' E',Kc P full tbl π k0 K E0 D is' fl' E' m Er:=by
 intro is
 induction is with
 | nil=>intro fl E m Er h1 h2 h3 h4 h5 h6 h7 h8;exact ⟨[],fl,E,h1,λi o h=>(nomatch h),h2,h3,h4,h5,h6,h7,h8⟩
 | cons i is ih=>
   intro fl E m Er h1 h2 h3 h4 h5 h6 h7 h8;cases ho:full[i]? with
   | none=>simp only [PX,ho] at h1
   | some o=>
     cases hx:isX o.op with
     | true=>exact ⟨i::is,fl,E,h1,fun j o' hj ho'=>by
        have:i=j:=by simpa using hj
        subst this;rw [ho] at ho';injection ho' with ho';subst ho';exact hx,h2,h3,h4,h5,h6,h7,h8⟩
     | false=>
       have hil:i<full.length:=(uD.1 ho).1;simp only [PX,ho,hx,BN,if_false] at h1;obtain ⟨v,hax,hpx⟩:=h1;obtain ⟨p1,p2⟩:=Nk h7;cases hd:o.dst with
       | none=>
         have:=hc i hil i hil;unfold xOk at this;rw [ho] at this;simp [hd,hx] at this
       | some d=>
         rw [hd] at hpx;have hne:∀j y,full[j]? = some y->j ≠ i->y.dst ≠ some d:=λj y hy hji=>(Hw hc ho hy hd).1 (λe=>hji e.symm);have hat:∀t,t ≠ d->jW (some d) v E t=E t:=λt ht=>pE (by intro e;injection e with e;exact ht e.symm)
         have hself:∀t ∈ sX full o,t ≠ d:=λt ht e=>by
          subst e;have:=(Hw hc ho ho hd).2 ht;rw [hni i hil] at this;cases this
         refine ih hpx (λj hj=>h2 j (by simp [hj])) (λj hj hjn hDj=>?_) (λj y t hy ht hDj=>?_) h5 (λt ht=>?_) p2 (λj hj y hy=>?_)
         ·by_cases e:j=i
          ·subst e;refine ⟨by simp,?_⟩;unfold JV xR;rw [ho];simp only [hd];have:jW (some d) v E d=v:=by show (if d=d then v else E d)=v;rw [if_pos rfl]
           rw [this];exact Ad hax (xI λt ht=>hat t (hself t ht))
          ·obtain ⟨k1,k2⟩:=h3 j hj (by simp [e,hjn]) hDj;refine ⟨by simp [k1],?_⟩;unfold JV xR at k2 ⊢;cases hoj:full[j]? with
           | none=>rw [hoj] at k2;exact k2
           | some y=>
             rw [hoj] at k2;simp only at k2 ⊢;cases hdj:y.dst with
             | none=>rw [hdj] at k2;exact k2
             | some dj=>
               rw [hdj] at k2;simp only at k2 ⊢;have hdd:dj ≠ d:=λe2=>hne j y hoj e (by rw [hdj,e2]);rw [hat dj hdd];refine Ad k2 (xI (full:=full) (o:=y) (m:=m) λt ht=>?_);refine hat t λe2=>?_;subst e2;have hb:=(Hw hc ho hoj hd).2 ht
               -- j isn't begun ahead of i
               rw [h8 j k1 i (by simp)] at hb;cases hb
         ·rw [hat t (λe=>by subst e;exact hne j y hy (λe2=>by subst e2;rw [h2 j (by simp)] at hDj;cases hDj) ht)];exact h4 j y t hy ht hDj
         ·have hti:t ≠ d:=λe=>by
           subst e;have:=ht i o ho hd;have h9:=p1 i this;unfold He at h9;simp at h9
          rw [hat t hti];exact h6 t λj y hy hj=>by simp [ht j y hy hj]
         ·rcases BP.1 hj with rfl | hj
          ·have h9:=p1 y hy;unfold He at h9;simp only [BO,NU] at h9;exact h9.1.2
          ·exact h8 j hj y (by simp [hy])
theorem Kc.step (hc:∀i,i<full.length->∀j,j<full.length->xOk full tbl i j=true) (hni:∀i,i<full.length->wI tbl i i=false) (h:Kc P full tbl π k0 K E0 D is fl E m Er) {i:Nat} {o:Oper} (ho:full[i]? = some o) (hu:D i=false) (hbef:∀j,wI tbl j i=true->D j=true) :
  ∃C:V->M->Prop,fP P o ((k0+i)::π) Er m C/\∀r m1,C r m1->∃is' fl' E',Kc P full tbl π k0 K E0 (zW D i) is' fl' E' m1 (jW o.dst r Er):=by
 have hil:i<full.length:=(uD.1 ho).1
 -- the operation's variables are as they are told
 have hag:∀t ∈ sX full o,Er t=E t:=by
  intro t htl
  by_cases hw:∃(j:Nat) (x:Oper),full[j]? = some x/\x.dst=some t
  ·obtain ⟨j,x,hx,hd⟩:=hw;exact h.slot j x t hx hd (hbef j ((Hw hc hx ho hd).2 htl))
  ·rw [h.out t λj x hx hd=>absurd ⟨j,x,hx,hd⟩ hw];exact (h.base t λj x hx hd=>absurd ⟨j,x,hx,hd⟩ hw).symm
 have hev:=xI (m:=m) (E:=E) (E':=Er) hag
 by_cases hin:i ∈ is
 ·-- the next effect
  cases hisc:is with
  | nil=>rw [hisc] at hin;cases hin
  | cons k bO=>
    obtain ⟨p1,p2⟩:=Nk (hisc ▸ h.ordd)
    have hki:k=i:=by
     rw [hisc] at hin
     rcases BP.1 hin with e | e
     ·exact e.symm
     ·exfalso
      have h9:=p1 i e;unfold He at h9;cases hok:full[k]? with
      | none=>
        have:=h.px;rw [hisc] at this;simp only [PX,hok] at this
      | some ok=>
        have hxk:=h.hd k ok (by rw [hisc];rfl) hok;rw [hok] at h9;simp only [hxk,lC,Bool.false_or,BO] at h9;have:=hbef k h9.1.1;rw [h.un k (by rw [hisc];simp)] at this;cases this
    subst hki;have hx:=h.hd k o (by rw [hisc];rfl) ho;have hpx:=h.px;rw [hisc] at hpx;simp only [PX,ho,hx,if_true] at hpx;refine ⟨_,Jp hx hpx hev,?_⟩;rintro r m1 ⟨hfl,hpx⟩;have hne:∀d,o.dst=some d->∀j y,full[j]? = some y->j ≠ k->y.dst ≠ some d:=λd hd j y hy hji=>(Hw hc ho hy hd).1 (λe=>hji e.symm)
    have hkr:k ∉ bO:=λe=>by
     have h9:=p1 k e;unfold He at h9;simp at h9
    refine Kc.down hc hni hpx (λj hj=>?_) (λj hj hjn hDj=>?_) (λj y t hy ht hDj=>?_) (λt ht=>?_) (λt ht=>?_) p2 (λj hj y hy=>?_)
    ·rw [jX (by rintro rfl;exact hkr hj)];exact h.un j (by rw [hisc];simp [hj])
    ·have hjk:j ≠ k:=by rintro rfl;rw [pA] at hDj;cases hDj
     rw [jX hjk] at hDj;obtain ⟨k1,k2⟩:=h.dn j hj (by rw [hisc];simp [hjk,hjn]) hDj
     have hnb:wI tbl j k=false:=by
      cases hb:wI tbl j k with
      | false=>rfl
      | true=>rw [hbef j hb] at hDj;cases hDj
     have hmem:j ∈ fl.filter (λj=>!(wI tbl j k)):=Gx.2 ⟨k1,by simp [hnb]⟩;refine ⟨hmem,?_⟩;have k3:=hfl j hmem;unfold JV xR at k3 ⊢;cases hoj:full[j]? with
     | none=>rw [hoj] at k3;exact k3
     | some y=>
       rw [hoj] at k3;simp only at k3 ⊢;cases hdj:y.dst with
       | none=>rw [hdj] at k3;exact k3
       | some dj=>
         rw [hdj] at k3;simp only at k3 ⊢;cases hdo:o.dst with
         | none=>exact k3
         | some d=>
           have hat:∀t,t ≠ d->jW (some d) r E t=E t:=λt ht=>pE (by intro e;injection e with e;exact ht e.symm);rw [hat dj (λe2=>hne d hdo j y hoj hjk (by rw [hdj,e2]))];refine Ad k3 (xI (full:=full) (o:=y) (m:=m1) λt ht=>hat t λe2=>?_);subst e2;have hb:=(Hw hc ho hoj hdo).2 ht;rw [h.fi j k1 k (by rw [hisc];simp)] at hb;cases hb
    ·by_cases e:j=k
     ·subst e;rw [ho] at hy;injection hy with hy;subst hy
      rw [ht];show (if t=t then r else _)=if t=t then r else _;rw [if_pos rfl,if_pos rfl]
     ·rw [jX e] at hDj;have h1:o.dst ≠ some t:=λhd=>hne t hd j y hy e ht;rw [pE h1,pE h1];exact h.slot j y t hy ht hDj
    ·have h1:o.dst ≠ some t:=λhd=>by have:=ht k o ho hd;rw [pA] at this;cases this
     rw [pE h1];refine h.out t λj y hy hj=>?_;have:=ht j y hy hj
     by_cases e:j=k
     ·subst e;exact hu
     ·rwa [jX e] at this
    ·have h1:o.dst ≠ some t:=λhd=>hkr (ht k o ho hd);rw [pE h1];exact h.base t λj y hy hj=>by rw [hisc];simp [ht j y hy hj]
    ·exact h.fi j (Gx.1 hj).1 y (by rw [hisc];simp [hy])
 ·obtain ⟨k1,k2⟩:=h.dn i hil hin hu;unfold JV xR at k2;rw [ho] at k2;simp only at k2;cases hd0:o.dst with
  | none=>rw [hd0] at k2;exact k2.elim
  | some d=>
    rw [hd0] at k2;simp only at k2;refine ⟨_,JU (Ad k2 hev),?_⟩;rintro r m1 ⟨rfl,rfl⟩;have hne:∀j y,full[j]? = some y->j ≠ i->y.dst ≠ some d:=λj y hy hji=>(Hw hc ho hy hd0).1 (λe=>hji e.symm);refine ⟨is,fl,E,h.px,h.hd,λj hj=>?_,λj hj hjn hDj=>?_,λj y t hy ht hDj=>?_,λt ht=>?_,h.base,h.ordd,h.fi⟩
    ·rw [jX (by rintro rfl;exact hin hj)];exact h.un j hj
    ·have hji:j ≠ i:=by rintro rfl;rw [pA] at hDj;cases hDj
     rw [jX hji] at hDj;exact h.dn j hj hjn hDj
    ·by_cases e:j=i
     ·subst e;rw [ho] at hy;injection hy with hy;subst hy
      rw [hd0] at ht;injection ht with ht;subst ht
      show (if d=d then E d else Er d)=E d;rw [if_pos rfl]
     ·rw [jX e] at hDj;rw [pE (by intro e2;injection e2 with e2;subst e2;exact hne j y hy e ht)];exact h.slot j y t hy ht hDj
    ·have h1:(some d:Option Nat) ≠ some t:=λe=>by injection e with e;subst e;have:=ht i o ho hd0;rw [pA] at this;cases this
     rw [pE h1];refine h.out t λj y hy hj=>?_;have:=ht j y hy hj
     by_cases e:j=i
     ·subst e;exact hu
     ·rwa [jX e] at this
theorem px_run {Q:Exit->Act->World->Prop} {c0:Conc} {mm:M} {w0:World} {a0:Act} {W:Nat->Bool} {E00:fC} (hQ:∀a' w',wK π N W E00 c0 mm w0 a0 K a' w'->Q .normal a' w') (hfit:DO N full=true) (hW:∀o ∈ full,∀d,o.dst=some d->W d=true)
  (htc:Da full tbl=true) (hc:∀i,i<full.length->∀j,j<full.length->xOk full tbl i j=true) (hg:∀o ∈ full,o.guard=none) (hni:∀i,i<full.length->wI tbl i i=false) :
  ∀(fuel:Nat) (listed:Array Bool) (is fl:List Nat) (E Er:fC) (c:Conc) (m:M) (w:World) (a:Act),listed.size=full.length->(List.range full.length).countP (λi=>!(listed.getD i false))<=fuel->(∀i j,listed.getD i false=true->wI tbl j i=true->listed.getD j false=true) ->
   Kc P full tbl π k0 K E0 (λi=>listed.getD i false) is fl E m Er->iK c m w->nG c Er a N->(∀i,i<full.length->listed.getD i false=false->sD c ((k0+i)::π))->rB c π (k0+full.length)->Abs.oM π c0 mm w0 c m w->a.defers=a0.defers->(∀t,W t=false->Er t=E00 t)->wpAny P .any full.toArray Q fuel listed a w:=by
 have hdone:∀(listed:Array Bool) (is fl:List Nat) (E Er:fC) (c:Conc) (m:M) (w:World) (a:Act),(∀i,i<full.length->listed.getD i false=true)->Kc P full tbl π k0 K E0 (λi=>listed.getD i false) is fl E m Er->iK c m w->nG c Er a N->rB c π (k0+full.length)->Abs.oM π c0 mm w0 c m w->a.defers=a0.defers->(∀t,W t=false->Er t=E00 t)->Q .normal a w:=by
  intro listed is fl E Er c m w a hall hI hR hE hF hX hd hU
  have his:is=[]:=by
   cases his:is with
   | nil=>rfl
   | cons i bO=>
     exfalso
     have hun:=hI.un i (by rw [his];simp);have hpx:=hI.px;rw [his] at hpx;cases hoi:full[i]? with
     | none=>simp only [PX,hoi] at hpx
     | some o=>have:=hall i (uD.1 hoi).1;have hun2:listed.getD i false=false:=hun;rw [hun2] at this;cases this
  subst his
  have hEr:Er=E:=by
   funext t
   by_cases hw:∃(j:Nat) (x:Oper),full[j]? = some x/\x.dst=some t
   ·obtain ⟨j,x,hx,hd2⟩:=hw;exact hI.slot j x t hx hd2 (hall j (uD.1 hx).1)
   ·have h1:=hI.out t λ(j:Nat) (x:Oper) hx hd=>absurd (Exists.intro j (Exists.intro x ⟨hx,hd⟩)) hw;have h2:=hI.base t λ(j:Nat) (x:Oper) hx hd=>absurd (Exists.intro j (Exists.intro x ⟨hx,hd⟩)) hw;rw [h1,h2]
  subst hEr;exact hQ a w ⟨c,_,Er,m,hI.px,hR,hX,hE,hF,hd,hU⟩
 have hready:∀listed:Array Bool,listed.size=full.length->Region.ready .any full.toArray listed=[]->∀i,i<full.length->listed.getD i false=true:=by
  intro listed hsz hr i
  induction i using Nat.strongRecOn with
  | ind i ih=>
    intro hi;cases hx:listed.getD i false with
    | true=>rfl
    | false=>
      exfalso
      have hmem:i ∈ Region.ready .any full.toArray listed:=by
       refine tD.2 ⟨hi,?_,_,yP hi,λe he hbd=>?_⟩
       ·rw [EE] at hx ⊢;rw [xea (by omega)] at hx ⊢;exact hx
       ·have hlt:=JN htc (yP hi) he hbd;exact ih e.on hlt (by omega)
      rw [hr] at hmem;cases hmem
 intro fuel
 induction fuel with
 | zero=>
   intro listed is fl E Er c m w a hsz hcn hcl hI hR hE hF hFK hX hd hU
   have hla:∀i,i<full.length->listed.getD i false=true:=by
    intro i hi;have:=List.countP_eq_zero.1 (Nat.le_zero.1 hcn) i (PY.2 hi);simpa using this
   refine ⟨?_,hdone listed is fl E Er c m w a hla hI hR hE hFK hX hd hU⟩;apply List.eq_nil_iff_forall_not_mem.2;intro i hi;obtain ⟨h1,h2,_⟩:=tD.1 hi;have:=hla i h1;rw [EE] at h2 this;rw [xea (by omega)] at h2 this;simp only [xdy] at h2 this;rw [h2] at this;cases this
 | succ fuel ih=>
   intro listed is fl E Er c m w a hsz hcn hcl hI hR hE hF hFK hX hd hU;refine ⟨λhr=>hdone listed is fl E Er c m w a (hready listed hsz hr) hI hR hE hFK hX hd hU,λi hi=>?_⟩;obtain ⟨h1,h2,o,ho,h3⟩:=tD.1 hi;have hmem:o ∈ full:=Fw ho
   have hu:listed.getD i false=false:=by
    rw [EE] at h2 ⊢;rw [xea (by omega)] at h2 ⊢;exact h2
   have hbef:∀j,wI tbl j i=true->listed.getD j false=true:=by
    intro j hbj;obtain ⟨ed,hed,hbd,hj⟩:=Hh htc ho hbj;have:=h3 ed hed hbd
    rcases hj with hj | hj
    ·rw [←hj];exact this
    ·exact hcl _ _ this hj
   obtain ⟨C,hs,hn⟩:=hI.step hc hni ho hu hbef
   have hfo:∀d,o.dst=some d->d<N:=by
    intro d h;have:=EG.1 (show full.all _=true from hfit) o hmem;rw [h] at this;simpa using this
   unfold wpOp;rw [xdk,ho];simp only;rw [if_pos (by simp [Region.wanted,hg o hmem])];refine .inl (Oper.wp_mono ?_ (yQ (N:=N) hs hR hE (hF i h1 hu) hfo Q));rintro a' w' ⟨c',v,m',hC,g1,g2,g3,g4⟩
   have hD:zW (λi=>listed.getD i false) i=λj=>(listed.setIfInBounds i true).getD j false:=by
    funext j
    by_cases hj:j=i
    ·subst hj;rw [pA,EE,xfd (by omega)];rfl
    ·rw [jX hj,EE,EE,xfa (λe'=>hj e'.symm)]
   have hDj:∀j,(listed.setIfInBounds i true).getD j false=zW (λi=>listed.getD i false) i j:=λj=>(congrFun hD j).symm;obtain ⟨is',fl',E',hI'⟩:=hn v m' hC;rw [hD] at hI';refine ih _ is' fl' E' _ c' m' w' a' (by simpa using hsz) ?_ (λx y hx hxy=>?_) hI' g1 g3 (λj hj hlj=>?_) (λj hj=>?_) (hX.trans g2.up) (g4.trans hd) (λt ht=>?_)
   ·have hlt:=Ex (D:=λi=>listed.getD i false) (PY.2 h1) hu
    have heq:(λj=>!((listed.setIfInBounds i true).getD j false))=λj=>!(zW (λi=>listed.getD i false) i j):=by
     funext j;rw [hDj]
    rw [heq];omega
   ·rw [hDj] at hx ⊢
    by_cases e:x=i
    ·subst e;have:=hbef y hxy
     by_cases e2:y=x
     ·subst e2;rw [pA]
     ·rw [jX e2];exact this
    ·rw [jX e] at hx;have:=hcl x y hx hxy
     by_cases e2:y=i
     ·subst e2;rw [pA]
     ·rw [jX e2];exact this
   ·rw [hDj] at hlj;have hne:j ≠ i:=by rintro rfl;rw [pA] at hlj;cases hlj
    rw [jX hne] at hlj;exact λid gS=>g2.fresh id (uV gS (by omega)) (hF j hj hlj id gS)
   ·exact λid gS=>g2.fresh id (uV gS (by omega)) (hFK j hj id gS)
   ·cases hdo:o.dst with
    | none=>exact hU t ht
    | some d=>
      have:=hW o hmem d hdo;show (if t=d then v else Er t)=E00 t;rw [if_neg (by rintro rfl;rw [ht] at this;cases this)];exact hU t ht
end
theorem SW_px {P:Program} {N:Nat} {π:Pa} {k:Nat} {E:fC} {m:M} {Q:Exit->Nat->fC->M->Prop} {id:Nat} {ops:List Oper} (tbl:List Nat) (ord:List Nat) (hm:P.follows .mixedOrders=true) (hck:pxChk ops tbl ord=true)
  (h:∀K:Nat->fC->M->Prop,(∀k E m,Q .normal k E m->K k E m)->PX P ops tbl π k K ord [] E m):SW P N π (.region id ops.toArray true) k E m Q:=by
 intro hf c a w h1 h2 h3;have h:=h (Q .normal) λ_ _ _ x=>x;simp only [pxChk,BO,EG,PY,uH,xed,Option.isNone_iff_eq_none,NU] at hck;obtain ⟨⟨⟨⟨⟨⟨c1,c2⟩,c3⟩,c4⟩,c5⟩,c6⟩,c7⟩:=hck;refine wp_region_any hm ?_;have hw:({ w with drawn:=w.drawn+1 }:World)=w.drewN 1:=rfl;rw [hw]
 have hzero:∀i,(Array.replicate ops.toArray.size false).getD i false=false:=by
  intro i;rw [EE,xep]
  split <;> rfl
 obtain ⟨is,fl,E1,hI⟩:=Kc.down (D:=λi=>(Array.replicate ops.toArray.size false).getD i false) (E0:=E) (Er:=E) c3 c7 h (λi _=>hzero i) (λi hi hin _=>absurd (c4 i hi) hin) (λi o t _ _ hi=>by have hi2:(Array.replicate ops.toArray.size false).getD i false=true:=hi;exact absurd ((hzero i).symm.trans hi2) (by decide)) (λ_ _=>rfl) (λ_ _=>rfl) c6 (λ_ h=>nomatch h);refine px_run (tbl:=tbl) (E0:=E) (K:=Q .normal) (Q:=λe a' w'=>wK π N (wr (.region id ops.toArray true)) E c m w a (Q e) a' w') (W:=wr (.region id ops.toArray true)) (E00:=E) (c0:=c) (mm:=m) (w0:=w) (a0:=a) (λa' w' hp=>hp) (by simpa [CW] using hf) (λo ho' d hd=>?_) c1 c3 c2 c7 _ _ is fl E1 E c m (w.drewN 1) a (by simp) ?_ (λi j hi _=>by rw [hzero] at hi;cases hi) hI (h1.drewN 1) h2 (λi _ _=>h3 _ (by omega)) (λj hj=>h3 j (by omega)) (oM.drewN π c m w 1) rfl (λ_ _=>rfl)
 ·simp only [wr,xeq,beq_iff_eq];exact ⟨o,ho',hd⟩
 ·have:=List.countP_le_length (p:=λi=>!((Array.replicate ops.toArray.size false).getD i false)) (l:=List.range ops.length);simpa using this
def xon (P:Program) (full:List Oper) (tbl:List Nat) (π:Pa) (k0:Nat) (K:Nat->fC->M->Prop) (i:Nat) (is fl:List Nat) (E:fC) (m:M) (d:Option Nat) (v:V):Prop:=PX P full tbl π k0 K is (i::fl) (jW d v E) m
def Qi (P:Program) (full:List Oper) (tbl:List Nat) (π:Pa) (k0:Nat) (K:Nat->fC->M->Prop) (i:Nat) (is fl:List Nat) (E:fC) (d:Option Nat) (r:V) (m1:M):Prop:=(∀j ∈ fl.filter (λj=>!(wI tbl j i)),JV P full π k0 E m1 j)/\PX P full tbl π k0 K is (fl.filter (λj=>!(wI tbl j i))) (jW d r E) m1
def Gc (P:Program) (full:List Oper) (tbl:List Nat) (π:Pa) (k0:Nat) (K:Nat->fC->M->Prop) (i:Nat) (is fl:List Nat) (E:fC) (m:M) (o:Oper):Prop:=
 if isX o.op then fP P o ((k0+i)::π) E m (Qi P full tbl π k0 K i is fl E o.dst) else ∃v,ax P o.op ((k0+i)::π) (ev m E) m v/\xon P full tbl π k0 K i is fl E m o.dst v
section
variable {P:Program} {full:List Oper} {tbl:List Nat} {π:Pa} {k0 i:Nat} {is fl:List Nat} {E:fC} {m m1:M} {K:Nat->fC->M->Prop} {d:Option Nat} {ty:TypeId} {pos:String} {after:Array Edge} {v:V}
@[go_sem] theorem xon_at:xon P full tbl π k0 K i is fl E m d v=PX P full tbl π k0 K is (i::fl) (jW d v E) m:=rI rfl
@[go_sem] theorem xonM_at:Qi P full tbl π k0 K i is fl E d v m1=(Fc P full π k0 E m1 (fl.filter (λj=>!(wI tbl j i)))/\PX P full tbl π k0 K is (fl.filter (λj=>!(wI tbl j i))) (jW d v E) m1):=by
 unfold Qi JV;rw [propext IQ]
@[go_sem] theorem px_nil:PX P full tbl π k0 K [] fl E m=K (k0+full.length) E m:=rI rfl
@[go_sem] theorem px_cons:PX P full tbl π k0 K (i::is) fl E m=En full i (Gc P full tbl π k0 K i is fl E m):=by
 simp only [PX,En];cases full[i]? with
 | none=>rfl
 | some o=>rfl
@[go_sem] theorem xp_load {T:TypeId} {x:Operand}:Gc P full tbl π k0 K i is fl E m ⟨d,.load T x,ty,pos,after,none⟩=dt (λv=>pP P m T (ev m E x) (λr=>r=v)) (xon P full tbl π k0 K i is fl E m d):=rI rfl
@[go_sem] theorem xp_move {x:Operand}:Gc P full tbl π k0 K i is fl E m ⟨d,.move x,ty,pos,after,none⟩=xon P full tbl π k0 K i is fl E m d (ev m E x):=ND
@[go_sem] theorem xp_fieldAddr {T g:Nat} {x:Operand}:Gc P full tbl π k0 K i is fl E m ⟨d,.fieldAddr T x g,ty,pos,after,none⟩=dt (λv=>tC P T g (ev m E x) (λr=>r=v)) (xon P full tbl π k0 K i is fl E m d):=rI rfl
@[go_sem] theorem xp_unOp {op:UnOp} {T:TypeId} {x:Operand}:Gc P full tbl π k0 K i is fl E m ⟨d,.unOp op T x,ty,pos,after,none⟩=dt (λv=>sun op (ev m E x) (λr=>r=v)) (xon P full tbl π k0 K i is fl E m d):=rI rfl
@[go_sem] theorem xp_len {T:TypeId} {x:Operand}:Gc P full tbl π k0 K i is fl E m ⟨d,.call ⟨.builtin .len,#[x],#[T]⟩,ty,pos,after,none⟩=dt (λv=>Hl P T (ev m E x) (λr=>r=v)) (xon P full tbl π k0 K i is fl E m d):=rI rfl
@[go_sem] theorem xp_makeSlice {T:TypeId} {l:Nat} {kk:Operand}:Gc P full tbl π k0 K i is fl E m ⟨d,.makeSlice T (.tmp l) kk,ty,pos,after,none⟩=EM P ((k0+i)::π) m T (ev m E (.tmp l)) (ev m E kk) (Qi P full tbl π k0 K i is fl E d):=rI rfl
@[go_sem] theorem xp_call {g:Operand} {xs:Array Operand} {ts:Array TypeId}:Gc P full tbl π k0 K i is fl E m ⟨d,.call ⟨.value g,xs,ts⟩,ty,pos,after,none⟩=Kk P (ev m E g) (xs.toList.map (ev m E)) ((k0+i)::π) m (Qi P full tbl π k0 K i is fl E d):=DH
end
set_option linter.all false
def Wk (c:Conc) (v u:V):Prop:=∀c'',Le c c''->∀x,CR c'' [v] [x]->CR c'' [u] [x]
theorem Wk.mono {c c':Conc} {v u:V} (h:Wk c v u) (hl:Le c c'):Wk c' v u:=λc'' h2=>h c'' (hl.trans h2)
theorem Wk.refl (c:Conc) (v:V):Wk c v v:=λ_ _ _ h=>h
theorem Wk.trans {c:Conc} {v u t:V} (h:Wk c v u) (k:Wk c u t):Wk c v t:=λc'' hl x hx=>k c'' hl x (h c'' hl x hx)
theorem Wk.nil (c:Conc):Wk c .nilv (.list .none []):=λc'' _ x h=>by
 obtain ⟨a,rfl⟩:=h.inv_nilv;exact .list (rows:=[]) (es:=[]) (sz:=1) .nil (by simp) (by decide) (tM _) (by decide) (by simp) (λh=>by simp at h) (by simp) trivial .nil
def NJ (c:Conc):List V->List V->Prop
 | [],[]=>True
 | v::vs,u::us=>Wk c v u/\NJ c vs us
 | _,_=>False
theorem NJ.len {c:Conc}:∀ {vs us:List V},NJ c vs us->us.length=vs.length
 | [],[],_=>rfl
 | v::vs,u::us,h=>by simp [NJ.len h.2]
 | [],_::_,h=>h.elim
 | _::_,[],h=>h.elim
theorem NJ.ok {c c'':Conc} (hl:Le c c''):∀ {vs us:List V} {xs:List Value},NJ c vs us->CR c'' vs xs->CR c'' us xs
 | [],[],_,_,h=>h
 | v::vs,u::us,xs,h,hx=>by
   obtain ⟨y,ys,rfl,h1,h2⟩:=hx.uncons;exact (h.1 c'' hl y h1).cons (NJ.ok hl h.2 h2)
 | [],_::_,_,h,_=>h.elim
 | _::_,[],_,h,_=>h.elim
theorem NJ.app {c:Conc}:∀ {vs us vs' us':List V},NJ c vs us->NJ c vs' us'->NJ c (vs++vs') (us++us')
 | [],[],_,_,_,k=>k
 | v::vs,u::us,_,_,h,k=>⟨h.1,NJ.app h.2 k⟩
 | [],_::_,_,_,h,_=>h.elim
 | _::_,[],_,_,h,_=>h.elim
def WkR (c:Conc):List (List V)->List (List V)->Prop
 | [],[]=>True
 | v::vs,u::us=>NJ c v u/\WkR c vs us
 | _,_=>False
theorem WkR.flat {c:Conc}:∀ {vs us:List (List V)},WkR c vs us->NJ c vs.flatten us.flatten/\us.length=vs.length/\∀sz,(∀r ∈ vs,r.length=sz)->∀r ∈ us,r.length=sz
 | [],[],_=>⟨trivial,rfl,λ_ _ _ h=>nomatch h⟩
 | v::vs,u::us,h=>by
   obtain ⟨h1,h2,h3⟩:=WkR.flat h.2;refine ⟨h.1.app h1,by simp [h2],λsz hs r hr=>?_⟩
   rcases BP.1 hr with rfl | hr
   ·rw [h.1.len];exact hs v (by simp)
   ·exact h3 sz (λr hr=>hs r (by simp [hr])) r hr
 | [],_::_,h=>h.elim
 | _::_,[],h=>h.elim
theorem Wk.rows {c:Conc} {vs us:List (List V)} (h:WkR c vs us):Wk c (.list .none vs) (.list .none us):=λc'' hl x hx=>by
 obtain ⟨h1,h2,h3⟩:=h.flat;obtain ⟨a,cap,es,sz,rfl,k1,k2,kz,k3,k4,k5,k6,kc,k7⟩:=hx.inv_list;rw [←h2] at k3 k5 ⊢;exact .list (h1.ok hl k1) (h3 sz k2) kz k3 k4 k5 k6 kc trivial .nil
section
variable {c:Conc} {m:M} {w:World}
theorem iK.freeze1 (h:iK c m w) {id:Pa} {vs:List V} (hv:m.hp id=some vs):∃c',iK c' (m.drop (.st (.priv id))) w/\(∀q,oM q c m w c' (m.drop (.st (.priv id))) w)/\∀sz rows,vs.take (rows.length*sz)=rows.flatten->(∀r ∈ rows,r.length=sz)->Wk c' (.vec id sz rows.length) (.list .none rows):=by
 obtain ⟨b,n,hk,cs,t,hB,hl,hcr,hone⟩:=h.hpr id vs hv;obtain ⟨d1,d2,d3⟩:=h.hdrop id;have hO:Gv c.G b:=h.priv_out hv hk
 have hno:¬ jH c (m.drop (.st (.priv id))) b:=by
  rintro (⟨i,hi,hr⟩ | ⟨s,cap,sz,len,hl',hk'⟩)
  ·exact h.priv_id hv hk (id':=i) hi hr
  ·obtain ⟨k1,k2⟩:=d3 s hl';exact k2 (h.priv_arr hv hk k1 hk')
 have hle:Le c (c.laid b cs.toList):=Le.laid hO;refine ⟨c.laid b cs.toList,d1.laid hO hno (λi u hu=>?_),λq=>?_,λsz rows hfl hsz c'' hl2 x hx=>?_⟩
 ·rw [hB.cell];simpa using hu
 ·have hX:=d2 q;refine ⟨hle,rfl,rfl,rfl,tM _,λ_ _ _ _=>rfl,λb' hb' ho' o=>?_,λb' hb' ho'=>?_,λi hi hf=>hf,λi hi hb'=>?_,λ_ _ hl'=>hl'⟩
  ·show HM c.G b cs.toList b' o=c.G b' o;unfold HM;rw [if_neg (λe=>ho' (by rw [e];exact iK.priv_own hv hk))]
  ·exact hX.own b' hb' ho'
  ·have:=hX.keep i hi hb';exact ⟨this.blk,this.anon,this.cell,this.ver,this.tok⟩
 ·obtain ⟨b2,n2,cap,hk2,hn2,h0,h1,h2,rfl⟩:=hx.inv_vec;have hk3:=(hle.trans hl2).κ _ _ hk;rw [hk3] at hk2
  injection hk2 with hk2
  injection hk2 with e1 e2
  subst e1 e2
  have hlen:rows.length*sz<=vs.length:=by
   have:=congrArg List.length hfl;rw [In,AB hsz] at this;omega
  have hcr2:=hcr.take (rows.length*sz);rw [hfl,List.take_take,xef hlen] at hcr2;refine .list (sz:=sz) (hcr2.mono (hle.trans hl2)) hsz h0 h1 h2 (λ_=>⟨b,0,rfl⟩) (λ_=>⟨b,0,rfl,λi u hu=>?_⟩) (λu hu=>hone u (LE hu)) trivial .nil;refine hl2.G _ _ _ ?_;rw [xee] at hu
  split at hu
  ·show HM c.G b cs.toList b (0+i)=some u;rw [HL,LF];exact hu
  ·cases hu
def Eo (h:Hp) (L:List Pa):Hp:=λi=>if i ∈ L then none else h i
theorem iK.freezeL:∀(L:List Pa) {c:Conc} {m:M} {w:World},iK c m w->(∀id ∈ L,m.hp id ≠ none)->∃c',iK c' (m.seth (Eo m.hp L)) w/\(∀q,oM q c m w c' (m.seth (Eo m.hp L)) w) ∧
  ∀id ∈ L,∀vs,m.hp id=some vs->∀sz rows,vs.take (rows.length*sz)=rows.flatten->(∀r ∈ rows,r.length=sz)->Wk c' (.vec id sz rows.length) (.list .none rows):=by
 intro L
 induction L with
 | nil=>
   intro c m w h _;have e:m.seth (Eo m.hp [])=m:=M.ext_hp rfl rfl rfl rfl (funext λi=>by show (if i ∈ [] then none else m.hp i)=m.hp i;simp);rw [e];exact ⟨c,h,λq=>.refl q c m w,λ_ h=>nomatch h⟩
 | cons id L ih=>
   intro c m w h hn
   by_cases hin:id ∈ L
   ·obtain ⟨c',h1,h2,h3⟩:=ih h (λi hi=>hn i (by simp [hi]))
    have e:Eo m.hp (id::L)=Eo m.hp L:=by
     funext i
     show (if i ∈ id::L then none else m.hp i)=if i ∈ L then none else m.hp i
     by_cases e1:i=id
     ·subst e1;rw [if_pos (by simp),if_pos hin]
     ·simp [e1]
    rw [e];refine ⟨c',h1,h2,λi hi=>?_⟩
    rcases BP.1 hi with rfl | hi
    ·exact h3 i hin
    ·exact h3 i hi
   ·obtain ⟨vs,hv⟩:∃vs,m.hp id=some vs:=by
     cases hx:m.hp id with
     | none=>exact absurd hx (hn id (by simp))
     | some vs=>exact ⟨vs,rfl⟩
    obtain ⟨c1,g1,g2,g3⟩:=h.freeze1 hv;have hd:∀i,(m.drop (.st (.priv id))).hp i=if i=id then none else m.hp i:=λi=>rfl;obtain ⟨c',h1,h2,h3⟩:=ih g1 (λi hi=>by rw [hd,if_neg (by rintro rfl;exact hin hi)];exact hn i (by simp [hi]))
    have e:(m.drop (.st (.priv id))).seth (Eo (m.drop (.st (.priv id))).hp L)=m.seth (Eo m.hp (id::L)):=by
     refine M.ext_hp rfl rfl rfl rfl (funext λi=>?_);show (if i ∈ L then none else (m.drop (.st (.priv id))).hp i)=if i ∈ id::L then none else m.hp i;rw [hd]
     by_cases e1:i=id
     ·subst e1;rw [if_neg hin,if_pos rfl,if_pos (by simp)]
     ·rw [if_neg e1];simp [e1]
    rw [e] at h1 h2;refine ⟨c',h1,λq=>(g2 q).trans (h2 q),λi hi vs' hv' sz rows k1 k2=>?_⟩
    by_cases e1:i=id
    ·subst e1;rw [hv] at hv';injection hv' with hv';subst hv'
     exact (g3 sz rows k1 k2).mono (h2 []).le
    ·have hi':i ∈ L:=(BP.1 hi).resolve_left e1;exact h3 i hi' vs' (by rw [hd,if_neg e1];exact hv') sz rows k1 k2
end
theorem fQ.wk {h:Hp} {v:V} {sz:Nat} {rows:List (List V)} (hv:fQ h v sz rows) {c:Conc} (hc:∀id ∈ mM v,∀vs,h id=some vs->∀sz rows,vs.take (rows.length*sz)=rows.flatten->(∀r ∈ rows,r.length=sz)->Wk c (.vec id sz rows.length) (.list .none rows)):Wk c v (.list .none rows):=by
 obtain ⟨h1,⟨rfl,rfl⟩ | ⟨id,vs,rfl,e,h2⟩⟩:=hv
 ·exact .nil c
 ·exact hc id (by simp [mM]) vs e sz rows h2 h1
theorem Fu.wk {b:V} {l:List aG} (h:Fu b l) (c:Conc):Wk c b (.list .none (l.map aG.C)):=by
 rcases h with ⟨rfl,rfl⟩ | rfl
 ·exact .nil c
 ·exact .refl c _
theorem iK.freezeCk {c:Conc} {m:M} {w:World} {F fp S C:V} {x:aD} (h:iK c m w) (hk:dL F fp S C m.hp x):∃c' h',iK c' (m.seth h') w/\(∀q,oM q c m w c' (m.seth h') w)/\Wk c' F (.list .none (x.p_.aS.map aQ.C)):=by
 obtain ⟨fs,cs,hk⟩:=hk
 obtain ⟨c',h1,h2,h3⟩:=h.freezeL (mM F++(fs.map λv=>mM v.1).flatten) (λid hi=>by
  rcases BQ.1 hi with hi | hi
  ·exact hk.rF.live hi
  ·obtain ⟨l,hl,hi⟩:=List.mem_flatten.1 hi;obtain ⟨v,hv,rfl⟩:=Ge.1 hl;obtain ⟨i,hil,hvi⟩:=List.mem_iff_getElem.1 hv;refine hk.live (a:=3) (b:=i) ?_;show id ∈ mM (match fs[i]? with | some v=>v.1 | none=>.nilv);rw [yP hil,hvi];exact hi)
 refine ⟨c',_,h1,h2,?_⟩;have hF:=hk.rF.wk (c:=c') (λid hi=>h3 id (by simp [hi]));refine hF.trans (Wk.rows ?_)
 have hrow:∀(fl:List aQ) (gl:List (V × V)),gl.length=fl.length->(∀(i:Nat) f v,fl[i]? = some f->gl[i]? = some v->Wk c' v.1 (.list .none (f.bW.map bB.C))/\Fu v.2 f.eG)->WkR c' (List.zipWith (λf v=>sK f v.1 v.2) fl gl) (fl.map aQ.C):=by
  intro fl
  induction fl with
  | nil=>intro gl hl _;cases gl with | nil=>exact trivial | cons _ _=>cases hl
  | cons f fl ih=>
    intro gl hl hh;cases gl with
    | nil=>cases hl
    | cons v gl=>
      obtain ⟨k1,k2⟩:=hh 0 f v rfl rfl;refine ⟨?_,ih gl (by simpa using hl) λi g u hg hu=>hh (i+1) g u (by simpa using hg) (by simpa using hu)⟩;rw [aQ.C_eq];exact ⟨.refl _ _,.refl _ _,.refl _ _,.refl _ _,k1,k2.wk c',trivial⟩
 refine hrow _ _ hk.fl λi f v hf hv=>?_;obtain ⟨k1,k2⟩:=hk.rV i f v hf hv;refine ⟨k1.wk λid hi=>h3 id ?_,k2⟩;refine xen _ (List.mem_flatten.2 ⟨mM v.1,Ge.2 ⟨v,Fw hv,rfl⟩,hi⟩)
theorem PT {P:Program} {N:Nat} {π:Pa} {k:Nat} {E:fC} {m:M} {Q:Exit->Nat->fC->M->Prop} {code:Code} {p:Pa} {F fp S C:V} {bO:List V} {x:aD} (hb:m.blk p=some (F::bO)) (hk:dL F fp S C m.hp x)
  (h:∀h',SW P N π code k E ((m.seth h').set p (.list .none (x.p_.aS.map aQ.C)::bO)) Q):SW P N π code k E m Q:=by
 intro hf c a w h1 h2 h3;obtain ⟨c',h',g1,g2,g3⟩:=h1.freezeCk hk;have hld:∀s,F.ld s=F:=λs=>(dL.funcsR hk).ld;obtain ⟨r1,r2⟩:=g1.reCell (id:=p) (off:=0) (cs:=F::bO) (v0:=F) (u:=.list .none (x.p_.aS.map aQ.C)) hb rfl (λy hy=>g3 c' (.refl c') y (by rw [hld] at hy;exact hy)) (λ_=>rfl) (λrows e=>by injection e with e;cases e);have hX:=(g2 π).trans (r2 π);refine wp_mono (h h' hf c' a w r1 ⟨h2.size,λt=>(h2.fA t).mono hX.le⟩ (λj hj id gS=>?_)) λe a' w' hp=>?_
 ·exact ((g2 (0::id)).trans (r2 (0::id))).fresh id (λhs=>by have:=hs.length_le;simp only [gK] at this;omega) (h3 j hj id gS)
 ·exact hp.trans hX rfl (λ_ _=>rfl) (λt ht=>⟨ht,ht⟩)
theorem SC.noheap {P:Program} {f:FuncId} {args:List V} {q:Pa} {m:M} {R:V->M->Prop} (h:SC P f args q m (λv m'=>R v (m'.seth λ_=>none))):SC P f args q m R:=by
 intro c xs w h1 h2 h3
 have key:∀e w',Eg q c m w (λv m'=>R v (m'.seth λ_=>none)) e w'->Eg q c m w R e w':=by
  rintro e w' ⟨x,c',r,m',e1,hR,g2,g3,g4⟩
  obtain ⟨k1,k2⟩:=g2.sub (m':=m'.seth λ_=>none) rfl rfl (λid vs hv=>⟨vs,hv,λ_ h=>h⟩) (λs hs=>by
   cases s with
   | anon i j=>exact hs
   | cell i o v=>exact hs
   | priv i=>cases hs) (λb vs hv=>nomatch hv)
  exact ⟨x,c',r,_,e1,hR,k1,g3.trans (k2 q),g4⟩
 rcases h c xs w h1 h2 h3 with ⟨k1,k2⟩ | ⟨x,w',k1,k2⟩
 ·exact .inl ⟨k1,k2.mono λe w' hp=>key e w' hp⟩
 ·exact .inr ⟨x,w',k1,key _ _ k2⟩
