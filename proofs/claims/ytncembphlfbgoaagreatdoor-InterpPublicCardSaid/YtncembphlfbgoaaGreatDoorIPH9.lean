/- Lemmas of ours. -/
import Derived.Test.YtncembphlfbgoaaGreatDoorIPH5
import Derived.Test.YtncembphlfbgoaaGreatDoorIPVs
namespace Go.Proofs.YtncembphlfbgoaaGreatDoor.Abs
open Go.RowKit
set_option linter.unusedVariables false
section
variable {P:Program} {full:List Oper} {π:Pa} {k0 N:Nat} {tbl:List Nat} {E0:dU} {K:Nat->dU->M->Prop} {D:Nat->Bool} {is fl:List Nat} {E Er:dU} {m:M}
theorem px_runJ {Jd:(Nat->Bool)->M->dU->Prop} (hJd:∀D m Er,(∀i,i<full.length->D i=true)->Jd D m Er->K (k0+full.length) Er m) (hJs:∀(D:Nat->Bool) (m:M) (Er:dU) (i:Nat) (o:Oper),Jd D m Er->full[i]? = some o->D i=false->(∀j,qS tbl j i=true->D j=true)->∃C:V->M->Prop,dW P o ((k0+i)::π) Er m C/\∀r m1,C r m1->Jd (wX D i) m1 (gC o.dst r Er)) {Q:Exit->Act->World->Prop} {c0:Conc} {mm:M} {w0:World} {a0:Act} {W:Nat->Bool} {E00:dU} (hQ:∀a' w',uV π N W E00 c0 mm w0 a0 K a' w'->Q .normal a' w') (hfit:wO N full=true) (hW:∀o ∈ full,∀d,o.dst=some d->W d=true)
  (htc:Ax full tbl=true) (hc:∀i,i<full.length->∀j,j<full.length->NX full tbl i j=true) (hg:∀o ∈ full,o.guard=none) (hni:∀i,i<full.length->qS tbl i i=false) :
  ∀(fuel:Nat) (listed:Array Bool) (Er:dU) (c:Conc) (m:M) (w:World) (a:Act),listed.size=full.length->(List.range full.length).countP (fun i=>!(listed.getD i false))<=fuel->(∀i j,listed.getD i false=true->qS tbl j i=true->listed.getD j false=true) ->
   Jd (fun i=>listed.getD i false) m Er->fT c m w->kI c Er a N->(∀i,i<full.length->listed.getD i false=false->qT c ((k0+i)::π))->pQ c π (k0+full.length)->Abs.mT π c0 mm w0 c m w->a.defers=a0.defers->(∀t,W t=false->Er t=E00 t)->wpAny P .any full.toArray Q fuel listed a w:=by
 have hdone:∀(listed:Array Bool) (Er:dU) (c:Conc) (m:M) (w:World) (a:Act),(∀i,i<full.length->listed.getD i false=true)->Jd (fun i=>listed.getD i false) m Er->fT c m w->kI c Er a N->pQ c π (k0+full.length)->Abs.mT π c0 mm w0 c m w->a.defers=a0.defers->(∀t,W t=false->Er t=E00 t)->Q .normal a w:=by
  intro listed Er c m w a hall hI hR hE hF hX hd hU;exact hQ a w ⟨c,_,Er,m,hJd _ m Er hall hI,hR,hX,hE,hF,hd,hU⟩
 have hready:∀listed:Array Bool,listed.size=full.length->Region.ready .any full.toArray listed=[]->∀i,i<full.length->listed.getD i false=true:=by
  intro listed hsz hr i
  induction i using Nat.strongRecOn with
  | ind i ih=>
    intro hi;cases hx:listed.getD i false with
    | true=>rfl
    | false=>
      exfalso
      have hmem:i ∈ Region.ready .any full.toArray listed:=by
       refine pY.2 ⟨hi,?_,_,tA hi,fun e he hbd=>?_⟩
       ·rw [CT] at hx ⊢;rw [PT (by omega)] at hx ⊢;exact hx
       ·have hlt:=GM htc (tA hi) he hbd;exact ih e.on hlt (by omega)
      rw [hr] at hmem;cases hmem
 intro fuel
 induction fuel with
 | zero=>
   intro listed Er c m w a hsz hcn hcl hI hR hE hF hFK hX hd hU
   have hla:∀i,i<full.length->listed.getD i false=true:=by
    intro i hi;have:=List.countP_eq_zero.1 (Nat.le_zero.1 hcn) i (Kk.2 hi);simpa using this
   refine ⟨?_,hdone listed Er c m w a hla hI hR hE hFK hX hd hU⟩;apply xeu.2;intro i hi;obtain ⟨h1,h2,_⟩:=pY.1 hi;have:=hla i h1;rw [CT] at h2 this;rw [PT (by omega)] at h2 this;simp only [xdz] at h2 this;rw [h2] at this;cases this
 | succ fuel ih=>
   intro listed Er c m w a hsz hcn hcl hI hR hE hF hFK hX hd hU;refine ⟨fun hr=>hdone listed Er c m w a (hready listed hsz hr) hI hR hE hFK hX hd hU,fun i hi=>?_⟩;obtain ⟨h1,h2,o,ho,h3⟩:=pY.1 hi;have hmem:o ∈ full:=Al ho
   have hu:listed.getD i false=false:=by
    rw [CT] at h2 ⊢;rw [PT (by omega)] at h2 ⊢;exact h2
   have hbef:∀j,qS tbl j i=true->listed.getD j false=true:=by
    intro j hbj;obtain ⟨ed,hed,hbd,hj⟩:=ET htc ho hbj;have:=h3 ed hed hbd
    rcases hj with hj | hj
    ·rw [←hj];exact this
    ·exact hcl _ _ this hj
   obtain ⟨C,hs,hn⟩:=hJs _ m Er i o hI ho hu hbef
   have hfo:∀d,o.dst=some d->d<N:=by
    intro d h;have:=Ga.1 (show full.all _=true from hfit) o hmem;rw [h] at this;simpa using this
   unfold wpOp;rw [Qj,ho];simp only;rw [if_pos (by simp [Region.wanted,hg o hmem])];refine .inl (Oper.wp_mono ?_ (tB (N:=N) hs hR hE (hF i h1 hu) hfo Q));rintro a' w' ⟨c',v,m',hC,g1,g2,g3,g4⟩
   have hD:wX (fun i=>listed.getD i false) i=fun j=>(listed.setIfInBounds i true).getD j false:=by
    funext j
    by_cases hj:j=i
    ·subst hj;rw [iR,CT,xev (by omega)];rfl
    ·rw [fC hj,CT,CT,xer (fun e'=>hj e'.symm)]
   have hDj:∀j,(listed.setIfInBounds i true).getD j false=wX (fun i=>listed.getD i false) i j:=fun j=>(congrFun hD j).symm;have hI':=hn v m' hC;rw [hD] at hI';refine ih _ _ c' m' w' a' (by simpa using hsz) ?_ (fun x y hx hxy=>?_) hI' g1 g3 (fun j hj hlj=>?_) (fun j hj=>?_) (hX.trans g2.up) (g4.trans hd) (fun t ht=>?_)
   ·have hlt:=Cy (D:=fun i=>listed.getD i false) (Kk.2 h1) hu
    have heq:(fun j=>!((listed.setIfInBounds i true).getD j false))=fun j=>!(wX (fun i=>listed.getD i false) i j):=by
     funext j;rw [hDj]
    rw [heq];omega
   ·rw [hDj] at hx ⊢
    by_cases e:x=i
    ·subst e;have:=hbef y hxy
     by_cases e2:y=x
     ·subst e2;rw [iR]
     ·rw [fC e2];exact this
    ·rw [fC e] at hx;have:=hcl x y hx hxy
     by_cases e2:y=i
     ·subst e2;rw [iR]
     ·rw [fC e2];exact this
   ·rw [hDj] at hlj;have hne:j ≠ i:=by rintro rfl;rw [iR] at hlj;cases hlj
    rw [fC hne] at hlj;exact fun id eE=>g2.fresh id (sB eE (by omega)) (hF j hj hlj id eE)
   ·exact fun id eE=>g2.fresh id (sB eE (by omega)) (hFK j hj id eE)
   ·cases hdo:o.dst with
    | none=>exact hU t ht
    | some d=>
      have:=hW o hmem d hdo;show (if t=d then v else Er t)=E00 t;rw [if_neg (by rintro rfl;rw [ht] at this;cases this)];exact hU t ht
theorem Ls (hc:∀i,i<full.length->∀j,j<full.length->NX full tbl i j=true) (hni:∀i,i<full.length->qS tbl i i=false) {k:Nat} {rest:List Nat} {o:Oper} (hpx:PX P full tbl π k0 K (k::rest) fl E m) (hx:Nu o.op=true) (un:∀i ∈ k::rest,D i=false) (dn:∀i,i<full.length->i ∉ k::rest->D i=false->i ∈ fl/\Dh P full π k0 E m i)
  (slot:∀i o t,full[i]? = some o->o.dst=some t->D i=true->Er t=E t) (out:∀t,(∀i o,full[i]? = some o->o.dst=some t->D i=false)->Er t=E0 t) (base:∀t,(∀i o,full[i]? = some o->o.dst=some t->i ∈ k::rest)->E t=E0 t) (hkr:k ∉ rest) (p2:pw (CH full tbl) rest=true) (fi:∀j ∈ fl,∀i ∈ k::rest,qS tbl i j=false)
  (ho:full[k]? = some o) (hu:D k=false) (hbef:∀j,qS tbl j k=true->D j=true):∃C:V->M->Prop,dW P o ((k0+k)::π) Er m C/\∀r m1,C r m1->∃is' fl' E',GC P full tbl π k0 K E0 (wX D k) is' fl' E' m1 (gC o.dst r Er):=by
 have hil:k<full.length:=(qJ.1 ho).1
 have hag:∀t ∈ rM full o,Er t=E t:=by
  intro t htl
  by_cases hw:∃(j:Nat) (x:Oper),full[j]? = some x/\x.dst=some t
  ·obtain ⟨j,x,hx,hd⟩:=hw;exact slot j x t hx hd (hbef j ((yP hc hx ho hd).2 htl))
  ·rw [out t fun j x hx hd=>absurd ⟨j,x,hx,hd⟩ hw];exact (base t fun j x hx hd=>absurd ⟨j,x,hx,hd⟩ hw).symm
 have hev:=rE (m:=m) (E:=E) (E':=Er) hag;simp only [PX,ho,hx,if_true] at hpx;refine ⟨_,EW hx hpx hev,?_⟩;rintro r m1 ⟨hfl,hpx⟩;have hne:∀d,o.dst=some d->∀j y,full[j]? = some y->j ≠ k->y.dst ≠ some d:=fun d hd j y hy hji=>(yP hc ho hy hd).1 (fun e=>hji e.symm);refine GC.down hc hni hpx (fun j hj=>?_) (fun j hj hjn hDj=>?_) (fun j y t hy ht hDj=>?_) (fun t ht=>?_) (fun t ht=>?_) p2 (fun j hj y hy=>?_)
 ·rw [fC (by rintro rfl;exact hkr hj)];exact un j (by simp [hj])
 ·have hjk:j ≠ k:=by rintro rfl;rw [iR] at hDj;cases hDj
  rw [fC hjk] at hDj;obtain ⟨k1,k2⟩:=dn j hj (by simp [hjk,hjn]) hDj
  have hnb:qS tbl j k=false:=by
   cases hb:qS tbl j k with
   | false=>rfl
   | true=>rw [hbef j hb] at hDj;cases hDj
  have hmem:j ∈ fl.filter (fun j=>!(qS tbl j k)):=FA.2 ⟨k1,by simp [hnb]⟩;refine ⟨hmem,?_⟩;have k3:=hfl j hmem;unfold Dh tK at k3 ⊢;cases hoj:full[j]? with
  | none=>rw [hoj] at k3;exact k3
  | some y=>
    rw [hoj] at k3;simp only at k3 ⊢;cases hdj:y.dst with
    | none=>rw [hdj] at k3;exact k3
    | some dj=>
      rw [hdj] at k3;simp only at k3 ⊢;cases hdo:o.dst with
      | none=>exact k3
      | some d=>
        have hat:∀t,t ≠ d->gC (some d) r E t=E t:=fun t ht=>jP (by intro e;injection e with e;exact ht e.symm);rw [hat dj (fun e2=>hne d hdo j y hoj hjk (by rw [hdj,e2]))];refine sU k3 (rE (full:=full) (o:=y) (m:=m1) fun t ht=>hat t fun e2=>?_);subst e2;have hb:=(yP hc ho hoj hdo).2 ht;rw [fi j k1 k (by simp)] at hb;cases hb
 ·by_cases e:j=k
  ·subst e;rw [ho] at hy;injection hy with hy;subst hy
   rw [ht];show (if t=t then r else _)=if t=t then r else _;rw [if_pos rfl,if_pos rfl]
  ·rw [fC e] at hDj;have h1:o.dst ≠ some t:=fun hd=>hne t hd j y hy e ht;rw [jP h1,jP h1];exact slot j y t hy ht hDj
 ·have h1:o.dst ≠ some t:=fun hd=>by have:=ht k o ho hd;rw [iR] at this;cases this
  rw [jP h1];refine out t fun j y hy hj=>?_;have:=ht j y hy hj
  by_cases e:j=k
  ·subst e;exact hu
  ·rwa [fC e] at this
 ·have h1:o.dst ≠ some t:=fun hd=>hkr (ht k o ho hd);rw [jP h1];exact base t fun j y hy hj=>by simp [ht j y hy hj]
 ·exact fi j (FA.1 hj).1 y (by simp [hy])
structure InvY (P:Program) (full:List Oper) (tbl:List Nat) (π:Pa) (k0:Nat) (K:Nat->dU->M->Prop) (E0:dU) (D:Nat->Bool) (k1 k2:Nat) (rest fl:List Nat) (E:dU) (m:M) (Er:dU):Prop where
 p1:PX P full tbl π k0 K (k1::k2::rest) fl E m
 p2:PX P full tbl π k0 K (k2::k1::rest) fl E m
 x1:∀o,full[k1]? = some o->Nu o.op=true
 x2:∀o,full[k2]? = some o->Nu o.op=true
 un:∀i ∈ k1::k2::rest,D i=false
 dn:∀i,i<full.length->i ∉ k1::k2::rest->D i=false->i ∈ fl/\Dh P full π k0 E m i
 slot:∀i o t,full[i]? = some o->o.dst=some t->D i=true->Er t=E t
 out:∀t,(∀i o,full[i]? = some o->o.dst=some t->D i=false)->Er t=E0 t
 base:∀t,(∀i o,full[i]? = some o->o.dst=some t->i ∈ k1::k2::rest)->E t=E0 t
 o1:pw (CH full tbl) (k2::rest)=true
 o2:pw (CH full tbl) (k1::rest)=true
 n1:k1 ∉ k2::rest
 n2:k2 ∉ k1::rest
 rb:∀y ∈ rest,qS tbl k1 y=true ∨ qS tbl k2 y=true
 fi:∀j ∈ fl,∀i ∈ k1::k2::rest,qS tbl i j=false
def JY (P:Program) (full:List Oper) (tbl:List Nat) (π:Pa) (k0:Nat) (K:Nat->dU->M->Prop) (E0:dU) (D:Nat->Bool) (m:M) (Er:dU):Prop:=
 (∃is fl E,GC P full tbl π k0 K E0 D is fl E m Er) ∨ ∃k1 k2 rest fl E,InvY P full tbl π k0 K E0 D k1 k2 rest fl E m Er
theorem EV {a b i:Nat} {l:List Nat} (h:i ∈ a::b::l):i ∈ b::a::l:=by
 simp only [vA] at h ⊢
 rcases h with h | h | h
 ·exact .inr (.inl h)
 ·exact .inl h
 ·exact .inr (.inr h)
theorem InvY.step {k1 k2:Nat} {rest:List Nat} (hc:∀i,i<full.length->∀j,j<full.length->NX full tbl i j=true) (hni:∀i,i<full.length->qS tbl i i=false) (h:InvY P full tbl π k0 K E0 D k1 k2 rest fl E m Er) {i:Nat} {o:Oper} (ho:full[i]? = some o) (hu:D i=false) (hbef:∀j,qS tbl j i=true->D j=true) :
  ∃C:V->M->Prop,dW P o ((k0+i)::π) Er m C/\∀r m1,C r m1->JY P full tbl π k0 K E0 (wX D i) m1 (gC o.dst r Er):=by
 have hil:i<full.length:=(qJ.1 ho).1
 by_cases hin:i ∈ k1::k2::rest
 ·rcases vA.1 hin with rfl | hin
  ·obtain ⟨C,hs,hn⟩:=Ls hc hni h.p1 (h.x1 o ho) h.un h.dn h.slot h.out h.base h.n1 h.o1 h.fi ho hu hbef;exact ⟨C,hs,fun r m1 hC=>.inl (hn r m1 hC)⟩
  ·rcases vA.1 hin with rfl | hin
   ·obtain ⟨C,hs,hn⟩:=Ls hc hni h.p2 (h.x2 o ho) (fun j hj=>h.un j (EV hj)) (fun j hj hjn=>h.dn j hj (fun e=>hjn (EV e))) h.slot h.out (fun t ht=>h.base t fun j y hy hd=>EV (ht j y hy hd)) h.n2 h.o2 (fun j hj y hy=>h.fi j hj y (EV hy)) ho hu hbef;exact ⟨C,hs,fun r m1 hC=>.inl (hn r m1 hC)⟩
   ·exfalso
    rcases h.rb i hin with hb | hb
    ·have:=hbef _ hb;rw [h.un _ (by simp)] at this;cases this
    ·have:=hbef _ hb;rw [h.un _ (by simp)] at this;cases this
 ·have hag:∀t ∈ rM full o,Er t=E t:=by
   intro t htl
   by_cases hw:∃(j:Nat) (x:Oper),full[j]? = some x/\x.dst=some t
   ·obtain ⟨j,x,hx,hd⟩:=hw;exact h.slot j x t hx hd (hbef j ((yP hc hx ho hd).2 htl))
   ·rw [h.out t fun j x hx hd=>absurd ⟨j,x,hx,hd⟩ hw];exact (h.base t fun j x hx hd=>absurd ⟨j,x,hx,hd⟩ hw).symm
  have hev:=rE (m:=m) (E:=E) (E':=Er) hag;obtain ⟨q1,q2⟩:=h.dn i hil hin hu;unfold Dh tK at q2;rw [ho] at q2;simp only at q2;cases hd0:o.dst with
  | none=>rw [hd0] at q2;exact q2.elim
  | some d=>
    rw [hd0] at q2;simp only at q2;refine ⟨_,GN (sU q2 hev),?_⟩;rintro r m1 ⟨rfl,rfl⟩;have hne:∀j y,full[j]? = some y->j ≠ i->y.dst ≠ some d:=fun j y hy hji=>(yP hc ho hy hd0).1 (fun e=>hji e.symm);refine .inr ⟨k1,k2,rest,fl,E,h.p1,h.p2,h.x1,h.x2,fun j hj=>?_,fun j hj hjn hDj=>?_,fun j y t hy ht hDj=>?_,fun t ht=>?_,h.base,h.o1,h.o2,h.n1,h.n2,h.rb,h.fi⟩
    ·rw [fC (by rintro rfl;exact hin hj)];exact h.un j hj
    ·have hji:j ≠ i:=by rintro rfl;rw [iR] at hDj;cases hDj
     rw [fC hji] at hDj;exact h.dn j hj hjn hDj
    ·by_cases e:j=i
     ·subst e;rw [ho] at hy;injection hy with hy;subst hy
      rw [hd0] at ht;injection ht with ht;subst ht
      show (if d=d then E d else Er d)=E d;rw [if_pos rfl]
     ·rw [fC e] at hDj;rw [jP (by intro e2;injection e2 with e2;subst e2;exact hne j y hy e ht)];exact h.slot j y t hy ht hDj
    ·have h1:(some d:Option Nat) ≠ some t:=fun e=>by injection e with e;subst e;have:=ht i o ho hd0;rw [iR] at this;cases this
     rw [jP h1];refine h.out t fun j y hy hj=>?_;have:=ht j y hy hj
     by_cases e:j=i
     ·subst e;exact hu
     ·rwa [fC e] at this
theorem down2 (hc:∀i,i<full.length->∀j,j<full.length->NX full tbl i j=true) (hni:∀i,i<full.length->qS tbl i i=false) {tail:List Nat} {K2:dU->M->Prop}:∀ {pre fl:List Nat} {E:dU},(∀i ∈ pre,∀o,full[i]? = some o->Nu o.op=false)->PX P full tbl π k0 (fun _ E m=>K2 E m) pre fl E m->(∀i ∈ pre++tail,D i=false)->(∀i,i<full.length->i ∉ pre++tail->D i=false->i ∈ fl/\Dh P full π k0 E m i) ->
  (∀i o t,full[i]? = some o->o.dst=some t->D i=true->Er t=E t)->(∀t,(∀i o,full[i]? = some o->o.dst=some t->i ∈ pre++tail)->E t=E0 t)->pw (fun x y=>!(qS tbl y x) && x != y) (pre++tail)=true->(∀j ∈ fl,∀i ∈ pre++tail,qS tbl i j=false) ->
  ∃E',K2 E' m/\(∀i,i<full.length->i ∉ tail->D i=false->i ∈ pre.reverse++fl/\Dh P full π k0 E' m i)/\(∀i o t,full[i]? = some o->o.dst=some t->D i=true->Er t=E' t)/\(∀t,(∀i o,full[i]? = some o->o.dst=some t->i ∈ tail)->E' t=E0 t)/\(∀j ∈ pre.reverse++fl,∀i ∈ tail,qS tbl i j=false):=by
 intro pre
 induction pre with
 | nil=>intro fl E _ h1 h2 h3 h4 h6 h7 h8;exact ⟨E,h1,by simpa using h3,h4,h6,by simpa using h8⟩
 | cons i pre ih=>
   intro fl E hX h1 h2 h3 h4 h6 h7 h8;cases ho:full[i]? with
   | none=>simp only [PX,ho] at h1
   | some o=>
     have hx:=hX i (by simp) o ho;have hil:i<full.length:=(qJ.1 ho).1;simp only [PX,ho,hx,yI,if_false] at h1;obtain ⟨v,hax,hpx⟩:=h1;obtain ⟨p1,p2⟩:=Jq (a:=i) (l:=pre++tail) h7;cases hd:o.dst with
     | none=>
       have:=hc i hil i hil;unfold NX at this;rw [ho] at this;simp [hd,hx] at this
     | some d=>
       rw [hd] at hpx;have hne:∀j y,full[j]? = some y->j ≠ i->y.dst ≠ some d:=fun j y hy hji=>(yP hc ho hy hd).1 (fun e=>hji e.symm);have hat:∀t,t ≠ d->gC (some d) v E t=E t:=fun t ht=>jP (by intro e;injection e with e;exact ht e.symm)
       have hself:∀t ∈ rM full o,t ≠ d:=fun t ht e=>by
        subst e;have:=(yP hc ho ho hd).2 ht;rw [hni i hil] at this;cases this
       have a1:∀j,j<full.length->j ∉ pre++tail->D j=false->j ∈ i::fl/\Dh P full π k0 (gC (some d) v E) m j:=by
        intro j hj hjn hDj
        by_cases e:j=i
        ·subst e;refine ⟨by simp,?_⟩;unfold Dh tK;rw [ho];simp only [hd];have:gC (some d) v E d=v:=by show (if d=d then v else E d)=v;rw [if_pos rfl]
         rw [this];exact sU hax (rE fun t ht=>hat t (hself t ht))
        ·obtain ⟨k1,k2⟩:=h3 j hj (by rw [BO,vA];rintro (e2 | e2);exact e e2;exact hjn e2) hDj;refine ⟨by simp [k1],?_⟩;unfold Dh tK at k2 ⊢;cases hoj:full[j]? with
         | none=>rw [hoj] at k2;exact k2
         | some y=>
           rw [hoj] at k2;simp only at k2 ⊢;cases hdj:y.dst with
           | none=>rw [hdj] at k2;exact k2
           | some dj=>
             rw [hdj] at k2;simp only at k2 ⊢;have hdd:dj ≠ d:=fun e2=>hne j y hoj e (by rw [hdj,e2]);rw [hat dj hdd];refine sU k2 (rE (full:=full) (o:=y) (m:=m) fun t ht=>?_);refine hat t fun e2=>?_;subst e2;have hb:=(yP hc ho hoj hd).2 ht;rw [h8 j k1 i (by simp)] at hb;cases hb
       have a2:∀j y t,full[j]? = some y->y.dst=some t->D j=true->Er t=gC (some d) v E t:=by
        intro j y t hy ht hDj;rw [hat t (fun e=>by subst e;exact hne j y hy (fun e2=>by subst e2;rw [h2 j (by simp)] at hDj;cases hDj) ht)];exact h4 j y t hy ht hDj
       have a3:∀t,(∀j y,full[j]? = some y->y.dst=some t->j ∈ pre++tail)->gC (some d) v E t=E0 t:=by
        intro t ht
        have hti:t ≠ d:=fun e=>by
         subst e;have:=ht i o ho hd;have h9:=p1 i this;simp at h9
        rw [hat t hti];exact h6 t fun j y hy hj=>Kc _ (ht j y hy hj)
       have a4:∀j ∈ i::fl,∀y ∈ pre++tail,qS tbl y j=false:=by
        intro j hj y hy
        rcases vA.1 hj with rfl | hj
        ·have h9:=p1 y hy;simp only [Fw,NV] at h9;exact h9.1
        ·exact h8 j hj y (Kc _ hy)
       obtain ⟨E',g1,g2,g3,g4,g5⟩:=ih (fl:=i::fl) (E:=gC (some d) v E) (fun j hj=>hX j (by simp [hj])) hpx (fun j hj=>h2 j (Kc _ hj)) a1 a2 a3 p2 a4;refine ⟨E',g1,fun j hj hjn hDj=>?_,g3,g4,fun j hj y hy=>g5 j ?_ y hy⟩
       ·have:=g2 j hj hjn hDj;rw [List.reverse_cons,Nb];exact this
       ·rw [List.reverse_cons,Nb] at hj;exact hj
end
def QR (full:List Oper) (tbl:List Nat) (pre:List Nat) (k1 k2:Nat) (rest:List Nat):Bool:=
 Ax full tbl && full.all (fun o=>o.guard.isNone) && (List.range full.length).all (fun i=>(List.range full.length).all fun j=>NX full tbl i j) &&
 (List.range full.length).all (fun i=>(pre++k1::k2::rest).contains i) && (List.range full.length).all (fun i=>!(qS tbl i i)) &&
 pre.all (fun i=>match full[i]? with | some o=>!Nu o.op | none=>true) && (match full[k1]? with | some o=>Nu o.op | none=>true) && (match full[k2]? with | some o=>Nu o.op | none=>true) &&
 pw (fun x y=>!(qS tbl y x) && x != y) (pre++k1::k2::rest) && pw (CH full tbl) (k2::rest) && pw (CH full tbl) (k1::rest) && !((k2::rest).contains k1) && !((k1::rest).contains k2) && rest.all (fun y=>qS tbl k1 y || qS tbl k2 y)
theorem SW_px2 {P:Program} {N:Nat} {π:Pa} {k:Nat} {E:dU} {m:M} {Q:Exit->Nat->dU->M->Prop} {id:Nat} {ops:List Oper} (tbl pre:List Nat) (k1 k2:Nat) (rest:List Nat) (hm:P.follows .mixedOrders=true) (hck:QR ops tbl pre k1 k2 rest=true)
  (h:∀K:Nat->dU->M->Prop,(∀k E m,Q .normal k E m->K k E m)->PX P ops tbl π k (fun _ E m=>PX P ops tbl π k K (k1::k2::rest) pre.reverse E m/\PX P ops tbl π k K (k2::k1::rest) pre.reverse E m) pre [] E m):SW P N π (.region id ops.toArray true) k E m Q:=by
 intro hf c a w h1 h2 h3;have h:=h (Q .normal) fun _ _ _ x=>x;simp only [QR,Fw,Ga,Kk,Fv,xdl,Option.isNone_iff_eq_none,NV,NW] at hck;obtain ⟨⟨⟨⟨⟨⟨⟨⟨⟨⟨⟨⟨⟨c1,c2⟩,c3⟩,c4⟩,c5⟩,c6⟩,c7⟩,c8⟩,c9⟩,c10⟩,c11⟩,c12⟩,c13⟩,c14⟩:=hck;refine wp_region_any hm ?_;have hw:({ w with drawn:=w.drawn+1 }:World)=w.drewN 1:=rfl;rw [hw]
 have hzero:∀i,(Array.replicate ops.toArray.size false).getD i false=false:=by
  intro i;rw [CT,xef]
  split <;> rfl
 have hnc:∀ {a:Nat} {l:List Nat},l.contains a=false->a ∉ l:=fun h e=>by rw [xdl.2 e] at h;cases h
 obtain ⟨E1,⟨g1a,g1b⟩,g2,g3,g4,g5⟩:=down2 (D:=fun i=>(Array.replicate ops.toArray.size false).getD i false) (E0:=E) (Er:=E) (tail:=k1::k2::rest) c3 c5 (fun i hi o ho=>by have:=c6 i hi;rw [ho] at this;simpa using this) h (fun i _=>hzero i) (fun i hi hin _=>absurd (c4 i hi) hin)
  (fun i o t _ _ hi=>by have hi2:(Array.replicate ops.toArray.size false).getD i false=true:=hi;exact absurd ((hzero i).symm.trans hi2) (by decide)) (fun _ _=>rfl) c9 (fun _ h=>nomatch h)
 rw [Et] at g2 g5
 have hI:InvY P ops tbl π k (Q .normal) E (fun i=>(Array.replicate ops.toArray.size false).getD i false) k1 k2 rest pre.reverse E1 m E:=
  ⟨g1a,g1b,fun o ho=>by rw [ho] at c7;exact c7,fun o ho=>by rw [ho] at c8;exact c8,fun i _=>hzero i,g2,g3,fun _ _=>rfl,g4,c10,c11,hnc c12,hnc c13,c14,g5⟩
 refine px_runJ (k0:=k) (Jd:=JY P ops tbl π k (Q .normal) E) (tbl:=tbl) (K:=Q .normal) (fun D m Er hall hJ=>?_) (fun D m Er i o hJ ho hu hbef=>?_) (Q:=fun e a' w'=>uV π N (wr (.region id ops.toArray true)) E c m w a (Q e) a' w') (W:=wr (.region id ops.toArray true)) (E00:=E) (c0:=c) (mm:=m) (w0:=w) (a0:=a) (fun a' w' hp=>hp) (by simpa [BH] using hf) (fun o ho' d hd=>?_) c1 c3 c2 c5 _ _ E c m (w.drewN 1) a (by simp) ?_ (fun i j hi _=>by rw [hzero] at hi;cases hi) (.inr ⟨k1,k2,rest,pre.reverse,E1,hI⟩) (h1.drewN 1) h2 (fun i _ _=>h3 _ (by omega)) (fun j hj=>h3 j (by omega)) (mT.drewN π c m w 1) rfl (fun _ _=>rfl)
 ·rcases hJ with ⟨is,fl,E2,hI⟩ | ⟨k1,k2,rest,fl,E2,hI⟩
  ·have his:is=[]:=by
    cases his:is with
    | nil=>rfl
    | cons i rest=>
      exfalso
      have hun:=hI.un i (by rw [his];simp);have hpx:=hI.px;rw [his] at hpx;cases hoi:ops[i]? with
      | none=>simp only [PX,hoi] at hpx
      | some o=>have:=hall i (qJ.1 hoi).1;rw [hun] at this;cases this
   subst his
   have hEr:Er=E2:=by
    funext t
    by_cases hw:∃(j:Nat) (x:Oper),ops[j]? = some x/\x.dst=some t
    ·obtain ⟨j,x,hx,hd2⟩:=hw;exact hI.slot j x t hx hd2 (hall j (qJ.1 hx).1)
    ·have h1:=hI.out t fun (j:Nat) (x:Oper) hx hd=>absurd (Exists.intro j (Exists.intro x ⟨hx,hd⟩)) hw;have h2:=hI.base t fun (j:Nat) (x:Oper) hx hd=>absurd (Exists.intro j (Exists.intro x ⟨hx,hd⟩)) hw;rw [h1,h2]
   subst hEr;exact hI.px
  ·exfalso
   have hun:=hI.un k1 (by simp);have hpx:=hI.p1;cases hoi:ops[k1]? with
   | none=>simp only [PX,hoi] at hpx
   | some o=>have:=hall k1 (qJ.1 hoi).1;rw [hun] at this;cases this
 ·rcases hJ with ⟨is,fl,E2,hI⟩ | ⟨k1,k2,rest,fl,E2,hI⟩
  ·obtain ⟨C,hs,hn⟩:=hI.step c3 c5 ho hu hbef;exact ⟨C,hs,fun r m1 hC=>.inl (hn r m1 hC)⟩
  ·exact hI.step c3 c5 ho hu hbef
 ·simp only [wr,xea,beq_iff_eq];exact ⟨o,ho',hd⟩
 ·have:=xes (p:=fun i=>!((Array.replicate ops.toArray.size false).getD i false)) (l:=List.range ops.length);simpa using this
section
variable {P:Program} {π:Pa} {k0 i d:Nat} {E:dU} {m m1:M} {ty:TypeId} {pos:String} {after:Array Edge} {g:Option (Nat × Bool)}
@[go_sem] theorem lo_binOp {op:BinOp} {T T':TypeId} {x y:Operand}:Fh P k0 i π E m1 ⟨some d,.binOp op T x y T',ty,pos,after,g⟩=oZ P op T x y (ev m1 E x) (ev m1 E y) (fun r=>r=E d):=rI rfl
@[go_sem] theorem lo_len {T:TypeId} {x:Operand}:Fh P k0 i π E m1 ⟨some d,.call ⟨.builtin .len,#[x],#[T]⟩,ty,pos,after,g⟩=Gq P T (ev m1 E x) (fun r=>r=E d):=rI rfl
end
def M.backK (q keep:Pa) (m m':M):M:=
 { blk:=fun id=>if id=keep then m'.blk id else if q.isSuffixOf id then m.blk id else m'.blk id,ver:=fun id=>if id=keep then m'.ver id else if q.isSuffixOf id then m.ver id else m'.ver id,tok:=fun id=>if q.isSuffixOf id then m.tok id else m'.tok id,gl:=m'.gl,hp:=m'.hp }
theorem fT.backK {c c':Conc} {m m':M} {w w':World} {q:Pa} (keep:Pa) (h:fT c m w) (hf:qT c q) (h':fT c' m' w'):fT c' (m.backK q keep m') w'/\∀b,gH c' (m.backK q keep m') b->gH c' m' b:=by
 have hsub:∀id,q.isSuffixOf id=true->m.blk id=none/\(∀off,m.ver id off=0)/\∀j,m.tok id j=false:=by
  intro id eE;have hf':=hf id (Fz.1 eE);exact ⟨h.fresh_blk hf',(h.ver0 id hf').1,(h.ver0 id hf').2⟩
 have hb:∀id vs,(m.backK q keep m').blk id=some vs->(id=keep ∨ q.isSuffixOf id=false)/\m'.blk id=some vs:=by
  intro id vs hv;have hv':(if id=keep then m'.blk id else if q.isSuffixOf id then m.blk id else m'.blk id)=some vs:=hv
  by_cases hk:id=keep
  ·rw [if_pos hk] at hv';exact ⟨.inl hk,hv'⟩
  ·rw [if_neg hk] at hv';cases hs:q.isSuffixOf id with
   | true=>rw [if_pos hs,(hsub id hs).1] at hv';cases hv'
   | false=>rw [if_neg (by simp [hs])] at hv';exact ⟨.inr rfl,hv'⟩
 have hbn:∀id,(m.backK q keep m').blk id ≠ none->(id=keep ∨ q.isSuffixOf id=false)/\m'.blk id ≠ none:=by
  intro id eE;obtain ⟨vs,hv⟩:∃vs,(m.backK q keep m').blk id=some vs:=by cases hx:(m.backK q keep m').blk id with | none=>exact absurd hx eE | some vs=>exact ⟨vs,rfl⟩
  obtain ⟨h1,h2⟩:=hb id vs hv;exact ⟨h1,by rw [h2];simp⟩
 have hver:∀id,(id=keep ∨ q.isSuffixOf id=false)->(m.backK q keep m').ver id=m'.ver id:=by
  intro id hs;show (if id=keep then m'.ver id else if q.isSuffixOf id then m.ver id else m'.ver id)=_
  by_cases hk:id=keep
  ·rw [if_pos hk]
  ·rw [if_neg hk,if_neg (by simp [hs.resolve_left hk])]
 have hlive:∀s,fN (m.backK q keep m') s=true->fN m' s=true:=by
  intro s hl;cases s with
  | anon i j=>
    have hl':(if q.isSuffixOf i then m.tok i else m'.tok i) j=true:=hl;cases hs:q.isSuffixOf i with
    | true=>rw [if_pos hs,(hsub i hs).2.2 j] at hl';cases hl'
    | false=>rw [if_neg (by simp [hs])] at hl';exact hl'
  | priv b=>exact hl
  | cell i off v=>
    obtain ⟨h1,vs,rows,h2,h3⟩:=qP hl;obtain ⟨h4,h5⟩:=hb i vs h2;rw [hver i h4] at h1;exact qE h1 h5 h3
 have hown:∀b,gH c' (m.backK q keep m') b->gH c' m' b:=by
  rintro b (⟨id,eE,hr⟩ | ⟨s,cap,sz,len,hl,hk⟩)
  ·exact .inl ⟨id,(hbn id eE).2,hr⟩
  ·exact .inr ⟨s,cap,sz,len,hlive s hl,hk⟩
 refine ⟨⟨h'.com,fun id vs hv=>?_,fun id id' b hi hi'=>h'.inj id id' b (hbn id hi).2 (hbn id' hi').2,fun s b cap sz len hl hk=>?_,fun s s' b cap sz len cap' sz' len' hl hl'=>h'.ownInj s s' b cap sz len cap' sz' len' (hlive s hl) (hlive s' hl'),fun id off v hi hv=>?_,h'.gl,fun id eE=>⟨fun off=>?_,fun j=>?_⟩,h'.base,fun b hl=>⟨(h'.lit b hl).1,(h'.lit b hl).2.1,fun ho=>(h'.lit b hl).2.2 (hown b ho)⟩,fun b vs hv=>h'.hpr b vs hv⟩,hown⟩
 ·obtain ⟨h1,h2⟩:=hb id vs hv;obtain ⟨b,cs,t,k1,k2,k3,k4,k5⟩:=h'.blk id vs h2;exact ⟨b,cs,t,k1,k2,by rw [hver id h1];exact k3,k4,k5⟩
 ·obtain ⟨k1,k2,k3,k4⟩:=h'.own s b cap sz len (hlive s hl) hk;exact ⟨k1,k2,fun id eE=>k3 id (hbn id eE).2,k4⟩
 ·obtain ⟨h1,h2⟩:=hbn id hi;rw [hver id h1] at hv;exact h'.ver id off v h2 hv
 ·show (if id=keep then m'.ver id else if q.isSuffixOf id then m.ver id else m'.ver id) off=0
  split
  ·exact (h'.ver0 id eE).1 off
  ·split
   ·rename_i hs;exact (hsub id hs).2.1 off
   ·exact (h'.ver0 id eE).1 off
 ·show (if q.isSuffixOf id then m.tok id else m'.tok id) j=false
  split
  ·rename_i hs;exact (hsub id hs).2.2 j
  ·exact (h'.ver0 id eE).2 j
theorem SC_ofK {P:Program} {f:FuncId} {fn:Func} {body:Code} {args:List V} {q:Pa} {m:M} {R:V->M->Prop} (keep:Pa) (hq:q <:+ keep) (hf:P.funcs[f]? = some fn) (hb:fn.body=some body) (hen:∀(xs:Array Value) (w:World),(callFunc f xs).run P w=.ok (.enter f xs) w)
  {N:Nat} (hN:fn.ntmps=N) (hfit:BH N body=true) {rs:List ResultVar} (hrs:fn.results.toList=rs)
  (h:SW P N q body 0 (Rw args) m fun e _ E' m'=>(e=.ret ∨ e=.normal)/\Gr P E' m' rs fun r=>R r (m.backK q keep m')):SC P f args q m R:=by
 intro c xs w h1 h2 h3;refine .inl ⟨hen _ w,?_⟩;subst hN hrs;have hini:=Mw h2 fn.ntmps;refine calls_of_wp hf hb ?_;rw [xem];refine wp_mono (h hfit c _ w h1 hini h3.sub) ?_;intro e a' w' hp;obtain ⟨c',k',E',m',⟨he,hres⟩,g2,g3,g4,g5,g6,g7⟩:=hp;obtain ⟨v,hC,x,hx,hv⟩:=Nk hres g2 g4;obtain ⟨hback,hown⟩:=h1.backK keep h3 g2
 have hbl:∀id,¬ q <:+ id->xP c' m' id->xP c' (m.backK q keep m') id:=by
  intro id eE hb;have hs:¬ q.isSuffixOf id=true:=fun e=>eE (Fz.1 e);have hk:¬ id=keep:=fun e=>eE (e ▸ hq);refine ⟨?_,hb.anon,hb.cell,fun off=>?_,fun j=>?_⟩
  ·show (if id=keep then m'.blk id else if q.isSuffixOf id then m.blk id else m'.blk id)=none;rw [if_neg hk,if_neg hs];exact hb.blk
  ·show (if id=keep then m'.ver id else if q.isSuffixOf id then m.ver id else m'.ver id) off=0;rw [if_neg hk,if_neg hs];exact hb.ver off
  ·show (if q.isSuffixOf id then m.tok id else m'.tok id) j=false;rw [if_neg hs];exact hb.tok j
 have hX:mT q c m w c' (m.backK q keep m') w':=⟨g3.le,g3.os,g3.tape,g3.output,g3.size,g3.heap,g3.book,fun b hb ho=>g3.own b hb (hown b ho),g3.fresh,fun id eE hb=>hbl id eE (g3.keep id eE hb),g3.lits⟩
 have hdone:a'.defers=[]/\∃v,(results fn a'.tmps).run P w'=.ok v w'/\∃x c' r m',Ending.returned v=.returned x/\R r m'/\fT c' m' w'/\mT q c m w c' m' w'/\CR c' [r] [x]:=
  ⟨g6,x,hx,x,c',v,m.backK q keep m',rfl,hC,hback,hX,hv⟩
 rcases he with rfl | rfl
 ·exact hdone
 ·exact hdone
theorem Sg {q keep:Pa} {m m':M} {cs:List V} (hb:m'.blk keep=some cs) (hv:m'.ver keep=m.ver keep):m.backK q keep m'=(m.back q m').set keep cs ∨ ¬ q <:+ keep:=by
 by_cases hq:q <:+ keep
 ·refine .inl (M.ext_hp (funext fun i=>?_) (funext fun i=>?_) rfl rfl rfl)
  ·show (if i=keep then m'.blk i else if q.isSuffixOf i then m.blk i else m'.blk i)=if i=keep then some cs else if q.isSuffixOf i then m.blk i else m'.blk i
   by_cases e:i=keep
   ·rw [if_pos e,if_pos e,e,hb]
   ·rw [if_neg e,if_neg e]
  ·show (if i=keep then m'.ver i else if q.isSuffixOf i then m.ver i else m'.ver i)=if q.isSuffixOf i then m.ver i else m'.ver i
   by_cases e:i=keep
   ·rw [if_pos e,e,if_pos (Fz.2 hq),hv]
   ·rw [if_neg e]
 ·exact .inr hq
def xK (q:Pa) (h h':Hp):Hp:=fun i=>if q.isSuffixOf i then none else h' i
theorem SC.hpq {P:Program} {f:FuncId} {args:List V} {q:Pa} {m:M} {R:V->M->Prop} (h:SC P f args q m (fun v m'=>R v (m'.seth (xK q m.hp m'.hp)))):SC P f args q m R:=by
 intro c xs w h1 h2 h3
 have key:∀e w',Ey q c m w (fun v m'=>R v (m'.seth (xK q m.hp m'.hp))) e w'->Ey q c m w R e w':=by
  rintro e w' ⟨x,c',r,m',e1,hR,g2,g3,g4⟩
  have hh:∀i vs,xK q m.hp m'.hp i=some vs->m'.hp i=some vs:=by
   intro i vs hi;unfold xK at hi
   split at hi
   ·cases hi
   ·exact hi
  obtain ⟨k1,k2⟩:=g2.sub (m':=m'.seth (xK q m.hp m'.hp)) rfl rfl (fun id vs hv=>⟨vs,hv,fun _ h=>h⟩) (fun s hs=>by
   cases s with
   | anon i j=>exact hs
   | cell i o v=>exact hs
   | priv i=>
     have hs':(xK q m.hp m'.hp i).isSome=true:=hs;obtain ⟨vs,hv⟩:=Option.isSome_iff_exists.1 hs';show (m'.hp i).isSome=true;rw [hh i vs hv];rfl) hh
  exact ⟨x,c',r,_,e1,hR,k1,g3.trans (k2 q),g4⟩
 rcases h c xs w h1 h2 h3 with ⟨k1,k2⟩ | ⟨x,w',k1,k2⟩
 ·exact .inl ⟨k1,k2.mono fun e w' hp=>key e w' hp⟩
 ·exact .inr ⟨x,w',k1,key _ _ k2⟩
theorem SC.freshH {P:Program} {f:FuncId} {args:List V} {q:Pa} {m:M} {R:V->M->Prop} (h:(∀i,q <:+ i->m.hp i=none)->SC P f args q m R):SC P f args q m R:=
 fun c xs w h1 h2 h3=>h (fun i hi=>h1.fresh_hp (h3 i hi)) c xs w h1 h2 h3
section
variable {P:Program} {full:List Oper} {tbl:List Nat} {π:Pa} {k0 i:Nat} {is fl:List Nat} {E:dU} {m m1:M} {K:Nat->dU->M->Prop} {d:Option Nat} {ty:TypeId} {pos:String} {after:Array Edge} {v:V}
@[go_sem] theorem xp_assign {x:Operand}:yF P full tbl π k0 K i is fl E m ⟨d,.assign x,ty,pos,after,none⟩=PM P full tbl π k0 K i is fl E m d (ev m E x):=Lt
@[go_sem] theorem xp_build {T:TypeId} {ps:Array (Nat × Operand)}:yF P full tbl π k0 K i is fl E m ⟨d,.build T ps,ty,pos,after,none⟩=dt (fun v=>xF P T (ps.toList.map fun p=>(p.1,ev m E p.2)) (fun r=>r=v)) (PM P full tbl π k0 K i is fl E m d):=rI rfl
@[go_sem] theorem xp_nilCheck {x:Operand}:yF P full tbl π k0 K i is fl E m ⟨d,.nilCheck x,ty,pos,after,none⟩=dt (fun v=>Dt (ev m E x) (fun r=>r=v)) (PM P full tbl π k0 K i is fl E m d):=by
 have:∀v,ax P (.nilCheck x) ((k0+i)::π) (ev m E) m v=Dt (ev m E x) (fun r=>r=v):=by
  intro v;simp only [ax,EG,Dt]
  generalize ev m E x=u
  cases u <;> rfl
 show dt (fun v=>ax P (.nilCheck x) ((k0+i)::π) (ev m E) m v) _=_;rw [funext this]
@[go_sem] theorem xp_binOp {op:BinOp} {T T':TypeId} {x y:Operand}:yF P full tbl π k0 K i is fl E m ⟨d,.binOp op T x y T',ty,pos,after,none⟩=dt (fun v=>oZ P op T x y (ev m E x) (ev m E y) (fun r=>r=v)) (PM P full tbl π k0 K i is fl E m d):=rI rfl
@[go_sem] theorem xp_indexAddr {T:TypeId} {x y:Operand}:yF P full tbl π k0 K i is fl E m ⟨d,.indexAddr T x y,ty,pos,after,none⟩=dt (fun v=>uA P T (ev m E x) (ev m E y) (fun r=>r=v)) (PM P full tbl π k0 K i is fl E m d):=rI rfl
@[go_sem] theorem xp_box {T:TypeId} {x:Operand}:yF P full tbl π k0 K i is fl E m ⟨d,.box T x,ty,pos,after,none⟩=((ev m E x).cellsOk=true/\LN P full tbl π k0 K i is fl E d (.ptr ((k0+i)::π) 0) (m.set ((k0+i)::π) ((ev m E x).cells.map V.raw0))):=rI rfl
@[go_sem] theorem xp_store {T:TypeId} {x y:Operand}:yF P full tbl π k0 K i is fl E m ⟨d,.store T x y,ty,pos,after,none⟩=xE P m T (ev m E x) (ev m E y) (fun m1=>LN P full tbl π k0 K i is fl E d (.lit undef) m1):=rI rfl
end
end Go.Proofs.YtncembphlfbgoaaGreatDoor.Abs
