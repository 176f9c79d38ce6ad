import Derived.Test.YtnnomaboaiokeaaGreatDoorIVs
import Derived.Test.YtnnomaboaiokeaaGreatDoorIH5
namespace Go.Proofs.YtnnomaboaiokeaaGreatDoor.Abs
open Go.RowKit
def cU32 (x:Int):V:=.lit (.int .u32 x)
def cU64 (x:Int):V:=.lit (.int .u64 x)
def cRef (AS:List Pa) (LS:List Nat) (k:Int):V:=if k<0 then .nilv else .vec (AS.getD k.toNat []) 1 (LS.getD k.toNat 0)
structure HOk (h:Hp) (W A:Pa) (AS:List Pa) (LS:List Nat) (ws rs:List Int) (hs:List (List Int)):Prop where
 w:h W=some (ws.map cU64)
 a:h A=some (rs.map (cRef AS LS))
 wa:W ≠ A
 was:W ∉ AS
 aas:A ∉ AS
 nd:AS.Nodup
 ls:LS=hs.map List.length
 len:AS.length=hs.length
 fW:∀(k:Nat) (a:Pa) (l:List Int),AS[k]? = some a->hs[k]? = some l->h a=some (l.map cU32)
section
variable {h:Hp} {W A:Pa} {AS:List Pa} {LS:List Nat} {ws rs ws':List Int} {hs hs':List (List Int)}
end
section
variable {m:M} {p0 p1 q:Pa} {c0 c1 c0' c1':List V} {z z':Nat} {h h':Hp}
theorem dR:m.seth m.hp=m:=rI rfl
end
set_option linter.all false
def FH (q:Pa) (h h':Hp):Hp:=λi=>if q.isSuffixOf i then none else h' i
theorem SC.hpq {P:Program} {f:FuncId} {args:List V} {q:Pa} {m:M} {R:V->M->Prop} (h:SC P f args q m (λv m'=>R v (m'.seth (FH q m.hp m'.hp)))):SC P f args q m R:=by
 intro c xs w h1 h2 h3
 have key:∀e w',Eh q c m w (λv m'=>R v (m'.seth (FH q m.hp m'.hp))) e w'->Eh q c m w R e w':=by
  rintro e w' ⟨x,c',r,m',e1,hR,g2,g3,g4⟩
  have hh:∀i vs,FH q m.hp m'.hp i=some vs->m'.hp i=some vs:=by
   intro i vs hi;unfold FH at hi
   split at hi
   ·cases hi
   ·exact hi
  obtain ⟨k1,k2⟩:=g2.sub (m':=m'.seth (FH q m.hp m'.hp)) rfl rfl (λid vs hv=>⟨vs,hv,λ_ h=>h⟩) (λs hs=>by
   cases s with
   | anon i j=>exact hs
   | cell i o v=>exact hs
   | priv i=>
     have hs':(FH q m.hp m'.hp i).isSome=true:=hs;obtain ⟨vs,hv⟩:=Option.isSome_iff_exists.1 hs';show (m'.hp i).isSome=true;rw [hh i vs hv];rfl) hh
  exact ⟨x,c',r,_,e1,hR,k1,g3.trans (k2 q),g4⟩
 rcases h c xs w h1 h2 h3 with ⟨k1,k2⟩ | ⟨x,w',k1,k2⟩
 ·exact .inl ⟨k1,k2.mono λe w' hp=>key e w' hp⟩
 ·exact .inr ⟨x,w',k1,key _ _ k2⟩
theorem SC.freshH {P:Program} {f:FuncId} {args:List V} {q:Pa} {m:M} {R:V->M->Prop} (h:(∀i,q <:+ i->m.hp i=none)->SC P f args q m R):SC P f args q m R:=
 λc xs w h1 h2 h3=>h (λi hi=>h1.fresh_hp (h3 i hi)) c xs w h1 h2 h3
section
variable {P:Program} {full:List Oper} {tbl:List Nat} {π:Pa} {k0 i:Nat} {is fl:List Nat} {E:dD} {m m1:M} {K:Nat->dD->M->Prop} {d:Option Nat} {ty:TypeId} {pos:String} {after:Array Edge} {v:V}
@[go_sem] theorem xp_assign {x:Operand}:DB P full tbl π k0 K i is fl E m ⟨d,.assign x,ty,pos,after,none⟩=SR P full tbl π k0 K i is fl E m d (ev m E x):=Oh
@[go_sem] theorem xp_build {T:TypeId} {ps:Array (Nat × Operand)}:DB P full tbl π k0 K i is fl E m ⟨d,.build T ps,ty,pos,after,none⟩=dt (λv=>AG P T (ps.toList.map λp=>(p.1,ev m E p.2)) (λr=>r=v)) (SR P full tbl π k0 K i is fl E m d):=rI rfl
@[go_sem] theorem xp_box {T:TypeId} {x:Operand}:DB P full tbl π k0 K i is fl E m ⟨d,.box T x,ty,pos,after,none⟩=((ev m E x).cellsOk=true/\QJ P full tbl π k0 K i is fl E d (.ptr ((k0+i)::π) 0) (m.set ((k0+i)::π) ((ev m E x).cells.map V.raw0))):=rI rfl
end
section
variable {P:Program} {full:List Oper} {π:Pa} {k0 N:Nat} {tbl:List Nat} {E0:dD} {K:Nat->dD->M->Prop} {D:Nat->Bool} {is fl:List Nat} {E Er:dD} {m:M}
theorem px_runJ {Jd:(Nat->Bool)->M->dD->Prop} (hJd:∀D m Er,(∀i,i<full.length->D i=true)->Jd D m Er->K (k0+full.length) Er m) (hJs:∀(D:Nat->Bool) (m:M) (Er:dD) (i:Nat) (o:Oper),Jd D m Er->full[i]? = some o->D i=false->(∀j,sL tbl j i=true->D j=true)->∃C:V->M->Prop,dW P o ((k0+i)::π) Er m C/\∀r m1,C r m1->Jd (Ap D i) m1 (gG o.dst r Er)) {Q:Exit->Act->World->Prop} {c0:Conc} {mm:M} {w0:World} {a0:Act} {W:Nat->Bool} {E00:dD} (hQ:∀a' w',xA π N W E00 c0 mm w0 a0 K a' w'->Q .normal a' w') (hfit:ER N full=true) (hW:∀o ∈ full,∀d,o.dst=some d->W d=true)
  (htc:CX full tbl=true) (hc:∀i,i<full.length->∀j,j<full.length->QQ full tbl i j=true) (hg:∀o ∈ full,o.guard=none) (hni:∀i,i<full.length->sL tbl i i=false) :
  ∀(fuel:Nat) (listed:Array Bool) (Er:dD) (c:Conc) (m:M) (w:World) (a:Act),listed.size=full.length->(List.range full.length).countP (λi=>!(listed.getD i false))<=fuel->(∀i j,listed.getD i false=true->sL tbl j i=true->listed.getD j false=true) ->
   Jd (λi=>listed.getD i false) m Er->fJ c m w->mJ c Er a N->(∀i,i<full.length->listed.getD i false=false->sK c ((k0+i)::π))->rH c π (k0+full.length)->Abs.oP π c0 mm w0 c m w->a.defers=a0.defers->(∀t,W t=false->Er t=E00 t)->wpAny P .any full.toArray Q fuel listed a w:=by
 have hdone:∀(listed:Array Bool) (Er:dD) (c:Conc) (m:M) (w:World) (a:Act),(∀i,i<full.length->listed.getD i false=true)->Jd (λi=>listed.getD i false) m Er->fJ c m w->mJ c Er a N->rH c π (k0+full.length)->Abs.oP π c0 mm w0 c m w->a.defers=a0.defers->(∀t,W t=false->Er t=E00 t)->Q .normal a w:=by
  intro listed Er c m w a hall hI hR hE hF hX hd hU;exact hQ a w ⟨c,_,Er,m,hJd _ m Er hall hI,hR,hX,hE,hF,hd,hU⟩
 have hready:∀listed:Array Bool,listed.size=full.length->Region.ready .any full.toArray listed=[]->∀i,i<full.length->listed.getD i false=true:=by
  intro listed hsz hr i
  induction i using Nat.strongRecOn with
  | ind i ih=>
    intro hi;cases hx:listed.getD i false with
    | true=>rfl
    | false=>
      exfalso
      have hmem:i ∈ Region.ready .any full.toArray listed:=by
       refine rW.2 ⟨hi,?_,_,uS hi,λe he hbd=>?_⟩
       ·rw [Fc] at hx ⊢;rw [SA (by omega)] at hx ⊢;exact hx
       ·have hlt:=Jq htc (uS hi) he hbd;exact ih e.on hlt (by omega)
      rw [hr] at hmem;cases hmem
 intro fuel
 induction fuel with
 | zero=>
   intro listed Er c m w a hsz hcn hcl hI hR hE hF hFK hX hd hU
   have hla:∀i,i<full.length->listed.getD i false=true:=by
    intro i hi;have:=List.countP_eq_zero.1 (Nat.le_zero.1 hcn) i (KO.2 hi);simpa using this
   refine ⟨?_,hdone listed Er c m w a hla hI hR hE hFK hX hd hU⟩;apply xfk.2;intro i hi;obtain ⟨h1,h2,_⟩:=rW.1 hi;have:=hla i h1;rw [Fc] at h2 this;rw [SA (by omega)] at h2 this;simp only [xel] at h2 this;rw [h2] at this;cases this
 | succ fuel ih=>
   intro listed Er c m w a hsz hcn hcl hI hR hE hF hFK hX hd hU;refine ⟨λhr=>hdone listed Er c m w a (hready listed hsz hr) hI hR hE hFK hX hd hU,λi hi=>?_⟩;obtain ⟨h1,h2,o,ho,h3⟩:=rW.1 hi;have hmem:o ∈ full:=CT ho
   have hu:listed.getD i false=false:=by
    rw [Fc] at h2 ⊢;rw [SA (by omega)] at h2 ⊢;exact h2
   have hbef:∀j,sL tbl j i=true->listed.getD j false=true:=by
    intro j hbj;obtain ⟨ed,hed,hbd,hj⟩:=Hh htc ho hbj;have:=h3 ed hed hbd
    rcases hj with hj | hj
    ·rw [←hj];exact this
    ·exact hcl _ _ this hj
   obtain ⟨C,hs,hn⟩:=hJs _ m Er i o hI ho hu hbef
   have hfo:∀d,o.dst=some d->d<N:=by
    intro d h;have:=Iu.1 (show full.all _=true from hfit) o hmem;rw [h] at this;simpa using this
   unfold wpOp;rw [xea,ho];simp only;rw [if_pos (by simp [Region.wanted,hg o hmem])];refine .inl (Oper.wp_mono ?_ (zL (N:=N) hs hR hE (hF i h1 hu) hfo Q));rintro a' w' ⟨c',v,m',hC,g1,g2,g3,g4⟩
   have hD:Ap (λi=>listed.getD i false) i=λj=>(listed.setIfInBounds i true).getD j false:=by
    funext j
    by_cases hj:j=i
    ·subst hj;rw [kA,Fc,xfl (by omega)];rfl
    ·rw [eY hj,Fc,Fc,xfd (λe'=>hj e'.symm)]
   have hDj:∀j,(listed.setIfInBounds i true).getD j false=Ap (λi=>listed.getD i false) i j:=λj=>(congrFun hD j).symm;have hI':=hn v m' hC;rw [hD] at hI';refine ih _ _ c' m' w' a' (by simpa using hsz) ?_ (λx y hx hxy=>?_) hI' g1 g3 (λj hj hlj=>?_) (λj hj=>?_) (hX.trans g2.up) (g4.trans hd) (λt ht=>?_)
   ·have hlt:=ES (D:=λi=>listed.getD i false) (KO.2 h1) hu
    have heq:(λj=>!((listed.setIfInBounds i true).getD j false))=λj=>!(Ap (λi=>listed.getD i false) i j):=by
     funext j;rw [hDj]
    rw [heq];omega
   ·rw [hDj] at hx ⊢
    by_cases e:x=i
    ·subst e;have:=hbef y hxy
     by_cases e2:y=x
     ·subst e2;rw [kA]
     ·rw [eY e2];exact this
    ·rw [eY e] at hx;have:=hcl x y hx hxy
     by_cases e2:y=i
     ·subst e2;rw [kA]
     ·rw [eY e2];exact this
   ·rw [hDj] at hlj;have hne:j ≠ i:=by rintro rfl;rw [kA] at hlj;cases hlj
    rw [eY hne] at hlj;exact λid eL=>g2.fresh id (tU eL (by omega)) (hF j hj hlj id eL)
   ·exact λid eL=>g2.fresh id (tU eL (by omega)) (hFK j hj id eL)
   ·cases hdo:o.dst with
    | none=>exact hU t ht
    | some d=>
      have:=hW o hmem d hdo;show (if t=d then v else Er t)=E00 t;rw [if_neg (by rintro rfl;rw [ht] at this;cases this)];exact hU t ht
theorem Og (hc:∀i,i<full.length->∀j,j<full.length->QQ full tbl i j=true) (hni:∀i,i<full.length->sL tbl i i=false) {k:Nat} {rest:List Nat} {o:Oper} (hpx:PX P full tbl π k0 K (k::rest) fl E m) (hx:Qm o.op=true) (un:∀i ∈ k::rest,D i=false) (dn:∀i,i<full.length->i ∉ k::rest->D i=false->i ∈ fl/\Fm P full π k0 E m i)
  (slot:∀i o t,full[i]? = some o->o.dst=some t->D i=true->Er t=E t) (out:∀t,(∀i o,full[i]? = some o->o.dst=some t->D i=false)->Er t=E0 t) (base:∀t,(∀i o,full[i]? = some o->o.dst=some t->i ∈ k::rest)->E t=E0 t) (hkr:k ∉ rest) (p2:pw (EZ full tbl) rest=true) (fi:∀j ∈ fl,∀i ∈ k::rest,sL tbl i j=false)
  (ho:full[k]? = some o) (hu:D k=false) (hbef:∀j,sL tbl j k=true->D j=true):∃C:V->M->Prop,dW P o ((k0+k)::π) Er m C/\∀r m1,C r m1->∃is' fl' E',Jg P full tbl π k0 K E0 (Ap D k) is' fl' E' m1 (gG o.dst r Er):=by
 have hil:k<full.length:=(uG.1 ho).1
 have hag:∀t ∈ tC full o,Er t=E t:=by
  intro t htl
  by_cases hw:∃(j:Nat) (x:Oper),full[j]? = some x/\x.dst=some t
  ·obtain ⟨j,x,hx,hd⟩:=hw;exact slot j x t hx hd (hbef j ((Bw hc hx ho hd).2 htl))
  ·rw [out t λj x hx hd=>absurd ⟨j,x,hx,hd⟩ hw];exact (base t λj x hx hd=>absurd ⟨j,x,hx,hd⟩ hw).symm
 have hev:=sU (m:=m) (E:=E) (E':=Er) hag;simp only [PX,ho,hx,if_true] at hpx;refine ⟨_,Hl hx hpx hev,?_⟩;rintro r m1 ⟨hfl,hpx⟩;have hne:∀d,o.dst=some d->∀j y,full[j]? = some y->j ≠ k->y.dst ≠ some d:=λd hd j y hy hji=>(Bw hc ho hy hd).1 (λe=>hji e.symm);refine Jg.down hc hni hpx (λj hj=>?_) (λj hj hjn hDj=>?_) (λj y t hy ht hDj=>?_) (λt ht=>?_) (λt ht=>?_) p2 (λj hj y hy=>?_)
 ·rw [eY (by rintro rfl;exact hkr hj)];exact un j (by simp [hj])
 ·have hjk:j ≠ k:=by rintro rfl;rw [kA] at hDj;cases hDj
  rw [eY hjk] at hDj;obtain ⟨k1,k2⟩:=dn j hj (by simp [hjk,hjn]) hDj
  have hnb:sL tbl j k=false:=by
   cases hb:sL tbl j k with
   | false=>rfl
   | true=>rw [hbef j hb] at hDj;cases hDj
  have hmem:j ∈ fl.filter (λj=>!(sL tbl j k)):=Gu.2 ⟨k1,by simp [hnb]⟩;refine ⟨hmem,?_⟩;have k3:=hfl j hmem;unfold Fm uZ at k3 ⊢;cases hoj:full[j]? with
  | none=>rw [hoj] at k3;exact k3
  | some y=>
    rw [hoj] at k3;simp only at k3 ⊢;cases hdj:y.dst with
    | none=>rw [hdj] at k3;exact k3
    | some dj=>
      rw [hdj] at k3;simp only at k3 ⊢;cases hdo:o.dst with
      | none=>exact k3
      | some d=>
        have hat:∀t,t ≠ d->gG (some d) r E t=E t:=λt ht=>lA (by intro e;injection e with e;exact ht e.symm);rw [hat dj (λe2=>hne d hdo j y hoj hjk (by rw [hdj,e2]))];refine uQ k3 (sU (full:=full) (o:=y) (m:=m1) λt ht=>hat t λe2=>?_);subst e2;have hb:=(Bw hc ho hoj hdo).2 ht;rw [fi j k1 k (by simp)] at hb;cases hb
 ·by_cases e:j=k
  ·subst e;rw [ho] at hy;injection hy with hy;subst hy
   rw [ht];show (if t=t then r else _)=if t=t then r else _;rw [if_pos rfl,if_pos rfl]
  ·rw [eY e] at hDj;have h1:o.dst ≠ some t:=λhd=>hne t hd j y hy e ht;rw [lA h1,lA h1];exact slot j y t hy ht hDj
 ·have h1:o.dst ≠ some t:=λhd=>by have:=ht k o ho hd;rw [kA] at this;cases this
  rw [lA h1];refine out t λj y hy hj=>?_;have:=ht j y hy hj
  by_cases e:j=k
  ·subst e;exact hu
  ·rwa [eY e] at this
 ·have h1:o.dst ≠ some t:=λhd=>hkr (ht k o ho hd);rw [lA h1];exact base t λj y hy hj=>by simp [ht j y hy hj]
 ·exact fi j (Gu.1 hj).1 y (by simp [hy])
structure InvY (P:Program) (full:List Oper) (tbl:List Nat) (π:Pa) (k0:Nat) (K:Nat->dD->M->Prop) (E0:dD) (D:Nat->Bool) (k1 k2:Nat) (rest fl:List Nat) (E:dD) (m:M) (Er:dD):Prop where
 p1:PX P full tbl π k0 K (k1::k2::rest) fl E m
 p2:PX P full tbl π k0 K (k2::k1::rest) fl E m
 x1:∀o,full[k1]? = some o->Qm o.op=true
 x2:∀o,full[k2]? = some o->Qm o.op=true
 un:∀i ∈ k1::k2::rest,D i=false
 dn:∀i,i<full.length->i ∉ k1::k2::rest->D i=false->i ∈ fl/\Fm P full π k0 E m i
 slot:∀i o t,full[i]? = some o->o.dst=some t->D i=true->Er t=E t
 out:∀t,(∀i o,full[i]? = some o->o.dst=some t->D i=false)->Er t=E0 t
 base:∀t,(∀i o,full[i]? = some o->o.dst=some t->i ∈ k1::k2::rest)->E t=E0 t
 o1:pw (EZ full tbl) (k2::rest)=true
 o2:pw (EZ full tbl) (k1::rest)=true
 n1:k1 ∉ k2::rest
 n2:k2 ∉ k1::rest
 rb:∀y ∈ rest,sL tbl k1 y=true ∨ sL tbl k2 y=true
 fi:∀j ∈ fl,∀i ∈ k1::k2::rest,sL tbl i j=false
def JY (P:Program) (full:List Oper) (tbl:List Nat) (π:Pa) (k0:Nat) (K:Nat->dD->M->Prop) (E0:dD) (D:Nat->Bool) (m:M) (Er:dD):Prop:=
 (∃is fl E,Jg P full tbl π k0 K E0 D is fl E m Er) ∨ ∃k1 k2 rest fl E,InvY P full tbl π k0 K E0 D k1 k2 rest fl E m Er
theorem Hk {a b i:Nat} {l:List Nat} (h:i ∈ a::b::l):i ∈ b::a::l:=by
 simp only [AE] at h ⊢
 rcases h with h | h | h
 ·exact .inr (.inl h)
 ·exact .inl h
 ·exact .inr (.inr h)
theorem InvY.step {k1 k2:Nat} {rest:List Nat} (hc:∀i,i<full.length->∀j,j<full.length->QQ full tbl i j=true) (hni:∀i,i<full.length->sL tbl i i=false) (h:InvY P full tbl π k0 K E0 D k1 k2 rest fl E m Er) {i:Nat} {o:Oper} (ho:full[i]? = some o) (hu:D i=false) (hbef:∀j,sL tbl j i=true->D j=true) :
  ∃C:V->M->Prop,dW P o ((k0+i)::π) Er m C/\∀r m1,C r m1->JY P full tbl π k0 K E0 (Ap D i) m1 (gG o.dst r Er):=by
 have hil:i<full.length:=(uG.1 ho).1
 by_cases hin:i ∈ k1::k2::rest
 ·rcases AE.1 hin with rfl | hin
  ·obtain ⟨C,hs,hn⟩:=Og hc hni h.p1 (h.x1 o ho) h.un h.dn h.slot h.out h.base h.n1 h.o1 h.fi ho hu hbef;exact ⟨C,hs,λr m1 hC=>.inl (hn r m1 hC)⟩
  ·rcases AE.1 hin with rfl | hin
   ·obtain ⟨C,hs,hn⟩:=Og hc hni h.p2 (h.x2 o ho) (λj hj=>h.un j (Hk hj)) (λj hj hjn=>h.dn j hj (λe=>hjn (Hk e))) h.slot h.out (λt ht=>h.base t λj y hy hd=>Hk (ht j y hy hd)) h.n2 h.o2 (λj hj y hy=>h.fi j hj y (Hk hy)) ho hu hbef;exact ⟨C,hs,λr m1 hC=>.inl (hn r m1 hC)⟩
   ·exfalso
    rcases h.rb i hin with hb | hb
    ·have:=hbef _ hb;rw [h.un _ (by simp)] at this;cases this
    ·have:=hbef _ hb;rw [h.un _ (by simp)] at this;cases this
 ·have hag:∀t ∈ tC full o,Er t=E t:=by
   intro t htl
   by_cases hw:∃(j:Nat) (x:Oper),full[j]? = some x/\x.dst=some t
   ·obtain ⟨j,x,hx,hd⟩:=hw;exact h.slot j x t hx hd (hbef j ((Bw hc hx ho hd).2 htl))
   ·rw [h.out t λj x hx hd=>absurd ⟨j,x,hx,hd⟩ hw];exact (h.base t λj x hx hd=>absurd ⟨j,x,hx,hd⟩ hw).symm
  have hev:=sU (m:=m) (E:=E) (E':=Er) hag;obtain ⟨q1,q2⟩:=h.dn i hil hin hu;unfold Fm uZ at q2;rw [ho] at q2;simp only at q2;cases hd0:o.dst with
  | none=>rw [hd0] at q2;exact q2.elim
  | some d=>
    rw [hd0] at q2;simp only at q2;refine ⟨_,Jr (uQ q2 hev),?_⟩;rintro r m1 ⟨rfl,rfl⟩;have hne:∀j y,full[j]? = some y->j ≠ i->y.dst ≠ some d:=λj y hy hji=>(Bw hc ho hy hd0).1 (λe=>hji e.symm);refine .inr ⟨k1,k2,rest,fl,E,h.p1,h.p2,h.x1,h.x2,λj hj=>?_,λj hj hjn hDj=>?_,λj y t hy ht hDj=>?_,λt ht=>?_,h.base,h.o1,h.o2,h.n1,h.n2,h.rb,h.fi⟩
    ·rw [eY (by rintro rfl;exact hin hj)];exact h.un j hj
    ·have hji:j ≠ i:=by rintro rfl;rw [kA] at hDj;cases hDj
     rw [eY hji] at hDj;exact h.dn j hj hjn hDj
    ·by_cases e:j=i
     ·subst e;rw [ho] at hy;injection hy with hy;subst hy
      rw [hd0] at ht;injection ht with ht;subst ht
      show (if d=d then E d else Er d)=E d;rw [if_pos rfl]
     ·rw [eY e] at hDj;rw [lA (by intro e2;injection e2 with e2;subst e2;exact hne j y hy e ht)];exact h.slot j y t hy ht hDj
    ·have h1:(some d:Option Nat) ≠ some t:=λe=>by injection e with e;subst e;have:=ht i o ho hd0;rw [kA] at this;cases this
     rw [lA h1];refine h.out t λj y hy hj=>?_;have:=ht j y hy hj
     by_cases e:j=i
     ·subst e;exact hu
     ·rwa [eY e] at this
theorem down2 (hc:∀i,i<full.length->∀j,j<full.length->QQ full tbl i j=true) (hni:∀i,i<full.length->sL tbl i i=false) {tail:List Nat} {K2:dD->M->Prop}:∀ {pre fl:List Nat} {E:dD},(∀i ∈ pre,∀o,full[i]? = some o->Qm o.op=false)->PX P full tbl π k0 (λ_ E m=>K2 E m) pre fl E m->(∀i ∈ pre++tail,D i=false)->(∀i,i<full.length->i ∉ pre++tail->D i=false->i ∈ fl/\Fm P full π k0 E m i) ->
  (∀i o t,full[i]? = some o->o.dst=some t->D i=true->Er t=E t)->(∀t,(∀i o,full[i]? = some o->o.dst=some t->i ∈ pre++tail)->E t=E0 t)->pw (λx y=>!(sL tbl y x) && x != y) (pre++tail)=true->(∀j ∈ fl,∀i ∈ pre++tail,sL tbl i j=false) ->
  ∃E',K2 E' m/\(∀i,i<full.length->i ∉ tail->D i=false->i ∈ pre.reverse++fl/\Fm P full π k0 E' m i)/\(∀i o t,full[i]? = some o->o.dst=some t->D i=true->Er t=E' t)/\(∀t,(∀i o,full[i]? = some o->o.dst=some t->i ∈ tail)->E' t=E0 t)/\(∀j ∈ pre.reverse++fl,∀i ∈ tail,sL tbl i j=false):=by
 intro pre
 induction pre with
 | nil=>intro fl E _ h1 h2 h3 h4 h6 h7 h8;exact ⟨E,h1,by simpa using h3,h4,h6,by simpa using h8⟩
 | cons i pre ih=>
   intro fl E hX h1 h2 h3 h4 h6 h7 h8;cases ho:full[i]? with
   | none=>simp only [PX,ho] at h1
   | some o=>
     have hx:=hX i (by simp) o ho;have hil:i<full.length:=(uG.1 ho).1;simp only [PX,ho,hx,EY,if_false] at h1;obtain ⟨v,hax,hpx⟩:=h1;obtain ⟨p1,p2⟩:=Mn (a:=i) (l:=pre++tail) h7;cases hd:o.dst with
     | none=>
       have:=hc i hil i hil;unfold QQ at this;rw [ho] at this;simp [hd,hx] at this
     | some d=>
       rw [hd] at hpx;have hne:∀j y,full[j]? = some y->j ≠ i->y.dst ≠ some d:=λj y hy hji=>(Bw hc ho hy hd).1 (λe=>hji e.symm);have hat:∀t,t ≠ d->gG (some d) v E t=E t:=λt ht=>lA (by intro e;injection e with e;exact ht e.symm)
       have hself:∀t ∈ tC full o,t ≠ d:=λt ht e=>by
        subst e;have:=(Bw hc ho ho hd).2 ht;rw [hni i hil] at this;cases this
       have a1:∀j,j<full.length->j ∉ pre++tail->D j=false->j ∈ i::fl/\Fm P full π k0 (gG (some d) v E) m j:=by
        intro j hj hjn hDj
        by_cases e:j=i
        ·subst e;refine ⟨by simp,?_⟩;unfold Fm uZ;rw [ho];simp only [hd];have:gG (some d) v E d=v:=by show (if d=d then v else E d)=v;rw [if_pos rfl]
         rw [this];exact uQ hax (sU λt ht=>hat t (hself t ht))
        ·obtain ⟨k1,k2⟩:=h3 j hj (by rw [iD,AE];rintro (e2 | e2);exact e e2;exact hjn e2) hDj;refine ⟨by simp [k1],?_⟩;unfold Fm uZ at k2 ⊢;cases hoj:full[j]? with
         | none=>rw [hoj] at k2;exact k2
         | some y=>
           rw [hoj] at k2;simp only at k2 ⊢;cases hdj:y.dst with
           | none=>rw [hdj] at k2;exact k2
           | some dj=>
             rw [hdj] at k2;simp only at k2 ⊢;have hdd:dj ≠ d:=λe2=>hne j y hoj e (by rw [hdj,e2]);rw [hat dj hdd];refine uQ k2 (sU (full:=full) (o:=y) (m:=m) λt ht=>?_);refine hat t λe2=>?_;subst e2;have hb:=(Bw hc ho hoj hd).2 ht;rw [h8 j k1 i (by simp)] at hb;cases hb
       have a2:∀j y t,full[j]? = some y->y.dst=some t->D j=true->Er t=gG (some d) v E t:=by
        intro j y t hy ht hDj;rw [hat t (λe=>by subst e;exact hne j y hy (λe2=>by subst e2;rw [h2 j (by simp)] at hDj;cases hDj) ht)];exact h4 j y t hy ht hDj
       have a3:∀t,(∀j y,full[j]? = some y->y.dst=some t->j ∈ pre++tail)->gG (some d) v E t=E0 t:=by
        intro t ht
        have hti:t ≠ d:=λe=>by
         subst e;have:=ht i o ho hd;have h9:=p1 i this;simp at h9
        rw [hat t hti];exact h6 t λj y hy hj=>LZ _ (ht j y hy hj)
       have a4:∀j ∈ i::fl,∀y ∈ pre++tail,sL tbl y j=false:=by
        intro j hj y hy
        rcases AE.1 hj with rfl | hj
        ·have h9:=p1 y hy;simp only [HO,QM] at h9;exact h9.1
        ·exact h8 j hj y (LZ _ hy)
       obtain ⟨E',g1,g2,g3,g4,g5⟩:=ih (fl:=i::fl) (E:=gG (some d) v E) (λj hj=>hX j (by simp [hj])) hpx (λj hj=>h2 j (LZ _ hj)) a1 a2 a3 p2 a4;refine ⟨E',g1,λj hj hjn hDj=>?_,g3,g4,λj hj y hy=>g5 j ?_ y hy⟩
       ·have:=g2 j hj hjn hDj;rw [List.reverse_cons,GX];exact this
       ·rw [List.reverse_cons,GX] at hj;exact hj
end
def TN (full:List Oper) (tbl:List Nat) (pre:List Nat) (k1 k2:Nat) (rest:List Nat):Bool:=
 CX full tbl && full.all (λo=>o.guard.isNone) && (List.range full.length).all (λi=>(List.range full.length).all λj=>QQ full tbl i j) &&
 (List.range full.length).all (λi=>(pre++k1::k2::rest).contains i) && (List.range full.length).all (λi=>!(sL tbl i i)) &&
 pre.all (λi=>match full[i]? with | some o=>!Qm o.op | none=>true) && (match full[k1]? with | some o=>Qm o.op | none=>true) && (match full[k2]? with | some o=>Qm o.op | none=>true) &&
 pw (λx y=>!(sL tbl y x) && x != y) (pre++k1::k2::rest) && pw (EZ full tbl) (k2::rest) && pw (EZ full tbl) (k1::rest) && !((k2::rest).contains k1) && !((k1::rest).contains k2) && rest.all (λy=>sL tbl k1 y || sL tbl k2 y)
theorem SW_px2 {P:Program} {N:Nat} {π:Pa} {k:Nat} {E:dD} {m:M} {Q:Exit->Nat->dD->M->Prop} {id:Nat} {ops:List Oper} (tbl pre:List Nat) (k1 k2:Nat) (rest:List Nat) (hm:P.follows .mixedOrders=true) (hck:TN ops tbl pre k1 k2 rest=true)
  (h:∀K:Nat->dD->M->Prop,(∀k E m,Q .normal k E m->K k E m)->PX P ops tbl π k (λ_ E m=>PX P ops tbl π k K (k1::k2::rest) pre.reverse E m/\PX P ops tbl π k K (k2::k1::rest) pre.reverse E m) pre [] E m):SW P N π (.region id ops.toArray true) k E m Q:=by
 intro hf c a w h1 h2 h3;have h:=h (Q .normal) λ_ _ _ x=>x;simp only [TN,HO,Iu,KO,Bq,xed,Option.isNone_iff_eq_none,QM,QO] at hck;obtain ⟨⟨⟨⟨⟨⟨⟨⟨⟨⟨⟨⟨⟨c1,c2⟩,c3⟩,c4⟩,c5⟩,c6⟩,c7⟩,c8⟩,c9⟩,c10⟩,c11⟩,c12⟩,c13⟩,c14⟩:=hck;refine wp_region_any hm ?_;have hw:({ w with drawn:=w.drawn+1 }:World)=w.drewN 1:=rfl;rw [hw]
 have hzero:∀i,(Array.replicate ops.toArray.size false).getD i false=false:=by
  intro i;rw [Fc,xev]
  split <;> rfl
 have hnc:∀ {a:Nat} {l:List Nat},l.contains a=false->a ∉ l:=λh e=>by rw [xed.2 e] at h;cases h
 obtain ⟨E1,⟨g1a,g1b⟩,g2,g3,g4,g5⟩:=down2 (D:=λi=>(Array.replicate ops.toArray.size false).getD i false) (E0:=E) (Er:=E) (tail:=k1::k2::rest) c3 c5 (λi hi o ho=>by have:=c6 i hi;rw [ho] at this;simpa using this) h (λi _=>hzero i) (λi hi hin _=>absurd (c4 i hi) hin)
  (λi o t _ _ hi=>by have hi2:(Array.replicate ops.toArray.size false).getD i false=true:=hi;exact absurd ((hzero i).symm.trans hi2) (by decide)) (λ_ _=>rfl) c9 (λ_ h=>nomatch h)
 rw [gS] at g2 g5
 have hI:InvY P ops tbl π k (Q .normal) E (λi=>(Array.replicate ops.toArray.size false).getD i false) k1 k2 rest pre.reverse E1 m E:=
  ⟨g1a,g1b,λo ho=>by rw [ho] at c7;exact c7,λo ho=>by rw [ho] at c8;exact c8,λi _=>hzero i,g2,g3,λ_ _=>rfl,g4,c10,c11,hnc c12,hnc c13,c14,g5⟩
 refine px_runJ (k0:=k) (Jd:=JY P ops tbl π k (Q .normal) E) (tbl:=tbl) (K:=Q .normal) (λD m Er hall hJ=>?_) (λD m Er i o hJ ho hu hbef=>?_) (Q:=λe a' w'=>xA π N (wr (.region id ops.toArray true)) E c m w a (Q e) a' w') (W:=wr (.region id ops.toArray true)) (E00:=E) (c0:=c) (mm:=m) (w0:=w) (a0:=a) (λa' w' hp=>hp) (by simpa [Eb] using hf) (λo ho' d hd=>?_) c1 c3 c2 c5 _ _ E c m (w.drewN 1) a (by simp) ?_ (λi j hi _=>by rw [hzero] at hi;cases hi) (.inr ⟨k1,k2,rest,pre.reverse,E1,hI⟩) (h1.drewN 1) h2 (λi _ _=>h3 _ (by omega)) (λj hj=>h3 j (by omega)) (oP.drewN π c m w 1) rfl (λ_ _=>rfl)
 ·rcases hJ with ⟨is,fl,E2,hI⟩ | ⟨k1,k2,rest,fl,E2,hI⟩
  ·have his:is=[]:=by
    cases his:is with
    | nil=>rfl
    | cons i rest=>
      exfalso
      have hun:=hI.un i (by rw [his];simp);have hpx:=hI.px;rw [his] at hpx;cases hoi:ops[i]? with
      | none=>simp only [PX,hoi] at hpx
      | some o=>have:=hall i (uG.1 hoi).1;rw [hun] at this;cases this
   subst his
   have hEr:Er=E2:=by
    funext t
    by_cases hw:∃(j:Nat) (x:Oper),ops[j]? = some x/\x.dst=some t
    ·obtain ⟨j,x,hx,hd2⟩:=hw;exact hI.slot j x t hx hd2 (hall j (uG.1 hx).1)
    ·have h1:=hI.out t λ(j:Nat) (x:Oper) hx hd=>absurd (Exists.intro j (Exists.intro x ⟨hx,hd⟩)) hw;have h2:=hI.base t λ(j:Nat) (x:Oper) hx hd=>absurd (Exists.intro j (Exists.intro x ⟨hx,hd⟩)) hw;rw [h1,h2]
   subst hEr;exact hI.px
  ·exfalso
   have hun:=hI.un k1 (by simp);have hpx:=hI.p1;cases hoi:ops[k1]? with
   | none=>simp only [PX,hoi] at hpx
   | some o=>have:=hall k1 (uG.1 hoi).1;rw [hun] at this;cases this
 ·rcases hJ with ⟨is,fl,E2,hI⟩ | ⟨k1,k2,rest,fl,E2,hI⟩
  ·obtain ⟨C,hs,hn⟩:=hI.step c3 c5 ho hu hbef;exact ⟨C,hs,λr m1 hC=>.inl (hn r m1 hC)⟩
  ·exact hI.step c3 c5 ho hu hbef
 ·simp only [wr,xex,beq_iff_eq];exact ⟨o,ho',hd⟩
 ·have:=xff (p:=λi=>!((Array.replicate ops.toArray.size false).getD i false)) (l:=List.range ops.length);simpa using this
section
variable {P:Program} {π:Pa} {k0 i d:Nat} {E:dD} {m m1:M} {ty:TypeId} {pos:String} {after:Array Edge} {g:Option (Nat × Bool)}
@[go_sem] theorem lo_len {T:TypeId} {x:Operand}:Gy P k0 i π E m1 ⟨some d,.call ⟨.builtin .len,#[x],#[T]⟩,ty,pos,after,g⟩=IS P T (ev m1 E x) (λr=>r=E d):=rI rfl
end
