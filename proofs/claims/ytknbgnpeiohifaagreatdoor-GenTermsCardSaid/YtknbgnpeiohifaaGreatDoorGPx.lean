import Derived.Test.YtknbgnpeiohifaaGreatDoorGH1
namespace Go.Proofs.YtknbgnpeiohifaaGreatDoor.Abs
open Go.RowKit
def isMk:Op->Bool
 | .makeSlice _ (.const _) _=>false
 | .makeSlice _ _ _=>true
 | _=>false
def Un (op:Op):Bool:=isEf op || isAl op || isMk op
def nax (P:Program) (full:List Oper) (o:Oper) (q:Pa) (E:gE) (m:M) (v:V):Prop:=
 match o.guard with
 | none=>ax P o.op q (ev m E) m v
 | some _=>∃run,Qm full o.guard E run/\(run=true->ax P o.op q (ev m E) m v)/\(run=false->v=.lit undef)
def Fs (P:Program) (full:List Oper) (π:Pa) (k0:Nat) (E:gE) (m:M) (i:Nat):Prop:=
 match full[i]? with
 | some o=>(match o.dst with | some d=>nax P full o ((k0+i)::π) E m (E d) | none=>False)
 | none=>False
theorem VV {P:Program} {full:List Oper} {o:Oper} {q:Pa} {E:gE} {m:M} {v:V} (h:nax P full o q E m v):∃run,Qm full o.guard E run/\(run=true->ax P o.op q (ev m E) m v)/\(run=false->v=.lit undef):=by
 unfold nax at h;cases hg:o.guard with
 | none=>rw [hg] at h;exact ⟨true,rfl,λ_=>h,λe=>nomatch e⟩
 | some g=>rw [hg] at h;exact h
theorem Iu {full:List Oper} {o:Oper} {E E':gE} {run:Bool} (h:Qm full o.guard E run) (hE:∀t ∈ BK full o,E' t=E t):Qm full o.guard E' run:=by
 cases hg:o.guard with
 | none=>rw [hg] at h;exact h
 | some g=>
   obtain ⟨j,b⟩:=g;rw [hg] at h;obtain ⟨d,hd,hv⟩:=h;have hm:d ∈ BK full o:=by unfold BK RM;rw [hg];simp [hd]
   exact ⟨d,hd,by rw [hE d hm];exact hv⟩
theorem Ka {P:Program} {full:List Oper} {o:Oper} {q:Pa} {E E':gE} {m:M} {v:V} (h:nax P full o q E m v) (hE:∀t ∈ BK full o,E' t=E t):nax P full o q E' m v:=by
 unfold nax at h ⊢;cases hg:o.guard with
 | none=>rw [hg] at h;exact Mc h (LW (full:=full) (o:=o) (m:=m) hE)
 | some g=>
   rw [hg] at h;obtain ⟨run,h1,h2,h3⟩:=h;exact ⟨run,by rw [←hg] at h1 ⊢;exact Iu h1 hE,λhr=>Mc (h2 hr) (LW (full:=full) (o:=o) (m:=m) hE),h3⟩
def Wi:Op->Bool
 | .makeSlice _ (.tmp _) (.tmp _)=>true
 | _=>false
def Wj (full:List Oper) (i:Nat):Bool:=match full[i]? with | some o=>(match o.op with | .alloc _=>true | op=>Wi op) && o.guard.isNone | none=>false
def Sy (full:List Oper) (i:Nat):Bool:=match full[i]? with
 | some o=>(match o.op,o.dst with
   | .assign _,some d=>(full.take i).any λy=>(BK full y).contains d
   | .move _,some d=>(full.take i).any λy=>(BK full y).contains d
   | _,_=>false)
 | none=>false
def isM (full:List Oper) (i:Nat):Bool:=match full[i]? with | some o=>Wi o.op && o.guard.isNone | none=>false
def rdO (P:Program) (E:gE) (m:M) (o:Oper):Prop:=match o.op with | .makeSlice T (.tmp l) (.tmp k)=>Fy P [] m T (E l) (E k) (λ_ _=>True) | _=>False
def Ld (P:Program) (full:List Oper) (π:Pa) (k0:Nat) (K:Nat->gE->M->Prop):List (Nat × List Nat)->gE->M->Prop
 | [],E,m=>K (k0+full.length) E m
 | (i,lt)::is,E,m=>match full[i]? with
   | some o=>
     if Un o.op then ∃run,Qm full o.guard E run/\(run=true->jF P o ((k0+i)::π) E m (λr m1=>(∀j ∈ lt,Fs P full π k0 E m1 j)/\Ld P full π k0 K is (mZ o.dst r E) m1))/\(run=false->Ld P full π k0 K is (mZ o.dst (.lit undef) E) m)
     else ∃v,nax P full o ((k0+i)::π) E m v/\Ld P full π k0 K is (mZ o.dst v E) m
   | none=>match full[i - full.length]? with
     | some o=>rdO P E m o/\Ld P full π k0 K is E m
     | none=>False
def mdO (op:Op):Bool:=match op with
 | .load _ _=>true
 | .call cl=>(match cl.callee with | .value _=>true | _=>(tH op).any λx=>match x with | .global _=>true | _=>false)
 | op=>(tH op).any λx=>match x with | .global _=>true | _=>false
def md (full:List Oper) (j:Nat):Bool:=match full[j]? with | some o=>mdO o.op | none=>true
def Ji (full:List Oper) (tbl:List Nat):List Nat->List (Nat × List Nat)->Bool
 | _,[]=>true
 | fl,(i,lt)::is=>match full[i]? with
   | some o=>if Un o.op then (fl.filter (λj=>!(HD tbl j i))).filter (md full) == lt && Ji full tbl (fl.filter (λj=>!(HD tbl j i))) is else Ji full tbl (i::fl) is
   | none=>Ji full tbl fl is
def xOk (full:List Oper) (tbl:List Nat) (i j:Nat):Bool:=
 match full[i]?,full[j]? with
 | some x,some y=>(match x.dst with
   | some d=>(i == j || y.dst != some d) && (!((BK full y).contains d) || HD tbl i j || HD tbl j i && Sy full i)
   | none=>Un x.op)
 | _,_=>false
abbrev Mk:=Pa × Bool × List V
def Nu (P:Program) (op:Op) (q:Pa) (E:gE):Option (V × Bool × List V):=
 match op with
 | .alloc T=>(cZ P T).map λzs=>(.ptr q 0,false,zs)
 | .makeSlice T (.tmp l) (.tmp k)=>(match P.underlying T,E l,E k with
   | some (.slice e),.lit (.int _ n),.lit (.int _ n2)=>
     (match cC P e,cZ P e,(P.info? e).map (·.bytes) with
      | some s,some zs,some by_=>if n=n2/\0<=n/\0<s/\by_<=65536/\zs.length=s/\n<=1073741824 then some (.vec q s n.toNat,true,(List.replicate n.toNat (zs.map V.toHp)).flatten) else none
      | _,_,_=>none)
   | _,_,_=>none)
 | _=>none
def Kb (m:M) (x:Mk):M:=match x.2.1 with | false=>m.set x.1 (x.2.2.map V.raw0) | true=>m.hset x.1 x.2.2
def Tc (m:M) (L:List Mk):M:=L.foldl Kb m
def LA (π:Pa) (k0:Nat) (D:Nat->Bool) (cl:Nat->Bool × List V) (sch:List (Nat × List Nat)):List Mk:=((sch.map Prod.fst).filter D).map λi=>((k0+i)::π,cl i)
def KD (full:List Oper) (tbl:List Nat) (x y:Nat):Bool:=
 (if full.length<=x then !(HD tbl y (x - full.length)) else !(match full[x]? with | some o=>Un o.op || Sy full x | none=>false) || (if full.length<=y then HD tbl x (y - full.length) else HD tbl x y || Wj full y)) && !(HD tbl y x) && x != y
def pxChk (full:List Oper) (tbl:List Nat) (ord:List Nat):Bool:=
 Rr full tbl && (List.range full.length).all (λi=>(List.range full.length).all λj=>xOk full tbl i j) &&
 (List.range full.length).all (λi=>ord.contains i && (!(isM full i) || ord.contains (full.length+i))) && pw (KD full tbl) ord && (List.range full.length).all (λi=>!(HD tbl i i))
section
variable {P:Program} {op:Op} {o:Oper} {q:Pa} {E E':gE} {m:M} {v:V} {kc:Bool × List V} {full:List Oper} {i:Nat}
theorem VY {T:TypeId} {l k:Nat} {C:V->M->Prop}:Fy P q m T (E l) (E k) C ↔ ∃v kc,Nu P (.makeSlice T (.tmp l) (.tmp k)) q E=some (v,kc)/\C v (Kb m (q,kc)):=by
 constructor
 ·intro h;unfold Fy at h
  split at h
  ·rename_i e k1 n k2 n2 hu hl hk
   split at h
   ·rename_i s zs by_ hsz hzc hby;obtain ⟨h1,h2,h3,h4,h5,h6,hC⟩:=h;refine ⟨.vec q s n.toNat,(true,(List.replicate n.toNat (zs.map V.toHp)).flatten),?_,hC⟩;simp only [Nu,hu,hl,hk,hsz,hzc,hby];exact cX ⟨h1,h2,h3,h4,h5,h6⟩
   ·exact h.elim
  ·exact h.elim
 ·rintro ⟨v,kc,h,hC⟩;simp only [Nu] at h
  split at h
  ·rename_i e k1 n k2 n2 hu hl hk
   split at h
   ·rename_i s zs by_ hsz hzc hby
    split at h
    ·rename_i hh
     injection h with h
     injection h with e1 e2
     subst e1 e2;obtain ⟨h1,h2,h3,h4,h5,h6⟩:=hh;simp only [Fy,hu,hl,hk,hsz,hzc,hby];exact ⟨h1,h2,h3,h4,h5,h6,hC⟩
    ·cases h
   ·cases h
  ·cases h
theorem mk_step (hA:Wj full i=true) (ho:full[i]? = some o) {C:V->M->Prop}:jF P o q E m C ↔ ∃v kc,Nu P o.op q E=some (v,kc)/\C v (Kb m (q,kc)):=by
 unfold Wj at hA;rw [ho] at hA;obtain ⟨dst,op,ty,pos,after,guard⟩:=o;cases op <;> try (cases hA;done)
 case alloc T=>
  simp only [jF,Nu];cases cZ P T with
  | none=>simp
  | some zs=>exact ⟨λh=>⟨_,_,rfl,h⟩,λ⟨_,_,h1,h2⟩=>by injection h1 with h1;injection h1 with h1 h3;subst h1 h3;exact h2⟩
 case makeSlice T l k=>
  cases l <;> try (cases hA;done)
  cases k <;> try (cases hA;done)
  exact VY
theorem QI (hE:∀t ∈ BK full o,E' t=E t):Nu P o.op q E'=Nu P o.op q E:=by
 obtain ⟨dst,op,ty,pos,after,guard⟩:=o;cases op <;> try rfl
 rename_i T l k;cases l <;> try rfl
 rename_i l;cases k <;> try rfl
 rename_i k;simp only [BK,tH,List.filterMap_cons,List.filterMap_nil,Ri,Di,forall_eq_or_imp] at hE;simp only [Nu];rw [hE.1,hE.2.1]
theorem XB {T:TypeId} (h:o.op=.alloc T):Nu P o.op q E'=Nu P o.op q E:=by rw [h];rfl
theorem Hm (hA:Wj full i=true) (ho:full[i]? = some o):o.guard=none/\Un o.op=true/\((∃T,o.op=.alloc T) ∨ isM full i=true):=by
 unfold Wj at hA;unfold isM;rw [ho] at hA ⊢;obtain ⟨dst,op,ty,pos,after,guard⟩:=o;simp only [Su,Option.isNone_iff_eq_none] at hA ⊢;cases op <;> try (cases hA.1;done)
 case alloc T=>exact ⟨hA.2,rfl,.inl ⟨T,rfl⟩⟩
 case makeSlice T l k=>
  cases l <;> try (cases hA.1;done)
  exact ⟨hA.2,rfl,.inr hA⟩
end
def hfk (c:Conc) (m:M) (x:Mk) (b:Nat) (cs:Array Value):Prop:=match x.2.1 with
 | false=>c.ρ x.1=some b/\CR c x.2.2 cs.toList/\CZ c m x.1
 | true=>c.κ (.priv x.1)=some (.arr b cs.size 1 0)/\x.2.2.length<=cs.size/\CR c x.2.2 (cs.toList.take x.2.2.length)
def IV (c:Conc) (x:Mk) (b:Nat):Prop:=match x.2.1 with | false=>c.ρ x.1=some b | true=>∃n,c.κ (.priv x.1)=some (.arr b n 1 0)
structure Hf (n0:Nat) (c:Conc) (m:M) (w:World) (x:Mk):Prop where
 fW:∃b t cs,hfk c m x b cs/\CY w b t cs/\(∀u ∈ cs.toList,u.oneCell'=true)/\NI c.G b/\¬ fN c m b/\¬ c.lit b/\n0<=b
section
variable {c c':Conc} {m m':M} {w w':World} {x:Mk} {q π:Pa} {n0 b b':Nat} {cs:Array Value}
theorem hfk.bk (h:hfk c m x b cs):IV c x b:=by
 unfold hfk at h;unfold IV
 split at h
 ·exact h.1
 ·exact ⟨_,h.1⟩
theorem IV.mono (hl:Le c c') (h:IV c x b):IV c' x b:=by
 unfold IV at h ⊢
 split at h
 ·exact hl.ρ _ _ h
 ·exact h.imp λ_ h=>hl.κ _ _ h
theorem IV.uniq (h:IV c x b) (h':IV c x b'):b=b':=by
 obtain ⟨p,kd,vs⟩:=x;cases kd with
 | false=>have h:c.ρ p=some b:=h;have h':c.ρ p=some b':=h';rw [h] at h';injection h'
 | true=>obtain ⟨n,h⟩:=h;obtain ⟨n',h'⟩:=h';have h:=h.symm.trans h';injection h with h;injection h
theorem Hf.step (h:Hf n0 c m w x) (hX:qK q c m w c' m' w') (hp:¬ q <:+ x.1):Hf n0 c' m' w' x:=by
 obtain ⟨b,t,cs,h1,h2,h4,h5,h6,h7,h8⟩:=h;have hlt:=h2.lt;refine ⟨b,t,cs,?_,(hX.heap b hlt h6 (.inr h5)).trans h2,h4,λo=>?_,λho=>h6 (hX.own b hlt ho),λhl=>h7 (hX.lits b hlt hl),h8⟩
 ·unfold hfk at h1 ⊢
  split at h1
  ·exact ⟨hX.le.ρ _ _ h1.1,h1.2.1.mono hX.le,hX.keep _ hp h1.2.2⟩
  ·exact ⟨hX.le.κ _ _ h1.1,h1.2.1,h1.2.2.mono hX.le⟩
 ·rw [hX.book b hlt h6 o];exact h5 o
theorem Hf.promote {c0:Conc} {m0:M} {w0:World} (h:gT c m w) (hX:qK π c0 m0 w0 c m w) (hh:Hf w0.heap.size c m w x) (hp:π <:+ x.1) :
  ∃c',gT c' (Kb m x) w/\qK π c0 m0 w0 c' (Kb m x) w/\Le c c'/\c'.ρ=c.ρ/\(∀p,c'.κ (.priv p)=c.κ (.priv p))/\(∀b,fN c' (Kb m x) b->fN c m b ∨ IV c x b)/\(∀id,id ≠ x.1->fO c id->fO c' id)/\(∀id,id ≠ x.1->CZ c m id->CZ c' (Kb m x) id)/\c'.G=c.G/\c'.lit=c.lit:=by
 obtain ⟨p,kd,vs⟩:=x;obtain ⟨b,t,cs,h1,h2,h4,h5,h6,h7,h8⟩:=hh;cases kd with
 | false=>
   obtain ⟨g1,g2,g3⟩:=h1;have hH:Half w0.heap.size c m w p vs:=⟨⟨b,t,cs,g1,h2,g2,h4,h5,h6,h7,h8⟩,g3⟩;obtain ⟨k1,k2,k3⟩:=hH.promote h;exact ⟨c.full1 p,k1,hX.promote h hH hp,k2,rfl,λ_=>rfl,k3,λid gG hf=>hf.promote gG,λid gG hb=>hb.promote gG,rfl,rfl⟩
 | true=>
   obtain ⟨g1,g2,g3⟩:=h1;obtain ⟨k1,k2⟩:=h.hput g1 h2 h6 h7 h5 g2 g3 h4;exact ⟨c,k1,hX.hput λb' hb' ho=>(k2 b' ho).elim (λho=>hX.own b' hb' ho) λe=>zb,.refl c,rfl,λ_=>rfl,λb' ho=>(k2 b' ho).imp (λh=>h) λe=>by rw [e];exact ⟨_,g1⟩,λ_ _ h=>h,λid gG hb=>⟨hb.blk,hb.anon,hb.cell,hb.ver,hb.tok⟩,rfl,rfl⟩
structure Hfs (n0:Nat) (c:Conc) (m:M) (w:World) (L:List Mk):Prop where
 all:∀x ∈ L,Hf n0 c m w x
 inj:∀x ∈ L,∀y ∈ L,∀b,IV c x b->IV c y b->x.1=y.1
theorem Hfs.promote {c0:Conc} {m0:M} {w0:World}:∀(L:List Mk) {R:List Mk} {c:Conc} {m:M},gT c m w->qK π c0 m0 w0 c m w->Hfs w0.heap.size c m w (L++R)->(L++R).Pairwise (λx y=>y.1 ≠ x.1)->(∀x ∈ L,π <:+ x.1) ->
  ∃c',gT c' (Tc m L) w/\qK π c0 m0 w0 c' (Tc m L) w/\Le c c'/\Hfs w0.heap.size c' (Tc m L) w R/\∀id,(∀x ∈ L,id ≠ x.1)->fO c id->fO c' id:=by
 intro L
 induction L with
 | nil=>intro R c m h hX hh _ _;exact ⟨c,h,hX,.refl c,hh,λ_ _ x=>x⟩
 | cons x L ih=>
   intro R c m h hX hh hp hπ;rw [Ri,List.pairwise_cons] at hp;obtain ⟨c1,k1,k2,k3,k4,k5,k6,k7,k8,k9,k10⟩:=(hh.all x zd).promote h hX (hπ x zd)
   have hbk':∀y b,IV c1 y b->IV c y b:=by
    intro y b hy;unfold IV at hy ⊢;rw [k4] at hy;simp only [k5] at hy;exact hy
   have hn:Hfs w0.heap.size c1 (Kb m x) w (L++R):=by
    refine ⟨λy hy=>?_,λy hy z hz b h1 h2=>hh.inj y (Nm _ hy) z (Nm _ hz) b (hbk' y b h1) (hbk' z b h2)⟩;obtain ⟨b,t,cs,h1,h2,h4,h5,h6,h7,h8⟩:=hh.all y (Nm _ hy);refine ⟨b,t,cs,?_,h2,h4,by rw [k9];exact h5,λho=>?_,by rw [k10];exact h7,h8⟩
    ·unfold hfk at h1 ⊢
     split at h1
     ·exact ⟨by rw [k4];exact h1.1,h1.2.1.mono k3,k8 _ (hp.1 y hy) h1.2.2⟩
     ·exact ⟨by rw [k5];exact h1.1,h1.2.1,h1.2.2.mono k3⟩
    ·rcases k6 b ho with ho | ho
     ·exact h6 ho
     ·exact hp.1 y hy (hh.inj y (Nm _ hy) x zd b h1.bk ho)
   obtain ⟨c',g1,g2,g3,g4,g5⟩:=ih (R:=R) k1 k2 hn hp.2 λy hy=>hπ y (by simp [hy]);exact ⟨c',g1,g2,k3.trans g3,g4,λid gG hf=>g5 id (λy hy=>gG y (by simp [hy])) (k7 id (gG x zd) hf)⟩
theorem mk_run {P:Program} {full:List Oper} {i N:Nat} {o:Oper} {E:gE} {a:Act} {v:V} {kc:Bool × List V} (hA:Wj full i=true) (ho:full[i]? = some o) (hv:Nu P o.op q E=some (v,kc)) (h:gT c m w) (hE:tY c E a N) (hf:fO c q) :
  ∃c' z w',(execOp a.eval o).run P w=.ok (.value z) w'/\gT c' m w'/\qK q c m w c' m w'/\CR c' [v] [z]/\Hf w.heap.size c' m w' (q,kc):=by
 unfold Wj at hA;rw [ho] at hA;obtain ⟨dst,op,ty,pos,after,guard⟩:=o;cases op <;> try (cases hA;done)
 case alloc T=>
  simp only [Nu] at hv;cases hz:cZ P T with
  | none=>rw [hz] at hv;cases hv
  | some zs=>
    rw [hz] at hv
    injection hv with hv
    injection hv with h1 h2
    subst h1 h2;obtain ⟨z,hz1,hz2,hz3⟩:=Ag (P:=P) (T:=T) hz c;obtain ⟨hR1,hX1,hB1⟩:=h.half hf z.cells.toList T;have hρ1:(c.half q w.heap.size).ρ q=some w.heap.size:=cX rfl;refine ⟨_,.pointer (some ⟨w.heap.size,0,none⟩),_,by simp [execOp,Instr.alloc,hz1 w,newVar,newRow],by simpa using hR1,by simpa using hX1,.ptr hρ1 .nil,w.heap.size,T,z.cells,⟨hρ1,hz2.mono hX1.le,hB1⟩,CY.new _ _ _,hz3,h.com.out (uZ _),λho'=>?_,λhl=>?_,uZ _⟩
    ·rcases ho' with ⟨id,gG,hr'⟩ | ho'
     ·have hne:id ≠ q:=by rintro rfl;exact gG hB1.blk
      have hr2:(if id=q then some w.heap.size else c.ρ id)=some w.heap.size:=hr';rw [cE hne] at hr2;have:=h.lt gG hr2;omega
     ·have:=h.own_lt (.inr ho');omega
    ·have:=(h.lit _ hl).2.1;omega
 case makeSlice T l k=>
  cases l <;> try (cases hA;done)
  cases k <;> try (cases hA;done)
  rename_i l k;simp only [Nu] at hv
  split at hv
  ·rename_i e k1 n k2 n2 hu hl hk
   split at hv
   ·rename_i s zs by_ hsz hzc hby
    split at hv
    ·rename_i hh;obtain ⟨rfl,h0,hs0,h1,hzl,h2⟩:=hh
     injection hv with hv
     injection hv with e1 e2
     subst e1 e2;have hx:=hE.fW l;have hy:=hE.fW k;rw [hl] at hx;rw [hk] at hy;have hx:=hx.inv_lit;have hy:=hy.inv_lit;obtain ⟨w',t,cur,hrun,hg,hB,hcs,hcm,hone,hvl,hcr⟩:=Tv (P:=P) (k1:=k1) (k2:=k2) hu hsz hzc hby h0 h1 hzl h2 c w;obtain ⟨g1,g2,g3,g4,g5⟩:=(h.grown hg).halfv hf w.heap.size cur.size;refine ⟨_,.slice (some ⟨w.heap.size,0,none⟩) n.toNat n.toNat,w',?_,g1,g2 _ _ (gT.ext_grown q c m hg),.vec g5 hcs hs0 (uZ _) hcm .nil,w.heap.size,t,cur,⟨g5,Nat.le_of_eq hvl,?_⟩,hB,hone,h.com.out (uZ _),λho=>cM (h.own_lt (g3 _ ho)) (xea _),λhl=>cM (h.lit _ hl).2.1 (xea _),uZ _⟩
     ·show (do pure (Next.value (←Instr.makeSlice T (a.tmps.getD l undef) (a.tmps.getD k undef))):Sem Next).run P w=_;rw [hx,hy,Sem.run_bind,hrun];rfl
     ·show CR _ (List.replicate n.toNat (zs.map V.toHp)).flatten (cur.toList.take (List.replicate n.toNat (zs.map V.toHp)).flatten.length);rw [hvl,xdq zd];exact hcr.mono g4
    ·cases hv
   ·cases hv
  ·cases hv
end
section
theorem HI {P:Program} {o:Oper} {q:Pa} {E E':gE} {m:M} {C:V->M->Prop} (hx:Un o.op=true) (h:jF P o q E m C) (hev:∀x ∈ tH o.op,ev m E' x=ev m E x):jF P o q E' m C:=by
 obtain ⟨dst,op,ty,pos,after,guard⟩:=o;cases op with
 | call cl=>
   obtain ⟨callee,args,ats⟩:=cl;have ha:args.toList.map (ev m E')=args.toList.map (ev m E):=xdj (λx hx=>hev x (by simp only [tH];exact IU _ hx));cases callee with
   | value f=>
     simp only [jF] at h ⊢;rw [Mt] at h ⊢;rw [hev f (by simp [tH]),ha];exact h
   | builtin b=>
     have hx':∀x ∈ args.toList,ev m E' x=ev m E x:=λx hx=>hev x (by simp only [tH];exact IU _ hx)
     cases b <;> first
      | exact h.elim
      | (cases hx;done)
      | (have key:∀(l1:List TypeId) (l2:List Operand),(∀x ∈ l2,ev m E' x=ev m E x)->(match l1,l2 with | [t,u],[s,x]=>zX P q m t u (ev m E s) (ev m E x) C | _,_=>False)->(match l1,l2 with | [t,u],[s,x]=>zX P q m t u (ev m E' s) (ev m E' x) C | _,_=>False):=by
          intro l1 l2 hl h
          split at h
          ·show zX _ _ _ _ _ _ _ _;rw [hl _ zd,hl _ zd];exact h
          ·exact h.elim
         exact key ats.toList args.toList hx' h)
      | (have key:∀(o1:Option TypeId) (l2:List Operand),(∀x ∈ l2,ev m E' x=ev m E x)->(match o1,l2 with | some T,[x]=>Ms P m T (ev m E x) C | _,_=>False)->(match o1,l2 with | some T,[x]=>Ms P m T (ev m E' x) C | _,_=>False):=by
          intro l1 l2 hl h
          split at h
          ·show Ms _ _ _ _ _;rw [hl _ zd];exact h
          ·exact h.elim
         exact key ats[0]? args.toList hx' h)
   | _=>exact h.elim
 | store T a x=>simp only [jF] at h ⊢;rw [hev a (by simp [tH]),hev x (by simp [tH])];exact h
 | alloc T=>exact h
 | box T x=>simp only [jF] at h ⊢;rw [hev x (by simp [tH])];exact h
 | makeSlice T l k=>simp only [jF] at h ⊢;rw [hev l (by simp [tH]),hev k (by simp [tH])];exact h
 | _=>cases hx
end
section
variable {P:Program} {full:List Oper} {π:Pa} {k0 N:Nat} {tbl:List Nat} {E0:gE} {K:Nat->gE->M->Prop}
structure KB (P:Program) (full:List Oper) (tbl:List Nat) (π:Pa) (k0:Nat) (K:Nat->gE->M->Prop) (E0:gE) (D:Nat->Bool) (cl:Nat->Bool × List V) (sch:List (Nat × List Nat)) (fl:List Nat) (E:gE) (m:M) (Er:gE):Prop where
 px:Ld P full π k0 K sch E m
 sc:Ji full tbl fl sch=true
 un:∀i ∈ sch.map Prod.fst,D i=true->Wj full i=true
 dn:∀i,i<full.length->i ∉ sch.map Prod.fst->D i=false->i ∈ fl/\Fs P full π k0 E m i
 slot:∀i o t,full[i]? = some o->o.dst=some t->D i=true->i ∉ sch.map Prod.fst->Er t=E t
 mv:∀i o,full[i]? = some o->i ∈ sch.map Prod.fst->D i=true->∃v,Nu P o.op ((k0+i)::π) E=some (v,cl i)/\∀t,o.dst=some t->Er t=v
 out:∀t,(∀i o,full[i]? = some o->o.dst=some t->D i=false)->Er t=E0 t
 base:∀t,(∀i o,full[i]? = some o->o.dst=some t->i ∈ sch.map Prod.fst)->E t=E0 t
 ordd:pw (KD full tbl) (sch.map Prod.fst)=true
 fi:∀j ∈ fl,∀i ∈ sch.map Prod.fst,HD tbl i j=false
 rb:∀i,isM full i=true->i ∈ sch.map Prod.fst->full.length+i ∉ sch.map Prod.fst->(∀y ∈ sch.map Prod.fst,HD tbl y i=false)/\∀o,full[i]? = some o->(Nu P o.op ((k0+i)::π) E).isSome=true
 rn:∀i ∈ sch.map Prod.fst,D i=true->isM full i=true->full.length+i ∉ sch.map Prod.fst
 bb:∀i,Sy full i=true->D i=false->i ∈ sch.map Prod.fst
def HdX (full:List Oper) (D:Nat->Bool) (sch:List (Nat × List Nat)):Prop:=∀i lt,sch.head? = some (i,lt)->∃o,full[i]? = some o/\(Un o.op=true ∨ Sy full i=true)/\D i=false
variable {D D':Nat->Bool} {cl:Nat->Bool × List V} {sch:List (Nat × List Nat)} {fl:List Nat} {E Er:gE} {m:M}
theorem LG (hc:∀i,i<full.length->∀j,j<full.length->xOk full tbl i j=true) {i j:Nat} {x y:Oper} (hx:full[i]? = some x) (hy:full[j]? = some y) {d:Nat} (hd:x.dst=some d):(i ≠ j->y.dst ≠ some d)/\(d ∈ BK full y->HD tbl i j=true ∨ HD tbl j i=true/\Sy full i=true):=by
 have:=hc i (xW.1 hx).1 j (xW.1 hy).1;unfold xOk at this;rw [hx,hy] at this;simp only [hd,Su,xdv,beq_iff_eq,bne_iff_ne,xdw] at this;refine ⟨λhne=>this.1.resolve_left hne,λhm=>?_⟩;have hm':(BK full y).contains d=true:=List.contains_iff_mem.2 hm
 rcases this.2 with (h | h) | h
 ·rw [h] at hm';cases hm'
 ·exact .inl h
 ·exact .inr h
theorem isB_X {i:Nat} {o:Oper} (h:Sy full i=true) (ho:full[i]? = some o):Un o.op=false:=by
 unfold Sy at h;rw [ho] at h;obtain ⟨dst,op,ty,pos,after,guard⟩:=o;cases op <;> first | rfl | (cases h;done)
theorem zau {i:Nat} (h:Sy full i=true):∃o,full[i]? = some o:=by
 unfold Sy at h;cases ho:full[i]? with
 | none=>rw [ho] at h;cases h
 | some o=>exact ⟨o,rfl⟩
theorem NP {α:Type} {r:α->α->Bool} {a:α} {l:List α} (h:pw r (a::l)=true):(∀y ∈ l,r a y=true)/\pw r l=true:=by
 simp only [pw,Su,Rj] at h;exact h
theorem ax_md {op:Op} {q:Pa} {E:gE} {m m1:M} {v:V} (hm:mdO op=false) (h:ax P op q (ev m E) m v):ax P op q (ev m1 E) m1 v:=by
 have hg:((tH op).any λx=>match x with | .global _=>true | _=>false)=false->∀x ∈ tH op,ev m1 E x=ev m E x:=λhm x hx=>by
  have:=List.any_eq_false.1 hm x hx;cases x <;> first | rfl | (exact cM rfl this)
 cases op with
 | load T x=>cases hm
 | call cl=>
   obtain ⟨callee,args,ats⟩:=cl;cases callee with
   | value f=>cases hm
   | _=>simp only [ax] at h ⊢;exact JY (P:=P) (C:=λr=>r=v) h (hg hm)
 | _=>simp only [ax] at h ⊢;exact JY (P:=P) (C:=λr=>r=v) h (hg hm)
theorem VZ {E:gE} {m m1:M} {j:Nat} (hm:md full j=false) (h:Fs P full π k0 E m j):Fs P full π k0 E m1 j:=by
 unfold Fs at h ⊢;unfold md at hm;cases hoj:full[j]? with
 | none=>rw [hoj] at h;exact h
 | some y=>
   rw [hoj] at h hm;simp only at h hm ⊢;cases hdj:y.dst with
   | none=>rw [hdj] at h;exact h
   | some dj=>
     rw [hdj] at h;simp only at h ⊢;unfold nax at h ⊢;cases hg:y.guard with
     | none=>rw [hg] at h;exact ax_md hm h
     | some g=>rw [hg] at h;obtain ⟨run,r1,r2,r3⟩:=h;exact ⟨run,r1,λe=>ax_md hm (r2 e),r3⟩
theorem Pq {E E':gE} {m:M} {j:Nat} (h:Fs P full π k0 E m j) (hd:∀y d,full[j]? = some y->y.dst=some d->E' d=E d) (hl:∀y,full[j]? = some y->∀t ∈ BK full y,E' t=E t):Fs P full π k0 E' m j:=by
 unfold Fs at h ⊢;cases hoj:full[j]? with
 | none=>rw [hoj] at h;exact h
 | some y=>
   rw [hoj] at h;simp only at h ⊢;cases hdj:y.dst with
   | none=>rw [hdj] at h;exact h
   | some dj=>
     rw [hdj] at h;simp only at h ⊢;rw [hd y dj hoj hdj];exact Ka h (hl y hoj)
theorem Ur {x y:Nat} (h:KD full tbl x y=true):HD tbl y x=false/\x ≠ y:=by
 unfold KD at h;simp only [Su,xdw,bne_iff_ne] at h;exact ⟨h.1.2,h.2⟩
theorem xp_x {x y:Nat} {o:Oper} (h:KD full tbl x y=true) (hx:full[x]? = some o) (ho:Un o.op=true ∨ Sy full x=true):(full.length<=y->HD tbl x (y - full.length)=true)/\(y<full.length->HD tbl x y=true ∨ Wj full y=true):=by
 have hl:=(xW.1 hx).1;unfold KD at h;rw [cE zb,hx] at h;have ho:(Un o.op || Sy full x)=true:=by simpa using ho
 simp only [ho,Bool.not_true,Bool.false_or,Su] at h;have h:=h.1.1;exact ⟨λhy=>by rwa [cX hy] at h,λhy=>by rw [cE zb] at h;simpa using h⟩
theorem xp_r {x y:Nat} (h:KD full tbl x y=true) (hx:full.length<=x):HD tbl y (x - full.length)=false:=by
 unfold KD at h;rw [cX hx] at h;simp only [Su,xdw] at h;exact h.1.1
theorem isM_A {i:Nat} (h:isM full i=true):Wj full i=true/\∃o,full[i]? = some o:=by
 unfold isM at h;unfold Wj
 cases ho:full[i]? with
 | none=>rw [ho] at h;cases h
 | some o=>
   rw [ho] at h;simp only [Su] at h ⊢;exact ⟨⟨by cases hop:o.op <;> rw [hop] at h <;> first | rfl | exact h.1,h.2⟩,o,rfl⟩
theorem KB.next (hc:∀i,i<full.length->∀j,j<full.length->xOk full tbl i j=true) {i:Nat} {lt:List Nat} {o:Oper} (h:KB P full tbl π k0 K E0 D cl ((i,lt)::sch) fl E m Er) (ho:full[i]? = some o) {Er':gE} {r:V} {m1:M} {fl':List Nat}
  (hpx:Ld P full π k0 K sch (mZ o.dst r E) m1) (hsc:Ji full tbl fl' sch=true) (hD:∀j,j ≠ i->D' j=D j) (hDi:D i=true->D' i=true) (hEr:∀t,o.dst ≠ some t->Er' t=Er t) (hEi:D' i=true->∀t,o.dst=some t->Er' t=r) (hEn:D' i=false->Er'=Er)
  (hfl:∀j ∈ fl',j=i ∨ j ∈ fl) (dn:∀j,j<full.length->j ≠ i->j ∉ sch.map Prod.fst->D j=false->j ∈ fl->Fs P full π k0 E m j->j ∈ fl'/\Fs P full π k0 (mZ o.dst r E) m1 j) (dni:D' i=false->i ∈ fl'/\Fs P full π k0 (mZ o.dst r E) m1 i) (hB:Sy full i=true->D' i=true):KB P full tbl π k0 K E0 D' cl sch fl' (mZ o.dst r E) m1 Er':=by
 have hil:i<full.length:=(xW.1 ho).1;obtain ⟨p1,p2⟩:=NP (a:=i) (l:=sch.map Prod.fst) h.ordd;have hkr:i ∉ sch.map Prod.fst:=λe=>(Ur (p1 i e)).2 rfl;have hne:∀d,o.dst=some d->∀j y,full[j]? = some y->j ≠ i->y.dst ≠ some d:=λd hd j y hy hji=>(LG hc ho hy hd).1 (λe=>hji e.symm)
 have hlk:∀j y,full[j]? = some y->HD tbl i j=false->HD tbl j i=false->∀t ∈ BK full y,mZ o.dst r E t=E t:=by
  intro j y hy k1 k2 t ht;refine xR λe=>?_;have hb:=(LG hc ho hy e).2 ht;rw [k1,k2] at hb
  rcases hb with hb | hb
  ·cases hb
  ·cases hb.1
 have hmk:∀j y,full[j]? = some y->j ∈ sch.map Prod.fst->Wj full j=true->(isM full j=true->full.length+j ∉ sch.map Prod.fst)->Nu P y.op ((k0+j)::π) (mZ o.dst r E)=Nu P y.op ((k0+j)::π) E:=by
  intro j y hy hj hA hM
  rcases (Hm hA hy).2.2 with ⟨T,hT⟩ | hM'
  ·exact XB hT
  ·exact QI (hlk j y hy ((h.rb j hM' (by simp [hj]) (by
    have:=hM hM';intro e
    rcases Di.1 (show full.length+j ∈ i::sch.map Prod.fst from e) with e | e
    ·omega
    ·exact this e)).1 i zd) (Ur (p1 j hj)).1)
 refine ⟨hpx,hsc,λj hj hDj=>?_,λj hj hjn hDj=>?_,λj y t hy ht hDj hjn=>?_,λj y hy hj hDj=>?_,λt ht=>?_,λt ht=>?_,p2,λj hj y hy=>?_,λj hM hj hjn=>?_,λj hj hDj hM=>?_,λj hjB hDj=>?_⟩
 ·have e:j ≠ i:=by rintro rfl;exact hkr hj
  rw [hD j e] at hDj;exact h.un j (by simp [hj]) hDj
 ·by_cases e:j=i
  ·subst e;exact dni hDj
  ·rw [hD j e] at hDj;obtain ⟨k1,k2⟩:=h.dn j hj (by simp [e,hjn]) hDj;exact dn j hj e hjn hDj k1 k2
 ·by_cases e:j=i
  ·subst e;rw [ho] at hy;injection hy with hy;subst hy
   rw [hEi hDj t ht,ht];show r=if t=t then r else _;rw [cX rfl]
  ·rw [hD j e] at hDj;have h1:o.dst ≠ some t:=λhd=>hne t hd j y hy e ht;rw [xR h1,hEr t h1];exact h.slot j y t hy ht hDj (by simp [e,hjn])
 ·have e:j ≠ i:=by rintro rfl;exact hkr hj
  rw [hD j e] at hDj;obtain ⟨v,h1,h2⟩:=h.mv j y hy (by simp [hj]) hDj;refine ⟨v,?_,λt ht=>?_⟩
  ·rw [hmk j y hy hj (h.un j (by simp [hj]) hDj) λhM hx=>h.rn j (by simp [hj]) hDj hM (by simp [hx])];exact h1
  ·rw [hEr t λhd=>hne t hd j y hy e ht];exact h2 t ht
 ·by_cases hd:o.dst=some t
  ·have hDi':=ht i o ho hd;rw [hEn hDi'];refine h.out t λj y hy hj=>?_
   by_cases e:j=i
   ·subst e;cases hx:D j with
    | false=>rfl
    | true=>rw [hDi hx] at hDi';cases hDi'
   ·rw [←hD j e];exact ht j y hy hj
  ·rw [hEr t hd];refine h.out t λj y hy hj=>?_;have e:j ≠ i:=by rintro rfl;rw [ho] at hy;injection hy with hy;subst hy;exact hd hj
   rw [←hD j e];exact ht j y hy hj
 ·rw [xR λhd=>hkr (ht i o ho hd)];exact h.base t λj y hy hj=>by simp [ht j y hy hj]
 ·rcases hfl j hj with rfl | hj
  ·exact (Ur (p1 y hy)).1
  ·exact h.fi j hj y (by simp [hy])
 ·have hjn':full.length+j ∉ ((i,lt)::sch).map Prod.fst:=λe=>by
   rcases Di.1 (show full.length+j ∈ i::sch.map Prod.fst from e) with e | e
   ·omega
   ·exact hjn e
  obtain ⟨g1,g2⟩:=h.rb j hM (by simp [hj]) hjn';refine ⟨λy hy=>g1 y (by simp [hy]),λy hy=>?_⟩;rw [hmk j y hy hj (isM_A hM).1 λ_=>hjn];exact g2 y hy
 ·have e:j ≠ i:=by rintro rfl;exact hkr hj
  rw [hD j e] at hDj;exact λhx=>h.rn j (by simp [hj]) hDj hM (by simp [hx])
 ·have e:j ≠ i:=by rintro rfl;rw [hB hjB] at hDj;cases hDj
  rw [hD j e] at hDj;exact (Di.1 (h.bb j hjB hDj)).resolve_left e
theorem KB.down (hc:∀i,i<full.length->∀j,j<full.length->xOk full tbl i j=true) (hni:∀i,i<full.length->HD tbl i i=false) (hcl:∀i j,D i=true->HD tbl j i=true->D j=true) (hlt:∀i,D i=true->i<full.length):∀ {sch:List (Nat × List Nat)} {fl:List Nat} {E:gE} {m:M},KB P full tbl π k0 K E0 D cl sch fl E m Er ->
  ∃sch' fl' E' m' Lp,KB P full tbl π k0 K E0 D cl sch' fl' E' m' Er/\HdX full D sch'/\m'=Tc m Lp/\LA π k0 D cl sch=Lp++LA π k0 D cl sch':=by
 intro sch
 induction sch with
 | nil=>intro fl E m h;exact ⟨[],fl,E,m,[],h,λi lt h=>(nomatch h),rfl,rfl⟩
 | cons il sch ih=>
   obtain ⟨i,lt⟩:=il;intro fl E m h;obtain ⟨p1,p2⟩:=NP (a:=i) (l:=sch.map Prod.fst) h.ordd;have h1:=h.px;have hs:=h.sc
   have hLn:D i=false->LA π k0 D cl ((i,lt)::sch)=LA π k0 D cl sch:=λhDi=>by
    unfold LA;simp only [yV,List.filter_cons,hDi,JR,if_false]
   cases ho:full[i]? with
   | none=>
     have hil:full.length<=i:=by
      by_cases e:full.length<=i
      ·exact e
      ·rw [yN zb] at ho;cases ho
     have hDi:D i=false:=by
      cases hx:D i with
      | false=>rfl
      | true=>have:=hlt i hx;omega
     simp only [Ld,ho] at h1;simp only [Ji,ho] at hs;cases ho':full[i - full.length]? with
     | none=>rw [ho'] at h1;exact h1.elim
     | some o'=>
       rw [ho'] at h1;rw [hLn hDi]
       have hml:∀ {j:Nat},j<full.length->(j ∈ i::sch.map Prod.fst ↔ j ∈ sch.map Prod.fst):=λ{j} hj=>by
        rw [Di];exact ⟨λh=>h.resolve_left zb,.inr⟩
       have hol:∀ {j:Nat} {y:Oper},full[j]? = some y->j<full.length:=λhy=>(xW.1 hy).1;refine ih ⟨h1.2,hs,λj hj=>h.un j (by simp [hj]),λj hj hjn=>h.dn j hj λe=>hjn ((hml hj).1 e),λj y t hy ht hDj hjn=>h.slot j y t hy ht hDj λe=>hjn ((hml (hol hy)).1 e),λj y hy hj=>h.mv j y hy (by simp [hj]),h.out,λt ht=>h.base t λj y hy hj=>by simp [ht j y hy hj],p2,λj hj y hy=>h.fi j hj y (by simp [hy]),λj hM hj hjn=>?_,λj hj hDj hM hx=>h.rn j (by simp [hj]) hDj hM (by simp [hx]),λj hjB hDj=>(hml (hol (zau hjB).choose_spec)).1 (h.bb j hjB hDj)⟩
       by_cases e:full.length+j=i
       ·refine ⟨λy hy=>?_,λy hy=>?_⟩
        ·have:=xp_r (p1 y hy) hil
         rwa [show i - full.length=j by omega] at this
        ·have hjy:o'=y:=by rw [show i - full.length=j by omega,hy] at ho';injection ho' with ho';exact ho'.symm
         subst hjy;have h2:=h1.1;unfold rdO at h2
         split at h2
         ·rename_i T l k hop;rw [hop];obtain ⟨v,kc,h3,_⟩:=VY.1 h2
          have:(Nu P (.makeSlice T (.tmp l) (.tmp k)) ((k0+j)::π) E).isSome=(Nu P (.makeSlice T (.tmp l) (.tmp k)) [] E).isSome:=by
           simp only [Nu]
           repeat (first | rfl | split)
          rw [this,h3];rfl
         ·exact h2.elim
       ·obtain ⟨g1,g2⟩:=h.rb j hM (by simp [hj]) λhx=>by
         rcases Di.1 (show full.length+j ∈ i::sch.map Prod.fst from hx) with hx | hx
         ·exact e hx
         ·exact hjn hx
        exact ⟨λy hy=>g1 y (by simp [hy]),g2⟩
   | some o=>
     have hil:i<full.length:=(xW.1 ho).1;have hkr:i ∉ sch.map Prod.fst:=λe=>(Ur (p1 i e)).2 rfl
     have hlk:Sy full i=false->∀v j y,full[j]? = some y->HD tbl i j=false->∀t ∈ BK full y,mZ o.dst v E t=E t:=by
      intro hnB v j y hy k1 t ht;refine xR λe=>?_;have hb:=(LG hc ho hy e).2 ht;rw [k1,hnB] at hb
      rcases hb with hb | hb
      ·cases hb
      ·cases hb.2
     have hds:∀v j y dj,full[j]? = some y->j ≠ i->y.dst=some dj->mZ o.dst v E dj=E dj:=λv j y dj hy hjk hdj=>xR λhd=>(LG hc ho hy hd).1 (λe=>hjk e.symm) hdj;cases hx:Un o.op with
     | true=>
       cases hDi:D i with
       | false=>
         exact ⟨(i,lt)::sch,fl,E,m,[],h,λj lt' hj=>by
          have:i=j:=by have:=Li hj;exact DI Prod.fst this
          subst this;exact ⟨o,ho,.inl hx,hDi⟩,rfl,rfl⟩
       | true=>
         have hnB:Sy full i=false:=by
          cases hb:Sy full i with
          | false=>rfl
          | true=>rw [isB_X hb ho] at hx;cases hx
         have hA:=h.un i zd hDi;obtain ⟨hg0,_,_⟩:=Hm hA ho;obtain ⟨v,hv,hEv⟩:=h.mv i o ho zd hDi;simp only [Ld,ho,hx,if_true] at h1;obtain ⟨run,hgt,hr1,_⟩:=h1;simp only [Ji,ho,hx,if_true,Su,beq_iff_eq] at hs;obtain ⟨hlt',hs⟩:=hs;rw [hg0] at hgt;obtain ⟨v',kc,hv',hlate,hpx⟩:=(mk_step hA ho).1 (hr1 hgt);rw [hv] at hv'
         injection hv' with hv'
         injection hv' with e1 e2
         subst e1 e2
         obtain ⟨sch',fl',E',m',Lp,hI,hH,hm',hL⟩:=ih (h.next hc ho (D':=D) (Er':=Er) (r:=v) hpx hs (λ_ _=>rfl) (λh=>h) (λ_ _=>rfl) (λ_=>hEv) (λ_=>rfl) (λj hj=>.inr (Ut.1 hj).1) (λj hj hji hjn hDj k1 k2=>by
           have hnb:HD tbl j i=false:=by
            cases hb:HD tbl j i with
            | false=>rfl
            | true=>rw [hcl i j hDi hb] at hDj;cases hDj
           refine ⟨Ut.2 ⟨k1,by simp [hnb]⟩,Pq ?_ (λy dj hy hdj=>hds _ j y dj hy hji hdj) (λy hy=>hlk hnB _ j y hy (h.fi j k1 i zd))⟩;cases hm:md full j with
           | false=>exact VZ hm k2
           | true=>exact hlate j (by rw [←hlt'];exact Ut.2 ⟨Ut.2 ⟨k1,by simp [hnb]⟩,hm⟩)) (λe=>by rw [hDi] at e;cases e) (λ_=>hDi))
         refine ⟨sch',fl',E',m',((k0+i)::π,cl i)::Lp,hI,hH,by rw [hm'];rfl,?_⟩
         have:LA π k0 D cl ((i,lt)::sch)=((k0+i)::π,cl i)::LA π k0 D cl sch:=by
          unfold LA;simp only [yV,List.filter_cons,hDi,if_true]
         rw [this,hL];rfl
     | false=>
       have hDi:D i=false:=by
        cases hDi:D i with
        | false=>rfl
        | true=>have:=(Hm (h.un i zd hDi) ho).2.1;rw [hx] at this;cases this
       cases hBi:Sy full i with
       | true=>
         exact ⟨(i,lt)::sch,fl,E,m,[],h,λj lt' hj=>by
          have:i=j:=by have:=Li hj;exact DI Prod.fst this
          subst this;exact ⟨o,ho,.inr hBi,hDi⟩,rfl,rfl⟩
       | false=>
         simp only [Ld,ho,hx,JR,if_false] at h1;simp only [Ji,ho,hx,JR,if_false] at hs;obtain ⟨v,hax,hpx⟩:=h1;rw [hLn hDi]
         have hd:∃d,o.dst=some d:=by
          cases hd:o.dst with
          | some d=>exact ⟨d,rfl⟩
          | none=>
            have:=hc i hil i hil;unfold xOk at this;rw [ho] at this;simp [hd,hx] at this
         obtain ⟨d,hd⟩:=hd;refine ih (h.next hc ho (D':=D) (Er':=Er) (r:=v) hpx hs (λ_ _=>rfl) (λh=>h) (λ_ _=>rfl) (λe=>by rw [hDi] at e;cases e) (λ_=>rfl) (λj hj=>Di.1 hj) (λj hj hji hjn hDj k1 k2=>⟨by simp [k1],?_⟩) (λ_=>⟨zd,?_⟩) (λe=>by rw [hBi] at e;cases e))
         ·unfold Fs at k2 ⊢;cases hoj:full[j]? with
          | none=>rw [hoj] at k2;exact k2
          | some y=>
            rw [hoj] at k2;simp only at k2 ⊢;cases hdj:y.dst with
            | none=>rw [hdj] at k2;exact k2
            | some dj=>
              rw [hdj] at k2;simp only at k2 ⊢;rw [hds v j y dj hoj hji hdj];exact Ka k2 (hlk hBi v j y hoj (h.fi j k1 i zd))
         ·unfold Fs;rw [ho];simp only [hd];have:mZ (some d) v E d=v:=by show (if d=d then v else E d)=v;rw [cX rfl]
          rw [this];refine Ka hax λt ht=>?_;rw [←hd];exact hlk hBi v i o ho (hni i hil) t ht
def NxX (P:Program) (full:List Oper) (tbl:List Nat) (π:Pa) (k0:Nat) (K:Nat->gE->M->Prop) (E0:gE) (D:Nat->Bool) (cl:Nat->Bool × List V) (i:Nat) (sch:List (Nat × List Nat)) (m1:M) (Er':gE):Prop:=
 ∃sch' fl' E' m' Lp,KB P full tbl π k0 K E0 (Lm D i) cl sch' fl' E' m' Er'/\HdX full (Lm D i) sch'/\m'=Tc m1 Lp/\LA π k0 D cl sch=Lp++LA π k0 (Lm D i) cl sch'
theorem KB.step (hc:∀i,i<full.length->∀j,j<full.length->xOk full tbl i j=true) (hni:∀i,i<full.length->HD tbl i i=false) (hz:∀o ∈ full,∀T,o.op=.alloc T->(cZ P T).isSome=true) (hcl:∀i j,D i=true->HD tbl j i=true->D j=true) (hlt:∀i,D i=true->i<full.length) (h:KB P full tbl π k0 K E0 D cl sch fl E m Er) (hd:HdX full D sch) {i:Nat} {o:Oper} (ho:full[i]? = some o) (hu:D i=false) (hbef:∀j,HD tbl j i=true->D j=true) :
  (∃run,Qm full o.guard Er run/\(run=true->∃C:V->M->Prop,jF P o ((k0+i)::π) Er m C/\∀r m1,C r m1->NxX P full tbl π k0 K E0 D cl i sch m1 (mZ o.dst r Er))/\(run=false->NxX P full tbl π k0 K E0 D cl i sch m (mZ o.dst (.lit undef) Er))) ∨
  (Wj full i=true/\∃v kc,Nu P o.op ((k0+i)::π) Er=some (v,kc)/\KB P full tbl π k0 K E0 (Lm D i) (λj=>if j=i then kc else cl j) sch fl E m (mZ o.dst v Er)/\HdX full (Lm D i) sch/\∀x ∈ LA π k0 (Lm D i) (λj=>if j=i then kc else cl j) sch,x=((k0+i)::π,kc) ∨ x ∈ LA π k0 D cl sch):=by
 have hil:i<full.length:=(xW.1 ho).1
 have hcl':∀x y,Lm D i x=true->HD tbl y x=true->Lm D i y=true:=by
  intro x y hx hb;simp only [Lm,xdv,beq_iff_eq] at hx ⊢
  rcases hx with hx | rfl
  ·exact .inl (hcl x y hx hb)
  ·exact .inl (hbef y hb)
 have hlt':∀x,Lm D i x=true->x<full.length:=by
  intro x hx;simp only [Lm,xdv,beq_iff_eq] at hx
  rcases hx with hx | rfl
  ·exact hlt x hx
  ·exact hil
 have hne:∀d,o.dst=some d->∀j y,full[j]? = some y->j ≠ i->y.dst ≠ some d:=λd hd j y hy hji=>(LG hc ho hy hd).1 (λe=>hji e.symm)
 -- the operation's variables are as they are told
 have hag':(∀j ∈ sch.map Prod.fst,HD tbl j i=false)->∀t ∈ BK full o,Er t=E t:=by
  intro hno t htl
  by_cases hw:∃(j:Nat) (x:Oper),full[j]? = some x/\x.dst=some t
  ·obtain ⟨j,x,hx,hd⟩:=hw
   rcases (LG hc hx ho hd).2 htl with hb | ⟨hb,hB⟩
   ·exact h.slot j x t hx hd (hbef j hb) λhj=>by rw [hno j hj] at hb;cases hb
   ·have hDj:D j=false:=by
     cases hDj:D j with
     | false=>rfl
     | true=>rw [hcl j i hDj hb] at hu;cases hu
    have hun:∀j' y,full[j']? = some y->y.dst=some t->j'=j:=λj' y hy hyd=>Classical.byContradiction λe=>(LG hc hx hy hd).1 (λe2=>e e2.symm) hyd;rw [h.out t λj' y hy hyd=>by rw [hun j' y hy hyd];exact hDj];exact (h.base t λj' y hy hyd=>by rw [hun j' y hy hyd];exact h.bb j hB hDj).symm
  ·rw [h.out t λj x hx hd=>cM ⟨j,x,hx,hd⟩ hw];exact (h.base t λj x hx hd=>cM ⟨j,x,hx,hd⟩ hw).symm
 have hout:∀(v:V) (t:Nat),(∀j y,full[j]? = some y->y.dst=some t->Lm D i j=false)->mZ o.dst v Er t=E0 t:=by
  intro v t ht;have h1:o.dst ≠ some t:=λhd=>by have:=ht i o ho hd;rw [tI] at this;cases this
  rw [xR h1];refine h.out t λj y hy hj=>?_;have:=ht j y hy hj
  by_cases e:j=i
  ·subst e;exact hu
  ·rwa [sE e] at this
 by_cases hin:i ∈ sch.map Prod.fst
 ·cases hisc:sch with
  | nil=>rw [hisc] at hin;cases hin
  | cons kl rest=>
    obtain ⟨k,lt⟩:=kl;subst hisc;obtain ⟨ok,hok,hxk,hDk⟩:=hd k lt rfl;have hkl:=(xW.1 hok).1;obtain ⟨p1,p2⟩:=NP (a:=k) (l:=rest.map Prod.fst) h.ordd
    have hnk:HD tbl k i=false:=by
     cases hb:HD tbl k i with
     | false=>rfl
     | true=>have:=hbef k hb;rw [hDk] at this;cases this
    by_cases hki:k=i
    rotate_left
    ·right
     have hir:i ∈ rest.map Prod.fst:=(Di.1 (show i ∈ k::rest.map Prod.fst from hin)).resolve_left λe=>hki e.symm;have hA:Wj full i=true:=((xp_x (p1 i hir) hok hxk).2 hil).resolve_left (by rw [hnk];decide)
     have hrn:full.length+i ∉ ((k,lt)::rest).map Prod.fst:=λe=>by
      rcases Di.1 (show full.length+i ∈ k::rest.map Prod.fst from e) with e | e
      ·omega
      ·have:=(xp_x (p1 _ e) hok hxk).1 zb;rw [show full.length+i - full.length=i by omega,hnk] at this;cases this
     obtain ⟨v,kc,hv,hvE⟩:∃v kc,Nu P o.op ((k0+i)::π) Er=some (v,kc)/\Nu P o.op ((k0+i)::π) E=some (v,kc):=by
      rcases (Hm hA ho).2.2 with ⟨T,hT⟩ | hM
      ·obtain ⟨zs,hzz⟩:=Option.isSome_iff_exists.1 (hz o (GB ho) T hT);exact ⟨.ptr ((k0+i)::π) 0,(false,zs),by rw [hT];simp only [Nu,hzz];rfl,by rw [hT];simp only [Nu,hzz];rfl⟩
      ·obtain ⟨g1,g2⟩:=h.rb i hM hin hrn;obtain ⟨⟨v,kc⟩,hv⟩:=Option.isSome_iff_exists.1 (g2 o ho);exact ⟨v,kc,by rw [QI (hag' g1)];exact hv,hv⟩
     refine ⟨hA,v,kc,hv,⟨h.px,h.sc,λj hj hDj=>?_,λj hj hjn hDj=>?_,λj y t hy ht hDj hjn=>?_,λj y hy hj hDj=>?_,hout v,h.base,h.ordd,h.fi,h.rb,λj hj hDj hM=>?_,λj hjB hDj=>?_⟩,λj lt' hj=>?_,λx hx=>?_⟩
     ·by_cases e:j=i
      ·rw [e];exact hA
      ·rw [sE e] at hDj;exact h.un j hj hDj
     ·have e:j ≠ i:=λe=>hjn (e ▸ hin);rw [sE e] at hDj;exact h.dn j hj hjn hDj
     ·have e:j ≠ i:=λe=>hjn (e ▸ hin);rw [sE e] at hDj;rw [xR (λhd=>hne t hd j y hy e ht)];exact h.slot j y t hy ht hDj hjn
     ·by_cases e:j=i
      ·subst e;rw [ho] at hy;injection hy with hy;subst hy
       refine ⟨v,by rw [cX rfl];exact hvE,λt ht=>?_⟩;rw [ht];show (if t=t then _ else _)=_;rw [cX rfl]
      ·rw [sE e] at hDj;obtain ⟨v',h1,h2⟩:=h.mv j y hy hj hDj;exact ⟨v',by rw [cE e];exact h1,λt ht=>by rw [xR (λhd=>hne t hd j y hy e ht)];exact h2 t ht⟩
     ·by_cases e:j=i
      ·rw [e];exact hrn
      ·rw [sE e] at hDj;exact h.rn j hj hDj hM
     ·have e:j ≠ i:=by rintro rfl;rw [tI] at hDj;cases hDj
      rw [sE e] at hDj;exact h.bb j hjB hDj
     ·obtain ⟨o',g1,g2,g3⟩:=hd j lt' hj;have hjk:k=j:=by have:=Li hj;exact DI Prod.fst this
      subst hjk;exact ⟨o',g1,g2,by rw [sE hki];exact g3⟩
     ·unfold LA at hx ⊢;obtain ⟨y,hy,rfl⟩:=Qo.1 hx;obtain ⟨hym,hyd⟩:=Ut.1 hy
      by_cases e:y=i
      ·subst e;left;simp only [if_true]
      ·right
       rw [sE e] at hyd;simp only [cE e];exact List.mem_map_of_mem (f:=λi=>((k0+i)::π,cl i)) (Ut.2 ⟨hym,hyd⟩)
    left
    subst hki;rw [hok] at ho;injection ho with ho;subst ho
    have hkr:k ∉ rest.map Prod.fst:=λe=>(Ur (p1 k e)).2 rfl
    have hag:=hag' λj hj=>by
     rcases Di.1 (show j ∈ k::rest.map Prod.fst from hj) with rfl | hj
     ·exact hni _ hil
     ·exact (Ur (p1 j hj)).1
    have hev:=LW (m:=m) (E:=E) (E':=Er) hag
    have hLA:LA π k0 D cl ((k,lt)::rest)=LA π k0 (Lm D k) cl rest:=by
     unfold LA;simp only [yV,List.filter_cons,hDk,JR,if_false]
     congr 1
     exact List.filter_congr λj hj=>(sE (by rintro rfl;exact hkr hj)).symm
    have hlk:∀v j y,full[j]? = some y->j ∈ fl->D j=false->∀t ∈ BK full y,mZ ok.dst v E t=E t:=by
     intro v j y hy k1 hDj t ht;refine xR λe=>?_
     rcases (LG hc hok hy e).2 ht with hb | hb
     ·rw [h.fi j k1 k zd] at hb;cases hb
     ·rw [hbef j hb.1] at hDj;cases hDj
    have hds:∀v j y dj,full[j]? = some y->j ≠ k->y.dst=some dj->mZ ok.dst v E dj=E dj:=λv j y dj hy hjk hdj=>xR λhd=>(LG hc hok hy hd).1 (λe=>hjk e.symm) hdj
    have hax:∀v j,j<full.length->j ≠ k->j ∈ fl->D j=false->Fs P full π k0 E m j->Fs P full π k0 (mZ ok.dst v E) m j:=by
     intro v j hj hjk k1 hDj k2;unfold Fs at k2 ⊢;cases hoj:full[j]? with
     | none=>rw [hoj] at k2;exact k2
     | some y=>
       rw [hoj] at k2;simp only at k2 ⊢;cases hdj:y.dst with
       | none=>rw [hdj] at k2;exact k2
       | some dj=>
         rw [hdj] at k2;simp only at k2 ⊢;rw [hds _ j y dj hoj hjk hdj];exact Ka k2 (hlk _ j y hoj k1 hDj)
    cases hxx:Un ok.op with
    | false=>
      have hBk:Sy full k=true:=hxk.resolve_left (by rw [hxx];decide);have hpx:=h.px;simp only [Ld,hok,hxx,JR,if_false] at hpx;have hsc:=h.sc;simp only [Ji,hok,hxx,JR,if_false] at hsc;obtain ⟨v,hnx,hpx⟩:=hpx
      have key:NxX P full tbl π k0 K E0 D cl k ((k,lt)::rest) m (mZ ok.dst v Er):=by
       unfold NxX;rw [hLA];exact KB.down hc hni hcl' hlt' (h.next hc hok (D':=Lm D k) (Er':=mZ ok.dst v Er) (r:=v) hpx hsc (λj e=>sE e) (λ_=>tI) (λt ht=>xR ht) (λ_ t ht=>by rw [ht];show (if t=t then _ else _)=_;rw [cX rfl]) (λe=>by rw [tI] at e;cases e) (λj hj=>Di.1 hj) (λj hj hjk hjn hDj k1 k2=>⟨by simp [k1],hax v j hj hjk k1 hDj k2⟩) (λe=>by rw [tI] at e;cases e) (λ_=>tI))
      obtain ⟨run,r1,r2,r3⟩:=VV hnx;refine ⟨run,Iu r1 hag,λe=>⟨_,WC (Mc (r2 e) hev),?_⟩,λe=>by rw [←r3 e];exact key⟩;rintro r m1 ⟨rfl,rfl⟩;exact key
    | true=>
    have hxk:=hxx;have hpx:=h.px;simp only [Ld,hok,hxk,if_true] at hpx;have hsc:=h.sc;simp only [Ji,hok,hxk,if_true,Su,beq_iff_eq] at hsc;obtain ⟨hlt2,hsc⟩:=hsc;obtain ⟨run,hgt,hr1,hr0⟩:=hpx
    have next:∀r m1,(∀j,j<full.length->j ≠ k->j ∈ fl->D j=false->HD tbl j k=false->Fs P full π k0 E m j->Fs P full π k0 (mZ ok.dst r E) m1 j)->Ld P full π k0 K rest (mZ ok.dst r E) m1->NxX P full tbl π k0 K E0 D cl k ((k,lt)::rest) m1 (mZ ok.dst r Er):=by
     intro r m1 hfl hpx;unfold NxX;rw [hLA];refine KB.down hc hni hcl' hlt' (h.next hc hok (D':=Lm D k) (Er':=mZ ok.dst r Er) (r:=r) hpx hsc (λj e=>sE e) (λ_=>tI) (λt ht=>xR ht) (λ_ t ht=>by rw [ht];show (if t=t then _ else _)=_;rw [cX rfl]) (λe=>by rw [tI] at e;cases e) (λj hj=>.inr (Ut.1 hj).1) (λj hj hjk hjn hDj k1 k2=>?_) (λe=>by rw [tI] at e;cases e) (λ_=>tI))
     have hnb:HD tbl j k=false:=by
      cases hb:HD tbl j k with
      | false=>rfl
      | true=>rw [hbef j hb] at hDj;cases hDj
     exact ⟨Ut.2 ⟨k1,by simp [hnb]⟩,hfl j hj hjk k1 hDj hnb k2⟩
    refine ⟨run,Iu hgt hag,λe=>⟨_,HI hxk (hr1 e) hev,?_⟩,λe=>next _ m (λj hj hjk k1 hDj hnb k2=>hax _ j hj hjk k1 hDj k2) (hr0 e)⟩
    ·rintro r m1 ⟨hfl,hpx⟩;refine next r m1 (λj hj hjk k1 hDj hnb k2=>Pq ?_ (λy dj hy hdj=>hds _ j y dj hy hjk hdj) (λy hy=>hlk _ j y hy k1 hDj)) hpx;cases hm:md full j with
     | false=>exact VZ hm k2
     | true=>exact hfl j (by rw [←hlt2];exact Ut.2 ⟨Ut.2 ⟨k1,by simp [hnb]⟩,hm⟩)
 ·obtain ⟨k1,k2⟩:=h.dn i hil hin hu;have hag:=hag' λj hj=>h.fi i k1 j hj;have hev:=LW (m:=m) (E:=E) (E':=Er) hag;unfold Fs at k2;rw [ho] at k2;simp only at k2;cases hd0:o.dst with
  | none=>rw [hd0] at k2;exact k2.elim
  | some d=>
    rw [hd0] at k2 hout;simp only at k2;have hne:∀j y,full[j]? = some y->j ≠ i->y.dst ≠ some d:=hne d hd0;have hni2:∀j ∈ sch.map Prod.fst,j ≠ i:=λj hj e=>hin (e ▸ hj)
    have key:NxX P full tbl π k0 K E0 D cl i sch m (mZ (some d) (E d) Er):=by
     refine ⟨sch,fl,E,m,[],⟨h.px,h.sc,λj hj hDj=>?_,λj hj hjn hDj=>?_,λj y t hy ht hDj hjn=>?_,λj y hy hj hDj=>?_,hout _,h.base,h.ordd,h.fi,h.rb,λj hj hDj=>?_,λj hjB hDj=>?_⟩,λj lt' hj=>?_,rfl,?_⟩
     ·rw [sE (hni2 j hj)] at hDj;exact h.un j hj hDj
     ·have hji:j ≠ i:=by rintro rfl;rw [tI] at hDj;cases hDj
      rw [sE hji] at hDj;exact h.dn j hj hjn hDj
     ·by_cases e:j=i
      ·subst e;rw [ho] at hy;injection hy with hy;subst hy
       rw [hd0] at ht;injection ht with ht;subst ht
       show (if d=d then E d else Er d)=E d;rw [cX rfl]
      ·rw [sE e] at hDj;rw [xR (by intro e2;injection e2 with e2;subst e2;exact hne j y hy e ht)];exact h.slot j y t hy ht hDj hjn
     ·rw [sE (hni2 j hj)] at hDj;obtain ⟨v,h1,h2⟩:=h.mv j y hy hj hDj;exact ⟨v,h1,λt ht=>by rw [xR (by intro e2;injection e2 with e2;subst e2;exact hne j y hy (hni2 j hj) ht)];exact h2 t ht⟩
     ·rw [sE (hni2 j hj)] at hDj;exact h.rn j hj hDj
     ·have e:j ≠ i:=by rintro rfl;rw [tI] at hDj;cases hDj
      rw [sE e] at hDj;exact h.bb j hjB hDj
     ·obtain ⟨o',g1,g2,g3⟩:=hd j lt' hj;refine ⟨o',g1,g2,?_⟩;rw [sE (hni2 j ?_)]
      ·exact g3
      ·cases hs:sch with
       | nil=>rw [hs] at hj;cases hj
       | cons a l=>rw [hs] at hj;have:=Li hj;rw [this];simp
     ·unfold LA;rw [AE]
      congr 1
      exact List.filter_congr λj hj=>(sE (hni2 j hj)).symm
    obtain ⟨run,r1,r2,r3⟩:=VV k2;refine .inl ⟨run,Iu r1 hag,λe=>⟨_,WC (Mc (r2 e) hev),?_⟩,λe=>by rw [←r3 e];exact key⟩;rintro r m1 ⟨rfl,rfl⟩;exact key
theorem px_run {Q:Exit->Act->World->Prop} {c0:Conc} {mm:M} {w0:World} {a0:Act} {W:Nat->Bool} {E00:gE} (hQ:∀a' w',EN π N W E00 c0 mm w0 a0 K a' w'->Q .normal a' w') (hfit:NT N full=true) (hW:∀o ∈ full,∀d,o.dst=some d->W d=true)
  (htc:Rr full tbl=true) (hc:∀i,i<full.length->∀j,j<full.length->xOk full tbl i j=true) (hni:∀i,i<full.length->HD tbl i i=false) (hz:∀o ∈ full,∀T,o.op=.alloc T->(cZ P T).isSome=true) :
  ∀(fuel:Nat) (listed:Array Bool) (cl:Nat->Bool × List V) (is:List (Nat × List Nat)) (fl:List Nat) (E Er:gE) (c:Conc) (m:M) (w:World) (a:Act),listed.size=full.length->(List.range full.length).countP (λi=>!(listed.getD i false))<=fuel->(∀i j,listed.getD i false=true->HD tbl j i=true->listed.getD j false=true) ->
   KB P full tbl π k0 K E0 (λi=>listed.getD i false) cl is fl E m Er->HdX full (λi=>listed.getD i false) is->gT c m w->Hfs w0.heap.size c m w (LA π k0 (λi=>listed.getD i false) cl is)->tY c Er a N->(∀i,i<full.length->listed.getD i false=false->Af c ((k0+i)::π))->yH c π (k0+full.length)->Abs.qK π c0 mm w0 c m w->a.defers=a0.defers->(∀t,W t=false->Er t=E00 t)->wpAny P .any full.toArray Q fuel listed a w:=by
 have hdone:∀(listed:Array Bool) (cl:Nat->Bool × List V) (is:List (Nat × List Nat)) (fl:List Nat) (E Er:gE) (c:Conc) (m:M) (w:World) (a:Act),(∀i,i<full.length->listed.getD i false=true)->KB P full tbl π k0 K E0 (λi=>listed.getD i false) cl is fl E m Er->HdX full (λi=>listed.getD i false) is->gT c m w->tY c Er a N->yH c π (k0+full.length)->Abs.qK π c0 mm w0 c m w->a.defers=a0.defers->(∀t,W t=false->Er t=E00 t)->Q .normal a w:=by
  intro listed cl is fl E Er c m w a hall hI hHd hR hE hF hX hd hU
  have his:is=[]:=by
   cases his:is with
   | nil=>rfl
   | cons il rest=>
     obtain ⟨i,lt⟩:=il;obtain ⟨o,h1,_,h2⟩:=hHd i lt (by rw [his];rfl);have:=hall i (xW.1 h1).1;rw [show listed.getD i false=false from h2] at this;cases this
  subst his
  have hEr:Er=E:=by
   funext t
   by_cases hw:∃(j:Nat) (x:Oper),full[j]? = some x/\x.dst=some t
   ·obtain ⟨j,x,hx,hd2⟩:=hw;exact hI.slot j x t hx hd2 (hall j (xW.1 hx).1) (λh=>nomatch h)
   ·have h1:=hI.out t λ(j:Nat) (x:Oper) hx hd=>cM (Exists.intro j (Exists.intro x ⟨hx,hd⟩)) hw;have h2:=hI.base t λ(j:Nat) (x:Oper) hx hd=>cM (Exists.intro j (Exists.intro x ⟨hx,hd⟩)) hw;rw [h1,h2]
  subst hEr;exact hQ a w ⟨c,_,Er,m,hI.px,hR,hX,hE,hF,hd,hU⟩
 have hready:∀listed:Array Bool,listed.size=full.length->Region.ready .any full.toArray listed=[]->∀i,i<full.length->listed.getD i false=true:=by
  intro listed hsz hr i
  induction i using Nat.strongRecOn with
  | ind i ih=>
    intro hi;cases hx:listed.getD i false with
    | true=>rfl
    | false=>
      exfalso
      have hmem:i ∈ Region.ready .any full.toArray listed:=by
       refine Mv.2 ⟨hi,?_,_,yN hi,λe he hbd=>?_⟩
       ·rw [VF] at hx ⊢;rw [Array.getElem?_eq_getElem zb] at hx ⊢;exact hx
       ·have hlt:=edge_lt htc (yN hi) he hbd;exact ih e.on hlt zb
      rw [hr] at hmem;cases hmem
 intro fuel
 induction fuel with
 | zero=>
   intro listed cl is fl E Er c m w a hsz hcn hcl hI hHd hR hH hE hF hFK hX hd hU
   have hla:∀i,i<full.length->listed.getD i false=true:=by
    intro i hi;have:=List.countP_eq_zero.1 (Nat.le_zero.1 hcn) i (Yx.2 hi);simpa using this
   refine ⟨?_,hdone listed cl is fl E Er c m w a hla hI hHd hR hE hFK hX hd hU⟩;apply List.eq_nil_iff_forall_not_mem.2;intro i hi;obtain ⟨h1,h2,_⟩:=Mv.1 hi;have:=hla i h1;rw [VF] at h2 this;rw [Array.getElem?_eq_getElem zb] at h2 this;simp only [Option.getD_some] at h2 this;rw [h2] at this;cases this
 | succ fuel ih=>
   intro listed cl is fl E Er c m w a hsz hcn hcl hI hHd hR hH hE hF hFK hX hd hU;refine ⟨λhr=>hdone listed cl is fl E Er c m w a (hready listed hsz hr) hI hHd hR hE hFK hX hd hU,λi hi=>?_⟩;obtain ⟨h1,h2,o,ho,h3⟩:=Mv.1 hi;have hmem:o ∈ full:=GB ho
   have hu:listed.getD i false=false:=by
    rw [VF] at h2 ⊢;rw [Array.getElem?_eq_getElem zb] at h2 ⊢;exact h2
   have hbef:∀j,HD tbl j i=true->listed.getD j false=true:=by
    intro j hbj;obtain ⟨ed,hed,hbd,hj⟩:=Zi htc ho hbj;have:=h3 ed hed hbd
    rcases hj with hj | hj
    ·rw [←hj];exact this
    ·exact hcl _ _ this hj
   have hfo:∀d,o.dst=some d->d<N:=by
    intro d h;have:=Rj.1 (show full.all _=true from hfit) o hmem;rw [h] at this;simpa using this
   have hD:Lm (λi=>listed.getD i false) i=λj=>(listed.setIfInBounds i true).getD j false:=by
    funext j
    by_cases hj:j=i
    ·subst hj;rw [tI,VF,Array.getElem?_setIfInBounds_self_of_lt zb];rfl
    ·rw [sE hj,VF,VF,Array.getElem?_setIfInBounds_ne (λe'=>hj e'.symm)]
   have hDj:∀j,(listed.setIfInBounds i true).getD j false=Lm (λi=>listed.getD i false) i j:=λj=>(congrFun hD j).symm
   have hlt:∀x,(λi=>listed.getD i false) x=true->x<full.length:=by
    intro x hx
    by_cases hl:x<full.length
    ·exact hl
    ·have hx:listed.getD x false=true:=hx;rw [VF,Array.getElem?_eq_none zb] at hx;cases hx
   have hsep:∀ {D':Nat->Bool} {cl':Nat->Bool × List V} {s:List (Nat × List Nat)},pw (KD full tbl) (s.map Prod.fst)=true->(LA π k0 D' cl' s).Pairwise (λx y=>y.1 ≠ x.1):=by
    intro D' cl' s hs;unfold LA;rw [List.pairwise_map];refine List.Pairwise.filter _ ?_
    have key:∀l:List Nat,pw (KD full tbl) l=true->l.Pairwise (λx y=>((k0+y)::π:Pa) ≠ (k0+x)::π):=by
     intro l
     induction l with
     | nil=>intro _;exact .nil
     | cons x l ih=>
       intro h;obtain ⟨p1,p2⟩:=NP h;refine .cons (λy hy e=>?_) (ih p2);have h9:=(Ur (p1 y hy)).2
       injection e with e
       exact h9 zb
    exact key _ hs
   have hLm:∀ {D':Nat->Bool} {cl':Nat->Bool × List V} {s:List (Nat × List Nat)} {x},x ∈ LA π k0 D' cl' s->∃z,D' z=true/\x=((k0+z)::π,cl' z):=by
    intro D' cl' s x hx;unfold LA at hx;obtain ⟨z,hz,rfl⟩:=Qo.1 hx;exact ⟨z,(Ut.1 hz).2,rfl⟩
   have hblt:∀x ∈ LA π k0 (λi=>listed.getD i false) cl is,∃b,IV c x b/\b<w.heap.size:=by
    intro x hx;obtain ⟨b,_,_,h1,h2,_⟩:=(hH.all x hx).fW;exact ⟨b,h1.bk,h2.lt⟩
   have hkeep:∀(c':Conc) (m':M) (w':World),Abs.qK ((k0+i)::π) c m w c' m' w'->Hfs w0.heap.size c' m' w' (LA π k0 (λi=>listed.getD i false) cl is):=by
    intro c' m' w' g2;refine ⟨λx hx=>?_,λx hx y hy b h1 h2=>?_⟩
    ·refine (hH.all _ hx).step g2 λhs=>?_;obtain ⟨z,hzd,rfl⟩:=hLm hx;have hzi:i=z:=by have:=Mm hs;omega
     subst hzi;rw [hu] at hzd;cases hzd
    ·obtain ⟨b1,g3,_⟩:=hblt x hx;obtain ⟨b2,g4,_⟩:=hblt y hy;have e1:=(g3.mono g2.le).uniq h1;have e2:=(g4.mono g2.le).uniq h2;subst e1 e2;exact hH.inj x hx y hy _ g3 g4
   have hgo:∀(v:V) (c2:Conc) (m2:M) (w':World) (a':Act) (cl':Nat->Bool × List V) (is':List (Nat × List Nat)) (fl':List Nat) (E':gE),KB P full tbl π k0 K E0 (Lm (λi=>listed.getD i false) i) cl' is' fl' E' m2 (mZ o.dst v Er)->HdX full (Lm (λi=>listed.getD i false) i) is'->gT c2 m2 w'->Hfs w0.heap.size c2 m2 w' (LA π k0 (Lm (λi=>listed.getD i false) i) cl' is')->Abs.qK π c0 mm w0 c2 m2 w'->tY c2 (mZ o.dst v Er) a' N->a'.defers=a.defers ->
     (∀j,j<full.length->listed.getD j false=false->j ≠ i->Af c2 ((k0+j)::π))->yH c2 π (k0+full.length)->wpAny P .any full.toArray Q fuel (listed.setIfInBounds i true) a' w':=by
    intro v c2 m2 w' a' cl' is' fl' E' hI' hH' g1 gH gX g3 g4 gF gK;rw [hD] at hI' gH hH';refine ih _ cl' is' fl' E' _ c2 m2 w' a' (by simpa using hsz) ?_ (λx y hx hxy=>?_) hI' hH' g1 gH g3 (λj hj hlj=>?_) gK gX (g4.trans hd) (λt ht=>?_)
    ·have hlt:=Vl (D:=λi=>listed.getD i false) (Yx.2 h1) hu
     have heq:(λj=>!((listed.setIfInBounds i true).getD j false))=λj=>!(Lm (λi=>listed.getD i false) i j):=by
      funext j;rw [hDj]
     rw [heq];omega
    ·rw [hDj] at hx ⊢
     by_cases e:x=i
     ·subst e;have:=hbef y hxy
      by_cases e2:y=x
      ·subst e2;rw [tI]
      ·rw [sE e2];exact this
     ·rw [sE e] at hx;have:=hcl x y hx hxy
      by_cases e2:y=i
      ·subst e2;rw [tI]
      ·rw [sE e2];exact this
    ·rw [hDj] at hlj;have hne:j ≠ i:=by rintro rfl;rw [tI] at hlj;cases hlj
     rw [sE hne] at hlj;exact gF j hj hlj hne
    ·cases hdo:o.dst with
     | none=>exact hU t ht
     | some d=>
       have:=hW o hmem d hdo;show (if t=d then v else Er t)=E00 t;rw [cE (by rintro rfl;rw [ht] at this;cases this)];exact hU t ht
   have hnext:∀(v:V) (c':Conc) (m':M) (w':World) (a':Act),NxX P full tbl π k0 K E0 (λi=>listed.getD i false) cl i is m' (mZ o.dst v Er)->gT c' m' w'->Abs.qK ((k0+i)::π) c m w c' m' w'->tY c' (mZ o.dst v Er) a' N->a'.defers=a.defers->wpAny P .any full.toArray Q fuel (listed.setIfInBounds i true) a' w':=by
    rintro v c' m' w' a' ⟨is',fl',E',m2,Lp,hI',hH',rfl,hL⟩ g1 g2 g3 g4;have hk:=hkeep c' m' w' g2;have hLp:∀x ∈ Lp,∃z,listed.getD z false=true/\x=((k0+z)::π,cl z):=λx hx=>hLm (D':=λi=>listed.getD i false) (s:=is) (by rw [hL];exact GC _ hx);rw [hL] at hk;obtain ⟨c2,q1,q2,q3,q4,q5⟩:=Hfs.promote Lp g1 (hX.trans g2.up) hk (by rw [←hL];exact hsep hI.ordd) (λx hx=>by obtain ⟨z,_,rfl⟩:=hLp x hx;exact List.suffix_cons _ _);refine hgo v c2 _ w' a' cl is' fl' E' hI' hH' q1 q4 q2 (g3.mono q3) g4 (λj hj hlj hne id gG=>?_) (λj hj id gG=>?_)
    ·refine q5 id (λy hy=>?_) (g2.fresh id (DJ gG zb) (hF j hj hlj id gG));obtain ⟨z,hzd,rfl⟩:=hLp y hy;rintro rfl;have hjz:j=z:=by have:=Mm gG;omega
     subst hjz;rw [hlj] at hzd;cases hzd
    ·refine q5 id (λy hy=>?_) (g2.fresh id (DJ gG zb) (hFK j hj id gG));obtain ⟨z,hzd,rfl⟩:=hLp y hy;rintro rfl;have hjz:=Mm gG;have:=hlt z hzd;omega
   unfold wpOp;rw [xdu,ho]
   rcases hI.step hc hni hz (λx y=>hcl x y) hlt hHd ho hu hbef with ⟨run,hgate,hrun,hskip⟩ | ⟨hA,v,kc,hv,hI',hH',hsub⟩
   ·have hwanted:Region.wanted o (yielded full.toArray a.tmps)=run:=Qr hgate (c:=c) λd hd=>hE.fW d;simp only [hwanted];cases run with
    | true=>
      obtain ⟨C,hs,hn⟩:=hrun rfl;simp only [if_true];refine .inl (Oper.wp_mono ?_ (Qy (N:=N) hs hR hE (hF i h1 hu) hfo Q));rintro a' w' ⟨c',v,m',hC,g1,g2,g3,g4⟩;exact hnext v c' m' w' a' (hn v m' hC) g1 g2 g3 g4
    | false=>
      simp only [JR,if_false];exact hnext (.lit undef) c m w _ (hskip rfl) hR (.refl _ c m w) (hE.put (v:=.lit undef) (x:=undef) (.lit .nil) hfo) (Ab _ _ _)
   ·-- a block is made ahead of its turn
    obtain ⟨hg0,_,_⟩:=Hm hA ho;have hwanted:Region.wanted o (yielded full.toArray a.tmps)=true:=Qr (run:=true) (full:=full) (E:=Er) (by rw [hg0];rfl) (c:=c) λd hd=>hE.fW d;simp only [hwanted,if_true];obtain ⟨c1,z,w1,hexec,hR1,hX1,hz1,hnew⟩:=mk_run (P:=P) hA ho hv hR hE (hF i h1 hu).fW;refine .inl ?_;unfold Oper.wp;rw [hexec];have hk:=hkeep _ _ _ hX1
    have hnew0:Hf w0.heap.size c1 m w1 ((k0+i)::π,kc):=by
     obtain ⟨b,t,cs,h1,h2,h4,h5,h6,h7,h8⟩:=hnew;exact ⟨b,t,cs,h1,h2,h4,h5,h6,h7,No hX.size h8⟩
    refine hgo v c1 m w1 _ _ is fl E hI' hH' hR1 ?_ (hX.trans hX1.up) ((hE.mono hX1.le).put hz1 hfo) (Ab _ _ _) (λj hj hlj hne id gG=>hX1.fresh id (DJ gG zb) (hF j hj hlj id gG)) (λj hj id gG=>hX1.fresh id (DJ gG zb) (hFK j hj id gG))
    have hdif:∀y ∈ LA π k0 (λi=>listed.getD i false) cl is,∀b,IV c1 ((k0+i)::π,kc) b->IV c1 y b->False:=λy hy b h1 h2=>by
     obtain ⟨b1,g1,g2⟩:=hblt y hy;have e1:=(g1.mono hX1.le).uniq h2;obtain ⟨b2,_,_,g3,_,_,_,_,_,g4⟩:=hnew.fW;have e2:=g3.bk.uniq h1;omega
    refine ⟨λx hx=>?_,λx hx y hy b e1 e2=>?_⟩
    ·rcases hsub x hx with rfl | hx
     ·exact hnew0
     ·exact hk.all x hx
    ·rcases hsub x hx with rfl | hx <;> rcases hsub y hy with rfl | hy
     ·rfl
     ·exact (hdif y hy b e1 e2).elim
     ·exact (hdif x hx b e2 e1).elim
     ·exact hk.inj x hx y hy b e1 e2
end
def Zj (ops:List Oper):List Nat:=ops.foldl (λt o=>t++[o.after.toList.foldl (λs e=>if Region.binds .any e then s ||| 2 ^ e.on ||| t.getD e.on 0 else s) 0]) []
def schX (al:List Bool) (tbl:List Nat) (es:List Nat):List Nat:=(es.filter λi=>!al.getD i false).foldl (λs x=>s++(es.filter λa=>al.getD a false && (tbl.getD x 0).testBit a && !s.contains a)++[x]) []
def schY (es xs:List Nat):List Nat:=xs++es.filter λa=>!xs.contains a
def schV (tbl xs:List Nat):List Nat:=tbl.map λb=>(xs.foldl (λ(s:Nat × Nat) x=>(s.1+1,if b.testBit x then s.1+1 else s.2)) (0,0)).2
def schW (ef mk:List Bool) (lv:List Nat) (l:Nat):List Nat:=((List.range ef.length).filter λj=>!(ef.getD j false) && lv.getD j 0 == l)++((List.range ef.length).filter λj=>mk.getD j false && lv.getD j 0 == l).map λj=>ef.length+j
def schO (ef mk:List Bool) (xs lv:List Nat):List Nat:=(xs.foldl (λ(s:Nat × List Nat) x=>(s.1+1,s.2++schW ef mk lv s.1++[x])) (0,[])).2++schW ef mk lv xs.length
def schT (xf dm:List Bool) (tbl out:List Nat):List (Nat × List Nat):=(out.foldl (λ(s:List Nat × List (Nat × List Nat)) i=>if xf.length<=i then (s.1,s.2++[(i,[])]) else if xf.getD i false then ((λf=>(f,s.2++[(i,f.filter λj=>dm.getD j true)])) (s.1.filter λj=>!((tbl.getD i 0).testBit j))) else (i::s.1,s.2++[(i,[])])) ([],[])).2
def schC (xf dm ef mk:List Bool) (tbl xs:List Nat):List (Nat × List Nat):=schT xf dm tbl (schO ef mk xs (schV tbl xs))
def schB (xf dm ef al mk:List Bool) (tbl es:List Nat):List (Nat × List Nat):=schC xf dm ef mk tbl (schY es (schX al tbl es))
def schE (xf:List Bool) (ops:List Oper):List Bool:=xf.zipIdx.map λp=>p.1 || Sy ops p.2
def schF (xf ef:List Bool) (ops:List Oper):List (Nat × List Nat):=
 schB xf (ops.map λo=>mdO o.op) ef (ops.map λo=>(match o.op with | .alloc _=>true | op=>Wi op) && o.guard.isNone) (ops.map λo=>Wi o.op && o.guard.isNone) (Zj ops) ((List.range ef.length).filter λi=>ef.getD i false)
def schG (xf:List Bool) (ops:List Oper):List (Nat × List Nat):=schF xf (schE xf ops) ops
def schA (ops:List Oper):List (Nat × List Nat):=schG (ops.map λo=>Un o.op) ops
def Tk (P:Program) (ops:List Oper) (sch:List (Nat × List Nat)):Bool:=pxChk ops (Zj ops) (sch.map Prod.fst) && Ji ops (Zj ops) [] sch && ops.all λo=>match o.op with | .alloc T=>(cZ P T).isSome | _=>true
theorem zbd {P:Program} {N:Nat} {π:Pa} {k:Nat} {E:gE} {m:M} {Q:Exit->Nat->gE->M->Prop} {id:Nat} {ops:List Oper} {sch:List (Nat × List Nat)} (ho:schA ops=sch) (hm:P.follows .mixedOrders=true) (hck:Tk P ops sch=true)
  (h:∀K:Nat->gE->M->Prop,(∀k E m,Q .normal k E m->K k E m)->Ld P ops π k K sch E m):SW P N π (.region id ops.toArray true) k E m Q:=by
 intro hf c a w h1 h2 h3;have h:=h (Q .normal) λ_ _ _ x=>x;simp only [Tk,pxChk,Su,xdv,Rj,Yx,List.contains_iff_mem,xdw] at hck;obtain ⟨⟨⟨⟨⟨⟨c1,c3⟩,c4⟩,c6⟩,c7⟩,c8⟩,c9⟩:=hck;refine wp_region_any hm ?_;have hw:({ w with drawn:=w.drawn+1 }:World)=w.drewN 1:=rfl;rw [hw]
 have hzero:∀i,(Array.replicate ops.toArray.size false).getD i false=false:=by
  intro i;rw [VF,Array.getElem?_replicate]
  split <;> rfl
 have hno:∀i,(Array.replicate ops.toArray.size false).getD i false=true->False:=λi hi=>by rw [hzero] at hi;cases hi
 have hcl0:∀c:Nat->Bool × List V,KB P ops (Zj ops) π k (Q .normal) E (λi=>(Array.replicate ops.toArray.size false).getD i false) c sch [] E m E:=λc=>⟨h,c8,λi _ hi=>(hno i hi).elim,λi hi hin _=>cM (c4 i hi).1 hin,λi _ _ _ _ hi _=>(hno i hi).elim,λi _ _ _ hi=>(hno i hi).elim,λ_ _=>rfl,λ_ _=>rfl,c6,(λ_ h=>nomatch h),λi hM hi hn=>by
  obtain ⟨_,o,ho⟩:=isM_A hM;exact cM ((c4 i (xW.1 ho).1).2.resolve_left (by rw [hM];decide)) hn,λi _ hi=>(hno i hi).elim,λi hB _=>(c4 i (xW.1 (zau hB).choose_spec).1).1⟩
 obtain ⟨is,fl,E1,m1,Lp,hI,hHd,hm1,hL⟩:=(hcl0 λ_=>(false,[])).down c3 c7 (λi _ hi _=>(hno i hi).elim) (λi hi=>(hno i hi).elim)
 have hnil:∀s,LA π k (λi=>(Array.replicate ops.toArray.size false).getD i false) (λ_=>(false,[])) s=[]:=λs=>by
  unfold LA;rw [List.filter_eq_nil_iff.2 λi _ hi=>hno i hi];rfl
 have hLp:Lp=[]:=by rw [hnil] at hL;exact (List.append_eq_nil_iff.1 hL.symm).1
 subst hLp;have hm1:m1=m:=hm1;subst hm1;refine px_run (tbl:=Zj ops) (E0:=E) (K:=Q .normal) (Q:=λe a' w'=>EN π N (wr (.region id ops.toArray true)) E c m1 w a (Q e) a' w') (W:=wr (.region id ops.toArray true)) (E00:=E) (c0:=c) (mm:=m1) (w0:=w) (a0:=a) (λa' w' hp=>hp) (by simpa [IO] using hf) (λo ho' d hd=>?_) c1 c3 c7 (λo ho' T hT=>by have:=c9 o ho';rw [hT] at this;exact this) _ _ _ is fl E1 E c m1 (w.drewN 1) a zd ?_ (λi j hi _=>by rw [hzero] at hi;cases hi) hI hHd (h1.drewN 1) (by rw [hnil];exact ⟨λx hx=>(nomatch hx),λx hx=>(nomatch hx)⟩) h2 (λi _ _=>h3 _ zb) (λj hj=>h3 j zb) (qK.drewN π c m1 w 1) rfl (λ_ _=>rfl)
 ·simp only [wr,List.any_eq_true,beq_iff_eq];exact ⟨o,ho',hd⟩
 ·have:=List.countP_le_length (p:=λi=>!((Array.replicate ops.toArray.size false).getD i false)) (l:=List.range ops.length);simpa using this
theorem jM {P:Program} {N:Nat} {π:Pa} {k:Nat} {E:gE} {m:M} {Q:Exit->Nat->gE->M->Prop} {id:Nat} {ops:List Oper} {sch:List (Nat × List Nat)} (h:∀K:Nat->gE->M->Prop,(∀k E m,Q .normal k E m->K k E m)->Ld P ops π k K sch E m) (ho:schA ops=sch:=by cbv) (hm:P.follows .mixedOrders=true:=by rfl) (hck:Tk P ops sch=true:=by kernel_rfl):SW P N π (.region id ops.toArray true) k E m Q:=zbd ho hm hck h
def PF (P:Program) (full:List Oper) (π:Pa) (k0:Nat) (K:Nat->gE->M->Prop) (is:List (Nat × List Nat)) (E:gE) (m:M) (d:Option Nat) (v:V):Prop:=Ld P full π k0 K is (mZ d v E) m
def PE (P:Program) (full:List Oper) (π:Pa) (k0:Nat) (K:Nat->gE->M->Prop) (lt:List Nat) (is:List (Nat × List Nat)) (E:gE) (d:Option Nat) (r:V) (m1:M):Prop:=(∀j ∈ lt,Fs P full π k0 E m1 j)/\Ld P full π k0 K is (mZ d r E) m1
def qY (P:Program) (full:List Oper) (π:Pa) (k0:Nat) (K:Nat->gE->M->Prop) (i:Nat) (lt:List Nat) (is:List (Nat × List Nat)) (E:gE) (m:M) (o:Oper):Prop:=
 if Un o.op then ∃run,Qm full o.guard E run/\(run=true->jF P o ((k0+i)::π) E m (PE P full π k0 K lt is E o.dst))/\(run=false->Ld P full π k0 K is (mZ o.dst (.lit undef) E) m)
 else ∃v,nax P full o ((k0+i)::π) E m v/\PF P full π k0 K is E m o.dst v
def rdk (P:Program) (full:List Oper) (π:Pa) (k0:Nat) (K:Nat->gE->M->Prop) (is:List (Nat × List Nat)) (E:gE) (m:M) (j:Nat):Prop:=Qa full j (rdO P E m)/\Ld P full π k0 K is E m
theorem RO {full:List Oper} {j:Nat} {b:Bool} {E:gE} {A B:Prop}:(∃run,Qm full (some (j,b)) E run/\(run=true->A)/\(run=false->B))=JA full j E (λv=>XI v b A B):=by
 unfold JA;apply propext
 constructor
 ·rintro ⟨run,⟨e,he,hv⟩,h2,h3⟩;rw [he];simp only
  rcases hv with ⟨t,ht,hr⟩ | ⟨⟨vs,ht⟩,hr⟩
  ·rw [ht]
   by_cases htb:t=b
   ·show (if t=b then _ else _);rw [cX htb];exact h2 (by rw [hr];exact Ah htb)
   ·show (if t=b then _ else _);rw [cE htb];exact h3 (by rw [hr];exact SB htb)
  ·rw [ht];exact h3 hr
 ·intro hh;cases he:(full[j]?).bind (·.dst) with
  | none=>rw [he] at hh;exact hh.elim
  | some e=>
    rw [he] at hh;simp only at hh;cases hv:E e with
    | lit u=>
      rw [hv] at hh;cases u with
      | bool t=>
        have hh:(if t=b then _ else _):=hh
        by_cases htb:t=b
        ·rw [cX htb] at hh;exact ⟨true,⟨e,he,.inl ⟨t,hv,(Ah htb).symm⟩⟩,λ_=>hh,λe=>nomatch e⟩
        ·rw [cE htb] at hh;exact ⟨false,⟨e,he,.inl ⟨t,hv,(SB htb).symm⟩⟩,(λe=>nomatch e),λ_=>hh⟩
      | tuple vs=>exact ⟨false,⟨e,he,.inr ⟨⟨vs,hv⟩,rfl⟩⟩,(λe=>nomatch e),λ_=>hh⟩
      | _=>exact hh.elim
    | _=>rw [hv] at hh;exact hh.elim
def ltG (P:Program) (k0 i:Nat) (π:Pa) (E:gE) (m1:M) (o:Oper) (b:Bool) (v:V):Prop:=XI v b (TC P k0 i π E m1 o) (match o.dst with | some d=>E d=.lit undef | none=>False)
def ltH (P:Program) (full:List Oper) (π:Pa) (k0 i:Nat) (E:gE) (m1:M) (o:Oper):Prop:=match o.guard with | none=>TC P k0 i π E m1 o | some (g,b)=>JA full g E (ltG P k0 i π E m1 o b)
def ltX (P:Program) (full:List Oper) (π:Pa) (k0:Nat) (E:gE) (m1:M):List Nat->Prop
 | []=>True
 | i::is=>Qa full i (ltH P full π k0 i E m1)/\ltX P full π k0 E m1 is
theorem Wa {P:Program} {full:List Oper} {π:Pa} {k0:Nat} {E:gE} {m1:M}:∀ {lt:List Nat},(∀i ∈ lt,Fs P full π k0 E m1 i) ↔ ltX P full π k0 E m1 lt
 | []=>by simp [ltX]
 | i::is=>by
   rw [ltX,←Wa (lt:=is),List.forall_mem_cons];refine and_congr_left λ_=>?_;unfold Fs Qa;cases full[i]? with
   | none=>exact .rfl
   | some o=>
     obtain ⟨dst,op,ty,pos,after,guard⟩:=o;simp only;cases guard with
     | none=>cases dst <;> exact .rfl
     | some g=>
       obtain ⟨j,b⟩:=g;cases dst with
       | none=>
         refine ⟨λh=>h.elim,λh=>?_⟩;have h:JA full j E (λv=>XI v b False False):=h;rw [←RO] at h;obtain ⟨run,_,h2,h3⟩:=h;cases run
         ·exact h3 rfl
         ·exact h2 rfl
       | some d=>exact Iff.of_eq RO
def WO (P:Program) (full:List Oper) (π:Pa) (k0:Nat) (K:Nat->gE->M->Prop) (i:Nat) (lt:List Nat) (is:List (Nat × List Nat)) (E:gE) (m:M) (d:Option Nat) (op:Op) (ty:TypeId) (pos:String) (after:Array Edge) (b:Bool) (v:V):Prop:=
 XI v b (qY P full π k0 K i lt is E m ⟨d,op,ty,pos,after,none⟩) (Ld P full π k0 K is (mZ d (.lit undef) E) m)
section
variable {P:Program} {full:List Oper} {π:Pa} {k0 i:Nat} {lt:List Nat} {is:List (Nat × List Nat)} {E:gE} {m m1:M} {K:Nat->gE->M->Prop} {d:Option Nat} {ty:TypeId} {pos:String} {after:Array Edge} {v:V}
@[go_sem] theorem xon_at:PF P full π k0 K is E m d v=Ld P full π k0 K is (mZ d v E) m:=rI rfl
@[go_sem] theorem xonM_at:PE P full π k0 K lt is E d v m1=(ltX P full π k0 E m1 lt/\Ld P full π k0 K is (mZ d v E) m1):=by
 unfold PE;rw [propext Wa]
@[go_sem] theorem px_nil:Ld P full π k0 K [] E m=K (k0+full.length) E m:=rI rfl
def UV (os:List Oper) (i:Nat) (C:Oper->Prop) (R:Nat->Prop):Prop:=match os[i]? with | some o=>C o | none=>R (i - os.length)
@[go_sem] theorem nthR_zero {o:Oper} {os:List Oper} {C:Oper->Prop} {R:Nat->Prop}:UV (o::os) 0 C R=C o:=rI rfl
@[go_sem] theorem nthR_succ {o:Oper} {os:List Oper} {i:Nat} {C:Oper->Prop} {R:Nat->Prop}:UV (o::os) (i+1) C R=UV os i C R:=by
 simp [UV]
@[go_sem] theorem nthR_nil {i:Nat} {C:Oper->Prop} {R:Nat->Prop}:UV [] i C R=R i:=rI rfl
@[go_sem] theorem rdO_at {T ty:TypeId} {l k:Nat} {pos:String} {after:Array Edge} {g:Option (Nat × Bool)}:rdO P E m ⟨d,.makeSlice T (.tmp l) (.tmp k),ty,pos,after,g⟩=Fy P [] m T (E l) (E k) (λ_ _=>True):=rI rfl
@[go_sem] theorem rdk_at {j:Nat}:rdk P full π k0 K is E m j=(Qa full j (rdO P E m)/\Ld P full π k0 K is E m):=rI rfl
@[go_sem] theorem px_cons:Ld P full π k0 K ((i,lt)::is) E m=UV full i (qY P full π k0 K i lt is E m) (rdk P full π k0 K is E m):=by
 simp only [Ld,UV,rdk,Qa];cases full[i]? with
 | some o=>rfl
 | none=>
   simp only;cases full[i - full.length]? with
   | some o=>rfl
   | none=>exact (propext ⟨λh=>h.elim,λh=>h.1.elim⟩)
theorem NW {op:Op} (h:Un op=true):qY P full π k0 K i lt is E m ⟨d,op,ty,pos,after,none⟩=jF P ⟨d,op,ty,pos,after,none⟩ ((k0+i)::π) E m (PE P full π k0 K lt is E d):=by
 unfold qY;simp only [h,if_true];exact propext ⟨λ⟨run,h1,h2,_⟩=>h2 h1,λh=>⟨true,rfl,λ_=>h,λe=>nomatch e⟩⟩
@[go_sem] theorem xp_load {T:TypeId} {x:Operand}:qY P full π k0 K i lt is E m ⟨d,.load T x,ty,pos,after,none⟩=dt (λv=>yO P m T (ev m E x) (λr=>r=v)) (PF P full π k0 K is E m d):=rI rfl
@[go_sem] theorem xp_fieldAddr {T g:Nat} {x:Operand}:qY P full π k0 K i lt is E m ⟨d,.fieldAddr T x g,ty,pos,after,none⟩=dt (λv=>Ce P T g (ev m E x) (λr=>r=v)) (PF P full π k0 K is E m d):=rI rfl
@[go_sem] theorem xp_unOp {op:UnOp} {T:TypeId} {x:Operand}:qY P full π k0 K i lt is E m ⟨d,.unOp op T x,ty,pos,after,none⟩=dt (λv=>Zl op (ev m E x) (λr=>r=v)) (PF P full π k0 K is E m d):=rI rfl
@[go_sem] theorem xp_len {T:TypeId} {x:Operand}:qY P full π k0 K i lt is E m ⟨d,.call ⟨.builtin .len,#[x],#[T]⟩,ty,pos,after,none⟩=dt (λv=>PQ P T (ev m E x) (λr=>r=v)) (PF P full π k0 K is E m d):=rI rfl
@[go_sem] theorem xp_min {x y:Operand} {ts:Array TypeId}:qY P full π k0 K i lt is E m ⟨d,.call ⟨.builtin .min,#[x,y],ts⟩,ty,pos,after,none⟩=dt (λv=>uK false (ev m E x) (ev m E y) (λr=>r=v)) (PF P full π k0 K is E m d):=rI rfl
@[go_sem] theorem xp_max {x y:Operand} {ts:Array TypeId}:qY P full π k0 K i lt is E m ⟨d,.call ⟨.builtin .max,#[x,y],ts⟩,ty,pos,after,none⟩=dt (λv=>uK true (ev m E x) (ev m E y) (λr=>r=v)) (PF P full π k0 K is E m d):=rI rfl
@[go_sem] theorem xp_makeSliceC {T:TypeId} {a:Value} {kk:Operand}:qY P full π k0 K i lt is E m ⟨d,.makeSlice T (.const a) kk,ty,pos,after,none⟩=dt (λv=>HJ P T (ev m E (.const a)) (ev m E kk) (λr=>r=v)) (PF P full π k0 K is E m d):=rI rfl
@[go_sem] theorem xp_pick {t x y:Operand}:qY P full π k0 K i lt is E m ⟨d,.pick t x y,ty,pos,after,none⟩=dt (λv=>Qz (ev m E t) (ev m E x) (ev m E y) (λr=>r=v)) (PF P full π k0 K is E m d):=rI rfl
@[go_sem] theorem xp_binOp {op:BinOp} {T T':TypeId} {x y:Operand}:qY P full π k0 K i lt is E m ⟨d,.binOp op T x y T',ty,pos,after,none⟩=dt (λv=>uR P op T x y (ev m E x) (ev m E y) (λr=>r=v)) (PF P full π k0 K is E m d):=rI rfl
@[go_sem] theorem xp_build {T:TypeId} {ps:Array (Nat × Operand)}:qY P full π k0 K i lt is E m ⟨d,.build T ps,ty,pos,after,none⟩=dt (λv=>FO P T (ps.toList.map λp=>(p.1,ev m E p.2)) (λr=>r=v)) (PF P full π k0 K is E m d):=rI rfl
@[go_sem] theorem xp_buildSlice {T:TypeId} {n:Nat} {ps:Array (Nat × Operand)}:qY P full π k0 K i lt is E m ⟨d,.buildSlice T n ps,ty,pos,after,none⟩=dt (λv=>tU P T n (ps.toList.map λp=>(p.1,ev m E p.2)) (λr=>r=v)) (PF P full π k0 K is E m d):=rI rfl
@[go_sem] theorem xp_convert {s t:TypeId} {x:Operand}:qY P full π k0 K i lt is E m ⟨d,.convert s t x,ty,pos,after,none⟩=dt (λv=>Dm P s t (ev m E x) (λr=>r=v)) (PF P full π k0 K is E m d):=rI rfl
@[go_sem] theorem xp_slice {T:TypeId} {x:Operand} {lo hi:Option Operand}:qY P full π k0 K i lt is E m ⟨d,.slice T x lo hi none,ty,pos,after,none⟩=dt (λv=>FM P T (ev m E x) (lo.map (ev m E)) (hi.map (ev m E)) (λr=>r=v)) (PF P full π k0 K is E m d):=rI rfl
@[go_sem] theorem xp_indexAddr {T:TypeId} {x y:Operand}:qY P full π k0 K i lt is E m ⟨d,.indexAddr T x y,ty,pos,after,none⟩=dt (λv=>Cd P T (ev m E x) (ev m E y) (λr=>r=v)) (PF P full π k0 K is E m d):=rI rfl
@[go_sem] theorem xp_index {T:TypeId} {x y:Operand}:qY P full π k0 K i lt is E m ⟨d,.index T x y,ty,pos,after,none⟩=dt (λv=>FN P T (ev m E x) (ev m E y) (λr=>r=v)) (PF P full π k0 K is E m d):=rI rfl
@[go_sem] theorem xp_nilCheck {x:Operand}:qY P full π k0 K i lt is E m ⟨d,.nilCheck x,ty,pos,after,none⟩=dt (λv=>Rw (ev m E x) (λr=>r=v)) (PF P full π k0 K is E m d):=by
 have:∀v,PT P (.nilCheck x) (ev m E) (λr=>r=v)=Rw (ev m E x) (λr=>r=v):=by
  intro v;simp only [PT,Rw]
  generalize ev m E x=u
  cases u <;> rfl
 show dt (λv=>PT P (.nilCheck x) (ev m E) (λr=>r=v)) _=_;rw [funext this]
@[go_sem] theorem xp_extract {t:Operand} {n:Nat}:qY P full π k0 K i lt is E m ⟨d,.extract t n,ty,pos,after,none⟩=dt (λv=>yZ (ev m E t) n (λr=>r=v)) (PF P full π k0 K is E m d):=by
 have:∀v,PT P (.extract t n) (ev m E) (λr=>r=v)=yZ (ev m E t) n (λr=>r=v):=by
  intro v;simp only [PT,yZ]
  generalize ev m E t=u
  cases u with
  | tup vs=>cases vs[n]? <;> rfl
  | _=>rfl
 show dt (λv=>PT P (.extract t n) (ev m E) (λr=>r=v)) _=_;rw [funext this]
@[go_sem] theorem xp_move {x:Operand}:qY P full π k0 K i lt is E m ⟨d,.move x,ty,pos,after,none⟩=PF P full π k0 K is E m d (ev m E x):=dt_eq
@[go_sem] theorem xp_assign {x:Operand}:qY P full π k0 K i lt is E m ⟨d,.assign x,ty,pos,after,none⟩=PF P full π k0 K is E m d (ev m E x):=dt_eq
@[go_sem] theorem xp_makeSlice {T:TypeId} {l:Nat} {kk:Operand}:qY P full π k0 K i lt is E m ⟨d,.makeSlice T (.tmp l) kk,ty,pos,after,none⟩=Fy P ((k0+i)::π) m T (ev m E (.tmp l)) (ev m E kk) (PE P full π k0 K lt is E d):=NW rfl
@[go_sem] theorem xp_call {g:Operand} {xs:Array Operand} {ts:Array TypeId}:qY P full π k0 K i lt is E m ⟨d,.call ⟨.value g,xs,ts⟩,ty,pos,after,none⟩=sfn P (ev m E g) (xs.toList.map (ev m E)) ((k0+i)::π) m (PE P full π k0 K lt is E d):=(NW rfl).trans Mt
@[go_sem] theorem xp_box {T:TypeId} {x:Operand}:qY P full π k0 K i lt is E m ⟨d,.box T x,ty,pos,after,none⟩=((ev m E x).cellsOk=true/\PE P full π k0 K lt is E d (.ptr ((k0+i)::π) 0) (m.set ((k0+i)::π) ((ev m E x).cells.map V.raw0))):=NW rfl
@[go_sem] theorem xp_alloc {T:TypeId}:qY P full π k0 K i lt is E m ⟨d,.alloc T,ty,pos,after,none⟩=KP (cZ P T) (λzs=>PE P full π k0 K lt is E d (.ptr ((k0+i)::π) 0) (m.set ((k0+i)::π) (zs.map V.raw0))):=(NW rfl).trans (by
 show (match cZ P T with | some zs=>_ | none=>False)=_;unfold KP;cases cZ P T <;> rfl)
@[go_sem] theorem xp_append {t u:TypeId} {s x:Operand}:qY P full π k0 K i lt is E m ⟨d,.call ⟨.builtin .append,#[s,x],#[t,u]⟩,ty,pos,after,none⟩=zX P ((k0+i)::π) m t u (ev m E s) (ev m E x) (PE P full π k0 K lt is E d):=NW rfl
@[go_sem] theorem xp_store {T:TypeId} {x y:Operand}:qY P full π k0 K i lt is E m ⟨d,.store T x y,ty,pos,after,none⟩=DY P m T (ev m E x) (ev m E y) (λm1=>PE P full π k0 K lt is E d (.lit undef) m1):=NW rfl
@[go_sem] theorem xgon_tt {op:Op}:WO P full π k0 K i lt is E m d op ty pos after true (.lit (.bool true))=qY P full π k0 K i lt is E m ⟨d,op,ty,pos,after,none⟩:=rI rfl
@[go_sem] theorem xgon_ff {op:Op}:WO P full π k0 K i lt is E m d op ty pos after false (.lit (.bool false))=qY P full π k0 K i lt is E m ⟨d,op,ty,pos,after,none⟩:=rI rfl
@[go_sem] theorem xgon_tf {op:Op}:WO P full π k0 K i lt is E m d op ty pos after false (.lit (.bool true))=Ld P full π k0 K is (mZ d (.lit undef) E) m:=rI rfl
@[go_sem] theorem xgon_ft {op:Op}:WO P full π k0 K i lt is E m d op ty pos after true (.lit (.bool false))=Ld P full π k0 K is (mZ d (.lit undef) E) m:=rI rfl
@[go_sem] theorem xgon_undef {op:Op} {b:Bool}:WO P full π k0 K i lt is E m d op ty pos after b (.lit undef)=Ld P full π k0 K is (mZ d (.lit undef) E) m:=rI rfl
@[go_sem] theorem xp_gd {op:Op} {j:Nat} {b:Bool}:qY P full π k0 K i lt is E m ⟨d,op,ty,pos,after,some (j,b)⟩=JA full j E (WO P full π k0 K i lt is E m d op ty pos after b):=by
 have key:qY P full π k0 K i lt is E m ⟨d,op,ty,pos,after,some (j,b)⟩=∃run,Qm full (some (j,b)) E run/\(run=true->qY P full π k0 K i lt is E m ⟨d,op,ty,pos,after,none⟩)/\(run=false->Ld P full π k0 K is (mZ d (.lit undef) E) m):=by
  cases hx:Un op with
  | true=>
    rw [NW hx];unfold qY;simp only [hx,if_true];apply propext
    constructor
    ·rintro ⟨run,h1,h2,h3⟩;exact ⟨run,h1,λe=>HI (o:=⟨d,op,ty,pos,after,none⟩) hx (h2 e) λ_ _=>rfl,h3⟩
    ·rintro ⟨run,h1,h2,h3⟩;exact ⟨run,h1,λe=>HI (o:=⟨d,op,ty,pos,after,some (j,b)⟩) hx (h2 e) λ_ _=>rfl,h3⟩
  | false=>
    unfold qY;simp only [hx,JR,if_false];apply propext
    constructor
    ·rintro ⟨v,⟨run,h1,h2,h3⟩,h4⟩;exact ⟨run,h1,λe=>⟨v,h2 e,h4⟩,λe=>by rw [h3 e] at h4;exact h4⟩
    ·rintro ⟨run,h1,h2,h3⟩;cases run with
     | true=>obtain ⟨v,h5,h6⟩:=h2 rfl;exact ⟨v,⟨true,h1,λ_=>h5,λe=>nomatch e⟩,h6⟩
     | false=>exact ⟨.lit undef,⟨false,h1,(λe=>nomatch e),λ_=>rfl⟩,h3 rfl⟩
 rw [key];exact RO
@[go_sem] theorem ltX_nil:ltX P full π k0 E m1 []=True:=rI rfl
@[go_sem] theorem ltX_cons:ltX P full π k0 E m1 (i::lt)=(Qa full i (ltH P full π k0 i E m1)/\ltX P full π k0 E m1 lt):=rI rfl
@[go_sem] theorem ltH_n {op:Op}:ltH P full π k0 i E m1 ⟨d,op,ty,pos,after,none⟩=TC P k0 i π E m1 ⟨d,op,ty,pos,after,none⟩:=rI rfl
@[go_sem] theorem ltH_s {op:Op} {g:Nat} {b:Bool}:ltH P full π k0 i E m1 ⟨d,op,ty,pos,after,some (g,b)⟩=JA full g E (ltG P k0 i π E m1 ⟨d,op,ty,pos,after,none⟩ b):=rI rfl
@[go_sem] theorem ltG_ff {o:Oper}:ltG P k0 i π E m1 o false (.lit (.bool false))=TC P k0 i π E m1 o:=rI rfl
end
set_option linter.all false
def Wk (c:Conc) (v u:V):Prop:=∀c'',Le c c''->∀x,CR c'' [v] [x]->CR c'' [u] [x]
theorem Wk.mono {c c':Conc} {v u:V} (h:Wk c v u) (hl:Le c c'):Wk c' v u:=λc'' h2=>h c'' (hl.trans h2)
theorem Wk.refl (c:Conc) (v:V):Wk c v v:=λ_ _ _ h=>h
theorem Wk.trans {c:Conc} {v u t:V} (h:Wk c v u) (k:Wk c u t):Wk c v t:=λc'' hl x hx=>k c'' hl x (h c'' hl x hx)
theorem Wk.nil (c:Conc):Wk c .nilv (.list .none []):=λc'' _ x h=>by
 obtain ⟨a,rfl⟩:=h.inv_nilv;exact .list (rows:=[]) (es:=[]) (sz:=1) .nil zd zc (uZ _) zc zd (λh=>by simp at h) zd trivial .nil
def WH (c:Conc):List V->List V->Prop
 | [],[]=>True
 | v::vs,u::us=>Wk c v u/\WH c vs us
 | _,_=>False
theorem WH.len {c:Conc}:∀ {vs us:List V},WH c vs us->us.length=vs.length
 | [],[],_=>rfl
 | v::vs,u::us,h=>by simp [WH.len h.2]
 | [],_::_,h=>h.elim
 | _::_,[],h=>h.elim
theorem WH.ok {c c'':Conc} (hl:Le c c''):∀ {vs us:List V} {xs:List Value},WH c vs us->CR c'' vs xs->CR c'' us xs
 | [],[],_,_,h=>h
 | v::vs,u::us,xs,h,hx=>by
   obtain ⟨y,ys,rfl,h1,h2⟩:=hx.uncons;exact (h.1 c'' hl y h1).cons (WH.ok hl h.2 h2)
 | [],_::_,_,h,_=>h.elim
 | _::_,[],_,h,_=>h.elim
theorem WH.app {c:Conc}:∀ {vs us vs' us':List V},WH c vs us->WH c vs' us'->WH c (vs++vs') (us++us')
 | [],[],_,_,_,k=>k
 | v::vs,u::us,_,_,h,k=>⟨h.1,WH.app h.2 k⟩
 | [],_::_,_,_,h,_=>h.elim
 | _::_,[],_,_,h,_=>h.elim
def WkR (c:Conc):List (List V)->List (List V)->Prop
 | [],[]=>True
 | v::vs,u::us=>WH c v u/\WkR c vs us
 | _,_=>False
theorem WkR.flat {c:Conc}:∀ {vs us:List (List V)},WkR c vs us->WH c vs.flatten us.flatten/\us.length=vs.length/\∀sz,(∀r ∈ vs,r.length=sz)->∀r ∈ us,r.length=sz
 | [],[],_=>⟨trivial,rfl,λ_ _ _ h=>nomatch h⟩
 | v::vs,u::us,h=>by
   obtain ⟨h1,h2,h3⟩:=WkR.flat h.2;refine ⟨h.1.app h1,by simp [h2],λsz hs r hr=>?_⟩
   rcases Di.1 hr with rfl | hr
   ·rw [h.1.len];exact hs v zd
   ·exact h3 sz (λr hr=>hs r (by simp [hr])) r hr
 | [],_::_,h=>h.elim
 | _::_,[],h=>h.elim
theorem Wk.rows {c:Conc} {vs us:List (List V)} (h:WkR c vs us):Wk c (.list .none vs) (.list .none us):=λc'' hl x hx=>by
 obtain ⟨h1,h2,h3⟩:=h.flat;obtain ⟨a,cap,es,sz,rfl,k1,k2,kz,k3,k4,k5,k6,kc,k7⟩:=hx.inv_list;rw [←h2] at k3 k5 ⊢;exact .list (h1.ok hl k1) (h3 sz k2) kz k3 k4 k5 k6 kc trivial .nil
section
variable {c:Conc} {m:M} {w:World}
theorem gT.freeze1 (h:gT c m w) {id:Pa} {vs:List V} (hv:m.hp id=some vs):∃c',gT c' (m.drop (.st (.priv id))) w/\(∀q,qK q c m w c' (m.drop (.st (.priv id))) w)/\∀sz rows,vs.take (rows.length*sz)=rows.flatten->(∀r ∈ rows,r.length=sz)->Wk c' (.vec id sz rows.length) (.list .none rows):=by
 obtain ⟨b,n,hk,cs,t,hB,hl,hcr,hone⟩:=h.hpr id vs hv;obtain ⟨d1,d2,d3⟩:=h.hdrop id;have hO:NI c.G b:=h.priv_out hv hk
 have hno:¬ fN c (m.drop (.st (.priv id))) b:=by
  rintro (⟨i,hi,hr⟩ | ⟨s,cap,sz,len,hl',hk'⟩)
  ·exact h.priv_id hv hk (id':=i) hi hr
  ·obtain ⟨k1,k2⟩:=d3 s hl';exact k2 (h.priv_arr hv hk k1 hk')
 have hle:Le c (c.laid b cs.toList):=Le.laid hO;refine ⟨c.laid b cs.toList,d1.laid hO hno (λi u hu=>?_),λq=>?_,λsz rows hfl hsz c'' hl2 x hx=>?_⟩
 ·rw [hB.cell];simpa using hu
 ·have hX:=d2 q;refine ⟨hle,rfl,rfl,rfl,uZ _,λ_ _ _ _=>rfl,λb' hb' ho' o=>?_,λb' hb' ho'=>?_,λi hi hf=>hf,λi hi hb'=>?_,λ_ _ hl'=>hl'⟩
  ·show OQ c.G b cs.toList b' o=c.G b' o;unfold OQ;rw [cE (λe=>ho' (by rw [e];exact gT.priv_own hv hk))]
  ·exact hX.own b' hb' ho'
  ·have:=hX.keep i hi hb';exact ⟨this.blk,this.anon,this.cell,this.ver,this.tok⟩
 ·obtain ⟨b2,n2,cap,hk2,hn2,h0,h1,h2,rfl⟩:=hx.inv_vec;have hk3:=(hle.trans hl2).κ _ _ hk;rw [hk3] at hk2
  injection hk2 with hk2
  injection hk2 with e1 e2
  subst e1 e2
  have hlen:rows.length*sz<=vs.length:=by
   have:=DI List.length hfl;rw [NL,FG hsz] at this;omega
  have hcr2:=hcr.take (rows.length*sz);rw [hfl,List.take_take,xds hlen] at hcr2;refine .list (sz:=sz) (hcr2.mono (hle.trans hl2)) hsz h0 h1 h2 (λ_=>⟨b,0,rfl⟩) (λ_=>⟨b,0,rfl,λi u hu=>?_⟩) (λu hu=>hone u (Ul hu)) trivial .nil;refine hl2.G _ _ _ ?_;rw [xdl] at hu
  split at hu
  ·show OQ c.G b cs.toList b (0+i)=some u;rw [OP,Lk];exact hu
  ·cases hu
def Jv (h:Hp) (L:List Pa):Hp:=λi=>if i ∈ L then none else h i
theorem gT.freezeL:∀(L:List Pa) {c:Conc} {m:M} {w:World},gT c m w->(∀id ∈ L,m.hp id ≠ none)->∃c',gT c' (m.seth (Jv m.hp L)) w/\(∀q,qK q c m w c' (m.seth (Jv m.hp L)) w) ∧
  ∀id ∈ L,∀vs,m.hp id=some vs->∀sz rows,vs.take (rows.length*sz)=rows.flatten->(∀r ∈ rows,r.length=sz)->Wk c' (.vec id sz rows.length) (.list .none rows):=by
 intro L
 induction L with
 | nil=>
   intro c m w h _;have e:m.seth (Jv m.hp [])=m:=M.ext_hp rfl rfl rfl rfl (funext λi=>by show (if i ∈ [] then none else m.hp i)=m.hp i;simp);rw [e];exact ⟨c,h,λq=>.refl q c m w,λ_ h=>nomatch h⟩
 | cons id L ih=>
   intro c m w h hn
   by_cases hin:id ∈ L
   ·obtain ⟨c',h1,h2,h3⟩:=ih h (λi hi=>hn i (by simp [hi]))
    have e:Jv m.hp (id::L)=Jv m.hp L:=by
     funext i
     show (if i ∈ id::L then none else m.hp i)=if i ∈ L then none else m.hp i
     by_cases e1:i=id
     ·subst e1;rw [cX zd,cX hin]
     ·simp [e1]
    rw [e];refine ⟨c',h1,h2,λi hi=>?_⟩
    rcases Di.1 hi with rfl | hi
    ·exact h3 i hin
    ·exact h3 i hi
   ·obtain ⟨vs,hv⟩:∃vs,m.hp id=some vs:=by
     cases hx:m.hp id with
     | none=>exact cM hx (hn id zd)
     | some vs=>exact ⟨vs,rfl⟩
    obtain ⟨c1,g1,g2,g3⟩:=h.freeze1 hv;have hd:∀i,(m.drop (.st (.priv id))).hp i=if i=id then none else m.hp i:=λi=>rfl;obtain ⟨c',h1,h2,h3⟩:=ih g1 (λi hi=>by rw [hd,cE (by rintro rfl;exact hin hi)];exact hn i (by simp [hi]))
    have e:(m.drop (.st (.priv id))).seth (Jv (m.drop (.st (.priv id))).hp L)=m.seth (Jv m.hp (id::L)):=by
     refine M.ext_hp rfl rfl rfl rfl (funext λi=>?_);show (if i ∈ L then none else (m.drop (.st (.priv id))).hp i)=if i ∈ id::L then none else m.hp i;rw [hd]
     by_cases e1:i=id
     ·subst e1;rw [cE hin,cX rfl,cX zd]
     ·rw [cE e1];simp [e1]
    rw [e] at h1 h2;refine ⟨c',h1,λq=>(g2 q).trans (h2 q),λi hi vs' hv' sz rows k1 k2=>?_⟩
    by_cases e1:i=id
    ·subst e1;rw [hv] at hv';injection hv' with hv';subst hv'
     exact (g3 sz rows k1 k2).mono (h2 []).le
    ·have hi':i ∈ L:=(Di.1 hi).resolve_left e1;exact h3 i hi' vs' (by rw [hd,cE e1];exact hv') sz rows k1 k2
end
theorem iP.wk {h:Hp} {v:V} {sz:Nat} {rows:List (List V)} (hv:iP h v sz rows) {c:Conc} (hc:∀id ∈ mK v,∀vs,h id=some vs->∀sz rows,vs.take (rows.length*sz)=rows.flatten->(∀r ∈ rows,r.length=sz)->Wk c (.vec id sz rows.length) (.list .none rows)):Wk c v (.list .none rows):=by
 obtain ⟨h1,⟨rfl,rfl⟩ | ⟨id,vs,rfl,e,h2⟩⟩:=hv
 ·exact .nil c
 ·exact hc id (by simp [mK]) vs e sz rows h2 h1
theorem Mg.wk {b:V} {l:List aA} (h:Mg b l) (c:Conc):Wk c b (.list .none (l.map aA.C)):=by
 rcases h with ⟨rfl,rfl⟩ | rfl
 ·exact .nil c
 ·exact .refl c _
theorem gT.freezeCk {c:Conc} {m:M} {w:World} {F fp S C:V} {x:aE} (h:gT c m w) (hk:fC F fp S C m.hp x):∃c' h',gT c' (m.seth h') w/\(∀q,qK q c m w c' (m.seth h') w)/\Wk c' F (.list .none (x.p_.bC.map aJ.C)):=by
 obtain ⟨fs,cs,hk⟩:=hk
 obtain ⟨c',h1,h2,h3⟩:=h.freezeL (mK F++(fs.map λv=>mK v.1).flatten) (λid hi=>by
  rcases yU.1 hi with hi | hi
  ·exact hk.rF.live hi
  ·obtain ⟨l,hl,hi⟩:=List.mem_flatten.1 hi;obtain ⟨v,hv,rfl⟩:=Qo.1 hl;obtain ⟨i,hil,hvi⟩:=List.mem_iff_getElem.1 hv;refine hk.live (a:=3) (b:=i) ?_;show id ∈ mK (match fs[i]? with | some v=>v.1 | none=>.nilv);rw [yN hil,hvi];exact hi)
 refine ⟨c',_,h1,h2,?_⟩;have hF:=hk.rF.wk (c:=c') (λid hi=>h3 id (by simp [hi]));refine hF.trans (Wk.rows ?_)
 have hrow:∀(fl:List aJ) (gl:List (V × V)),gl.length=fl.length->(∀(i:Nat) f v,fl[i]? = some f->gl[i]? = some v->Wk c' v.1 (.list .none (f.aQ.map aK.C))/\Mg v.2 f.bH)->WkR c' (List.zipWith (λf v=>xF f v.1 v.2) fl gl) (fl.map aJ.C):=by
  intro fl
  induction fl with
  | nil=>intro gl hl _;cases gl with | nil=>exact trivial | cons _ _=>cases hl
  | cons f fl ih=>
    intro gl hl hh;cases gl with
    | nil=>cases hl
    | cons v gl=>
      obtain ⟨k1,k2⟩:=hh 0 f v rfl rfl;refine ⟨?_,ih gl (by simpa using hl) λi g u hg hu=>hh (i+1) g u (by simpa using hg) (by simpa using hu)⟩;rw [aJ.C_eq];exact ⟨.refl _ _,.refl _ _,.refl _ _,.refl _ _,k1,k2.wk c',trivial⟩
 refine hrow _ _ hk.fl λi f v hf hv=>?_;obtain ⟨k1,k2⟩:=hk.rV i f v hf hv;refine ⟨k1.wk λid hi=>h3 id ?_,k2⟩;refine IU _ (List.mem_flatten.2 ⟨mK v.1,Qo.2 ⟨v,GB hv,rfl⟩,hi⟩)
theorem Yp {P:Program} {N:Nat} {π:Pa} {k:Nat} {E:gE} {m:M} {Q:Exit->Nat->gE->M->Prop} {code:Code} {p:Pa} {F fp S C:V} {rest:List V} {x:aE} (hb:m.blk p=some (F::rest)) (hk:fC F fp S C m.hp x)
  (h:∀h',SW P N π code k E ((m.seth h').set p (.list .none (x.p_.bC.map aJ.C)::rest)) Q):SW P N π code k E m Q:=by
 intro hf c a w h1 h2 h3;obtain ⟨c',h',g1,g2,g3⟩:=h1.freezeCk hk;have hld:∀s,F.ld s=F:=λs=>(fC.funcsR hk).ld;obtain ⟨r1,r2⟩:=g1.reCell (id:=p) (off:=0) (cs:=F::rest) (v0:=F) (u:=.list .none (x.p_.bC.map aJ.C)) hb rfl (λy hy=>g3 c' (.refl c') y (by rw [hld] at hy;exact hy)) (λ_=>rfl) (λrows e=>by injection e with e;cases e);have hX:=(g2 π).trans (r2 π);refine wp_mono (h h' hf c' a w r1 ⟨h2.size,λt=>(h2.fW t).mono hX.le⟩ (λj hj id gG=>?_)) λe a' w' hp=>?_
 ·exact ((g2 (0::id)).trans (r2 (0::id))).fresh id (λhs=>by have:=hs.length_le;simp only [qB] at this;omega) (h3 j hj id gG)
 ·exact hp.trans hX rfl (λ_ _=>rfl) (λt ht=>⟨ht,ht⟩)
theorem SC.noheap {P:Program} {f:FuncId} {args:List V} {q:Pa} {m:M} {R:V->M->Prop} (h:SC P f args q m (λv m'=>R v (m'.seth λ_=>none))):SC P f args q m R:=by
 intro c xs w h1 h2 h3
 have key:∀e w',HB q c m w (λv m'=>R v (m'.seth λ_=>none)) e w'->HB q c m w R e w':=by
  rintro e w' ⟨x,c',r,m',e1,hR,g2,g3,g4⟩
  obtain ⟨k1,k2⟩:=g2.sub (m':=m'.seth λ_=>none) rfl rfl (λid vs hv=>⟨vs,hv,λ_ h=>h⟩) (λs hs=>by
   cases s with
   | anon i j=>exact hs
   | cell i o v=>exact hs
   | priv i=>cases hs) (λb vs hv=>nomatch hv)
  exact ⟨x,c',r,_,e1,hR,k1,g3.trans (k2 q),g4⟩
 rcases h c xs w h1 h2 h3 with ⟨k1,k2⟩ | ⟨x,w',k1,k2⟩
 ·exact .inl ⟨k1,k2.mono λe w' hp=>key e w' hp⟩
 ·exact .inr ⟨x,w',k1,key _ _ k2⟩
