import Derived.Test.YtnheknbibdgglaaGreatDoorMH1
namespace Go.Proofs.YtnheknbibdgglaaGreatDoor.Abs
open Go.RowKit
def isMk:Op->Bool
 | .makeSlice _ (.const _) _=>false
 | .makeSlice _ _ _=>true
 | _=>false
def Ot (op:Op):Bool:=isEf op || isAl op || isMk op
def nax (P:Program) (full:List Oper) (o:Oper) (q:Pa) (E:fP) (m:M) (v:V):Prop:=
 match o.guard with
 | none=>ax P o.op q (ev m E) m v
 | some _=>∃run,KH full o.guard E run/\(run=true->ax P o.op q (ev m E) m v)/\(run=false->v=.lit undef)
def BS (P:Program) (full:List Oper) (π:Pa) (k0:Nat) (E:fP) (m:M) (i:Nat):Prop:=
 match full[i]? with
 | some o=>(match o.dst with | some d=>nax P full o ((k0+i)::π) E m (E d) | none=>False)
 | none=>False
theorem Qi {P:Program} {full:List Oper} {o:Oper} {q:Pa} {E:fP} {m:M} {v:V} (h:nax P full o q E m v):∃run,KH full o.guard E run/\(run=true->ax P o.op q (ev m E) m v)/\(run=false->v=.lit undef):=by
 unfold nax at h;cases hg:o.guard with
 | none=>rw [hg] at h;exact ⟨true,rfl,λ_=>h,λe=>nomatch e⟩
 | some g=>rw [hg] at h;exact h
theorem EB {full:List Oper} {o:Oper} {E E':fP} {run:Bool} (h:KH full o.guard E run) (hE:∀t ∈ yB full o,E' t=E t):KH full o.guard E' run:=by
 cases hg:o.guard with
 | none=>rw [hg] at h;exact h
 | some g=>
   obtain ⟨j,b⟩:=g;rw [hg] at h;obtain ⟨d,hd,hv⟩:=h;have hm:d ∈ yB full o:=by unfold yB Mm;rw [hg];simp [hd]
   exact ⟨d,hd,by rw [hE d hm];exact hv⟩
theorem FX {P:Program} {full:List Oper} {o:Oper} {q:Pa} {E E':fP} {m:M} {v:V} (h:nax P full o q E m v) (hE:∀t ∈ yB full o,E' t=E t):nax P full o q E' m v:=by
 unfold nax at h ⊢;cases hg:o.guard with
 | none=>rw [hg] at h;exact Hy h (Hu (full:=full) (o:=o) (m:=m) hE)
 | some g=>
   rw [hg] at h;obtain ⟨run,h1,h2,h3⟩:=h;exact ⟨run,by rw [←hg] at h1 ⊢;exact EB h1 hE,λhr=>Hy (h2 hr) (Hu (full:=full) (o:=o) (m:=m) hE),h3⟩
def Qs:Op->Bool
 | .makeSlice _ (.tmp _) (.tmp _)=>true
 | _=>false
def Qt (full:List Oper) (i:Nat):Bool:=match full[i]? with | some o=>(match o.op with | .alloc _=>true | op=>Qs op) && o.guard.isNone | none=>false
def MO (full:List Oper) (i:Nat):Bool:=match full[i]? with
 | some o=>(match o.op,o.dst with
   | .assign _,some d=>(full.take i).any λy=>(yB full y).contains d
   | .move _,some d=>(full.take i).any λy=>(yB full y).contains d
   | _,_=>false)
 | none=>false
def isM (full:List Oper) (i:Nat):Bool:=match full[i]? with | some o=>Qs o.op && o.guard.isNone | none=>false
def rdO (P:Program) (E:fP) (m:M) (o:Oper):Prop:=match o.op with | .makeSlice T (.tmp l) (.tmp k)=>BX P [] m T (E l) (E k) (λ_ _=>True) | _=>False
def GP (P:Program) (full:List Oper) (π:Pa) (k0:Nat) (K:Nat->fP->M->Prop):List (Nat × List Nat)->fP->M->Prop
 | [],E,m=>K (k0+full.length) E m
 | (i,lt)::is,E,m=>match full[i]? with
   | some o=>
     if Ot o.op then ∃run,KH full o.guard E run/\(run=true->iH P o ((k0+i)::π) E m (λr m1=>(∀j ∈ lt,BS P full π k0 E m1 j)/\GP P full π k0 K is (lE o.dst r E) m1))/\(run=false->GP P full π k0 K is (lE o.dst (.lit undef) E) m)
     else ∃v,nax P full o ((k0+i)::π) E m v/\GP P full π k0 K is (lE o.dst v E) m
   | none=>match full[i - full.length]? with
     | some o=>rdO P E m o/\GP P full π k0 K is E m
     | none=>False
def mdO (op:Op):Bool:=match op with
 | .load _ _=>true
 | .call cl=>(match cl.callee with | .value _=>true | _=>(qF op).any λx=>match x with | .global _=>true | _=>false)
 | op=>(qF op).any λx=>match x with | .global _=>true | _=>false
def md (full:List Oper) (j:Nat):Bool:=match full[j]? with | some o=>mdO o.op | none=>true
def Fb (full:List Oper) (tbl:List Nat):List Nat->List (Nat × List Nat)->Bool
 | _,[]=>true
 | fl,(i,lt)::is=>match full[i]? with
   | some o=>if Ot o.op then (fl.filter (λj=>!(DJ tbl j i))).filter (md full) == lt && Fb full tbl (fl.filter (λj=>!(DJ tbl j i))) is else Fb full tbl (i::fl) is
   | none=>Fb full tbl fl is
def xOk (full:List Oper) (tbl:List Nat) (i j:Nat):Bool:=
 match full[i]?,full[j]? with
 | some x,some y=>(match x.dst with
   | some d=>(i == j || y.dst != some d) && (!((yB full y).contains d) || DJ tbl i j || DJ tbl j i && MO full i)
   | none=>Ot x.op)
 | _,_=>false
abbrev Mk:=Pa × Bool × List V
def Iz (P:Program) (op:Op) (q:Pa) (E:fP):Option (V × Bool × List V):=
 match op with
 | .alloc T=>(dK P T).map λzs=>(.ptr q 0,false,zs)
 | .makeSlice T (.tmp l) (.tmp k)=>(match P.underlying T,E l,E k with
   | some (.slice e),.lit (.int _ n),.lit (.int _ n2)=>
     (match cO P e,dK P e,(P.info? e).map (·.bytes) with
      | some s,some zs,some by_=>if n=n2/\0<=n/\0<s/\by_<=65536/\zs.length=s/\n<=1073741824 then some (.vec q s n.toNat,true,(List.replicate n.toNat (zs.map V.toHp)).flatten) else none
      | _,_,_=>none)
   | _,_,_=>none)
 | _=>none
def Cc (m:M) (x:Mk):M:=match x.2.1 with | false=>m.set x.1 (x.2.2.map V.raw0) | true=>m.hset x.1 x.2.2
def Nj (m:M) (L:List Mk):M:=L.foldl Cc m
def LA (π:Pa) (k0:Nat) (D:Nat->Bool) (cl:Nat->Bool × List V) (sch:List (Nat × List Nat)):List Mk:=((sch.map Prod.fst).filter D).map λi=>((k0+i)::π,cl i)
def Gr (full:List Oper) (tbl:List Nat) (x y:Nat):Bool:=
 (if full.length<=x then !(DJ tbl y (x - full.length)) else !(match full[x]? with | some o=>Ot o.op || MO full x | none=>false) || (if full.length<=y then DJ tbl x (y - full.length) else DJ tbl x y || Qt full y)) && !(DJ tbl y x) && x != y
def pxChk (full:List Oper) (tbl:List Nat) (ord:List Nat):Bool:=
 LI full tbl && (List.range full.length).all (λi=>(List.range full.length).all λj=>xOk full tbl i j) &&
 (List.range full.length).all (λi=>ord.contains i && (!(isM full i) || ord.contains (full.length+i))) && pw (Gr full tbl) ord && (List.range full.length).all (λi=>!(DJ tbl i i))
section
variable {P:Program} {op:Op} {o:Oper} {q:Pa} {E E':fP} {m:M} {v:V} {kc:Bool × List V} {full:List Oper} {i:Nat}
theorem Qk {T:TypeId} {l k:Nat} {C:V->M->Prop}:BX P q m T (E l) (E k) C ↔ ∃v kc,Iz P (.makeSlice T (.tmp l) (.tmp k)) q E=some (v,kc)/\C v (Cc m (q,kc)):=by
 constructor
 ·intro h;unfold BX at h
  split at h
  ·rename_i e k1 n k2 n2 hu hl hk
   split at h
   ·rename_i s zs by_ hsz hzc hby;obtain ⟨h1,h2,h3,h4,h5,h6,hC⟩:=h;refine ⟨.vec q s n.toNat,(true,(List.replicate n.toNat (zs.map V.toHp)).flatten),?_,hC⟩;simp only [Iz,hu,hl,hk,hsz,hzc,hby];exact cG ⟨h1,h2,h3,h4,h5,h6⟩
   ·exact h.elim
  ·exact h.elim
 ·rintro ⟨v,kc,h,hC⟩;simp only [Iz] at h
  split at h
  ·rename_i e k1 n k2 n2 hu hl hk
   split at h
   ·rename_i s zs by_ hsz hzc hby
    split at h
    ·rename_i hh
     injection h with h
     injection h with e1 e2
     subst e1 e2;obtain ⟨h1,h2,h3,h4,h5,h6⟩:=hh;simp only [BX,hu,hl,hk,hsz,hzc,hby];exact ⟨h1,h2,h3,h4,h5,h6,hC⟩
    ·cases h
   ·cases h
  ·cases h
theorem mk_step (hA:Qt full i=true) (ho:full[i]? = some o) {C:V->M->Prop}:iH P o q E m C ↔ ∃v kc,Iz P o.op q E=some (v,kc)/\C v (Cc m (q,kc)):=by
 unfold Qt at hA;rw [ho] at hA;obtain ⟨dst,op,ty,pos,after,guard⟩:=o;cases op <;> try (cases hA;done)
 case alloc T=>
  simp only [iH,Iz];cases dK P T with
  | none=>simp
  | some zs=>exact ⟨λh=>⟨_,_,rfl,h⟩,λ⟨_,_,h1,h2⟩=>by injection h1 with h1;injection h1 with h1 h3;subst h1 h3;exact h2⟩
 case makeSlice T l k=>
  cases l <;> try (cases hA;done)
  cases k <;> try (cases hA;done)
  exact Qk
theorem Lh (hE:∀t ∈ yB full o,E' t=E t):Iz P o.op q E'=Iz P o.op q E:=by
 obtain ⟨dst,op,ty,pos,after,guard⟩:=o;cases op <;> try rfl
 rename_i T l k;cases l <;> try rfl
 rename_i l;cases k <;> try rfl
 rename_i k;simp only [yB,qF,List.filterMap_cons,List.filterMap_nil,EP,Cj,forall_eq_or_imp] at hE;simp only [Iz];rw [hE.1,hE.2.1]
theorem RN {T:TypeId} (h:o.op=.alloc T):Iz P o.op q E'=Iz P o.op q E:=by rw [h];rfl
theorem Dy (hA:Qt full i=true) (ho:full[i]? = some o):o.guard=none/\Ot o.op=true/\((∃T,o.op=.alloc T) ∨ isM full i=true):=by
 unfold Qt at hA;unfold isM;rw [ho] at hA ⊢;obtain ⟨dst,op,ty,pos,after,guard⟩:=o;simp only [KN,Option.isNone_iff_eq_none] at hA ⊢;cases op <;> try (cases hA.1;done)
 case alloc T=>exact ⟨hA.2,rfl,.inl ⟨T,rfl⟩⟩
 case makeSlice T l k=>
  cases l <;> try (cases hA.1;done)
  exact ⟨hA.2,rfl,.inr hA⟩
end
def hfk (c:Conc) (m:M) (x:Mk) (b:Nat) (cs:Array Value):Prop:=match x.2.1 with
 | false=>c.ρ x.1=some b/\CR c x.2.2 cs.toList/\xO c m x.1
 | true=>c.κ (.priv x.1)=some (.arr b cs.size 1 0)/\x.2.2.length<=cs.size/\CR c x.2.2 (cs.toList.take x.2.2.length)
def Da (c:Conc) (x:Mk) (b:Nat):Prop:=match x.2.1 with | false=>c.ρ x.1=some b | true=>∃n,c.κ (.priv x.1)=some (.arr b n 1 0)
structure Hf (n0:Nat) (c:Conc) (m:M) (w:World) (x:Mk):Prop where
 fU:∃b t cs,hfk c m x b cs/\zW w b t cs/\(∀u ∈ cs.toList,u.oneCell'=true)/\Iv c.G b/\¬ fC c m b/\¬ c.lit b/\n0<=b
section
variable {c c':Conc} {m m':M} {w w':World} {x:Mk} {q π:Pa} {n0 b b':Nat} {cs:Array Value}
theorem hfk.bk (h:hfk c m x b cs):Da c x b:=by
 unfold hfk at h;unfold Da
 split at h
 ·exact h.1
 ·exact ⟨_,h.1⟩
theorem Da.mono (hl:Le c c') (h:Da c x b):Da c' x b:=by
 unfold Da at h ⊢
 split at h
 ·exact hl.ρ _ _ h
 ·exact h.imp λ_ h=>hl.κ _ _ h
theorem Da.uniq (h:Da c x b) (h':Da c x b'):b=b':=by
 obtain ⟨p,kd,vs⟩:=x;cases kd with
 | false=>have h:c.ρ p=some b:=h;have h':c.ρ p=some b':=h';rw [h] at h';injection h'
 | true=>obtain ⟨n,h⟩:=h;obtain ⟨n',h'⟩:=h';have h:=h.symm.trans h';injection h with h;injection h
theorem Hf.step (h:Hf n0 c m w x) (hX:oB q c m w c' m' w') (hp:¬ q <:+ x.1):Hf n0 c' m' w' x:=by
 obtain ⟨b,t,cs,h1,h2,h4,h5,h6,h7,h8⟩:=h;have hlt:=h2.lt;refine ⟨b,t,cs,?_,(hX.heap b hlt h6 (.inr h5)).trans h2,h4,λo=>?_,λho=>h6 (hX.own b hlt ho),λhl=>h7 (hX.lits b hlt hl),h8⟩
 ·unfold hfk at h1 ⊢
  split at h1
  ·exact ⟨hX.le.ρ _ _ h1.1,h1.2.1.mono hX.le,hX.keep _ hp h1.2.2⟩
  ·exact ⟨hX.le.κ _ _ h1.1,h1.2.1,h1.2.2.mono hX.le⟩
 ·rw [hX.book b hlt h6 o];exact h5 o
theorem Hf.promote {c0:Conc} {m0:M} {w0:World} (h:fZ c m w) (hX:oB π c0 m0 w0 c m w) (hh:Hf w0.heap.size c m w x) (hp:π <:+ x.1) :
  ∃c',fZ c' (Cc m x) w/\oB π c0 m0 w0 c' (Cc m x) w/\Le c c'/\c'.ρ=c.ρ/\(∀p,c'.κ (.priv p)=c.κ (.priv p))/\(∀b,fC c' (Cc m x) b->fC c m b ∨ Da c x b)/\(∀id,id ≠ x.1->fJ c id->fJ c' id)/\(∀id,id ≠ x.1->xO c m id->xO c' (Cc m x) id)/\c'.G=c.G/\c'.lit=c.lit:=by
 obtain ⟨p,kd,vs⟩:=x;obtain ⟨b,t,cs,h1,h2,h4,h5,h6,h7,h8⟩:=hh;cases kd with
 | false=>
   obtain ⟨g1,g2,g3⟩:=h1;have hH:Half w0.heap.size c m w p vs:=⟨⟨b,t,cs,g1,h2,g2,h4,h5,h6,h7,h8⟩,g3⟩;obtain ⟨k1,k2,k3⟩:=hH.promote h;exact ⟨c.full1 p,k1,hX.promote h hH hp,k2,rfl,λ_=>rfl,k3,λid eZ hf=>hf.promote eZ,λid eZ hb=>hb.promote eZ,rfl,rfl⟩
 | true=>
   obtain ⟨g1,g2,g3⟩:=h1;obtain ⟨k1,k2⟩:=h.hput g1 h2 h6 h7 h5 g2 g3 h4;exact ⟨c,k1,hX.hput λb' hb' ho=>(k2 b' ho).elim (λho=>hX.own b' hb' ho) λe=>za,.refl c,rfl,λ_=>rfl,λb' ho=>(k2 b' ho).imp (λh=>h) λe=>by rw [e];exact ⟨_,g1⟩,λ_ _ h=>h,λid eZ hb=>⟨hb.blk,hb.anon,hb.cell,hb.ver,hb.tok⟩,rfl,rfl⟩
structure Hfs (n0:Nat) (c:Conc) (m:M) (w:World) (L:List Mk):Prop where
 all:∀x ∈ L,Hf n0 c m w x
 inj:∀x ∈ L,∀y ∈ L,∀b,Da c x b->Da c y b->x.1=y.1
theorem Hfs.promote {c0:Conc} {m0:M} {w0:World}:∀(L:List Mk) {R:List Mk} {c:Conc} {m:M},fZ c m w->oB π c0 m0 w0 c m w->Hfs w0.heap.size c m w (L++R)->(L++R).Pairwise (λx y=>y.1 ≠ x.1)->(∀x ∈ L,π <:+ x.1) ->
  ∃c',fZ c' (Nj m L) w/\oB π c0 m0 w0 c' (Nj m L) w/\Le c c'/\Hfs w0.heap.size c' (Nj m L) w R/\∀id,(∀x ∈ L,id ≠ x.1)->fJ c id->fJ c' id:=by
 intro L
 induction L with
 | nil=>intro R c m h hX hh _ _;exact ⟨c,h,hX,.refl c,hh,λ_ _ x=>x⟩
 | cons x L ih=>
   intro R c m h hX hh hp hπ;rw [EP,List.pairwise_cons] at hp;obtain ⟨c1,k1,k2,k3,k4,k5,k6,k7,k8,k9,k10⟩:=(hh.all x zc).promote h hX (hπ x zc)
   have hbk':∀y b,Da c1 y b->Da c y b:=by
    intro y b hy;unfold Da at hy ⊢;rw [k4] at hy;simp only [k5] at hy;exact hy
   have hn:Hfs w0.heap.size c1 (Cc m x) w (L++R):=by
    refine ⟨λy hy=>?_,λy hy z hz b h1 h2=>hh.inj y (IZ _ hy) z (IZ _ hz) b (hbk' y b h1) (hbk' z b h2)⟩;obtain ⟨b,t,cs,h1,h2,h4,h5,h6,h7,h8⟩:=hh.all y (IZ _ hy);refine ⟨b,t,cs,?_,h2,h4,by rw [k9];exact h5,λho=>?_,by rw [k10];exact h7,h8⟩
    ·unfold hfk at h1 ⊢
     split at h1
     ·exact ⟨by rw [k4];exact h1.1,h1.2.1.mono k3,k8 _ (hp.1 y hy) h1.2.2⟩
     ·exact ⟨by rw [k5];exact h1.1,h1.2.1,h1.2.2.mono k3⟩
    ·rcases k6 b ho with ho | ho
     ·exact h6 ho
     ·exact hp.1 y hy (hh.inj y (IZ _ hy) x zc b h1.bk ho)
   obtain ⟨c',g1,g2,g3,g4,g5⟩:=ih (R:=R) k1 k2 hn hp.2 λy hy=>hπ y (by simp [hy]);exact ⟨c',g1,g2,k3.trans g3,g4,λid eZ hf=>g5 id (λy hy=>eZ y (by simp [hy])) (k7 id (eZ x zc) hf)⟩
theorem mk_run {P:Program} {full:List Oper} {i N:Nat} {o:Oper} {E:fP} {a:Act} {v:V} {kc:Bool × List V} (hA:Qt full i=true) (ho:full[i]? = some o) (hv:Iz P o.op q E=some (v,kc)) (h:fZ c m w) (hE:qH c E a N) (hf:fJ c q) :
  ∃c' z w',(execOp a.eval o).run P w=.ok (.value z) w'/\fZ c' m w'/\oB q c m w c' m w'/\CR c' [v] [z]/\Hf w.heap.size c' m w' (q,kc):=by
 unfold Qt at hA;rw [ho] at hA;obtain ⟨dst,op,ty,pos,after,guard⟩:=o;cases op <;> try (cases hA;done)
 case alloc T=>
  simp only [Iz] at hv;cases hz:dK P T with
  | none=>rw [hz] at hv;cases hv
  | some zs=>
    rw [hz] at hv
    injection hv with hv
    injection hv with h1 h2
    subst h1 h2;obtain ⟨z,hz1,hz2,hz3⟩:=vU (P:=P) (T:=T) hz c;obtain ⟨hR1,hX1,hB1⟩:=h.half hf z.cells.toList T;have hρ1:(c.half q w.heap.size).ρ q=some w.heap.size:=cG rfl;refine ⟨_,.pointer (some ⟨w.heap.size,0,none⟩),_,by simp [execOp,Instr.alloc,hz1 w,newVar,newRow],by simpa using hR1,by simpa using hX1,.ptr hρ1 .nil,w.heap.size,T,z.cells,⟨hρ1,hz2.mono hX1.le,hB1⟩,zW.new _ _ _,hz3,h.com.out (tW _),λho'=>?_,λhl=>?_,tW _⟩
    ·rcases ho' with ⟨id,eZ,hr'⟩ | ho'
     ·have hne:id ≠ q:=by rintro rfl;exact eZ hB1.blk
      have hr2:(if id=q then some w.heap.size else c.ρ id)=some w.heap.size:=hr';rw [bU hne] at hr2;have:=h.lt eZ hr2;omega
     ·have:=h.own_lt (.inr ho');omega
    ·have:=(h.lit _ hl).2.1;omega
 case makeSlice T l k=>
  cases l <;> try (cases hA;done)
  cases k <;> try (cases hA;done)
  rename_i l k;simp only [Iz] at hv
  split at hv
  ·rename_i e k1 n k2 n2 hu hl hk
   split at hv
   ·rename_i s zs by_ hsz hzc hby
    split at hv
    ·rename_i hh;obtain ⟨rfl,h0,hs0,h1,hzl,h2⟩:=hh
     injection hv with hv
     injection hv with e1 e2
     subst e1 e2;have hx:=hE.fU l;have hy:=hE.fU k;rw [hl] at hx;rw [hk] at hy;have hx:=hx.inv_lit;have hy:=hy.inv_lit;obtain ⟨w',t,cur,hrun,hg,hB,hcs,hcm,hone,hvl,hcr⟩:=NA (P:=P) (k1:=k1) (k2:=k2) hu hsz hzc hby h0 h1 hzl h2 c w;obtain ⟨g1,g2,g3,g4,g5⟩:=(h.grown hg).halfv hf w.heap.size cur.size;refine ⟨_,.slice (some ⟨w.heap.size,0,none⟩) n.toNat n.toNat,w',?_,g1,g2 _ _ (fZ.ext_grown q c m hg),.vec g5 hcs hs0 (tW _) hcm .nil,w.heap.size,t,cur,⟨g5,Nat.le_of_eq hvl,?_⟩,hB,hone,h.com.out (tW _),λho=>dE (h.own_lt (g3 _ ho)) (xef _),λhl=>dE (h.lit _ hl).2.1 (xef _),tW _⟩
     ·show (do pure (Next.value (←Instr.makeSlice T (a.tmps.getD l undef) (a.tmps.getD k undef))):Sem Next).run P w=_;rw [hx,hy,Sem.run_bind,hrun];rfl
     ·show CR _ (List.replicate n.toNat (zs.map V.toHp)).flatten (cur.toList.take (List.replicate n.toNat (zs.map V.toHp)).flatten.length);rw [hvl,xdx zc];exact hcr.mono g4
    ·cases hv
   ·cases hv
  ·cases hv
end
section
theorem DM {P:Program} {o:Oper} {q:Pa} {E E':fP} {m:M} {C:V->M->Prop} (hx:Ot o.op=true) (h:iH P o q E m C) (hev:∀x ∈ qF o.op,ev m E' x=ev m E x):iH P o q E' m C:=by
 obtain ⟨dst,op,ty,pos,after,guard⟩:=o;cases op with
 | call cl=>
   obtain ⟨callee,args,ats⟩:=cl;have ha:args.toList.map (ev m E')=args.toList.map (ev m E):=xdr (λx hx=>hev x (by simp only [qF];exact xeh _ hx));cases callee with
   | value f=>
     simp only [iH] at h ⊢;rw [HQ] at h ⊢;rw [hev f (by simp [qF]),ha];exact h
   | builtin b=>
     have hx':∀x ∈ args.toList,ev m E' x=ev m E x:=λx hx=>hev x (by simp only [qF];exact xeh _ hx)
     cases b <;> first
      | exact h.elim
      | (cases hx;done)
      | (have key:∀(l1:List TypeId) (l2:List Operand),(∀x ∈ l2,ev m E' x=ev m E x)->(match l1,l2 with | [t,u],[s,x]=>vL P q m t u (ev m E s) (ev m E x) C | _,_=>False)->(match l1,l2 with | [t,u],[s,x]=>vL P q m t u (ev m E' s) (ev m E' x) C | _,_=>False):=by
          intro l1 l2 hl h
          split at h
          ·show vL _ _ _ _ _ _ _ _;rw [hl _ zc,hl _ zc];exact h
          ·exact h.elim
         exact key ats.toList args.toList hx' h)
      | (have key:∀(o1:Option TypeId) (l2:List Operand),(∀x ∈ l2,ev m E' x=ev m E x)->(match o1,l2 with | some T,[x]=>DQ P m T (ev m E x) C | _,_=>False)->(match o1,l2 with | some T,[x]=>DQ P m T (ev m E' x) C | _,_=>False):=by
          intro l1 l2 hl h
          split at h
          ·show DQ _ _ _ _ _;rw [hl _ zc];exact h
          ·exact h.elim
         exact key ats[0]? args.toList hx' h)
   | _=>exact h.elim
 | store T a x=>simp only [iH] at h ⊢;rw [hev a (by simp [qF]),hev x (by simp [qF])];exact h
 | alloc T=>exact h
 | box T x=>simp only [iH] at h ⊢;rw [hev x (by simp [qF])];exact h
 | makeSlice T l k=>simp only [iH] at h ⊢;rw [hev l (by simp [qF]),hev k (by simp [qF])];exact h
 | _=>cases hx
end
section
variable {P:Program} {full:List Oper} {π:Pa} {k0 N:Nat} {tbl:List Nat} {E0:fP} {K:Nat->fP->M->Prop}
structure Gn (P:Program) (full:List Oper) (tbl:List Nat) (π:Pa) (k0:Nat) (K:Nat->fP->M->Prop) (E0:fP) (D:Nat->Bool) (cl:Nat->Bool × List V) (sch:List (Nat × List Nat)) (fl:List Nat) (E:fP) (m:M) (Er:fP):Prop where
 px:GP P full π k0 K sch E m
 sc:Fb full tbl fl sch=true
 un:∀i ∈ sch.map Prod.fst,D i=true->Qt full i=true
 dn:∀i,i<full.length->i ∉ sch.map Prod.fst->D i=false->i ∈ fl/\BS P full π k0 E m i
 slot:∀i o t,full[i]? = some o->o.dst=some t->D i=true->i ∉ sch.map Prod.fst->Er t=E t
 mv:∀i o,full[i]? = some o->i ∈ sch.map Prod.fst->D i=true->∃v,Iz P o.op ((k0+i)::π) E=some (v,cl i)/\∀t,o.dst=some t->Er t=v
 out:∀t,(∀i o,full[i]? = some o->o.dst=some t->D i=false)->Er t=E0 t
 base:∀t,(∀i o,full[i]? = some o->o.dst=some t->i ∈ sch.map Prod.fst)->E t=E0 t
 ordd:pw (Gr full tbl) (sch.map Prod.fst)=true
 fi:∀j ∈ fl,∀i ∈ sch.map Prod.fst,DJ tbl i j=false
 rb:∀i,isM full i=true->i ∈ sch.map Prod.fst->full.length+i ∉ sch.map Prod.fst->(∀y ∈ sch.map Prod.fst,DJ tbl y i=false)/\∀o,full[i]? = some o->(Iz P o.op ((k0+i)::π) E).isSome=true
 rn:∀i ∈ sch.map Prod.fst,D i=true->isM full i=true->full.length+i ∉ sch.map Prod.fst
 bb:∀i,MO full i=true->D i=false->i ∈ sch.map Prod.fst
def HdX (full:List Oper) (D:Nat->Bool) (sch:List (Nat × List Nat)):Prop:=∀i lt,sch.head? = some (i,lt)->∃o,full[i]? = some o/\(Ot o.op=true ∨ MO full i=true)/\D i=false
variable {D D':Nat->Bool} {cl:Nat->Bool × List V} {sch:List (Nat × List Nat)} {fl:List Nat} {E Er:fP} {m:M}
theorem Hi (hc:∀i,i<full.length->∀j,j<full.length->xOk full tbl i j=true) {i j:Nat} {x y:Oper} (hx:full[i]? = some x) (hy:full[j]? = some y) {d:Nat} (hd:x.dst=some d):(i ≠ j->y.dst ≠ some d)/\(d ∈ yB full y->DJ tbl i j=true ∨ DJ tbl j i=true/\MO full i=true):=by
 have:=hc i (sG.1 hx).1 j (sG.1 hy).1;unfold xOk at this;rw [hx,hy] at this;simp only [hd,KN,xeb,beq_iff_eq,bne_iff_ne,xec] at this;refine ⟨λhne=>this.1.resolve_left hne,λhm=>?_⟩;have hm':(yB full y).contains d=true:=List.contains_iff_mem.2 hm
 rcases this.2 with (h | h) | h
 ·rw [h] at hm';cases hm'
 ·exact .inl h
 ·exact .inr h
theorem isB_X {i:Nat} {o:Oper} (h:MO full i=true) (ho:full[i]? = some o):Ot o.op=false:=by
 unfold MO at h;rw [ho] at h;obtain ⟨dst,op,ty,pos,after,guard⟩:=o;cases op <;> first | rfl | (cases h;done)
theorem UC {i:Nat} (h:MO full i=true):∃o,full[i]? = some o:=by
 unfold MO at h;cases ho:full[i]? with
 | none=>rw [ho] at h;cases h
 | some o=>exact ⟨o,rfl⟩
theorem IR {α:Type} {r:α->α->Bool} {a:α} {l:List α} (h:pw r (a::l)=true):(∀y ∈ l,r a y=true)/\pw r l=true:=by
 simp only [pw,KN,KK] at h;exact h
theorem ax_md {op:Op} {q:Pa} {E:fP} {m m1:M} {v:V} (hm:mdO op=false) (h:ax P op q (ev m E) m v):ax P op q (ev m1 E) m1 v:=by
 have hg:((qF op).any λx=>match x with | .global _=>true | _=>false)=false->∀x ∈ qF op,ev m1 E x=ev m E x:=λhm x hx=>by
  have:=List.any_eq_false.1 hm x hx;cases x <;> first | rfl | (exact dE rfl this)
 cases op with
 | load T x=>cases hm
 | call cl=>
   obtain ⟨callee,args,ats⟩:=cl;cases callee with
   | value f=>cases hm
   | _=>simp only [ax] at h ⊢;exact FT (P:=P) (C:=λr=>r=v) h (hg hm)
 | _=>simp only [ax] at h ⊢;exact FT (P:=P) (C:=λr=>r=v) h (hg hm)
theorem Ql {E:fP} {m m1:M} {j:Nat} (hm:md full j=false) (h:BS P full π k0 E m j):BS P full π k0 E m1 j:=by
 unfold BS at h ⊢;unfold md at hm;cases hoj:full[j]? with
 | none=>rw [hoj] at h;exact h
 | some y=>
   rw [hoj] at h hm;simp only at h hm ⊢;cases hdj:y.dst with
   | none=>rw [hdj] at h;exact h
   | some dj=>
     rw [hdj] at h;simp only at h ⊢;unfold nax at h ⊢;cases hg:y.guard with
     | none=>rw [hg] at h;exact ax_md hm h
     | some g=>rw [hg] at h;obtain ⟨run,r1,r2,r3⟩:=h;exact ⟨run,r1,λe=>ax_md hm (r2 e),r3⟩
theorem Kb {E E':fP} {m:M} {j:Nat} (h:BS P full π k0 E m j) (hd:∀y d,full[j]? = some y->y.dst=some d->E' d=E d) (hl:∀y,full[j]? = some y->∀t ∈ yB full y,E' t=E t):BS P full π k0 E' m j:=by
 unfold BS at h ⊢;cases hoj:full[j]? with
 | none=>rw [hoj] at h;exact h
 | some y=>
   rw [hoj] at h;simp only at h ⊢;cases hdj:y.dst with
   | none=>rw [hdj] at h;exact h
   | some dj=>
     rw [hdj] at h;simp only at h ⊢;rw [hd y dj hoj hdj];exact FX h (hl y hoj)
theorem Ox {x y:Nat} (h:Gr full tbl x y=true):DJ tbl y x=false/\x ≠ y:=by
 unfold Gr at h;simp only [KN,xec,bne_iff_ne] at h;exact ⟨h.1.2,h.2⟩
theorem xp_x {x y:Nat} {o:Oper} (h:Gr full tbl x y=true) (hx:full[x]? = some o) (ho:Ot o.op=true ∨ MO full x=true):(full.length<=y->DJ tbl x (y - full.length)=true)/\(y<full.length->DJ tbl x y=true ∨ Qt full y=true):=by
 have hl:=(sG.1 hx).1;unfold Gr at h;rw [bU za,hx] at h;have ho:(Ot o.op || MO full x)=true:=by simpa using ho
 simp only [ho,Bool.not_true,Bool.false_or,KN] at h;have h:=h.1.1;exact ⟨λhy=>by rwa [cG hy] at h,λhy=>by rw [bU za] at h;simpa using h⟩
theorem xp_r {x y:Nat} (h:Gr full tbl x y=true) (hx:full.length<=x):DJ tbl y (x - full.length)=false:=by
 unfold Gr at h;rw [cG hx] at h;simp only [KN,xec] at h;exact h.1.1
theorem isM_A {i:Nat} (h:isM full i=true):Qt full i=true/\∃o,full[i]? = some o:=by
 unfold isM at h;unfold Qt
 cases ho:full[i]? with
 | none=>rw [ho] at h;cases h
 | some o=>
   rw [ho] at h;simp only [KN] at h ⊢;exact ⟨⟨by cases hop:o.op <;> rw [hop] at h <;> first | rfl | exact h.1,h.2⟩,o,rfl⟩
theorem Gn.next (hc:∀i,i<full.length->∀j,j<full.length->xOk full tbl i j=true) {i:Nat} {lt:List Nat} {o:Oper} (h:Gn P full tbl π k0 K E0 D cl ((i,lt)::sch) fl E m Er) (ho:full[i]? = some o) {Er':fP} {r:V} {m1:M} {fl':List Nat}
  (hpx:GP P full π k0 K sch (lE o.dst r E) m1) (hsc:Fb full tbl fl' sch=true) (hD:∀j,j ≠ i->D' j=D j) (hDi:D i=true->D' i=true) (hEr:∀t,o.dst ≠ some t->Er' t=Er t) (hEi:D' i=true->∀t,o.dst=some t->Er' t=r) (hEn:D' i=false->Er'=Er)
  (hfl:∀j ∈ fl',j=i ∨ j ∈ fl) (dn:∀j,j<full.length->j ≠ i->j ∉ sch.map Prod.fst->D j=false->j ∈ fl->BS P full π k0 E m j->j ∈ fl'/\BS P full π k0 (lE o.dst r E) m1 j) (dni:D' i=false->i ∈ fl'/\BS P full π k0 (lE o.dst r E) m1 i) (hB:MO full i=true->D' i=true):Gn P full tbl π k0 K E0 D' cl sch fl' (lE o.dst r E) m1 Er':=by
 have hil:i<full.length:=(sG.1 ho).1;obtain ⟨p1,p2⟩:=IR (a:=i) (l:=sch.map Prod.fst) h.ordd;have hkr:i ∉ sch.map Prod.fst:=λe=>(Ox (p1 i e)).2 rfl;have hne:∀d,o.dst=some d->∀j y,full[j]? = some y->j ≠ i->y.dst ≠ some d:=λd hd j y hy hji=>(Hi hc ho hy hd).1 (λe=>hji e.symm)
 have hlk:∀j y,full[j]? = some y->DJ tbl i j=false->DJ tbl j i=false->∀t ∈ yB full y,lE o.dst r E t=E t:=by
  intro j y hy k1 k2 t ht;refine tY λe=>?_;have hb:=(Hi hc ho hy e).2 ht;rw [k1,k2] at hb
  rcases hb with hb | hb
  ·cases hb
  ·cases hb.1
 have hmk:∀j y,full[j]? = some y->j ∈ sch.map Prod.fst->Qt full j=true->(isM full j=true->full.length+j ∉ sch.map Prod.fst)->Iz P y.op ((k0+j)::π) (lE o.dst r E)=Iz P y.op ((k0+j)::π) E:=by
  intro j y hy hj hA hM
  rcases (Dy hA hy).2.2 with ⟨T,hT⟩ | hM'
  ·exact RN hT
  ·exact Lh (hlk j y hy ((h.rb j hM' (by simp [hj]) (by
    have:=hM hM';intro e
    rcases Cj.1 (show full.length+j ∈ i::sch.map Prod.fst from e) with e | e
    ·omega
    ·exact this e)).1 i zc) (Ox (p1 j hj)).1)
 refine ⟨hpx,hsc,λj hj hDj=>?_,λj hj hjn hDj=>?_,λj y t hy ht hDj hjn=>?_,λj y hy hj hDj=>?_,λt ht=>?_,λt ht=>?_,p2,λj hj y hy=>?_,λj hM hj hjn=>?_,λj hj hDj hM=>?_,λj hjB hDj=>?_⟩
 ·have e:j ≠ i:=by rintro rfl;exact hkr hj
  rw [hD j e] at hDj;exact h.un j (by simp [hj]) hDj
 ·by_cases e:j=i
  ·subst e;exact dni hDj
  ·rw [hD j e] at hDj;obtain ⟨k1,k2⟩:=h.dn j hj (by simp [e,hjn]) hDj;exact dn j hj e hjn hDj k1 k2
 ·by_cases e:j=i
  ·subst e;rw [ho] at hy;injection hy with hy;subst hy
   rw [hEi hDj t ht,ht];show r=if t=t then r else _;rw [cG rfl]
  ·rw [hD j e] at hDj;have h1:o.dst ≠ some t:=λhd=>hne t hd j y hy e ht;rw [tY h1,hEr t h1];exact h.slot j y t hy ht hDj (by simp [e,hjn])
 ·have e:j ≠ i:=by rintro rfl;exact hkr hj
  rw [hD j e] at hDj;obtain ⟨v,h1,h2⟩:=h.mv j y hy (by simp [hj]) hDj;refine ⟨v,?_,λt ht=>?_⟩
  ·rw [hmk j y hy hj (h.un j (by simp [hj]) hDj) λhM hx=>h.rn j (by simp [hj]) hDj hM (by simp [hx])];exact h1
  ·rw [hEr t λhd=>hne t hd j y hy e ht];exact h2 t ht
 ·by_cases hd:o.dst=some t
  ·have hDi':=ht i o ho hd;rw [hEn hDi'];refine h.out t λj y hy hj=>?_
   by_cases e:j=i
   ·subst e;cases hx:D j with
    | false=>rfl
    | true=>rw [hDi hx] at hDi';cases hDi'
   ·rw [←hD j e];exact ht j y hy hj
  ·rw [hEr t hd];refine h.out t λj y hy hj=>?_;have e:j ≠ i:=by rintro rfl;rw [ho] at hy;injection hy with hy;subst hy;exact hd hj
   rw [←hD j e];exact ht j y hy hj
 ·rw [tY λhd=>hkr (ht i o ho hd)];exact h.base t λj y hy hj=>by simp [ht j y hy hj]
 ·rcases hfl j hj with rfl | hj
  ·exact (Ox (p1 y hy)).1
  ·exact h.fi j hj y (by simp [hy])
 ·have hjn':full.length+j ∉ ((i,lt)::sch).map Prod.fst:=λe=>by
   rcases Cj.1 (show full.length+j ∈ i::sch.map Prod.fst from e) with e | e
   ·omega
   ·exact hjn e
  obtain ⟨g1,g2⟩:=h.rb j hM (by simp [hj]) hjn';refine ⟨λy hy=>g1 y (by simp [hy]),λy hy=>?_⟩;rw [hmk j y hy hj (isM_A hM).1 λ_=>hjn];exact g2 y hy
 ·have e:j ≠ i:=by rintro rfl;exact hkr hj
  rw [hD j e] at hDj;exact λhx=>h.rn j (by simp [hj]) hDj hM (by simp [hx])
 ·have e:j ≠ i:=by rintro rfl;rw [hB hjB] at hDj;cases hDj
  rw [hD j e] at hDj;exact (Cj.1 (h.bb j hjB hDj)).resolve_left e
theorem Gn.down (hc:∀i,i<full.length->∀j,j<full.length->xOk full tbl i j=true) (hni:∀i,i<full.length->DJ tbl i i=false) (hcl:∀i j,D i=true->DJ tbl j i=true->D j=true) (hlt:∀i,D i=true->i<full.length):∀ {sch:List (Nat × List Nat)} {fl:List Nat} {E:fP} {m:M},Gn P full tbl π k0 K E0 D cl sch fl E m Er ->
  ∃sch' fl' E' m' Lp,Gn P full tbl π k0 K E0 D cl sch' fl' E' m' Er/\HdX full D sch'/\m'=Nj m Lp/\LA π k0 D cl sch=Lp++LA π k0 D cl sch':=by
 intro sch
 induction sch with
 | nil=>intro fl E m h;exact ⟨[],fl,E,m,[],h,λi lt h=>(nomatch h),rfl,rfl⟩
 | cons il sch ih=>
   obtain ⟨i,lt⟩:=il;intro fl E m h;obtain ⟨p1,p2⟩:=IR (a:=i) (l:=sch.map Prod.fst) h.ordd;have h1:=h.px;have hs:=h.sc
   have hLn:D i=false->LA π k0 D cl ((i,lt)::sch)=LA π k0 D cl sch:=λhDi=>by
    unfold LA;simp only [oC,List.filter_cons,hDi,Bt,if_false]
   cases ho:full[i]? with
   | none=>
     have hil:full.length<=i:=by
      by_cases e:full.length<=i
      ·exact e
      ·rw [tS za] at ho;cases ho
     have hDi:D i=false:=by
      cases hx:D i with
      | false=>rfl
      | true=>have:=hlt i hx;omega
     simp only [GP,ho] at h1;simp only [Fb,ho] at hs;cases ho':full[i - full.length]? with
     | none=>rw [ho'] at h1;exact h1.elim
     | some o'=>
       rw [ho'] at h1;rw [hLn hDi]
       have hml:∀ {j:Nat},j<full.length->(j ∈ i::sch.map Prod.fst ↔ j ∈ sch.map Prod.fst):=λ{j} hj=>by
        rw [Cj];exact ⟨λh=>h.resolve_left za,.inr⟩
       have hol:∀ {j:Nat} {y:Oper},full[j]? = some y->j<full.length:=λhy=>(sG.1 hy).1;refine ih ⟨h1.2,hs,λj hj=>h.un j (by simp [hj]),λj hj hjn=>h.dn j hj λe=>hjn ((hml hj).1 e),λj y t hy ht hDj hjn=>h.slot j y t hy ht hDj λe=>hjn ((hml (hol hy)).1 e),λj y hy hj=>h.mv j y hy (by simp [hj]),h.out,λt ht=>h.base t λj y hy hj=>by simp [ht j y hy hj],p2,λj hj y hy=>h.fi j hj y (by simp [hy]),λj hM hj hjn=>?_,λj hj hDj hM hx=>h.rn j (by simp [hj]) hDj hM (by simp [hx]),λj hjB hDj=>(hml (hol (UC hjB).choose_spec)).1 (h.bb j hjB hDj)⟩
       by_cases e:full.length+j=i
       ·refine ⟨λy hy=>?_,λy hy=>?_⟩
        ·have:=xp_r (p1 y hy) hil
         rwa [show i - full.length=j by omega] at this
        ·have hjy:o'=y:=by rw [show i - full.length=j by omega,hy] at ho';injection ho' with ho';exact ho'.symm
         subst hjy;have h2:=h1.1;unfold rdO at h2
         split at h2
         ·rename_i T l k hop;rw [hop];obtain ⟨v,kc,h3,_⟩:=Qk.1 h2
          have:(Iz P (.makeSlice T (.tmp l) (.tmp k)) ((k0+j)::π) E).isSome=(Iz P (.makeSlice T (.tmp l) (.tmp k)) [] E).isSome:=by
           simp only [Iz]
           repeat (first | rfl | split)
          rw [this,h3];rfl
         ·exact h2.elim
       ·obtain ⟨g1,g2⟩:=h.rb j hM (by simp [hj]) λhx=>by
         rcases Cj.1 (show full.length+j ∈ i::sch.map Prod.fst from hx) with hx | hx
         ·exact e hx
         ·exact hjn hx
        exact ⟨λy hy=>g1 y (by simp [hy]),g2⟩
   | some o=>
     have hil:i<full.length:=(sG.1 ho).1;have hkr:i ∉ sch.map Prod.fst:=λe=>(Ox (p1 i e)).2 rfl
     have hlk:MO full i=false->∀v j y,full[j]? = some y->DJ tbl i j=false->∀t ∈ yB full y,lE o.dst v E t=E t:=by
      intro hnB v j y hy k1 t ht;refine tY λe=>?_;have hb:=(Hi hc ho hy e).2 ht;rw [k1,hnB] at hb
      rcases hb with hb | hb
      ·cases hb
      ·cases hb.2
     have hds:∀v j y dj,full[j]? = some y->j ≠ i->y.dst=some dj->lE o.dst v E dj=E dj:=λv j y dj hy hjk hdj=>tY λhd=>(Hi hc ho hy hd).1 (λe=>hjk e.symm) hdj;cases hx:Ot o.op with
     | true=>
       cases hDi:D i with
       | false=>
         exact ⟨(i,lt)::sch,fl,E,m,[],h,λj lt' hj=>by
          have:i=j:=by have:=jN hj;exact vJ Prod.fst this
          subst this;exact ⟨o,ho,.inl hx,hDi⟩,rfl,rfl⟩
       | true=>
         have hnB:MO full i=false:=by
          cases hb:MO full i with
          | false=>rfl
          | true=>rw [isB_X hb ho] at hx;cases hx
         have hA:=h.un i zc hDi;obtain ⟨hg0,_,_⟩:=Dy hA ho;obtain ⟨v,hv,hEv⟩:=h.mv i o ho zc hDi;simp only [GP,ho,hx,if_true] at h1;obtain ⟨run,hgt,hr1,_⟩:=h1;simp only [Fb,ho,hx,if_true,KN,beq_iff_eq] at hs;obtain ⟨hlt',hs⟩:=hs;rw [hg0] at hgt;obtain ⟨v',kc,hv',hlate,hpx⟩:=(mk_step hA ho).1 (hr1 hgt);rw [hv] at hv'
         injection hv' with hv'
         injection hv' with e1 e2
         subst e1 e2
         obtain ⟨sch',fl',E',m',Lp,hI,hH,hm',hL⟩:=ih (h.next hc ho (D':=D) (Er':=Er) (r:=v) hpx hs (λ_ _=>rfl) (λh=>h) (λ_ _=>rfl) (λ_=>hEv) (λ_=>rfl) (λj hj=>.inr (SS.1 hj).1) (λj hj hji hjn hDj k1 k2=>by
           have hnb:DJ tbl j i=false:=by
            cases hb:DJ tbl j i with
            | false=>rfl
            | true=>rw [hcl i j hDi hb] at hDj;cases hDj
           refine ⟨SS.2 ⟨k1,by simp [hnb]⟩,Kb ?_ (λy dj hy hdj=>hds _ j y dj hy hji hdj) (λy hy=>hlk hnB _ j y hy (h.fi j k1 i zc))⟩;cases hm:md full j with
           | false=>exact Ql hm k2
           | true=>exact hlate j (by rw [←hlt'];exact SS.2 ⟨SS.2 ⟨k1,by simp [hnb]⟩,hm⟩)) (λe=>by rw [hDi] at e;cases e) (λ_=>hDi))
         refine ⟨sch',fl',E',m',((k0+i)::π,cl i)::Lp,hI,hH,by rw [hm'];rfl,?_⟩
         have:LA π k0 D cl ((i,lt)::sch)=((k0+i)::π,cl i)::LA π k0 D cl sch:=by
          unfold LA;simp only [oC,List.filter_cons,hDi,if_true]
         rw [this,hL];rfl
     | false=>
       have hDi:D i=false:=by
        cases hDi:D i with
        | false=>rfl
        | true=>have:=(Dy (h.un i zc hDi) ho).2.1;rw [hx] at this;cases this
       cases hBi:MO full i with
       | true=>
         exact ⟨(i,lt)::sch,fl,E,m,[],h,λj lt' hj=>by
          have:i=j:=by have:=jN hj;exact vJ Prod.fst this
          subst this;exact ⟨o,ho,.inr hBi,hDi⟩,rfl,rfl⟩
       | false=>
         simp only [GP,ho,hx,Bt,if_false] at h1;simp only [Fb,ho,hx,Bt,if_false] at hs;obtain ⟨v,hax,hpx⟩:=h1;rw [hLn hDi]
         have hd:∃d,o.dst=some d:=by
          cases hd:o.dst with
          | some d=>exact ⟨d,rfl⟩
          | none=>
            have:=hc i hil i hil;unfold xOk at this;rw [ho] at this;simp [hd,hx] at this
         obtain ⟨d,hd⟩:=hd;refine ih (h.next hc ho (D':=D) (Er':=Er) (r:=v) hpx hs (λ_ _=>rfl) (λh=>h) (λ_ _=>rfl) (λe=>by rw [hDi] at e;cases e) (λ_=>rfl) (λj hj=>Cj.1 hj) (λj hj hji hjn hDj k1 k2=>⟨by simp [k1],?_⟩) (λ_=>⟨zc,?_⟩) (λe=>by rw [hBi] at e;cases e))
         ·unfold BS at k2 ⊢;cases hoj:full[j]? with
          | none=>rw [hoj] at k2;exact k2
          | some y=>
            rw [hoj] at k2;simp only at k2 ⊢;cases hdj:y.dst with
            | none=>rw [hdj] at k2;exact k2
            | some dj=>
              rw [hdj] at k2;simp only at k2 ⊢;rw [hds v j y dj hoj hji hdj];exact FX k2 (hlk hBi v j y hoj (h.fi j k1 i zc))
         ·unfold BS;rw [ho];simp only [hd];have:lE (some d) v E d=v:=by show (if d=d then v else E d)=v;rw [cG rfl]
          rw [this];refine FX hax λt ht=>?_;rw [←hd];exact hlk hBi v i o ho (hni i hil) t ht
def NxX (P:Program) (full:List Oper) (tbl:List Nat) (π:Pa) (k0:Nat) (K:Nat->fP->M->Prop) (E0:fP) (D:Nat->Bool) (cl:Nat->Bool × List V) (i:Nat) (sch:List (Nat × List Nat)) (m1:M) (Er':fP):Prop:=
 ∃sch' fl' E' m' Lp,Gn P full tbl π k0 K E0 (GN D i) cl sch' fl' E' m' Er'/\HdX full (GN D i) sch'/\m'=Nj m1 Lp/\LA π k0 D cl sch=Lp++LA π k0 (GN D i) cl sch'
theorem Gn.step (hc:∀i,i<full.length->∀j,j<full.length->xOk full tbl i j=true) (hni:∀i,i<full.length->DJ tbl i i=false) (hz:∀o ∈ full,∀T,o.op=.alloc T->(dK P T).isSome=true) (hcl:∀i j,D i=true->DJ tbl j i=true->D j=true) (hlt:∀i,D i=true->i<full.length) (h:Gn P full tbl π k0 K E0 D cl sch fl E m Er) (hd:HdX full D sch) {i:Nat} {o:Oper} (ho:full[i]? = some o) (hu:D i=false) (hbef:∀j,DJ tbl j i=true->D j=true) :
  (∃run,KH full o.guard Er run/\(run=true->∃C:V->M->Prop,iH P o ((k0+i)::π) Er m C/\∀r m1,C r m1->NxX P full tbl π k0 K E0 D cl i sch m1 (lE o.dst r Er))/\(run=false->NxX P full tbl π k0 K E0 D cl i sch m (lE o.dst (.lit undef) Er))) ∨
  (Qt full i=true/\∃v kc,Iz P o.op ((k0+i)::π) Er=some (v,kc)/\Gn P full tbl π k0 K E0 (GN D i) (λj=>if j=i then kc else cl j) sch fl E m (lE o.dst v Er)/\HdX full (GN D i) sch/\∀x ∈ LA π k0 (GN D i) (λj=>if j=i then kc else cl j) sch,x=((k0+i)::π,kc) ∨ x ∈ LA π k0 D cl sch):=by
 have hil:i<full.length:=(sG.1 ho).1
 have hcl':∀x y,GN D i x=true->DJ tbl y x=true->GN D i y=true:=by
  intro x y hx hb;simp only [GN,xeb,beq_iff_eq] at hx ⊢
  rcases hx with hx | rfl
  ·exact .inl (hcl x y hx hb)
  ·exact .inl (hbef y hb)
 have hlt':∀x,GN D i x=true->x<full.length:=by
  intro x hx;simp only [GN,xeb,beq_iff_eq] at hx
  rcases hx with hx | rfl
  ·exact hlt x hx
  ·exact hil
 have hne:∀d,o.dst=some d->∀j y,full[j]? = some y->j ≠ i->y.dst ≠ some d:=λd hd j y hy hji=>(Hi hc ho hy hd).1 (λe=>hji e.symm)
 -- the operation's variables are as they are told
 have hag':(∀j ∈ sch.map Prod.fst,DJ tbl j i=false)->∀t ∈ yB full o,Er t=E t:=by
  intro hno t htl
  by_cases hw:∃(j:Nat) (x:Oper),full[j]? = some x/\x.dst=some t
  ·obtain ⟨j,x,hx,hd⟩:=hw
   rcases (Hi hc hx ho hd).2 htl with hb | ⟨hb,hB⟩
   ·exact h.slot j x t hx hd (hbef j hb) λhj=>by rw [hno j hj] at hb;cases hb
   ·have hDj:D j=false:=by
     cases hDj:D j with
     | false=>rfl
     | true=>rw [hcl j i hDj hb] at hu;cases hu
    have hun:∀j' y,full[j']? = some y->y.dst=some t->j'=j:=λj' y hy hyd=>Classical.byContradiction λe=>(Hi hc hx hy hd).1 (λe2=>e e2.symm) hyd;rw [h.out t λj' y hy hyd=>by rw [hun j' y hy hyd];exact hDj];exact (h.base t λj' y hy hyd=>by rw [hun j' y hy hyd];exact h.bb j hB hDj).symm
  ·rw [h.out t λj x hx hd=>dE ⟨j,x,hx,hd⟩ hw];exact (h.base t λj x hx hd=>dE ⟨j,x,hx,hd⟩ hw).symm
 have hout:∀(v:V) (t:Nat),(∀j y,full[j]? = some y->y.dst=some t->GN D i j=false)->lE o.dst v Er t=E0 t:=by
  intro v t ht;have h1:o.dst ≠ some t:=λhd=>by have:=ht i o ho hd;rw [qG] at this;cases this
  rw [tY h1];refine h.out t λj y hy hj=>?_;have:=ht j y hy hj
  by_cases e:j=i
  ·subst e;exact hu
  ·rwa [pJ e] at this
 by_cases hin:i ∈ sch.map Prod.fst
 ·cases hisc:sch with
  | nil=>rw [hisc] at hin;cases hin
  | cons kl rest=>
    obtain ⟨k,lt⟩:=kl;subst hisc;obtain ⟨ok,hok,hxk,hDk⟩:=hd k lt rfl;have hkl:=(sG.1 hok).1;obtain ⟨p1,p2⟩:=IR (a:=k) (l:=rest.map Prod.fst) h.ordd
    have hnk:DJ tbl k i=false:=by
     cases hb:DJ tbl k i with
     | false=>rfl
     | true=>have:=hbef k hb;rw [hDk] at this;cases this
    by_cases hki:k=i
    rotate_left
    ·right
     have hir:i ∈ rest.map Prod.fst:=(Cj.1 (show i ∈ k::rest.map Prod.fst from hin)).resolve_left λe=>hki e.symm;have hA:Qt full i=true:=((xp_x (p1 i hir) hok hxk).2 hil).resolve_left (by rw [hnk];decide)
     have hrn:full.length+i ∉ ((k,lt)::rest).map Prod.fst:=λe=>by
      rcases Cj.1 (show full.length+i ∈ k::rest.map Prod.fst from e) with e | e
      ·omega
      ·have:=(xp_x (p1 _ e) hok hxk).1 za;rw [show full.length+i - full.length=i by omega,hnk] at this;cases this
     obtain ⟨v,kc,hv,hvE⟩:∃v kc,Iz P o.op ((k0+i)::π) Er=some (v,kc)/\Iz P o.op ((k0+i)::π) E=some (v,kc):=by
      rcases (Dy hA ho).2.2 with ⟨T,hT⟩ | hM
      ·obtain ⟨zs,hzz⟩:=Option.isSome_iff_exists.1 (hz o (zX ho) T hT);exact ⟨.ptr ((k0+i)::π) 0,(false,zs),by rw [hT];simp only [Iz,hzz];rfl,by rw [hT];simp only [Iz,hzz];rfl⟩
      ·obtain ⟨g1,g2⟩:=h.rb i hM hin hrn;obtain ⟨⟨v,kc⟩,hv⟩:=Option.isSome_iff_exists.1 (g2 o ho);exact ⟨v,kc,by rw [Lh (hag' g1)];exact hv,hv⟩
     refine ⟨hA,v,kc,hv,⟨h.px,h.sc,λj hj hDj=>?_,λj hj hjn hDj=>?_,λj y t hy ht hDj hjn=>?_,λj y hy hj hDj=>?_,hout v,h.base,h.ordd,h.fi,h.rb,λj hj hDj hM=>?_,λj hjB hDj=>?_⟩,λj lt' hj=>?_,λx hx=>?_⟩
     ·by_cases e:j=i
      ·rw [e];exact hA
      ·rw [pJ e] at hDj;exact h.un j hj hDj
     ·have e:j ≠ i:=λe=>hjn (e ▸ hin);rw [pJ e] at hDj;exact h.dn j hj hjn hDj
     ·have e:j ≠ i:=λe=>hjn (e ▸ hin);rw [pJ e] at hDj;rw [tY (λhd=>hne t hd j y hy e ht)];exact h.slot j y t hy ht hDj hjn
     ·by_cases e:j=i
      ·subst e;rw [ho] at hy;injection hy with hy;subst hy
       refine ⟨v,by rw [cG rfl];exact hvE,λt ht=>?_⟩;rw [ht];show (if t=t then _ else _)=_;rw [cG rfl]
      ·rw [pJ e] at hDj;obtain ⟨v',h1,h2⟩:=h.mv j y hy hj hDj;exact ⟨v',by rw [bU e];exact h1,λt ht=>by rw [tY (λhd=>hne t hd j y hy e ht)];exact h2 t ht⟩
     ·by_cases e:j=i
      ·rw [e];exact hrn
      ·rw [pJ e] at hDj;exact h.rn j hj hDj hM
     ·have e:j ≠ i:=by rintro rfl;rw [qG] at hDj;cases hDj
      rw [pJ e] at hDj;exact h.bb j hjB hDj
     ·obtain ⟨o',g1,g2,g3⟩:=hd j lt' hj;have hjk:k=j:=by have:=jN hj;exact vJ Prod.fst this
      subst hjk;exact ⟨o',g1,g2,by rw [pJ hki];exact g3⟩
     ·unfold LA at hx ⊢;obtain ⟨y,hy,rfl⟩:=Iw.1 hx;obtain ⟨hym,hyd⟩:=SS.1 hy
      by_cases e:y=i
      ·subst e;left;simp only [if_true]
      ·right
       rw [pJ e] at hyd;simp only [bU e];exact List.mem_map_of_mem (f:=λi=>((k0+i)::π,cl i)) (SS.2 ⟨hym,hyd⟩)
    left
    subst hki;rw [hok] at ho;injection ho with ho;subst ho
    have hkr:k ∉ rest.map Prod.fst:=λe=>(Ox (p1 k e)).2 rfl
    have hag:=hag' λj hj=>by
     rcases Cj.1 (show j ∈ k::rest.map Prod.fst from hj) with rfl | hj
     ·exact hni _ hil
     ·exact (Ox (p1 j hj)).1
    have hev:=Hu (m:=m) (E:=E) (E':=Er) hag
    have hLA:LA π k0 D cl ((k,lt)::rest)=LA π k0 (GN D k) cl rest:=by
     unfold LA;simp only [oC,List.filter_cons,hDk,Bt,if_false]
     congr 1
     exact List.filter_congr λj hj=>(pJ (by rintro rfl;exact hkr hj)).symm
    have hlk:∀v j y,full[j]? = some y->j ∈ fl->D j=false->∀t ∈ yB full y,lE ok.dst v E t=E t:=by
     intro v j y hy k1 hDj t ht;refine tY λe=>?_
     rcases (Hi hc hok hy e).2 ht with hb | hb
     ·rw [h.fi j k1 k zc] at hb;cases hb
     ·rw [hbef j hb.1] at hDj;cases hDj
    have hds:∀v j y dj,full[j]? = some y->j ≠ k->y.dst=some dj->lE ok.dst v E dj=E dj:=λv j y dj hy hjk hdj=>tY λhd=>(Hi hc hok hy hd).1 (λe=>hjk e.symm) hdj
    have hax:∀v j,j<full.length->j ≠ k->j ∈ fl->D j=false->BS P full π k0 E m j->BS P full π k0 (lE ok.dst v E) m j:=by
     intro v j hj hjk k1 hDj k2;unfold BS at k2 ⊢;cases hoj:full[j]? with
     | none=>rw [hoj] at k2;exact k2
     | some y=>
       rw [hoj] at k2;simp only at k2 ⊢;cases hdj:y.dst with
       | none=>rw [hdj] at k2;exact k2
       | some dj=>
         rw [hdj] at k2;simp only at k2 ⊢;rw [hds _ j y dj hoj hjk hdj];exact FX k2 (hlk _ j y hoj k1 hDj)
    cases hxx:Ot ok.op with
    | false=>
      have hBk:MO full k=true:=hxk.resolve_left (by rw [hxx];decide);have hpx:=h.px;simp only [GP,hok,hxx,Bt,if_false] at hpx;have hsc:=h.sc;simp only [Fb,hok,hxx,Bt,if_false] at hsc;obtain ⟨v,hnx,hpx⟩:=hpx
      have key:NxX P full tbl π k0 K E0 D cl k ((k,lt)::rest) m (lE ok.dst v Er):=by
       unfold NxX;rw [hLA];exact Gn.down hc hni hcl' hlt' (h.next hc hok (D':=GN D k) (Er':=lE ok.dst v Er) (r:=v) hpx hsc (λj e=>pJ e) (λ_=>qG) (λt ht=>tY ht) (λ_ t ht=>by rw [ht];show (if t=t then _ else _)=_;rw [cG rfl]) (λe=>by rw [qG] at e;cases e) (λj hj=>Cj.1 hj) (λj hj hjk hjn hDj k1 k2=>⟨by simp [k1],hax v j hj hjk k1 hDj k2⟩) (λe=>by rw [qG] at e;cases e) (λ_=>qG))
      obtain ⟨run,r1,r2,r3⟩:=Qi hnx;refine ⟨run,EB r1 hag,λe=>⟨_,QG (Hy (r2 e) hev),?_⟩,λe=>by rw [←r3 e];exact key⟩;rintro r m1 ⟨rfl,rfl⟩;exact key
    | true=>
    have hxk:=hxx;have hpx:=h.px;simp only [GP,hok,hxk,if_true] at hpx;have hsc:=h.sc;simp only [Fb,hok,hxk,if_true,KN,beq_iff_eq] at hsc;obtain ⟨hlt2,hsc⟩:=hsc;obtain ⟨run,hgt,hr1,hr0⟩:=hpx
    have next:∀r m1,(∀j,j<full.length->j ≠ k->j ∈ fl->D j=false->DJ tbl j k=false->BS P full π k0 E m j->BS P full π k0 (lE ok.dst r E) m1 j)->GP P full π k0 K rest (lE ok.dst r E) m1->NxX P full tbl π k0 K E0 D cl k ((k,lt)::rest) m1 (lE ok.dst r Er):=by
     intro r m1 hfl hpx;unfold NxX;rw [hLA];refine Gn.down hc hni hcl' hlt' (h.next hc hok (D':=GN D k) (Er':=lE ok.dst r Er) (r:=r) hpx hsc (λj e=>pJ e) (λ_=>qG) (λt ht=>tY ht) (λ_ t ht=>by rw [ht];show (if t=t then _ else _)=_;rw [cG rfl]) (λe=>by rw [qG] at e;cases e) (λj hj=>.inr (SS.1 hj).1) (λj hj hjk hjn hDj k1 k2=>?_) (λe=>by rw [qG] at e;cases e) (λ_=>qG))
     have hnb:DJ tbl j k=false:=by
      cases hb:DJ tbl j k with
      | false=>rfl
      | true=>rw [hbef j hb] at hDj;cases hDj
     exact ⟨SS.2 ⟨k1,by simp [hnb]⟩,hfl j hj hjk k1 hDj hnb k2⟩
    refine ⟨run,EB hgt hag,λe=>⟨_,DM hxk (hr1 e) hev,?_⟩,λe=>next _ m (λj hj hjk k1 hDj hnb k2=>hax _ j hj hjk k1 hDj k2) (hr0 e)⟩
    ·rintro r m1 ⟨hfl,hpx⟩;refine next r m1 (λj hj hjk k1 hDj hnb k2=>Kb ?_ (λy dj hy hdj=>hds _ j y dj hy hjk hdj) (λy hy=>hlk _ j y hy k1 hDj)) hpx;cases hm:md full j with
     | false=>exact Ql hm k2
     | true=>exact hfl j (by rw [←hlt2];exact SS.2 ⟨SS.2 ⟨k1,by simp [hnb]⟩,hm⟩)
 ·obtain ⟨k1,k2⟩:=h.dn i hil hin hu;have hag:=hag' λj hj=>h.fi i k1 j hj;have hev:=Hu (m:=m) (E:=E) (E':=Er) hag;unfold BS at k2;rw [ho] at k2;simp only at k2;cases hd0:o.dst with
  | none=>rw [hd0] at k2;exact k2.elim
  | some d=>
    rw [hd0] at k2 hout;simp only at k2;have hne:∀j y,full[j]? = some y->j ≠ i->y.dst ≠ some d:=hne d hd0;have hni2:∀j ∈ sch.map Prod.fst,j ≠ i:=λj hj e=>hin (e ▸ hj)
    have key:NxX P full tbl π k0 K E0 D cl i sch m (lE (some d) (E d) Er):=by
     refine ⟨sch,fl,E,m,[],⟨h.px,h.sc,λj hj hDj=>?_,λj hj hjn hDj=>?_,λj y t hy ht hDj hjn=>?_,λj y hy hj hDj=>?_,hout _,h.base,h.ordd,h.fi,h.rb,λj hj hDj=>?_,λj hjB hDj=>?_⟩,λj lt' hj=>?_,rfl,?_⟩
     ·rw [pJ (hni2 j hj)] at hDj;exact h.un j hj hDj
     ·have hji:j ≠ i:=by rintro rfl;rw [qG] at hDj;cases hDj
      rw [pJ hji] at hDj;exact h.dn j hj hjn hDj
     ·by_cases e:j=i
      ·subst e;rw [ho] at hy;injection hy with hy;subst hy
       rw [hd0] at ht;injection ht with ht;subst ht
       show (if d=d then E d else Er d)=E d;rw [cG rfl]
      ·rw [pJ e] at hDj;rw [tY (by intro e2;injection e2 with e2;subst e2;exact hne j y hy e ht)];exact h.slot j y t hy ht hDj hjn
     ·rw [pJ (hni2 j hj)] at hDj;obtain ⟨v,h1,h2⟩:=h.mv j y hy hj hDj;exact ⟨v,h1,λt ht=>by rw [tY (by intro e2;injection e2 with e2;subst e2;exact hne j y hy (hni2 j hj) ht)];exact h2 t ht⟩
     ·rw [pJ (hni2 j hj)] at hDj;exact h.rn j hj hDj
     ·have e:j ≠ i:=by rintro rfl;rw [qG] at hDj;cases hDj
      rw [pJ e] at hDj;exact h.bb j hjB hDj
     ·obtain ⟨o',g1,g2,g3⟩:=hd j lt' hj;refine ⟨o',g1,g2,?_⟩;rw [pJ (hni2 j ?_)]
      ·exact g3
      ·cases hs:sch with
       | nil=>rw [hs] at hj;cases hj
       | cons a l=>rw [hs] at hj;have:=jN hj;rw [this];simp
     ·unfold LA;rw [wN]
      congr 1
      exact List.filter_congr λj hj=>(pJ (hni2 j hj)).symm
    obtain ⟨run,r1,r2,r3⟩:=Qi k2;refine .inl ⟨run,EB r1 hag,λe=>⟨_,QG (Hy (r2 e) hev),?_⟩,λe=>by rw [←r3 e];exact key⟩;rintro r m1 ⟨rfl,rfl⟩;exact key
theorem px_run {Q:Exit->Act->World->Prop} {c0:Conc} {mm:M} {w0:World} {a0:Act} {W:Nat->Bool} {E00:fP} (hQ:∀a' w',Br π N W E00 c0 mm w0 a0 K a' w'->Q .normal a' w') (hfit:Et N full=true) (hW:∀o ∈ full,∀d,o.dst=some d->W d=true)
  (htc:LI full tbl=true) (hc:∀i,i<full.length->∀j,j<full.length->xOk full tbl i j=true) (hni:∀i,i<full.length->DJ tbl i i=false) (hz:∀o ∈ full,∀T,o.op=.alloc T->(dK P T).isSome=true) :
  ∀(fuel:Nat) (listed:Array Bool) (cl:Nat->Bool × List V) (is:List (Nat × List Nat)) (fl:List Nat) (E Er:fP) (c:Conc) (m:M) (w:World) (a:Act),listed.size=full.length->(List.range full.length).countP (λi=>!(listed.getD i false))<=fuel->(∀i j,listed.getD i false=true->DJ tbl j i=true->listed.getD j false=true) ->
   Gn P full tbl π k0 K E0 (λi=>listed.getD i false) cl is fl E m Er->HdX full (λi=>listed.getD i false) is->fZ c m w->Hfs w0.heap.size c m w (LA π k0 (λi=>listed.getD i false) cl is)->qH c Er a N->(∀i,i<full.length->listed.getD i false=false->uU c ((k0+i)::π))->uM c π (k0+full.length)->Abs.oB π c0 mm w0 c m w->a.defers=a0.defers->(∀t,W t=false->Er t=E00 t)->wpAny P .any full.toArray Q fuel listed a w:=by
 have hdone:∀(listed:Array Bool) (cl:Nat->Bool × List V) (is:List (Nat × List Nat)) (fl:List Nat) (E Er:fP) (c:Conc) (m:M) (w:World) (a:Act),(∀i,i<full.length->listed.getD i false=true)->Gn P full tbl π k0 K E0 (λi=>listed.getD i false) cl is fl E m Er->HdX full (λi=>listed.getD i false) is->fZ c m w->qH c Er a N->uM c π (k0+full.length)->Abs.oB π c0 mm w0 c m w->a.defers=a0.defers->(∀t,W t=false->Er t=E00 t)->Q .normal a w:=by
  intro listed cl is fl E Er c m w a hall hI hHd hR hE hF hX hd hU
  have his:is=[]:=by
   cases his:is with
   | nil=>rfl
   | cons il rest=>
     obtain ⟨i,lt⟩:=il;obtain ⟨o,h1,_,h2⟩:=hHd i lt (by rw [his];rfl);have:=hall i (sG.1 h1).1;rw [show listed.getD i false=false from h2] at this;cases this
  subst his
  have hEr:Er=E:=by
   funext t
   by_cases hw:∃(j:Nat) (x:Oper),full[j]? = some x/\x.dst=some t
   ·obtain ⟨j,x,hx,hd2⟩:=hw;exact hI.slot j x t hx hd2 (hall j (sG.1 hx).1) (λh=>nomatch h)
   ·have h1:=hI.out t λ(j:Nat) (x:Oper) hx hd=>dE (Exists.intro j (Exists.intro x ⟨hx,hd⟩)) hw;have h2:=hI.base t λ(j:Nat) (x:Oper) hx hd=>dE (Exists.intro j (Exists.intro x ⟨hx,hd⟩)) hw;rw [h1,h2]
  subst hEr;exact hQ a w ⟨c,_,Er,m,hI.px,hR,hX,hE,hF,hd,hU⟩
 have hready:∀listed:Array Bool,listed.size=full.length->Region.ready .any full.toArray listed=[]->∀i,i<full.length->listed.getD i false=true:=by
  intro listed hsz hr i
  induction i using Nat.strongRecOn with
  | ind i ih=>
    intro hi;cases hx:listed.getD i false with
    | true=>rfl
    | false=>
      exfalso
      have hmem:i ∈ Region.ready .any full.toArray listed:=by
       refine HS.2 ⟨hi,?_,_,tS hi,λe he hbd=>?_⟩
       ·rw [PS] at hx ⊢;rw [Array.getElem?_eq_getElem za] at hx ⊢;exact hx
       ·have hlt:=edge_lt htc (tS hi) he hbd;exact ih e.on hlt za
      rw [hr] at hmem;cases hmem
 intro fuel
 induction fuel with
 | zero=>
   intro listed cl is fl E Er c m w a hsz hcn hcl hI hHd hR hH hE hF hFK hX hd hU
   have hla:∀i,i<full.length->listed.getD i false=true:=by
    intro i hi;have:=List.countP_eq_zero.1 (Nat.le_zero.1 hcn) i (Te.2 hi);simpa using this
   refine ⟨?_,hdone listed cl is fl E Er c m w a hla hI hHd hR hE hFK hX hd hU⟩;apply List.eq_nil_iff_forall_not_mem.2;intro i hi;obtain ⟨h1,h2,_⟩:=HS.1 hi;have:=hla i h1;rw [PS] at h2 this;rw [Array.getElem?_eq_getElem za] at h2 this;simp only [Option.getD_some] at h2 this;rw [h2] at this;cases this
 | succ fuel ih=>
   intro listed cl is fl E Er c m w a hsz hcn hcl hI hHd hR hH hE hF hFK hX hd hU;refine ⟨λhr=>hdone listed cl is fl E Er c m w a (hready listed hsz hr) hI hHd hR hE hFK hX hd hU,λi hi=>?_⟩;obtain ⟨h1,h2,o,ho,h3⟩:=HS.1 hi;have hmem:o ∈ full:=zX ho
   have hu:listed.getD i false=false:=by
    rw [PS] at h2 ⊢;rw [Array.getElem?_eq_getElem za] at h2 ⊢;exact h2
   have hbef:∀j,DJ tbl j i=true->listed.getD j false=true:=by
    intro j hbj;obtain ⟨ed,hed,hbd,hj⟩:=Tt htc ho hbj;have:=h3 ed hed hbd
    rcases hj with hj | hj
    ·rw [←hj];exact this
    ·exact hcl _ _ this hj
   have hfo:∀d,o.dst=some d->d<N:=by
    intro d h;have:=KK.1 (show full.all _=true from hfit) o hmem;rw [h] at this;simpa using this
   have hD:GN (λi=>listed.getD i false) i=λj=>(listed.setIfInBounds i true).getD j false:=by
    funext j
    by_cases hj:j=i
    ·subst hj;rw [qG,PS,Array.getElem?_setIfInBounds_self_of_lt za];rfl
    ·rw [pJ hj,PS,PS,Array.getElem?_setIfInBounds_ne (λe'=>hj e'.symm)]
   have hDj:∀j,(listed.setIfInBounds i true).getD j false=GN (λi=>listed.getD i false) i j:=λj=>(congrFun hD j).symm
   have hlt:∀x,(λi=>listed.getD i false) x=true->x<full.length:=by
    intro x hx
    by_cases hl:x<full.length
    ·exact hl
    ·have hx:listed.getD x false=true:=hx;rw [PS,Array.getElem?_eq_none za] at hx;cases hx
   have hsep:∀ {D':Nat->Bool} {cl':Nat->Bool × List V} {s:List (Nat × List Nat)},pw (Gr full tbl) (s.map Prod.fst)=true->(LA π k0 D' cl' s).Pairwise (λx y=>y.1 ≠ x.1):=by
    intro D' cl' s hs;unfold LA;rw [List.pairwise_map];refine List.Pairwise.filter _ ?_
    have key:∀l:List Nat,pw (Gr full tbl) l=true->l.Pairwise (λx y=>((k0+y)::π:Pa) ≠ (k0+x)::π):=by
     intro l
     induction l with
     | nil=>intro _;exact .nil
     | cons x l ih=>
       intro h;obtain ⟨p1,p2⟩:=IR h;refine .cons (λy hy e=>?_) (ih p2);have h9:=(Ox (p1 y hy)).2
       injection e with e
       exact h9 za
    exact key _ hs
   have hLm:∀ {D':Nat->Bool} {cl':Nat->Bool × List V} {s:List (Nat × List Nat)} {x},x ∈ LA π k0 D' cl' s->∃z,D' z=true/\x=((k0+z)::π,cl' z):=by
    intro D' cl' s x hx;unfold LA at hx;obtain ⟨z,hz,rfl⟩:=Iw.1 hx;exact ⟨z,(SS.1 hz).2,rfl⟩
   have hblt:∀x ∈ LA π k0 (λi=>listed.getD i false) cl is,∃b,Da c x b/\b<w.heap.size:=by
    intro x hx;obtain ⟨b,_,_,h1,h2,_⟩:=(hH.all x hx).fU;exact ⟨b,h1.bk,h2.lt⟩
   have hkeep:∀(c':Conc) (m':M) (w':World),Abs.oB ((k0+i)::π) c m w c' m' w'->Hfs w0.heap.size c' m' w' (LA π k0 (λi=>listed.getD i false) cl is):=by
    intro c' m' w' g2;refine ⟨λx hx=>?_,λx hx y hy b h1 h2=>?_⟩
    ·refine (hH.all _ hx).step g2 λhs=>?_;obtain ⟨z,hzd,rfl⟩:=hLm hx;have hzi:i=z:=by have:=HL hs;omega
     subst hzi;rw [hu] at hzd;cases hzd
    ·obtain ⟨b1,g3,_⟩:=hblt x hx;obtain ⟨b2,g4,_⟩:=hblt y hy;have e1:=(g3.mono g2.le).uniq h1;have e2:=(g4.mono g2.le).uniq h2;subst e1 e2;exact hH.inj x hx y hy _ g3 g4
   have hgo:∀(v:V) (c2:Conc) (m2:M) (w':World) (a':Act) (cl':Nat->Bool × List V) (is':List (Nat × List Nat)) (fl':List Nat) (E':fP),Gn P full tbl π k0 K E0 (GN (λi=>listed.getD i false) i) cl' is' fl' E' m2 (lE o.dst v Er)->HdX full (GN (λi=>listed.getD i false) i) is'->fZ c2 m2 w'->Hfs w0.heap.size c2 m2 w' (LA π k0 (GN (λi=>listed.getD i false) i) cl' is')->Abs.oB π c0 mm w0 c2 m2 w'->qH c2 (lE o.dst v Er) a' N->a'.defers=a.defers ->
     (∀j,j<full.length->listed.getD j false=false->j ≠ i->uU c2 ((k0+j)::π))->uM c2 π (k0+full.length)->wpAny P .any full.toArray Q fuel (listed.setIfInBounds i true) a' w':=by
    intro v c2 m2 w' a' cl' is' fl' E' hI' hH' g1 gH gX g3 g4 gF gK;rw [hD] at hI' gH hH';refine ih _ cl' is' fl' E' _ c2 m2 w' a' (by simpa using hsz) ?_ (λx y hx hxy=>?_) hI' hH' g1 gH g3 (λj hj hlj=>?_) gK gX (g4.trans hd) (λt ht=>?_)
    ·have hlt:=Pv (D:=λi=>listed.getD i false) (Te.2 h1) hu
     have heq:(λj=>!((listed.setIfInBounds i true).getD j false))=λj=>!(GN (λi=>listed.getD i false) i j):=by
      funext j;rw [hDj]
     rw [heq];omega
    ·rw [hDj] at hx ⊢
     by_cases e:x=i
     ·subst e;have:=hbef y hxy
      by_cases e2:y=x
      ·subst e2;rw [qG]
      ·rw [pJ e2];exact this
     ·rw [pJ e] at hx;have:=hcl x y hx hxy
      by_cases e2:y=i
      ·subst e2;rw [qG]
      ·rw [pJ e2];exact this
    ·rw [hDj] at hlj;have hne:j ≠ i:=by rintro rfl;rw [qG] at hlj;cases hlj
     rw [pJ hne] at hlj;exact gF j hj hlj hne
    ·cases hdo:o.dst with
     | none=>exact hU t ht
     | some d=>
       have:=hW o hmem d hdo;show (if t=d then v else Er t)=E00 t;rw [bU (by rintro rfl;rw [ht] at this;cases this)];exact hU t ht
   have hnext:∀(v:V) (c':Conc) (m':M) (w':World) (a':Act),NxX P full tbl π k0 K E0 (λi=>listed.getD i false) cl i is m' (lE o.dst v Er)->fZ c' m' w'->Abs.oB ((k0+i)::π) c m w c' m' w'->qH c' (lE o.dst v Er) a' N->a'.defers=a.defers->wpAny P .any full.toArray Q fuel (listed.setIfInBounds i true) a' w':=by
    rintro v c' m' w' a' ⟨is',fl',E',m2,Lp,hI',hH',rfl,hL⟩ g1 g2 g3 g4;have hk:=hkeep c' m' w' g2;have hLp:∀x ∈ Lp,∃z,listed.getD z false=true/\x=((k0+z)::π,cl z):=λx hx=>hLm (D':=λi=>listed.getD i false) (s:=is) (by rw [hL];exact MI _ hx);rw [hL] at hk;obtain ⟨c2,q1,q2,q3,q4,q5⟩:=Hfs.promote Lp g1 (hX.trans g2.up) hk (by rw [←hL];exact hsep hI.ordd) (λx hx=>by obtain ⟨z,_,rfl⟩:=hLp x hx;exact QU _ _);refine hgo v c2 _ w' a' cl is' fl' E' hI' hH' q1 q4 q2 (g3.mono q3) g4 (λj hj hlj hne id eZ=>?_) (λj hj id eZ=>?_)
    ·refine q5 id (λy hy=>?_) (g2.fresh id (AE eZ za) (hF j hj hlj id eZ));obtain ⟨z,hzd,rfl⟩:=hLp y hy;rintro rfl;have hjz:j=z:=by have:=HL eZ;omega
     subst hjz;rw [hlj] at hzd;cases hzd
    ·refine q5 id (λy hy=>?_) (g2.fresh id (AE eZ za) (hFK j hj id eZ));obtain ⟨z,hzd,rfl⟩:=hLp y hy;rintro rfl;have hjz:=HL eZ;have:=hlt z hzd;omega
   unfold wpOp;rw [xdt,ho]
   rcases hI.step hc hni hz (λx y=>hcl x y) hlt hHd ho hu hbef with ⟨run,hgate,hrun,hskip⟩ | ⟨hA,v,kc,hv,hI',hH',hsub⟩
   ·have hwanted:Region.wanted o (yielded full.toArray a.tmps)=run:=KQ hgate (c:=c) λd hd=>hE.fU d;simp only [hwanted];cases run with
    | true=>
      obtain ⟨C,hs,hn⟩:=hrun rfl;simp only [if_true];refine .inl (Oper.wp_mono ?_ (FN (N:=N) hs hR hE (hF i h1 hu) hfo Q));rintro a' w' ⟨c',v,m',hC,g1,g2,g3,g4⟩;exact hnext v c' m' w' a' (hn v m' hC) g1 g2 g3 g4
    | false=>
      simp only [Bt,if_false];exact hnext (.lit undef) c m w _ (hskip rfl) hR (.refl _ c m w) (hE.put (v:=.lit undef) (x:=undef) (.lit .nil) hfo) (vR _ _ _)
   ·-- a block is made ahead of its turn
    obtain ⟨hg0,_,_⟩:=Dy hA ho;have hwanted:Region.wanted o (yielded full.toArray a.tmps)=true:=KQ (run:=true) (full:=full) (E:=Er) (by rw [hg0];rfl) (c:=c) λd hd=>hE.fU d;simp only [hwanted,if_true];obtain ⟨c1,z,w1,hexec,hR1,hX1,hz1,hnew⟩:=mk_run (P:=P) hA ho hv hR hE (hF i h1 hu).fU;refine .inl ?_;unfold Oper.wp;rw [hexec];have hk:=hkeep _ _ _ hX1
    have hnew0:Hf w0.heap.size c1 m w1 ((k0+i)::π,kc):=by
     obtain ⟨b,t,cs,h1,h2,h4,h5,h6,h7,h8⟩:=hnew;exact ⟨b,t,cs,h1,h2,h4,h5,h6,h7,KP hX.size h8⟩
    refine hgo v c1 m w1 _ _ is fl E hI' hH' hR1 ?_ (hX.trans hX1.up) ((hE.mono hX1.le).put hz1 hfo) (vR _ _ _) (λj hj hlj hne id eZ=>hX1.fresh id (AE eZ za) (hF j hj hlj id eZ)) (λj hj id eZ=>hX1.fresh id (AE eZ za) (hFK j hj id eZ))
    have hdif:∀y ∈ LA π k0 (λi=>listed.getD i false) cl is,∀b,Da c1 ((k0+i)::π,kc) b->Da c1 y b->False:=λy hy b h1 h2=>by
     obtain ⟨b1,g1,g2⟩:=hblt y hy;have e1:=(g1.mono hX1.le).uniq h2;obtain ⟨b2,_,_,g3,_,_,_,_,_,g4⟩:=hnew.fU;have e2:=g3.bk.uniq h1;omega
    refine ⟨λx hx=>?_,λx hx y hy b e1 e2=>?_⟩
    ·rcases hsub x hx with rfl | hx
     ·exact hnew0
     ·exact hk.all x hx
    ·rcases hsub x hx with rfl | hx <;> rcases hsub y hy with rfl | hy
     ·rfl
     ·exact (hdif y hy b e1 e2).elim
     ·exact (hdif x hx b e2 e1).elim
     ·exact hk.inj x hx y hy b e1 e2
end
def Tu (ops:List Oper):List Nat:=ops.foldl (λt o=>t++[o.after.toList.foldl (λs e=>if Region.binds .any e then s ||| 2 ^ e.on ||| t.getD e.on 0 else s) 0]) []
def schX (al:List Bool) (tbl:List Nat) (es:List Nat):List Nat:=(es.filter λi=>!al.getD i false).foldl (λs x=>s++(es.filter λa=>al.getD a false && (tbl.getD x 0).testBit a && !s.contains a)++[x]) []
def schY (es xs:List Nat):List Nat:=xs++es.filter λa=>!xs.contains a
def schV (tbl xs:List Nat):List Nat:=tbl.map λb=>(xs.foldl (λ(s:Nat × Nat) x=>(s.1+1,if b.testBit x then s.1+1 else s.2)) (0,0)).2
def schW (ef mk:List Bool) (lv:List Nat) (l:Nat):List Nat:=((List.range ef.length).filter λj=>!(ef.getD j false) && lv.getD j 0 == l)++((List.range ef.length).filter λj=>mk.getD j false && lv.getD j 0 == l).map λj=>ef.length+j
def schO (ef mk:List Bool) (xs lv:List Nat):List Nat:=(xs.foldl (λ(s:Nat × List Nat) x=>(s.1+1,s.2++schW ef mk lv s.1++[x])) (0,[])).2++schW ef mk lv xs.length
def schT (xf dm:List Bool) (tbl out:List Nat):List (Nat × List Nat):=(out.foldl (λ(s:List Nat × List (Nat × List Nat)) i=>if xf.length<=i then (s.1,s.2++[(i,[])]) else if xf.getD i false then ((λf=>(f,s.2++[(i,f.filter λj=>dm.getD j true)])) (s.1.filter λj=>!((tbl.getD i 0).testBit j))) else (i::s.1,s.2++[(i,[])])) ([],[])).2
def schC (xf dm ef mk:List Bool) (tbl xs:List Nat):List (Nat × List Nat):=schT xf dm tbl (schO ef mk xs (schV tbl xs))
def schB (xf dm ef al mk:List Bool) (tbl es:List Nat):List (Nat × List Nat):=schC xf dm ef mk tbl (schY es (schX al tbl es))
def schE (xf:List Bool) (ops:List Oper):List Bool:=xf.zipIdx.map λp=>p.1 || MO ops p.2
def schF (xf ef:List Bool) (ops:List Oper):List (Nat × List Nat):=
 schB xf (ops.map λo=>mdO o.op) ef (ops.map λo=>(match o.op with | .alloc _=>true | op=>Qs op) && o.guard.isNone) (ops.map λo=>Qs o.op && o.guard.isNone) (Tu ops) ((List.range ef.length).filter λi=>ef.getD i false)
def schG (xf:List Bool) (ops:List Oper):List (Nat × List Nat):=schF xf (schE xf ops) ops
def schA (ops:List Oper):List (Nat × List Nat):=schG (ops.map λo=>Ot o.op) ops
def Nq (P:Program) (ops:List Oper) (sch:List (Nat × List Nat)):Bool:=pxChk ops (Tu ops) (sch.map Prod.fst) && Fb ops (Tu ops) [] sch && ops.all λo=>match o.op with | .alloc T=>(dK P T).isSome | _=>true
theorem Vy {P:Program} {N:Nat} {π:Pa} {k:Nat} {E:fP} {m:M} {Q:Exit->Nat->fP->M->Prop} {id:Nat} {ops:List Oper} {sch:List (Nat × List Nat)} (ho:schA ops=sch) (hm:P.follows .mixedOrders=true) (hck:Nq P ops sch=true)
  (h:∀K:Nat->fP->M->Prop,(∀k E m,Q .normal k E m->K k E m)->GP P ops π k K sch E m):SW P N π (.region id ops.toArray true) k E m Q:=by
 intro hf c a w h1 h2 h3;have h:=h (Q .normal) λ_ _ _ x=>x;simp only [Nq,pxChk,KN,xeb,KK,Te,List.contains_iff_mem,xec] at hck;obtain ⟨⟨⟨⟨⟨⟨c1,c3⟩,c4⟩,c6⟩,c7⟩,c8⟩,c9⟩:=hck;refine wp_region_any hm ?_;have hw:({ w with drawn:=w.drawn+1 }:World)=w.drewN 1:=rfl;rw [hw]
 have hzero:∀i,(Array.replicate ops.toArray.size false).getD i false=false:=by
  intro i;rw [PS,Array.getElem?_replicate]
  split <;> rfl
 have hno:∀i,(Array.replicate ops.toArray.size false).getD i false=true->False:=λi hi=>by rw [hzero] at hi;cases hi
 have hcl0:∀c:Nat->Bool × List V,Gn P ops (Tu ops) π k (Q .normal) E (λi=>(Array.replicate ops.toArray.size false).getD i false) c sch [] E m E:=λc=>⟨h,c8,λi _ hi=>(hno i hi).elim,λi hi hin _=>dE (c4 i hi).1 hin,λi _ _ _ _ hi _=>(hno i hi).elim,λi _ _ _ hi=>(hno i hi).elim,λ_ _=>rfl,λ_ _=>rfl,c6,(λ_ h=>nomatch h),λi hM hi hn=>by
  obtain ⟨_,o,ho⟩:=isM_A hM;exact dE ((c4 i (sG.1 ho).1).2.resolve_left (by rw [hM];decide)) hn,λi _ hi=>(hno i hi).elim,λi hB _=>(c4 i (sG.1 (UC hB).choose_spec).1).1⟩
 obtain ⟨is,fl,E1,m1,Lp,hI,hHd,hm1,hL⟩:=(hcl0 λ_=>(false,[])).down c3 c7 (λi _ hi _=>(hno i hi).elim) (λi hi=>(hno i hi).elim)
 have hnil:∀s,LA π k (λi=>(Array.replicate ops.toArray.size false).getD i false) (λ_=>(false,[])) s=[]:=λs=>by
  unfold LA;rw [List.filter_eq_nil_iff.2 λi _ hi=>hno i hi];rfl
 have hLp:Lp=[]:=by rw [hnil] at hL;exact (List.append_eq_nil_iff.1 hL.symm).1
 subst hLp;have hm1:m1=m:=hm1;subst hm1;refine px_run (tbl:=Tu ops) (E0:=E) (K:=Q .normal) (Q:=λe a' w'=>Br π N (wr (.region id ops.toArray true)) E c m1 w a (Q e) a' w') (W:=wr (.region id ops.toArray true)) (E00:=E) (c0:=c) (mm:=m1) (w0:=w) (a0:=a) (λa' w' hp=>hp) (by simpa [CZ] using hf) (λo ho' d hd=>?_) c1 c3 c7 (λo ho' T hT=>by have:=c9 o ho';rw [hT] at this;exact this) _ _ _ is fl E1 E c m1 (w.drewN 1) a zc ?_ (λi j hi _=>by rw [hzero] at hi;cases hi) hI hHd (h1.drewN 1) (by rw [hnil];exact ⟨λx hx=>(nomatch hx),λx hx=>(nomatch hx)⟩) h2 (λi _ _=>h3 _ za) (λj hj=>h3 j za) (oB.drewN π c m1 w 1) rfl (λ_ _=>rfl)
 ·simp only [wr,List.any_eq_true,beq_iff_eq];exact ⟨o,ho',hd⟩
 ·have:=List.countP_le_length (p:=λi=>!((Array.replicate ops.toArray.size false).getD i false)) (l:=List.range ops.length);simpa using this
theorem eV {P:Program} {N:Nat} {π:Pa} {k:Nat} {E:fP} {m:M} {Q:Exit->Nat->fP->M->Prop} {id:Nat} {ops:List Oper} {sch:List (Nat × List Nat)} (h:∀K:Nat->fP->M->Prop,(∀k E m,Q .normal k E m->K k E m)->GP P ops π k K sch E m) (ho:schA ops=sch:=by cbv) (hm:P.follows .mixedOrders=true:=by rfl) (hck:Nq P ops sch=true:=by kernel_rfl):SW P N π (.region id ops.toArray true) k E m Q:=Vy ho hm hck h
def KI (P:Program) (full:List Oper) (π:Pa) (k0:Nat) (K:Nat->fP->M->Prop) (is:List (Nat × List Nat)) (E:fP) (m:M) (d:Option Nat) (v:V):Prop:=GP P full π k0 K is (lE d v E) m
def IY (P:Program) (full:List Oper) (π:Pa) (k0:Nat) (K:Nat->fP->M->Prop) (lt:List Nat) (is:List (Nat × List Nat)) (E:fP) (d:Option Nat) (r:V) (m1:M):Prop:=(∀j ∈ lt,BS P full π k0 E m1 j)/\GP P full π k0 K is (lE d r E) m1
def oW (P:Program) (full:List Oper) (π:Pa) (k0:Nat) (K:Nat->fP->M->Prop) (i:Nat) (lt:List Nat) (is:List (Nat × List Nat)) (E:fP) (m:M) (o:Oper):Prop:=
 if Ot o.op then ∃run,KH full o.guard E run/\(run=true->iH P o ((k0+i)::π) E m (IY P full π k0 K lt is E o.dst))/\(run=false->GP P full π k0 K is (lE o.dst (.lit undef) E) m)
 else ∃v,nax P full o ((k0+i)::π) E m v/\KI P full π k0 K is E m o.dst v
def rdk (P:Program) (full:List Oper) (π:Pa) (k0:Nat) (K:Nat->fP->M->Prop) (is:List (Nat × List Nat)) (E:fP) (m:M) (j:Nat):Prop:=Kv full j (rdO P E m)/\GP P full π k0 K is E m
theorem Mn {full:List Oper} {j:Nat} {b:Bool} {E:fP} {A B:Prop}:(∃run,KH full (some (j,b)) E run/\(run=true->A)/\(run=false->B))=Gv full j E (λv=>RV v b A B):=by
 unfold Gv;apply propext
 constructor
 ·rintro ⟨run,⟨e,he,hv⟩,h2,h3⟩;rw [he];simp only
  rcases hv with ⟨t,ht,hr⟩ | ⟨⟨vs,ht⟩,hr⟩
  ·rw [ht]
   by_cases htb:t=b
   ·show (if t=b then _ else _);rw [cG htb];exact h2 (by rw [hr];exact vO htb)
   ·show (if t=b then _ else _);rw [bU htb];exact h3 (by rw [hr];exact Om htb)
  ·rw [ht];exact h3 hr
 ·intro hh;cases he:(full[j]?).bind (·.dst) with
  | none=>rw [he] at hh;exact hh.elim
  | some e=>
    rw [he] at hh;simp only at hh;cases hv:E e with
    | lit u=>
      rw [hv] at hh;cases u with
      | bool t=>
        have hh:(if t=b then _ else _):=hh
        by_cases htb:t=b
        ·rw [cG htb] at hh;exact ⟨true,⟨e,he,.inl ⟨t,hv,(vO htb).symm⟩⟩,λ_=>hh,λe=>nomatch e⟩
        ·rw [bU htb] at hh;exact ⟨false,⟨e,he,.inl ⟨t,hv,(Om htb).symm⟩⟩,(λe=>nomatch e),λ_=>hh⟩
      | tuple vs=>exact ⟨false,⟨e,he,.inr ⟨⟨vs,hv⟩,rfl⟩⟩,(λe=>nomatch e),λ_=>hh⟩
      | _=>exact hh.elim
    | _=>rw [hv] at hh;exact hh.elim
def ltG (P:Program) (k0 i:Nat) (π:Pa) (E:fP) (m1:M) (o:Oper) (b:Bool) (v:V):Prop:=RV v b (Qo P k0 i π E m1 o) (match o.dst with | some d=>E d=.lit undef | none=>False)
def ltH (P:Program) (full:List Oper) (π:Pa) (k0 i:Nat) (E:fP) (m1:M) (o:Oper):Prop:=match o.guard with | none=>Qo P k0 i π E m1 o | some (g,b)=>Gv full g E (ltG P k0 i π E m1 o b)
def ltX (P:Program) (full:List Oper) (π:Pa) (k0:Nat) (E:fP) (m1:M):List Nat->Prop
 | []=>True
 | i::is=>Kv full i (ltH P full π k0 i E m1)/\ltX P full π k0 E m1 is
theorem Qm {P:Program} {full:List Oper} {π:Pa} {k0:Nat} {E:fP} {m1:M}:∀ {lt:List Nat},(∀i ∈ lt,BS P full π k0 E m1 i) ↔ ltX P full π k0 E m1 lt
 | []=>by simp [ltX]
 | i::is=>by
   rw [ltX,←Qm (lt:=is),xed];refine and_congr_left λ_=>?_;unfold BS Kv;cases full[i]? with
   | none=>exact .rfl
   | some o=>
     obtain ⟨dst,op,ty,pos,after,guard⟩:=o;simp only;cases guard with
     | none=>cases dst <;> exact .rfl
     | some g=>
       obtain ⟨j,b⟩:=g;cases dst with
       | none=>
         refine ⟨λh=>h.elim,λh=>?_⟩;have h:Gv full j E (λv=>RV v b False False):=h;rw [←Mn] at h;obtain ⟨run,_,h2,h3⟩:=h;cases run
         ·exact h3 rfl
         ·exact h2 rfl
       | some d=>exact Iff.of_eq Mn
def Tb (P:Program) (full:List Oper) (π:Pa) (k0:Nat) (K:Nat->fP->M->Prop) (i:Nat) (lt:List Nat) (is:List (Nat × List Nat)) (E:fP) (m:M) (d:Option Nat) (op:Op) (ty:TypeId) (pos:String) (after:Array Edge) (b:Bool) (v:V):Prop:=
 RV v b (oW P full π k0 K i lt is E m ⟨d,op,ty,pos,after,none⟩) (GP P full π k0 K is (lE d (.lit undef) E) m)
section
variable {P:Program} {full:List Oper} {π:Pa} {k0 i:Nat} {lt:List Nat} {is:List (Nat × List Nat)} {E:fP} {m m1:M} {K:Nat->fP->M->Prop} {d:Option Nat} {ty:TypeId} {pos:String} {after:Array Edge} {v:V}
@[go_sem] theorem xon_at:KI P full π k0 K is E m d v=GP P full π k0 K is (lE d v E) m:=rI rfl
@[go_sem] theorem xonM_at:IY P full π k0 K lt is E d v m1=(ltX P full π k0 E m1 lt/\GP P full π k0 K is (lE d v E) m1):=by
 unfold IY;rw [propext Qm]
@[go_sem] theorem px_nil:GP P full π k0 K [] E m=K (k0+full.length) E m:=rI rfl
def Pf (os:List Oper) (i:Nat) (C:Oper->Prop) (R:Nat->Prop):Prop:=match os[i]? with | some o=>C o | none=>R (i - os.length)
@[go_sem] theorem nthR_zero {o:Oper} {os:List Oper} {C:Oper->Prop} {R:Nat->Prop}:Pf (o::os) 0 C R=C o:=rI rfl
@[go_sem] theorem nthR_succ {o:Oper} {os:List Oper} {i:Nat} {C:Oper->Prop} {R:Nat->Prop}:Pf (o::os) (i+1) C R=Pf os i C R:=by
 simp [Pf]
@[go_sem] theorem nthR_nil {i:Nat} {C:Oper->Prop} {R:Nat->Prop}:Pf [] i C R=R i:=rI rfl
@[go_sem] theorem rdO_at {T ty:TypeId} {l k:Nat} {pos:String} {after:Array Edge} {g:Option (Nat × Bool)}:rdO P E m ⟨d,.makeSlice T (.tmp l) (.tmp k),ty,pos,after,g⟩=BX P [] m T (E l) (E k) (λ_ _=>True):=rI rfl
@[go_sem] theorem rdk_at {j:Nat}:rdk P full π k0 K is E m j=(Kv full j (rdO P E m)/\GP P full π k0 K is E m):=rI rfl
@[go_sem] theorem px_cons:GP P full π k0 K ((i,lt)::is) E m=Pf full i (oW P full π k0 K i lt is E m) (rdk P full π k0 K is E m):=by
 simp only [GP,Pf,rdk,Kv];cases full[i]? with
 | some o=>rfl
 | none=>
   simp only;cases full[i - full.length]? with
   | some o=>rfl
   | none=>exact (propext ⟨λh=>h.elim,λh=>h.1.elim⟩)
theorem If {op:Op} (h:Ot op=true):oW P full π k0 K i lt is E m ⟨d,op,ty,pos,after,none⟩=iH P ⟨d,op,ty,pos,after,none⟩ ((k0+i)::π) E m (IY P full π k0 K lt is E d):=by
 unfold oW;simp only [h,if_true];exact propext ⟨λ⟨run,h1,h2,_⟩=>h2 h1,λh=>⟨true,rfl,λ_=>h,λe=>nomatch e⟩⟩
@[go_sem] theorem xp_load {T:TypeId} {x:Operand}:oW P full π k0 K i lt is E m ⟨d,.load T x,ty,pos,after,none⟩=dt (λv=>uQ P m T (ev m E x) (λr=>r=v)) (KI P full π k0 K is E m d):=rI rfl
@[go_sem] theorem xp_fieldAddr {T g:Nat} {x:Operand}:oW P full π k0 K i lt is E m ⟨d,.fieldAddr T x g,ty,pos,after,none⟩=dt (λv=>yV P T g (ev m E x) (λr=>r=v)) (KI P full π k0 K is E m d):=rI rfl
@[go_sem] theorem xp_unOp {op:UnOp} {T:TypeId} {x:Operand}:oW P full π k0 K i lt is E m ⟨d,.unOp op T x,ty,pos,after,none⟩=dt (λv=>Tz op (ev m E x) (λr=>r=v)) (KI P full π k0 K is E m d):=rI rfl
@[go_sem] theorem xp_len {T:TypeId} {x:Operand}:oW P full π k0 K i lt is E m ⟨d,.call ⟨.builtin .len,#[x],#[T]⟩,ty,pos,after,none⟩=dt (λv=>Kn P T (ev m E x) (λr=>r=v)) (KI P full π k0 K is E m d):=rI rfl
@[go_sem] theorem xp_min {x y:Operand} {ts:Array TypeId}:oW P full π k0 K i lt is E m ⟨d,.call ⟨.builtin .min,#[x,y],ts⟩,ty,pos,after,none⟩=dt (λv=>rQ false (ev m E x) (ev m E y) (λr=>r=v)) (KI P full π k0 K is E m d):=rI rfl
@[go_sem] theorem xp_max {x y:Operand} {ts:Array TypeId}:oW P full π k0 K i lt is E m ⟨d,.call ⟨.builtin .max,#[x,y],ts⟩,ty,pos,after,none⟩=dt (λv=>rQ true (ev m E x) (ev m E y) (λr=>r=v)) (KI P full π k0 K is E m d):=rI rfl
@[go_sem] theorem xp_pick {t x y:Operand}:oW P full π k0 K i lt is E m ⟨d,.pick t x y,ty,pos,after,none⟩=dt (λv=>KU (ev m E t) (ev m E x) (ev m E y) (λr=>r=v)) (KI P full π k0 K is E m d):=rI rfl
@[go_sem] theorem xp_binOp {op:BinOp} {T T':TypeId} {x y:Operand}:oW P full π k0 K i lt is E m ⟨d,.binOp op T x y T',ty,pos,after,none⟩=dt (λv=>qU P op T x y (ev m E x) (ev m E y) (λr=>r=v)) (KI P full π k0 K is E m d):=rI rfl
@[go_sem] theorem xp_build {T:TypeId} {ps:Array (Nat × Operand)}:oW P full π k0 K i lt is E m ⟨d,.build T ps,ty,pos,after,none⟩=dt (λv=>Cr P T (ps.toList.map λp=>(p.1,ev m E p.2)) (λr=>r=v)) (KI P full π k0 K is E m d):=rI rfl
@[go_sem] theorem xp_buildSlice {T:TypeId} {n:Nat} {ps:Array (Nat × Operand)}:oW P full π k0 K i lt is E m ⟨d,.buildSlice T n ps,ty,pos,after,none⟩=dt (λv=>qR P T n (ps.toList.map λp=>(p.1,ev m E p.2)) (λr=>r=v)) (KI P full π k0 K is E m d):=rI rfl
@[go_sem] theorem xp_convert {s t:TypeId} {x:Operand}:oW P full π k0 K i lt is E m ⟨d,.convert s t x,ty,pos,after,none⟩=dt (λv=>Ag P s t (ev m E x) (λr=>r=v)) (KI P full π k0 K is E m d):=rI rfl
@[go_sem] theorem xp_slice {T:TypeId} {x:Operand} {lo hi:Option Operand}:oW P full π k0 K i lt is E m ⟨d,.slice T x lo hi none,ty,pos,after,none⟩=dt (λv=>Cp P T (ev m E x) (lo.map (ev m E)) (hi.map (ev m E)) (λr=>r=v)) (KI P full π k0 K is E m d):=rI rfl
@[go_sem] theorem xp_indexAddr {T:TypeId} {x y:Operand}:oW P full π k0 K i lt is E m ⟨d,.indexAddr T x y,ty,pos,after,none⟩=dt (λv=>yU P T (ev m E x) (ev m E y) (λr=>r=v)) (KI P full π k0 K is E m d):=rI rfl
@[go_sem] theorem xp_index {T:TypeId} {x y:Operand}:oW P full π k0 K i lt is E m ⟨d,.index T x y,ty,pos,after,none⟩=dt (λv=>Cq P T (ev m E x) (ev m E y) (λr=>r=v)) (KI P full π k0 K is E m d):=rI rfl
@[go_sem] theorem xp_nilCheck {x:Operand}:oW P full π k0 K i lt is E m ⟨d,.nilCheck x,ty,pos,after,none⟩=dt (λv=>LO (ev m E x) (λr=>r=v)) (KI P full π k0 K is E m d):=by
 have:∀v,Ks P (.nilCheck x) (ev m E) (λr=>r=v)=LO (ev m E x) (λr=>r=v):=by
  intro v;simp only [Ks,LO]
  generalize ev m E x=u
  cases u <;> rfl
 show dt (λv=>Ks P (.nilCheck x) (ev m E) (λr=>r=v)) _=_;rw [funext this]
@[go_sem] theorem xp_extract {t:Operand} {n:Nat}:oW P full π k0 K i lt is E m ⟨d,.extract t n,ty,pos,after,none⟩=dt (λv=>uW (ev m E t) n (λr=>r=v)) (KI P full π k0 K is E m d):=by
 have:∀v,Ks P (.extract t n) (ev m E) (λr=>r=v)=uW (ev m E t) n (λr=>r=v):=by
  intro v;simp only [Ks,uW]
  generalize ev m E t=u
  cases u with
  | tup vs=>cases vs[n]? <;> rfl
  | _=>rfl
 show dt (λv=>Ks P (.extract t n) (ev m E) (λr=>r=v)) _=_;rw [funext this]
@[go_sem] theorem xp_move {x:Operand}:oW P full π k0 K i lt is E m ⟨d,.move x,ty,pos,after,none⟩=KI P full π k0 K is E m d (ev m E x):=dt_eq
@[go_sem] theorem xp_assign {x:Operand}:oW P full π k0 K i lt is E m ⟨d,.assign x,ty,pos,after,none⟩=KI P full π k0 K is E m d (ev m E x):=dt_eq
@[go_sem] theorem xp_makeSlice {T:TypeId} {l:Nat} {kk:Operand}:oW P full π k0 K i lt is E m ⟨d,.makeSlice T (.tmp l) kk,ty,pos,after,none⟩=BX P ((k0+i)::π) m T (ev m E (.tmp l)) (ev m E kk) (IY P full π k0 K lt is E d):=If rfl
@[go_sem] theorem xp_call {g:Operand} {xs:Array Operand} {ts:Array TypeId}:oW P full π k0 K i lt is E m ⟨d,.call ⟨.value g,xs,ts⟩,ty,pos,after,none⟩=sfn P (ev m E g) (xs.toList.map (ev m E)) ((k0+i)::π) m (IY P full π k0 K lt is E d):=(If rfl).trans HQ
@[go_sem] theorem xp_box {T:TypeId} {x:Operand}:oW P full π k0 K i lt is E m ⟨d,.box T x,ty,pos,after,none⟩=((ev m E x).cellsOk=true/\IY P full π k0 K lt is E d (.ptr ((k0+i)::π) 0) (m.set ((k0+i)::π) ((ev m E x).cells.map V.raw0))):=If rfl
@[go_sem] theorem xp_alloc {T:TypeId}:oW P full π k0 K i lt is E m ⟨d,.alloc T,ty,pos,after,none⟩=GF (dK P T) (λzs=>IY P full π k0 K lt is E d (.ptr ((k0+i)::π) 0) (m.set ((k0+i)::π) (zs.map V.raw0))):=(If rfl).trans (by
 show (match dK P T with | some zs=>_ | none=>False)=_;unfold GF;cases dK P T <;> rfl)
@[go_sem] theorem xp_append {t u:TypeId} {s x:Operand}:oW P full π k0 K i lt is E m ⟨d,.call ⟨.builtin .append,#[s,x],#[t,u]⟩,ty,pos,after,none⟩=vL P ((k0+i)::π) m t u (ev m E s) (ev m E x) (IY P full π k0 K lt is E d):=If rfl
@[go_sem] theorem xp_clear {T:TypeId} {x:Operand}:oW P full π k0 K i lt is E m ⟨d,.call ⟨.builtin .clear,#[x],#[T]⟩,ty,pos,after,none⟩=DQ P m T (ev m E x) (IY P full π k0 K lt is E d):=If rfl
@[go_sem] theorem xp_store {T:TypeId} {x y:Operand}:oW P full π k0 K i lt is E m ⟨d,.store T x y,ty,pos,after,none⟩=AM P m T (ev m E x) (ev m E y) (λm1=>IY P full π k0 K lt is E d (.lit undef) m1):=If rfl
@[go_sem] theorem xgon_tt {op:Op}:Tb P full π k0 K i lt is E m d op ty pos after true (.lit (.bool true))=oW P full π k0 K i lt is E m ⟨d,op,ty,pos,after,none⟩:=rI rfl
@[go_sem] theorem xgon_ff {op:Op}:Tb P full π k0 K i lt is E m d op ty pos after false (.lit (.bool false))=oW P full π k0 K i lt is E m ⟨d,op,ty,pos,after,none⟩:=rI rfl
@[go_sem] theorem xgon_tf {op:Op}:Tb P full π k0 K i lt is E m d op ty pos after false (.lit (.bool true))=GP P full π k0 K is (lE d (.lit undef) E) m:=rI rfl
@[go_sem] theorem xgon_ft {op:Op}:Tb P full π k0 K i lt is E m d op ty pos after true (.lit (.bool false))=GP P full π k0 K is (lE d (.lit undef) E) m:=rI rfl
@[go_sem] theorem xp_gd {op:Op} {j:Nat} {b:Bool}:oW P full π k0 K i lt is E m ⟨d,op,ty,pos,after,some (j,b)⟩=Gv full j E (Tb P full π k0 K i lt is E m d op ty pos after b):=by
 have key:oW P full π k0 K i lt is E m ⟨d,op,ty,pos,after,some (j,b)⟩=∃run,KH full (some (j,b)) E run/\(run=true->oW P full π k0 K i lt is E m ⟨d,op,ty,pos,after,none⟩)/\(run=false->GP P full π k0 K is (lE d (.lit undef) E) m):=by
  cases hx:Ot op with
  | true=>
    rw [If hx];unfold oW;simp only [hx,if_true];apply propext
    constructor
    ·rintro ⟨run,h1,h2,h3⟩;exact ⟨run,h1,λe=>DM (o:=⟨d,op,ty,pos,after,none⟩) hx (h2 e) λ_ _=>rfl,h3⟩
    ·rintro ⟨run,h1,h2,h3⟩;exact ⟨run,h1,λe=>DM (o:=⟨d,op,ty,pos,after,some (j,b)⟩) hx (h2 e) λ_ _=>rfl,h3⟩
  | false=>
    unfold oW;simp only [hx,Bt,if_false];apply propext
    constructor
    ·rintro ⟨v,⟨run,h1,h2,h3⟩,h4⟩;exact ⟨run,h1,λe=>⟨v,h2 e,h4⟩,λe=>by rw [h3 e] at h4;exact h4⟩
    ·rintro ⟨run,h1,h2,h3⟩;cases run with
     | true=>obtain ⟨v,h5,h6⟩:=h2 rfl;exact ⟨v,⟨true,h1,λ_=>h5,λe=>nomatch e⟩,h6⟩
     | false=>exact ⟨.lit undef,⟨false,h1,(λe=>nomatch e),λ_=>rfl⟩,h3 rfl⟩
 rw [key];exact Mn
@[go_sem] theorem ltX_nil:ltX P full π k0 E m1 []=True:=rI rfl
@[go_sem] theorem ltX_cons:ltX P full π k0 E m1 (i::lt)=(Kv full i (ltH P full π k0 i E m1)/\ltX P full π k0 E m1 lt):=rI rfl
@[go_sem] theorem ltH_n {op:Op}:ltH P full π k0 i E m1 ⟨d,op,ty,pos,after,none⟩=Qo P k0 i π E m1 ⟨d,op,ty,pos,after,none⟩:=rI rfl
end
set_option linter.all false
def Wk (c:Conc) (v u:V):Prop:=∀c'',Le c c''->∀x,CR c'' [v] [x]->CR c'' [u] [x]
theorem Wk.mono {c c':Conc} {v u:V} (h:Wk c v u) (hl:Le c c'):Wk c' v u:=λc'' h2=>h c'' (hl.trans h2)
theorem Wk.refl (c:Conc) (v:V):Wk c v v:=λ_ _ _ h=>h
theorem Wk.trans {c:Conc} {v u t:V} (h:Wk c v u) (k:Wk c u t):Wk c v t:=λc'' hl x hx=>k c'' hl x (h c'' hl x hx)
theorem Wk.nil (c:Conc):Wk c .nilv (.list .none []):=λc'' _ x h=>by
 obtain ⟨a,rfl⟩:=h.inv_nilv;exact .list (rows:=[]) (es:=[]) (sz:=1) .nil zc zb (tW _) zb zc (λh=>by simp at h) zc trivial .nil
def Oc (c:Conc):List V->List V->Prop
 | [],[]=>True
 | v::vs,u::us=>Wk c v u/\Oc c vs us
 | _,_=>False
theorem Oc.len {c:Conc}:∀ {vs us:List V},Oc c vs us->us.length=vs.length
 | [],[],_=>rfl
 | v::vs,u::us,h=>by simp [Oc.len h.2]
 | [],_::_,h=>h.elim
 | _::_,[],h=>h.elim
theorem Oc.ok {c c'':Conc} (hl:Le c c''):∀ {vs us:List V} {xs:List Value},Oc c vs us->CR c'' vs xs->CR c'' us xs
 | [],[],_,_,h=>h
 | v::vs,u::us,xs,h,hx=>by
   obtain ⟨y,ys,rfl,h1,h2⟩:=hx.uncons;exact (h.1 c'' hl y h1).cons (Oc.ok hl h.2 h2)
 | [],_::_,_,h,_=>h.elim
 | _::_,[],_,h,_=>h.elim
theorem Oc.app {c:Conc}:∀ {vs us vs' us':List V},Oc c vs us->Oc c vs' us'->Oc c (vs++vs') (us++us')
 | [],[],_,_,_,k=>k
 | v::vs,u::us,_,_,h,k=>⟨h.1,Oc.app h.2 k⟩
 | [],_::_,_,_,h,_=>h.elim
 | _::_,[],_,_,h,_=>h.elim
def WkR (c:Conc):List (List V)->List (List V)->Prop
 | [],[]=>True
 | v::vs,u::us=>Oc c v u/\WkR c vs us
 | _,_=>False
theorem WkR.flat {c:Conc}:∀ {vs us:List (List V)},WkR c vs us->Oc c vs.flatten us.flatten/\us.length=vs.length/\∀sz,(∀r ∈ vs,r.length=sz)->∀r ∈ us,r.length=sz
 | [],[],_=>⟨trivial,rfl,λ_ _ _ h=>nomatch h⟩
 | v::vs,u::us,h=>by
   obtain ⟨h1,h2,h3⟩:=WkR.flat h.2;refine ⟨h.1.app h1,by simp [h2],λsz hs r hr=>?_⟩
   rcases Cj.1 hr with rfl | hr
   ·rw [h.1.len];exact hs v zc
   ·exact h3 sz (λr hr=>hs r (by simp [hr])) r hr
 | [],_::_,h=>h.elim
 | _::_,[],h=>h.elim
theorem Wk.rows {c:Conc} {vs us:List (List V)} (h:WkR c vs us):Wk c (.list .none vs) (.list .none us):=λc'' hl x hx=>by
 obtain ⟨h1,h2,h3⟩:=h.flat;obtain ⟨a,cap,es,sz,rfl,k1,k2,kz,k3,k4,k5,k6,kc,k7⟩:=hx.inv_list;rw [←h2] at k3 k5 ⊢;exact .list (h1.ok hl k1) (h3 sz k2) kz k3 k4 k5 k6 kc trivial .nil
section
variable {c:Conc} {m:M} {w:World}
theorem fZ.freeze1 (h:fZ c m w) {id:Pa} {vs:List V} (hv:m.hp id=some vs):∃c',fZ c' (m.drop (.st (.priv id))) w/\(∀q,oB q c m w c' (m.drop (.st (.priv id))) w)/\∀sz rows,vs.take (rows.length*sz)=rows.flatten->(∀r ∈ rows,r.length=sz)->Wk c' (.vec id sz rows.length) (.list .none rows):=by
 obtain ⟨b,n,hk,cs,t,hB,hl,hcr,hone⟩:=h.hpr id vs hv;obtain ⟨d1,d2,d3⟩:=h.hdrop id;have hO:Iv c.G b:=h.priv_out hv hk
 have hno:¬ fC c (m.drop (.st (.priv id))) b:=by
  rintro (⟨i,hi,hr⟩ | ⟨s,cap,sz,len,hl',hk'⟩)
  ·exact h.priv_id hv hk (id':=i) hi hr
  ·obtain ⟨k1,k2⟩:=d3 s hl';exact k2 (h.priv_arr hv hk k1 hk')
 have hle:Le c (c.laid b cs.toList):=Le.laid hO;refine ⟨c.laid b cs.toList,d1.laid hO hno (λi u hu=>?_),λq=>?_,λsz rows hfl hsz c'' hl2 x hx=>?_⟩
 ·rw [hB.cell];simpa using hu
 ·have hX:=d2 q;refine ⟨hle,rfl,rfl,rfl,tW _,λ_ _ _ _=>rfl,λb' hb' ho' o=>?_,λb' hb' ho'=>?_,λi hi hf=>hf,λi hi hb'=>?_,λ_ _ hl'=>hl'⟩
  ·show JJ c.G b cs.toList b' o=c.G b' o;unfold JJ;rw [bU (λe=>ho' (by rw [e];exact fZ.priv_own hv hk))]
  ·exact hX.own b' hb' ho'
  ·have:=hX.keep i hi hb';exact ⟨this.blk,this.anon,this.cell,this.ver,this.tok⟩
 ·obtain ⟨b2,n2,cap,hk2,hn2,h0,h1,h2,rfl⟩:=hx.inv_vec;have hk3:=(hle.trans hl2).κ _ _ hk;rw [hk3] at hk2
  injection hk2 with hk2
  injection hk2 with e1 e2
  subst e1 e2
  have hlen:rows.length*sz<=vs.length:=by
   have:=vJ List.length hfl;rw [EC,Cf hsz] at this;omega
  have hcr2:=hcr.take (rows.length*sz);rw [hfl,List.take_take,xeg hlen] at hcr2;refine .list (sz:=sz) (hcr2.mono (hle.trans hl2)) hsz h0 h1 h2 (λ_=>⟨b,0,rfl⟩) (λ_=>⟨b,0,rfl,λi u hu=>?_⟩) (λu hu=>hone u (MK hu)) trivial .nil;refine hl2.G _ _ _ ?_;rw [MJ] at hu
  split at hu
  ·show JJ c.G b cs.toList b (0+i)=some u;rw [JI,ES];exact hu
  ·cases hu
def Ek (h:Hp) (L:List Pa):Hp:=λi=>if i ∈ L then none else h i
theorem fZ.freezeL:∀(L:List Pa) {c:Conc} {m:M} {w:World},fZ c m w->(∀id ∈ L,m.hp id ≠ none)->∃c',fZ c' (m.seth (Ek m.hp L)) w/\(∀q,oB q c m w c' (m.seth (Ek m.hp L)) w) ∧
  ∀id ∈ L,∀vs,m.hp id=some vs->∀sz rows,vs.take (rows.length*sz)=rows.flatten->(∀r ∈ rows,r.length=sz)->Wk c' (.vec id sz rows.length) (.list .none rows):=by
 intro L
 induction L with
 | nil=>
   intro c m w h _;have e:m.seth (Ek m.hp [])=m:=M.ext_hp rfl rfl rfl rfl (funext λi=>by show (if i ∈ [] then none else m.hp i)=m.hp i;simp);rw [e];exact ⟨c,h,λq=>.refl q c m w,λ_ h=>nomatch h⟩
 | cons id L ih=>
   intro c m w h hn
   by_cases hin:id ∈ L
   ·obtain ⟨c',h1,h2,h3⟩:=ih h (λi hi=>hn i (by simp [hi]))
    have e:Ek m.hp (id::L)=Ek m.hp L:=by
     funext i
     show (if i ∈ id::L then none else m.hp i)=if i ∈ L then none else m.hp i
     by_cases e1:i=id
     ·subst e1;rw [cG zc,cG hin]
     ·simp [e1]
    rw [e];refine ⟨c',h1,h2,λi hi=>?_⟩
    rcases Cj.1 hi with rfl | hi
    ·exact h3 i hin
    ·exact h3 i hi
   ·obtain ⟨vs,hv⟩:∃vs,m.hp id=some vs:=by
     cases hx:m.hp id with
     | none=>exact dE hx (hn id zc)
     | some vs=>exact ⟨vs,rfl⟩
    obtain ⟨c1,g1,g2,g3⟩:=h.freeze1 hv;have hd:∀i,(m.drop (.st (.priv id))).hp i=if i=id then none else m.hp i:=λi=>rfl;obtain ⟨c',h1,h2,h3⟩:=ih g1 (λi hi=>by rw [hd,bU (by rintro rfl;exact hin hi)];exact hn i (by simp [hi]))
    have e:(m.drop (.st (.priv id))).seth (Ek (m.drop (.st (.priv id))).hp L)=m.seth (Ek m.hp (id::L)):=by
     refine M.ext_hp rfl rfl rfl rfl (funext λi=>?_);show (if i ∈ L then none else (m.drop (.st (.priv id))).hp i)=if i ∈ id::L then none else m.hp i;rw [hd]
     by_cases e1:i=id
     ·subst e1;rw [bU hin,cG rfl,cG zc]
     ·rw [bU e1];simp [e1]
    rw [e] at h1 h2;refine ⟨c',h1,λq=>(g2 q).trans (h2 q),λi hi vs' hv' sz rows k1 k2=>?_⟩
    by_cases e1:i=id
    ·subst e1;rw [hv] at hv';injection hv' with hv';subst hv'
     exact (g3 sz rows k1 k2).mono (h2 []).le
    ·have hi':i ∈ L:=(Cj.1 hi).resolve_left e1;exact h3 i hi' vs' (by rw [hd,bU e1];exact hv') sz rows k1 k2
end
theorem iF.wk {h:Hp} {v:V} {sz:Nat} {rows:List (List V)} (hv:iF h v sz rows) {c:Conc} (hc:∀id ∈ lF v,∀vs,h id=some vs->∀sz rows,vs.take (rows.length*sz)=rows.flatten->(∀r ∈ rows,r.length=sz)->Wk c (.vec id sz rows.length) (.list .none rows)):Wk c v (.list .none rows):=by
 obtain ⟨h1,⟨rfl,rfl⟩ | ⟨id,vs,rfl,e,h2⟩⟩:=hv
 ·exact .nil c
 ·exact hc id (by simp [lF]) vs e sz rows h2 h1
theorem HE.wk {b:V} {l:List aA} (h:HE b l) (c:Conc):Wk c b (.list .none (l.map aA.C)):=by
 rcases h with ⟨rfl,rfl⟩ | rfl
 ·exact .nil c
 ·exact .refl c _
theorem fZ.freezeCk {c:Conc} {m:M} {w:World} {F fp S C:V} {x:aG} (h:fZ c m w) (hk:fA F fp S C m.hp x):∃c' h',fZ c' (m.seth h') w/\(∀q,oB q c m w c' (m.seth h') w)/\Wk c' F (.list .none (x.p_.aU.map aP.C)):=by
 obtain ⟨fs,cs,hk⟩:=hk
 obtain ⟨c',h1,h2,h3⟩:=h.freezeL (lF F++(fs.map λv=>lF v.1).flatten) (λid hi=>by
  rcases BV.1 hi with hi | hi
  ·exact hk.rF.live hi
  ·obtain ⟨l,hl,hi⟩:=List.mem_flatten.1 hi;obtain ⟨v,hv,rfl⟩:=Iw.1 hl;obtain ⟨i,hil,hvi⟩:=List.mem_iff_getElem.1 hv;refine hk.live (a:=3) (b:=i) ?_;show id ∈ lF (match fs[i]? with | some v=>v.1 | none=>.nilv);rw [tS hil,hvi];exact hi)
 refine ⟨c',_,h1,h2,?_⟩;have hF:=hk.rF.wk (c:=c') (λid hi=>h3 id (by simp [hi]));refine hF.trans (Wk.rows ?_)
 have hrow:∀(fl:List aP) (gl:List (V × V)),gl.length=fl.length->(∀(i:Nat) f v,fl[i]? = some f->gl[i]? = some v->Wk c' v.1 (.list .none (f.aO.map aJ.C))/\HE v.2 f.bR)->WkR c' (List.zipWith (λf v=>tN f v.1 v.2) fl gl) (fl.map aP.C):=by
  intro fl
  induction fl with
  | nil=>intro gl hl _;cases gl with | nil=>exact trivial | cons _ _=>cases hl
  | cons f fl ih=>
    intro gl hl hh;cases gl with
    | nil=>cases hl
    | cons v gl=>
      obtain ⟨k1,k2⟩:=hh 0 f v rfl rfl;refine ⟨?_,ih gl (by simpa using hl) λi g u hg hu=>hh (i+1) g u (by simpa using hg) (by simpa using hu)⟩;rw [aP.C_eq];exact ⟨.refl _ _,.refl _ _,.refl _ _,.refl _ _,k1,k2.wk c',trivial⟩
 refine hrow _ _ hk.fl λi f v hf hv=>?_;obtain ⟨k1,k2⟩:=hk.rV i f v hf hv;refine ⟨k1.wk λid hi=>h3 id ?_,k2⟩;refine xeh _ (List.mem_flatten.2 ⟨lF v.1,Iw.2 ⟨v,zX hv,rfl⟩,hi⟩)
theorem SJ {P:Program} {N:Nat} {π:Pa} {k:Nat} {E:fP} {m:M} {Q:Exit->Nat->fP->M->Prop} {code:Code} {p:Pa} {F fp S C:V} {rest:List V} {x:aG} (hb:m.blk p=some (F::rest)) (hk:fA F fp S C m.hp x)
  (h:∀h',SW P N π code k E ((m.seth h').set p (.list .none (x.p_.aU.map aP.C)::rest)) Q):SW P N π code k E m Q:=by
 intro hf c a w h1 h2 h3;obtain ⟨c',h',g1,g2,g3⟩:=h1.freezeCk hk;have hld:∀s,F.ld s=F:=λs=>(fA.funcsR hk).ld;obtain ⟨r1,r2⟩:=g1.reCell (id:=p) (off:=0) (cs:=F::rest) (v0:=F) (u:=.list .none (x.p_.aU.map aP.C)) hb rfl (λy hy=>g3 c' (.refl c') y (by rw [hld] at hy;exact hy)) (λ_=>rfl) (λrows e=>by injection e with e;cases e);have hX:=(g2 π).trans (r2 π);refine wp_mono (h h' hf c' a w r1 ⟨h2.size,λt=>(h2.fU t).mono hX.le⟩ (λj hj id eZ=>?_)) λe a' w' hp=>?_
 ·exact ((g2 (0::id)).trans (r2 (0::id))).fresh id (λhs=>by have:=hs.length_le;simp only [jJ] at this;omega) (h3 j hj id eZ)
 ·exact hp.trans hX rfl (λ_ _=>rfl) (λt ht=>⟨ht,ht⟩)
theorem SC.noheap {P:Program} {f:FuncId} {args:List V} {q:Pa} {m:M} {R:V->M->Prop} (h:SC P f args q m (λv m'=>R v (m'.seth λ_=>none))):SC P f args q m R:=by
 intro c xs w h1 h2 h3
 have key:∀e w',DH q c m w (λv m'=>R v (m'.seth λ_=>none)) e w'->DH q c m w R e w':=by
  rintro e w' ⟨x,c',r,m',e1,hR,g2,g3,g4⟩
  obtain ⟨k1,k2⟩:=g2.sub (m':=m'.seth λ_=>none) rfl rfl (λid vs hv=>⟨vs,hv,λ_ h=>h⟩) (λs hs=>by
   cases s with
   | anon i j=>exact hs
   | cell i o v=>exact hs
   | priv i=>cases hs) (λb vs hv=>nomatch hv)
  exact ⟨x,c',r,_,e1,hR,k1,g3.trans (k2 q),g4⟩
 rcases h c xs w h1 h2 h3 with ⟨k1,k2⟩ | ⟨x,w',k1,k2⟩
 ·exact .inl ⟨k1,k2.mono λe w' hp=>key e w' hp⟩
 ·exact .inr ⟨x,w',k1,key _ _ k2⟩
