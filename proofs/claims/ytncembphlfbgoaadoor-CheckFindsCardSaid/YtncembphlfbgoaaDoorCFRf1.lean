/-
 vB helper theorems of no one function: a range over a function: pieces of code in a round, seen from above.
-/
import Derived.Test.YtncembphlfbgoaaDoorCFA21
import Derived.RangeFuncLeaves
import Derived.RangeFuncOwn
import Derived.RangeFuncRecord
import Derived.OrdersIn
import Derived.TacticsIn
import Derived.BigFrameIn
import Derived.LoopNIn
namespace Go.Proofs.YtncembphlfbgoaaDoor.Abs
open Go.RowKit
def fw (r:Option Nat):Fence:={ Fence.wide with round:=r }
section
variable {P:Program} {N:Nat} {r:Option Nat}
theorem FQ {n:Nat} {f:FuncId} {args:Array Value} {w:World} {R:Ending->World->Prop} (h:Calls P f args w R):CallsIn (fw r) n P f args w R:=by
 have:=(callsIn_wide (n:=n)).2 h;exact this
theorem GZ {n:Nat} {row:String} {args:Array Value} {w:World} {R:Value->World->Prop} (h:Rows P row args w R):RowsIn (fw r) n P row args w R:=
 fun c cs _=>let ⟨v,w',hr,hs⟩:=h c cs;⟨v,w',hr,(stepsIn_wide (P:=P)).2 hs⟩
theorem HW {o:Oper} {a:Act} {w:World} {K:Act->World->Prop} {Q:Exit->Act->World->Prop} (hd:∀c,o.op ≠ .defer c) (h:o.wp P a w K Q):o.wpIn (fw r) 0 P a w K Q:=by
 refine ⟨fun _ _=>trivial,?_⟩;rw [Oper.semAt_eq _ _ _ hd];unfold Oper.wp at h
 generalize (execOp a.eval o).run P w=res at h ⊢
 cases res with
 | ok x w'=>
   cases x with
   | enter f args=>
     have h':Calls P f args w' _:=h;refine ⟨(fun e=>nomatch e),FQ (h'.mono fun e w'' hh=>?_)⟩;cases e <;> exact hh
   | row row args=>exact ⟨(fun e=>nomatch e),GZ h⟩
   | round _ _ _ _ _=>exact h.elim
   | _=>exact h
 | halt x w'=>cases x <;> exact h
theorem CZ {o:Oper} {q:Pa} {E:dK} {m:M} {C:V->M->Prop} (h:dF P o q E m C):∀c,o.op ≠ .defer c:=by
 intro c hc;unfold dF at h;rw [hc] at h;exact h
theorem Ap {full:Array Oper} {Q:Exit->Act->World->Prop} {o:Oper} {os:List Oper} {a:Act} {w:World} (hw:Region.wanted o (yielded full a.tmps)=false) (h:wpListIn (fw r) 0 P full Q os (a.put o.dst undef) w):wpListIn (fw r) 0 P full Q (o::os) a w:=by
 unfold wpListIn;rw [if_neg (by simp [hw])];exact ⟨fun _ _=>trivial,h⟩
end
section
variable {P:Program} {c c':Conc} {m m':M} {w w':World} {E:dK} {a:Act} {N:Nat}
theorem AE {r:Option Nat} (tail:List Oper) {full:Array Oper} {π:Pa} {K:Nat->dK->M->Prop} {Q:Exit->Act->World->Prop} {c0:Conc} {m0:M} {w0:World} {a0:Act} {W:Nat->Bool} {E0:dK} (hQ:∀a' w',oJ π N W E0 c0 m0 w0 a0 K a' w'->wpListIn (fw r) 0 P full Q tail a' w') :
  ∀(ops:List Oper) (k:Nat) (E:dK) (c:Conc) (m:M) (w:World) (a:Act),gL P full.toList π K ops k E m->tZ N ops=true->dL c m w->fK c E a N->iF c π k->iG π c0 m0 w0 c m w->a.defers=a0.defers->(∀t,W t=false->E t=E0 t)->(∀o ∈ ops,∀d,o.dst=some d->W d=true)->wpListIn (fw r) 0 P full Q (ops++tail) a w:=by
 intro ops
 induction ops with
 | nil=>intro k E c m w a hs _ hR hE hF hX hd hU _;exact hQ a w ⟨c,k,E,m,hs,hR,hX,hE,hF,hd,hU⟩
 | cons o os ih=>
   intro k E c m w a hs hfit hR hE hF hX hd hU hW
   have hU':∀v t,W t=false->eL o.dst v E t=E0 t:=by
    intro v t ht;cases hdo:o.dst with
    | none=>exact hU t ht
    | some d=>
      have:=hW o (by simp) d hdo;show (if t=d then v else E t)=E0 t;rw [if_neg (by rintro rfl;rw [ht] at this;cases this)];exact hU t ht
   have hW':∀o' ∈ os,∀d,o'.dst=some d->W d=true:=fun o' ho'=>hW o' (by simp [ho']);simp only [tZ,List.all_cons,Bool.and_eq_true] at hfit
   have hfo:∀d,o.dst=some d->d<N:=by
    intro d h;have:=hfit.1;rw [h] at this;simpa using this
   have run:Region.wanted o (yielded full a.tmps)=true->dF P o (k::π) E m (fun v m'=>gL P full.toList π K os (k+1) (eL o.dst v E) m')->wpListIn (fw r) 0 P full Q (o::(os++tail)) a w:=by
    intro hw hst;refine BigFrame.wpListIn_want hw fun K' hK'=>?_;refine Oper.wpIn_mono ?_ (HW (CZ hst) (qS (N:=N) hst hR hE hF.fC hfo Q));rintro a' w' ⟨c',v,m',hC,h1,h2,h3,h4⟩;exact hK' a' w' (ih _ _ c' m' w' a' hC hfit.2 h1 h3 (h2.freshK hF) (hX.trans h2.up) (h4.trans hd) (hU' _) hW')
   simp only [gL] at hs
   split at hs
   ·rename_i hg;exact run (by simp [Region.wanted,hg]) hs
   ·rename_i j b hg
    split at hs
    ·rename_i d hdst
     split at hs
     ·rename_i t ht
      have hy:yielded full a.tmps j=some t:=by
       have hv:=hE.fC d;rw [ht] at hv;have hv':=hv.inv_lit;unfold yielded;have:(full[j]?).bind (·.dst)=some d:=by simpa using hdst
       rw [this];simp only [Option.bind_some]
       have hdl:a.tmps[d]? = some (.bool t):=by
        rw [Array.getD_eq_getD_getElem?] at hv';cases hq:a.tmps[d]? with
        | none=>rw [hq] at hv';simp [undef] at hv'
        | some u=>rw [hq] at hv';simp at hv';rw [hv']
       rw [hdl]
      split at hs
      ·rename_i hb;exact run (by simp [Region.wanted,hg,hy,hb]) hs
      ·rename_i hb;have hw:Region.wanted o (yielded full a.tmps)=false:=by simp [Region.wanted,hg,hy,hb]
       refine Ap hw ?_;exact ih _ _ c m w _ hs hfit.2 hR (hE.put (.lit .nil) hfo) (hF.le (by omega)) hX ((kL _ _ _).trans hd) (hU' _) hW'
     ·rename_i vs ht
      have hy:yielded full a.tmps j=none:=by
       have hv:=hE.fC d;rw [ht] at hv;have hv':=hv.inv_lit;unfold yielded;have:(full[j]?).bind (·.dst)=some d:=by simpa using hdst
       rw [this];simp only [Option.bind_some];rw [Array.getD_eq_getD_getElem?] at hv';cases hq:a.tmps[d]? with
       | none=>rfl
       | some u=>rw [hq] at hv';simp only [Option.getD_some] at hv';rw [hv']
      have hw:Region.wanted o (yielded full a.tmps)=false:=by simp [Region.wanted,hg,hy]
      refine Ap hw ?_;exact ih _ _ c m w _ hs hfit.2 hR (hE.put (.lit .nil) hfo) (hF.le (by omega)) hX ((kL _ _ _).trans hd) (hU' _) hW'
     ·exact hs.elim
    ·exact hs.elim
end
section
variable {P:Program} {N:Nat} {π:Pa} {k:Nat} {E:dK} {m:M} {Q:Exit->Nat->dK->M->Prop} {l:Nat}
def FY (l:Nat) (P:Program) (N:Nat) (π:Pa) (code:Code) (k:Nat) (E:dK) (m:M) (Q:Exit->Nat->dK->M->Prop):Prop:=
 qN N code=true->∀(c:Conc) (a:Act) (w:World),dL c m w->fK c E a N->iF c π k->code.wpIn (fw (some l)) 0 P (fun e a' w'=>oJ π N (wr code) E c m w a (Q e) a' w') a w
theorem ER (h:Q .normal k E m):FY l P N π .skip k E m Q:=fun _ _ _ _ h1 h2 h3=>wpIn_skip (.here h h1 h2 h3)
theorem JM {id:Nat} (h:Q (.exit id) k E m):FY l P N π (.exit id) k E m Q:=fun _ _ _ _ h1 h2 h3=>wpIn_exit (.here h h1 h2 h3)
theorem AC {x y:Code} (h:FY l P N π x k E m (tX (fun k E m=>FY l P N π y k E m Q) Q)):FY l P N π (.seq x y) k E m Q:=by
 intro hf c a w h1 h2 h3;simp only [qN,Bool.and_eq_true] at hf;have hW:∀t,wr (.seq x y) t=false->wr x t=false/\wr y t=false:=by intro t ht;simpa [wr] using ht
 refine wpIn_seq (wpIn_mono (h hf.1 c a w h1 h2 h3) ?_);intro e a' w' hp;cases e with
 | normal=>
   obtain ⟨c',k',E',m',g1,g2,g3,g4,g5,g6,g7⟩:=hp;show y.wpIn (fw (some l)) 0 P _ a' w';refine wpIn_mono (g1 hf.2 c' a' w' g2 g4 g5) fun e2 a2 w2 hp2=>?_;exact hp2.trans g3 g6 g7 (fun t ht=>⟨(hW t ht).2,(hW t ht).1⟩)
 | _=>exact hp.mono (fun _ _ _ x=>x) (fun t ht=>(hW t ht).1)
theorem Ch {x y:Code} {t:Operand} (b:Bool) (hb:ev m E t=.lit (.bool b)) (h:FY l P N π (if b then x else y) k E m Q):FY l P N π (.cond t x y) k E m Q:=by
 intro hf c a w h1 h2 h3;simp only [qN,Bool.and_eq_true] at hf;have ht:=h2.ev h1 t;rw [hb] at ht;refine wpIn_cond (t:=b) ht.inv_lit ?_;cases b with
 | true=>exact wpIn_mono (h hf.1 c a w h1 h2 h3) fun e _ _ hp=>hp.mono (fun _ _ _ x=>x) (fun t ht=>by simp [wr] at ht;exact ht.1)
 | false=>exact wpIn_mono (h hf.2 c a w h1 h2 h3) fun e _ _ hp=>hp.mono (fun _ _ _ x=>x) (fun t ht=>by simp [wr] at ht;exact ht.2)
theorem HU {id:Nat} {x:Code} (h:FY l P N π x k E m (qJ id Q)):FY l P N π (.block id x) k E m Q:=by
 intro hf c a w h1 h2 h3;refine wpIn_block (wpIn_mono (h hf c a w h1 h2 h3) ?_);intro e a' w' hp;cases e with
 | exit i=>
   show if i=id then _ else _
   by_cases hi:i=id
   ·rw [if_pos hi];have hp':oJ π N (wr x) E c m w a (qJ id Q (.exit i)) a' w':=hp;simp only [qJ,hi,if_true] at hp';exact hp'
   ·rw [if_neg hi];have hp':oJ π N (wr x) E c m w a (qJ id Q (.exit i)) a' w':=hp;simp only [qJ,hi,if_false] at hp';exact hp'
 | _=>exact hp
theorem FX {id:Nat} {ops:Array Oper} (h:gL P ops.toList π (Q .normal) ops.toList k E m):FY l P N π (.region id ops false) k E m Q:=by
 intro hf c a w h1 h2 h3;refine wpIn_region_list ?_;have:=AE (r:=some l) (P:=P) (W:=wr (.region id ops false)) (E0:=E) (c0:=c) (m0:=m) (w0:=w) (a0:=a) (Q:=fun e a' w'=>oJ π N (wr (.region id ops false)) E c m w a (Q e) a' w') [] (fun a' w' hp=>hp) ops.toList k E c m w a h hf h1 h2 h3 (.refl π c m w) rfl (fun _ _=>rfl) ?_
 ·simpa using this
 intro o ho d hd;simp only [wr,List.any_eq_true,beq_iff_eq];exact ⟨o,ho,hd⟩
theorem AD {id:Nat} {ops:List Oper} (h:∀K:Nat->dK->M->Prop,(∀k E m,Q .normal k E m->K k E m)->gL P ops π K ops k E m):FY l P N π (.region id ops.toArray false) k E m Q:=by
 refine FX ?_;simpa using h (Q .normal) (fun _ _ _ x=>x)
end
end Go.Proofs.YtncembphlfbgoaaDoor.Abs
namespace Go.Proofs.YtncembphlfbgoaaDoor.Abs
open Go.RowKit
section
variable {c c':Conc} {m m':M} {w w':World} {q:Pa}
theorem FO {b:Nat} {o:Obj} (h:w.heap[b]? = some o) (hc:o.isCells=false) (i:Nat):w.cell? ⟨b,i,none⟩=none:=by
 unfold World.cell?;rw [h];cases o <;> first | rfl | (cases hc)
theorem AU {b:Nat} {o:Obj} {t:TypeId} {cs:Array Value} (h:w.heap[b]? = some o) (hc:o.isCells=false):¬ rG w b t cs:=by
 intro hb;unfold rG at hb;rw [h] at hb
 injection hb with hb
 subst hb;cases hc
theorem dL.other_out (h:dL c m w) {b:Nat} {o:Obj} (hb:w.heap[b]? = some o) (hc:o.isCells=false):Bi c.G b:=by
 intro i;cases hg:c.G b i with
 | none=>rfl
 | some v=>have:=h.com b i v hg;rw [FO hb hc] at this;cases this
theorem dL.other_own (h:dL c m w) {b:Nat} {o:Obj} (hb:w.heap[b]? = some o) (hc:o.isCells=false):¬ fB c m b:=by
 rintro (⟨id,h1,h2⟩ | ⟨s,cap,sz,len,h1,h2⟩)
 ·cases hx:m.blk id with
  | none=>exact h1 hx
  | some vs=>
    obtain ⟨b',cs,t,k1,k2,_⟩:=h.blk id vs hx;rw [h2] at k1
    injection k1 with k1
    subst k1;exact AU hb hc k2
 ·obtain ⟨⟨cs,t,k1,_⟩,_⟩:=h.own s b cap sz len h1 h2;exact AU hb hc k1
theorem iG.keeps (hX:iG q c m w c' m' w') (h:dL c m w) {b:Nat} {o:Obj} (hb:w.heap[b]? = some o) (hc:o.isCells=false):w'.heap[b]? = some o:=
 (hX.heap b (Array.getElem?_eq_some_iff.1 hb).1 (h.other_own hb hc) (.inr (h.other_out hb hc))).trans hb
theorem dL.other {row:Option Nat} (h:dL c m w) (hg:w.grownBy w' row) (hr:∀b,row=some b->∃o,w.heap[b]? = some o/\o.isCells=false):dL c m w':=by
 have hne:∀ {b t cs},rG w b t cs->some b ≠ row:=by
  intro b t cs hb e;obtain ⟨o,ho,hc⟩:=hr b e.symm;exact AU ho hc hb
 refine ⟨h.com.grown hg fun b e=>?_,fun id vs hv=>?_,h.inj,fun s b cap sz len hl hk=>?_,h.ownInj,h.ver,h.gl,h.ver0,Nat.le_trans h.base hg.size,fun b hb=>⟨(h.lit b hb).1,Nat.lt_of_lt_of_le (h.lit b hb).2.1 hg.size,(h.lit b hb).2.2⟩,fun b vs hv=>?_⟩
 ·obtain ⟨o,ho,hc⟩:=hr b e;exact h.other_out ho hc
 ·obtain ⟨b,cs,t,k1,k2,k3⟩:=h.blk id vs hv;exact ⟨b,cs,t,k1,k2.grown hg (hne k2),k3⟩
 ·obtain ⟨⟨cs,t,k1,k2⟩,k3⟩:=h.own s b cap sz len hl hk;exact ⟨⟨cs,t,k1.grown hg (hne k1),k2⟩,k3⟩
 ·exact (h.hpr b vs hv).mono ⟨rfl,fun _ x=>x,fun _ _ x=>x,fun _ _ x=>x,fun _ _ _ x=>x⟩ fun _ _ _ _ _ hB=>hB.grown hg (hne hB)
theorem iG.other {c0:Conc} {m0:M} {w0:World} {row:Option Nat} (h:iG q c0 m0 w0 c m w) (hg:w.grownBy w' row) (hr:∀b,row=some b->w0.heap.size<=b):iG q c0 m0 w0 c m w':=
 ⟨h.le,hg.os.trans h.os,hg.tape.trans h.tape,hg.output.trans h.output,Nat.le_trans h.size hg.size,
  fun b hb ho hx=>(hg.block b (Nat.lt_of_lt_of_le hb h.size) fun e=>by have:=hr b e.symm;omega).trans (h.heap b hb ho hx),h.book,h.own,h.fresh,h.keep,h.lits⟩
theorem yN (w:World) (o:Obj):w.grownBy (w.alloc o) none:=World.grownBy_alloc w o none
theorem dL.alloc (h:dL c m w) (o:Obj):dL c m (w.alloc o):=h.other (yN w o) fun _ e=>nomatch e
theorem dL.putObj (h:dL c m w) {b:Nat} {o:Obj} (o':Obj) (hb:w.heap[b]? = some o) (hc:o.isCells=false):dL c m (w.putObj b o'):=
 h.other (grownBy_putObj' w b o') fun _ e=>by cases e;exact ⟨o,hb,hc⟩
end
def Gb (P:Program) (gf:Nat) (caps:List V) (q:Pa) (I:M->Prop) (Sp:List Int->Int->Prop) (S:List Int->Prop):Prop:=
 ∀(l:Nat) (A:List Int->M->Conc->World->Prop) (B:M->Conc->World->Prop),(∀pre m c w,A pre m c w->I m) ->
  (∀pre c m w c' m' w',A pre m c w->dL c m w->dL c' m' w'->iG q c m w c' m' w'->m.back q m'=m->A pre m' c' w') ->
  (∀c m w c' m' w',B m c w->dL c m w->dL c' m' w'->iG q c m w c' m' w'->m.back q m'=m->B m' c' w') ->
  (∀pre (x:Int) c m w,Sp pre x->A pre m c w->dL c m w->YieldAt (fw none) 0 P l #[.int .i64 x] w fun e w'=>∃c' m',dL c' m' w'/\Le c c'/\(∀id,q <:+ id->dO c id->dO c' id) ∧
    ((e=.returned (.bool true)/\A (pre++[x]) m' c' w') ∨ (e=.returned (.bool false)/\B m' c' w'))) ->
  ∀(c:Conc) (m:M) (w:World) (lb:Array Value),A [] m c w->dL c m w->jU c q->CR c caps lb.toList ->
   CallsIn (fw none) 0 P gf (#[.func (.yield l) #[] #[]]++lb) w fun e w'=>(∃v,e=.returned v)/\∃c' m',dL c' m' w'/\((∃xs,S xs/\A xs m' c' w') ∨ B m' c' w')
end Go.Proofs.YtncembphlfbgoaaDoor.Abs
namespace Go.Proofs.YtncembphlfbgoaaDoor.Abs
open Go.RowKit
theorem IB {P:Program} {N:Nat} {π:Pa} {k:Nat} {E:dK} {c:Conc} {m:M} {w:World} {a:Act} {g:Operand} {p:Tmp} {assign body:Code} {Q:Exit->Act->World->Prop}
  {gf:Nat} {caps:List V} {I:M->Prop} {Sp:List Int->Int->Prop} {S:List Int->Prop} (J:List Int->M->Prop) (Jx:Code->M->Prop) (E1:Int->dK)
  (hR:dL c m w) (hE:fK c E a N) (hF:iF c π k) (hp:p<N) (hfa:qN N assign=true) (hfb:qN N body=true)
  (hg:ev m E g=.fn (.func gf) [] caps) (eg:∀args w,(callFunc gf args).run P w=.ok (.enter gf args) w)
  (hit:Gb P gf caps (0::k::π) I Sp S) (hJI:∀pre m1,J pre m1->I m1) (hJ0:J [] m) (hJs:∀pre m1 m2,J pre m1->m1.back (0::k::π) m2=m1->J pre m2) (hJxs:∀jump m1 m2,Jx jump m1->m1.back (0::k::π) m2=m1->Jx jump m2)
  (hassign:∀(l:Nat) (x:Int) (m':M) (ρ:Pa),FY l P N ρ assign 0 (eL (some p) (.lit (.int .i64 x)) E) m' fun e _ E' m''=>e=.normal/\E'=E1 x/\m''=m')
  (hbody:∀(l:Nat) (pre:List Int) (x:Int) (m':M) (kk:Nat),Sp pre x->J pre m'->FY l P N ((pre.length+1)::k::π) body kk (E1 x) m' fun e _ _ m''=>match e with | .normal=>J (pre++[x]) m'' | .ret=>Jx .ret m'' | .exit i=>Jx (.exit i) m'' | _=>False)
  (hdone:∀(D:Nat) (xs:List Int) (c':Conc) (m':M) (w':World),S xs->J xs m'->dL c' m' w'->iG (k::π) c m w c' m' w'->w'.heap[D]? = some (.deferred (some []))->w.heap.size<=D->Q .normal { a with defers:={ target:=.collected D,args:=#[] }::a.defers } w')
  (hstop:∀(D:Nat) (jump:Code) (c':Conc) (m':M) (w':World),Jx jump m'->dL c' m' w'->iG (k::π) c m w c' m' w'->w'.heap[D]? = some (.deferred (some []))->w.heap.size<=D->jump.wpIn (fw none) 0 P Q { a with defers:={ target:=.collected D,args:=#[] }::a.defers } w') :
  (Code.rangeFunc g #[p] assign body).wpIn (fw none) 0 P Q a w:=by
 refine wpIn_rangeFunc ?_;intro fn hfn;obtain ⟨rec,hrec⟩:∃rec:LoopState->Option Code->Loop,rec=fun st pe=>{ state:=st,pending:=pe,fn,tmps:=a.tmps,params:=#[p],assign,body,defers:=w.heap.size }:=⟨_,rfl⟩;obtain ⟨W1,hW1⟩:∃W1,(w.alloc (.deferred (some []))).alloc (.loop (rec .ready none))=W1:=⟨_,rfl⟩
 have hL1:W1.heap[w.heap.size+1]? = some (.loop (rec .ready none)):=by
  rw [←hW1];have:=World.alloc_heap_new (w.alloc (.deferred (some []))) (.loop (rec .ready none));rwa [World.size_alloc] at this
 have hK1:W1.heap[w.heap.size]? = some (.deferred (some [])):=by
  rw [←hW1];exact (Below.heap_alloc _ _ _ (by simp)).trans (World.alloc_heap_new w _)
 have hv:=hE.ev hR g;rw [hg] at hv;obtain ⟨xs,ys,he,k1,k2⟩:=hv.inv_fn;obtain rfl:xs=[]:=k1.inv_nil;have hR1:dL c m W1:=by rw [←hW1];exact (hR.alloc _).alloc _
 have hX1:iG (k::π) c m w c m W1:=by
  rw [←hW1];exact ((iG.refl _ c m w).other (yN _ _) fun _ e=>nomatch e).other (yN _ _) fun _ e=>nomatch e
 refine ⟨w.heap.size+1,[{ target:=.collected w.heap.size,args:=#[] }],W1,{ target:=.fn (.func gf) ys.toArray,args:=#[.func (.yield (w.heap.size+1)) #[] #[]] },W1,gf,
  #[.func (.yield (w.heap.size+1)) #[] #[]]++ys.toArray,W1,?_,?_,?_,?_,(fun e=>nomatch e),?_⟩
 ·rw [←hW1,hrec];exact run_enterLoop_outer _ _ _ _ _
 ·simp only [resolve,he];simp [go_sem]
 ·intro f' hf';trivial
 ·simp [invoke,go_sem,eg]
 ·refine (hit (w.heap.size+1)
   (fun pre m' c' W=>J pre m'/\iG (k::π) c m w c' m' W/\W.heap[w.heap.size+1]? = some (.loop (rec .ready none))/\W.heap[w.heap.size]? = some (.deferred (some []))/\∀j,pre.length<=j->jU c' ((j+1)::k::π))
   (fun m' c' W=>∃jump,Jx jump m'/\iG (k::π) c m w c' m' W/\W.heap[w.heap.size+1]? = some (.loop (rec .done (some jump)))/\W.heap[w.heap.size]? = some (.deferred (some [])))
   (fun pre m1 _ _ h=>hJI pre m1 h.1) ?_ ?_ ?_ c m W1 ys.toArray ⟨hJ0,hX1,hL1,hK1,fun j _ id dD=>hF k (Nat.le_refl _) id (pE dD)⟩ hR1 (fun id dD=>hF k (Nat.le_refl _) id (pE dD)) (by simpa using k2)).mono ?_
  ·rintro pre c1 m1 w1 c2 m2 w2 ⟨h1,h2,h3,h4,h5⟩ hr1 hr2 hx hm;exact ⟨hJs _ _ _ h1 hm,h2.trans hx.up,hx.keeps hr1 h3 rfl,hx.keeps hr1 h4 rfl,fun j hj id dD=>hx.fresh id (hP dD (by omega)) (h5 j hj id dD)⟩
  ·rintro c1 m1 w1 c2 m2 w2 ⟨jump,h1,h2,h3,h4⟩ hr1 hr2 hx hm;exact ⟨jump,hJxs _ _ _ h1 hm,h2.trans hx.up,hx.keeps hr1 h3 rfl,hx.keeps hr1 h4 rfl⟩
  ·rintro pre x c1 m1 W hsp ⟨hj,hX,hl,hk,hfr⟩ hRw;have hy:=run_yield (P:=P) (args:=#[.int .i64 x]) hl (by rw [hrec];rfl);rw [hrec] at hy;refine ⟨fn,_,assign,body,hy,roundIn_of_wpIn hfn ?_⟩
   have hE1:fK c1 (eL (some p) (.lit (.int .i64 x)) E) { tmps:=a.tmps.setIfInBounds p (.int .i64 x),defers:=[] } N:=by
    have:=(hE.mono hX.le).put (d:=some p) (v:=.lit (.int .i64 x)) (x:=.int .i64 x) (.lit .nil) (fun i e=>by cases e;exact hp);exact ⟨this.size,this.fC⟩
   have hz:((#[p].zip #[Value.int .i64 x]).foldl (fun tmps (t,a)=>tmps.setIfInBounds t a) a.tmps)=a.tmps.setIfInBounds p (.int .i64 x):=by simp
   rw [hz];have hfrK:iF c1 ((pre.length+1)::k::π) 0:=(hfr _ (Nat.le_refl _)).sub;refine wpIn_mono (hassign (w.heap.size+1) x m1 ((pre.length+1)::k::π) hfa c1 _ W hRw hE1 hfrK) ?_;rintro e a1 w1 ⟨c2,k2',E2,m2,⟨rfl,rfl,rfl⟩,q2,q3,q4,q5,q6,q7⟩;have hl2:=q3.keeps hRw hl rfl;have hk2':=q3.keeps hRw hk rfl;have hlt:w.heap.size+1<w1.heap.size:=(Array.getElem?_eq_some_iff.1 hl2).1;refine ⟨_,run_beginRound hl2 (by rw [hrec]),?_⟩;have hRb:dL c2 m2 (w1.putObj (w.heap.size+1) (.loop { rec .ready none with state:=.busy })):=q2.putObj _ hl2 rfl;have hXb:iG (k::π) c m w c2 m2 (w1.putObj (w.heap.size+1) (.loop { rec .ready none with state:=.busy })):=(hX.trans q3.up).other (grownBy_putObj' _ _ _) fun b e=>by cases e;omega
   have hl3:(w1.putObj (w.heap.size+1) (.loop { rec .ready none with state:=.busy })).heap[w.heap.size+1]? = some (.loop { rec .ready none with state:=.busy }):=World.putObj_heap_same hlt;have hk3:(w1.putObj (w.heap.size+1) (.loop { rec .ready none with state:=.busy })).heap[w.heap.size]? = some (.deferred (some [])):=(World.putObj_heap_other (by omega)).trans hk2';refine wpIn_mono (hbody (w.heap.size+1) pre x m2 k2' hsp hj hfb c2 a1 _ hRb q4 q5) ?_;rintro e a3 W3 ⟨c3,k3,E3,m3,hq,r2,r3,r4,r5,r6,r7⟩;have hl4:=r3.keeps hRb hl3 rfl;have hk4:=r3.keeps hRb hk3 rfl;have hlt4:w.heap.size+1<W3.heap.size:=(Array.getElem?_eq_some_iff.1 hl4).1
   have fin:∀(jump:Option Code),(Instr.endRound (w.heap.size+1) jump).run P W3=.ok (.bool jump.isNone) (W3.putObj (w.heap.size+1) (.loop (rec (if jump.isNone then .ready else .done) jump))) ∧
     dL c3 m3 (W3.putObj (w.heap.size+1) (.loop (rec (if jump.isNone then .ready else .done) jump))) ∧
     iG (k::π) c m w c3 m3 (W3.putObj (w.heap.size+1) (.loop (rec (if jump.isNone then .ready else .done) jump))) ∧
     (W3.putObj (w.heap.size+1) (.loop (rec (if jump.isNone then .ready else .done) jump))).heap[w.heap.size+1]? = some (.loop (rec (if jump.isNone then .ready else .done) jump)) ∧
     (W3.putObj (w.heap.size+1) (.loop (rec (if jump.isNone then .ready else .done) jump))).heap[w.heap.size]? = some (.deferred (some [])):=by
    intro jump;have:=run_endRound (P:=P) jump hl4;rw [hrec] at this ⊢;refine ⟨this,r2.putObj _ hl4 rfl,(hXb.trans r3.up).other (grownBy_putObj' _ _ _) fun b e=>by cases e;omega,World.putObj_heap_same hlt4,(World.putObj_heap_other (by omega)).trans hk4⟩
   have hle:Le c1 c3:=q3.le.trans r3.le;have hfi:∀id,(0::k::π) <:+ id->dO c1 id->dO c3 id:=fun id dD hf=>r3.fresh id (hP dD (by omega)) (q3.fresh id (hP dD (by omega)) hf);cases e with
   | normal=>
     obtain ⟨f1,f2,f3,f4,f5⟩:=fin none;refine ⟨_,_,f1,c3,m3,f2,hle,hfi,.inl ⟨rfl,hq,f3,f4,f5,fun j hj id dD=>?_⟩⟩;simp at hj
     exact r3.fresh id (hP dD (by omega)) (q3.fresh id (hP dD (by omega)) (hfr j (by omega) id dD))
   | ret=>
     obtain ⟨f1,f2,f3,f4,f5⟩:=fin (some .ret);exact ⟨_,_,f1,c3,m3,f2,hle,hfi,.inr ⟨rfl,_,hq,f3,f4,f5⟩⟩
   | exit i=>
     obtain ⟨f1,f2,f3,f4,f5⟩:=fin (some (.exit i));exact ⟨_,_,f1,c3,m3,f2,hle,hfi,.inr ⟨rfl,_,hq,f3,f4,f5⟩⟩
   | goto _=>exact hq.elim
   | panic _=>exact hq.elim
   | outgrown=>exact hq.elim
  ·rintro e W2 ⟨⟨v,rfl⟩,c',m',hR',(⟨xs,hS,hj,hX,hl,hk,_⟩ | ⟨jump,hj,hX,hl,hk⟩)⟩
   ·exact ⟨none,_,by have:=run_endLoop (P:=P) hl (by rw [hrec];simp);rw [hrec] at this;exact this,hdone _ xs c' m' _ hS hj (hR'.putObj _ hl rfl) (hX.other (grownBy_putObj' _ _ _) fun b e=>by cases e;omega) ((World.putObj_heap_other (by omega)).trans hk) (Nat.le_refl _)⟩
   ·exact ⟨some jump,_,by have:=run_endLoop (P:=P) hl (by rw [hrec];simp);rw [hrec] at this;exact this,hstop _ jump c' m' _ hj (hR'.putObj _ hl rfl) (hX.other (grownBy_putObj' _ _ _) fun b e=>by cases e;omega) ((World.putObj_heap_other (by omega)).trans hk) (Nat.le_refl _)⟩
end Go.Proofs.YtncembphlfbgoaaDoor.Abs
namespace Go.Proofs.YtncembphlfbgoaaDoor.Abs
open Go.RowKit
section
variable {P:Program} {N:Nat} {q:Pa} {fn:Func} {m0:M} {R:V->M->Prop}
def SX (P:Program) (N:Nat) (q:Pa) (fn:Func) (m0:M) (R:V->M->Prop) (code:Code) (k:Nat) (E:dK) (m:M):Prop:=
 ∀(c0:Conc) (w0:World),dL c0 m0 w0->jU c0 q->∀(c:Conc) (a:Act) (w:World),dL c m w->fK c E a N->iF c q k->iG q c0 m0 w0 c m w->a.defers=[] ->
  code.wpIn (fw none) 0 P (bodyPostM (fw none) 0 P fn (xL q c0 m0 w0 R)) a w
abbrev retQ (P:Program) (q:Pa) (rs:List ResultVar) (m0:M) (R:V->M->Prop):Exit->Nat->dK->M->Prop:=fun e _ E' m'=>(e=.ret ∨ e=.normal)/\zZ P E' m' rs fun r=>R r.weak (m0.back q m')
theorem Ey {rs:List ResultVar} (hrs:fn.results.toList=rs) {c0 c':Conc} {w0 w':World} {m':M} {E':dK} {a':Act} (h1:dL c0 m0 w0) (h3:jU c0 q) (g2:dL c' m' w') (g3:iG q c0 m0 w0 c' m' w') (g4:fK c' E' a' N) (hres:zZ P E' m' rs fun r=>R r.weak (m0.back q m')) :
  ∃v,(results fn a'.tmps).run P w'=.ok v w'/\xL q c0 m0 w0 R (.returned v) w':=by
 subst hrs;obtain ⟨v,hC,x,hx,hv⟩:=Dh hres g2 g4;obtain ⟨hback,hown⟩:=h1.back h3 g2;have hX:iG q c0 m0 w0 c' (m0.back q m') w':=⟨g3.le,g3.os,g3.tape,g3.output,g3.size,g3.heap,g3.book,fun b hb ho=>g3.own b hb (hown b ho),g3.fresh,fun id dD hb=>(g3.keep id dD hb).back dD,g3.lits⟩;exact ⟨x,hx,x,c',v.weak,m0.back q m',rfl,hC,hback,hX,V.weak_ok hv⟩
theorem tF {rs:List ResultVar} (hrs:fn.results.toList=rs) {x y:Code} {k:Nat} {E:dK} {m:M} (hx:qN N x=true) (h:SW P N q x k E m (tX (fun k E m=>SX P N q fn m0 R y k E m) (fun e k E m=>e=.ret/\retQ P q rs m0 R e k E m))):SX P N q fn m0 R (.seq x y) k E m:=by
 intro c0 w0 h0 hf c a w hR hE hF hX hd;refine wpIn_seq (wpIn_mono (wpIn_wide.2 (h hx c a w hR hE hF)) ?_);rintro e a' w' ⟨c',k',E',m',g1,g2,g3,g4,g5,g6,g7⟩;cases e with
 | normal=>exact g1 c0 w0 h0 hf c' a' w' g2 g4 g5 (hX.trans g3) (g6.trans hd)
 | ret=>
   show LeavesInM _ _ _ _ _ _ a'.defers _ _;rw [g6,hd];exact Ey hrs h0 hf g2 (hX.trans g3) g4 g1.2.2
 | exit _=>exact nomatch g1.1
 | goto _=>exact nomatch g1.1
 | panic _=>exact nomatch g1.1
 | outgrown=>exact nomatch g1.1
theorem SC_x {f:FuncId} {body:Code} {args:List V} {m:M} (hf:P.funcs[f]? = some fn) (hb:fn.body=some body) (hen:∀(xs:Array Value) (w:World),(callFunc f xs).run P w=.ok (.enter f xs) w) (hN:fn.ntmps=N)
  (h:SX P N q fn m R body 0 (ini args) m):SC P f args q m R:=by
 intro c xs w h1 h2 h3;subst hN;refine .inl ⟨hen _ w,(callsIn_wide (n:=0)).1 (callsIn_of_wp_marks hf hb trivial ?_ rfl)⟩;rw [List.size_toArray];exact h c w h1 h3 c _ w h1 (BV h2 fn.ntmps) h3.sub (.refl q c m w) rfl
theorem SC_raw {f:FuncId} {body:Code} {args:List V} {m:M} (hf:P.funcs[f]? = some fn) (hb:fn.body=some body) (hen:∀(xs:Array Value) (w:World),(callFunc f xs).run P w=.ok (.enter f xs) w)
  (hN:fn.ntmps=N) (hfit:qN N body=true) (h:SW P N q body 0 (ini args) m fun e _ E' m'=>(e=.ret ∨ e=.normal)/\zZ P E' m' fn.results.toList fun r=>R r m'):SC P f args q m R:=by
 intro c xs w h1 h2 h3;refine .inl ⟨hen _ w,?_⟩;subst hN;refine calls_of_wp hf hb ?_;rw [List.size_toArray];refine wp_mono (h hfit c _ w h1 (BV h2 fn.ntmps) h3.sub) ?_;intro e a' w' hp;obtain ⟨c',k',E',m',⟨he,hres⟩,g2,g3,g4,g5,g6,g7⟩:=hp;obtain ⟨v,hC,x,hx,hv⟩:=Dh hres g2 g4
 have hdone:a'.defers=[]/\∃v,(results fn a'.tmps).run P w'=.ok v w'/\∃x c' r m',Ending.returned v=.returned x/\R r m'/\dL c' m' w'/\iG q c m w c' m' w'/\CR c' [r] [x]:=
  ⟨g6,x,hx,x,c',v,m',rfl,hC,g2,g3,hv⟩
 rcases he with rfl | rfl
 ·exact hdone
 ·exact hdone
def RP (P:Program) (N:Nat) (q:Pa) (rs:List ResultVar) (m0:M) (R:V->M->Prop) (b:Nat) (g:Operand) (p:Tmp) (assign body y:Code) (k:Nat) (E:dK) (m:M):Prop:=
 ∃(gf:Nat) (caps:List V) (I:M->Prop) (Sp:List Int->Int->Prop) (S:List Int->Prop) (J:List Int->M->Prop) (Jx:Code->M->Prop) (E1:Int->dK),
  ev m E g=.fn (.func gf) [] caps/\(∀args w,(callFunc gf args).run P w=.ok (.enter gf args) w)/\Gb P gf caps (0::k::q) I Sp S/\(∀pre m1,J pre m1->I m1)/\J [] m/\(∀pre m1 m2,J pre m1->m1.back (0::k::q) m2=m1->J pre m2)/\(∀jump m1 m2,Jx jump m1->m1.back (0::k::q) m2=m1->Jx jump m2) ∧
  (∀(l:Nat) (x:Int) (m':M) (ρ:Pa),FY l P N ρ assign 0 (eL (some p) (.lit (.int .i64 x)) E) m' fun e _ E' m''=>e=.normal/\E'=E1 x/\m''=m') ∧
  (∀(l:Nat) (pre:List Int) (x:Int) (m':M) (kk:Nat),Sp pre x->J pre m'->FY l P N ((pre.length+1)::k::q) body kk (E1 x) m' fun e _ _ m''=>match e with | .normal=>J (pre++[x]) m'' | .ret=>Jx .ret m'' | .exit i=>Jx (.exit i) m'' | _=>False) ∧
  (∀xs m',S xs->J xs m'->SW P N q y (k+1) E m' (retQ P q rs m0 R)) ∧
  (∀jump m',Jx jump m'->(jump=.exit b/\SW P N q y (k+1) E m' (retQ P q rs m0 R)) ∨ (jump=.ret/\zZ P E m' rs fun r=>R r.weak (m0.back q m')))
theorem JI {rs:List ResultVar} (hrs:fn.results.toList=rs) {b:Nat} {g:Operand} {p:Tmp} {x assign body y:Code} {k:Nat} {E:dK} {m:M} (hx:qN N x=true) (hy:qN N y=true) (hp:p<N) (hfa:qN N assign=true) (hfb:qN N body=true)
  (h:SW P N q x k E m (tX (fun k E m=>RP P N q rs m0 R b g p assign body y k E m) fun _ _ _ _=>False)):SX P N q fn m0 R (.seq (.seq x (.block b (.rangeFunc g #[p] assign body))) y) k E m:=by
 intro c0 w0 h0 hf c a w hR hE hF hX hd;refine wpIn_seq (wpIn_seq (wpIn_mono (wpIn_wide.2 (h hx c a w hR hE hF)) ?_));rintro e a' w' ⟨c',k',E',m',g1,g2,g3,g4,g5,g6,g7⟩;cases e with
 | normal=>
   obtain ⟨gf,caps,I,Sp,S,J,Jx,E1,r1,r2,r3,r3',r4,r5,r5',r6,r7,r8,r9⟩:=g1;have hX':=hX.trans g3
   have leave:∀(D:Nat) (c2:Conc) (m2:M) (w2:World) (E2:dK) (a2:Act),dL c2 m2 w2->iG q c0 m0 w0 c2 m2 w2->fK c2 E2 a2 N->a2.defers=[{ target:=.collected D,args:=#[] }]->w2.heap[D]? = some (.deferred (some []))->w0.heap.size<=D ->
     (zZ P E2 m2 rs fun r=>R r.weak (m0.back q m2))->LeavesInM (fw none) 0 P fn a2.tmps (xL q c0 m0 w0 R) a2.defers .returning w2:=by
    intro D c2 m2 w2 E2 a2 q1 q2 q3 q4 q5 q6 q7;rw [q4];exact ⟨by simp,.inl ⟨D,_,rfl,run_takeDeferred q5,Ey hrs h0 hf (q1.putObj _ q5 rfl) (q2.other (grownBy_putObj' _ _ _) fun b e=>by cases e;exact q6) q3 q7⟩⟩
   have rest:∀(D:Nat) (c2:Conc) (m2:M) (w2:World),dL c2 m2 w2->iG (k'::q) c' m' w' c2 m2 w2->w2.heap[D]? = some (.deferred (some []))->w'.heap.size<=D->SW P N q y (k'+1) E' m2 (retQ P q rs m0 R) ->
     y.wpIn (fw none) 0 P (bodyPostM (fw none) 0 P fn (xL q c0 m0 w0 R)) { a' with defers:={ target:=.collected D,args:=#[] }::a'.defers } w2:=by
    intro D c2 m2 w2 q1 q2 q3 q4 hsw;refine wpIn_mono (wpIn_wide.2 (hsw hy c2 _ w2 q1 ⟨(g4.mono q2.le).size,(g4.mono q2.le).fC⟩ (q2.freshK g5))) ?_;rintro e a3 w3 ⟨c3,k3,E3,m3,s1,s2,s3,s4,s5,s6,s7⟩;have:=leave D c3 m3 w3 E3 a3 s2 ((hX'.trans q2.up).trans s3) s4 (by rw [s6];simp [g6,hd]) (s3.keeps q1 q3 rfl) (Nat.le_trans hX'.size q4) s1.2
    rcases s1.1 with rfl | rfl
    ·exact this
    ·exact this
   refine wpIn_block (IB J Jx E1 g2 g4 g5 hp hfa hfb r1 r2 r3 r3' r4 r5 r5' r6 r7 ?_ ?_)
   ·intro D xs c2 m2 w2 hS hj q1 q2 q3 q4;exact rest D c2 m2 w2 q1 q2 q3 q4 (r8 xs m2 hS hj)
   ·intro D jump c2 m2 w2 hj q1 q2 q3 q4
    rcases r9 jump m2 hj with ⟨rfl,hsw⟩ | ⟨rfl,hres⟩
    ·refine wpIn_exit ?_;show (if b=b then _ else _);rw [if_pos rfl];exact rest D c2 m2 w2 q1 q2 q3 q4 hsw
    ·refine wpIn_ret ?_;exact leave D c2 m2 w2 E' _ q1 (hX'.trans q2.up) ⟨(g4.mono q2.le).size,(g4.mono q2.le).fC⟩ (by simp [g6,hd]) q3 (Nat.le_trans hX'.size q4) hres
 | _=>exact g1.elim
end
end Go.Proofs.YtncembphlfbgoaaDoor.Abs
namespace Go.Proofs.YtncembphlfbgoaaDoor.Abs
open Go.RowKit
section
variable {P:Program} {N:Nat} {π:Pa} {k:Nat} {E:dK} {c:Conc} {m:M} {w:World} {a:Act} {Q:Exit->Act->World->Prop}
theorem IG {x:Code} {n:Nat->dK->M->Prop} (h:SW P N π x k E m (tX n fun _ _ _ _=>False)) (hR:dL c m w) (hE:fK c E a N) (hF:iF c π k)
  (next:∀(k':Nat) (E':dK) (m':M) (c':Conc) (a':Act) (w':World),n k' E' m'->dL c' m' w'->iG π c m w c' m' w'->fK c' E' a' N->iF c' π k'->a'.defers=a.defers->(∀t,wr x t=false->E' t=E t)->Q .normal a' w')
  (hx:qN N x=true):x.wpIn (fw none) 0 P Q a w:=by
 refine wpIn_mono (wpIn_wide.2 (h hx c a w hR hE hF)) ?_;rintro e a' w' ⟨c',k',E',m',g1,g2,g3,g4,g5,g6,g7⟩;cases e with
 | normal=>exact next k' E' m' c' a' w' g1 g2 g3 g4 g5 g6 g7
 | _=>exact g1.elim
theorem Gj {x y:Code} {n:Nat->dK->M->Prop} (h:SW P N π x k E m (tX n fun _ _ _ _=>False)) (hR:dL c m w) (hE:fK c E a N) (hF:iF c π k)
  (next:∀(k':Nat) (E':dK) (m':M) (c':Conc) (a':Act) (w':World),n k' E' m'->dL c' m' w'->iG π c m w c' m' w'->fK c' E' a' N->iF c' π k'->a'.defers=a.defers->(∀t,wr x t=false->E' t=E t)->y.wpIn (fw none) 0 P Q a' w')
  (hx:qN N x=true):(Code.seq x y).wpIn (fw none) 0 P Q a w:=
 wpIn_seq (IG h hR hE hF next hx)
theorem want_ok {full:Array Oper} {o:Oper} {j d:Nat} {b t:Bool} (hE:fK c E a N) (hg:o.guard=some (j,b)) (hd:(full[j]?).bind (·.dst)=some d) (ht:E d=.lit (.bool t)):Region.wanted o (yielded full a.tmps)=(t == b):=by
 have hy:yielded full a.tmps j=some t:=by
  have hv:=hE.fC d;rw [ht] at hv;have hv':=hv.inv_lit;unfold yielded;rw [hd];simp only [Option.bind_some]
  have hdl:a.tmps[d]? = some (.bool t):=by
   rw [Array.getD_eq_getD_getElem?] at hv';cases hq:a.tmps[d]? with
   | none=>rw [hq] at hv';simp [undef] at hv'
   | some u=>rw [hq] at hv';simp at hv';rw [hv']
  rw [hdl]
 simp [Region.wanted,hg,hy]
theorem FG {l:Nat} {f x:Operand} {d:Option Nat} {ats:Array TypeId} {ty:TypeId} {pos:String} {after:Array Edge} {guard:Option (Nat × Bool)} {v:Value} {r:Next} (hf:a.eval f=.func (.yield l) #[] #[]) (hx:a.eval x=v) (hr:(Instr.yield l #[v]).run P w=.ok r w) :
  (execOp a.eval ⟨d,.call ⟨.value f,#[x],ats⟩,ty,pos,after,guard⟩).run P w=.ok r w:=by
 simp only [execOp,resolve,hf,Deferred.ofValue,Sem.run_bind,Sem.run_pure,Result.andThen_ok,invoke];subst hx;simpa [go_sem] using hr
theorem Ic {full:Array Oper} {l:Nat} {f x:Operand} {d:Nat} {ats:Array TypeId} {ty:TypeId} {pos:String} {after:Array Edge} {guard:Option (Nat × Bool)} {os:List Oper} {z:Int} {R:Ending->World->Prop}
  (hE:fK c E a N) (hR:dL c m w) (hw:Region.wanted ⟨some d,.call ⟨.value f,#[x],ats⟩,ty,pos,after,guard⟩ (yielded full a.tmps)=true) (hf:ev m E f=.fn (.yield l) [] []) (hx:ev m E x=.lit (.int .i64 z))
  (hy:YieldAt (fw none) 0 P l #[.int .i64 z] w R) (next:∀e w',R e w'->∃v,e=.returned v/\wpListIn (fw none) 0 P full Q os (a.put (some d) v) w') :
  wpListIn (fw none) 0 P full Q (⟨some d,.call ⟨.value f,#[x],ats⟩,ty,pos,after,guard⟩::os) a w:=by
 obtain ⟨fn,tmps,assign,body,h1,h2⟩:=hy;have e1:=hE.ev hR f;rw [hf] at e1;obtain ⟨xs,ys,he,k1,k2⟩:=e1.inv_fn;obtain rfl:xs=[]:=k1.inv_nil;obtain rfl:ys=[]:=k2.inv_nil;have e2:=hE.ev hR x;rw [hx] at e2;refine BigFrame.wpListIn_want hw fun K hK=>?_;refine ⟨fun _ _=>trivial,?_⟩;rw [Oper.semAt_eq _ _ _ (by simp),FG (l:=l) he e2.inv_lit h1];refine ⟨(fun e=>nomatch e),h2.mono fun e w' hr=>?_⟩;obtain ⟨v,rfl,hn⟩:=next e w' hr;exact hK _ _ hn
end
end Go.Proofs.YtncembphlfbgoaaDoor.Abs
