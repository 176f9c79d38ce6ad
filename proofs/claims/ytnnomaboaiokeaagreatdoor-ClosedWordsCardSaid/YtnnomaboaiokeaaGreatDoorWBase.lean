import Derived.WalkKit
import Derived.WalkSpells
import Derived.WalkLawsBesides
import Derived.OpenShut
import Derived.Maps.AppendAt
import Derived.Deep.RegionWith
import Derived.Deep.RegionLaw
import Derived.Deep.AppendLies
import Derived.Lib.AppendStr
set_option linter.all false
namespace Go.Proofs.YtnnomaboaiokeaaGreatDoor
theorem rI {p:Prop} (h:p):p:=h
abbrev dY:=@List.length_cons
abbrev eP:=@List.length_nil
abbrev gK:=@List.nil_append
abbrev gX:=@Option.bind_some
abbrev iB:=@List.map_cons
abbrev iD:=@List.append_nil
abbrev iE:=@List.getElem?_map
abbrev iH:=@List.length_map
abbrev iL:=@List.drop_zero
abbrev iN:=@List.cons_append
abbrev iQ:=@List.not_mem_nil
abbrev iR:=@Option.map_some
abbrev iZ:=@List.map_nil
abbrev jC:=@List.drop_succ_cons
abbrev jB:=@List.getElem?_cons_succ
abbrev jF:=@List.toList_toArray
abbrev jE:=@List.getElem?_cons_zero
abbrev jK:=@List.take_succ_cons
abbrev jJ:=@List.set_cons_zero
abbrev jI:=@List.set_cons_succ
abbrev jP:=@List.forall_mem_cons
abbrev jO:=@List.take_zero
abbrev jN:=@Bool.true_and
abbrev jX:=@Bool.and_true
abbrev jW:=@Bool.not_true
abbrev jV:=@Bool.not_false
abbrev kC:=@Option.map_none
abbrev kB:=@Bool.or_true
abbrev kA:=@Bool.true_or
abbrev jZ:=@Nat.zero_ne_one
abbrev jY:=@Nat.one_ne_zero
abbrev mA:=@List.length_append
abbrev rR:=@List.length_set
abbrev sK:=@Nat.le_refl
abbrev uZ:=@List.length_singleton
abbrev vL:=@List.getElem?_eq_some_iff
abbrev vS:=@List.getElem?_eq_getElem
abbrev wP:=@decide_eq_true
abbrev xV:=@decide_eq_true_eq
abbrev zU:=@List.mem_append
abbrev Ak:=@List.mem_singleton
abbrev AQ:=@List.mem_cons
abbrev BD:=@of_decide_eq_true
abbrev CX:=@List.length_replicate
abbrev Dk:=@Nat.zero_add
abbrev Dj:=@Int.toNat_natCast
abbrev DS:=@List.mem_of_getElem?
abbrev Fs:=@Bool.false_eq_true
abbrev Fv:=@Array.getD_eq_getD_getElem?
abbrev Hw:=@List.flatten_cons
abbrev Hv:=@List.append_assoc
abbrev Hu:=@List.mem_filter
abbrev Ht:=@Nat.add_assoc
abbrev Im:=@Bool.and_eq_true
abbrev Il:=@List.mem_map
abbrev IQ:=@List.all_eq_true
abbrev JG:=@Nat.succ_mul
abbrev JF:=@Nat.le_trans
abbrev JE:=@List.length_take
abbrev JU:=@List.mem_append_left
abbrev JT:=@Nat.succ_ne_self
abbrev Lc:=@List.isSuffixOf_iff_suffix
abbrev Lb:=@List.replicate_succ
abbrev Lj:=@List.mem_range
abbrev LH:=@List.suffix_refl
abbrev LG:=@Nat.zero_le
abbrev LF:=@List.cons_ne_self
abbrev Mp:=@List.getElem_mem
abbrev Mo:=@List.prefix_append
abbrev Nr:=@List.getElem?_append_right
abbrev Nq:=@List.map_append
abbrev Np:=@List.mem_cons_of_mem
abbrev No:=@Nat.lt_succ_self
abbrev Nn:=@List.mem_append_right
abbrev Nz:=@List.getElem?_append_left
abbrev Ny:=@List.drop_eq_getElem_cons
abbrev Pd:=@List.mem_of_mem_take
abbrev Pb:=@of_decide_eq_false
abbrev Pj:=@List.getElem?_set_ne
abbrev Pi:=@List.getElem?_set
abbrev Ph:=@List.length_drop
abbrev Qu:=@List.getElem?_set_self
abbrev Rp:=@Array.length_toList
abbrev Ro:=@Bool.or_eq_true
abbrev Rn:=@List.map_congr_left
abbrev Rm:=@Bool.not_eq_true'
abbrev Rl:=@Int.le_refl
abbrev Rk:=@List.replicate_zero
abbrev Rj:=@List.prefix_refl
abbrev Tf:=@List.ext_getElem?
abbrev Te:=@List.getElem?_eq_none
abbrev Td:=@List.filter_cons
abbrev Tc:=@List.filter_append
abbrev Tb:=@List.filter_congr
abbrev Ta:=@List.countP_cons
abbrev SZ:=@Array.getElem?_eq_getElem
abbrev Tx:=@Nat.lt_of_lt_of_le
abbrev Tv:=@List.getElem?_mapIdx
abbrev Tu:=@List.mem_or_eq_of_mem_set
abbrev Tt:=@Nat.add_zero
abbrev Ts:=@List.append_of_mem
abbrev Tr:=@Nat.mul_one
abbrev Tq:=@List.mem_of_mem_drop
abbrev Tp:=@List.drop_eq_nil_of_le
abbrev xea:=@List.getElem?_toArray
abbrev xeb:=@Nat.add_mul
abbrev xec:=@Nat.mul_le_mul_right
abbrev xed:=@List.contains_iff_mem
abbrev xee:=@List.map_map
abbrev xef:=@List.getElem?_drop
abbrev xeg:=@List.getElem?_take
abbrev xeh:=@Nat.lt_or_ge
abbrev xei:=@List.mem_replicate
abbrev xej:=@Nat.le_succ
abbrev xek:=@Nat.min_eq_left
abbrev xel:=@Int.eq_ofNat_of_zero_le
abbrev xem:=@decide_eq_false
abbrev xen:=@Sum.elim_inr
abbrev xeo:=@List.mem_cons_self
abbrev xep:=@Option.getD_some
abbrev xeq:=@List.head?_drop
abbrev xer:=@List.take_of_length_le
abbrev xes:=@Sum.elim_inl
abbrev xet:=@Bool.or_eq_false_iff
abbrev xeu:=@Array.getElem?_replicate
abbrev xev:=@List.size_toArray
abbrev xew:=@List.any_eq_true
abbrev xex:=@List.take_length
abbrev xey:=@Array.getElem?_toList
abbrev xez:=@List.drop_of_length_le
abbrev xfa:=@Array.toList_setIfInBounds
abbrev xfb:=@Array.getElem?_setIfInBounds_ne
abbrev xfc:=@List.mem_map_of_mem
abbrev xfd:=@List.countP_le_length
abbrev xfe:=@List.getElem?_range
abbrev xff:=@List.singleton_append
abbrev xfg:=@List.take_append_drop
abbrev xfh:=@List.getElem?_take_of_lt
abbrev xfi:=@List.eq_nil_iff_forall_not_mem
abbrev xfj:=@Array.getElem?_setIfInBounds_self_of_lt
abbrev xfk:=@Array.mapM_eq_mapM_toList
abbrev xfl:=@Int.fdiv_eq_ediv_of_nonneg
abbrev xfm:=@Int.tmod_eq_emod_of_nonneg
open Go.RowKit
theorem eV {p:Prop} (h:p):Hid p:=h
def AY (w:World) (g:Nat) (t:TypeId) (cs:Array Value):Prop:=w.heap[g]? = some (.cells cs t (0,0))
section
variable {w w':World} {g:Nat} {t:TypeId} {cs:Array Value}
theorem AY.lt (h:AY w g t cs):g<w.heap.size:=by
 rcases xeh g w.heap.size with hlt | hge
 ·exact hlt
 ·unfold AY at h;rw [Array.getElem?_eq_none hge] at h;cases h
theorem AY.cell (h:AY w g t cs) (i:Nat):w.cell? ⟨g,i,none⟩=cs[i]? := by unfold AY at h;simp [World.cell?,h]
theorem AY.frozen (h:AY w g t cs) (i:Nat):w.frozen? ⟨g,i,none⟩=false:=by unfold AY at h;simp [World.frozen?,h]
theorem AY.new (w:World) (t:TypeId) (cs:Array Value):AY (w.alloc (.cells cs t)) w.heap.size t cs:=heap_alloc_new w _
theorem AY.drew (h:AY w g t cs):AY w.drew g t cs:=h
theorem AY.alloc (h:AY w g t cs) (o:Obj):AY (w.alloc o) g t cs:=(Below.heap_alloc w o g h.lt).trans h
theorem AY.set_ (h:AY w g t cs) (i:Nat) (u:Value):AY (w.setCell ⟨g,i,none⟩ u) g t (cs.setIfInBounds i u):=by
 unfold AY at h ⊢;simp [World.setCell,Array.getElem?_modify,h]
theorem AY.grown {row:Option Nat} (h:AY w g t cs) (hb:w.grownBy w' row) (hg:some g ≠ row):AY w' g t cs:=(hb.block g h.lt hg).trans h
end
theorem GR (w:World) (r:Option Nat):w.grownBy w r:=⟨rfl,rfl,rfl,sK _,λ_ _ _=>rfl⟩
theorem UY {a w:World} {r:Option Nat} (h:a.grownBy w r):a.grownBy w.drew r:=⟨h.os,h.tape,h.output,h.size,h.block⟩
theorem IB {a w:World} {r:Option Nat} (h:a.grownBy w r) (o:Obj):a.grownBy (w.alloc o) r:=
 ⟨h.os,h.tape,h.output,JF h.size (by simp),λi hi hne=>(Below.heap_alloc w o i (Tx hi h.size)).trans (h.block i hi hne)⟩
theorem gset {a w:World} {r:Option Nat} (h:a.grownBy w r) (g i:Nat) (u:Value) (hg:some g=r ∨ a.heap.size<=g):a.grownBy (w.setCell ⟨g,i,none⟩ u) r:=
 ⟨h.os,h.tape,h.output,by simpa [World.setCell] using h.size,λk hk hne=>(Below.heap_setCell w ⟨g,i,none⟩ u k (by
  intro e;have e':k=g:=e;subst e'
  rcases hg with hg | hg
  ·exact hne hg
  ·omega)).trans (h.block k hk hne)⟩
abbrev GG:=Nat->Nat->Option Value
def Gr (w:World) (G:GG):Prop:=∀b o v,G b o=some v->w.cell? ⟨b,o,none⟩=some v
def Ji (G:GG) (b:Nat):Prop:=∀o,G b o=none
structure oT (B:Nat) (G G':GG):Prop where
 le:∀b o v,G b o=some v->G' b o=some v
 same:∀b,b<B->∀o,G' b o=G b o
theorem oT.refl (B:Nat) (G:GG):oT B G G:=⟨λ_ _ _ h=>h,λ_ _ _=>rfl⟩
theorem oT.trans {B B':Nat} {G G1 G2:GG} (h:oT B G G1) (k:oT B' G1 G2) (hB:B<=B'):oT B G G2:=
 ⟨λb o v hv=>k.le b o v (h.le b o v hv),λb hb o=>(k.same b (Tx hb hB) o).trans (h.same b hb o)⟩
theorem Gr.grown {w w':World} {G:GG} {row:Option Nat} (h:Gr w G) (hg:w.grownBy w' row) (hn:∀r,row=some r->Ji G r):Gr w' G:=by
 intro b o v hv;refine hg.cell (h b o v hv) ?_;intro e;have:=hn b e.symm o;rw [this] at hv;cases hv
theorem Gr.lt {w:World} {G:GG} (h:Gr w G) {b o:Nat} {v:Value} (hv:G b o=some v):b<w.heap.size:=World.block_lt_of_cell? w ⟨b,o,none⟩ (h b o v hv)
theorem Gr.out {w:World} {G:GG} (h:Gr w G) {b:Nat} (hb:w.heap.size<=b):Ji G b:=by
 intro o;cases hv:G b o with
 | none=>rfl
 | some v=>have:=h.lt hv;omega
theorem Of {G:GG} {rb:Nat} (hn:Ji G rb):∀r,some rb=some r->Ji G r:=by
 intro r hr
 injection hr with hr
 subst hr;exact hn
theorem LU {G:GG}:∀r,(none:Option Nat)=some r->Ji G r:=by
 intro r hr;cases hr
theorem Gr.alloc {w:World} {G:GG} (h:Gr w G) (o:Obj):Gr (w.alloc o) G:=h.grown (IB (GR w none) o) LU
theorem Gr.drew {w:World} {G:GG} (h:Gr w G):Gr w.drew G:=h
theorem Gr.drewN {w:World} {G:GG} (h:Gr w G) (n:Nat):Gr (w.drewN n) G:=h
def KE (G:GG) (b:Nat) (cs:List Value):GG:=λb' o=>if b'=b then cs[o]? else G b' o
theorem lay_ext {G:GG} {b B:Nat} {cs:List Value} (ho:Ji G b) (hB:B<=b):oT B G (KE G b cs):=by
 refine ⟨λb' o v hv=>?_,λb' hb o=>?_⟩
 ·unfold KE
  split
  ·rename_i e;subst e;rw [ho o] at hv;cases hv
  ·exact hv
 ·unfold KE;rw [if_neg (by omega)]
theorem KD {G:GG} {b:Nat} {cs:List Value} (i:Nat):KE G b cs b i=cs[i]? := by simp [KE]
theorem lay_out {G:GG} {b b':Nat} {cs:List Value} (ho:Ji G b') (hne:b' ≠ b):Ji (KE G b cs) b':=by
 intro o;unfold KE;rw [if_neg hne];exact ho o
theorem lay_com {w:World} {G:GG} {b:Nat} {cs:List Value} (h:Gr w G) (hc:∀i u,cs[i]? = some u->w.cell? ⟨b,i,none⟩=some u):Gr w (KE G b cs):=by
 intro b' o v hv;unfold KE at hv
 split at hv
 ·rename_i e;subst e;exact hc o v hv
 ·exact h _ _ _ hv
inductive Qt where
 | int (k:IntKind) (n:Int)
 | bool (b:Bool)
 | str (s:ByteArray)
 | node (fs:List Qt)
 | list (es:List Qt)
inductive AX (G:GG):List Qt->List Value->Prop where
 | nil:AX G [] []
 | int {k n ds cs}:(Lit.int k n).wf=true->AX G ds cs->AX G (.int k n::ds) (.int k n::cs)
 | bool {b ds cs}:AX G ds cs->AX G (.bool b::ds) (.bool b::cs)
 | str {s ds cs}:AX G ds cs->AX G (.str s::ds) (.string s::cs)
 | node {fs ds cs1 cs}:AX G fs cs1->AX G ds cs->AX G (.node fs::ds) (cs1++cs)
 | list {es ds cs1 cs a cap}:AX G es cs1->es.length<=cap->cap<=maxLen->(0<es.length->∃b off,a=some ⟨b,off,none⟩/\∀i u,cs1[i]? = some u->G b (off+i)=some u)->AX G ds cs ->
    AX G (.list es::ds) (.slice a es.length cap::cs)
theorem AX.mono {G G':GG} (hle:∀b o v,G b o=some v->G' b o=some v) {ds:List Qt} {cs:List Value} (h:AX G ds cs):AX G' ds cs:=by
 induction h with
 | nil=>exact .nil
 | int hw _ ih=>exact .int hw ih
 | bool _ ih=>exact .bool ih
 | str _ ih=>exact .str ih
 | node _ _ ih1 ih2=>exact .node ih1 ih2
 | list _ hc hm ha _ ih1 ih2=>
   refine .list ih1 hc hm (λhl=>?_) ih2;obtain ⟨b,off,e,h⟩:=ha hl;exact ⟨b,off,e,λi u hu=>hle _ _ _ (h i u hu)⟩
def Fl (G:GG) (es:List Qt) (a:Option Addr) (len cap:Nat):Prop:=
 len=es.length/\len<=cap/\cap<=maxLen/\∃cs,AX G es cs/\(0<len->∃b off,a=some ⟨b,off,none⟩/\∀i u,cs[i]? = some u->G b (off+i)=some u)
theorem AX.inv_nil {G:GG} {cs:List Value} (h:AX G [] cs):cs=[]:=by cases h;rfl
theorem AX.inv_int {G:GG} {k n ds cs} (h:AX G (.int k n::ds) cs):∃xs,cs=.int k n::xs/\(Lit.int k n).wf=true/\AX G ds xs:=by cases h with | int hw h=>exact ⟨_,rfl,hw,h⟩
inductive OP:Qt->Nat->Prop where
 | int {k n}:OP (.int k n) 1
 | bool {b}:OP (.bool b) 1
 | str {s}:OP (.str s) 1
 | list {es}:OP (.list es) 1
 | node0:OP (.node []) 0
 | node {f fs m n}:OP f m->OP (.node fs) n->OP (.node (f::fs)) (m+n)
structure St (G0:GG) (w0:World) (r:Option Nat) (G:GG) (w:World):Prop where
 ext:oT w0.heap.size G0 G
 com:Gr w G
 gr:w0.grownBy w r
 out:∀g,r=some g->Ji G g/\g<w0.heap.size
structure Ob (B:Nat) (G:GG) (w:World) (b:Nat) (t:TypeId) (cs:Array Value):Prop where
 new:B<=b
 blk:AY w b t cs
 out:Ji G b
section
variable {B:Nat} {G G':GG} {w w':World} {b:Nat} {t:TypeId} {cs:Array Value}
end
structure Row (B:Nat) (G:GG) (w:World) (e:TypeId) (size:Nat) (v:Value) (es:List Qt):Prop where
 ex:∃cs,w.ownsRow B e size v es.length cs/\AX G es cs
 out:∀g,v.ownBlock=some g->Ji G g
section
variable {B:Nat} {G G':GG} {w w':World} {e:TypeId} {size:Nat} {v:Value} {es:List Qt}
end
def Src (w:World) (x:Value) (m:Nat) (news:List Value):Prop:=∃A c,x=.slice A m c/\(0<m->∃ad:Addr,A=some ad/\∀j u,news[j]? = some u->w.cell? (ad.add j)=some u)
theorem mZ (b o j:Nat):(⟨b,o,none⟩:Addr).add j=⟨b,o+j,none⟩:=by unfold Addr.add;split <;> simp_all
section
variable {P:Program} (w:World)
end
open Go.Lib in
section
variable {P:Program}
end
structure Two (G0:GG) (w0:World) (rb tb sb T:Nat) (z:Array Value) (G:GG) (w:World) (cs:Array Value):Prop where
 st:St G0 w0 (some rb) G w
 t:Ob w0.heap.size G w tb T cs
 o:Ob w0.heap.size G w sb T z
 ne:tb ≠ sb
section
variable {G0:GG} {w0:World} {rb tb sb T:Nat} {z:Array Value} {G G':GG} {w w':World} {cs:Array Value}
end
structure WFr (wb:Nat) (row:Option Nat) (w w':World):Prop where
 os:w'.os=w.os
 tape:w'.tape=w.tape
 output:w'.output=w.output
 size:w.heap.size<=w'.heap.size
 block:∀k,k<w.heap.size->k ≠ wb->some k ≠ row->w'.heap[k]? = w.heap[k]?
section
variable {wb:Nat} {row row1:Option Nat} {w w1 w2 w':World} {G:GG}
end
