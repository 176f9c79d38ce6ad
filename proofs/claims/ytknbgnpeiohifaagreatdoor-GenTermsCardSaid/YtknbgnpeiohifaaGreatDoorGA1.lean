import Derived.Test.YtknbgnpeiohifaaGreatDoorGBase
set_option linter.all false
namespace Go.Proofs.YtknbgnpeiohifaaGreatDoor.Abs
open Go.RowKit
abbrev Pa:=List Nat
inductive wE where
 | anon (id:Pa) (j:Nat)
 | cell (id:Pa) (off ver:Nat)
 | priv (id:Pa)
 deriving DecidableEq
inductive NV where
 | none
 | exact
 | self
 | st (s:wE)
 deriving DecidableEq
inductive V where
 | lit (v:Value)
 | top
 | ptr (id:Pa) (off:Nat)
 | list (o:NV) (rows:List (List V))
 | eptr (rows:List (List V)) (i off:Nat)
 | arr (id:Pa) (off len cap:Nat)
 | fn (f:Fn) (first captured:List V)
 | agg (cells:List V)
 | tup (vs:List V)
 | pp (id:Pa) (off:Nat)
 | vec (id:Pa) (sz len:Nat)
 | nilv
 deriving Inhabited
structure M where
 blk:Pa->Option (List V)
 ver:Pa->Nat->Nat
 tok:Pa->Nat->Bool
 gl:Nat->V
 hp:Pa->Option (List V)
inductive Sg where
 | full
 | arr (b cap sz len:Nat)
structure Conc where
 base:Nat
 lit:Nat->Prop
 ρ:Pa->Option Nat
 κ:wE->Option Sg
 G:GG
def QY (c:Conc) (o:NV) (len sz:Nat) (a:Option Addr) (cap:Nat):Prop:=
 match o with
 | .none=>True
 | .exact=>cap=len/\∀x,a=some x->c.lit x.block
 | .self=>False
 | .st s=>(c.κ s=some .full/\cap=len) ∨ ∃b,c.κ s=some (.arr b cap sz len)/\a=some ⟨b,0,none⟩/\0<len
def Sf (G:GG) (a:Option Addr) (es:List Value):Prop:=0<es.length->∃b off,a=some ⟨b,off,none⟩/\∀i u,es[i]? = some u->G b (off+i)=some u
inductive CR (c:Conc):List V->List Value->Prop where
 | nil:CR c [] []
 | lit {v vs cs}:CR c vs cs->CR c (.lit v::vs) (v::cs)
 | top {v vs cs}:CR c vs cs->CR c (.top::vs) (v::cs)
 | ptr {id off b vs cs}:c.ρ id=some b->CR c vs cs->CR c (.ptr id off::vs) (.pointer (some ⟨b,off,none⟩)::cs)
 | list {o rows es sz a cap vs cs}:CR c rows.flatten es->(∀r ∈ rows,r.length=sz)->0<sz->rows.length<=cap->cap<=maxLen->(0<rows.length->∃b off,a=some ⟨b,off,none⟩)->Sf c.G a es->(∀u ∈ es,u.oneCell'=true)->QY c o rows.length sz a cap->CR c vs cs ->
    CR c (.list o rows::vs) (.slice a rows.length cap::cs)
 | eptr {rows es sz i off b o vs cs}:CR c rows.flatten es->(∀r ∈ rows,r.length=sz)->(∀j u,es[j]? = some u->c.G b (o+j)=some u)->(∀u ∈ es,u.oneCell'=true)->CR c vs cs ->
    CR c (.eptr rows i off::vs) (.pointer (some ⟨b,o+i*sz+off,none⟩)::cs)
 | arr {id off len cap b vs cs}:c.ρ id=some b->len<=cap->cap<=maxLen->CR c vs cs->CR c (.arr id off len cap::vs) (.slice (some ⟨b,off,none⟩) len cap::cs)
 | fn {f first captured xs ys vs cs}:CR c first xs->CR c captured ys->CR c vs cs->CR c (.fn f first captured::vs) (.func f xs.toArray ys.toArray::cs)
 | agg {us xs vs cs}:CR c us xs->(∀u ∈ xs,u.oneCell'=true)->CR c vs cs->CR c (.agg us::vs) (.agg xs.toArray::cs)
 | tup {us xs vs cs}:CR c us xs->CR c vs cs->CR c (.tup us::vs) (.tuple xs.toArray::cs)
 | pp {id off b n vs cs}:c.κ (.priv id)=some (.arr b n 1 0)->CR c vs cs->CR c (.pp id off::vs) (.pointer (some ⟨b,off,none⟩)::cs)
 | vec {id sz len b n cap vs cs}:c.κ (.priv id)=some (.arr b n 1 0)->n=cap*sz->0<sz->len<=cap->cap<=maxLen->CR c vs cs->CR c (.vec id sz len::vs) (.slice (some ⟨b,0,none⟩) len cap::cs)
 | nilv {a vs cs}:CR c vs cs->CR c (.nilv::vs) (.slice a 0 0::cs)
structure Le (c c':Conc):Prop where
 base:c'.base=c.base
 lit:∀b,c.lit b->c'.lit b
 ρ:∀id b,c.ρ id=some b->c'.ρ id=some b
 κ:∀s i,c.κ s=some i->c'.κ s=some i
 G:∀b o v,c.G b o=some v->c'.G b o=some v
theorem Le.refl (c:Conc):Le c c:=⟨rfl,λ_ h=>h,λ_ _ h=>h,λ_ _ h=>h,λ_ _ _ h=>h⟩
theorem Le.trans {a b c:Conc} (h:Le a b) (k:Le b c):Le a c:=⟨k.base.trans h.base,λ_ x=>k.lit _ (h.lit _ x),λ_ _ x=>k.ρ _ _ (h.ρ _ _ x),λ_ _ x=>k.κ _ _ (h.κ _ _ x),λ_ _ _ x=>k.G _ _ _ (h.G _ _ _ x)⟩
theorem QY.mono {c c':Conc} (hl:Le c c') {o:NV} {len sz:Nat} {a:Option Addr} {cap:Nat} (h:QY c o len sz a cap):QY c' o len sz a cap:=by
 cases o with
 | st s=>
   rcases h with ⟨h1,h2⟩ | ⟨b,h1,h2⟩
   ·exact .inl ⟨hl.κ _ _ h1,h2⟩
   ·exact .inr ⟨b,hl.κ _ _ h1,h2⟩
 | exact=>exact ⟨h.1,λx hx=>hl.lit _ (h.2 x hx)⟩
 | _=>exact h
theorem Sf.mono {G G':GG} (hl:∀b o v,G b o=some v->G' b o=some v) {a:Option Addr} {es:List Value} (h:Sf G a es):Sf G' a es:=by
 intro h0;obtain ⟨b,off,e,h⟩:=h h0;exact ⟨b,off,e,λi u hu=>hl _ _ _ (h i u hu)⟩
theorem CR.mono {c c':Conc} (hl:Le c c') {vs:List V} {cs:List Value} (h:CR c vs cs):CR c' vs cs:=by
 induction h with
 | nil=>exact .nil
 | lit _ ih=>exact .lit ih
 | top _ ih=>exact .top ih
 | ptr h _ ih=>exact .ptr (hl.ρ _ _ h) ih
 | list _ h1 h0 h2 h3 h4 h5 h7 h6 _ ih1 ih2=>exact .list ih1 h1 h0 h2 h3 h4 (h5.mono hl.G) h7 (h6.mono hl) ih2
 | eptr _ h1 h2 h3 _ ih1 ih2=>exact .eptr ih1 h1 (λj u hu=>hl.G _ _ _ (h2 j u hu)) h3 ih2
 | arr h h1 h2 _ ih=>exact .arr (hl.ρ _ _ h) h1 h2 ih
 | fn _ _ _ ih1 ih2 ih3=>exact .fn ih1 ih2 ih3
 | agg _ h _ ih1 ih2=>exact .agg ih1 h ih2
 | tup _ _ ih1 ih2=>exact .tup ih1 ih2
 | pp h _ ih=>exact .pp (hl.κ _ _ h) ih
 | vec h h1 h2 h3 h4 _ ih=>exact .vec (hl.κ _ _ h) h1 h2 h3 h4 ih
 | nilv _ ih=>exact .nilv ih
section
variable {c:Conc}
theorem CR.len {vs:List V} {cs:List Value} (h:CR c vs cs):cs.length=vs.length:=by
 induction h <;> simp_all
theorem CR.cons {v:V} {vs:List V} {x:Value} {cs:List Value} (h:CR c [v] [x]) (k:CR c vs cs):CR c (v::vs) (x::cs):=by
 cases h with
 | lit=>exact .lit k
 | top=>exact .top k
 | ptr h _=>exact .ptr h k
 | list h0 h1 hz h2 h3 h4 h5 hc h6 _=>exact .list h0 h1 hz h2 h3 h4 h5 hc h6 k
 | eptr h0 h1 h2 h3 _=>exact .eptr h0 h1 h2 h3 k
 | arr h h1 h2 _=>exact .arr h h1 h2 k
 | fn h1 h2 _=>exact .fn h1 h2 k
 | agg h h1 _=>exact .agg h h1 k
 | tup h _=>exact .tup h k
 | pp h _=>exact .pp h k
 | vec h h1 h2 h3 h4 _=>exact .vec h h1 h2 h3 h4 k
 | nilv _=>exact .nilv k
theorem CR.uncons {v:V} {vs:List V} {cs:List Value} (h:CR c (v::vs) cs):∃x xs,cs=x::xs/\CR c [v] [x]/\CR c vs xs:=by
 cases h with
 | lit h=>exact ⟨_,_,rfl,.lit .nil,h⟩
 | top h=>exact ⟨_,_,rfl,.top .nil,h⟩
 | ptr h0 h=>exact ⟨_,_,rfl,.ptr h0 .nil,h⟩
 | list h0 h1 hz h2 h3 h4 h5 hc h6 h=>exact ⟨_,_,rfl,.list h0 h1 hz h2 h3 h4 h5 hc h6 .nil,h⟩
 | eptr h0 h1 h2 h3 h=>exact ⟨_,_,rfl,.eptr h0 h1 h2 h3 .nil,h⟩
 | arr h0 h1 h2 h=>exact ⟨_,_,rfl,.arr h0 h1 h2 .nil,h⟩
 | fn h1 h2 h=>exact ⟨_,_,rfl,.fn h1 h2 .nil,h⟩
 | agg h0 h1 h=>exact ⟨_,_,rfl,.agg h0 h1 .nil,h⟩
 | tup h0 h=>exact ⟨_,_,rfl,.tup h0 .nil,h⟩
 | pp h0 h=>exact ⟨_,_,rfl,.pp h0 .nil,h⟩
 | vec h0 h1 h2 h3 h4 h=>exact ⟨_,_,rfl,.vec h0 h1 h2 h3 h4 .nil,h⟩
 | nilv h=>exact ⟨_,_,rfl,.nilv .nil,h⟩
theorem CR.inv_nil {cs:List Value} (h:CR c [] cs):cs=[]:=by cases h;rfl
theorem CR.append {us vs:List V} {xs ys:List Value} (h:CR c us xs) (k:CR c vs ys):CR c (us++vs) (xs++ys):=by
 induction us generalizing xs with
 | nil=>rw [h.inv_nil];exact k
 | cons u us ih=>
   obtain ⟨x,xs,rfl,h1,h2⟩:=h.uncons;exact h1.cons (ih h2)
theorem CR.take {vs:List V} {cs:List Value} (h:CR c vs cs) (n:Nat):CR c (vs.take n) (cs.take n):=by
 induction n generalizing vs cs with
 | zero=>exact .nil
 | succ n ih=>
   cases vs with
   | nil=>rw [h.inv_nil];exact .nil
   | cons v vs=>obtain ⟨x,xs,rfl,h1,h2⟩:=h.uncons;exact h1.cons (ih h2)
theorem CR.drop {vs:List V} {cs:List Value} (h:CR c vs cs) (n:Nat):CR c (vs.drop n) (cs.drop n):=by
 induction n generalizing vs cs with
 | zero=>exact h
 | succ n ih=>
   cases vs with
   | nil=>rw [h.inv_nil];exact .nil
   | cons v vs=>obtain ⟨x,xs,rfl,h1,h2⟩:=h.uncons;exact ih h2
theorem CR.get {vs:List V} {cs:List Value} (h:CR c vs cs) {i:Nat} {v:V} (hv:vs[i]? = some v):∃x,cs[i]? = some x/\CR c [v] [x]:=by
 induction i generalizing vs cs with
 | zero=>
   cases vs with
   | nil=>cases hv
   | cons u vs=>
     obtain ⟨x,xs,rfl,h1,h2⟩:=h.uncons;obtain rfl:u=v:=by simpa using hv
     exact ⟨x,rfl,h1⟩
 | succ i ih=>
   cases vs with
   | nil=>cases hv
   | cons u vs=>
     obtain ⟨x,xs,rfl,h1,h2⟩:=h.uncons;obtain ⟨y,hy,h3⟩:=ih h2 (by simpa using hv);exact ⟨y,by simpa using hy,h3⟩
theorem CR.set {vs:List V} {cs:List Value} (h:CR c vs cs) (i:Nat) {v:V} {x:Value} (hv:CR c [v] [x]):CR c (vs.set i v) (cs.set i x):=by
 induction i generalizing vs cs with
 | zero=>
   cases vs with
   | nil=>rw [h.inv_nil];exact .nil
   | cons u vs=>obtain ⟨y,ys,rfl,h1,h2⟩:=h.uncons;exact hv.cons h2
 | succ i ih=>
   cases vs with
   | nil=>rw [h.inv_nil];exact .nil
   | cons u vs=>obtain ⟨y,ys,rfl,h1,h2⟩:=h.uncons;exact h1.cons (ih h2)
theorem CR.inv_one {v:V} {cs:List Value} (h:CR c [v] cs):∃x,cs=[x]/\CR c [v] [x]:=by
 obtain ⟨x,xs,rfl,h1,h2⟩:=h.uncons;rw [h2.inv_nil];exact ⟨x,rfl,h1⟩
theorem CR.inv_lit {u x:Value} (h:CR c [.lit u] [x]):x=u:=by cases h;rfl
theorem CR.inv_ptr {id:Pa} {off:Nat} {x:Value} (h:CR c [.ptr id off] [x]):∃b,c.ρ id=some b/\x=.pointer (some ⟨b,off,none⟩):=by cases h with | ptr h _=>exact ⟨_,h,rfl⟩
theorem CR.inv_agg {us:List V} {x:Value} (h:CR c [.agg us] [x]):∃xs,x=.agg xs.toArray/\CR c us xs/\∀u ∈ xs,u.oneCell'=true:=by cases h with | agg h h1 _=>exact ⟨_,rfl,h,h1⟩
theorem CR.inv_tup {us:List V} {x:Value} (h:CR c [.tup us] [x]):∃xs,x=.tuple xs.toArray/\CR c us xs:=by cases h with | tup h _=>exact ⟨_,rfl,h⟩
theorem CR.inv_fn {f:Fn} {a b:List V} {x:Value} (h:CR c [.fn f a b] [x]):∃xs ys,x=.func f xs.toArray ys.toArray/\CR c a xs/\CR c b ys:=by cases h with | fn h k _=>exact ⟨_,_,rfl,h,k⟩
theorem CR.inv_list {o:NV} {rows:List (List V)} {x:Value} (h:CR c [.list o rows] [x]):∃a cap es sz,x=.slice a rows.length cap/\CR c rows.flatten es/\(∀r ∈ rows,r.length=sz)/\0<sz/\rows.length<=cap/\cap<=maxLen ∧
  (0<rows.length->∃b off,a=some ⟨b,off,none⟩)/\Sf c.G a es/\(∀u ∈ es,u.oneCell'=true)/\QY c o rows.length sz a cap:=by
 cases h with | list h0 h1 hz h2 h3 h4 h5 hc h6 _=>exact ⟨_,_,_,_,rfl,h0,h1,hz,h2,h3,h4,h5,hc,h6⟩
theorem CR.inv_eptr {rows:List (List V)} {i off:Nat} {x:Value} (h:CR c [.eptr rows i off] [x]):∃b o sz es,x=.pointer (some ⟨b,o+i*sz+off,none⟩)/\CR c rows.flatten es/\(∀r ∈ rows,r.length=sz)/\(∀j u,es[j]? = some u->c.G b (o+j)=some u)/\∀u ∈ es,u.oneCell'=true:=by
 cases h with | eptr h0 h1 h2 h3 _=>exact ⟨_,_,_,_,rfl,h0,h1,h2,h3⟩
theorem CR.inv_pp {id:Pa} {off:Nat} {x:Value} (h:CR c [.pp id off] [x]):∃b n,c.κ (.priv id)=some (.arr b n 1 0)/\x=.pointer (some ⟨b,off,none⟩):=by cases h with | pp h _=>exact ⟨_,_,h,rfl⟩
theorem CR.inv_vec {id:Pa} {sz len:Nat} {x:Value} (h:CR c [.vec id sz len] [x]):∃b n cap,c.κ (.priv id)=some (.arr b n 1 0)/\n=cap*sz/\0<sz/\len<=cap/\cap<=maxLen/\x=.slice (some ⟨b,0,none⟩) len cap:=by cases h with | vec h h1 h2 h3 h4 _=>exact ⟨_,_,_,h,h1,h2,h3,h4,rfl⟩
theorem CR.inv_nilv {x:Value} (h:CR c [.nilv] [x]):∃a,x=.slice a 0 0:=by cases h with | nilv _=>exact ⟨_,rfl⟩
theorem CR.inv_arr {id:Pa} {off len cap:Nat} {x:Value} (h:CR c [.arr id off len cap] [x]):∃b,c.ρ id=some b/\x=.slice (some ⟨b,off,none⟩) len cap/\len<=cap/\cap<=maxLen:=by cases h with | arr h h1 h2 _=>exact ⟨_,h,rfl,h1,h2⟩
theorem La {rows:List (List V)} {sz:Nat} (hs:∀r ∈ rows,r.length=sz) {i:Nat} {r:List V} (hr:rows[i]? = some r):rows.flatten.length=rows.length*sz/\(rows.flatten.drop (i*sz)).take sz=r:=by
 induction rows generalizing i with
 | nil=>cases hr
 | cons q rows ih=>
   have hq:q.length=sz:=hs q zd;have hall:∀r ∈ rows,r.length=sz:=λr hr=>hs r (by simp [hr])
   have hlen:rows.flatten.length=rows.length*sz:=by
    clear ih hr hs
    induction rows with
    | nil=>simp
    | cons p rows ih2=>simp [hall p zd,ih2 (λr hr=>hall r (by simp [hr])),NM];omega
   refine ⟨by simp [hlen,hq,NM];omega,?_⟩;cases i with
   | zero=>
     obtain rfl:q=r:=by simpa using hr
     simp [←hq]
   | succ i=>
     have:=(ih hall (by simpa using hr)).2;rw [Ll,NM,List.drop_append,List.drop_of_length_le zb,AE,hq,show i*sz+sz - sz=i*sz by omega];exact this
theorem FG {rows:List (List V)} {sz:Nat} (hs:∀r ∈ rows,r.length=sz):rows.flatten.length=rows.length*sz:=by
 induction rows with
 | nil=>simp
 | cons p rows ih=>simp [hs p zd,ih (λr hr=>hs r (by simp [hr])),NM];omega
end
def V.ld (s:wE):V->V
 | .list .self rows=>.list (.st s) rows
 | v=>v
def IL (ver:Nat->Nat) (id:Pa) (vs:List V):List V:=vs.mapIdx λoff v=>v.ld (.cell id off (ver off))
def gJ (m:M):wE->Bool
 | .anon id j=>m.tok id j
 | .priv id=>(m.hp id).isSome
 | .cell id off v=>m.ver id off == v && (match m.blk id with | some vs=>(match vs[off]? with | some (.list .self _)=>true | _=>false) | none=>false)
def fO (c:Conc) (id:Pa):Prop:=c.ρ id=none/\(∀i,c.κ (.anon id i)=none)/\(∀off v,c.κ (.cell id off v)=none)/\c.κ (.priv id)=none
theorem fO.anti {c c':Conc} (hl:Le c c') {id:Pa} (h:fO c' id):fO c id:=by
 refine ⟨?_,λi=>?_,λoff v=>?_,?_⟩
 ·cases hx:c.ρ id with
  | none=>rfl
  | some b=>have:=hl.ρ _ _ hx;rw [h.1] at this;cases this
 ·cases hx:c.κ (.anon id i) with
  | none=>rfl
  | some b=>have:=hl.κ _ _ hx;rw [h.2.1] at this;cases this
 ·cases hx:c.κ (.cell id off v) with
  | none=>rfl
  | some b=>have:=hl.κ _ _ hx;rw [h.2.2.1] at this;cases this
 ·cases hx:c.κ (.priv id) with
  | none=>rfl
  | some b=>have:=hl.κ _ _ hx;rw [h.2.2.2] at this;cases this
def fN (c:Conc) (m:M) (b:Nat):Prop:=(∃id,m.blk id ≠ none/\c.ρ id=some b) ∨ ∃s cap sz len,gJ m s=true/\c.κ s=some (.arr b cap sz len)
def Se (c:Conc) (w:World) (id:Pa) (vs:List V):Prop:=∃b n,c.κ (.priv id)=some (.arr b n 1 0)/\∃cs t,CY w b t cs/\vs.length<=cs.size/\CR c vs (cs.toList.take vs.length)/\∀u ∈ cs.toList,u.oneCell'=true
theorem Se.mono {c c':Conc} {w w':World} {id:Pa} {vs:List V} (h:Se c w id vs) (hl:Le c c') (hb:∀b n cs t,c.κ (.priv id)=some (.arr b n 1 0)->CY w b t cs->CY w' b t cs):Se c' w' id vs:=by
 obtain ⟨b,n,h1,cs,t,h2,h3,h4,h5⟩:=h;exact ⟨b,n,hl.κ _ _ h1,cs,t,hb b n cs t h1 h2,h3,h4.mono hl,h5⟩
structure gT (c:Conc) (m:M) (w:World):Prop where
 com:Km w c.G
 blk:∀id vs,m.blk id=some vs->∃b cs t,c.ρ id=some b/\CY w b t cs/\CR c (IL (m.ver id) id vs) cs.toList/\NI c.G b/\∀u ∈ cs.toList,u.oneCell'=true
 inj:∀id id' b,m.blk id ≠ none->m.blk id' ≠ none->c.ρ id=some b->c.ρ id'=some b->id=id'
 own:∀s b cap sz len,gJ m s=true->c.κ s=some (.arr b cap sz len)->(∃cs t,CY w b t cs/\cs.size=cap*sz)/\(∀o,len*sz<=o->c.G b o=none)/\(∀id,m.blk id ≠ none->c.ρ id ≠ some b)/\len<=cap/\0<sz
 ownInj:∀s s' b cap sz len cap' sz' len',gJ m s=true->gJ m s'=true->c.κ s=some (.arr b cap sz len)->c.κ s'=some (.arr b cap' sz' len')->s=s'
 ver:∀id off v,m.blk id ≠ none->m.ver id off<v->c.κ (.cell id off v)=none
 gl:∀g,CR c [m.gl g] [.pointer (some ⟨g,0,none⟩)]
 ver0:∀id,fO c id->(∀off,m.ver id off=0)/\∀j,m.tok id j=false
 base:c.base<=w.heap.size
 lit:∀b,c.lit b->c.base<=b/\b<w.heap.size/\¬ fN c m b
 hpr:∀id vs,m.hp id=some vs->Se c w id vs
def Af (c:Conc) (q:Pa):Prop:=∀id,q <:+ id->fO c id
def yH (c:Conc) (π:Pa) (k:Nat):Prop:=∀j,k<=j->Af c (j::π)
structure CZ (c:Conc) (m:M) (id:Pa):Prop where
 blk:m.blk id=none
 anon:∀i,c.κ (.anon id i)=none
 cell:∀off v,c.κ (.cell id off v)=none
 ver:∀off,m.ver id off=0
 tok:∀j,m.tok id j=false
structure qK (q:Pa) (c:Conc) (m:M) (w:World) (c':Conc) (m':M) (w':World):Prop where
 le:Le c c'
 os:w'.os=w.os
 tape:w'.tape=w.tape
 output:w'.output=w.output
 size:w.heap.size<=w'.heap.size
 heap:∀b,b<w.heap.size->¬ fN c m b->(b<c.base ∨ NI c.G b)->w'.heap[b]? = w.heap[b]?
 book:∀b,b<w.heap.size->¬ fN c m b->∀o,c'.G b o=c.G b o
 own:∀b,b<w.heap.size->fN c' m' b->fN c m b
 fresh:∀id,¬ q <:+ id->fO c id->fO c' id
 keep:∀id,¬ q <:+ id->CZ c m id->CZ c' m' id
 lits:∀b,b<w.heap.size->c'.lit b->c.lit b
theorem qK.refl (q:Pa) (c:Conc) (m:M) (w:World):qK q c m w c m w:=⟨.refl c,rfl,rfl,rfl,uZ _,λ_ _ _ _=>rfl,λ_ _ _ _=>rfl,λ_ _ h=>h,λ_ _ h=>h,λ_ _ h=>h,λ_ _ h=>h⟩
theorem qK.trans {q:Pa} {c c' c'':Conc} {m m' m'':M} {w w' w'':World} (h:qK q c m w c' m' w') (k:qK q c' m' w' c'' m'' w''):qK q c m w c'' m'' w'':=
 ⟨h.le.trans k.le,k.os.trans h.os,k.tape.trans h.tape,k.output.trans h.output,No h.size k.size,
  λb hb ho hx=>(k.heap b (YM hb h.size) (λx=>ho (h.own b hb x)) (hx.imp (λe=>by rw [h.le.base];exact e) (λe o=>(h.book b hb ho o).trans (e o)))).trans (h.heap b hb ho hx),
  λb hb ho o=>(k.book b (YM hb h.size) (λx=>ho (h.own b hb x)) o).trans (h.book b hb ho o),
  λb hb x=>h.own b hb (k.own b (YM hb h.size) x),λid gG x=>k.fresh id gG (h.fresh id gG x),λid gG x=>k.keep id gG (h.keep id gG x),λb hb x=>h.lits b hb (k.lits b (YM hb h.size) x)⟩
theorem qK.widen {q π:Pa} {c c':Conc} {m m':M} {w w':World} (h:qK q c m w c' m' w') (hs:∀id,q <:+ id->π <:+ id):qK π c m w c' m' w':=
 ⟨h.le,h.os,h.tape,h.output,h.size,h.heap,h.book,h.own,λid gG x=>h.fresh id (λy=>gG (hs id y)) x,λid gG x=>h.keep id (λy=>gG (hs id y)) x,h.lits⟩
theorem HE {π:Pa} {j:Nat} {id:Pa} (h:(j::π) <:+ id):π <:+ id:=(List.suffix_cons j π).trans h
theorem qK.up {π:Pa} {k:Nat} {c c':Conc} {m m':M} {w w':World} (h:qK (k::π) c m w c' m' w'):qK π c m w c' m' w':=h.widen λ_=>HE
theorem DJ {π:Pa} {j k:Nat} {id:Pa} (h:(j::π) <:+ id) (hne:j ≠ k):¬ (k::π) <:+ id:=by
 intro h2;obtain ⟨x,hx⟩:=h;obtain ⟨y,hy⟩:=h2
 have hl:(x++[j]).length=(y++[k]).length:=by
  have h1:=DI List.length hx;have h2:=DI List.length hy;simp at h1 h2 ⊢
  omega
 have he:x++[j]++π=y++[k]++π:=by simp [hx,hy]
 have:=(List.append_inj he hl).1;have:=(List.append_inj this (by simpa using hl)).2;simp at this
 exact hne this
theorem qK.freshK {π:Pa} {k:Nat} {c c':Conc} {m m':M} {w w':World} (h:qK (k::π) c m w c' m' w') (hf:yH c π k):yH c' π (k+1):=
 λj hj id gG=>h.fresh id (DJ gG zb) (hf j zb id gG)
theorem yH.le {c:Conc} {π:Pa} {k k':Nat} (h:yH c π k) (hk:k<=k'):yH c π k':=λj hj=>h j (No hk hj)
theorem yH.fW {c:Conc} {π:Pa} {k:Nat} (h:yH c π k):Af c (k::π):=h k (uZ _)
theorem Af.fW {c:Conc} {q:Pa} (h:Af c q):fO c q:=h q (Qq q)
theorem Af.sub {c:Conc} {q:Pa} (h:Af c q):yH c q 0:=λ_ _ id gG=>h id (HE gG)
section
variable {c:Conc} {m:M} {w:World}
theorem gT.fresh_blk (h:gT c m w) {q:Pa} (hf:fO c q):m.blk q=none:=by
 cases hb:m.blk q with
 | none=>rfl
 | some vs=>obtain ⟨b,cs,t,hr,_⟩:=h.blk q vs hb;rw [hf.1] at hr;cases hr
theorem gT.lt (h:gT c m w) {id:Pa} {b:Nat} (hb:m.blk id ≠ none) (hr:c.ρ id=some b):b<w.heap.size:=by
 obtain ⟨vs,hv⟩:∃vs,m.blk id=some vs:=by cases hx:m.blk id with | none=>exact cM hx hb | some vs=>exact ⟨vs,rfl⟩
 obtain ⟨b',cs,t,hr',hB,_⟩:=h.blk id vs hv;rw [hr] at hr';injection hr' with hr';subst hr'
 exact hB.lt
theorem gT.own_lt (h:gT c m w) {b:Nat} (ho:fN c m b):b<w.heap.size:=by
 rcases ho with ⟨id,hb,hr⟩ | ⟨s,cap,sz,len,hl,hk⟩
 ·exact h.lt hb hr
 ·obtain ⟨⟨cs,t,hB,_⟩,_⟩:=h.own s b cap sz len hl hk;exact hB.lt
theorem gT.priv_live {id:Pa} {vs:List V} (hv:m.hp id=some vs):gJ m (.priv id)=true:=by simp [gJ,hv]
theorem gT.priv_own {id:Pa} {vs:List V} (hv:m.hp id=some vs) {b n:Nat} (hk:c.κ (.priv id)=some (.arr b n 1 0)):fN c m b:=.inr ⟨.priv id,n,1,0,priv_live hv,hk⟩
theorem gT.priv_id (h:gT c m w) {id:Pa} {vs:List V} (hv:m.hp id=some vs) {b n:Nat} (hk:c.κ (.priv id)=some (.arr b n 1 0)) {id':Pa} (gG:m.blk id' ≠ none):c.ρ id' ≠ some b:=(h.own (.priv id) b n 1 0 (priv_live hv) hk).2.2.1 id' gG
theorem gT.priv_out (h:gT c m w) {id:Pa} {vs:List V} (hv:m.hp id=some vs) {b n:Nat} (hk:c.κ (.priv id)=some (.arr b n 1 0)):NI c.G b:=λo=>(h.own (.priv id) b n 1 0 (priv_live hv) hk).2.1 o zb
theorem gT.priv_arr (h:gT c m w) {id:Pa} {vs:List V} (hv:m.hp id=some vs) {b n:Nat} (hk:c.κ (.priv id)=some (.arr b n 1 0)) {s:wE} {cap sz len:Nat} (hl:gJ m s=true) (hs:c.κ s=some (.arr b cap sz len)):s=.priv id:=h.ownInj s (.priv id) b cap sz len _ _ _ hl (priv_live hv) hs hk
theorem gT.fresh_hp (h:gT c m w) {q:Pa} (hf:fO c q):m.hp q=none:=by
 cases hb:m.hp q with
 | none=>rfl
 | some vs=>obtain ⟨b,n,hk,_⟩:=h.hpr q vs hb;rw [hf.2.2.2] at hk;cases hk
theorem gT.drewN (h:gT c m w) (n:Nat):gT c m (w.drewN n):=⟨h.com.drewN n,h.blk,h.inj,h.own,h.ownInj,h.ver,h.gl,h.ver0,h.base,h.lit,h.hpr⟩
theorem qK.drewN (q:Pa) (c:Conc) (m:M) (w:World) (n:Nat):qK q c m w c m (w.drewN n):=⟨.refl c,rfl,rfl,rfl,uZ _,λ_ _ _ _=>rfl,λ_ _ _ _=>rfl,λ_ _ h=>h,λ_ _ h=>h,λ_ _ h=>h,λ_ _ h=>h⟩
theorem gT.grown (h:gT c m w) {w':World} (hg:w.grownBy w' none):gT c m w':=by
 refine ⟨h.com.grown hg QF,λid vs hv=>?_,h.inj,λs b cap sz len hl hk=>?_,h.ownInj,h.ver,h.gl,h.ver0,No h.base hg.size,λb hb=>⟨(h.lit b hb).1,YM (h.lit b hb).2.1 hg.size,(h.lit b hb).2.2⟩,λid vs hv=>(h.hpr id vs hv).mono (.refl c) λb n cs t _ hB=>hB.grown hg zd⟩
 ·obtain ⟨b,cs,t,hr,hB,h1,h2,h3⟩:=h.blk id vs hv;exact ⟨b,cs,t,hr,hB.grown hg zd,h1,h2,h3⟩
 ·obtain ⟨⟨cs,t,hB,hs⟩,h1⟩:=h.own s b cap sz len hl hk;exact ⟨⟨cs,t,hB.grown hg zd,hs⟩,h1⟩
theorem gT.ext_grown (q:Pa) (c:Conc) (m:M) {w w':World} (hg:w.grownBy w' none):qK q c m w c m w':=
 ⟨.refl c,hg.os,hg.tape,hg.output,hg.size,λb hb _ _=>hg.block b hb zd,λ_ _ _ _=>rfl,λ_ _ h=>h,λ_ _ h=>h,λ_ _ h=>h,λ_ _ h=>h⟩
def Conc.laid (c:Conc) (b:Nat) (cs:List Value):Conc:={ c with G:=OQ c.G b cs }
theorem Le.laid {b:Nat} {cs:List Value} (ho:NI c.G b):Le c (c.laid b cs):=⟨rfl,λ_ h=>h,λ_ _ h=>h,λ_ _ h=>h,(lay_ext (B:=b) (cs:=cs) ho (uZ _)).le⟩
theorem gT.laid (h:gT c m w) {b:Nat} {cs:List Value} (ho:NI c.G b) (hn:¬ fN c m b) (hc:∀i u,cs[i]? = some u->w.cell? ⟨b,i,none⟩=some u):gT (c.laid b cs) m w:=by
 have hl:=Le.laid (cs:=cs) ho;refine ⟨lay_com h.com hc,λid vs hv=>?_,h.inj,λs b' cap sz len hlv hk=>?_,h.ownInj,h.ver,λg=>(h.gl g).mono hl,λid hf=>h.ver0 id (hf.anti hl),h.base,h.lit,λid vs hv=>(h.hpr id vs hv).mono hl λ_ _ _ _ _ hB=>hB⟩
 ·obtain ⟨b',xs,t,hr,hB,h1,h2,h3⟩:=h.blk id vs hv;refine ⟨b',xs,t,hr,hB,h1.mono hl,lay_out h2 (λe=>hn (.inl ⟨id,by rw [hv];simp,by rw [←e];exact hr⟩)),h3⟩
 ·obtain ⟨h1,h2,h3⟩:=h.own s b' cap sz len hlv hk;refine ⟨h1,λo hob=>?_,h3⟩;have hne:b' ≠ b:=λe=>hn (.inr ⟨s,cap,sz,len,hlv,by rw [←e];exact hk⟩);show OQ c.G b cs b' o=none;unfold OQ;rw [cE hne];exact h2 o hob
theorem gT.ext_laid (h:gT c m w) (q:Pa) {B b:Nat} {cs:List Value} (hB:w.heap.size<=B) (hb:B<=b) (w':World) (hg:w.grownBy w' none):qK q c m w (c.laid b cs) m w':=by
 have ho:NI c.G b:=h.com.out (No hB hb);refine ⟨Le.laid ho,hg.os,hg.tape,hg.output,hg.size,λb' hb' _ _=>hg.block b' hb' zd,λb' hb' _ o=>?_,λ_ _ h=>h,λ_ _ h=>h,λ_ _ h=>⟨h.blk,h.anon,h.cell,h.ver,h.tok⟩,λ_ _ h=>h⟩;show OQ c.G b cs b' o=c.G b' o;unfold OQ;rw [cE zb]
end
def M.set (m:M) (id:Pa) (vs:List V):M:={ m with blk:=λi=>if i=id then some vs else m.blk i }
def M.bump (m:M) (id:Pa) (off:Nat):M:={ m with ver:=λi o=>if i=id/\o=off then m.ver i o+1 else m.ver i o }
def M.tokset (m:M) (id:Pa) (j:Nat) (b:Bool):M:={ m with tok:=λi k=>if i=id/\k=j then b else m.tok i k }
def V.raw0:V->V
 | .list .exact rows=>.list .self rows
 | .list (.st _) []=>.list .self []
 | .list _ rows=>.list .none rows
 | .nilv=>.list .self []
 | v=>v
section
variable {c c':Conc} {m:M} {w w':World}
theorem V.raw0_one {v:V} {x:Value} (hl:Le c c') {s:wE} (hk:c'.κ s=some .full) (h:CR c [v] [x]):CR c' [v.raw0.ld s] [x]:=by
 have h':=h.mono hl;cases v with
 | list o rows=>
   obtain ⟨a,cap,es,sz,rfl,h1,h2,hz,h3,h4,h5,h6,hc,h7⟩:=h'.inv_list;cases o with
   | none=>exact .list h1 h2 hz h3 h4 h5 h6 hc trivial .nil
   | exact=>exact .list h1 h2 hz h3 h4 h5 h6 hc (.inl ⟨hk,h7.1⟩) .nil
   | self=>exact h7.elim
   | st s'=>
     cases rows with
     | nil=>
       have hc0:cap=0:=by
        rcases h7 with ⟨_,h⟩ | ⟨b,_,_,h⟩
        ·exact h
        ·simp at h
       subst hc0;exact .list h1 h2 hz h3 h4 h5 h6 hc (.inl ⟨hk,rfl⟩) .nil
     | cons r rows=>exact .list h1 h2 hz h3 h4 h5 h6 hc trivial .nil
 | nilv=>
   obtain ⟨a,rfl⟩:=h'.inv_nilv;exact .list (rows:=[]) (es:=[]) (sz:=1) .nil zd zc (uZ _) zc zd (λh=>by simp at h) zd (.inl ⟨hk,rfl⟩) .nil
 | _=>simpa [V.raw0,V.ld] using h'
theorem TA {vs:List V} {cs:List Value} (hl:Le c c') (h:CR c vs cs) {f:Nat->wE} (hk:∀n,c'.κ (f n)=some .full):CR c' ((vs.map V.raw0).mapIdx λoff v=>v.ld (f off)) cs:=by
 induction vs generalizing cs f with
 | nil=>rw [h.inv_nil];exact .nil
 | cons v vs ih=>
   obtain ⟨x,xs,rfl,h1,h2⟩:=h.uncons;rw [yV,List.mapIdx_cons];exact (V.raw0_one hl (hk 0) h1).cons (ih h2 (f:=λn=>f (n+1)) (λn=>hk (n+1)))
theorem vH {id:Pa} {off v:Nat} (h:gJ m (.cell id off v)=true):m.ver id off=v/\∃vs rows,m.blk id=some vs/\vs[off]? = some (.list .self rows):=by
 simp only [gJ,Su,beq_iff_eq] at h;refine ⟨h.1,?_⟩;have h2:=h.2
 split at h2
 ·rename_i vs hv
  split at h2
  ·rename_i rows hr;exact ⟨vs,rows,hv,hr⟩
  ·cases h2
 ·cases h2
theorem vD {id:Pa} {off v:Nat} {vs:List V} {rows:List (List V)} (h1:m.ver id off=v) (h2:m.blk id=some vs) (h3:vs[off]? = some (.list .self rows)):gJ m (.cell id off v)=true:=by
 simp [gJ,h1,h2,h3]
def Conc.new (c:Conc) (q:Pa) (b:Nat):Conc:=
 { c with ρ:=λid=>if id=q then some b else c.ρ id,κ:=λs=>match s with | .cell id off v=>if id=q then some .full else c.κ (.cell id off v) | s=>c.κ s }
theorem gT.new (h:gT c m w) {q:Pa} (hf:fO c q) {vs:List V} {cs:List Value} (hc:CR c vs cs) (h1:∀u ∈ cs,u.oneCell'=true) (t:TypeId) :
  gT { c.new q w.heap.size with κ:=λs=>match s with | .cell id off v=>if id=q/\v=0 then some .full else c.κ (.cell id off v) | s=>c.κ s } (m.set q (vs.map V.raw0)) (w.alloc (.cells cs.toArray t)) ∧
  qK q c m w { c.new q w.heap.size with κ:=λs=>match s with | .cell id off v=>if id=q/\v=0 then some .full else c.κ (.cell id off v) | s=>c.κ s } (m.set q (vs.map V.raw0)) (w.alloc (.cells cs.toArray t)):=by
 have hv0:=(h.ver0 q hf).1;obtain ⟨c',hc'⟩:∃c':Conc,c'={ c.new q w.heap.size with κ:=λs=>match s with | .cell id off v=>if id=q/\v=0 then some .full else c.κ (.cell id off v) | s=>c.κ s }:=⟨_,rfl⟩;rw [←hc'];have hρ:∀id,c'.ρ id=if id=q then some w.heap.size else c.ρ id:=by intro id;rw [hc'];rfl
 have hκa:∀id j,c'.κ (.anon id j)=c.κ (.anon id j):=by intro id j;rw [hc']
 have hκp:∀b,c'.κ (.priv b)=c.κ (.priv b):=by intro b;rw [hc']
 have hκc:∀id off v,c'.κ (.cell id off v)=if id=q/\v=0 then some .full else c.κ (.cell id off v):=by intro id off v;rw [hc']
 have hG:c'.G=c.G:=by rw [hc'];rfl
 have hbase:c'.base=c.base:=by rw [hc'];rfl
 have hlit:c'.lit=c.lit:=by rw [hc'];rfl
 clear hc'
 have hle:Le c c':=by
  refine ⟨hbase,λb h=>by rw [hlit];exact h,λid b h=>?_,λs i h=>?_,λb o v h=>by rw [hG];exact h⟩
  ·rw [hρ];split
   ·rename_i e;subst e;rw [hf.1] at h;cases h
   ·exact h
  ·cases s with
   | anon id j=>rw [hκa];exact h
   | priv b=>rw [hκp];exact h
   | cell id off v=>
     rw [hκc];split
     ·rename_i e;obtain ⟨rfl,_⟩:=e;rw [hf.2.2.1] at h;cases h
     ·exact h
 have hnb:=h.fresh_blk hf;have hgr:w.grownBy (w.alloc (.cells cs.toArray t)) none:=ME (KH w none) _;have hcom:Km (w.alloc (.cells cs.toArray t)) c'.G:=by rw [hG];exact h.com.alloc _
 have hset:∀id,(m.set q (vs.map V.raw0)).blk id=if id=q then some (vs.map V.raw0) else m.blk id:=λid=>rfl
 have harr:∀s b cap sz len,c'.κ s=some (.arr b cap sz len)->c.κ s=some (.arr b cap sz len):=by
  intro s b cap sz len hk;cases s with
  | anon id j=>rw [hκa] at hk;exact hk
  | priv b=>rw [hκp] at hk;exact hk
  | cell id off v=>
    rw [hκc] at hk
    split at hk
    ·cases hk
    ·exact hk
 have hlive:∀s b cap sz len,gJ (m.set q (vs.map V.raw0)) s=true->c.κ s=some (.arr b cap sz len)->gJ m s=true:=by
  intro s b cap sz len hl hk;cases s with
  | anon id j=>exact hl
  | priv b=>exact hl
  | cell id off v=>
    obtain ⟨h1,xs,rows,h2,h3⟩:=vH hl;rw [hset] at h2
    split at h2
    ·rename_i e;subst e;rw [hf.2.2.1] at hk;cases hk
    ·exact vD h1 h2 h3
 have hown:∀b,b<w.heap.size->fN c' (m.set q (vs.map V.raw0)) b->fN c m b:=by
  intro b hb ho
  rcases ho with ⟨id,gG,hr⟩ | ⟨s,cap,sz,len,hl,hk⟩
  ·rw [hset] at gG;rw [hρ] at hr
   split at hr
   ·injection hr with hr;omega
   ·rename_i e;rw [cE e] at gG;exact .inl ⟨id,gG,hr⟩
  ·have k1:=harr _ _ _ _ _ hk;exact .inr ⟨s,cap,sz,len,hlive _ _ _ _ _ hl k1,k1⟩
 refine ⟨⟨hcom,λid xs hx=>?_,λid id' b hb hb' hr hr'=>?_,λs b cap sz len hl hk=>?_,λs s' b cap sz len cap' sz' len' hl hl' hk hk'=>?_,λid off v hb hv=>?_,λg=>(h.gl g).mono hle,λid hfr=>h.ver0 id (hfr.anti hle),by rw [hbase];exact No h.base hgr.size,λb hb=>by
  rw [hlit] at hb;rw [hbase]
  obtain ⟨l1,l2,l3⟩:=h.lit b hb;exact ⟨l1,YM l2 hgr.size,λho=>l3 (hown b l2 ho)⟩,λb xs hx=>?_⟩,?_⟩
 ·rw [hset] at hx
  split at hx
  ·rename_i e;subst e
   injection hx with hx
   subst hx;refine ⟨w.heap.size,cs.toArray,t,by rw [hρ,cX rfl],CY.new _ _ _,?_,by rw [hG];exact h.com.out (uZ _),by simpa using h1⟩;exact TA hle hc (λn=>by rw [hκc,cX ⟨rfl,hv0 n⟩])
  ·rename_i e;obtain ⟨b,ys,t',hr,hB,k1,k2,k3⟩:=h.blk id xs hx;exact ⟨b,ys,t',by rw [hρ,cE e];exact hr,hB.alloc _,k1.mono hle,by rw [hG];exact k2,k3⟩
 ·rw [hset] at hb hb';rw [hρ] at hr hr'
  by_cases e1:id=q <;> by_cases e2:id'=q
  ·rw [e1,e2]
  ·rw [cX e1] at hr;rw [cE e2] at hr' hb'
   injection hr with hr;have:=h.lt hb' hr';omega
  ·rw [cE e1] at hr hb;rw [cX e2] at hr'
   injection hr' with hr';have:=h.lt hb hr;omega
  ·rw [cE e1] at hr hb;rw [cE e2] at hr' hb'
   exact h.inj id id' b hb hb' hr hr'
 ·have hk0:=harr _ _ _ _ _ hk;obtain ⟨⟨xs,t',hB,hs⟩,k1,k2,k3⟩:=h.own s b cap sz len (hlive _ _ _ _ _ hl hk0) hk0;refine ⟨⟨xs,t',hB.alloc _,hs⟩,by rw [hG];exact k1,λid gG hr=>?_,k3⟩;rw [hset] at gG;rw [hρ] at hr
  split at hr
  ·injection hr with hr;have:=hB.lt;omega
  ·rename_i e;rw [cE e] at gG;exact k2 id gG hr
 ·have k1:=harr _ _ _ _ _ hk;have k2:=harr _ _ _ _ _ hk';exact h.ownInj s s' b cap sz len cap' sz' len' (hlive _ _ _ _ _ hl k1) (hlive _ _ _ _ _ hl' k2) k1 k2
 ·rw [hκc];have hv':m.ver id off<v:=hv;rw [cE (by rintro ⟨_,rfl⟩;omega)];rw [hset] at hb
  by_cases e:id=q
  ·rw [e];exact hf.2.2.1 off v
  ·rw [cE e] at hb;exact h.ver id off v hb hv'
 ·exact (h.hpr b xs hx).mono hle λ_ _ _ _ _ hB=>hB.alloc _
 ·refine ⟨hle,rfl,rfl,rfl,hgr.size,λb hb _ _=>hgr.block b hb zd,λb _ _ o=>by rw [hG],λb hb ho=>?_,λid gG hfr=>?_,λid gG IV=>?_,λb _ hb=>by rw [hlit] at hb;exact hb⟩
  ·exact hown b hb ho
  ·have hne:id ≠ q:=by rintro rfl;exact gG (Qq _)
   exact ⟨by rw [hρ,cE hne];exact hfr.1,λi=>by rw [hκa];exact hfr.2.1 i,λoff v=>by rw [hκc,cE (by rintro ⟨e,_⟩;exact hne e)];exact hfr.2.2.1 off v,by rw [hκp];exact hfr.2.2.2⟩
  ·have hne:id ≠ q:=by rintro rfl;exact gG (Qq _)
   exact ⟨by rw [hset,cE hne];exact IV.blk,λi=>by rw [hκa];exact IV.anon i,λoff v=>by rw [hκc,cE (by rintro ⟨e,_⟩;exact hne e)];exact IV.cell off v,IV.ver,IV.tok⟩
end
section
variable {c c':Conc} {m m':M} {w w':World}
theorem lds_get {f:Nat->Nat} {id:Pa} {vs:List V} {off:Nat} {v:V} (h:vs[off]? = some v):(IL f id vs)[off]? = some (v.ld (.cell id off (f off))):=by
 simp [IL,YL,h]
theorem OO {f:Nat->Nat} {id:Pa} {vs:List V}:(IL f id vs).length=vs.length:=by simp [IL]
theorem RJ {f:Nat->Nat} {id:Pa} {vs:List V} {off:Nat} {v:V}:IL f id (vs.set off v)=(IL f id vs).set off (v.ld (.cell id off (f off))):=by
 apply Yz;intro i
 by_cases h:i=off
 ·subst h
  by_cases hl:i<vs.length
  ·simp [IL,hl]
  ·simp [IL,hl]
 ·have h':¬ off=i:=λe=>h e.symm;simp [IL,YL,h']
theorem gT.block (h:gT c m w) {q id:Pa} {b:Nat} {t:TypeId} {cs cs':Array Value} {vs vs':List V} (hv:m.blk id=some vs) (hr:c.ρ id=some b) (hB:CY w b t cs) (hB':CY w' b t cs') (hg:w.grownBy w' (some b))
  (hblk:∀i,m'.blk i=if i=id then some vs' else m.blk i) (hgl:m'.gl=m.gl) (hle:Le c c') (hρ:c'.ρ=c.ρ) (hG:c'.G=c.G) (hlit:c'.lit=c.lit) (hcr:CR c' (IL (m'.ver id) id vs') cs'.toList) (hone:∀u ∈ cs'.toList,u.oneCell'=true)
  (hother:∀i,i ≠ id->m'.ver i=m.ver i)
  (hown:∀s b cap sz len,gJ m' s=true->c'.κ s=some (.arr b cap sz len)->∃s0,gJ m s0=true/\c.κ s0=some (.arr b cap sz len))
  (hinj:∀s s' b cap sz len cap' sz' len',gJ m' s=true->gJ m' s'=true->c'.κ s=some (.arr b cap sz len)->c'.κ s'=some (.arr b cap' sz' len')->s=s')
  (hver:∀i off v,m'.blk i ≠ none->m'.ver i off<v->c'.κ (.cell i off v)=none) (htok:∀i j,m'.tok i j=true->m.tok i j=true) (hfresh:∀i,i ≠ id->(∀j,c'.κ (.anon i j)=c.κ (.anon i j))/\(∀o v,c'.κ (.cell i o v)=c.κ (.cell i o v))/\c'.κ (.priv i)=c.κ (.priv i)) (hhp:m'.hp=m.hp:=by rfl) :
  gT c' m' w'/\qK q c m w c' m' w':=by
 have hOut:NI c.G b:=by obtain ⟨b',_,_,hr',_,_,h2,_⟩:=h.blk id vs hv;rw [hr] at hr';injection hr' with e;subst e;exact h2
 have hbl:m.blk id ≠ none:=by rw [hv];simp
 have hwas:∀i,m'.blk i ≠ none->m.blk i ≠ none:=by
  intro i hi;rw [hblk] at hi
  split at hi
  ·rename_i e;rw [e];exact hbl
  ·exact hi
 have hownd:∀b',fN c' m' b'->fN c m b':=by
  intro b' ho
  rcases ho with ⟨i,hi,hr'⟩ | ⟨s,cap,sz,len,hl,hk⟩
  ·rw [hρ] at hr';exact .inl ⟨i,hwas i hi,hr'⟩
  ·obtain ⟨s0,hl0,hk0⟩:=hown s b' cap sz len hl hk;exact .inr ⟨s0,cap,sz,len,hl0,hk0⟩
 refine ⟨⟨by rw [hG];exact h.com.grown hg (Tq hOut),λi xs hx=>?_,λi i' b' hi hi' hr1 hr2=>?_,λs b' cap sz len hl hk=>?_,hinj,hver,λg=>by rw [hgl];exact (h.gl g).mono hle,λi hf=>?_,by rw [hle.base];exact No h.base hg.size,λb' hb=>by
  rw [hlit] at hb;rw [hle.base]
  obtain ⟨l1,l2,l3⟩:=h.lit b' hb;exact ⟨l1,YM l2 hg.size,λho=>l3 (hownd b' ho)⟩,λb' xs hx=>?_⟩,?_⟩
 ·rw [hblk] at hx
  split at hx
  ·rename_i e;subst e
   injection hx with hx
   subst hx;exact ⟨b,cs',t,by rw [hρ];exact hr,hB',hcr,by rw [hG];exact hOut,hone⟩
  ·rename_i e;obtain ⟨b',ys,t',hr',hB2,k1,k2,k3⟩:=h.blk i xs hx;have hne:b' ≠ b:=λe2=>e (h.inj i id b (by rw [hx];simp) hbl (by rw [←e2];exact hr') hr);refine ⟨b',ys,t',by rw [hρ];exact hr',hB2.grown hg (by simpa using hne),?_,by rw [hG];exact k2,k3⟩;rw [hother i e];exact k1.mono hle
 ·rw [hρ] at hr1 hr2;exact h.inj i i' b' (hwas i hi) (hwas i' hi') hr1 hr2
 ·obtain ⟨s0,hl0,hk0⟩:=hown s b' cap sz len hl hk;obtain ⟨⟨ys,t',hB2,hs⟩,k1,k2,k3⟩:=h.own s0 b' cap sz len hl0 hk0;have hne:b' ≠ b:=λe2=>k2 id hbl (by rw [e2];exact hr);exact ⟨⟨ys,t',hB2.grown hg (by simpa using hne),hs⟩,by rw [hG];exact k1,λi hi=>by rw [hρ];exact k2 i (hwas i hi),k3⟩
 ·have hf0:=hf.anti hle;have hne:i ≠ id:=by rintro rfl;rw [hf0.1] at hr;cases hr
  refine ⟨λoff=>by rw [hother i hne];exact (h.ver0 i hf0).1 off,λj=>?_⟩;cases hx:m'.tok i j with
  | false=>rfl
  | true=>have:=htok i j hx;rw [(h.ver0 i hf0).2 j] at this;cases this
 ·rw [hhp] at hx;exact (h.hpr b' xs hx).mono hle λb2 n cs t hk hB2=>hB2.grown hg (λe=>h.priv_id hx hk hbl (by rw [hr,e]))
 ·refine ⟨hle,hg.os,hg.tape,hg.output,hg.size,λb' hb' ho _=>hg.block b' hb' (λe=>ho (by injection e with e;subst e;exact .inl ⟨id,hbl,hr⟩)),λb' _ _ o=>by rw [hG],λb' hb' ho=>hownd b' ho,λi _ hf=>?_,λi _ hf=>?_,λb' _ hb'=>by rw [hlit] at hb';exact hb'⟩
  ·have hne:i ≠ id:=by rintro rfl;rw [hf.1] at hr;cases hr
   exact ⟨by rw [hρ];exact hf.1,λj=>by rw [(hfresh i hne).1];exact hf.2.1 j,λo v=>by rw [(hfresh i hne).2.1];exact hf.2.2.1 o v,by rw [(hfresh i hne).2.2];exact hf.2.2.2⟩
  ·have hne:i ≠ id:=by rintro rfl;rw [hf.blk] at hv;cases hv
   refine ⟨by rw [hblk,cE hne];exact hf.blk,λj=>by rw [(hfresh i hne).1];exact hf.anon j,λo v=>by rw [(hfresh i hne).2.1];exact hf.cell o v,λoff=>by rw [hother i hne];exact hf.ver off,λj=>?_⟩;cases hx:m'.tok i j with
   | false=>rfl
   | true=>have:=htok i j hx;rw [hf.tok j] at this;cases this
def V.isSelf:V->Bool
 | .list .self _=>true
 | _=>false
theorem V.ld_of {v:V} (h:v.isSelf=false) (s:wE):v.ld s=v:=by
 cases v with
 | list o rows=>cases o <;> first | rfl | cases h
 | _=>rfl
theorem gT.plain (h:gT c m w) {q id:Pa} {b:Nat} {t:TypeId} {cs cs':Array Value} {vs vs':List V} (hv:m.blk id=some vs) (hr:c.ρ id=some b) (hB:CY w b t cs) (hB':CY w' b t cs') (hg:w.grownBy w' (some b))
  (hcr:CR c (IL (m.ver id) id vs') cs'.toList) (hone:∀u ∈ cs'.toList,u.oneCell'=true) (hself:∀(off:Nat) (rows:List (List V)),vs'[off]? = some (V.list .self rows)->∃rows,vs[off]? = some (V.list .self rows)) :
  gT c (m.set id vs') w'/\qK q c m w c (m.set id vs') w':=by
 have hlive:∀s,gJ (m.set id vs') s=true->gJ m s=true:=by
  intro s hl;cases s with
  | anon i j=>exact hl
  | priv b=>exact hl
  | cell i off v=>
    obtain ⟨h1,xs,rows,h2,h3⟩:=vH hl;have h2':(if i=id then some vs' else m.blk i)=some xs:=h2
    split at h2'
    ·rename_i e;subst e
     injection h2' with h2'
     subst h2';obtain ⟨rows',h4⟩:=hself off rows h3;exact vD h1 hv h4
    ·exact vD h1 h2' h3
 exact h.block hv hr hB hB' hg (λi=>rfl) rfl (.refl c) rfl rfl rfl hcr hone (λ_ _=>rfl) (λs b cap sz len hl hk=>⟨s,hlive s hl,hk⟩)
  (λs s' b cap sz len cap' sz' len' hl hl' hk hk'=>h.ownInj s s' b cap sz len cap' sz' len' (hlive s hl) (hlive s' hl') hk hk') (λi off v hb=>h.ver i off v (by
    have hb':(if i=id then some vs' else m.blk i) ≠ none:=hb
    by_cases e:i=id
    ·rw [e,hv];simp
    ·rw [cE e] at hb';exact hb')) (λ_ _ x=>x) (λ_ _=>⟨λ_=>rfl,λ_ _=>rfl,rfl⟩)
def M.kill (m:M):NV->M
 | .st (.anon i j)=>m.tokset i j false
 | _=>m
def GH (m:M) (o:NV) (_:List (List V)):Bool:=
 match o with
 | .exact=>true
 | .st (.anon i j)=>m.tok i j
 | _=>false
def M.st1 (m:M) (id:Pa) (vs:List V) (off:Nat):V->M
 | .list o rows=>if GH m o rows then ((m.kill o).set id (vs.set off (.list .self rows))).bump id off else m.set id (vs.set off (.list .none rows))
 | v=>m.set id (vs.set off v)
theorem gT.st1 (h:gT c m w) (q:Pa) {id:Pa} {vs:List V} {off:Nat} {v:V} {x:Value} (hv:m.blk id=some vs) (hoff:off<vs.length) (hx:CR c [v] [x]) (hone:x.oneCell'=true) :
  ∃b,c.ρ id=some b/\off<(match w.heap[b]? with | some (.cells cs _ _)=>cs.size | _=>0)/\w.frozen? ⟨b,off,none⟩=false ∧
   ∃c',gT c' (m.st1 id vs off v) (w.setCell ⟨b,off,none⟩ x)/\qK q c m w c' (m.st1 id vs off v) (w.setCell ⟨b,off,none⟩ x):=by
 obtain ⟨b,cs,t,hr,hB,hcs,hO,hcone⟩:=h.blk id vs hv;have hsz:cs.size=vs.length:=by have:=hcs.len;simpa [OO] using this
 refine ⟨b,hr,by unfold CY at hB;rw [hB];simpa [hsz] using hoff,hB.frozen off,?_⟩;have hB':=hB.set_ off x;have hg:=gset (KH w (some b)) b off x (.inl rfl)
 have hone':∀u ∈ (cs.setIfInBounds off x).toList,u.oneCell'=true:=by
  intro u hu;rw [xei] at hu
  rcases YK hu with hu | rfl
  ·exact hcone u hu
  ·exact hone
 have plain:∀u:V,u.isSelf=false->CR c [u] [x]->∃c',gT c' (m.set id (vs.set off u)) (w.setCell ⟨b,off,none⟩ x)/\qK q c m w c' (m.set id (vs.set off u)) (w.setCell ⟨b,off,none⟩ x):=by
  intro u hu hux;refine ⟨c,h.plain hv hr hB hB' hg ?_ hone' ?_⟩
  ·rw [RJ,V.ld_of hu,xei];exact hcs.set off hux
  ·intro off' rows h2
   by_cases e:off=off'
   ·subst e;rw [VI hoff] at h2
    injection h2 with h2;rw [h2] at hu;cases hu
   ·rw [Uv e] at h2;exact ⟨rows,h2⟩
 cases v with
 | list o rows=>
   by_cases hs:GH m o rows=true
   ·simp only [M.st1,hs,if_true];obtain ⟨a,cap,es,sz,rfl,k1,k2,kz,k3,k4,k5,k6,kc,k7⟩:=hx.inv_list
    -- what the cell's new stamp says
    obtain ⟨info,hinfo,hwhat⟩:∃info:Sg,(∀c':Conc,c'.κ (.cell id off (m.ver id off+1))=some info->QY c' (.st (.cell id off (m.ver id off+1))) rows.length sz a cap) ∧
      (info=.full ∨ ∃i j b',o=.st (.anon i j)/\m.tok i j=true/\info=.arr b' cap sz rows.length/\c.κ (.anon i j)=some info):=by
     cases o with
     | none=>cases hs
     | self=>cases hs
     | exact=>exact ⟨.full,λc' hc'=>.inl ⟨hc',k7.1⟩,.inl rfl⟩
     | st s=>
       rcases k7 with ⟨h1,h2⟩ | ⟨b',h1,h2,h3⟩
       ·exact ⟨.full,λc' hc'=>.inl ⟨hc',h2⟩,.inl rfl⟩
       ·cases s with
        | cell i o' v'=>cases hs
        | priv b=>cases hs
        | anon i j=>
          have htok:m.tok i j=true:=hs;exact ⟨.arr b' cap sz rows.length,λc' hc'=>.inr ⟨b',hc',h2,h3⟩,.inr ⟨i,j,b',rfl,htok,rfl,h1⟩⟩
    have hnone:c.κ (.cell id off (m.ver id off+1))=none:=h.ver id off _ (by rw [hv];simp) zb;obtain ⟨c',hc'⟩:∃c':Conc,c'={ c with κ:=λs=>if s=.cell id off (m.ver id off+1) then some info else c.κ s }:=⟨_,rfl⟩;have hκ:∀s,c'.κ s=if s=.cell id off (m.ver id off+1) then some info else c.κ s:=by intro s;rw [hc']
    have hρ:c'.ρ=c.ρ:=by rw [hc']
    have hG:c'.G=c.G:=by rw [hc']
    have hlit:c'.lit=c.lit:=by rw [hc']
    have hle:Le c c':=⟨by rw [hc'],λb h=>by rw [hlit];exact h,λi b h=>by rw [hρ];exact h,λs i hk=>by
     rw [hκ];split
     ·rename_i e;rw [e,hnone] at hk;cases hk
     ·exact hk,λb o v h=>by rw [hG];exact h⟩
    clear hc';have hkb:∀i,(m.kill o).blk i=m.blk i:=by intro i;cases o with | st s=>cases s <;> rfl | _=>rfl
    have hkv:∀i,(m.kill o).ver i=m.ver i:=by intro i;cases o with | st s=>cases s <;> rfl | _=>rfl
    have hkt:∀i j,(m.kill o).tok i j=true->m.tok i j=true:=by
     intro i j ht;cases o with
     | st s=>
       cases s with
       | anon i' j'=>
         have ht':(if i=i'/\j=j' then false else m.tok i j)=true:=ht
         split at ht'
         ·cases ht'
         ·exact ht'
       | cell _ _ _=>exact ht
       | priv _=>exact ht
     | _=>exact ht
    have hkp:(m.kill o).hp=m.hp:=by cases o with | st s=>cases s <;> rfl | _=>rfl
    have hkg:(m.kill o).gl=m.gl:=by cases o with | st s=>cases s <;> rfl | _=>rfl
    refine ⟨c',?_⟩
    -- what lives in the new memory lived in the old one, or is the cell's own
    have hlive:∀s,gJ (((m.kill o).set id (vs.set off (.list .self rows))).bump id off) s=true->s ≠ .cell id off (m.ver id off+1)->gJ m s=true/\∀i j,o=.st (.anon i j)->s ≠ .anon i j:=by
     intro s hl hne;cases s with
     | anon i j=>
       have hl':(m.kill o).tok i j=true:=hl;refine ⟨hkt i j hl',λi' j' ho e=>?_⟩
       injection e with e1 e2
       subst e1 e2 ho;have:(if i=i/\j=j then false else m.tok i j)=true:=hl';simp at this
     | priv b=>
       refine ⟨?_,λi j _ e=>by cases e⟩;have hl':((m.kill o).hp b).isSome=true:=hl;rw [hkp] at hl';exact hl'
     | cell i off' v'=>
       refine ⟨?_,λi j _ e=>by cases e⟩;obtain ⟨h1,xs,rows',h2,h3⟩:=vH hl;have h1':(if i=id/\off'=off then (m.kill o).ver i off'+1 else (m.kill o).ver i off')=v':=h1;rw [hkv] at h1';have h2':(if i=id then some (vs.set off (.list .self rows)) else (m.kill o).blk i)=some xs:=h2
       by_cases e:i=id
       ·subst e;rw [cX rfl] at h2'
        injection h2' with h2'
        subst h2'
        by_cases e2:off'=off
        ·subst e2;rw [cX ⟨rfl,rfl⟩] at h1';exact cM (by rw [h1']) hne
        ·rw [cE (by rintro ⟨_,e3⟩;exact e2 e3)] at h1';rw [Uu,cE (λe3=>e2 e3.symm)] at h3;exact vD h1' hv h3
       ·rw [cE (by rintro ⟨e3,_⟩;exact e e3)] at h1';rw [cE e,hkb] at h2';exact vD h1' h2' h3
    have harr:∀s b cap sz len,s ≠ .cell id off (m.ver id off+1)->c'.κ s=some (.arr b cap sz len)->c.κ s=some (.arr b cap sz len):=by
     intro s b cap sz len hne hk;rw [hκ,cE hne] at hk;exact hk
    refine h.block (vs':=vs.set off (.list .self rows)) hv hr hB hB' hg (λi=>?_) hkg hle hρ hG hlit ?_ hone' (λi hi=>?_) (λs b'' cap'' sz'' len'' hl hk=>?_) (λs s' b'' cap1 sz1 len1 cap2 sz2 len2 hl hl' hk hk'=>?_) (λi off' v' hbi hv'=>?_) (λi j ht=>hkt i j ht) (λi hf=>?_) (hhp:=hkp)
    ·show (if i=id then some _ else (m.kill o).blk i)=_;rw [hkb]
    ·have hvf:(((m.kill o).set id (vs.set off (.list .self rows))).bump id off).ver id=λo'=>if o'=off then m.ver id o'+1 else m.ver id o':=by
      funext o'
      show (if id=id/\o'=off then (m.kill o).ver id o'+1 else (m.kill o).ver id o')=_;rw [hkv];simp
     rw [hvf,RJ,xei]
     have e1:IL (λo'=>if o'=off then m.ver id o'+1 else m.ver id o') id vs=(IL (m.ver id) id vs).set off ((vs[off]).ld (.cell id off (m.ver id off+1))):=by
      apply Yz;intro i
      by_cases hi:i=off
      ·subst hi;simp [IL,hoff]
      ·have hi':¬ off=i:=λe=>hi e.symm;simp [IL,YL,hi,hi']
     rw [e1,List.set_set,cX rfl];refine (hcs.mono hle).set off ?_;have k1':=k1.mono hle;exact .list k1' k2 kz k3 k4 k5 (k6.mono hle.G) kc (hinfo c' (by rw [hκ,cX rfl])) .nil
    ·funext o'
     show (if i=id/\o'=off then (m.kill o).ver i o'+1 else (m.kill o).ver i o')=m.ver i o';rw [cE (by rintro ⟨e,_⟩;exact hi e),hkv]
    ·by_cases hne:s=.cell id off (m.ver id off+1)
     ·rw [hκ,cX hne] at hk
      rcases hwhat with rfl | ⟨i,j,b',ho,ht,rfl,hk0⟩
      ·cases hk
      ·injection hk with hk;injection hk with e1 e2 e3 e4;subst e1 e2 e3 e4
       exact ⟨.anon i j,ht,hk0⟩
     ·exact ⟨s,(hlive s hl hne).1,harr _ _ _ _ _ hne hk⟩
    ·-- no two owners
     by_cases hne:s=.cell id off (m.ver id off+1) <;> by_cases hne':s'=.cell id off (m.ver id off+1)
     ·rw [hne,hne']
     ·exfalso
      rw [hκ,cX hne] at hk;have k0':=harr _ _ _ _ _ hne' hk'
      rcases hwhat with rfl | ⟨i,j,b',ho,ht,rfl,hk0⟩
      ·cases hk
      ·injection hk with hk;injection hk with e1 e2 e3 e4;subst e1
       have:=h.ownInj (.anon i j) s' _ _ _ _ _ _ _ ht (hlive s' hl' hne').1 hk0 k0';exact (hlive s' hl' hne').2 i j ho this.symm
     ·exfalso
      rw [hκ,cX hne'] at hk';have k0:=harr _ _ _ _ _ hne hk
      rcases hwhat with rfl | ⟨i,j,b',ho,ht,rfl,hk0⟩
      ·cases hk'
      ·injection hk' with hk';injection hk' with e1 e2 e3 e4;subst e1
       have:=h.ownInj (.anon i j) s _ _ _ _ _ _ _ ht (hlive s hl hne).1 hk0 k0;exact (hlive s hl hne).2 i j ho this.symm
     ·exact h.ownInj s s' b'' _ _ _ _ _ _ (hlive s hl hne).1 (hlive s' hl' hne').1 (harr _ _ _ _ _ hne hk) (harr _ _ _ _ _ hne' hk')
    ·have hv2:(if i=id/\off'=off then (m.kill o).ver i off'+1 else (m.kill o).ver i off')<v':=hv';rw [hkv] at hv2;rw [hκ]
     split
     ·rename_i e
      injection e with e1 e2 e3
      subst e1 e2 e3;rw [cX ⟨rfl,rfl⟩] at hv2;omega
     ·have hbi':m.blk i ≠ none:=by
       have hb2:(if i=id then some (vs.set off (.list .self rows)) else (m.kill o).blk i) ≠ none:=hbi
       by_cases e:i=id
       ·rw [e,hv];simp
       ·rw [cE e,hkb] at hb2;exact hb2
      refine h.ver i off' v' hbi' ?_
      split at hv2 <;> omega
    ·refine ⟨λj=>by rw [hκ,cE (by intro e;cases e)],λo' v'=>?_,by rw [hκ,cE (by intro e;cases e)]⟩;rw [hκ]
     split
     ·rename_i e;injection e with e1;exact cM e1 hf
     ·rfl
   ·simp only [M.st1];rw [cE hs];obtain ⟨a,cap,es,sz,rfl,k1,k2,kz,k3,k4,k5,k6,kc,k7⟩:=hx.inv_list;exact plain _ rfl (.list k1 k2 kz k3 k4 k5 k6 kc trivial .nil)
 | _=>exact plain _ rfl hx
end
section
variable {P:Program} (w:World)
structure Uc (P:Program) (w:World) (size:Nat) (u:TypeId) (x:Value) (n:Nat) (news:List Value):Prop where
 ty:∃d,P.underlying u=some d/\∀k,d ≠ .int k
 len:(Builtin.lenOf x).run P w=.ok n w
 cells:(Builtin.firstCells size n x).run P w=.ok news.toArray w
 cells':(Builtin.firstCells size n x).run P w.drew=.ok news.toArray w.drew
 size:news.length=n*size
 one:∀u ∈ news,u.oneCell'=true
theorem LC (t u ty e:TypeId) (i:TypeInfo) (ht:P.underlying t=some (.slice e)) (hi:P.info? e=some i) {g t':Nat} {sLen sCap:Nat} {cur:Array Value} (hg:CY w g t' cur) {x:Value} {n:Nat} {news:List Value}
  (hn:Uc P w i.size u x n news) (hroom:sLen+n<=sCap) (hfit:sLen*i.size+news.length<=cur.size) :
  (Builtin.append_ #[t,u] ty #[.slice (some ⟨g,0,none⟩) sLen sCap,x]).run P w =
    .ok (.slice (some ⟨g,0,none⟩) (sLen+n) sCap) (w.setRow g (cur.toList.take (sLen*i.size)++news++cur.toList.drop (sLen*i.size+news.length)).toArray):=by
 obtain ⟨d,hu,hd⟩:=hn.ty;have Kb:=run_storeCells_at P g (sLen*i.size) t' news 0 cur w hg (by simpa using hfit) hn.one;simp only [Qp] at Kb;have hl:=hn.len;have hc:=hn.cells;simp [Builtin.append_,run_underlying ht,run_underlying hu,sizeOf,typeInfo,hi,hl,hroom,hc,Addr.add_lit,Kb]
theorem HQ (t u ty e:TypeId) (i:TypeInfo) (z:Value) (ht:P.underlying t=some (.slice e)) (hi:P.info? e=some i) (hz:i.zero=some z) {a:Option Addr} {sLen sCap:Nat} {olds:List Value} {x:Value} {n:Nat} {news:List Value}
  (hold:(Builtin.firstCells i.size sLen (.slice a sLen sCap)).run P w.drew=.ok olds.toArray w.drew) (hn:Uc P w i.size u x n news) (hroom:sCap<sLen+n) (hb:(sLen+n)*i.bytes<=140737488355328) (hm:sLen+n<=9223372036854775807) :
  (Builtin.append_ #[t,u] ty #[.slice a sLen sCap,x]).run P w =
    .ok (.slice (some ⟨w.heap.size,0,none⟩) (sLen+n) (grownCap w (sLen+n) sCap e))
     (w.drew.alloc (.cells (olds.toArray++news.toArray++Builtin.zeroCells z.cells (grownCap w (sLen+n) sCap e - (sLen+n))) e)):=by
 obtain ⟨d,hu,hd⟩:=hn.ty;have hl:=hn.len;have hnr:¬ (sLen+n<=sCap):=by omega
 have h63'':¬ (9223372036854775807<(sLen:Int)+(n:Int)):=by omega
 have hfit:=growslice_fits (bytes:=i.bytes) hroom hb;have hfit':¬ (281474976710656<Builtin.nextslicecap (sLen+n) sCap*i.bytes):=by omega
 have hc':=hn.cells';simp [Builtin.append_,run_underlying ht,run_underlying hu,sizeOf,typeInfo,zeroValue,hi,hz,hl,hnr,h63'',hfit',Question.forced,hold,hc',newRow,grownCap]
 congr 2
 apply Array.ext';simp [Mi]
end
section
variable {c c':Conc} {m m':M} {w w':World}
theorem gT.sub (h:gT c m w) (hver:m'.ver=m.ver) (hgl:m'.gl=m.gl) (hblk:∀id vs',m'.blk id=some vs'->∃vs,m.blk id=some vs/\∀cs,CR c (IL (m.ver id) id vs) cs->CR c (IL (m.ver id) id vs') cs) (hlive:∀s,gJ m' s=true->gJ m s=true) (hhp:∀b vs,m'.hp b=some vs->m.hp b=some vs:=by intro _ _ x;exact x) :
  gT c m' w/\∀q,qK q c m w c m' w:=by
 have hb:∀id,m'.blk id ≠ none->m.blk id ≠ none:=by
  intro id gG;obtain ⟨vs',hv⟩:∃vs,m'.blk id=some vs:=by cases hx:m'.blk id with | none=>exact cM hx gG | some vs=>exact ⟨vs,rfl⟩
  obtain ⟨vs,h1,_⟩:=hblk id vs' hv;rw [h1];simp
 have hown:∀b,fN c m' b->fN c m b:=by
  intro b ho
  rcases ho with ⟨id,gG,hr⟩ | ⟨s,cap,sz,len,hl,hk⟩
  ·exact .inl ⟨id,hb id gG,hr⟩
  ·exact .inr ⟨s,cap,sz,len,hlive s hl,hk⟩
 refine ⟨⟨h.com,λid vs' hv=>?_,λid id' b hi hi'=>h.inj id id' b (hb id hi) (hb id' hi'),λs b cap sz len hl hk=>?_,λs s' b cap sz len cap' sz' len' hl hl'=>h.ownInj s s' b cap sz len cap' sz' len' (hlive s hl) (hlive s' hl'),λid off v hb'=>by rw [hver];exact h.ver id off v (hb id hb'),by rw [hgl];exact h.gl,λid hf=>⟨by rw [hver];exact (h.ver0 id hf).1,λj=>by
  cases hx:m'.tok id j with
  | false=>rfl
  | true=>have:=hlive (.anon id j) hx;rw [show gJ m (.anon id j)=m.tok id j from rfl,(h.ver0 id hf).2 j] at this;cases this⟩,h.base,λb hb=>⟨(h.lit b hb).1,(h.lit b hb).2.1,λho=>(h.lit b hb).2.2 (hown b ho)⟩,λb vs hv=>h.hpr b vs (hhp b vs hv)⟩,λq=>?_⟩
 ·obtain ⟨vs,h1,h2⟩:=hblk id vs' hv;obtain ⟨b,cs,t,k1,k2,k3,k4,k5⟩:=h.blk id vs h1;exact ⟨b,cs,t,k1,k2,by rw [hver];exact h2 _ k3,k4,k5⟩
 ·obtain ⟨k1,k2,k3,k4⟩:=h.own s b cap sz len (hlive s hl) hk;exact ⟨k1,k2,λid gG=>k3 id (hb id gG),k4⟩
 ·refine ⟨.refl c,rfl,rfl,rfl,uZ _,λ_ _ _ _=>rfl,λ_ _ _ _=>rfl,λb _ ho=>hown b ho,λ_ _ x=>x,λid _ hb=>⟨?_,hb.anon,hb.cell,by rw [hver];exact hb.ver,λj=>?_⟩,λ_ _ x=>x⟩
  ·cases hx:m'.blk id with
   | none=>rfl
   | some vs'=>obtain ⟨vs,h1,_⟩:=hblk id vs' hx;rw [hb.blk] at h1;cases h1
  ·cases hx:m'.tok id j with
   | false=>rfl
   | true=>have:=hlive (.anon id j) hx;rw [show gJ m (.anon id j)=m.tok id j from rfl,hb.tok j] at this;cases this
def M.unself (m:M) (id:Pa) (off:Nat):M:=
 match m.blk id with
 | some vs=>(match vs[off]? with | some (.list .self rows)=>m.set id (vs.set off (.list .none rows)) | _=>m)
 | none=>m
def M.drop (m:M):NV->M
 | .st (.anon i j)=>m.tokset i j false
 | .st (.cell i off _)=>m.unself i off
 | .st (.priv b)=>{ m with hp:=λx=>if x=b then none else m.hp x }
 | _=>m
theorem gT.unself (h:gT c m w) (id:Pa) (off:Nat):gT c (m.unself id off) w/\(∀q,qK q c m w c (m.unself id off) w)/\∀s,gJ (m.unself id off) s=true->gJ m s=true/\∀v,s ≠ .cell id off v:=by
 have triv:m.unself id off=m->(∀v,gJ m (.cell id off v)=false)->gT c (m.unself id off) w/\(∀q,qK q c m w c (m.unself id off) w)/\∀s,gJ (m.unself id off) s=true->gJ m s=true/\∀v,s ≠ .cell id off v:=by
  intro e hn;rw [e];exact ⟨h,λq=>.refl q c m w,λs hl=>⟨hl,λv e=>by rw [e,hn] at hl;cases hl⟩⟩
 cases hv:m.blk id with
 | none=>exact triv (by simp [M.unself,hv]) (λv=>by simp [gJ,hv])
 | some vs=>
   by_cases hs:∃rows,vs[off]? = some (V.list .self rows)
   ·obtain ⟨rows,hrows⟩:=hs;have he:m.unself id off=m.set id (vs.set off (.list .none rows)):=by simp [M.unself,hv,hrows]
    have hlen:off<vs.length:=(xW.1 hrows).1
    have hlive:∀s,gJ (m.unself id off) s=true->gJ m s=true/\∀v,s ≠ .cell id off v:=by
     rw [he];intro s hl;cases s with
     | anon i j=>exact ⟨hl,λv e=>by cases e⟩
     | priv b=>exact ⟨hl,λv e=>by cases e⟩
     | cell i off' v=>
       obtain ⟨h1,xs,rows',h2,h3⟩:=vH hl;have h2':(if i=id then some (vs.set off (.list .none rows)) else m.blk i)=some xs:=h2
       by_cases e:i=id
       ·subst e;rw [cX rfl] at h2'
        injection h2' with h2'
        subst h2'
        by_cases e2:off'=off
        ·subst e2;rw [VI hlen] at h3;cases h3
        ·rw [Uv (λe3=>e2 e3.symm)] at h3;exact ⟨vD h1 hv h3,λv e=>by injection e with e1 e3;exact e2 e3⟩
       ·rw [cE e] at h2';exact ⟨vD h1 h2' h3,λv e3=>by injection e3 with e1;exact e e1⟩
    have hsub:=h.sub (m':=m.unself id off) (by rw [he];rfl) (by rw [he];rfl) (λi vs' hx=>by
     rw [he] at hx;have hx':(if i=id then some (vs.set off (.list .none rows)) else m.blk i)=some vs':=hx
     by_cases e:i=id
     ·subst e;rw [cX rfl] at hx'
      injection hx' with hx'
      subst hx';refine ⟨vs,hv,λcs hcs=>?_⟩;rw [RJ,V.ld_of (v:=.list .none rows) rfl];obtain ⟨x,hx1,hx2⟩:=hcs.get (lds_get hrows)
      have:cs=cs.set off x:=by
       apply Yz;intro k
       by_cases hk:k=off
       ·subst hk;rw [VI (xW.1 hx1).1];exact hx1
       ·rw [Uv (λe=>hk e.symm)]
      rw [this];refine hcs.set off ?_;obtain ⟨a,cap,es,sz,rfl,k1,k2,kz,k3,k4,k5,k6,kc,k7⟩:=hx2.inv_list;exact .list k1 k2 kz k3 k4 k5 k6 kc trivial .nil
     ·rw [cE e] at hx';exact ⟨vs',hx',λ_ x=>x⟩) (λs hl=>(hlive s hl).1) (by rw [he];intro _ _ x;exact x)
    exact ⟨hsub.1,hsub.2,hlive⟩
   ·have hne:∀v,gJ m (.cell id off v)=false:=by
     intro v;cases hl:gJ m (.cell id off v) with
     | false=>rfl
     | true=>
       obtain ⟨_,xs,rows,h2,h3⟩:=vH hl;rw [hv] at h2;injection h2 with h2;subst h2
       exact cM ⟨rows,h3⟩ hs
    refine triv ?_ hne;simp only [M.unself,hv]
    split
    ·rename_i rows hr;exact cM ⟨rows,hr⟩ hs
    ·rfl
theorem gT.dropped (h:gT c m w) (o:NV):gT c (m.drop o) w/\(∀q,qK q c m w c (m.drop o) w)/\∀s,gJ (m.drop o) s=true->gJ m s=true/\o ≠ .st s:=by
 cases o with
 | st s=>
   cases s with
   | anon i j=>
     have hlive:∀s,gJ (m.tokset i j false) s=true->gJ m s=true/\NV.st (.anon i j) ≠ .st s:=by
      intro s hl;cases s with
      | anon i' j'=>
        have hl':(if i'=i/\j'=j then false else m.tok i' j')=true:=hl
        split at hl'
        ·cases hl'
        ·rename_i e;exact ⟨hl',λe2=>by injection e2 with e2;injection e2 with e3 e4;exact e ⟨e3.symm,e4.symm⟩⟩
      | cell _ _ _=>exact ⟨hl,λe=>by cases e⟩
      | priv _=>exact ⟨hl,λe=>by cases e⟩
     have:=h.sub (m':=m.tokset i j false) rfl rfl (λid vs' hx=>⟨vs',hx,λ_ x=>x⟩) (λs hl=>(hlive s hl).1);exact ⟨this.1,this.2,hlive⟩
   | priv b=>
     have hlive:∀s,gJ (m.drop (.st (.priv b))) s=true->gJ m s=true/\NV.st (.priv b) ≠ .st s:=by
      intro s hl;cases s with
      | anon i' j'=>exact ⟨hl,λe=>by cases e⟩
      | cell _ _ _=>exact ⟨hl,λe=>by cases e⟩
      | priv b'=>
        have hl':(if b'=b then none else m.hp b').isSome=true:=hl
        split at hl'
        ·cases hl'
        ·rename_i e;exact ⟨hl',λe2=>by injection e2 with e2;injection e2 with e3;exact e e3.symm⟩
     have:=h.sub (m':=m.drop (.st (.priv b))) rfl rfl (λid vs' hx=>⟨vs',hx,λ_ x=>x⟩) (λs hl=>(hlive s hl).1) (λb' vs hv=>by
      have hv':(if b'=b then none else m.hp b')=some vs:=hv
      split at hv'
      ·cases hv'
      ·exact hv')
     exact ⟨this.1,this.2,hlive⟩
   | cell i off v=>
     obtain ⟨h1,h2,h3⟩:=h.unself i off;exact ⟨h1,h2,λs hl=>⟨(h3 s hl).1,λe=>by injection e with e;exact (h3 s hl).2 v e.symm⟩⟩
 | _=>exact ⟨h,λq=>.refl q c m w,λs hl=>⟨hl,λe=>by cases e⟩⟩
theorem gT.free (h:gT c m w) {b:Nat} (hn:¬ fN c m b) (hg:w.grownBy w' (some b)) {G':GG} (hG:∀b' o v,c.G b' o=some v->G' b' o=some v) (hGo:∀b',b' ≠ b->∀o,G' b' o=c.G b' o) (hC:Km w' G') :
  gT { c with G:=G' } m w':=by
 have hle:Le c { c with G:=G' }:=⟨rfl,λ_ x=>x,λ_ _ x=>x,λ_ _ x=>x,hG⟩;refine ⟨hC,λid vs hv=>?_,h.inj,λs b' cap sz len hl hk=>?_,h.ownInj,h.ver,λg=>(h.gl g).mono hle,λid hf=>h.ver0 id (hf.anti hle),No h.base hg.size,λb hb=>⟨(h.lit b hb).1,YM (h.lit b hb).2.1 hg.size,(h.lit b hb).2.2⟩,λb' vs hv=>?_⟩
 ·obtain ⟨b',cs,t,k1,k2,k3,k4,k5⟩:=h.blk id vs hv;have hne:b' ≠ b:=λe=>hn (.inl ⟨id,by rw [hv];simp,by rw [←e];exact k1⟩);exact ⟨b',cs,t,k1,k2.grown hg (by simpa using hne),k3.mono hle,λo=>by rw [show ({ c with G:=G' }:Conc).G b' o=G' b' o from rfl,hGo b' hne];exact k4 o,k5⟩
 ·obtain ⟨⟨cs,t,k1,k2⟩,k3,k4⟩:=h.own s b' cap sz len hl hk;have hne:b' ≠ b:=λe=>hn (.inr ⟨s,cap,sz,len,hl,by rw [←e];exact hk⟩);exact ⟨⟨cs,t,k1.grown hg (by simpa using hne),k2⟩,λo ho=>by rw [show ({ c with G:=G' }:Conc).G b' o=G' b' o from rfl,hGo b' hne];exact k3 o ho,k4⟩
 ·exact (h.hpr b' vs hv).mono hle λb2 n cs t hk hB2=>hB2.grown hg (λe=>hn (by injection e with e;rw [←e];exact gT.priv_own hv hk))
def Conc.stamp (c:Conc) (q:Pa) (i:Sg):Conc:={ c with κ:=λs=>if s=.anon q 0 then some i else c.κ s }
theorem gT.stamp (h:gT c m w) {q:Pa} (hf:fO c q) (i:Sg) (hi:∀b cap sz len,i=.arr b cap sz len->¬ c.lit b/\¬ fN c m b/\(∃cs t,CY w b t cs/\cs.size=cap*sz)/\(∀o,len*sz<=o->c.G b o=none)/\len<=cap/\0<sz) :
  gT (c.stamp q i) (m.tokset q 0 true) w/\Le c (c.stamp q i):=by
 have hκ:∀s,(c.stamp q i).κ s=if s=.anon q 0 then some i else c.κ s:=λ_=>rfl
 have hle:Le c (c.stamp q i):=by
  refine ⟨rfl,λ_ x=>x,λ_ _ x=>x,λs j hk=>?_,λ_ _ _ x=>x⟩;rw [hκ];split
  ·rename_i e;rw [e,hf.2.1] at hk;cases hk
  ·exact hk
 have hlive:∀s,gJ (m.tokset q 0 true) s=true->s ≠ .anon q 0->gJ m s=true:=by
  intro s hl hne;cases s with
  | anon i' j'=>
    have hl':(if i'=q/\j'=0 then true else m.tok i' j')=true:=hl
    split at hl'
    ·rename_i e;obtain ⟨rfl,rfl⟩:=e;exact cM rfl hne
    ·exact hl'
  | cell _ _ _=>exact hl
  | priv _=>exact hl
 refine ⟨⟨h.com,λid vs hv=>?_,h.inj,λs b cap sz len hl hk=>?_,λs s' b cap sz len cap' sz' len' hl hl' hk hk'=>?_,λid off v hb hv=>?_,λg=>(h.gl g).mono hle,λid hf=>⟨(h.ver0 id (hf.anti hle)).1,λj=>?_⟩,h.base,λb hb=>⟨(h.lit b hb).1,(h.lit b hb).2.1,λho=>?_⟩,λb vs hv=>?_⟩,hle⟩
 ·obtain ⟨b,cs,t,k1,k2,k3,k4,k5⟩:=h.blk id vs hv;exact ⟨b,cs,t,k1,k2,k3.mono hle,k4,k5⟩
 ·rw [hκ] at hk
  split at hk
  ·injection hk with hk
   obtain ⟨_,k0,k1,k2,k3⟩:=hi b cap sz len hk;exact ⟨k1,k2,λid gG hr=>k0 (.inl ⟨id,gG,hr⟩),k3⟩
  ·rename_i hne;exact h.own s b cap sz len (hlive s hl hne) hk
 ·rw [hκ] at hk hk'
  by_cases e1:s=.anon q 0 <;> by_cases e2:s'=.anon q 0
  ·rw [e1,e2]
  ·rw [cX e1] at hk;rw [cE e2] at hk'
   injection hk with hk
   exact cM (.inr ⟨s',_,_,_,hlive s' hl' e2,hk'⟩) (hi _ _ _ _ hk).2.1
  ·rw [cE e1] at hk;rw [cX e2] at hk'
   injection hk' with hk'
   exact cM (.inr ⟨s,_,_,_,hlive s hl e1,hk⟩) (hi _ _ _ _ hk').2.1
  ·rw [cE e1] at hk;rw [cE e2] at hk'
   exact h.ownInj s s' b _ _ _ _ _ _ (hlive s hl e1) (hlive s' hl' e2) hk hk'
 ·rw [hκ,cE (by intro e;cases e)];exact h.ver id off v hb hv
 ·show (if id=q/\j=0 then true else m.tok id j)=false;rw [cE]
  ·exact (h.ver0 id (hf.anti hle)).2 j
  ·rintro ⟨rfl,rfl⟩;have:=hf.2.1 0;rw [hκ,cX rfl] at this;cases this
 ·rcases ho with ⟨id,gG,hr⟩ | ⟨s,cap,sz,len,hl,hk⟩
  ·exact (h.lit b hb).2.2 (.inl ⟨id,gG,hr⟩)
  ·rw [hκ] at hk
   split at hk
   ·injection hk with hk
    exact (hi b cap sz len hk).1 hb
   ·rename_i hne;exact (h.lit b hb).2.2 (.inr ⟨s,cap,sz,len,hlive s hl hne,hk⟩)
 ·exact (h.hpr b vs hv).mono hle λ_ _ _ _ _ hB=>hB
theorem fN.stamp {q:Pa} {i:Sg} {b:Nat} (h:fN (c.stamp q i) (m.tokset q 0 true) b):fN c m b ∨ ∃cap sz len,i=.arr b cap sz len:=by
 rcases h with ⟨id,gG,hr⟩ | ⟨s,cap,sz,len,hl,hk⟩
 ·exact .inl (.inl ⟨id,gG,hr⟩)
 ·have hk':(if s=.anon q 0 then some i else c.κ s)=some (.arr b cap sz len):=hk
  split at hk'
  ·injection hk' with hk';exact .inr ⟨cap,sz,len,hk'⟩
  ·rename_i hne;refine .inl (.inr ⟨s,cap,sz,len,?_,hk'⟩);cases s with
   | anon i' j'=>
     have hl':(if i'=q/\j'=0 then true else m.tok i' j')=true:=hl
     split at hl'
     ·rename_i e;obtain ⟨rfl,rfl⟩:=e;exact cM rfl hne
     ·exact hl'
   | cell _ _ _=>exact hl
   | priv _=>exact hl
end
section
variable {P:Program} {w:World} {c:Conc} {m:M}
theorem fO.stamp {c:Conc} {id q:Pa} {i:Sg} (h:fO c id) (hne:id ≠ q):fO (c.stamp q i) id:=by
 refine ⟨h.1,λj=>?_,λoff v=>?_,?_⟩
 ·have:(c.stamp q i).κ (.anon id j)=if wE.anon id j=.anon q 0 then some i else c.κ (.anon id j):=rfl;rw [this,cE (by intro e;injection e with e;exact hne e)];exact h.2.1 j
 ·have:(c.stamp q i).κ (.cell id off v)=if wE.cell id off v=.anon q 0 then some i else c.κ (.cell id off v):=rfl;rw [this,cE (by intro e;cases e)];exact h.2.2.1 off v
 ·have:(c.stamp q i).κ (.priv id)=if (.priv id:wE)=.anon q 0 then some i else c.κ (.priv id):=rfl;rw [this,cE (by intro e;cases e)];exact h.2.2.2
theorem CZ.stamp {c c0:Conc} {m:M} {id q:Pa} {i:Sg} (h:CZ c m id) (hne:id ≠ q) (h0:c0.κ=c.κ):CZ (c0.stamp q i) (m.tokset q 0 true) id:=by
 have hκ:∀s,(c0.stamp q i).κ s=if s=.anon q 0 then some i else c.κ s:=by intro s;rw [←h0];rfl
 refine ⟨h.blk,λj=>?_,λoff v=>?_,h.ver,λj=>?_⟩
 ·rw [hκ,cE (by intro e;injection e with e1;exact hne e1)];exact h.anon j
 ·rw [hκ,cE (by intro e;cases e)];exact h.cell off v
 ·show (if id=q/\j=0 then true else m.tok id j)=false;rw [cE (by rintro ⟨e,_⟩;exact hne e)];exact h.tok j
theorem QA {rows rows2:List (List V)} {size:Nat} (s1:∀r ∈ rows,r.length=size) (s2:∀r ∈ rows2,r.length=size):∀r ∈ rows++rows2,r.length=size:=by
 intro r hr
 rcases yU.1 hr with hr | hr
 ·exact s1 r hr
 ·exact s2 r hr
theorem VS {xs ys:List Value} (o1:∀u ∈ xs,u.oneCell'=true) (o2:∀u ∈ ys,u.oneCell'=true):∀u ∈ xs++ys,u.oneCell'=true:=by
 intro r hr
 rcases yU.1 hr with hr | hr
 ·exact o1 r hr
 ·exact o2 r hr
theorem Rz (t u ty e:TypeId) (i:TypeInfo) (ht:P.underlying t=some (.slice e)) (hi:P.info? e=some i) {a:Option Addr} {sLen sCap:Nat} {x:Value} (hn:Uc P w i.size u x 0 []) (hroom:sLen<=sCap) :
  (Builtin.append_ #[t,u] ty #[.slice a sLen sCap,x]).run P w=.ok (.slice a sLen sCap) w:=by
 obtain ⟨d,hu,hd⟩:=hn.ty;have hl:=hn.len;have hc:=hn.cells;cases a with
 | none=>simp [Builtin.append_,run_underlying ht,run_underlying hu,sizeOf,typeInfo,hi,hl,hroom,hc]
 | some a=>simp [Builtin.append_,run_underlying ht,run_underlying hu,sizeOf,typeInfo,hi,hl,hroom,hc,storeCells]
theorem KX {G:GG} (hC:Km w G) {a:Option Addr} {es:List Value} {size len cap:Nat} (hl:es.length=len*size) (h:Sf G a es):(Builtin.firstCells size len (.slice a len cap)).run P w=.ok es.toArray w:=by
 rcases Nat.eq_zero_or_pos es.length with h0 | h0
 ·have he:es=[]:=List.eq_nil_of_length_eq_zero h0;subst he;cases a with
  | none=>exact run_firstCells_none w size len len cap
  | some b=>exact run_firstCells_some w size len b len cap [] hl zd
 ·obtain ⟨b,off,rfl,hG⟩:=h h0;exact run_firstCells_some w size len _ len cap es hl (λj v hv=>by rw [oA];exact hC _ _ _ (hG j v hv))
theorem Uc.book {G:GG} (hC:Km w G) {a:Option Addr} {es:List Value} {size n cap:Nat} {u:TypeId} {d:TypeDesc} (hu:P.underlying u=some d) (hd:∀k,d ≠ .int k) (hl:es.length=n*size) (h:Sf G a es) (h1:∀u ∈ es,u.oneCell'=true) :
  Uc P w size u (.slice a n cap) n es:=
 ⟨⟨d,hu,hd⟩,rfl,KX hC hl h,KX (w:=w.drew) hC.drew hl h,hl,h1⟩
theorem Bc {rows:List (List V)} {sz:Nat} {es:List Value} (h:CR c rows.flatten es) (hs:∀r ∈ rows,r.length=sz):es.length=rows.length*sz:=by
 rw [h.len,FG hs]
theorem XJ {q:Pa} (hf:fO c q) {m1:M} (h:gT c m1 w) (hE:qK q c m w c m1 w) {rows rows2:List (List V)} {es news rest:List Value} {e:TypeId} {size ncap:Nat} (k1:CR c rows.flatten es) (k2:CR c rows2.flatten news)
  (s1:∀r ∈ rows,r.length=size) (s2:∀r ∈ rows2,r.length=size) (hz:0<size) (hpos:0<rows.length+rows2.length) (hcap:rows.length+rows2.length<=ncap) (hmax:ncap<=maxLen)
  (hrest:(es++news++rest).length=ncap*size) (o1:∀u ∈ es,u.oneCell'=true) (o2:∀u ∈ news,u.oneCell'=true) :
  ∃c',gT c' (m1.tokset q 0 true) (w.drew.alloc (.cells (es++news++rest).toArray e))/\qK q c m w c' (m1.tokset q 0 true) (w.drew.alloc (.cells (es++news++rest).toArray e)) ∧
   CR c' [.list (.st (.anon q 0)) (rows++rows2)] [.slice (some ⟨w.heap.size,0,none⟩) (rows.length+rows2.length) ncap]:=by
 have hOut:NI c.G w.heap.size:=h.com.out (uZ _);have hno:¬ fN c m1 w.heap.size:=λho=>by have:=h.own_lt ho;omega
 have hg:w.grownBy (w.drew.alloc (.cells (es++news++rest).toArray e)) none:=ME (zax (KH w none)) _;have hB:CY (w.drew.alloc (.cells (es++news++rest).toArray e)) w.heap.size e (es++news++rest).toArray:=CY.new w.drew e _
 have h1:=(h.grown hg).laid (cs:=es++news) hOut hno (λi u hu=>by
  rw [hB.cell i];have hi:i<(es++news).length:=(xW.1 hu).1;simp only [xdu];rw [Py hi];exact hu)
 have hlen:(es++news).length=(rows.length+rows2.length)*size:=by rw [oY,Bc k1 s1,Bc k2 s2,xdh]
 have hno1:¬ fN (c.laid w.heap.size (es++news)) m1 w.heap.size:=hno
 have Kb:=h1.stamp (q:=q) hf (.arr w.heap.size ncap size (rows.length+rows2.length)) (λb cap sz len he=>by
  injection he with e1 e2 e3 e4
  subst e1 e2 e3 e4;refine ⟨λhl=>by have:=(h.lit _ hl).2.1;omega,hno1,⟨_,_,hB,by simpa using hrest⟩,λo ho=>?_,hcap,hz⟩;show OQ c.G w.heap.size (es++news) w.heap.size o=none;rw [OP];exact VH zb)
 refine ⟨_,Kb.1,?_,?_⟩
 ·have hE1:=h.ext_laid q (cs:=es++news) (uZ _) (uZ _) _ hg;refine ⟨(hE.le.trans hE1.le).trans Kb.2,rfl,rfl,rfl,hg.size,λb hb _ _=>hg.block b hb zd,λb hb ho o=>?_,λb hb ho=>?_,λid gG hfr=>?_,λid gG IV=>(hE.keep id gG IV).stamp (by rintro rfl;exact gG (Qq _)) rfl,λ_ _ x=>x⟩
  ·show OQ c.G w.heap.size (es++news) b o=c.G b o;unfold OQ;rw [cE zb]
  ·rcases ho.stamp with ho | ⟨cap,sz,len,he⟩
   ·exact hE.own b hb ho
   ·injection he with e1;omega
  ·have hne:id ≠ q:=by rintro rfl;exact gG (Qq _)
   exact fO.stamp hfr hne
 ·have hle:Le c ((c.laid w.heap.size (es++news)).stamp q (.arr w.heap.size ncap size (rows.length+rows2.length))):=(Le.laid hOut).trans Kb.2
  have hcr:CR ((c.laid w.heap.size (es++news)).stamp q (.arr w.heap.size ncap size (rows.length+rows2.length))) (rows++rows2).flatten (es++news):=by
   rw [List.flatten_append];exact (k1.mono hle).append (k2.mono hle)
  have:=CR.list (o:=.st (.anon q 0)) (a:=some ⟨w.heap.size,0,none⟩) (cap:=ncap) hcr (QA s1 s2) hz (by simpa using hcap) hmax (λ_=>⟨_,_,rfl⟩)
   (λ_=>⟨w.heap.size,0,rfl,λi u hu=>by rw [Lk];show OQ c.G w.heap.size (es++news) w.heap.size i=some u;rw [OP];exact hu⟩) (VS o1 o2)
   (.inr ⟨w.heap.size,by show (if wE.anon q 0=.anon q 0 then some _ else _)=_;rw [cX rfl];simp,rfl,by simpa using hpos⟩) .nil
  simpa using this
theorem Xp {q:Pa} (hf:fO c q) {m1:M} (h:gT c m1 w) (hE:qK q c m w c m1 w) {rows rows2:List (List V)} {es news:List Value} {b size cap t':Nat} {cur:Array Value} (k1:CR c rows.flatten es) (k2:CR c rows2.flatten news)
  (s1:∀r ∈ rows,r.length=size) (s2:∀r ∈ rows2,r.length=size) (hz:0<size) (hpos:0<rows.length) (hcap:rows.length+rows2.length<=cap) (hmax:cap<=maxLen)
  (hno:¬ fN c m1 b) (hO:fN c m b) (hnl:¬ c.lit b) (hB:CY w b t' cur) (hcur:cur.size=cap*size) (hfree:∀o,rows.length*size<=o->c.G b o=none) (hlies:∀i u,es[i]? = some u->c.G b (0+i)=some u) (o1:∀u ∈ es,u.oneCell'=true) (o2:∀u ∈ news,u.oneCell'=true) :
  ∃c',gT c' (m1.tokset q 0 true) (w.setRow b (cur.toList.take (rows.length*size)++news++cur.toList.drop (rows.length*size+news.length)).toArray) ∧
   qK q c m w c' (m1.tokset q 0 true) (w.setRow b (cur.toList.take (rows.length*size)++news++cur.toList.drop (rows.length*size+news.length)).toArray) ∧
   CR c' [.list (.st (.anon q 0)) (rows++rows2)] [.slice (some ⟨b,0,none⟩) (rows.length+rows2.length) cap]:=by
 obtain ⟨cur',hcur'⟩:∃cur',cur'=(cur.toList.take (rows.length*size)++news++cur.toList.drop (rows.length*size+news.length)).toArray:=⟨_,rfl⟩;rw [←hcur'];have l1:=Bc k1 s1;have l2:=Bc k2 s2;have hle2:rows.length*size+rows2.length*size<=cap*size:=by rw [←xdh];exact xdi _ hcap
 have hsz':cur'.size=cap*size:=by rw [hcur'];simp;omega
 have hB':CY (w.setRow b cur') b t' cur':=setRow_heap w b cur cur' t' (0,0) hB;have hg:w.grownBy (w.setRow b cur') (some b):=⟨rfl,rfl,rfl,zd,λk _ hk=>setRow_other w b k _ (λe=>hk (by rw [e]))⟩
 -- what the book gets
 obtain ⟨G',hG'⟩:∃G':GG,G'=λb' o=>if b'=b/\rows.length*size<=o then news[o - rows.length*size]? else c.G b' o:=⟨_,rfl⟩
 have g1:∀b' o v,c.G b' o=some v->G' b' o=some v:=by
  intro b' o v hv;rw [hG'];show (if _ then _ else _)=_;rw [cE]
  ·exact hv
  ·rintro ⟨rfl,ho⟩;rw [hfree o ho] at hv;cases hv
 have g2:∀b',b' ≠ b->∀o,G' b' o=c.G b' o:=by
  intro b' hb o;rw [hG'];show (if _ then _ else _)=_;rw [cE (by rintro ⟨e,_⟩;exact hb e)]
 have g3:∀o,(rows.length+rows2.length)*size<=o->G' b o=none:=by
  intro o ho;rw [hG'];show (if b=b/\rows.length*size<=o then news[o - rows.length*size]? else _)=none;rw [xdh] at ho;rw [cX ⟨rfl,zb⟩];exact VH zb
 have hat:∀o,o<rows.length*size->cur'[o]? = cur[o]? := by
  intro o ho;rw [hcur'];simp only [xdu,Mi];rw [Py (by simp;omega),xep ho];simp
 have hat2:∀j u,news[j]? = some u->cur'[rows.length*size+j]? = some u:=by
  intro j u hu;have hj:j<news.length:=(xW.1 hu).1;have htl:(cur.toList.take (rows.length*size)).length=rows.length*size:=by simp;omega
  rw [hcur'];simp only [xdu,Mi];rw [Mh zb,htl,show rows.length*size+j - rows.length*size=j by omega,Py hj];exact hu
 have g4:Km (w.setRow b cur') G':=by
  intro b' o v hv
  by_cases hb:b'=b
  ·subst hb;rw [hB'.cell o]
   by_cases ho:rows.length*size<=o
   ·have hv':news[o - rows.length*size]? = some v:=by
     have hv2:=hv;rw [hG'] at hv2;have hv3:(if b'=b'/\rows.length*size<=o then news[o - rows.length*size]? else c.G b' o)=some v:=hv2;rw [cX ⟨rfl,ho⟩] at hv3;exact hv3
    have:=hat2 _ _ hv';rw [show rows.length*size+(o - rows.length*size)=o by omega] at this;exact this
   ·have hv':c.G b' o=some v:=by
     have hv2:=hv;rw [hG'] at hv2;have hv3:(if b'=b'/\rows.length*size<=o then news[o - rows.length*size]? else c.G b' o)=some v:=hv2;rw [cE (by rintro ⟨_,h⟩;exact ho h)] at hv3;exact hv3
    rw [hat o zb];have:=h.com b' o v hv';rw [hB.cell o] at this;exact this
  ·rw [g2 b' hb o] at hv;exact hg.cell (h.com b' o v hv) (by simpa using hb)
 have h1:=h.free hno hg g1 g2 g4;have hno1:¬ fN { c with G:=G' } m1 b:=hno
 have Kb:=h1.stamp (q:=q) hf (.arr b cap size (rows.length+rows2.length)) (λb2 cap2 sz2 len2 he=>by
  injection he with e1 e2 e3 e4
  subst e1 e2 e3 e4;exact ⟨λhl=>hnl hl,hno1,⟨_,_,hB',hsz'⟩,g3,hcap,hz⟩)
 have hle:Le c (({ c with G:=G' }:Conc).stamp q (.arr b cap size (rows.length+rows2.length))):=(show Le c { c with G:=G' } from ⟨rfl,λ_ x=>x,λ_ _ x=>x,λ_ _ x=>x,g1⟩).trans Kb.2;refine ⟨_,Kb.1,?_,?_⟩
 ·refine ⟨hle,rfl,rfl,rfl,hg.size,λb' hb' ho _=>hg.block b' hb' (λe=>ho (by injection e with e;rw [e];exact hO)),λb' hb' ho o=>g2 b' (λe=>ho (by rw [e];exact hO)) o,λb' hb' ho=>?_,λid gG hfr=>?_,λid gG IV=>(hE.keep id gG IV).stamp (by rintro rfl;exact gG (Qq _)) rfl,λ_ _ x=>x⟩
  ·rcases ho.stamp with ho | ⟨cap2,sz2,len2,he⟩
   ·exact hE.own b' hb' ho
   ·injection he with e1;rw [←e1];exact hO
  ·have hne:id ≠ q:=by rintro rfl;exact gG (Qq _)
   exact fO.stamp hfr hne
 ·have hcr:CR (({ c with G:=G' }:Conc).stamp q (.arr b cap size (rows.length+rows2.length))) (rows++rows2).flatten (es++news):=by
   rw [List.flatten_append];exact (k1.mono hle).append (k2.mono hle)
  have:=CR.list (o:=.st (.anon q 0)) (a:=some ⟨b,0,none⟩) (cap:=cap) hcr (QA s1 s2) hz (by simpa using hcap) hmax (λ_=>⟨_,_,rfl⟩)
   (λ_=>⟨b,0,rfl,λi u hu=>by
     show G' b (0+i)=some u;rw [Lk]
     by_cases hi:i<es.length
     ·rw [Py hi] at hu;have:=g1 b i u (by have:=hlies i u hu;rwa [Lk] at this);exact this
     ·rw [Mh zb] at hu;rw [hG'];show (if b=b/\rows.length*size<=i then news[i - rows.length*size]? else _)=_;rw [cX ⟨rfl,zb⟩,←l1];exact hu⟩) (VS o1 o2)
   (.inr ⟨b,by show (if wE.anon q 0=.anon q 0 then some _ else _)=_;rw [cX rfl];simp,rfl,by simp;omega⟩) .nil
  simpa using this
def yG (m:M) (o:NV) (rows:List (List V)):Bool:=
 match o with
 | .exact=>true
 | .st s=>rows.isEmpty || gJ m s
 | _=>false
theorem gT.append (h:gT c m w) {q:Pa} (hf:fO c q) {o:NV} {rows:List (List V)} {s:Value} (hs:CR c [.list o rows] [s]) (happ:yG m o rows=true) (t u ty e:TypeId) (i:TypeInfo) (z:Value) (ht:P.underlying t=some (.slice e)) (hi:P.info? e=some i)
  (hz:i.zero=some z) (hzs:z.cells.size=i.size) (hsz:0<i.size) (s1:∀r ∈ rows,r.length=i.size) {rows2:List (List V)} {news:List Value} {x:Value} (k2:CR c rows2.flatten news) (s2:∀r ∈ rows2,r.length=i.size) (hn:Uc P w i.size u x rows2.length news)
  (hb:(rows.length+rows2.length)*i.bytes<=140737488355328) (hm:rows.length+rows2.length<=maxLen) :
  ∃v' w' c',(Builtin.append_ #[t,u] ty #[s,x]).run P w=.ok v' w'/\gT c' ((m.drop o).tokset q 0 true) w'/\qK q c m w c' ((m.drop o).tokset q 0 true) w'/\CR c' [.list (.st (.anon q 0)) (rows++rows2)] [v']:=by
 obtain ⟨a,cap,es,sz,rfl,k1,k2',kz,k3,k4,k5,k6,kc,k7⟩:=hs.inv_list;obtain ⟨hD,hDE,hDl⟩:=h.dropped o;have hm':rows.length+rows2.length<=9223372036854775807:=by simp only [maxLen] at hm;omega
 have l1:=Bc k1 s1
 -- grown
 have grown:cap<rows.length+rows2.length->∃v' w' c',(Builtin.append_ #[t,u] ty #[.slice a rows.length cap,x]).run P w=.ok v' w'/\gT c' ((m.drop o).tokset q 0 true) w'/\qK q c m w c' ((m.drop o).tokset q 0 true) w'/\CR c' [.list (.st (.anon q 0)) (rows++rows2)] [v']:=by
  intro hlt;have hrun:=HQ (P:=P) w t u ty e i z ht hi hz (a:=a) (sLen:=rows.length) (sCap:=cap) (KX (w:=w.drew) h.com.drew l1 k6) hn hlt hb hm';have hge:=grownCap_ge w (rows.length+rows2.length) cap e;have hcm:=grownCap_le_maxLen w (rows.length+rows2.length) cap e hm
  have hl:(es++news++(Builtin.zeroCells z.cells (grownCap w (rows.length+rows2.length) cap e - (rows.length+rows2.length))).toList).length=grownCap w (rows.length+rows2.length) cap e*i.size:=by
   have:=hn.size;simp only [oY,VG,size_zeroCells,hzs,l1,this];rw [←xdh,←xdh]
   congr 1;omega
  obtain ⟨c',h1,h2,h3⟩:=XJ (e:=e) hf hD (hDE q) k1 k2 s1 s2 hsz zb hge hcm hl kc hn.one
  have harr:(es++news++(Builtin.zeroCells z.cells (grownCap w (rows.length+rows2.length) cap e - (rows.length+rows2.length))).toList).toArray=es.toArray++news.toArray++Builtin.zeroCells z.cells (grownCap w (rows.length+rows2.length) cap e - (rows.length+rows2.length)):=by
   apply Array.ext';simp [Mi]
  rw [harr] at h1 h2;exact ⟨_,_,c',hrun,h1,h2,h3⟩
 -- nothing is appended, to a slice whose capacity is its length
 have still:cap=rows.length->rows2.length=0->∃v' w' c',(Builtin.append_ #[t,u] ty #[.slice a rows.length cap,x]).run P w=.ok v' w'/\gT c' ((m.drop o).tokset q 0 true) w'/\qK q c m w c' ((m.drop o).tokset q 0 true) w'/\CR c' [.list (.st (.anon q 0)) (rows++rows2)] [v']:=by
  intro hcl h0;have hr2:rows2=[]:=List.eq_nil_of_length_eq_zero h0;subst hr2;have hne:news=[]:=k2.inv_nil;subst hne;have hrun:=Rz (P:=P) (w:=w) t u ty e i ht hi (a:=a) (sLen:=rows.length) (sCap:=cap) hn k3;have Kb:=hD.stamp (q:=q) hf .full (λb cap sz len he=>by cases he);refine ⟨_,_,_,hrun,Kb.1,?_,?_⟩
  ·refine ⟨Kb.2,rfl,rfl,rfl,uZ _,λ_ _ _ _=>rfl,λ_ _ _ _=>rfl,λb hb' ho=>?_,λid gG hfr=>?_,λid gG IV=>((hDE q).keep id gG IV).stamp (by rintro rfl;exact gG (Qq _)) rfl,λ_ _ x=>x⟩
   ·rcases ho.stamp with ho | ⟨_,_,_,he⟩
    ·exact (hDE q).own b hb' ho
    ·cases he
   ·have hne:id ≠ q:=by rintro rfl;exact gG (Qq _)
    exact fO.stamp hfr hne
  ·rw [Fu];exact .list (k1.mono Kb.2) k2' kz k3 k4 k5 (k6.mono Kb.2.G) kc (.inl ⟨by show (if wE.anon q 0=.anon q 0 then some _ else _)=_;rw [cX rfl],hcl⟩) .nil
 have full:cap=rows.length->∃v' w' c',(Builtin.append_ #[t,u] ty #[.slice a rows.length cap,x]).run P w=.ok v' w'/\gT c' ((m.drop o).tokset q 0 true) w'/\qK q c m w c' ((m.drop o).tokset q 0 true) w'/\CR c' [.list (.st (.anon q 0)) (rows++rows2)] [v']:=by
  intro hcl
  rcases Nat.eq_zero_or_pos rows2.length with h0 | h0
  ·exact still hcl h0
  ·exact grown zb
 cases o with
 | none=>cases happ
 | self=>cases happ
 | exact=>exact full k7.1
 | st st=>
   rcases k7 with ⟨_,hcl⟩ | ⟨b,hk,ha,hpos⟩
   ·exact full hcl
   ·have hlive:gJ m st=true:=by
     simp only [yG,xdv,List.isEmpty_iff] at happ
     rcases happ with e | e
     ·subst e;simp at hpos
     ·exact e
    obtain ⟨⟨cur,t',hB,hcs⟩,hfree,hnob,hlc,_⟩:=h.own st b cap sz rows.length hlive hk
    have hsz2:sz=i.size:=by
     obtain ⟨r,hr⟩:∃r,r ∈ rows:=by cases rows with | nil=>simp at hpos | cons r _=>exact ⟨r,zd⟩
     rw [←k2' r hr,s1 r hr]
    subst hsz2
    by_cases hroom:rows.length+rows2.length<=cap
    ·subst ha;have hfit:rows.length*i.size+news.length<=cur.size:=by rw [hn.size,hcs,←xdh];exact xdi _ hroom
     have hrun:=LC (P:=P) w t u ty e i ht hi hB hn hroom hfit
     have hno:¬ fN c (m.drop (.st st)) b:=by
      rintro (⟨id,gG,hr⟩ | ⟨s',cap',sz',len',hl',hk'⟩)
      ·have hid':m.blk id ≠ none:=by
        intro hx;obtain ⟨vs,hv⟩:∃vs,(m.drop (.st st)).blk id=some vs:=by cases hx2:(m.drop (.st st)).blk id with | none=>exact cM hx2 gG | some vs=>exact ⟨vs,rfl⟩
        obtain ⟨b2,_,_,hr2,hB2,_⟩:=hD.blk id vs hv;cases st with
        | anon i' j'=>rw [show (m.drop (.st (.anon i' j'))).blk id=m.blk id from rfl,hx] at hv;cases hv
        | priv b'=>rw [show (m.drop (.st (.priv b'))).blk id=m.blk id from rfl,hx] at hv;cases hv
        | cell i' o' v'=>
          have hv':(m.unself i' o').blk id=some vs:=hv;unfold M.unself at hv'
          split at hv'
          ·split at hv'
           ·rename_i xs hxs _ _ _;have hv2:(if id=i' then _ else m.blk id)=some vs:=hv'
            split at hv2
            ·rename_i e2;subst e2;rw [hx] at hxs;cases hxs
            ·rw [hx] at hv2;cases hv2
           ·rw [hx] at hv';cases hv'
          ·rw [hx] at hv';cases hv'
       exact hnob id hid' hr
      ·obtain ⟨hl1,hl2⟩:=hDl s' hl';exact hl2 (by rw [h.ownInj st s' b _ _ _ _ _ _ hlive hl1 hk hk'])
     obtain ⟨c',h1,h2,h3⟩:=Xp hf hD (hDE q) k1 k2 s1 s2 hsz hpos hroom k4 hno (.inr ⟨st,_,_,_,hlive,hk⟩) (λhl=>(h.lit b hl).2.2 (.inr ⟨st,_,_,_,hlive,hk⟩)) hB hcs hfree (by
      intro j u hu;have hl:0<es.length:=by have:=(xW.1 hu).1;omega
      obtain ⟨b2,o2,he,hG⟩:=k6 hl
      injection he with he;injection he with e1 e2;subst e1 e2
      exact hG j u hu) kc hn.one
     exact ⟨_,_,c',hrun,h1,h2,h3⟩
    ·exact grown zb
end
abbrev gE:=Nat->V
def upd (E:gE) (d:Nat) (v:V):gE:=λt=>if t=d then v else E t
def mZ (d:Option Nat) (v:V) (E:gE):gE:=match d with | some d=>upd E d v | none=>E
def of1:Value->V
 | .slice .none 0 0=>.list .exact []
 | v=>.lit v
def ofV:Value->V
 | .agg cs=>if cs.toList.all (λu=>u.oneCell') then .agg (cs.toList.map of1) else .lit (.agg cs)
 | v=>of1 v
def ev (m:M) (E:gE):Operand->V
 | .tmp t=>E t
 | .const v=>ofV v
 | .global g=>m.gl g
 | .func f=>.fn (.func f) [] []
structure tY (c:Conc) (E:gE) (a:Act) (N:Nat):Prop where
 size:N<=a.tmps.size
 fW:∀t,CR c [E t] [a.tmps.getD t undef]
section
variable {c c':Conc} {m m':M} {w w':World} {E:gE} {a:Act} {N:Nat}
theorem ZR (c:Conc) (v:Value):CR c [of1 v] [v]:=by
 unfold of1
 split
 ·exact .list (es:=[]) (sz:=1) .nil zd zc (uZ _) zc zd (λh=>by simp at h) zd ⟨rfl,λ_ h=>by cases h⟩ .nil
 ·exact .lit .nil
theorem UU (c:Conc) (vs:List Value):CR c (vs.map of1) vs:=by
 induction vs with
 | nil=>exact .nil
 | cons v vs ih=>exact (ZR c v).cons ih
theorem ofV_ok (c:Conc) (v:Value):CR c [ofV v] [v]:=by
 unfold ofV
 split
 ·rename_i cs
  split
  ·rename_i h;have:=CR.agg (us:=cs.toList.map of1) (xs:=cs.toList) (UU c cs.toList) (Rj.1 h) .nil;simpa using this
  ·exact .lit .nil
 ·exact ZR c v
theorem tY.mono (hl:Le c c') (h:tY c E a N):tY c' E a N:=⟨h.size,λt=>(h.fW t).mono hl⟩
theorem tY.put (h:tY c E a N) {v:V} {x:Value} (hx:CR c [v] [x]) {d:Option Nat} (hd:∀i,d=some i->i<N):tY c (mZ d v E) (a.put d x) N:=by
 cases d with
 | none=>exact h
 | some d=>
   have hdn:=hd d rfl;have hs:=h.size;refine ⟨by simpa [Act.put] using hs,λt=>?_⟩;show CR c [if t=d then v else E t] [(a.tmps.setIfInBounds d x).getD t undef]
   by_cases e:t=d
   ·subst e;rw [cX rfl];have:(a.tmps.setIfInBounds t x).getD t undef=x:=by simp [show t<a.tmps.size by omega]
    rw [this];exact hx
   ·rw [cE e];have:(a.tmps.setIfInBounds d x).getD t undef=a.tmps.getD t undef:=by simp [Array.getElem?_setIfInBounds_ne (λe2=>e e2.symm)]
    rw [this];exact h.fW t
theorem tY.ev (h:tY c E a N) (hR:gT c m w) (x:Operand):CR c [ev m E x] [a.eval x]:=by
 cases x with
 | tmp t=>exact h.fW t
 | const v=>exact ofV_ok c v
 | global g=>exact hR.gl g
 | func f=>exact .fn .nil .nil .nil
def V.cells:V->List V
 | .agg vs=>vs
 | v=>[v]
def V.one:V->Bool
 | .lit v=>v.oneCell'
 | .ptr _ _ | .list _ _ | .eptr _ _ _ | .arr _ _ _ _ | .fn _ _ _ | .pp _ _ | .vec _ _ _ | .nilv=>true
 | _=>false
def V.cellsOk:V->Bool
 | .agg _=>true
 | v=>v.one
theorem V.one_ok {v:V} {x:Value} (h:CR c [v] [x]) (ho:v.one=true):x.oneCell'=true:=by
 cases h <;> first | exact ho | rfl | cases ho
theorem Hw {v:V} {x:Value} (h:CR c [v] [x]) (ho:v.cellsOk=true):CR c v.cells x.cells.toList/\∀u ∈ x.cells.toList,u.oneCell'=true:=by
 cases v with
 | agg vs=>
   obtain ⟨xs,rfl,h1,h2⟩:=h.inv_agg;exact ⟨by simpa [Value.cells,V.cells] using h1,by simpa [Value.cells] using h2⟩
 | top=>cases ho
 | tup vs=>cases ho
 | _=>
   have h1:=V.one_ok h ho;have hc:x.cells.toList=[x]:=by cases x <;> first | rfl | cases h1
   rw [hc];exact ⟨h,by simpa using h1⟩
def Ti {α:Type} (P:Program):Sem α->Option α
 | .pure a=>some a
 | .program k=>Ti P (k P)
 | _=>none
theorem QD {α:Type} {P:Program} {s:Sem α} {r:α} (h:Ti P s=some r) (w:World):s.run P w=.ok r w:=by
 induction s with
 | pure a=>simp only [Ti,Option.some.injEq] at h;subst h;rfl
 | program k ih=>exact ih P h
 | _=>cases h
def uR (P:Program) (op:BinOp) (T:TypeId) (x y:Operand) (u v:V) (C:V->Prop):Prop:=
 match op,u,v with
 | .add,.lit (.int k a),.lit (.int k' b)=>k=k'/\C (.lit (.int k (k.wrap (a+b))))
 | .sub,.lit (.int k a),.lit (.int k' b)=>k=k'/\C (.lit (.int k (k.wrap (a - b))))
 | .mul,.lit (.int k a),.lit (.int k' b)=>k=k'/\C (.lit (.int k (k.wrap (a*b))))
 | .quo,.lit (.int k a),.lit (.int k' b)=>k=k'/\b ≠ 0/\C (.lit (.int k (k.wrap (a.tdiv b))))
 | .rem,.lit (.int k a),.lit (.int k' b)=>k=k'/\b ≠ 0/\C (.lit (.int k (a.tmod b)))
 | .shl,.lit (.int k a),.lit (.int _ b)=>0<=b/\C (.lit (.int k (k.wrap (a*2 ^ (min b.toNat k.bits)))))
 | .shr,.lit (.int k a),.lit (.int _ b)=>0<=b/\C (.lit (.int k (a.fdiv (2 ^ (min b.toNat k.bits)))))
 | .and,.lit (.int k a),.lit (.int k' b)=>k=k'/\C (.lit (.int k (k.wrap (BitVec.ofInt k.bits a &&& BitVec.ofInt k.bits b).toNat)))
 | .or,.lit (.int k a),.lit (.int k' b)=>k=k'/\C (.lit (.int k (k.wrap (BitVec.ofInt k.bits a ||| BitVec.ofInt k.bits b).toNat)))
 | .xor,.lit (.int k a),.lit (.int k' b)=>k=k'/\C (.lit (.int k (k.wrap (BitVec.ofInt k.bits a ^^^ BitVec.ofInt k.bits b).toNat)))
 | .andNot,.lit (.int k a),.lit (.int k' b)=>k=k'/\C (.lit (.int k (k.wrap (BitVec.ofInt k.bits a &&& ~~~ BitVec.ofInt k.bits b).toNat)))
 | .eql,.lit (.int k a),.lit (.int k' b)=>k=k'/\C (.lit (.bool (a == b)))
 | .neq,.lit (.int k a),.lit (.int k' b)=>k=k'/\C (.lit (.bool (a != b)))
 | .lss,.lit (.int k a),.lit (.int k' b)=>k=k'/\C (.lit (.bool (decide (a<b))))
 | .leq,.lit (.int k a),.lit (.int k' b)=>k=k'/\C (.lit (.bool (decide (a<=b))))
 | .gtr,.lit (.int k a),.lit (.int k' b)=>k=k'/\C (.lit (.bool (decide (a > b))))
 | .geq,.lit (.int k a),.lit (.int k' b)=>k=k'/\C (.lit (.bool (decide (a ≥ b))))
 | .add,.lit (.string a),.lit (.string b)=>a.size+b.size<=4611686018427387904/\C (.lit (.string (a++b)))
 | .eql,.lit (.string a),.lit (.string b)=>C (.lit (.bool (a.toList == b.toList)))
 | .neq,.lit (.string a),.lit (.string b)=>C (.lit (.bool (!(a.toList == b.toList))))
 | op,.lit a,.lit b=>∃r,Ti P (do eqGuard op T x y a b;binOp op T a b)=some r/\C (.lit r)
 | op,.agg us,.agg vs=>∃(xs ys:List Value) (r:Value),us=xs.map V.lit/\vs=ys.map V.lit/\Ti P (do eqGuard op T x y (.agg xs.toArray) (.agg ys.toArray);binOp op T (.agg xs.toArray) (.agg ys.toArray))=some r/\C (.lit r)
 | _,_,_=>False
theorem CR.lits {xs ys:List Value} (h:CR c (xs.map V.lit) ys):ys=xs:=by
 induction xs generalizing ys with
 | nil=>exact h.inv_nil
 | cons x xs ih=>
   obtain ⟨y,ys,rfl,h1,h2⟩:=h.uncons;rw [ih h2,h1.inv_lit]
theorem Te (P:Program) (T:TypeId) (x y:Operand) {a b:ByteArray} (w:World) (h:a.size+b.size<=4611686018427387904):(do eqGuard .add T x y (.string a) (.string b);binOp .add T (.string a) (.string b):Sem Value).run P w=.ok (.string (a++b)) w:=by
 have h1:¬ (9223372036854775807<(a.size:Int)+(b.size:Int)):=by omega
 have:IntKind.i64.max=9223372036854775807:=by decide
 simp [eqGuard,binOp,Op.stringOp,this,h1]
theorem sbin_ok {P:Program} {op:BinOp} {T:TypeId} {x y:Operand} {u v:V} {C:V->Prop} (h:uR P op T x y u v C) {a b:Value} (hu:CR c [u] [a]) (hv:CR c [v] [b]) (w:World) :
  ∃r,C r/\∃z,(do eqGuard op T x y a b;binOp op T a b:Sem Value).run P w=.ok z w/\CR c [r] [z]:=by
 unfold uR at h
 split at h
 all_goals first
  | exact h.elim
  | (obtain rfl:=hu.inv_lit
     obtain rfl:=hv.inv_lit
     first
      | (refine ⟨_,h,_,?_,.lit .nil⟩
         simp [eqGuard,binOp,Op.stringOp]
         done)
      | (have hr:=h.choose_spec.1
         exact ⟨_,h.choose_spec.2,_,QD hr w,.lit .nil⟩)
      | (have h1:=h.1
         have h2:=h.2
         first
          | (subst h1
             refine ⟨_,h2,_,?_,.lit .nil⟩;simp [eqGuard,binOp,Op.intArith,Op.intBits,Op.intCmp]
             done)
          | (subst h1
             have h3:=h2.1;refine ⟨_,h2.2,_,?_,.lit .nil⟩;simp [eqGuard,binOp,Op.intDiv,h3]
             done)
          | (refine ⟨_,h2,_,?_,.lit .nil⟩
             have h3:=Int.not_lt.2 h1;simp [eqGuard,binOp,Op.shift,h3]
             done)
          | (refine ⟨_,h2,_,?_,.lit .nil⟩
             exact Te P T x y w h1)))
  | (obtain ⟨xs,ys,r,rfl,rfl,hr,hC⟩:=h
     obtain ⟨xs',rfl,h1,_⟩:=hu.inv_agg;obtain ⟨ys',rfl,h2,_⟩:=hv.inv_agg;rw [h1.lits,h2.lits];exact ⟨_,hC,r,QD hr w,.lit .nil⟩)
end
