import Derived.Test.YtnheknbibdgglaaGreatDoorTA1
import Derived.Laws.IdiomStrings
set_option linter.all false
namespace Go.Proofs.YtnheknbibdgglaaGreatDoor.Abs
open Go.RowKit
section
variable {P:Program} {c c':Conc} {m m':M} {w w':World}
def bZ (P:Program) (T:TypeId):Option Nat:=(P.info? T).map (·.size)
def aggD:TypeDesc->Bool
 | .struct _ | .array _ _=>true
 | _=>false
def pI (P:Program) (T:TypeId):Option Bool:=(P.underlying T).map aggD
theorem kF {T:TypeId} {n:Nat} (h:bZ P T=some n) (w:World):(sizeOf T).run P w=.ok n w:=by
 unfold bZ at h;cases hq:P.info? T with
 | none=>simp [hq] at h
 | some i=>simp [hq] at h;simp [sizeOf,typeInfo,hq,h]
theorem Gp {T:TypeId} {b:Bool} (h:pI P T=some b) (w:World):(isAgg T).run P w=.ok b w:=by
 unfold pI at h;cases hq:P.underlying T with
 | none=>simp [hq] at h
 | some d=>
   rw [hq,NG] at h
   injection h with h
   unfold isAgg;rw [Sem.run_bind,run_underlying hq w];cases d <;> simp_all [aggD]
def M.hset (m:M) (id:Pa) (vs:List V):M:={ m with hp:=λi=>if i=id then some vs else m.hp i }
def V.toHp:V->V
 | .list .exact []=>.nilv
 | .list _ rows=>.list .none rows
 | v=>v
def Hj (vs:List V) (off:Nat):List V->List V
 | []=>vs
 | x::xs=>Hj (vs.set off x) (off+1) xs
theorem V.toHp_ok {v:V} {x:Value} (h:CR c [v] [x]):CR c [v.toHp] [x]:=by
 cases v with
 | list o rows=>
   obtain ⟨a,cap,es,sz,rfl,k1,k2,kz,k3,k4,k5,k6,kc,k7⟩:=h.inv_list;have hn:CR c [.list .none rows] [.slice a rows.length cap]:=.list k1 k2 kz k3 k4 k5 k6 kc trivial .nil;cases o with
   | exact=>
     cases rows with
     | nil=>
       obtain ⟨h0,_⟩:=k7;simp only [sY] at h0;subst h0;exact .nilv .nil
     | cons r rows=>exact hn
   | _=>exact hn
 | _=>exact h
theorem BJ {vs:List V} {xs:List Value} (h:CR c vs xs):CR c (vs.map V.toHp) xs:=by
 induction vs generalizing xs with
 | nil=>exact h
 | cons v vs ih=>
   obtain ⟨x,xs,rfl,h1,h2⟩:=h.uncons;exact (V.toHp_ok h1).cons (ih h2)
theorem Tb {id:Pa} {vs vs':List V} (hv:m.hp id=some vs) (s:tJ):fN (m.hset id vs') s=fN m s:=by
 cases s with
 | priv i=>
   show (if i=id then some vs' else m.hp i).isSome=(m.hp i).isSome
   by_cases e:i=id
   ·rw [if_pos e,e,hv];rfl
   ·rw [if_neg e]
 | _=>rfl
theorem fX.hwrite (h:fX c m w) (q:Pa) {id:Pa} {vs vs':List V} {b n:Nat} {t:TypeId} {cs cs':Array Value} (hv:m.hp id=some vs) (hk:c.κ (.priv id)=some (.arr b n 1 0)) (hB:AT w b t cs) (hB':AT w' b t cs') (hsz:cs'.size=cs.size) (hg:w.grownBy w' (some b))
  (hl:vs'.length<=cs'.size) (hcr:CR c vs' (cs'.toList.take vs'.length)) (hone:∀u ∈ cs'.toList,u.oneCell'=true):fX c (m.hset id vs') w'/\pA q c m w c (m.hset id vs') w':=by
 have hlv:=Tb (vs':=vs') hv
 have hown:∀b',eY c (m.hset id vs') b' ↔ eY c m b':=by
  intro b'
  constructor
  ·rintro (⟨i,hi,hr⟩ | ⟨s,cap,sz,len,hl,hk⟩)
   ·exact .inl ⟨i,hi,hr⟩
   ·exact .inr ⟨s,cap,sz,len,(hlv s).symm.trans hl,hk⟩
  ·rintro (⟨i,hi,hr⟩ | ⟨s,cap,sz,len,hl,hk⟩)
   ·exact .inl ⟨i,hi,hr⟩
   ·exact .inr ⟨s,cap,sz,len,(hlv s).trans hl,hk⟩
 have hO:=h.priv_out hv hk
 have hcs:cs.size=n:=by
  obtain ⟨⟨ys,t',hB2,hs⟩,_⟩:=h.own (.priv id) b n 1 0 (fX.priv_live hv) hk
  have:cs=ys:=by
   have h1:w.heap[b]? = some (.cells cs t (0,0)):=hB;have h2:w.heap[b]? = some (.cells ys t' (0,0)):=hB2;rw [h1] at h2;injection h2 with h2;injection h2
  rw [this,hs,PH]
 have hne:∀b',b' ≠ b->some b' ≠ some b:=λb' e1 e2=>e1 (by injection e2);refine ⟨⟨h.com.grown hg (OB hO),λi xs hx=>?_,h.inj,λs b' cap sz len hl' hk'=>?_,λs s' b' cap sz len cap' sz' len' h1 h2=>h.ownInj s s' b' cap sz len cap' sz' len' ((hlv s).symm.trans h1) ((hlv s').symm.trans h2),h.ver,h.gl,h.ver0,JR h.base hg.size,λb' hb=>⟨(h.lit b' hb).1,Ul (h.lit b' hb).2.1 hg.size,λho=>(h.lit b' hb).2.2 ((hown b').1 ho)⟩,λi xs hx=>?_⟩,?_⟩
 ·obtain ⟨b',ys,t',hr',hB2,k1,k2,k3⟩:=h.blk i xs hx;exact ⟨b',ys,t',hr',hB2.grown hg (hne b' λe=>h.priv_id hv hk (by rw [show m.blk i=some xs from hx];simp) (by rw [←e];exact hr')),k1,k2,k3⟩
 ·have hl0:=(hlv s).symm.trans hl';obtain ⟨⟨ys,t',hB2,hs⟩,k⟩:=h.own s b' cap sz len hl0 hk';refine ⟨?_,k⟩
  by_cases e:b'=b
  ·subst e;have h1:w.heap[b']? = some (.cells cs t (0,0)):=hB;have h2:w.heap[b']? = some (.cells ys t' (0,0)):=hB2;rw [h1] at h2;injection h2 with h2;injection h2 with h3
   exact ⟨cs',t,hB',by rw [hsz,h3,hs]⟩
  ·exact ⟨ys,t',hB2.grown hg (hne b' e),hs⟩
 ·have hx':(if i=id then some vs' else m.hp i)=some xs:=hx
  by_cases e:i=id
  ·subst e;rw [if_pos rfl] at hx'
   injection hx' with hx'
   subst hx';exact ⟨b,n,hk,cs',t,hB',hl,hcr,hone⟩
  ·rw [if_neg e] at hx'
   exact (h.hpr i xs hx').mono (.refl c) λb2 n2 cs2 t2 hk2 hB2=>hB2.grown hg (hne b2 λe2=>e (by
    have:=h.priv_arr hv hk (s:=.priv i) (fX.priv_live hx') (by rw [hk2,e2])
    injection this))
 ·exact ⟨.refl c,hg.os,hg.tape,hg.output,hg.size,λb' hb' ho _=>hg.block b' hb' (λe=>ho (by injection e with e;subst e;exact fX.priv_own hv hk)),λ_ _ _ _=>rfl,λb' _ ho=>(hown b').1 ho,λ_ _ x=>x,λi _ hb=>⟨hb.blk,hb.anon,hb.cell,hb.ver,hb.tok⟩,λ_ _ x=>x⟩
theorem Rn {q id:Pa} {b n:Nat} {vs:List V}:∀ {m:M} {w:World} {xs:List Value} {off i o0:Nat} {cur:List V},fX c m w->c.κ (.priv id)=some (.arr b n 1 0)->m.hp id=some cur->off+vs.length<=cur.length->o0+i=off->CR c vs xs->(∀u ∈ xs,u.oneCell'=true) ->
  ∃w',(storeCells ⟨b,o0,none⟩ xs i).run P w=.ok () w'/\fX c (m.hset id (Hj cur off vs)) w'/\pA q c m w c (m.hset id (Hj cur off vs)) w':=by
 induction vs with
 | nil=>
   intro m w xs off i o0 cur h hk hb hl hi hx h1;rw [hx.inv_nil]
   have e:m.hset id cur=m:=by
    have:(λi=>if i=id then some cur else m.hp i)=m.hp:=by
     funext i
     by_cases e:i=id
     ·rw [if_pos e,e,hb]
     ·rw [if_neg e]
    show M.mk m.blk m.ver m.tok m.gl _=_;rw [this]
   rw [Hj,e];exact ⟨w,rfl,h,.refl q c m w⟩
 | cons v vs ih=>
   intro m w xs off i o0 cur h hk hb hl hi hx h1;obtain ⟨x,xs,rfl,hx1,hx2⟩:=hx.uncons;simp only [pX] at hl;obtain ⟨b',n',hk',cs,t,hB,hlc,hcr,hone⟩:=h.hpr id cur hb;rw [hk] at hk';injection hk' with hk';injection hk' with e1 e2;subst e1 e2
   have hB':=hB.set_ off x;have hg:=gset (Hu w (some b)) b off x (.inl rfl);have hoff:off<cs.size:=by omega
   obtain ⟨hR1,hE1⟩:=h.hwrite q (vs':=cur.set off v) hb hk hB hB' (by simp) hg (by simpa using hlc) (by
    rw [vK,xed,List.take_set];exact hcr.set off hx1) (by
    intro u hu;rw [xed] at hu
    rcases Uj hu with hu | rfl
    ·exact hone u hu
    ·exact h1 u (by simp))
   have hb1:(m.hset id (cur.set off v)).hp id=some (cur.set off v):=by show (if id=id then some _ else _)=_;rw [if_pos rfl]
   obtain ⟨w2,hrun,hR2,hE2⟩:=ih (off:=off+1) (i:=i+1) (o0:=o0) hR1 hk hb1 (by rw [vK];omega) (by omega) hx2 (λu hu=>h1 u (by simp [hu]))
   have e:(m.hset id (cur.set off v)).hset id (Hj (cur.set off v) (off+1) vs)=m.hset id (Hj cur off (v::vs)):=by
    show M.mk _ m.ver m.tok m.gl _=M.mk _ m.ver m.tok m.gl _
    congr 1
    funext i
    show (if i=id then _ else if i=id then _ else m.hp i)=if i=id then _ else m.hp i
    by_cases e:i=id
    ·rw [if_pos e,if_pos e];rfl
    ·rw [if_neg e,if_neg e,if_neg e]
   rw [e] at hR2 hE2;refine ⟨w2,?_,hR2,hE1.trans hE2⟩;have hx1':=h1 x (by simp);have hu:w.cell? ⟨b,off,none⟩=some cs[off]:=by rw [hB.cell];simp [hoff]
   have hfro:=hB.frozen off;rw [storeCells];rw [Sem.run_bind,mW,hi]
   have hone:(store ⟨b,off,none⟩ x).run P w=.ok () (w.setCell ⟨b,off,none⟩ x):=by
    unfold store
    cases x <;> first
     | (simp [Sem.run,hu,hfro];done)
     | (cases hx1')
   rw [hone];exact hrun
def Bv (m:M):V->Option (List V)
 | .ptr id off=>(m.blk id).map λvs=>(FT (m.ver id) id vs).drop off
 | .eptr rows i off=>rows[i]?.map (·.drop off)
 | .pp id off=>(m.hp id).map (·.drop off)
 | _=>none
theorem Ld (h:fX c m w) {v:V} {x:Value} (hv:CR c [v] [x]) {vs:List V} (hc:Bv m v=some vs) :
  ∃b o xs,x=.pointer (some ⟨b,o,none⟩)/\CR c vs xs/\(∀j u,xs[j]? = some u->w.cell? ⟨b,o+j,none⟩=some u)/\∀u ∈ xs,u.oneCell'=true:=by
 cases v with
 | ptr id off=>
   obtain ⟨b,hr,rfl⟩:=hv.inv_ptr;simp only [Bv,Option.map_eq_some_iff] at hc;obtain ⟨us,hu,rfl⟩:=hc;obtain ⟨b',cs,t,hr',hB,k1,k2,k3⟩:=h.blk id us hu;rw [hr] at hr';injection hr' with e;subst e
   refine ⟨b,off,cs.toList.drop off,rfl,k1.drop off,λj u hj=>?_,λu hu=>k3 u (Uf hu)⟩;rw [hB.cell];simpa [xdi] using hj
 | eptr rows i off=>
   obtain ⟨b,o,sz,es,rfl,k1,k2,k3,k4⟩:=hv.inv_eptr;simp only [Bv,Option.map_eq_some_iff] at hc;obtain ⟨r,hr,rfl⟩:=hc;have hf:=HJ k2 hr;refine ⟨b,o+i*sz+off,((es.drop (i*sz)).take sz).drop off,rfl,?_,λj u hj=>?_,λu hu=>k4 u (Uf (Py (Uf hu)))⟩
   ·have:=((k1.drop (i*sz)).take sz).drop off;rw [hf.2] at this;exact this
   ·rw [xdi,xdj] at hj
    split at hj
    ·rw [xdi] at hj;have:=h.com _ _ _ (k3 _ u hj);rw [show o+i*sz+off+j=o+(i*sz+(off+j)) by omega];exact this
    ·cases hj
 | pp id off=>
   obtain ⟨b,n,hk,rfl⟩:=hv.inv_pp;simp only [Bv,Option.map_eq_some_iff] at hc;obtain ⟨us,hu,rfl⟩:=hc;obtain ⟨b',n',hk',cs,t,hB,hl,hcr,hone⟩:=h.hpr id us hu;rw [hk] at hk';injection hk' with hk';injection hk' with e1 e2;subst e1 e2
   refine ⟨b,off,(cs.toList.take us.length).drop off,rfl,hcr.drop off,λj u hj=>?_,λu hu=>hone u (Py (Uf hu))⟩;rw [hB.cell];rw [xdi,xdj] at hj
   split at hj
   ·simpa using hj
   ·cases hj
 | _=>cases hc
def V.shared:V->V
 | .list _ rows=>.list .none rows
 | v=>v
theorem V.shared_ok {v:V} {x:Value} (h:CR c [v] [x]):CR c [v.shared] [x]:=by
 cases v with
 | list o rows=>
   obtain ⟨a,cap,es,sz,rfl,k1,k2,kz,k3,k4,k5,k6,kc,k7⟩:=h.inv_list;exact .list k1 k2 kz k3 k4 k5 k6 kc trivial .nil
 | _=>exact h
theorem EY {vs:List V} {xs:List Value} (h:CR c vs xs):CR c (vs.map V.shared) xs:=by
 induction vs generalizing xs with
 | nil=>exact h
 | cons v vs ih=>
   obtain ⟨x,xs,rfl,h1,h2⟩:=h.uncons;exact (V.shared_ok h1).cons (ih h2)
def uO (P:Program) (m:M) (T:TypeId) (v:V) (C:V->Prop):Prop:=
 match Bv m v with
 | none=>False
 | some vs=>
   match pI P T with
   | some true=>(match bZ P T with | some n=>n<=vs.length/\C (.agg ((vs.take n).map V.shared)) | none=>False)
   | some false=>(match vs with | u::_=>C u | []=>False)
   | none=>False
theorem Of {T:TypeId} {v:V} {C:V->Prop} (hs:uO P m T v C) (h:fX c m w) {x:Value} (hv:CR c [v] [x]):∃r,C r/\∃z,(Instr.loadAt T x).run P w=.ok z w/\CR c [r] [z]:=by
 unfold uO at hs
 split at hs
 ·exact hs.elim
 ·rename_i vs hc;obtain ⟨b,o,xs,rfl,k1,k2,k3⟩:=Ld h hv hc
  split at hs
  ·rename_i ha
   split at hs
   ·rename_i n hn;obtain ⟨hl,hC⟩:=hs;refine ⟨_,hC,.agg (xs.take n).toArray,?_,.agg (EY (k1.take n)) (λu hu=>k3 u (Py hu)) .nil⟩;have hlen:(xs.take n).length=n:=by rw [JQ,k1.len];omega
    have hld:=run_loadCells_list (P:=P) w ⟨b,o,none⟩ (xs.take n) (λj u hj=>by
     rw [mW];rw [xdj] at hj
     split at hj
     ·exact k2 j u hj
     ·cases hj)
    rw [hlen] at hld;simp [Instr.loadAt,Instr.sureAddr,loadVar,Gp ha,kF hn,hld]
   ·exact hs.elim
  ·rename_i ha
   split at hs
   ·rename_i u us;obtain ⟨y,ys,rfl,h1,h2⟩:=k1.uncons;have hcell:=k2 0 y rfl;rw [Ui] at hcell;refine ⟨_,hs,y,?_,h1⟩;simp [Instr.loadAt,Instr.sureAddr,loadVar,Gp ha,hcell]
   ·exact hs.elim
  ·exact hs.elim
def M.stN (m:M) (id:Pa) (off:Nat):List V->M
 | []=>m
 | v::vs=>(match m.blk id with | some cs=>m.st1 id cs off v | none=>m).stN id (off+1) vs
theorem st1_blk {id:Pa} {cs:List V} {off:Nat} {v:V}:∃cs',(m.st1 id cs off v).blk id=some cs'/\cs'.length=cs.length:=by
 cases v with
 | list o rows=>
   unfold M.st1;simp only
   split
   ·exact ⟨_,by show (if id=id then some _ else _)=_;rw [if_pos rfl],by simp⟩
   ·exact ⟨_,by show (if id=id then some _ else _)=_;rw [if_pos rfl],by simp⟩
 | _=>exact ⟨_,by show (if id=id then some _ else _)=_;rw [if_pos rfl],by simp⟩
theorem stN_ok {q id:Pa} {b:Nat} {vs:List V}:∀ {c:Conc} {m:M} {w:World} {xs:List Value} {off i o0:Nat} {cur:List V},fX c m w->c.ρ id=some b->m.blk id=some cur->off+vs.length<=cur.length->o0+i=off->CR c vs xs->(∀u ∈ xs,u.oneCell'=true) ->
  ∃c' w',(storeCells ⟨b,o0,none⟩ xs i).run P w=.ok () w'/\fX c' (m.stN id off vs) w'/\pA q c m w c' (m.stN id off vs) w':=by
 induction vs with
 | nil=>
   intro c m w xs off i o0 cur h hr hb hl hi hx h1;rw [hx.inv_nil];exact ⟨c,w,rfl,h,.refl q c m w⟩
 | cons v vs ih=>
   intro c m w xs off i o0 cur h hr hb hl hi hx h1;obtain ⟨x,xs,rfl,hx1,hx2⟩:=hx.uncons;simp only [pX] at hl;obtain ⟨b',hr',hcell,hfro,c1,hR1,hE1⟩:=h.st1 q (id:=id) (off:=off) hb (by omega) hx1 (h1 x (by simp));rw [hr] at hr';injection hr' with e;subst e
   obtain ⟨cur',hcur',hlen'⟩:=st1_blk (m:=m) (id:=id) (cs:=cur) (off:=off) (v:=v);obtain ⟨c2,w2,hrun,hR2,hE2⟩:=ih (off:=off+1) (i:=i+1) (o0:=o0) hR1 (hE1.le.ρ _ _ hr) hcur' (by omega) (by omega) (hx2.mono hE1.le) (λu hu=>h1 u (by simp [hu]))
   have GW:M.stN m id off (v::vs)=M.stN (m.st1 id cur off v) id (off+1) vs:=by
    simp only [M.stN,hb]
   rw [GW];refine ⟨c2,w2,?_,hR2,hE1.trans hE2⟩;have hx1':=h1 x (by simp)
   have hsome:∃u,w.cell? ⟨b,off,none⟩=some u:=by
    unfold World.cell?;cases hq:w.heap[b]? with
    | none=>simp [hq] at hcell
    | some ob=>
      cases ob with
      | cells cs t fr=>simp [hq] at hcell;exact ⟨cs[off],by simp [hcell]⟩
      | _=>simp [hq] at hcell
   obtain ⟨u,hu⟩:=hsome;rw [storeCells];rw [Sem.run_bind,mW,hi]
   have hone:(store ⟨b,off,none⟩ x).run P w=.ok () (w.setCell ⟨b,off,none⟩ x):=by
    unfold store
    cases x <;> first
     | (simp [Sem.run,hu,hfro];done)
     | (cases hx1')
   rw [hone];exact hrun
def BM (P:Program) (m:M) (T:TypeId) (a v:V) (C:M->Prop):Prop:=
 match a with
 | .ptr id off=>
   match m.blk id,bZ P T with
   | some vs,some n=>v.cellsOk=true/\v.cells.length=n/\off+n<=vs.length/\C (m.stN id off v.cells)
   | _,_=>False
 | .pp id off=>
   match m.hp id,bZ P T with
   | some vs,some n=>v.cellsOk=true/\v.cells.length=n/\off+n<=vs.length/\C (m.hset id (Hj vs off (v.cells.map V.toHp)))
   | _,_=>False
 | _=>False
theorem Sq {T:TypeId} {a v:V} {C:M->Prop} (hs:BM P m T a v C) (h:fX c m w) (q:Pa) {x y:Value} (ha:CR c [a] [x]) (hv:CR c [v] [y]) :
  ∃m',C m'/\∃c' w',(Instr.storeAt T x y).run P w=.ok () w'/\fX c' m' w'/\pA q c m w c' m' w':=by
 unfold BM at hs
 split at hs
 ·rename_i id off
  split at hs
  ·rename_i vs n hb hn;obtain ⟨h1,h2,h3,hC⟩:=hs;obtain ⟨b,hr,rfl⟩:=ha.inv_ptr;obtain ⟨k1,k2⟩:=EM hv h1;obtain ⟨c',w',hrun,hR,hE⟩:=stN_ok (P:=P) (q:=q) (i:=0) (o0:=off) h hr hb (by omega) rfl k1 k2;refine ⟨_,hC,c',w',?_,hR,hE⟩;have hsz:y.cells.size=n:=by have:=k1.len;simp at this;omega
   simp [Instr.storeAt,Instr.sureAddr,storeVar,kF hn,hsz,hrun]
  ·exact hs.elim
 ·rename_i id off
  split at hs
  ·rename_i vs n hb hn;obtain ⟨h1,h2,h3,hC⟩:=hs;obtain ⟨b,n',hk,rfl⟩:=ha.inv_pp;obtain ⟨k1,k2⟩:=EM hv h1;obtain ⟨w',hrun,hR,hE⟩:=Rn (P:=P) (q:=q) (vs:=v.cells.map V.toHp) (i:=0) (o0:=off) h hk hb (by rw [Hh];omega) rfl (BJ k1) k2;refine ⟨_,hC,c,w',?_,hR,hE⟩;have hsz:y.cells.size=n:=by have:=k1.len;simp at this;omega
   simp [Instr.storeAt,Instr.sureAddr,storeVar,kF hn,hsz,hrun]
  ·exact hs.elim
 ·exact hs.elim
def kU (P:Program) (T:TypeId) (f:Nat):Option Nat:=
 match P.underlying T with
 | some (.struct fs)=>(match fs[f]? with | some fd=>(match bZ P fd.type with | some (_+1)=>some fd.offset | _=>none) | none=>none)
 | _=>none
def Ak (P:Program) (T:TypeId) (f:Nat) (v:V) (C:V->Prop):Prop:=
 match kU P T f with
 | some fo=>(match v with | .ptr id off=>C (.ptr id (off+fo)) | .eptr rows i off=>C (.eptr rows i (off+fo)) | .pp id off=>C (.pp id (off+fo)) | _=>False)
 | none=>False
theorem Gn {T f fo b o:Nat} (h:kU P T f=some fo) (w:World):(Instr.fieldAt T (.pointer (some ⟨b,o,none⟩)) f).run P w=.ok (.pointer (some ⟨b,o+fo,none⟩)) w:=by
 unfold kU at h
 split at h
 ·rename_i fs hu
  split at h
  ·rename_i fd hf
   split at h
   ·rename_i n hn
    injection h with h;subst h
    have hz:=kF hn w;simp [Instr.fieldAt,run_underlying hu,hf,Instr.sureAddr,fieldPlace,hz,mW]
   ·cases h
  ·cases h
 ·cases h
theorem CR.eptr_add {rows:List (List V)} {i off fo b o:Nat} (h:CR c [.eptr rows i off] [.pointer (some ⟨b,o,none⟩)]):CR c [.eptr rows i (off+fo)] [.pointer (some ⟨b,o+fo,none⟩)]:=by
 obtain ⟨b',o',sz,es,he,k1,k2,k3,k4⟩:=h.inv_eptr
 injection he with he;injection he with he;injection he with e1 e2;subst e1 e2
 have:=CR.eptr (i:=i) (off:=off+fo) k1 k2 k3 k4 .nil;rw [show o'+i*sz+off+fo=o'+i*sz+(off+fo) by omega];exact this
theorem Qd {T f:Nat} {v:V} {C:V->Prop} (hs:Ak P T f v C) {x:Value} (hv:CR c [v] [x]) (w:World):∃r,C r/\∃z,(Instr.fieldAt T x f).run P w=.ok z w/\CR c [r] [z]:=by
 unfold Ak at hs
 split at hs
 ·rename_i fo hf
  split at hs
  ·obtain ⟨b,hr,rfl⟩:=hv.inv_ptr;exact ⟨_,hs,_,Gn hf w,.ptr hr .nil⟩
  ·obtain ⟨b,o,sz,es,rfl,_⟩:=hv.inv_eptr;exact ⟨_,hs,_,Gn hf w,hv.eptr_add⟩
  ·obtain ⟨b,n,hk,rfl⟩:=hv.inv_pp;exact ⟨_,hs,_,Gn hf w,.pp hk .nil⟩
  ·exact hs.elim
 ·exact hs.elim
def Aj (P:Program) (T:TypeId) (v ix:V) (C:V->Prop):Prop:=
 match P.underlying T,v,ix with
 | some (.slice e),.list _ rows,.lit (.int _ n)=>(match bZ P e with | some s=>0<=n/\n<rows.length/\(∀r ∈ rows,r.length=s)/\C (.eptr rows n.toNat 0) | none=>False)
 | some (.slice e),.arr id off len _,.lit (.int _ n)=>(match bZ P e with | some s=>0<=n/\n<len/\C (.ptr id (off+n.toNat*s)) | none=>False)
 | some (.array len e),.ptr id off,.lit (.int _ n)=>(match bZ P e with | some s=>0<=n/\n<len/\C (.ptr id (off+n.toNat*s)) | none=>False)
 | some (.array len e),.eptr rows i off,.lit (.int _ n)=>(match bZ P e with | some s=>0<=n/\n<len/\C (.eptr rows i (off+n.toNat*s)) | none=>False)
 | some (.slice e),.vec id sz len,.lit (.int _ n)=>(match bZ P e with | some s=>sz=s/\0<=n/\n<len/\C (.pp id (n.toNat*s)) | none=>False)
 | some (.array len e),.pp id off,.lit (.int _ n)=>(match bZ P e with | some s=>0<=n/\n<len/\C (.pp id (off+n.toNat*s)) | none=>False)
 | _,_,_=>False
theorem PY {T:Nat} {v ix:V} {C:V->Prop} (hs:Aj P T v ix C) {x y:Value} (hv:CR c [v] [x]) (hi:CR c [ix] [y]) (w:World):∃r,C r/\∃z,(Instr.indexAt T x y).run P w=.ok z w/\CR c [r] [z]:=by
 unfold Aj at hs
 split at hs
 ·rename_i e o rows k n hu;obtain rfl:=hi.inv_lit
  split at hs
  ·rename_i s hsz;obtain ⟨h0,hl,hr,hC⟩:=hs;obtain ⟨a,cap,es,sz,rfl,k1,k2,kz,k3,k4,k5,k6,kc,k7⟩:=hv.inv_list;obtain ⟨b,off,rfl⟩:=k5 (by omega)
   have hsz2:sz=s:=by
    obtain ⟨r,hr'⟩:∃r,r ∈ rows:=by cases rows with | nil=>simp at hl;omega | cons r _=>exact ⟨r,by simp⟩
    rw [←k2 r hr',hr r hr']
   subst hsz2;have hlen:=yJ k1 k2;have hpos:0<es.length:=by rw [hlen];exact Nat.mul_pos (by omega) kz
   obtain ⟨b',off',he,hG⟩:=k6 hpos
   injection he with he;injection he with e1 e2;subst e1 e2
   refine ⟨_,hC,.pointer (some ⟨b,off+n.toNat*sz+0,none⟩),?_,.eptr k1 k2 hG kc .nil⟩;simp [Instr.indexAt,asIntOf,run_underlying hu,h0,hl,kF hsz,mW]
  ·exact hs.elim
 ·rename_i e id off len cap k n hu;obtain rfl:=hi.inv_lit
  split at hs
  ·rename_i s hsz;obtain ⟨h0,hl,hC⟩:=hs;obtain ⟨b,hr,rfl,_⟩:=hv.inv_arr;refine ⟨_,hC,.pointer (some ⟨b,off+n.toNat*s,none⟩),?_,.ptr hr .nil⟩;simp [Instr.indexAt,asIntOf,run_underlying hu,h0,hl,kF hsz,mW]
  ·exact hs.elim
 ·rename_i len e id off k n hu;obtain rfl:=hi.inv_lit
  split at hs
  ·rename_i s hsz;obtain ⟨h0,hl,hC⟩:=hs;obtain ⟨b,hr,rfl⟩:=hv.inv_ptr;refine ⟨_,hC,.pointer (some ⟨b,off+n.toNat*s,none⟩),?_,.ptr hr .nil⟩;simp [Instr.indexAt,asIntOf,run_underlying hu,h0,hl,kF hsz,mW,Instr.sureAddr]
  ·exact hs.elim
 ·rename_i len e rows i off k n hu;obtain rfl:=hi.inv_lit
  split at hs
  ·rename_i s hsz;obtain ⟨h0,hl,hC⟩:=hs;obtain ⟨b,o,sz,es,rfl,_⟩:=hv.inv_eptr;refine ⟨_,hC,.pointer (some ⟨b,o+i*sz+off+n.toNat*s,none⟩),?_,hv.eptr_add⟩;simp [Instr.indexAt,asIntOf,run_underlying hu,h0,hl,kF hsz,mW,Instr.sureAddr]
  ·exact hs.elim
 ·rename_i e id sz len k n hu;obtain rfl:=hi.inv_lit
  split at hs
  ·rename_i s hsz;obtain ⟨rfl,h0,hl,hC⟩:=hs;obtain ⟨b,n',cap,hk,hn',hz,hlc,hcm,rfl⟩:=hv.inv_vec;refine ⟨_,hC,.pointer (some ⟨b,n.toNat*sz,none⟩),?_,.pp hk .nil⟩;simp [Instr.indexAt,asIntOf,run_underlying hu,h0,hl,kF hsz,mW]
  ·exact hs.elim
 ·rename_i len e id off k n hu;obtain rfl:=hi.inv_lit
  split at hs
  ·rename_i s hsz;obtain ⟨h0,hl,hC⟩:=hs;obtain ⟨b,n',hk,rfl⟩:=hv.inv_pp;refine ⟨_,hC,.pointer (some ⟨b,off+n.toNat*s,none⟩),?_,.pp hk .nil⟩;simp [Instr.indexAt,asIntOf,run_underlying hu,h0,hl,kF hsz,mW,Instr.sureAddr]
  ·exact hs.elim
 ·exact hs.elim
end
section
variable {P:Program} {c c':Conc} {m m':M} {w w':World}
def zT (P:Program) (T:TypeId):Option Value:=(P.info? T).bind (·.zero)
def nilTy (T:TypeId):Bool:=T == 27
def ofN:Value->V
 | .slice _ 0 0=>.nilv
 | v=>of1 v
def ofZ (T:TypeId):Value->V:=if nilTy T then ofN else of1
theorem ofZs_ok (c:Conc) (T:TypeId):∀xs:List Value,CR c (xs.map (ofZ T)) xs:=by
 unfold ofZ
 split
 ·intro xs
  induction xs with
  | nil=>exact .nil
  | cons x xs ih=>
    refine CR.cons ?_ ih;have h:=Qk c [x];unfold ofN
    split
    ·exact .nilv .nil
    ·exact h
 ·exact Qk c
def cT (P:Program) (T:TypeId):Option (List V):=
 match zT P T with
 | some z=>if z.cells.toList.all (λu=>u.oneCell') then some (z.cells.toList.map (ofZ T)) else none
 | none=>none
theorem run_zT {T:TypeId} {z:Value} (h:zT P T=some z) (w:World):(zeroValue T).run P w=.ok z w:=by
 unfold zT at h;cases hq:P.info? T with
 | none=>simp [hq] at h
 | some i=>simp [hq] at h;simp [zeroValue,typeInfo,hq,h]
theorem wN {T:TypeId} {zs:List V} (h:cT P T=some zs) (c:Conc):∃z,(∀w,(zeroValue T).run P w=.ok z w)/\CR c zs z.cells.toList/\∀u ∈ z.cells.toList,u.oneCell'=true:=by
 unfold cT at h
 split at h
 ·rename_i z hz
  split at h
  ·rename_i ha
   injection h with h;subst h
   exact ⟨z,run_zT hz,ofZs_ok c T _,LX.1 ha⟩
  ·cases h
 ·cases h
theorem fold_at (off:Nat) (l:List Value):∀(k:Nat) (cells:Array Value) (i:Nat),((l.zipIdx k).foldl (λ(cs:Array Value) (p:Value × Nat)=>cs.setIfInBounds (off+p.2) p.1) cells)[i]? = if off+k<=i/\i<off+k+l.length/\i<cells.size then l[i - off - k]? else cells[i]? := by
 induction l with
 | nil=>intro k cells i;simp;intro h1 h2;omega
 | cons x l ih=>
   intro k cells i;simp only [List.zipIdx_cons,List.foldl_cons];rw [ih];simp only [Array.size_setIfInBounds,Array.getElem?_setIfInBounds,pX]
   by_cases h1:off+(k+1)<=i/\i<off+(k+1)+l.length/\i<cells.size
   ·rw [if_pos h1,if_pos (by omega),show i - off - k=(i - off - (k+1))+1 by omega,xdy]
   ·rw [if_neg h1]
    by_cases h2:i=off+k
    ·subst h2
     by_cases h3:off+k<cells.size
     ·rw [if_pos rfl,if_pos h3,if_pos ⟨by omega,by omega,h3⟩];rw [show off+k - off - k=0 by omega];rfl
     ·rw [if_pos rfl,if_neg h3,if_neg (by omega)];exact (Array.getElem?_eq_none (by omega)).symm
    ·rw [if_neg (λe=>h2 e.symm),if_neg (by omega)]
theorem Mu (v cells:Array Value) (off:Nat) (h:off+v.size<=cells.size) :
  (v.zipIdx.foldl (λ(cs:Array Value) (p:Value × Nat)=>cs.setIfInBounds (off+p.2) p.1) cells)=(cells.toList.take off++v.toList++cells.toList.drop (off+v.size)).toArray:=by
 apply Array.ext_getElem?;intro i;rw [←Array.foldl_toList,Array.toList_zipIdx,fold_at off v.toList 0 cells i];simp only [Ui,Rc,Nat.sub_zero,xdo,Gb];have htl:(cells.toList.take off).length=off:=by simp;omega
 by_cases h1:i<off
 ·rw [if_neg (by omega),MI (by omega),xei h1];simp
 ·rw [Lx (by omega),htl]
  by_cases h2:i<off+v.size
  ·rw [if_pos ⟨by omega,h2,by omega⟩,MI (by simp;omega)]
  ·rw [if_neg (by omega),Lx (by simp;omega),xdi];simp only [Rc];rw [show off+v.size+(i - off - v.size)=i by omega];simp
def yL (place:Nat->Option (Nat × Nat)) (cells:List V):List (Nat × V)->Option (List V)
 | []=>some cells
 | (i,v)::rest=>
   match place i with
   | none=>none
   | some (off,size)=>if v.cellsOk=true/\v.cells.length=size/\off+size<=cells.length then yL place (cells.take off++v.cells++cells.drop (off+size)) rest else none
inductive CP (c:Conc):List (Nat × V)->List (Nat × Value)->Prop where
 | nil:CP c [] []
 | cons {i v x vs xs}:CR c [v] [x]->CP c vs xs->CP c ((i,v)::vs) ((i,x)::xs)
theorem OX {place:Nat->Option (Nat × Nat)} {ps:List (Nat × V)}:∀ {qs:List (Nat × Value)} {cells:List V} {xs:Array Value} {r:List V},yL place cells ps=some r->CP c ps qs->CR c cells xs.toList->(∀u ∈ xs.toList,u.oneCell'=true) ->
  ∃ys,Instr.fill place xs qs=some ys/\CR c r ys.toList/\∀u ∈ ys.toList,u.oneCell'=true:=by
 induction ps with
 | nil=>
   intro qs cells xs r h hp hc h1;cases hp;simp only [yL,Option.some.injEq] at h;subst h;exact ⟨xs,rfl,hc,h1⟩
 | cons p ps ih=>
   intro qs cells xs r h hp hc h1;cases hp with
   | @cons i v x _ qs hx hp=>
     simp only [yL] at h
     split at h
     ·cases h
     ·rename_i off size hpl
      split at h
      ·rename_i hcond;obtain ⟨ho,hs,hfit⟩:=hcond;obtain ⟨k1,k2⟩:=EM hx ho;have hxs:x.cells.size=size:=by have:=k1.len;simp at this;omega
       have hlen:xs.size=cells.length:=by have:=hc.len;simpa using this
       have hf:=Mu x.cells xs off (by omega)
       obtain ⟨ys,h2,h3⟩:=ih (qs:=qs) (xs:=(xs.toList.take off++x.cells.toList++xs.toList.drop (off+x.cells.size)).toArray) h hp (by
        simp only [hxs];exact ((hc.take off).append k1).append (hc.drop (off+size))) (by
        intro u hu;simp only [Gb,Cu] at hu
        rcases hu with hu | hu | hu
        ·exact h1 u (Py hu)
        ·exact k2 u hu
        ·exact h1 u (Uf hu))
       refine ⟨ys,?_,h3⟩;simp only [Instr.fill,hpl];rw [if_neg (by simp;omega)];rw [hf];exact h2
      ·cases h
def IM (P:Program) (fs:List Field):Option (List (Nat × Nat)):=
 match fs with
 | []=>some []
 | f::fs=>(match bZ P f.type,IM P fs with | some n,some l=>some ((f.offset,n)::l) | _,_=>none)
def oQ (P:Program) (T:TypeId):Option (List (Nat × Nat)):=
 match P.underlying T with
 | some (.struct fs)=>IM P fs.toList
 | _=>none
theorem Qf {fs:List Field}:∀ {l:List (Nat × Nat)},IM P fs=some l->∀w,(fs.mapM λf=>Prod.mk f.offset <$> sizeOf f.type).run P w=.ok l w:=by
 induction fs with
 | nil=>intro l h w;simp only [IM,Option.some.injEq] at h;subst h;rfl
 | cons f fs ih=>
   intro l h w;simp only [IM] at h
   split at h
   ·rename_i n l' hn hl
    injection h with h;subst h
    simp [List.mapM_cons,kF hn,ih hl w]
   ·cases h
def Du (P:Program) (T:TypeId) (ps:List (Nat × V)) (C:V->Prop):Prop:=
 match P.underlying T,cT P T with
 | some (.struct _),some zs=>(match oQ P T with | some l=>(match yL (l[·]?) zs ps with | some r=>C (.agg r) | none=>False) | none=>False)
 | some (.array _ e),some zs=>(match bZ P e with | some s=>(match yL (λi=>some (i*s,s)) zs ps with | some r=>C (.agg r) | none=>False) | none=>False)
 | _,_=>False
theorem SF {T:TypeId} {ps:List (Nat × V)} {C:V->Prop} (hs:Du P T ps C) {qs:Array (Nat × Value)} (hp:CP c ps qs.toList) (w:World):∃r,C r/\∃z,(Instr.build T qs).run P w=.ok z w/\CR c [r] [z]:=by
 unfold Du at hs
 split at hs
 ·rename_i fs zs hu hz
  split at hs
  ·rename_i l hl
   split at hs
   ·rename_i r hr;obtain ⟨z,hz1,hz2,hz3⟩:=wN hz c;obtain ⟨ys,h1,h2,h3⟩:=OX hr hp hz2 hz3;have hl':IM P fs.toList=some l:=by simpa [oQ,hu] using hl
    have hm:=Qf hl' w
    have hm2:(fs.mapM (λf=>do pure (f.offset,←sizeOf f.type)):Sem (Array (Nat × Nat))).run P w=.ok l.toArray w:=by
     simp [xej,hm]
    refine ⟨_,hs,.agg ys,?_,by simpa using CR.agg h2 h3 .nil⟩;have hg:(λ(x:Nat)=>l.toArray[x]?)=(λ(x:Nat)=>l[x]?):=by funext x;simp
    unfold Instr.build;rw [Sem.run_bind,hz1 w,Result.andThen_ok,Sem.run_bind,run_underlying hu w,Result.andThen_ok];simp only [Sem.run_bind,hm2,Result.andThen_ok,hg,h1,Sem.run_pure]
   ·exact hs.elim
  ·exact hs.elim
 ·rename_i len e zs hu hz
  split at hs
  ·rename_i s hsz
   split at hs
   ·rename_i r hr;obtain ⟨z,hz1,hz2,hz3⟩:=wN hz c;obtain ⟨ys,h1,h2,h3⟩:=OX hr hp hz2 hz3;refine ⟨_,hs,.agg ys,?_,by simpa using CR.agg h2 h3 .nil⟩;unfold Instr.build;rw [Sem.run_bind,hz1 w,Result.andThen_ok,Sem.run_bind,run_underlying hu w,Result.andThen_ok];simp only [Sem.run_bind,kF hsz,Result.andThen_ok,h1,Sem.run_pure]
   ·exact hs.elim
  ·exact hs.elim
 ·exact hs.elim
end
section
variable {P:Program} {c c':Conc} {m m':M} {w w':World}
def V.weak1:V->V
 | .list _ rows=>.list .none rows
 | .agg vs=>.agg (vs.map V.shared)
 | v=>v
def V.weak:V->V
 | .tup vs=>.tup (vs.map V.weak1)
 | v=>v.weak1
theorem V.weak1_ok {v:V} {x:Value} (h:CR c [v] [x]):CR c [v.weak1] [x]:=by
 cases v with
 | agg us=>obtain ⟨xs,rfl,h1,h2⟩:=h.inv_agg;exact .agg (EY h1) h2 .nil
 | list o rows=>exact V.shared_ok h
 | _=>exact h
theorem NS {vs:List V} {xs:List Value} (h:CR c vs xs):CR c (vs.map V.weak1) xs:=by
 induction vs generalizing xs with
 | nil=>exact h
 | cons v vs ih=>
   obtain ⟨x,xs,rfl,h1,h2⟩:=h.uncons;exact (V.weak1_ok h1).cons (ih h2)
theorem V.weak_ok {v:V} {x:Value} (h:CR c [v] [x]):CR c [v.weak] [x]:=by
 cases v with
 | tup us=>obtain ⟨xs,rfl,h1⟩:=h.inv_tup;exact .tup (NS h1) .nil
 | _=>exact V.weak1_ok h
theorem Wc {size:Nat}:∀(vals:List Value) (k:Nat) (done tail:List Value),(∀v ∈ vals,v.cells.size=size)->done.length=k*size->tail.length=vals.length*size ->
  Instr.fill (λi=>some (i*size,size)) (done++tail).toArray ((vals.zipIdx k).map λp=>(p.2,p.1))=some (done++(vals.map λv=>v.cells.toList).flatten).toArray:=by
 intro vals
 induction vals with
 | nil=>intro k done tail _ _ ht;simp at ht;simp [Instr.fill,ht]
 | cons v vals ih=>
   intro k done tail hv hd ht;have hvs:v.cells.size=size:=hv v (by simp);simp only [pX,JS] at ht;simp only [List.zipIdx_cons,xK,Instr.fill];rw [if_neg (by simp [hvs];omega)];rw [Mu v.cells (done++tail).toArray (k*size) (by simp;omega)];have htail:tail.drop size=tail.drop size:=rfl
   have e1:(List.take (k*size) (done++tail).toArray.toList++v.cells.toList++List.drop (k*size+v.cells.size) (done++tail).toArray.toList)=(done++v.cells.toList)++tail.drop size:=by
    simp only [List.take_append,List.drop_append,hvs];rw [xdq (by omega),show k*size - done.length=0 by omega,List.drop_of_length_le (show done.length<=k*size+size by omega),show k*size+size - done.length=size by omega];simp
   rw [e1,ih (k+1) (done++v.cells.toList) (tail.drop size) (λu hu=>hv u (by simp [hu])) (by simp [hvs,JS,hd]) (by simp;omega)];simp
def rM (P:Program) (T:TypeId) (n:Nat) (ps:List (Nat × V)) (C:V->Prop):Prop:=
 match P.underlying T with
 | some (.slice e)=>
   match bZ P e,cT P e with
   | some s,some _=>ps.map Prod.fst=List.range n/\0<s/\n*s<=16777216/\(∀p ∈ ps,p.2.cellsOk=true/\p.2.cells.length=s)/\C (.list .exact (ps.map λp=>p.2.cells.map V.shared))
   | _,_=>False
 | _=>False
theorem CP.split {ps:List (Nat × V)}:∀ {qs:List (Nat × Value)},CP c ps qs->qs.map Prod.fst=ps.map Prod.fst/\CR c (ps.map Prod.snd) (qs.map Prod.snd):=by
 induction ps with
 | nil=>intro qs h;cases h;exact ⟨rfl,.nil⟩
 | cons p ps ih=>
   intro qs h;cases h with
   | cons h1 h2=>
     obtain ⟨h3,h4⟩:=ih h2;exact ⟨by simp [h3],h1.cons h4⟩
theorem zip_fst {α:Type}:∀(qs:List (Nat × α)) (k:Nat),qs.map Prod.fst=List.range' k qs.length->qs=((qs.map Prod.snd).zipIdx k).map λp=>(p.2,p.1):=by
 intro qs
 induction qs with
 | nil=>intro k _;rfl
 | cons q qs ih=>
   intro k h;simp only [xK,pX,List.range'_succ] at h
   injection h with h1 h2
   simp only [xK,List.zipIdx_cons];rw [←ih (k+1) h2,←h1]
theorem rows_ok {vs:List V}:∀ {xs:List Value},CR c vs xs->(∀v ∈ vs,v.cellsOk=true)->CR c (vs.map λv=>v.cells.map V.shared).flatten (xs.map λx=>x.cells.toList).flatten/\∀u ∈ (xs.map λx=>x.cells.toList).flatten,u.oneCell'=true:=by
 induction vs with
 | nil=>intro xs h _;rw [h.inv_nil];exact ⟨.nil,by simp⟩
 | cons v vs ih=>
   intro xs h ho;obtain ⟨x,xs,rfl,h1,h2⟩:=h.uncons;obtain ⟨k1,k2⟩:=EM h1 (ho v (by simp));obtain ⟨k3,k4⟩:=ih h2 (λu hu=>ho u (by simp [hu]));refine ⟨by simpa using (EY k1).append k3,λu hu=>?_⟩;simp only [xK,HO,Cu] at hu
   rcases hu with hu | hu
   ·exact k2 u hu
   ·exact k4 u hu
theorem OC {q:Pa} (h:fX c m w) {rows:List (List V)} {es rest:List Value} {sz:Nat} (e:TypeId) (fr:Nat × Nat) (k1:CR c rows.flatten es) (k2:∀r ∈ rows,r.length=sz) (kz:0<sz) (k3:∀u ∈ es,u.oneCell'=true) {cap:Nat} (hl:rows.length<=cap) (hm:cap<=maxLen) {o:Kf} (ho:o=.none ∨ (o=.exact/\cap=rows.length)) :
  ∃c',fX c' m (w.alloc (.cells (es++rest).toArray e fr))/\pA q c m w c' m (w.alloc (.cells (es++rest).toArray e fr))/\CR c' [.list o rows] [.slice (some ⟨w.heap.size,0,none⟩) rows.length cap]:=by
 have hOut:JI c.G w.heap.size:=h.com.out (sZ _);have hno:¬ eY c m w.heap.size:=λho=>by have:=h.own_lt ho;omega
 have hg:w.grownBy (w.alloc (.cells (es++rest).toArray e fr)) none:=IS (Hu w none) _
 have hB:∀i,(w.alloc (.cells (es++rest).toArray e fr)).cell? ⟨w.heap.size,i,none⟩=(es++rest).toArray[i]? := by
  intro i;have:=heap_alloc_new w (.cells (es++rest).toArray e fr);unfold World.cell?;show (match (w.alloc (.cells (es++rest).toArray e fr)).heap[w.heap.size]? with | some (.cells c _ _)=>if (none:Option Nat).isSome then none else c[i]? | _=>none)=_;rw [this];rfl
 have h1:=(h.grown hg).laid (cs:=es) hOut hno (λi u hu=>by
  rw [hB i];have hi:i<es.length:=(vJ.1 hu).1;simp only [xdo];rw [MI hi];exact hu)
 have hll:Le c { c.laid w.heap.size es with lit:=λb=>c.lit b ∨ b=w.heap.size }:=⟨rfl,λ_ x=>.inl x,λ_ _ x=>x,λ_ _ x=>x,(Le.laid hOut).G⟩;have hle2:Le (c.laid w.heap.size es) { c.laid w.heap.size es with lit:=λb=>c.lit b ∨ b=w.heap.size }:=⟨rfl,λ_ x=>.inl x,λ_ _ x=>x,λ_ _ x=>x,λ_ _ _ x=>x⟩;have hE:=h.ext_laid (cs:=es) q (sZ _) (sZ _) _ hg;refine ⟨{ c.laid w.heap.size es with lit:=λb=>c.lit b ∨ b=w.heap.size },⟨h1.com,λid vs hv=>?_,h1.inj,h1.own,h1.ownInj,h1.ver,λg=>(h1.gl g).mono hle2,h1.ver0,h1.base,λb hb=>?_,λb vs hv=>?_⟩,⟨hll,hE.os,hE.tape,hE.output,hE.size,hE.heap,hE.book,hE.own,hE.fresh,λ_ _ hb=>⟨hb.blk,hb.anon,hb.cell,hb.ver,hb.tok⟩,λb hb hx=>hx.resolve_right (by omega)⟩,?_⟩
 ·obtain ⟨b,cs,t,k1,k2,k3,k4,k5⟩:=h1.blk id vs hv;exact ⟨b,cs,t,k1,k2,k3.mono hle2,k4,k5⟩
 ·rcases hb with hb | rfl
  ·exact h1.lit b hb
  ·exact ⟨h.base,by simp,hno⟩
 ·exact (h1.hpr b vs hv).mono hle2 λ_ _ _ _ _ hB=>hB
 refine .list (k1.mono hll) k2 kz hl hm (λ_=>⟨_,_,rfl⟩) (λ_=>⟨w.heap.size,0,rfl,λi u hu=>by rw [Lo];show KQ c.G w.heap.size es w.heap.size i=some u;rw [KP];exact hu⟩) k3 ?_ .nil
 rcases ho with rfl | ⟨rfl,e⟩
 ·trivial
 ·exact ⟨e,λx hx=>by injection hx with hx;subst hx;exact .inr rfl⟩
theorem Ky {T:TypeId} {n:Nat} {ps:List (Nat × V)} {C:V->Prop} (hs:rM P T n ps C) (h:fX c m w) (q:Pa) {qs:Array (Nat × Value)} (hp:CP c ps qs.toList) :
  ∃r,C r/\∃cells e,P.underlying T=some (.slice e)/\(Instr.buildSlice T n qs).run P w=.ok (.slice (some ⟨w.heap.size,0,none⟩) n n) (w.alloc (.cells cells e)) ∧
   ∀fr,∃c',fX c' m (w.alloc (.cells cells e fr))/\pA q c m w c' m (w.alloc (.cells cells e fr))/\CR c' [r] [.slice (some ⟨w.heap.size,0,none⟩) n n]:=by
 unfold rM at hs
 split at hs
 ·rename_i e hu
  split at hs
  ·rename_i s zs hsz hzc;obtain ⟨h1,h2,h3,h4,hC⟩:=hs;obtain ⟨z,hz1,hz2,hz3⟩:=wN hzc c;obtain ⟨k1,k2⟩:=hp.split;have hlenp:ps.length=n:=by have:=congrArg List.length h1;simpa using this
   have hlenq:qs.toList.length=n:=by have:=congrArg List.length k1;simp only [Hh] at this;omega
   have hq:qs.size=n:=by simpa using hlenq
   have hzip:=zip_fst qs.toList 0 (by rw [k1,h1,hlenq,List.range_eq_range'])
   have hvs:∀v ∈ qs.toList.map Prod.snd,v.cells.size=s:=by
    intro v hv;obtain ⟨i,hi,hvi⟩:=List.mem_iff_getElem.1 hv;have hi':i<(ps.map Prod.snd).length:=by have:=k2.len;omega
    obtain ⟨x,hx1,hx2⟩:=k2.get (wB hi');have hxv:x=v:=by rw [wB hi,hvi] at hx1;injection hx1 with e;exact e.symm
    subst hxv
    obtain ⟨p,hp1,hp2⟩:∃p ∈ ps,p.2=(ps.map Prod.snd)[i]:=by
     have:=LU hi';obtain ⟨p,hp1,hp2⟩:=LW.1 this;exact ⟨p,hp1,hp2⟩
    obtain ⟨g1,g2⟩:=h4 p hp1;rw [←hp2] at hx2;have:=(EM hx2 g1).1.len;simp at this;omega
   obtain ⟨r1,r2⟩:=rows_ok k2 (λv hv=>by obtain ⟨p,hp1,rfl⟩:=LW.1 hv;exact (h4 p hp1).1);have hfill:=Wc (size:=s) (qs.toList.map Prod.snd) 0 [] ((Array.range (n*s)).map ((if n*s=0 then #[] else z.cells)[· % (if n*s=0 then #[] else z.cells).size]!)).toList hvs (by simp) (by simp [hq]);rw [←hzip] at hfill;simp only [Dh,Array.toArray_toList] at hfill;have hrl:(ps.map λp=>p.2.cells.map V.shared).length=n:=by simpa using hlenp
   have hrr:(ps.map λp=>p.2.cells.map V.shared)=((ps.map Prod.snd).map λv=>v.cells.map V.shared):=by simp
   have hnew:=λfr=>OC (q:=q) (rest:=[]) (cap:=n) (o:=.exact) h e fr r1 (sz:=s) (by
    intro r hr;simp only [xdp,LW] at hr;obtain ⟨p,hp1,rfl⟩:=hr;simpa using (h4 p hp1).2) h2 r2 (by simp;omega) (by simp only [maxLen];have:=Nat.le_mul_of_pos_right n h2;omega) (.inr ⟨rfl,by simp;omega⟩)
   rw [←hrr,hrl] at hnew;simp only [Ga] at hnew;refine ⟨_,hC,_,e,hu,?_,hnew⟩;unfold Instr.buildSlice;simp only [Sem.run_bind,run_underlying hu,Result.andThen_ok,kF hsz];rw [if_neg (by omega)]
   by_cases h0:n*s=0
   ·have hn0:n=0:=by
     rcases Nat.mul_eq_zero.1 h0 with h | h
     ·exact h
     ·omega
    obtain rfl:qs=#[]:=Array.eq_empty_of_size_eq_zero (by omega);simp [h0,Instr.fill,newRow,show (Array.range 0:Array Nat)=#[] from rfl]
   ·simp only [h0,if_false] at hfill ⊢;simp [hz1 w,hfill,newRow]
  ·exact hs.elim
 ·exact hs.elim
def Gj (P:Program) (T:TypeId) (cs:List V) (off:Nat) (C:V->Prop):Prop:=
 match pI P T with
 | some true=>(match bZ P T with | some n=>C (.agg ((cs.drop off).take n)) | none=>False)
 | some false=>(match cs[off]? with | some u=>C u | none=>False)
 | none=>False
theorem Od {T:TypeId} {cs:List V} {off:Nat} {C:V->Prop} (hs:Gj P T cs off C) {xs:List Value} (hc:CR c cs xs) (h1:∀u ∈ xs,u.oneCell'=true) (w:World):∃r,C r/\∃z,(part T xs.toArray off).run P w=.ok z w/\CR c [r] [z]:=by
 unfold Gj at hs
 split at hs
 ·rename_i ha
  split at hs
  ·rename_i n hn;refine ⟨_,hs,.agg ((xs.drop off).take n).toArray,?_,.agg ((hc.drop off).take n) (λu hu=>h1 u (Uf (Py hu))) .nil⟩;simp [part,Gp ha,kF hn]
  ·exact hs.elim
 ·rename_i ha
  split at hs
  ·rename_i u hu;obtain ⟨x,hx,k⟩:=hc.get hu;refine ⟨_,hs,x,?_,k⟩;simp [part,Gp ha,hx]
  ·exact hs.elim
 ·exact hs.elim
def Fb (P:Program) (T:TypeId) (f:Nat) (v:V) (C:V->Prop):Prop:=
 match P.underlying T,v with
 | some (.struct fs),.agg cs=>(match fs[f]? with | some fd=>Gj P fd.type cs fd.offset C | none=>False)
 | _,_=>False
theorem SD {T:TypeId} {f:Nat} {v:V} {C:V->Prop} (hs:Fb P T f v C) {x:Value} (hv:CR c [v] [x]) (w:World):∃r,C r/\∃z,(Instr.field T x f).run P w=.ok z w/\CR c [r] [z]:=by
 unfold Fb at hs
 split at hs
 ·rename_i fs cs hu
  split at hs
  ·rename_i fd hf;obtain ⟨xs,rfl,h1,h2⟩:=hv.inv_agg;obtain ⟨r,hC,z,hz,hr⟩:=Od hs h1 h2 w;exact ⟨r,hC,z,by simp [Instr.field,run_underlying hu,hf,asAgg,hz],hr⟩
  ·exact hs.elim
 ·exact hs.elim
def Dt (P:Program) (T:TypeId) (v ix:V) (C:V->Prop):Prop:=
 match P.underlying T,v,ix with
 | some (.array len e),.agg cs,.lit (.int _ n)=>(match bZ P e with | some s=>0<=n/\n<len/\Gj P e cs (n.toNat*s) C | none=>False)
 | some .string,.lit (.string b),.lit (.int _ n)=>0<=n/\∃h:n.toNat<b.size,C (.lit (.int .u8 (b[n.toNat]).toNat))
 | _,_,_=>False
theorem Su {T:TypeId} {v ix:V} {C:V->Prop} (hs:Dt P T v ix C) {x y:Value} (hv:CR c [v] [x]) (hi:CR c [ix] [y]) (w:World):∃r,C r/\∃z,(Instr.index T x y).run P w=.ok z w/\CR c [r] [z]:=by
 unfold Dt at hs
 split at hs
 ·rename_i len e cs k n hu;obtain rfl:=hi.inv_lit
  split at hs
  ·rename_i s hsz;obtain ⟨h0,hl,hs⟩:=hs;obtain ⟨xs,rfl,h1,h2⟩:=hv.inv_agg;obtain ⟨r,hC,z,hz,hr⟩:=Od hs h1 h2 w;exact ⟨r,hC,z,by simp [Instr.index,asIntOf,run_underlying hu,h0,hl,kF hsz,hz],hr⟩
  ·exact hs.elim
 ·rename_i b k n hu;obtain rfl:=hi.inv_lit;obtain rfl:=hv.inv_lit;obtain ⟨h0,hl,hC⟩:=hs;refine ⟨_,hC,.int .u8 (b[n.toNat]).toNat,?_,.lit .nil⟩;simp [Instr.index,asIntOf,run_underlying hu,h0,hl]
 ·exact hs.elim
def Dp (s:Nat):Nat->List V->List (List V)
 | 0,_=>[]
 | n+1,l=>l.take s::Dp s n (l.drop s)
theorem Wp {s:Nat}:∀(n:Nat) (l:List V),n*s<=l.length->(Dp s n l).flatten=l.take (n*s)/\(∀r ∈ Dp s n l,r.length=s)/\(Dp s n l).length=n:=by
 intro n
 induction n with
 | zero=>intro l _;simp [Dp]
 | succ n ih=>
   intro l hl;rw [JS] at hl;obtain ⟨h1,h2,h3⟩:=ih (l.drop s) (by simp;omega);refine ⟨?_,λr hr=>?_,by simp [Dp,h3]⟩
   ·simp only [Dp,HO,h1,JS];rw [Nat.add_comm (n*s) s,List.take_add]
   ·simp only [Dp,ES] at hr
    rcases hr with rfl | hr
    ·simp;omega
    ·exact h2 r hr
def mG (hi:Option V) (d:Nat):Option Int:=
 match hi with
 | none=>some d
 | some (.lit (.int _ n))=>some n
 | _=>none
def Ds (P:Program) (T:TypeId) (v:V) (lo hi:Option V) (C:V->Prop):Prop:=
 match P.underlying T,v with
 | some .string,.lit (.string s)=>
   (match mG lo 0,mG hi s.size with
    | some l,some h=>0<=l/\l<=h/\h<=s.size/\C (.lit (.string (s.extract l.toNat h.toNat)))
    | _,_=>False)
 | some (.slice e),.list _ rows=>
   (match mG lo 0,mG hi rows.length,bZ P e with
    | some l,some h,some s=>0<=l/\l<=h/\h<=rows.length/\(∀r ∈ rows,r.length=s)/\C (.list .none ((rows.take h.toNat).drop l.toNat))
    | _,_,_=>False)
 | some (.array n e),.eptr rows i off=>
   (match mG lo 0,mG hi n,bZ P e,rows[i]? with
    | some l,some h,some s,some r=>0<s/\0<=l/\l<=h/\h<=n/\n<=1073741824/\off+n*s<=r.length/\C (.list .none (Dp s (h.toNat - l.toNat) (r.drop (off+l.toNat*s))))
    | _,_,_,_=>False)
 | some (.array n e),.ptr id off=>
   (match mG lo 0,mG hi n,bZ P e with
    | some l,some h,some s=>0<=l/\l<=h/\h<=n/\l<n/\n<=1073741824/\C (.arr id (off+l.toNat*s) (h.toNat - l.toNat) (n - l.toNat))
    | _,_,_=>False)
 | some (.slice e),.vec id sz len=>
   (match mG lo 0,mG hi len,bZ P e with
    | some l,some h,some _=>l=0/\0<=h/\h<=len/\C (.vec id sz h.toNat)
    | _,_,_=>False)
 | some (.slice e),.nilv=>
   (match mG lo 0,mG hi 0,bZ P e with
    | some l,some h,some _=>l=0/\h=0/\C .nilv
    | _,_,_=>False)
 | _,_=>False
theorem zV {isS:Bool} {len cap l h:Nat} {lo hi:Option V} {lo' hi':Option Value} (hlo:∀v,lo=some v->∃x,lo'=some x/\CR c [v] [x]) (hln:lo=none->lo'=none) (hhi:∀v,hi=some v->∃x,hi'=some x/\CR c [v] [x]) (hhn:hi=none->hi'=none)
  (hl:mG lo 0=some (l:Int)) (hh:mG hi len=some (h:Int)) (h1:l<=h) (h2:h<=len) (h3:len<=cap) (w:World):(Instr.sliceBounds isS len cap lo' hi' none).run P w=.ok (l,h,cap) w:=by
 have ehi:∀k n,hi'=some (.int k n)->n=h->(Instr.sliceBound (.int k n) cap (if isS then .sliceAcap else .sliceAlen)).run P w=.ok h w:=by
  intro k n _ e;subst e;simp [Instr.sliceBound,asIntOf,show (h:Int)<=cap by omega]
 have elo:∀k n,lo'=some (.int k n)->n=l->(Instr.sliceBound (.int k n) h .sliceB).run P w=.ok l w:=by
  intro k n _ e;subst e;simp [Instr.sliceBound,asIntOf,show (l:Int)<=h by omega]
 cases lo with
 | none=>
   obtain rfl:=hln rfl;simp only [mG,Option.some.injEq] at hl;obtain rfl:l=0:=by omega
   cases hi with
   | none=>
     obtain rfl:=hhn rfl;simp only [mG,Option.some.injEq] at hh;obtain rfl:len=h:=by omega
     simp [Instr.sliceBounds]
   | some v=>
     obtain ⟨x,rfl,hx⟩:=hhi v rfl;cases v with
     | lit v=>
       obtain rfl:=hx.inv_lit;cases x with
       | int k n=>
         simp only [mG,Option.some.injEq] at hh;simp [Instr.sliceBounds,ehi k n rfl hh]
       | _=>simp [mG] at hh
     | _=>simp [mG] at hh
 | some v=>
   obtain ⟨x,rfl,hx⟩:=hlo v rfl;cases v with
   | lit v=>
     obtain rfl:=hx.inv_lit;cases x with
     | int k n=>
       simp only [mG,Option.some.injEq] at hl;cases hi with
       | none=>
         obtain rfl:=hhn rfl;simp only [mG,Option.some.injEq] at hh;obtain rfl:len=h:=by omega
         simp [Instr.sliceBounds,elo k n rfl hl]
       | some v=>
         obtain ⟨x,rfl,hx⟩:=hhi v rfl;cases v with
         | lit v=>
           obtain rfl:=hx.inv_lit;cases x with
           | int k' n'=>
             simp only [mG,Option.some.injEq] at hh;simp [Instr.sliceBounds,ehi k' n' rfl hh,elo k n rfl hl]
           | _=>simp [mG] at hh
         | _=>simp [mG] at hh
     | _=>simp [mG] at hl
   | _=>simp [mG] at hl
theorem GB {sz:Nat}:∀(rs:List (List V)) (n:Nat),(∀r ∈ rs,r.length=sz)->(rs.take n).flatten=rs.flatten.take (n*sz)/\(rs.drop n).flatten=rs.flatten.drop (n*sz):=by
 intro rs
 induction rs with
 | nil=>intro n _;simp
 | cons r rs ih=>
   intro n hr;have hr0:=hr r (by simp);cases n with
   | zero=>simp
   | succ n=>
     obtain ⟨i1,i2⟩:=ih n (λr hr'=>hr r (by simp [hr']));have e1:(n+1)*sz=r.length+n*sz:=by rw [JS,hr0];omega
     refine ⟨?_,?_⟩
     ·simp only [QZ,HO,i1,e1];rw [List.take_length_add_append]
     ·simp only [NR,HO,i2,e1];rw [List.drop_length_add_append]
theorem Sr {T:TypeId} {v:V} {lo hi:Option V} {C:V->Prop} (hs:Ds P T v lo hi C) {x:Value} (hv:CR c [v] [x]) {lo' hi':Option Value} (hlo:∀v,lo=some v->∃x,lo'=some x/\CR c [v] [x]) (hln:lo=none->lo'=none)
  (hhi:∀v,hi=some v->∃x,hi'=some x/\CR c [v] [x]) (hhn:hi=none->hi'=none) (w:World):∃r,C r/\∃z,(Instr.sliceAt T x lo' hi' none).run P w=.ok z w/\CR c [r] [z]:=by
 unfold Ds at hs
 split at hs
 ·rename_i s hu;obtain rfl:=hv.inv_lit
  split at hs
  ·rename_i l h hl hh;obtain ⟨h0,h1,h2,hC⟩:=hs;have hb:=zV (P:=P) (isS:=false) (cap:=s.size) hlo hln hhi hhn (l:=l.toNat) (h:=h.toNat) (by rw [hl];congr 1;omega) (by rw [hh];congr 1;omega) (by omega) (by omega) (sZ _) w;exact ⟨_,hC,_,by simp [Instr.sliceAt,Instr.slice,run_underlying hu,hb],.lit .nil⟩
  ·exact hs.elim
 ·rename_i e o rows hu
  split at hs
  ·rename_i l h s hl hh hsz;obtain ⟨h0,h1,h2,h3,hC⟩:=hs;obtain ⟨a,cap,es,sz,rfl,k1,k2,kz,k3,k4,k5,k6,kc,k7⟩:=hv.inv_list;have hb:=zV (P:=P) (isS:=true) (len:=rows.length) (cap:=cap) hlo hln hhi hhn (l:=l.toNat) (h:=h.toNat) (by rw [hl];congr 1;omega) (by rw [hh];congr 1;omega) (by omega) (by omega) k3 w;refine ⟨_,hC,.slice (if cap=l.toNat then a else a.map (·.add (l.toNat*s))) (h.toNat - l.toNat) (cap - l.toNat),?_,?_⟩
   ·simp [Instr.sliceAt,Instr.slice,run_underlying hu,hb,kF hsz]
   ·have hlen:((rows.take h.toNat).drop l.toNat).length=h.toNat - l.toNat:=by simp;omega
    have hes:es.length=rows.length*sz:=yJ k1 k2
    have hsub:CR c ((rows.take h.toNat).drop l.toNat).flatten ((es.take (h.toNat*sz)).drop (l.toNat*sz)):=by
     have e1:((rows.take h.toNat).drop l.toNat).flatten=(rows.flatten.take (h.toNat*sz)).drop (l.toNat*sz):=by
      rw [(GB _ _ (λr hr=>k2 r (Py hr))).2,(GB _ _ k2).1]
     rw [e1];exact (k1.take _).drop _
    have hs2:0<rows.length->sz=s:=by
     intro hp;obtain ⟨r,hr⟩:∃r,r ∈ rows:=by cases rows with | nil=>simp at hp | cons r _=>exact ⟨r,by simp⟩
     rw [←k2 r hr,h3 r hr]
    have:=CR.list (c:=c) (o:=.none) (a:=if cap=l.toNat then a else a.map (·.add (l.toNat*s))) (cap:=cap - l.toNat) hsub (λr hr=>k2 r (Py (Uf hr))) kz (by omega) (by omega)
     (λhp=>by
       obtain ⟨b,off,rfl⟩:=k5 (by omega);rw [if_neg (by omega)];exact ⟨b,off+l.toNat*s,by simp [mW]⟩)
     (λhp=>by
       have hp':0<((es.take (h.toNat*sz)).drop (l.toNat*sz)).length:=hp
       have hlh:l.toNat<h.toNat:=by
        rcases Nat.lt_or_ge l.toNat h.toNat with g | g
        ·exact g
        ·exfalso
         have:h.toNat*sz<=l.toNat*sz:=Uh _ g;rw [Pw,JQ] at hp;omega
       have hpos:0<es.length:=by rw [hes];exact Nat.mul_pos (by omega) kz
       obtain ⟨b,off,rfl,hG⟩:=k6 hpos;rw [if_neg (by omega),←hs2 (by omega)];refine ⟨b,off+l.toNat*sz,by simp [mW],λi u hi=>?_⟩;rw [xdi,xdj] at hi
       split at hi
       ·rw [Nat.add_assoc];exact hG _ u hi
       ·cases hi)
     (λu hu=>kc u (Py (Uf hu))) trivial .nil
    rw [hlen] at this;exact this
  ·exact hs.elim
 ·rename_i n e rows i off hu
  split at hs
  ·rename_i l h s r hl hh hsz hr;obtain ⟨hs0,h0,h1,h2,hn,hfit,hC⟩:=hs;obtain ⟨b,o,sz,es,rfl,k1,k2,k3,k4⟩:=hv.inv_eptr;have hb:=zV (P:=P) (isS:=false) (len:=n) (cap:=n) hlo hln hhi hhn (l:=l.toNat) (h:=h.toNat) (by rw [hl];congr 1;omega) (by rw [hh];congr 1;omega) (by omega) (by omega) (sZ _) w;have hrl:r.length=sz:=k2 r (FK hr);have hf:=HJ k2 hr;have hmul:(h.toNat - l.toNat)*s+l.toNat*s<=n*s:=by rw [←TV];exact Uh _ (by omega)
   obtain ⟨c1,c2,c3⟩:=Wp (s:=s) (h.toNat - l.toNat) (r.drop (off+l.toNat*s)) (by simp;omega)
   have hcr:CR c (Dp s (h.toNat - l.toNat) (r.drop (off+l.toNat*s))).flatten ((((es.drop (i*sz)).take sz).drop (off+l.toNat*s)).take ((h.toNat - l.toNat)*s)):=by
    rw [c1];have:=((((k1.drop (i*sz)).take sz).drop (off+l.toNat*s)).take ((h.toNat - l.toNat)*s));rw [hf.2] at this;exact this
   have hcells:∀j u,((((es.drop (i*sz)).take sz).drop (off+l.toNat*s)).take ((h.toNat - l.toNat)*s))[j]? = some u->c.G b (o+i*sz+off+l.toNat*s+j)=some u:=by
    intro j u hj;rw [xdj] at hj
    split at hj
    ·rw [xdi,xdj] at hj
     split at hj
     ·rw [xdi] at hj;have:=k3 _ u hj;rw [show o+i*sz+off+l.toNat*s+j=o+(i*sz+(off+l.toNat*s+j)) by omega];exact this
     ·cases hj
    ·cases hj
   have:=CR.list (c:=c) (o:=.none) (a:=some (if n=l.toNat then ⟨b,o+i*sz+off,none⟩ else (⟨b,o+i*sz+off,none⟩:Addr).add (l.toNat*s))) (cap:=n - l.toNat) hcr c2 hs0 (by omega) (by simp only [maxLen];omega)
    (λ_=>by
      split
      ·exact ⟨_,_,rfl⟩
      ·exact ⟨b,o+i*sz+off+l.toNat*s,by rw [mW]⟩) (λhp=>by
      have hlt:n ≠ l.toNat:=by
       intro e2;have:h.toNat - l.toNat=0:=by omega
       rw [this] at hp;simp at hp
      rw [if_neg hlt,mW];exact ⟨b,_,rfl,λj u hj=>hcells j u hj⟩) (λu hu=>k4 u (Uf (Py (Uf (Py hu))))) trivial .nil
   rw [c3] at this;refine ⟨_,hC,_,?_,this⟩;simp [Instr.sliceAt,run_underlying hu,hb,kF hsz,Instr.sureAddr]
  ·exact hs.elim
 ·rename_i n e id off hu
  split at hs
  ·rename_i l h s hl hh hsz;obtain ⟨h0,h1,h2,hln2,hn,hC⟩:=hs;obtain ⟨b,hr,rfl⟩:=hv.inv_ptr;have hb:=zV (P:=P) (isS:=false) (len:=n) (cap:=n) hlo hln hhi hhn (l:=l.toNat) (h:=h.toNat) (by rw [hl];congr 1;omega) (by rw [hh];congr 1;omega) (by omega) (by omega) (sZ _) w;have e2:¬ n=l.toNat:=by omega
   ·refine ⟨_,hC,.slice (some ⟨b,off+l.toNat*s,none⟩) (h.toNat - l.toNat) (n - l.toNat),?_,.arr hr (by omega) (by simp only [maxLen];omega) .nil⟩;simp [Instr.sliceAt,run_underlying hu,hb,kF hsz,Instr.sureAddr,e2,mW]
  ·exact hs.elim
 ·rename_i e id sz len hu
  split at hs
  ·rename_i l h s hl hh hsz;obtain ⟨rfl,h1,h2,hC⟩:=hs;obtain ⟨b,nb,cap,hk,hnb,hz,hlc,hcm,rfl⟩:=hv.inv_vec;have hb:=zV (P:=P) (isS:=true) (len:=len) (cap:=cap) hlo hln hhi hhn (l:=0) (h:=h.toNat) (by rw [hl];rfl) (by rw [hh];congr 1;omega) (by omega) (by omega) hlc w;refine ⟨_,hC,.slice (some ⟨b,0,none⟩) h.toNat cap,?_,.vec hk hnb hz (by omega) hcm .nil⟩;simp [Instr.sliceAt,Instr.slice,run_underlying hu,hb,kF hsz,mW]
  ·exact hs.elim
 ·rename_i e hu
  split at hs
  ·rename_i l h s hl hh hsz;obtain ⟨rfl,rfl,hC⟩:=hs;obtain ⟨a,rfl⟩:=hv.inv_nilv;have hb:=zV (P:=P) (isS:=true) (len:=0) (cap:=0) hlo hln hhi hhn (l:=0) (h:=0) (by rw [hl];rfl) (by rw [hh];rfl) (by omega) (by omega) (by omega) w;refine ⟨_,hC,.slice a 0 0,?_,.nilv .nil⟩;simp [Instr.sliceAt,Instr.slice,run_underlying hu,hb,kF hsz]
  ·exact hs.elim
 ·exact hs.elim
end
section
variable {P:Program} {c c':Conc} {m m':M} {w w':World}
def lA (s:ByteArray):List (List V):=s.data.toList.map λb=>[.lit (.int .u8 (b.toNat:Int))]
theorem sV (s:ByteArray):(lA s).length=s.size:=by simp [lA]
theorem HL:∀(l:List UInt8),(l.map λb=>[V.lit (.int .u8 (b.toNat:Int))]).flatten=(l.map λb=>Value.int .u8 (b.toNat:Int)).map V.lit:=by
 intro l
 induction l with
 | nil=>rfl
 | cons b l ih=>simp only [xK,HO,ih];rfl
theorem Ry (c:Conc) (xs:List Value):CR c (xs.map V.lit) xs:=by
 induction xs with
 | nil=>exact .nil
 | cons x xs ih=>exact .lit ih
theorem LD {src dst e:TypeId} (hs:P.underlying src=some (.slice e)) (he:P.underlying e=some (.int .u8)) (hd:P.underlying dst=some .string) {G:GG} (hC:Hg w G) {a:Option Addr} {s:ByteArray} {cap:Nat}
  (h:Ny G a (s.data.toList.map λb=>Value.int .u8 (b.toNat:Int))):(convert src dst (.slice a s.size cap)).run P w=.ok (.string s) w:=by
 rw [run_convert_bytes_string w src dst e a s.size cap hs he hd]
 have key:(s.data.toList.map λb=>(b.toNat:Int)).foldl (λr n=>r.push (UInt8.ofNat n.toNat)) ByteArray.empty=s:=by
  rw [foldl_push_byteCells];cases s with | mk d=>simp
 cases a with
 | none=>
   have h0:s.data.toList=[]:=by
    cases hx:s.data.toList with
    | nil=>rfl
    | cons b l=>exfalso;rw [hx] at h;obtain ⟨_,_,e,_⟩:=h (by simp);cases e
   have hs0:s=ByteArray.empty:=by rw [←key,h0];rfl
   rw [hs0];simp [Conv.bytesToString]
 | some ad=>
   have hl:(loadCells ad s.size).run P w=.ok ((s.data.toList.map λb=>(b.toNat:Int)).map (Value.int .u8)).toArray w:=by
    have hlen:(s.data.toList.map λb=>Value.int .u8 (b.toNat:Int)).length=s.size:=by simp
    have:=run_loadCells_list (P:=P) w ad (s.data.toList.map λb=>Value.int .u8 (b.toNat:Int)) (λj v hv=>by
     have hj:0<(s.data.toList.map λb=>Value.int .u8 (b.toNat:Int)).length:=by have:=(vJ.1 hv).1;omega
     obtain ⟨b,off,e,hG⟩:=h hj
     injection e with e;subst e
     rw [mW];exact hC _ _ _ (hG j v hv))
    rw [hlen] at this;rw [this,xdp];rfl
   rw [run_bytesToString w ad s.size cap _ hl,key]
theorem Jq (w:World) (a:Addr) (n i:Nat) (h:i ≠ a.block):(w.freeze a n).heap[i]? = w.heap[i]? := by
 unfold World.freeze
 split
 ·rfl
 ·simp [Array.getElem?_modify,show ¬ a.block=i from λe=>h e.symm]
def markO (off n:Nat):Obj->Obj
 | .cells c elem (lo,hi)=>.cells c elem (if lo == hi then (off,off+n) else (min lo off,max hi (off+n)))
 | o=>o
theorem OU (w:World) (a:Addr) (n:Nat) (x:Addr):(w.freeze a n).cell? x=w.cell? x:=by
 by_cases hb:x.block=a.block
 ·by_cases h0:n=0
  ·simp [World.freeze,h0]
  ·have key:(w.freeze a n).heap[x.block]? = (w.heap[x.block]?).map (markO a.off n):=by
    unfold World.freeze;rw [if_neg h0];simp only [Array.getElem?_modify,hb,if_true];rfl
   unfold World.cell?;rw [key];cases hq:w.heap[x.block]? with
   | none=>rfl
   | some o=>cases o <;> rfl
 ·exact World.cell?_of_block (Jq w a n _ hb)
theorem fX.mark (h:fX c m w) (q:Pa) {b n k:Nat} (hl:c.lit b) (ho:¬ JI c.G b):fX c m (w.freeze ⟨b,n,none⟩ k)/\pA q c m w c m (w.freeze ⟨b,n,none⟩ k):=by
 obtain ⟨l1,l2,l3⟩:=h.lit b hl;have hsz:(w.freeze ⟨b,n,none⟩ k).heap.size=w.heap.size:=by unfold World.freeze;split <;> simp
 have hh:∀i,i ≠ b->(w.freeze ⟨b,n,none⟩ k).heap[i]? = w.heap[i]? := λi hi=>Jq w _ k i hi;have hos:(w.freeze ⟨b,n,none⟩ k).os=w.os/\(w.freeze ⟨b,n,none⟩ k).tape=w.tape/\(w.freeze ⟨b,n,none⟩ k).output=w.output:=by unfold World.freeze;split <;> exact ⟨rfl,rfl,rfl⟩
 refine ⟨⟨λb' o v hv=>by rw [OU];exact h.com b' o v hv,λid vs hv=>?_,h.inj,λs b' cap sz len hlv hk=>?_,h.ownInj,h.ver,h.gl,h.ver0,by rw [hsz];exact h.base,by rw [hsz];exact h.lit,λb' vs hv=>?_⟩,?_⟩
 ·obtain ⟨b',cs,t,k1,k2,k3⟩:=h.blk id vs hv;have hne:b' ≠ b:=λe=>l3 (.inl ⟨id,by rw [hv];simp,by rw [←e];exact k1⟩);exact ⟨b',cs,t,k1,(hh b' hne).trans k2,k3⟩
 ·obtain ⟨⟨cs,t,k1,k2⟩,k3⟩:=h.own s b' cap sz len hlv hk;have hne:b' ≠ b:=λe=>l3 (.inr ⟨s,cap,sz,len,hlv,by rw [←e];exact hk⟩);exact ⟨⟨cs,t,(hh b' hne).trans k1,k2⟩,k3⟩
 ·exact (h.hpr b' vs hv).mono (.refl c) λb2 n cs t hk hB2=>(hh b2 (λe=>l3 (by rw [←e];exact fX.priv_own hv hk))).trans hB2
 ·refine ⟨.refl c,hos.1,hos.2.1,hos.2.2,by rw [hsz];exact sZ _,λb' hb' _ hx=>hh b' (λe=>?_),λ_ _ _ _=>rfl,λ_ _ x=>x,λ_ _ x=>x,λ_ _ x=>x,λ_ _ x=>x⟩;subst e
  rcases hx with hx | hx
  ·omega
  ·exact ho hx
def Be (P:Program) (src dst:TypeId) (v:V) (C:V->Prop):Prop:=
 match P.underlying src,P.underlying dst,v with
 | some _,some (.int k),.lit (.int _ n)=>C (.lit (.int k (k.wrap n)))
 | some (.int _),some .string,.lit (.int _ n)=>C (.lit (.string (Utf8.encode n)))
 | some .string,some .string,.lit (.string s)=>C (.lit (.string s))
 | some (.slice e),some .string,.list _ rows=>P.underlying e=some (.int .u8)/\∃s,rows=lA s/\C (.lit (.string s))
 | some (.slice e),some (.slice _),.list .exact rows=>src=dst/\P.underlying e=some (.int .u8)/\rows ≠ []/\C (.list .exact rows)
 | some .string,some (.slice e),.lit (.string s)=>P.underlying e=some (.int .u8)/\s.size<=4611686018427387904/\C (.list .none (lA s))
 | _,_,_=>False
theorem UT {src dst:TypeId} {v:V} {C:V->Prop} (hs:Be P src dst v C) (h:fX c m w) (q:Pa) {x:Value} (hv:CR c [v] [x]):∃r,C r/\∃c' z w',(convert src dst x).run P w=.ok z w'/\fX c' m w'/\pA q c m w c' m w'/\CR c' [r] [z]:=by
 unfold Be at hs
 split at hs
 ·rename_i d k k' n hu hd;obtain rfl:=hv.inv_lit;refine ⟨_,hs,c,_,w,?_,h,.refl q c m w,.lit .nil⟩;simp [convert,run_underlying hu,run_underlying hd,Conv.intToInt]
 ·rename_i k k' n hu hd;obtain rfl:=hv.inv_lit;refine ⟨_,hs,c,_,w,?_,h,.refl q c m w,.lit .nil⟩;simp [convert,run_underlying hu,run_underlying hd,Conv.intToString]
 ·rename_i s hu hd;obtain rfl:=hv.inv_lit;refine ⟨_,hs,c,_,w,?_,h,.refl q c m w,.lit .nil⟩;simp [convert,run_underlying hu,run_underlying hd]
 ·rename_i e o rows hu hd;obtain ⟨he,s,rfl,hC⟩:=hs;obtain ⟨a,cap,es,sz,rfl,k1,k2,kz,k3,k4,k5,k6,kc,k7⟩:=hv.inv_list
  have hes:es=s.data.toList.map λb=>Value.int .u8 (b.toNat:Int):=by
   unfold lA at k1;rw [HL] at k1;exact k1.lits
  subst hes;refine ⟨_,hC,c,_,w,?_,h,.refl q c m w,.lit .nil⟩;rw [sV];exact LD hu he hd h.com k6
 ·rename_i e e' rows hu hd;obtain ⟨rfl,he,hne,hC⟩:=hs;obtain ⟨a,cap,es,sz,rfl,k1,k2,kz,k3,k4,k5,k6,kc,k7⟩:=hv.inv_list;have hpos:0<rows.length:=by cases rows with | nil=>exact absurd rfl hne | cons _ _=>simp
  obtain ⟨b,off,rfl⟩:=k5 hpos;have hes:0<es.length:=by rw [yJ k1 k2];exact Nat.mul_pos hpos kz
  obtain ⟨b',off',hab,hG⟩:=k6 hes
  injection hab with hab;injection hab with e1 e2;subst e1 e2
  have hlit:c.lit b:=k7.2 ⟨b,off,none⟩ rfl;have hG0:=hG 0 es[0] (by simp [hes]);have hout:¬ JI c.G b:=λho=>by rw [ho] at hG0;cases hG0
  have hcell:=h.com _ _ _ hG0
  obtain ⟨cs,t,fr,hB⟩:∃cs t fr,w.heap[b]? = some (.cells cs t fr):=by
   unfold World.cell? at hcell;cases hq:w.heap[b]? with
   | none=>simp [hq] at hcell
   | some o=>cases o <;> first | exact ⟨_,_,_,rfl⟩ | simp [hq] at hcell
  have hee:e=e':=by rw [hu] at hd;injection hd with hd;injection hd
  subst hee;obtain ⟨g1,g2⟩:=h.mark q (n:=cs.size) (k:=1) hlit hout;refine ⟨_,hC,c,.slice (some ⟨b,off,none⟩) rows.length cap,_,?_,g1,g2,hv⟩;have hsh:w.shape? b=some (t,cs.size):=by unfold World.shape?;rw [hB]
  simp [convert,run_underlying hu,run_underlying he,markStringish,hsh]
 ·rename_i e s hu hd;obtain rfl:=hv.inv_lit;obtain ⟨he,hsz,hC⟩:=hs;have hrun:=run_bytes_of_string (P:=P) w src dst e s hu hd he;have hge:=grownCap_ge w s.size 0 e;have hcm:=grownCap_le_maxLen w s.size 0 e (by simp only [maxLen];omega)
  have hrow:bytesRow s (grownCap w s.size 0 e)=((s.data.toList.map λ(b:UInt8)=>Value.int .u8 (b.toNat:Int))++List.replicate (grownCap w s.size 0 e - s.size) (Value.int .u8 0)).toArray:=by
   apply Array.ext';simp [bytesRow]
  have hnew:=OC (q:=q) (c:=c) (m:=m) (w:=w.drew) (rows:=lA s) (es:=s.data.toList.map λ(b:UInt8)=>Value.int .u8 (b.toNat:Int)) (rest:=List.replicate (grownCap w s.size 0 e - s.size) (Value.int .u8 0)) (sz:=1) (o:=Kf.none) (cap:=grownCap w s.size 0 e)
   (h.grown (w':=w.drew) (VU (Hu w none))) e ((bytesRow s (grownCap w s.size 0 e)).size,(bytesRow s (grownCap w s.size 0 e)).size+1) (by unfold lA;rw [HL];exact Ry c _) (by
     intro r hr;obtain ⟨b,_,rfl⟩:=LW.1 hr;rfl) (by decide) (by
     intro u hu;obtain ⟨b,_,rfl⟩:=LW.1 hu;rfl) (by rw [sV];exact hge) hcm (.inl rfl)
  rw [←hrow,sV] at hnew;obtain ⟨c',g1,g2,g3⟩:=hnew;exact ⟨_,hC,c',_,_,hrun,g1,(fX.ext_grown q c m (w':=w.drew) (VU (Hu w none))).trans g2,g3⟩
 ·exact hs.elim
def UH (op:UnOp) (v:V) (C:V->Prop):Prop:=
 match op,v with
 | .neg,.lit (.int k n)=>C (.lit (.int k (k.wrap (0 - n))))
 | .xor,.lit (.int k n)=>C (.lit (.int k (k.wrap (BitVec.ofInt k.bits (if k.signed then -1 else k.max) ^^^ BitVec.ofInt k.bits n).toNat)))
 | .not,.lit (.bool b)=>C (.lit (.bool !b))
 | _,_=>False
theorem sun_ok {op:UnOp} {v:V} {C:V->Prop} (hs:UH op v C) {x:Value} (hv:CR c [v] [x]) (w:World):∃r,C r/\∃z,(Op.unary op x).run P w=.ok z w/\CR c [r] [z]:=by
 unfold UH at hs
 split at hs
 ·obtain rfl:=hv.inv_lit;exact ⟨_,hs,_,by simp [Op.unary,Op.intArith],.lit .nil⟩
 ·obtain rfl:=hv.inv_lit;exact ⟨_,hs,_,by simp [Op.unary,Op.intBits],.lit .nil⟩
 ·obtain rfl:=hv.inv_lit;exact ⟨_,hs,_,by simp [Op.unary],.lit .nil⟩
 ·exact hs.elim
def LC (P:Program) (T:TypeId) (v:V) (C:V->Prop):Prop:=
 match P.underlying T,v with
 | some .string,.lit (.string s)=>C (.lit (.int .i64 s.size))
 | some (.slice _),.list _ rows=>C (.lit (.int .i64 rows.length))
 | some (.slice _),.arr _ _ len _=>C (.lit (.int .i64 len))
 | some (.slice _),.vec _ _ len=>C (.lit (.int .i64 len))
 | some (.slice _),.nilv=>C (.lit (.int .i64 0))
 | some (.array n _),_=>C (.lit (.int .i64 n))
 | _,_=>False
theorem slen_ok {T:TypeId} {v:V} {C:V->Prop} (hs:LC P T v C) {x:Value} (hv:CR c [v] [x]) (ats:Array TypeId) (ha:ats[0]? = some T) (ty:TypeId) (w:World):∃r,C r/\∃z,(Builtin.len_ ats ty #[x]).run P w=.ok z w/\CR c [r] [z]:=by
 unfold LC at hs
 split at hs
 ·rename_i s hu;obtain rfl:=hv.inv_lit;exact ⟨_,hs,_,by simp [Builtin.len_,ha,run_underlying hu,goInt],.lit .nil⟩
 ·rename_i e o rows hu;obtain ⟨a,cap,es,sz,rfl,_⟩:=hv.inv_list;exact ⟨_,hs,_,by simp [Builtin.len_,ha,run_underlying hu,goInt],.lit .nil⟩
 ·rename_i e id off len cap hu;obtain ⟨b,hr,rfl,_⟩:=hv.inv_arr;exact ⟨_,hs,_,by simp [Builtin.len_,ha,run_underlying hu,goInt],.lit .nil⟩
 ·rename_i e id sz len hu;obtain ⟨b,n,cap,_,_,_,_,_,rfl⟩:=hv.inv_vec;exact ⟨_,hs,_,by simp [Builtin.len_,ha,run_underlying hu,goInt],.lit .nil⟩
 ·rename_i e hu;obtain ⟨a,rfl⟩:=hv.inv_nilv;exact ⟨_,hs,_,by simp [Builtin.len_,ha,run_underlying hu,goInt],.lit .nil⟩
 ·rename_i n e _ hu;refine ⟨_,hs,_,?_,.lit .nil⟩;simp [Builtin.len_,ha,run_underlying hu,goInt]
 ·exact hs.elim
def sA (mx:Bool) (u v:V) (C:V->Prop):Prop:=
 match u,v with
 | .lit (.int k x),.lit (.int k' y)=>k=k'/\C (.lit (.int k (if mx then max x y else min x y)))
 | _,_=>False
theorem smin_ok {u v:V} {C:V->Prop} (hs:sA false u v C) {x y:Value} (hu:CR c [u] [x]) (hv:CR c [v] [y]) (ats:Array TypeId) (ty:TypeId) (w:World):∃r,C r/\∃z,(Builtin.min_ ats ty #[x,y]).run P w=.ok z w/\CR c [r] [z]:=by
 unfold sA at hs
 split at hs
 ·rename_i k a k' b;obtain ⟨rfl,hC⟩:=hs;obtain rfl:=hu.inv_lit;obtain rfl:=hv.inv_lit;refine ⟨_,hC,_,?_,.lit .nil⟩;have:(if b<a then b else a)=min a b:=by omega
  simp [Builtin.min_,Builtin.min2,this]
 ·exact hs.elim
theorem smax_ok {u v:V} {C:V->Prop} (hs:sA true u v C) {x y:Value} (hu:CR c [u] [x]) (hv:CR c [v] [y]) (ats:Array TypeId) (ty:TypeId) (w:World):∃r,C r/\∃z,(Builtin.max_ ats ty #[x,y]).run P w=.ok z w/\CR c [r] [z]:=by
 unfold sA at hs
 split at hs
 ·rename_i k a k' b;obtain ⟨rfl,hC⟩:=hs;obtain rfl:=hu.inv_lit;obtain rfl:=hv.inv_lit;refine ⟨_,hC,_,?_,.lit .nil⟩;have:(if a<b then b else a)=max a b:=by omega
  simp [Builtin.max_,Builtin.max2,this]
 ·exact hs.elim
def M.hmove (m:M) (id q:Pa) (vs:List V):M:={ m with hp:=λi=>if i=q then some vs else if i=id then none else m.hp i }
def Conc.halfv (c:Conc) (q:Pa) (b n:Nat):Conc:={ c with κ:=λs=>if s=.priv q then some (.arr b n 1 0) else c.κ s }
theorem fX.halfv (h:fX c m w) {q:Pa} (hf:eZ c q) (b n:Nat):fX (c.halfv q b n) m w/\(∀m0 w0,pA q c m0 w0 c m w->pA q c m0 w0 (c.halfv q b n) m w)/\(∀b',eY (c.halfv q b n) m b'->eY c m b')/\Le c (c.halfv q b n)/\(c.halfv q b n).κ (.priv q)=some (.arr b n 1 0):=by
 obtain ⟨c',hc'⟩:∃c':Conc,c'=c.halfv q b n:=⟨_,rfl⟩;rw [←hc'];have hκ:∀s,c'.κ s=if s=.priv q then some (.arr b n 1 0) else c.κ s:=by intro s;rw [hc'];rfl
 have hρ:c'.ρ=c.ρ:=by rw [hc'];rfl
 have hG:c'.G=c.G:=by rw [hc'];rfl
 have hlit:c'.lit=c.lit:=by rw [hc'];rfl
 have hbase:c'.base=c.base:=by rw [hc'];rfl
 clear hc'
 have hle:Le c c':=⟨hbase,λb h=>by rw [hlit];exact h,λi b h=>by rw [hρ];exact h,λs i hk=>by
  rw [hκ];split
  ·rename_i e;rw [e,hf.2.2.2] at hk;cases hk
  ·exact hk,λb o v h=>by rw [hG];exact h⟩
 have hk':∀s i,fN m s=true->c'.κ s=some i->c.κ s=some i:=by
  intro s i hl hk;rw [hκ,if_neg] at hk
  ·exact hk
  ·rintro rfl;have hl:(m.hp q).isSome=true:=hl;rw [h.fresh_hp hf] at hl;cases hl
 have hown:∀b',eY c' m b'->eY c m b':=by
  rintro b' (⟨id,fL,hr⟩ | ⟨s,cap,sz,len,hl',hk⟩)
  ·exact .inl ⟨id,fL,by rw [←hρ];exact hr⟩
  ·exact .inr ⟨s,cap,sz,len,hl',hk' _ _ hl' hk⟩
 refine ⟨⟨by rw [hG];exact h.com,λid xs hv=>?_,λid id' b' hi hi' hr hr'=>h.inj id id' b' hi hi' (by rw [←hρ];exact hr) (by rw [←hρ];exact hr'),λs b' cap sz len hl' hk=>?_,λs s' b' cap sz len cap' sz' len' hl1 hl2 k1 k2=>h.ownInj s s' b' cap sz len cap' sz' len' hl1 hl2 (hk' _ _ hl1 k1) (hk' _ _ hl2 k2),λid off v hb hv=>?_,λg=>(h.gl g).mono hle,λid fL=>h.ver0 id (fL.anti hle),by rw [hbase];exact h.base,λb' hb'=>?_,λi xs hx=>(h.hpr i xs hx).mono hle λ_ _ _ _ _ hB=>hB⟩,λm0 w0 hX=>?_,hown,hle,by rw [hκ,if_pos rfl]⟩
 ·obtain ⟨b',ys,t',k1,k2,k3,k4,k5⟩:=h.blk id xs hv;exact ⟨b',ys,t',by rw [hρ];exact k1,k2,k3.mono hle,by rw [hG];exact k4,k5⟩
 ·obtain ⟨k1,k2,k3,k4⟩:=h.own s b' cap sz len hl' (hk' _ _ hl' hk);exact ⟨k1,λo ho=>by rw [hG];exact k2 o ho,λid fL=>by rw [hρ];exact k3 id fL,k4⟩
 ·rw [hκ,if_neg (by rintro ⟨⟩)];exact h.ver id off v hb hv
 ·rw [hlit] at hb';exact ⟨by rw [hbase];exact (h.lit b' hb').1,(h.lit b' hb').2.1,λho'=>(h.lit b' hb').2.2 (hown b' ho')⟩
 ·refine ⟨hX.le.trans hle,hX.os,hX.tape,hX.output,hX.size,hX.heap,λb' _ _ o=>by rw [hG],λb' hb' ho'=>hX.own b' hb' (hown b' ho'),λid fL hf'=>?_,λid fL hb'=>?_,λb' hb' hl'=>hX.lits b' hb' (by rw [hlit] at hl';exact hl')⟩
  ·have h1:=hX.fresh id fL hf';have hne:id ≠ q:=by rintro rfl;exact fL (LY _)
   exact ⟨by rw [hρ];exact h1.1,λi=>by rw [hκ,if_neg (by rintro ⟨⟩)];exact h1.2.1 i,λoff v=>by rw [hκ,if_neg (by rintro ⟨⟩)];exact h1.2.2.1 off v,by rw [hκ,if_neg (by intro e;injection e with e;exact hne e)];exact h1.2.2.2⟩
  ·have h1:=hX.keep id fL hb';exact ⟨h1.blk,λi=>by rw [hκ,if_neg (by rintro ⟨⟩)];exact h1.anon i,λoff v=>by rw [hκ,if_neg (by rintro ⟨⟩)];exact h1.cell off v,h1.ver,h1.tok⟩
theorem fX.hput (h:fX c m w) {q:Pa} {b:Nat} {t:TypeId} {cs:Array Value} {vs:List V} (hat:c.κ (.priv q)=some (.arr b cs.size 1 0)) (hB:AT w b t cs) (hn:¬ eY c m b) (hlt:¬ c.lit b) (hO:JI c.G b)
  (hl:vs.length<=cs.size) (hcr:CR c vs (cs.toList.take vs.length)) (hone:∀u ∈ cs.toList,u.oneCell'=true):fX c (m.hset q vs) w/\∀b',eY c (m.hset q vs) b'->eY c m b' ∨ b'=b:=by
 have hlive:∀s,s ≠ .priv q->fN (m.hset q vs) s=true->fN m s=true:=by
  intro s hne hl;cases s with
  | priv i=>
    have hl':(if i=q then some vs else m.hp i).isSome=true:=hl;rw [if_neg (λe=>hne (by rw [e]))] at hl';exact hl'
  | _=>exact hl
 have hown:∀b',eY c (m.hset q vs) b'->eY c m b' ∨ b'=b:=by
  rintro b' (⟨id,fL,hr⟩ | ⟨s,cap,sz,len,hl',hk⟩)
  ·exact .inl (.inl ⟨id,fL,hr⟩)
  ·by_cases hs:s=.priv q
   ·rw [hs,hat] at hk;injection hk with hk;injection hk with e;exact .inr e.symm
   ·exact .inl (.inr ⟨s,cap,sz,len,hlive s hs hl',hk⟩)
 refine ⟨⟨h.com,h.blk,h.inj,λs b' cap sz len hl' hk=>?_,λs s' b' cap sz len cap' sz' len' hl1 hl2 hk hk'=>?_,h.ver,h.gl,h.ver0,h.base,λb' hb'=>⟨(h.lit b' hb').1,(h.lit b' hb').2.1,λho'=>?_⟩,λi xs hx=>?_⟩,hown⟩
 ·by_cases hs:s=.priv q
  ·rw [hs,hat] at hk;injection hk with hk;injection hk with e1 e2 e3 e4;subst e1 e2 e3 e4
   exact ⟨⟨cs,t,hB,by rw [PH]⟩,λo _=>hO o,λid fL hr=>hn (.inl ⟨id,fL,hr⟩),Jc _,by decide⟩
  ·exact h.own s b' cap sz len (hlive s hs hl') hk
 ·by_cases hs:s=.priv q <;> by_cases hs':s'=.priv q
  ·rw [hs,hs']
  ·rw [hs,hat] at hk;injection hk with hk;injection hk with e1;subst e1
   exact absurd (.inr ⟨s',_,_,_,hlive s' hs' hl2,hk'⟩) hn
  ·rw [hs',hat] at hk';injection hk' with hk';injection hk' with e1;subst e1
   exact absurd (.inr ⟨s,_,_,_,hlive s hs hl1,hk⟩) hn
  ·exact h.ownInj s s' b' cap sz len cap' sz' len' (hlive s hs hl1) (hlive s' hs' hl2) hk hk'
 ·rcases hown b' ho' with ho' | e
  ·exact (h.lit b' hb').2.2 ho'
  ·rw [e] at hb';exact hlt hb'
 ·have hx':(if i=q then some vs else m.hp i)=some xs:=hx
  by_cases e:i=q
  ·subst e;rw [if_pos rfl] at hx'
   injection hx' with hx'
   subst hx';exact ⟨b,cs.size,hat,cs,t,hB,hl,hcr,hone⟩
  ·rw [if_neg e] at hx';exact h.hpr i xs hx'
theorem pA.hput {q π:Pa} {c0:Conc} {m0:M} {w0:World} {vs:List V} (hX:pA π c0 m0 w0 c m w) (ho:∀b,b<w0.heap.size->eY c (m.hset q vs) b->eY c0 m0 b):pA π c0 m0 w0 c (m.hset q vs) w:=
 ⟨hX.le,hX.os,hX.tape,hX.output,hX.size,hX.heap,hX.book,ho,hX.fresh,λid fL hb=>⟨(hX.keep id fL hb).blk,(hX.keep id fL hb).anon,(hX.keep id fL hb).cell,(hX.keep id fL hb).ver,(hX.keep id fL hb).tok⟩,hX.lits⟩
theorem fX.hgive {m0:M} {w0:World} {q:Pa} (h:fX c m w) (hf:eZ c q) (hX:pA q c m0 w0 c m w) {b:Nat} {t:TypeId} {cs:Array Value} {vs:List V} (hB:AT w b t cs) (hn:¬ eY c m b) (hlt:¬ c.lit b) (hO:JI c.G b) (ho:b<w0.heap.size->eY c m0 b)
  (hl:vs.length<=cs.size) (hcr:CR c vs (cs.toList.take vs.length)) (hone:∀u ∈ cs.toList,u.oneCell'=true) :
  ∃c',Le c c'/\c'.κ (.priv q)=some (.arr b cs.size 1 0)/\fX c' (m.hset q vs) w/\pA q c m0 w0 c' (m.hset q vs) w:=by
 obtain ⟨k1,k2,k3,k4,k5⟩:=h.halfv hf b cs.size;obtain ⟨g1,g2⟩:=k1.hput k5 hB (λho=>hn (k3 b ho)) hlt hO hl (hcr.mono k4) hone;exact ⟨_,k4,k5,g1,(k2 _ _ hX).hput λb' hb' ho'=>(g2 b' ho').elim (λh=>hX.own b' hb' (k3 b' h)) λe=>by rw [e] at hb' ⊢;exact ho hb'⟩
theorem fX.hnew {q:Pa} (h:fX c m w) (hf:eZ c q) {vs:List V} {cs:List Value} (t:TypeId) (hl:vs.length<=cs.length) (hcr:CR c vs (cs.take vs.length)) (hone:∀u ∈ cs,u.oneCell'=true) :
  ∃c',Le c c'/\c'.κ (.priv q)=some (.arr w.heap.size cs.length 1 0)/\fX c' (m.hset q vs) (w.alloc (.cells cs.toArray t))/\pA q c m w c' (m.hset q vs) (w.alloc (.cells cs.toArray t)):=by
 have hg:w.grownBy (w.alloc (.cells cs.toArray t)) none:=IS (Hu w none) _;have:=(h.grown hg).hgive hf (fX.ext_grown q c m hg) (b:=w.heap.size) (vs:=vs) (AT.new w t cs.toArray) (λho=>absurd (h.own_lt ho) (xdw _)) (λhx=>absurd (h.lit _ hx).2.1 (xdw _)) (h.com.out (sZ _)) (λhx=>absurd hx (xdw _)) (by simpa using hl) (by simpa using hcr) (by simpa using hone);simpa using this
theorem fX.hdrop (h:fX c m w) (id:Pa):fX c (m.drop (.st (.priv id))) w/\(∀q,pA q c m w c (m.drop (.st (.priv id))) w)/\∀s,fN (m.drop (.st (.priv id))) s=true->fN m s=true/\s ≠ .priv id:=by
 obtain ⟨h1,h2,h3⟩:=h.dropped (.st (.priv id));exact ⟨h1,h2,λs hl=>⟨(h3 s hl).1,λe=>(h3 s hl).2 (by rw [e])⟩⟩
theorem fX.hrename {q id:Pa} (h:fX c m w) (hf:eZ c q) {vs vs':List V} {b n:Nat} {t:TypeId} {cs cs':Array Value} (hv:m.hp id=some vs) (hk:c.κ (.priv id)=some (.arr b n 1 0)) (hB:AT w b t cs) (hB':AT w' b t cs') (hsz:cs'.size=cs.size) (hg:w.grownBy w' (some b))
  (hl:vs'.length<=cs'.size) (hcr:CR c vs' (cs'.toList.take vs'.length)) (hone:∀u ∈ cs'.toList,u.oneCell'=true) :
  ∃c',Le c c'/\c'.κ (.priv q)=some (.arr b cs'.size 1 0)/\fX c' (m.hmove id q vs') w'/\pA q c m w c' (m.hmove id q vs') w':=by
 obtain ⟨h1,h2⟩:=h.hwrite q (vs':=vs') hv hk hB hB' hsz hg hl hcr hone;have hv1:(m.hset id vs').hp id=some vs':=by show (if id=id then some _ else _)=_;rw [if_pos rfl]
 obtain ⟨d1,d2,d3⟩:=h1.hdrop id
 have hno:¬ eY c ((m.hset id vs').drop (.st (.priv id))) b:=by
  rintro (⟨i,hi,hr⟩ | ⟨s,cap,sz,len,hl',hk'⟩)
  ·exact h.priv_id hv hk (id':=i) hi hr
  ·obtain ⟨k1,k2⟩:=d3 s hl';exact k2 (h1.priv_arr hv1 hk k1 hk')
 obtain ⟨c',g1,g2,g3,g4⟩:=d1.hgive hf (h2.trans (d2 q)) (vs:=vs') hB' hno (λhx=>(h.lit _ hx).2.2 (fX.priv_own hv hk)) (h.priv_out hv hk) (λ_=>fX.priv_own hv hk) hl hcr hone
 have e:((m.hset id vs').drop (.st (.priv id))).hset q vs'=m.hmove id q vs':=by
  show M.mk m.blk m.ver m.tok m.gl _=M.mk m.blk m.ver m.tok m.gl _
  congr 1
  funext i
  show (if i=q then some vs' else if i=id then none else if i=id then some vs' else m.hp i)=if i=q then some vs' else if i=id then none else m.hp i
  by_cases e1:i=q
  ·rw [if_pos e1,if_pos e1]
  ·rw [if_neg e1,if_neg e1]
   by_cases e2:i=id
   ·rw [if_pos e2,if_pos e2]
   ·rw [if_neg e2,if_neg e2,if_neg e2]
 rw [e] at g3 g4;exact ⟨c',g1,g2,g3,g4⟩
def Mp (P:Program) (T:TypeId) (v:V):Option (List (List V)):=
 match P.underlying T,v with
 | some (.slice _),.list _ rows=>some rows
 | some .string,.lit (.string s)=>some (lA s)
 | _,_=>none
def wD (P:Program) (q:Pa) (m:M) (t u:TypeId) (s x:V) (C:V->M->Prop):Prop:=
 match P.underlying t,s,Mp P u x with
 | some (.slice e),.list o rows,some rows2=>
   (match bZ P e,cT P e,(P.info? e).map (·.bytes) with
    | some n,some zs,some by_=>vC m o rows=true/\0<n/\by_<=65536/\zs.length=n/\(∀r ∈ rows,r.length=n)/\(∀r ∈ rows2,r.length=n)/\rows.length+rows2.length<=1073741824 ∧
       C (.list (.st (.anon q 0)) (rows++rows2)) ((m.drop o).tokset q 0 true)
    | _,_,_=>False)
 | some (.slice e),.nilv,some rows2=>
   (match bZ P e,cT P e,(P.info? e).map (·.bytes) with
    | some n,some zs,some by_=>0<n/\by_<=65536/\zs.length=n/\(∀r ∈ rows2,r.length=n)/\0<rows2.length/\rows2.length<=1073741824 ∧
       C (.vec q n rows2.length) (m.hset q (rows2.flatten.map V.toHp))
    | _,_,_=>False)
 | some (.slice e),.vec id sz len,some rows2=>
   (match bZ P e,cT P e,(P.info? e).map (·.bytes),m.hp id with
    | some n,some zs,some by_,some vs=>sz=n/\by_<=65536/\zs.length=n/\(∀r ∈ rows2,r.length=n)/\len*n<=vs.length/\len+rows2.length<=1073741824 ∧
       C (.vec q n (len+rows2.length)) (m.hmove id q (vs.take (len*n)++rows2.flatten.map V.toHp))
    | _,_,_,_=>False)
 | _,_,_=>False
theorem Ke {α β:Type} (f:α->β) (a:Array α):a.map f=(a.toList.map f).toArray:=by apply Array.ext';simp
theorem KD {u:TypeId} {v:V} {rows2:List (List V)} (hn:Mp P u v=some rows2) (h:fX c m w) {x:Value} (hv:CR c [v] [x]) {n:Nat} (hr:∀r ∈ rows2,r.length=n):∃news,CR c rows2.flatten news/\Pk P w n u x rows2.length news:=by
 unfold Mp at hn
 split at hn
 ·rename_i e o rows hu
  injection hn with hn;subst hn
  obtain ⟨a,cap,es,sz,rfl,k1,k2,kz,k3,k4,k5,k6,kc,k7⟩:=hv.inv_list;exact ⟨es,k1,Pk.book h.com hu (by simp) (yJ k1 hr) k6 kc⟩
 ·rename_i s hu
  injection hn with hn;subst hn
  obtain rfl:=hv.inv_lit
  have hn1:s.data.toList ≠ []->n=1:=by
   intro hne;cases hx:s.data.toList with
   | nil=>exact absurd hx hne
   | cons b l=>have:=hr [.lit (.int .u8 (b.toNat:Int))] (by simp [lA,hx]);simpa using this.symm
  refine ⟨s.data.toList.map λb=>Value.int .u8 (b.toNat:Int),by unfold lA;rw [HL];exact Ry c _,⟨⟨.string,hu,by simp⟩,?_,?_,?_,?_,?_⟩⟩
  ·rw [sV];rfl
  ·rw [sV];simp [Builtin.firstCells,Ke]
  ·rw [sV];simp [Builtin.firstCells,Ke]
  ·rw [sV]
   by_cases hne:s.data.toList=[]
   ·have:s.size=0:=by have:=congrArg List.length hne;simpa using this
    simp [hne,this]
   ·rw [hn1 hne];simp
  ·intro u hu;obtain ⟨b,_,rfl⟩:=LW.1 hu;rfl
 ·cases hn
theorem Ck {e n by_:Nat} {zs:List V} (hsz:bZ P e=some n) (hzc:cT P e=some zs) (hby:(P.info? e).map (·.bytes)=some by_) (hzl:zs.length=n) :
  ∃i z,P.info? e=some i/\i.size=n/\i.bytes=by_/\i.zero=some z/\z.cells.size=i.size/\∀u ∈ z.cells.toList,u.oneCell'=true:=by
 unfold bZ at hsz;cases hi:P.info? e with
 | none=>simp [hi] at hsz
 | some i=>
   simp only [hi,NG,Option.some.injEq] at hsz hby
   obtain ⟨z,hz⟩:∃z,i.zero=some z:=by
    unfold cT zT at hzc;simp only [hi,dV] at hzc;cases hq:i.zero with
    | none=>simp [hq] at hzc
    | some z=>exact ⟨z,rfl⟩
   have hzs:z.cells.size=i.size/\∀u ∈ z.cells.toList,u.oneCell'=true:=by
    unfold cT zT at hzc;simp only [hi,dV,hz] at hzc
    split at hzc
    ·rename_i hone
     injection hzc with hzc
     exact ⟨by rw [hsz,←hzl,←hzc];simp,LX.1 hone⟩
    ·cases hzc
   exact ⟨i,z,rfl,hsz,hby,hz,hzs⟩
theorem NT {q:Pa} (h:fX c m w) (hf:eZ c q) {i:TypeInfo} {z:Value} {len k cap':Nat} {olds news:List Value} {ovs nvs:List V} (ho:CR c ovs olds) (hn:CR c nvs news) (hol:olds.length=len*i.size) (hnl:news.length=k*i.size) (ho1:∀u ∈ olds,u.oneCell'=true) (hn1:∀u ∈ news,u.oneCell'=true)
  (hz1:z.cells.size=i.size) (hz2:∀u ∈ z.cells.toList,u.oneCell'=true) (h0:0<i.size) (hge:len+k<=cap') (hcm:cap'<=maxLen) (e:TypeId) :
  ∃c',fX c' (m.hset q (ovs++nvs)) (w.drew.alloc (.cells (olds.toArray++news.toArray++Builtin.zeroCells z.cells (cap' - (len+k))) e))/\pA q c m w c' (m.hset q (ovs++nvs)) (w.drew.alloc (.cells (olds.toArray++news.toArray++Builtin.zeroCells z.cells (cap' - (len+k))) e)) ∧
   CR c' [.vec q i.size (len+k)] [.slice (some ⟨w.heap.size,0,none⟩) (len+k) cap']:=by
 have hD:=h.drewN 1
 have hzl:((Builtin.zeroCells z.cells (cap' - (len+k))).toList).length=(cap' - (len+k))*i.size:=by
  rw [Rc,size_zeroCells,hz1]
 have hvl:(ovs++nvs).length=(olds++news).length:=by rw [mX,mX,ho.len,hn.len]
 obtain ⟨c',g0,g1,g2,g3⟩:=hD.hnew hf (vs:=ovs++nvs) (cs:=olds++news++(Builtin.zeroCells z.cells (cap' - (len+k))).toList) e (by rw [mX (as:=olds++news),hvl];omega) (by
  rw [hvl,List.take_left];exact ho.append hn) (by
  intro u hu
  rcases Cu.1 hu with hu | hu
  ·rcases Cu.1 hu with hu | hu
   ·exact ho1 u hu
   ·exact hn1 u hu
  ·unfold Builtin.zeroCells at hu;rw [Array.toList_map,LW] at hu;obtain ⟨j,_,rfl⟩:=hu;have hj:j % z.cells.size<z.cells.size:=Nat.mod_lt _ (by rw [hz1];exact h0);rw [getElem!_pos z.cells _ hj];exact hz2 _ (Array.getElem_mem_toList hj))
 have harr:(olds++news++(Builtin.zeroCells z.cells (cap' - (len+k))).toList).toArray=olds.toArray++news.toArray++Builtin.zeroCells z.cells (cap' - (len+k)):=by
  apply Array.ext';simp [Gb]
 rw [harr] at g2 g3;refine ⟨c',g2,(pA.drewN q c m w 1).trans g3,.vec g1 ?_ h0 hge hcm .nil⟩;rw [mX,mX,hol,hnl,hzl,←TV,←TV,show len+k+(cap' - (len+k))=cap' by omega]
theorem Qe {q:Pa} {t u:TypeId} {s x:V} {C:V->M->Prop} (hs:wD P q m t u s x C) (h:fX c m w) (hf:eZ c q) {s' x':Value} (hsv:CR c [s] [s']) (hxv:CR c [x] [x']) (ty:TypeId) :
  ∃r m',C r m'/\∃c' z w',(Builtin.append_ #[t,u] ty #[s',x']).run P w=.ok z w'/\fX c' m' w'/\pA q c m w c' m' w'/\CR c' [r] [z]:=by
 unfold wD at hs
 split at hs
 ·rename_i e o rows rows2 ht hn
  split at hs
  ·rename_i n zs by_ hsz hzc hby;obtain ⟨h1,h2,h3,hzl,h4,h5,h6,hC⟩:=hs;obtain ⟨news,k1,k2⟩:=KD hn h hxv h5;unfold bZ at hsz;cases hi:P.info? e with
   | none=>simp [hi] at hsz
   | some i=>
     simp only [hi,NG,Option.some.injEq] at hsz hby;subst hsz hby
     obtain ⟨z,hz⟩:∃z,i.zero=some z:=by
      unfold cT zT at hzc;simp only [hi,dV] at hzc;cases hq:i.zero with
      | none=>simp [hq] at hzc
      | some z=>exact ⟨z,rfl⟩
     have hzs:z.cells.size=i.size:=by
      unfold cT zT at hzc;simp only [hi,dV,hz] at hzc
      split at hzc
      ·injection hzc with hzc;rw [←hzl,←hzc];simp
      ·cases hzc
     have hbig:(rows.length+rows2.length)*i.bytes<=140737488355328:=by
      have:=Nat.mul_le_mul h6 h3;omega
     obtain ⟨v',w',c',hrun,g1,g2,g3⟩:=h.append (P:=P) hf hsv h1 t u ty e i z ht hi hz hzs h2 h4 k1 h5 k2 hbig (by simp only [maxLen];omega);exact ⟨_,_,hC,c',v',w',hrun,g1,g2,g3⟩
  ·exact hs.elim
 ·rename_i e rows2 ht hn
  split at hs
  ·rename_i n zs by_ hsz hzc hby;obtain ⟨h2,h3,hzl,h5,hpos,h6,hC⟩:=hs;obtain ⟨news,k1,k2⟩:=KD hn h hxv h5;obtain ⟨a,rfl⟩:=hsv.inv_nilv;obtain ⟨i,z,hi,e1,e2,hz,hz1,hz2⟩:=Ck hsz hzc hby hzl;subst e1 e2
   have hbig:(0+rows2.length)*i.bytes<=140737488355328:=by
    rw [Lo];have:=Nat.mul_le_mul h6 h3;omega
   have hm':0+rows2.length<=maxLen:=by simp only [maxLen];omega
   have hold:(Builtin.firstCells i.size 0 (.slice a 0 0)).run P w.drew=.ok ([]:List Value).toArray w.drew:=by
    cases a with
    | none=>exact run_firstCells_none w.drew i.size 0 0 0
    | some b=>exact run_firstCells_some w.drew i.size 0 b 0 0 [] (by simp) (by simp)
   have hrun:=Fe (P:=P) w t u ty e i z ht hi hz hold k2 (by omega) hbig (by omega);obtain ⟨c',g1,g2,g3⟩:=NT h hf (len:=0) (k:=rows2.length) (ovs:=[]) (olds:=[]) .nil (BJ k1) (by simp) k2.size (by simp) k2.one hz1 hz2 h2 (grownCap_ge w (0+rows2.length) 0 e) (grownCap_le_maxLen w (0+rows2.length) 0 e hm') e;rw [Lo] at hrun g3;exact ⟨_,_,hC,c',_,_,hrun,by simpa using g1,by simpa using g2,g3⟩
  ·exact hs.elim
 ·rename_i e id sz len rows2 ht hn
  split at hs
  ·rename_i n zs by_ vs hsz hzc hby hhp;obtain ⟨rfl,h3,hzl,h5,hlv,h6,hC⟩:=hs;obtain ⟨news,k1,k2⟩:=KD hn h hxv h5;obtain ⟨b,nb,cap,hk,hnb,hz0,hlc,hcm,rfl⟩:=hsv.inv_vec;obtain ⟨i,z,hi,e1,e2,hz,hz1,hz2⟩:=Ck hsz hzc hby hzl;subst e1 e2;obtain ⟨b',n',hk',cs,t',hB,hl,hcr,hone⟩:=h.hpr id vs hhp;rw [hk] at hk';injection hk' with hk';injection hk' with e1 e2;subst e1 e2
   have hcs:cs.size=nb:=by
    obtain ⟨⟨ys,t2,hB2,hs⟩,_⟩:=h.own (.priv id) b nb 1 0 (fX.priv_live hhp) hk;have h1:w.heap[b]? = some (.cells cs t' (0,0)):=hB;have h2:w.heap[b]? = some (.cells ys t2 (0,0)):=hB2;rw [h1] at h2;injection h2 with h2;injection h2 with h3
    rw [h3,hs,PH]
   have hlz:len*i.size<=cap*i.size:=Uh _ hlc
   have hold1:CR c (vs.take (len*i.size)) (cs.toList.take (len*i.size)):=by
    have:=hcr.take (len*i.size)
    rwa [List.take_take,xdr hlv] at this
   by_cases hroom:len+rows2.length<=cap
   ·have hfit:len*i.size+news.length<=cs.size:=by rw [k2.size,hcs,hnb,←TV];exact Uh _ hroom
    have hrun:=If (P:=P) w t u ty e i ht hi hB k2 hroom hfit;obtain ⟨cur',hcur'⟩:∃cur',cur'=(cs.toList.take (len*i.size)++news++cs.toList.drop (len*i.size+news.length)).toArray:=⟨_,rfl⟩;rw [←hcur'] at hrun;have hg:w.grownBy (w.setRow b cur') (some b):=⟨rfl,rfl,rfl,by simp,λk _ hk=>setRow_other w b k _ (λe=>hk (by rw [e]))⟩
    have hsz':cur'.size=cs.size:=by
     rw [hcur'];simp only [xdz,mX,JQ,Pw,Rc];omega
    have hnl:=k1.len
    have hvl:(vs.take (len*i.size)++rows2.flatten.map V.toHp).length=len*i.size+news.length:=by
     rw [mX,JQ,Hh,hnl,xdr hlv]
    obtain ⟨c',g0,g1,g2,g3⟩:=h.hrename hf (vs':=vs.take (len*i.size)++rows2.flatten.map V.toHp) hhp hk hB (setRow_heap w b cs cur' t' (0,0) hB) hsz' hg (by rw [hvl,hsz'];exact hfit) (by
     rw [hvl,hcur']
     have e3:((cs.toList.take (len*i.size)++news++cs.toList.drop (len*i.size+news.length)).toArray.toList.take (len*i.size+news.length))=cs.toList.take (len*i.size)++news:=by
      rw [List.toList_toArray];refine List.take_left' ?_;rw [mX,JQ,Rc,xdr (by omega)]
     rw [e3];exact hold1.append (BJ k1)) (by
     rw [hcur'];intro u hu
     rcases Cu.1 hu with hu | hu
     ·rcases Cu.1 hu with hu | hu
      ·exact hone u (Py hu)
      ·exact k2.one u hu
     ·exact hone u (Uf hu))
    exact ⟨_,_,hC,c',_,_,hrun,g2,g3,.vec (by rw [g1,hsz',hcs,hnb]) rfl hz0 hroom hcm .nil⟩
   ·have hbig:(len+rows2.length)*i.bytes<=140737488355328:=by
     have:=Nat.mul_le_mul h6 h3;omega
    have hm':len+rows2.length<=maxLen:=by simp only [maxLen];omega
    have hold:(Builtin.firstCells i.size len (.slice (some ⟨b,0,none⟩) len cap)).run P w.drew=.ok (cs.toList.take (len*i.size)).toArray w.drew:=by
     refine run_firstCells_some w.drew i.size len _ len cap _ (by rw [JQ,Rc];omega) λj v hv=>?_;rw [mW,hB.drew.cell];rw [xdj] at hv
     split at hv
     ·simpa using hv
     ·cases hv
    have hrun:=Fe (P:=P) w t u ty e i z ht hi hz hold k2 (by omega) hbig (by omega);obtain ⟨d1,d2,_⟩:=h.hdrop id;obtain ⟨c',g1,g2,g3⟩:=NT d1 hf (len:=len) (k:=rows2.length) (ovs:=vs.take (len*i.size)) (olds:=cs.toList.take (len*i.size)) hold1 (BJ k1) (by rw [JQ,Rc];omega) k2.size (λu hu=>hone u (Py hu)) k2.one hz1 hz2 hz0 (grownCap_ge w (len+rows2.length) cap e) (grownCap_le_maxLen w (len+rows2.length) cap e hm') e;have e4:(m.drop (.st (.priv id))).hset q (vs.take (len*i.size)++rows2.flatten.map V.toHp)=m.hmove id q (vs.take (len*i.size)++rows2.flatten.map V.toHp):=rfl;rw [e4] at g1 g2;exact ⟨_,_,hC,c',_,_,hrun,g1,(d2 q).trans g2,g3⟩
  ·exact hs.elim
 ·exact hs.elim
def Di (P:Program) (q:Pa) (m:M) (T:TypeId) (l k:V) (C:V->M->Prop):Prop:=
 match P.underlying T,l,k with
 | some (.slice e),.lit (.int _ n),.lit (.int _ n2)=>
   (match bZ P e,cT P e,(P.info? e).map (·.bytes) with
    | some s,some zs,some by_=>n=n2/\0<=n/\0<s/\by_<=65536/\zs.length=s/\n<=1073741824/\C (.vec q s n.toNat) (m.hset q (List.replicate n.toNat (zs.map V.toHp)).flatten)
    | _,_,_=>False)
 | _,_,_=>False
theorem Ms {q:Pa} (h:fX c m w) {w':World} (hg:w.grownBy w' none) {rows:List (List V)} {es:List Value} {sz b:Nat} (hb:w.heap.size<=b) (hbw:b<w'.heap.size) (hcell:∀i u,es[i]? = some u->w'.cell? ⟨b,i,none⟩=some u)
  (k1:CR c rows.flatten es) (k2:∀r ∈ rows,r.length=sz) (kz:0<sz) (k3:∀u ∈ es,u.oneCell'=true) {cap:Nat} (hm:cap<=maxLen) (he:cap=rows.length) :
  ∃c',fX c' m w'/\pA q c m w c' m w'/\CR c' [.list .exact rows] [.slice (some ⟨b,0,none⟩) rows.length cap]:=by
 have hOut:JI c.G b:=h.com.out hb;have hno:¬ eY c m b:=λho=>by have:=h.own_lt ho;omega
 have h1:=(h.grown hg).laid (cs:=es) hOut hno hcell;have hll:Le c { c.laid b es with lit:=λx=>c.lit x ∨ x=b }:=⟨rfl,λ_ x=>.inl x,λ_ _ x=>x,λ_ _ x=>x,(Le.laid hOut).G⟩;have hle2:Le (c.laid b es) { c.laid b es with lit:=λx=>c.lit x ∨ x=b }:=⟨rfl,λ_ x=>.inl x,λ_ _ x=>x,λ_ _ x=>x,λ_ _ _ x=>x⟩;have hE:=h.ext_laid (cs:=es) q (sZ _) hb _ hg;refine ⟨{ c.laid b es with lit:=λx=>c.lit x ∨ x=b },⟨h1.com,λid vs hv=>?_,h1.inj,h1.own,h1.ownInj,h1.ver,λg=>(h1.gl g).mono hle2,h1.ver0,h1.base,λx hx=>?_,λx vs hv=>?_⟩,⟨hll,hE.os,hE.tape,hE.output,hE.size,hE.heap,hE.book,hE.own,hE.fresh,λ_ _ hb=>⟨hb.blk,hb.anon,hb.cell,hb.ver,hb.tok⟩,λx hx hy=>hy.resolve_right (by omega)⟩,?_⟩
 ·obtain ⟨b',cs,t,k1,k2,k3,k4,k5⟩:=h1.blk id vs hv;exact ⟨b',cs,t,k1,k2,k3.mono hle2,k4,k5⟩
 ·rcases hx with hx | rfl
  ·exact h1.lit x hx
  ·exact ⟨JR h.base hb,hbw,hno⟩
 ·exact (h1.hpr x vs hv).mono hle2 λ_ _ _ _ _ hB=>hB
 exact .list (k1.mono hll) k2 kz (by omega) hm (λ_=>⟨_,_,rfl⟩) (λ_=>⟨b,0,rfl,λi u hu=>by rw [Lo];show KQ c.G b es b i=some u;rw [KP];exact hu⟩) k3 ⟨he,λx hx=>by injection hx with hx;subst hx;exact .inr rfl⟩ .nil
def EX (P:Program) (T:TypeId) (l k:V) (C:V->Prop):Prop:=
 match P.underlying T,l,k with
 | some (.slice e),.lit (.int _ n),.lit (.int _ n2)=>
   (match bZ P e,cT P e,(P.info? e).map (·.bytes) with
    | some s,some zs,some by_=>n=n2/\0<=n/\0<s/\by_<=65536/\zs.length=s/\n<=1073741824/\C (.list .exact (List.replicate n.toNat (zs.map V.toHp)))
    | _,_,_=>False)
 | _,_,_=>False
def ID (P:Program) (q:Pa) (m:M) (T:TypeId) (o:Operand) (l k:V) (C:V->M->Prop):Prop:=
 match o with
 | .const _=>EX P T l k (λv=>C v m)
 | _=>Di P q m T l k C
theorem Cb (z:Array Value) (n:Nat):(madeCells z (n*z.size)).toList=(List.replicate n z.toList).flatten:=by
 induction n with
 | zero=>simp [madeCells]
 | succ n ih=>
   have e:(madeCells z ((n+1)*z.size)).toList=z.toList++(madeCells z (n*z.size)).toList:=by
    apply Sg;intro j;unfold madeCells;simp only [Array.toList_map,Array.toList_range,HS,List.getElem?_append,Rc]
    by_cases hj:j<z.size
    ·rw [if_pos hj,xef (by rw [JS];omega)];simp [Nat.mod_eq_of_lt hj,hj]
    ·rw [if_neg hj]
     by_cases hj2:j<(n+1)*z.size
     ·have h1:j - z.size<n*z.size:=by rw [JS] at hj2;omega
      rw [xef hj2,xef h1];simp only [NG];rw [Nat.mod_eq_sub_mod (by omega)]
     ·have h1:¬ j - z.size<n*z.size:=by rw [JS] at hj2;omega
      rw [Re (by simpa using hj2),Re (by simpa using h1)]
   rw [e,ih,Ue,HO]
theorem OG {T e:TypeId} {k1 k2:IntKind} {n:Int} {s by_:Nat} {zs:List V} (hu:P.underlying T=some (.slice e)) (hsz:bZ P e=some s) (hzc:cT P e=some zs) (hby:(P.info? e).map (·.bytes)=some by_) (h0:0<=n) (h1:by_<=65536) (hzl:zs.length=s) (h2:n<=1073741824) (c:Conc) (w:World) :
  ∃w' t cur,(Instr.makeSlice T (.int k1 n) (.int k2 n)).run P w=.ok (.slice (some ⟨w.heap.size,0,none⟩) n.toNat n.toNat) w'/\w.grownBy w' none/\AT w' w.heap.size t cur/\cur.size=n.toNat*s/\n.toNat<=maxLen/\(∀u ∈ cur.toList,u.oneCell'=true)/\(List.replicate n.toNat (zs.map V.toHp)).flatten.length=cur.size/\CR c (List.replicate n.toNat (zs.map V.toHp)).flatten cur.toList:=by
 obtain ⟨i,z,hi,e1,e2,hz,hz1,hz2⟩:=Ck hsz hzc hby hzl;subst e1 e2;obtain ⟨u,rfl⟩:∃u:Nat,n=u:=⟨n.toNat,by omega⟩
 have hbig:i.bytes*u<=281474976710656:=by
  have:i.bytes*u<=65536*1073741824:=Nat.mul_le_mul h1 (by omega);omega
 obtain ⟨w',hrun,hown,hg⟩:=run_make_full (P:=P) w 0 T e i z i.size hu hi hz rfl k1 k2 u hbig (by simp only [maxLen];omega) (Jc _);obtain ⟨hlen,hrest⟩:=hown
 have hzcs:CR c (zs.map V.toHp) z.cells.toList:=by
  obtain ⟨z',hz1',hz2',hz3'⟩:=wN hzc c;have hzz:=hz1' w
  have:z'=z:=by
   have hz0:(zeroValue e).run P w=.ok z w:=by simp [zeroValue,typeInfo,hi,hz]
   rw [hz0] at hzz
   injection hzz with hzz
   exact hzz.symm
  subst this;exact BJ hz2'
 have hreps:∀u:Nat,CR c (List.replicate u (zs.map V.toHp)).flatten (List.replicate u z.cells.toList).flatten:=by
  intro u
  induction u with
  | zero=>exact .nil
  | succ u ih=>rw [Ue,Ue,HO,HO];exact hzcs.append ih
 have hcells:(madeCells z.cells (u*i.size)).toList=(List.replicate u z.cells.toList).flatten:=by rw [←hz1];exact Cb _ _
 rcases hrest with ⟨e1,_⟩ | ⟨g,cap,cur,e1,_,hB,hnc,hcm,hcs,htk⟩
 ·cases e1
 ·injection e1 with e1 e2 e3
  injection e1 with e1
  injection e1 with e1
  subst e1 e3
  have hcur:cur.toList=(madeCells z.cells (u*i.size)).toList:=by
   rw [←htk,xdq (by rw [Rc,hcs];exact sZ _)]
  rw [Dq];refine ⟨w',_,cur,hrun,hg,hB,hcs,hcm,?_,?_,by rw [hcur,hcells];exact hreps u⟩
  ·rw [hcur,hcells];intro v hv;obtain ⟨l,hl1,hl2⟩:=List.mem_flatten.1 hv;rw [(xdk.1 hl1).2] at hl2;exact hz2 v hl2
  ·rw [←(hreps u).len,←hcells,←hcur,Rc]
theorem UJ {q:Pa} {T:TypeId} {l k:V} {C:V->M->Prop} (hs:Di P q m T l k C) (h:fX c m w) (hf:eZ c q) {x y:Value} (hx:CR c [l] [x]) (hy:CR c [k] [y]) :
  ∃r m',C r m'/\∃c' z w',(Instr.makeSlice T x y).run P w=.ok z w'/\fX c' m' w'/\pA q c m w c' m' w'/\CR c' [r] [z]:=by
 unfold Di at hs
 split at hs
 ·rename_i e k1 n k2 n2 hu
  split at hs
  ·rename_i s zs by_ hsz hzc hby;obtain ⟨rfl,h0,hs0,h1,hzl,h2,hC⟩:=hs;obtain rfl:=hx.inv_lit;obtain rfl:=hy.inv_lit;obtain ⟨w',t,cur,hrun,hg,hB,hcs,hcm,hone,hvl,hcr⟩:=OG (P:=P) (k1:=k1) (k2:=k2) hu hsz hzc hby h0 h1 hzl h2 c w;obtain ⟨c',g0,g1,g2,g3⟩:=(h.grown hg).hgive hf (fX.ext_grown q c m hg) (b:=w.heap.size) hB (λho=>absurd (h.own_lt ho) (xdw _)) (λhx=>absurd (h.lit _ hx).2.1 (xdw _)) (h.com.out (sZ _)) (λhx=>absurd hx (xdw _)) (Nat.le_of_eq hvl) (by rw [hvl,←Rc,xea];exact hcr) hone;exact ⟨_,_,hC,c',_,_,hrun,g2,g3,.vec g1 hcs hs0 (sZ _) hcm .nil⟩
  ·exact hs.elim
 ·exact hs.elim
theorem St {T:TypeId} {l k:V} {C:V->Prop} (hs:EX P T l k C) (h:fX c m w) (q:Pa) {x y:Value} (hx:CR c [l] [x]) (hy:CR c [k] [y]) :
  ∃r,C r/\∃c' z w',(Instr.makeSlice T x y).run P w=.ok z w'/\fX c' m w'/\pA q c m w c' m w'/\CR c' [r] [z]:=by
 unfold EX at hs
 split at hs
 ·rename_i e k1 n k2 n2 hu
  split at hs
  ·rename_i s zs by_ hsz hzc hby;obtain ⟨rfl,h0,hs0,h1,hzl,h2,hC⟩:=hs;obtain rfl:=hx.inv_lit;obtain rfl:=hy.inv_lit;obtain ⟨i,z,hi,e1,e2,hz,hz1,hz2⟩:=Ck hsz hzc hby hzl;subst e1 e2;obtain ⟨u,rfl⟩:∃u:Nat,n=u:=⟨n.toNat,by omega⟩
   have hbig:i.bytes*u<=281474976710656:=by
    have:i.bytes*u<=65536*1073741824:=Nat.mul_le_mul h1 (by omega);omega
   obtain ⟨w',hrun,hown,hg⟩:=run_make_full (P:=P) w 0 T e i z i.size hu hi hz rfl k1 k2 u hbig (by simp only [maxLen];omega) (Jc _);obtain ⟨hlen,hrest⟩:=hown
   have hzcs:CR c (zs.map V.toHp) z.cells.toList:=by
    obtain ⟨z',hz1',hz2',hz3'⟩:=wN hzc c;have hzz:=hz1' w
    have:z'=z:=by
     have hz0:(zeroValue e).run P w=.ok z w:=by simp [zeroValue,typeInfo,hi,hz]
     rw [hz0] at hzz
     injection hzz with hzz
     exact hzz.symm
    subst this;exact BJ hz2'
   have hreps:∀u:Nat,CR c (List.replicate u (zs.map V.toHp)).flatten (List.replicate u z.cells.toList).flatten:=by
    intro u
    induction u with
    | zero=>exact .nil
    | succ u ih=>rw [Ue,Ue,HO,HO];exact hzcs.append ih
   have hcells:(madeCells z.cells (u*i.size)).toList=(List.replicate u z.cells.toList).flatten:=by rw [←hz1];exact Cb _ _
   rcases hrest with ⟨e1,_⟩ | ⟨g,cap,cur,e1,_,hB,hnc,hcm,hcs,htk⟩
   ·cases e1
   ·injection e1 with e1 e2 e3
    injection e1 with e1
    injection e1 with e1
    subst e1 e3
    have hcur:cur.toList=(madeCells z.cells (u*i.size)).toList:=by
     rw [←htk,xdq (by rw [Rc,hcs];exact sZ _)]
    obtain ⟨c',g1,g2,g3⟩:=Ms (q:=q) h hg (rows:=List.replicate u (zs.map V.toHp)) (b:=w.heap.size) (sz:=i.size) (cap:=u) (sZ _) (Array.getElem?_eq_some_iff.1 hB).1 (λj v hj=>by
     rw [←hcells,←hcur] at hj;unfold World.cell?;show (match w'.heap[w.heap.size]? with | some (.cells c _ _)=>if (none:Option Nat).isSome then none else c[j]? | _=>none)=_;rw [hB];simpa using hj) (hreps u) (λr hr=>by rw [(xdk.1 hr).2,Hh,hzl]) hs0 (λv hv=>by
     obtain ⟨l,hl1,hl2⟩:=List.mem_flatten.1 hv;rw [(xdk.1 hl1).2] at hl2;exact hz2 v hl2) hcm (by rw [xdl])
    rw [xdl] at g3;rw [Dq] at hC;exact ⟨_,hC,c',_,_,hrun,g1,g2,g3⟩
  ·exact hs.elim
 ·exact hs.elim
def IH (P:Program) (m:M) (T:TypeId) (v:V) (C:V->M->Prop):Prop:=
 match P.underlying T,v with
 | some (.slice e),.vec id sz len=>
   (match cT P e,m.hp id with
    | some zs,some vs=>zs.length=sz/\0<len/\len*sz<=vs.length/\C (.tup []) (m.hset id (Hj vs 0 (List.replicate len (zs.map V.toHp)).flatten))
    | _,_=>False)
 | _,_=>False
theorem SE {T:TypeId} {v:V} {C:V->M->Prop} (hs:IH P m T v C) (h:fX c m w) (q:Pa) {x:Value} (hx:CR c [v] [x]) (ats:Array TypeId) (hT:ats[0]? = some T) (ty:TypeId) :
  ∃r m',C r m'/\∃c' z w',(Builtin.clear_ ats ty #[x]).run P w=.ok z w'/\fX c' m' w'/\pA q c m w c' m' w'/\CR c' [r] [z]:=by
 unfold IH at hs
 split at hs
 ·rename_i e id sz len hu
  split at hs
  ·rename_i zs vs hzc hv;obtain ⟨hsz,h0,hlen,hC⟩:=hs;obtain ⟨b,n,cap,hk,hn,hz0,hlc,hcm,rfl⟩:=hx.inv_vec;obtain ⟨z,hz1,hz2,hz3⟩:=wN hzc c;have hzl:z.cells.size=zs.length:=by have:=hz2.len;simpa using this
   have hreps:∀u:Nat,CR c (List.replicate u (zs.map V.toHp)).flatten (List.replicate u z.cells.toList).flatten:=by
    intro u
    induction u with
    | zero=>exact .nil
    | succ u ih=>rw [Ue,Ue,HO,HO];exact (BJ hz2).append ih
   have hcells:(Builtin.zeroCells z.cells len).toList=(List.replicate len z.cells.toList).flatten:=by
    rw [←Cb];unfold Builtin.zeroCells madeCells;rfl
   have hvl:(List.replicate len (zs.map V.toHp)).flatten.length=len*sz:=by
    rw [←(hreps len).len,←hcells,Rc,size_zeroCells,hzl,hsz]
   obtain ⟨w',hrun,hR,hE⟩:=Rn (P:=P) (q:=q) (vs:=(List.replicate len (zs.map V.toHp)).flatten) (i:=0) (o0:=0) h hk hv (by omega) rfl (hcells ▸ hreps len) (by
    intro u hu2;rw [hcells] at hu2;obtain ⟨l,hl1,hl2⟩:=List.mem_flatten.1 hu2;rw [(xdk.1 hl1).2] at hl2;exact hz3 u hl2)
   refine ⟨_,_,hC,c,.tuple #[],w',?_,hR,hE,.tup .nil .nil⟩;obtain ⟨len,rfl⟩:∃k,len=k+1:=⟨len - 1,by omega⟩;have hu':(underlying T).run P w=.ok (.slice e) w:=run_underlying hu w;simp only [Builtin.clear_,hT,xdo,xee,Sem.run_bind,hu',Result.andThen_ok,hz1 w,hrun,Sem.run_pure]
  ·exact hs.elim
 ·exact hs.elim
end
def ER (q:Pa) (c:Conc) (m:M) (w:World) (R:V->M->Prop) (e:Ending) (w':World):Prop:=∃x c' r m',e=.returned x/\R r m'/\fX c' m' w'/\pA q c m w c' m' w'/\CR c' [r] [x]
def SC (P:Program) (f:FuncId) (args:List V) (q:Pa) (m:M) (R:V->M->Prop):Prop:=
 ∀(c:Conc) (xs:List Value) (w:World),fX c m w->CR c args xs->wM c q ->
  ((callFunc f xs.toArray).run P w=.ok (.enter f xs.toArray) w/\Calls P f xs.toArray w (ER q c m w R)) ∨ ∃x w',(callFunc f xs.toArray).run P w=.ok (.value x) w'/\ER q c m w R (.returned x) w'
theorem ER.mono {q:Pa} {c:Conc} {m:M} {w:World} {R R':V->M->Prop} {e:Ending} {w':World} (h:ER q c m w R e w') (hr:∀r m',R r m'->R' r m'):ER q c m w R' e w':=by
 obtain ⟨x,c',r,m',e,hR,k⟩:=h;exact ⟨x,c',r,m',e,hr _ _ hR,k⟩
theorem SC.mono {P:Program} {f:FuncId} {args:List V} {q:Pa} {m:M} {R R':V->M->Prop} (h:SC P f args q m R) (hr:∀r m',R r m'->R' r m'):SC P f args q m R':=by
 intro c xs w h1 h2 h3
 rcases h c xs w h1 h2 h3 with ⟨k1,k2⟩ | ⟨x,w',k1,k2⟩
 ·exact .inl ⟨k1,k2.mono λ_ _ k=>k.mono hr⟩
 ·exact .inr ⟨x,w',k1,k2.mono hr⟩
def Ol (P:Program) (cl:Call) (q:Pa) (E:fJ) (m:M) (C:V->M->Prop):Prop:=
 match cl.callee with
 | .value f=>(match ev m E f with | .fn (.func g) first captured=>SC P g (first++cl.args.toList.map (ev m E)++captured) q m C | _=>False)
 | .builtin .len=>(match cl.argTypes[0]?,cl.args.toList with | some T,[x]=>LC P T (ev m E x) (λv=>C v m) | _,_=>False)
 | .builtin .min=>(match cl.args.toList with | [x,y]=>sA false (ev m E x) (ev m E y) (λv=>C v m) | _=>False)
 | .builtin .max=>(match cl.args.toList with | [x,y]=>sA true (ev m E x) (ev m E y) (λv=>C v m) | _=>False)
 | .builtin .append=>(match cl.argTypes.toList,cl.args.toList with | [t,u],[s,x]=>wD P q m t u (ev m E s) (ev m E x) C | _,_=>False)
 | .builtin .clear=>(match cl.argTypes[0]?,cl.args.toList with | some T,[x]=>IH P m T (ev m E x) C | _,_=>False)
 | _=>False
def iV (P:Program) (o:Oper) (q:Pa) (E:fJ) (m:M) (C:V->M->Prop):Prop:=
 match o.op with
 | .move x=>C (ev m E x) m
 | .assign x=>C (ev m E x) m
 | .pick t x y=>(match ev m E t with | .lit (.bool b)=>C (if b then ev m E x else ev m E y) m | _=>False)
 | .alloc T=>(match cT P T with | some zs=>C (.ptr q 0) (m.set q (zs.map V.raw0)) | none=>False)
 | .box _ x=>(ev m E x).cellsOk=true/\C (.ptr q 0) (m.set q ((ev m E x).cells.map V.raw0))
 | .build T ps=>Du P T (ps.toList.map λp=>(p.1,ev m E p.2)) (λv=>C v m)
 | .buildSlice T n ps=>rM P T n (ps.toList.map λp=>(p.1,ev m E p.2)) (λv=>C v m)
 | .load T x=>uO P m T (ev m E x) (λv=>C v m)
 | .store T a x=>BM P m T (ev m E a) (ev m E x) (λm'=>C (.lit undef) m')
 | .nilCheck x=>(match ev m E x with | .ptr id off=>C (.ptr id off) m | .eptr rows i off=>C (.eptr rows i off) m | .pp id off=>C (.pp id off) m | _=>False)
 | .binOp op T x y _=>rW P op T x y (ev m E x) (ev m E y) (λv=>C v m)
 | .unOp op _ x=>UH op (ev m E x) (λv=>C v m)
 | .convert s d x=>Be P s d (ev m E x) (λv=>C v m)
 | .makeSlice T l k=>ID P q m T l (ev m E l) (ev m E k) C
 | .makeFunc f xs ys=>C (.fn f (xs.toList.map (ev m E)) (ys.toList.map (ev m E))) m
 | .slice T x lo hi none=>Ds P T (ev m E x) (lo.map (ev m E)) (hi.map (ev m E)) (λv=>C v m)
 | .fieldAddr T x f=>Ak P T f (ev m E x) (λv=>C v m)
 | .field T x f=>Fb P T f (ev m E x) (λv=>C v m)
 | .indexAddr T x i=>Aj P T (ev m E x) (ev m E i) (λv=>C v m)
 | .index T x i=>Dt P T (ev m E x) (ev m E i) (λv=>C v m)
 | .extract t i=>(match ev m E t with | .tup vs=>(match vs[i]? with | some v=>C v m | none=>False) | _=>False)
 | .call cl=>Ol P cl q E m C
 | _=>False
section
variable {P:Program} {c c':Conc} {m m':M} {w w':World} {E:fJ} {a:Act} {N:Nat}
theorem QA (h:rQ c E a N) (hR:fX c m w) (xs:List Operand):CR c (xs.map (ev m E)) (xs.map a.eval):=by
 induction xs with
 | nil=>exact .nil
 | cons x xs ih=>exact (h.ev hR x).cons ih
theorem RI (h:rQ c E a N) (hR:fX c m w) (ps:List (Nat × Operand)):CP c (ps.map λp=>(p.1,ev m E p.2)) (ps.map λp=>(p.1,a.eval p.2)):=by
 induction ps with
 | nil=>exact .nil
 | cons p ps ih=>exact .cons (h.ev hR p.2) ih
def WV (q:Pa) (N:Nat) (o:Oper) (c:Conc) (E:fJ) (m:M) (w:World) (a:Act) (C:V->M->Prop) (a':Act) (w':World):Prop:=
 ∃c' v m',C v m'/\fX c' m' w'/\pA q c m w c' m' w'/\rQ c' (mC o.dst v E) a' N/\a'.defers=a.defers
theorem wI (a:Act) (d:Option Nat) (v:Value):(a.put d v).defers=a.defers:=by cases d <;> rfl
theorem kM {q:Pa} {o:Oper} {C:V->M->Prop} {Q:Exit->Act->World->Prop} (hE:rQ c E a N) (hd:∀d,o.dst=some d->d<N) {x:Value} {v:V} (hrun:(execOp a.eval o).run P w=.ok (.value x) w') (hC:C v m')
  (hR:fX c' m' w') (hX:pA q c m w c' m' w') (hv:CR c' [v] [x]):o.wp P a w (WV q N o c E m w a C) Q:=by
 unfold Oper.wp;rw [hrun];exact ⟨c',v,m',hC,hR,hX,(hE.mono hX.le).put hv hd,wI _ _ _⟩
theorem Mf {o:Oper} {q:Pa} {C:V->M->Prop} (hs:iV P o q E m C) (h:fX c m w) (hE:rQ c E a N) (hf:wM c q) (hd:∀d,o.dst=some d->d<N) (Q:Exit->Act->World->Prop):o.wp P a w (WV q N o c E m w a C) Q:=by
 obtain ⟨dst,op,ty,pos,after,guard⟩:=o
 have pure1:∀(s:Sem Value),(execOp a.eval ⟨dst,op,ty,pos,after,guard⟩).run P w=(do pure (.value (←s)):Sem Next).run P w->(∃r,C r m/\∃z,s.run P w=.ok z w/\CR c [r] [z])->Oper.wp P ⟨dst,op,ty,pos,after,guard⟩ a w (WV q N ⟨dst,op,ty,pos,after,guard⟩ c E m w a C) Q:=by
  rintro s he ⟨r,hC,z,hz,hr⟩;exact kM hE hd (by rw [he,Sem.run_bind,hz];rfl) hC h (.refl q c m w) hr
 cases op with
 | move x=>exact kM hE hd rfl hs h (.refl q c m w) (hE.ev h x)
 | assign x=>exact kM hE hd rfl hs h (.refl q c m w) (hE.ev h x)
 | pick t x y=>
   simp only [iV] at hs
   split at hs
   ·rename_i b hb;have ht:=hE.ev h t;rw [hb] at ht;have ht':=ht.inv_lit;cases b with
    | false=>exact kM hE hd (by simp [execOp,ht',asBool]) hs h (.refl q c m w) (hE.ev h y)
    | true=>exact kM hE hd (by simp [execOp,ht',asBool]) hs h (.refl q c m w) (hE.ev h x)
   ·exact hs.elim
 | alloc T=>
   simp only [iV] at hs
   split at hs
   ·rename_i zs hz;obtain ⟨z,hz1,hz2,hz3⟩:=wN hz c;obtain ⟨g1,g2⟩:=h.new (q:=q) hf.gC hz2 hz3 T;refine kM (x:=.pointer (some ⟨w.heap.size,0,none⟩)) hE hd ?_ hs g1 g2 (.ptr ?_ .nil)
    ·simp [execOp,Instr.alloc,hz1 w,newVar,newRow]
    ·show (if q=q then some w.heap.size else c.ρ q)=_;rw [if_pos rfl]
   ·exact hs.elim
 | box T x=>
   simp only [iV] at hs;obtain ⟨ho,hC⟩:=hs;obtain ⟨k1,k2⟩:=EM (hE.ev h x) ho;obtain ⟨g1,g2⟩:=h.new (q:=q) hf.gC k1 k2 T;refine kM (x:=.pointer (some ⟨w.heap.size,0,none⟩)) hE hd ?_ hC g1 g2 (.ptr ?_ .nil)
   ·simp [execOp,Instr.box,newVar,newRow]
   ·show (if q=q then some w.heap.size else c.ρ q)=_;rw [if_pos rfl]
 | build T ps=>
   simp only [iV] at hs;obtain ⟨r,hC,z,hz,hr⟩:=SF (P:=P) hs (qs:=ps.map λ(i,x)=>(i,a.eval x)) (by simpa using RI hE h ps.toList) w;exact pure1 _ rfl ⟨r,hC,z,hz,hr⟩
 | buildSlice T n ps=>
   simp only [iV] at hs;obtain ⟨r,hC,cells,e,hu,hrun,hnew⟩:=Ky (P:=P) hs h q (qs:=ps.map λ(i,x)=>(i,a.eval x)) (by simpa using RI hE h ps.toList);obtain ⟨c',g1,g2,g3⟩:=hnew (0,0);refine kM hE hd ?_ hC g1 g2 g3;show Sem.run P (do pure (Next.value (←Instr.buildSlice T n (ps.map λ(i,x)=>(i,a.eval x))))) w=_;rw [Sem.run_bind,hrun];rfl
 | load T x=>
   simp only [iV] at hs;exact pure1 _ rfl (Of hs h (hE.ev h x))
 | store T x y=>
   simp only [iV] at hs;obtain ⟨m',hC,c',w',hrun,g1,g2⟩:=Sq (P:=P) hs h q (hE.ev h x) (hE.ev h y);unfold Oper.wp
   have he:(execOp a.eval ⟨dst,.store T x y,ty,pos,after,guard⟩).run P w=.ok .skip w':=by
    show Sem.run P (do Instr.storeAt T (a.eval x) (a.eval y);pure Next.skip) w=_;rw [Sem.run_bind,hrun];rfl
   rw [he];exact ⟨c',.lit undef,m',hC,g1,g2,(hE.mono g2.le).put (.lit .nil) hd,wI _ _ _⟩
 | nilCheck x=>
   simp only [iV] at hs
   split at hs
   ·rename_i id off hv;have hx:=hE.ev h x;rw [hv] at hx;obtain ⟨b,hb,he⟩:=hx.inv_ptr;exact kM (x:=.pointer (some ⟨b,off,none⟩)) hE hd (by simp [execOp,he]) hs h (.refl q c m w) (by rw [he] at hx;exact hx)
   ·rename_i rows i off hv;have hx:=hE.ev h x;rw [hv] at hx;obtain ⟨b,o,sz,es,he,_⟩:=hx.inv_eptr;exact kM (x:=.pointer (some ⟨b,o+i*sz+off,none⟩)) hE hd (by simp [execOp,he]) hs h (.refl q c m w) (by rw [he] at hx;exact hx)
   ·rename_i id off hv;have hx:=hE.ev h x;rw [hv] at hx;obtain ⟨b,n,hk,he⟩:=hx.inv_pp;exact kM (x:=.pointer (some ⟨b,off,none⟩)) hE hd (by simp [execOp,he]) hs h (.refl q c m w) (by rw [he] at hx;exact hx)
   ·exact hs.elim
 | binOp op T x y yT=>
   simp only [iV] at hs;exact pure1 _ rfl (sbin_ok hs (hE.ev h x) (hE.ev h y) w)
 | unOp op T x=>
   simp only [iV] at hs;exact pure1 _ rfl (sun_ok hs (hE.ev h x) w)
 | convert s d x=>
   simp only [iV] at hs;obtain ⟨r,hC,c',z,w',hrun,g1,g2,g3⟩:=UT hs h q (hE.ev h x);refine kM hE hd ?_ hC g1 g2 g3;show Sem.run P (do pure (Next.value (←convert s d (a.eval x)))) w=_;rw [Sem.run_bind,hrun];rfl
 | makeSlice T l k=>
   simp only [iV] at hs
   obtain ⟨r,m',hC,c',z,w',hrun,g1,g2,g3⟩:∃r m',C r m'/\∃c' z w',(Instr.makeSlice T (a.eval l) (a.eval k)).run P w=.ok z w'/\fX c' m' w'/\pA q c m w c' m' w'/\CR c' [r] [z]:=by
    unfold ID at hs
    split at hs
    ·obtain ⟨r,hC,g⟩:=St hs h q (hE.ev h _) (hE.ev h k);exact ⟨r,m,hC,g⟩
    ·exact UJ hs h hf.gC (hE.ev h l) (hE.ev h k)
   refine kM hE hd ?_ hC g1 g2 g3;show Sem.run P (do pure (Next.value (←Instr.makeSlice T (a.eval l) (a.eval k)))) w=_;rw [Sem.run_bind,hrun];rfl
 | makeFunc f xs ys=>
   simp only [iV] at hs;refine kM (x:=.func f (xs.map a.eval) (ys.map a.eval)) hE hd rfl hs h (.refl q c m w) ?_;have:=CR.fn (f:=f) (QA hE h xs.toList) (QA hE h ys.toList) .nil;rw [Ke a.eval xs,Ke a.eval ys];exact this
 | slice T x lo hi mx=>
   cases mx with
   | some _=>exact hs.elim
   | none=>
     simp only [iV] at hs;refine pure1 _ rfl (Sr (lo':=lo.map a.eval) (hi':=hi.map a.eval) hs (hE.ev h x) ?_ ?_ ?_ ?_ w)
     ·intro v hv;cases lo with
      | none=>cases hv
      | some l=>injection hv with hv;subst hv;exact ⟨_,rfl,hE.ev h l⟩
     ·intro hv;cases lo with
      | none=>rfl
      | some l=>cases hv
     ·intro v hv;cases hi with
      | none=>cases hv
      | some l=>injection hv with hv;subst hv;exact ⟨_,rfl,hE.ev h l⟩
     ·intro hv;cases hi with
      | none=>rfl
      | some l=>cases hv
 | fieldAddr T x f=>
   simp only [iV] at hs;exact pure1 _ rfl (Qd hs (hE.ev h x) w)
 | field T x f=>
   simp only [iV] at hs;exact pure1 _ rfl (SD hs (hE.ev h x) w)
 | indexAddr T x i=>
   simp only [iV] at hs;exact pure1 _ rfl (PY hs (hE.ev h x) (hE.ev h i) w)
 | index T x i=>
   simp only [iV] at hs;exact pure1 _ rfl (Su hs (hE.ev h x) (hE.ev h i) w)
 | extract t i=>
   simp only [iV] at hs
   split at hs
   ·rename_i vs hv
    split at hs
    ·rename_i v hvi;have ht:=hE.ev h t;rw [hv] at ht;obtain ⟨xs,he,k⟩:=ht.inv_tup;obtain ⟨y,hy,k2⟩:=k.get hvi;exact kM (x:=y) hE hd (by simp [execOp,Instr.extract,he,hy]) hs h (.refl q c m w) k2
    ·exact hs.elim
   ·exact hs.elim
 | call cl=>
   obtain ⟨callee,args,ats⟩:=cl;simp only [iV,Ol] at hs
   split at hs
   ·rename_i f
    split at hs
    ·rename_i g first captured hv
     have hx:=hE.ev h f;rw [hv] at hx;obtain ⟨xs,ys,he,k1,k2⟩:=hx.inv_fn;have hargs:=(k1.append (QA hE h args.toList)).append k2
     have hx0:(execOp a.eval ⟨dst,.call ⟨.value f,args,ats⟩,ty,pos,after,guard⟩).run P w=(callFunc g (xs++args.toList.map a.eval++ys).toArray).run P w:=by
      simp only [execOp,resolve,he,Deferred.ofValue,Sem.run_bind,Sem.run_pure,Result.andThen_ok,invoke]
      congr 2
      apply Array.ext';simp
     rcases hs c _ w h hargs hf with ⟨hen,hcall⟩ | ⟨z,w',hval,x,c',r,m',e1,hC,g1,g2,g3⟩
     ·unfold Oper.wp;rw [hx0,hen];refine hcall.mono λe w' ⟨x,c',r,m',e1,hC,g1,g2,g3⟩=>?_;subst e1;exact ⟨c',r,m',hC,g1,g2,(hE.mono g2.le).put g3 hd,wI _ _ _⟩
     ·injection e1 with e1
      subst e1;exact kM hE hd (by rw [hx0,hval]) hC g1 g2 g3
    ·exact hs.elim
   ·split at hs
    ·rename_i T x hT hx;obtain rfl:args=#[x]:=by cases args;simp_all
     refine pure1 (Builtin.len_ ats ty #[a.eval x]) ?_ (slen_ok hs (hE.ev h x) ats hT ty w);simp only [execOp,resolve,invoke,builtin,Sem.run_bind,Sem.run_pure,Result.andThen_ok,List.map_toArray,xK,Dg]
    ·exact hs.elim
   ·split at hs
    ·rename_i x y hx;obtain rfl:args=#[x,y]:=by cases args;simp_all
     exact pure1 (Builtin.min_ ats ty #[a.eval x,a.eval y]) (by simp only [execOp,resolve,invoke,builtin,Sem.run_bind,Sem.run_pure,Result.andThen_ok,List.map_toArray,xK,Dg]) (smin_ok hs (hE.ev h x) (hE.ev h y) ats ty w)
    ·exact hs.elim
   ·split at hs
    ·rename_i x y hx;obtain rfl:args=#[x,y]:=by cases args;simp_all
     exact pure1 (Builtin.max_ ats ty #[a.eval x,a.eval y]) (by simp only [execOp,resolve,invoke,builtin,Sem.run_bind,Sem.run_pure,Result.andThen_ok,List.map_toArray,xK,Dg]) (smax_ok hs (hE.ev h x) (hE.ev h y) ats ty w)
    ·exact hs.elim
   ·split at hs
    ·rename_i t u s x ht hx;obtain rfl:args=#[s,x]:=by cases args;simp_all
     obtain rfl:ats=#[t,u]:=by cases ats;simp_all
     obtain ⟨r,m',hC,c',z,w',hrun,g1,g2,g3⟩:=Qe hs h hf.gC (hE.ev h s) (hE.ev h x) ty;refine kM hE hd ?_ hC g1 g2 g3;show Sem.run P (do let d ←resolve a.eval ⟨.builtin .append,#[s,x],#[t,u]⟩ ty;invoke d.target d.args) w=_;simp only [resolve,invoke,builtin,Sem.run_bind,Sem.run_pure,Result.andThen_ok,List.map_toArray,xK,Dg,hrun]
    ·exact hs.elim
   ·split at hs
    ·rename_i T x hT hx;obtain rfl:args=#[x]:=by cases args;simp_all
     obtain ⟨r,m',hC,c',z,w',hrun,g1,g2,g3⟩:=SE hs h q (hE.ev h x) ats hT ty;refine kM hE hd ?_ hC g1 g2 g3;show Sem.run P (do let d ←resolve a.eval ⟨.builtin .clear,#[x],ats⟩ ty;invoke d.target d.args) w=_;simp only [resolve,invoke,builtin,Sem.run_bind,Sem.run_pure,Result.andThen_ok,List.map_toArray,xK,Dg,hrun]
    ·exact hs.elim
   ·exact hs.elim
 | _=>exact hs.elim
def mB (P:Program) (full:List Oper) (π:Pa) (K:Nat->fJ->M->Prop):List Oper->Nat->fJ->M->Prop
 | [],k,E,m=>K k E m
 | o::os,k,E,m=>
   match o.guard with
   | none=>iV P o (k::π) E m (λv m'=>mB P full π K os (k+1) (mC o.dst v E) m')
   | some (j,b)=>
     match (full[j]?).bind (·.dst) with
     | some d=>
       (match E d with
        | .lit (.bool t)=>if t=b then iV P o (k::π) E m (λv m'=>mB P full π K os (k+1) (mC o.dst v E) m') else mB P full π K os (k+1) (mC o.dst (.lit undef) E) m
        | .lit (.tuple _)=>mB P full π K os (k+1) (mC o.dst (.lit undef) E) m
        | _=>False)
     | none=>False
def Cr (π:Pa) (N:Nat) (W:Nat->Bool) (E0:fJ) (c:Conc) (m:M) (w:World) (a:Act) (Q:Nat->fJ->M->Prop) (a':Act) (w':World):Prop:=
 ∃c' k' E' m',Q k' E' m'/\fX c' m' w'/\pA π c m w c' m' w'/\rQ c' E' a' N/\vD c' π k'/\a'.defers=a.defers/\∀t,W t=false->E' t=E0 t
def Kc (N:Nat) (ops:List Oper):Bool:=ops.all λo=>match o.dst with | some d=>decide (d<N) | none=>true
theorem POps_ok {full:Array Oper} {π:Pa} {K:Nat->fJ->M->Prop} {Q:Exit->Act->World->Prop} {c0:Conc} {m0:M} {w0:World} {a0:Act} {W:Nat->Bool} {E0:fJ} (hQ:∀a' w',Cr π N W E0 c0 m0 w0 a0 K a' w'->Q .normal a' w') :
  ∀(ops:List Oper) (k:Nat) (E:fJ) (c:Conc) (m:M) (w:World) (a:Act),mB P full.toList π K ops k E m->Kc N ops=true->fX c m w->rQ c E a N->vD c π k->pA π c0 m0 w0 c m w->a.defers=a0.defers->(∀t,W t=false->E t=E0 t)->(∀o ∈ ops,∀d,o.dst=some d->W d=true)->wpList P full Q ops a w:=by
 intro ops
 induction ops with
 | nil=>intro k E c m w a hs _ hR hE hF hX hd hU _;exact hQ a w ⟨c,k,E,m,hs,hR,hX,hE,hF,hd,hU⟩
 | cons o os ih=>
   intro k E c m w a hs hfit hR hE hF hX hd hU hW
   have hU':∀v t,W t=false->mC o.dst v E t=E0 t:=by
    intro v t ht;cases hdo:o.dst with
    | none=>exact hU t ht
    | some d=>
      have:=hW o (by simp) d hdo;show (if t=d then v else E t)=E0 t;rw [if_neg (by rintro rfl;rw [ht] at this;cases this)];exact hU t ht
   have hW':∀o' ∈ os,∀d,o'.dst=some d->W d=true:=λo' ho'=>hW o' (by simp [ho']);simp only [Kc,List.all_cons,MJ] at hfit
   have hfo:∀d,o.dst=some d->d<N:=by
    intro d h;have:=hfit.1;rw [h] at this;simpa using this
   have run:Region.wanted o (yielded full a.tmps)=true->iV P o (k::π) E m (λv m'=>mB P full.toList π K os (k+1) (mC o.dst v E) m')->wpList P full Q (o::os) a w:=by
    intro hw GW;refine BigFrame.wpList_want hw λK' hK'=>?_;refine Oper.wp_mono ?_ (Mf (N:=N) GW hR hE hF.gC hfo Q);rintro a' w' ⟨c',v,m',hC,h1,h2,h3,h4⟩;exact hK' a' w' (ih _ _ c' m' w' a' hC hfit.2 h1 h3 (h2.freshK hF) (hX.trans h2.up) (h4.trans hd) (hU' _) hW')
   simp only [mB] at hs
   split at hs
   ·rename_i hg;exact run (by simp [Region.wanted,hg]) hs
   ·rename_i j b hg
    split at hs
    ·rename_i d hdst
     split at hs
     ·rename_i t ht
      have hy:yielded full a.tmps j=some t:=by
       have hv:=hE.gC d;rw [ht] at hv;have hv':=hv.inv_lit;unfold yielded;have:(full[j]?).bind (·.dst)=some d:=by simpa using hdst
       rw [this];simp only [dV]
       have hdl:a.tmps[d]? = some (.bool t):=by
        rw [Rb] at hv';cases hq:a.tmps[d]? with
        | none=>rw [hq] at hv';simp [undef] at hv'
        | some u=>rw [hq] at hv';simp at hv';rw [hv']
       rw [hdl]
      split at hs
      ·rename_i hb;exact run (by simp [Region.wanted,hg,hy,hb]) hs
      ·rename_i hb;have hw:Region.wanted o (yielded full a.tmps)=false:=by simp [Region.wanted,hg,hy,hb]
       unfold wpList;rw [if_neg (by simp [hw])];exact ih _ _ c m w _ hs hfit.2 hR (hE.put (.lit .nil) hfo) (hF.le (by omega)) hX ((wI _ _ _).trans hd) (hU' _) hW'
     ·rename_i vs ht
      have hy:yielded full a.tmps j=none:=by
       have hv:=hE.gC d;rw [ht] at hv;have hv':=hv.inv_lit;unfold yielded;have:(full[j]?).bind (·.dst)=some d:=by simpa using hdst
       rw [this];simp only [dV];rw [Rb] at hv';cases hq:a.tmps[d]? with
       | none=>rfl
       | some u=>rw [hq] at hv';simp only [Option.getD_some] at hv';rw [hv']
      have hw:Region.wanted o (yielded full a.tmps)=false:=by simp [Region.wanted,hg,hy]
      unfold wpList;rw [if_neg (by simp [hw])];exact ih _ _ c m w _ hs hfit.2 hR (hE.put (.lit .nil) hfo) (hF.le (by omega)) hX ((wI _ _ _).trans hd) (hU' _) hW'
     ·exact hs.elim
    ·exact hs.elim
end
def FU (N:Nat):Code->Bool
 | .region _ ops _=>Kc N ops.toList
 | .seq a b=>FU N a && FU N b
 | .cond _ a b=>FU N a && FU N b
 | .block _ a=>FU N a
 | .loop a=>FU N a
 | .scope a=>FU N a
 | .rangeFunc _ _ _ _=>false
 | _=>true
def wr:Code->Nat->Bool
 | .region _ ops _,t=>ops.toList.any λo=>o.dst == some t
 | .seq a b,t=>wr a t || wr b t
 | .cond _ a b,t=>wr a t || wr b t
 | .block _ a,t=>wr a t
 | .loop a,t=>wr a t
 | .scope a,t=>wr a t
 | .rangeFunc _ _ _ _,_=>true
 | _,_=>false
def SW (P:Program) (N:Nat) (π:Pa) (code:Code) (k:Nat) (E:fJ) (m:M) (Q:Exit->Nat->fJ->M->Prop):Prop:=
 FU N code=true->∀(c:Conc) (a:Act) (w:World),fX c m w->rQ c E a N->vD c π k->code.wp P (λe a' w'=>Cr π N (wr code) E c m w a (Q e) a' w') a w
def rL (n:Nat->fJ->M->Prop) (Q:Exit->Nat->fJ->M->Prop):Exit->Nat->fJ->M->Prop
 | .normal=>n
 | .exit i=>Q (.exit i)
 | .goto l=>Q (.goto l)
 | .ret=>Q .ret
 | .panic ch=>Q (.panic ch)
 | .outgrown=>Q .outgrown
def Cp (id:Nat) (Q:Exit->Nat->fJ->M->Prop):Exit->Nat->fJ->M->Prop
 | .exit i=>if i=id then Q .normal else Q (.exit i)
 | .normal=>Q .normal
 | .goto l=>Q (.goto l)
 | .ret=>Q .ret
 | .panic ch=>Q (.panic ch)
 | .outgrown=>Q .outgrown
section
variable {P:Program} {N:Nat} {π:Pa} {k:Nat} {E:fJ} {m:M} {Q:Exit->Nat->fJ->M->Prop}
theorem Cr.mono {W W':Nat->Bool} {E0:fJ} {c:Conc} {w:World} {a a':Act} {w':World} {R R':Nat->fJ->M->Prop} (h:Cr π N W E0 c m w a R a' w') (hR:∀k E m,R k E m->R' k E m) (hW:∀t,W' t=false->W t=false):Cr π N W' E0 c m w a R' a' w':=by
 obtain ⟨c',k',E',m',h1,h2,h3,h4,h5,h6,h7⟩:=h;exact ⟨c',k',E',m',hR _ _ _ h1,h2,h3,h4,h5,h6,λt ht=>h7 t (hW t ht)⟩
theorem Cr.here {W:Nat->Bool} {c:Conc} {w:World} {a:Act} {R:Nat->fJ->M->Prop} (h:R k E m) (hR:fX c m w) (hE:rQ c E a N) (hF:vD c π k):Cr π N W E c m w a R a w:=
 ⟨c,k,E,m,h,hR,.refl π c m w,hE,hF,rfl,λ_ _=>rfl⟩
theorem Cr.trans {W W' W'':Nat->Bool} {E0 E1:fJ} {c c1:Conc} {m1:M} {w w1 w2:World} {a a1 a2:Act} {R:Nat->fJ->M->Prop} (h:Cr π N W E1 c1 m1 w1 a1 R a2 w2) (hX:pA π c m w c1 m1 w1) (hd:a1.defers=a.defers) (h1:∀t,W' t=false->E1 t=E0 t)
  (hW:∀t,W'' t=false->W t=false/\W' t=false):Cr π N W'' E0 c m w a R a2 w2:=by
 obtain ⟨c',k',E',m',g1,g2,g3,g4,g5,g6,g7⟩:=h;exact ⟨c',k',E',m',g1,g2,hX.trans g3,g4,g5,g6.trans hd,λt ht=>(g7 t (hW t ht).1).trans (h1 t (hW t ht).2)⟩
theorem yW {code:Code} {Q':Exit->Nat->fJ->M->Prop} (h:SW P N π code k E m Q) (hq:∀e k E m,Q e k E m->Q' e k E m):SW P N π code k E m Q':=
 λhf c a w h1 h2 h3=>wp_mono (h hf c a w h1 h2 h3) λe _ _ hp=>hp.mono (hq e) (λ_ x=>x)
theorem bP (h:Q .normal k E m):SW P N π .skip k E m Q:=λ_ _ _ _ h1 h2 h3=>wp_skip (.here h h1 h2 h3)
theorem jJ {id:Nat} (h:Q (.exit id) k E m):SW P N π (.exit id) k E m Q:=λ_ _ _ _ h1 h2 h3=>wp_exit (.here h h1 h2 h3)
theorem cD (h:Q .ret k E m):SW P N π .ret k E m Q:=λ_ _ _ _ h1 h2 h3=>wp_ret (.here h h1 h2 h3)
theorem aO {x y:Code} (h:SW P N π x k E m (rL (λk E m=>SW P N π y k E m Q) Q)):SW P N π (.seq x y) k E m Q:=by
 intro hf c a w h1 h2 h3;simp only [FU,MJ] at hf;have hW:∀t,wr (.seq x y) t=false->wr x t=false/\wr y t=false:=by intro t ht;simpa [wr] using ht
 refine wp_seq (wp_mono (h hf.1 c a w h1 h2 h3) ?_);intro e a' w' hp;cases e with
 | normal=>
   obtain ⟨c',k',E',m',g1,g2,g3,g4,g5,g6,g7⟩:=hp;show y.wp P _ a' w';refine wp_mono (g1 hf.2 c' a' w' g2 g4 g5) λe2 a2 w2 hp2=>?_;exact hp2.trans g3 g6 g7 (λt ht=>⟨(hW t ht).2,(hW t ht).1⟩)
 | _=>exact hp.mono (λ_ _ _ x=>x) (λt ht=>(hW t ht).1)
theorem yX {x y:Code} {t:Operand} (b:Bool) (hb:ev m E t=.lit (.bool b)) (h:SW P N π (if b then x else y) k E m Q):SW P N π (.cond t x y) k E m Q:=by
 intro hf c a w h1 h2 h3;simp only [FU,MJ] at hf;have ht:=h2.ev h1 t;rw [hb] at ht;refine wp_cond (t:=b) ht.inv_lit ?_;cases b with
 | true=>exact wp_mono (h hf.1 c a w h1 h2 h3) λe _ _ hp=>hp.mono (λ_ _ _ x=>x) (λt ht=>by simp [wr] at ht;exact ht.1)
 | false=>exact wp_mono (h hf.2 c a w h1 h2 h3) λe _ _ hp=>hp.mono (λ_ _ _ x=>x) (λt ht=>by simp [wr] at ht;exact ht.2)
theorem SW_if {x y:Code} {t:Operand} (b:Bool) (hb:ev m E t=.lit (.bool b)) (ht:b=true->SW P N π x k E m Q) (hf:b=false->SW P N π y k E m Q):SW P N π (.cond t x y) k E m Q:=by
 refine yX b hb ?_;cases b with
 | true=>exact ht rfl
 | false=>exact hf rfl
theorem cU {id:Nat} {x:Code} (h:SW P N π x k E m (Cp id Q)):SW P N π (.block id x) k E m Q:=by
 intro hf c a w h1 h2 h3;refine wp_block (wp_mono (h hf c a w h1 h2 h3) ?_);intro e a' w' hp;cases e with
 | exit i=>
   show if i=id then _ else _
   by_cases hi:i=id
   ·rw [if_pos hi];have hp':Cr π N (wr x) E c m w a (Cp id Q (.exit i)) a' w':=hp;simp only [Cp,hi,if_true] at hp';exact hp'
   ·rw [if_neg hi];have hp':Cr π N (wr x) E c m w a (Cp id Q (.exit i)) a' w':=hp;simp only [Cp,hi,if_false] at hp';exact hp'
 | _=>exact hp
theorem MB {id:Nat} {ops:Array Oper} (h:mB P ops.toList π (Q .normal) ops.toList k E m):SW P N π (.region id ops false) k E m Q:=by
 intro hf c a w h1 h2 h3;refine wp_region_list ?_;refine POps_ok (W:=wr (.region id ops false)) (E0:=E) (c0:=c) (m0:=m) (w0:=w) (a0:=a) (λa' w' hp=>hp) ops.toList k E c m w a h hf h1 h2 h3 (.refl π c m w) rfl (λ_ _=>rfl) ?_;intro o ho d hd;simp only [wr,List.any_eq_true,beq_iff_eq];exact ⟨o,ho,hd⟩
theorem SW_loop {body:Code} (Inv:fJ->M->Prop) (μ:fJ->M->Nat) (h0:Inv E m)
  (step:∀(i:Nat) (E':fJ) (m':M),Inv E' m'->(∀t,wr body t=false->E' t=E t)->SW P N (i::k::π) body 0 E' m' (λe _ E2 m2=>match e with | .normal=>Inv E2 m2/\μ E2 m2<μ E' m' | e=>Q e (k+1) E2 m2)) :
  SW P N π (.loop body) k E m Q:=by
 intro hf c a w h1 h2 h3;have hfr:∀ {c1:Conc} {m1:M} {w1:World},pA (k::π) c m w c1 m1 w1->vD c1 π (k+1):=λhx=>hx.freshK h3;refine wp_loop_rounds (μ E m+1) ?_
 have key:∀(n i:Nat) (E1:fJ) (m1:M) (c1:Conc) (a1:Act) (w1:World),Inv E1 m1->μ E1 m1<n->fX c1 m1 w1->rQ c1 E1 a1 N->(∀j,i<=j->wM c1 (j::k::π))->pA (k::π) c m w c1 m1 w1->a1.defers=a.defers->(∀t,wr body t=false->E1 t=E t) ->
   Code.rounds P body (λe a' w'=>Cr π N (wr body) E c m w a (Q e) a' w') n a1 w1:=by
  intro n
  induction n with
  | zero=>intro i E1 m1 c1 a1 w1 _ hlt;omega
  | succ n ih=>
    intro i E1 m1 c1 a1 w1 hI hlt g1 g2 g3 g4 g5 g6;rw [rounds_succ];have hb:=step i E1 m1 hI g6 hf c1 a1 w1 g1 g2 (λj _ id fL=>g3 i (sZ _) id (EU fL));refine wp_mono hb λe a' w' hp=>?_;obtain ⟨c2,k2,E2,m2,q1,q2,q3,q4,q5,q6,q7⟩:=hp;have hX:pA (k::π) c m w c2 m2 w':=g4.trans q3.up;have hU:∀t,wr body t=false->E2 t=E t:=λt ht=>(q7 t ht).trans (g6 t ht);cases e with
    | normal=>
      refine ih (i+1) E2 m2 c2 a' w' q1.1 (by have:=q1.2;omega) q2 q4 ?_ hX (q6.trans g5) hU;intro j hj id fL;exact q3.fresh id (Bz fL (by omega)) (g3 j (by omega) id fL)
    | _=>exact ⟨c2,k+1,E2,m2,q1,q2,hX.up,q4,hfr hX,q6.trans g5,hU⟩
 exact key (μ E m+1) 0 E m c a w h0 (by omega) h1 h2 (λj _ id fL=>h3 k (sZ _) id (EU fL)) (.refl _ c m w) rfl (λ_ _=>rfl)
end
def M.back (q:Pa) (m m':M):M:=
 { blk:=λid=>if q.isSuffixOf id then m.blk id else m'.blk id,ver:=λid=>if q.isSuffixOf id then m.ver id else m'.ver id,tok:=λid=>if q.isSuffixOf id then m.tok id else m'.tok id,gl:=m'.gl,hp:=m'.hp }
theorem AU.back {c:Conc} {m m':M} {q id:Pa} (h:AU c m' id) (fL:¬ q <:+ id):AU c (m.back q m') id:=by
 have hs:¬ q.isSuffixOf id=true:=λe=>fL (Ln.1 e);refine ⟨?_,h.anon,h.cell,λoff=>?_,λj=>?_⟩
 ·show (if q.isSuffixOf id then m.blk id else m'.blk id)=none;rw [if_neg hs];exact h.blk
 ·show (if q.isSuffixOf id then m.ver id else m'.ver id) off=0;rw [if_neg hs];exact h.ver off
 ·show (if q.isSuffixOf id then m.tok id else m'.tok id) j=false;rw [if_neg hs];exact h.tok j
theorem fX.back {c c':Conc} {m m':M} {w w':World} {q:Pa} (h:fX c m w) (hf:wM c q) (h':fX c' m' w'):fX c' (m.back q m') w'/\∀b,eY c' (m.back q m') b->eY c' m' b:=by
 have hsub:∀id,q.isSuffixOf id=true->m.blk id=none/\(∀off,m.ver id off=0)/\∀j,m.tok id j=false:=by
  intro id fL;have hf':=hf id (Ln.1 fL);exact ⟨h.fresh_blk hf',(h.ver0 id hf').1,(h.ver0 id hf').2⟩
 have hb:∀id vs,(m.back q m').blk id=some vs->q.isSuffixOf id=false/\m'.blk id=some vs:=by
  intro id vs hv;have hv':(if q.isSuffixOf id then m.blk id else m'.blk id)=some vs:=hv;cases hs:q.isSuffixOf id with
  | true=>rw [if_pos hs,(hsub id hs).1] at hv';cases hv'
  | false=>rw [if_neg (by simp [hs])] at hv';exact ⟨rfl,hv'⟩
 have hbn:∀id,(m.back q m').blk id ≠ none->q.isSuffixOf id=false/\m'.blk id ≠ none:=by
  intro id fL;obtain ⟨vs,hv⟩:∃vs,(m.back q m').blk id=some vs:=by cases hx:(m.back q m').blk id with | none=>exact absurd hx fL | some vs=>exact ⟨vs,rfl⟩
  obtain ⟨h1,h2⟩:=hb id vs hv;exact ⟨h1,by rw [h2];simp⟩
 have hver:∀id,q.isSuffixOf id=false->(m.back q m').ver id=m'.ver id:=by
  intro id hs;show (if q.isSuffixOf id then m.ver id else m'.ver id)=_;rw [if_neg (by simp [hs])]
 have hlive:∀s,fN (m.back q m') s=true->fN m' s=true:=by
  intro s hl;cases s with
  | anon i j=>
    have hl':(if q.isSuffixOf i then m.tok i else m'.tok i) j=true:=hl;cases hs:q.isSuffixOf i with
    | true=>rw [if_pos hs,(hsub i hs).2.2 j] at hl';cases hl'
    | false=>rw [if_neg (by simp [hs])] at hl';exact hl'
  | priv b=>exact hl
  | cell i off v=>
    obtain ⟨h1,vs,rows,h2,h3⟩:=sT hl;obtain ⟨h4,h5⟩:=hb i vs h2;rw [hver i h4] at h1;exact sM h1 h5 h3
 have hown:∀b,eY c' (m.back q m') b->eY c' m' b:=by
  rintro b (⟨id,fL,hr⟩ | ⟨s,cap,sz,len,hl,hk⟩)
  ·exact .inl ⟨id,(hbn id fL).2,hr⟩
  ·exact .inr ⟨s,cap,sz,len,hlive s hl,hk⟩
 refine ⟨⟨h'.com,λid vs hv=>?_,λid id' b hi hi'=>h'.inj id id' b (hbn id hi).2 (hbn id' hi').2,λs b cap sz len hl hk=>?_,λs s' b cap sz len cap' sz' len' hl hl'=>h'.ownInj s s' b cap sz len cap' sz' len' (hlive s hl) (hlive s' hl'),λid off v hi hv=>?_,h'.gl,λid fL=>⟨λoff=>?_,λj=>?_⟩,h'.base,λb hl=>⟨(h'.lit b hl).1,(h'.lit b hl).2.1,λho=>(h'.lit b hl).2.2 (hown b ho)⟩,λb vs hv=>h'.hpr b vs hv⟩,hown⟩
 ·obtain ⟨h1,h2⟩:=hb id vs hv;obtain ⟨b,cs,t,k1,k2,k3,k4,k5⟩:=h'.blk id vs h2;exact ⟨b,cs,t,k1,k2,by rw [hver id h1];exact k3,k4,k5⟩
 ·obtain ⟨k1,k2,k3,k4⟩:=h'.own s b cap sz len (hlive s hl) hk;exact ⟨k1,k2,λid fL=>k3 id (hbn id fL).2,k4⟩
 ·obtain ⟨h1,h2⟩:=hbn id hi;rw [hver id h1] at hv;exact h'.ver id off v h2 hv
 ·show (if q.isSuffixOf id then m.ver id else m'.ver id) off=0
  split
  ·rename_i hs;exact (hsub id hs).2.1 off
  ·exact (h'.ver0 id fL).1 off
 ·show (if q.isSuffixOf id then m.tok id else m'.tok id) j=false
  split
  ·rename_i hs;exact (hsub id hs).2.2 j
  ·exact (h'.ver0 id fL).2 j
def Ta (args:List V):fJ:=λt=>args.getD t (.lit undef)
theorem Qs {c:Conc} {args:List V} {xs:List Value} (h:CR c args xs) (N:Nat):rQ c (Ta args) { tmps:=xs.toArray++Array.replicate (N - xs.length) undef,defers:=[] } N:=by
 refine ⟨by simp;omega,λt=>?_⟩;show CR c [args.getD t (.lit undef)] [(xs.toArray++Array.replicate (N - xs.length) undef).getD t undef]
 by_cases ht:t<args.length
 ·have hx:t<xs.length:=by rw [h.len];exact ht
  obtain ⟨x,hx1,hx2⟩:=h.get (wB ht);have e1:args.getD t (.lit undef)=args[t]:=by simp [List.getD,ht]
  have e2:(xs.toArray++Array.replicate (N - xs.length) undef).getD t undef=x:=by
   rw [wB hx] at hx1
   injection hx1 with hx1
   rw [Rb,Array.getElem?_append_left (by simpa using hx)];simp [hx,hx1]
  rw [e1,e2];exact hx2
 ·have hx:¬ t<xs.length:=by rw [h.len];exact ht
  have e1:args.getD t (.lit undef)=.lit undef:=by simp [List.getD,ht]
  have e2:(xs.toArray++Array.replicate (N - xs.length) undef).getD t undef=undef:=by
   rw [Rb,Array.getElem?_append_right (by simp;omega)];simp only [xdz,Array.getElem?_replicate]
   split <;> rfl
  rw [e1,e2];exact .lit .nil
def UX (P:Program) (E:fJ) (m:M) (r:ResultVar) (C:V->Prop):Prop:=
 match r with
 | .tmp t=>C (E t)
 | .cell p T=>uO P m T (E p) C
def Qh (P:Program) (E:fJ) (m:M):List ResultVar->(List V->Prop)->Prop
 | [],C=>C []
 | r::rs,C=>UX P E m r λv=>Qh P E m rs λvs=>C (v::vs)
def Ig (P:Program) (E:fJ) (m:M) (rs:List ResultVar) (C:V->Prop):Prop:=
 Qh P E m rs λvs=>match vs with | [v]=>C v | vs=>C (.tup vs)
section
variable {P:Program} {c:Conc} {m:M} {w:World} {E:fJ} {a:Act} {N:Nat}
def HB (tmps:Array Value):ResultVar->Sem Value
 | .tmp t=>pure (tmps.getD t undef)
 | .cell p t=>do loadVar t (←asAddr (tmps.getD p undef))
theorem SJ {r:ResultVar} {C:V->Prop} (hs:UX P E m r C) (h:fX c m w) (hE:rQ c E a N):∃v,C v/\∃x,(HB a.tmps r).run P w=.ok x w/\CR c [v] [x]:=by
 cases r with
 | tmp t=>exact ⟨_,hs,_,rfl,hE.gC t⟩
 | cell p T=>
   have hs':uO P m T (E p) C:=hs;obtain ⟨v,hC,z,hz,hr⟩:=Of hs' h (hE.gC p);refine ⟨v,hC,z,?_,hr⟩
   have hp:∃b o,a.tmps.getD p undef=.pointer (some ⟨b,o,none⟩):=by
    cases hc:Bv m (E p) with
    | none=>unfold uO at hs';rw [hc] at hs';exact hs'.elim
    | some vs=>
      obtain ⟨b,o,xs,he,_⟩:=Ld h (hE.gC p) hc;exact ⟨b,o,he⟩
   obtain ⟨b,o,he⟩:=hp;rw [he] at hz;show (do loadVar T (←asAddr (a.tmps.getD p undef)):Sem Value).run P w=_;rw [he];simpa [Instr.loadAt,Instr.sureAddr,asAddr] using hz
theorem SK {rs:List ResultVar}:∀ {C:List V->Prop},Qh P E m rs C->fX c m w->rQ c E a N->∃vs,C vs/\∃xs,(rs.mapM (HB a.tmps)).run P w=.ok xs w/\CR c vs xs:=by
 induction rs with
 | nil=>intro C hs h hE;exact ⟨[],hs,[],rfl,.nil⟩
 | cons r rs ih=>
   intro C hs h hE;obtain ⟨v,hs2,x,hx,hv⟩:=SJ hs h hE;obtain ⟨vs,hC,xs,hxs,hvs⟩:=ih hs2 h hE;refine ⟨v::vs,hC,x::xs,?_,hv.cons hvs⟩;rw [List.mapM_cons];simp [hx,hxs]
theorem Rm {fn:Func} {C:V->Prop} (hs:Ig P E m fn.results.toList C) (h:fX c m w) (hE:rQ c E a N):∃v,C v/\∃x,(results fn a.tmps).run P w=.ok x w/\CR c [v] [x]:=by
 obtain ⟨vs,hC,xs,hxs,hvs⟩:=SK (C:=λvs=>match vs with | [v]=>C v | vs=>C (.tup vs)) hs h hE
 have he:results fn a.tmps=(do
   let vs ←fn.results.mapM (HB a.tmps)
   pure (if h:vs.size=1 then vs[0] else .tuple vs)):=by
  unfold results
  congr 1
 have hr:(results fn a.tmps).run P w=.ok (if h:xs.toArray.size=1 then xs.toArray[0] else .tuple xs.toArray) w:=by
  rw [he];simp [xej,hxs]
 rw [hr]
 match vs,hC,hvs with
 | [v],hC,hvs=>obtain ⟨x,rfl,hv⟩:=hvs.inv_one;exact ⟨v,hC,x,rfl,hv⟩
 | [],hC,hvs=>rw [hvs.inv_nil];exact ⟨_,hC,_,rfl,.tup .nil .nil⟩
 | v::u::vs,hC,hvs=>
   have hl:=hvs.len;refine ⟨_,hC,_,rfl,?_⟩;rw [dif_neg (by simp [hl])];exact .tup hvs .nil
end
theorem SC_of {P:Program} {f:FuncId} {fn:Func} {body:Code} {args:List V} {q:Pa} {m:M} {R:V->M->Prop} (hf:P.funcs[f]? = some fn) (hb:fn.body=some body) (hen:∀(xs:Array Value) (w:World),(callFunc f xs).run P w=.ok (.enter f xs) w)
  {N:Nat} (hN:fn.ntmps=N) (hfit:FU N body=true) {rs:List ResultVar} (hrs:fn.results.toList=rs) (wk:V->V) (hwk:∀(c:Conc) v x,CR c [v] [x]->CR c [wk v] [x])
  (h:SW P N q body 0 (Ta args) m λe _ E' m'=>(e=.ret ∨ e=.normal)/\Ig P E' m' rs λr=>R (wk r) (m.back q m')):SC P f args q m R:=by
 intro c xs w h1 h2 h3;refine .inl ⟨hen _ w,?_⟩;subst hN hrs;have hini:=Qs h2 fn.ntmps;refine calls_of_wp hf hb ?_;rw [xdz];refine wp_mono (h hfit c _ w h1 hini h3.sub) ?_;intro e a' w' hp;obtain ⟨c',k',E',m',⟨he,hres⟩,g2,g3,g4,g5,g6,g7⟩:=hp;obtain ⟨v,hC,x,hx,hv⟩:=Rm hres g2 g4;obtain ⟨hback,hown⟩:=h1.back h3 g2;have hX:pA q c m w c' (m.back q m') w':=⟨g3.le,g3.os,g3.tape,g3.output,g3.size,g3.heap,g3.book,λb hb ho=>g3.own b hb (hown b ho),g3.fresh,λid fL hb=>(g3.keep id fL hb).back fL,g3.lits⟩
 have hdone:a'.defers=[]/\∃v,(results fn a'.tmps).run P w'=.ok v w'/\∃x c' r m',Ending.returned v=.returned x/\R r m'/\fX c' m' w'/\pA q c m w c' m' w'/\CR c' [r] [x]:=
  ⟨g6,x,hx,x,c',wk v,m.back q m',rfl,hC,hback,hX,hwk c' v x hv⟩
 rcases he with rfl | rfl
 ·exact hdone
 ·exact hdone
