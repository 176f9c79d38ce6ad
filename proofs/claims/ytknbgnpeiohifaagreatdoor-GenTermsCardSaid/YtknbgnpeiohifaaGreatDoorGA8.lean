import Derived.Test.YtknbgnpeiohifaaGreatDoorGA1
import Derived.Laws.IdiomStrings
set_option linter.all false
namespace Go.Proofs.YtknbgnpeiohifaaGreatDoor.Abs
open Go.RowKit
section
variable {P:Program} {c c':Conc} {m m':M} {w w':World}
def cC (P:Program) (T:TypeId):Option Nat:=(P.info? T).map (·.size)
def aggD:TypeDesc->Bool
 | .struct _ | .array _ _=>true
 | _=>false
def oC (P:Program) (T:TypeId):Option Bool:=(P.underlying T).map aggD
theorem kT {T:TypeId} {n:Nat} (h:cC P T=some n) (w:World):(sizeOf T).run P w=.ok n w:=by
 unfold cC at h;cases hq:P.info? T with
 | none=>simp [hq] at h
 | some i=>simp [hq] at h;simp [sizeOf,typeInfo,hq,h]
theorem Jk {T:TypeId} {b:Bool} (h:oC P T=some b) (w:World):(isAgg T).run P w=.ok b w:=by
 unfold oC at h;cases hq:P.underlying T with
 | none=>simp [hq] at h
 | some d=>
   rw [hq,PJ] at h
   injection h with h
   unfold isAgg;rw [Sem.run_bind,run_underlying hq w];cases d <;> simp_all [aggD]
def M.hset (m:M) (id:Pa) (vs:List V):M:={ m with hp:=λi=>if i=id then some vs else m.hp i }
def V.toHp:V->V
 | .list .exact []=>.nilv
 | .list _ rows=>.list .none rows
 | v=>v
def Kq (vs:List V) (off:Nat):List V->List V
 | []=>vs
 | x::xs=>Kq (vs.set off x) (off+1) xs
theorem V.toHp_ok {v:V} {x:Value} (h:CR c [v] [x]):CR c [v.toHp] [x]:=by
 cases v with
 | list o rows=>
   obtain ⟨a,cap,es,sz,rfl,k1,k2,kz,k3,k4,k5,k6,kc,k7⟩:=h.inv_list;have hn:CR c [.list .none rows] [.slice a rows.length cap]:=.list k1 k2 kz k3 k4 k5 k6 kc trivial .nil;cases o with
   | exact=>
     cases rows with
     | nil=>
       obtain ⟨h0,_⟩:=k7;simp only [sY] at h0;subst h0;exact .nilv .nil
     | cons r rows=>exact hn
   | _=>exact hn
 | _=>exact h
theorem DV {vs:List V} {xs:List Value} (h:CR c vs xs):CR c (vs.map V.toHp) xs:=by
 induction vs generalizing xs with
 | nil=>exact h
 | cons v vs ih=>
   obtain ⟨x,xs,rfl,h1,h2⟩:=h.uncons;exact (V.toHp_ok h1).cons (ih h2)
theorem XF {id:Pa} {vs vs':List V} (hv:m.hp id=some vs) (s:wE):gJ (m.hset id vs') s=gJ m s:=by
 cases s with
 | priv i=>
   show (if i=id then some vs' else m.hp i).isSome=(m.hp i).isSome
   by_cases e:i=id
   ·rw [cX e,e,hv];rfl
   ·rw [cE e]
 | _=>rfl
theorem gT.hwrite (h:gT c m w) (q:Pa) {id:Pa} {vs vs':List V} {b n:Nat} {t:TypeId} {cs cs':Array Value} (hv:m.hp id=some vs) (hk:c.κ (.priv id)=some (.arr b n 1 0)) (hB:CY w b t cs) (hB':CY w' b t cs') (hsz:cs'.size=cs.size) (hg:w.grownBy w' (some b))
  (hl:vs'.length<=cs'.size) (hcr:CR c vs' (cs'.toList.take vs'.length)) (hone:∀u ∈ cs'.toList,u.oneCell'=true):gT c (m.hset id vs') w'/\qK q c m w c (m.hset id vs') w':=by
 have hlv:=XF (vs':=vs') hv
 have hown:∀b',fN c (m.hset id vs') b' ↔ fN c m b':=by
  intro b'
  constructor
  ·rintro (⟨i,hi,hr⟩ | ⟨s,cap,sz,len,hl,hk⟩)
   ·exact .inl ⟨i,hi,hr⟩
   ·exact .inr ⟨s,cap,sz,len,(hlv s).symm.trans hl,hk⟩
  ·rintro (⟨i,hi,hr⟩ | ⟨s,cap,sz,len,hl,hk⟩)
   ·exact .inl ⟨i,hi,hr⟩
   ·exact .inr ⟨s,cap,sz,len,(hlv s).trans hl,hk⟩
 have hO:=h.priv_out hv hk
 have hcs:cs.size=n:=by
  obtain ⟨⟨ys,t',hB2,hs⟩,_⟩:=h.own (.priv id) b n 1 0 (gT.priv_live hv) hk
  have:cs=ys:=by
   have h1:w.heap[b]? = some (.cells cs t (0,0)):=hB;have h2:w.heap[b]? = some (.cells ys t' (0,0)):=hB2;rw [h1] at h2;injection h2 with h2;injection h2
  rw [this,hs,YJ]
 have hne:∀b',b' ≠ b->some b' ≠ some b:=λb' e1 e2=>e1 (by injection e2);refine ⟨⟨h.com.grown hg (Tq hO),λi xs hx=>?_,h.inj,λs b' cap sz len hl' hk'=>?_,λs s' b' cap sz len cap' sz' len' h1 h2=>h.ownInj s s' b' cap sz len cap' sz' len' ((hlv s).symm.trans h1) ((hlv s').symm.trans h2),h.ver,h.gl,h.ver0,No h.base hg.size,λb' hb=>⟨(h.lit b' hb).1,YM (h.lit b' hb).2.1 hg.size,λho=>(h.lit b' hb).2.2 ((hown b').1 ho)⟩,λi xs hx=>?_⟩,?_⟩
 ·obtain ⟨b',ys,t',hr',hB2,k1,k2,k3⟩:=h.blk i xs hx;exact ⟨b',ys,t',hr',hB2.grown hg (hne b' λe=>h.priv_id hv hk (by rw [show m.blk i=some xs from hx];simp) (by rw [←e];exact hr')),k1,k2,k3⟩
 ·have hl0:=(hlv s).symm.trans hl';obtain ⟨⟨ys,t',hB2,hs⟩,k⟩:=h.own s b' cap sz len hl0 hk';refine ⟨?_,k⟩
  by_cases e:b'=b
  ·subst e;have h1:w.heap[b']? = some (.cells cs t (0,0)):=hB;have h2:w.heap[b']? = some (.cells ys t' (0,0)):=hB2;rw [h1] at h2;injection h2 with h2;injection h2 with h3
   exact ⟨cs',t,hB',by rw [hsz,h3,hs]⟩
  ·exact ⟨ys,t',hB2.grown hg (hne b' e),hs⟩
 ·have hx':(if i=id then some vs' else m.hp i)=some xs:=hx
  by_cases e:i=id
  ·subst e;rw [cX rfl] at hx'
   injection hx' with hx'
   subst hx';exact ⟨b,n,hk,cs',t,hB',hl,hcr,hone⟩
  ·rw [cE e] at hx'
   exact (h.hpr i xs hx').mono (.refl c) λb2 n2 cs2 t2 hk2 hB2=>hB2.grown hg (hne b2 λe2=>e (by
    have:=h.priv_arr hv hk (s:=.priv i) (gT.priv_live hx') (by rw [hk2,e2])
    injection this))
 ·exact ⟨.refl c,hg.os,hg.tape,hg.output,hg.size,λb' hb' ho _=>hg.block b' hb' (λe=>ho (by injection e with e;subst e;exact gT.priv_own hv hk)),λ_ _ _ _=>rfl,λb' _ ho=>(hown b').1 ho,λ_ _ x=>x,λi _ hb=>⟨hb.blk,hb.anon,hb.cell,hb.ver,hb.tok⟩,λ_ _ x=>x⟩
theorem VQ {q id:Pa} {b n:Nat} {vs:List V}:∀ {m:M} {w:World} {xs:List Value} {off i o0:Nat} {cur:List V},gT c m w->c.κ (.priv id)=some (.arr b n 1 0)->m.hp id=some cur->off+vs.length<=cur.length->o0+i=off->CR c vs xs->(∀u ∈ xs,u.oneCell'=true) ->
  ∃w',(storeCells ⟨b,o0,none⟩ xs i).run P w=.ok () w'/\gT c (m.hset id (Kq cur off vs)) w'/\qK q c m w c (m.hset id (Kq cur off vs)) w':=by
 induction vs with
 | nil=>
   intro m w xs off i o0 cur h hk hb hl hi hx h1;rw [hx.inv_nil]
   have e:m.hset id cur=m:=by
    have:(λi=>if i=id then some cur else m.hp i)=m.hp:=by
     funext i
     by_cases e:i=id
     ·rw [cX e,e,hb]
     ·rw [cE e]
    show M.mk m.blk m.ver m.tok m.gl _=_;rw [this]
   rw [Kq,e];exact ⟨w,rfl,h,.refl q c m w⟩
 | cons v vs ih=>
   intro m w xs off i o0 cur h hk hb hl hi hx h1;obtain ⟨x,xs,rfl,hx1,hx2⟩:=hx.uncons;simp only [qB] at hl;obtain ⟨b',n',hk',cs,t,hB,hlc,hcr,hone⟩:=h.hpr id cur hb;rw [hk] at hk';injection hk' with hk';injection hk' with e1 e2;subst e1 e2
   have hB':=hB.set_ off x;have hg:=gset (KH w (some b)) b off x (.inl rfl);have hoff:off<cs.size:=by omega
   obtain ⟨hR1,hE1⟩:=h.hwrite q (vs':=cur.set off v) hb hk hB hB' zd hg (by simpa using hlc) (by
    rw [Db,xei,List.take_set];exact hcr.set off hx1) (by
    intro u hu;rw [xei] at hu
    rcases YK hu with hu | rfl
    ·exact hone u hu
    ·exact h1 u zd)
   have hb1:(m.hset id (cur.set off v)).hp id=some (cur.set off v):=by show (if id=id then some _ else _)=_;rw [cX rfl]
   obtain ⟨w2,hrun,hR2,hE2⟩:=ih (off:=off+1) (i:=i+1) (o0:=o0) hR1 hk hb1 (by rw [Db];omega) zb hx2 (λu hu=>h1 u (by simp [hu]))
   have e:(m.hset id (cur.set off v)).hset id (Kq (cur.set off v) (off+1) vs)=m.hset id (Kq cur off (v::vs)):=by
    show M.mk _ m.ver m.tok m.gl _=M.mk _ m.ver m.tok m.gl _
    congr 1
    funext i
    show (if i=id then _ else if i=id then _ else m.hp i)=if i=id then _ else m.hp i
    by_cases e:i=id
    ·rw [cX e,cX e];rfl
    ·rw [cE e,cE e,cE e]
   rw [e] at hR2 hE2;refine ⟨w2,?_,hR2,hE1.trans hE2⟩;have hx1':=h1 x zd;have hu:w.cell? ⟨b,off,none⟩=some cs[off]:=by rw [hB.cell];simp [hoff]
   have hfro:=hB.frozen off;rw [storeCells];rw [Sem.run_bind,oA,hi]
   have hone:(store ⟨b,off,none⟩ x).run P w=.ok () (w.setCell ⟨b,off,none⟩ x):=by
    unfold store
    cases x <;> first
     | (simp [Sem.run,hu,hfro];done)
     | (cases hx1')
   rw [hone];exact hrun
def DF (m:M):V->Option (List V)
 | .ptr id off=>(m.blk id).map λvs=>(IL (m.ver id) id vs).drop off
 | .eptr rows i off=>rows[i]?.map (·.drop off)
 | .pp id off=>(m.hp id).map (·.drop off)
 | _=>none
theorem Pn (h:gT c m w) {v:V} {x:Value} (hv:CR c [v] [x]) {vs:List V} (hc:DF m v=some vs) :
  ∃b o xs,x=.pointer (some ⟨b,o,none⟩)/\CR c vs xs/\(∀j u,xs[j]? = some u->w.cell? ⟨b,o+j,none⟩=some u)/\∀u ∈ xs,u.oneCell'=true:=by
 cases v with
 | ptr id off=>
   obtain ⟨b,hr,rfl⟩:=hv.inv_ptr;simp only [DF,Option.map_eq_some_iff] at hc;obtain ⟨us,hu,rfl⟩:=hc;obtain ⟨b',cs,t,hr',hB,k1,k2,k3⟩:=h.blk id us hu;rw [hr] at hr';injection hr' with e;subst e
   refine ⟨b,off,cs.toList.drop off,rfl,k1.drop off,λj u hj=>?_,λu hu=>k3 u (Yw hu)⟩;rw [hB.cell];simpa [xdk] using hj
 | eptr rows i off=>
   obtain ⟨b,o,sz,es,rfl,k1,k2,k3,k4⟩:=hv.inv_eptr;simp only [DF,Option.map_eq_some_iff] at hc;obtain ⟨r,hr,rfl⟩:=hc;have hf:=La k2 hr;refine ⟨b,o+i*sz+off,((es.drop (i*sz)).take sz).drop off,rfl,?_,λj u hj=>?_,λu hu=>k4 u (Yw (Ul (Yw hu)))⟩
   ·have:=((k1.drop (i*sz)).take sz).drop off;rw [hf.2] at this;exact this
   ·rw [xdk,xdl] at hj
    split at hj
    ·rw [xdk] at hj;have:=h.com _ _ _ (k3 _ u hj);rw [show o+i*sz+off+j=o+(i*sz+(off+j)) by omega];exact this
    ·cases hj
 | pp id off=>
   obtain ⟨b,n,hk,rfl⟩:=hv.inv_pp;simp only [DF,Option.map_eq_some_iff] at hc;obtain ⟨us,hu,rfl⟩:=hc;obtain ⟨b',n',hk',cs,t,hB,hl,hcr,hone⟩:=h.hpr id us hu;rw [hk] at hk';injection hk' with hk';injection hk' with e1 e2;subst e1 e2
   refine ⟨b,off,(cs.toList.take us.length).drop off,rfl,hcr.drop off,λj u hj=>?_,λu hu=>hone u (Ul (Yw hu))⟩;rw [hB.cell];rw [xdk,xdl] at hj
   split at hj
   ·simpa using hj
   ·cases hj
 | _=>cases hc
def V.shared:V->V
 | .list _ rows=>.list .none rows
 | v=>v
theorem V.shared_ok {v:V} {x:Value} (h:CR c [v] [x]):CR c [v.shared] [x]:=by
 cases v with
 | list o rows=>
   obtain ⟨a,cap,es,sz,rfl,k1,k2,kz,k3,k4,k5,k6,kc,k7⟩:=h.inv_list;exact .list k1 k2 kz k3 k4 k5 k6 kc trivial .nil
 | _=>exact h
theorem HL {vs:List V} {xs:List Value} (h:CR c vs xs):CR c (vs.map V.shared) xs:=by
 induction vs generalizing xs with
 | nil=>exact h
 | cons v vs ih=>
   obtain ⟨x,xs,rfl,h1,h2⟩:=h.uncons;exact (V.shared_ok h1).cons (ih h2)
def yO (P:Program) (m:M) (T:TypeId) (v:V) (C:V->Prop):Prop:=
 match DF m v with
 | none=>False
 | some vs=>
   match oC P T with
   | some true=>(match cC P T with | some n=>n<=vs.length/\C (.agg ((vs.take n).map V.shared)) | none=>False)
   | some false=>(match vs with | u::_=>C u | []=>False)
   | none=>False
theorem SX {T:TypeId} {v:V} {C:V->Prop} (hs:yO P m T v C) (h:gT c m w) {x:Value} (hv:CR c [v] [x]):∃r,C r/\∃z,(Instr.loadAt T x).run P w=.ok z w/\CR c [r] [z]:=by
 unfold yO at hs
 split at hs
 ·exact hs.elim
 ·rename_i vs hc;obtain ⟨b,o,xs,rfl,k1,k2,k3⟩:=Pn h hv hc
  split at hs
  ·rename_i ha
   split at hs
   ·rename_i n hn;obtain ⟨hl,hC⟩:=hs;refine ⟨_,hC,.agg (xs.take n).toArray,?_,.agg (HL (k1.take n)) (λu hu=>k3 u (Ul hu)) .nil⟩;have hlen:(xs.take n).length=n:=by rw [NL,k1.len];omega
    have hld:=run_loadCells_list (P:=P) w ⟨b,o,none⟩ (xs.take n) (λj u hj=>by
     rw [oA];rw [xdl] at hj
     split at hj
     ·exact k2 j u hj
     ·cases hj)
    rw [hlen] at hld;simp [Instr.loadAt,Instr.sureAddr,loadVar,Jk ha,kT hn,hld]
   ·exact hs.elim
  ·rename_i ha
   split at hs
   ·rename_i u us;obtain ⟨y,ys,rfl,h1,h2⟩:=k1.uncons;have hcell:=k2 0 y rfl;rw [Qp] at hcell;refine ⟨_,hs,y,?_,h1⟩;simp [Instr.loadAt,Instr.sureAddr,loadVar,Jk ha,hcell]
   ·exact hs.elim
  ·exact hs.elim
def M.stN (m:M) (id:Pa) (off:Nat):List V->M
 | []=>m
 | v::vs=>(match m.blk id with | some cs=>m.st1 id cs off v | none=>m).stN id (off+1) vs
theorem st1_blk {id:Pa} {cs:List V} {off:Nat} {v:V}:∃cs',(m.st1 id cs off v).blk id=some cs'/\cs'.length=cs.length:=by
 cases v with
 | list o rows=>
   unfold M.st1;simp only
   split
   ·exact ⟨_,by show (if id=id then some _ else _)=_;rw [cX rfl],zd⟩
   ·exact ⟨_,by show (if id=id then some _ else _)=_;rw [cX rfl],zd⟩
 | _=>exact ⟨_,by show (if id=id then some _ else _)=_;rw [cX rfl],zd⟩
theorem stN_ok {q id:Pa} {b:Nat} {vs:List V}:∀ {c:Conc} {m:M} {w:World} {xs:List Value} {off i o0:Nat} {cur:List V},gT c m w->c.ρ id=some b->m.blk id=some cur->off+vs.length<=cur.length->o0+i=off->CR c vs xs->(∀u ∈ xs,u.oneCell'=true) ->
  ∃c' w',(storeCells ⟨b,o0,none⟩ xs i).run P w=.ok () w'/\gT c' (m.stN id off vs) w'/\qK q c m w c' (m.stN id off vs) w':=by
 induction vs with
 | nil=>
   intro c m w xs off i o0 cur h hr hb hl hi hx h1;rw [hx.inv_nil];exact ⟨c,w,rfl,h,.refl q c m w⟩
 | cons v vs ih=>
   intro c m w xs off i o0 cur h hr hb hl hi hx h1;obtain ⟨x,xs,rfl,hx1,hx2⟩:=hx.uncons;simp only [qB] at hl;obtain ⟨b',hr',hcell,hfro,c1,hR1,hE1⟩:=h.st1 q (id:=id) (off:=off) hb zb hx1 (h1 x zd);rw [hr] at hr';injection hr' with e;subst e
   obtain ⟨cur',hcur',hlen'⟩:=st1_blk (m:=m) (id:=id) (cs:=cur) (off:=off) (v:=v);obtain ⟨c2,w2,hrun,hR2,hE2⟩:=ih (off:=off+1) (i:=i+1) (o0:=o0) hR1 (hE1.le.ρ _ _ hr) hcur' zb zb (hx2.mono hE1.le) (λu hu=>h1 u (by simp [hu]))
   have Kb:M.stN m id off (v::vs)=M.stN (m.st1 id cur off v) id (off+1) vs:=by
    simp only [M.stN,hb]
   rw [Kb];refine ⟨c2,w2,?_,hR2,hE1.trans hE2⟩;have hx1':=h1 x zd
   have hsome:∃u,w.cell? ⟨b,off,none⟩=some u:=by
    unfold World.cell?;cases hq:w.heap[b]? with
    | none=>simp [hq] at hcell
    | some ob=>
      cases ob with
      | cells cs t fr=>simp [hq] at hcell;exact ⟨cs[off],by simp [hcell]⟩
      | _=>simp [hq] at hcell
   obtain ⟨u,hu⟩:=hsome;rw [storeCells];rw [Sem.run_bind,oA,hi]
   have hone:(store ⟨b,off,none⟩ x).run P w=.ok () (w.setCell ⟨b,off,none⟩ x):=by
    unfold store
    cases x <;> first
     | (simp [Sem.run,hu,hfro];done)
     | (cases hx1')
   rw [hone];exact hrun
def DY (P:Program) (m:M) (T:TypeId) (a v:V) (C:M->Prop):Prop:=
 match a with
 | .ptr id off=>
   match m.blk id,cC P T with
   | some vs,some n=>v.cellsOk=true/\v.cells.length=n/\off+n<=vs.length/\C (m.stN id off v.cells)
   | _,_=>False
 | .pp id off=>
   match m.hp id,cC P T with
   | some vs,some n=>v.cellsOk=true/\v.cells.length=n/\off+n<=vs.length/\C (m.hset id (Kq vs off (v.cells.map V.toHp)))
   | _,_=>False
 | _=>False
theorem Xd {T:TypeId} {a v:V} {C:M->Prop} (hs:DY P m T a v C) (h:gT c m w) (q:Pa) {x y:Value} (ha:CR c [a] [x]) (hv:CR c [v] [y]) :
  ∃m',C m'/\∃c' w',(Instr.storeAt T x y).run P w=.ok () w'/\gT c' m' w'/\qK q c m w c' m' w':=by
 unfold DY at hs
 split at hs
 ·rename_i id off
  split at hs
  ·rename_i vs n hb hn;obtain ⟨h1,h2,h3,hC⟩:=hs;obtain ⟨b,hr,rfl⟩:=ha.inv_ptr;obtain ⟨k1,k2⟩:=Hw hv h1;obtain ⟨c',w',hrun,hR,hE⟩:=stN_ok (P:=P) (q:=q) (i:=0) (o0:=off) h hr hb zb rfl k1 k2;refine ⟨_,hC,c',w',?_,hR,hE⟩;have hsz:y.cells.size=n:=by have:=k1.len;simp at this;omega
   simp [Instr.storeAt,Instr.sureAddr,storeVar,kT hn,hsz,hrun]
  ·exact hs.elim
 ·rename_i id off
  split at hs
  ·rename_i vs n hb hn;obtain ⟨h1,h2,h3,hC⟩:=hs;obtain ⟨b,n',hk,rfl⟩:=ha.inv_pp;obtain ⟨k1,k2⟩:=Hw hv h1;obtain ⟨w',hrun,hR,hE⟩:=VQ (P:=P) (q:=q) (vs:=v.cells.map V.toHp) (i:=0) (o0:=off) h hk hb (by rw [Kn];omega) rfl (DV k1) k2;refine ⟨_,hC,c,w',?_,hR,hE⟩;have hsz:y.cells.size=n:=by have:=k1.len;simp at this;omega
   simp [Instr.storeAt,Instr.sureAddr,storeVar,kT hn,hsz,hrun]
  ·exact hs.elim
 ·exact hs.elim
def iD (P:Program) (T:TypeId) (f:Nat):Option Nat:=
 match P.underlying T with
 | some (.struct fs)=>(match fs[f]? with | some fd=>(match cC P fd.type with | some (_+1)=>some fd.offset | _=>none) | none=>none)
 | _=>none
def Ce (P:Program) (T:TypeId) (f:Nat) (v:V) (C:V->Prop):Prop:=
 match iD P T f with
 | some fo=>(match v with | .ptr id off=>C (.ptr id (off+fo)) | .eptr rows i off=>C (.eptr rows i (off+fo)) | .pp id off=>C (.pp id (off+fo)) | _=>False)
 | none=>False
theorem Jj {T f fo b o:Nat} (h:iD P T f=some fo) (w:World):(Instr.fieldAt T (.pointer (some ⟨b,o,none⟩)) f).run P w=.ok (.pointer (some ⟨b,o+fo,none⟩)) w:=by
 unfold iD at h
 split at h
 ·rename_i fs hu
  split at h
  ·rename_i fd hf
   split at h
   ·rename_i n hn
    injection h with h;subst h
    have hz:=kT hn w;simp [Instr.fieldAt,run_underlying hu,hf,Instr.sureAddr,fieldPlace,hz,oA]
   ·cases h
  ·cases h
 ·cases h
theorem CR.eptr_add {rows:List (List V)} {i off fo b o:Nat} (h:CR c [.eptr rows i off] [.pointer (some ⟨b,o,none⟩)]):CR c [.eptr rows i (off+fo)] [.pointer (some ⟨b,o+fo,none⟩)]:=by
 obtain ⟨b',o',sz,es,he,k1,k2,k3,k4⟩:=h.inv_eptr
 injection he with he;injection he with he;injection he with e1 e2;subst e1 e2
 have:=CR.eptr (i:=i) (off:=off+fo) k1 k2 k3 k4 .nil;rw [show o'+i*sz+off+fo=o'+i*sz+(off+fo) by omega];exact this
theorem UL {T f:Nat} {v:V} {C:V->Prop} (hs:Ce P T f v C) {x:Value} (hv:CR c [v] [x]) (w:World):∃r,C r/\∃z,(Instr.fieldAt T x f).run P w=.ok z w/\CR c [r] [z]:=by
 unfold Ce at hs
 split at hs
 ·rename_i fo hf
  split at hs
  ·obtain ⟨b,hr,rfl⟩:=hv.inv_ptr;exact ⟨_,hs,_,Jj hf w,.ptr hr .nil⟩
  ·obtain ⟨b,o,sz,es,rfl,_⟩:=hv.inv_eptr;exact ⟨_,hs,_,Jj hf w,hv.eptr_add⟩
  ·obtain ⟨b,n,hk,rfl⟩:=hv.inv_pp;exact ⟨_,hs,_,Jj hf w,.pp hk .nil⟩
  ·exact hs.elim
 ·exact hs.elim
def Cd (P:Program) (T:TypeId) (v ix:V) (C:V->Prop):Prop:=
 match P.underlying T,v,ix with
 | some (.slice e),.list _ rows,.lit (.int _ n)=>(match cC P e with | some s=>0<=n/\n<rows.length/\(∀r ∈ rows,r.length=s)/\C (.eptr rows n.toNat 0) | none=>False)
 | some (.slice e),.arr id off len _,.lit (.int _ n)=>(match cC P e with | some s=>0<=n/\n<len/\C (.ptr id (off+n.toNat*s)) | none=>False)
 | some (.array len e),.ptr id off,.lit (.int _ n)=>(match cC P e with | some s=>0<=n/\n<len/\C (.ptr id (off+n.toNat*s)) | none=>False)
 | some (.array len e),.eptr rows i off,.lit (.int _ n)=>(match cC P e with | some s=>0<=n/\n<len/\C (.eptr rows i (off+n.toNat*s)) | none=>False)
 | some (.slice e),.vec id sz len,.lit (.int _ n)=>(match cC P e with | some s=>sz=s/\0<=n/\n<len/\C (.pp id (n.toNat*s)) | none=>False)
 | some (.array len e),.pp id off,.lit (.int _ n)=>(match cC P e with | some s=>0<=n/\n<len/\C (.pp id (off+n.toNat*s)) | none=>False)
 | _,_,_=>False
theorem UH {T:Nat} {v ix:V} {C:V->Prop} (hs:Cd P T v ix C) {x y:Value} (hv:CR c [v] [x]) (hi:CR c [ix] [y]) (w:World):∃r,C r/\∃z,(Instr.indexAt T x y).run P w=.ok z w/\CR c [r] [z]:=by
 unfold Cd at hs
 split at hs
 ·rename_i e o rows k n hu;obtain rfl:=hi.inv_lit
  split at hs
  ·rename_i s hsz;obtain ⟨h0,hl,hr,hC⟩:=hs;obtain ⟨a,cap,es,sz,rfl,k1,k2,kz,k3,k4,k5,k6,kc,k7⟩:=hv.inv_list;obtain ⟨b,off,rfl⟩:=k5 zb
   have hsz2:sz=s:=by
    obtain ⟨r,hr'⟩:∃r,r ∈ rows:=by cases rows with | nil=>simp at hl;omega | cons r _=>exact ⟨r,zd⟩
    rw [←k2 r hr',hr r hr']
   subst hsz2;have hlen:=Bc k1 k2;have hpos:0<es.length:=by rw [hlen];exact Nat.mul_pos zb kz
   obtain ⟨b',off',he,hG⟩:=k6 hpos
   injection he with he;injection he with e1 e2;subst e1 e2
   refine ⟨_,hC,.pointer (some ⟨b,off+n.toNat*sz+0,none⟩),?_,.eptr k1 k2 hG kc .nil⟩;simp [Instr.indexAt,asIntOf,run_underlying hu,h0,hl,kT hsz,oA]
  ·exact hs.elim
 ·rename_i e id off len cap k n hu;obtain rfl:=hi.inv_lit
  split at hs
  ·rename_i s hsz;obtain ⟨h0,hl,hC⟩:=hs;obtain ⟨b,hr,rfl,_⟩:=hv.inv_arr;refine ⟨_,hC,.pointer (some ⟨b,off+n.toNat*s,none⟩),?_,.ptr hr .nil⟩;simp [Instr.indexAt,asIntOf,run_underlying hu,h0,hl,kT hsz,oA]
  ·exact hs.elim
 ·rename_i len e id off k n hu;obtain rfl:=hi.inv_lit
  split at hs
  ·rename_i s hsz;obtain ⟨h0,hl,hC⟩:=hs;obtain ⟨b,hr,rfl⟩:=hv.inv_ptr;refine ⟨_,hC,.pointer (some ⟨b,off+n.toNat*s,none⟩),?_,.ptr hr .nil⟩;simp [Instr.indexAt,asIntOf,run_underlying hu,h0,hl,kT hsz,oA,Instr.sureAddr]
  ·exact hs.elim
 ·rename_i len e rows i off k n hu;obtain rfl:=hi.inv_lit
  split at hs
  ·rename_i s hsz;obtain ⟨h0,hl,hC⟩:=hs;obtain ⟨b,o,sz,es,rfl,_⟩:=hv.inv_eptr;refine ⟨_,hC,.pointer (some ⟨b,o+i*sz+off+n.toNat*s,none⟩),?_,hv.eptr_add⟩;simp [Instr.indexAt,asIntOf,run_underlying hu,h0,hl,kT hsz,oA,Instr.sureAddr]
  ·exact hs.elim
 ·rename_i e id sz len k n hu;obtain rfl:=hi.inv_lit
  split at hs
  ·rename_i s hsz;obtain ⟨rfl,h0,hl,hC⟩:=hs;obtain ⟨b,n',cap,hk,hn',hz,hlc,hcm,rfl⟩:=hv.inv_vec;refine ⟨_,hC,.pointer (some ⟨b,n.toNat*sz,none⟩),?_,.pp hk .nil⟩;simp [Instr.indexAt,asIntOf,run_underlying hu,h0,hl,kT hsz,oA]
  ·exact hs.elim
 ·rename_i len e id off k n hu;obtain rfl:=hi.inv_lit
  split at hs
  ·rename_i s hsz;obtain ⟨h0,hl,hC⟩:=hs;obtain ⟨b,n',hk,rfl⟩:=hv.inv_pp;refine ⟨_,hC,.pointer (some ⟨b,off+n.toNat*s,none⟩),?_,.pp hk .nil⟩;simp [Instr.indexAt,asIntOf,run_underlying hu,h0,hl,kT hsz,oA,Instr.sureAddr]
  ·exact hs.elim
 ·exact hs.elim
end
section
variable {P:Program} {c c':Conc} {m m':M} {w w':World}
def zT (P:Program) (T:TypeId):Option Value:=(P.info? T).bind (·.zero)
def nilTy (T:TypeId):Bool:=T == 36
def ofN:Value->V
 | .slice _ 0 0=>.nilv
 | v=>of1 v
def ofZ (T:TypeId):Value->V:=if nilTy T then ofN else of1
theorem ofZs_ok (c:Conc) (T:TypeId):∀xs:List Value,CR c (xs.map (ofZ T)) xs:=by
 unfold ofZ
 split
 ·intro xs
  induction xs with
  | nil=>exact .nil
  | cons x xs ih=>
    refine CR.cons ?_ ih;have h:=UU c [x];unfold ofN
    split
    ·exact .nilv .nil
    ·exact h
 ·exact UU c
def cZ (P:Program) (T:TypeId):Option (List V):=
 match zT P T with
 | some z=>if z.cells.toList.all (λu=>u.oneCell') then some (z.cells.toList.map (ofZ T)) else none
 | none=>none
theorem run_zT {T:TypeId} {z:Value} (h:zT P T=some z) (w:World):(zeroValue T).run P w=.ok z w:=by
 unfold zT at h;cases hq:P.info? T with
 | none=>simp [hq] at h
 | some i=>simp [hq] at h;simp [zeroValue,typeInfo,hq,h]
theorem Ag {T:TypeId} {zs:List V} (h:cZ P T=some zs) (c:Conc):∃z,(∀w,(zeroValue T).run P w=.ok z w)/\CR c zs z.cells.toList/\∀u ∈ z.cells.toList,u.oneCell'=true:=by
 unfold cZ at h
 split at h
 ·rename_i z hz
  split at h
  ·rename_i ha
   injection h with h;subst h
   exact ⟨z,run_zT hz,ofZs_ok c T _,Rj.1 ha⟩
  ·cases h
 ·cases h
theorem fold_at (off:Nat) (l:List Value):∀(k:Nat) (cells:Array Value) (i:Nat),((l.zipIdx k).foldl (λ(cs:Array Value) (p:Value × Nat)=>cs.setIfInBounds (off+p.2) p.1) cells)[i]? = if off+k<=i/\i<off+k+l.length/\i<cells.size then l[i - off - k]? else cells[i]? := by
 induction l with
 | nil=>intro k cells i;simp;intro h1 h2;omega
 | cons x l ih=>
   intro k cells i;simp only [List.zipIdx_cons,List.foldl_cons];rw [ih];simp only [Array.size_setIfInBounds,Array.getElem?_setIfInBounds,qB]
   by_cases h1:off+(k+1)<=i/\i<off+(k+1)+l.length/\i<cells.size
   ·rw [cX h1,cX zb,show i - off - k=(i - off - (k+1))+1 by omega,xdy]
   ·rw [cE h1]
    by_cases h2:i=off+k
    ·subst h2
     by_cases h3:off+k<cells.size
     ·rw [cX rfl,cX h3,cX ⟨zb,zb,h3⟩];rw [show off+k - off - k=0 by omega];rfl
     ·rw [cX rfl,cE h3,cE zb];exact (Array.getElem?_eq_none zb).symm
    ·rw [cE (λe=>h2 e.symm),cE zb]
theorem QM (v cells:Array Value) (off:Nat) (h:off+v.size<=cells.size) :
  (v.zipIdx.foldl (λ(cs:Array Value) (p:Value × Nat)=>cs.setIfInBounds (off+p.2) p.1) cells)=(cells.toList.take off++v.toList++cells.toList.drop (off+v.size)).toArray:=by
 apply Array.ext_getElem?;intro i;rw [←Array.foldl_toList,Array.toList_zipIdx,fold_at off v.toList 0 cells i];simp only [Qp,VG,Nat.sub_zero,xdu,Mi];have htl:(cells.toList.take off).length=off:=by simp;omega
 by_cases h1:i<off
 ·rw [cE zb,Py zb,xep h1];simp
 ·rw [Mh zb,htl]
  by_cases h2:i<off+v.size
  ·rw [cX ⟨zb,h2,zb⟩,Py (by simp;omega)]
  ·rw [cE zb,Mh (by simp;omega),xdk];simp only [VG];rw [show off+v.size+(i - off - v.size)=i by omega];simp
def Be (place:Nat->Option (Nat × Nat)) (cells:List V):List (Nat × V)->Option (List V)
 | []=>some cells
 | (i,v)::rest=>
   match place i with
   | none=>none
   | some (off,size)=>if v.cellsOk=true/\v.cells.length=size/\off+size<=cells.length then Be place (cells.take off++v.cells++cells.drop (off+size)) rest else none
inductive CP (c:Conc):List (Nat × V)->List (Nat × Value)->Prop where
 | nil:CP c [] []
 | cons {i v x vs xs}:CR c [v] [x]->CP c vs xs->CP c ((i,v)::vs) ((i,x)::xs)
theorem TR {place:Nat->Option (Nat × Nat)} {ps:List (Nat × V)}:∀ {qs:List (Nat × Value)} {cells:List V} {xs:Array Value} {r:List V},Be place cells ps=some r->CP c ps qs->CR c cells xs.toList->(∀u ∈ xs.toList,u.oneCell'=true) ->
  ∃ys,Instr.fill place xs qs=some ys/\CR c r ys.toList/\∀u ∈ ys.toList,u.oneCell'=true:=by
 induction ps with
 | nil=>
   intro qs cells xs r h hp hc h1;cases hp;simp only [Be,Option.some.injEq] at h;subst h;exact ⟨xs,rfl,hc,h1⟩
 | cons p ps ih=>
   intro qs cells xs r h hp hc h1;cases hp with
   | @cons i v x _ qs hx hp=>
     simp only [Be] at h
     split at h
     ·cases h
     ·rename_i off size hpl
      split at h
      ·rename_i hcond;obtain ⟨ho,hs,hfit⟩:=hcond;obtain ⟨k1,k2⟩:=Hw hx ho;have hxs:x.cells.size=size:=by have:=k1.len;simp at this;omega
       have hlen:xs.size=cells.length:=by have:=hc.len;simpa using this
       have hf:=QM x.cells xs off zb
       obtain ⟨ys,h2,h3⟩:=ih (qs:=qs) (xs:=(xs.toList.take off++x.cells.toList++xs.toList.drop (off+x.cells.size)).toArray) h hp (by
        simp only [hxs];exact ((hc.take off).append k1).append (hc.drop (off+size))) (by
        intro u hu;simp only [Mi,yU] at hu
        rcases hu with hu | hu | hu
        ·exact h1 u (Ul hu)
        ·exact k2 u hu
        ·exact h1 u (Yw hu))
       refine ⟨ys,?_,h3⟩;simp only [Instr.fill,hpl];rw [cE (by simp;omega)];rw [hf];exact h2
      ·cases h
def Mx (P:Program) (fs:List Field):Option (List (Nat × Nat)):=
 match fs with
 | []=>some []
 | f::fs=>(match cC P f.type,Mx P fs with | some n,some l=>some ((f.offset,n)::l) | _,_=>none)
def lG (P:Program) (T:TypeId):Option (List (Nat × Nat)):=
 match P.underlying T with
 | some (.struct fs)=>Mx P fs.toList
 | _=>none
theorem UO {fs:List Field}:∀ {l:List (Nat × Nat)},Mx P fs=some l->∀w,(fs.mapM λf=>Prod.mk f.offset <$> sizeOf f.type).run P w=.ok l w:=by
 induction fs with
 | nil=>intro l h w;simp only [Mx,Option.some.injEq] at h;subst h;rfl
 | cons f fs ih=>
   intro l h w;simp only [Mx] at h
   split at h
   ·rename_i n l' hn hl
    injection h with h;subst h
    simp [List.mapM_cons,kT hn,ih hl w]
   ·cases h
def FO (P:Program) (T:TypeId) (ps:List (Nat × V)) (C:V->Prop):Prop:=
 match P.underlying T,cZ P T with
 | some (.struct _),some zs=>(match lG P T with | some l=>(match Be (l[·]?) zs ps with | some r=>C (.agg r) | none=>False) | none=>False)
 | some (.array _ e),some zs=>(match cC P e with | some s=>(match Be (λi=>some (i*s,s)) zs ps with | some r=>C (.agg r) | none=>False) | none=>False)
 | _,_=>False
theorem Xn {T:TypeId} {ps:List (Nat × V)} {C:V->Prop} (hs:FO P T ps C) {qs:Array (Nat × Value)} (hp:CP c ps qs.toList) (w:World):∃r,C r/\∃z,(Instr.build T qs).run P w=.ok z w/\CR c [r] [z]:=by
 unfold FO at hs
 split at hs
 ·rename_i fs zs hu hz
  split at hs
  ·rename_i l hl
   split at hs
   ·rename_i r hr;obtain ⟨z,hz1,hz2,hz3⟩:=Ag hz c;obtain ⟨ys,h1,h2,h3⟩:=TR hr hp hz2 hz3;have hl':Mx P fs.toList=some l:=by simpa [lG,hu] using hl
    have hm:=UO hl' w
    have hm2:(fs.mapM (λf=>do pure (f.offset,←sizeOf f.type)):Sem (Array (Nat × Nat))).run P w=.ok l.toArray w:=by
     simp [xeq,hm]
    refine ⟨_,hs,.agg ys,?_,by simpa using CR.agg h2 h3 .nil⟩;have hg:(λ(x:Nat)=>l.toArray[x]?)=(λ(x:Nat)=>l[x]?):=by funext x;simp
    unfold Instr.build;rw [Sem.run_bind,hz1 w,Result.andThen_ok,Sem.run_bind,run_underlying hu w,Result.andThen_ok];simp only [Sem.run_bind,hm2,Result.andThen_ok,hg,h1,Sem.run_pure]
   ·exact hs.elim
  ·exact hs.elim
 ·rename_i len e zs hu hz
  split at hs
  ·rename_i s hsz
   split at hs
   ·rename_i r hr;obtain ⟨z,hz1,hz2,hz3⟩:=Ag hz c;obtain ⟨ys,h1,h2,h3⟩:=TR hr hp hz2 hz3;refine ⟨_,hs,.agg ys,?_,by simpa using CR.agg h2 h3 .nil⟩;unfold Instr.build;rw [Sem.run_bind,hz1 w,Result.andThen_ok,Sem.run_bind,run_underlying hu w,Result.andThen_ok];simp only [Sem.run_bind,kT hsz,Result.andThen_ok,h1,Sem.run_pure]
   ·exact hs.elim
  ·exact hs.elim
 ·exact hs.elim
end
section
variable {P:Program} {c c':Conc} {m m':M} {w w':World}
def V.weak1:V->V
 | .list _ rows=>.list .none rows
 | .agg vs=>.agg (vs.map V.shared)
 | v=>v
def V.weak:V->V
 | .tup vs=>.tup (vs.map V.weak1)
 | v=>v.weak1
theorem V.weak1_ok {v:V} {x:Value} (h:CR c [v] [x]):CR c [v.weak1] [x]:=by
 cases v with
 | agg us=>obtain ⟨xs,rfl,h1,h2⟩:=h.inv_agg;exact .agg (HL h1) h2 .nil
 | list o rows=>exact V.shared_ok h
 | _=>exact h
theorem SG {vs:List V} {xs:List Value} (h:CR c vs xs):CR c (vs.map V.weak1) xs:=by
 induction vs generalizing xs with
 | nil=>exact h
 | cons v vs ih=>
   obtain ⟨x,xs,rfl,h1,h2⟩:=h.uncons;exact (V.weak1_ok h1).cons (ih h2)
theorem V.weak_ok {v:V} {x:Value} (h:CR c [v] [x]):CR c [v.weak] [x]:=by
 cases v with
 | tup us=>obtain ⟨xs,rfl,h1⟩:=h.inv_tup;exact .tup (SG h1) .nil
 | _=>exact V.weak1_ok h
theorem zaD {size:Nat}:∀(vals:List Value) (k:Nat) (done tail:List Value),(∀v ∈ vals,v.cells.size=size)->done.length=k*size->tail.length=vals.length*size ->
  Instr.fill (λi=>some (i*size,size)) (done++tail).toArray ((vals.zipIdx k).map λp=>(p.2,p.1))=some (done++(vals.map λv=>v.cells.toList).flatten).toArray:=by
 intro vals
 induction vals with
 | nil=>intro k done tail _ _ ht;simp at ht;simp [Instr.fill,ht]
 | cons v vals ih=>
   intro k done tail hv hd ht;have hvs:v.cells.size=size:=hv v zd;simp only [qB,NM] at ht;simp only [List.zipIdx_cons,yV,Instr.fill];rw [cE (by simp [hvs];omega)];rw [QM v.cells (done++tail).toArray (k*size) (by simp;omega)];have htail:tail.drop size=tail.drop size:=rfl
   have e1:(List.take (k*size) (done++tail).toArray.toList++v.cells.toList++List.drop (k*size+v.cells.size) (done++tail).toArray.toList)=(done++v.cells.toList)++tail.drop size:=by
    simp only [List.take_append,List.drop_append,hvs];rw [xdq zb,show k*size - done.length=0 by omega,List.drop_of_length_le (show done.length<=k*size+size by omega),show k*size+size - done.length=size by omega];simp
   rw [e1,ih (k+1) (done++v.cells.toList) (tail.drop size) (λu hu=>hv u (by simp [hu])) (by simp [hvs,NM,hd]) (by simp;omega)];simp
def tU (P:Program) (T:TypeId) (n:Nat) (ps:List (Nat × V)) (C:V->Prop):Prop:=
 match P.underlying T with
 | some (.slice e)=>
   match cC P e,cZ P e with
   | some s,some _=>ps.map Prod.fst=List.range n/\0<s/\n*s<=16777216/\(∀p ∈ ps,p.2.cellsOk=true/\p.2.cells.length=s)/\C (.list .exact (ps.map λp=>p.2.cells.map V.shared))
   | _,_=>False
 | _=>False
theorem CP.split {ps:List (Nat × V)}:∀ {qs:List (Nat × Value)},CP c ps qs->qs.map Prod.fst=ps.map Prod.fst/\CR c (ps.map Prod.snd) (qs.map Prod.snd):=by
 induction ps with
 | nil=>intro qs h;cases h;exact ⟨rfl,.nil⟩
 | cons p ps ih=>
   intro qs h;cases h with
   | cons h1 h2=>
     obtain ⟨h3,h4⟩:=ih h2;exact ⟨by simp [h3],h1.cons h4⟩
theorem zip_fst {α:Type}:∀(qs:List (Nat × α)) (k:Nat),qs.map Prod.fst=List.range' k qs.length->qs=((qs.map Prod.snd).zipIdx k).map λp=>(p.2,p.1):=by
 intro qs
 induction qs with
 | nil=>intro k _;rfl
 | cons q qs ih=>
   intro k h;simp only [yV,qB,List.range'_succ] at h
   injection h with h1 h2
   simp only [yV,List.zipIdx_cons];rw [←ih (k+1) h2,←h1]
theorem rows_ok {vs:List V}:∀ {xs:List Value},CR c vs xs->(∀v ∈ vs,v.cellsOk=true)->CR c (vs.map λv=>v.cells.map V.shared).flatten (xs.map λx=>x.cells.toList).flatten/\∀u ∈ (xs.map λx=>x.cells.toList).flatten,u.oneCell'=true:=by
 induction vs with
 | nil=>intro xs h _;rw [h.inv_nil];exact ⟨.nil,zd⟩
 | cons v vs ih=>
   intro xs h ho;obtain ⟨x,xs,rfl,h1,h2⟩:=h.uncons;obtain ⟨k1,k2⟩:=Hw h1 (ho v zd);obtain ⟨k3,k4⟩:=ih h2 (λu hu=>ho u (by simp [hu]));refine ⟨by simpa using (HL k1).append k3,λu hu=>?_⟩;simp only [yV,Ll,yU] at hu
   rcases hu with hu | hu
   ·exact k2 u hu
   ·exact k4 u hu
theorem Tr {q:Pa} (h:gT c m w) {rows:List (List V)} {es rest:List Value} {sz:Nat} (e:TypeId) (fr:Nat × Nat) (k1:CR c rows.flatten es) (k2:∀r ∈ rows,r.length=sz) (kz:0<sz) (k3:∀u ∈ es,u.oneCell'=true) {cap:Nat} (hl:rows.length<=cap) (hm:cap<=maxLen) {o:NV} (ho:o=.none ∨ (o=.exact/\cap=rows.length)) :
  ∃c',gT c' m (w.alloc (.cells (es++rest).toArray e fr))/\qK q c m w c' m (w.alloc (.cells (es++rest).toArray e fr))/\CR c' [.list o rows] [.slice (some ⟨w.heap.size,0,none⟩) rows.length cap]:=by
 have hOut:NI c.G w.heap.size:=h.com.out (uZ _);have hno:¬ fN c m w.heap.size:=λho=>by have:=h.own_lt ho;omega
 have hg:w.grownBy (w.alloc (.cells (es++rest).toArray e fr)) none:=ME (KH w none) _
 have hB:∀i,(w.alloc (.cells (es++rest).toArray e fr)).cell? ⟨w.heap.size,i,none⟩=(es++rest).toArray[i]? := by
  intro i;have:=heap_alloc_new w (.cells (es++rest).toArray e fr);unfold World.cell?;show (match (w.alloc (.cells (es++rest).toArray e fr)).heap[w.heap.size]? with | some (.cells c _ _)=>if (none:Option Nat).isSome then none else c[i]? | _=>none)=_;rw [this];rfl
 have h1:=(h.grown hg).laid (cs:=es) hOut hno (λi u hu=>by
  rw [hB i];have hi:i<es.length:=(xW.1 hu).1;simp only [xdu];rw [Py hi];exact hu)
 have hll:Le c { c.laid w.heap.size es with lit:=λb=>c.lit b ∨ b=w.heap.size }:=⟨rfl,λ_ x=>.inl x,λ_ _ x=>x,λ_ _ x=>x,(Le.laid hOut).G⟩;have hle2:Le (c.laid w.heap.size es) { c.laid w.heap.size es with lit:=λb=>c.lit b ∨ b=w.heap.size }:=⟨rfl,λ_ x=>.inl x,λ_ _ x=>x,λ_ _ x=>x,λ_ _ _ x=>x⟩;have hE:=h.ext_laid (cs:=es) q (uZ _) (uZ _) _ hg;refine ⟨{ c.laid w.heap.size es with lit:=λb=>c.lit b ∨ b=w.heap.size },⟨h1.com,λid vs hv=>?_,h1.inj,h1.own,h1.ownInj,h1.ver,λg=>(h1.gl g).mono hle2,h1.ver0,h1.base,λb hb=>?_,λb vs hv=>?_⟩,⟨hll,hE.os,hE.tape,hE.output,hE.size,hE.heap,hE.book,hE.own,hE.fresh,λ_ _ hb=>⟨hb.blk,hb.anon,hb.cell,hb.ver,hb.tok⟩,λb hb hx=>hx.resolve_right zb⟩,?_⟩
 ·obtain ⟨b,cs,t,k1,k2,k3,k4,k5⟩:=h1.blk id vs hv;exact ⟨b,cs,t,k1,k2,k3.mono hle2,k4,k5⟩
 ·rcases hb with hb | rfl
  ·exact h1.lit b hb
  ·exact ⟨h.base,zd,hno⟩
 ·exact (h1.hpr b vs hv).mono hle2 λ_ _ _ _ _ hB=>hB
 refine .list (k1.mono hll) k2 kz hl hm (λ_=>⟨_,_,rfl⟩) (λ_=>⟨w.heap.size,0,rfl,λi u hu=>by rw [Lk];show OQ c.G w.heap.size es w.heap.size i=some u;rw [OP];exact hu⟩) k3 ?_ .nil
 rcases ho with rfl | ⟨rfl,e⟩
 ·trivial
 ·exact ⟨e,λx hx=>by injection hx with hx;subst hx;exact .inr rfl⟩
theorem Ow {T:TypeId} {n:Nat} {ps:List (Nat × V)} {C:V->Prop} (hs:tU P T n ps C) (h:gT c m w) (q:Pa) {qs:Array (Nat × Value)} (hp:CP c ps qs.toList) :
  ∃r,C r/\∃cells e,P.underlying T=some (.slice e)/\(Instr.buildSlice T n qs).run P w=.ok (.slice (some ⟨w.heap.size,0,none⟩) n n) (w.alloc (.cells cells e)) ∧
   ∀fr,∃c',gT c' m (w.alloc (.cells cells e fr))/\qK q c m w c' m (w.alloc (.cells cells e fr))/\CR c' [r] [.slice (some ⟨w.heap.size,0,none⟩) n n]:=by
 unfold tU at hs
 split at hs
 ·rename_i e hu
  split at hs
  ·rename_i s zs hsz hzc;obtain ⟨h1,h2,h3,h4,hC⟩:=hs;obtain ⟨z,hz1,hz2,hz3⟩:=Ag hzc c;obtain ⟨k1,k2⟩:=hp.split;have hlenp:ps.length=n:=by have:=DI List.length h1;simpa using this
   have hlenq:qs.toList.length=n:=by have:=DI List.length k1;simp only [Kn] at this;omega
   have hq:qs.size=n:=by simpa using hlenq
   have hzip:=zip_fst qs.toList 0 (by rw [k1,h1,hlenq,List.range_eq_range'])
   have hvs:∀v ∈ qs.toList.map Prod.snd,v.cells.size=s:=by
    intro v hv;obtain ⟨i,hi,hvi⟩:=List.mem_iff_getElem.1 hv;have hi':i<(ps.map Prod.snd).length:=by have:=k2.len;omega
    obtain ⟨x,hx1,hx2⟩:=k2.get (yN hi');have hxv:x=v:=by rw [yN hi,hvi] at hx1;injection hx1 with e;exact e.symm
    subst hxv
    obtain ⟨p,hp1,hp2⟩:∃p ∈ ps,p.2=(ps.map Prod.snd)[i]:=by
     have:=NY hi';obtain ⟨p,hp1,hp2⟩:=Qo.1 this;exact ⟨p,hp1,hp2⟩
    obtain ⟨g1,g2⟩:=h4 p hp1;rw [←hp2] at hx2;have:=(Hw hx2 g1).1.len;simp at this;omega
   obtain ⟨r1,r2⟩:=rows_ok k2 (λv hv=>by obtain ⟨p,hp1,rfl⟩:=Qo.1 hv;exact (h4 p hp1).1);have hfill:=zaD (size:=s) (qs.toList.map Prod.snd) 0 [] ((Array.range (n*s)).map ((if n*s=0 then #[] else z.cells)[· % (if n*s=0 then #[] else z.cells).size]!)).toList hvs zd (by simp [hq]);rw [←hzip] at hfill;simp only [AE,Array.toArray_toList] at hfill;have hrl:(ps.map λp=>p.2.cells.map V.shared).length=n:=by simpa using hlenp
   have hrr:(ps.map λp=>p.2.cells.map V.shared)=((ps.map Prod.snd).map λv=>v.cells.map V.shared):=by simp
   have hnew:=λfr=>Tr (q:=q) (rest:=[]) (cap:=n) (o:=.exact) h e fr r1 (sz:=s) (by
    intro r hr;simp only [List.map_map,Qo] at hr;obtain ⟨p,hp1,rfl⟩:=hr;simpa using (h4 p hp1).2) h2 r2 (by simp;omega) (by simp only [maxLen];have:=Nat.le_mul_of_pos_right n h2;omega) (.inr ⟨rfl,by simp;omega⟩)
   rw [←hrr,hrl] at hnew;simp only [Fu] at hnew;refine ⟨_,hC,_,e,hu,?_,hnew⟩;unfold Instr.buildSlice;simp only [Sem.run_bind,run_underlying hu,Result.andThen_ok,kT hsz];rw [cE zb]
   by_cases h0:n*s=0
   ·have hn0:n=0:=by
     rcases Nat.mul_eq_zero.1 h0 with h | h
     ·exact h
     ·omega
    obtain rfl:qs=#[]:=Array.eq_empty_of_size_eq_zero zb;simp [h0,Instr.fill,newRow,show (Array.range 0:Array Nat)=#[] from rfl]
   ·simp only [h0,if_false] at hfill ⊢;simp [hz1 w,hfill,newRow]
  ·exact hs.elim
 ·exact hs.elim
def Jf (P:Program) (T:TypeId) (cs:List V) (off:Nat) (C:V->Prop):Prop:=
 match oC P T with
 | some true=>(match cC P T with | some n=>C (.agg ((cs.drop off).take n)) | none=>False)
 | some false=>(match cs[off]? with | some u=>C u | none=>False)
 | none=>False
theorem SV {T:TypeId} {cs:List V} {off:Nat} {C:V->Prop} (hs:Jf P T cs off C) {xs:List Value} (hc:CR c cs xs) (h1:∀u ∈ xs,u.oneCell'=true) (w:World):∃r,C r/\∃z,(part T xs.toArray off).run P w=.ok z w/\CR c [r] [z]:=by
 unfold Jf at hs
 split at hs
 ·rename_i ha
  split at hs
  ·rename_i n hn;refine ⟨_,hs,.agg ((xs.drop off).take n).toArray,?_,.agg ((hc.drop off).take n) (λu hu=>h1 u (Yw (Ul hu))) .nil⟩;simp [part,Jk ha,kT hn]
  ·exact hs.elim
 ·rename_i ha
  split at hs
  ·rename_i u hu;obtain ⟨x,hx,k⟩:=hc.get hu;refine ⟨_,hs,x,?_,k⟩;simp [part,Jk ha,hx]
  ·exact hs.elim
 ·exact hs.elim
def HN (P:Program) (T:TypeId) (f:Nat) (v:V) (C:V->Prop):Prop:=
 match P.underlying T,v with
 | some (.struct fs),.agg cs=>(match fs[f]? with | some fd=>Jf P fd.type cs fd.offset C | none=>False)
 | _,_=>False
theorem Xl {T:TypeId} {f:Nat} {v:V} {C:V->Prop} (hs:HN P T f v C) {x:Value} (hv:CR c [v] [x]) (w:World):∃r,C r/\∃z,(Instr.field T x f).run P w=.ok z w/\CR c [r] [z]:=by
 unfold HN at hs
 split at hs
 ·rename_i fs cs hu
  split at hs
  ·rename_i fd hf;obtain ⟨xs,rfl,h1,h2⟩:=hv.inv_agg;obtain ⟨r,hC,z,hz,hr⟩:=SV hs h1 h2 w;exact ⟨r,hC,z,by simp [Instr.field,run_underlying hu,hf,asAgg,hz],hr⟩
  ·exact hs.elim
 ·exact hs.elim
def FN (P:Program) (T:TypeId) (v ix:V) (C:V->Prop):Prop:=
 match P.underlying T,v,ix with
 | some (.array len e),.agg cs,.lit (.int _ n)=>(match cC P e with | some s=>0<=n/\n<len/\Jf P e cs (n.toNat*s) C | none=>False)
 | some .string,.lit (.string b),.lit (.int _ n)=>0<=n/\∃h:n.toNat<b.size,C (.lit (.int .u8 (b[n.toNat]).toNat))
 | _,_,_=>False
theorem Xg {T:TypeId} {v ix:V} {C:V->Prop} (hs:FN P T v ix C) {x y:Value} (hv:CR c [v] [x]) (hi:CR c [ix] [y]) (w:World):∃r,C r/\∃z,(Instr.index T x y).run P w=.ok z w/\CR c [r] [z]:=by
 unfold FN at hs
 split at hs
 ·rename_i len e cs k n hu;obtain rfl:=hi.inv_lit
  split at hs
  ·rename_i s hsz;obtain ⟨h0,hl,hs⟩:=hs;obtain ⟨xs,rfl,h1,h2⟩:=hv.inv_agg;obtain ⟨r,hC,z,hz,hr⟩:=SV hs h1 h2 w;exact ⟨r,hC,z,by simp [Instr.index,asIntOf,run_underlying hu,h0,hl,kT hsz,hz],hr⟩
  ·exact hs.elim
 ·rename_i b k n hu;obtain rfl:=hi.inv_lit;obtain rfl:=hv.inv_lit;obtain ⟨h0,hl,hC⟩:=hs;refine ⟨_,hC,.int .u8 (b[n.toNat]).toNat,?_,.lit .nil⟩;simp [Instr.index,asIntOf,run_underlying hu,h0,hl]
 ·exact hs.elim
def FI (s:Nat):Nat->List V->List (List V)
 | 0,_=>[]
 | n+1,l=>l.take s::FI s n (l.drop s)
theorem zaO {s:Nat}:∀(n:Nat) (l:List V),n*s<=l.length->(FI s n l).flatten=l.take (n*s)/\(∀r ∈ FI s n l,r.length=s)/\(FI s n l).length=n:=by
 intro n
 induction n with
 | zero=>intro l _;simp [FI]
 | succ n ih=>
   intro l hl;rw [NM] at hl;obtain ⟨h1,h2,h3⟩:=ih (l.drop s) (by simp;omega);refine ⟨?_,λr hr=>?_,by simp [FI,h3]⟩
   ·simp only [FI,Ll,h1,NM];rw [Nat.add_comm (n*s) s,List.take_add]
   ·simp only [FI,Di] at hr
    rcases hr with rfl | hr
    ·simp;omega
    ·exact h2 r hr
def mX (hi:Option V) (d:Nat):Option Int:=
 match hi with
 | none=>some d
 | some (.lit (.int _ n))=>some n
 | _=>none
def FM (P:Program) (T:TypeId) (v:V) (lo hi:Option V) (C:V->Prop):Prop:=
 match P.underlying T,v with
 | some .string,.lit (.string s)=>
   (match mX lo 0,mX hi s.size with
    | some l,some h=>0<=l/\l<=h/\h<=s.size/\C (.lit (.string (s.extract l.toNat h.toNat)))
    | _,_=>False)
 | some (.slice e),.list _ rows=>
   (match mX lo 0,mX hi rows.length,cC P e with
    | some l,some h,some s=>0<=l/\l<=h/\h<=rows.length/\(∀r ∈ rows,r.length=s)/\C (.list .none ((rows.take h.toNat).drop l.toNat))
    | _,_,_=>False)
 | some (.array n e),.eptr rows i off=>
   (match mX lo 0,mX hi n,cC P e,rows[i]? with
    | some l,some h,some s,some r=>0<s/\0<=l/\l<=h/\h<=n/\n<=1073741824/\off+n*s<=r.length/\C (.list .none (FI s (h.toNat - l.toNat) (r.drop (off+l.toNat*s))))
    | _,_,_,_=>False)
 | some (.array n e),.ptr id off=>
   (match mX lo 0,mX hi n,cC P e with
    | some l,some h,some s=>0<=l/\l<=h/\h<=n/\l<n/\n<=1073741824/\C (.arr id (off+l.toNat*s) (h.toNat - l.toNat) (n - l.toNat))
    | _,_,_=>False)
 | some (.slice e),.vec id sz len=>
   (match mX lo 0,mX hi len,cC P e with
    | some l,some h,some _=>l=0/\0<=h/\h<=len/\C (.vec id sz h.toNat)
    | _,_,_=>False)
 | some (.slice e),.nilv=>
   (match mX lo 0,mX hi 0,cC P e with
    | some l,some h,some _=>l=0/\h=0/\C .nilv
    | _,_,_=>False)
 | _,_=>False
theorem BO {isS:Bool} {len cap l h:Nat} {lo hi:Option V} {lo' hi':Option Value} (hlo:∀v,lo=some v->∃x,lo'=some x/\CR c [v] [x]) (hln:lo=none->lo'=none) (hhi:∀v,hi=some v->∃x,hi'=some x/\CR c [v] [x]) (hhn:hi=none->hi'=none)
  (hl:mX lo 0=some (l:Int)) (hh:mX hi len=some (h:Int)) (h1:l<=h) (h2:h<=len) (h3:len<=cap) (w:World):(Instr.sliceBounds isS len cap lo' hi' none).run P w=.ok (l,h,cap) w:=by
 have ehi:∀k n,hi'=some (.int k n)->n=h->(Instr.sliceBound (.int k n) cap (if isS then .sliceAcap else .sliceAlen)).run P w=.ok h w:=by
  intro k n _ e;subst e;simp [Instr.sliceBound,asIntOf,show (h:Int)<=cap by omega]
 have elo:∀k n,lo'=some (.int k n)->n=l->(Instr.sliceBound (.int k n) h .sliceB).run P w=.ok l w:=by
  intro k n _ e;subst e;simp [Instr.sliceBound,asIntOf,show (l:Int)<=h by omega]
 cases lo with
 | none=>
   obtain rfl:=hln rfl;simp only [mX,Option.some.injEq] at hl;obtain rfl:l=0:=by omega
   cases hi with
   | none=>
     obtain rfl:=hhn rfl;simp only [mX,Option.some.injEq] at hh;obtain rfl:len=h:=by omega
     simp [Instr.sliceBounds]
   | some v=>
     obtain ⟨x,rfl,hx⟩:=hhi v rfl;cases v with
     | lit v=>
       obtain rfl:=hx.inv_lit;cases x with
       | int k n=>
         simp only [mX,Option.some.injEq] at hh;simp [Instr.sliceBounds,ehi k n rfl hh]
       | _=>simp [mX] at hh
     | _=>simp [mX] at hh
 | some v=>
   obtain ⟨x,rfl,hx⟩:=hlo v rfl;cases v with
   | lit v=>
     obtain rfl:=hx.inv_lit;cases x with
     | int k n=>
       simp only [mX,Option.some.injEq] at hl;cases hi with
       | none=>
         obtain rfl:=hhn rfl;simp only [mX,Option.some.injEq] at hh;obtain rfl:len=h:=by omega
         simp [Instr.sliceBounds,elo k n rfl hl]
       | some v=>
         obtain ⟨x,rfl,hx⟩:=hhi v rfl;cases v with
         | lit v=>
           obtain rfl:=hx.inv_lit;cases x with
           | int k' n'=>
             simp only [mX,Option.some.injEq] at hh;simp [Instr.sliceBounds,ehi k' n' rfl hh,elo k n rfl hl]
           | _=>simp [mX] at hh
         | _=>simp [mX] at hh
     | _=>simp [mX] at hl
   | _=>simp [mX] at hl
theorem JE {sz:Nat}:∀(rs:List (List V)) (n:Nat),(∀r ∈ rs,r.length=sz)->(rs.take n).flatten=rs.flatten.take (n*sz)/\(rs.drop n).flatten=rs.flatten.drop (n*sz):=by
 intro rs
 induction rs with
 | nil=>intro n _;simp
 | cons r rs ih=>
   intro n hr;have hr0:=hr r zd;cases n with
   | zero=>simp
   | succ n=>
     obtain ⟨i1,i2⟩:=ih n (λr hr'=>hr r (by simp [hr']));have e1:(n+1)*sz=r.length+n*sz:=by rw [NM,hr0];omega
     refine ⟨?_,?_⟩
     ·simp only [SE,Ll,i1,e1];rw [List.take_length_add_append]
     ·simp only [Sr,Ll,i2,e1];rw [List.drop_length_add_append]
theorem Xe {T:TypeId} {v:V} {lo hi:Option V} {C:V->Prop} (hs:FM P T v lo hi C) {x:Value} (hv:CR c [v] [x]) {lo' hi':Option Value} (hlo:∀v,lo=some v->∃x,lo'=some x/\CR c [v] [x]) (hln:lo=none->lo'=none)
  (hhi:∀v,hi=some v->∃x,hi'=some x/\CR c [v] [x]) (hhn:hi=none->hi'=none) (w:World):∃r,C r/\∃z,(Instr.sliceAt T x lo' hi' none).run P w=.ok z w/\CR c [r] [z]:=by
 unfold FM at hs
 split at hs
 ·rename_i s hu;obtain rfl:=hv.inv_lit
  split at hs
  ·rename_i l h hl hh;obtain ⟨h0,h1,h2,hC⟩:=hs;have hb:=BO (P:=P) (isS:=false) (cap:=s.size) hlo hln hhi hhn (l:=l.toNat) (h:=h.toNat) (by rw [hl];congr 1;omega) (by rw [hh];congr 1;omega) zb zb (uZ _) w;exact ⟨_,hC,_,by simp [Instr.sliceAt,Instr.slice,run_underlying hu,hb],.lit .nil⟩
  ·exact hs.elim
 ·rename_i e o rows hu
  split at hs
  ·rename_i l h s hl hh hsz;obtain ⟨h0,h1,h2,h3,hC⟩:=hs;obtain ⟨a,cap,es,sz,rfl,k1,k2,kz,k3,k4,k5,k6,kc,k7⟩:=hv.inv_list;have hb:=BO (P:=P) (isS:=true) (len:=rows.length) (cap:=cap) hlo hln hhi hhn (l:=l.toNat) (h:=h.toNat) (by rw [hl];congr 1;omega) (by rw [hh];congr 1;omega) zb zb k3 w;refine ⟨_,hC,.slice (if cap=l.toNat then a else a.map (·.add (l.toNat*s))) (h.toNat - l.toNat) (cap - l.toNat),?_,?_⟩
   ·simp [Instr.sliceAt,Instr.slice,run_underlying hu,hb,kT hsz]
   ·have hlen:((rows.take h.toNat).drop l.toNat).length=h.toNat - l.toNat:=by simp;omega
    have hes:es.length=rows.length*sz:=Bc k1 k2
    have hsub:CR c ((rows.take h.toNat).drop l.toNat).flatten ((es.take (h.toNat*sz)).drop (l.toNat*sz)):=by
     have e1:((rows.take h.toNat).drop l.toNat).flatten=(rows.flatten.take (h.toNat*sz)).drop (l.toNat*sz):=by
      rw [(JE _ _ (λr hr=>k2 r (Ul hr))).2,(JE _ _ k2).1]
     rw [e1];exact (k1.take _).drop _
    have hs2:0<rows.length->sz=s:=by
     intro hp;obtain ⟨r,hr⟩:∃r,r ∈ rows:=by cases rows with | nil=>simp at hp | cons r _=>exact ⟨r,zd⟩
     rw [←k2 r hr,h3 r hr]
    have:=CR.list (c:=c) (o:=.none) (a:=if cap=l.toNat then a else a.map (·.add (l.toNat*s))) (cap:=cap - l.toNat) hsub (λr hr=>k2 r (Ul (Yw hr))) kz zb zb
     (λhp=>by
       obtain ⟨b,off,rfl⟩:=k5 zb;rw [cE zb];exact ⟨b,off+l.toNat*s,by simp [oA]⟩)
     (λhp=>by
       have hp':0<((es.take (h.toNat*sz)).drop (l.toNat*sz)).length:=hp
       have hlh:l.toNat<h.toNat:=by
        rcases xdz l.toNat h.toNat with g | g
        ·exact g
        ·exfalso
         have:h.toNat*sz<=l.toNat*sz:=xdi _ g;rw [Us,NL] at hp;omega
       have hpos:0<es.length:=by rw [hes];exact Nat.mul_pos zb kz
       obtain ⟨b,off,rfl,hG⟩:=k6 hpos;rw [cE zb,←hs2 zb];refine ⟨b,off+l.toNat*sz,by simp [oA],λi u hi=>?_⟩;rw [xdk,xdl] at hi
       split at hi
       ·rw [xdr];exact hG _ u hi
       ·cases hi)
     (λu hu=>kc u (Ul (Yw hu))) trivial .nil
    rw [hlen] at this;exact this
  ·exact hs.elim
 ·rename_i n e rows i off hu
  split at hs
  ·rename_i l h s r hl hh hsz hr;obtain ⟨hs0,h0,h1,h2,hn,hfit,hC⟩:=hs;obtain ⟨b,o,sz,es,rfl,k1,k2,k3,k4⟩:=hv.inv_eptr;have hb:=BO (P:=P) (isS:=false) (len:=n) (cap:=n) hlo hln hhi hhn (l:=l.toNat) (h:=h.toNat) (by rw [hl];congr 1;omega) (by rw [hh];congr 1;omega) zb zb (uZ _) w;have hrl:r.length=sz:=k2 r (GB hr);have hf:=La k2 hr;have hmul:(h.toNat - l.toNat)*s+l.toNat*s<=n*s:=by rw [←xdh];exact xdi _ zb
   obtain ⟨c1,c2,c3⟩:=zaO (s:=s) (h.toNat - l.toNat) (r.drop (off+l.toNat*s)) (by simp;omega)
   have hcr:CR c (FI s (h.toNat - l.toNat) (r.drop (off+l.toNat*s))).flatten ((((es.drop (i*sz)).take sz).drop (off+l.toNat*s)).take ((h.toNat - l.toNat)*s)):=by
    rw [c1];have:=((((k1.drop (i*sz)).take sz).drop (off+l.toNat*s)).take ((h.toNat - l.toNat)*s));rw [hf.2] at this;exact this
   have hcells:∀j u,((((es.drop (i*sz)).take sz).drop (off+l.toNat*s)).take ((h.toNat - l.toNat)*s))[j]? = some u->c.G b (o+i*sz+off+l.toNat*s+j)=some u:=by
    intro j u hj;rw [xdl] at hj
    split at hj
    ·rw [xdk,xdl] at hj
     split at hj
     ·rw [xdk] at hj;have:=k3 _ u hj;rw [show o+i*sz+off+l.toNat*s+j=o+(i*sz+(off+l.toNat*s+j)) by omega];exact this
     ·cases hj
    ·cases hj
   have:=CR.list (c:=c) (o:=.none) (a:=some (if n=l.toNat then ⟨b,o+i*sz+off,none⟩ else (⟨b,o+i*sz+off,none⟩:Addr).add (l.toNat*s))) (cap:=n - l.toNat) hcr c2 hs0 zb (by simp only [maxLen];omega)
    (λ_=>by
      split
      ·exact ⟨_,_,rfl⟩
      ·exact ⟨b,o+i*sz+off+l.toNat*s,by rw [oA]⟩) (λhp=>by
      have hlt:n ≠ l.toNat:=by
       intro e2;have:h.toNat - l.toNat=0:=by omega
       rw [this] at hp;simp at hp
      rw [cE hlt,oA];exact ⟨b,_,rfl,λj u hj=>hcells j u hj⟩) (λu hu=>k4 u (Yw (Ul (Yw (Ul hu))))) trivial .nil
   rw [c3] at this;refine ⟨_,hC,_,?_,this⟩;simp [Instr.sliceAt,run_underlying hu,hb,kT hsz,Instr.sureAddr]
  ·exact hs.elim
 ·rename_i n e id off hu
  split at hs
  ·rename_i l h s hl hh hsz;obtain ⟨h0,h1,h2,hln2,hn,hC⟩:=hs;obtain ⟨b,hr,rfl⟩:=hv.inv_ptr;have hb:=BO (P:=P) (isS:=false) (len:=n) (cap:=n) hlo hln hhi hhn (l:=l.toNat) (h:=h.toNat) (by rw [hl];congr 1;omega) (by rw [hh];congr 1;omega) zb zb (uZ _) w;have e2:¬ n=l.toNat:=by omega
   ·refine ⟨_,hC,.slice (some ⟨b,off+l.toNat*s,none⟩) (h.toNat - l.toNat) (n - l.toNat),?_,.arr hr zb (by simp only [maxLen];omega) .nil⟩;simp [Instr.sliceAt,run_underlying hu,hb,kT hsz,Instr.sureAddr,e2,oA]
  ·exact hs.elim
 ·rename_i e id sz len hu
  split at hs
  ·rename_i l h s hl hh hsz;obtain ⟨rfl,h1,h2,hC⟩:=hs;obtain ⟨b,nb,cap,hk,hnb,hz,hlc,hcm,rfl⟩:=hv.inv_vec;have hb:=BO (P:=P) (isS:=true) (len:=len) (cap:=cap) hlo hln hhi hhn (l:=0) (h:=h.toNat) (by rw [hl];rfl) (by rw [hh];congr 1;omega) zb zb hlc w;refine ⟨_,hC,.slice (some ⟨b,0,none⟩) h.toNat cap,?_,.vec hk hnb hz zb hcm .nil⟩;simp [Instr.sliceAt,Instr.slice,run_underlying hu,hb,kT hsz,oA]
  ·exact hs.elim
 ·rename_i e hu
  split at hs
  ·rename_i l h s hl hh hsz;obtain ⟨rfl,rfl,hC⟩:=hs;obtain ⟨a,rfl⟩:=hv.inv_nilv;have hb:=BO (P:=P) (isS:=true) (len:=0) (cap:=0) hlo hln hhi hhn (l:=0) (h:=0) (by rw [hl];rfl) (by rw [hh];rfl) zb zb zb w;refine ⟨_,hC,.slice a 0 0,?_,.nilv .nil⟩;simp [Instr.sliceAt,Instr.slice,run_underlying hu,hb,kT hsz]
  ·exact hs.elim
 ·exact hs.elim
end
section
variable {P:Program} {c c':Conc} {m m':M} {w w':World}
def lS (s:ByteArray):List (List V):=s.data.toList.map λb=>[.lit (.int .u8 (b.toNat:Int))]
theorem vJ (s:ByteArray):(lS s).length=s.size:=by simp [lS]
theorem Lb:∀(l:List UInt8),(l.map λb=>[V.lit (.int .u8 (b.toNat:Int))]).flatten=(l.map λb=>Value.int .u8 (b.toNat:Int)).map V.lit:=by
 intro l
 induction l with
 | nil=>rfl
 | cons b l ih=>simp only [yV,Ll,ih];rfl
theorem Wc (c:Conc) (xs:List Value):CR c (xs.map V.lit) xs:=by
 induction xs with
 | nil=>exact .nil
 | cons x xs ih=>exact .lit ih
theorem PR {src dst e:TypeId} (hs:P.underlying src=some (.slice e)) (he:P.underlying e=some (.int .u8)) (hd:P.underlying dst=some .string) {G:GG} (hC:Km w G) {a:Option Addr} {s:ByteArray} {cap:Nat}
  (h:Sf G a (s.data.toList.map λb=>Value.int .u8 (b.toNat:Int))):(convert src dst (.slice a s.size cap)).run P w=.ok (.string s) w:=by
 rw [run_convert_bytes_string w src dst e a s.size cap hs he hd]
 have key:(s.data.toList.map λb=>(b.toNat:Int)).foldl (λr n=>r.push (UInt8.ofNat n.toNat)) ByteArray.empty=s:=by
  rw [foldl_push_byteCells];cases s with | mk d=>simp
 cases a with
 | none=>
   have h0:s.data.toList=[]:=by
    cases hx:s.data.toList with
    | nil=>rfl
    | cons b l=>exfalso;rw [hx] at h;obtain ⟨_,_,e,_⟩:=h zd;cases e
   have hs0:s=ByteArray.empty:=by rw [←key,h0];rfl
   rw [hs0];simp [Conv.bytesToString]
 | some ad=>
   have hl:(loadCells ad s.size).run P w=.ok ((s.data.toList.map λb=>(b.toNat:Int)).map (Value.int .u8)).toArray w:=by
    have hlen:(s.data.toList.map λb=>Value.int .u8 (b.toNat:Int)).length=s.size:=by simp
    have:=run_loadCells_list (P:=P) w ad (s.data.toList.map λb=>Value.int .u8 (b.toNat:Int)) (λj v hv=>by
     have hj:0<(s.data.toList.map λb=>Value.int .u8 (b.toNat:Int)).length:=by have:=(xW.1 hv).1;omega
     obtain ⟨b,off,e,hG⟩:=h hj
     injection e with e;subst e
     rw [oA];exact hC _ _ _ (hG j v hv))
    rw [hlen] at this;rw [this,List.map_map];rfl
   rw [run_bytesToString w ad s.size cap _ hl,key]
theorem Nh (w:World) (a:Addr) (n i:Nat) (h:i ≠ a.block):(w.freeze a n).heap[i]? = w.heap[i]? := by
 unfold World.freeze
 split
 ·rfl
 ·simp [Array.getElem?_modify,show ¬ a.block=i from λe=>h e.symm]
def markO (off n:Nat):Obj->Obj
 | .cells c elem (lo,hi)=>.cells c elem (if lo == hi then (off,off+n) else (min lo off,max hi (off+n)))
 | o=>o
theorem TN (w:World) (a:Addr) (n:Nat) (x:Addr):(w.freeze a n).cell? x=w.cell? x:=by
 by_cases hb:x.block=a.block
 ·by_cases h0:n=0
  ·simp [World.freeze,h0]
  ·have key:(w.freeze a n).heap[x.block]? = (w.heap[x.block]?).map (markO a.off n):=by
    unfold World.freeze;rw [cE h0];simp only [Array.getElem?_modify,hb,if_true];rfl
   unfold World.cell?;rw [key];cases hq:w.heap[x.block]? with
   | none=>rfl
   | some o=>cases o <;> rfl
 ·exact World.cell?_of_block (Nh w a n _ hb)
theorem gT.mark (h:gT c m w) (q:Pa) {b n k:Nat} (hl:c.lit b) (ho:¬ NI c.G b):gT c m (w.freeze ⟨b,n,none⟩ k)/\qK q c m w c m (w.freeze ⟨b,n,none⟩ k):=by
 obtain ⟨l1,l2,l3⟩:=h.lit b hl;have hsz:(w.freeze ⟨b,n,none⟩ k).heap.size=w.heap.size:=by unfold World.freeze;split <;> simp
 have hh:∀i,i ≠ b->(w.freeze ⟨b,n,none⟩ k).heap[i]? = w.heap[i]? := λi hi=>Nh w _ k i hi;have hos:(w.freeze ⟨b,n,none⟩ k).os=w.os/\(w.freeze ⟨b,n,none⟩ k).tape=w.tape/\(w.freeze ⟨b,n,none⟩ k).output=w.output:=by unfold World.freeze;split <;> exact ⟨rfl,rfl,rfl⟩
 refine ⟨⟨λb' o v hv=>by rw [TN];exact h.com b' o v hv,λid vs hv=>?_,h.inj,λs b' cap sz len hlv hk=>?_,h.ownInj,h.ver,h.gl,h.ver0,by rw [hsz];exact h.base,by rw [hsz];exact h.lit,λb' vs hv=>?_⟩,?_⟩
 ·obtain ⟨b',cs,t,k1,k2,k3⟩:=h.blk id vs hv;have hne:b' ≠ b:=λe=>l3 (.inl ⟨id,by rw [hv];simp,by rw [←e];exact k1⟩);exact ⟨b',cs,t,k1,(hh b' hne).trans k2,k3⟩
 ·obtain ⟨⟨cs,t,k1,k2⟩,k3⟩:=h.own s b' cap sz len hlv hk;have hne:b' ≠ b:=λe=>l3 (.inr ⟨s,cap,sz,len,hlv,by rw [←e];exact hk⟩);exact ⟨⟨cs,t,(hh b' hne).trans k1,k2⟩,k3⟩
 ·exact (h.hpr b' vs hv).mono (.refl c) λb2 n cs t hk hB2=>(hh b2 (λe=>l3 (by rw [←e];exact gT.priv_own hv hk))).trans hB2
 ·refine ⟨.refl c,hos.1,hos.2.1,hos.2.2,by rw [hsz];exact uZ _,λb' hb' _ hx=>hh b' (λe=>?_),λ_ _ _ _=>rfl,λ_ _ x=>x,λ_ _ x=>x,λ_ _ x=>x,λ_ _ x=>x⟩;subst e
  rcases hx with hx | hx
  ·omega
  ·exact ho hx
def Dm (P:Program) (src dst:TypeId) (v:V) (C:V->Prop):Prop:=
 match P.underlying src,P.underlying dst,v with
 | some _,some (.int k),.lit (.int _ n)=>C (.lit (.int k (k.wrap n)))
 | some (.int _),some .string,.lit (.int _ n)=>C (.lit (.string (Utf8.encode n)))
 | some .string,some .string,.lit (.string s)=>C (.lit (.string s))
 | some (.slice e),some .string,.list _ rows=>P.underlying e=some (.int .u8)/\∃s,rows=lS s/\C (.lit (.string s))
 | some (.slice e),some (.slice _),.list .exact rows=>src=dst/\P.underlying e=some (.int .u8)/\rows ≠ []/\C (.list .exact rows)
 | some .string,some (.slice e),.lit (.string s)=>P.underlying e=some (.int .u8)/\s.size<=4611686018427387904/\C (.list .none (lS s))
 | _,_,_=>False
theorem Zy {src dst:TypeId} {v:V} {C:V->Prop} (hs:Dm P src dst v C) (h:gT c m w) (q:Pa) {x:Value} (hv:CR c [v] [x]):∃r,C r/\∃c' z w',(convert src dst x).run P w=.ok z w'/\gT c' m w'/\qK q c m w c' m w'/\CR c' [r] [z]:=by
 unfold Dm at hs
 split at hs
 ·rename_i d k k' n hu hd;obtain rfl:=hv.inv_lit;refine ⟨_,hs,c,_,w,?_,h,.refl q c m w,.lit .nil⟩;simp [convert,run_underlying hu,run_underlying hd,Conv.intToInt]
 ·rename_i k k' n hu hd;obtain rfl:=hv.inv_lit;refine ⟨_,hs,c,_,w,?_,h,.refl q c m w,.lit .nil⟩;simp [convert,run_underlying hu,run_underlying hd,Conv.intToString]
 ·rename_i s hu hd;obtain rfl:=hv.inv_lit;refine ⟨_,hs,c,_,w,?_,h,.refl q c m w,.lit .nil⟩;simp [convert,run_underlying hu,run_underlying hd]
 ·rename_i e o rows hu hd;obtain ⟨he,s,rfl,hC⟩:=hs;obtain ⟨a,cap,es,sz,rfl,k1,k2,kz,k3,k4,k5,k6,kc,k7⟩:=hv.inv_list
  have hes:es=s.data.toList.map λb=>Value.int .u8 (b.toNat:Int):=by
   unfold lS at k1;rw [Lb] at k1;exact k1.lits
  subst hes;refine ⟨_,hC,c,_,w,?_,h,.refl q c m w,.lit .nil⟩;rw [vJ];exact PR hu he hd h.com k6
 ·rename_i e e' rows hu hd;obtain ⟨rfl,he,hne,hC⟩:=hs;obtain ⟨a,cap,es,sz,rfl,k1,k2,kz,k3,k4,k5,k6,kc,k7⟩:=hv.inv_list;have hpos:0<rows.length:=by cases rows with | nil=>exact cM rfl hne | cons _ _=>simp
  obtain ⟨b,off,rfl⟩:=k5 hpos;have hes:0<es.length:=by rw [Bc k1 k2];exact Nat.mul_pos hpos kz
  obtain ⟨b',off',hab,hG⟩:=k6 hes
  injection hab with hab;injection hab with e1 e2;subst e1 e2
  have hlit:c.lit b:=k7.2 ⟨b,off,none⟩ rfl;have hG0:=hG 0 es[0] (by simp [hes]);have hout:¬ NI c.G b:=λho=>by rw [ho] at hG0;cases hG0
  have hcell:=h.com _ _ _ hG0
  obtain ⟨cs,t,fr,hB⟩:∃cs t fr,w.heap[b]? = some (.cells cs t fr):=by
   unfold World.cell? at hcell;cases hq:w.heap[b]? with
   | none=>simp [hq] at hcell
   | some o=>cases o <;> first | exact ⟨_,_,_,rfl⟩ | simp [hq] at hcell
  have hee:e=e':=by rw [hu] at hd;injection hd with hd;injection hd
  subst hee;obtain ⟨g1,g2⟩:=h.mark q (n:=cs.size) (k:=1) hlit hout;refine ⟨_,hC,c,.slice (some ⟨b,off,none⟩) rows.length cap,_,?_,g1,g2,hv⟩;have hsh:w.shape? b=some (t,cs.size):=by unfold World.shape?;rw [hB]
  simp [convert,run_underlying hu,run_underlying he,markStringish,hsh]
 ·rename_i e s hu hd;obtain rfl:=hv.inv_lit;obtain ⟨he,hsz,hC⟩:=hs;have hrun:=run_bytes_of_string (P:=P) w src dst e s hu hd he;have hge:=grownCap_ge w s.size 0 e;have hcm:=grownCap_le_maxLen w s.size 0 e (by simp only [maxLen];omega)
  have hrow:bytesRow s (grownCap w s.size 0 e)=((s.data.toList.map λ(b:UInt8)=>Value.int .u8 (b.toNat:Int))++List.replicate (grownCap w s.size 0 e - s.size) (Value.int .u8 0)).toArray:=by
   apply Array.ext';simp [bytesRow]
  have hnew:=Tr (q:=q) (c:=c) (m:=m) (w:=w.drew) (rows:=lS s) (es:=s.data.toList.map λ(b:UInt8)=>Value.int .u8 (b.toNat:Int)) (rest:=List.replicate (grownCap w s.size 0 e - s.size) (Value.int .u8 0)) (sz:=1) (o:=NV.none) (cap:=grownCap w s.size 0 e)
   (h.grown (w':=w.drew) (zax (KH w none))) e ((bytesRow s (grownCap w s.size 0 e)).size,(bytesRow s (grownCap w s.size 0 e)).size+1) (by unfold lS;rw [Lb];exact Wc c _) (by
     intro r hr;obtain ⟨b,_,rfl⟩:=Qo.1 hr;rfl) zc (by
     intro u hu;obtain ⟨b,_,rfl⟩:=Qo.1 hu;rfl) (by rw [vJ];exact hge) hcm (.inl rfl)
  rw [←hrow,vJ] at hnew;obtain ⟨c',g1,g2,g3⟩:=hnew;exact ⟨_,hC,c',_,_,hrun,g1,(gT.ext_grown q c m (w':=w.drew) (zax (KH w none))).trans g2,g3⟩
 ·exact hs.elim
def Zl (op:UnOp) (v:V) (C:V->Prop):Prop:=
 match op,v with
 | .neg,.lit (.int k n)=>C (.lit (.int k (k.wrap (0 - n))))
 | .xor,.lit (.int k n)=>C (.lit (.int k (k.wrap (BitVec.ofInt k.bits (if k.signed then -1 else k.max) ^^^ BitVec.ofInt k.bits n).toNat)))
 | .not,.lit (.bool b)=>C (.lit (.bool !b))
 | _,_=>False
theorem sun_ok {op:UnOp} {v:V} {C:V->Prop} (hs:Zl op v C) {x:Value} (hv:CR c [v] [x]) (w:World):∃r,C r/\∃z,(Op.unary op x).run P w=.ok z w/\CR c [r] [z]:=by
 unfold Zl at hs
 split at hs
 ·obtain rfl:=hv.inv_lit;exact ⟨_,hs,_,by simp [Op.unary,Op.intArith],.lit .nil⟩
 ·obtain rfl:=hv.inv_lit;exact ⟨_,hs,_,by simp [Op.unary,Op.intBits],.lit .nil⟩
 ·obtain rfl:=hv.inv_lit;exact ⟨_,hs,_,by simp [Op.unary],.lit .nil⟩
 ·exact hs.elim
def PQ (P:Program) (T:TypeId) (v:V) (C:V->Prop):Prop:=
 match P.underlying T,v with
 | some .string,.lit (.string s)=>C (.lit (.int .i64 s.size))
 | some (.slice _),.list _ rows=>C (.lit (.int .i64 rows.length))
 | some (.slice _),.arr _ _ len _=>C (.lit (.int .i64 len))
 | some (.slice _),.vec _ _ len=>C (.lit (.int .i64 len))
 | some (.slice _),.nilv=>C (.lit (.int .i64 0))
 | some (.array n _),_=>C (.lit (.int .i64 n))
 | _,_=>False
theorem slen_ok {T:TypeId} {v:V} {C:V->Prop} (hs:PQ P T v C) {x:Value} (hv:CR c [v] [x]) (ats:Array TypeId) (ha:ats[0]? = some T) (ty:TypeId) (w:World):∃r,C r/\∃z,(Builtin.len_ ats ty #[x]).run P w=.ok z w/\CR c [r] [z]:=by
 unfold PQ at hs
 split at hs
 ·rename_i s hu;obtain rfl:=hv.inv_lit;exact ⟨_,hs,_,by simp [Builtin.len_,ha,run_underlying hu,goInt],.lit .nil⟩
 ·rename_i e o rows hu;obtain ⟨a,cap,es,sz,rfl,_⟩:=hv.inv_list;exact ⟨_,hs,_,by simp [Builtin.len_,ha,run_underlying hu,goInt],.lit .nil⟩
 ·rename_i e id off len cap hu;obtain ⟨b,hr,rfl,_⟩:=hv.inv_arr;exact ⟨_,hs,_,by simp [Builtin.len_,ha,run_underlying hu,goInt],.lit .nil⟩
 ·rename_i e id sz len hu;obtain ⟨b,n,cap,_,_,_,_,_,rfl⟩:=hv.inv_vec;exact ⟨_,hs,_,by simp [Builtin.len_,ha,run_underlying hu,goInt],.lit .nil⟩
 ·rename_i e hu;obtain ⟨a,rfl⟩:=hv.inv_nilv;exact ⟨_,hs,_,by simp [Builtin.len_,ha,run_underlying hu,goInt],.lit .nil⟩
 ·rename_i n e _ hu;refine ⟨_,hs,_,?_,.lit .nil⟩;simp [Builtin.len_,ha,run_underlying hu,goInt]
 ·exact hs.elim
def uK (mx:Bool) (u v:V) (C:V->Prop):Prop:=
 match u,v with
 | .lit (.int k x),.lit (.int k' y)=>k=k'/\C (.lit (.int k (if mx then max x y else min x y)))
 | _,_=>False
theorem smin_ok {u v:V} {C:V->Prop} (hs:uK false u v C) {x y:Value} (hu:CR c [u] [x]) (hv:CR c [v] [y]) (ats:Array TypeId) (ty:TypeId) (w:World):∃r,C r/\∃z,(Builtin.min_ ats ty #[x,y]).run P w=.ok z w/\CR c [r] [z]:=by
 unfold uK at hs
 split at hs
 ·rename_i k a k' b;obtain ⟨rfl,hC⟩:=hs;obtain rfl:=hu.inv_lit;obtain rfl:=hv.inv_lit;refine ⟨_,hC,_,?_,.lit .nil⟩;have:(if b<a then b else a)=min a b:=by omega
  simp [Builtin.min_,Builtin.min2,this]
 ·exact hs.elim
theorem smax_ok {u v:V} {C:V->Prop} (hs:uK true u v C) {x y:Value} (hu:CR c [u] [x]) (hv:CR c [v] [y]) (ats:Array TypeId) (ty:TypeId) (w:World):∃r,C r/\∃z,(Builtin.max_ ats ty #[x,y]).run P w=.ok z w/\CR c [r] [z]:=by
 unfold uK at hs
 split at hs
 ·rename_i k a k' b;obtain ⟨rfl,hC⟩:=hs;obtain rfl:=hu.inv_lit;obtain rfl:=hv.inv_lit;refine ⟨_,hC,_,?_,.lit .nil⟩;have:(if a<b then b else a)=max a b:=by omega
  simp [Builtin.max_,Builtin.max2,this]
 ·exact hs.elim
def M.hmove (m:M) (id q:Pa) (vs:List V):M:={ m with hp:=λi=>if i=q then some vs else if i=id then none else m.hp i }
def Conc.halfv (c:Conc) (q:Pa) (b n:Nat):Conc:={ c with κ:=λs=>if s=.priv q then some (.arr b n 1 0) else c.κ s }
theorem gT.halfv (h:gT c m w) {q:Pa} (hf:fO c q) (b n:Nat):gT (c.halfv q b n) m w/\(∀m0 w0,qK q c m0 w0 c m w->qK q c m0 w0 (c.halfv q b n) m w)/\(∀b',fN (c.halfv q b n) m b'->fN c m b')/\Le c (c.halfv q b n)/\(c.halfv q b n).κ (.priv q)=some (.arr b n 1 0):=by
 obtain ⟨c',hc'⟩:∃c':Conc,c'=c.halfv q b n:=⟨_,rfl⟩;rw [←hc'];have hκ:∀s,c'.κ s=if s=.priv q then some (.arr b n 1 0) else c.κ s:=by intro s;rw [hc'];rfl
 have hρ:c'.ρ=c.ρ:=by rw [hc'];rfl
 have hG:c'.G=c.G:=by rw [hc'];rfl
 have hlit:c'.lit=c.lit:=by rw [hc'];rfl
 have hbase:c'.base=c.base:=by rw [hc'];rfl
 clear hc'
 have hle:Le c c':=⟨hbase,λb h=>by rw [hlit];exact h,λi b h=>by rw [hρ];exact h,λs i hk=>by
  rw [hκ];split
  ·rename_i e;rw [e,hf.2.2.2] at hk;cases hk
  ·exact hk,λb o v h=>by rw [hG];exact h⟩
 have hk':∀s i,gJ m s=true->c'.κ s=some i->c.κ s=some i:=by
  intro s i hl hk;rw [hκ,cE] at hk
  ·exact hk
  ·rintro rfl;have hl:(m.hp q).isSome=true:=hl;rw [h.fresh_hp hf] at hl;cases hl
 have hown:∀b',fN c' m b'->fN c m b':=by
  rintro b' (⟨id,gG,hr⟩ | ⟨s,cap,sz,len,hl',hk⟩)
  ·exact .inl ⟨id,gG,by rw [←hρ];exact hr⟩
  ·exact .inr ⟨s,cap,sz,len,hl',hk' _ _ hl' hk⟩
 refine ⟨⟨by rw [hG];exact h.com,λid xs hv=>?_,λid id' b' hi hi' hr hr'=>h.inj id id' b' hi hi' (by rw [←hρ];exact hr) (by rw [←hρ];exact hr'),λs b' cap sz len hl' hk=>?_,λs s' b' cap sz len cap' sz' len' hl1 hl2 k1 k2=>h.ownInj s s' b' cap sz len cap' sz' len' hl1 hl2 (hk' _ _ hl1 k1) (hk' _ _ hl2 k2),λid off v hb hv=>?_,λg=>(h.gl g).mono hle,λid gG=>h.ver0 id (gG.anti hle),by rw [hbase];exact h.base,λb' hb'=>?_,λi xs hx=>(h.hpr i xs hx).mono hle λ_ _ _ _ _ hB=>hB⟩,λm0 w0 hX=>?_,hown,hle,by rw [hκ,cX rfl]⟩
 ·obtain ⟨b',ys,t',k1,k2,k3,k4,k5⟩:=h.blk id xs hv;exact ⟨b',ys,t',by rw [hρ];exact k1,k2,k3.mono hle,by rw [hG];exact k4,k5⟩
 ·obtain ⟨k1,k2,k3,k4⟩:=h.own s b' cap sz len hl' (hk' _ _ hl' hk);exact ⟨k1,λo ho=>by rw [hG];exact k2 o ho,λid gG=>by rw [hρ];exact k3 id gG,k4⟩
 ·rw [hκ,cE (by rintro ⟨⟩)];exact h.ver id off v hb hv
 ·rw [hlit] at hb';exact ⟨by rw [hbase];exact (h.lit b' hb').1,(h.lit b' hb').2.1,λho'=>(h.lit b' hb').2.2 (hown b' ho')⟩
 ·refine ⟨hX.le.trans hle,hX.os,hX.tape,hX.output,hX.size,hX.heap,λb' _ _ o=>by rw [hG],λb' hb' ho'=>hX.own b' hb' (hown b' ho'),λid gG hf'=>?_,λid gG hb'=>?_,λb' hb' hl'=>hX.lits b' hb' (by rw [hlit] at hl';exact hl')⟩
  ·have h1:=hX.fresh id gG hf';have hne:id ≠ q:=by rintro rfl;exact gG (Qq _)
   exact ⟨by rw [hρ];exact h1.1,λi=>by rw [hκ,cE (by rintro ⟨⟩)];exact h1.2.1 i,λoff v=>by rw [hκ,cE (by rintro ⟨⟩)];exact h1.2.2.1 off v,by rw [hκ,cE (by intro e;injection e with e;exact hne e)];exact h1.2.2.2⟩
  ·have h1:=hX.keep id gG hb';exact ⟨h1.blk,λi=>by rw [hκ,cE (by rintro ⟨⟩)];exact h1.anon i,λoff v=>by rw [hκ,cE (by rintro ⟨⟩)];exact h1.cell off v,h1.ver,h1.tok⟩
theorem gT.hput (h:gT c m w) {q:Pa} {b:Nat} {t:TypeId} {cs:Array Value} {vs:List V} (hat:c.κ (.priv q)=some (.arr b cs.size 1 0)) (hB:CY w b t cs) (hn:¬ fN c m b) (hlt:¬ c.lit b) (hO:NI c.G b)
  (hl:vs.length<=cs.size) (hcr:CR c vs (cs.toList.take vs.length)) (hone:∀u ∈ cs.toList,u.oneCell'=true):gT c (m.hset q vs) w/\∀b',fN c (m.hset q vs) b'->fN c m b' ∨ b'=b:=by
 have hlive:∀s,s ≠ .priv q->gJ (m.hset q vs) s=true->gJ m s=true:=by
  intro s hne hl;cases s with
  | priv i=>
    have hl':(if i=q then some vs else m.hp i).isSome=true:=hl;rw [cE (λe=>hne (by rw [e]))] at hl';exact hl'
  | _=>exact hl
 have hown:∀b',fN c (m.hset q vs) b'->fN c m b' ∨ b'=b:=by
  rintro b' (⟨id,gG,hr⟩ | ⟨s,cap,sz,len,hl',hk⟩)
  ·exact .inl (.inl ⟨id,gG,hr⟩)
  ·by_cases hs:s=.priv q
   ·rw [hs,hat] at hk;injection hk with hk;injection hk with e;exact .inr e.symm
   ·exact .inl (.inr ⟨s,cap,sz,len,hlive s hs hl',hk⟩)
 refine ⟨⟨h.com,h.blk,h.inj,λs b' cap sz len hl' hk=>?_,λs s' b' cap sz len cap' sz' len' hl1 hl2 hk hk'=>?_,h.ver,h.gl,h.ver0,h.base,λb' hb'=>⟨(h.lit b' hb').1,(h.lit b' hb').2.1,λho'=>?_⟩,λi xs hx=>?_⟩,hown⟩
 ·by_cases hs:s=.priv q
  ·rw [hs,hat] at hk;injection hk with hk;injection hk with e1 e2 e3 e4;subst e1 e2 e3 e4
   exact ⟨⟨cs,t,hB,by rw [YJ]⟩,λo _=>hO o,λid gG hr=>hn (.inl ⟨id,gG,hr⟩),Ko _,zc⟩
  ·exact h.own s b' cap sz len (hlive s hs hl') hk
 ·by_cases hs:s=.priv q <;> by_cases hs':s'=.priv q
  ·rw [hs,hs']
  ·rw [hs,hat] at hk;injection hk with hk;injection hk with e1;subst e1
   exact cM (.inr ⟨s',_,_,_,hlive s' hs' hl2,hk'⟩) hn
  ·rw [hs',hat] at hk';injection hk' with hk';injection hk' with e1;subst e1
   exact cM (.inr ⟨s,_,_,_,hlive s hs hl1,hk⟩) hn
  ·exact h.ownInj s s' b' cap sz len cap' sz' len' (hlive s hs hl1) (hlive s' hs' hl2) hk hk'
 ·rcases hown b' ho' with ho' | e
  ·exact (h.lit b' hb').2.2 ho'
  ·rw [e] at hb';exact hlt hb'
 ·have hx':(if i=q then some vs else m.hp i)=some xs:=hx
  by_cases e:i=q
  ·subst e;rw [cX rfl] at hx'
   injection hx' with hx'
   subst hx';exact ⟨b,cs.size,hat,cs,t,hB,hl,hcr,hone⟩
  ·rw [cE e] at hx';exact h.hpr i xs hx'
theorem qK.hput {q π:Pa} {c0:Conc} {m0:M} {w0:World} {vs:List V} (hX:qK π c0 m0 w0 c m w) (ho:∀b,b<w0.heap.size->fN c (m.hset q vs) b->fN c0 m0 b):qK π c0 m0 w0 c (m.hset q vs) w:=
 ⟨hX.le,hX.os,hX.tape,hX.output,hX.size,hX.heap,hX.book,ho,hX.fresh,λid gG hb=>⟨(hX.keep id gG hb).blk,(hX.keep id gG hb).anon,(hX.keep id gG hb).cell,(hX.keep id gG hb).ver,(hX.keep id gG hb).tok⟩,hX.lits⟩
theorem gT.hgive {m0:M} {w0:World} {q:Pa} (h:gT c m w) (hf:fO c q) (hX:qK q c m0 w0 c m w) {b:Nat} {t:TypeId} {cs:Array Value} {vs:List V} (hB:CY w b t cs) (hn:¬ fN c m b) (hlt:¬ c.lit b) (hO:NI c.G b) (ho:b<w0.heap.size->fN c m0 b)
  (hl:vs.length<=cs.size) (hcr:CR c vs (cs.toList.take vs.length)) (hone:∀u ∈ cs.toList,u.oneCell'=true) :
  ∃c',Le c c'/\c'.κ (.priv q)=some (.arr b cs.size 1 0)/\gT c' (m.hset q vs) w/\qK q c m0 w0 c' (m.hset q vs) w:=by
 obtain ⟨k1,k2,k3,k4,k5⟩:=h.halfv hf b cs.size;obtain ⟨g1,g2⟩:=k1.hput k5 hB (λho=>hn (k3 b ho)) hlt hO hl (hcr.mono k4) hone;exact ⟨_,k4,k5,g1,(k2 _ _ hX).hput λb' hb' ho'=>(g2 b' ho').elim (λh=>hX.own b' hb' (k3 b' h)) λe=>by rw [e] at hb' ⊢;exact ho hb'⟩
theorem gT.hnew {q:Pa} (h:gT c m w) (hf:fO c q) {vs:List V} {cs:List Value} (t:TypeId) (hl:vs.length<=cs.length) (hcr:CR c vs (cs.take vs.length)) (hone:∀u ∈ cs,u.oneCell'=true) :
  ∃c',Le c c'/\c'.κ (.priv q)=some (.arr w.heap.size cs.length 1 0)/\gT c' (m.hset q vs) (w.alloc (.cells cs.toArray t))/\qK q c m w c' (m.hset q vs) (w.alloc (.cells cs.toArray t)):=by
 have hg:w.grownBy (w.alloc (.cells cs.toArray t)) none:=ME (KH w none) _;have:=(h.grown hg).hgive hf (gT.ext_grown q c m hg) (b:=w.heap.size) (vs:=vs) (CY.new w t cs.toArray) (λho=>cM (h.own_lt ho) (xea _)) (λhx=>cM (h.lit _ hx).2.1 (xea _)) (h.com.out (uZ _)) (λhx=>cM hx (xea _)) (by simpa using hl) (by simpa using hcr) (by simpa using hone);simpa using this
theorem gT.hdrop (h:gT c m w) (id:Pa):gT c (m.drop (.st (.priv id))) w/\(∀q,qK q c m w c (m.drop (.st (.priv id))) w)/\∀s,gJ (m.drop (.st (.priv id))) s=true->gJ m s=true/\s ≠ .priv id:=by
 obtain ⟨h1,h2,h3⟩:=h.dropped (.st (.priv id));exact ⟨h1,h2,λs hl=>⟨(h3 s hl).1,λe=>(h3 s hl).2 (by rw [e])⟩⟩
theorem gT.hrename {q id:Pa} (h:gT c m w) (hf:fO c q) {vs vs':List V} {b n:Nat} {t:TypeId} {cs cs':Array Value} (hv:m.hp id=some vs) (hk:c.κ (.priv id)=some (.arr b n 1 0)) (hB:CY w b t cs) (hB':CY w' b t cs') (hsz:cs'.size=cs.size) (hg:w.grownBy w' (some b))
  (hl:vs'.length<=cs'.size) (hcr:CR c vs' (cs'.toList.take vs'.length)) (hone:∀u ∈ cs'.toList,u.oneCell'=true) :
  ∃c',Le c c'/\c'.κ (.priv q)=some (.arr b cs'.size 1 0)/\gT c' (m.hmove id q vs') w'/\qK q c m w c' (m.hmove id q vs') w':=by
 obtain ⟨h1,h2⟩:=h.hwrite q (vs':=vs') hv hk hB hB' hsz hg hl hcr hone;have hv1:(m.hset id vs').hp id=some vs':=by show (if id=id then some _ else _)=_;rw [cX rfl]
 obtain ⟨d1,d2,d3⟩:=h1.hdrop id
 have hno:¬ fN c ((m.hset id vs').drop (.st (.priv id))) b:=by
  rintro (⟨i,hi,hr⟩ | ⟨s,cap,sz,len,hl',hk'⟩)
  ·exact h.priv_id hv hk (id':=i) hi hr
  ·obtain ⟨k1,k2⟩:=d3 s hl';exact k2 (h1.priv_arr hv1 hk k1 hk')
 obtain ⟨c',g1,g2,g3,g4⟩:=d1.hgive hf (h2.trans (d2 q)) (vs:=vs') hB' hno (λhx=>(h.lit _ hx).2.2 (gT.priv_own hv hk)) (h.priv_out hv hk) (λ_=>gT.priv_own hv hk) hl hcr hone
 have e:((m.hset id vs').drop (.st (.priv id))).hset q vs'=m.hmove id q vs':=by
  show M.mk m.blk m.ver m.tok m.gl _=M.mk m.blk m.ver m.tok m.gl _
  congr 1
  funext i
  show (if i=q then some vs' else if i=id then none else if i=id then some vs' else m.hp i)=if i=q then some vs' else if i=id then none else m.hp i
  by_cases e1:i=q
  ·rw [cX e1,cX e1]
  ·rw [cE e1,cE e1]
   by_cases e2:i=id
   ·rw [cX e2,cX e2]
   ·rw [cE e2,cE e2,cE e2]
 rw [e] at g3 g4;exact ⟨c',g1,g2,g3,g4⟩
def QG (P:Program) (T:TypeId) (v:V):Option (List (List V)):=
 match P.underlying T,v with
 | some (.slice _),.list _ rows=>some rows
 | some .string,.lit (.string s)=>some (lS s)
 | _,_=>none
def zX (P:Program) (q:Pa) (m:M) (t u:TypeId) (s x:V) (C:V->M->Prop):Prop:=
 match P.underlying t,s,QG P u x with
 | some (.slice e),.list o rows,some rows2=>
   (match cC P e,cZ P e,(P.info? e).map (·.bytes) with
    | some n,some zs,some by_=>yG m o rows=true/\0<n/\by_<=65536/\zs.length=n/\(∀r ∈ rows,r.length=n)/\(∀r ∈ rows2,r.length=n)/\rows.length+rows2.length<=1073741824 ∧
       C (.list (.st (.anon q 0)) (rows++rows2)) ((m.drop o).tokset q 0 true)
    | _,_,_=>False)
 | some (.slice e),.nilv,some rows2=>
   (match cC P e,cZ P e,(P.info? e).map (·.bytes) with
    | some n,some zs,some by_=>0<n/\by_<=65536/\zs.length=n/\(∀r ∈ rows2,r.length=n)/\0<rows2.length/\rows2.length<=1073741824 ∧
       C (.vec q n rows2.length) (m.hset q (rows2.flatten.map V.toHp))
    | _,_,_=>False)
 | some (.slice e),.vec id sz len,some rows2=>
   (match cC P e,cZ P e,(P.info? e).map (·.bytes),m.hp id with
    | some n,some zs,some by_,some vs=>sz=n/\by_<=65536/\zs.length=n/\(∀r ∈ rows2,r.length=n)/\len*n<=vs.length/\len+rows2.length<=1073741824 ∧
       C (.vec q n (len+rows2.length)) (m.hmove id q (vs.take (len*n)++rows2.flatten.map V.toHp))
    | _,_,_,_=>False)
 | _,_,_=>False
theorem NU {α β:Type} (f:α->β) (a:Array α):a.map f=(a.toList.map f).toArray:=by apply Array.ext';simp
theorem OD {u:TypeId} {v:V} {rows2:List (List V)} (hn:QG P u v=some rows2) (h:gT c m w) {x:Value} (hv:CR c [v] [x]) {n:Nat} (hr:∀r ∈ rows2,r.length=n):∃news,CR c rows2.flatten news/\Uc P w n u x rows2.length news:=by
 unfold QG at hn
 split at hn
 ·rename_i e o rows hu
  injection hn with hn;subst hn
  obtain ⟨a,cap,es,sz,rfl,k1,k2,kz,k3,k4,k5,k6,kc,k7⟩:=hv.inv_list;exact ⟨es,k1,Uc.book h.com hu zd (Bc k1 hr) k6 kc⟩
 ·rename_i s hu
  injection hn with hn;subst hn
  obtain rfl:=hv.inv_lit
  have hn1:s.data.toList ≠ []->n=1:=by
   intro hne;cases hx:s.data.toList with
   | nil=>exact cM hx hne
   | cons b l=>have:=hr [.lit (.int .u8 (b.toNat:Int))] (by simp [lS,hx]);simpa using this.symm
  refine ⟨s.data.toList.map λb=>Value.int .u8 (b.toNat:Int),by unfold lS;rw [Lb];exact Wc c _,⟨⟨.string,hu,zd⟩,?_,?_,?_,?_,?_⟩⟩
  ·rw [vJ];rfl
  ·rw [vJ];simp [Builtin.firstCells,NU]
  ·rw [vJ];simp [Builtin.firstCells,NU]
  ·rw [vJ]
   by_cases hne:s.data.toList=[]
   ·have:s.size=0:=by have:=DI List.length hne;simpa using this
    simp [hne,this]
   ·rw [hn1 hne];simp
  ·intro u hu;obtain ⟨b,_,rfl⟩:=Qo.1 hu;rfl
 ·cases hn
theorem EH {e n by_:Nat} {zs:List V} (hsz:cC P e=some n) (hzc:cZ P e=some zs) (hby:(P.info? e).map (·.bytes)=some by_) (hzl:zs.length=n) :
  ∃i z,P.info? e=some i/\i.size=n/\i.bytes=by_/\i.zero=some z/\z.cells.size=i.size/\∀u ∈ z.cells.toList,u.oneCell'=true:=by
 unfold cC at hsz;cases hi:P.info? e with
 | none=>simp [hi] at hsz
 | some i=>
   simp only [hi,PJ,Option.some.injEq] at hsz hby
   obtain ⟨z,hz⟩:∃z,i.zero=some z:=by
    unfold cZ zT at hzc;simp only [hi,iX] at hzc;cases hq:i.zero with
    | none=>simp [hq] at hzc
    | some z=>exact ⟨z,rfl⟩
   have hzs:z.cells.size=i.size/\∀u ∈ z.cells.toList,u.oneCell'=true:=by
    unfold cZ zT at hzc;simp only [hi,iX,hz] at hzc
    split at hzc
    ·rename_i hone
     injection hzc with hzc
     exact ⟨by rw [hsz,←hzl,←hzc];simp,Rj.1 hone⟩
    ·cases hzc
   exact ⟨i,z,rfl,hsz,hby,hz,hzs⟩
theorem SK {q:Pa} (h:gT c m w) (hf:fO c q) {i:TypeInfo} {z:Value} {len k cap':Nat} {olds news:List Value} {ovs nvs:List V} (ho:CR c ovs olds) (hn:CR c nvs news) (hol:olds.length=len*i.size) (hnl:news.length=k*i.size) (ho1:∀u ∈ olds,u.oneCell'=true) (hn1:∀u ∈ news,u.oneCell'=true)
  (hz1:z.cells.size=i.size) (hz2:∀u ∈ z.cells.toList,u.oneCell'=true) (h0:0<i.size) (hge:len+k<=cap') (hcm:cap'<=maxLen) (e:TypeId) :
  ∃c',gT c' (m.hset q (ovs++nvs)) (w.drew.alloc (.cells (olds.toArray++news.toArray++Builtin.zeroCells z.cells (cap' - (len+k))) e))/\qK q c m w c' (m.hset q (ovs++nvs)) (w.drew.alloc (.cells (olds.toArray++news.toArray++Builtin.zeroCells z.cells (cap' - (len+k))) e)) ∧
   CR c' [.vec q i.size (len+k)] [.slice (some ⟨w.heap.size,0,none⟩) (len+k) cap']:=by
 have hD:=h.drewN 1
 have hzl:((Builtin.zeroCells z.cells (cap' - (len+k))).toList).length=(cap' - (len+k))*i.size:=by
  rw [VG,size_zeroCells,hz1]
 have hvl:(ovs++nvs).length=(olds++news).length:=by rw [oY,oY,ho.len,hn.len]
 obtain ⟨c',g0,g1,g2,g3⟩:=hD.hnew hf (vs:=ovs++nvs) (cs:=olds++news++(Builtin.zeroCells z.cells (cap' - (len+k))).toList) e (by rw [oY (as:=olds++news),hvl];omega) (by
  rw [hvl,List.take_left];exact ho.append hn) (by
  intro u hu
  rcases yU.1 hu with hu | hu
  ·rcases yU.1 hu with hu | hu
   ·exact ho1 u hu
   ·exact hn1 u hu
  ·unfold Builtin.zeroCells at hu;rw [Array.toList_map,Qo] at hu;obtain ⟨j,_,rfl⟩:=hu;have hj:j % z.cells.size<z.cells.size:=Nat.mod_lt _ (by rw [hz1];exact h0);rw [getElem!_pos z.cells _ hj];exact hz2 _ (Array.getElem_mem_toList hj))
 have harr:(olds++news++(Builtin.zeroCells z.cells (cap' - (len+k))).toList).toArray=olds.toArray++news.toArray++Builtin.zeroCells z.cells (cap' - (len+k)):=by
  apply Array.ext';simp [Mi]
 rw [harr] at g2 g3;refine ⟨c',g2,(qK.drewN q c m w 1).trans g3,.vec g1 ?_ h0 hge hcm .nil⟩;rw [oY,oY,hol,hnl,hzl,←xdh,←xdh,show len+k+(cap' - (len+k))=cap' by omega]
theorem UN {q:Pa} {t u:TypeId} {s x:V} {C:V->M->Prop} (hs:zX P q m t u s x C) (h:gT c m w) (hf:fO c q) {s' x':Value} (hsv:CR c [s] [s']) (hxv:CR c [x] [x']) (ty:TypeId) :
  ∃r m',C r m'/\∃c' z w',(Builtin.append_ #[t,u] ty #[s',x']).run P w=.ok z w'/\gT c' m' w'/\qK q c m w c' m' w'/\CR c' [r] [z]:=by
 unfold zX at hs
 split at hs
 ·rename_i e o rows rows2 ht hn
  split at hs
  ·rename_i n zs by_ hsz hzc hby;obtain ⟨h1,h2,h3,hzl,h4,h5,h6,hC⟩:=hs;obtain ⟨news,k1,k2⟩:=OD hn h hxv h5;unfold cC at hsz;cases hi:P.info? e with
   | none=>simp [hi] at hsz
   | some i=>
     simp only [hi,PJ,Option.some.injEq] at hsz hby;subst hsz hby
     obtain ⟨z,hz⟩:∃z,i.zero=some z:=by
      unfold cZ zT at hzc;simp only [hi,iX] at hzc;cases hq:i.zero with
      | none=>simp [hq] at hzc
      | some z=>exact ⟨z,rfl⟩
     have hzs:z.cells.size=i.size:=by
      unfold cZ zT at hzc;simp only [hi,iX,hz] at hzc
      split at hzc
      ·injection hzc with hzc;rw [←hzl,←hzc];simp
      ·cases hzc
     have hbig:(rows.length+rows2.length)*i.bytes<=140737488355328:=by
      have:=Nat.mul_le_mul h6 h3;omega
     obtain ⟨v',w',c',hrun,g1,g2,g3⟩:=h.append (P:=P) hf hsv h1 t u ty e i z ht hi hz hzs h2 h4 k1 h5 k2 hbig (by simp only [maxLen];omega);exact ⟨_,_,hC,c',v',w',hrun,g1,g2,g3⟩
  ·exact hs.elim
 ·rename_i e rows2 ht hn
  split at hs
  ·rename_i n zs by_ hsz hzc hby;obtain ⟨h2,h3,hzl,h5,hpos,h6,hC⟩:=hs;obtain ⟨news,k1,k2⟩:=OD hn h hxv h5;obtain ⟨a,rfl⟩:=hsv.inv_nilv;obtain ⟨i,z,hi,e1,e2,hz,hz1,hz2⟩:=EH hsz hzc hby hzl;subst e1 e2
   have hbig:(0+rows2.length)*i.bytes<=140737488355328:=by
    rw [Lk];have:=Nat.mul_le_mul h6 h3;omega
   have hm':0+rows2.length<=maxLen:=by simp only [maxLen];omega
   have hold:(Builtin.firstCells i.size 0 (.slice a 0 0)).run P w.drew=.ok ([]:List Value).toArray w.drew:=by
    cases a with
    | none=>exact run_firstCells_none w.drew i.size 0 0 0
    | some b=>exact run_firstCells_some w.drew i.size 0 b 0 0 [] zd zd
   have hrun:=HQ (P:=P) w t u ty e i z ht hi hz hold k2 zb hbig zb;obtain ⟨c',g1,g2,g3⟩:=SK h hf (len:=0) (k:=rows2.length) (ovs:=[]) (olds:=[]) .nil (DV k1) zd k2.size zd k2.one hz1 hz2 h2 (grownCap_ge w (0+rows2.length) 0 e) (grownCap_le_maxLen w (0+rows2.length) 0 e hm') e;rw [Lk] at hrun g3;exact ⟨_,_,hC,c',_,_,hrun,by simpa using g1,by simpa using g2,g3⟩
  ·exact hs.elim
 ·rename_i e id sz len rows2 ht hn
  split at hs
  ·rename_i n zs by_ vs hsz hzc hby hhp;obtain ⟨rfl,h3,hzl,h5,hlv,h6,hC⟩:=hs;obtain ⟨news,k1,k2⟩:=OD hn h hxv h5;obtain ⟨b,nb,cap,hk,hnb,hz0,hlc,hcm,rfl⟩:=hsv.inv_vec;obtain ⟨i,z,hi,e1,e2,hz,hz1,hz2⟩:=EH hsz hzc hby hzl;subst e1 e2;obtain ⟨b',n',hk',cs,t',hB,hl,hcr,hone⟩:=h.hpr id vs hhp;rw [hk] at hk';injection hk' with hk';injection hk' with e1 e2;subst e1 e2
   have hcs:cs.size=nb:=by
    obtain ⟨⟨ys,t2,hB2,hs⟩,_⟩:=h.own (.priv id) b nb 1 0 (gT.priv_live hhp) hk;have h1:w.heap[b]? = some (.cells cs t' (0,0)):=hB;have h2:w.heap[b]? = some (.cells ys t2 (0,0)):=hB2;rw [h1] at h2;injection h2 with h2;injection h2 with h3
    rw [h3,hs,YJ]
   have hlz:len*i.size<=cap*i.size:=xdi _ hlc
   have hold1:CR c (vs.take (len*i.size)) (cs.toList.take (len*i.size)):=by
    have:=hcr.take (len*i.size)
    rwa [List.take_take,xds hlv] at this
   by_cases hroom:len+rows2.length<=cap
   ·have hfit:len*i.size+news.length<=cs.size:=by rw [k2.size,hcs,hnb,←xdh];exact xdi _ hroom
    have hrun:=LC (P:=P) w t u ty e i ht hi hB k2 hroom hfit;obtain ⟨cur',hcur'⟩:∃cur',cur'=(cs.toList.take (len*i.size)++news++cs.toList.drop (len*i.size+news.length)).toArray:=⟨_,rfl⟩;rw [←hcur'] at hrun;have hg:w.grownBy (w.setRow b cur') (some b):=⟨rfl,rfl,rfl,zd,λk _ hk=>setRow_other w b k _ (λe=>hk (by rw [e]))⟩
    have hsz':cur'.size=cs.size:=by
     rw [hcur'];simp only [xef,oY,NL,Us,VG];omega
    have hnl:=k1.len
    have hvl:(vs.take (len*i.size)++rows2.flatten.map V.toHp).length=len*i.size+news.length:=by
     rw [oY,NL,Kn,hnl,xds hlv]
    obtain ⟨c',g0,g1,g2,g3⟩:=h.hrename hf (vs':=vs.take (len*i.size)++rows2.flatten.map V.toHp) hhp hk hB (setRow_heap w b cs cur' t' (0,0) hB) hsz' hg (by rw [hvl,hsz'];exact hfit) (by
     rw [hvl,hcur']
     have e3:((cs.toList.take (len*i.size)++news++cs.toList.drop (len*i.size+news.length)).toArray.toList.take (len*i.size+news.length))=cs.toList.take (len*i.size)++news:=by
      rw [List.toList_toArray];refine List.take_left' ?_;rw [oY,NL,VG,xds zb]
     rw [e3];exact hold1.append (DV k1)) (by
     rw [hcur'];intro u hu
     rcases yU.1 hu with hu | hu
     ·rcases yU.1 hu with hu | hu
      ·exact hone u (Ul hu)
      ·exact k2.one u hu
     ·exact hone u (Yw hu))
    exact ⟨_,_,hC,c',_,_,hrun,g2,g3,.vec (by rw [g1,hsz',hcs,hnb]) rfl hz0 hroom hcm .nil⟩
   ·have hbig:(len+rows2.length)*i.bytes<=140737488355328:=by
     have:=Nat.mul_le_mul h6 h3;omega
    have hm':len+rows2.length<=maxLen:=by simp only [maxLen];omega
    have hold:(Builtin.firstCells i.size len (.slice (some ⟨b,0,none⟩) len cap)).run P w.drew=.ok (cs.toList.take (len*i.size)).toArray w.drew:=by
     refine run_firstCells_some w.drew i.size len _ len cap _ (by rw [NL,VG];omega) λj v hv=>?_;rw [oA,hB.drew.cell];rw [xdl] at hv
     split at hv
     ·simpa using hv
     ·cases hv
    have hrun:=HQ (P:=P) w t u ty e i z ht hi hz hold k2 zb hbig zb;obtain ⟨d1,d2,_⟩:=h.hdrop id;obtain ⟨c',g1,g2,g3⟩:=SK d1 hf (len:=len) (k:=rows2.length) (ovs:=vs.take (len*i.size)) (olds:=cs.toList.take (len*i.size)) hold1 (DV k1) (by rw [NL,VG];omega) k2.size (λu hu=>hone u (Ul hu)) k2.one hz1 hz2 hz0 (grownCap_ge w (len+rows2.length) cap e) (grownCap_le_maxLen w (len+rows2.length) cap e hm') e;have e4:(m.drop (.st (.priv id))).hset q (vs.take (len*i.size)++rows2.flatten.map V.toHp)=m.hmove id q (vs.take (len*i.size)++rows2.flatten.map V.toHp):=rfl;rw [e4] at g1 g2;exact ⟨_,_,hC,c',_,_,hrun,g1,(d2 q).trans g2,g3⟩
  ·exact hs.elim
 ·exact hs.elim
def Fy (P:Program) (q:Pa) (m:M) (T:TypeId) (l k:V) (C:V->M->Prop):Prop:=
 match P.underlying T,l,k with
 | some (.slice e),.lit (.int _ n),.lit (.int _ n2)=>
   (match cC P e,cZ P e,(P.info? e).map (·.bytes) with
    | some s,some zs,some by_=>n=n2/\0<=n/\0<s/\by_<=65536/\zs.length=s/\n<=1073741824/\C (.vec q s n.toNat) (m.hset q (List.replicate n.toNat (zs.map V.toHp)).flatten)
    | _,_,_=>False)
 | _,_,_=>False
theorem QJ {q:Pa} (h:gT c m w) {w':World} (hg:w.grownBy w' none) {rows:List (List V)} {es:List Value} {sz b:Nat} (hb:w.heap.size<=b) (hbw:b<w'.heap.size) (hcell:∀i u,es[i]? = some u->w'.cell? ⟨b,i,none⟩=some u)
  (k1:CR c rows.flatten es) (k2:∀r ∈ rows,r.length=sz) (kz:0<sz) (k3:∀u ∈ es,u.oneCell'=true) {cap:Nat} (hm:cap<=maxLen) (he:cap=rows.length) :
  ∃c',gT c' m w'/\qK q c m w c' m w'/\CR c' [.list .exact rows] [.slice (some ⟨b,0,none⟩) rows.length cap]:=by
 have hOut:NI c.G b:=h.com.out hb;have hno:¬ fN c m b:=λho=>by have:=h.own_lt ho;omega
 have h1:=(h.grown hg).laid (cs:=es) hOut hno hcell;have hll:Le c { c.laid b es with lit:=λx=>c.lit x ∨ x=b }:=⟨rfl,λ_ x=>.inl x,λ_ _ x=>x,λ_ _ x=>x,(Le.laid hOut).G⟩;have hle2:Le (c.laid b es) { c.laid b es with lit:=λx=>c.lit x ∨ x=b }:=⟨rfl,λ_ x=>.inl x,λ_ _ x=>x,λ_ _ x=>x,λ_ _ _ x=>x⟩;have hE:=h.ext_laid (cs:=es) q (uZ _) hb _ hg;refine ⟨{ c.laid b es with lit:=λx=>c.lit x ∨ x=b },⟨h1.com,λid vs hv=>?_,h1.inj,h1.own,h1.ownInj,h1.ver,λg=>(h1.gl g).mono hle2,h1.ver0,h1.base,λx hx=>?_,λx vs hv=>?_⟩,⟨hll,hE.os,hE.tape,hE.output,hE.size,hE.heap,hE.book,hE.own,hE.fresh,λ_ _ hb=>⟨hb.blk,hb.anon,hb.cell,hb.ver,hb.tok⟩,λx hx hy=>hy.resolve_right zb⟩,?_⟩
 ·obtain ⟨b',cs,t,k1,k2,k3,k4,k5⟩:=h1.blk id vs hv;exact ⟨b',cs,t,k1,k2,k3.mono hle2,k4,k5⟩
 ·rcases hx with hx | rfl
  ·exact h1.lit x hx
  ·exact ⟨No h.base hb,hbw,hno⟩
 ·exact (h1.hpr x vs hv).mono hle2 λ_ _ _ _ _ hB=>hB
 exact .list (k1.mono hll) k2 kz zb hm (λ_=>⟨_,_,rfl⟩) (λ_=>⟨b,0,rfl,λi u hu=>by rw [Lk];show OQ c.G b es b i=some u;rw [OP];exact hu⟩) k3 ⟨he,λx hx=>by injection hx with hx;subst hx;exact .inr rfl⟩ .nil
def HJ (P:Program) (T:TypeId) (l k:V) (C:V->Prop):Prop:=
 match P.underlying T,l,k with
 | some (.slice e),.lit (.int _ n),.lit (.int _ n2)=>
   (match cC P e,cZ P e,(P.info? e).map (·.bytes) with
    | some s,some zs,some by_=>n=n2/\0<=n/\0<s/\by_<=65536/\zs.length=s/\n<=1073741824/\C (.list .exact (List.replicate n.toNat (zs.map V.toHp)))
    | _,_,_=>False)
 | _,_,_=>False
def Mn (P:Program) (q:Pa) (m:M) (T:TypeId) (o:Operand) (l k:V) (C:V->M->Prop):Prop:=
 match o with
 | .const _=>HJ P T l k (λv=>C v m)
 | _=>Fy P q m T l k C
theorem Et (z:Array Value) (n:Nat):(madeCells z (n*z.size)).toList=(List.replicate n z.toList).flatten:=by
 induction n with
 | zero=>simp [madeCells]
 | succ n ih=>
   have e:(madeCells z ((n+1)*z.size)).toList=z.toList++(madeCells z (n*z.size)).toList:=by
    apply Yz;intro j;unfold madeCells;simp only [Array.toList_map,Array.toList_range,KM,List.getElem?_append,VG]
    by_cases hj:j<z.size
    ·rw [cX hj,xej (by rw [NM];omega)];simp [Nat.mod_eq_of_lt hj,hj]
    ·rw [cE hj]
     by_cases hj2:j<(n+1)*z.size
     ·have h1:j - z.size<n*z.size:=by rw [NM] at hj2;omega
      rw [xej hj2,xej h1];simp only [PJ];rw [Nat.mod_eq_sub_mod zb]
     ·have h1:¬ j - z.size<n*z.size:=by rw [NM] at hj2;omega
      rw [VH (by simpa using hj2),VH (by simpa using h1)]
   rw [e,ih,xdm,Ll]
theorem Tv {T e:TypeId} {k1 k2:IntKind} {n:Int} {s by_:Nat} {zs:List V} (hu:P.underlying T=some (.slice e)) (hsz:cC P e=some s) (hzc:cZ P e=some zs) (hby:(P.info? e).map (·.bytes)=some by_) (h0:0<=n) (h1:by_<=65536) (hzl:zs.length=s) (h2:n<=1073741824) (c:Conc) (w:World) :
  ∃w' t cur,(Instr.makeSlice T (.int k1 n) (.int k2 n)).run P w=.ok (.slice (some ⟨w.heap.size,0,none⟩) n.toNat n.toNat) w'/\w.grownBy w' none/\CY w' w.heap.size t cur/\cur.size=n.toNat*s/\n.toNat<=maxLen/\(∀u ∈ cur.toList,u.oneCell'=true)/\(List.replicate n.toNat (zs.map V.toHp)).flatten.length=cur.size/\CR c (List.replicate n.toNat (zs.map V.toHp)).flatten cur.toList:=by
 obtain ⟨i,z,hi,e1,e2,hz,hz1,hz2⟩:=EH hsz hzc hby hzl;subst e1 e2;obtain ⟨u,rfl⟩:∃u:Nat,n=u:=⟨n.toNat,zb⟩
 have hbig:i.bytes*u<=281474976710656:=by
  have:i.bytes*u<=65536*1073741824:=Nat.mul_le_mul h1 zb;omega
 obtain ⟨w',hrun,hown,hg⟩:=run_make_full (P:=P) w 0 T e i z i.size hu hi hz rfl k1 k2 u hbig (by simp only [maxLen];omega) (Ko _);obtain ⟨hlen,hrest⟩:=hown
 have hzcs:CR c (zs.map V.toHp) z.cells.toList:=by
  obtain ⟨z',hz1',hz2',hz3'⟩:=Ag hzc c;have hzz:=hz1' w
  have:z'=z:=by
   have hz0:(zeroValue e).run P w=.ok z w:=by simp [zeroValue,typeInfo,hi,hz]
   rw [hz0] at hzz
   injection hzz with hzz
   exact hzz.symm
  subst this;exact DV hz2'
 have hreps:∀u:Nat,CR c (List.replicate u (zs.map V.toHp)).flatten (List.replicate u z.cells.toList).flatten:=by
  intro u
  induction u with
  | zero=>exact .nil
  | succ u ih=>rw [xdm,xdm,Ll,Ll];exact hzcs.append ih
 have hcells:(madeCells z.cells (u*i.size)).toList=(List.replicate u z.cells.toList).flatten:=by rw [←hz1];exact Et _ _
 rcases hrest with ⟨e1,_⟩ | ⟨g,cap,cur,e1,_,hB,hnc,hcm,hcs,htk⟩
 ·cases e1
 ·injection e1 with e1 e2 e3
  injection e1 with e1
  injection e1 with e1
  subst e1 e3
  have hcur:cur.toList=(madeCells z.cells (u*i.size)).toList:=by
   rw [←htk,xdq (by rw [VG,hcs];exact uZ _)]
  rw [GD];refine ⟨w',_,cur,hrun,hg,hB,hcs,hcm,?_,?_,by rw [hcur,hcells];exact hreps u⟩
  ·rw [hcur,hcells];intro v hv;obtain ⟨l,hl1,hl2⟩:=List.mem_flatten.1 hv;rw [(xdn.1 hl1).2] at hl2;exact hz2 v hl2
  ·rw [←(hreps u).len,←hcells,←hcur,VG]
theorem Zo {q:Pa} {T:TypeId} {l k:V} {C:V->M->Prop} (hs:Fy P q m T l k C) (h:gT c m w) (hf:fO c q) {x y:Value} (hx:CR c [l] [x]) (hy:CR c [k] [y]) :
  ∃r m',C r m'/\∃c' z w',(Instr.makeSlice T x y).run P w=.ok z w'/\gT c' m' w'/\qK q c m w c' m' w'/\CR c' [r] [z]:=by
 unfold Fy at hs
 split at hs
 ·rename_i e k1 n k2 n2 hu
  split at hs
  ·rename_i s zs by_ hsz hzc hby;obtain ⟨rfl,h0,hs0,h1,hzl,h2,hC⟩:=hs;obtain rfl:=hx.inv_lit;obtain rfl:=hy.inv_lit;obtain ⟨w',t,cur,hrun,hg,hB,hcs,hcm,hone,hvl,hcr⟩:=Tv (P:=P) (k1:=k1) (k2:=k2) hu hsz hzc hby h0 h1 hzl h2 c w;obtain ⟨c',g0,g1,g2,g3⟩:=(h.grown hg).hgive hf (gT.ext_grown q c m hg) (b:=w.heap.size) hB (λho=>cM (h.own_lt ho) (xea _)) (λhx=>cM (h.lit _ hx).2.1 (xea _)) (h.com.out (uZ _)) (λhx=>cM hx (xea _)) (Nat.le_of_eq hvl) (by rw [hvl,←VG,xeh];exact hcr) hone;exact ⟨_,_,hC,c',_,_,hrun,g2,g3,.vec g1 hcs hs0 (uZ _) hcm .nil⟩
  ·exact hs.elim
 ·exact hs.elim
theorem Xf {T:TypeId} {l k:V} {C:V->Prop} (hs:HJ P T l k C) (h:gT c m w) (q:Pa) {x y:Value} (hx:CR c [l] [x]) (hy:CR c [k] [y]) :
  ∃r,C r/\∃c' z w',(Instr.makeSlice T x y).run P w=.ok z w'/\gT c' m w'/\qK q c m w c' m w'/\CR c' [r] [z]:=by
 unfold HJ at hs
 split at hs
 ·rename_i e k1 n k2 n2 hu
  split at hs
  ·rename_i s zs by_ hsz hzc hby;obtain ⟨rfl,h0,hs0,h1,hzl,h2,hC⟩:=hs;obtain rfl:=hx.inv_lit;obtain rfl:=hy.inv_lit;obtain ⟨i,z,hi,e1,e2,hz,hz1,hz2⟩:=EH hsz hzc hby hzl;subst e1 e2;obtain ⟨u,rfl⟩:∃u:Nat,n=u:=⟨n.toNat,zb⟩
   have hbig:i.bytes*u<=281474976710656:=by
    have:i.bytes*u<=65536*1073741824:=Nat.mul_le_mul h1 zb;omega
   obtain ⟨w',hrun,hown,hg⟩:=run_make_full (P:=P) w 0 T e i z i.size hu hi hz rfl k1 k2 u hbig (by simp only [maxLen];omega) (Ko _);obtain ⟨hlen,hrest⟩:=hown
   have hzcs:CR c (zs.map V.toHp) z.cells.toList:=by
    obtain ⟨z',hz1',hz2',hz3'⟩:=Ag hzc c;have hzz:=hz1' w
    have:z'=z:=by
     have hz0:(zeroValue e).run P w=.ok z w:=by simp [zeroValue,typeInfo,hi,hz]
     rw [hz0] at hzz
     injection hzz with hzz
     exact hzz.symm
    subst this;exact DV hz2'
   have hreps:∀u:Nat,CR c (List.replicate u (zs.map V.toHp)).flatten (List.replicate u z.cells.toList).flatten:=by
    intro u
    induction u with
    | zero=>exact .nil
    | succ u ih=>rw [xdm,xdm,Ll,Ll];exact hzcs.append ih
   have hcells:(madeCells z.cells (u*i.size)).toList=(List.replicate u z.cells.toList).flatten:=by rw [←hz1];exact Et _ _
   rcases hrest with ⟨e1,_⟩ | ⟨g,cap,cur,e1,_,hB,hnc,hcm,hcs,htk⟩
   ·cases e1
   ·injection e1 with e1 e2 e3
    injection e1 with e1
    injection e1 with e1
    subst e1 e3
    have hcur:cur.toList=(madeCells z.cells (u*i.size)).toList:=by
     rw [←htk,xdq (by rw [VG,hcs];exact uZ _)]
    obtain ⟨c',g1,g2,g3⟩:=QJ (q:=q) h hg (rows:=List.replicate u (zs.map V.toHp)) (b:=w.heap.size) (sz:=i.size) (cap:=u) (uZ _) (Array.getElem?_eq_some_iff.1 hB).1 (λj v hj=>by
     rw [←hcells,←hcur] at hj;unfold World.cell?;show (match w'.heap[w.heap.size]? with | some (.cells c _ _)=>if (none:Option Nat).isSome then none else c[j]? | _=>none)=_;rw [hB];simpa using hj) (hreps u) (λr hr=>by rw [(xdn.1 hr).2,Kn,hzl]) hs0 (λv hv=>by
     obtain ⟨l,hl1,hl2⟩:=List.mem_flatten.1 hv;rw [(xdn.1 hl1).2] at hl2;exact hz2 v hl2) hcm (by rw [xeb])
    rw [xeb] at g3;rw [GD] at hC;exact ⟨_,hC,c',_,_,hrun,g1,g2,g3⟩
  ·exact hs.elim
 ·exact hs.elim
def Ms (P:Program) (m:M) (T:TypeId) (v:V) (C:V->M->Prop):Prop:=
 match P.underlying T,v with
 | some (.slice e),.vec id sz len=>
   (match cZ P e,m.hp id with
    | some zs,some vs=>zs.length=sz/\0<len/\len*sz<=vs.length/\C (.tup []) (m.hset id (Kq vs 0 (List.replicate len (zs.map V.toHp)).flatten))
    | _,_=>False)
 | _,_=>False
theorem Xm {T:TypeId} {v:V} {C:V->M->Prop} (hs:Ms P m T v C) (h:gT c m w) (q:Pa) {x:Value} (hx:CR c [v] [x]) (ats:Array TypeId) (hT:ats[0]? = some T) (ty:TypeId) :
  ∃r m',C r m'/\∃c' z w',(Builtin.clear_ ats ty #[x]).run P w=.ok z w'/\gT c' m' w'/\qK q c m w c' m' w'/\CR c' [r] [z]:=by
 unfold Ms at hs
 split at hs
 ·rename_i e id sz len hu
  split at hs
  ·rename_i zs vs hzc hv;obtain ⟨hsz,h0,hlen,hC⟩:=hs;obtain ⟨b,n,cap,hk,hn,hz0,hlc,hcm,rfl⟩:=hx.inv_vec;obtain ⟨z,hz1,hz2,hz3⟩:=Ag hzc c;have hzl:z.cells.size=zs.length:=by have:=hz2.len;simpa using this
   have hreps:∀u:Nat,CR c (List.replicate u (zs.map V.toHp)).flatten (List.replicate u z.cells.toList).flatten:=by
    intro u
    induction u with
    | zero=>exact .nil
    | succ u ih=>rw [xdm,xdm,Ll,Ll];exact (DV hz2).append ih
   have hcells:(Builtin.zeroCells z.cells len).toList=(List.replicate len z.cells.toList).flatten:=by
    rw [←Et];unfold Builtin.zeroCells madeCells;rfl
   have hvl:(List.replicate len (zs.map V.toHp)).flatten.length=len*sz:=by
    rw [←(hreps len).len,←hcells,VG,size_zeroCells,hzl,hsz]
   obtain ⟨w',hrun,hR,hE⟩:=VQ (P:=P) (q:=q) (vs:=(List.replicate len (zs.map V.toHp)).flatten) (i:=0) (o0:=0) h hk hv zb rfl (hcells ▸ hreps len) (by
    intro u hu2;rw [hcells] at hu2;obtain ⟨l,hl1,hl2⟩:=List.mem_flatten.1 hu2;rw [(xdn.1 hl1).2] at hl2;exact hz3 u hl2)
   refine ⟨_,_,hC,c,.tuple #[],w',?_,hR,hE,.tup .nil .nil⟩;obtain ⟨len,rfl⟩:∃k,len=k+1:=⟨len - 1,zb⟩;have hu':(underlying T).run P w=.ok (.slice e) w:=run_underlying hu w;simp only [Builtin.clear_,hT,xdu,xeg,Sem.run_bind,hu',Result.andThen_ok,hz1 w,hrun,Sem.run_pure]
  ·exact hs.elim
 ·exact hs.elim
end
def HB (q:Pa) (c:Conc) (m:M) (w:World) (R:V->M->Prop) (e:Ending) (w':World):Prop:=∃x c' r m',e=.returned x/\R r m'/\gT c' m' w'/\qK q c m w c' m' w'/\CR c' [r] [x]
def SC (P:Program) (f:FuncId) (args:List V) (q:Pa) (m:M) (R:V->M->Prop):Prop:=
 ∀(c:Conc) (xs:List Value) (w:World),gT c m w->CR c args xs->Af c q ->
  ((callFunc f xs.toArray).run P w=.ok (.enter f xs.toArray) w/\Calls P f xs.toArray w (HB q c m w R)) ∨ ∃x w',(callFunc f xs.toArray).run P w=.ok (.value x) w'/\HB q c m w R (.returned x) w'
theorem HB.mono {q:Pa} {c:Conc} {m:M} {w:World} {R R':V->M->Prop} {e:Ending} {w':World} (h:HB q c m w R e w') (hr:∀r m',R r m'->R' r m'):HB q c m w R' e w':=by
 obtain ⟨x,c',r,m',e,hR,k⟩:=h;exact ⟨x,c',r,m',e,hr _ _ hR,k⟩
theorem SC.mono {P:Program} {f:FuncId} {args:List V} {q:Pa} {m:M} {R R':V->M->Prop} (h:SC P f args q m R) (hr:∀r m',R r m'->R' r m'):SC P f args q m R':=by
 intro c xs w h1 h2 h3
 rcases h c xs w h1 h2 h3 with ⟨k1,k2⟩ | ⟨x,w',k1,k2⟩
 ·exact .inl ⟨k1,k2.mono λ_ _ k=>k.mono hr⟩
 ·exact .inr ⟨x,w',k1,k2.mono hr⟩
def Td (P:Program) (cl:Call) (q:Pa) (E:gE) (m:M) (C:V->M->Prop):Prop:=
 match cl.callee with
 | .value f=>(match ev m E f with | .fn (.func g) first captured=>SC P g (first++cl.args.toList.map (ev m E)++captured) q m C | _=>False)
 | .builtin .len=>(match cl.argTypes[0]?,cl.args.toList with | some T,[x]=>PQ P T (ev m E x) (λv=>C v m) | _,_=>False)
 | .builtin .min=>(match cl.args.toList with | [x,y]=>uK false (ev m E x) (ev m E y) (λv=>C v m) | _=>False)
 | .builtin .max=>(match cl.args.toList with | [x,y]=>uK true (ev m E x) (ev m E y) (λv=>C v m) | _=>False)
 | .builtin .append=>(match cl.argTypes.toList,cl.args.toList with | [t,u],[s,x]=>zX P q m t u (ev m E s) (ev m E x) C | _,_=>False)
 | .builtin .clear=>(match cl.argTypes[0]?,cl.args.toList with | some T,[x]=>Ms P m T (ev m E x) C | _,_=>False)
 | _=>False
def jF (P:Program) (o:Oper) (q:Pa) (E:gE) (m:M) (C:V->M->Prop):Prop:=
 match o.op with
 | .move x=>C (ev m E x) m
 | .assign x=>C (ev m E x) m
 | .pick t x y=>(match ev m E t with | .lit (.bool b)=>C (if b then ev m E x else ev m E y) m | _=>False)
 | .alloc T=>(match cZ P T with | some zs=>C (.ptr q 0) (m.set q (zs.map V.raw0)) | none=>False)
 | .box _ x=>(ev m E x).cellsOk=true/\C (.ptr q 0) (m.set q ((ev m E x).cells.map V.raw0))
 | .build T ps=>FO P T (ps.toList.map λp=>(p.1,ev m E p.2)) (λv=>C v m)
 | .buildSlice T n ps=>tU P T n (ps.toList.map λp=>(p.1,ev m E p.2)) (λv=>C v m)
 | .load T x=>yO P m T (ev m E x) (λv=>C v m)
 | .store T a x=>DY P m T (ev m E a) (ev m E x) (λm'=>C (.lit undef) m')
 | .nilCheck x=>(match ev m E x with | .ptr id off=>C (.ptr id off) m | .eptr rows i off=>C (.eptr rows i off) m | .pp id off=>C (.pp id off) m | _=>False)
 | .binOp op T x y _=>uR P op T x y (ev m E x) (ev m E y) (λv=>C v m)
 | .unOp op _ x=>Zl op (ev m E x) (λv=>C v m)
 | .convert s d x=>Dm P s d (ev m E x) (λv=>C v m)
 | .makeSlice T l k=>Mn P q m T l (ev m E l) (ev m E k) C
 | .makeFunc f xs ys=>C (.fn f (xs.toList.map (ev m E)) (ys.toList.map (ev m E))) m
 | .slice T x lo hi none=>FM P T (ev m E x) (lo.map (ev m E)) (hi.map (ev m E)) (λv=>C v m)
 | .fieldAddr T x f=>Ce P T f (ev m E x) (λv=>C v m)
 | .field T x f=>HN P T f (ev m E x) (λv=>C v m)
 | .indexAddr T x i=>Cd P T (ev m E x) (ev m E i) (λv=>C v m)
 | .index T x i=>FN P T (ev m E x) (ev m E i) (λv=>C v m)
 | .extract t i=>(match ev m E t with | .tup vs=>(match vs[i]? with | some v=>C v m | none=>False) | _=>False)
 | .call cl=>Td P cl q E m C
 | _=>False
section
variable {P:Program} {c c':Conc} {m m':M} {w w':World} {E:gE} {a:Act} {N:Nat}
theorem Vi (h:tY c E a N) (hR:gT c m w) (xs:List Operand):CR c (xs.map (ev m E)) (xs.map a.eval):=by
 induction xs with
 | nil=>exact .nil
 | cons x xs ih=>exact (h.ev hR x).cons ih
theorem Wu (h:tY c E a N) (hR:gT c m w) (ps:List (Nat × Operand)):CP c (ps.map λp=>(p.1,ev m E p.2)) (ps.map λp=>(p.1,a.eval p.2)):=by
 induction ps with
 | nil=>exact .nil
 | cons p ps ih=>exact .cons (h.ev hR p.2) ih
def zbh (q:Pa) (N:Nat) (o:Oper) (c:Conc) (E:gE) (m:M) (w:World) (a:Act) (C:V->M->Prop) (a':Act) (w':World):Prop:=
 ∃c' v m',C v m'/\gT c' m' w'/\qK q c m w c' m' w'/\tY c' (mZ o.dst v E) a' N/\a'.defers=a.defers
theorem Ab (a:Act) (d:Option Nat) (v:Value):(a.put d v).defers=a.defers:=by cases d <;> rfl
theorem lC {q:Pa} {o:Oper} {C:V->M->Prop} {Q:Exit->Act->World->Prop} (hE:tY c E a N) (hd:∀d,o.dst=some d->d<N) {x:Value} {v:V} (hrun:(execOp a.eval o).run P w=.ok (.value x) w') (hC:C v m')
  (hR:gT c' m' w') (hX:qK q c m w c' m' w') (hv:CR c' [v] [x]):o.wp P a w (zbh q N o c E m w a C) Q:=by
 unfold Oper.wp;rw [hrun];exact ⟨c',v,m',hC,hR,hX,(hE.mono hX.le).put hv hd,Ab _ _ _⟩
theorem Qy {o:Oper} {q:Pa} {C:V->M->Prop} (hs:jF P o q E m C) (h:gT c m w) (hE:tY c E a N) (hf:Af c q) (hd:∀d,o.dst=some d->d<N) (Q:Exit->Act->World->Prop):o.wp P a w (zbh q N o c E m w a C) Q:=by
 obtain ⟨dst,op,ty,pos,after,guard⟩:=o
 have pure1:∀(s:Sem Value),(execOp a.eval ⟨dst,op,ty,pos,after,guard⟩).run P w=(do pure (.value (←s)):Sem Next).run P w->(∃r,C r m/\∃z,s.run P w=.ok z w/\CR c [r] [z])->Oper.wp P ⟨dst,op,ty,pos,after,guard⟩ a w (zbh q N ⟨dst,op,ty,pos,after,guard⟩ c E m w a C) Q:=by
  rintro s he ⟨r,hC,z,hz,hr⟩;exact lC hE hd (by rw [he,Sem.run_bind,hz];rfl) hC h (.refl q c m w) hr
 cases op with
 | move x=>exact lC hE hd rfl hs h (.refl q c m w) (hE.ev h x)
 | assign x=>exact lC hE hd rfl hs h (.refl q c m w) (hE.ev h x)
 | pick t x y=>
   simp only [jF] at hs
   split at hs
   ·rename_i b hb;have ht:=hE.ev h t;rw [hb] at ht;have ht':=ht.inv_lit;cases b with
    | false=>exact lC hE hd (by simp [execOp,ht',asBool]) hs h (.refl q c m w) (hE.ev h y)
    | true=>exact lC hE hd (by simp [execOp,ht',asBool]) hs h (.refl q c m w) (hE.ev h x)
   ·exact hs.elim
 | alloc T=>
   simp only [jF] at hs
   split at hs
   ·rename_i zs hz;obtain ⟨z,hz1,hz2,hz3⟩:=Ag hz c;obtain ⟨g1,g2⟩:=h.new (q:=q) hf.fW hz2 hz3 T;refine lC (x:=.pointer (some ⟨w.heap.size,0,none⟩)) hE hd ?_ hs g1 g2 (.ptr ?_ .nil)
    ·simp [execOp,Instr.alloc,hz1 w,newVar,newRow]
    ·show (if q=q then some w.heap.size else c.ρ q)=_;rw [cX rfl]
   ·exact hs.elim
 | box T x=>
   simp only [jF] at hs;obtain ⟨ho,hC⟩:=hs;obtain ⟨k1,k2⟩:=Hw (hE.ev h x) ho;obtain ⟨g1,g2⟩:=h.new (q:=q) hf.fW k1 k2 T;refine lC (x:=.pointer (some ⟨w.heap.size,0,none⟩)) hE hd ?_ hC g1 g2 (.ptr ?_ .nil)
   ·simp [execOp,Instr.box,newVar,newRow]
   ·show (if q=q then some w.heap.size else c.ρ q)=_;rw [cX rfl]
 | build T ps=>
   simp only [jF] at hs;obtain ⟨r,hC,z,hz,hr⟩:=Xn (P:=P) hs (qs:=ps.map λ(i,x)=>(i,a.eval x)) (by simpa using Wu hE h ps.toList) w;exact pure1 _ rfl ⟨r,hC,z,hz,hr⟩
 | buildSlice T n ps=>
   simp only [jF] at hs;obtain ⟨r,hC,cells,e,hu,hrun,hnew⟩:=Ow (P:=P) hs h q (qs:=ps.map λ(i,x)=>(i,a.eval x)) (by simpa using Wu hE h ps.toList);obtain ⟨c',g1,g2,g3⟩:=hnew (0,0);refine lC hE hd ?_ hC g1 g2 g3;show Sem.run P (do pure (Next.value (←Instr.buildSlice T n (ps.map λ(i,x)=>(i,a.eval x))))) w=_;rw [Sem.run_bind,hrun];rfl
 | load T x=>
   simp only [jF] at hs;exact pure1 _ rfl (SX hs h (hE.ev h x))
 | store T x y=>
   simp only [jF] at hs;obtain ⟨m',hC,c',w',hrun,g1,g2⟩:=Xd (P:=P) hs h q (hE.ev h x) (hE.ev h y);unfold Oper.wp
   have he:(execOp a.eval ⟨dst,.store T x y,ty,pos,after,guard⟩).run P w=.ok .skip w':=by
    show Sem.run P (do Instr.storeAt T (a.eval x) (a.eval y);pure Next.skip) w=_;rw [Sem.run_bind,hrun];rfl
   rw [he];exact ⟨c',.lit undef,m',hC,g1,g2,(hE.mono g2.le).put (.lit .nil) hd,Ab _ _ _⟩
 | nilCheck x=>
   simp only [jF] at hs
   split at hs
   ·rename_i id off hv;have hx:=hE.ev h x;rw [hv] at hx;obtain ⟨b,hb,he⟩:=hx.inv_ptr;exact lC (x:=.pointer (some ⟨b,off,none⟩)) hE hd (by simp [execOp,he]) hs h (.refl q c m w) (by rw [he] at hx;exact hx)
   ·rename_i rows i off hv;have hx:=hE.ev h x;rw [hv] at hx;obtain ⟨b,o,sz,es,he,_⟩:=hx.inv_eptr;exact lC (x:=.pointer (some ⟨b,o+i*sz+off,none⟩)) hE hd (by simp [execOp,he]) hs h (.refl q c m w) (by rw [he] at hx;exact hx)
   ·rename_i id off hv;have hx:=hE.ev h x;rw [hv] at hx;obtain ⟨b,n,hk,he⟩:=hx.inv_pp;exact lC (x:=.pointer (some ⟨b,off,none⟩)) hE hd (by simp [execOp,he]) hs h (.refl q c m w) (by rw [he] at hx;exact hx)
   ·exact hs.elim
 | binOp op T x y yT=>
   simp only [jF] at hs;exact pure1 _ rfl (sbin_ok hs (hE.ev h x) (hE.ev h y) w)
 | unOp op T x=>
   simp only [jF] at hs;exact pure1 _ rfl (sun_ok hs (hE.ev h x) w)
 | convert s d x=>
   simp only [jF] at hs;obtain ⟨r,hC,c',z,w',hrun,g1,g2,g3⟩:=Zy hs h q (hE.ev h x);refine lC hE hd ?_ hC g1 g2 g3;show Sem.run P (do pure (Next.value (←convert s d (a.eval x)))) w=_;rw [Sem.run_bind,hrun];rfl
 | makeSlice T l k=>
   simp only [jF] at hs
   obtain ⟨r,m',hC,c',z,w',hrun,g1,g2,g3⟩:∃r m',C r m'/\∃c' z w',(Instr.makeSlice T (a.eval l) (a.eval k)).run P w=.ok z w'/\gT c' m' w'/\qK q c m w c' m' w'/\CR c' [r] [z]:=by
    unfold Mn at hs
    split at hs
    ·obtain ⟨r,hC,g⟩:=Xf hs h q (hE.ev h _) (hE.ev h k);exact ⟨r,m,hC,g⟩
    ·exact Zo hs h hf.fW (hE.ev h l) (hE.ev h k)
   refine lC hE hd ?_ hC g1 g2 g3;show Sem.run P (do pure (Next.value (←Instr.makeSlice T (a.eval l) (a.eval k)))) w=_;rw [Sem.run_bind,hrun];rfl
 | makeFunc f xs ys=>
   simp only [jF] at hs;refine lC (x:=.func f (xs.map a.eval) (ys.map a.eval)) hE hd rfl hs h (.refl q c m w) ?_;have:=CR.fn (f:=f) (Vi hE h xs.toList) (Vi hE h ys.toList) .nil;rw [NU a.eval xs,NU a.eval ys];exact this
 | slice T x lo hi mx=>
   cases mx with
   | some _=>exact hs.elim
   | none=>
     simp only [jF] at hs;refine pure1 _ rfl (Xe (lo':=lo.map a.eval) (hi':=hi.map a.eval) hs (hE.ev h x) ?_ ?_ ?_ ?_ w)
     ·intro v hv;cases lo with
      | none=>cases hv
      | some l=>injection hv with hv;subst hv;exact ⟨_,rfl,hE.ev h l⟩
     ·intro hv;cases lo with
      | none=>rfl
      | some l=>cases hv
     ·intro v hv;cases hi with
      | none=>cases hv
      | some l=>injection hv with hv;subst hv;exact ⟨_,rfl,hE.ev h l⟩
     ·intro hv;cases hi with
      | none=>rfl
      | some l=>cases hv
 | fieldAddr T x f=>
   simp only [jF] at hs;exact pure1 _ rfl (UL hs (hE.ev h x) w)
 | field T x f=>
   simp only [jF] at hs;exact pure1 _ rfl (Xl hs (hE.ev h x) w)
 | indexAddr T x i=>
   simp only [jF] at hs;exact pure1 _ rfl (UH hs (hE.ev h x) (hE.ev h i) w)
 | index T x i=>
   simp only [jF] at hs;exact pure1 _ rfl (Xg hs (hE.ev h x) (hE.ev h i) w)
 | extract t i=>
   simp only [jF] at hs
   split at hs
   ·rename_i vs hv
    split at hs
    ·rename_i v hvi;have ht:=hE.ev h t;rw [hv] at ht;obtain ⟨xs,he,k⟩:=ht.inv_tup;obtain ⟨y,hy,k2⟩:=k.get hvi;exact lC (x:=y) hE hd (by simp [execOp,Instr.extract,he,hy]) hs h (.refl q c m w) k2
    ·exact hs.elim
   ·exact hs.elim
 | call cl=>
   obtain ⟨callee,args,ats⟩:=cl;simp only [jF,Td] at hs
   split at hs
   ·rename_i f
    split at hs
    ·rename_i g first captured hv
     have hx:=hE.ev h f;rw [hv] at hx;obtain ⟨xs,ys,he,k1,k2⟩:=hx.inv_fn;have hargs:=(k1.append (Vi hE h args.toList)).append k2
     have hx0:(execOp a.eval ⟨dst,.call ⟨.value f,args,ats⟩,ty,pos,after,guard⟩).run P w=(callFunc g (xs++args.toList.map a.eval++ys).toArray).run P w:=by
      simp only [execOp,resolve,he,Deferred.ofValue,Sem.run_bind,Sem.run_pure,Result.andThen_ok,invoke]
      congr 2
      apply Array.ext';simp
     rcases hs c _ w h hargs hf with ⟨hen,hcall⟩ | ⟨z,w',hval,x,c',r,m',e1,hC,g1,g2,g3⟩
     ·unfold Oper.wp;rw [hx0,hen];refine hcall.mono λe w' ⟨x,c',r,m',e1,hC,g1,g2,g3⟩=>?_;subst e1;exact ⟨c',r,m',hC,g1,g2,(hE.mono g2.le).put g3 hd,Ab _ _ _⟩
     ·injection e1 with e1
      subst e1;exact lC hE hd (by rw [hx0,hval]) hC g1 g2 g3
    ·exact hs.elim
   ·split at hs
    ·rename_i T x hT hx;obtain rfl:args=#[x]:=by cases args;simp_all
     refine pure1 (Builtin.len_ ats ty #[a.eval x]) ?_ (slen_ok hs (hE.ev h x) ats hT ty w);simp only [execOp,resolve,invoke,builtin,Sem.run_bind,Sem.run_pure,Result.andThen_ok,List.map_toArray,yV,Dh]
    ·exact hs.elim
   ·split at hs
    ·rename_i x y hx;obtain rfl:args=#[x,y]:=by cases args;simp_all
     exact pure1 (Builtin.min_ ats ty #[a.eval x,a.eval y]) (by simp only [execOp,resolve,invoke,builtin,Sem.run_bind,Sem.run_pure,Result.andThen_ok,List.map_toArray,yV,Dh]) (smin_ok hs (hE.ev h x) (hE.ev h y) ats ty w)
    ·exact hs.elim
   ·split at hs
    ·rename_i x y hx;obtain rfl:args=#[x,y]:=by cases args;simp_all
     exact pure1 (Builtin.max_ ats ty #[a.eval x,a.eval y]) (by simp only [execOp,resolve,invoke,builtin,Sem.run_bind,Sem.run_pure,Result.andThen_ok,List.map_toArray,yV,Dh]) (smax_ok hs (hE.ev h x) (hE.ev h y) ats ty w)
    ·exact hs.elim
   ·split at hs
    ·rename_i t u s x ht hx;obtain rfl:args=#[s,x]:=by cases args;simp_all
     obtain rfl:ats=#[t,u]:=by cases ats;simp_all
     obtain ⟨r,m',hC,c',z,w',hrun,g1,g2,g3⟩:=UN hs h hf.fW (hE.ev h s) (hE.ev h x) ty;refine lC hE hd ?_ hC g1 g2 g3;show Sem.run P (do let d ←resolve a.eval ⟨.builtin .append,#[s,x],#[t,u]⟩ ty;invoke d.target d.args) w=_;simp only [resolve,invoke,builtin,Sem.run_bind,Sem.run_pure,Result.andThen_ok,List.map_toArray,yV,Dh,hrun]
    ·exact hs.elim
   ·split at hs
    ·rename_i T x hT hx;obtain rfl:args=#[x]:=by cases args;simp_all
     obtain ⟨r,m',hC,c',z,w',hrun,g1,g2,g3⟩:=Xm hs h q (hE.ev h x) ats hT ty;refine lC hE hd ?_ hC g1 g2 g3;show Sem.run P (do let d ←resolve a.eval ⟨.builtin .clear,#[x],ats⟩ ty;invoke d.target d.args) w=_;simp only [resolve,invoke,builtin,Sem.run_bind,Sem.run_pure,Result.andThen_ok,List.map_toArray,yV,Dh,hrun]
    ·exact hs.elim
   ·exact hs.elim
 | _=>exact hs.elim
def mY (P:Program) (full:List Oper) (π:Pa) (K:Nat->gE->M->Prop):List Oper->Nat->gE->M->Prop
 | [],k,E,m=>K k E m
 | o::os,k,E,m=>
   match o.guard with
   | none=>jF P o (k::π) E m (λv m'=>mY P full π K os (k+1) (mZ o.dst v E) m')
   | some (j,b)=>
     match (full[j]?).bind (·.dst) with
     | some d=>
       (match E d with
        | .lit (.bool t)=>if t=b then jF P o (k::π) E m (λv m'=>mY P full π K os (k+1) (mZ o.dst v E) m') else mY P full π K os (k+1) (mZ o.dst (.lit undef) E) m
        | .lit (.tuple _)=>mY P full π K os (k+1) (mZ o.dst (.lit undef) E) m
        | _=>False)
     | none=>False
def EN (π:Pa) (N:Nat) (W:Nat->Bool) (E0:gE) (c:Conc) (m:M) (w:World) (a:Act) (Q:Nat->gE->M->Prop) (a':Act) (w':World):Prop:=
 ∃c' k' E' m',Q k' E' m'/\gT c' m' w'/\qK π c m w c' m' w'/\tY c' E' a' N/\yH c' π k'/\a'.defers=a.defers/\∀t,W t=false->E' t=E0 t
def NT (N:Nat) (ops:List Oper):Bool:=ops.all λo=>match o.dst with | some d=>decide (d<N) | none=>true
theorem POps_ok {full:Array Oper} {π:Pa} {K:Nat->gE->M->Prop} {Q:Exit->Act->World->Prop} {c0:Conc} {m0:M} {w0:World} {a0:Act} {W:Nat->Bool} {E0:gE} (hQ:∀a' w',EN π N W E0 c0 m0 w0 a0 K a' w'->Q .normal a' w') :
  ∀(ops:List Oper) (k:Nat) (E:gE) (c:Conc) (m:M) (w:World) (a:Act),mY P full.toList π K ops k E m->NT N ops=true->gT c m w->tY c E a N->yH c π k->qK π c0 m0 w0 c m w->a.defers=a0.defers->(∀t,W t=false->E t=E0 t)->(∀o ∈ ops,∀d,o.dst=some d->W d=true)->wpList P full Q ops a w:=by
 intro ops
 induction ops with
 | nil=>intro k E c m w a hs _ hR hE hF hX hd hU _;exact hQ a w ⟨c,k,E,m,hs,hR,hX,hE,hF,hd,hU⟩
 | cons o os ih=>
   intro k E c m w a hs hfit hR hE hF hX hd hU hW
   have hU':∀v t,W t=false->mZ o.dst v E t=E0 t:=by
    intro v t ht;cases hdo:o.dst with
    | none=>exact hU t ht
    | some d=>
      have:=hW o zd d hdo;show (if t=d then v else E t)=E0 t;rw [cE (by rintro rfl;rw [ht] at this;cases this)];exact hU t ht
   have hW':∀o' ∈ os,∀d,o'.dst=some d->W d=true:=λo' ho'=>hW o' (by simp [ho']);simp only [NT,List.all_cons,Su] at hfit
   have hfo:∀d,o.dst=some d->d<N:=by
    intro d h;have:=hfit.1;rw [h] at this;simpa using this
   have run:Region.wanted o (yielded full a.tmps)=true->jF P o (k::π) E m (λv m'=>mY P full.toList π K os (k+1) (mZ o.dst v E) m')->wpList P full Q (o::os) a w:=by
    intro hw Kb;refine BigFrame.wpList_want hw λK' hK'=>?_;refine Oper.wp_mono ?_ (Qy (N:=N) Kb hR hE hF.fW hfo Q);rintro a' w' ⟨c',v,m',hC,h1,h2,h3,h4⟩;exact hK' a' w' (ih _ _ c' m' w' a' hC hfit.2 h1 h3 (h2.freshK hF) (hX.trans h2.up) (h4.trans hd) (hU' _) hW')
   simp only [mY] at hs
   split at hs
   ·rename_i hg;exact run (by simp [Region.wanted,hg]) hs
   ·rename_i j b hg
    split at hs
    ·rename_i d hdst
     split at hs
     ·rename_i t ht
      have hy:yielded full a.tmps j=some t:=by
       have hv:=hE.fW d;rw [ht] at hv;have hv':=hv.inv_lit;unfold yielded;have:(full[j]?).bind (·.dst)=some d:=by simpa using hdst
       rw [this];simp only [iX]
       have hdl:a.tmps[d]? = some (.bool t):=by
        rw [VF] at hv';cases hq:a.tmps[d]? with
        | none=>rw [hq] at hv';simp [undef] at hv'
        | some u=>rw [hq] at hv';simp at hv';rw [hv']
       rw [hdl]
      split at hs
      ·rename_i hb;exact run (by simp [Region.wanted,hg,hy,hb]) hs
      ·rename_i hb;have hw:Region.wanted o (yielded full a.tmps)=false:=by simp [Region.wanted,hg,hy,hb]
       unfold wpList;rw [cE (by simp [hw])];exact ih _ _ c m w _ hs hfit.2 hR (hE.put (.lit .nil) hfo) (hF.le zb) hX ((Ab _ _ _).trans hd) (hU' _) hW'
     ·rename_i vs ht
      have hy:yielded full a.tmps j=none:=by
       have hv:=hE.fW d;rw [ht] at hv;have hv':=hv.inv_lit;unfold yielded;have:(full[j]?).bind (·.dst)=some d:=by simpa using hdst
       rw [this];simp only [iX];rw [VF] at hv';cases hq:a.tmps[d]? with
       | none=>rfl
       | some u=>rw [hq] at hv';simp only [Option.getD_some] at hv';rw [hv']
      have hw:Region.wanted o (yielded full a.tmps)=false:=by simp [Region.wanted,hg,hy]
      unfold wpList;rw [cE (by simp [hw])];exact ih _ _ c m w _ hs hfit.2 hR (hE.put (.lit .nil) hfo) (hF.le zb) hX ((Ab _ _ _).trans hd) (hU' _) hW'
     ·exact hs.elim
    ·exact hs.elim
end
def IO (N:Nat):Code->Bool
 | .region _ ops _=>NT N ops.toList
 | .seq a b=>IO N a && IO N b
 | .cond _ a b=>IO N a && IO N b
 | .block _ a=>IO N a
 | .loop a=>IO N a
 | .scope a=>IO N a
 | .rangeFunc _ _ _ _=>false
 | _=>true
def wr:Code->Nat->Bool
 | .region _ ops _,t=>ops.toList.any λo=>o.dst == some t
 | .seq a b,t=>wr a t || wr b t
 | .cond _ a b,t=>wr a t || wr b t
 | .block _ a,t=>wr a t
 | .loop a,t=>wr a t
 | .scope a,t=>wr a t
 | .rangeFunc _ _ _ _,_=>true
 | _,_=>false
def SW (P:Program) (N:Nat) (π:Pa) (code:Code) (k:Nat) (E:gE) (m:M) (Q:Exit->Nat->gE->M->Prop):Prop:=
 IO N code=true->∀(c:Conc) (a:Act) (w:World),gT c m w->tY c E a N->yH c π k->code.wp P (λe a' w'=>EN π N (wr code) E c m w a (Q e) a' w') a w
def vP (n:Nat->gE->M->Prop) (Q:Exit->Nat->gE->M->Prop):Exit->Nat->gE->M->Prop
 | .normal=>n
 | .exit i=>Q (.exit i)
 | .goto l=>Q (.goto l)
 | .ret=>Q .ret
 | .panic ch=>Q (.panic ch)
 | .outgrown=>Q .outgrown
def EJ (id:Nat) (Q:Exit->Nat->gE->M->Prop):Exit->Nat->gE->M->Prop
 | .exit i=>if i=id then Q .normal else Q (.exit i)
 | .normal=>Q .normal
 | .goto l=>Q (.goto l)
 | .ret=>Q .ret
 | .panic ch=>Q (.panic ch)
 | .outgrown=>Q .outgrown
section
variable {P:Program} {N:Nat} {π:Pa} {k:Nat} {E:gE} {m:M} {Q:Exit->Nat->gE->M->Prop}
theorem EN.mono {W W':Nat->Bool} {E0:gE} {c:Conc} {w:World} {a a':Act} {w':World} {R R':Nat->gE->M->Prop} (h:EN π N W E0 c m w a R a' w') (hR:∀k E m,R k E m->R' k E m) (hW:∀t,W' t=false->W t=false):EN π N W' E0 c m w a R' a' w':=by
 obtain ⟨c',k',E',m',h1,h2,h3,h4,h5,h6,h7⟩:=h;exact ⟨c',k',E',m',hR _ _ _ h1,h2,h3,h4,h5,h6,λt ht=>h7 t (hW t ht)⟩
theorem EN.here {W:Nat->Bool} {c:Conc} {w:World} {a:Act} {R:Nat->gE->M->Prop} (h:R k E m) (hR:gT c m w) (hE:tY c E a N) (hF:yH c π k):EN π N W E c m w a R a w:=
 ⟨c,k,E,m,h,hR,.refl π c m w,hE,hF,rfl,λ_ _=>rfl⟩
theorem EN.trans {W W' W'':Nat->Bool} {E0 E1:gE} {c c1:Conc} {m1:M} {w w1 w2:World} {a a1 a2:Act} {R:Nat->gE->M->Prop} (h:EN π N W E1 c1 m1 w1 a1 R a2 w2) (hX:qK π c m w c1 m1 w1) (hd:a1.defers=a.defers) (h1:∀t,W' t=false->E1 t=E0 t)
  (hW:∀t,W'' t=false->W t=false/\W' t=false):EN π N W'' E0 c m w a R a2 w2:=by
 obtain ⟨c',k',E',m',g1,g2,g3,g4,g5,g6,g7⟩:=h;exact ⟨c',k',E',m',g1,g2,hX.trans g3,g4,g5,g6.trans hd,λt ht=>(g7 t (hW t ht).1).trans (h1 t (hW t ht).2)⟩
theorem FJ {code:Code} {Q':Exit->Nat->gE->M->Prop} (h:SW P N π code k E m Q) (hq:∀e k E m,Q e k E m->Q' e k E m):SW P N π code k E m Q':=
 λhf c a w h1 h2 h3=>wp_mono (h hf c a w h1 h2 h3) λe _ _ hp=>hp.mono (hq e) (λ_ x=>x)
theorem dA (h:Q .normal k E m):SW P N π .skip k E m Q:=λ_ _ _ _ h1 h2 h3=>wp_skip (.here h h1 h2 h3)
theorem lM {id:Nat} (h:Q (.exit id) k E m):SW P N π (.exit id) k E m Q:=λ_ _ _ _ h1 h2 h3=>wp_exit (.here h h1 h2 h3)
theorem dI (h:Q .ret k E m):SW P N π .ret k E m Q:=λ_ _ _ _ h1 h2 h3=>wp_ret (.here h h1 h2 h3)
theorem aR {x y:Code} (h:SW P N π x k E m (vP (λk E m=>SW P N π y k E m Q) Q)):SW P N π (.seq x y) k E m Q:=by
 intro hf c a w h1 h2 h3;simp only [IO,Su] at hf;have hW:∀t,wr (.seq x y) t=false->wr x t=false/\wr y t=false:=by intro t ht;simpa [wr] using ht
 refine wp_seq (wp_mono (h hf.1 c a w h1 h2 h3) ?_);intro e a' w' hp;cases e with
 | normal=>
   obtain ⟨c',k',E',m',g1,g2,g3,g4,g5,g6,g7⟩:=hp;show y.wp P _ a' w';refine wp_mono (g1 hf.2 c' a' w' g2 g4 g5) λe2 a2 w2 hp2=>?_;exact hp2.trans g3 g6 g7 (λt ht=>⟨(hW t ht).2,(hW t ht).1⟩)
 | _=>exact hp.mono (λ_ _ _ x=>x) (λt ht=>(hW t ht).1)
theorem Br {x y:Code} {t:Operand} (b:Bool) (hb:ev m E t=.lit (.bool b)) (h:SW P N π (if b then x else y) k E m Q):SW P N π (.cond t x y) k E m Q:=by
 intro hf c a w h1 h2 h3;simp only [IO,Su] at hf;have ht:=h2.ev h1 t;rw [hb] at ht;refine wp_cond (t:=b) ht.inv_lit ?_;cases b with
 | true=>exact wp_mono (h hf.1 c a w h1 h2 h3) λe _ _ hp=>hp.mono (λ_ _ _ x=>x) (λt ht=>by simp [wr] at ht;exact ht.1)
 | false=>exact wp_mono (h hf.2 c a w h1 h2 h3) λe _ _ hp=>hp.mono (λ_ _ _ x=>x) (λt ht=>by simp [wr] at ht;exact ht.2)
theorem WI {x y:Code} {t:Operand} (b:Bool) (hb:ev m E t=.lit (.bool b)) (ht:b=true->SW P N π x k E m Q) (hf:b=false->SW P N π y k E m Q):SW P N π (.cond t x y) k E m Q:=by
 refine Br b hb ?_;cases b with
 | true=>exact ht rfl
 | false=>exact hf rfl
theorem dY {id:Nat} {x:Code} (h:SW P N π x k E m (EJ id Q)):SW P N π (.block id x) k E m Q:=by
 intro hf c a w h1 h2 h3;refine wp_block (wp_mono (h hf c a w h1 h2 h3) ?_);intro e a' w' hp;cases e with
 | exit i=>
   show if i=id then _ else _
   by_cases hi:i=id
   ·rw [cX hi];have hp':EN π N (wr x) E c m w a (EJ id Q (.exit i)) a' w':=hp;simp only [EJ,hi,if_true] at hp';exact hp'
   ·rw [cE hi];have hp':EN π N (wr x) E c m w a (EJ id Q (.exit i)) a' w':=hp;simp only [EJ,hi,if_false] at hp';exact hp'
 | _=>exact hp
theorem QV {id:Nat} {ops:Array Oper} (h:mY P ops.toList π (Q .normal) ops.toList k E m):SW P N π (.region id ops false) k E m Q:=by
 intro hf c a w h1 h2 h3;refine wp_region_list ?_;refine POps_ok (W:=wr (.region id ops false)) (E0:=E) (c0:=c) (m0:=m) (w0:=w) (a0:=a) (λa' w' hp=>hp) ops.toList k E c m w a h hf h1 h2 h3 (.refl π c m w) rfl (λ_ _=>rfl) ?_;intro o ho d hd;simp only [wr,List.any_eq_true,beq_iff_eq];exact ⟨o,ho,hd⟩
theorem SW_loop {body:Code} (Inv:gE->M->Prop) (μ:gE->M->Nat) (h0:Inv E m)
  (step:∀(i:Nat) (E':gE) (m':M),Inv E' m'->(∀t,wr body t=false->E' t=E t)->SW P N (i::k::π) body 0 E' m' (λe _ E2 m2=>match e with | .normal=>Inv E2 m2/\μ E2 m2<μ E' m' | e=>Q e (k+1) E2 m2)) :
  SW P N π (.loop body) k E m Q:=by
 intro hf c a w h1 h2 h3;have hfr:∀ {c1:Conc} {m1:M} {w1:World},qK (k::π) c m w c1 m1 w1->yH c1 π (k+1):=λhx=>hx.freshK h3;refine wp_loop_rounds (μ E m+1) ?_
 have key:∀(n i:Nat) (E1:gE) (m1:M) (c1:Conc) (a1:Act) (w1:World),Inv E1 m1->μ E1 m1<n->gT c1 m1 w1->tY c1 E1 a1 N->(∀j,i<=j->Af c1 (j::k::π))->qK (k::π) c m w c1 m1 w1->a1.defers=a.defers->(∀t,wr body t=false->E1 t=E t) ->
   Code.rounds P body (λe a' w'=>EN π N (wr body) E c m w a (Q e) a' w') n a1 w1:=by
  intro n
  induction n with
  | zero=>intro i E1 m1 c1 a1 w1 _ hlt;omega
  | succ n ih=>
    intro i E1 m1 c1 a1 w1 hI hlt g1 g2 g3 g4 g5 g6;rw [rounds_succ];have hb:=step i E1 m1 hI g6 hf c1 a1 w1 g1 g2 (λj _ id gG=>g3 i (uZ _) id (HE gG));refine wp_mono hb λe a' w' hp=>?_;obtain ⟨c2,k2,E2,m2,q1,q2,q3,q4,q5,q6,q7⟩:=hp;have hX:qK (k::π) c m w c2 m2 w':=g4.trans q3.up;have hU:∀t,wr body t=false->E2 t=E t:=λt ht=>(q7 t ht).trans (g6 t ht);cases e with
    | normal=>
      refine ih (i+1) E2 m2 c2 a' w' q1.1 (by have:=q1.2;omega) q2 q4 ?_ hX (q6.trans g5) hU;intro j hj id gG;exact q3.fresh id (DJ gG zb) (g3 j zb id gG)
    | _=>exact ⟨c2,k+1,E2,m2,q1,q2,hX.up,q4,hfr hX,q6.trans g5,hU⟩
 exact key (μ E m+1) 0 E m c a w h0 zb h1 h2 (λj _ id gG=>h3 k (uZ _) id (HE gG)) (.refl _ c m w) rfl (λ_ _=>rfl)
end
def M.back (q:Pa) (m m':M):M:=
 { blk:=λid=>if q.isSuffixOf id then m.blk id else m'.blk id,ver:=λid=>if q.isSuffixOf id then m.ver id else m'.ver id,tok:=λid=>if q.isSuffixOf id then m.tok id else m'.tok id,gl:=m'.gl,hp:=m'.hp }
theorem CZ.back {c:Conc} {m m':M} {q id:Pa} (h:CZ c m' id) (gG:¬ q <:+ id):CZ c (m.back q m') id:=by
 have hs:¬ q.isSuffixOf id=true:=λe=>gG (Px.1 e);refine ⟨?_,h.anon,h.cell,λoff=>?_,λj=>?_⟩
 ·show (if q.isSuffixOf id then m.blk id else m'.blk id)=none;rw [cE hs];exact h.blk
 ·show (if q.isSuffixOf id then m.ver id else m'.ver id) off=0;rw [cE hs];exact h.ver off
 ·show (if q.isSuffixOf id then m.tok id else m'.tok id) j=false;rw [cE hs];exact h.tok j
theorem gT.back {c c':Conc} {m m':M} {w w':World} {q:Pa} (h:gT c m w) (hf:Af c q) (h':gT c' m' w'):gT c' (m.back q m') w'/\∀b,fN c' (m.back q m') b->fN c' m' b:=by
 have hsub:∀id,q.isSuffixOf id=true->m.blk id=none/\(∀off,m.ver id off=0)/\∀j,m.tok id j=false:=by
  intro id gG;have hf':=hf id (Px.1 gG);exact ⟨h.fresh_blk hf',(h.ver0 id hf').1,(h.ver0 id hf').2⟩
 have hb:∀id vs,(m.back q m').blk id=some vs->q.isSuffixOf id=false/\m'.blk id=some vs:=by
  intro id vs hv;have hv':(if q.isSuffixOf id then m.blk id else m'.blk id)=some vs:=hv;cases hs:q.isSuffixOf id with
  | true=>rw [cX hs,(hsub id hs).1] at hv';cases hv'
  | false=>rw [cE (by simp [hs])] at hv';exact ⟨rfl,hv'⟩
 have hbn:∀id,(m.back q m').blk id ≠ none->q.isSuffixOf id=false/\m'.blk id ≠ none:=by
  intro id gG;obtain ⟨vs,hv⟩:∃vs,(m.back q m').blk id=some vs:=by cases hx:(m.back q m').blk id with | none=>exact cM hx gG | some vs=>exact ⟨vs,rfl⟩
  obtain ⟨h1,h2⟩:=hb id vs hv;exact ⟨h1,by rw [h2];simp⟩
 have hver:∀id,q.isSuffixOf id=false->(m.back q m').ver id=m'.ver id:=by
  intro id hs;show (if q.isSuffixOf id then m.ver id else m'.ver id)=_;rw [cE (by simp [hs])]
 have hlive:∀s,gJ (m.back q m') s=true->gJ m' s=true:=by
  intro s hl;cases s with
  | anon i j=>
    have hl':(if q.isSuffixOf i then m.tok i else m'.tok i) j=true:=hl;cases hs:q.isSuffixOf i with
    | true=>rw [cX hs,(hsub i hs).2.2 j] at hl';cases hl'
    | false=>rw [cE (by simp [hs])] at hl';exact hl'
  | priv b=>exact hl
  | cell i off v=>
    obtain ⟨h1,vs,rows,h2,h3⟩:=vH hl;obtain ⟨h4,h5⟩:=hb i vs h2;rw [hver i h4] at h1;exact vD h1 h5 h3
 have hown:∀b,fN c' (m.back q m') b->fN c' m' b:=by
  rintro b (⟨id,gG,hr⟩ | ⟨s,cap,sz,len,hl,hk⟩)
  ·exact .inl ⟨id,(hbn id gG).2,hr⟩
  ·exact .inr ⟨s,cap,sz,len,hlive s hl,hk⟩
 refine ⟨⟨h'.com,λid vs hv=>?_,λid id' b hi hi'=>h'.inj id id' b (hbn id hi).2 (hbn id' hi').2,λs b cap sz len hl hk=>?_,λs s' b cap sz len cap' sz' len' hl hl'=>h'.ownInj s s' b cap sz len cap' sz' len' (hlive s hl) (hlive s' hl'),λid off v hi hv=>?_,h'.gl,λid gG=>⟨λoff=>?_,λj=>?_⟩,h'.base,λb hl=>⟨(h'.lit b hl).1,(h'.lit b hl).2.1,λho=>(h'.lit b hl).2.2 (hown b ho)⟩,λb vs hv=>h'.hpr b vs hv⟩,hown⟩
 ·obtain ⟨h1,h2⟩:=hb id vs hv;obtain ⟨b,cs,t,k1,k2,k3,k4,k5⟩:=h'.blk id vs h2;exact ⟨b,cs,t,k1,k2,by rw [hver id h1];exact k3,k4,k5⟩
 ·obtain ⟨k1,k2,k3,k4⟩:=h'.own s b cap sz len (hlive s hl) hk;exact ⟨k1,k2,λid gG=>k3 id (hbn id gG).2,k4⟩
 ·obtain ⟨h1,h2⟩:=hbn id hi;rw [hver id h1] at hv;exact h'.ver id off v h2 hv
 ·show (if q.isSuffixOf id then m.ver id else m'.ver id) off=0
  split
  ·rename_i hs;exact (hsub id hs).2.1 off
  ·exact (h'.ver0 id gG).1 off
 ·show (if q.isSuffixOf id then m.tok id else m'.tok id) j=false
  split
  ·rename_i hs;exact (hsub id hs).2.2 j
  ·exact (h'.ver0 id gG).2 j
def XE (args:List V):gE:=λt=>args.getD t (.lit undef)
theorem Vc {c:Conc} {args:List V} {xs:List Value} (h:CR c args xs) (N:Nat):tY c (XE args) { tmps:=xs.toArray++Array.replicate (N - xs.length) undef,defers:=[] } N:=by
 refine ⟨by simp;omega,λt=>?_⟩;show CR c [args.getD t (.lit undef)] [(xs.toArray++Array.replicate (N - xs.length) undef).getD t undef]
 by_cases ht:t<args.length
 ·have hx:t<xs.length:=by rw [h.len];exact ht
  obtain ⟨x,hx1,hx2⟩:=h.get (yN ht);have e1:args.getD t (.lit undef)=args[t]:=by simp [List.getD,ht]
  have e2:(xs.toArray++Array.replicate (N - xs.length) undef).getD t undef=x:=by
   rw [yN hx] at hx1
   injection hx1 with hx1
   rw [VF,Array.getElem?_append_left (by simpa using hx)];simp [hx,hx1]
  rw [e1,e2];exact hx2
 ·have hx:¬ t<xs.length:=by rw [h.len];exact ht
  have e1:args.getD t (.lit undef)=.lit undef:=by simp [List.getD,ht]
  have e2:(xs.toArray++Array.replicate (N - xs.length) undef).getD t undef=undef:=by
   rw [VF,Array.getElem?_append_right (by simp;omega)];simp only [xef,Array.getElem?_replicate]
   split <;> rfl
  rw [e1,e2];exact .lit .nil
def Zz (P:Program) (E:gE) (m:M) (r:ResultVar) (C:V->Prop):Prop:=
 match r with
 | .tmp t=>C (E t)
 | .cell p T=>yO P m T (E p) C
def UQ (P:Program) (E:gE) (m:M):List ResultVar->(List V->Prop)->Prop
 | [],C=>C []
 | r::rs,C=>Zz P E m r λv=>UQ P E m rs λvs=>C (v::vs)
def Mu (P:Program) (E:gE) (m:M) (rs:List ResultVar) (C:V->Prop):Prop:=
 UQ P E m rs λvs=>match vs with | [v]=>C v | vs=>C (.tup vs)
section
variable {P:Program} {c:Conc} {m:M} {w:World} {E:gE} {a:Act} {N:Nat}
def KQ (tmps:Array Value):ResultVar->Sem Value
 | .tmp t=>pure (tmps.getD t undef)
 | .cell p t=>do loadVar t (←asAddr (tmps.getD p undef))
theorem Xq {r:ResultVar} {C:V->Prop} (hs:Zz P E m r C) (h:gT c m w) (hE:tY c E a N):∃v,C v/\∃x,(KQ a.tmps r).run P w=.ok x w/\CR c [v] [x]:=by
 cases r with
 | tmp t=>exact ⟨_,hs,_,rfl,hE.fW t⟩
 | cell p T=>
   have hs':yO P m T (E p) C:=hs;obtain ⟨v,hC,z,hz,hr⟩:=SX hs' h (hE.fW p);refine ⟨v,hC,z,?_,hr⟩
   have hp:∃b o,a.tmps.getD p undef=.pointer (some ⟨b,o,none⟩):=by
    cases hc:DF m (E p) with
    | none=>unfold yO at hs';rw [hc] at hs';exact hs'.elim
    | some vs=>
      obtain ⟨b,o,xs,he,_⟩:=Pn h (hE.fW p) hc;exact ⟨b,o,he⟩
   obtain ⟨b,o,he⟩:=hp;rw [he] at hz;show (do loadVar T (←asAddr (a.tmps.getD p undef)):Sem Value).run P w=_;rw [he];simpa [Instr.loadAt,Instr.sureAddr,asAddr] using hz
theorem Xr {rs:List ResultVar}:∀ {C:List V->Prop},UQ P E m rs C->gT c m w->tY c E a N->∃vs,C vs/\∃xs,(rs.mapM (KQ a.tmps)).run P w=.ok xs w/\CR c vs xs:=by
 induction rs with
 | nil=>intro C hs h hE;exact ⟨[],hs,[],rfl,.nil⟩
 | cons r rs ih=>
   intro C hs h hE;obtain ⟨v,hs2,x,hx,hv⟩:=Xq hs h hE;obtain ⟨vs,hC,xs,hxs,hvs⟩:=ih hs2 h hE;refine ⟨v::vs,hC,x::xs,?_,hv.cons hvs⟩;rw [List.mapM_cons];simp [hx,hxs]
theorem VP {fn:Func} {C:V->Prop} (hs:Mu P E m fn.results.toList C) (h:gT c m w) (hE:tY c E a N):∃v,C v/\∃x,(results fn a.tmps).run P w=.ok x w/\CR c [v] [x]:=by
 obtain ⟨vs,hC,xs,hxs,hvs⟩:=Xr (C:=λvs=>match vs with | [v]=>C v | vs=>C (.tup vs)) hs h hE
 have he:results fn a.tmps=(do
   let vs ←fn.results.mapM (KQ a.tmps)
   pure (if h:vs.size=1 then vs[0] else .tuple vs)):=by
  unfold results
  congr 1
 have hr:(results fn a.tmps).run P w=.ok (if h:xs.toArray.size=1 then xs.toArray[0] else .tuple xs.toArray) w:=by
  rw [he];simp [xeq,hxs]
 rw [hr]
 match vs,hC,hvs with
 | [v],hC,hvs=>obtain ⟨x,rfl,hv⟩:=hvs.inv_one;exact ⟨v,hC,x,rfl,hv⟩
 | [],hC,hvs=>rw [hvs.inv_nil];exact ⟨_,hC,_,rfl,.tup .nil .nil⟩
 | v::u::vs,hC,hvs=>
   have hl:=hvs.len;refine ⟨_,hC,_,rfl,?_⟩;rw [dif_neg (by simp [hl])];exact .tup hvs .nil
end
theorem SC_of {P:Program} {f:FuncId} {fn:Func} {body:Code} {args:List V} {q:Pa} {m:M} {R:V->M->Prop} (hf:P.funcs[f]? = some fn) (hb:fn.body=some body) (hen:∀(xs:Array Value) (w:World),(callFunc f xs).run P w=.ok (.enter f xs) w)
  {N:Nat} (hN:fn.ntmps=N) (hfit:IO N body=true) {rs:List ResultVar} (hrs:fn.results.toList=rs) (wk:V->V) (hwk:∀(c:Conc) v x,CR c [v] [x]->CR c [wk v] [x])
  (h:SW P N q body 0 (XE args) m λe _ E' m'=>(e=.ret ∨ e=.normal)/\Mu P E' m' rs λr=>R (wk r) (m.back q m')):SC P f args q m R:=by
 intro c xs w h1 h2 h3;refine .inl ⟨hen _ w,?_⟩;subst hN hrs;have hini:=Vc h2 fn.ntmps;refine calls_of_wp hf hb ?_;rw [xef];refine wp_mono (h hfit c _ w h1 hini h3.sub) ?_;intro e a' w' hp;obtain ⟨c',k',E',m',⟨he,hres⟩,g2,g3,g4,g5,g6,g7⟩:=hp;obtain ⟨v,hC,x,hx,hv⟩:=VP hres g2 g4;obtain ⟨hback,hown⟩:=h1.back h3 g2;have hX:qK q c m w c' (m.back q m') w':=⟨g3.le,g3.os,g3.tape,g3.output,g3.size,g3.heap,g3.book,λb hb ho=>g3.own b hb (hown b ho),g3.fresh,λid gG hb=>(g3.keep id gG hb).back gG,g3.lits⟩
 have hdone:a'.defers=[]/\∃v,(results fn a'.tmps).run P w'=.ok v w'/\∃x c' r m',Ending.returned v=.returned x/\R r m'/\gT c' m' w'/\qK q c m w c' m' w'/\CR c' [r] [x]:=
  ⟨g6,x,hx,x,c',wk v,m.back q m',rfl,hC,hback,hX,hwk c' v x hv⟩
 rcases he with rfl | rfl
 ·exact hdone
 ·exact hdone
