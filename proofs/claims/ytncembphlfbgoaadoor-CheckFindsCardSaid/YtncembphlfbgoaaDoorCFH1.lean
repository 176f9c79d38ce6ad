/-
 vB helper theorems of no one function: slices of the private heap (oK, eP), and what a call may leave of a block that has such slices.
-/
import Derived.Test.YtncembphlfbgoaaDoorCFS3
import Derived.Test.YtncembphlfbgoaaDoorCFGMm
namespace Go.Proofs.YtncembphlfbgoaaDoor.Abs
open Go.RowKit
abbrev Hp:=Pa->Option (List V)
def oK (v:V) (sz n:Nat):Prop:=(v=.nilv/\n=0) ∨ ∃id,v=.vec id sz n
def lO:V->Pa
 | .vec id _ _=>id
 | _=>[]
def hM:V->List Pa
 | .vec id _ _=>[id]
 | _=>[]
def rU:V->Nat->V
 | .vec id sz _,n=>.vec id sz n
 | v,_=>v
section
variable {v:V} {sz n:Nat}
theorem oK.cells (h:oK v sz n):v.cells=[v]:=by rcases h with ⟨rfl,_⟩ | ⟨id,rfl⟩ <;> rfl
theorem oK.cok (h:oK v sz n):v.cellsOk=true:=by rcases h with ⟨rfl,_⟩ | ⟨id,rfl⟩ <;> rfl
theorem oK.shr (h:oK v sz n):v.shared=v:=by rcases h with ⟨rfl,_⟩ | ⟨id,rfl⟩ <;> rfl
theorem oK.wk (h:oK v sz n):v.weak=v:=by rcases h with ⟨rfl,_⟩ | ⟨id,rfl⟩ <;> rfl
theorem oK.ld (h:oK v sz n) {s:nQ}:v.ld s=v:=by rcases h with ⟨rfl,_⟩ | ⟨id,rfl⟩ <;> rfl
theorem oK.st1 (h:oK v sz n) {m:M} {id:Pa} {cs:List V} {off:Nat}:M.st1 m id cs off v=m.set id (cs.set off v):=by rcases h with ⟨rfl,_⟩ | ⟨id,rfl⟩ <;> rfl
theorem oK.cut (h:oK v sz n) {k:Nat} (hk:k<=n):oK (rU v k) sz k:=by
 rcases h with ⟨rfl,rfl⟩ | ⟨id,rfl⟩
 ·exact .inl ⟨rfl,by omega⟩
 ·exact .inr ⟨id,rfl⟩
theorem oK.slen (h:oK v sz n) {e:TypeId} {C:V->Prop}:DX (.sl e) v C=C (.lit (.int .i64 n)):=by
 rcases h with ⟨rfl,rfl⟩ | ⟨id,rfl⟩ <;> rfl
theorem oK.sl (h:oK v sz n) {P:Program} {e:TypeId} {lo hi:Option V} {C:V->Prop} {l k:Int} {s:Nat} (hs:cB P e=some s) (hl:iE lo 0=some l) (hh:iE hi n=some k) (h0:l=0) (h1:0<=k) (h2:k<=n):Fb P (.sl e) v lo hi C=C (rU v k.toNat):=by
 apply propext
 rcases h with ⟨rfl,rfl⟩ | ⟨id,rfl⟩
 ·have e0:k=0:=by omega
  have hh':iE hi 0=some k:=hh;rw [slU_n,hs,hl,hh',Is];exact ⟨fun x=>x.2.2,fun x=>⟨h0,e0,x⟩⟩
 ·rw [slU_v,hs,hl,hh,Ir];exact ⟨fun x=>x.2.2.2,fun x=>⟨h0,h1,h2,x⟩⟩
theorem oK.ix (h:oK v sz n) {P:Program} {e:TypeId} {k:IntKind} {i:Int} {C:V->Prop} (hs:cB P e=some sz) (h0:0<=i) (h1:i<n):mS P (.sl e) v (.lit (.int k i)) C=C (.pp (lO v) (i.toNat*sz)):=by
 apply propext
 rcases h with ⟨rfl,rfl⟩ | ⟨id,rfl⟩
 ·exact absurd h1 (by omega)
 ·rw [Fd,hs,Ja];exact ⟨fun x=>x.2.2.2,fun x=>⟨rfl,h0,h1,x⟩⟩
end
def eP (h:Hp) (v:V) (sz:Nat) (rows:List (List V)):Prop:=
 (∀r ∈ rows,r.length=sz)/\((v=.nilv/\rows=[]) ∨ ∃id vs,v=.vec id sz rows.length/\h id=some vs/\vs.take (rows.length*sz)=rows.flatten)
def Al (h:Hp) (v:V) (q:Pa) (vs:List V):Hp:=fun i=>if i=q then some vs else if i ∈ hM v then none else h i
section
variable {h h':Hp} {v:V} {sz:Nat} {rows:List (List V)}
theorem eP.sh (hv:eP h v sz rows):oK v sz rows.length:=by
 obtain ⟨_,⟨rfl,rfl⟩ | ⟨id,vs,rfl,_⟩⟩:=hv
 ·exact .inl ⟨rfl,rfl⟩
 ·exact .inr ⟨id,rfl⟩
theorem eP.live (hv:eP h v sz rows) {id:Pa} (hi:id ∈ hM v):h id ≠ none:=by
 obtain ⟨_,⟨rfl,rfl⟩ | ⟨id',vs,rfl,e,_⟩⟩:=hv
 ·cases hi
 ·have:id=id':=by simpa [hM] using hi
  rw [this,e];exact fun x=>nomatch x
theorem eP.frame (hv:eP h v sz rows) (hf:∀id ∈ hM v,h' id=h id):eP h' v sz rows:=by
 obtain ⟨h1,⟨rfl,rfl⟩ | ⟨id,vs,rfl,e,h2⟩⟩:=hv
 ·exact ⟨h1,.inl ⟨rfl,rfl⟩⟩
 ·exact ⟨h1,.inr ⟨id,vs,rfl,(hf id (by simp [hM])).trans e,h2⟩⟩
theorem eP.nil (h:Hp) (sz:Nat):eP h .nilv sz []:=⟨fun _ hr=>(nomatch hr),.inl ⟨rfl,rfl⟩⟩
theorem Hs {sz:Nat}:∀ {rows:List (List V)} (k:Nat),(∀r ∈ rows,r.length=sz)->(rows.take k).flatten=rows.flatten.take (k*sz)
 | rows,k,h=>(yP rows k h).1
theorem eP.cut (hv:eP h v sz rows) {k:Nat} (hk:k<=rows.length):eP h (rU v k) sz (rows.take k):=by
 obtain ⟨h1,⟨rfl,rfl⟩ | ⟨id,vs,rfl,e,h2⟩⟩:=hv
 ·exact ⟨fun r hr=>h1 r (List.mem_of_mem_take hr),.inl ⟨rfl,by simp⟩⟩
 ·refine ⟨fun r hr=>h1 r (List.mem_of_mem_take hr),.inr ⟨id,vs,?_,e,?_⟩⟩
  ·show V.vec id sz k=_;rw [List.length_take,Nat.min_eq_left hk]
  ·rw [List.length_take,Nat.min_eq_left hk,Hs k h1,←h2,List.take_take,Nat.min_eq_left (Nat.mul_le_mul_right _ hk)]
theorem HA {k:Nat}:hM (rU v k)=hM v:=by cases v <;> rfl
theorem eP.fC (hv:eP h v sz rows) {i:Nat} {r:List V} (hr:rows[i]? = some r):∃vs rest,h (lO v)=some vs/\rows.length*sz<=vs.length/\(∀k,k<=sz->vs.drop (i*sz+k)=r.drop k++rest)/\v=.vec (lO v) sz rows.length:=by
 obtain ⟨h1,⟨rfl,rfl⟩ | ⟨id,vs,rfl,e,h2⟩⟩:=hv
 ·cases hr
 ·have hlt:i<rows.length:=(List.getElem?_eq_some_iff.1 hr).1;have hfl:=Af h1 hr
  have hle:rows.length*sz<=vs.length:=by
   have:=congrArg List.length h2;rw [List.length_take,hfl.1] at this;omega
  have hle2:i*sz+sz<=rows.length*sz:=by
   have:(i+1)*sz<=rows.length*sz:=Nat.mul_le_mul_right _ hlt;rw [Nat.succ_mul] at this;exact this
  have hrl:r.length=sz:=h1 r (List.mem_of_getElem? hr)
  have hd0:vs.drop (i*sz)=r++vs.drop (i*sz+sz):=by
   have e1:(vs.drop (i*sz)).take sz=r:=by
    rw [←hfl.2,←h2,List.drop_take,List.take_take,Nat.min_eq_left (by omega)]
   have e2:=List.take_append_drop sz (vs.drop (i*sz));rw [e1,List.drop_drop] at e2;exact e2.symm
  refine ⟨vs,vs.drop (i*sz+sz),e,hle,fun k hk=>?_,rfl⟩;rw [←List.drop_drop,hd0,List.drop_append_of_le_length (by omega)]
theorem apH_q {q:Pa} {vs:List V}:Al h v q vs q=some vs:=by unfold Al;rw [if_pos rfl]
theorem sL {q id:Pa} {vs:List V} (h1:id ≠ q) (h2:id ∉ hM v):Al h v q vs id=h id:=by unfold Al;rw [if_neg h1,if_neg h2]
theorem eP.app (hv:eP h v sz rows) {q:Pa} {rows2:List (List V)} (h2:∀r ∈ rows2,r.length=sz):eP (Al h v q (rows++rows2).flatten) (.vec q sz (rows++rows2).length) sz (rows++rows2):=by
 refine ⟨fun r hr=>(List.mem_append.1 hr).elim (hv.1 r) (h2 r),.inr ⟨q,_,rfl,apH_q,?_⟩⟩;rw [←tY (rows:=rows++rows2) (sz:=sz) (fun r hr=>(List.mem_append.1 hr).elim (hv.1 r) (h2 r)),List.take_length]
theorem M.ext_hp {m1 m2:M} (h1:m1.blk=m2.blk) (h2:m1.ver=m2.ver) (h3:m1.tok=m2.tok) (h4:m1.gl=m2.gl) (h5:m1.hp=m2.hp):m1=m2:=by
 cases m1;cases m2;simp_all
def M.seth (m:M) (h:Hp):M:={ m with hp:=h }
theorem AW {P:Program} {q:Pa} {m:M} {e:TypeId} {rows2:List (List V)} {CM:V->M->Prop} (hv:eP m.hp v sz rows) {zs:List V} {by_:Nat} (hs:cB P e=some sz) (hz:dC P e=some zs) (hb:(P.info? e).map (·.bytes)=some by_)
  (h0:0<sz) (hby:by_<=65536) (hzl:zs.length=sz) (h2:∀r ∈ rows2,r.length=sz) (hn:0<rows2.length) (hl:rows.length+rows2.length<=1073741824)
  (hC:CM (.vec q sz (rows.length+rows2.length)) (m.seth (Al m.hp v q (rows.flatten++rows2.flatten.map V.toHp)))):DE P q m (.sl e) v (some rows2) CM:=by
 obtain ⟨h1,⟨rfl,rfl⟩ | ⟨id,vs,rfl,he,hv2⟩⟩:=hv
 ·rw [appU_n,hs,hz,hb,HO];refine ⟨h0,hby,hzl,h2,hn,by simpa using hl,?_⟩
  have e:m.hset q (rows2.flatten.map V.toHp)=m.seth (Al m.hp .nilv q (([]:List (List V)).flatten++rows2.flatten.map V.toHp)):=by
   refine M.ext_hp rfl rfl rfl rfl (funext fun i=>?_);show (if i=q then some _ else m.hp i)=if i=q then some _ else if i ∈ [] then none else m.hp i;simp
  rw [e];simpa using hC
 ·rw [appU_v,hs,hz,hb,he,HN];have hfl:=tY h1;refine ⟨rfl,hby,hzl,h2,?_,hl,?_⟩
  ·have:=congrArg List.length hv2;rw [List.length_take,hfl] at this;omega
  ·have e:m.hmove id q (vs.take (rows.length*sz)++rows2.flatten.map V.toHp)=m.seth (Al m.hp (.vec id sz rows.length) q (rows.flatten++rows2.flatten.map V.toHp)):=by
    refine M.ext_hp rfl rfl rfl rfl (funext fun i=>?_);show (if i=q then some _ else if i=id then none else m.hp i)=if i=q then some _ else if i ∈ [id] then none else m.hp i;rw [hv2];simp
   rw [e];exact hC
end
def M.ck (m:M) (p:Pa) (cs:List V) (h:Hp) (vr:Nat->Nat):M:={ m with blk:=fun i=>if i=p then some cs else m.blk i,ver:=fun i=>if i=p then vr else m.ver i,hp:=h }
section
variable {m:M} {p q:Pa} {cs:List V} {h:Hp} {vr:Nat->Nat}
@[go_sem] theorem ck_blk {i:Pa}:(m.ck p cs h vr).blk i=if i=p then some cs else m.blk i:=_root_.id rfl
@[go_sem] theorem ck_ver {i:Pa}:(m.ck p cs h vr).ver i=if i=p then vr else m.ver i:=_root_.id rfl
@[go_sem] theorem ck_tok:(m.ck p cs h vr).tok=m.tok:=_root_.id rfl
@[go_sem] theorem ck_gl:(m.ck p cs h vr).gl=m.gl:=_root_.id rfl
@[go_sem] theorem ck_hp:(m.ck p cs h vr).hp=h:=_root_.id rfl
@[go_sem] theorem seth_blk:(m.seth h).blk=m.blk:=_root_.id rfl
@[go_sem] theorem seth_ver:(m.seth h).ver=m.ver:=_root_.id rfl
@[go_sem] theorem seth_gl:(m.seth h).gl=m.gl:=_root_.id rfl
@[go_sem] theorem seth_hp:(m.seth h).hp=h:=_root_.id rfl
theorem AV {m2:M}:m.back q (m2.seth h)=(m.back q m2).seth h:=_root_.id rfl
end
section
variable {α:Type} {f:α->List V} {h:Hp} {v:V} {sz n:Nat} {l:List α}
theorem eP.shC (hv:eP h v sz (l.map f)):oK v sz l.length:=by have:=hv.sh;rwa [List.length_map] at this
theorem eP.cutC (hv:eP h v sz (l.map f)) {k:Int} (hk:k<=(l.length:Int)):eP h (rU v k.toNat) sz ((l.take k.toNat).map f):=by
 have:=hv.cut (k:=k.toNat) (by rw [List.length_map];omega)
 rwa [←List.map_take] at this
theorem oK.cutL (h:oK v sz l.length) {k:Int} (hk:k<=(l.length:Int)):oK (rU v k.toNat) sz (l.take k.toNat).length:=by
 have:=h.cut (k:=k.toNat) (by omega)
 rwa [show (l.take k.toNat).length=k.toNat by rw [List.length_take];omega]
theorem oK.slHi (h:oK v sz n) {P:Program} {e:TypeId} {k:IntKind} {hi:Int} {C:V->Prop} {s:Nat} (hs:cB P e=some s) (h1:0<=hi) (h2:hi<=n):Fb P (.sl e) v none (some (.lit (.int k hi))) C=C (rU v hi.toNat):=
 h.sl hs (l:=0) (k:=hi) rfl rfl rfl h1 h2
theorem eP.readI (hv:eP h v 1 (l.map f)) {i:Nat} {x:α} (hx:l[i]? = some x) (u:V) (hu:f x=[u]):∃HV rest,h (lO v)=some HV/\HV.drop (i*1)=u::rest:=by
 obtain ⟨vs,rest,e1,_,e2,_⟩:=hv.fC (i:=i) (r:=f x) (by rw [List.getElem?_map,hx];rfl);have:=e2 0 (by omega);rw [hu] at this;exact ⟨vs,rest,e1,this⟩
theorem eP.read3 (hv:eP h v 3 (l.map f)) {i:Nat} {x:α} (hx:l[i]? = some x) (u0 u1 u2:V) (hu:f x=[u0,u1,u2]):∃HV rest,h (lO v)=some HV/\HV.drop (i*3)=u0::u1::u2::rest/\HV.drop (i*3+1)=u1::u2::rest/\HV.drop (i*3+2)=u2::rest:=by
 obtain ⟨vs,rest,e1,_,e2,_⟩:=hv.fC (i:=i) (r:=f x) (by rw [List.getElem?_map,hx];rfl);rw [hu] at e2;exact ⟨vs,rest,e1,e2 0 (by omega),e2 1 (by omega),e2 2 (by omega)⟩
end
theorem rD {P:Program} {N:Nat} {π:Pa} {k:Nat} {E:dK} {m:M} {Q:Exit->Nat->dK->M->Prop} {x:Code} (h:(∀j,k<=j->m.hp (j::π)=none)->SW P N π x k E m Q):SW P N π x k E m Q:=by
 intro hf c a w h1 h2 h3;exact h (fun j hj=>h1.fresh_hp (h3 j hj _ (List.suffix_refl _))) hf c a w h1 h2 h3
def Fr (q p:Pa) (m m':M):Prop:=(∀i,i ≠ p->¬ q <:+ i->m'.blk i=m.blk i/\m'.ver i=m.ver i/\m'.tok i=m.tok i)/\m'.tok p=m.tok p/\m'.gl=m.gl
section
variable {q p:Pa} {m m':M}
theorem Fr.refl (q p:Pa) (m:M):Fr q p m m:=⟨fun _ _ _=>⟨rfl,rfl,rfl⟩,rfl,rfl⟩
theorem Fr.to (h:Fr q p m m') (hq:¬ q <:+ p) {cs:List V} (hb:m'.blk p=some cs):m.back q m'=m.ck p cs m'.hp (m'.ver p):=by
 have hs:¬ q.isSuffixOf p=true:=fun e=>hq (List.isSuffixOf_iff_suffix.1 e);refine M.ext_hp (funext fun i=>?_) (funext fun i=>?_) (funext fun i=>?_) h.2.2 rfl
 ·show (if q.isSuffixOf i then m.blk i else m'.blk i)=if i=p then some cs else m.blk i
  by_cases e:i=p
  ·subst e;rw [if_neg hs,if_pos rfl,hb]
  ·rw [if_neg e]
   split
   ·rfl
   ·rename_i hq2;exact (h.1 i e fun x=>hq2 (List.isSuffixOf_iff_suffix.2 x)).1
 ·show (if q.isSuffixOf i then m.ver i else m'.ver i)=if i=p then m'.ver p else m.ver i
  by_cases e:i=p
  ·subst e;rw [if_neg hs,if_pos rfl]
  ·rw [if_neg e]
   split
   ·rfl
   ·rename_i hq2;exact (h.1 i e fun x=>hq2 (List.isSuffixOf_iff_suffix.2 x)).2.1
 ·show (if q.isSuffixOf i then m.tok i else m'.tok i)=m.tok i
  split
  ·rfl
  ·rename_i hq2
   by_cases e:i=p
   ·subst e;exact h.2.1
   ·exact (h.1 i e fun x=>hq2 (List.isSuffixOf_iff_suffix.2 x)).2.2
theorem Fr.set (h:Fr q p m m') {id:Pa} {cs:List V} (hi:q <:+ id ∨ id=p):Fr q p m (m'.set id cs):=by
 refine ⟨fun i h1 h2=>?_,h.2.1,h.2.2⟩;have hne:i ≠ id:=by rintro rfl;rcases hi with h3 | h3 <;> contradiction
 refine ⟨?_,(h.1 i h1 h2).2⟩;show (if i=id then _ else m'.blk i)=_;rw [if_neg hne];exact (h.1 i h1 h2).1
theorem Fr.bump (h:Fr q p m m') {id:Pa} {off:Nat} (hi:q <:+ id ∨ id=p):Fr q p m (m'.bump id off):=by
 refine ⟨fun i h1 h2=>?_,h.2.1,h.2.2⟩;have hne:i ≠ id:=by rintro rfl;rcases hi with h3 | h3 <;> contradiction
 refine ⟨(h.1 i h1 h2).1,?_,(h.1 i h1 h2).2.2⟩;rw [←(h.1 i h1 h2).2.1]
 funext o
 show (if i=id/\o=off then _ else m'.ver i o)=_;rw [if_neg (fun e=>hne e.1)]
theorem Fr.tokset (h:Fr q p m m') (hp:¬ q <:+ p) {id:Pa} {n:Nat} {b:Bool} (hi:q <:+ id):Fr q p m (m'.tokset id n b):=by
 have key:∀i,i ≠ id->(m'.tokset id n b).tok i=m'.tok i:=by
  intro i hne
  funext o
  show (if i=id/\o=n then _ else m'.tok i o)=_;rw [if_neg (fun e=>hne e.1)]
 refine ⟨fun i h1 h2=>⟨(h.1 i h1 h2).1,(h.1 i h1 h2).2.1,?_⟩,?_,h.2.2⟩
 ·rw [key i (by rintro rfl;exact h2 hi)];exact (h.1 i h1 h2).2.2
 ·rw [key p (by rintro rfl;exact hp hi)];exact h.2.1
theorem Fr.ck (h:Fr q p m m') {cs:List V} {g:Hp} {vr:Nat->Nat}:Fr q p m (m'.ck p cs g vr):=by
 refine ⟨fun i h1 h2=>?_,h.2.1,h.2.2⟩;refine ⟨?_,?_,(h.1 i h1 h2).2.2⟩
 ·show (if i=p then _ else m'.blk i)=_;rw [if_neg h1];exact (h.1 i h1 h2).1
 ·show (if i=p then _ else m'.ver i)=_;rw [if_neg h1];exact (h.1 i h1 h2).2.1
end
theorem dL.reCell {c:Conc} {m:M} {w:World} (h:dL c m w) {id:Pa} {off:Nat} {cs:List V} {v0 u:V} (hb:m.blk id=some cs) (ho:cs[off]? = some v0) (hw:∀x,CR c [v0.ld (.cell id off (m.ver id off))] [x]->CR c [u] [x]) (hu:∀s,u.ld s=u) (hns:∀rows,u ≠ .list .self rows):dL c (m.set id (cs.set off u)) w/\∀q,iG q c m w c (m.set id (cs.set off u)) w:=by
 have hblk:∀i,(m.set id (cs.set off u)).blk i=if i=id then some (cs.set off u) else m.blk i:=fun _=>rfl
 have hbn:∀i,(m.set id (cs.set off u)).blk i ≠ none->m.blk i ≠ none:=by
  intro i hi;rw [hblk] at hi
  by_cases e:i=id
  ·rw [e,hb];exact fun x=>nomatch x
  ·rw [if_neg e] at hi;exact hi
 have hlive:∀s,eI (m.set id (cs.set off u)) s=true->eI m s=true:=by
  intro s hl;cases s with
  | anon i j=>exact hl
  | priv i=>exact hl
  | cell i o v=>
    obtain ⟨h1,vs,rows,h2,h3⟩:=nE hl;rw [hblk] at h2
    by_cases e:i=id
    ·subst e;rw [if_pos rfl] at h2
     injection h2 with h2
     subst h2;rw [List.getElem?_set] at h3
     split at h3
     ·split at h3
      ·injection h3 with h3;exact absurd h3 (hns rows)
      ·cases h3
     ·exact mW h1 hb h3
    ·rw [if_neg e] at h2;exact mW h1 h2 h3
 have hown:∀b,fB c (m.set id (cs.set off u)) b->fB c m b:=by
  rintro b (⟨i,hi,hr⟩ | ⟨s,cap,sz,len,hl,hk⟩)
  ·exact .inl ⟨i,hbn i hi,hr⟩
  ·exact .inr ⟨s,cap,sz,len,hlive s hl,hk⟩
 refine ⟨⟨h.com,fun i vs hv=>?_,fun i i' b hi hi'=>h.inj i i' b (hbn i hi) (hbn i' hi'),fun s b cap sz len hl hk=>?_,fun s s' b cap sz len cap' sz' len' hl hl'=>h.ownInj s s' b cap sz len cap' sz' len' (hlive s hl) (hlive s' hl'),fun i o v hi hv=>h.ver i o v (hbn i hi) hv,h.gl,h.ver0,h.base,fun b hl=>⟨(h.lit b hl).1,(h.lit b hl).2.1,fun ho=>(h.lit b hl).2.2 (hown b ho)⟩,fun b vs hv=>h.hpr b vs hv⟩,fun q=>⟨.refl c,rfl,rfl,rfl,Nat.le_refl _,fun _ _ _ _=>rfl,fun _ _ _ _=>rfl,fun b _ ho=>hown b ho,fun _ _ x=>x,fun i hi hb'=>⟨?_,hb'.anon,hb'.cell,hb'.ver,hb'.tok⟩,fun _ _ x=>x⟩⟩
 ·rw [hblk] at hv
  by_cases e:i=id
  ·subst e;rw [if_pos rfl] at hv
   injection hv with hv
   subst hv;obtain ⟨b,ys,t,k1,k2,k3,k4,k5⟩:=h.blk i cs hb;refine ⟨b,ys,t,k1,k2,?_,k4,k5⟩
   have hlds:∀(j:Nat) (v:V),cs[j]? = some v->(zE (m.ver i) i cs)[j]? = some (v.ld (.cell i j (m.ver i j))):=by
    intro j v hj;unfold zE;rw [List.getElem?_mapIdx,hj];rfl
   obtain ⟨x,hx1,hx2⟩:=k3.get (hlds off _ ho);have hx3:=hw x hx2;have:=k3.set off hx3
   have e1:ys.toList.set off x=ys.toList:=by
    apply List.ext_getElem?;intro j;rw [List.getElem?_set]
    split
    ·rename_i e;subst e
     split
     ·exact hx1.symm
     ·rename_i hlt;rw [List.getElem?_eq_none (by omega)]
    ·rfl
   rw [e1] at this
   have e2:(zE (m.ver i) i cs).set off u=zE (m.ver i) i (cs.set off u):=by
    unfold zE;apply List.ext_getElem?;intro j;rw [List.getElem?_set,List.getElem?_mapIdx,List.getElem?_mapIdx,List.getElem?_set]
    by_cases e:off=j
    ·subst e;rw [if_pos rfl,if_pos rfl,List.length_mapIdx]
     split
     ·simp [hu]
     ·rfl
    ·rw [if_neg e,if_neg e]
   rw [e2] at this;exact this
  ·rw [if_neg e] at hv;exact h.blk i vs hv
 ·obtain ⟨k1,k2,k3,k4⟩:=h.own s b cap sz len (hlive s hl) hk;exact ⟨k1,k2,fun i hi=>k3 i (hbn i hi),k4⟩
 ·rw [hblk]
  by_cases e:i=id
  ·rw [e] at hb';rw [hb'.blk] at hb;cases hb
  ·rw [if_neg e];exact hb'.blk
theorem CT {P:Program} {N:Nat} {π:Pa} {k:Nat} {E:dK} {m:M} {Q:Exit->Nat->dK->M->Prop} {x:Code} {id:Pa} {off:Nat} {cs:List V} {v0 u:V} (hb:m.blk id=some cs) (ho:cs[off]? = some v0) (hw:∀(c:Conc) x,CR c [v0.ld (.cell id off (m.ver id off))] [x]->CR c [u] [x]) (hu:∀s,u.ld s=u) (hns:∀rows,u ≠ .list .self rows) (h:SW P N π x k E (m.set id (cs.set off u)) Q):SW P N π x k E m Q:=by
 intro hf c a w h1 h2 h3;obtain ⟨g1,g2⟩:=h1.reCell hb ho (hw c) hu hns;refine wp_mono (h hf c a w g1 h2 h3) fun e a' w' hp=>?_;exact hp.trans (g2 π) rfl (fun _ _=>rfl) (fun t ht=>⟨ht,ht⟩)
theorem pD {P:Program} {N:Nat} {π:Pa} {k:Nat} {E:dK} {m:M} {Q:Exit->Nat->dK->M->Prop} {x:Code} {id:Pa} {off:Nat} {cs:List V} (hb:m.blk id=some cs) (ho:cs[off]? = some (.list .self [])) (h:SW P N π x k E (m.set id (cs.set off .nilv)) Q):SW P N π x k E m Q:=
 CT hb ho (fun c x hx=>Em (.inr ⟨_,rfl⟩) hx) (fun _=>rfl) (fun _ e=>by cases e) h
theorem GB {P:Program} {N:Nat} {π:Pa} {k:Nat} {E:dK} {m:M} {Q:Exit->Nat->dK->M->Prop} {x:Code} {id:Pa} {off:Nat} {cs:List V} (hb:m.blk id=some cs) (ho:cs[off]? = some .nilv) (h:SW P N π x k E (m.set id (cs.set off (.list .none []))) Q):SW P N π x k E m Q:=
 CT hb ho (fun c x hx=>by
  obtain ⟨a,rfl⟩:=CR.inv_nilv (show CR c [.nilv] [x] from hx);exact .list (rows:=[]) (es:=[]) (sz:=1) .nil (by simp) (by decide) (Nat.le_refl _) (by decide) (by simp) (fun h=>by simp at h) (by simp) trivial .nil) (fun _=>rfl) (fun _ e=>by cases e) h
theorem Ah {P:Program} {q:Pa} {m:M} {e:TypeId} {v:V} {sz:Nat} {rows rows2:List (List V)} {C:V->M->Prop} (hv:eP m.hp v sz rows) {zs:List V} {by_:Nat} (hs:cB P e=some sz) (hz:dC P e=some zs) (hb:(P.info? e).map (·.bytes)=some by_)
  (h0:0<sz) (hby:by_<=65536) (hzl:zs.length=sz) (h2:∀r ∈ rows2,r.length=sz) (hn:0<rows2.length) (hl:rows.length+rows2.length<=1073741824)
  (hC:C (.vec q sz (rows.length+rows2.length)) (m.seth (Al m.hp v q (rows.flatten++rows2.flatten.map V.toHp)))):dm (fun v' m'=>DE P q m (.sl e) v (some rows2) (fun r m1=>r=v'/\m1=m')) m C:=
 ⟨_,_,AW hv hs hz hb h0 hby hzl h2 hn hl ⟨rfl,rfl⟩,rfl,hC⟩
@[go_sem] theorem ie_load {T:TypeId} {x:Operand}:nO (.load T x)=false:=_root_.id rfl
@[go_sem] theorem ie_move {x:Operand}:nO (.move x)=false:=_root_.id rfl
@[go_sem] theorem ie_bin {o:BinOp} {T T':TypeId} {x y:Operand}:nO (.binOp o T x y T')=false:=_root_.id rfl
@[go_sem] theorem ie_fa {T f:Nat} {x:Operand}:nO (.fieldAddr T x f)=false:=_root_.id rfl
@[go_sem] theorem ie_ia {T:TypeId} {x y:Operand}:nO (.indexAddr T x y)=false:=_root_.id rfl
@[go_sem] theorem ie_nil {x:Operand}:nO (.nilCheck x)=false:=_root_.id rfl
@[go_sem] theorem ie_max {xs:Array Operand} {ts:Array TypeId}:nO (.call ⟨.builtin .max,xs,ts⟩)=false:=_root_.id rfl
@[go_sem] theorem ie_call {f:Operand} {xs:Array Operand} {ts:Array TypeId}:nO (.call ⟨.value f,xs,ts⟩)=true:=_root_.id rfl
@[go_sem] theorem take_map {α:Type} {f:α->List V} {l:List α} {n:Nat}:(l.map f).take n=(l.take n).map f:=List.map_take.symm
@[go_sem] theorem drop_map {α:Type} {f:α->List V} {l:List α} {n:Nat}:(l.map f).drop n=(l.drop n).map f:=List.map_drop.symm
attribute [go_sem] Bool.false_eq_true
section
variable {q p id:Pa} {m m':M}
@[go_sem] theorem fr_set_p {cs:List V}:Fr q p m (m'.set p cs)=Fr q p m m':=propext ⟨fun h=>⟨fun i h1 h2=>⟨by rw [←(h.1 i h1 h2).1];show _=if i=p then _ else _;rw [if_neg h1],(h.1 i h1 h2).2⟩,h.2⟩,fun h=>h.set (.inr rfl)⟩
@[go_sem] theorem fr_set_q {cs:List V} (hq:(q <:+ id)=True):Fr q p m (m'.set id cs)=Fr q p m m':=propext ⟨fun h=>⟨fun i h1 h2=>⟨by rw [←(h.1 i h1 h2).1];show _=if i=id then _ else _;rw [if_neg (by rintro rfl;exact h2 (of_eq_true hq))],(h.1 i h1 h2).2⟩,h.2⟩,fun h=>h.set (.inl (of_eq_true hq))⟩
@[go_sem] theorem fr_seth {g:Hp}:Fr q p m (m'.seth g)=Fr q p m m':=_root_.id rfl
@[go_sem] theorem fr_ck {cs:List V} {g:Hp} {vr:Nat->Nat}:Fr q p m (m'.ck p cs g vr)=Fr q p m m':=propext ⟨fun h=>⟨fun i h1 h2=>⟨by rw [←(h.1 i h1 h2).1];show _=if i=p then _ else _;rw [if_neg h1],by rw [←(h.1 i h1 h2).2.1];show _=if i=p then _ else _;rw [if_neg h1],(h.1 i h1 h2).2.2⟩,h.2⟩,fun h=>h.ck⟩
theorem zH (hp:¬ q <:+ p) {n:Nat} {b:Bool} (hq:(q <:+ id)=True):Fr q p m (m'.tokset id n b)=Fr q p m m':=by
 have key:∀i,i ≠ id->(m'.tokset id n b).tok i=m'.tok i:=by
  intro i hne
  funext o
  show (if i=id/\o=n then _ else m'.tok i o)=_;rw [if_neg (fun e=>hne e.1)]
 exact propext ⟨fun h=>⟨fun i h1 h2=>⟨(h.1 i h1 h2).1,(h.1 i h1 h2).2.1,by rw [←(h.1 i h1 h2).2.2];exact (key i (by rintro rfl;exact h2 (of_eq_true hq))).symm⟩,by rw [←h.2.1];exact (key p (by rintro rfl;exact hp (of_eq_true hq))).symm,h.2.2⟩,fun h=>h.tokset hp (of_eq_true hq)⟩
theorem Gw {off:Nat} {i:Pa} (hne:i ≠ id):(m'.bump id off).ver i=m'.ver i:=by
 funext o
 show (if i=id/\o=off then _ else m'.ver i o)=_;rw [if_neg (fun e=>hne e.1)]
@[go_sem] theorem fr_bump_p {off:Nat}:Fr q p m (m'.bump p off)=Fr q p m m':=propext ⟨fun h=>⟨fun i h1 h2=>⟨(h.1 i h1 h2).1,by rw [←(h.1 i h1 h2).2.1];exact (Gw h1).symm,(h.1 i h1 h2).2.2⟩,h.2⟩,fun h=>h.bump (.inr rfl)⟩
@[go_sem] theorem fr_bump_q {off:Nat} (hq:(q <:+ id)=True):Fr q p m (m'.bump id off)=Fr q p m m':=propext ⟨fun h=>⟨fun i h1 h2=>⟨(h.1 i h1 h2).1,by rw [←(h.1 i h1 h2).2.1];exact (Gw (by rintro rfl;exact h2 (of_eq_true hq))).symm,(h.1 i h1 h2).2.2⟩,h.2⟩,fun h=>h.bump (.inl (of_eq_true hq))⟩
@[go_sem] theorem fr_self:Fr q p m m=True:=eq_true (.refl q p m)
end
end Go.Proofs.YtncembphlfbgoaaDoor.Abs
namespace Go.Proofs.YtncembphlfbgoaaDoor.Abs
open Go.RowKit
set_option linter.unusedVariables false
def oT (h:Hp) (id:Pa) (vs:List V):Hp:=fun i=>if i=id then some vs else h i
theorem zF {m:M} {id:Pa} {vs:List V}:m.hset id vs=m.seth (oT m.hp id vs):=_root_.id rfl
@[go_sem] theorem seth_seth {m:M} {h h':Hp}:(m.seth h).seth h'=m.seth h':=_root_.id rfl
def nP (f:aO) (vv bv:V):List V:=[.lit (.string (bs f.gI)),.lit (.bool f.eJ),.lit (.int .i64 f.cR),.lit (.int .i64 f.bI),vv,bv]
@[go_sem] theorem fnRow_eq {f:aO} {vv bv:V}:nP f vv bv=[.lit (.string (bs f.gI)),.lit (.bool f.eJ),.lit (.int .i64 f.cR),.lit (.int .i64 f.bI),vv,bv]:=_root_.id rfl
def AG (b:V) (l:List aH):Prop:=(b=.nilv/\l=[]) ∨ b=.list .none (l.map aH.C)
def kV (F S C:V) (fs:List (V × V)) (cs:List V):Nat->Nat->V
 | 0,0=>F
 | 1,0=>S
 | 2,0=>C
 | 3,i=>match fs[i]? with | some v=>v.1 | none=>.nilv
 | 4,i=>match cs[i]? with | some v=>v | none=>.nilv
 | _,_=>.nilv
def NdV (s:Nat->Nat->V):Prop:=∀a b a' b' id,id ∈ hM (s a b)->id ∈ hM (s a' b')->a=a'/\b=b'
theorem NdV.upd {s s':Nat->Nat->V} (h:NdV s) {a b:Nat} (hs:∀i j,¬(i=a/\j=b)->s' i j=s i j) (hv:∀id ∈ hM (s' a b),id ∈ hM (s a b) ∨ ∀i j,id ∉ hM (s i j)):NdV s':=by
 intro i j i' j' id h1 h2
 by_cases e1:i=a/\j=b <;> by_cases e2:i'=a/\j'=b
 ·exact ⟨e1.1.trans e2.1.symm,e1.2.trans e2.2.symm⟩
 ·rw [hs i' j' e2] at h2;rw [e1.1,e1.2] at h1
  rcases hv id h1 with h3 | h3
  ·obtain ⟨k1,k2⟩:=h a b i' j' id h3 h2;exact absurd ⟨k1.symm,k2.symm⟩ e2
  ·exact absurd h2 (h3 i' j')
 ·rw [hs i j e1] at h1;rw [e2.1,e2.2] at h2
  rcases hv id h2 with h3 | h3
  ·obtain ⟨k1,k2⟩:=h a b i j id h3 h1;exact absurd ⟨k1.symm,k2.symm⟩ e1
  ·exact absurd h1 (h3 i j)
 ·rw [hs i j e1] at h1;rw [hs i' j' e2] at h2;exact h i j i' j' id h1 h2
structure tW (F fp S C:V) (fs:List (V × V)) (cs:List V) (h:Hp) (x:aD):Prop where
 fl:fs.length=x.p_.aS.length
 rF:eP h F 6 (List.zipWith (fun f v=>nP f v.1 v.2) x.p_.aS fs)
 rV:∀(i:Nat) f v,x.p_.aS[i]? = some f->fs[i]? = some v->eP h v.1 3 (f.bR.map aY.C)/\AG v.2 f.eR
 rS:eP h S 1 (x.aX.map (cI .i64))
 cl:cs.length=x.bO.length
 rC:eP h C 1 (cs.map fun v=>[v])
 rCi:∀(i:Nat) l v,x.bO[i]? = some l->cs[i]? = some v->eP h v 1 (l.map (cI .i64))
 rfp:∀i:Nat,x.f_=i->fp=.pp (lO F) (i*6)
 nd:NdV (kV F S C fs cs)
def dJ (F fp S C:V) (h:Hp) (x:aD):Prop:=∃fs cs,tW F fp S C fs cs h x
section
variable {F fp S C:V} {fs:List (V × V)} {cs:List V} {h:Hp} {x x':aD} {q:Pa}
theorem tW.same (hk:tW F fp S C fs cs h x) (h1:x'.p_=x.p_) (h2:x'.f_=x.f_) (h3:x'.aX=x.aX) (h4:x'.bO=x.bO):tW F fp S C fs cs h x':=by
 refine ⟨by rw [h1];exact hk.fl,by rw [h1];exact hk.rF,by rw [h1];exact hk.rV,by rw [h3];exact hk.rS,by rw [h4];exact hk.cl,hk.rC,by rw [h4];exact hk.rCi,by rw [h2];exact hk.rfp,hk.nd⟩
theorem dJ.same (hk:dJ F fp S C h x) (h1:x'.p_=x.p_) (h2:x'.f_=x.f_) (h3:x'.aX=x.aX) (h4:x'.bO=x.bO):dJ F fp S C h x':=by
 obtain ⟨fs,cs,hk⟩:=hk;exact ⟨fs,cs,hk.same h1 h2 h3 h4⟩
theorem tW.live (hk:tW F fp S C fs cs h x) {a b:Nat} {id:Pa} (hi:id ∈ hM (kV F S C fs cs a b)):h id ≠ none:=by
 unfold kV at hi
 split at hi
 ·exact hk.rF.live hi
 ·exact hk.rS.live hi
 ·exact hk.rC.live hi
 ·split at hi
  ·rename_i v hv
   obtain ⟨f,hf⟩:∃f,x.p_.aS[b]? = some f:=by
    have:=(List.getElem?_eq_some_iff.1 hv).1;rw [hk.fl] at this;exact ⟨_,List.getElem?_eq_getElem this⟩
   exact (hk.rV b f v hf hv).1.live hi
  ·cases hi
 ·split at hi
  ·rename_i v hv
   obtain ⟨l,hl⟩:∃l,x.bO[b]? = some l:=by
    have:=(List.getElem?_eq_some_iff.1 hv).1;rw [hk.cl] at this;exact ⟨_,List.getElem?_eq_getElem this⟩
   exact (hk.rCi b l v hl hv).live hi
  ·cases hi
 ·cases hi
theorem tW.fresh (hk:tW F fp S C fs cs h x) (hq:h q=none) (a b:Nat):q ∉ hM (kV F S C fs cs a b):=fun hi=>hk.live hi hq
theorem tW.frames (hk:tW F fp S C fs cs h x) (hq:h q=none) (a b:Nat) {h':Hp} (hh:∀id,id ≠ q->id ∉ hM (kV F S C fs cs a b)->h' id=h id) {i j:Nat} (hne:¬(i=a/\j=b)):∀id ∈ hM (kV F S C fs cs i j),h' id=h id:=by
 intro id dD;refine hh id (fun e=>hk.fresh hq i j (e ▸ dD)) fun h2=>?_;obtain ⟨k1,k2⟩:=hk.nd i j a b id dD h2;exact hne ⟨k1,k2⟩
theorem tW.frV (hk:tW F fp S C fs cs h x) {h':Hp} (hh:∀i,∀id ∈ hM (kV F S C fs cs 3 i),h' id=h id):∀(i:Nat) f v,x.p_.aS[i]? = some f->fs[i]? = some v->eP h' v.1 3 (f.bR.map aY.C)/\AG v.2 f.eR:=by
 intro i f v hf hv;have:=hk.rV i f v hf hv;exact ⟨this.1.frame fun id dD=>hh i id (by show id ∈ hM (match fs[i]? with | some v=>v.1 | none=>.nilv);rw [hv];exact dD),this.2⟩
theorem tW.frC (hk:tW F fp S C fs cs h x) {h':Hp} (hh:∀i,∀id ∈ hM (kV F S C fs cs 4 i),h' id=h id):∀(i:Nat) l v,x.bO[i]? = some l->cs[i]? = some v->eP h' v 1 (l.map (cI .i64)):=by
 intro i l v hl hv;exact (hk.rCi i l v hl hv).frame fun id dD=>hh i id (by show id ∈ hM (match cs[i]? with | some v=>v | none=>.nilv);rw [hv];exact dD)
theorem dJ.scopeR (hk:dJ F fp S C h x):eP h S 1 (x.aX.map (cI .i64)):=by obtain ⟨fs,cs,hk⟩:=hk;exact hk.rS
theorem dJ.appS (hk:dJ F fp S C h x) (hq:h q=none) (n:Int) (h1:x'.p_=x.p_) (h2:x'.f_=x.f_) (h3:x'.aX=x.aX++[n]) (h4:x'.bO=x.bO) :
  dJ F fp (.vec q 1 (x.aX.length+1)) C (Al h S q ((x.aX.map (cI .i64)).flatten++[.lit (.int .i64 n)])) x':=by
 obtain ⟨fs,cs,hk⟩:=hk;have hfr:∀ {i j:Nat},¬(i=1/\j=0)->∀id ∈ hM (kV F S C fs cs i j),Al h S q ((x.aX.map (cI .i64)).flatten++[.lit (.int .i64 n)]) id=h id:=fun hne=>hk.frames hq 1 0 (fun id e1 e2=>sL e1 e2) hne;refine ⟨fs,cs,by rw [h1];exact hk.fl,by rw [h1];exact hk.rF.frame (hfr (i:=0) (j:=0) (by omega)),by rw [h1];exact hk.frV fun i=>hfr (by omega),?_,by rw [h4];exact hk.cl,hk.rC.frame (hfr (i:=2) (j:=0) (by omega)),by rw [h4];exact hk.frC fun i=>hfr (by omega),by rw [h2];exact hk.rfp,?_⟩
 ·have:=hk.rS.app (q:=q) (rows2:=[cI .i64 n]) (fun r hr=>by rw [List.mem_singleton.1 hr];rfl);have e:(x.aX.map (cI .i64)++[cI .i64 n]).flatten=(x.aX.map (cI .i64)).flatten++[.lit (.int .i64 n)]:=by simp [cI]
  rw [e] at this;rw [h3,List.map_append,List.map_cons,List.map_nil];simpa using this
 ·refine hk.nd.upd (a:=1) (b:=0) (fun i j hne=>?_) fun id dD=>.inr fun i j=>?_
  ·unfold kV;split <;> first | rfl | (exact absurd ⟨rfl,rfl⟩ hne)
  ·have:id=q:=by simpa [kV,hM] using dD
   rw [this];exact hk.fresh hq i j
theorem dJ.cutS (hk:dJ F fp S C h x) {k:Nat} (hle:k<=x.aX.length) (h1:x'.p_=x.p_) (h2:x'.f_=x.f_) (h3:x'.aX=x.aX.take k) (h4:x'.bO=x.bO):dJ F fp (rU S k) C h x':=by
 obtain ⟨fs,cs,hk⟩:=hk;refine ⟨fs,cs,by rw [h1];exact hk.fl,by rw [h1];exact hk.rF,by rw [h1];exact hk.rV,?_,by rw [h4];exact hk.cl,hk.rC,by rw [h4];exact hk.rCi,by rw [h2];exact hk.rfp,?_⟩
 ·have:=hk.rS.cut (k:=k) (by simpa using hle);rw [h3,List.map_take];exact this
 ·refine hk.nd.upd (a:=1) (b:=0) (fun i j hne=>?_) fun id dD=>.inl ?_
  ·unfold kV;split <;> first | rfl | (exact absurd ⟨rfl,rfl⟩ hne)
  ·have:id ∈ hM (rU S k):=dD;rw [HA] at this;exact this
theorem dJ.nilS (hk:dJ F fp S C h x) (h1:x'.p_=x.p_) (h2:x'.f_=x.f_) (h3:x'.aX=[]) (h4:x'.bO=x.bO):dJ F fp .nilv C h x':=by
 obtain ⟨fs,cs,hk⟩:=hk;refine ⟨fs,cs,by rw [h1];exact hk.fl,by rw [h1];exact hk.rF,by rw [h1];exact hk.rV,by rw [h3];exact .nil h 1,by rw [h4];exact hk.cl,hk.rC,by rw [h4];exact hk.rCi,by rw [h2];exact hk.rfp,?_⟩;refine hk.nd.upd (a:=1) (b:=0) (fun i j hne=>?_) fun id dD=>by cases dD
 unfold kV;split <;> first | rfl | (exact absurd ⟨rfl,rfl⟩ hne)
theorem dJ.setFn (hk:dJ F fp S C h x) {i:Int} (h0:0<=i) (h1:x'.p_=x.p_) (h2:x'.f_=i) (h3:x'.aX=x.aX) (h4:x'.bO=x.bO):dJ F (.pp (lO F) (i.toNat*6)) S C h x':=by
 obtain ⟨fs,cs,hk⟩:=hk;refine ⟨fs,cs,by rw [h1];exact hk.fl,by rw [h1];exact hk.rF,by rw [h1];exact hk.rV,by rw [h3];exact hk.rS,by rw [h4];exact hk.cl,hk.rC,by rw [h4];exact hk.rCi,?_,hk.nd⟩;intro j hj;have:i.toNat=j:=by omega
 rw [this]
theorem CW {i:Nat} {f:aO} {v:V × V} {l:List aO} (hf:l[i]? = some f) (hv:fs[i]? = some v):(List.zipWith (fun f v=>nP f v.1 v.2) l fs)[i]? = some (nP f v.1 v.2):=by
 rw [List.getElem?_zipWith,hf,hv]
theorem dJ.fpEq (hk:dJ F fp S C h x) (h0:0<=x.f_):fp=.pp (lO F) (x.f_.toNat*6):=by
 obtain ⟨fs,cs,hk⟩:=hk;exact hk.rfp _ (by omega)
theorem dJ.funcsR (hk:dJ F fp S C h x):oK F 6 x.p_.aS.length:=by
 obtain ⟨fs,cs,hk⟩:=hk;have:=hk.rF.sh
 rwa [List.length_zipWith,hk.fl,Nat.min_self] at this
structure Bs (F fp S C:V) (h:Hp) (x:aD) (i:Nat) (f:aO) (vv bv:V) (HF:List V):Prop where
 hF:h (lO F)=some HF
 len:i*6+6<=HF.length
 row:∃rest,∀k,k<=6->HF.drop (i*6+k)=(nP f vv bv).drop k++rest
 vars:eP h vv 3 (f.bR.map aY.C)
 body:AG bv f.eR
 up:∃fs cs,tW F fp S C fs cs h x/\x.p_.aS[i]? = some f/\fs[i]? = some (vv,bv)
theorem dJ.foc (hk:dJ F fp S C h x) {i:Nat} {f:aO} (hf:x.p_.aS[i]? = some f):∃vv bv HF,Bs F fp S C h x i f vv bv HF:=by
 obtain ⟨fs,cs,hk⟩:=hk
 obtain ⟨v,hv⟩:∃v,fs[i]? = some v:=by
  have:=(List.getElem?_eq_some_iff.1 hf).1;rw [←hk.fl] at this;exact ⟨_,List.getElem?_eq_getElem this⟩
 obtain ⟨HF,rest,e1,e2,e3,e4⟩:=hk.rF.fC (CW hf hv);refine ⟨v.1,v.2,HF,e1,?_,⟨rest,e3⟩,(hk.rV i f v hf hv).1,(hk.rV i f v hf hv).2,⟨fs,cs,hk,hf,hv⟩⟩;have h1:i<x.p_.aS.length:=(List.getElem?_eq_some_iff.1 hf).1;rw [List.length_zipWith,hk.fl,Nat.min_self] at e2;have:(i+1)*6<=x.p_.aS.length*6:=Nat.mul_le_mul_right _ h1;omega
theorem AG.shr {b:V} {l:List aH} (h:AG b l):b.shared=b:=by rcases h with ⟨rfl,_⟩ | rfl <;> rfl
section
variable {i:Nat} {f:aO} {vv bv:V} {HF:List V}
theorem Bs.rows (fc:Bs F fp S C h x i f vv bv HF):∃rs,HF.drop (i*6)=[.lit (.string (bs f.gI)),.lit (.bool f.eJ),.lit (.int .i64 f.cR),.lit (.int .i64 f.bI),vv,bv]++rs/\HF.drop (i*6+1)=.lit (.bool f.eJ)::.lit (.int .i64 f.cR)::.lit (.int .i64 f.bI)::vv::bv::rs ∧
  HF.drop (i*6+2)=.lit (.int .i64 f.cR)::.lit (.int .i64 f.bI)::vv::bv::rs/\HF.drop (i*6+3)=.lit (.int .i64 f.bI)::vv::bv::rs/\HF.drop (i*6+4)=vv::bv::rs/\HF.drop (i*6+5)=bv::rs/\bv.shared=bv:=by
 obtain ⟨rs,e⟩:=fc.row;exact ⟨rs,e 0 (by omega),e 1 (by omega),e 2 (by omega),e 3 (by omega),e 4 (by omega),e 5 (by omega),fc.body.shr⟩
theorem Bs.len3 (fc:Bs F fp S C h x i f vv bv HF):i*6+3+1<=HF.length:=by have:=fc.len;omega
theorem Bs.len4 (fc:Bs F fp S C h x i f vv bv HF):i*6+4+1<=HF.length:=by have:=fc.len;omega
theorem Bs.len5 (fc:Bs F fp S C h x i f vv bv HF):i*6+5+1<=HF.length:=by have:=fc.len;omega
theorem Bs.nd (fc:Bs F fp S C h x i f vv bv HF):lO F ∉ hM vv/\hM F=[lO F]:=by
 obtain ⟨fs,cs,hk,hf,hv⟩:=fc.up
 have hF:hM F=[lO F]:=by
  obtain ⟨vs,rest,e1,e2,e3,e4⟩:=hk.rF.fC (CW hf hv);rw [e4];rfl
 refine ⟨fun hi=>?_,hF⟩;have:=hk.nd 0 0 3 i (lO F) (by show lO F ∈ hM F;rw [hF];simp) (by show lO F ∈ hM (match fs[i]? with | some v=>v.1 | none=>.nilv);rw [hv];exact hi);omega
theorem Bs.apF (fc:Bs F fp S C h x i f vv bv HF) (hq:h q=none) {l:List V}:Al h vv q l (lO F)=some HF:=by
 rw [sL (fun e=>by rw [←e,fc.hF] at hq;cases hq) fc.nd.1];exact fc.hF
theorem Jh {sz k:Nat} {u:V}:∀ {rows:List (List V)} {i:Nat} {r:List V},(∀r ∈ rows,r.length=sz)->rows[i]? = some r->k<sz->(rows.set i (r.set k u)).flatten=rows.flatten.set (i*sz+k) u:=by
 intro rows
 induction rows with
 | nil=>intro i r _ h;cases h
 | cons r0 rows ih=>
   intro i r hs hr hk;have h0:=hs r0 (by simp);cases i with
   | zero=>
     have:r0=r:=by simpa using hr
     subst this;rw [List.set_cons_zero,List.flatten_cons,List.flatten_cons,Nat.zero_mul,Nat.zero_add,List.set_append_left _ _ (by omega)]
   | succ i=>
     rw [List.set_cons_succ,List.flatten_cons,List.flatten_cons,ih (fun r hr=>hs r (by simp [hr])) (by simpa using hr) hk,List.set_append_right _ _ (by rw [h0,Nat.succ_mul];omega),h0]
     congr 2
     rw [Nat.succ_mul];omega
theorem eP.setRow {h h':Hp} {v:V} {sz k:Nat} {rows:List (List V)} {u:V} {r vs:List V} {i:Nat} (hv:eP h v sz rows) (hr:rows[i]? = some r) (hk:k<sz) (e:h (lO v)=some vs) (e':h' (lO v)=some (vs.set (i*sz+k) u)):eP h' v sz (rows.set i (r.set k u)):=by
 obtain ⟨h1,⟨rfl,rfl⟩ | ⟨id,vs',rfl,e2,h2⟩⟩:=hv
 ·cases hr
 ·have:vs'=vs:=by rw [show lO (V.vec id sz rows.length)=id from rfl,e2] at e;injection e
  subst this;refine ⟨fun x hx=>?_,.inr ⟨id,_,by rw [List.length_set],e',?_⟩⟩
  ·rcases List.mem_or_eq_of_mem_set hx with hx | rfl
   ·exact h1 x hx
   ·rw [List.length_set];exact h1 r (List.mem_of_getElem? hr)
  ·rw [List.length_set,List.take_set,h2,Jh h1 hr hk]
theorem zip_set {α β γ:Type} {g:α->β->γ} {l:List α} {l':List β} {i:Nat} {a:α} {b:β}:List.zipWith g (l.set i a) (l'.set i b)=(List.zipWith g l l').set i (g a b):=by
 apply List.ext_getElem?;intro j;rw [List.getElem?_zipWith,List.getElem?_set,List.getElem?_set,List.getElem?_set,List.getElem?_zipWith,List.length_zipWith]
 by_cases e:i=j
 ·subst e;rw [if_pos rfl,if_pos rfl,if_pos rfl]
  by_cases h1:i<l.length <;> by_cases h2:i<l'.length
  ·rw [if_pos h1,if_pos h2,if_pos (Nat.lt_min.2 ⟨h1,h2⟩)]
  ·rw [if_pos h1,if_neg h2,if_neg (fun h=>h2 (Nat.lt_min.1 h).2)]
  ·rw [if_neg h1,if_neg (fun h=>h1 (Nat.lt_min.1 h).1)]
  ·rw [if_neg h1,if_neg (fun h=>h1 (Nat.lt_min.1 h).1)]
 ·rw [if_neg e,if_neg e,if_neg e]
theorem Bs.upd (fc:Bs F fp S C h x i f vv bv HF) {k:Nat} {u:V} {f':aO} {vv' bv':V} {h1:Hp} (hk6:k<6) (hrow:nP f' vv' bv'=(nP f vv bv).set k u) (hh:∀id,h id ≠ none->id ∉ hM vv->h1 id=h id) (hV:eP h1 vv' 3 (f'.bR.map aY.C)) (hB:AG bv' f'.eR)
  (dD:∀id ∈ hM vv',id ∈ hM vv ∨ h id=none) (e1:x'.p_=⟨x.p_.aS.set i f'⟩) (e2:x'.f_=x.f_) (e3:x'.aX=x.aX) (e4:x'.bO=x.bO):dJ F fp S C (oT h1 (lO F) (HF.set (i*6+k) u)) x':=by
 obtain ⟨hnF,hF1⟩:=fc.nd;obtain ⟨fs,cs,hk,hf,hv⟩:=fc.up;have hslot:kV F S C fs cs 3 i=vv:=by show (match fs[i]? with | some v=>v.1 | none=>.nilv)=vv;rw [hv]
 have hput:∀id,id ≠ lO F->oT h1 (lO F) (HF.set (i*6+k) u) id=h1 id:=fun id hne=>by show (if id=lO F then _ else _)=_;rw [if_neg hne]
 have hF0:lO F ∈ hM (kV F S C fs cs 0 0):=by show lO F ∈ hM F;rw [hF1];simp
 have hfr:∀ {a b},¬(a=0/\b=0)->¬(a=3/\b=i)->∀id ∈ hM (kV F S C fs cs a b),oT h1 (lO F) (HF.set (i*6+k) u) id=h id:=by
  intro a b n1 n2 id hi
  have hneF:id ≠ lO F:=fun e=>by
   subst e;obtain ⟨k1,k2⟩:=hk.nd a b 0 0 _ hi hF0;exact n1 ⟨k1,k2⟩
  rw [hput id hneF];refine hh id (hk.live hi) fun h2=>?_;obtain ⟨k1,k2⟩:=hk.nd a b 3 i id hi (by rw [hslot];exact h2);exact n2 ⟨k1,k2⟩
 have hil:i<x.p_.aS.length:=(List.getElem?_eq_some_iff.1 hf).1;have hif:i<fs.length:=(List.getElem?_eq_some_iff.1 hv).1;refine ⟨fs.set i (vv',bv'),cs,by rw [e1];simp [hk.fl],?_,?_,?_,by rw [e4];exact hk.cl,hk.rC.frame (hfr (a:=2) (b:=0) (by omega) (by omega)),?_,by rw [e2];exact hk.rfp,?_⟩
 ·rw [e1,zip_set (g:=fun (f:aO) (v:V × V)=>nP f v.1 v.2)];show eP _ F 6 ((List.zipWith (fun f v=>nP f v.1 v.2) x.p_.aS fs).set i (nP f' vv' bv'));rw [hrow];exact hk.rF.setRow (CW hf hv) hk6 fc.hF (by show (if lO F=lO F then _ else _)=_;rw [if_pos rfl])
 ·rw [e1];intro j g v hg hv2;rw [List.getElem?_set] at hg hv2
  by_cases e:i=j
  ·subst e;rw [if_pos rfl,if_pos hil] at hg;rw [if_pos rfl,if_pos hif] at hv2
   injection hg with hg;injection hv2 with hv2
   subst hg hv2;refine ⟨hV.frame fun id hi=>hput id fun e=>?_,hB⟩
   rcases dD id hi with h2 | h2
   ·exact hnF (e ▸ h2)
   ·rw [e,fc.hF] at h2;cases h2
  ·rw [if_neg e] at hg hv2;have:=hk.rV j g v hg hv2;exact ⟨this.1.frame fun id hi=>hfr (a:=3) (b:=j) (by omega) (by omega) id (by show id ∈ hM (match fs[j]? with | some v=>v.1 | none=>.nilv);rw [hv2];exact hi),this.2⟩
 ·rw [e3];exact hk.rS.frame (hfr (a:=1) (b:=0) (by omega) (by omega))
 ·rw [e4];exact hk.frC fun j=>hfr (by omega) (by omega)
 ·refine hk.nd.upd (a:=3) (b:=i) (fun a b hne=>?_) fun id hi=>?_
  ·unfold kV
   split <;> first | rfl | skip
   rename_i j;rw [List.getElem?_set,if_neg (fun e=>hne ⟨rfl,e.symm⟩)]
  ·have:kV F S C (fs.set i (vv',bv')) cs 3 i=vv':=by
    show (match (fs.set i (vv',bv'))[i]? with | some v=>v.1 | none=>.nilv)=vv';rw [List.getElem?_set,if_pos rfl,if_pos hif]
   rw [this] at hi
   rcases dD id hi with h2 | h2
   ·left;rw [hslot];exact h2
   ·right;intro a b hi2;exact hk.live hi2 h2
theorem Bs.setParams (fc:Bs F fp S C h x i f vv bv HF) {n:Int} (e1:x'.p_=⟨x.p_.aS.set i { f with bI:=n }⟩) (e2:x'.f_=x.f_) (e3:x'.aX=x.aX) (e4:x'.bO=x.bO):dJ F fp S C (oT h (lO F) (HF.set (i*6+3) (.lit (.int .i64 n)))) x':=
 fc.upd (k:=3) (f':={ f with bI:=n }) (vv':=vv) (bv':=bv) (by omega) rfl (fun _ _ _=>rfl) fc.vars fc.body (fun _ h=>.inl h) e1 e2 e3 e4
theorem Bs.setBody (fc:Bs F fp S C h x i f vv bv HF) {l:List aH} (e1:x'.p_=⟨x.p_.aS.set i { f with eR:=l }⟩) (e2:x'.f_=x.f_) (e3:x'.aX=x.aX) (e4:x'.bO=x.bO):dJ F fp S C (oT h (lO F) (HF.set (i*6+5) (.list .none (l.map aH.C)))) x':=
 fc.upd (k:=5) (f':={ f with eR:=l }) (vv':=vv) (bv':=.list .none (l.map aH.C)) (by omega) rfl (fun _ _ _=>rfl) fc.vars (.inr rfl) (fun _ h=>.inl h) e1 e2 e3 e4
theorem Bs.appVars (fc:Bs F fp S C h x i f vv bv HF) (hq:h q=none) (v:aY) (e1:x'.p_=⟨x.p_.aS.set i { f with bR:=f.bR++[v] }⟩) (e2:x'.f_=x.f_) (e3:x'.aX=x.aX) (e4:x'.bO=x.bO) :
  dJ F fp S C (oT (Al h vv q ((f.bR.map aY.C).flatten++aY.C v)) (lO F) (HF.set (i*6+4) (.vec q 3 (f.bR.length+1)))) x':=by
 refine fc.upd (k:=4) (f':={ f with bR:=f.bR++[v] }) (vv':=.vec q 3 (f.bR.length+1)) (bv':=bv) (by omega) rfl (fun id h1 h2=>sL (fun e=>h1 (e ▸ hq)) h2) ?_ fc.body (fun id hi=>.inr (by rw [show id=q by simpa [hM] using hi];exact hq)) e1 e2 e3 e4;have:=fc.vars.app (q:=q) (rows2:=[aY.C v]) (fun r hr=>by rw [List.mem_singleton.1 hr];rfl);have e:(f.bR.map aY.C++[aY.C v]).flatten=(f.bR.map aY.C).flatten++aY.C v:=by simp
 rw [e] at this;simpa using this
end
theorem dJ.scopeS (hk:dJ F fp S C h x):oK S 1 x.aX.length:=hk.scopeR.shC
theorem dJ.callsS (hk:dJ F fp S C h x):oK C 1 x.bO.length:=by
 obtain ⟨fs,cs,hk⟩:=hk;have:=hk.rC.sh
 rwa [List.length_map,hk.cl] at this
structure DL (F fp S C:V) (h:Hp) (x:aD) (i:Nat) (l:List Int) (cv:V) (HC:List V):Prop where
 hC:h (lO C)=some HC
 len:i+1<=HC.length
 row:∃rest,HC.drop i=cv::rest
 cell:eP h cv 1 (l.map (cI .i64))
 up:∃fs cs,tW F fp S C fs cs h x/\x.bO[i]? = some l/\cs[i]? = some cv
theorem dJ.focC (hk:dJ F fp S C h x) {i:Nat} {l:List Int} (hl:x.bO[i]? = some l):∃cv HC,DL F fp S C h x i l cv HC:=by
 obtain ⟨fs,cs,hk⟩:=hk
 obtain ⟨v,hv⟩:∃v,cs[i]? = some v:=by
  have:=(List.getElem?_eq_some_iff.1 hl).1;rw [←hk.cl] at this;exact ⟨_,List.getElem?_eq_getElem this⟩
 obtain ⟨HC,rest,e1,e2,e3,e4⟩:=hk.rC.fC (i:=i) (r:=[v]) (by rw [List.getElem?_map,hv];rfl);refine ⟨v,HC,e1,?_,⟨rest,by have:=e3 0 (by omega);rwa [Nat.mul_one] at this⟩,hk.rCi i l v hl hv,⟨fs,cs,hk,hl,hv⟩⟩;have h1:i<x.bO.length:=(List.getElem?_eq_some_iff.1 hl).1;rw [List.length_map,hk.cl] at e2;omega
section
variable {i:Nat} {l:List Int} {cv:V} {HC:List V}
theorem DL.nd (fc:DL F fp S C h x i l cv HC):lO C ∉ hM cv/\hM C=[lO C]:=by
 obtain ⟨fs,cs,hk,hl,hv⟩:=fc.up
 have hF:hM C=[lO C]:=by
  obtain ⟨vs,rest,e1,e2,e3,e4⟩:=hk.rC.fC (i:=i) (r:=[cv]) (by rw [List.getElem?_map,hv];rfl);rw [e4];rfl
 refine ⟨fun hi=>?_,hF⟩;have:=hk.nd 2 0 4 i (lO C) (by show lO C ∈ hM C;rw [hF];simp) (by show lO C ∈ hM (match cs[i]? with | some v=>v | none=>.nilv);rw [hv];exact hi);omega
theorem DL.apF (fc:DL F fp S C h x i l cv HC) (hq:h q=none) {l2:List V}:Al h cv q l2 (lO C)=some HC:=by
 rw [sL (fun e=>by rw [←e,fc.hC] at hq;cases hq) fc.nd.1];exact fc.hC
theorem DL.app (fc:DL F fp S C h x i l cv HC) (hq:h q=none) (n:Int) (e1:x'.p_=x.p_) (e2:x'.f_=x.f_) (e3:x'.aX=x.aX) (e4:x'.bO=x.bO.set i (l++[n])) :
  dJ F fp S C (oT (Al h cv q ((l.map (cI .i64)).flatten++[.lit (.int .i64 n)])) (lO C) (HC.set i (.vec q 1 (l.length+1)))) x':=by
 obtain ⟨hnC,hC1⟩:=fc.nd;obtain ⟨fs,cs,hk,hl,hv⟩:=fc.up;have hqC:lO C ≠ q:=fun e=>by have:=fc.hC;rw [e,hq] at this;cases this
 have hslot:kV F S C fs cs 4 i=cv:=by show (match cs[i]? with | some v=>v | none=>.nilv)=cv;rw [hv]
 have hC0:lO C ∈ hM (kV F S C fs cs 2 0):=by show lO C ∈ hM C;rw [hC1];simp
 have hput:∀ {g:Hp} {w:List V} id,id ≠ lO C->oT g (lO C) w id=g id:=fun id hne=>by show (if id=lO C then _ else _)=_;rw [if_neg hne]
 have hfr:∀ {a b},¬(a=2/\b=0)->¬(a=4/\b=i)->∀id ∈ hM (kV F S C fs cs a b),oT (Al h cv q ((l.map (cI .i64)).flatten++[.lit (.int .i64 n)])) (lO C) (HC.set i (.vec q 1 (l.length+1))) id=h id:=by
  intro a b n1 n2 id hi
  have hneC:id ≠ lO C:=fun e=>by
   subst e;obtain ⟨k1,k2⟩:=hk.nd a b 2 0 _ hi hC0;exact n1 ⟨k1,k2⟩
  rw [hput id hneC];refine sL (fun e=>hk.fresh hq a b (e ▸ hi)) fun h2=>?_;obtain ⟨k1,k2⟩:=hk.nd a b 4 i id hi (by rw [hslot];exact h2);exact n2 ⟨k1,k2⟩
 have hil:i<x.bO.length:=(List.getElem?_eq_some_iff.1 hl).1;have hif:i<cs.length:=(List.getElem?_eq_some_iff.1 hv).1;refine ⟨fs,cs.set i (.vec q 1 (l.length+1)),by rw [e1];exact hk.fl,by rw [e1];exact hk.rF.frame (hfr (a:=0) (b:=0) (by omega) (by omega)),by rw [e1];exact hk.frV fun j=>hfr (by omega) (by omega),by rw [e3];exact hk.rS.frame (hfr (a:=1) (b:=0) (by omega) (by omega)),by rw [e4];simp [hk.cl],?_,?_,by rw [e2];exact hk.rfp,?_⟩
 ·have:=hk.rC.setRow (h':=oT (Al h cv q ((l.map (cI .i64)).flatten++[.lit (.int .i64 n)])) (lO C) (HC.set i (.vec q 1 (l.length+1)))) (k:=0) (u:=.vec q 1 (l.length+1)) (i:=i) (r:=[cv]) (by rw [List.getElem?_map,hv];rfl) (by omega) fc.hC (by show (if lO C=lO C then _ else _)=_;rw [if_pos rfl,Nat.mul_one];rfl);rw [List.map_set];exact this
 ·rw [e4];intro j g v hg hv2;rw [List.getElem?_set] at hg hv2
  by_cases e:i=j
  ·subst e;rw [if_pos rfl,if_pos hil] at hg;rw [if_pos rfl,if_pos hif] at hv2
   injection hg with hg;injection hv2 with hv2
   subst hg hv2;have h2:=fc.cell.app (q:=q) (rows2:=[cI .i64 n]) (fun r hr=>by rw [List.mem_singleton.1 hr];rfl);have e5:(l.map (cI .i64)++[cI .i64 n]).flatten=(l.map (cI .i64)).flatten++[.lit (.int .i64 n)]:=by simp [cI]
   rw [e5] at h2;have h3:eP (Al h cv q ((l.map (cI .i64)).flatten++[.lit (.int .i64 n)])) (.vec q 1 (l.length+1)) 1 ((l++[n]).map (cI .i64)):=by simpa using h2
   refine h3.frame fun id hi=>hput id fun e=>?_;have:id=q:=by simpa [hM] using hi
   exact hqC (e ▸ this)
  ·rw [if_neg e] at hg hv2;exact (hk.rCi j g v hg hv2).frame fun id hi=>hfr (a:=4) (b:=j) (by omega) (by omega) id (by show id ∈ hM (match cs[j]? with | some v=>v | none=>.nilv);rw [hv2];exact hi)
 ·refine hk.nd.upd (a:=4) (b:=i) (fun a b hne=>?_) fun id hi=>?_
  ·unfold kV
   split <;> first | rfl | skip
   rename_i j;rw [List.getElem?_set,if_neg (fun e=>hne ⟨rfl,e.symm⟩)]
  ·have:kV F S C fs (cs.set i (.vec q 1 (l.length+1))) 4 i=.vec q 1 (l.length+1):=by
    show (match (cs.set i (.vec q 1 (l.length+1)))[i]? with | some v=>v | none=>.nilv)=_;rw [List.getElem?_set,if_pos rfl,if_pos hif]
   rw [this] at hi
   right;intro a b
   have:id=q:=by simpa [hM] using hi
   rw [this];exact hk.fresh hq a b
end
theorem dJ.mkCalls {n:Nat} (hk:dJ F fp S C h x) (hq:h q=none) (e1:x'.p_=x.p_) (e2:x'.f_=x.f_) (e3:x'.aX=x.aX) (e4:x'.bO=List.replicate n []):dJ F fp S (.vec q 1 n) (oT h q (List.replicate n [V.nilv]).flatten) x':=by
 obtain ⟨fs,cs,hk⟩:=hk
 have hput:∀ {a b},∀id ∈ hM (kV F S C fs cs a b),oT h q (List.replicate n [V.nilv]).flatten id=h id:=fun id hi=>by
  show (if id=q then _ else _)=_;rw [if_neg (fun e=>hk.fresh hq _ _ (e ▸ hi))]
 refine ⟨fs,List.replicate n .nilv,by rw [e1];exact hk.fl,by rw [e1];exact hk.rF.frame (hput (a:=0) (b:=0)),by rw [e1];exact hk.frV fun j=>hput,by rw [e3];exact hk.rS.frame (hput (a:=1) (b:=0)),by rw [e4];simp,?_,?_,by rw [e2];exact hk.rfp,?_⟩
 ·refine ⟨fun r hr=>?_,.inr ⟨q,(List.replicate n [V.nilv]).flatten,by simp,by show (if q=q then _ else _)=_;rw [if_pos rfl],?_⟩⟩
  ·simp only [List.map_replicate,List.mem_replicate] at hr;rw [hr.2];rfl
  ·simp
 ·rw [e4];intro j l v hl hv;rw [List.getElem?_replicate] at hl hv
  split at hl
  ·rename_i hj;rw [if_pos hj] at hv
   injection hl with hl;injection hv with hv
   subst hl hv;exact .nil _ _
  ·cases hl
 ·intro a b a' b' id h1 h2
  have key:∀a b,id ∈ hM (kV F S (.vec q 1 n) fs (List.replicate n .nilv) a b)->(a=2/\b=0/\id=q) ∨ (a<=3/\¬(a=2/\b=0)/\id ∈ hM (kV F S C fs cs a b)):=by
   intro a b hi;unfold kV at hi ⊢
   split at hi
   ·exact .inr ⟨by omega,by omega,hi⟩
   ·exact .inr ⟨by omega,by omega,hi⟩
   ·exact .inl ⟨rfl,rfl,by simpa [hM] using hi⟩
   ·exact .inr ⟨by omega,by omega,hi⟩
   ·rename_i j;rw [List.getElem?_replicate] at hi
    split at hi
    ·rename_i v hv
     split at hv
     ·injection hv with hv;subst hv;cases hi
     ·cases hv
    ·cases hi
   ·cases hi
  rcases key a b h1 with ⟨k1,k2,k3⟩ | ⟨k1,k2,k3⟩ <;> rcases key a' b' h2 with ⟨l1,l2,l3⟩ | ⟨l1,l2,l3⟩
  ·exact ⟨k1.trans l1.symm,k2.trans l2.symm⟩
  ·exact absurd (k3 ▸ l3) (hk.fresh hq _ _)
  ·exact absurd (l3 ▸ k3) (hk.fresh hq _ _)
  ·exact hk.nd a b a' b' id k3 l3
theorem dJ.focF (hk:dJ F fp S C h x) (hn:x.f_<0):∃rows,eP h F 6 rows/\rows.length=x.p_.aS.length/\∀ {q:Pa} (hq:h q=none) {f:aO} {x':aD},x'.p_=⟨x.p_.aS++[f]⟩->x'.f_=x.f_->x'.aX=x.aX->x'.bO=x.bO->f.bR=[]->f.eR=[]->fp=fp ->
  dJ (.vec q 6 (x.p_.aS.length+1)) fp S C (Al h F q (rows.flatten++nP f .nilv .nilv)) x':=by
 obtain ⟨fs,cs,hk⟩:=hk;have hrl:(List.zipWith (fun (f:aO) (v:V × V)=>nP f v.1 v.2) x.p_.aS fs).length=x.p_.aS.length:=by rw [List.length_zipWith,hk.fl,Nat.min_self]
 refine ⟨_,hk.rF,hrl,?_⟩;intro q hq f x' e1 e2 e3 e4 e5 e6 _
 have hfr:∀ {a b},¬(a=0/\b=0)->∀id ∈ hM (kV F S C fs cs a b),Al h F q ((List.zipWith (fun (f:aO) (v:V × V)=>nP f v.1 v.2) x.p_.aS fs).flatten++nP f .nilv .nilv) id=h id:=by
  intro a b n1 id hi;refine sL (fun e=>hk.fresh hq a b (e ▸ hi)) fun h2=>?_;obtain ⟨k1,k2⟩:=hk.nd a b 0 0 id hi h2;exact n1 ⟨k1,k2⟩
 refine ⟨fs++[(.nilv,.nilv)],cs,by rw [e1];simp [hk.fl],?_,?_,by rw [e3];exact hk.rS.frame (hfr (a:=1) (b:=0) (by omega)),by rw [e4];exact hk.cl,hk.rC.frame (hfr (a:=2) (b:=0) (by omega)),by rw [e4];exact hk.frC fun j=>hfr (by omega),?_,?_⟩
 ·have:=hk.rF.app (q:=q) (rows2:=[nP f .nilv .nilv]) (fun r hr=>by rw [List.mem_singleton.1 hr];rfl);have e:(List.zipWith (fun (f:aO) (v:V × V)=>nP f v.1 v.2) x.p_.aS fs++[nP f .nilv .nilv]).flatten=(List.zipWith (fun (f:aO) (v:V × V)=>nP f v.1 v.2) x.p_.aS fs).flatten++nP f .nilv .nilv:=by simp
  rw [e] at this
  have e7:List.zipWith (fun (f:aO) (v:V × V)=>nP f v.1 v.2) (x.p_.aS++[f]) (fs++[(.nilv,.nilv)])=List.zipWith (fun (f:aO) (v:V × V)=>nP f v.1 v.2) x.p_.aS fs++[nP f .nilv .nilv]:=by
   rw [List.zipWith_append (by rw [hk.fl])];rfl
  rw [e1];show eP _ _ 6 (List.zipWith (fun (f:aO) (v:V × V)=>nP f v.1 v.2) (x.p_.aS++[f]) (fs++[(.nilv,.nilv)]));rw [e7];rw [List.length_append,hrl] at this;exact this
 ·rw [e1];intro j g v hg hv;have hg':(x.p_.aS++[f])[j]? = some g:=hg
  rcases Nat.lt_or_ge j x.p_.aS.length with hj | hj
  ·rw [List.getElem?_append_left hj] at hg';rw [List.getElem?_append_left (by rw [hk.fl];exact hj)] at hv;have:=hk.rV j g v hg' hv;exact ⟨this.1.frame fun id hi=>hfr (a:=3) (b:=j) (by omega) id (by show id ∈ hM (match fs[j]? with | some v=>v.1 | none=>.nilv);rw [hv];exact hi),this.2⟩
  ·have hjl:j<(x.p_.aS++[f]).length:=(List.getElem?_eq_some_iff.1 hg').1;simp only [List.length_append,List.length_singleton] at hjl;have:j=x.p_.aS.length:=by omega
   subst this;rw [List.getElem?_append_right (Nat.le_refl _),Nat.sub_self] at hg';rw [List.getElem?_append_right (by rw [hk.fl];exact Nat.le_refl _),hk.fl,Nat.sub_self] at hv;have h1:f=g:=by simpa using hg'
   have h2:((.nilv,.nilv):V × V)=v:=by simpa using hv
   subst h1 h2;rw [e5,e6];exact ⟨.nil _ _,.inl ⟨rfl,rfl⟩⟩
 ·intro j hj;omega
 ·intro a b a' b' id h1 h2
  have key:∀a b,id ∈ hM (kV (.vec q 6 (x.p_.aS.length+1)) S C (fs++[(.nilv,.nilv)]) cs a b)->(a=0/\b=0/\id=q) ∨ (¬(a=0/\b=0)/\id ∈ hM (kV F S C fs cs a b)):=by
   intro a b hi;unfold kV at hi ⊢
   split at hi
   ·exact .inl ⟨rfl,rfl,by simpa [hM] using hi⟩
   ·exact .inr ⟨by omega,hi⟩
   ·exact .inr ⟨by omega,hi⟩
   ·refine .inr ⟨by omega,?_⟩;show id ∈ hM (match fs[b]? with | some v=>v.1 | none=>.nilv)
    rcases Nat.lt_or_ge b fs.length with hj | hj
    ·rw [List.getElem?_append_left hj] at hi;exact hi
    ·rw [List.getElem?_append_right hj] at hi
     split at hi
     ·rename_i v hv;cases hjj:b - fs.length with
      | zero=>rw [hjj] at hv;have:((.nilv,.nilv):V × V)=v:=by simpa using hv
              subst this;cases hi
      | succ n=>rw [hjj] at hv;cases hv
     ·cases hi
   ·exact .inr ⟨by omega,hi⟩
   ·cases hi
  rcases key a b h1 with ⟨k1,k2,k3⟩ | ⟨k2,k3⟩ <;> rcases key a' b' h2 with ⟨l1,l2,l3⟩ | ⟨l2,l3⟩
  ·exact ⟨k1.trans l1.symm,k2.trans l2.symm⟩
  ·exact absurd (k3 ▸ l3) (hk.fresh hq _ _)
  ·exact absurd (l3 ▸ k3) (hk.fresh hq _ _)
  ·exact hk.nd a b a' b' id k3 l3
end
theorem eP.readI' {h:Hp} {v:V} {l:List Int} (hv:eP h v 1 (l.map (cI .i64))) {i:Nat} {x:Int} (hx:l[i]? = some x):∃HV rest,h (lO v)=some HV/\HV.drop i=.lit (.int .i64 x)::rest:=by have:=hv.readI hx _ rfl;rwa [Nat.mul_one] at this
theorem eP.readVar {h:Hp} {v:V} {l:List aY} (hv:eP h v 3 (l.map aY.C)) {i:Nat} {x:aY} (hx:l[i]? = some x):∃HV rest,h (lO v)=some HV/\HV.drop (i*3)=.lit (.string (bs x.gI))::.lit (.int .i64 x.bN)::.lit (.int .i64 x.nR)::rest/\HV.drop (i*3+1)=.lit (.int .i64 x.bN)::.lit (.int .i64 x.nR)::rest/\HV.drop (i*3+2)=.lit (.int .i64 x.nR)::rest:=hv.read3 hx _ _ _ rfl
end Go.Proofs.YtncembphlfbgoaaDoor.Abs
namespace Go.Proofs.YtncembphlfbgoaaDoor.Abs
open Go.RowKit
def ax (P:Program) (op:Op) (q:Pa) (g:Operand->V) (m:M) (v:V):Prop:=
 match op with
 | .load T x=>lJ P m T (g x) (fun r=>r=v)
 | .call cl=>(match cl.callee with | .value f=>DN P (g f) (cl.args.toList.map g) q m (fun r m1=>r=v/\m1=m) | _=>An P (.call cl) g (fun r=>r=v))
 | op=>An P op g (fun r=>r=v)
section
variable {P:Program} {o:Oper} {op:Op} {q:Pa} {E:dK} {m:M} {v:V} {g g1:Operand->V}
theorem tE (h:ax P op q g m v) (hg:∀x ∈ jB op,g1 x=g x):ax P op q g1 m v:=by
 cases op with
 | load T x=>simp only [ax] at h ⊢;rw [hg x (by simp [jB])];exact h
 | call cl=>
   obtain ⟨callee,args,ats⟩:=cl;cases callee with
   | value f=>
     simp only [ax] at h ⊢;rw [hg f (by simp [jB]),List.map_congr_left (fun x hx=>hg x (by simp only [jB];exact List.mem_append_right _ hx))];exact h
   | _=>simp only [ax] at h ⊢;exact AN (P:=P) (C:=fun r=>r=v) h hg
 | _=>simp only [ax] at h ⊢;exact AN (P:=P) (C:=fun r=>r=v) h hg
theorem zB {f:Operand} {xs:Array Operand} {ts:Array TypeId} {C:V->M->Prop}:Av P ⟨.value f,xs,ts⟩ q E m C=DN P (ev m E f) (xs.toList.map (ev m E)) q m C:=by
 simp only [Av,DN]
 generalize ev m E f=u
 cases u with
 | fn g _ _=>cases g <;> rfl
 | _=>rfl
theorem DB (h:ax P o.op q (ev m E) m v):dF P o q E m (fun r m1=>r=v/\m1=m):=by
 have e0:(fun r=>r=v/\m=m)=fun r=>r=v:=by funext r;simp
 have pp:An P o.op (ev m E) (fun r=>r=v)->dF P o q E m (fun r m1=>r=v/\m1=m):=fun h=>BD (C:=fun r m1=>r=v/\m1=m) (by show An P o.op (ev m E) (fun r=>r=v/\m=m);rw [e0];exact h);obtain ⟨dst,op,ty,pos,after,guard⟩:=o;cases op with
 | load T x=>
   show lJ P m T (ev m E x) (fun r=>r=v/\m=m);rw [e0];exact h
 | call cl=>
   obtain ⟨callee,args,ats⟩:=cl;cases callee with
   | value f=>simp only [dF];rw [zB];exact h
   | _=>simp only [ax] at h;exact pp h
 | _=>simp only [ax] at h;exact pp h
end
def PVA (P:Program) (full:List Oper) (π:Pa) (k0:Nat) (m:M):List Nat->(dK->Prop)->dK->Prop
 | [],C,E=>C E
 | i::is,C,E=>match full[i]? with
   | some o=>∃v,ax P o.op ((k0+i)::π) (ev m E) m v/\PVA P full π k0 m is C (eL o.dst v E)
   | none=>False
def sA (P:Program) (full:List Oper) (π:Pa) (k0:Nat) (EA:dK) (m1:M) (i:Nat):Prop:=
 match full[i]? with
 | some o=>(match o.dst with | some d=>ax P o.op ((k0+i)::π) (ev m1 EA) m1 (EA d) | none=>False)
 | none=>False
def pvp (P:Program) (full:List Oper) (π:Pa) (k0 p:Nat) (late:List Nat) (K:Nat->dK->M->Prop) (m:M) (EA:dK):Prop:=
 match full[p]? with
 | some o=>(match o.op with
   | .call ⟨.value f,xs,_⟩=>DN P (ev m EA f) (xs.toList.map (ev m EA)) ((k0+p)::π) m (fun r m1=>(∀i ∈ late,sA P full π k0 EA m1 i)/\gL P full π K (full.drop (p+1)) (k0+p+1) (eL o.dst r EA) m1)
   | _=>False)
 | none=>False
def Dm (full:List Oper) (tbl:List Nat) (i j:Nat):Bool:=
 match full[i]?,full[j]? with
 | some x,some y=>(match x.dst with
   | some d=>(i == j || y.dst != some d) && (!((oD full y).contains d) || (qO tbl i j && decide (i<j)))
   | none=>true)
 | _,_=>false
def pvChk (full:List Oper) (tbl:List Nat) (p:Nat) (late:List Nat):Bool:=
 yA full tbl && full.all (fun o=>o.guard.isNone) && (List.range (p+1)).all (fun i=>(List.range (p+1)).all fun j=>Dm full tbl i j) &&
 (List.range p).all (fun i=>qO tbl i p || late.contains i) && (List.range full.length).all (fun j=>decide (j<=p) || (List.range j).all fun i=>qO tbl i j) && decide (p<full.length)
section
variable {P:Program} {full:List Oper} {π:Pa} {k0 p N:Nat} {tbl late:List Nat} {E0 EA:dK} {m0:M} {K:Nat->dK->M->Prop}
theorem rT {m:M} {E E':dK} {o:Oper} (h:∀t ∈ oD full o,E' t=E t):∀x ∈ jB o.op,ev m E' x=ev m E x:=by
 intro x hx;cases x with
 | tmp t=>
   refine h t ?_;unfold oD;exact List.mem_append_left _ (List.mem_filterMap.2 ⟨_,hx,rfl⟩)
 | _=>rfl
structure JG (P:Program) (full:List Oper) (π:Pa) (k0 p:Nat) (m0:M) (E0 EA:dK):Prop where
 val:∀i,i<p->∃o v,full[i]? = some o/\ax P o.op ((k0+i)::π) (ev m0 EA) m0 v/\∀d,o.dst=some d->EA d=v
 out:∀t,(∀i o,i<p->full[i]? = some o->o.dst ≠ some t)->EA t=E0 t
theorem BL (hc:∀i,i<=p->∀j,j<=p->Dm full tbl i j=true) {i j:Nat} (hi:i<=p) (hj:j<=p) {x y:Oper} (hx:full[i]? = some x) (hy:full[j]? = some y) {d:Nat} (hd:x.dst=some d) :
  (i ≠ j->y.dst ≠ some d)/\(d ∈ oD full y->qO tbl i j=true/\i<j):=by
 have:=hc i hi j hj;unfold Dm at this;rw [hx,hy] at this;simp only [hd,Bool.and_eq_true,Bool.or_eq_true,beq_iff_eq,bne_iff_ne,Bool.not_eq_true',decide_eq_true_eq] at this;refine ⟨fun hne=>this.1.resolve_left hne,fun hm=>this.2.resolve_left fun h=>?_⟩;have hm':(oD full y).contains d=true:=List.contains_iff_mem.2 hm;rw [h] at hm';cases hm'
theorem PVA_ok (hc:∀i,i<=p->∀j,j<=p->Dm full tbl i j=true) {C:dK->Prop}:∀(n s:Nat) (E:dK),s+n<=p->PVA P full π k0 m0 (List.range' s n) C E ->
  ∃EA,C EA/\(∀i,s<=i->i<s+n->∃o v,full[i]? = some o/\ax P o.op ((k0+i)::π) (ev m0 EA) m0 v/\∀d,o.dst=some d->EA d=v)/\∀t,(∀i o,s<=i->i<s+n->full[i]? = some o->o.dst ≠ some t)->EA t=E t:=by
 intro n
 induction n with
 | zero=>intro s E _ h;exact ⟨E,h,fun i h1 h2=>by omega,fun _ _=>rfl⟩
 | succ n ih=>
   intro s E hs h;rw [List.range'_succ] at h;simp only [PVA] at h
   split at h
   ·rename_i o ho;obtain ⟨v,hv,h⟩:=h;obtain ⟨EA,hC,h1,h2⟩:=ih (s+1) _ (by omega) h
    have hlook:∀t ∈ oD full o,EA t=E t:=by
     intro t ht
     have e1:EA t=eL o.dst v E t:=h2 t fun i x hi1 hi2 hx hd=>by
      have:=((BL hc (by omega) (by omega) hx ho hd).2 ht).2;omega
     rw [e1]
     exact lG fun hd=>by
      have:=((BL hc (by omega) (by omega) ho ho hd).2 ht).2;omega
    refine ⟨EA,hC,fun i hi1 hi2=>?_,fun t ht=>?_⟩
    ·by_cases e:i=s
     ·subst e;refine ⟨o,v,ho,tE hv (rT hlook),fun d hd=>?_⟩;rw [h2 d fun j x hj1 hj2 hx hxd=>(BL hc (by omega) (by omega) ho hx hd).1 (by omega) hxd,hd];show (if d=d then v else E d)=v;rw [if_pos rfl]
     ·exact h1 i (by omega) (by omega)
    ·rw [h2 t fun j x hj1 hj2 hx=>ht j x (by omega) (by omega) hx];exact lG (ht s o (Nat.le_refl _) (by omega) ho)
   ·exact h.elim
inductive AX (P:Program) (full:List Oper) (π:Pa) (k0 p:Nat) (late:List Nat) (K:Nat->dK->M->Prop) (m0:M) (E0 EA:dK) (D:Nat->Bool):dK->M->Prop where
 | one {E:dK}:D p=false->(∀j,p<j->D j=false)->(∀i o t,i<p->full[i]? = some o->o.dst=some t->D i=true->E t=EA t)->(∀t,(∀i o,i<p->full[i]? = some o->o.dst=some t->D i=false)->E t=E0 t)->AX P full π k0 p late K m0 E0 EA D E m0
 | two (r:V) (op:Oper) {E:dK} {m:M}:D p=true->(∀j,p<j->D j=false)->full[p]? = some op->(∀i ∈ late,sA P full π k0 EA m i)->gL P full π K (full.drop (p+1)) (k0+p+1) (eL op.dst r EA) m->(∀i,i<p->D i=false->i ∈ late) ->
    (∀i o t,i<p->full[i]? = some o->o.dst=some t->D i=true->E t=EA t)->(∀t,op.dst=some t->E t=r)->(∀t,op.dst ≠ some t->(∀i o,i<p->full[i]? = some o->o.dst=some t->D i=false)->E t=E0 t)->AX P full π k0 p late K m0 E0 EA D E m
 | three {E:dK} {m:M} (j:Nat):p<j->(∀i,i<j->D i=true)->(∀i,j<=i->D i=false)->gL P full π K (full.drop j) (k0+j) E m->AX P full π k0 p late K m0 E0 EA D E m
variable {D:Nat->Bool} {E:dK} {m:M}
theorem AX.norm (hc:∀i,i<=p->∀j,j<=p->Dm full tbl i j=true) (ht:JG P full π k0 p m0 E0 EA) (h:AX P full π k0 p late K m0 E0 EA D E m) (hall:∀i,i<=p->D i=true) (hj:∀j,p<j->D j=false):gL P full π K (full.drop (p+1)) (k0+p+1) E m:=by
 cases h with
 | one h1=>rw [hall p (Nat.le_refl _)] at h1;cases h1
 | two r op h1 h2 h3 h4 h5 h6 h7 h8 h9=>
   have:E=eL op.dst r EA:=by
    funext t
    by_cases e:op.dst=some t
    ·rw [h8 t e,e];show r=if t=t then r else _;rw [if_pos rfl]
    ·rw [lG e]
     by_cases hw:∃i o,i<p/\full[i]? = some o/\o.dst=some t
     ·obtain ⟨i,o,hi,ho,hd⟩:=hw;exact h7 i o t hi ho hd (hall i (by omega))
     ·rw [h9 t e fun i o hi ho hd=>absurd ⟨i,o,hi,ho,hd⟩ hw];exact (ht.out t fun i o hi ho hd=>hw ⟨i,o,hi,ho,hd⟩).symm
   rw [this];exact h5
 | three j h1 h2 h3 h4=>
   have:j=p+1:=by
    rcases Nat.lt_or_ge (p+1) j with hlt | hge
    ·have:=h2 (p+1) hlt;rw [hj (p+1) (by omega)] at this;cases this
    ·omega
   subst this;exact h4
theorem AX.three_of (hc:∀i,i<=p->∀j,j<=p->Dm full tbl i j=true) (ht:JG P full π k0 p m0 E0 EA) (h:AX P full π k0 p late K m0 E0 EA D E m) (hall:∀i,i<=p->D i=true) :
  ∃j,p<j/\(∀i,i<j->D i=true)/\(∀i,j<=i->D i=false)/\gL P full π K (full.drop j) (k0+j) E m:=by
 cases h with
 | one h1=>rw [hall p (Nat.le_refl _)] at h1;cases h1
 | two r op h1 h2 h3 h4 h5 h6 h7 h8 h9=>exact ⟨p+1,by omega,fun i hi=>hall i (by omega),fun i hi=>h2 i (by omega),AX.norm hc ht (.two r op h1 h2 h3 h4 h5 h6 h7 h8 h9) hall h2⟩
 | three j h1 h2 h3 h4=>exact ⟨j,h1,h2,h3,h4⟩
theorem AX.step (hc:∀i,i<=p->∀j,j<=p->Dm full tbl i j=true) (hg:∀o ∈ full,o.guard=none) (hl:∀i,i<p->qO tbl i p=true ∨ i ∈ late) (hb:∀j,p<j->j<full.length->∀i,i<j->qO tbl i j=true) (ht:JG P full π k0 p m0 E0 EA) (hp:pvp P full π k0 p late K m0 EA)
  (h:AX P full π k0 p late K m0 E0 EA D E m) {i:Nat} {o:Oper} (ho:full[i]? = some o) (hu:D i=false) (hbef:∀j,qO tbl j i=true->D j=true) :
  ∃C:V->M->Prop,dF P o ((k0+i)::π) E m C/\∀r m1,C r m1->AX P full π k0 p late K m0 E0 EA (tA D i) (eL o.dst r E) m1:=by
 have hil:i<full.length:=(List.getElem?_eq_some_iff.1 ho).1
 rcases Nat.lt_trichotomy i p with hlt | heq | hgt
 ·-- an operation ahead of the pivot
  obtain ⟨o',v,ho',hax,hval⟩:=ht.val i hlt;rw [ho] at ho';injection ho' with ho';subst ho'
  cases h with
  | one h1 h2 h3 h4=>
    have hag:∀t ∈ oD full o,E t=EA t:=by
     intro t htl
     by_cases hw:∃j x,j<p/\full[j]? = some x/\x.dst=some t
     ·obtain ⟨j,x,hj,hx,hd⟩:=hw;exact h3 j x t hj hx hd (hbef j ((BL hc (by omega) (by omega) hx ho hd).2 htl).1)
     ·rw [h4 t fun j x hj hx hd=>absurd ⟨j,x,hj,hx,hd⟩ hw];exact (ht.out t fun j x hj hx hd=>hw ⟨j,x,hj,hx,hd⟩).symm
    refine ⟨_,DB (tE hax (rT hag)),?_⟩;rintro r m1 ⟨rfl,rfl⟩;refine .one (by rw [fN (by omega)];exact h1) (fun j hj=>by rw [fN (by omega)];exact h2 j hj) (fun j x t hj hx hd hDj=>?_) (fun t htn=>?_)
    ·by_cases e:j=i
     ·subst e;rw [ho] at hx;injection hx with hx;subst hx
      rw [hd];show (if t=t then r else E t)=_
      rw [if_pos rfl];exact (hval t hd).symm
     ·rw [fN e] at hDj;rw [lG ((BL hc (by omega) (by omega) hx ho hd).1 e)];exact h3 j x t hj hx hd hDj
    ·have hni:o.dst ≠ some t:=fun hd=>by have:=htn i o hlt ho hd;rw [lB] at this;cases this
     rw [lG hni];refine h4 t fun j x hj hx hd=>?_;have:=htn j x hj hx hd
     by_cases e:j=i
     ·subst e;exact hu
     ·rwa [fN e] at this
  | two r0 op h1 h2 h3 h4 h5 h6 h7 h8 h9=>
    have hlate:=h4 i (h6 i hlt hu);unfold sA at hlate;rw [ho] at hlate;simp only at hlate;cases hd0:o.dst with
    | none=>rw [hd0] at hlate;exact hlate.elim
    | some d=>
      rw [hd0] at hlate;simp only at hlate
      have hag:∀t ∈ oD full o,E t=EA t:=by
       intro t htl
       have hnp:op.dst ≠ some t:=fun hd=>by
        have:=((BL hc (Nat.le_refl _) (by omega) h3 ho hd).2 htl).2;omega
       by_cases hw:∃j x,j<p/\full[j]? = some x/\x.dst=some t
       ·obtain ⟨j,x,hj,hx,hd⟩:=hw;exact h7 j x t hj hx hd (hbef j ((BL hc (by omega) (by omega) hx ho hd).2 htl).1)
       ·rw [h9 t hnp fun j x hj hx hd=>absurd ⟨j,x,hj,hx,hd⟩ hw];exact (ht.out t fun j x hj hx hd=>hw ⟨j,x,hj,hx,hd⟩).symm
      refine ⟨_,DB (tE hlate (rT hag)),?_⟩;rintro r m1 ⟨rfl,rfl⟩;refine .two r0 op (by rw [fN (by omega)];exact h1) (fun j hj=>by rw [fN (by omega)];exact h2 j hj) h3 h4 h5 (fun j hj hDj=>?_) (fun j x t hj hx hd hDj=>?_) (fun t hd=>?_) (fun t hnp htn=>?_)
      ·by_cases e:j=i
       ·subst e;exact h6 j hj hu
       ·rw [fN e] at hDj;exact h6 j hj hDj
      ·by_cases e:j=i
       ·subst e;rw [ho] at hx;injection hx with hx;subst hx
        rw [hd0] at hd;injection hd with hd;subst hd
        show (if d=d then EA d else E d)=EA d;rw [if_pos rfl]
       ·rw [fN e] at hDj;rw [lG (by rw [←hd0];exact (BL hc (by omega) (by omega) hx ho hd).1 e)];exact h7 j x t hj hx hd hDj
      ·rw [lG (by rw [←hd0];exact (BL hc (Nat.le_refl _) (by omega) h3 ho hd).1 (by omega))];exact h8 t hd
      ·have hni:o.dst ≠ some t:=fun hd=>by have:=htn i o hlt ho hd;rw [lB] at this;cases this
       rw [lG (by rw [←hd0];exact hni)];refine h9 t hnp fun j x hj hx hd=>?_;have:=htn j x hj hx hd
       by_cases e:j=i
       ·subst e;exact hu
       ·rwa [fN e] at this
  | three j h1 h2 h3 h4=>rw [h2 i (by omega)] at hu;cases hu
 ·-- the pivot
  subst heq;cases h with
  | one h1 h2 h3 h4=>
    have hag:∀t ∈ oD full o,E t=EA t:=by
     intro t htl
     by_cases hw:∃j x,j<i/\full[j]? = some x/\x.dst=some t
     ·obtain ⟨j,x,hj,hx,hd⟩:=hw;exact h3 j x t hj hx hd (hbef j ((BL hc (by omega) (by omega) hx ho hd).2 htl).1)
     ·rw [h4 t fun j x hj hx hd=>absurd ⟨j,x,hj,hx,hd⟩ hw];exact (ht.out t fun j x hj hx hd=>hw ⟨j,x,hj,hx,hd⟩).symm
    unfold pvp at hp;rw [ho] at hp;simp only at hp;obtain ⟨dst,op,ty,pos,after,guard⟩:=o;simp only at hp
    split at hp
    ·rename_i f xs ts;have hev:=rT (m:=m0) (E:=EA) (E':=E) hag
     have hp2:dF P ⟨dst,.call ⟨.value f,xs,ts⟩,ty,pos,after,guard⟩ ((k0+i)::π) E m0 (fun r m1=>(∀i ∈ late,sA P full π k0 EA m1 i)/\gL P full π K (full.drop (i+1)) (k0+i+1) (eL dst r EA) m1):=by
      have e1:DN P (ev m0 EA f) (xs.toList.map (ev m0 EA))=DN P (ev m0 E f) (xs.toList.map (ev m0 E)):=by
       rw [hev f (by simp [jB]),List.map_congr_left (fun x hx=>hev x (by simp only [jB];exact List.mem_append_right _ hx))]
      rw [e1,←zB (ts:=ts)] at hp;simp only [dF];exact hp
     refine ⟨_,hp2,?_⟩
     ·rintro r m1 ⟨hl1,hP1⟩;refine .two r ⟨dst,.call ⟨.value f,xs,ts⟩,ty,pos,after,guard⟩ (by rw [lB]) (fun j hj=>by rw [fN (by omega)];exact h2 j hj) ho hl1 hP1 (fun j hj hDj=>?_) (fun j x t hj hx hd hDj=>?_) (fun t hd=>?_) (fun t hnp htn=>?_)
      ·rw [fN (by omega)] at hDj
       rcases hl j hj with hb1 | hb1
       ·rw [hbef j hb1] at hDj;cases hDj
       ·exact hb1
      ·rw [fN (by omega)] at hDj;rw [lG ((BL hc (by omega) (Nat.le_refl _) hx ho hd).1 (by omega))];exact h3 j x t hj hx hd hDj
      ·have hd':dst=some t:=hd;subst hd';show (if t=t then r else E t)=r;rw [if_pos rfl]
      ·rw [lG hnp];refine h4 t fun j x hj hx hd=>?_;have:=htn j x hj hx hd
       rwa [fN (by omega)] at this
    ·exact hp.elim
  | two r op h1=>rw [h1] at hu;cases hu
  | three j h1 h2 h3 h4=>rw [h2 i (by omega)] at hu;cases hu
 ·-- behind it
  have hall:∀j,j<i->D j=true:=fun j hj=>hbef j (hb i hgt hil j hj);obtain ⟨j,h1,h2,h3,h4⟩:=h.three_of hc ht fun j hj=>hall j (by omega)
  have:j=i:=by
   rcases Nat.lt_trichotomy j i with g | g | g
   ·have:=hall j g;rw [h3 j (Nat.le_refl _)] at this;cases this
   ·exact g
   ·rw [h2 i g] at hu;cases hu
  subst this;rw [List.drop_eq_getElem_cons hil] at h4;have hoe:full[j]=o:=by rw [List.getElem?_eq_getElem hil] at ho;injection ho
  rw [hoe] at h4;simp only [gL,hg o (List.mem_of_getElem? ho)] at h4;refine ⟨_,h4,fun r m1 hr=>.three (j+1) (by omega) (fun x hx=>?_) (fun x hx=>?_) hr⟩
  ·by_cases e:x=j
   ·subst e;rw [lB]
   ·rw [fN e];exact h2 x (by omega)
  ·rw [fN (by omega)];exact h3 x (by omega)
theorem pv_run {Q:Exit->Act->World->Prop} {c0:Conc} {mm:M} {w0:World} {a0:Act} {W:Nat->Bool} {E00:dK} (hQ:∀a' w',oJ π N W E00 c0 mm w0 a0 K a' w'->Q .normal a' w') (hfit:tZ N full=true) (hW:∀o ∈ full,∀d,o.dst=some d->W d=true)
  (htc:yA full tbl=true) (hpl:p<full.length) (hc:∀i,i<=p->∀j,j<=p->Dm full tbl i j=true) (hg:∀o ∈ full,o.guard=none) (hl:∀i,i<p->qO tbl i p=true ∨ i ∈ late) (hb:∀j,p<j->j<full.length->∀i,i<j->qO tbl i j=true) (ht:JG P full π k0 p m0 E0 EA) (hp:pvp P full π k0 p late K m0 EA) :
  ∀(fuel:Nat) (listed:Array Bool) (E:dK) (c:Conc) (m:M) (w:World) (a:Act),listed.size=full.length->(List.range full.length).countP (fun i=>!(listed.getD i false))<=fuel->(∀i j,listed.getD i false=true->qO tbl j i=true->listed.getD j false=true) ->
   AX P full π k0 p late K m0 E0 EA (fun i=>listed.getD i false) E m->dL c m w->fK c E a N->(∀i,i<full.length->listed.getD i false=false->jU c ((k0+i)::π))->iF c π (k0+full.length)->Abs.iG π c0 mm w0 c m w->a.defers=a0.defers->(∀t,W t=false->E t=E00 t)->wpAny P .any full.toArray Q fuel listed a w:=by
 have hdone:∀(listed:Array Bool) (E:dK) (c:Conc) (m:M) (w:World) (a:Act),listed.size=full.length->(∀i,i<full.length->listed.getD i false=true)->AX P full π k0 p late K m0 E0 EA (fun i=>listed.getD i false) E m->dL c m w->fK c E a N->iF c π (k0+full.length)->Abs.iG π c0 mm w0 c m w->a.defers=a0.defers->(∀t,W t=false->E t=E00 t)->Q .normal a w:=by
  intro listed E c m w a hsz hall hI hR hE hF hX hd hU;obtain ⟨j,h1,h2,h3,h4⟩:=hI.three_of hc ht fun i hi=>hall i (by omega)
  have hj:full.length<=j:=by
   rcases Nat.lt_or_ge j full.length with g | g
   ·have:=hall j g;rw [h3 j (Nat.le_refl _)] at this;cases this
   ·exact g
  have hj2:j=full.length:=by
   rcases Nat.lt_or_ge full.length j with g | g
   ·have:=h2 full.length g;rw [Array.getD_eq_getD_getElem?,Array.getElem?_eq_none (by omega)] at this;cases this
   ·omega
  subst hj2;rw [List.drop_of_length_le (Nat.le_refl _)] at h4;exact hQ a w ⟨c,_,E,m,h4,hR,hX,hE,hF,hd,hU⟩
 have hready:∀listed:Array Bool,listed.size=full.length->Region.ready .any full.toArray listed=[]->∀i,i<full.length->listed.getD i false=true:=by
  intro listed hsz hr i
  induction i using Nat.strongRecOn with
  | ind i ih=>
    intro hi;cases hx:listed.getD i false with
    | true=>rfl
    | false=>
      exfalso
      have hmem:i ∈ Region.ready .any full.toArray listed:=by
       refine oM.2 ⟨hi,?_,_,List.getElem?_eq_getElem hi,fun e he hbd=>?_⟩
       ·rw [Array.getD_eq_getD_getElem?] at hx ⊢;rw [Array.getElem?_eq_getElem (by omega)] at hx ⊢;exact hx
       ·have hlt:=Dv htc (List.getElem?_eq_getElem hi) he hbd;exact ih e.on hlt (by omega)
      rw [hr] at hmem;cases hmem
 intro fuel
 induction fuel with
 | zero=>
   intro listed E c m w a hsz hcn hcl hI hR hE hF hFK hX hd hU
   have hla:∀i,i<full.length->listed.getD i false=true:=by
    intro i hi;have:=List.countP_eq_zero.1 (Nat.le_zero.1 hcn) i (List.mem_range.2 hi);simpa using this
   refine ⟨?_,hdone listed E c m w a hsz hla hI hR hE hFK hX hd hU⟩;apply List.eq_nil_iff_forall_not_mem.2;intro i hi;obtain ⟨h1,h2,_⟩:=oM.1 hi;have:=hla i h1;rw [Array.getD_eq_getD_getElem?] at h2 this;rw [Array.getElem?_eq_getElem (by omega)] at h2 this;simp only [Option.getD_some] at h2 this;rw [h2] at this;cases this
 | succ fuel ih=>
   intro listed E c m w a hsz hcn hcl hI hR hE hF hFK hX hd hU;refine ⟨fun hr=>hdone listed E c m w a hsz (hready listed hsz hr) hI hR hE hFK hX hd hU,fun i hi=>?_⟩;obtain ⟨h1,h2,o,ho,h3⟩:=oM.1 hi;have hmem:o ∈ full:=List.mem_of_getElem? ho
   have hu:listed.getD i false=false:=by
    rw [Array.getD_eq_getD_getElem?] at h2 ⊢;rw [Array.getElem?_eq_getElem (by omega)] at h2 ⊢;exact h2
   have hbef:∀j,qO tbl j i=true->listed.getD j false=true:=by
    intro j hbj;obtain ⟨ed,hed,hbd,hj⟩:=Bz htc ho hbj;have:=h3 ed hed hbd
    rcases hj with hj | hj
    ·rw [←hj];exact this
    ·exact hcl _ _ this hj
   obtain ⟨C,hs,hn⟩:=hI.step hc hg hl hb ht hp ho hu hbef
   have hfo:∀d,o.dst=some d->d<N:=by
    intro d h;have:=List.all_eq_true.1 (show full.all _=true from hfit) o hmem;rw [h] at this;simpa using this
   unfold wpOp;rw [List.getElem?_toArray,ho];simp only;rw [if_pos (by simp [Region.wanted,hg o hmem])];refine .inl (Oper.wp_mono ?_ (qS (N:=N) hs hR hE (hF i h1 hu) hfo Q));rintro a' w' ⟨c',v,m',hC,g1,g2,g3,g4⟩
   have hD:tA (fun i=>listed.getD i false) i=fun j=>(listed.setIfInBounds i true).getD j false:=by
    funext j
    by_cases hj:j=i
    ·subst hj;rw [lB,Array.getD_eq_getD_getElem?,Array.getElem?_setIfInBounds_self_of_lt (by omega)];rfl
    ·rw [fN hj,Array.getD_eq_getD_getElem?,Array.getD_eq_getD_getElem?,Array.getElem?_setIfInBounds_ne (fun e'=>hj e'.symm)]
   have hDj:∀j,(listed.setIfInBounds i true).getD j false=tA (fun i=>listed.getD i false) i j:=fun j=>(congrFun hD j).symm;refine ih _ _ c' m' w' a' (by simpa using hsz) ?_ (fun x y hx hxy=>?_) (by rw [←hD];exact hn v m' hC) g1 g3 (fun j hj hlj=>?_) (fun j hj=>?_) (hX.trans g2.up) (g4.trans hd) (fun t ht=>?_)
   ·have hlt:=Ai (D:=fun i=>listed.getD i false) (List.mem_range.2 h1) hu
    have heq:(fun j=>!((listed.setIfInBounds i true).getD j false))=fun j=>!(tA (fun i=>listed.getD i false) i j):=by
     funext j;rw [hDj]
    rw [heq];omega
   ·rw [hDj] at hx ⊢
    by_cases e:x=i
    ·subst e;have:=hbef y hxy
     by_cases e2:y=x
     ·subst e2;rw [lB]
     ·rw [fN e2];exact this
    ·rw [fN e] at hx;have:=hcl x y hx hxy
     by_cases e2:y=i
     ·subst e2;rw [lB]
     ·rw [fN e2];exact this
   ·rw [hDj] at hlj;have hne:j ≠ i:=by rintro rfl;rw [lB] at hlj;cases hlj
    rw [fN hne] at hlj;exact fun id dD=>g2.fresh id (hP dD (by omega)) (hF j hj hlj id dD)
   ·exact fun id dD=>g2.fresh id (hP dD (by omega)) (hFK j hj id dD)
   ·cases hdo:o.dst with
    | none=>exact hU t ht
    | some d=>
      have:=hW o hmem d hdo;show (if t=d then v else E t)=E00 t;rw [if_neg (by rintro rfl;rw [ht] at this;cases this)];exact hU t ht
end
theorem yX {P:Program} {N:Nat} {π:Pa} {k:Nat} {E:dK} {m:M} {Q:Exit->Nat->dK->M->Prop} {id:Nat} {ops:List Oper} (tbl:List Nat) (p:Nat) (late:List Nat) (hm:P.follows .mixedOrders=true) (hck:pvChk ops tbl p late=true)
  (h:∀K:Nat->dK->M->Prop,(∀k E m,Q .normal k E m->K k E m)->PVA P ops π k m (List.range p) (pvp P ops π k p late K m) E):SW P N π (.region id ops.toArray true) k E m Q:=by
 intro hf c a w h1 h2 h3;have h:=h (Q .normal) fun _ _ _ x=>x;simp only [pvChk,Bool.and_eq_true,List.all_eq_true,List.mem_range,Bool.or_eq_true,decide_eq_true_eq,List.contains_iff_mem,Option.isNone_iff_eq_none] at hck;obtain ⟨⟨⟨⟨⟨c1,c2⟩,c3⟩,c4⟩,c5⟩,c6⟩:=hck;have hc:∀i,i<=p->∀j,j<=p->Dm ops tbl i j=true:=fun i hi j hj=>c3 i (by omega) j (by omega);rw [List.range_eq_range'] at h;obtain ⟨EA,hC,hv,ho⟩:=PVA_ok hc p 0 E (by omega) h;have ht:JG P ops π k p m E EA:=⟨fun i hi=>hv i (by omega) (by omega),fun t h=>ho t fun i o _ hi hx=>h i o (by omega) hx⟩;refine wp_region_any hm ?_;have hw:({ w with drawn:=w.drawn+1 }:World)=w.drewN 1:=rfl;rw [hw]
 have hzero:∀i,(Array.replicate ops.toArray.size false).getD i false=false:=by
  intro i;rw [Array.getD_eq_getD_getElem?,Array.getElem?_replicate]
  split <;> rfl
 refine pv_run (tbl:=tbl) (late:=late) (p:=p) (EA:=EA) (E0:=E) (m0:=m) (K:=Q .normal) (Q:=fun e a' w'=>oJ π N (wr (.region id ops.toArray true)) E c m w a (Q e) a' w') (W:=wr (.region id ops.toArray true)) (E00:=E) (c0:=c) (mm:=m) (w0:=w) (a0:=a) (fun a' w' hp=>hp) (by simpa [qN] using hf) (fun o ho' d hd=>?_) c1 c6 hc c2 c4 (fun j hj hlj i hi=>(c5 j hlj).resolve_left (by omega) i hi) ht hC _ _ E c m (w.drewN 1) a (by simp) ?_ (fun i j hi _=>by rw [hzero] at hi;cases hi) ?_ (h1.drewN 1) h2 (fun i _ _=>h3 _ (by omega)) (fun j hj=>h3 j (by omega)) (iG.drewN π c m w 1) rfl (fun _ _=>rfl)
 ·simp only [wr,List.any_eq_true,beq_iff_eq];exact ⟨o,ho',hd⟩
 ·have:=List.countP_le_length (p:=fun i=>!((Array.replicate ops.toArray.size false).getD i false)) (l:=List.range ops.length);simpa using this
 ·exact .one (hzero p) (fun j _=>hzero j) (fun i o t _ _ _ hi=>by have:=hzero i;rw [this] at hi;cases hi) (fun _ _=>rfl)
def von (P:Program) (full:List Oper) (π:Pa) (k0:Nat) (m:M) (is:List Nat) (C:dK->Prop) (E:dK) (d:Option Nat) (v:V):Prop:=PVA P full π k0 m is C (eL d v E)
def AZ (P:Program) (full:List Oper) (π:Pa) (k0:Nat) (m:M) (i:Nat) (is:List Nat) (C:dK->Prop) (E:dK) (o:Oper):Prop:=∃v,ax P o.op ((k0+i)::π) (ev m E) m v/\von P full π k0 m is C E o.dst v
def Gf (P:Program) (f:V) (args:List V) (q:Pa) (m:M) (C:V->Prop):Prop:=∃v,DN P f args q m (fun r m1=>r=v/\m1=m)/\C v
theorem Ig {P:Program} {g:FuncId} {first captured args:List V} {q:Pa} {m:M} {v:V} {C:V->Prop} (h:SC P g (first++args++captured) q m (fun r m1=>r=v/\m1=m)) (hc:C v):Gf P (.fn (.func g) first captured) args q m C:=⟨v,h,hc⟩
@[congr] theorem vcall_congr {P:Program} {f f':V} {as as':List V} {q:Pa} {m:M} {C:V->Prop} (h1:f=f') (h2:as=as'):Gf P f as q m C=Gf P f' as' q m C:=by rw [h1,h2]
def pvon (P:Program) (full:List Oper) (π:Pa) (k0 p:Nat) (late:List Nat) (K:Nat->dK->M->Prop) (EA:dK) (d:Option Nat) (r:V) (m1:M):Prop:=(∀i ∈ late,sA P full π k0 EA m1 i)/\gL P full π K (full.drop (p+1)) (k0+p+1) (eL d r EA) m1
def pvpO (P:Program) (full:List Oper) (π:Pa) (k0 p:Nat) (late:List Nat) (K:Nat->dK->M->Prop) (m:M) (EA:dK) (o:Oper):Prop:=
 match o.op with
 | .call ⟨.value f,xs,_⟩=>DN P (ev m EA f) (xs.toList.map (ev m EA)) ((k0+p)::π) m (pvon P full π k0 p late K EA o.dst)
 | _=>False
def BS (P:Program) (k0 i:Nat) (π:Pa) (EA:dK) (m1:M) (o:Oper):Prop:=match o.dst with | some d=>ax P o.op ((k0+i)::π) (ev m1 EA) m1 (EA d) | none=>False
section
variable {P:Program} {full:List Oper} {π:Pa} {k0 p i:Nat} {late is:List Nat} {EA E:dK} {m m1:M} {K:Nat->dK->M->Prop} {C:dK->Prop} {d:Option Nat} {ty:TypeId} {pos:String} {after:Array Edge} {v:V}
@[go_sem] theorem von_at:von P full π k0 m is C E d v=PVA P full π k0 m is C (eL d v E):=_root_.id rfl
@[go_sem] theorem pva_nil:PVA P full π k0 m [] C E=C E:=_root_.id rfl
@[go_sem] theorem pva_cons:PVA P full π k0 m (i::is) C E=Ac full i (AZ P full π k0 m i is C E):=by
 simp only [PVA,Ac];cases full[i]? with
 | none=>rfl
 | some o=>rfl
@[go_sem] theorem vp_load {T:TypeId} {x:Operand}:AZ P full π k0 m i is C E ⟨d,.load T x,ty,pos,after,none⟩=dt (fun v=>lJ P m T (ev m E x) (fun r=>r=v)) (von P full π k0 m is C E d):=_root_.id rfl
@[go_sem] theorem vp_move {x:Operand}:AZ P full π k0 m i is C E ⟨d,.move x,ty,pos,after,none⟩=von P full π k0 m is C E d (ev m E x):=Gt
@[go_sem] theorem vp_build {T:TypeId} {ps:Array (Nat × Operand)}:AZ P full π k0 m i is C E ⟨d,.build T ps,ty,pos,after,none⟩=dt (fun v=>sN P T (ps.toList.map fun p=>(p.1,ev m E p.2)) (fun r=>r=v)) (von P full π k0 m is C E d):=_root_.id rfl
@[go_sem] theorem vp_nilCheck {x:Operand}:AZ P full π k0 m i is C E ⟨d,.nilCheck x,ty,pos,after,none⟩=dt (fun v=>As (ev m E x) (fun r=>r=v)) (von P full π k0 m is C E d):=by
 have:∀v,An P (.nilCheck x) (ev m E) (fun r=>r=v)=As (ev m E x) (fun r=>r=v):=by
  intro v;simp only [An,As]
  generalize ev m E x=u
  cases u <;> rfl
 show dt (fun v=>An P (.nilCheck x) (ev m E) (fun r=>r=v)) _=_;rw [funext this]
@[go_sem] theorem vp_fieldAddr {T g:Nat} {x:Operand}:AZ P full π k0 m i is C E ⟨d,.fieldAddr T x g,ty,pos,after,none⟩=dt (fun v=>oL P T g (ev m E x) (fun r=>r=v)) (von P full π k0 m is C E d):=_root_.id rfl
@[go_sem] theorem vp_indexAddr {T:TypeId} {x y:Operand}:AZ P full π k0 m i is C E ⟨d,.indexAddr T x y,ty,pos,after,none⟩=dt (fun v=>pX P T (ev m E x) (ev m E y) (fun r=>r=v)) (von P full π k0 m is C E d):=_root_.id rfl
@[go_sem] theorem vp_call {g:Operand} {xs:Array Operand} {ts:Array TypeId}:AZ P full π k0 m i is C E ⟨d,.call ⟨.value g,xs,ts⟩,ty,pos,after,none⟩=Gf P (ev m E g) (xs.toList.map (ev m E)) ((k0+i)::π) m (von P full π k0 m is C E d):=_root_.id rfl
@[go_sem] theorem pvp_eq:pvp P full π k0 p late K m EA=Ac full p (pvpO P full π k0 p late K m EA):=by
 unfold pvp Ac;cases full[p]? with
 | none=>rfl
 | some o=>
   simp only [pvpO];obtain ⟨dst,op,ty,pos,after,guard⟩:=o;cases op with
   | call cl=>obtain ⟨callee,xs,ts⟩:=cl;cases callee <;> rfl
   | _=>rfl
@[go_sem] theorem pvpO_call {g:Operand} {xs:Array Operand} {ts:Array TypeId}:pvpO P full π k0 p late K m EA ⟨d,.call ⟨.value g,xs,ts⟩,ty,pos,after,none⟩=DN P (ev m EA g) (xs.toList.map (ev m EA)) ((k0+p)::π) m (pvon P full π k0 p late K EA d):=_root_.id rfl
def Ay (P:Program) (full:List Oper) (π:Pa) (k0:Nat) (EA:dK) (m1:M):List Nat->Prop
 | []=>True
 | i::is=>Ac full i (BS P k0 i π EA m1)/\Ay P full π k0 EA m1 is
theorem CJ:∀ {late:List Nat},(∀i ∈ late,sA P full π k0 EA m1 i) ↔ Ay P full π k0 EA m1 late:=by
 intro late
 induction late with
 | nil=>simp [Ay]
 | cons i is ih=>
   rw [List.forall_mem_cons,ih,Ay];refine and_congr_left fun _=>?_;unfold sA Ac BS;cases full[i]? with
   | none=>rfl
   | some o=>rfl
@[go_sem] theorem pvon_at {r:V}:pvon P full π k0 p late K EA d r m1=(Ay P full π k0 EA m1 late/\gL P full π K (full.drop (p+1)) (k0+p+1) (eL d r EA) m1):=by
 unfold pvon;rw [propext CJ]
@[go_sem] theorem lateL_nil:Ay P full π k0 EA m1 []=True:=_root_.id rfl
@[go_sem] theorem lateL_cons:Ay P full π k0 EA m1 (i::is)=(Ac full i (BS P k0 i π EA m1)/\Ay P full π k0 EA m1 is):=_root_.id rfl
@[go_sem] theorem lo_load {T:TypeId} {x:Operand} {d:Nat} {g:Option (Nat × Bool)}:BS P k0 i π EA m1 ⟨some d,.load T x,ty,pos,after,g⟩=lJ P m1 T (ev m1 EA x) (fun r=>r=EA d):=_root_.id rfl
@[go_sem] theorem lo_move {x:Operand} {d:Nat} {g:Option (Nat × Bool)}:BS P k0 i π EA m1 ⟨some d,.move x,ty,pos,after,g⟩=(ev m1 EA x=EA d):=_root_.id rfl
@[go_sem] theorem lo_fieldAddr {T f:Nat} {x:Operand} {d:Nat} {g:Option (Nat × Bool)}:BS P k0 i π EA m1 ⟨some d,.fieldAddr T x f,ty,pos,after,g⟩=oL P T f (ev m1 EA x) (fun r=>r=EA d):=_root_.id rfl
@[go_sem] theorem lo_nilCheck {x:Operand} {d:Nat} {g:Option (Nat × Bool)}:BS P k0 i π EA m1 ⟨some d,.nilCheck x,ty,pos,after,g⟩=As (ev m1 EA x) (fun r=>r=EA d):=by
 show An P (.nilCheck x) (ev m1 EA) (fun r=>r=EA d)=_;simp only [An,As]
 generalize ev m1 EA x=u
 cases u <;> rfl
end
end Go.Proofs.YtncembphlfbgoaaDoor.Abs
