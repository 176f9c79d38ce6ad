import Derived.Test.YtknbgnpeiohifaaGreatDoorGGMm
namespace Go.Proofs.YtknbgnpeiohifaaGreatDoor.Abs
open Go.RowKit
abbrev Hp:=Pa->Option (List V)
def xO (v:V) (sz n:Nat):Prop:=(v=.nilv/\n=0) ∨ ∃id,v=.vec id sz n
def tL:V->Pa
 | .vec id _ _=>id
 | _=>[]
def mK:V->List Pa
 | .vec id _ _=>[id]
 | _=>[]
def CS:V->Nat->V
 | .vec id sz _,n=>.vec id sz n
 | v,_=>v
section
variable {v:V} {sz n:Nat}
theorem xO.cells (h:xO v sz n):v.cells=[v]:=by rcases h with ⟨rfl,_⟩ | ⟨id,rfl⟩ <;> rfl
theorem xO.cok (h:xO v sz n):v.cellsOk=true:=by rcases h with ⟨rfl,_⟩ | ⟨id,rfl⟩ <;> rfl
theorem xO.shr (h:xO v sz n):v.shared=v:=by rcases h with ⟨rfl,_⟩ | ⟨id,rfl⟩ <;> rfl
theorem xO.wk1 (h:xO v sz n):v.weak1=v:=by rcases h with ⟨rfl,_⟩ | ⟨id,rfl⟩ <;> rfl
theorem xO.wk (h:xO v sz n):v.weak=v:=by rcases h with ⟨rfl,_⟩ | ⟨id,rfl⟩ <;> rfl
theorem xO.hp (h:xO v sz n):v.toHp=v:=by rcases h with ⟨rfl,_⟩ | ⟨id,rfl⟩ <;> rfl
theorem xO.ld (h:xO v sz n) {s:wE}:v.ld s=v:=by rcases h with ⟨rfl,_⟩ | ⟨id,rfl⟩ <;> rfl
theorem xO.st1 (h:xO v sz n) {m:M} {id:Pa} {cs:List V} {off:Nat}:M.st1 m id cs off v=m.set id (cs.set off v):=by rcases h with ⟨rfl,_⟩ | ⟨id,rfl⟩ <;> rfl
theorem xO.cut (h:xO v sz n) {k:Nat} (hk:k<=n):xO (CS v k) sz k:=by
 rcases h with ⟨rfl,rfl⟩ | ⟨id,rfl⟩
 ·exact .inl ⟨rfl,zb⟩
 ·exact .inr ⟨id,rfl⟩
theorem xO.slen (h:xO v sz n) {e:TypeId} {C:V->Prop}:Ou (.sl e) v C=C (.lit (.int .i64 n)):=by
 rcases h with ⟨rfl,rfl⟩ | ⟨id,rfl⟩ <;> rfl
theorem xO.al (h:xO v sz n):(∀(e:TypeId) (C:V->Prop),Ou (.sl e) v C=C (.lit (.int .i64 n)))/\v.cells=[v]/\v.cellsOk=true/\v.shared=v/\v.weak1=v/\v.weak=v/\v.toHp=v/\(∀s:wE,v.ld s=v)/\∀(m:M) (id:Pa) (cs:List V) (off:Nat),M.st1 m id cs off v=m.set id (cs.set off v):=by rcases h with ⟨rfl,rfl⟩ | ⟨id,rfl⟩ <;> exact ⟨λ_ _=>rfl,rfl,rfl,rfl,rfl,rfl,rfl,λ_=>rfl,λ_ _ _ _=>rfl⟩
theorem xO.sl (h:xO v sz n) {P:Program} {e:TypeId} {lo hi:Option V} {C:V->Prop} {l k:Int} {s:Nat} (hs:cC P e=some s) (hl:mX lo 0=some l) (hh:mX hi n=some k) (h0:l=0) (h1:0<=k) (h2:k<=n):SY P (.sl e) v lo hi C=C (CS v k.toNat):=by
 apply propext
 rcases h with ⟨rfl,rfl⟩ | ⟨id,rfl⟩
 ·have e0:k=0:=zb
  have hh':mX hi 0=some k:=hh;rw [slU_n,hs,hl,hh',Zr];exact ⟨λx=>x.2.2,λx=>⟨h0,e0,x⟩⟩
 ·rw [slU_v,hs,hl,hh,Zq];exact ⟨λx=>x.2.2.2,λx=>⟨h0,h1,h2,x⟩⟩
theorem xO.ix (h:xO v sz n) {P:Program} {e:TypeId} {k:IntKind} {i:Int} {C:V->Prop} (hs:cC P e=some sz) (h0:0<=i) (h1:i<n):uC P (.sl e) v (.lit (.int k i)) C=C (.pp (tL v) (i.toNat*sz)):=by
 apply propext
 rcases h with ⟨rfl,rfl⟩ | ⟨id,rfl⟩
 ·exact cM h1 zb
 ·rw [UI,hs,zaq];exact ⟨λx=>x.2.2.2,λx=>⟨rfl,h0,h1,x⟩⟩
end
def iP (h:Hp) (v:V) (sz:Nat) (rows:List (List V)):Prop:=
 (∀r ∈ rows,r.length=sz)/\((v=.nilv/\rows=[]) ∨ ∃id vs,v=.vec id sz rows.length/\h id=some vs/\vs.take (rows.length*sz)=rows.flatten)
def Lo (h:Hp) (v:V) (q:Pa) (vs:List V):Hp:=λi=>if i=q then some vs else if i ∈ mK v then none else h i
section
variable {h h':Hp} {v:V} {sz:Nat} {rows:List (List V)}
theorem iP.sh (hv:iP h v sz rows):xO v sz rows.length:=by
 obtain ⟨_,⟨rfl,rfl⟩ | ⟨id,vs,rfl,_⟩⟩:=hv
 ·exact .inl ⟨rfl,rfl⟩
 ·exact .inr ⟨id,rfl⟩
theorem iP.live (hv:iP h v sz rows) {id:Pa} (hi:id ∈ mK v):h id ≠ none:=by
 obtain ⟨_,⟨rfl,rfl⟩ | ⟨id',vs,rfl,e,_⟩⟩:=hv
 ·cases hi
 ·have:id=id':=by simpa [mK] using hi
  rw [this,e];exact λx=>nomatch x
theorem iP.frame (hv:iP h v sz rows) (hf:∀id ∈ mK v,h' id=h id):iP h' v sz rows:=by
 obtain ⟨h1,⟨rfl,rfl⟩ | ⟨id,vs,rfl,e,h2⟩⟩:=hv
 ·exact ⟨h1,.inl ⟨rfl,rfl⟩⟩
 ·exact ⟨h1,.inr ⟨id,vs,rfl,(hf id (by simp [mK])).trans e,h2⟩⟩
theorem iP.nil (h:Hp) (sz:Nat):iP h .nilv sz []:=⟨λ_ hr=>(nomatch hr),.inl ⟨rfl,rfl⟩⟩
theorem XN {sz:Nat}:∀ {rows:List (List V)} (k:Nat),(∀r ∈ rows,r.length=sz)->(rows.take k).flatten=rows.flatten.take (k*sz)
 | rows,k,h=>(JE rows k h).1
theorem iP.cut (hv:iP h v sz rows) {k:Nat} (hk:k<=rows.length):iP h (CS v k) sz (rows.take k):=by
 obtain ⟨h1,⟨rfl,rfl⟩ | ⟨id,vs,rfl,e,h2⟩⟩:=hv
 ·exact ⟨λr hr=>h1 r (Ul hr),.inl ⟨rfl,zd⟩⟩
 ·refine ⟨λr hr=>h1 r (Ul hr),.inr ⟨id,vs,?_,e,?_⟩⟩
  ·show V.vec id sz k=_;rw [NL,xds hk]
  ·rw [NL,xds hk,XN k h1,←h2,List.take_take,xds (xdi _ hk)]
theorem XW {k:Nat}:mK (CS v k)=mK v:=by cases v <;> rfl
theorem iP.fW (hv:iP h v sz rows) {i:Nat} {r:List V} (hr:rows[i]? = some r):∃vs rest,h (tL v)=some vs/\rows.length*sz<=vs.length/\(∀k,k<=sz->vs.drop (i*sz+k)=r.drop k++rest)/\v=.vec (tL v) sz rows.length:=by
 obtain ⟨h1,⟨rfl,rfl⟩ | ⟨id,vs,rfl,e,h2⟩⟩:=hv
 ·cases hr
 ·have hlt:i<rows.length:=(xW.1 hr).1;have hfl:=La h1 hr
  have hle:rows.length*sz<=vs.length:=by
   have:=DI List.length h2;rw [NL,hfl.1] at this;omega
  have hle2:i*sz+sz<=rows.length*sz:=by
   have:(i+1)*sz<=rows.length*sz:=xdi _ hlt;rw [NM] at this;exact this
  have hrl:r.length=sz:=h1 r (GB hr)
  have hd0:vs.drop (i*sz)=r++vs.drop (i*sz+sz):=by
   have e1:(vs.drop (i*sz)).take sz=r:=by
    rw [←hfl.2,←h2,List.drop_take,List.take_take,xds zb]
   have e2:=xeo sz (vs.drop (i*sz));rw [e1,List.drop_drop] at e2;exact e2.symm
  refine ⟨vs,vs.drop (i*sz+sz),e,hle,λk hk=>?_,rfl⟩;rw [←List.drop_drop,hd0,List.drop_append_of_le_length zb]
theorem apH_q {q:Pa} {vs:List V}:Lo h v q vs q=some vs:=by unfold Lo;rw [cX rfl]
theorem DT {q id:Pa} {vs:List V} (h1:id ≠ q) (h2:id ∉ mK v):Lo h v q vs id=h id:=by unfold Lo;rw [cE h1,cE h2]
theorem iP.app (hv:iP h v sz rows) {q:Pa} {rows2:List (List V)} (h2:∀r ∈ rows2,r.length=sz):iP (Lo h v q (rows++rows2).flatten) (.vec q sz (rows++rows2).length) sz (rows++rows2):=by
 refine ⟨λr hr=>(yU.1 hr).elim (hv.1 r) (h2 r),.inr ⟨q,_,rfl,apH_q,?_⟩⟩;rw [←FG (rows:=rows++rows2) (sz:=sz) (λr hr=>(yU.1 hr).elim (hv.1 r) (h2 r)),xeh]
theorem M.ext_hp {m1 m2:M} (h1:m1.blk=m2.blk) (h2:m1.ver=m2.ver) (h3:m1.tok=m2.tok) (h4:m1.gl=m2.gl) (h5:m1.hp=m2.hp):m1=m2:=by
 cases m1;cases m2;simp_all
def M.seth (m:M) (h:Hp):M:={ m with hp:=h }
theorem Hy {P:Program} {q:Pa} {m:M} {e:TypeId} {rows2:List (List V)} {CM:V->M->Prop} (hv:iP m.hp v sz rows) {zs:List V} {by_:Nat} (hs:cC P e=some sz) (hz:cZ P e=some zs) (hb:(P.info? e).map (·.bytes)=some by_)
  (h0:0<sz) (hby:by_<=65536) (hzl:zs.length=sz) (h2:∀r ∈ rows2,r.length=sz) (hn:0<rows2.length) (hl:rows.length+rows2.length<=1073741824)
  (hC:CM (.vec q sz (rows.length+rows2.length)) (m.seth (Lo m.hp v q (rows.flatten++rows2.flatten.map V.toHp)))):TZ P q m (.sl e) v (some rows2) CM:=by
 obtain ⟨h1,⟨rfl,rfl⟩ | ⟨id,vs,rfl,he,hv2⟩⟩:=hv
 ·rw [appU_n,hs,hz,hb,Yl];refine ⟨h0,hby,hzl,h2,hn,by simpa using hl,?_⟩
  have e:m.hset q (rows2.flatten.map V.toHp)=m.seth (Lo m.hp .nilv q (([]:List (List V)).flatten++rows2.flatten.map V.toHp)):=by
   refine M.ext_hp rfl rfl rfl rfl (funext λi=>?_);show (if i=q then some _ else m.hp i)=if i=q then some _ else if i ∈ [] then none else m.hp i;simp
  rw [e];simpa using hC
 ·rw [appU_v,hs,hz,hb,he,Yk];have hfl:=FG h1;refine ⟨rfl,hby,hzl,h2,?_,hl,?_⟩
  ·have:=DI List.length hv2;rw [NL,hfl] at this;omega
  ·have e:m.hmove id q (vs.take (rows.length*sz)++rows2.flatten.map V.toHp)=m.seth (Lo m.hp (.vec id sz rows.length) q (rows.flatten++rows2.flatten.map V.toHp)):=by
    refine M.ext_hp rfl rfl rfl rfl (funext λi=>?_);show (if i=q then some _ else if i=id then none else m.hp i)=if i=q then some _ else if i ∈ [id] then none else m.hp i;rw [hv2];simp
   rw [e];exact hC
end
def M.ck (m:M) (p:Pa) (cs:List V) (h:Hp) (vr:Nat->Nat):M:={ m with blk:=λi=>if i=p then some cs else m.blk i,ver:=λi=>if i=p then vr else m.ver i,hp:=h }
section
variable {m:M} {p q:Pa} {cs:List V} {h:Hp} {vr:Nat->Nat}
@[go_sem] theorem ck_blk {i:Pa}:(m.ck p cs h vr).blk i=if i=p then some cs else m.blk i:=rI rfl
@[go_sem] theorem ck_ver {i:Pa}:(m.ck p cs h vr).ver i=if i=p then vr else m.ver i:=rI rfl
@[go_sem] theorem ck_tok:(m.ck p cs h vr).tok=m.tok:=rI rfl
@[go_sem] theorem ck_gl:(m.ck p cs h vr).gl=m.gl:=rI rfl
@[go_sem] theorem ck_hp:(m.ck p cs h vr).hp=h:=rI rfl
@[go_sem] theorem seth_blk:(m.seth h).blk=m.blk:=rI rfl
@[go_sem] theorem seth_ver:(m.seth h).ver=m.ver:=rI rfl
@[go_sem] theorem seth_gl:(m.seth h).gl=m.gl:=rI rfl
@[go_sem] theorem seth_hp:(m.seth h).hp=h:=rI rfl
theorem back_ck {m2:M} (hq:¬ q <:+ p):m.back q (m2.ck p cs h vr)=(m.back q m2).ck p cs h vr:=by
 have hs:¬ q.isSuffixOf p=true:=λe=>hq (Px.1 e);refine M.ext_hp (funext λi=>?_) (funext λi=>?_) rfl rfl rfl
 ·show (if q.isSuffixOf i then m.blk i else if i=p then some cs else m2.blk i)=if i=p then some cs else if q.isSuffixOf i then m.blk i else m2.blk i
  by_cases e:i=p
  ·subst e;rw [cE hs,cX rfl,cX rfl]
  ·rw [cE e,cE e]
 ·show (if q.isSuffixOf i then m.ver i else if i=p then vr else m2.ver i)=if i=p then vr else if q.isSuffixOf i then m.ver i else m2.ver i
  by_cases e:i=p
  ·subst e;rw [cE hs,cX rfl,cX rfl]
  ·rw [cE e,cE e]
theorem DS {m2:M}:m.back q (m2.seth h)=(m.back q m2).seth h:=rI rfl
theorem zaN {cs':List V} {h':Hp} {vr':Nat->Nat}:(m.ck p cs h vr).ck p cs' h' vr'=m.ck p cs' h' vr':=by
 refine M.ext_hp (funext λi=>?_) (funext λi=>?_) rfl rfl rfl
 ·show (if i=p then _ else if i=p then _ else m.blk i)=if i=p then _ else m.blk i
  by_cases e:i=p
  ·rw [cX e,cX e]
  ·rw [cE e,cE e,cE e]
 ·show (if i=p then _ else if i=p then _ else m.ver i)=if i=p then _ else m.ver i
  by_cases e:i=p
  ·rw [cX e,cX e]
  ·rw [cE e,cE e,cE e]
theorem M.to_ck {m':M} (h1:∀i,i ≠ p->m'.blk i=m.blk i) (h2:∀i,i ≠ p->m'.ver i=m.ver i) (h3:m'.tok=m.tok) (h4:m'.gl=m.gl) (hb:m'.blk p=some cs):m'=m.ck p cs m'.hp (m'.ver p):=by
 refine M.ext_hp (funext λi=>?_) (funext λi=>?_) h3 h4 rfl
 ·show m'.blk i=if i=p then _ else m.blk i
  by_cases e:i=p
  ·subst e;rw [cX rfl,hb]
  ·rw [cE e,h1 i e]
 ·show m'.ver i=if i=p then _ else m.ver i
  by_cases e:i=p
  ·subst e;rw [cX rfl]
  ·rw [cE e,h2 i e]
theorem JW:m.set p cs=m.ck p cs m.hp (m.ver p):=M.to_ck (λi e=>by show (if i=p then _ else _)=_;rw [cE e]) (λ_ _=>rfl) rfl rfl (by show (if p=p then _ else _)=_;rw [cX rfl])
end
section
variable {α:Type} {f:α->List V} {h:Hp} {v:V} {sz n:Nat} {l:List α}
theorem iP.shC (hv:iP h v sz (l.map f)):xO v sz l.length:=by have:=hv.sh;rwa [Kn] at this
theorem iP.cutC (hv:iP h v sz (l.map f)) {k:Int} (hk:k<=(l.length:Int)):iP h (CS v k.toNat) sz ((l.take k.toNat).map f):=by
 have:=hv.cut (k:=k.toNat) (by rw [Kn];omega)
 rwa [←List.map_take] at this
theorem xO.cutL (h:xO v sz l.length) {k:Int} (hk:k<=(l.length:Int)):xO (CS v k.toNat) sz (l.take k.toNat).length:=by
 have:=h.cut (k:=k.toNat) zb
 rwa [show (l.take k.toNat).length=k.toNat by rw [NL];omega]
theorem xO.slHi (h:xO v sz n) {P:Program} {e:TypeId} {k:IntKind} {hi:Int} {C:V->Prop} {s:Nat} (hs:cC P e=some s) (h1:0<=hi) (h2:hi<=n):SY P (.sl e) v none (some (.lit (.int k hi))) C=C (CS v hi.toNat):=
 h.sl hs (l:=0) (k:=hi) rfl rfl rfl h1 h2
theorem iP.readI (hv:iP h v 1 (l.map f)) {i:Nat} {x:α} (hx:l[i]? = some x) (u:V) (hu:f x=[u]):∃HV rest,h (tL v)=some HV/\HV.drop (i*1)=u::rest:=by
 obtain ⟨vs,rest,e1,_,e2,_⟩:=hv.fW (i:=i) (r:=f x) (by rw [KM,hx];rfl);have:=e2 0 zb;rw [hu] at this;exact ⟨vs,rest,e1,this⟩
theorem iP.read3 (hv:iP h v 3 (l.map f)) {i:Nat} {x:α} (hx:l[i]? = some x) (u0 u1 u2:V) (hu:f x=[u0,u1,u2]):∃HV rest,h (tL v)=some HV/\HV.drop (i*3)=u0::u1::u2::rest/\HV.drop (i*3+1)=u1::u2::rest/\HV.drop (i*3+2)=u2::rest:=by
 obtain ⟨vs,rest,e1,_,e2,_⟩:=hv.fW (i:=i) (r:=f x) (by rw [KM,hx];rfl);rw [hu] at e2;exact ⟨vs,rest,e1,e2 0 zb,e2 1 zb,e2 2 zb⟩
end
theorem Az {P:Program} {N:Nat} {π:Pa} {k:Nat} {E:gE} {m:M} {Q:Exit->Nat->gE->M->Prop} {x:Code} (h:(∀j,k<=j->m.hp (j::π)=none)->SW P N π x k E m Q):SW P N π x k E m Q:=by
 intro hf c a w h1 h2 h3;exact h (λj hj=>h1.fresh_hp (h3 j hj _ (Qq _))) hf c a w h1 h2 h3
def Fr (q p:Pa) (m m':M):Prop:=(∀i,i ≠ p->¬ q <:+ i->m'.blk i=m.blk i/\m'.ver i=m.ver i/\m'.tok i=m.tok i)/\m'.tok p=m.tok p/\m'.gl=m.gl
section
variable {q p:Pa} {m m':M}
theorem Fr.refl (q p:Pa) (m:M):Fr q p m m:=⟨λ_ _ _=>⟨rfl,rfl,rfl⟩,rfl,rfl⟩
theorem Fr.to (h:Fr q p m m') (hq:¬ q <:+ p) {cs:List V} (hb:m'.blk p=some cs):m.back q m'=m.ck p cs m'.hp (m'.ver p):=by
 have hs:¬ q.isSuffixOf p=true:=λe=>hq (Px.1 e);refine M.ext_hp (funext λi=>?_) (funext λi=>?_) (funext λi=>?_) h.2.2 rfl
 ·show (if q.isSuffixOf i then m.blk i else m'.blk i)=if i=p then some cs else m.blk i
  by_cases e:i=p
  ·subst e;rw [cE hs,cX rfl,hb]
  ·rw [cE e]
   split
   ·rfl
   ·rename_i hq2;exact (h.1 i e λx=>hq2 (Px.2 x)).1
 ·show (if q.isSuffixOf i then m.ver i else m'.ver i)=if i=p then m'.ver p else m.ver i
  by_cases e:i=p
  ·subst e;rw [cE hs,cX rfl]
  ·rw [cE e]
   split
   ·rfl
   ·rename_i hq2;exact (h.1 i e λx=>hq2 (Px.2 x)).2.1
 ·show (if q.isSuffixOf i then m.tok i else m'.tok i)=m.tok i
  split
  ·rfl
  ·rename_i hq2
   by_cases e:i=p
   ·subst e;exact h.2.1
   ·exact (h.1 i e λx=>hq2 (Px.2 x)).2.2
theorem Fr.set (h:Fr q p m m') {id:Pa} {cs:List V} (hi:q <:+ id ∨ id=p):Fr q p m (m'.set id cs):=by
 refine ⟨λi h1 h2=>?_,h.2.1,h.2.2⟩;have hne:i ≠ id:=by rintro rfl;rcases hi with h3 | h3 <;> contradiction
 refine ⟨?_,(h.1 i h1 h2).2⟩;show (if i=id then _ else m'.blk i)=_;rw [cE hne];exact (h.1 i h1 h2).1
theorem Fr.bump (h:Fr q p m m') {id:Pa} {off:Nat} (hi:q <:+ id ∨ id=p):Fr q p m (m'.bump id off):=by
 refine ⟨λi h1 h2=>?_,h.2.1,h.2.2⟩;have hne:i ≠ id:=by rintro rfl;rcases hi with h3 | h3 <;> contradiction
 refine ⟨(h.1 i h1 h2).1,?_,(h.1 i h1 h2).2.2⟩;rw [←(h.1 i h1 h2).2.1]
 funext o
 show (if i=id/\o=off then _ else m'.ver i o)=_;rw [cE (λe=>hne e.1)]
theorem Fr.tokset (h:Fr q p m m') (hp:¬ q <:+ p) {id:Pa} {n:Nat} {b:Bool} (hi:q <:+ id):Fr q p m (m'.tokset id n b):=by
 have key:∀i,i ≠ id->(m'.tokset id n b).tok i=m'.tok i:=by
  intro i hne
  funext o
  show (if i=id/\o=n then _ else m'.tok i o)=_;rw [cE (λe=>hne e.1)]
 refine ⟨λi h1 h2=>⟨(h.1 i h1 h2).1,(h.1 i h1 h2).2.1,?_⟩,?_,h.2.2⟩
 ·rw [key i (by rintro rfl;exact h2 hi)];exact (h.1 i h1 h2).2.2
 ·rw [key p (by rintro rfl;exact hp hi)];exact h.2.1
theorem Fr.ck (h:Fr q p m m') {cs:List V} {g:Hp} {vr:Nat->Nat}:Fr q p m (m'.ck p cs g vr):=by
 refine ⟨λi h1 h2=>?_,h.2.1,h.2.2⟩;refine ⟨?_,?_,(h.1 i h1 h2).2.2⟩
 ·show (if i=p then _ else m'.blk i)=_;rw [cE h1];exact (h.1 i h1 h2).1
 ·show (if i=p then _ else m'.ver i)=_;rw [cE h1];exact (h.1 i h1 h2).2.1
end
theorem gT.reCell {c:Conc} {m:M} {w:World} (h:gT c m w) {id:Pa} {off:Nat} {cs:List V} {v0 u:V} (hb:m.blk id=some cs) (ho:cs[off]? = some v0) (hw:∀x,CR c [v0.ld (.cell id off (m.ver id off))] [x]->CR c [u] [x]) (hu:∀s,u.ld s=u) (hns:∀rows,u ≠ .list .self rows):gT c (m.set id (cs.set off u)) w/\∀q,qK q c m w c (m.set id (cs.set off u)) w:=by
 have hblk:∀i,(m.set id (cs.set off u)).blk i=if i=id then some (cs.set off u) else m.blk i:=λ_=>rfl
 have hbn:∀i,(m.set id (cs.set off u)).blk i ≠ none->m.blk i ≠ none:=by
  intro i hi;rw [hblk] at hi
  by_cases e:i=id
  ·rw [e,hb];exact λx=>nomatch x
  ·rw [cE e] at hi;exact hi
 have hlive:∀s,gJ (m.set id (cs.set off u)) s=true->gJ m s=true:=by
  intro s hl;cases s with
  | anon i j=>exact hl
  | priv i=>exact hl
  | cell i o v=>
    obtain ⟨h1,vs,rows,h2,h3⟩:=vH hl;rw [hblk] at h2
    by_cases e:i=id
    ·subst e;rw [cX rfl] at h2
     injection h2 with h2
     subst h2;rw [Uu] at h3
     split at h3
     ·split at h3
      ·injection h3 with h3;exact cM h3 (hns rows)
      ·cases h3
     ·exact vD h1 hb h3
    ·rw [cE e] at h2;exact vD h1 h2 h3
 have hown:∀b,fN c (m.set id (cs.set off u)) b->fN c m b:=by
  rintro b (⟨i,hi,hr⟩ | ⟨s,cap,sz,len,hl,hk⟩)
  ·exact .inl ⟨i,hbn i hi,hr⟩
  ·exact .inr ⟨s,cap,sz,len,hlive s hl,hk⟩
 refine ⟨⟨h.com,λi vs hv=>?_,λi i' b hi hi'=>h.inj i i' b (hbn i hi) (hbn i' hi'),λs b cap sz len hl hk=>?_,λs s' b cap sz len cap' sz' len' hl hl'=>h.ownInj s s' b cap sz len cap' sz' len' (hlive s hl) (hlive s' hl'),λi o v hi hv=>h.ver i o v (hbn i hi) hv,h.gl,h.ver0,h.base,λb hl=>⟨(h.lit b hl).1,(h.lit b hl).2.1,λho=>(h.lit b hl).2.2 (hown b ho)⟩,λb vs hv=>h.hpr b vs hv⟩,λq=>⟨.refl c,rfl,rfl,rfl,uZ _,λ_ _ _ _=>rfl,λ_ _ _ _=>rfl,λb _ ho=>hown b ho,λ_ _ x=>x,λi hi hb'=>⟨?_,hb'.anon,hb'.cell,hb'.ver,hb'.tok⟩,λ_ _ x=>x⟩⟩
 ·rw [hblk] at hv
  by_cases e:i=id
  ·subst e;rw [cX rfl] at hv
   injection hv with hv
   subst hv;obtain ⟨b,ys,t,k1,k2,k3,k4,k5⟩:=h.blk i cs hb;refine ⟨b,ys,t,k1,k2,?_,k4,k5⟩
   have hlds:∀(j:Nat) (v:V),cs[j]? = some v->(IL (m.ver i) i cs)[j]? = some (v.ld (.cell i j (m.ver i j))):=by
    intro j v hj;unfold IL;rw [YL,hj];rfl
   obtain ⟨x,hx1,hx2⟩:=k3.get (hlds off _ ho);have hx3:=hw x hx2;have:=k3.set off hx3
   have e1:ys.toList.set off x=ys.toList:=by
    apply Yz;intro j;rw [Uu]
    split
    ·rename_i e;subst e
     split
     ·exact hx1.symm
     ·rename_i hlt;rw [VH zb]
    ·rfl
   rw [e1] at this
   have e2:(IL (m.ver i) i cs).set off u=IL (m.ver i) i (cs.set off u):=by
    unfold IL;apply Yz;intro j;rw [Uu,YL,YL,Uu]
    by_cases e:off=j
    ·subst e;rw [cX rfl,cX rfl,List.length_mapIdx]
     split
     ·simp [hu]
     ·rfl
    ·rw [cE e,cE e]
   rw [e2] at this;exact this
  ·rw [cE e] at hv;exact h.blk i vs hv
 ·obtain ⟨k1,k2,k3,k4⟩:=h.own s b cap sz len (hlive s hl) hk;exact ⟨k1,k2,λi hi=>k3 i (hbn i hi),k4⟩
 ·rw [hblk]
  by_cases e:i=id
  ·rw [e] at hb';rw [hb'.blk] at hb;cases hb
  ·rw [cE e];exact hb'.blk
theorem QW {P:Program} {N:Nat} {π:Pa} {k:Nat} {E:gE} {m:M} {Q:Exit->Nat->gE->M->Prop} {x:Code} {id:Pa} {off:Nat} {cs:List V} {v0 u:V} (hb:m.blk id=some cs) (ho:cs[off]? = some v0) (hw:∀(c:Conc) x,CR c [v0.ld (.cell id off (m.ver id off))] [x]->CR c [u] [x]) (hu:∀s,u.ld s=u) (hns:∀rows,u ≠ .list .self rows) (h:SW P N π x k E (m.set id (cs.set off u)) Q):SW P N π x k E m Q:=by
 intro hf c a w h1 h2 h3;obtain ⟨g1,g2⟩:=h1.reCell hb ho (hw c) hu hns;refine wp_mono (h hf c a w g1 h2 h3) λe a' w' hp=>?_;exact hp.trans (g2 π) rfl (λ_ _=>rfl) (λt ht=>⟨ht,ht⟩)
theorem zZ {P:Program} {N:Nat} {π:Pa} {k:Nat} {E:gE} {m:M} {Q:Exit->Nat->gE->M->Prop} {x:Code} {id:Pa} {off:Nat} {cs:List V} (hb:m.blk id=some cs) (ho:cs[off]? = some (.list .self [])) (h:SW P N π x k E (m.set id (cs.set off .nilv)) Q):SW P N π x k E m Q:=
 QW hb ho (λc x hx=>ZU (.inr ⟨_,rfl⟩) hx) (λ_=>rfl) (λ_ e=>by cases e) h
theorem Kk {P:Program} {N:Nat} {π:Pa} {k:Nat} {E:gE} {m:M} {Q:Exit->Nat->gE->M->Prop} {x:Code} {id:Pa} {off:Nat} {cs:List V} (hb:m.blk id=some cs) (ho:cs[off]? = some .nilv) (h:SW P N π x k E (m.set id (cs.set off (.list .none []))) Q):SW P N π x k E m Q:=
 QW hb ho (λc x hx=>by
  obtain ⟨a,rfl⟩:=CR.inv_nilv (show CR c [.nilv] [x] from hx);exact .list (rows:=[]) (es:=[]) (sz:=1) .nil zd zc (uZ _) zc zd (λh=>by simp at h) zd trivial .nil) (λ_=>rfl) (λ_ e=>by cases e) h
@[go_sem] theorem take_map {α:Type} {f:α->List V} {l:List α} {n:Nat}:(l.map f).take n=(l.take n).map f:=List.map_take.symm
@[go_sem] theorem drop_map {α:Type} {f:α->List V} {l:List α} {n:Nat}:(l.map f).drop n=(l.drop n).map f:=List.map_drop.symm
attribute [go_sem] JR
section
variable {q p id:Pa} {m m':M}
@[go_sem] theorem fr_set_p {cs:List V}:Fr q p m (m'.set p cs)=Fr q p m m':=propext ⟨λh=>⟨λi h1 h2=>⟨by rw [←(h.1 i h1 h2).1];show _=if i=p then _ else _;rw [cE h1],(h.1 i h1 h2).2⟩,h.2⟩,λh=>h.set (.inr rfl)⟩
@[go_sem] theorem fr_set_q {cs:List V} (hq:(q <:+ id)=True):Fr q p m (m'.set id cs)=Fr q p m m':=propext ⟨λh=>⟨λi h1 h2=>⟨by rw [←(h.1 i h1 h2).1];show _=if i=id then _ else _;rw [cE (by rintro rfl;exact h2 (of_eq_true hq))],(h.1 i h1 h2).2⟩,h.2⟩,λh=>h.set (.inl (of_eq_true hq))⟩
@[go_sem] theorem fr_seth {g:Hp}:Fr q p m (m'.seth g)=Fr q p m m':=rI rfl
@[go_sem] theorem fr_ck {cs:List V} {g:Hp} {vr:Nat->Nat}:Fr q p m (m'.ck p cs g vr)=Fr q p m m':=propext ⟨λh=>⟨λi h1 h2=>⟨by rw [←(h.1 i h1 h2).1];show _=if i=p then _ else _;rw [cE h1],by rw [←(h.1 i h1 h2).2.1];show _=if i=p then _ else _;rw [cE h1],(h.1 i h1 h2).2.2⟩,h.2⟩,λh=>h.ck⟩
theorem iG (hp:¬ q <:+ p) {n:Nat} {b:Bool} (hq:(q <:+ id)=True):Fr q p m (m'.tokset id n b)=Fr q p m m':=by
 have key:∀i,i ≠ id->(m'.tokset id n b).tok i=m'.tok i:=by
  intro i hne
  funext o
  show (if i=id/\o=n then _ else m'.tok i o)=_;rw [cE (λe=>hne e.1)]
 exact propext ⟨λh=>⟨λi h1 h2=>⟨(h.1 i h1 h2).1,(h.1 i h1 h2).2.1,by rw [←(h.1 i h1 h2).2.2];exact (key i (by rintro rfl;exact h2 (of_eq_true hq))).symm⟩,by rw [←h.2.1];exact (key p (by rintro rfl;exact hp (of_eq_true hq))).symm,h.2.2⟩,λh=>h.tokset hp (of_eq_true hq)⟩
theorem Wy {off:Nat} {i:Pa} (hne:i ≠ id):(m'.bump id off).ver i=m'.ver i:=by
 funext o
 show (if i=id/\o=off then _ else m'.ver i o)=_;rw [cE (λe=>hne e.1)]
@[go_sem] theorem fr_bump_p {off:Nat}:Fr q p m (m'.bump p off)=Fr q p m m':=propext ⟨λh=>⟨λi h1 h2=>⟨(h.1 i h1 h2).1,by rw [←(h.1 i h1 h2).2.1];exact (Wy h1).symm,(h.1 i h1 h2).2.2⟩,h.2⟩,λh=>h.bump (.inr rfl)⟩
@[go_sem] theorem fr_bump_q {off:Nat} (hq:(q <:+ id)=True):Fr q p m (m'.bump id off)=Fr q p m m':=propext ⟨λh=>⟨λi h1 h2=>⟨(h.1 i h1 h2).1,by rw [←(h.1 i h1 h2).2.1];exact (Wy (by rintro rfl;exact h2 (of_eq_true hq))).symm,(h.1 i h1 h2).2.2⟩,h.2⟩,λh=>h.bump (.inl (of_eq_true hq))⟩
@[go_sem] theorem fr_self:Fr q p m m=True:=eq_true (.refl q p m)
end
set_option linter.all false
def qL (h:Hp) (id:Pa) (vs:List V):Hp:=λi=>if i=id then some vs else h i
theorem putH_at {h:Hp} {id i:Pa} {vs:List V}:qL h id vs i=if i=id then some vs else h i:=rI rfl
theorem jP {m:M} {id:Pa} {vs:List V}:m.hset id vs=m.seth (qL m.hp id vs):=rI rfl
@[go_sem] theorem seth_seth {m:M} {h h':Hp}:(m.seth h).seth h'=m.seth h':=rI rfl
def xF (f:aJ) (vv bv:V):List V:=[.lit (.string (bs f.iE)),.lit (.bool f.eK),.lit (.int .i64 f.bO),.lit (.int .i64 f.aT),vv,bv]
@[go_sem] theorem fnRow_eq {f:aJ} {vv bv:V}:xF f vv bv=[.lit (.string (bs f.iE)),.lit (.bool f.eK),.lit (.int .i64 f.bO),.lit (.int .i64 f.aT),vv,bv]:=rI rfl
def Mg (b:V) (l:List aA):Prop:=(b=.nilv/\l=[]) ∨ b=.list .none (l.map aA.C)
def rO (F S C:V) (fs:List (V × V)) (cs:List V):Nat->Nat->V
 | 0,0=>F
 | 1,0=>S
 | 2,0=>C
 | 3,i=>match fs[i]? with | some v=>v.1 | none=>.nilv
 | 4,i=>match cs[i]? with | some v=>v | none=>.nilv
 | _,_=>.nilv
def NdV (s:Nat->Nat->V):Prop:=∀a b a' b' id,id ∈ mK (s a b)->id ∈ mK (s a' b')->a=a'/\b=b'
theorem NdV.upd {s s':Nat->Nat->V} (h:NdV s) {a b:Nat} (hs:∀i j,¬(i=a/\j=b)->s' i j=s i j) (hv:∀id ∈ mK (s' a b),id ∈ mK (s a b) ∨ ∀i j,id ∉ mK (s i j)):NdV s':=by
 intro i j i' j' id h1 h2
 by_cases e1:i=a/\j=b <;> by_cases e2:i'=a/\j'=b
 ·exact ⟨e1.1.trans e2.1.symm,e1.2.trans e2.2.symm⟩
 ·rw [hs i' j' e2] at h2;rw [e1.1,e1.2] at h1
  rcases hv id h1 with h3 | h3
  ·obtain ⟨k1,k2⟩:=h a b i' j' id h3 h2;exact cM ⟨k1.symm,k2.symm⟩ e2
  ·exact cM h2 (h3 i' j')
 ·rw [hs i j e1] at h1;rw [e2.1,e2.2] at h2
  rcases hv id h2 with h3 | h3
  ·obtain ⟨k1,k2⟩:=h a b i j id h3 h1;exact cM ⟨k1.symm,k2.symm⟩ e1
  ·exact cM h1 (h3 i j)
 ·rw [hs i j e1] at h1;rw [hs i' j' e2] at h2;exact h i j i' j' id h1 h2
structure Ft (F fp S C:V) (fs:List (V × V)) (cs:List V) (h:Hp) (x:aE):Prop where
 fl:fs.length=x.p_.bC.length
 rF:iP h F 6 (List.zipWith (λf v=>xF f v.1 v.2) x.p_.bC fs)
 rV:∀(i:Nat) f v,x.p_.bC[i]? = some f->fs[i]? = some v->iP h v.1 3 (f.aQ.map aK.C)/\Mg v.2 f.bH
 rS:iP h S 1 (x.bI.map (cI .i64))
 cl:cs.length=x.cF.length
 rC:iP h C 1 (cs.map λv=>[v])
 rCi:∀(i:Nat) l v,x.cF[i]? = some l->cs[i]? = some v->iP h v 1 (l.map (cI .i64))
 rfp:∀i:Nat,x.f_=i->fp=.pp (tL F) (i*6)
 nd:NdV (rO F S C fs cs)
def fC (F fp S C:V) (h:Hp) (x:aE):Prop:=∃fs cs,Ft F fp S C fs cs h x
section
variable {F fp S C:V} {fs:List (V × V)} {cs:List V} {h:Hp} {x x':aE} {q:Pa}
theorem Ft.same (hk:Ft F fp S C fs cs h x) (h1:x'.p_=x.p_) (h2:x'.f_=x.f_) (h3:x'.bI=x.bI) (h4:x'.cF=x.cF):Ft F fp S C fs cs h x':=by
 refine ⟨by rw [h1];exact hk.fl,by rw [h1];exact hk.rF,by rw [h1];exact hk.rV,by rw [h3];exact hk.rS,by rw [h4];exact hk.cl,hk.rC,by rw [h4];exact hk.rCi,by rw [h2];exact hk.rfp,hk.nd⟩
theorem fC.same (hk:fC F fp S C h x) (h1:x'.p_=x.p_) (h2:x'.f_=x.f_) (h3:x'.bI=x.bI) (h4:x'.cF=x.cF):fC F fp S C h x':=by
 obtain ⟨fs,cs,hk⟩:=hk;exact ⟨fs,cs,hk.same h1 h2 h3 h4⟩
theorem Ft.live (hk:Ft F fp S C fs cs h x) {a b:Nat} {id:Pa} (hi:id ∈ mK (rO F S C fs cs a b)):h id ≠ none:=by
 unfold rO at hi
 split at hi
 ·exact hk.rF.live hi
 ·exact hk.rS.live hi
 ·exact hk.rC.live hi
 ·split at hi
  ·rename_i v hv
   obtain ⟨f,hf⟩:∃f,x.p_.bC[b]? = some f:=by
    have:=(xW.1 hv).1;rw [hk.fl] at this;exact ⟨_,yN this⟩
   exact (hk.rV b f v hf hv).1.live hi
  ·cases hi
 ·split at hi
  ·rename_i v hv
   obtain ⟨l,hl⟩:∃l,x.cF[b]? = some l:=by
    have:=(xW.1 hv).1;rw [hk.cl] at this;exact ⟨_,yN this⟩
   exact (hk.rCi b l v hl hv).live hi
  ·cases hi
 ·cases hi
theorem Ft.fresh (hk:Ft F fp S C fs cs h x) (hq:h q=none) (a b:Nat):q ∉ mK (rO F S C fs cs a b):=λhi=>hk.live hi hq
theorem Ft.frames (hk:Ft F fp S C fs cs h x) (hq:h q=none) (a b:Nat) {h':Hp} (hh:∀id,id ≠ q->id ∉ mK (rO F S C fs cs a b)->h' id=h id) {i j:Nat} (hne:¬(i=a/\j=b)):∀id ∈ mK (rO F S C fs cs i j),h' id=h id:=by
 intro id gG;refine hh id (λe=>hk.fresh hq i j (e ▸ gG)) λh2=>?_;obtain ⟨k1,k2⟩:=hk.nd i j a b id gG h2;exact hne ⟨k1,k2⟩
theorem Ft.frV (hk:Ft F fp S C fs cs h x) {h':Hp} (hh:∀i,∀id ∈ mK (rO F S C fs cs 3 i),h' id=h id):∀(i:Nat) f v,x.p_.bC[i]? = some f->fs[i]? = some v->iP h' v.1 3 (f.aQ.map aK.C)/\Mg v.2 f.bH:=by
 intro i f v hf hv;have:=hk.rV i f v hf hv;exact ⟨this.1.frame λid gG=>hh i id (by show id ∈ mK (match fs[i]? with | some v=>v.1 | none=>.nilv);rw [hv];exact gG),this.2⟩
theorem Ft.frC (hk:Ft F fp S C fs cs h x) {h':Hp} (hh:∀i,∀id ∈ mK (rO F S C fs cs 4 i),h' id=h id):∀(i:Nat) l v,x.cF[i]? = some l->cs[i]? = some v->iP h' v 1 (l.map (cI .i64)):=by
 intro i l v hl hv;exact (hk.rCi i l v hl hv).frame λid gG=>hh i id (by show id ∈ mK (match cs[i]? with | some v=>v | none=>.nilv);rw [hv];exact gG)
theorem fC.scopeR (hk:fC F fp S C h x):iP h S 1 (x.bI.map (cI .i64)):=by obtain ⟨fs,cs,hk⟩:=hk;exact hk.rS
theorem fC.appS (hk:fC F fp S C h x) (hq:h q=none) (n:Int) (h1:x'.p_=x.p_) (h2:x'.f_=x.f_) (h3:x'.bI=x.bI++[n]) (h4:x'.cF=x.cF) :
  fC F fp (.vec q 1 (x.bI.length+1)) C (Lo h S q ((x.bI.map (cI .i64)).flatten++[.lit (.int .i64 n)])) x':=by
 obtain ⟨fs,cs,hk⟩:=hk;have hfr:∀ {i j:Nat},¬(i=1/\j=0)->∀id ∈ mK (rO F S C fs cs i j),Lo h S q ((x.bI.map (cI .i64)).flatten++[.lit (.int .i64 n)]) id=h id:=λhne=>hk.frames hq 1 0 (λid e1 e2=>DT e1 e2) hne;refine ⟨fs,cs,by rw [h1];exact hk.fl,by rw [h1];exact hk.rF.frame (hfr (i:=0) (j:=0) zb),by rw [h1];exact hk.frV λi=>hfr zb,?_,by rw [h4];exact hk.cl,hk.rC.frame (hfr (i:=2) (j:=0) zb),by rw [h4];exact hk.frC λi=>hfr zb,by rw [h2];exact hk.rfp,?_⟩
 ·have:=hk.rS.app (q:=q) (rows2:=[cI .i64 n]) (λr hr=>by rw [zU.1 hr];rfl);have e:(x.bI.map (cI .i64)++[cI .i64 n]).flatten=(x.bI.map (cI .i64)).flatten++[.lit (.int .i64 n)]:=by simp [cI]
  rw [e] at this;rw [h3,YI,yV,Dh];simpa using this
 ·refine hk.nd.upd (a:=1) (b:=0) (λi j hne=>?_) λid gG=>.inr λi j=>?_
  ·unfold rO;split <;> first | rfl | (exact cM ⟨rfl,rfl⟩ hne)
  ·have:id=q:=by simpa [rO,mK] using gG
   rw [this];exact hk.fresh hq i j
theorem fC.cutS (hk:fC F fp S C h x) {k:Nat} (hle:k<=x.bI.length) (h1:x'.p_=x.p_) (h2:x'.f_=x.f_) (h3:x'.bI=x.bI.take k) (h4:x'.cF=x.cF):fC F fp (CS S k) C h x':=by
 obtain ⟨fs,cs,hk⟩:=hk;refine ⟨fs,cs,by rw [h1];exact hk.fl,by rw [h1];exact hk.rF,by rw [h1];exact hk.rV,?_,by rw [h4];exact hk.cl,hk.rC,by rw [h4];exact hk.rCi,by rw [h2];exact hk.rfp,?_⟩
 ·have:=hk.rS.cut (k:=k) (by simpa using hle);rw [h3,List.map_take];exact this
 ·refine hk.nd.upd (a:=1) (b:=0) (λi j hne=>?_) λid gG=>.inl ?_
  ·unfold rO;split <;> first | rfl | (exact cM ⟨rfl,rfl⟩ hne)
  ·have:id ∈ mK (CS S k):=gG;rw [XW] at this;exact this
theorem fC.nilS (hk:fC F fp S C h x) (h1:x'.p_=x.p_) (h2:x'.f_=x.f_) (h3:x'.bI=[]) (h4:x'.cF=x.cF):fC F fp .nilv C h x':=by
 obtain ⟨fs,cs,hk⟩:=hk;refine ⟨fs,cs,by rw [h1];exact hk.fl,by rw [h1];exact hk.rF,by rw [h1];exact hk.rV,by rw [h3];exact .nil h 1,by rw [h4];exact hk.cl,hk.rC,by rw [h4];exact hk.rCi,by rw [h2];exact hk.rfp,?_⟩;refine hk.nd.upd (a:=1) (b:=0) (λi j hne=>?_) λid gG=>by cases gG
 unfold rO;split <;> first | rfl | (exact cM ⟨rfl,rfl⟩ hne)
theorem fC.setFn (hk:fC F fp S C h x) {i:Int} (h0:0<=i) (h1:x'.p_=x.p_) (h2:x'.f_=i) (h3:x'.bI=x.bI) (h4:x'.cF=x.cF):fC F (.pp (tL F) (i.toNat*6)) S C h x':=by
 obtain ⟨fs,cs,hk⟩:=hk;refine ⟨fs,cs,by rw [h1];exact hk.fl,by rw [h1];exact hk.rF,by rw [h1];exact hk.rV,by rw [h3];exact hk.rS,by rw [h4];exact hk.cl,hk.rC,by rw [h4];exact hk.rCi,?_,hk.nd⟩;intro j hj;have:i.toNat=j:=zb
 rw [this]
theorem Re {i:Nat} {f:aJ} {v:V × V} {l:List aJ} (hf:l[i]? = some f) (hv:fs[i]? = some v):(List.zipWith (λf v=>xF f v.1 v.2) l fs)[i]? = some (xF f v.1 v.2):=by
 rw [List.getElem?_zipWith,hf,hv]
theorem fC.fpEq (hk:fC F fp S C h x) (h0:0<=x.f_):fp=.pp (tL F) (x.f_.toNat*6):=by
 obtain ⟨fs,cs,hk⟩:=hk;exact hk.rfp _ zb
theorem fC.funcsR (hk:fC F fp S C h x):xO F 6 x.p_.bC.length:=by
 obtain ⟨fs,cs,hk⟩:=hk;have:=hk.rF.sh
 rwa [List.length_zipWith,hk.fl,Nat.min_self] at this
structure NK (F fp S C:V) (h:Hp) (x:aE) (i:Nat) (f:aJ) (vv bv:V) (HF:List V):Prop where
 hF:h (tL F)=some HF
 len:i*6+6<=HF.length
 row:∃rest,∀k,k<=6->HF.drop (i*6+k)=(xF f vv bv).drop k++rest
 vars:iP h vv 3 (f.aQ.map aK.C)
 body:Mg bv f.bH
 up:∃fs cs,Ft F fp S C fs cs h x/\x.p_.bC[i]? = some f/\fs[i]? = some (vv,bv)
theorem fC.foc (hk:fC F fp S C h x) {i:Nat} {f:aJ} (hf:x.p_.bC[i]? = some f):∃vv bv HF,NK F fp S C h x i f vv bv HF:=by
 obtain ⟨fs,cs,hk⟩:=hk
 obtain ⟨v,hv⟩:∃v,fs[i]? = some v:=by
  have:=(xW.1 hf).1;rw [←hk.fl] at this;exact ⟨_,yN this⟩
 obtain ⟨HF,rest,e1,e2,e3,e4⟩:=hk.rF.fW (Re hf hv);refine ⟨v.1,v.2,HF,e1,?_,⟨rest,e3⟩,(hk.rV i f v hf hv).1,(hk.rV i f v hf hv).2,⟨fs,cs,hk,hf,hv⟩⟩;have h1:i<x.p_.bC.length:=(xW.1 hf).1;rw [List.length_zipWith,hk.fl,Nat.min_self] at e2;have:(i+1)*6<=x.p_.bC.length*6:=xdi _ h1;omega
theorem Mg.shr {b:V} {l:List aA} (h:Mg b l):b.shared=b:=by rcases h with ⟨rfl,_⟩ | rfl <;> rfl
section
variable {i:Nat} {f:aJ} {vv bv:V} {HF:List V}
theorem NK.rows (fc:NK F fp S C h x i f vv bv HF):∃rs,HF.drop (i*6)=[.lit (.string (bs f.iE)),.lit (.bool f.eK),.lit (.int .i64 f.bO),.lit (.int .i64 f.aT),vv,bv]++rs/\HF.drop (i*6+1)=.lit (.bool f.eK)::.lit (.int .i64 f.bO)::.lit (.int .i64 f.aT)::vv::bv::rs ∧
  HF.drop (i*6+2)=.lit (.int .i64 f.bO)::.lit (.int .i64 f.aT)::vv::bv::rs/\HF.drop (i*6+3)=.lit (.int .i64 f.aT)::vv::bv::rs/\HF.drop (i*6+4)=vv::bv::rs/\HF.drop (i*6+5)=bv::rs/\bv.shared=bv:=by
 obtain ⟨rs,e⟩:=fc.row;exact ⟨rs,e 0 zb,e 1 zb,e 2 zb,e 3 zb,e 4 zb,e 5 zb,fc.body.shr⟩
theorem NK.len3 (fc:NK F fp S C h x i f vv bv HF):i*6+3+1<=HF.length:=by have:=fc.len;omega
theorem NK.len4 (fc:NK F fp S C h x i f vv bv HF):i*6+4+1<=HF.length:=by have:=fc.len;omega
theorem NK.len5 (fc:NK F fp S C h x i f vv bv HF):i*6+5+1<=HF.length:=by have:=fc.len;omega
theorem NK.nd (fc:NK F fp S C h x i f vv bv HF):tL F ∉ mK vv/\mK F=[tL F]:=by
 obtain ⟨fs,cs,hk,hf,hv⟩:=fc.up
 have hF:mK F=[tL F]:=by
  obtain ⟨vs,rest,e1,e2,e3,e4⟩:=hk.rF.fW (Re hf hv);rw [e4];rfl
 refine ⟨λhi=>?_,hF⟩;have:=hk.nd 0 0 3 i (tL F) (by show tL F ∈ mK F;rw [hF];simp) (by show tL F ∈ mK (match fs[i]? with | some v=>v.1 | none=>.nilv);rw [hv];exact hi);omega
theorem NK.apF (fc:NK F fp S C h x i f vv bv HF) (hq:h q=none) {l:List V}:Lo h vv q l (tL F)=some HF:=by
 rw [DT (λe=>by rw [←e,fc.hF] at hq;cases hq) fc.nd.1];exact fc.hF
theorem zaC {sz k:Nat} {u:V}:∀ {rows:List (List V)} {i:Nat} {r:List V},(∀r ∈ rows,r.length=sz)->rows[i]? = some r->k<sz->(rows.set i (r.set k u)).flatten=rows.flatten.set (i*sz+k) u:=by
 intro rows
 induction rows with
 | nil=>intro i r _ h;cases h
 | cons r0 rows ih=>
   intro i r hs hr hk;have h0:=hs r0 zd;cases i with
   | zero=>
     have:r0=r:=by simpa using hr
     subst this;rw [Pw,Ll,Ll,Nat.zero_mul,Lk,List.set_append_left _ _ zb]
   | succ i=>
     rw [SD,Ll,Ll,ih (λr hr=>hs r (by simp [hr])) (by simpa using hr) hk,List.set_append_right _ _ (by rw [h0,NM];omega),h0]
     congr 2
     rw [NM];omega
theorem iP.setRow {h h':Hp} {v:V} {sz k:Nat} {rows:List (List V)} {u:V} {r vs:List V} {i:Nat} (hv:iP h v sz rows) (hr:rows[i]? = some r) (hk:k<sz) (e:h (tL v)=some vs) (e':h' (tL v)=some (vs.set (i*sz+k) u)):iP h' v sz (rows.set i (r.set k u)):=by
 obtain ⟨h1,⟨rfl,rfl⟩ | ⟨id,vs',rfl,e2,h2⟩⟩:=hv
 ·cases hr
 ·have:vs'=vs:=by rw [show tL (V.vec id sz rows.length)=id from rfl,e2] at e;injection e
  subst this;refine ⟨λx hx=>?_,.inr ⟨id,_,by rw [Db],e',?_⟩⟩
  ·rcases YK hx with hx | rfl
   ·exact h1 x hx
   ·rw [Db];exact h1 r (GB hr)
  ·rw [Db,List.take_set,h2,zaC h1 hr hk]
theorem zip_set {α β γ:Type} {g:α->β->γ} {l:List α} {l':List β} {i:Nat} {a:α} {b:β}:List.zipWith g (l.set i a) (l'.set i b)=(List.zipWith g l l').set i (g a b):=by
 apply Yz;intro j;rw [List.getElem?_zipWith,Uu,Uu,Uu,List.getElem?_zipWith,List.length_zipWith]
 by_cases e:i=j
 ·subst e;rw [cX rfl,cX rfl,cX rfl]
  by_cases h1:i<l.length <;> by_cases h2:i<l'.length
  ·rw [cX h1,cX h2,cX (Nat.lt_min.2 ⟨h1,h2⟩)]
  ·rw [cX h1,cE h2,cE (λh=>h2 (Nat.lt_min.1 h).2)]
  ·rw [cE h1,cE (λh=>h1 (Nat.lt_min.1 h).1)]
  ·rw [cE h1,cE (λh=>h1 (Nat.lt_min.1 h).1)]
 ·rw [cE e,cE e,cE e]
theorem NK.upd (fc:NK F fp S C h x i f vv bv HF) {k:Nat} {u:V} {f':aJ} {vv' bv':V} {h1:Hp} (hk6:k<6) (hrow:xF f' vv' bv'=(xF f vv bv).set k u) (hh:∀id,h id ≠ none->id ∉ mK vv->h1 id=h id) (hV:iP h1 vv' 3 (f'.aQ.map aK.C)) (hB:Mg bv' f'.bH)
  (gG:∀id ∈ mK vv',id ∈ mK vv ∨ h id=none) (e1:x'.p_=⟨x.p_.bC.set i f'⟩) (e2:x'.f_=x.f_) (e3:x'.bI=x.bI) (e4:x'.cF=x.cF):fC F fp S C (qL h1 (tL F) (HF.set (i*6+k) u)) x':=by
 obtain ⟨hnF,hF1⟩:=fc.nd;obtain ⟨fs,cs,hk,hf,hv⟩:=fc.up;have hslot:rO F S C fs cs 3 i=vv:=by show (match fs[i]? with | some v=>v.1 | none=>.nilv)=vv;rw [hv]
 have hput:∀id,id ≠ tL F->qL h1 (tL F) (HF.set (i*6+k) u) id=h1 id:=λid hne=>by show (if id=tL F then _ else _)=_;rw [cE hne]
 have hF0:tL F ∈ mK (rO F S C fs cs 0 0):=by show tL F ∈ mK F;rw [hF1];simp
 have hfr:∀ {a b},¬(a=0/\b=0)->¬(a=3/\b=i)->∀id ∈ mK (rO F S C fs cs a b),qL h1 (tL F) (HF.set (i*6+k) u) id=h id:=by
  intro a b n1 n2 id hi
  have hneF:id ≠ tL F:=λe=>by
   subst e;obtain ⟨k1,k2⟩:=hk.nd a b 0 0 _ hi hF0;exact n1 ⟨k1,k2⟩
  rw [hput id hneF];refine hh id (hk.live hi) λh2=>?_;obtain ⟨k1,k2⟩:=hk.nd a b 3 i id hi (by rw [hslot];exact h2);exact n2 ⟨k1,k2⟩
 have hil:i<x.p_.bC.length:=(xW.1 hf).1;have hif:i<fs.length:=(xW.1 hv).1;refine ⟨fs.set i (vv',bv'),cs,by rw [e1];simp [hk.fl],?_,?_,?_,by rw [e4];exact hk.cl,hk.rC.frame (hfr (a:=2) (b:=0) zb zb),?_,by rw [e2];exact hk.rfp,?_⟩
 ·rw [e1,zip_set (g:=λ(f:aJ) (v:V × V)=>xF f v.1 v.2)];show iP _ F 6 ((List.zipWith (λf v=>xF f v.1 v.2) x.p_.bC fs).set i (xF f' vv' bv'));rw [hrow];exact hk.rF.setRow (Re hf hv) hk6 fc.hF (by show (if tL F=tL F then _ else _)=_;rw [cX rfl])
 ·rw [e1];intro j g v hg hv2;rw [Uu] at hg hv2
  by_cases e:i=j
  ·subst e;rw [cX rfl,cX hil] at hg;rw [cX rfl,cX hif] at hv2
   injection hg with hg;injection hv2 with hv2
   subst hg hv2;refine ⟨hV.frame λid hi=>hput id λe=>?_,hB⟩
   rcases gG id hi with h2 | h2
   ·exact hnF (e ▸ h2)
   ·rw [e,fc.hF] at h2;cases h2
  ·rw [cE e] at hg hv2;have:=hk.rV j g v hg hv2;exact ⟨this.1.frame λid hi=>hfr (a:=3) (b:=j) zb zb id (by show id ∈ mK (match fs[j]? with | some v=>v.1 | none=>.nilv);rw [hv2];exact hi),this.2⟩
 ·rw [e3];exact hk.rS.frame (hfr (a:=1) (b:=0) zb zb)
 ·rw [e4];exact hk.frC λj=>hfr zb zb
 ·refine hk.nd.upd (a:=3) (b:=i) (λa b hne=>?_) λid hi=>?_
  ·unfold rO
   split <;> first | rfl | skip
   rename_i j;rw [Uu,cE (λe=>hne ⟨rfl,e.symm⟩)]
  ·have:rO F S C (fs.set i (vv',bv')) cs 3 i=vv':=by
    show (match (fs.set i (vv',bv'))[i]? with | some v=>v.1 | none=>.nilv)=vv';rw [Uu,cX rfl,cX hif]
   rw [this] at hi
   rcases gG id hi with h2 | h2
   ·left;rw [hslot];exact h2
   ·right;intro a b hi2;exact hk.live hi2 h2
theorem NK.setParams (fc:NK F fp S C h x i f vv bv HF) {n:Int} (e1:x'.p_=⟨x.p_.bC.set i { f with aT:=n }⟩) (e2:x'.f_=x.f_) (e3:x'.bI=x.bI) (e4:x'.cF=x.cF):fC F fp S C (qL h (tL F) (HF.set (i*6+3) (.lit (.int .i64 n)))) x':=
 fc.upd (k:=3) (f':={ f with aT:=n }) (vv':=vv) (bv':=bv) zb rfl (λ_ _ _=>rfl) fc.vars fc.body (λ_ h=>.inl h) e1 e2 e3 e4
theorem NK.setBody (fc:NK F fp S C h x i f vv bv HF) {l:List aA} (e1:x'.p_=⟨x.p_.bC.set i { f with bH:=l }⟩) (e2:x'.f_=x.f_) (e3:x'.bI=x.bI) (e4:x'.cF=x.cF):fC F fp S C (qL h (tL F) (HF.set (i*6+5) (.list .none (l.map aA.C)))) x':=
 fc.upd (k:=5) (f':={ f with bH:=l }) (vv':=vv) (bv':=.list .none (l.map aA.C)) zb rfl (λ_ _ _=>rfl) fc.vars (.inr rfl) (λ_ h=>.inl h) e1 e2 e3 e4
theorem NK.appVars (fc:NK F fp S C h x i f vv bv HF) (hq:h q=none) (v:aK) (e1:x'.p_=⟨x.p_.bC.set i { f with aQ:=f.aQ++[v] }⟩) (e2:x'.f_=x.f_) (e3:x'.bI=x.bI) (e4:x'.cF=x.cF) :
  fC F fp S C (qL (Lo h vv q ((f.aQ.map aK.C).flatten++aK.C v)) (tL F) (HF.set (i*6+4) (.vec q 3 (f.aQ.length+1)))) x':=by
 refine fc.upd (k:=4) (f':={ f with aQ:=f.aQ++[v] }) (vv':=.vec q 3 (f.aQ.length+1)) (bv':=bv) zb rfl (λid h1 h2=>DT (λe=>h1 (e ▸ hq)) h2) ?_ fc.body (λid hi=>.inr (by rw [show id=q by simpa [mK] using hi];exact hq)) e1 e2 e3 e4;have:=fc.vars.app (q:=q) (rows2:=[aK.C v]) (λr hr=>by rw [zU.1 hr];rfl);have e:(f.aQ.map aK.C++[aK.C v]).flatten=(f.aQ.map aK.C).flatten++aK.C v:=zd
 rw [e] at this;simpa using this
end
theorem fC.scopeS (hk:fC F fp S C h x):xO S 1 x.bI.length:=hk.scopeR.shC
theorem fC.callsS (hk:fC F fp S C h x):xO C 1 x.cF.length:=by
 obtain ⟨fs,cs,hk⟩:=hk;have:=hk.rC.sh
 rwa [Kn,hk.cl] at this
structure Si (F fp S C:V) (h:Hp) (x:aE) (i:Nat) (l:List Int) (cv:V) (HC:List V):Prop where
 hC:h (tL C)=some HC
 len:i+1<=HC.length
 row:∃rest,HC.drop i=cv::rest
 cell:iP h cv 1 (l.map (cI .i64))
 up:∃fs cs,Ft F fp S C fs cs h x/\x.cF[i]? = some l/\cs[i]? = some cv
theorem fC.focC (hk:fC F fp S C h x) {i:Nat} {l:List Int} (hl:x.cF[i]? = some l):∃cv HC,Si F fp S C h x i l cv HC:=by
 obtain ⟨fs,cs,hk⟩:=hk
 obtain ⟨v,hv⟩:∃v,cs[i]? = some v:=by
  have:=(xW.1 hl).1;rw [←hk.cl] at this;exact ⟨_,yN this⟩
 obtain ⟨HC,rest,e1,e2,e3,e4⟩:=hk.rC.fW (i:=i) (r:=[v]) (by rw [KM,hv];rfl);refine ⟨v,HC,e1,?_,⟨rest,by have:=e3 0 zb;rwa [YJ] at this⟩,hk.rCi i l v hl hv,⟨fs,cs,hk,hl,hv⟩⟩;have h1:i<x.cF.length:=(xW.1 hl).1;rw [Kn,hk.cl] at e2;omega
section
variable {i:Nat} {l:List Int} {cv:V} {HC:List V}
theorem Si.nd (fc:Si F fp S C h x i l cv HC):tL C ∉ mK cv/\mK C=[tL C]:=by
 obtain ⟨fs,cs,hk,hl,hv⟩:=fc.up
 have hF:mK C=[tL C]:=by
  obtain ⟨vs,rest,e1,e2,e3,e4⟩:=hk.rC.fW (i:=i) (r:=[cv]) (by rw [KM,hv];rfl);rw [e4];rfl
 refine ⟨λhi=>?_,hF⟩;have:=hk.nd 2 0 4 i (tL C) (by show tL C ∈ mK C;rw [hF];simp) (by show tL C ∈ mK (match cs[i]? with | some v=>v | none=>.nilv);rw [hv];exact hi);omega
theorem Si.apF (fc:Si F fp S C h x i l cv HC) (hq:h q=none) {l2:List V}:Lo h cv q l2 (tL C)=some HC:=by
 rw [DT (λe=>by rw [←e,fc.hC] at hq;cases hq) fc.nd.1];exact fc.hC
theorem Si.app (fc:Si F fp S C h x i l cv HC) (hq:h q=none) (n:Int) (e1:x'.p_=x.p_) (e2:x'.f_=x.f_) (e3:x'.bI=x.bI) (e4:x'.cF=x.cF.set i (l++[n])) :
  fC F fp S C (qL (Lo h cv q ((l.map (cI .i64)).flatten++[.lit (.int .i64 n)])) (tL C) (HC.set i (.vec q 1 (l.length+1)))) x':=by
 obtain ⟨hnC,hC1⟩:=fc.nd;obtain ⟨fs,cs,hk,hl,hv⟩:=fc.up;have hqC:tL C ≠ q:=λe=>by have:=fc.hC;rw [e,hq] at this;cases this
 have hslot:rO F S C fs cs 4 i=cv:=by show (match cs[i]? with | some v=>v | none=>.nilv)=cv;rw [hv]
 have hC0:tL C ∈ mK (rO F S C fs cs 2 0):=by show tL C ∈ mK C;rw [hC1];simp
 have hput:∀ {g:Hp} {w:List V} id,id ≠ tL C->qL g (tL C) w id=g id:=λid hne=>by show (if id=tL C then _ else _)=_;rw [cE hne]
 have hfr:∀ {a b},¬(a=2/\b=0)->¬(a=4/\b=i)->∀id ∈ mK (rO F S C fs cs a b),qL (Lo h cv q ((l.map (cI .i64)).flatten++[.lit (.int .i64 n)])) (tL C) (HC.set i (.vec q 1 (l.length+1))) id=h id:=by
  intro a b n1 n2 id hi
  have hneC:id ≠ tL C:=λe=>by
   subst e;obtain ⟨k1,k2⟩:=hk.nd a b 2 0 _ hi hC0;exact n1 ⟨k1,k2⟩
  rw [hput id hneC];refine DT (λe=>hk.fresh hq a b (e ▸ hi)) λh2=>?_;obtain ⟨k1,k2⟩:=hk.nd a b 4 i id hi (by rw [hslot];exact h2);exact n2 ⟨k1,k2⟩
 have hil:i<x.cF.length:=(xW.1 hl).1;have hif:i<cs.length:=(xW.1 hv).1;refine ⟨fs,cs.set i (.vec q 1 (l.length+1)),by rw [e1];exact hk.fl,by rw [e1];exact hk.rF.frame (hfr (a:=0) (b:=0) zb zb),by rw [e1];exact hk.frV λj=>hfr zb zb,by rw [e3];exact hk.rS.frame (hfr (a:=1) (b:=0) zb zb),by rw [e4];simp [hk.cl],?_,?_,by rw [e2];exact hk.rfp,?_⟩
 ·have:=hk.rC.setRow (h':=qL (Lo h cv q ((l.map (cI .i64)).flatten++[.lit (.int .i64 n)])) (tL C) (HC.set i (.vec q 1 (l.length+1)))) (k:=0) (u:=.vec q 1 (l.length+1)) (i:=i) (r:=[cv]) (by rw [KM,hv];rfl) zb fc.hC (by show (if tL C=tL C then _ else _)=_;rw [cX rfl,YJ];rfl);rw [List.map_set];exact this
 ·rw [e4];intro j g v hg hv2;rw [Uu] at hg hv2
  by_cases e:i=j
  ·subst e;rw [cX rfl,cX hil] at hg;rw [cX rfl,cX hif] at hv2
   injection hg with hg;injection hv2 with hv2
   subst hg hv2;have h2:=fc.cell.app (q:=q) (rows2:=[cI .i64 n]) (λr hr=>by rw [zU.1 hr];rfl);have e5:(l.map (cI .i64)++[cI .i64 n]).flatten=(l.map (cI .i64)).flatten++[.lit (.int .i64 n)]:=by simp [cI]
   rw [e5] at h2;have h3:iP (Lo h cv q ((l.map (cI .i64)).flatten++[.lit (.int .i64 n)])) (.vec q 1 (l.length+1)) 1 ((l++[n]).map (cI .i64)):=by simpa using h2
   refine h3.frame λid hi=>hput id λe=>?_;have:id=q:=by simpa [mK] using hi
   exact hqC (e ▸ this)
  ·rw [cE e] at hg hv2;exact (hk.rCi j g v hg hv2).frame λid hi=>hfr (a:=4) (b:=j) zb zb id (by show id ∈ mK (match cs[j]? with | some v=>v | none=>.nilv);rw [hv2];exact hi)
 ·refine hk.nd.upd (a:=4) (b:=i) (λa b hne=>?_) λid hi=>?_
  ·unfold rO
   split <;> first | rfl | skip
   rename_i j;rw [Uu,cE (λe=>hne ⟨rfl,e.symm⟩)]
  ·have:rO F S C fs (cs.set i (.vec q 1 (l.length+1))) 4 i=.vec q 1 (l.length+1):=by
    show (match (cs.set i (.vec q 1 (l.length+1)))[i]? with | some v=>v | none=>.nilv)=_;rw [Uu,cX rfl,cX hif]
   rw [this] at hi
   right;intro a b
   have:id=q:=by simpa [mK] using hi
   rw [this];exact hk.fresh hq a b
end
theorem fC.mkCalls {n:Nat} (hk:fC F fp S C h x) (hq:h q=none) (e1:x'.p_=x.p_) (e2:x'.f_=x.f_) (e3:x'.bI=x.bI) (e4:x'.cF=List.replicate n []):fC F fp S (.vec q 1 n) (qL h q (List.replicate n [V.nilv]).flatten) x':=by
 obtain ⟨fs,cs,hk⟩:=hk
 have hput:∀ {a b},∀id ∈ mK (rO F S C fs cs a b),qL h q (List.replicate n [V.nilv]).flatten id=h id:=λid hi=>by
  show (if id=q then _ else _)=_;rw [cE (λe=>hk.fresh hq _ _ (e ▸ hi))]
 refine ⟨fs,List.replicate n .nilv,by rw [e1];exact hk.fl,by rw [e1];exact hk.rF.frame (hput (a:=0) (b:=0)),by rw [e1];exact hk.frV λj=>hput,by rw [e3];exact hk.rS.frame (hput (a:=1) (b:=0)),by rw [e4];simp,?_,?_,by rw [e2];exact hk.rfp,?_⟩
 ·refine ⟨λr hr=>?_,.inr ⟨q,(List.replicate n [V.nilv]).flatten,zd,by show (if q=q then _ else _)=_;rw [cX rfl],?_⟩⟩
  ·simp only [List.map_replicate,xdn] at hr;rw [hr.2];rfl
  ·simp
 ·rw [e4];intro j l v hl hv;rw [List.getElem?_replicate] at hl hv
  split at hl
  ·rename_i hj;rw [cX hj] at hv
   injection hl with hl;injection hv with hv
   subst hl hv;exact .nil _ _
  ·cases hl
 ·intro a b a' b' id h1 h2
  have key:∀a b,id ∈ mK (rO F S (.vec q 1 n) fs (List.replicate n .nilv) a b)->(a=2/\b=0/\id=q) ∨ (a<=3/\¬(a=2/\b=0)/\id ∈ mK (rO F S C fs cs a b)):=by
   intro a b hi;unfold rO at hi ⊢
   split at hi
   ·exact .inr ⟨zb,zb,hi⟩
   ·exact .inr ⟨zb,zb,hi⟩
   ·exact .inl ⟨rfl,rfl,by simpa [mK] using hi⟩
   ·exact .inr ⟨zb,zb,hi⟩
   ·rename_i j;rw [List.getElem?_replicate] at hi
    split at hi
    ·rename_i v hv
     split at hv
     ·injection hv with hv;subst hv;cases hi
     ·cases hv
    ·cases hi
   ·cases hi
  rcases key a b h1 with ⟨k1,k2,k3⟩ | ⟨k1,k2,k3⟩ <;> rcases key a' b' h2 with ⟨l1,l2,l3⟩ | ⟨l1,l2,l3⟩
  ·exact ⟨k1.trans l1.symm,k2.trans l2.symm⟩
  ·exact cM (k3 ▸ l3) (hk.fresh hq _ _)
  ·exact cM (l3 ▸ k3) (hk.fresh hq _ _)
  ·exact hk.nd a b a' b' id k3 l3
theorem fC.focF (hk:fC F fp S C h x) (hn:x.f_<0):∃rows,iP h F 6 rows/\rows.length=x.p_.bC.length/\∀ {q:Pa} (hq:h q=none) {f:aJ} {x':aE},x'.p_=⟨x.p_.bC++[f]⟩->x'.f_=x.f_->x'.bI=x.bI->x'.cF=x.cF->f.aQ=[]->f.bH=[]->fp=fp ->
  fC (.vec q 6 (x.p_.bC.length+1)) fp S C (Lo h F q (rows.flatten++xF f .nilv .nilv)) x':=by
 obtain ⟨fs,cs,hk⟩:=hk;have hrl:(List.zipWith (λ(f:aJ) (v:V × V)=>xF f v.1 v.2) x.p_.bC fs).length=x.p_.bC.length:=by rw [List.length_zipWith,hk.fl,Nat.min_self]
 refine ⟨_,hk.rF,hrl,?_⟩;intro q hq f x' e1 e2 e3 e4 e5 e6 _
 have hfr:∀ {a b},¬(a=0/\b=0)->∀id ∈ mK (rO F S C fs cs a b),Lo h F q ((List.zipWith (λ(f:aJ) (v:V × V)=>xF f v.1 v.2) x.p_.bC fs).flatten++xF f .nilv .nilv) id=h id:=by
  intro a b n1 id hi;refine DT (λe=>hk.fresh hq a b (e ▸ hi)) λh2=>?_;obtain ⟨k1,k2⟩:=hk.nd a b 0 0 id hi h2;exact n1 ⟨k1,k2⟩
 refine ⟨fs++[(.nilv,.nilv)],cs,by rw [e1];simp [hk.fl],?_,?_,by rw [e3];exact hk.rS.frame (hfr (a:=1) (b:=0) zb),by rw [e4];exact hk.cl,hk.rC.frame (hfr (a:=2) (b:=0) zb),by rw [e4];exact hk.frC λj=>hfr zb,?_,?_⟩
 ·have:=hk.rF.app (q:=q) (rows2:=[xF f .nilv .nilv]) (λr hr=>by rw [zU.1 hr];rfl);have e:(List.zipWith (λ(f:aJ) (v:V × V)=>xF f v.1 v.2) x.p_.bC fs++[xF f .nilv .nilv]).flatten=(List.zipWith (λ(f:aJ) (v:V × V)=>xF f v.1 v.2) x.p_.bC fs).flatten++xF f .nilv .nilv:=zd
  rw [e] at this
  have e7:List.zipWith (λ(f:aJ) (v:V × V)=>xF f v.1 v.2) (x.p_.bC++[f]) (fs++[(.nilv,.nilv)])=List.zipWith (λ(f:aJ) (v:V × V)=>xF f v.1 v.2) x.p_.bC fs++[xF f .nilv .nilv]:=by
   rw [List.zipWith_append (by rw [hk.fl])];rfl
  rw [e1];show iP _ _ 6 (List.zipWith (λ(f:aJ) (v:V × V)=>xF f v.1 v.2) (x.p_.bC++[f]) (fs++[(.nilv,.nilv)]));rw [e7];rw [oY,hrl] at this;exact this
 ·rw [e1];intro j g v hg hv;have hg':(x.p_.bC++[f])[j]? = some g:=hg
  rcases xdz j x.p_.bC.length with hj | hj
  ·rw [Py hj] at hg';rw [Py (by rw [hk.fl];exact hj)] at hv;have:=hk.rV j g v hg' hv;exact ⟨this.1.frame λid hi=>hfr (a:=3) (b:=j) zb id (by show id ∈ mK (match fs[j]? with | some v=>v.1 | none=>.nilv);rw [hv];exact hi),this.2⟩
  ·have hjl:j<(x.p_.bC++[f]).length:=(xW.1 hg').1;simp only [oY,vO] at hjl;have:j=x.p_.bC.length:=zb
   subst this;rw [Mh (uZ _),xec] at hg';rw [Mh (by rw [hk.fl];exact uZ _),hk.fl,xec] at hv;have h1:f=g:=by simpa using hg'
   have h2:((.nilv,.nilv):V × V)=v:=by simpa using hv
   subst h1 h2;rw [e5,e6];exact ⟨.nil _ _,.inl ⟨rfl,rfl⟩⟩
 ·intro j hj;omega
 ·intro a b a' b' id h1 h2
  have key:∀a b,id ∈ mK (rO (.vec q 6 (x.p_.bC.length+1)) S C (fs++[(.nilv,.nilv)]) cs a b)->(a=0/\b=0/\id=q) ∨ (¬(a=0/\b=0)/\id ∈ mK (rO F S C fs cs a b)):=by
   intro a b hi;unfold rO at hi ⊢
   split at hi
   ·exact .inl ⟨rfl,rfl,by simpa [mK] using hi⟩
   ·exact .inr ⟨zb,hi⟩
   ·exact .inr ⟨zb,hi⟩
   ·refine .inr ⟨zb,?_⟩;show id ∈ mK (match fs[b]? with | some v=>v.1 | none=>.nilv)
    rcases xdz b fs.length with hj | hj
    ·rw [Py hj] at hi;exact hi
    ·rw [Mh hj] at hi
     split at hi
     ·rename_i v hv;cases hjj:b - fs.length with
      | zero=>rw [hjj] at hv;have:((.nilv,.nilv):V × V)=v:=by simpa using hv
              subst this;cases hi
      | succ n=>rw [hjj] at hv;cases hv
     ·cases hi
   ·exact .inr ⟨zb,hi⟩
   ·cases hi
  rcases key a b h1 with ⟨k1,k2,k3⟩ | ⟨k2,k3⟩ <;> rcases key a' b' h2 with ⟨l1,l2,l3⟩ | ⟨l2,l3⟩
  ·exact ⟨k1.trans l1.symm,k2.trans l2.symm⟩
  ·exact cM (k3 ▸ l3) (hk.fresh hq _ _)
  ·exact cM (l3 ▸ k3) (hk.fresh hq _ _)
  ·exact hk.nd a b a' b' id k3 l3
end
theorem iP.readI' {h:Hp} {v:V} {l:List Int} (hv:iP h v 1 (l.map (cI .i64))) {i:Nat} {x:Int} (hx:l[i]? = some x):∃HV rest,h (tL v)=some HV/\HV.drop i=.lit (.int .i64 x)::rest:=by have:=hv.readI hx _ rfl;rwa [YJ] at this
theorem iP.readVar {h:Hp} {v:V} {l:List aK} (hv:iP h v 3 (l.map aK.C)) {i:Nat} {x:aK} (hx:l[i]? = some x):∃HV rest,h (tL v)=some HV/\HV.drop (i*3)=.lit (.string (bs x.iE))::.lit (.int .i64 x.bJ)::.lit (.int .i64 x.jR)::rest/\HV.drop (i*3+1)=.lit (.int .i64 x.bJ)::.lit (.int .i64 x.jR)::rest/\HV.drop (i*3+2)=.lit (.int .i64 x.jR)::rest:=hv.read3 hx _ _ _ rfl
def ax (P:Program) (op:Op) (q:Pa) (g:Operand->V) (m:M) (v:V):Prop:=
 match op with
 | .load T x=>yO P m T (g x) (λr=>r=v)
 | .call cl=>(match cl.callee with | .value f=>sfn P (g f) (cl.args.toList.map g) q m (λr m1=>r=v/\m1=m) | _=>PT P (.call cl) g (λr=>r=v))
 | op=>PT P op g (λr=>r=v)
section
variable {P:Program} {o:Oper} {op:Op} {q:Pa} {E:gE} {m:M} {v:V} {g g1:Operand->V}
theorem Mc (h:ax P op q g m v) (hg:∀x ∈ tH op,g1 x=g x):ax P op q g1 m v:=by
 cases op with
 | load T x=>simp only [ax] at h ⊢;rw [hg x (by simp [tH])];exact h
 | call cl=>
   obtain ⟨callee,args,ats⟩:=cl;cases callee with
   | value f=>
     simp only [ax] at h ⊢;rw [hg f (by simp [tH]),xdj (λx hx=>hg x (by simp only [tH];exact IU _ hx))];exact h
   | _=>simp only [ax] at h ⊢;exact JY (P:=P) (C:=λr=>r=v) h hg
 | _=>simp only [ax] at h ⊢;exact JY (P:=P) (C:=λr=>r=v) h hg
theorem Mt {f:Operand} {xs:Array Operand} {ts:Array TypeId} {C:V->M->Prop}:Td P ⟨.value f,xs,ts⟩ q E m C=sfn P (ev m E f) (xs.toList.map (ev m E)) q m C:=by
 simp only [Td,sfn]
 generalize ev m E f=u
 cases u with
 | fn g _ _=>cases g <;> rfl
 | _=>rfl
theorem WC (h:ax P o.op q (ev m E) m v):jF P o q E m (λr m1=>r=v/\m1=m):=by
 have e0:(λr=>r=v/\m=m)=λr=>r=v:=by funext r;simp
 have pp:PT P o.op (ev m E) (λr=>r=v)->jF P o q E m (λr m1=>r=v/\m1=m):=λh=>UF (C:=λr m1=>r=v/\m1=m) (by show PT P o.op (ev m E) (λr=>r=v/\m=m);rw [e0];exact h);obtain ⟨dst,op,ty,pos,after,guard⟩:=o;cases op with
 | load T x=>
   show yO P m T (ev m E x) (λr=>r=v/\m=m);rw [e0];exact h
 | call cl=>
   obtain ⟨callee,args,ats⟩:=cl;cases callee with
   | value f=>simp only [jF];rw [Mt];exact h
   | _=>simp only [ax] at h;exact pp h
 | _=>simp only [ax] at h;exact pp h
end
section
variable {P:Program} {full:List Oper} {π:Pa} {k0 p N:Nat} {tbl late:List Nat} {E0 EA:gE} {m0:M} {K:Nat->gE->M->Prop}
theorem LW {m:M} {E E':gE} {o:Oper} (h:∀t ∈ BK full o,E' t=E t):∀x ∈ tH o.op,ev m E' x=ev m E x:=by
 intro x hx;cases x with
 | tmp t=>
   refine h t ?_;unfold BK;exact GC _ (List.mem_filterMap.2 ⟨_,hx,rfl⟩)
 | _=>rfl
variable {D:Nat->Bool} {E:gE} {m:M}
end
def TC (P:Program) (k0 i:Nat) (π:Pa) (EA:gE) (m1:M) (o:Oper):Prop:=match o.dst with | some d=>ax P o.op ((k0+i)::π) (ev m1 EA) m1 (EA d) | none=>False
section
variable {P:Program} {full:List Oper} {π:Pa} {k0 p i:Nat} {late is:List Nat} {EA E:gE} {m m1:M} {K:Nat->gE->M->Prop} {C:gE->Prop} {d:Option Nat} {ty:TypeId} {pos:String} {after:Array Edge} {v:V}
@[go_sem] theorem lo_load {T:TypeId} {x:Operand} {d:Nat} {g:Option (Nat × Bool)}:TC P k0 i π EA m1 ⟨some d,.load T x,ty,pos,after,g⟩=yO P m1 T (ev m1 EA x) (λr=>r=EA d):=rI rfl
end
