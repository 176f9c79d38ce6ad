import Derived.Test.YtnheknbibdgglaaGreatDoorMGMm
namespace Go.Proofs.YtnheknbibdgglaaGreatDoor.Abs
open Go.RowKit
abbrev Hp:=Pa->Option (List V)
def tV (v:V) (sz n:Nat):Prop:=(v=.nilv/\n=0) ∨ ∃id,v=.vec id sz n
def qI:V->Pa
 | .vec id _ _=>id
 | _=>[]
def lF:V->List Pa
 | .vec id _ _=>[id]
 | _=>[]
def zP:V->Nat->V
 | .vec id sz _,n=>.vec id sz n
 | v,_=>v
section
variable {v:V} {sz n:Nat}
theorem tV.cells (h:tV v sz n):v.cells=[v]:=by rcases h with ⟨rfl,_⟩ | ⟨id,rfl⟩ <;> rfl
theorem tV.cok (h:tV v sz n):v.cellsOk=true:=by rcases h with ⟨rfl,_⟩ | ⟨id,rfl⟩ <;> rfl
theorem tV.shr (h:tV v sz n):v.shared=v:=by rcases h with ⟨rfl,_⟩ | ⟨id,rfl⟩ <;> rfl
theorem tV.wk1 (h:tV v sz n):v.weak1=v:=by rcases h with ⟨rfl,_⟩ | ⟨id,rfl⟩ <;> rfl
theorem tV.wk (h:tV v sz n):v.weak=v:=by rcases h with ⟨rfl,_⟩ | ⟨id,rfl⟩ <;> rfl
theorem tV.hp (h:tV v sz n):v.toHp=v:=by rcases h with ⟨rfl,_⟩ | ⟨id,rfl⟩ <;> rfl
theorem tV.ld (h:tV v sz n) {s:sQ}:v.ld s=v:=by rcases h with ⟨rfl,_⟩ | ⟨id,rfl⟩ <;> rfl
theorem tV.st1 (h:tV v sz n) {m:M} {id:Pa} {cs:List V} {off:Nat}:M.st1 m id cs off v=m.set id (cs.set off v):=by rcases h with ⟨rfl,_⟩ | ⟨id,rfl⟩ <;> rfl
theorem tV.cut (h:tV v sz n) {k:Nat} (hk:k<=n):tV (zP v k) sz k:=by
 rcases h with ⟨rfl,rfl⟩ | ⟨id,rfl⟩
 ·exact .inl ⟨rfl,za⟩
 ·exact .inr ⟨id,rfl⟩
theorem tV.slen (h:tV v sz n) {e:TypeId} {C:V->Prop}:Jm (.sl e) v C=C (.lit (.int .i64 n)):=by
 rcases h with ⟨rfl,rfl⟩ | ⟨id,rfl⟩ <;> rfl
theorem tV.al (h:tV v sz n):(∀(e:TypeId) (C:V->Prop),Jm (.sl e) v C=C (.lit (.int .i64 n)))/\v.cells=[v]/\v.cellsOk=true/\v.shared=v/\v.weak1=v/\v.weak=v/\v.toHp=v/\(∀s:sQ,v.ld s=v)/\∀(m:M) (id:Pa) (cs:List V) (off:Nat),M.st1 m id cs off v=m.set id (cs.set off v):=by rcases h with ⟨rfl,rfl⟩ | ⟨id,rfl⟩ <;> exact ⟨λ_ _=>rfl,rfl,rfl,rfl,rfl,rfl,rfl,λ_=>rfl,λ_ _ _ _=>rfl⟩
theorem tV.sl (h:tV v sz n) {P:Program} {e:TypeId} {lo hi:Option V} {C:V->Prop} {l k:Int} {s:Nat} (hs:cO P e=some s) (hl:lY lo 0=some l) (hh:lY hi n=some k) (h0:l=0) (h1:0<=k) (h2:k<=n):OJ P (.sl e) v lo hi C=C (zP v k.toNat):=by
 apply propext
 rcases h with ⟨rfl,rfl⟩ | ⟨id,rfl⟩
 ·have e0:k=0:=za
  have hh':lY hi 0=some k:=hh;rw [slU_n,hs,hl,hh',TI];exact ⟨λx=>x.2.2,λx=>⟨h0,e0,x⟩⟩
 ·rw [slU_v,hs,hl,hh,TH];exact ⟨λx=>x.2.2.2,λx=>⟨h0,h1,h2,x⟩⟩
theorem tV.ix (h:tV v sz n) {P:Program} {e:TypeId} {k:IntKind} {i:Int} {C:V->Prop} (hs:cO P e=some sz) (h0:0<=i) (h1:i<n):sI P (.sl e) v (.lit (.int k i)) C=C (.pp (qI v) (i.toNat*sz)):=by
 apply propext
 rcases h with ⟨rfl,rfl⟩ | ⟨id,rfl⟩
 ·exact dE h1 za
 ·rw [OM,hs,Uy];exact ⟨λx=>x.2.2.2,λx=>⟨rfl,h0,h1,x⟩⟩
end
def iF (h:Hp) (v:V) (sz:Nat) (rows:List (List V)):Prop:=
 (∀r ∈ rows,r.length=sz)/\((v=.nilv/\rows=[]) ∨ ∃id vs,v=.vec id sz rows.length/\h id=some vs/\vs.take (rows.length*sz)=rows.flatten)
def GO (h:Hp) (v:V) (q:Pa) (vs:List V):Hp:=λi=>if i=q then some vs else if i ∈ lF v then none else h i
section
variable {h h':Hp} {v:V} {sz:Nat} {rows:List (List V)}
theorem iF.sh (hv:iF h v sz rows):tV v sz rows.length:=by
 obtain ⟨_,⟨rfl,rfl⟩ | ⟨id,vs,rfl,_⟩⟩:=hv
 ·exact .inl ⟨rfl,rfl⟩
 ·exact .inr ⟨id,rfl⟩
theorem iF.live (hv:iF h v sz rows) {id:Pa} (hi:id ∈ lF v):h id ≠ none:=by
 obtain ⟨_,⟨rfl,rfl⟩ | ⟨id',vs,rfl,e,_⟩⟩:=hv
 ·cases hi
 ·have:id=id':=by simpa [lF] using hi
  rw [this,e];exact λx=>nomatch x
theorem iF.frame (hv:iF h v sz rows) (hf:∀id ∈ lF v,h' id=h id):iF h' v sz rows:=by
 obtain ⟨h1,⟨rfl,rfl⟩ | ⟨id,vs,rfl,e,h2⟩⟩:=hv
 ·exact ⟨h1,.inl ⟨rfl,rfl⟩⟩
 ·exact ⟨h1,.inr ⟨id,vs,rfl,(hf id (by simp [lF])).trans e,h2⟩⟩
theorem iF.nil (h:Hp) (sz:Nat):iF h .nilv sz []:=⟨λ_ hr=>(nomatch hr),.inl ⟨rfl,rfl⟩⟩
theorem Sb {sz:Nat}:∀ {rows:List (List V)} (k:Nat),(∀r ∈ rows,r.length=sz)->(rows.take k).flatten=rows.flatten.take (k*sz)
 | rows,k,h=>(Fs rows k h).1
theorem iF.cut (hv:iF h v sz rows) {k:Nat} (hk:k<=rows.length):iF h (zP v k) sz (rows.take k):=by
 obtain ⟨h1,⟨rfl,rfl⟩ | ⟨id,vs,rfl,e,h2⟩⟩:=hv
 ·exact ⟨λr hr=>h1 r (MK hr),.inl ⟨rfl,zc⟩⟩
 ·refine ⟨λr hr=>h1 r (MK hr),.inr ⟨id,vs,?_,e,?_⟩⟩
  ·show V.vec id sz k=_;rw [EC,xeg hk]
  ·rw [EC,xeg hk,Sb k h1,←h2,List.take_take,xeg (xdv _ hk)]
theorem Si {k:Nat}:lF (zP v k)=lF v:=by cases v <;> rfl
theorem iF.fU (hv:iF h v sz rows) {i:Nat} {r:List V} (hr:rows[i]? = some r):∃vs rest,h (qI v)=some vs/\rows.length*sz<=vs.length/\(∀k,k<=sz->vs.drop (i*sz+k)=r.drop k++rest)/\v=.vec (qI v) sz rows.length:=by
 obtain ⟨h1,⟨rfl,rfl⟩ | ⟨id,vs,rfl,e,h2⟩⟩:=hv
 ·cases hr
 ·have hlt:i<rows.length:=(sG.1 hr).1;have hfl:=GK h1 hr
  have hle:rows.length*sz<=vs.length:=by
   have:=vJ List.length h2;rw [EC,hfl.1] at this;omega
  have hle2:i*sz+sz<=rows.length*sz:=by
   have:(i+1)*sz<=rows.length*sz:=xdv _ hlt;rw [Kk] at this;exact this
  have hrl:r.length=sz:=h1 r (zX hr)
  have hd0:vs.drop (i*sz)=r++vs.drop (i*sz+sz):=by
   have e1:(vs.drop (i*sz)).take sz=r:=by
    rw [←hfl.2,←h2,List.drop_take,List.take_take,xeg za]
   have e2:=List.take_append_drop sz (vs.drop (i*sz));rw [e1,List.drop_drop] at e2;exact e2.symm
  refine ⟨vs,vs.drop (i*sz+sz),e,hle,λk hk=>?_,rfl⟩;rw [←List.drop_drop,hd0,List.drop_append_of_le_length za]
theorem apH_q {q:Pa} {vs:List V}:GO h v q vs q=some vs:=by unfold GO;rw [cG rfl]
theorem AI {q id:Pa} {vs:List V} (h1:id ≠ q) (h2:id ∉ lF v):GO h v q vs id=h id:=by unfold GO;rw [bU h1,bU h2]
theorem iF.app (hv:iF h v sz rows) {q:Pa} {rows2:List (List V)} (h2:∀r ∈ rows2,r.length=sz):iF (GO h v q (rows++rows2).flatten) (.vec q sz (rows++rows2).length) sz (rows++rows2):=by
 refine ⟨λr hr=>(BV.1 hr).elim (hv.1 r) (h2 r),.inr ⟨q,_,rfl,apH_q,?_⟩⟩;rw [←Cf (rows:=rows++rows2) (sz:=sz) (λr hr=>(BV.1 hr).elim (hv.1 r) (h2 r)),xek]
theorem M.ext_hp {m1 m2:M} (h1:m1.blk=m2.blk) (h2:m1.ver=m2.ver) (h3:m1.tok=m2.tok) (h4:m1.gl=m2.gl) (h5:m1.hp=m2.hp):m1=m2:=by
 cases m1;cases m2;simp_all
def M.seth (m:M) (h:Hp):M:={ m with hp:=h }
theorem DE {P:Program} {q:Pa} {m:M} {e:TypeId} {rows2:List (List V)} {CM:V->M->Prop} (hv:iF m.hp v sz rows) {zs:List V} {by_:Nat} (hs:cO P e=some sz) (hz:dK P e=some zs) (hb:(P.info? e).map (·.bytes)=some by_)
  (h0:0<sz) (hby:by_<=65536) (hzl:zs.length=sz) (h2:∀r ∈ rows2,r.length=sz) (hn:0<rows2.length) (hl:rows.length+rows2.length<=1073741824)
  (hC:CM (.vec q sz (rows.length+rows2.length)) (m.seth (GO m.hp v q (rows.flatten++rows2.flatten.map V.toHp)))):Ob P q m (.sl e) v (some rows2) CM:=by
 obtain ⟨h1,⟨rfl,rfl⟩ | ⟨id,vs,rfl,he,hv2⟩⟩:=hv
 ·rw [appU_n,hs,hz,hb,SD];refine ⟨h0,hby,hzl,h2,hn,by simpa using hl,?_⟩
  have e:m.hset q (rows2.flatten.map V.toHp)=m.seth (GO m.hp .nilv q (([]:List (List V)).flatten++rows2.flatten.map V.toHp)):=by
   refine M.ext_hp rfl rfl rfl rfl (funext λi=>?_);show (if i=q then some _ else m.hp i)=if i=q then some _ else if i ∈ [] then none else m.hp i;simp
  rw [e];simpa using hC
 ·rw [appU_v,hs,hz,hb,he,SB];have hfl:=Cf h1;refine ⟨rfl,hby,hzl,h2,?_,hl,?_⟩
  ·have:=vJ List.length hv2;rw [EC,hfl] at this;omega
  ·have e:m.hmove id q (vs.take (rows.length*sz)++rows2.flatten.map V.toHp)=m.seth (GO m.hp (.vec id sz rows.length) q (rows.flatten++rows2.flatten.map V.toHp)):=by
    refine M.ext_hp rfl rfl rfl rfl (funext λi=>?_);show (if i=q then some _ else if i=id then none else m.hp i)=if i=q then some _ else if i ∈ [id] then none else m.hp i;rw [hv2];simp
   rw [e];exact hC
end
def M.ck (m:M) (p:Pa) (cs:List V) (h:Hp) (vr:Nat->Nat):M:={ m with blk:=λi=>if i=p then some cs else m.blk i,ver:=λi=>if i=p then vr else m.ver i,hp:=h }
section
variable {m:M} {p q:Pa} {cs:List V} {h:Hp} {vr:Nat->Nat}
@[go_sem] theorem ck_blk {i:Pa}:(m.ck p cs h vr).blk i=if i=p then some cs else m.blk i:=rI rfl
@[go_sem] theorem ck_ver {i:Pa}:(m.ck p cs h vr).ver i=if i=p then vr else m.ver i:=rI rfl
@[go_sem] theorem ck_tok:(m.ck p cs h vr).tok=m.tok:=rI rfl
@[go_sem] theorem ck_gl:(m.ck p cs h vr).gl=m.gl:=rI rfl
@[go_sem] theorem ck_hp:(m.ck p cs h vr).hp=h:=rI rfl
@[go_sem] theorem seth_blk:(m.seth h).blk=m.blk:=rI rfl
@[go_sem] theorem seth_ver:(m.seth h).ver=m.ver:=rI rfl
@[go_sem] theorem seth_gl:(m.seth h).gl=m.gl:=rI rfl
@[go_sem] theorem seth_hp:(m.seth h).hp=h:=rI rfl
theorem back_ck {m2:M} (hq:¬ q <:+ p):m.back q (m2.ck p cs h vr)=(m.back q m2).ck p cs h vr:=by
 have hs:¬ q.isSuffixOf p=true:=λe=>hq (GS.1 e);refine M.ext_hp (funext λi=>?_) (funext λi=>?_) rfl rfl rfl
 ·show (if q.isSuffixOf i then m.blk i else if i=p then some cs else m2.blk i)=if i=p then some cs else if q.isSuffixOf i then m.blk i else m2.blk i
  by_cases e:i=p
  ·subst e;rw [bU hs,cG rfl,cG rfl]
  ·rw [bU e,bU e]
 ·show (if q.isSuffixOf i then m.ver i else if i=p then vr else m2.ver i)=if i=p then vr else if q.isSuffixOf i then m.ver i else m2.ver i
  by_cases e:i=p
  ·subst e;rw [bU hs,cG rfl,cG rfl]
  ·rw [bU e,bU e]
theorem jQ {m2:M}:m.back q (m2.seth h)=(m.back q m2).seth h:=rI rfl
theorem UU {cs':List V} {h':Hp} {vr':Nat->Nat}:(m.ck p cs h vr).ck p cs' h' vr'=m.ck p cs' h' vr':=by
 refine M.ext_hp (funext λi=>?_) (funext λi=>?_) rfl rfl rfl
 ·show (if i=p then _ else if i=p then _ else m.blk i)=if i=p then _ else m.blk i
  by_cases e:i=p
  ·rw [cG e,cG e]
  ·rw [bU e,bU e,bU e]
 ·show (if i=p then _ else if i=p then _ else m.ver i)=if i=p then _ else m.ver i
  by_cases e:i=p
  ·rw [cG e,cG e]
  ·rw [bU e,bU e,bU e]
theorem M.to_ck {m':M} (h1:∀i,i ≠ p->m'.blk i=m.blk i) (h2:∀i,i ≠ p->m'.ver i=m.ver i) (h3:m'.tok=m.tok) (h4:m'.gl=m.gl) (hb:m'.blk p=some cs):m'=m.ck p cs m'.hp (m'.ver p):=by
 refine M.ext_hp (funext λi=>?_) (funext λi=>?_) h3 h4 rfl
 ·show m'.blk i=if i=p then _ else m.blk i
  by_cases e:i=p
  ·subst e;rw [cG rfl,hb]
  ·rw [bU e,h1 i e]
 ·show m'.ver i=if i=p then _ else m.ver i
  by_cases e:i=p
  ·subst e;rw [cG rfl]
  ·rw [bU e,h2 i e]
theorem FQ:m.set p cs=m.ck p cs m.hp (m.ver p):=M.to_ck (λi e=>by show (if i=p then _ else _)=_;rw [bU e]) (λ_ _=>rfl) rfl rfl (by show (if p=p then _ else _)=_;rw [cG rfl])
end
section
variable {α:Type} {f:α->List V} {h:Hp} {v:V} {sz n:Nat} {l:List α}
theorem iF.shC (hv:iF h v sz (l.map f)):tV v sz l.length:=by have:=hv.sh;rwa [wM] at this
theorem iF.cutC (hv:iF h v sz (l.map f)) {k:Int} (hk:k<=(l.length:Int)):iF h (zP v k.toNat) sz ((l.take k.toNat).map f):=by
 have:=hv.cut (k:=k.toNat) (by rw [wM];omega)
 rwa [←List.map_take] at this
theorem tV.cutL (h:tV v sz l.length) {k:Int} (hk:k<=(l.length:Int)):tV (zP v k.toNat) sz (l.take k.toNat).length:=by
 have:=h.cut (k:=k.toNat) za
 rwa [show (l.take k.toNat).length=k.toNat by rw [EC];omega]
theorem tV.slHi (h:tV v sz n) {P:Program} {e:TypeId} {k:IntKind} {hi:Int} {C:V->Prop} {s:Nat} (hs:cO P e=some s) (h1:0<=hi) (h2:hi<=n):OJ P (.sl e) v none (some (.lit (.int k hi))) C=C (zP v hi.toNat):=
 h.sl hs (l:=0) (k:=hi) rfl rfl rfl h1 h2
theorem iF.readI (hv:iF h v 1 (l.map f)) {i:Nat} {x:α} (hx:l[i]? = some x) (u:V) (hu:f x=[u]):∃HV rest,h (qI v)=some HV/\HV.drop (i*1)=u::rest:=by
 obtain ⟨vs,rest,e1,_,e2,_⟩:=hv.fU (i:=i) (r:=f x) (by rw [AJ,hx];rfl);have:=e2 0 za;rw [hu] at this;exact ⟨vs,rest,e1,this⟩
theorem iF.read3 (hv:iF h v 3 (l.map f)) {i:Nat} {x:α} (hx:l[i]? = some x) (u0 u1 u2:V) (hu:f x=[u0,u1,u2]):∃HV rest,h (qI v)=some HV/\HV.drop (i*3)=u0::u1::u2::rest/\HV.drop (i*3+1)=u1::u2::rest/\HV.drop (i*3+2)=u2::rest:=by
 obtain ⟨vs,rest,e1,_,e2,_⟩:=hv.fU (i:=i) (r:=f x) (by rw [AJ,hx];rfl);rw [hu] at e2;exact ⟨vs,rest,e1,e2 0 za,e2 1 za,e2 2 za⟩
end
theorem wL {P:Program} {N:Nat} {π:Pa} {k:Nat} {E:fP} {m:M} {Q:Exit->Nat->fP->M->Prop} {x:Code} (h:(∀j,k<=j->m.hp (j::π)=none)->SW P N π x k E m Q):SW P N π x k E m Q:=by
 intro hf c a w h1 h2 h3;exact h (λj hj=>h1.fresh_hp (h3 j hj _ (KO _))) hf c a w h1 h2 h3
def Fr (q p:Pa) (m m':M):Prop:=(∀i,i ≠ p->¬ q <:+ i->m'.blk i=m.blk i/\m'.ver i=m.ver i/\m'.tok i=m.tok i)/\m'.tok p=m.tok p/\m'.gl=m.gl
section
variable {q p:Pa} {m m':M}
theorem Fr.refl (q p:Pa) (m:M):Fr q p m m:=⟨λ_ _ _=>⟨rfl,rfl,rfl⟩,rfl,rfl⟩
theorem Fr.to (h:Fr q p m m') (hq:¬ q <:+ p) {cs:List V} (hb:m'.blk p=some cs):m.back q m'=m.ck p cs m'.hp (m'.ver p):=by
 have hs:¬ q.isSuffixOf p=true:=λe=>hq (GS.1 e);refine M.ext_hp (funext λi=>?_) (funext λi=>?_) (funext λi=>?_) h.2.2 rfl
 ·show (if q.isSuffixOf i then m.blk i else m'.blk i)=if i=p then some cs else m.blk i
  by_cases e:i=p
  ·subst e;rw [bU hs,cG rfl,hb]
  ·rw [bU e]
   split
   ·rfl
   ·rename_i hq2;exact (h.1 i e λx=>hq2 (GS.2 x)).1
 ·show (if q.isSuffixOf i then m.ver i else m'.ver i)=if i=p then m'.ver p else m.ver i
  by_cases e:i=p
  ·subst e;rw [bU hs,cG rfl]
  ·rw [bU e]
   split
   ·rfl
   ·rename_i hq2;exact (h.1 i e λx=>hq2 (GS.2 x)).2.1
 ·show (if q.isSuffixOf i then m.tok i else m'.tok i)=m.tok i
  split
  ·rfl
  ·rename_i hq2
   by_cases e:i=p
   ·subst e;exact h.2.1
   ·exact (h.1 i e λx=>hq2 (GS.2 x)).2.2
theorem Fr.set (h:Fr q p m m') {id:Pa} {cs:List V} (hi:q <:+ id ∨ id=p):Fr q p m (m'.set id cs):=by
 refine ⟨λi h1 h2=>?_,h.2.1,h.2.2⟩;have hne:i ≠ id:=by rintro rfl;rcases hi with h3 | h3 <;> contradiction
 refine ⟨?_,(h.1 i h1 h2).2⟩;show (if i=id then _ else m'.blk i)=_;rw [bU hne];exact (h.1 i h1 h2).1
theorem Fr.bump (h:Fr q p m m') {id:Pa} {off:Nat} (hi:q <:+ id ∨ id=p):Fr q p m (m'.bump id off):=by
 refine ⟨λi h1 h2=>?_,h.2.1,h.2.2⟩;have hne:i ≠ id:=by rintro rfl;rcases hi with h3 | h3 <;> contradiction
 refine ⟨(h.1 i h1 h2).1,?_,(h.1 i h1 h2).2.2⟩;rw [←(h.1 i h1 h2).2.1]
 funext o
 show (if i=id/\o=off then _ else m'.ver i o)=_;rw [bU (λe=>hne e.1)]
theorem Fr.tokset (h:Fr q p m m') (hp:¬ q <:+ p) {id:Pa} {n:Nat} {b:Bool} (hi:q <:+ id):Fr q p m (m'.tokset id n b):=by
 have key:∀i,i ≠ id->(m'.tokset id n b).tok i=m'.tok i:=by
  intro i hne
  funext o
  show (if i=id/\o=n then _ else m'.tok i o)=_;rw [bU (λe=>hne e.1)]
 refine ⟨λi h1 h2=>⟨(h.1 i h1 h2).1,(h.1 i h1 h2).2.1,?_⟩,?_,h.2.2⟩
 ·rw [key i (by rintro rfl;exact h2 hi)];exact (h.1 i h1 h2).2.2
 ·rw [key p (by rintro rfl;exact hp hi)];exact h.2.1
theorem Fr.ck (h:Fr q p m m') {cs:List V} {g:Hp} {vr:Nat->Nat}:Fr q p m (m'.ck p cs g vr):=by
 refine ⟨λi h1 h2=>?_,h.2.1,h.2.2⟩;refine ⟨?_,?_,(h.1 i h1 h2).2.2⟩
 ·show (if i=p then _ else m'.blk i)=_;rw [bU h1];exact (h.1 i h1 h2).1
 ·show (if i=p then _ else m'.ver i)=_;rw [bU h1];exact (h.1 i h1 h2).2.1
end
theorem fZ.reCell {c:Conc} {m:M} {w:World} (h:fZ c m w) {id:Pa} {off:Nat} {cs:List V} {v0 u:V} (hb:m.blk id=some cs) (ho:cs[off]? = some v0) (hw:∀x,CR c [v0.ld (.cell id off (m.ver id off))] [x]->CR c [u] [x]) (hu:∀s,u.ld s=u) (hns:∀rows,u ≠ .list .self rows):fZ c (m.set id (cs.set off u)) w/\∀q,oB q c m w c (m.set id (cs.set off u)) w:=by
 have hblk:∀i,(m.set id (cs.set off u)).blk i=if i=id then some (cs.set off u) else m.blk i:=λ_=>rfl
 have hbn:∀i,(m.set id (cs.set off u)).blk i ≠ none->m.blk i ≠ none:=by
  intro i hi;rw [hblk] at hi
  by_cases e:i=id
  ·rw [e,hb];exact λx=>nomatch x
  ·rw [bU e] at hi;exact hi
 have hlive:∀s,fX (m.set id (cs.set off u)) s=true->fX m s=true:=by
  intro s hl;cases s with
  | anon i j=>exact hl
  | priv i=>exact hl
  | cell i o v=>
    obtain ⟨h1,vs,rows,h2,h3⟩:=qY hl;rw [hblk] at h2
    by_cases e:i=id
    ·subst e;rw [cG rfl] at h2
     injection h2 with h2
     subst h2;rw [KL] at h3
     split at h3
     ·split at h3
      ·injection h3 with h3;exact dE h3 (hns rows)
      ·cases h3
     ·exact qX h1 hb h3
    ·rw [bU e] at h2;exact qX h1 h2 h3
 have hown:∀b,fC c (m.set id (cs.set off u)) b->fC c m b:=by
  rintro b (⟨i,hi,hr⟩ | ⟨s,cap,sz,len,hl,hk⟩)
  ·exact .inl ⟨i,hbn i hi,hr⟩
  ·exact .inr ⟨s,cap,sz,len,hlive s hl,hk⟩
 refine ⟨⟨h.com,λi vs hv=>?_,λi i' b hi hi'=>h.inj i i' b (hbn i hi) (hbn i' hi'),λs b cap sz len hl hk=>?_,λs s' b cap sz len cap' sz' len' hl hl'=>h.ownInj s s' b cap sz len cap' sz' len' (hlive s hl) (hlive s' hl'),λi o v hi hv=>h.ver i o v (hbn i hi) hv,h.gl,h.ver0,h.base,λb hl=>⟨(h.lit b hl).1,(h.lit b hl).2.1,λho=>(h.lit b hl).2.2 (hown b ho)⟩,λb vs hv=>h.hpr b vs hv⟩,λq=>⟨.refl c,rfl,rfl,rfl,tW _,λ_ _ _ _=>rfl,λ_ _ _ _=>rfl,λb _ ho=>hown b ho,λ_ _ x=>x,λi hi hb'=>⟨?_,hb'.anon,hb'.cell,hb'.ver,hb'.tok⟩,λ_ _ x=>x⟩⟩
 ·rw [hblk] at hv
  by_cases e:i=id
  ·subst e;rw [cG rfl] at hv
   injection hv with hv
   subst hv;obtain ⟨b,ys,t,k1,k2,k3,k4,k5⟩:=h.blk i cs hb;refine ⟨b,ys,t,k1,k2,?_,k4,k5⟩
   have hlds:∀(j:Nat) (v:V),cs[j]? = some v->(EM (m.ver i) i cs)[j]? = some (v.ld (.cell i j (m.ver i j))):=by
    intro j v hj;unfold EM;rw [Tf,hj];rfl
   obtain ⟨x,hx1,hx2⟩:=k3.get (hlds off _ ho);have hx3:=hw x hx2;have:=k3.set off hx3
   have e1:ys.toList.set off x=ys.toList:=by
    apply OA;intro j;rw [KL]
    split
    ·rename_i e;subst e
     split
     ·exact hx1.symm
     ·rename_i hlt;rw [xdu za]
    ·rfl
   rw [e1] at this
   have e2:(EM (m.ver i) i cs).set off u=EM (m.ver i) i (cs.set off u):=by
    unfold EM;apply OA;intro j;rw [KL,Tf,Tf,KL]
    by_cases e:off=j
    ·subst e;rw [cG rfl,cG rfl,List.length_mapIdx]
     split
     ·simp [hu]
     ·rfl
    ·rw [bU e,bU e]
   rw [e2] at this;exact this
  ·rw [bU e] at hv;exact h.blk i vs hv
 ·obtain ⟨k1,k2,k3,k4⟩:=h.own s b cap sz len (hlive s hl) hk;exact ⟨k1,k2,λi hi=>k3 i (hbn i hi),k4⟩
 ·rw [hblk]
  by_cases e:i=id
  ·rw [e] at hb';rw [hb'.blk] at hb;cases hb
  ·rw [bU e];exact hb'.blk
theorem Lx {P:Program} {N:Nat} {π:Pa} {k:Nat} {E:fP} {m:M} {Q:Exit->Nat->fP->M->Prop} {x:Code} {id:Pa} {off:Nat} {cs:List V} {v0 u:V} (hb:m.blk id=some cs) (ho:cs[off]? = some v0) (hw:∀(c:Conc) x,CR c [v0.ld (.cell id off (m.ver id off))] [x]->CR c [u] [x]) (hu:∀s,u.ld s=u) (hns:∀rows,u ≠ .list .self rows) (h:SW P N π x k E (m.set id (cs.set off u)) Q):SW P N π x k E m Q:=by
 intro hf c a w h1 h2 h3;obtain ⟨g1,g2⟩:=h1.reCell hb ho (hw c) hu hns;refine wp_mono (h hf c a w g1 h2 h3) λe a' w' hp=>?_;exact hp.trans (g2 π) rfl (λ_ _=>rfl) (λt ht=>⟨ht,ht⟩)
theorem vN {P:Program} {N:Nat} {π:Pa} {k:Nat} {E:fP} {m:M} {Q:Exit->Nat->fP->M->Prop} {x:Code} {id:Pa} {off:Nat} {cs:List V} (hb:m.blk id=some cs) (ho:cs[off]? = some (.list .self [])) (h:SW P N π x k E (m.set id (cs.set off .nilv)) Q):SW P N π x k E m Q:=
 Lx hb ho (λc x hx=>Uf (.inr ⟨_,rfl⟩) hx) (λ_=>rfl) (λ_ e=>by cases e) h
theorem Gj {P:Program} {N:Nat} {π:Pa} {k:Nat} {E:fP} {m:M} {Q:Exit->Nat->fP->M->Prop} {x:Code} {id:Pa} {off:Nat} {cs:List V} (hb:m.blk id=some cs) (ho:cs[off]? = some .nilv) (h:SW P N π x k E (m.set id (cs.set off (.list .none []))) Q):SW P N π x k E m Q:=
 Lx hb ho (λc x hx=>by
  obtain ⟨a,rfl⟩:=CR.inv_nilv (show CR c [.nilv] [x] from hx);exact .list (rows:=[]) (es:=[]) (sz:=1) .nil zc zb (tW _) zb zc (λh=>by simp at h) zc trivial .nil) (λ_=>rfl) (λ_ e=>by cases e) h
@[go_sem] theorem take_map {α:Type} {f:α->List V} {l:List α} {n:Nat}:(l.map f).take n=(l.take n).map f:=List.map_take.symm
@[go_sem] theorem drop_map {α:Type} {f:α->List V} {l:List α} {n:Nat}:(l.map f).drop n=(l.drop n).map f:=List.map_drop.symm
attribute [go_sem] Bt
section
variable {q p id:Pa} {m m':M}
@[go_sem] theorem fr_set_p {cs:List V}:Fr q p m (m'.set p cs)=Fr q p m m':=propext ⟨λh=>⟨λi h1 h2=>⟨by rw [←(h.1 i h1 h2).1];show _=if i=p then _ else _;rw [bU h1],(h.1 i h1 h2).2⟩,h.2⟩,λh=>h.set (.inr rfl)⟩
@[go_sem] theorem fr_set_q {cs:List V} (hq:(q <:+ id)=True):Fr q p m (m'.set id cs)=Fr q p m m':=propext ⟨λh=>⟨λi h1 h2=>⟨by rw [←(h.1 i h1 h2).1];show _=if i=id then _ else _;rw [bU (by rintro rfl;exact h2 (of_eq_true hq))],(h.1 i h1 h2).2⟩,h.2⟩,λh=>h.set (.inl (of_eq_true hq))⟩
@[go_sem] theorem fr_seth {g:Hp}:Fr q p m (m'.seth g)=Fr q p m m':=rI rfl
@[go_sem] theorem fr_ck {cs:List V} {g:Hp} {vr:Nat->Nat}:Fr q p m (m'.ck p cs g vr)=Fr q p m m':=propext ⟨λh=>⟨λi h1 h2=>⟨by rw [←(h.1 i h1 h2).1];show _=if i=p then _ else _;rw [bU h1],by rw [←(h.1 i h1 h2).2.1];show _=if i=p then _ else _;rw [bU h1],(h.1 i h1 h2).2.2⟩,h.2⟩,λh=>h.ck⟩
theorem gY (hp:¬ q <:+ p) {n:Nat} {b:Bool} (hq:(q <:+ id)=True):Fr q p m (m'.tokset id n b)=Fr q p m m':=by
 have key:∀i,i ≠ id->(m'.tokset id n b).tok i=m'.tok i:=by
  intro i hne
  funext o
  show (if i=id/\o=n then _ else m'.tok i o)=_;rw [bU (λe=>hne e.1)]
 exact propext ⟨λh=>⟨λi h1 h2=>⟨(h.1 i h1 h2).1,(h.1 i h1 h2).2.1,by rw [←(h.1 i h1 h2).2.2];exact (key i (by rintro rfl;exact h2 (of_eq_true hq))).symm⟩,by rw [←h.2.1];exact (key p (by rintro rfl;exact hp (of_eq_true hq))).symm,h.2.2⟩,λh=>h.tokset hp (of_eq_true hq)⟩
theorem QF {off:Nat} {i:Pa} (hne:i ≠ id):(m'.bump id off).ver i=m'.ver i:=by
 funext o
 show (if i=id/\o=off then _ else m'.ver i o)=_;rw [bU (λe=>hne e.1)]
@[go_sem] theorem fr_bump_p {off:Nat}:Fr q p m (m'.bump p off)=Fr q p m m':=propext ⟨λh=>⟨λi h1 h2=>⟨(h.1 i h1 h2).1,by rw [←(h.1 i h1 h2).2.1];exact (QF h1).symm,(h.1 i h1 h2).2.2⟩,h.2⟩,λh=>h.bump (.inr rfl)⟩
@[go_sem] theorem fr_bump_q {off:Nat} (hq:(q <:+ id)=True):Fr q p m (m'.bump id off)=Fr q p m m':=propext ⟨λh=>⟨λi h1 h2=>⟨(h.1 i h1 h2).1,by rw [←(h.1 i h1 h2).2.1];exact (QF (by rintro rfl;exact h2 (of_eq_true hq))).symm,(h.1 i h1 h2).2.2⟩,h.2⟩,λh=>h.bump (.inl (of_eq_true hq))⟩
@[go_sem] theorem fr_self:Fr q p m m=True:=eq_true (.refl q p m)
end
set_option linter.all false
def tH (h:Hp) (id:Pa) (vs:List V):Hp:=λi=>if i=id then some vs else h i
theorem putH_at {h:Hp} {id i:Pa} {vs:List V}:tH h id vs i=if i=id then some vs else h i:=rI rfl
theorem gR {m:M} {id:Pa} {vs:List V}:m.hset id vs=m.seth (tH m.hp id vs):=rI rfl
@[go_sem] theorem seth_seth {m:M} {h h':Hp}:(m.seth h).seth h'=m.seth h':=rI rfl
def tN (f:aP) (vv bv:V):List V:=[.lit (.string (bs f.gS)),.lit (.bool f.eC),.lit (.int .i64 f.bV),.lit (.int .i64 f.aQ),vv,bv]
@[go_sem] theorem fnRow_eq {f:aP} {vv bv:V}:tN f vv bv=[.lit (.string (bs f.gS)),.lit (.bool f.eC),.lit (.int .i64 f.bV),.lit (.int .i64 f.aQ),vv,bv]:=rI rfl
def HE (b:V) (l:List aA):Prop:=(b=.nilv/\l=[]) ∨ b=.list .none (l.map aA.C)
def pE (F S C:V) (fs:List (V × V)) (cs:List V):Nat->Nat->V
 | 0,0=>F
 | 1,0=>S
 | 2,0=>C
 | 3,i=>match fs[i]? with | some v=>v.1 | none=>.nilv
 | 4,i=>match cs[i]? with | some v=>v | none=>.nilv
 | _,_=>.nilv
def NdV (s:Nat->Nat->V):Prop:=∀a b a' b' id,id ∈ lF (s a b)->id ∈ lF (s a' b')->a=a'/\b=b'
theorem NdV.upd {s s':Nat->Nat->V} (h:NdV s) {a b:Nat} (hs:∀i j,¬(i=a/\j=b)->s' i j=s i j) (hv:∀id ∈ lF (s' a b),id ∈ lF (s a b) ∨ ∀i j,id ∉ lF (s i j)):NdV s':=by
 intro i j i' j' id h1 h2
 by_cases e1:i=a/\j=b <;> by_cases e2:i'=a/\j'=b
 ·exact ⟨e1.1.trans e2.1.symm,e1.2.trans e2.2.symm⟩
 ·rw [hs i' j' e2] at h2;rw [e1.1,e1.2] at h1
  rcases hv id h1 with h3 | h3
  ·obtain ⟨k1,k2⟩:=h a b i' j' id h3 h2;exact dE ⟨k1.symm,k2.symm⟩ e2
  ·exact dE h2 (h3 i' j')
 ·rw [hs i j e1] at h1;rw [e2.1,e2.2] at h2
  rcases hv id h2 with h3 | h3
  ·obtain ⟨k1,k2⟩:=h a b i j id h3 h1;exact dE ⟨k1.symm,k2.symm⟩ e1
  ·exact dE h1 (h3 i j)
 ·rw [hs i j e1] at h1;rw [hs i' j' e2] at h2;exact h i j i' j' id h1 h2
structure BU (F fp S C:V) (fs:List (V × V)) (cs:List V) (h:Hp) (x:aG):Prop where
 fl:fs.length=x.p_.aU.length
 rF:iF h F 6 (List.zipWith (λf v=>tN f v.1 v.2) x.p_.aU fs)
 rV:∀(i:Nat) f v,x.p_.aU[i]? = some f->fs[i]? = some v->iF h v.1 3 (f.aO.map aJ.C)/\HE v.2 f.bR
 rS:iF h S 1 (x.bI.map (cI .i64))
 cl:cs.length=x.cJ.length
 rC:iF h C 1 (cs.map λv=>[v])
 rCi:∀(i:Nat) l v,x.cJ[i]? = some l->cs[i]? = some v->iF h v 1 (l.map (cI .i64))
 rfp:∀i:Nat,x.f_=i->fp=.pp (qI F) (i*6)
 nd:NdV (pE F S C fs cs)
def fA (F fp S C:V) (h:Hp) (x:aG):Prop:=∃fs cs,BU F fp S C fs cs h x
section
variable {F fp S C:V} {fs:List (V × V)} {cs:List V} {h:Hp} {x x':aG} {q:Pa}
theorem BU.same (hk:BU F fp S C fs cs h x) (h1:x'.p_=x.p_) (h2:x'.f_=x.f_) (h3:x'.bI=x.bI) (h4:x'.cJ=x.cJ):BU F fp S C fs cs h x':=by
 refine ⟨by rw [h1];exact hk.fl,by rw [h1];exact hk.rF,by rw [h1];exact hk.rV,by rw [h3];exact hk.rS,by rw [h4];exact hk.cl,hk.rC,by rw [h4];exact hk.rCi,by rw [h2];exact hk.rfp,hk.nd⟩
theorem fA.same (hk:fA F fp S C h x) (h1:x'.p_=x.p_) (h2:x'.f_=x.f_) (h3:x'.bI=x.bI) (h4:x'.cJ=x.cJ):fA F fp S C h x':=by
 obtain ⟨fs,cs,hk⟩:=hk;exact ⟨fs,cs,hk.same h1 h2 h3 h4⟩
theorem BU.live (hk:BU F fp S C fs cs h x) {a b:Nat} {id:Pa} (hi:id ∈ lF (pE F S C fs cs a b)):h id ≠ none:=by
 unfold pE at hi
 split at hi
 ·exact hk.rF.live hi
 ·exact hk.rS.live hi
 ·exact hk.rC.live hi
 ·split at hi
  ·rename_i v hv
   obtain ⟨f,hf⟩:∃f,x.p_.aU[b]? = some f:=by
    have:=(sG.1 hv).1;rw [hk.fl] at this;exact ⟨_,tS this⟩
   exact (hk.rV b f v hf hv).1.live hi
  ·cases hi
 ·split at hi
  ·rename_i v hv
   obtain ⟨l,hl⟩:∃l,x.cJ[b]? = some l:=by
    have:=(sG.1 hv).1;rw [hk.cl] at this;exact ⟨_,tS this⟩
   exact (hk.rCi b l v hl hv).live hi
  ·cases hi
 ·cases hi
theorem BU.fresh (hk:BU F fp S C fs cs h x) (hq:h q=none) (a b:Nat):q ∉ lF (pE F S C fs cs a b):=λhi=>hk.live hi hq
theorem BU.frames (hk:BU F fp S C fs cs h x) (hq:h q=none) (a b:Nat) {h':Hp} (hh:∀id,id ≠ q->id ∉ lF (pE F S C fs cs a b)->h' id=h id) {i j:Nat} (hne:¬(i=a/\j=b)):∀id ∈ lF (pE F S C fs cs i j),h' id=h id:=by
 intro id eZ;refine hh id (λe=>hk.fresh hq i j (e ▸ eZ)) λh2=>?_;obtain ⟨k1,k2⟩:=hk.nd i j a b id eZ h2;exact hne ⟨k1,k2⟩
theorem BU.frV (hk:BU F fp S C fs cs h x) {h':Hp} (hh:∀i,∀id ∈ lF (pE F S C fs cs 3 i),h' id=h id):∀(i:Nat) f v,x.p_.aU[i]? = some f->fs[i]? = some v->iF h' v.1 3 (f.aO.map aJ.C)/\HE v.2 f.bR:=by
 intro i f v hf hv;have:=hk.rV i f v hf hv;exact ⟨this.1.frame λid eZ=>hh i id (by show id ∈ lF (match fs[i]? with | some v=>v.1 | none=>.nilv);rw [hv];exact eZ),this.2⟩
theorem BU.frC (hk:BU F fp S C fs cs h x) {h':Hp} (hh:∀i,∀id ∈ lF (pE F S C fs cs 4 i),h' id=h id):∀(i:Nat) l v,x.cJ[i]? = some l->cs[i]? = some v->iF h' v 1 (l.map (cI .i64)):=by
 intro i l v hl hv;exact (hk.rCi i l v hl hv).frame λid eZ=>hh i id (by show id ∈ lF (match cs[i]? with | some v=>v | none=>.nilv);rw [hv];exact eZ)
theorem fA.scopeR (hk:fA F fp S C h x):iF h S 1 (x.bI.map (cI .i64)):=by obtain ⟨fs,cs,hk⟩:=hk;exact hk.rS
theorem fA.appS (hk:fA F fp S C h x) (hq:h q=none) (n:Int) (h1:x'.p_=x.p_) (h2:x'.f_=x.f_) (h3:x'.bI=x.bI++[n]) (h4:x'.cJ=x.cJ) :
  fA F fp (.vec q 1 (x.bI.length+1)) C (GO h S q ((x.bI.map (cI .i64)).flatten++[.lit (.int .i64 n)])) x':=by
 obtain ⟨fs,cs,hk⟩:=hk;have hfr:∀ {i j:Nat},¬(i=1/\j=0)->∀id ∈ lF (pE F S C fs cs i j),GO h S q ((x.bI.map (cI .i64)).flatten++[.lit (.int .i64 n)]) id=h id:=λhne=>hk.frames hq 1 0 (λid e1 e2=>AI e1 e2) hne;refine ⟨fs,cs,by rw [h1];exact hk.fl,by rw [h1];exact hk.rF.frame (hfr (i:=0) (j:=0) za),by rw [h1];exact hk.frV λi=>hfr za,?_,by rw [h4];exact hk.cl,hk.rC.frame (hfr (i:=2) (j:=0) za),by rw [h4];exact hk.frC λi=>hfr za,by rw [h2];exact hk.rfp,?_⟩
 ·have:=hk.rS.app (q:=q) (rows2:=[cI .i64 n]) (λr hr=>by rw [zA.1 hr];rfl);have e:(x.bI.map (cI .i64)++[cI .i64 n]).flatten=(x.bI.map (cI .i64)).flatten++[.lit (.int .i64 n)]:=by simp [cI]
  rw [e] at this;rw [h3,xds,oC,qA];simpa using this
 ·refine hk.nd.upd (a:=1) (b:=0) (λi j hne=>?_) λid eZ=>.inr λi j=>?_
  ·unfold pE;split <;> first | rfl | (exact dE ⟨rfl,rfl⟩ hne)
  ·have:id=q:=by simpa [pE,lF] using eZ
   rw [this];exact hk.fresh hq i j
theorem fA.cutS (hk:fA F fp S C h x) {k:Nat} (hle:k<=x.bI.length) (h1:x'.p_=x.p_) (h2:x'.f_=x.f_) (h3:x'.bI=x.bI.take k) (h4:x'.cJ=x.cJ):fA F fp (zP S k) C h x':=by
 obtain ⟨fs,cs,hk⟩:=hk;refine ⟨fs,cs,by rw [h1];exact hk.fl,by rw [h1];exact hk.rF,by rw [h1];exact hk.rV,?_,by rw [h4];exact hk.cl,hk.rC,by rw [h4];exact hk.rCi,by rw [h2];exact hk.rfp,?_⟩
 ·have:=hk.rS.cut (k:=k) (by simpa using hle);rw [h3,List.map_take];exact this
 ·refine hk.nd.upd (a:=1) (b:=0) (λi j hne=>?_) λid eZ=>.inl ?_
  ·unfold pE;split <;> first | rfl | (exact dE ⟨rfl,rfl⟩ hne)
  ·have:id ∈ lF (zP S k):=eZ;rw [Si] at this;exact this
theorem fA.nilS (hk:fA F fp S C h x) (h1:x'.p_=x.p_) (h2:x'.f_=x.f_) (h3:x'.bI=[]) (h4:x'.cJ=x.cJ):fA F fp .nilv C h x':=by
 obtain ⟨fs,cs,hk⟩:=hk;refine ⟨fs,cs,by rw [h1];exact hk.fl,by rw [h1];exact hk.rF,by rw [h1];exact hk.rV,by rw [h3];exact .nil h 1,by rw [h4];exact hk.cl,hk.rC,by rw [h4];exact hk.rCi,by rw [h2];exact hk.rfp,?_⟩;refine hk.nd.upd (a:=1) (b:=0) (λi j hne=>?_) λid eZ=>by cases eZ
 unfold pE;split <;> first | rfl | (exact dE ⟨rfl,rfl⟩ hne)
theorem fA.setFn (hk:fA F fp S C h x) {i:Int} (h0:0<=i) (h1:x'.p_=x.p_) (h2:x'.f_=i) (h3:x'.bI=x.bI) (h4:x'.cJ=x.cJ):fA F (.pp (qI F) (i.toNat*6)) S C h x':=by
 obtain ⟨fs,cs,hk⟩:=hk;refine ⟨fs,cs,by rw [h1];exact hk.fl,by rw [h1];exact hk.rF,by rw [h1];exact hk.rV,by rw [h3];exact hk.rS,by rw [h4];exact hk.cl,hk.rC,by rw [h4];exact hk.rCi,?_,hk.nd⟩;intro j hj;have:i.toNat=j:=za
 rw [this]
theorem LB {i:Nat} {f:aP} {v:V × V} {l:List aP} (hf:l[i]? = some f) (hv:fs[i]? = some v):(List.zipWith (λf v=>tN f v.1 v.2) l fs)[i]? = some (tN f v.1 v.2):=by
 rw [List.getElem?_zipWith,hf,hv]
theorem fA.fpEq (hk:fA F fp S C h x) (h0:0<=x.f_):fp=.pp (qI F) (x.f_.toNat*6):=by
 obtain ⟨fs,cs,hk⟩:=hk;exact hk.rfp _ za
theorem fA.funcsR (hk:fA F fp S C h x):tV F 6 x.p_.aU.length:=by
 obtain ⟨fs,cs,hk⟩:=hk;have:=hk.rF.sh
 rwa [List.length_zipWith,hk.fl,Nat.min_self] at this
structure IO (F fp S C:V) (h:Hp) (x:aG) (i:Nat) (f:aP) (vv bv:V) (HF:List V):Prop where
 hF:h (qI F)=some HF
 len:i*6+6<=HF.length
 row:∃rest,∀k,k<=6->HF.drop (i*6+k)=(tN f vv bv).drop k++rest
 vars:iF h vv 3 (f.aO.map aJ.C)
 body:HE bv f.bR
 up:∃fs cs,BU F fp S C fs cs h x/\x.p_.aU[i]? = some f/\fs[i]? = some (vv,bv)
theorem fA.foc (hk:fA F fp S C h x) {i:Nat} {f:aP} (hf:x.p_.aU[i]? = some f):∃vv bv HF,IO F fp S C h x i f vv bv HF:=by
 obtain ⟨fs,cs,hk⟩:=hk
 obtain ⟨v,hv⟩:∃v,fs[i]? = some v:=by
  have:=(sG.1 hf).1;rw [←hk.fl] at this;exact ⟨_,tS this⟩
 obtain ⟨HF,rest,e1,e2,e3,e4⟩:=hk.rF.fU (LB hf hv);refine ⟨v.1,v.2,HF,e1,?_,⟨rest,e3⟩,(hk.rV i f v hf hv).1,(hk.rV i f v hf hv).2,⟨fs,cs,hk,hf,hv⟩⟩;have h1:i<x.p_.aU.length:=(sG.1 hf).1;rw [List.length_zipWith,hk.fl,Nat.min_self] at e2;have:(i+1)*6<=x.p_.aU.length*6:=xdv _ h1;omega
theorem HE.shr {b:V} {l:List aA} (h:HE b l):b.shared=b:=by rcases h with ⟨rfl,_⟩ | rfl <;> rfl
section
variable {i:Nat} {f:aP} {vv bv:V} {HF:List V}
theorem IO.rows (fc:IO F fp S C h x i f vv bv HF):∃rs,HF.drop (i*6)=[.lit (.string (bs f.gS)),.lit (.bool f.eC),.lit (.int .i64 f.bV),.lit (.int .i64 f.aQ),vv,bv]++rs/\HF.drop (i*6+1)=.lit (.bool f.eC)::.lit (.int .i64 f.bV)::.lit (.int .i64 f.aQ)::vv::bv::rs ∧
  HF.drop (i*6+2)=.lit (.int .i64 f.bV)::.lit (.int .i64 f.aQ)::vv::bv::rs/\HF.drop (i*6+3)=.lit (.int .i64 f.aQ)::vv::bv::rs/\HF.drop (i*6+4)=vv::bv::rs/\HF.drop (i*6+5)=bv::rs/\bv.shared=bv:=by
 obtain ⟨rs,e⟩:=fc.row;exact ⟨rs,e 0 za,e 1 za,e 2 za,e 3 za,e 4 za,e 5 za,fc.body.shr⟩
theorem IO.len3 (fc:IO F fp S C h x i f vv bv HF):i*6+3+1<=HF.length:=by have:=fc.len;omega
theorem IO.len4 (fc:IO F fp S C h x i f vv bv HF):i*6+4+1<=HF.length:=by have:=fc.len;omega
theorem IO.len5 (fc:IO F fp S C h x i f vv bv HF):i*6+5+1<=HF.length:=by have:=fc.len;omega
theorem IO.nd (fc:IO F fp S C h x i f vv bv HF):qI F ∉ lF vv/\lF F=[qI F]:=by
 obtain ⟨fs,cs,hk,hf,hv⟩:=fc.up
 have hF:lF F=[qI F]:=by
  obtain ⟨vs,rest,e1,e2,e3,e4⟩:=hk.rF.fU (LB hf hv);rw [e4];rfl
 refine ⟨λhi=>?_,hF⟩;have:=hk.nd 0 0 3 i (qI F) (by show qI F ∈ lF F;rw [hF];simp) (by show qI F ∈ lF (match fs[i]? with | some v=>v.1 | none=>.nilv);rw [hv];exact hi);omega
theorem IO.apF (fc:IO F fp S C h x i f vv bv HF) (hq:h q=none) {l:List V}:GO h vv q l (qI F)=some HF:=by
 rw [AI (λe=>by rw [←e,fc.hF] at hq;cases hq) fc.nd.1];exact fc.hF
theorem UL {sz k:Nat} {u:V}:∀ {rows:List (List V)} {i:Nat} {r:List V},(∀r ∈ rows,r.length=sz)->rows[i]? = some r->k<sz->(rows.set i (r.set k u)).flatten=rows.flatten.set (i*sz+k) u:=by
 intro rows
 induction rows with
 | nil=>intro i r _ h;cases h
 | cons r0 rows ih=>
   intro i r hs hr hk;have h0:=hs r0 zc;cases i with
   | zero=>
     have:r0=r:=by simpa using hr
     subst this;rw [GD,HJ,HJ,Nat.zero_mul,ES,List.set_append_left _ _ za]
   | succ i=>
     rw [Ii,HJ,HJ,ih (λr hr=>hs r (by simp [hr])) (by simpa using hr) hk,List.set_append_right _ _ (by rw [h0,Kk];omega),h0]
     congr 2
     rw [Kk];omega
theorem iF.setRow {h h':Hp} {v:V} {sz k:Nat} {rows:List (List V)} {u:V} {r vs:List V} {i:Nat} (hv:iF h v sz rows) (hr:rows[i]? = some r) (hk:k<sz) (e:h (qI v)=some vs) (e':h' (qI v)=some (vs.set (i*sz+k) u)):iF h' v sz (rows.set i (r.set k u)):=by
 obtain ⟨h1,⟨rfl,rfl⟩ | ⟨id,vs',rfl,e2,h2⟩⟩:=hv
 ·cases hr
 ·have:vs'=vs:=by rw [show qI (V.vec id sz rows.length)=id from rfl,e2] at e;injection e
  subst this;refine ⟨λx hx=>?_,.inr ⟨id,_,by rw [yS],e',?_⟩⟩
  ·rcases KM hx with hx | rfl
   ·exact h1 x hx
   ·rw [yS];exact h1 r (zX hr)
  ·rw [yS,List.take_set,h2,UL h1 hr hk]
theorem zip_set {α β γ:Type} {g:α->β->γ} {l:List α} {l':List β} {i:Nat} {a:α} {b:β}:List.zipWith g (l.set i a) (l'.set i b)=(List.zipWith g l l').set i (g a b):=by
 apply OA;intro j;rw [List.getElem?_zipWith,KL,KL,KL,List.getElem?_zipWith,List.length_zipWith]
 by_cases e:i=j
 ·subst e;rw [cG rfl,cG rfl,cG rfl]
  by_cases h1:i<l.length <;> by_cases h2:i<l'.length
  ·rw [cG h1,cG h2,cG (Nat.lt_min.2 ⟨h1,h2⟩)]
  ·rw [cG h1,bU h2,bU (λh=>h2 (Nat.lt_min.1 h).2)]
  ·rw [bU h1,bU (λh=>h1 (Nat.lt_min.1 h).1)]
  ·rw [bU h1,bU (λh=>h1 (Nat.lt_min.1 h).1)]
 ·rw [bU e,bU e,bU e]
theorem IO.upd (fc:IO F fp S C h x i f vv bv HF) {k:Nat} {u:V} {f':aP} {vv' bv':V} {h1:Hp} (hk6:k<6) (hrow:tN f' vv' bv'=(tN f vv bv).set k u) (hh:∀id,h id ≠ none->id ∉ lF vv->h1 id=h id) (hV:iF h1 vv' 3 (f'.aO.map aJ.C)) (hB:HE bv' f'.bR)
  (eZ:∀id ∈ lF vv',id ∈ lF vv ∨ h id=none) (e1:x'.p_=⟨x.p_.aU.set i f'⟩) (e2:x'.f_=x.f_) (e3:x'.bI=x.bI) (e4:x'.cJ=x.cJ):fA F fp S C (tH h1 (qI F) (HF.set (i*6+k) u)) x':=by
 obtain ⟨hnF,hF1⟩:=fc.nd;obtain ⟨fs,cs,hk,hf,hv⟩:=fc.up;have hslot:pE F S C fs cs 3 i=vv:=by show (match fs[i]? with | some v=>v.1 | none=>.nilv)=vv;rw [hv]
 have hput:∀id,id ≠ qI F->tH h1 (qI F) (HF.set (i*6+k) u) id=h1 id:=λid hne=>by show (if id=qI F then _ else _)=_;rw [bU hne]
 have hF0:qI F ∈ lF (pE F S C fs cs 0 0):=by show qI F ∈ lF F;rw [hF1];simp
 have hfr:∀ {a b},¬(a=0/\b=0)->¬(a=3/\b=i)->∀id ∈ lF (pE F S C fs cs a b),tH h1 (qI F) (HF.set (i*6+k) u) id=h id:=by
  intro a b n1 n2 id hi
  have hneF:id ≠ qI F:=λe=>by
   subst e;obtain ⟨k1,k2⟩:=hk.nd a b 0 0 _ hi hF0;exact n1 ⟨k1,k2⟩
  rw [hput id hneF];refine hh id (hk.live hi) λh2=>?_;obtain ⟨k1,k2⟩:=hk.nd a b 3 i id hi (by rw [hslot];exact h2);exact n2 ⟨k1,k2⟩
 have hil:i<x.p_.aU.length:=(sG.1 hf).1;have hif:i<fs.length:=(sG.1 hv).1;refine ⟨fs.set i (vv',bv'),cs,by rw [e1];simp [hk.fl],?_,?_,?_,by rw [e4];exact hk.cl,hk.rC.frame (hfr (a:=2) (b:=0) za za),?_,by rw [e2];exact hk.rfp,?_⟩
 ·rw [e1,zip_set (g:=λ(f:aP) (v:V × V)=>tN f v.1 v.2)];show iF _ F 6 ((List.zipWith (λf v=>tN f v.1 v.2) x.p_.aU fs).set i (tN f' vv' bv'));rw [hrow];exact hk.rF.setRow (LB hf hv) hk6 fc.hF (by show (if qI F=qI F then _ else _)=_;rw [cG rfl])
 ·rw [e1];intro j g v hg hv2;rw [KL] at hg hv2
  by_cases e:i=j
  ·subst e;rw [cG rfl,cG hil] at hg;rw [cG rfl,cG hif] at hv2
   injection hg with hg;injection hv2 with hv2
   subst hg hv2;refine ⟨hV.frame λid hi=>hput id λe=>?_,hB⟩
   rcases eZ id hi with h2 | h2
   ·exact hnF (e ▸ h2)
   ·rw [e,fc.hF] at h2;cases h2
  ·rw [bU e] at hg hv2;have:=hk.rV j g v hg hv2;exact ⟨this.1.frame λid hi=>hfr (a:=3) (b:=j) za za id (by show id ∈ lF (match fs[j]? with | some v=>v.1 | none=>.nilv);rw [hv2];exact hi),this.2⟩
 ·rw [e3];exact hk.rS.frame (hfr (a:=1) (b:=0) za za)
 ·rw [e4];exact hk.frC λj=>hfr za za
 ·refine hk.nd.upd (a:=3) (b:=i) (λa b hne=>?_) λid hi=>?_
  ·unfold pE
   split <;> first | rfl | skip
   rename_i j;rw [KL,bU (λe=>hne ⟨rfl,e.symm⟩)]
  ·have:pE F S C (fs.set i (vv',bv')) cs 3 i=vv':=by
    show (match (fs.set i (vv',bv'))[i]? with | some v=>v.1 | none=>.nilv)=vv';rw [KL,cG rfl,cG hif]
   rw [this] at hi
   rcases eZ id hi with h2 | h2
   ·left;rw [hslot];exact h2
   ·right;intro a b hi2;exact hk.live hi2 h2
theorem IO.setParams (fc:IO F fp S C h x i f vv bv HF) {n:Int} (e1:x'.p_=⟨x.p_.aU.set i { f with aQ:=n }⟩) (e2:x'.f_=x.f_) (e3:x'.bI=x.bI) (e4:x'.cJ=x.cJ):fA F fp S C (tH h (qI F) (HF.set (i*6+3) (.lit (.int .i64 n)))) x':=
 fc.upd (k:=3) (f':={ f with aQ:=n }) (vv':=vv) (bv':=bv) za rfl (λ_ _ _=>rfl) fc.vars fc.body (λ_ h=>.inl h) e1 e2 e3 e4
theorem IO.setBody (fc:IO F fp S C h x i f vv bv HF) {l:List aA} (e1:x'.p_=⟨x.p_.aU.set i { f with bR:=l }⟩) (e2:x'.f_=x.f_) (e3:x'.bI=x.bI) (e4:x'.cJ=x.cJ):fA F fp S C (tH h (qI F) (HF.set (i*6+5) (.list .none (l.map aA.C)))) x':=
 fc.upd (k:=5) (f':={ f with bR:=l }) (vv':=vv) (bv':=.list .none (l.map aA.C)) za rfl (λ_ _ _=>rfl) fc.vars (.inr rfl) (λ_ h=>.inl h) e1 e2 e3 e4
theorem IO.appVars (fc:IO F fp S C h x i f vv bv HF) (hq:h q=none) (v:aJ) (e1:x'.p_=⟨x.p_.aU.set i { f with aO:=f.aO++[v] }⟩) (e2:x'.f_=x.f_) (e3:x'.bI=x.bI) (e4:x'.cJ=x.cJ) :
  fA F fp S C (tH (GO h vv q ((f.aO.map aJ.C).flatten++aJ.C v)) (qI F) (HF.set (i*6+4) (.vec q 3 (f.aO.length+1)))) x':=by
 refine fc.upd (k:=4) (f':={ f with aO:=f.aO++[v] }) (vv':=.vec q 3 (f.aO.length+1)) (bv':=bv) za rfl (λid h1 h2=>AI (λe=>h1 (e ▸ hq)) h2) ?_ fc.body (λid hi=>.inr (by rw [show id=q by simpa [lF] using hi];exact hq)) e1 e2 e3 e4;have:=fc.vars.app (q:=q) (rows2:=[aJ.C v]) (λr hr=>by rw [zA.1 hr];rfl);have e:(f.aO.map aJ.C++[aJ.C v]).flatten=(f.aO.map aJ.C).flatten++aJ.C v:=zc
 rw [e] at this;simpa using this
end
theorem fA.scopeS (hk:fA F fp S C h x):tV S 1 x.bI.length:=hk.scopeR.shC
theorem fA.callsS (hk:fA F fp S C h x):tV C 1 x.cJ.length:=by
 obtain ⟨fs,cs,hk⟩:=hk;have:=hk.rC.sh
 rwa [wM,hk.cl] at this
structure ME (F fp S C:V) (h:Hp) (x:aG) (i:Nat) (l:List Int) (cv:V) (HC:List V):Prop where
 hC:h (qI C)=some HC
 len:i+1<=HC.length
 row:∃rest,HC.drop i=cv::rest
 cell:iF h cv 1 (l.map (cI .i64))
 up:∃fs cs,BU F fp S C fs cs h x/\x.cJ[i]? = some l/\cs[i]? = some cv
theorem fA.focC (hk:fA F fp S C h x) {i:Nat} {l:List Int} (hl:x.cJ[i]? = some l):∃cv HC,ME F fp S C h x i l cv HC:=by
 obtain ⟨fs,cs,hk⟩:=hk
 obtain ⟨v,hv⟩:∃v,cs[i]? = some v:=by
  have:=(sG.1 hl).1;rw [←hk.cl] at this;exact ⟨_,tS this⟩
 obtain ⟨HC,rest,e1,e2,e3,e4⟩:=hk.rC.fU (i:=i) (r:=[v]) (by rw [AJ,hv];rfl);refine ⟨v,HC,e1,?_,⟨rest,by have:=e3 0 za;rwa [SQ] at this⟩,hk.rCi i l v hl hv,⟨fs,cs,hk,hl,hv⟩⟩;have h1:i<x.cJ.length:=(sG.1 hl).1;rw [wM,hk.cl] at e2;omega
section
variable {i:Nat} {l:List Int} {cv:V} {HC:List V}
theorem ME.nd (fc:ME F fp S C h x i l cv HC):qI C ∉ lF cv/\lF C=[qI C]:=by
 obtain ⟨fs,cs,hk,hl,hv⟩:=fc.up
 have hF:lF C=[qI C]:=by
  obtain ⟨vs,rest,e1,e2,e3,e4⟩:=hk.rC.fU (i:=i) (r:=[cv]) (by rw [AJ,hv];rfl);rw [e4];rfl
 refine ⟨λhi=>?_,hF⟩;have:=hk.nd 2 0 4 i (qI C) (by show qI C ∈ lF C;rw [hF];simp) (by show qI C ∈ lF (match cs[i]? with | some v=>v | none=>.nilv);rw [hv];exact hi);omega
theorem ME.apF (fc:ME F fp S C h x i l cv HC) (hq:h q=none) {l2:List V}:GO h cv q l2 (qI C)=some HC:=by
 rw [AI (λe=>by rw [←e,fc.hC] at hq;cases hq) fc.nd.1];exact fc.hC
theorem ME.app (fc:ME F fp S C h x i l cv HC) (hq:h q=none) (n:Int) (e1:x'.p_=x.p_) (e2:x'.f_=x.f_) (e3:x'.bI=x.bI) (e4:x'.cJ=x.cJ.set i (l++[n])) :
  fA F fp S C (tH (GO h cv q ((l.map (cI .i64)).flatten++[.lit (.int .i64 n)])) (qI C) (HC.set i (.vec q 1 (l.length+1)))) x':=by
 obtain ⟨hnC,hC1⟩:=fc.nd;obtain ⟨fs,cs,hk,hl,hv⟩:=fc.up;have hqC:qI C ≠ q:=λe=>by have:=fc.hC;rw [e,hq] at this;cases this
 have hslot:pE F S C fs cs 4 i=cv:=by show (match cs[i]? with | some v=>v | none=>.nilv)=cv;rw [hv]
 have hC0:qI C ∈ lF (pE F S C fs cs 2 0):=by show qI C ∈ lF C;rw [hC1];simp
 have hput:∀ {g:Hp} {w:List V} id,id ≠ qI C->tH g (qI C) w id=g id:=λid hne=>by show (if id=qI C then _ else _)=_;rw [bU hne]
 have hfr:∀ {a b},¬(a=2/\b=0)->¬(a=4/\b=i)->∀id ∈ lF (pE F S C fs cs a b),tH (GO h cv q ((l.map (cI .i64)).flatten++[.lit (.int .i64 n)])) (qI C) (HC.set i (.vec q 1 (l.length+1))) id=h id:=by
  intro a b n1 n2 id hi
  have hneC:id ≠ qI C:=λe=>by
   subst e;obtain ⟨k1,k2⟩:=hk.nd a b 2 0 _ hi hC0;exact n1 ⟨k1,k2⟩
  rw [hput id hneC];refine AI (λe=>hk.fresh hq a b (e ▸ hi)) λh2=>?_;obtain ⟨k1,k2⟩:=hk.nd a b 4 i id hi (by rw [hslot];exact h2);exact n2 ⟨k1,k2⟩
 have hil:i<x.cJ.length:=(sG.1 hl).1;have hif:i<cs.length:=(sG.1 hv).1;refine ⟨fs,cs.set i (.vec q 1 (l.length+1)),by rw [e1];exact hk.fl,by rw [e1];exact hk.rF.frame (hfr (a:=0) (b:=0) za za),by rw [e1];exact hk.frV λj=>hfr za za,by rw [e3];exact hk.rS.frame (hfr (a:=1) (b:=0) za za),by rw [e4];simp [hk.cl],?_,?_,by rw [e2];exact hk.rfp,?_⟩
 ·have:=hk.rC.setRow (h':=tH (GO h cv q ((l.map (cI .i64)).flatten++[.lit (.int .i64 n)])) (qI C) (HC.set i (.vec q 1 (l.length+1)))) (k:=0) (u:=.vec q 1 (l.length+1)) (i:=i) (r:=[cv]) (by rw [AJ,hv];rfl) za fc.hC (by show (if qI C=qI C then _ else _)=_;rw [cG rfl,SQ];rfl);rw [xdz];exact this
 ·rw [e4];intro j g v hg hv2;rw [KL] at hg hv2
  by_cases e:i=j
  ·subst e;rw [cG rfl,cG hil] at hg;rw [cG rfl,cG hif] at hv2
   injection hg with hg;injection hv2 with hv2
   subst hg hv2;have h2:=fc.cell.app (q:=q) (rows2:=[cI .i64 n]) (λr hr=>by rw [zA.1 hr];rfl);have e5:(l.map (cI .i64)++[cI .i64 n]).flatten=(l.map (cI .i64)).flatten++[.lit (.int .i64 n)]:=by simp [cI]
   rw [e5] at h2;have h3:iF (GO h cv q ((l.map (cI .i64)).flatten++[.lit (.int .i64 n)])) (.vec q 1 (l.length+1)) 1 ((l++[n]).map (cI .i64)):=by simpa using h2
   refine h3.frame λid hi=>hput id λe=>?_;have:id=q:=by simpa [lF] using hi
   exact hqC (e ▸ this)
  ·rw [bU e] at hg hv2;exact (hk.rCi j g v hg hv2).frame λid hi=>hfr (a:=4) (b:=j) za za id (by show id ∈ lF (match cs[j]? with | some v=>v | none=>.nilv);rw [hv2];exact hi)
 ·refine hk.nd.upd (a:=4) (b:=i) (λa b hne=>?_) λid hi=>?_
  ·unfold pE
   split <;> first | rfl | skip
   rename_i j;rw [KL,bU (λe=>hne ⟨rfl,e.symm⟩)]
  ·have:pE F S C fs (cs.set i (.vec q 1 (l.length+1))) 4 i=.vec q 1 (l.length+1):=by
    show (match (cs.set i (.vec q 1 (l.length+1)))[i]? with | some v=>v | none=>.nilv)=_;rw [KL,cG rfl,cG hif]
   rw [this] at hi
   right;intro a b
   have:id=q:=by simpa [lF] using hi
   rw [this];exact hk.fresh hq a b
end
theorem fA.mkCalls {n:Nat} (hk:fA F fp S C h x) (hq:h q=none) (e1:x'.p_=x.p_) (e2:x'.f_=x.f_) (e3:x'.bI=x.bI) (e4:x'.cJ=List.replicate n []):fA F fp S (.vec q 1 n) (tH h q (List.replicate n [V.nilv]).flatten) x':=by
 obtain ⟨fs,cs,hk⟩:=hk
 have hput:∀ {a b},∀id ∈ lF (pE F S C fs cs a b),tH h q (List.replicate n [V.nilv]).flatten id=h id:=λid hi=>by
  show (if id=q then _ else _)=_;rw [bU (λe=>hk.fresh hq _ _ (e ▸ hi))]
 refine ⟨fs,List.replicate n .nilv,by rw [e1];exact hk.fl,by rw [e1];exact hk.rF.frame (hput (a:=0) (b:=0)),by rw [e1];exact hk.frV λj=>hput,by rw [e3];exact hk.rS.frame (hput (a:=1) (b:=0)),by rw [e4];simp,?_,?_,by rw [e2];exact hk.rfp,?_⟩
 ·refine ⟨λr hr=>?_,.inr ⟨q,(List.replicate n [V.nilv]).flatten,zc,by show (if q=q then _ else _)=_;rw [cG rfl],?_⟩⟩
  ·simp only [xem,PR] at hr;rw [hr.2];rfl
  ·simp
 ·rw [e4];intro j l v hl hv;rw [List.getElem?_replicate] at hl hv
  split at hl
  ·rename_i hj;rw [cG hj] at hv
   injection hl with hl;injection hv with hv
   subst hl hv;exact .nil _ _
  ·cases hl
 ·intro a b a' b' id h1 h2
  have key:∀a b,id ∈ lF (pE F S (.vec q 1 n) fs (List.replicate n .nilv) a b)->(a=2/\b=0/\id=q) ∨ (a<=3/\¬(a=2/\b=0)/\id ∈ lF (pE F S C fs cs a b)):=by
   intro a b hi;unfold pE at hi ⊢
   split at hi
   ·exact .inr ⟨za,za,hi⟩
   ·exact .inr ⟨za,za,hi⟩
   ·exact .inl ⟨rfl,rfl,by simpa [lF] using hi⟩
   ·exact .inr ⟨za,za,hi⟩
   ·rename_i j;rw [List.getElem?_replicate] at hi
    split at hi
    ·rename_i v hv
     split at hv
     ·injection hv with hv;subst hv;cases hi
     ·cases hv
    ·cases hi
   ·cases hi
  rcases key a b h1 with ⟨k1,k2,k3⟩ | ⟨k1,k2,k3⟩ <;> rcases key a' b' h2 with ⟨l1,l2,l3⟩ | ⟨l1,l2,l3⟩
  ·exact ⟨k1.trans l1.symm,k2.trans l2.symm⟩
  ·exact dE (k3 ▸ l3) (hk.fresh hq _ _)
  ·exact dE (l3 ▸ k3) (hk.fresh hq _ _)
  ·exact hk.nd a b a' b' id k3 l3
theorem fA.focF (hk:fA F fp S C h x) (hn:x.f_<0):∃rows,iF h F 6 rows/\rows.length=x.p_.aU.length/\∀ {q:Pa} (hq:h q=none) {f:aP} {x':aG},x'.p_=⟨x.p_.aU++[f]⟩->x'.f_=x.f_->x'.bI=x.bI->x'.cJ=x.cJ->f.aO=[]->f.bR=[]->fp=fp ->
  fA (.vec q 6 (x.p_.aU.length+1)) fp S C (GO h F q (rows.flatten++tN f .nilv .nilv)) x':=by
 obtain ⟨fs,cs,hk⟩:=hk;have hrl:(List.zipWith (λ(f:aP) (v:V × V)=>tN f v.1 v.2) x.p_.aU fs).length=x.p_.aU.length:=by rw [List.length_zipWith,hk.fl,Nat.min_self]
 refine ⟨_,hk.rF,hrl,?_⟩;intro q hq f x' e1 e2 e3 e4 e5 e6 _
 have hfr:∀ {a b},¬(a=0/\b=0)->∀id ∈ lF (pE F S C fs cs a b),GO h F q ((List.zipWith (λ(f:aP) (v:V × V)=>tN f v.1 v.2) x.p_.aU fs).flatten++tN f .nilv .nilv) id=h id:=by
  intro a b n1 id hi;refine AI (λe=>hk.fresh hq a b (e ▸ hi)) λh2=>?_;obtain ⟨k1,k2⟩:=hk.nd a b 0 0 id hi h2;exact n1 ⟨k1,k2⟩
 refine ⟨fs++[(.nilv,.nilv)],cs,by rw [e1];simp [hk.fl],?_,?_,by rw [e3];exact hk.rS.frame (hfr (a:=1) (b:=0) za),by rw [e4];exact hk.cl,hk.rC.frame (hfr (a:=2) (b:=0) za),by rw [e4];exact hk.frC λj=>hfr za,?_,?_⟩
 ·have:=hk.rF.app (q:=q) (rows2:=[tN f .nilv .nilv]) (λr hr=>by rw [zA.1 hr];rfl);have e:(List.zipWith (λ(f:aP) (v:V × V)=>tN f v.1 v.2) x.p_.aU fs++[tN f .nilv .nilv]).flatten=(List.zipWith (λ(f:aP) (v:V × V)=>tN f v.1 v.2) x.p_.aU fs).flatten++tN f .nilv .nilv:=zc
  rw [e] at this
  have e7:List.zipWith (λ(f:aP) (v:V × V)=>tN f v.1 v.2) (x.p_.aU++[f]) (fs++[(.nilv,.nilv)])=List.zipWith (λ(f:aP) (v:V × V)=>tN f v.1 v.2) x.p_.aU fs++[tN f .nilv .nilv]:=by
   rw [List.zipWith_append (by rw [hk.fl])];rfl
  rw [e1];show iF _ _ 6 (List.zipWith (λ(f:aP) (v:V × V)=>tN f v.1 v.2) (x.p_.aU++[f]) (fs++[(.nilv,.nilv)]));rw [e7];rw [nB,hrl] at this;exact this
 ·rw [e1];intro j g v hg hv;have hg':(x.p_.aU++[f])[j]? = some g:=hg
  rcases Nat.lt_or_ge j x.p_.aU.length with hj | hj
  ·rw [HH hj] at hg';rw [HH (by rw [hk.fl];exact hj)] at hv;have:=hk.rV j g v hg' hv;exact ⟨this.1.frame λid hi=>hfr (a:=3) (b:=j) za id (by show id ∈ lF (match fs[j]? with | some v=>v.1 | none=>.nilv);rw [hv];exact hi),this.2⟩
  ·have hjl:j<(x.p_.aU++[f]).length:=(sG.1 hg').1;simp only [nB,tF] at hjl;have:j=x.p_.aU.length:=za
   subst this;rw [GT (tW _),Tc] at hg';rw [GT (by rw [hk.fl];exact tW _),hk.fl,Tc] at hv;have h1:f=g:=by simpa using hg'
   have h2:((.nilv,.nilv):V × V)=v:=by simpa using hv
   subst h1 h2;rw [e5,e6];exact ⟨.nil _ _,.inl ⟨rfl,rfl⟩⟩
 ·intro j hj;omega
 ·intro a b a' b' id h1 h2
  have key:∀a b,id ∈ lF (pE (.vec q 6 (x.p_.aU.length+1)) S C (fs++[(.nilv,.nilv)]) cs a b)->(a=0/\b=0/\id=q) ∨ (¬(a=0/\b=0)/\id ∈ lF (pE F S C fs cs a b)):=by
   intro a b hi;unfold pE at hi ⊢
   split at hi
   ·exact .inl ⟨rfl,rfl,by simpa [lF] using hi⟩
   ·exact .inr ⟨za,hi⟩
   ·exact .inr ⟨za,hi⟩
   ·refine .inr ⟨za,?_⟩;show id ∈ lF (match fs[b]? with | some v=>v.1 | none=>.nilv)
    rcases Nat.lt_or_ge b fs.length with hj | hj
    ·rw [HH hj] at hi;exact hi
    ·rw [GT hj] at hi
     split at hi
     ·rename_i v hv;cases hjj:b - fs.length with
      | zero=>rw [hjj] at hv;have:((.nilv,.nilv):V × V)=v:=by simpa using hv
              subst this;cases hi
      | succ n=>rw [hjj] at hv;cases hv
     ·cases hi
   ·exact .inr ⟨za,hi⟩
   ·cases hi
  rcases key a b h1 with ⟨k1,k2,k3⟩ | ⟨k2,k3⟩ <;> rcases key a' b' h2 with ⟨l1,l2,l3⟩ | ⟨l2,l3⟩
  ·exact ⟨k1.trans l1.symm,k2.trans l2.symm⟩
  ·exact dE (k3 ▸ l3) (hk.fresh hq _ _)
  ·exact dE (l3 ▸ k3) (hk.fresh hq _ _)
  ·exact hk.nd a b a' b' id k3 l3
end
theorem iF.readI' {h:Hp} {v:V} {l:List Int} (hv:iF h v 1 (l.map (cI .i64))) {i:Nat} {x:Int} (hx:l[i]? = some x):∃HV rest,h (qI v)=some HV/\HV.drop i=.lit (.int .i64 x)::rest:=by have:=hv.readI hx _ rfl;rwa [SQ] at this
theorem iF.readVar {h:Hp} {v:V} {l:List aJ} (hv:iF h v 3 (l.map aJ.C)) {i:Nat} {x:aJ} (hx:l[i]? = some x):∃HV rest,h (qI v)=some HV/\HV.drop (i*3)=.lit (.string (bs x.gS))::.lit (.int .i64 x.bF)::.lit (.int .i64 x.gA)::rest/\HV.drop (i*3+1)=.lit (.int .i64 x.bF)::.lit (.int .i64 x.gA)::rest/\HV.drop (i*3+2)=.lit (.int .i64 x.gA)::rest:=hv.read3 hx _ _ _ rfl
def ax (P:Program) (op:Op) (q:Pa) (g:Operand->V) (m:M) (v:V):Prop:=
 match op with
 | .load T x=>uQ P m T (g x) (λr=>r=v)
 | .call cl=>(match cl.callee with | .value f=>sfn P (g f) (cl.args.toList.map g) q m (λr m1=>r=v/\m1=m) | _=>Ks P (.call cl) g (λr=>r=v))
 | op=>Ks P op g (λr=>r=v)
section
variable {P:Program} {o:Oper} {op:Op} {q:Pa} {E:fP} {m:M} {v:V} {g g1:Operand->V}
theorem Hy (h:ax P op q g m v) (hg:∀x ∈ qF op,g1 x=g x):ax P op q g1 m v:=by
 cases op with
 | load T x=>simp only [ax] at h ⊢;rw [hg x (by simp [qF])];exact h
 | call cl=>
   obtain ⟨callee,args,ats⟩:=cl;cases callee with
   | value f=>
     simp only [ax] at h ⊢;rw [hg f (by simp [qF]),xdr (λx hx=>hg x (by simp only [qF];exact xeh _ hx))];exact h
   | _=>simp only [ax] at h ⊢;exact FT (P:=P) (C:=λr=>r=v) h hg
 | _=>simp only [ax] at h ⊢;exact FT (P:=P) (C:=λr=>r=v) h hg
theorem HQ {f:Operand} {xs:Array Operand} {ts:Array TypeId} {C:V->M->Prop}:Nk P ⟨.value f,xs,ts⟩ q E m C=sfn P (ev m E f) (xs.toList.map (ev m E)) q m C:=by
 simp only [Nk,sfn]
 generalize ev m E f=u
 cases u with
 | fn g _ _=>cases g <;> rfl
 | _=>rfl
theorem QG (h:ax P o.op q (ev m E) m v):iH P o q E m (λr m1=>r=v/\m1=m):=by
 have e0:(λr=>r=v/\m=m)=λr=>r=v:=by funext r;simp
 have pp:Ks P o.op (ev m E) (λr=>r=v)->iH P o q E m (λr m1=>r=v/\m1=m):=λh=>OH (C:=λr m1=>r=v/\m1=m) (by show Ks P o.op (ev m E) (λr=>r=v/\m=m);rw [e0];exact h);obtain ⟨dst,op,ty,pos,after,guard⟩:=o;cases op with
 | load T x=>
   show uQ P m T (ev m E x) (λr=>r=v/\m=m);rw [e0];exact h
 | call cl=>
   obtain ⟨callee,args,ats⟩:=cl;cases callee with
   | value f=>simp only [iH];rw [HQ];exact h
   | _=>simp only [ax] at h;exact pp h
 | _=>simp only [ax] at h;exact pp h
end
section
variable {P:Program} {full:List Oper} {π:Pa} {k0 p N:Nat} {tbl late:List Nat} {E0 EA:fP} {m0:M} {K:Nat->fP->M->Prop}
theorem Hu {m:M} {E E':fP} {o:Oper} (h:∀t ∈ yB full o,E' t=E t):∀x ∈ qF o.op,ev m E' x=ev m E x:=by
 intro x hx;cases x with
 | tmp t=>
   refine h t ?_;unfold yB;exact MI _ (List.mem_filterMap.2 ⟨_,hx,rfl⟩)
 | _=>rfl
variable {D:Nat->Bool} {E:fP} {m:M}
end
def Qo (P:Program) (k0 i:Nat) (π:Pa) (EA:fP) (m1:M) (o:Oper):Prop:=match o.dst with | some d=>ax P o.op ((k0+i)::π) (ev m1 EA) m1 (EA d) | none=>False
section
variable {P:Program} {full:List Oper} {π:Pa} {k0 p i:Nat} {late is:List Nat} {EA E:fP} {m m1:M} {K:Nat->fP->M->Prop} {C:fP->Prop} {d:Option Nat} {ty:TypeId} {pos:String} {after:Array Edge} {v:V}
@[go_sem] theorem lo_load {T:TypeId} {x:Operand} {d:Nat} {g:Option (Nat × Bool)}:Qo P k0 i π EA m1 ⟨some d,.load T x,ty,pos,after,g⟩=uQ P m1 T (ev m1 EA x) (λr=>r=EA d):=rI rfl
end
