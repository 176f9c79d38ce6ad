import Derived.Test.YtnheknbibdgglaaGreatDoorMVs
import Derived.Test.YtnheknbibdgglaaGreatDoorMPx
namespace Go.Proofs.YtnheknbibdgglaaGreatDoor.Abs
open Go.RowKit
def DC (x:Int):V:=.lit (.int .u32 x)
def JX (x:Int):V:=.lit (.int .u64 x)
def Ac (AS:List Pa) (LS:List Nat) (k:Int):V:=if k<0 then .nilv else .vec (AS.getD k.toNat []) 1 (LS.getD k.toNat 0)
def Hj:List Pa->List (List Int)->Pa->Option (List V)
 | a::as,l::ls,i=>if i=a then some (l.map DC) else Hj as ls i
 | _,_,_=>none
def uP (h:Hp) (W:Pa) (ws:List Int) (AS:List Pa) (hs:List (List Int)):Hp:=λi=>if i=W then some (ws.map JX) else if i ∈ AS then Hj AS hs i else h i
structure oV (h:Hp) (W A:Pa) (AS:List Pa) (LS:List Nat) (ws rs:List Int) (hs:List (List Int)):Prop where
 w:h W=some (ws.map JX)
 a:h A=some (rs.map (Ac AS LS))
 wa:W ≠ A
 was:W ∉ AS
 aas:A ∉ AS
 nd:AS.Nodup
 ls:LS=hs.map List.length
 len:AS.length=hs.length
 fU:∀(k:Nat) (a:Pa) (l:List Int),AS[k]? = some a->hs[k]? = some l->h a=some (l.map DC)
section
variable {h:Hp} {W A:Pa} {AS:List Pa} {LS:List Nat} {ws rs ws':List Int} {hs hs':List (List Int)}
theorem Fm:∀ {AS:List Pa} {hs:List (List Int)} {k:Nat} {a:Pa} {l:List Int},AS.Nodup->AS[k]? = some a->hs[k]? = some l->Hj AS hs a=some (l.map DC)
 | [],_,_,_,_,_,e,_=>nomatch e
 | _::_,[],_,_,_,_,_,e=>nomatch e
 | b::AS,x::hs,0,a,l,_,e1,e2=>by
   obtain rfl:b=a:=by simpa using e1
   obtain rfl:x=l:=by simpa using e2
   rw [Hj,cG rfl]
 | b::AS,x::hs,k+1,a,l,hn,e1,e2=>by
   have e1':AS[k]? = some a:=by simpa using e1
   have hne:a ≠ b:=by
    rintro rfl;exact (List.nodup_cons.1 hn).1 (zX e1')
   rw [Hj,bU hne];exact Fm (List.nodup_cons.1 hn).2 e1' (by simpa using e2)
theorem Lv {α:Type} {a:α} {l:List α} (h:a ∈ l):∃k:Nat,l[k]? = some a:=List.mem_iff_getElem?.1 h
theorem oV.find (k:oV h W A AS LS ws rs hs) {a:Pa} (ha:a ∈ AS):∃(i:Nat) (l:List Int),AS[i]? = some a/\hs[i]? = some l:=by
 obtain ⟨i,hi⟩:=Lv ha;have h1:i<AS.length:=(sG.1 hi).1;exact ⟨i,hs[i]'(by rw [←k.len];exact h1),hi,tS _⟩
@[go_sem] theorem hpU_W:uP h W ws AS hs W=some (ws.map JX):=cG rfl
@[go_sem] theorem hpU_U:uP (uP h W ws AS hs) W ws' AS hs'=uP h W ws' AS hs':=by
 funext i
 unfold uP
 by_cases e:i=W
 ·rw [cG e,cG e]
 ·rw [bU e,bU e]
  by_cases e2:i ∈ AS
  ·rw [cG e2,bU e,cG e2]
  ·rw [bU e2,bU e,bU e2,bU e2]
theorem oV.same (k:oV h W A AS LS ws rs hs):uP h W ws AS hs=h:=by
 funext i
 unfold uP
 by_cases e:i=W
 ·rw [cG e,e,k.w]
 ·rw [bU e]
  by_cases e2:i ∈ AS
  ·rw [cG e2];obtain ⟨j,l,h1,h2⟩:=k.find e2;rw [Fm k.nd h1 h2,k.fU j i l h1 h2]
  ·rw [bU e2]
theorem oV.hA (k:oV h W A AS LS ws rs hs) (ws':List Int) (hs':List (List Int)):uP h W ws' AS hs' A=some (rs.map (Ac AS LS)):=by
 unfold uP;rw [bU (λe=>k.wa e.symm),bU k.aas,k.a]
theorem oV.up (k:oV h W A AS LS ws rs hs) (hl:hs'.map List.length=hs.map List.length):oV (uP h W ws' AS hs') W A AS LS ws' rs hs':=by
 have hl2:hs'.length=hs.length:=by simpa using vJ List.length hl
 refine ⟨hpU_W,k.hA _ _,k.wa,k.was,k.aas,k.nd,by rw [hl];exact k.ls,by rw [hl2];exact k.len,λi a l h1 h2=>?_⟩;unfold uP;have hm:a ∈ AS:=zX h1;rw [bU (λe=>k.was (by rw [←e];exact hm)),cG hm];exact Fm k.nd h1 h2
theorem oV.get (k:oV h W A AS LS ws rs hs) {i:Int} {l:List Int} (h0:0<=i) (hi:hs[i.toNat]? = some l):∃a,Ac AS LS i=.vec a 1 l.length/\h a=some (l.map DC)/\AS[i.toNat]? = some a/\a ≠ W/\a ≠ A:=by
 have h1:i.toNat<AS.length:=by rw [k.len];exact (sG.1 hi).1
 have h2:=tS h1;refine ⟨AS[i.toNat],?_,k.fU _ _ _ h2 hi,h2,λe=>k.was (by rw [←e];exact Oo h1),λe=>k.aas (by rw [←e];exact Oo h1)⟩;unfold Ac;rw [bU za,Oq,h2,Oq,k.ls,AJ,hi];rfl
theorem oV.setW (k:oV h W A AS LS ws rs hs) (ws':List Int):tH h W (ws'.map JX)=uP h W ws' AS hs:=by
 funext i
 show (if i=W then some (ws'.map JX) else h i)=if i=W then _ else _
 by_cases e:i=W
 ·rw [cG e,cG e]
 ·rw [bU e,bU e];have:=congrFun k.same i;unfold uP at this;rw [bU e] at this;exact this.symm
theorem oV.setA (k:oV h W A AS LS ws rs hs) {j:Nat} {a:Pa} (ha:AS[j]? = some a) (l:List Int):tH h a (l.map DC)=uP h W ws AS (hs.set j l):=by
 have hj:j<hs.length:=by rw [←k.len];exact (sG.1 ha).1
 have hm:a ∈ AS:=zX ha
 funext i
 show (if i=a then some (l.map DC) else h i)=if i=W then _ else _
 by_cases e:i=W
 ·rw [bU (λe2=>k.was (by rw [←e,e2];exact hm)),cG e,e,k.w]
 ·rw [bU e]
  by_cases e2:i=a
  ·rw [cG e2,e2,cG hm];exact (Fm k.nd ha (by rw [KL];simp [hj])).symm
  ·rw [bU e2]
   by_cases e3:i ∈ AS
   ·rw [cG e3];obtain ⟨n,x,h1,h2⟩:=k.find e3
    have hne:j ≠ n:=by
     rintro rfl;rw [ha] at h1;injection h1 with h1;exact e2 h1.symm
    rw [Fm k.nd h1 (by rw [KL,bU hne];exact h2),k.fU n i x h1 h2]
   ·rw [bU e3]
end
theorem Vg {l:List Int} {n:Nat} {x:Int}:(l.map JX).set n (.lit (.int .u64 x))=(l.set n x).map JX:=by rw [xdz];rfl
theorem Vh {l:List Int} {n:Nat} {x:Int}:(l.map DC).set n (.lit (.int .u32 x))=(l.set n x).map DC:=by rw [xdz];rfl
@[go_sem] theorem cU64_at {x:Int}:JX x=.lit (.int .u64 x):=rI rfl
@[go_sem] theorem cU32_at {x:Int}:DC x=.lit (.int .u32 x):=rI rfl
attribute [go_sem] Vg Vh
theorem tP {α:Type} {f:α->V} {l:List α} {i:Int} {x:α} (hx:l[i.toNat]? = some x):∃rest,(l.map f).drop i.toNat=f x::rest:=by
 refine ⟨(l.map f).drop (i.toNat+1),?_⟩;have hlt:i.toNat<l.length:=(sG.1 hx).1;have e:l[i.toNat]=x:=by rw [tS hlt] at hx;injection hx
 rw [On (by rw [wM];exact hlt),List.getElem_map,e]
theorem Ny {hs:List (List Int)} {j:Nat} {l l':List Int} (hj:hs[j]? = some l) (hl:l'.length=l.length):(hs.set j l').map List.length=hs.map List.length:=by
 rw [xdz,hl];apply OA;intro n;rw [KL]
 by_cases e:j=n
 ·subst e;have hlt:j<hs.length:=(sG.1 hj).1;rw [cG rfl,AJ,hj];simp [hlt]
 ·rw [bU e]
theorem Np:∀(us pre l:List V),us.length=l.length->Ff (pre++l) pre.length us=pre++us
 | [],pre,[],_=>rfl
 | [],_,_::_,h=>by cases h
 | _::_,_,[],h=>by cases h
 | u::us,pre,x::l,h=>by
   have ih:=Np us (pre++[u]) l (by simpa using h);rw [Ff];have e:(pre++x::l).set pre.length u=(pre++[u])++l:=zc
   rw [e];have e2:pre.length+1=(pre++[u]).length:=zc
   rw [e2,ih];simp
theorem Ho {α:Type} {n:Nat} {x:α}:(List.replicate n [x]).flatten=List.replicate n x:=by
 induction n with
 | zero=>rfl
 | succ n ih=>rw [xdy,xdy,HJ,ih];rfl
theorem clr_eq {l:List Int}:Ff (l.map DC) 0 (List.replicate l.length [V.lit (.int .u32 0)]).flatten=(List.replicate l.length 0).map DC:=by
 have:=Np (List.replicate l.length (V.lit (.int .u32 0))) [] (l.map DC) zc;rw [Ho,xem];exact this
def M.fr (m:M) (p0 p1:Pa) (c0:List V) (z:Nat) (c1:List V) (h:Hp):M:={ blk:=λi=>if i=p0 then some c0 else if i=p1 then some c1 else m.blk i,ver:=λi=>if i=p0 then (λo=>if o=4 then z else m.ver p0 o) else m.ver i,tok:=m.tok,gl:=m.gl,hp:=h }
section
variable {m:M} {p0 p1 q:Pa} {c0 c1 c0' c1':List V} {z z':Nat} {h h':Hp}
@[go_sem] theorem JT {i:Pa}:(m.fr p0 p1 c0 z c1 h).blk i=if i=p0 then some c0 else if i=p1 then some c1 else m.blk i:=rI rfl
@[go_sem] theorem CY {i:Pa} {o:Nat}:(m.fr p0 p1 c0 z c1 h).ver i o=if i=p0/\o=4 then z else m.ver i o:=by
 show (if i=p0 then (λo=>if o=4 then z else m.ver p0 o) else m.ver i) o=_
 by_cases e:i=p0/\o=4
 ·rw [cG e,cG e.1];exact cG e.2
 ·rw [bU e]
  by_cases e1:i=p0
  ·rw [cG e1,e1];exact bU λh=>e ⟨e1,h⟩
  ·rw [bU e1]
@[go_sem] theorem fr_gl:(m.fr p0 p1 c0 z c1 h).gl=m.gl:=rI rfl
@[go_sem] theorem fr_hp:(m.fr p0 p1 c0 z c1 h).hp=h:=rI rfl
@[go_sem] theorem fr_fr:(m.fr p0 p1 c0 z c1 h).fr p0 p1 c0' z' c1' h'=m.fr p0 p1 c0' z' c1' h':=by
 refine M.ext_hp (funext λi=>?_) (funext λi=>funext λo=>?_) rfl rfl rfl
 ·simp only [JT]
  by_cases e:i=p0
  ·rw [cG e,cG e]
  ·rw [bU e,bU e]
   by_cases e2:i=p1
   ·rw [cG e2,bU e,cG e2]
   ·rw [bU e2,bU e,bU e2,bU e2]
 ·rw [CY,CY,CY]
  by_cases e:i=p0/\o=4
  ·rw [cG e,cG e]
  ·rw [bU e,bU e,bU e]
theorem En (hn:(p1=p0)=False):(m.fr p0 p1 c0 z c1 h).set p1 c1'=m.fr p0 p1 c0 z c1' h:=by
 refine M.ext_hp (funext λi=>?_) rfl rfl rfl rfl;show (if i=p1 then some c1' else if i=p0 then some c0 else if i=p1 then some c1 else m.blk i)=if i=p0 then some c0 else if i=p1 then some c1' else m.blk i
 by_cases e:i=p1
 ·rw [cG e,e,bU (by rw [hn];exact λx=>x),cG rfl]
 ·rw [bU e,bU e,bU e]
@[go_sem] theorem frm_seth:(m.fr p0 p1 c0 z c1 h).seth h'=m.fr p0 p1 c0 z c1 h':=rI rfl
@[go_sem] theorem seth_frm:(m.seth h').fr p0 p1 c0 z c1 h=m.fr p0 p1 c0 z c1 h:=rI rfl
@[go_sem] theorem fr_setv:(m.fr p0 p1 c0 z c1 h).setv p0 4 c0' z'=m.fr p0 p1 c0' z' c1 h:=by
 refine M.ext_hp (funext λi=>?_) (funext λi=>funext λo=>?_) rfl rfl rfl
 ·rw [Jn,JT,JT]
  by_cases e:i=p0
  ·rw [cG e,cG e]
  ·rw [bU e,bU e,bU e]
 ·rw [AN,CY,CY]
  by_cases e:i=p0/\o=4
  ·rw [cG e,cG e]
  ·rw [bU e,bU e,bU e]
theorem TL (hf:m.fr p0 p1 c0 z c1 m.hp=m):m.seth h=m.fr p0 p1 c0 z c1 h:=by
 have:m.seth h=(m.fr p0 p1 c0 z c1 m.hp).seth h:=by rw [hf]
 rw [this];rfl
theorem Ru:m.seth m.hp=m:=rI rfl
theorem Ch {m2:M} (h0:¬ q <:+ p0) (h1:¬ q <:+ p1):m.back q (m2.fr p0 p1 c0 z c1 h)=(m.back q m2).fr p0 p1 c0 z c1 h:=by
 have s0:¬ q.isSuffixOf p0=true:=λe=>h0 (GS.1 e);have s1:¬ q.isSuffixOf p1=true:=λe=>h1 (GS.1 e);refine M.ext_hp (funext λi=>?_) (funext λi=>funext λo=>?_) rfl rfl rfl
 ·show (if q.isSuffixOf i then m.blk i else if i=p0 then some c0 else if i=p1 then some c1 else m2.blk i)=if i=p0 then some c0 else if i=p1 then some c1 else if q.isSuffixOf i then m.blk i else m2.blk i
  by_cases e0:i=p0
  ·subst e0;rw [bU s0,cG rfl,cG rfl]
  ·by_cases e1:i=p1
   ·subst e1;rw [bU s1,bU e0,cG rfl,bU e0,cG rfl]
   ·rw [bU e0,bU e1,bU e0,bU e1]
 ·rw [CY];show (if q.isSuffixOf i then m.ver i else (m2.fr p0 p1 c0 z c1 h).ver i) o=if i=p0/\o=4 then z else (if q.isSuffixOf i then m.ver i else m2.ver i) o
  by_cases e:q.isSuffixOf i=true
  ·rw [cG e,cG e,bU];rintro ⟨rfl,_⟩;exact s0 e
  ·rw [bU e,bU e,CY]
theorem Hm (h0:m.blk p0=some c0) (hz:m.ver p0 4=z) (h1:m.blk p1=some c1):m.fr p0 p1 c0 z c1 m.hp=m:=by
 refine M.ext_hp (funext λi=>?_) (funext λi=>funext λo=>?_) rfl rfl rfl
 ·rw [JT]
  by_cases e:i=p0
  ·rw [cG e,e,h0]
  ·rw [bU e]
   by_cases e2:i=p1
   ·rw [cG e2,e2,h1]
   ·rw [bU e2]
 ·rw [CY]
  by_cases e:i=p0/\o=4
  ·rw [cG e,e.1,e.2,hz]
  ·rw [bU e]
theorem pO (h1:m.blk p1=some c1):m.setv p0 4 c0 z=m.fr p0 p1 c0 z c1 m.hp:=by
 refine M.ext_hp (funext λi=>?_) (funext λi=>funext λo=>?_) rfl rfl rfl
 ·rw [Jn,JT]
  by_cases e:i=p0
  ·rw [cG e,cG e]
  ·rw [bU e,bU e]
   by_cases e2:i=p1
   ·rw [cG e2,e2,h1]
   ·rw [bU e2]
 ·rw [AN,CY]
end
set_option linter.all false
def M.backK (q keep:Pa) (m m':M):M:=
 { blk:=λid=>if id=keep then m'.blk id else if q.isSuffixOf id then m.blk id else m'.blk id,ver:=λid=>if id=keep then m'.ver id else if q.isSuffixOf id then m.ver id else m'.ver id,tok:=λid=>if q.isSuffixOf id then m.tok id else m'.tok id,gl:=m'.gl,hp:=m'.hp }
theorem fZ.backK {c c':Conc} {m m':M} {w w':World} {q:Pa} (keep:Pa) (h:fZ c m w) (hf:uU c q) (h':fZ c' m' w'):fZ c' (m.backK q keep m') w'/\∀b,fC c' (m.backK q keep m') b->fC c' m' b:=by
 have hsub:∀id,q.isSuffixOf id=true->m.blk id=none/\(∀off,m.ver id off=0)/\∀j,m.tok id j=false:=by
  intro id eZ;have hf':=hf id (GS.1 eZ);exact ⟨h.fresh_blk hf',(h.ver0 id hf').1,(h.ver0 id hf').2⟩
 have hb:∀id vs,(m.backK q keep m').blk id=some vs->(id=keep ∨ q.isSuffixOf id=false)/\m'.blk id=some vs:=by
  intro id vs hv;have hv':(if id=keep then m'.blk id else if q.isSuffixOf id then m.blk id else m'.blk id)=some vs:=hv
  by_cases hk:id=keep
  ·rw [cG hk] at hv';exact ⟨.inl hk,hv'⟩
  ·rw [bU hk] at hv';cases hs:q.isSuffixOf id with
   | true=>rw [cG hs,(hsub id hs).1] at hv';cases hv'
   | false=>rw [bU (by simp [hs])] at hv';exact ⟨.inr rfl,hv'⟩
 have hbn:∀id,(m.backK q keep m').blk id ≠ none->(id=keep ∨ q.isSuffixOf id=false)/\m'.blk id ≠ none:=by
  intro id eZ;obtain ⟨vs,hv⟩:∃vs,(m.backK q keep m').blk id=some vs:=by cases hx:(m.backK q keep m').blk id with | none=>exact dE hx eZ | some vs=>exact ⟨vs,rfl⟩
  obtain ⟨h1,h2⟩:=hb id vs hv;exact ⟨h1,by rw [h2];simp⟩
 have hver:∀id,(id=keep ∨ q.isSuffixOf id=false)->(m.backK q keep m').ver id=m'.ver id:=by
  intro id hs;show (if id=keep then m'.ver id else if q.isSuffixOf id then m.ver id else m'.ver id)=_
  by_cases hk:id=keep
  ·rw [cG hk]
  ·rw [bU hk,bU (by simp [hs.resolve_left hk])]
 have hlive:∀s,fX (m.backK q keep m') s=true->fX m' s=true:=by
  intro s hl;cases s with
  | anon i j=>
    have hl':(if q.isSuffixOf i then m.tok i else m'.tok i) j=true:=hl;cases hs:q.isSuffixOf i with
    | true=>rw [cG hs,(hsub i hs).2.2 j] at hl';cases hl'
    | false=>rw [bU (by simp [hs])] at hl';exact hl'
  | priv b=>exact hl
  | cell i off v=>
    obtain ⟨h1,vs,rows,h2,h3⟩:=qY hl;obtain ⟨h4,h5⟩:=hb i vs h2;rw [hver i h4] at h1;exact qX h1 h5 h3
 have hown:∀b,fC c' (m.backK q keep m') b->fC c' m' b:=by
  rintro b (⟨id,eZ,hr⟩ | ⟨s,cap,sz,len,hl,hk⟩)
  ·exact .inl ⟨id,(hbn id eZ).2,hr⟩
  ·exact .inr ⟨s,cap,sz,len,hlive s hl,hk⟩
 refine ⟨⟨h'.com,λid vs hv=>?_,λid id' b hi hi'=>h'.inj id id' b (hbn id hi).2 (hbn id' hi').2,λs b cap sz len hl hk=>?_,λs s' b cap sz len cap' sz' len' hl hl'=>h'.ownInj s s' b cap sz len cap' sz' len' (hlive s hl) (hlive s' hl'),λid off v hi hv=>?_,h'.gl,λid eZ=>⟨λoff=>?_,λj=>?_⟩,h'.base,λb hl=>⟨(h'.lit b hl).1,(h'.lit b hl).2.1,λho=>(h'.lit b hl).2.2 (hown b ho)⟩,λb vs hv=>h'.hpr b vs hv⟩,hown⟩
 ·obtain ⟨h1,h2⟩:=hb id vs hv;obtain ⟨b,cs,t,k1,k2,k3,k4,k5⟩:=h'.blk id vs h2;exact ⟨b,cs,t,k1,k2,by rw [hver id h1];exact k3,k4,k5⟩
 ·obtain ⟨k1,k2,k3,k4⟩:=h'.own s b cap sz len (hlive s hl) hk;exact ⟨k1,k2,λid eZ=>k3 id (hbn id eZ).2,k4⟩
 ·obtain ⟨h1,h2⟩:=hbn id hi;rw [hver id h1] at hv;exact h'.ver id off v h2 hv
 ·show (if id=keep then m'.ver id else if q.isSuffixOf id then m.ver id else m'.ver id) off=0
  split
  ·exact (h'.ver0 id eZ).1 off
  ·split
   ·rename_i hs;exact (hsub id hs).2.1 off
   ·exact (h'.ver0 id eZ).1 off
 ·show (if q.isSuffixOf id then m.tok id else m'.tok id) j=false
  split
  ·rename_i hs;exact (hsub id hs).2.2 j
  ·exact (h'.ver0 id eZ).2 j
theorem SC_ofK {P:Program} {f:FuncId} {fn:Func} {body:Code} {args:List V} {q:Pa} {m:M} {R:V->M->Prop} (keep:Pa) (hq:q <:+ keep) (hf:P.funcs[f]? = some fn) (hb:fn.body=some body) (hen:∀(xs:Array Value) (w:World),(callFunc f xs).run P w=.ok (.enter f xs) w)
  {N:Nat} (hN:fn.ntmps=N) (hfit:CZ N body=true) {rs:List ResultVar} (hrs:fn.results.toList=rs)
  (h:SW P N q body 0 (RS args) m λe _ E' m'=>(e=.ret ∨ e=.normal)/\Hg P E' m' rs λr=>R r (m.backK q keep m')):SC P f args q m R:=by
 intro c xs w h1 h2 h3;refine .inl ⟨hen _ w,?_⟩;subst hN hrs;have hini:=Mj h2 fn.ntmps;refine calls_of_wp hf hb ?_;rw [xei];refine wp_mono (h hfit c _ w h1 hini h3.sub) ?_;intro e a' w' hp;obtain ⟨c',k',E',m',⟨he,hres⟩,g2,g3,g4,g5,g6,g7⟩:=hp;obtain ⟨v,hC,x,hx,hv⟩:=Ma hres g2 g4;obtain ⟨hback,hown⟩:=h1.backK keep h3 g2
 have hbl:∀id,¬ q <:+ id->xO c' m' id->xO c' (m.backK q keep m') id:=by
  intro id eZ hb;have hs:¬ q.isSuffixOf id=true:=λe=>eZ (GS.1 e);have hk:¬ id=keep:=λe=>eZ (e ▸ hq);refine ⟨?_,hb.anon,hb.cell,λoff=>?_,λj=>?_⟩
  ·show (if id=keep then m'.blk id else if q.isSuffixOf id then m.blk id else m'.blk id)=none;rw [bU hk,bU hs];exact hb.blk
  ·show (if id=keep then m'.ver id else if q.isSuffixOf id then m.ver id else m'.ver id) off=0;rw [bU hk,bU hs];exact hb.ver off
  ·show (if q.isSuffixOf id then m.tok id else m'.tok id) j=false;rw [bU hs];exact hb.tok j
 have hX:oB q c m w c' (m.backK q keep m') w':=⟨g3.le,g3.os,g3.tape,g3.output,g3.size,g3.heap,g3.book,λb hb ho=>g3.own b hb (hown b ho),g3.fresh,λid eZ hb=>hbl id eZ (g3.keep id eZ hb),g3.lits⟩
 have hdone:a'.defers=[]/\∃v,(results fn a'.tmps).run P w'=.ok v w'/\∃x c' r m',Ending.returned v=.returned x/\R r m'/\fZ c' m' w'/\oB q c m w c' m' w'/\CR c' [r] [x]:=
  ⟨g6,x,hx,x,c',v,m.backK q keep m',rfl,hC,hback,hX,hv⟩
 rcases he with rfl | rfl
 ·exact hdone
 ·exact hdone
theorem Vr {q keep:Pa} {m m':M} {cs:List V} (hb:m'.blk keep=some cs) (hv:m'.ver keep=m.ver keep):m.backK q keep m'=(m.back q m').set keep cs ∨ ¬ q <:+ keep:=by
 by_cases hq:q <:+ keep
 ·refine .inl (M.ext_hp (funext λi=>?_) (funext λi=>?_) rfl rfl rfl)
  ·show (if i=keep then m'.blk i else if q.isSuffixOf i then m.blk i else m'.blk i)=if i=keep then some cs else if q.isSuffixOf i then m.blk i else m'.blk i
   by_cases e:i=keep
   ·rw [cG e,cG e,e,hb]
   ·rw [bU e,bU e]
  ·show (if i=keep then m'.ver i else if q.isSuffixOf i then m.ver i else m'.ver i)=if q.isSuffixOf i then m.ver i else m'.ver i
   by_cases e:i=keep
   ·rw [cG e,e,cG (GS.2 hq),hv]
   ·rw [bU e]
 ·exact .inr hq
def Ab (q:Pa) (h h':Hp):Hp:=λi=>if q.isSuffixOf i then none else h' i
theorem SC.hpq {P:Program} {f:FuncId} {args:List V} {q:Pa} {m:M} {R:V->M->Prop} (h:SC P f args q m (λv m'=>R v (m'.seth (Ab q m.hp m'.hp)))):SC P f args q m R:=by
 intro c xs w h1 h2 h3
 have key:∀e w',DH q c m w (λv m'=>R v (m'.seth (Ab q m.hp m'.hp))) e w'->DH q c m w R e w':=by
  rintro e w' ⟨x,c',r,m',e1,hR,g2,g3,g4⟩
  have hh:∀i vs,Ab q m.hp m'.hp i=some vs->m'.hp i=some vs:=by
   intro i vs hi;unfold Ab at hi
   split at hi
   ·cases hi
   ·exact hi
  obtain ⟨k1,k2⟩:=g2.sub (m':=m'.seth (Ab q m.hp m'.hp)) rfl rfl (λid vs hv=>⟨vs,hv,λ_ h=>h⟩) (λs hs=>by
   cases s with
   | anon i j=>exact hs
   | cell i o v=>exact hs
   | priv i=>
     have hs':(Ab q m.hp m'.hp i).isSome=true:=hs;obtain ⟨vs,hv⟩:=Option.isSome_iff_exists.1 hs';show (m'.hp i).isSome=true;rw [hh i vs hv];rfl) hh
  exact ⟨x,c',r,_,e1,hR,k1,g3.trans (k2 q),g4⟩
 rcases h c xs w h1 h2 h3 with ⟨k1,k2⟩ | ⟨x,w',k1,k2⟩
 ·exact .inl ⟨k1,k2.mono λe w' hp=>key e w' hp⟩
 ·exact .inr ⟨x,w',k1,key _ _ k2⟩
theorem SC.freshH {P:Program} {f:FuncId} {args:List V} {q:Pa} {m:M} {R:V->M->Prop} (h:(∀i,q <:+ i->m.hp i=none)->SC P f args q m R):SC P f args q m R:=
 λc xs w h1 h2 h3=>h (λi hi=>h1.fresh_hp (h3 i hi)) c xs w h1 h2 h3
