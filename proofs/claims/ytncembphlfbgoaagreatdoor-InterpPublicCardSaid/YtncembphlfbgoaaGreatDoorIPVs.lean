/- Lemmas of ours. -/
import Derived.Test.YtncembphlfbgoaaGreatDoorIPH1
namespace Go.Proofs.YtncembphlfbgoaaGreatDoor.Abs
open Go.RowKit
def M.setv (m:M) (p:Pa) (off:Nat) (cs:List V) (n:Nat):M:=m.ck p cs m.hp (fun o=>if o=off then n else m.ver p o)
section
variable {m:M} {p q:Pa} {off n:Nat} {cs:List V}
@[go_sem] theorem KG {i:Pa}:(m.setv p off cs n).blk i=if i=p then some cs else m.blk i:=rI rfl
@[go_sem] theorem KE {i:Pa} {o:Nat}:(m.setv p off cs n).ver i o=if i=p/\o=off then n else m.ver i o:=by
 show (if i=p then (fun o=>if o=off then n else m.ver p o) else m.ver i) o=_
 by_cases e:i=p/\o=off
 ·rw [if_pos e,if_pos e.1];exact if_pos e.2
 ·rw [if_neg e]
  by_cases e1:i=p
  ·rw [if_pos e1,e1];exact if_neg fun h=>e ⟨e1,h⟩
  ·rw [if_neg e1]
@[go_sem] theorem setv_tok:(m.setv p off cs n).tok=m.tok:=rI rfl
@[go_sem] theorem setv_gl:(m.setv p off cs n).gl=m.gl:=rI rfl
@[go_sem] theorem setv_hp:(m.setv p off cs n).hp=m.hp:=rI rfl
theorem eX {m2:M} (hq:¬ q <:+ p):m.back q (m2.setv p off cs n)=(m.back q m2).setv p off cs n:=by
 have hs:¬ q.isSuffixOf p=true:=fun e=>hq (Fz.1 e);unfold M.setv;rw [back_ck hq]
 congr 1
 funext o
 show _=if o=off then n else (if q.isSuffixOf p then m.ver p else m2.ver p) o;rw [if_neg hs]
theorem MQ {m2:M} (hq:¬ q <:+ p):m.back q (m2.bump p off)=(m.back q m2).bump p off:=by
 have hs:¬ q.isSuffixOf p=true:=fun e=>hq (Fz.1 e);refine M.ext_hp rfl (funext fun i=>funext fun o=>?_) rfl rfl rfl;show (if q.isSuffixOf i then m.ver i else fun o=>if i=p/\o=off then m2.ver i o+1 else m2.ver i o) o=if i=p/\o=off then (if q.isSuffixOf i then m.ver i else m2.ver i) o+1 else (if q.isSuffixOf i then m.ver i else m2.ver i) o
 by_cases e:q.isSuffixOf i=true
 ·rw [if_pos e,if_pos e,if_neg];rintro ⟨rfl,_⟩;exact hs e
 ·rw [if_neg e,if_neg e]
@[go_sem] theorem setv_setv {cs':List V} {n':Nat}:(m.setv p off cs n).setv p off cs' n'=m.setv p off cs' n':=by
 show (m.ck p cs m.hp _).ck p cs' m.hp _=_;rw [ck_ck];unfold M.setv
 congr 1
 funext o
 show (if o=off then n' else (if p=p then (fun o=>if o=off then n else m.ver p o) else m.ver p) o)=_;rw [if_pos rfl]
 by_cases e:o=off
 ·rw [if_pos e,if_pos e]
 ·rw [if_neg e];show (if o=off then n else m.ver p o)=if o=off then n' else m.ver p o
  rw [if_neg e,if_neg e]
@[go_sem] theorem set_setv {cs':List V}:(m.setv p off cs n).set p cs'=m.setv p off cs' n:=by
 rw [FH];show (m.ck p cs m.hp _).ck p cs' m.hp ((m.ck p cs m.hp _).ver p)=_;rw [ck_ck];unfold M.setv
 congr 1
 show (if p=p then _ else _)=_;rw [if_pos rfl]
theorem lM (h:m.ver p off=n):m.setv p off cs n=m.set p cs:=by
 rw [FH];unfold M.setv
 congr 1
 funext o
 by_cases e:o=off
 ·rw [if_pos e,e,h]
 ·rw [if_neg e]
theorem QK (h:m.ver p off=n):(m.set p cs).bump p off=m.setv p off cs (n+1):=by
 rw [FH];refine M.ext_hp rfl (funext fun i=>funext fun o=>?_) rfl rfl rfl;show (if i=p/\o=off then (if i=p then m.ver p else m.ver i) o+1 else (if i=p then m.ver p else m.ver i) o)=(if i=p then (fun o=>if o=off then n+1 else m.ver p o) else m.ver i) o
 by_cases e:i=p
 ·subst e;rw [if_pos rfl,if_pos rfl]
  by_cases e:o=off
  ·subst e;rw [if_pos ⟨rfl,rfl⟩,if_pos rfl,h]
  ·rw [if_neg fun h=>e h.2,if_neg e]
 ·rw [if_neg e,if_neg e,if_neg fun h=>e h.1]
end
section
variable {P:Program} {c c':Conc} {m m':M} {w w':World} {q:Pa}
end
def BK (x:Int):V:=.lit (.int .u32 x)
def HJ (x:Int):V:=.lit (.int .u64 x)
def xL (AS:List Pa) (LS:List Nat) (k:Int):V:=if k<0 then .nilv else .vec (AS.getD k.toNat []) 1 (LS.getD k.toNat 0)
def Ff:List Pa->List (List Int)->Pa->Option (List V)
 | a::as,l::ls,i=>if i=a then some (l.map BK) else Ff as ls i
 | _,_,_=>none
def tF (h:Hp) (W:Pa) (ws:List Int) (AS:List Pa) (hs:List (List Int)):Hp:=fun i=>if i=W then some (ws.map HJ) else if i ∈ AS then Ff AS hs i else h i
structure nV (h:Hp) (W A:Pa) (AS:List Pa) (LS:List Nat) (ws rs:List Int) (hs:List (List Int)):Prop where
 w:h W=some (ws.map HJ)
 a:h A=some (rs.map (xL AS LS))
 wa:W ≠ A
 was:W ∉ AS
 aas:A ∉ AS
 nd:AS.Nodup
 ls:LS=hs.map List.length
 len:AS.length=hs.length
 gB:∀(k:Nat) (a:Pa) (l:List Int),AS[k]? = some a->hs[k]? = some l->h a=some (l.map BK)
section
variable {h:Hp} {W A:Pa} {AS:List Pa} {LS:List Nat} {ws rs ws':List Int} {hs hs':List (List Int)}
theorem DE:∀ {AS:List Pa} {hs:List (List Int)} {k:Nat} {a:Pa} {l:List Int},AS.Nodup->AS[k]? = some a->hs[k]? = some l->Ff AS hs a=some (l.map BK)
 | [],_,_,_,_,_,e,_=>nomatch e
 | _::_,[],_,_,_,_,_,e=>nomatch e
 | b::AS,x::hs,0,a,l,_,e1,e2=>by
   obtain rfl:b=a:=by simpa using e1
   obtain rfl:x=l:=by simpa using e2
   rw [Ff,if_pos rfl]
 | b::AS,x::hs,k+1,a,l,hn,e1,e2=>by
   have e1':AS[k]? = some a:=by simpa using e1
   have hne:a ≠ b:=by
    rintro rfl;exact (List.nodup_cons.1 hn).1 (Al e1')
   rw [Ff,if_neg hne];exact DE (List.nodup_cons.1 hn).2 e1' (by simpa using e2)
theorem IR {α:Type} {a:α} {l:List α} (h:a ∈ l):∃k:Nat,l[k]? = some a:=List.mem_iff_getElem?.1 h
theorem nV.find (k:nV h W A AS LS ws rs hs) {a:Pa} (ha:a ∈ AS):∃(i:Nat) (l:List Int),AS[i]? = some a/\hs[i]? = some l:=by
 obtain ⟨i,hi⟩:=IR ha;have h1:i<AS.length:=(qJ.1 hi).1;exact ⟨i,hs[i]'(by rw [←k.len];exact h1),hi,tA _⟩
@[go_sem] theorem hpU_W:tF h W ws AS hs W=some (ws.map HJ):=if_pos rfl
@[go_sem] theorem hpU_U:tF (tF h W ws AS hs) W ws' AS hs'=tF h W ws' AS hs':=by
 funext i
 unfold tF
 by_cases e:i=W
 ·rw [if_pos e,if_pos e]
 ·rw [if_neg e,if_neg e]
  by_cases e2:i ∈ AS
  ·rw [if_pos e2,if_neg e,if_pos e2]
  ·rw [if_neg e2,if_neg e,if_neg e2,if_neg e2]
theorem nV.same (k:nV h W A AS LS ws rs hs):tF h W ws AS hs=h:=by
 funext i
 unfold tF
 by_cases e:i=W
 ·rw [if_pos e,e,k.w]
 ·rw [if_neg e]
  by_cases e2:i ∈ AS
  ·rw [if_pos e2];obtain ⟨j,l,h1,h2⟩:=k.find e2;rw [DE k.nd h1 h2,k.gB j i l h1 h2]
  ·rw [if_neg e2]
theorem nV.hA (k:nV h W A AS LS ws rs hs) (ws':List Int) (hs':List (List Int)):tF h W ws' AS hs' A=some (rs.map (xL AS LS)):=by
 unfold tF;rw [if_neg (fun e=>k.wa e.symm),if_neg k.aas,k.a]
theorem nV.up (k:nV h W A AS LS ws rs hs) (hl:hs'.map List.length=hs.map List.length):nV (tF h W ws' AS hs') W A AS LS ws' rs hs':=by
 have hl2:hs'.length=hs.length:=by simpa using congrArg List.length hl
 refine ⟨hpU_W,k.hA _ _,k.wa,k.was,k.aas,k.nd,by rw [hl];exact k.ls,by rw [hl2];exact k.len,fun i a l h1 h2=>?_⟩;unfold tF;have hm:a ∈ AS:=Al h1;rw [if_neg (fun e=>k.was (by rw [←e];exact hm)),if_pos hm];exact DE k.nd h1 h2
theorem nV.get (k:nV h W A AS LS ws rs hs) {i:Int} {l:List Int} (h0:0<=i) (hi:hs[i.toNat]? = some l):∃a,xL AS LS i=.vec a 1 l.length/\h a=some (l.map BK)/\AS[i.toNat]? = some a/\a ≠ W/\a ≠ A:=by
 have h1:i.toNat<AS.length:=by rw [k.len];exact (qJ.1 hi).1
 have h2:=tA h1;refine ⟨AS[i.toNat],?_,k.gB _ _ _ h2 hi,h2,fun e=>k.was (by rw [←e];exact xdw h1),fun e=>k.aas (by rw [←e];exact xdw h1)⟩;unfold xL;rw [if_neg (by omega),Kj,h2,Kj,k.ls,yH,hi];rfl
theorem nV.setW (k:nV h W A AS LS ws rs hs) (ws':List Int):sH h W (ws'.map HJ)=tF h W ws' AS hs:=by
 funext i
 show (if i=W then some (ws'.map HJ) else h i)=if i=W then _ else _
 by_cases e:i=W
 ·rw [if_pos e,if_pos e]
 ·rw [if_neg e,if_neg e];have:=congrFun k.same i;unfold tF at this;rw [if_neg e] at this;exact this.symm
theorem nV.setA (k:nV h W A AS LS ws rs hs) {j:Nat} {a:Pa} (ha:AS[j]? = some a) (l:List Int):sH h a (l.map BK)=tF h W ws AS (hs.set j l):=by
 have hj:j<hs.length:=by rw [←k.len];exact (qJ.1 ha).1
 have hm:a ∈ AS:=Al ha
 funext i
 show (if i=a then some (l.map BK) else h i)=if i=W then _ else _
 by_cases e:i=W
 ·rw [if_neg (fun e2=>k.was (by rw [←e,e2];exact hm)),if_pos e,e,k.w]
 ·rw [if_neg e]
  by_cases e2:i=a
  ·rw [if_pos e2,e2,if_pos hm];exact (DE k.nd ha (by rw [In];simp [hj])).symm
  ·rw [if_neg e2]
   by_cases e3:i ∈ AS
   ·rw [if_pos e3];obtain ⟨n,x,h1,h2⟩:=k.find e3
    have hne:j ≠ n:=by
     rintro rfl;rw [ha] at h1;injection h1 with h1;exact e2 h1.symm
    rw [DE k.nd h1 (by rw [In,if_neg hne];exact h2),k.gB n i x h1 h2]
   ·rw [if_neg e3]
end
theorem RU {l:List Int} {n:Nat} {x:Int}:(l.map HJ).set n (.lit (.int .u64 x))=(l.set n x).map HJ:=by rw [PP];rfl
theorem RV {l:List Int} {n:Nat} {x:Int}:(l.map BK).set n (.lit (.int .u32 x))=(l.set n x).map BK:=by rw [PP];rfl
@[go_sem] theorem cU64_at {x:Int}:HJ x=.lit (.int .u64 x):=rI rfl
@[go_sem] theorem cU32_at {x:Int}:BK x=.lit (.int .u32 x):=rI rfl
attribute [go_sem] RU RV
theorem sC {α:Type} {f:α->V} {l:List α} {i:Int} {x:α} (hx:l[i.toNat]? = some x):∃rest,(l.map f).drop i.toNat=f x::rest:=by
 refine ⟨(l.map f).drop (i.toNat+1),?_⟩;have hlt:i.toNat<l.length:=(qJ.1 hx).1;have e:l[i.toNat]=x:=by rw [tA hlt] at hx;injection hx
 rw [NU (by rw [sY];exact hlt),List.getElem_map,e]
theorem KY {hs:List (List Int)} {j:Nat} {l l':List Int} (hj:hs[j]? = some l) (hl:l'.length=l.length):(hs.set j l').map List.length=hs.map List.length:=by
 rw [PP,hl];apply Nc;intro n;rw [In]
 by_cases e:j=n
 ·subst e;have hlt:j<hs.length:=(qJ.1 hj).1;rw [if_pos rfl,yH,hj];simp [hlt]
 ·rw [if_neg e]
theorem KN:∀(us pre l:List V),us.length=l.length->Dx (pre++l) pre.length us=pre++us
 | [],pre,[],_=>rfl
 | [],_,_::_,h=>by cases h
 | _::_,_,[],h=>by cases h
 | u::us,pre,x::l,h=>by
   have ih:=KN us (pre++[u]) l (by simpa using h);rw [Dx];have e:(pre++x::l).set pre.length u=(pre++[u])++l:=by simp
   rw [e];have e2:pre.length+1=(pre++[u]).length:=by simp
   rw [e2,ih];simp
theorem Fk {α:Type} {n:Nat} {x:α}:(List.replicate n [x]).flatten=List.replicate n x:=by
 induction n with
 | zero=>rfl
 | succ n ih=>rw [xei,xei,Fy,ih];rfl
theorem clr_eq {l:List Int}:Dx (l.map BK) 0 (List.replicate l.length [V.lit (.int .u32 0)]).flatten=(List.replicate l.length 0).map BK:=by
 have:=KN (List.replicate l.length (V.lit (.int .u32 0))) [] (l.map BK) (by simp);rw [Fk,xeo];exact this
def M.fr (m:M) (p0 p1:Pa) (c0:List V) (z:Nat) (c1:List V) (h:Hp):M:={ blk:=fun i=>if i=p0 then some c0 else if i=p1 then some c1 else m.blk i,ver:=fun i=>if i=p0 then (fun o=>if o=4 then z else m.ver p0 o) else m.ver i,tok:=m.tok,gl:=m.gl,hp:=h }
section
variable {m:M} {p0 p1 q:Pa} {c0 c1 c0' c1':List V} {z z':Nat} {h h':Hp}
@[go_sem] theorem Hy {i:Pa}:(m.fr p0 p1 c0 z c1 h).blk i=if i=p0 then some c0 else if i=p1 then some c1 else m.blk i:=rI rfl
@[go_sem] theorem Bb {i:Pa} {o:Nat}:(m.fr p0 p1 c0 z c1 h).ver i o=if i=p0/\o=4 then z else m.ver i o:=by
 show (if i=p0 then (fun o=>if o=4 then z else m.ver p0 o) else m.ver i) o=_
 by_cases e:i=p0/\o=4
 ·rw [if_pos e,if_pos e.1];exact if_pos e.2
 ·rw [if_neg e]
  by_cases e1:i=p0
  ·rw [if_pos e1,e1];exact if_neg fun h=>e ⟨e1,h⟩
  ·rw [if_neg e1]
@[go_sem] theorem fr_gl:(m.fr p0 p1 c0 z c1 h).gl=m.gl:=rI rfl
@[go_sem] theorem fr_hp:(m.fr p0 p1 c0 z c1 h).hp=h:=rI rfl
@[go_sem] theorem fr_fr:(m.fr p0 p1 c0 z c1 h).fr p0 p1 c0' z' c1' h'=m.fr p0 p1 c0' z' c1' h':=by
 refine M.ext_hp (funext fun i=>?_) (funext fun i=>funext fun o=>?_) rfl rfl rfl
 ·simp only [Hy]
  by_cases e:i=p0
  ·rw [if_pos e,if_pos e]
  ·rw [if_neg e,if_neg e]
   by_cases e2:i=p1
   ·rw [if_pos e2,if_neg e,if_pos e2]
   ·rw [if_neg e2,if_neg e,if_neg e2,if_neg e2]
 ·rw [Bb,Bb,Bb]
  by_cases e:i=p0/\o=4
  ·rw [if_pos e,if_pos e]
  ·rw [if_neg e,if_neg e,if_neg e]
theorem Cw (hn:(p1=p0)=False):(m.fr p0 p1 c0 z c1 h).set p1 c1'=m.fr p0 p1 c0 z c1' h:=by
 refine M.ext_hp (funext fun i=>?_) rfl rfl rfl rfl;show (if i=p1 then some c1' else if i=p0 then some c0 else if i=p1 then some c1 else m.blk i)=if i=p0 then some c0 else if i=p1 then some c1' else m.blk i
 by_cases e:i=p1
 ·rw [if_pos e,e,if_neg (by rw [hn];exact fun x=>x),if_pos rfl]
 ·rw [if_neg e,if_neg e,if_neg e]
@[go_sem] theorem frm_seth:(m.fr p0 p1 c0 z c1 h).seth h'=m.fr p0 p1 c0 z c1 h':=rI rfl
@[go_sem] theorem seth_frm:(m.seth h').fr p0 p1 c0 z c1 h=m.fr p0 p1 c0 z c1 h:=rI rfl
@[go_sem] theorem fr_setv:(m.fr p0 p1 c0 z c1 h).setv p0 4 c0' z'=m.fr p0 p1 c0' z' c1 h:=by
 refine M.ext_hp (funext fun i=>?_) (funext fun i=>funext fun o=>?_) rfl rfl rfl
 ·rw [KG,Hy,Hy]
  by_cases e:i=p0
  ·rw [if_pos e,if_pos e]
  ·rw [if_neg e,if_neg e,if_neg e]
 ·rw [KE,Bb,Bb]
  by_cases e:i=p0/\o=4
  ·rw [if_pos e,if_pos e]
  ·rw [if_neg e,if_neg e,if_neg e]
theorem QI (hf:m.fr p0 p1 c0 z c1 m.hp=m):m.seth h=m.fr p0 p1 c0 z c1 h:=by
 have:m.seth h=(m.fr p0 p1 c0 z c1 m.hp).seth h:=by rw [hf]
 rw [this];rfl
theorem Ov:m.seth m.hp=m:=rI rfl
theorem Ar {m2:M} (h0:¬ q <:+ p0) (h1:¬ q <:+ p1):m.back q (m2.fr p0 p1 c0 z c1 h)=(m.back q m2).fr p0 p1 c0 z c1 h:=by
 have s0:¬ q.isSuffixOf p0=true:=fun e=>h0 (Fz.1 e);have s1:¬ q.isSuffixOf p1=true:=fun e=>h1 (Fz.1 e);refine M.ext_hp (funext fun i=>?_) (funext fun i=>funext fun o=>?_) rfl rfl rfl
 ·show (if q.isSuffixOf i then m.blk i else if i=p0 then some c0 else if i=p1 then some c1 else m2.blk i)=if i=p0 then some c0 else if i=p1 then some c1 else if q.isSuffixOf i then m.blk i else m2.blk i
  by_cases e0:i=p0
  ·subst e0;rw [if_neg s0,if_pos rfl,if_pos rfl]
  ·by_cases e1:i=p1
   ·subst e1;rw [if_neg s1,if_neg e0,if_pos rfl,if_neg e0,if_pos rfl]
   ·rw [if_neg e0,if_neg e1,if_neg e0,if_neg e1]
 ·rw [Bb];show (if q.isSuffixOf i then m.ver i else (m2.fr p0 p1 c0 z c1 h).ver i) o=if i=p0/\o=4 then z else (if q.isSuffixOf i then m.ver i else m2.ver i) o
  by_cases e:q.isSuffixOf i=true
  ·rw [if_pos e,if_pos e,if_neg];rintro ⟨rfl,_⟩;exact s0 e
  ·rw [if_neg e,if_neg e,Bb]
theorem Fj (h0:m.blk p0=some c0) (hz:m.ver p0 4=z) (h1:m.blk p1=some c1):m.fr p0 p1 c0 z c1 m.hp=m:=by
 refine M.ext_hp (funext fun i=>?_) (funext fun i=>funext fun o=>?_) rfl rfl rfl
 ·rw [Hy]
  by_cases e:i=p0
  ·rw [if_pos e,e,h0]
  ·rw [if_neg e]
   by_cases e2:i=p1
   ·rw [if_pos e2,e2,h1]
   ·rw [if_neg e2]
 ·rw [Bb]
  by_cases e:i=p0/\o=4
  ·rw [if_pos e,e.1,e.2,hz]
  ·rw [if_neg e]
theorem oO (h1:m.blk p1=some c1):m.setv p0 4 c0 z=m.fr p0 p1 c0 z c1 m.hp:=by
 refine M.ext_hp (funext fun i=>?_) (funext fun i=>funext fun o=>?_) rfl rfl rfl
 ·rw [KG,Hy]
  by_cases e:i=p0
  ·rw [if_pos e,if_pos e]
  ·rw [if_neg e,if_neg e]
   by_cases e2:i=p1
   ·rw [if_pos e2,e2,h1]
   ·rw [if_neg e2]
 ·rw [KE,Bb]
end
end Go.Proofs.YtncembphlfbgoaaGreatDoor.Abs
