/- Lemmas of ours. -/
import Derived.Test.YtncembphlfbgoaaGreatDoorIPGMm
import Derived.Lib.IndexLaws
namespace Go.Proofs.YtncembphlfbgoaaGreatDoor.Abs
open IntKind (i64 u32 u64 u8)
open Go.RowKit
def bE {α:Type} (o:Option α) (Q:α->Prop):Prop:=∃r,o=some r/\Q r
section
variable {α β:Type} {o:Option α} {Q P:α->Prop}
theorem bE.some {r:α} (h:Q r):bE (some r) Q:=⟨r,rfl,h⟩
theorem bE.mono (h:bE o P) (k:∀x,P x->Q x):bE o Q:=by obtain ⟨r,e,hr⟩:=h;exact ⟨r,e,k r hr⟩
theorem bE.bind {f:α->Option β} {R:β->Prop} (h:bE o P) (k:∀x,P x->bE (f x) R):bE (o.bind f) R:=by
 obtain ⟨r,e,hr⟩:=h;subst e;exact k r hr
theorem bE.bind' {f:α->Option β} {R:β->Prop} (h:bE o fun x=>bE (f x) R):bE (o.bind f) R:=h.bind fun _ k=>k
theorem bE.eqn {v:α} {f:α->Option β} {R:β->Prop} (h:o=Option.some v) (k:bE (f v) R):bE (o.bind f) R:=by subst h;exact k
theorem bE.need {c:Prop} [Decidable c] (hc:c) (h:bE o Q):bE (gX c o) Q:=by rw [Fe hc];exact h
theorem bE.ite {c:Prop} [Decidable c] {a b:Option α} (h1:c->bE a Q) (h2:¬ c->bE b Q):bE (if c then a else b) Q:=by
 split
 ·exact h1 ‹_›
 ·exact h2 ‹_›
theorem bE.iteb {b:Bool} {x y:Option α} (h1:b=true->bE x Q) (h2:b=false->bE y Q):bE (if b=true then x else y) Q:=by
 cases b
 ·exact h2 rfl
 ·exact h1 rfl
theorem bE.elim {γ:Type} {s:β ⊕ γ} {f:β->Option α} {g:γ->Option α} (h1:∀x,s=.inl x->bE (f x) Q) (h2:∀x,s=.inr x->bE (g x) Q):bE (s.elim f g) Q:=by
 cases s
 ·exact h1 _ rfl
 ·exact h2 _ rfl
theorem bE.idx {l:List α} {i:Int} (h0:0<=i) (h1:i<l.length) (k:∀x,l[i.toNat]? = Option.some x->Q x):bE (bV l i) Q:=by
 unfold bV;rw [if_pos h0];refine ⟨l[i.toNat]'(by omega),tA (by omega),k _ (tA (by omega))⟩
end
theorem fG {n:Int} (h1:-9223372036854775808<=n) (h2:n<=9223372036854775807):i64.wrap n=n:=by
 rw [IntKind.wrap_i64];omega
theorem take_step' {α:Type} {l:List α} {j:Nat} {x:α} (h:l[j]? = some x):l.take (j+1)=l.take j++[x]:=by
 rw [List.take_add_one,h];rfl
theorem Jg {α:Type} {p:α->Bool} {s:List α} {v:Nat} {x:α} (h:∀y ∈ s.take v,p y=true) (hx:s[v]? = some x) (hp:p x=false):s.takeWhile p=s.take v:=by
 obtain ⟨hv,rfl⟩:=qJ.1 hx;have h1:(s.take v++s.drop v).takeWhile p=s.take v++(s.drop v).takeWhile p:=List.takeWhile_append_of_pos h;rw [List.take_append_drop] at h1;rw [h1,NU hv,List.takeWhile_cons_of_neg (by simp [hp]),Et]
theorem find_at {α:Type} {p:α->Bool} {s:List α} {v:Nat} {x:α} (h:∀y ∈ s.take v,p y=false) (hx:s[v]? = some x) (hp:p x=true):s.find? p=some x:=by
 obtain ⟨hv,rfl⟩:=qJ.1 hx
 have h1:(s.take v++s.drop v).find? p=(s.drop v).find? p:=by
  rw [List.find?_append,List.find?_eq_none.2 (fun y hy=>by simp [h y hy])];rfl
 rw [List.take_append_drop] at h1;rw [h1,NU hv,List.find?_cons_of_pos (by simp [hp])]
theorem Gp {α:Type} {p:α->Bool} {s:List α} (h:∀y ∈ s,p y=true):s.takeWhile p=s:=by
 have:=List.takeWhile_append_of_pos (l₂:=[]) h;simpa using this
set_option linter.unusedVariables false
set_option linter.unusedSimpArgs false
def Rt (c:Int):Bool:=(decide (97<=c) && decide (c<=122)) || (c == 95)
def Ru (c:Int):Bool:=decide (48<=c) && decide (c<=57)
def isBl (c:Int):Bool:=c == 32 || (c == 9 || (c == 13 || c == 10))
def OU (b:UInt8):Bool:=Rt b.toNat || Ru b.toNat
theorem Sf (a:Int):BF a=some (isBl a):=by
 unfold BF isBl;cases a == 32 <;> cases a == 9 <;> cases a == 13 <;> rfl
theorem IW (a:Int):wI a=some (Rt a):=by
 unfold wI Rt;cases decide (97<=a) <;> cases decide (a<=122) <;> simp
theorem LJ (a:Int):yC a=some (Ru a):=by
 unfold yC Ru;cases decide (48<=a) <;> simp
theorem Ft (a b:cQ):gG a b=some (decide (a.take b.length=b)):=by
 unfold gG
 by_cases h:(b.length:Int)<=a.length
 ·rw [if_pos (by simpa using h),Fe ⟨by omega,h⟩];rfl
 ·rw [if_neg (by simpa using h),mS,xdo];intro e;have:=congrArg List.length e;rw [Ei] at this;omega
theorem wS (a b:cQ):oN a b=some (decide (a.take b.length=b)):=by
 unfold oN;rw [Ft];rfl
theorem CG (a:cQ) (c:Int):oM a c=some (Lib.indexByte a c.toNat.toUInt8):=rfl
theorem word_l1 (s:cQ):∀(c:Nat) (v:Nat),s.length<v+c->v<=s.length->(∀y ∈ s.take v,OU y=true)->s.length<4611686018427387904 ->
  bE (uO s c v) (fun r=>match r with | .inl _=>s.takeWhile OU=s | .inr t=>t=s.takeWhile OU):=by
 intro c
 induction c with
 | zero=>intro v h1 h2;omega
 | succ c ih=>
   intro v h1 h2 h3 hs;unfold uO;refine bE.iteb (fun h4=>?_) (fun h4=>?_)
   ·simp only [Fv] at h4;refine (bE.bind (P:=fun y=>∃x,s[v]? = some x/\y=!OU x) ?_) ?_
    ·refine bE.bind' (bE.idx (by omega) h4 fun x hx=>?_);rw [yG] at hx;rw [IW,mS,LJ,mS];refine bE.iteb (fun h5=>.some ⟨x,hx,?_⟩) (fun h5=>.some ⟨x,hx,?_⟩)
     ·simp only [NV] at h5;simp [OU,h5]
     ·simp only [Bool.not_eq_false'] at h5;simp [OU,h5]
    ·rintro y ⟨x,hx,rfl⟩;refine bE.iteb (fun h5=>?_) (fun h5=>?_)
     ·refine bE.need ⟨by omega,by omega⟩ (.some ?_);simp only [NV] at h5;rw [yG];exact (Jg h3 hx h5).symm
     ·simp only [Bool.not_eq_false'] at h5;rw [fG (by omega) (by omega)];refine ih (v+1) (by omega) (by omega) ?_ hs;rw [take_step' hx];intro y hy
      rcases At.1 hy with hy | hy
      ·exact h3 y hy
      ·rw [zN.1 hy];exact h5
   ·refine .some ?_;simp only [decide_eq_false_iff_not] at h4;rw [xed (by omega)] at h3;exact Gp h3
theorem word_eq {n:Nat} {s:cQ} (hn:s.length<n) (hs:s.length<4611686018427387904):DF n s=some (s.takeWhile OU):=by
 unfold DF;obtain ⟨r,e,hr⟩:=word_l1 s n 0 (by omega) (by omega) (by simp) hs;rw [show ((0:Nat):Int)=0 from rfl] at e;rw [e,mS];cases r with
 | inl _=>rw [hr];rfl
 | inr t=>rw [hr];rfl
theorem sign_l1 (s:cQ):∀(c:Nat) (v:Nat),26<v+c->v<=26->(∀y ∈ fO.take v,decide (s.take y.length=y)=false) ->
  bE (uP s c v) (fun r=>match r with | .inl _=>fO.find? (fun y=>decide (s.take y.length=y))=none | .inr t=>fO.find? (fun y=>decide (s.take y.length=y))=some t):=by
 intro c
 induction c with
 | zero=>intro v h1 h2;omega
 | succ c ih=>
   intro v h1 h2 h3;unfold uP;refine bE.iteb (fun h4=>?_) (fun h4=>?_)
   ·simp only [Fv] at h4;refine bE.bind' (bE.idx (by omega) (by have:fO.length=26:=rfl;omega) fun x hx=>?_);rw [yG] at hx;rw [wS,mS];refine bE.iteb (fun h5=>.some ?_) (fun h5=>?_)
    ·exact find_at h3 hx h5
    ·rw [fG (by omega) (by omega)];refine ih (v+1) (by omega) (by omega) ?_;rw [take_step' hx];intro y hy
     rcases At.1 hy with hy | hy
     ·exact h3 y hy
     ·rw [zN.1 hy];exact h5
   ·refine .some ?_;simp only [decide_eq_false_iff_not] at h4;rw [xed (by have:fO.length=26:=rfl;omega)] at h3;exact List.find?_eq_none.2 fun y hy=>by simpa using h3 y hy
def FG (s:cQ):cQ:=(fO.find? (fun y=>decide (s.take y.length=y))).getD []
theorem sign_eq {n:Nat} {s:cQ} (hn:26<n):DG n s=some (FG s):=by
 unfold DG FG;obtain ⟨r,e,hr⟩:=sign_l1 s n 0 (by omega) (by omega) (by simp);rw [show ((0:Nat):Int)=0 from rfl] at e;rw [e,mS];cases r with
 | inl _=>rw [hr];rfl
 | inr t=>rw [hr];rfl
theorem Ma (s:cQ):FG s=[] ∨ 1<=(FG s).length/\(FG s).length<=s.length:=by
 unfold FG;cases h:fO.find? (fun y=>decide (s.take y.length=y)) with
 | none=>exact .inl rfl
 | some y=>
   have h1:=List.find?_some h;have h2:=List.mem_of_find?_eq_some h;simp only [Fv] at h1;have h3:=congrArg List.length h1;rw [Ei] at h3;have h4:(fO.all fun y=>decide (1<=y.length))=true:=by decide
   have h5:=Ga.1 h4 y h2;simp only [Fv] at h5;exact .inr ⟨h5,by show y.length<=_;omega⟩
theorem skip_l1 (s:cQ) (hs:s.length<4611686018427387904):∀(c:Nat) (v:Nat),s.length<v+c->v<=s.length->bE (sQ s c v) (fun r=>∃k:Nat,v<=k/\k<=s.length/\(r=.inl (k:Int) ∨ r=.inr (k:Int))):=by
 intro c
 induction c with
 | zero=>intro v h1 h2;omega
 | succ c ih=>
   intro v h1 h2;unfold sQ;refine bE.iteb (fun h4=>?_) (fun h4=>.some ⟨v,by omega,h2,.inl rfl⟩);simp only [Fv] at h4;refine bE.bind' (bE.idx (by omega) h4 fun x hx=>?_);rw [yG] at hx;rw [Sf,mS];refine bE.iteb (fun h5=>?_) (fun h5=>?_)
   ·rw [fG (by omega) (by omega)];exact (ih (v+1) (by omega) (by omega)).mono fun r ⟨k,h6,h7,h8⟩=>⟨k,by omega,h7,h8⟩
   ·refine bE.need ⟨by omega,by omega⟩ ?_;rw [yG,wS,mS];refine bE.iteb (fun h6=>?_) (fun h6=>.some ⟨v,by omega,h2,.inr rfl⟩);simp only [Fv] at h6;refine bE.need ⟨by omega,by omega⟩ ?_;rw [CG,mS];refine bE.iteb (fun h7=>.some ⟨s.length,h2,by omega,.inr rfl⟩) (fun h7=>?_);simp only [decide_eq_false_iff_not,Int.not_lt] at h7;obtain ⟨o,ho⟩:=Int.eq_ofNat_of_zero_le h7;rw [ho];obtain ⟨h8,h9⟩:=Lib.indexByte_some ho;have h10:o<(s.drop v).length:=(qJ.1 h8).1;rw [HR] at h10
    have h11:o ≠ 0:=by
     rintro rfl;have h12:=congrArg (·[0]?) h6;simp only [xek (show 0<([47,47]:cQ).length by decide)] at h12;rw [h8] at h12
     revert h12;decide
    rw [fG (by omega) (by omega)];exact (ih (v+o) (by omega) (by omega)).mono fun r ⟨k,h6,h7,h8⟩=>⟨k,by omega,h7,h8⟩
theorem KA {n:Nat} {s:cQ} {v:Nat} (hs:s.length<4611686018427387904) (hn:s.length<v+n) (hv:v<=s.length):bE (BE n s v) fun r=>∃k:Nat,v<=k/\k<=s.length/\r=k:=by
 unfold BE;refine (skip_l1 s hs n v hn hv).bind fun r ⟨k,h1,h2,h3⟩=>?_
 rcases h3 with rfl | rfl <;> exact .some ⟨k,h1,h2,rfl⟩
theorem Qt (x:cQ × Bool) (hs:x.1.length<4611686018427387904):∀(c:Nat) (t:Int) (v:Nat),x.1.length<v+c->v<=x.1.length->bE (tE x c t v) fun _=>True:=by
 intro c
 induction c with
 | zero=>intro t v h1 h2;omega
 | succ c ih=>
   intro t v h1 h2;unfold tE;refine bE.iteb (fun h4=>?_) (fun h4=>.some trivial);simp only [Fv] at h4;refine bE.need (by decide) ?_;refine bE.bind' (bE.idx (by omega) h4 fun y hy=>?_);rw [CG,mS];refine bE.bind (P:=fun _=>True) (bE.iteb (fun _=>.some trivial) fun _=>.some trivial) fun y _=>?_;refine bE.iteb (fun _=>.some trivial) fun _=>?_;rw [fG (n:=(v:Int)+1) (by omega) (by omega)];exact ih _ (v+1) (by omega) (by omega)
theorem Qs (s:cQ) (hs:s.length<4611686018427387904):∀(c:Nat) (t:Int) (v:Nat),s.length<v+c->v<=s.length->bE (tD s c t v) fun _=>True:=by
 intro c
 induction c with
 | zero=>intro t v h1 h2;omega
 | succ c ih=>
   intro t v h1 h2;unfold tD;refine bE.iteb (fun h4=>?_) (fun h4=>.some trivial);simp only [Fv] at h4;refine bE.need (by decide) ?_;refine bE.bind' (bE.idx (by omega) h4 fun y hy=>?_);rw [CG,mS];refine bE.bind (P:=fun _=>True) (bE.iteb (fun _=>.some trivial) fun _=>.some trivial) fun y _=>?_;refine bE.iteb (fun _=>.some trivial) fun _=>?_;rw [fG (n:=(v:Int)+1) (by omega) (by omega)];exact ih _ (v+1) (by omega) (by omega)
theorem Ka (a b:cQ):qC a b=some (if a.take b.length=b then (a.drop b.length,true) else (a,false)):=by
 unfold qC kE;rw [Ft,mS]
 by_cases h:a.take b.length=b
 ·rw [DU h,if_neg (by decide),if_pos h,Fe]
  ·rfl
  ·have:=congrArg List.length h;rw [Ei] at this;omega
 ·rw [xdo h,if_pos (by decide),if_neg h];rfl
theorem Oa {n:Nat} {s:cQ} (hs:s.length<4611686018427387904) (hn:s.length<n):bE (BD n s) fun _=>True:=by
 unfold BD;rw [Ka,mS]
 have hl:∀x:cQ × Bool,x=(if s.take ([48,120]:cQ).length=([48,120]:cQ) then (s.drop ([48,120]:cQ).length,true) else (s,false))->x.1.length<=s.length:=by
  rintro x rfl
  split
  ·rw [HR];omega
  ·exact tJ _
 generalize (if s.take ([48,120]:cQ).length=([48,120]:cQ) then (s.drop ([48,120]:cQ).length,true) else (s,false))=x at hl
 have hx:=hl x rfl;refine bE.iteb (fun _=>?_) fun _=>?_
 ·exact (Qt x (by omega) n 0 0 (by omega) (by omega)).bind fun r _=>bE.elim (fun _ _=>.some trivial) fun _ _=>.some trivial
 ·exact (Qs s (by omega) n 0 0 (by omega) (by omega)).bind fun r _=>bE.elim (fun _ _=>.some trivial) fun _ _=>.some trivial
theorem QZ {n:Nat} {s:cQ} {v:Nat} (hs:s.length<4611686018427387904) (hn:s.length<n) (hn2:26<n) (hv:v<s.length) :
  bE (DH n s v) fun r=>r.2=0->(r.1.bX=1 ∨ r.1.bX=2 ∨ r.1.bX=3)/\r.1.fR=v/\1<=r.1.cP.length/\v+r.1.cP.length<=s.length:=by
 unfold DH;refine bE.need ⟨by omega,by omega⟩ ?_;rw [yG,word_eq (by rw [HR];omega) (by rw [HR];omega),mS];refine bE.bind' (bE.idx (by omega) (by omega) fun x hx=>?_);rw [yG] at hx
 have hd:s.drop v=x::s.drop (v+1):=by
  obtain ⟨h1,rfl⟩:=qJ.1 hx;exact NU h1
 have hle:((s.drop v).takeWhile OU).length<=s.length - v:=by
  have:=(List.takeWhile_prefix (l:=s.drop v) OU).length_le
  rwa [HR] at this
 have hpos:OU x=true->1<=((s.drop v).takeWhile OU).length:=by
  intro h;rw [hd,List.takeWhile_cons_of_pos h,jC];omega
 rw [IW,mS];refine bE.iteb (fun h1=>bE.iteb (fun _=>.some fun h=>by cases h) fun _=>.some fun _=>⟨.inl rfl,rfl,hpos (by simp [OU,h1]),by simp only;omega⟩) fun h1=>?_;rw [LJ,mS];refine bE.iteb (fun h2=>?_) fun h2=>?_
 ·refine (Oa (by omega) (by omega)).bind fun y _=>bE.iteb (fun _=>.some fun h=>by cases h) fun _=>.some fun _=>⟨.inr (.inl rfl),rfl,hpos (by simp [OU,h2]),by simp only;omega⟩
 ·refine bE.need ⟨by omega,by omega⟩ ?_;rw [sign_eq hn2,mS];refine bE.iteb (fun _=>.some fun h=>by cases h) fun h3=>.some fun _=>⟨.inr (.inr rfl),rfl,?_⟩;have h4:=Ma (s.drop v);simp only [decide_eq_false_iff_not] at h3
  rcases h4 with h4 | h4
  ·exact absurd h4 h3
  ·rw [HR] at h4;exact ⟨h4.1,by simp only;omega⟩
def LD (l:List dM):Prop:=∀t ∈ l,(t.bX=1 ∨ t.bX=2 ∨ t.bX=3)/\t.cP ≠ []
theorem PC {n:Nat} {s:cQ} (hs:s.length<=65536) (hn:s.length<n) (hn2:26<n):∀(c:Nat) (l:List dM) (v:Nat),s.length<v+c->v<=s.length->LD l->l.length<=v ->
  bE (sD n s c l v) fun r=>match r with | .inl l=>LD l/\l.length<=s.length | .inr x=>x.2.1 ≠ 0:=by
 intro c
 induction c with
 | zero=>intro l v h1 h2;omega
 | succ c ih=>
   intro l v h1 h2 h3 h4;unfold sD;refine bE.iteb (fun h5=>?_) fun h5=>.some ⟨h3,by omega⟩;simp only [Fv] at h5;refine (QZ (by omega) hn hn2 (by omega)).bind fun x hx=>?_;refine bE.iteb (fun h6=>.some (by simpa using h6)) fun h6=>?_;obtain ⟨k1,k2,k3,k4⟩:=hx (by simpa using h6);refine bE.need (by simp only [uW];omega) ?_;rw [fG (by omega) (by omega)];refine (KA (v:=v+x.1.cP.length) (by omega) (by omega) k4).bind fun r ⟨k,h7,h8,h9⟩=>?_;subst h9;refine ih _ k (by omega) h8 ?_ (by simp only [nC,uW];omega);intro t ht
   rcases At.1 ht with ht | ht
   ·exact h3 t ht
   ·rw [zN.1 ht];exact ⟨k1,fun e=>by rw [e] at k3;simp at k3⟩
theorem MT {n:Nat} {s:cQ} (hn:s.length<n) (hn2:26<n):bE (zE n s) fun r=>r.2.1=0->∃l,r.1=l++[⟨4,s.length,[],0⟩]/\LD l/\l.length<=s.length/\s.length<=65536:=by
 unfold zE;refine bE.iteb (fun _=>.some fun h=>by cases h) fun h1=>?_;simp only [decide_eq_false_iff_not,Int.not_lt] at h1;refine (KA (v:=0) (by omega) (by omega) (by omega)).bind fun r ⟨k,h2,h3,h4⟩=>?_;subst h4;refine (PC (by omega) hn hn2 n [] k (by omega) h3 (by simp [LD]) (by simp)).bind fun y hy=>?_;refine bE.elim (fun z e=>?_) (fun z e=>?_)
 ·subst e;refine bE.need (by simp only [uW];omega) (.some fun _=>⟨z,rfl,hy.1,hy.2,by omega⟩)
 ·subst e;exact .some fun h=>absurd h hy
abbrev Nd:=aB
mutual
def sz:aB->Int
 | ⟨_,_,_,_,l⟩=>1+tZ l
def tZ:List aB->Int
 | []=>0
 | x::l=>sz x+tZ l
end
theorem gO {a b:Int} {c:cQ} {d:Int} {l:List aB}:sz ⟨a,b,c,d,l⟩=1+tZ l:=by rw [sz]
theorem mU:tZ []=0:=by rw [tZ]
theorem tM {x:aB} {l:List aB}:tZ (x::l)=sz x+tZ l:=by rw [tZ]
theorem Dq (x:aB):sz x=1+tZ x.aM:=by cases x;rw [sz]
theorem DV {a b:List aB}:tZ (a++b)=tZ a+tZ b:=by
 induction a with
 | nil=>rw [uG,mU,Int.zero_add]
 | cons x a ih=>rw [BO,tM,tM,ih,Int.add_assoc]
theorem rK {x:aB}:tZ [x]=sz x:=by rw [tM,mU,Int.add_zero]
theorem Gf {x y:aB}:tZ [x,y]=sz x+sz y:=by rw [tM,rK]
theorem Ir {x y z:aB}:tZ [x,y,z]=sz x+sz y+sz z:=by rw [tM,Gf,Int.add_assoc]
mutual
theorem pU:∀x:aB,1<=sz x
 | ⟨_,_,_,_,l⟩=>by rw [sz];have:=oE l;omega
theorem oE:∀l:List aB,(l.length:Int)<=tZ l
 | []=>by rw [tZ];exact Qf _
 | x::l=>by rw [tZ,jC];have:=oE l;have:=pU x;omega
end
theorem GW {l:List aB} {k:aB} (h:k ∈ l):sz k<=tZ l:=by
 obtain ⟨a,b,rfl⟩:=xdm h;rw [DV,tM];have h1:=oE a;have h2:=oE b;omega
def BT:List cQ:=[[124],[94],[38],[61,61],[60],[60,60],[62,62],[60,60,60],[43],[45],[42],[47],[37]]
inductive WE:Nd->Prop
 | num {a n}:WE ⟨14,a,[],n,[]⟩
 | ref {a s}:WE ⟨15,a,s,0,[]⟩
 | index {a s x}:WE x->WE ⟨16,a,s,0,[x]⟩
 | un {a s x}:(s=[126] ∨ s=[45])->WE x->WE ⟨18,a,s,0,[x]⟩
 | bin {a s x y}:s ∈ BT->WE x->WE y->WE ⟨19,a,s,0,[x,y]⟩
 | call {a s xs}:(∀x ∈ xs,WE x)->WE ⟨17,a,s,0,xs⟩
inductive WS:Nd->Prop
 | bind {k a s x}:(k=5 ∨ k=6)->WE x->WS ⟨k,a,s,0,[x]⟩
 | arr {a s n}:WS ⟨7,a,s,n,[]⟩
 | ret {a x}:WE x->WS ⟨13,a,[],0,[x]⟩
 | choice {a c b ys}:WE c->(∀y ∈ ys,WS y)->WS ⟨11,a,[],0,[c,⟨4,b,[],0,ys⟩]⟩
 | choice2 {a c b ys b2 zs}:WE c->(∀y ∈ ys,WS y)->(∀z ∈ zs,WS z)->WS ⟨11,a,[],0,[c,⟨4,b,[],0,ys⟩,⟨4,b2,[],0,zs⟩]⟩
 | loop {a s x y b ys}:WE x->WE y->(∀y ∈ ys,WS y)->WS ⟨12,a,s,0,[x,y,⟨4,b,[],0,ys⟩]⟩
 | call {a s xs}:(∀x ∈ xs,WE x)->WS ⟨10,a,s,0,xs⟩
 | put {a s i x}:WE i->WE x->WS ⟨9,a,s,0,[i,x]⟩
 | set {a s x}:WE x->WS ⟨8,a,s,0,[x]⟩
inductive WP:Nd->Prop
 | word {a s k}:(k=1 ∨ k=2 ∨ k=3)->WP ⟨3,a,s,k,[]⟩
 | arr {a s b n}:WP ⟨3,a,s,4,[⟨14,b,[],n,[]⟩]⟩
inductive WF:Nd->Prop
 | fn {a s r ps b ys}:(∀p ∈ ps,WP p)->(∀y ∈ ys,WS y)->WF ⟨2,a,s,r,ps++[⟨4,b,[],0,ys⟩]⟩
theorem Rh {α:Type} {x:α}:x ∈ [x]:=zN.2 rfl
structure PI (p:aC):Prop where
 lo:0<=p.gB
 hi:p.gB<p.l_.length
 big:p.l_.length<=65537
 toks:∃l z,p.l_=l++[z]/\LD l/\z.bX=4
structure Gd (p p':aC):Prop where
 inv:PI p'
 l:p'.l_=p.l_
 at':p.gB<=p'.gB
 err':p.e_ ≠ 0->p'.e_=p.e_/\p'.gB=p.gB
structure GA (p p':aC):Prop extends Gd p p' where
 adv:p'.e_=0->p.gB<p'.gB
theorem Gd.err {p q:aC} (h:Gd p q):p.e_ ≠ 0->q.e_ ≠ 0/\q.gB=p.gB:=fun he=>⟨by rw [(h.err' he).1];exact he,(h.err' he).2⟩
theorem Gd.refl {p:aC} (h:PI p):Gd p p:=⟨h,rfl,Qf _,fun h=>⟨rfl,rfl⟩⟩
theorem Gd.trans {p q r:aC} (h:Gd p q) (k:Gd q r):Gd p r:=⟨k.inv,k.l.trans h.l,Int.le_trans h.at' k.at',fun he=>⟨(k.err' (h.err he).1).1.trans (h.err' he).1,(k.err' (h.err he).1).2.trans (h.err' he).2⟩⟩
theorem Gd.e0 {p q:aC} (h:Gd p q) (he:q.e_=0):p.e_=0:=Classical.byContradiction fun hn=>(h.err hn).1 he
theorem Gd.ga {p q r:aC} (h:Gd p q) (k:GA q r):GA p r:=⟨h.trans k.toGd,fun he=>Int.lt_of_le_of_lt h.at' (k.adv he)⟩
theorem GA.gd {p q r:aC} (h:GA p q) (k:Gd q r):GA p r:=⟨h.toGd.trans k,fun he=>Int.lt_of_lt_of_le (h.adv (k.e0 he)) k.at'⟩
theorem GA.ga {p q r:aC} (h:GA p q) (k:GA q r):GA p r:=h.gd k.toGd
theorem Gd.len {p q:aC} (h:Gd p q):q.l_.length=p.l_.length:=by rw [h.l]
section
variable {p:aC} {n:Nat}
theorem uJ (h:PI p):bE (eU p) fun t=>t.bX ≠ 4->p.gB+1<p.l_.length:=by
 unfold eU;refine bE.bind' (bE.idx h.lo h.hi fun x hx=>.some fun hk=>?_);obtain ⟨l,z,h1,h2,h3⟩:=h.toks;have h4:=h.lo;have h5:=h.hi;rw [h1] at hx h5 ⊢;simp only [nC,uW] at h5 ⊢
 by_cases h6:p.gB.toNat=l.length
 ·rw [GP (by omega),h6,xdx] at hx;simp at hx
  subst hx;exact absurd h3 hk
 ·omega
theorem DM (h:PI p) {e:Int} (he:e ≠ 0):bE (iA p e) fun q=>Gd p q/\q.e_ ≠ 0:=by
 unfold iA;refine bE.iteb (fun h1=>?_) fun h1=>.some ⟨.refl h,by simpa using h1⟩;simp only [beq_iff_eq] at h1;exact (uJ h).bind fun t _=>.some ⟨⟨⟨h.lo,h.hi,h.big,h.toks⟩,rfl,Qf _,fun hn=>absurd h1 hn⟩,he⟩
theorem wW (h:PI p) {k:Int}:bE (fE p k) fun r=>Gd p r.2/\r.1=⟨k,r.1.fR,[],0,[]⟩:=by
 unfold fE;have hp:PI { p with sP:=(i64.wrap (p.sP+(1:Int))) }:=⟨h.lo,h.hi,h.big,h.toks⟩;have hg:Gd p { p with sP:=(i64.wrap (p.sP+(1:Int))) }:=⟨hp,rfl,Qf _,fun hn=>⟨rfl,rfl⟩⟩;refine bE.iteb (fun h1=>?_) fun h1=>?_
 ·exact (DM hp (by decide)).bind fun q ⟨g,_⟩=>(uJ g.inv).bind fun t _=>.some ⟨hg.trans g,rfl⟩
 ·exact (uJ hp).bind fun t _=>.some ⟨hg,rfl⟩
theorem Sv (l:List cQ) (s:cQ) (hl:l.length<1000):∀(c:Nat) (v:Nat),l.length<v+c->v<=l.length->(∀y ∈ l.take v,decide (s=y)=false) ->
  bE (fY l s c v) fun r=>match r with | .inl _=>(l.any fun y=>decide (s=y))=false | .inr k=>0<=k/\(l.any fun y=>decide (s=y))=true:=by
 intro c
 induction c with
 | zero=>intro v h1 h2;omega
 | succ c ih=>
   intro v h1 h2 h3;unfold fY;refine bE.iteb (fun h4=>?_) (fun h4=>?_)
   ·simp only [Fv] at h4;refine bE.bind' (bE.idx (by omega) h4 fun x hx=>?_);rw [yG] at hx;refine bE.iteb (fun h5=>.some ⟨by omega,?_⟩) (fun h5=>?_)
    ·exact xea.2 ⟨x,Al hx,h5⟩
    ·rw [fG (by omega) (by omega)];refine ih (v+1) (by omega) (by omega) ?_;rw [take_step' hx];intro y hy
     rcases At.1 hy with hy | hy
     ·exact h3 y hy
     ·rw [zN.1 hy];exact h5
   ·refine .some ?_;simp only [decide_eq_false_iff_not] at h4;rw [xed (by omega)] at h3;exact List.any_eq_false.2 fun y hy=>by simp [h3 y hy]
def Rs (s:cQ):Bool:=cN.any fun y=>decide (s=y)
theorem NL {s:cQ} (hn:13<n):wD n s=some (Rs s):=by
 unfold wD jO kY;obtain ⟨r,e,hr⟩:=Sv cN s (by decide) n 0 (by have:cN.length=13:=rfl;omega) (by omega) (by simp);rw [show ((0:Nat):Int)=0 from rfl] at e;rw [e,mS];unfold Rs;cases r with
 | inl _=>rw [hr];rfl
 | inr k=>
   rw [hr.2];simp only [Es,mS,Option.some.injEq,Fv];exact hr.1
theorem Ht (h:PI p) (hn:13<n) {s:cQ}:bE (iZ n p s) fun b=>b=true->p.e_=0/\p.gB+1<p.l_.length:=by
 unfold iZ;refine (uJ h).bind fun t ht=>?_;refine bE.bind (P:=fun b=>b=true->p.e_=0/\p.gB+1<p.l_.length) ?_ fun b hb=>.some hb;refine bE.iteb (fun h1=>?_) fun h1=>.some fun h=>by cases h
 simp only [beq_iff_eq] at h1;refine bE.iteb (fun h2=>?_) fun h2=>.some fun h=>by cases h
 refine bE.iteb (fun h3=>.some fun _=>⟨h1,ht ?_⟩) fun h3=>?_
 ·simp only [beq_iff_eq] at h3;omega
 refine bE.iteb (fun h4=>?_) fun h4=>.some fun h=>by cases h
 rw [NL hn,mS];refine .some fun _=>⟨h1,ht ?_⟩;simp only [beq_iff_eq] at h4;omega
theorem Jh (h:PI p) (he:p.e_=0) (hk:p.gB+1<p.l_.length):i64.wrap (p.gB+(1:Int))=p.gB+1/\GA p { p with gB:=p.gB+1 }:=by
 have h1:=h.lo;have h2:=h.big;refine ⟨fG (by omega) (by omega),⟨⟨⟨by simp only;omega,by simpa using hk,h.big,h.toks⟩,rfl,by simp only;omega,fun hn=>absurd he hn⟩,fun _=>by simp only;omega⟩⟩
theorem kF (h:PI p) (hn:13<n) {s:cQ}:bE (cB n p s) fun r=>Gd p r.2/\(r.1=true->p.e_=0/\GA p r.2/\r.2.e_=0)/\(r.1=false->r.2=p):=by
 unfold cB;refine (Ht h hn).bind fun b hb=>?_;refine bE.iteb (fun h1=>.some ⟨.refl h,(fun h=>by cases h),fun _=>rfl⟩) fun h1=>?_;simp only [Bool.not_eq_false'] at h1;obtain ⟨h2,h3⟩:=hb h1;obtain ⟨h4,h5⟩:=Jh h h2 h3;rw [h4];exact .some ⟨h5.toGd,fun _=>⟨h2,h5,h2⟩,fun h=>by cases h⟩
theorem iQ (h:PI p) (hn:13<n) {s:cQ}:bE (bS n p s) fun q=>GA p q:=by
 unfold bS;refine (kF h hn).bind fun r ⟨h1,h2,h3⟩=>?_;refine bE.iteb (fun h4=>?_) fun h4=>.some (h2 (by simpa using h4)).2.1;exact (DM h1.inv (by decide)).bind fun q ⟨g,he⟩=>.some ⟨h1.trans g,fun h=>absurd h he⟩
theorem zD (h:PI p) (hn:13<n):bE (eP n p) fun r=>GA p r.2:=by
 unfold eP;refine (uJ h).bind fun t ht=>?_;refine bE.bind (P:=fun b=>b=false->p.e_=0/\t.bX=1) ?_ fun b hb=>?_
 ·refine bE.iteb (fun h1=>.some fun h=>by cases h) fun h1=>?_;refine bE.iteb (fun h2=>.some fun h=>by cases h) fun h2=>?_;rw [NL hn,mS];exact .some fun _=>⟨by simpa using h1,by simpa using h2⟩
 ·refine bE.iteb (fun h1=>?_) fun h1=>?_
  ·exact (DM h (by decide)).bind fun q ⟨g,he⟩=>.some ⟨g,fun h=>absurd h he⟩
  ·obtain ⟨h2,h3⟩:=hb h1;obtain ⟨h4,h5⟩:=Jh h h2 (ht (by omega));rw [h4];exact .some h5
theorem Hj (h:PI p):bE (kN p) fun r=>GA p r.2:=by
 unfold kN;refine (uJ h).bind fun t ht=>?_;refine bE.bind (P:=fun b=>b=false->p.e_=0/\t.bX=2) ?_ fun b hb=>?_
 ·refine bE.iteb (fun h1=>.some fun h=>by cases h) fun h1=>.some fun h=>⟨by simpa using h1,by simpa using h⟩
 ·refine bE.iteb (fun h1=>?_) fun h1=>?_
  ·exact (DM h (by decide)).bind fun q ⟨g,he⟩=>.some ⟨g,fun h=>absurd h he⟩
  ·obtain ⟨h2,h3⟩:=hb h1;obtain ⟨h4,h5⟩:=Jh h h2 (ht (by omega));rw [h4];exact .some h5
theorem KB (h:PI p) (hn:13<n):bE (mN n p) fun r=>GA p r.2:=by
 unfold mN;exact (iQ h hn).bind fun q g1=>(Hj g1.inv).bind fun r g2=>(iQ g2.inv hn).bind fun s g3=>.some (g1.ga (g2.ga g3))
theorem QW (hn:13<n):∀(c:Nat) (v:Nat) (p:aC) (x y:aB),3<v+c->v<=3->PI p->bE (jF n c v p x y) fun r=>match r with | .inl s=>Gd p s.1/\s.2.2=y | .inr s=>Gd p s.2/\∃k,(k=1 ∨ k=2 ∨ k=3)/\s.1={ y with mM:=k }:=by
 intro c
 induction c with
 | zero=>intro v p x y h1 h2;omega
 | succ c ih=>
   intro v p x y h1 h2 h;unfold jF;refine bE.iteb (fun h4=>?_) fun h4=>.some ⟨.refl h,rfl⟩;simp only [Fv] at h4;refine bE.bind' (bE.idx (by omega) (by have:qY.length=3:=rfl;omega) fun z hz=>?_);refine (kF h hn).bind fun r ⟨g1,g2,g3⟩=>?_;refine bE.iteb (fun _=>.some ⟨g1,_,?_,rfl⟩) fun _=>?_
   ·have h5:v=0 ∨ v=1 ∨ v=2:=by omega
    rcases h5 with rfl | rfl | rfl <;> decide
   rw [fG (by omega) (by omega)];refine (ih (v+1) r.2 x y (by omega) (by omega) g1.inv).mono fun s hs=>?_;cases s with
   | inl s=>exact ⟨g1.trans hs.1,hs.2⟩
   | inr s=>exact ⟨g1.trans hs.1,hs.2⟩
theorem OQ (h:PI p) (hn:13<n):bE (oI n p) fun r=>GA p r.2/\(r.2.e_=0->WP r.1/\sz r.1<=r.2.gB - p.gB):=by
 unfold oI;refine (wW h).bind fun r ⟨g1,e1⟩=>(zD g1.inv hn).bind fun s g2=>(iQ g2.inv hn).bind fun q g3=>?_;refine (QW hn n 0 q _ _ (by omega) (by omega) g3.inv).bind fun y hy=>?_;have g4:=g1.ga (g2.ga g3);refine bE.elim (fun z e=>?_) fun z e=>?_
 ·subst e;obtain ⟨hy,hz⟩:=hy;refine (wW hy.inv).bind fun r ⟨g5,e5⟩=>(KB g5.inv hn).bind fun s g6=>.some ⟨(g4.gd hy).ga (g5.ga g6),fun e=>?_⟩;have m6:=g6.adv e;have e6:=(g5.ga g6).toGd.e0 e;have e7:=hy.e0 e6;have m3:=g3.adv e7;have m2:=g2.adv (g3.toGd.e0 e7);have m1:=g1.at';have m5:=g5.at';have m4:=hy.at';rw [hz,e1,e5];exact ⟨.arr,by rw [gO,rK,gO,mU];simp only;omega⟩
 ·subst e;obtain ⟨hy,k,hk,hz⟩:=hy;refine .some ⟨g4.gd hy,fun e=>?_⟩;have e7:=hy.e0 e;have m3:=g3.adv e7;have m1:=g1.at';have m2:=g2.at';have m4:=hy.at';rw [hz,e1];exact ⟨.word hk,by rw [gO,mU];omega⟩
theorem Id (hn:13<n):∀(c:Nat) (l:List aB) (p:aC),PI p->(p.l_.length:Int) - p.gB<c->(l.length:Int)<=p.gB->bE (gM n c l p) fun r=>Gd p r.2/\(r.1.length:Int)<=r.2.gB+1/\(r.2.e_=0->(∀x ∈ l,WP x)->(∀x ∈ r.1,WP x)/\tZ r.1<=tZ l+(r.2.gB - p.gB)):=by
 intro c
 induction c with
 | zero=>intro l p h h1 h2;have:=h.hi;omega
 | succ c ih=>
   intro l p h h1 h2;have k1:=h.lo;have k2:=h.hi;have k3:=h.big;unfold gM;refine bE.iteb (fun h4=>?_) fun h4=>.some ⟨.refl h,by simp only;omega,fun _ hl=>⟨hl,by simp only;omega⟩⟩;refine (OQ h hn).bind fun x ⟨g1,gx⟩=>?_;refine bE.need (by simp only [uW];omega) ?_;refine (kF g1.inv hn).bind fun r ⟨g2,g3,_⟩=>?_;have m1:=g1.at';have m2:=g2.at'
   have hx:r.2.e_=0->(∀x ∈ l,WP x)->(∀y ∈ l++[x.1],WP y)/\tZ (l++[x.1])<=tZ l+(r.2.gB - p.gB):=fun e hl=>by
    obtain ⟨w1,w2⟩:=gx (g2.e0 e);refine ⟨fun y hy=>?_,by rw [DV,rK];omega⟩
    rcases At.1 hy with hy | hy
    ·exact hl y hy
    ·obtain rfl:=zN.1 hy;exact w1
   refine bE.iteb (fun h5=>.some ⟨g1.toGd.trans g2,by simp only [nC,uW];omega,hx⟩) fun h5=>?_;have g4:=g3 (by simpa using h5);have g5:=g1.ga g4.2.1;have m3:=g1.adv g4.1;have m4:=g1.toGd.trans g2;refine (ih _ r.2 g2.inv (by rw [m4.len];omega) (by simp only [nC,uW];omega)).mono fun s ⟨s1,s2,s3⟩=>⟨g5.toGd.trans s1,s2,fun e hl=>?_⟩;obtain ⟨v1,v2⟩:=hx (s1.e0 e) hl;obtain ⟨v3,v4⟩:=s3 e v1;exact ⟨v3,by omega⟩
theorem Hn (h:PI p) (hn:13<n) (hb:(p.l_.length:Int) - p.gB<n):bE (gI n p) fun r=>GA p r.2/\r.1.length<=65538/\(r.2.e_=0->(∀x ∈ r.1,WP x)/\tZ r.1<=r.2.gB - p.gB):=by
 unfold gI;refine (iQ h hn).bind fun q g1=>(kF g1.inv hn).bind fun r ⟨g2,g3,g4⟩=>?_;have m1:=g1.at';have m2:=g2.at';refine bE.iteb (fun h5=>.some ⟨g1.gd g2,by simp,fun _=>⟨(fun x hx=>nomatch hx),by rw [mU];simp only;omega⟩⟩) fun h5=>?_;have g5:=g1.gd g2;have k0:=g2.inv.lo;refine bE.bind (P:=fun y=>Gd r.2 y.2/\y.1.length<=65538/\(y.2.e_=0->(∀x ∈ y.1,WP x)/\tZ y.1<=y.2.gB - r.2.gB)) ?_ fun y ⟨g6,m3,m4⟩=>?_
 ·refine (Id hn n [] r.2 g2.inv (by rw [g5.len];omega) (by simpa using k0)).bind fun y ⟨y1,y2,y3⟩=>.some ⟨y1,?_,fun e=>?_⟩
  ·have k1:=y1.inv.hi;have k2:=y1.inv.big;show y.1.length<=_;omega
  ·obtain ⟨w1,w2⟩:=y3 e (fun x hx=>nomatch hx);exact ⟨w1,by rw [mU] at w2;simp only;omega⟩
 ·refine (iQ g6.inv hn).bind fun s g7=>.some ⟨(g5.gd g6).ga g7,m3,fun e=>?_⟩;obtain ⟨w1,w2⟩:=m4 (g7.toGd.e0 e);have m5:=g7.at';exact ⟨w1,by simp only;omega⟩
theorem Lv (h:PI p) {a:Int}:bE (mP p a) fun q=>Gd p q:=by
 unfold mP;refine bE.iteb (fun _=>?_) fun _=>.some (.refl h);exact (DM h (by decide)).bind fun q ⟨g,_⟩=>.some g
theorem QS (h:PI p) (hn:13<n) (x:List cQ) (hx:x.length=3):∀(c:Nat) (v:Nat),3<v+c->v<=3->bE (jZ n x p c v) fun r=>match r with | .inl _=>True | .inr t=>p.e_=0/\t ∈ x/\t ≠ []:=by
 intro c
 induction c with
 | zero=>intro v h1 h2;omega
 | succ c ih=>
   intro v h1 h2;unfold jZ;refine bE.iteb (fun h4=>?_) fun h4=>.some trivial;simp only [Fv] at h4;refine bE.bind' (bE.idx (by omega) (by omega) fun z hz=>?_);refine bE.bind (P:=fun b=>b=true->p.e_=0/\z ≠ []) ?_ fun b hb=>?_
   ·refine bE.iteb (fun hz0=>?_) fun _=>.some fun h=>by cases h
    exact (Ht h hn).bind fun b hb=>.some fun h=>⟨(hb h).1,by simpa using hz0⟩
   ·refine bE.iteb (fun h5=>.some ⟨(hb h5).1,Al hz,(hb h5).2⟩) fun h5=>?_;rw [fG (by omega) (by omega)];exact ih (v+1) (by omega) (by omega)
theorem IC (h:PI p) (hn:13<n) {a:Int} (h0:0<=a) (h1:a<7):bE (mO n p a) fun t=>t ≠ []->p.e_=0/\t ∈ BT:=by
 unfold mO;refine bE.bind' (bE.idx h0 (by have:dH.length=7:=rfl;omega) fun x hx=>?_)
 have hl:x.length=3:=by
  have:(dH.all fun y=>y.length == 3)=true:=by decide
  simpa using Ga.1 this x (Al hx)
 refine (QS h hn x hl n 0 (by omega) (by omega)).bind fun y hy=>bE.elim (fun _ _=>.some fun h=>absurd rfl h) fun z e=>?_;subst e;refine .some fun _=>⟨hy.1,?_⟩;have hall:(dH.all fun x=>x.all fun s=>s == [] || BT.contains s)=true:=by decide
 have:=Ga.1 (Ga.1 hall x (Al hx)) z hy.2.1;simp only [NW,beq_iff_eq,xdl] at this;exact this.resolve_left hy.2.2
end
def Lf (p:aC):Int:=16*((p.l_.length:Int) - p.gB)
theorem Gd.lf {p q:aC} (h:Gd p q):Lf q<=Lf p:=by have:=h.at';unfold Lf;rw [h.len];omega
theorem GA.lf {p q:aC} (h:GA p q) (he:q.e_=0):Lf q+16<=Lf p:=by have:=h.adv he;unfold Lf;rw [h.toGd.len];omega
theorem PI.lf {p:aC} (h:PI p):16<=Lf p:=by have:=h.hi;unfold Lf;omega
def Sx (p:aC) (r:aB × aC):Prop:=r.2.e_=0->WE r.1/\sz r.1<=r.2.gB - p.gB
def SL (p:aC) (r:List aB × aC):Prop:=r.2.e_=0->(∀x ∈ r.1,WE x)/\tZ r.1<=r.2.gB - p.gB
def NT (n:Nat) (k:Int) (f:aC->Int->Option (aB × aC)):Prop:=∀p a,PI p->Lf p+k<=n->bE (f p a) fun r=>GA p r.2/\Sx p r
def OkL (n:Nat) (f:aC->Int->Int->Option (aB × aC)):Prop:=∀p a b,PI p->0<=a->a<=7->Lf p+29 - a<=n->bE (f p a b) fun r=>GA p r.2/\Sx p r
def OkA (n:Nat) (f:aC->Int->Option ((List aB) × aC)):Prop:=∀p a,PI p->Lf p+25<=n->bE (f p a) fun r=>GA p r.2/\SL p r
section
variable {n:Nat} {p:aC}
theorem Rm (hn:13<n) {f:aC->Int->Int->Option (aB × aC)} {a1 a2:Int} (h0:0<=a1) (h6:a1<7) {k:Int} (hf:∀p,PI p->Lf p<=k->bE (f p (a1+1) a2) fun r=>GA p r.2/\Sx p r) :
  ∀(c:Nat) (t:cQ) (p:aC) (x:aB),PI p->Lf p<=k->1<=c->(t ≠ []->Lf p+1<=c/\t ∈ BT)->bE (jG f n a1 a2 c t p x) fun r=>Gd p r.1/\(r.1.e_=0->WE x->WE r.2/\sz r.2<=sz x+(r.1.gB - p.gB)):=by
 intro c
 induction c with
 | zero=>intro t p x h hl h1;omega
 | succ c ih=>
   intro t p x h hl h1 h2;unfold jG;refine bE.iteb (fun h4=>?_) fun h4=>.some ⟨.refl h,fun _ hw=>⟨hw,by simp only;omega⟩⟩;simp only [ne_eq,Fv] at h4;obtain ⟨h5,hsg⟩:=h2 h4;have h6':=h.lf;refine (wW h).bind fun r ⟨g1,e1⟩=>(iQ g1.inv hn).bind fun q g2=>?_;have l1:=g1.lf;have l2:=g2.toGd.lf;rw [fG (n:=a1+1) (by omega) (by omega)];refine (hf q g2.inv (by omega)).bind fun s ⟨g3,sx⟩=>?_;have g4:=g1.ga (g2.ga g3)
   have hx:s.2.e_=0->WE x->WE { r.1 with cP:=t,aM:=[x,s.1] }/\sz { r.1 with cP:=t,aM:=[x,s.1] }<=sz x+(s.2.gB - p.gB):=fun e hw=>by
    obtain ⟨w1,w2⟩:=sx e;have m2:=g2.adv (g3.toGd.e0 e);have m1:=g1.at';rw [e1];exact ⟨.bin hsg hw w1,by rw [gO,Gf];omega⟩
   refine bE.iteb (fun _=>.some ⟨g4.toGd,hx⟩) fun _=>?_;refine (IC g3.inv hn h0 h6).bind fun t' ht=>?_;have l3:=g3.toGd.lf;refine (ih t' s.2 _ g3.inv (by omega) (by omega) fun hne=>?_).mono fun r ⟨g5,g6⟩=>⟨g4.toGd.trans g5,fun e hw=>?_⟩
   ·have l4:=g4.lf (ht hne).1;exact ⟨by omega,(ht hne).2⟩
   ·obtain ⟨v1,v2⟩:=hx (g5.e0 e) hw;obtain ⟨v3,v4⟩:=g6 e v1;exact ⟨v3,by omega⟩
theorem level_b (hn:13<n) {fo:aC->Int->Option (aB × aC)} {fl:aC->Int->Int->Option (aB × aC)} (ho:NT n 21 fo) (hl:OkL n fl):OkL (n+1) (lX fo fl n):=by
 intro p a b h h0 h7 hb;unfold lX;refine bE.iteb (fun h1=>?_) fun h1=>?_
 ·simp only [beq_iff_eq] at h1;exact (ho p b h (by omega)).bind fun r g=>.some g
 ·simp only [beq_eq_false_iff_ne,ne_eq] at h1;rw [fG (n:=a+1) (by omega) (by omega)];refine (hl p (a+1) b h (by omega) (by omega) (by omega)).bind fun r ⟨g,sx⟩=>?_;have l1:=g.toGd.lf;have l2:=g.inv.lf;refine (IC g.inv hn h0 (by omega)).bind fun t ht=>?_;refine (Rm hn h0 (by omega) (k:=Lf r.2) (fun q hq hk=>hl q (a+1) b hq (by omega) (by omega) (by omega)) n t r.2 r.1 g.inv (Qf _) (by omega) (fun hne=>⟨by omega,(ht hne).2⟩)).bind fun s ⟨g2,sx2⟩=>.some ⟨g.gd g2,fun e=>?_⟩;obtain ⟨v1,v2⟩:=sx (g2.e0 e);obtain ⟨v3,v4⟩:=sx2 e v1;exact ⟨v3,by simp only;omega⟩
theorem expr_b {fl:aC->Int->Int->Option (aB × aC)} (hl:OkL n fl):NT (n+1) 30 (nH fl n):=by
 intro p a h hb;unfold nH;exact (hl p 0 a h (by omega) (by omega) (by omega)).bind fun r g=>.some g
theorem KT {fe:aC->Int->Option (aB × aC)} (he:NT n 30 fe):NT (n+1) 31 (jR fe n):=by
 intro p a h hb;unfold jR;exact (he p _ h (by omega)).bind fun r g=>.some g
theorem SL.more {p q r:aC} {x:aB} {l:List aB} (g1:Gd p q) (sx:Sx p (x,q)) (g2:Gd q r):r.e_=0->(∀x ∈ l,WE x)->(∀y ∈ l++[x],WE y)/\tZ (l++[x])<=tZ l+(r.gB - p.gB):=fun e hl=>by
 obtain ⟨w1,w2⟩:=sx (g2.e0 e);have m2:=g2.at';simp only at w2;refine ⟨fun y hy=>?_,by rw [DV,rK];omega⟩
 rcases At.1 hy with hy | hy
 ·exact hl y hy
 ·obtain rfl:=zN.1 hy;exact w1
theorem Gs (hn:13<n) {fo:aC->Int->Option (aB × aC)} {k:Int} {a:Int} (hf:∀p,PI p->Lf p<=k->bE (fo p a) fun r=>GA p r.2/\Sx p r):∀(c:Nat) (l:List aB) (p:aC),PI p->(p.e_=0->Lf p<=k)->(p.l_.length:Int) - p.gB<c->(l.length:Int)<=p.gB->bE (fK fo n a c l p) fun r=>Gd p r.2/\(r.1.length:Int)<=r.2.gB+1/\(r.2.e_=0->(∀x ∈ l,WE x)->(∀x ∈ r.1,WE x)/\tZ r.1<=tZ l+(r.2.gB - p.gB)):=by
 intro c
 induction c with
 | zero=>intro l p h _ h1 h2;have:=h.hi;omega
 | succ c ih=>
   intro l p h hk h1 h2;have k1:=h.lo;have k2:=h.hi;have k3:=h.big;unfold fK;refine bE.iteb (fun h4=>?_) fun h4=>.some ⟨.refl h,by simp only;omega,fun _ hl=>⟨hl,by simp only;omega⟩⟩;simp only [beq_iff_eq] at h4;refine (hf p h (hk h4)).bind fun x ⟨g1,sx⟩=>?_;refine bE.need (by simp only [uW];omega) ?_;refine (kF g1.inv hn).bind fun r ⟨g2,g3,_⟩=>?_;have m1:=g1.at';have m2:=g2.at';have hx:=SL.more (l:=l) g1.toGd sx g2;refine bE.iteb (fun h5=>.some ⟨g1.toGd.trans g2,by simp only [nC,uW];omega,hx⟩) fun h5=>?_;have g4:=g3 (by simpa using h5);have g5:=g1.ga g4.2.1;have m3:=g1.adv g4.1;have m4:=g1.toGd.trans g2;have m5:=g5.toGd.lf;have m6:=hk h4;refine (ih _ r.2 g2.inv (fun _=>by omega) (by rw [m4.len];omega) (by simp only [nC,uW];omega)).mono fun s ⟨s1,s2,s3⟩=>⟨g5.toGd.trans s1,s2,fun e hl=>?_⟩;obtain ⟨v1,v2⟩:=hx (s1.e0 e) hl;obtain ⟨v3,v4⟩:=s3 e v1;exact ⟨v3,by omega⟩
theorem Ho (hn:13<n) {fo:aC->Int->Option (aB × aC)} (ho:NT n 31 fo):OkA (n+1) (gT fo n):=by
 intro p a h hb;unfold gT;refine (iQ h hn).bind fun q g1=>(kF g1.inv hn).bind fun r ⟨g2,g3,g4⟩=>?_;have m1:=g1.at';have m2:=g2.at';refine bE.iteb (fun h5=>.some ⟨g1.gd g2,fun _=>⟨(fun x hx=>nomatch hx),by rw [mU];simp only;omega⟩⟩) fun h5=>?_;have g5:=g1.gd g2;have k0:=g2.inv.lo;have k1:=g5.toGd.lf;have k2:=h.lf;refine bE.bind (P:=fun y=>Gd r.2 y.2/\SL r.2 y) ?_ fun y ⟨g6,s6⟩=>?_
 ·refine (Gs hn (k:=(n:Int) - 31) (fun q hq hk=>ho q a hq (by omega)) n [] r.2 g2.inv (fun he=>?_) ?_ (by simpa using k0)).bind fun y ⟨y1,y2,y3⟩=>.some ⟨y1,fun e=>?_⟩
  ·have:=g5.lf he;omega
  ·unfold Lf at hb k1;rw [g5.toGd.len] at k1 ⊢;have:=h.hi;omega
  ·obtain ⟨w1,w2⟩:=y3 e (fun x hx=>nomatch hx);exact ⟨w1,by rw [mU] at w2;simp only;omega⟩
 ·refine (iQ g6.inv hn).bind fun s g7=>.some ⟨(g5.gd g6).ga g7,fun e=>?_⟩;obtain ⟨w1,w2⟩:=s6 (g7.toGd.e0 e);have m5:=g7.at';exact ⟨w1,by simp only;omega⟩
theorem Mm (hn:13<n) {fo:aC->Int->Option (aB × aC)} {k:Int} (hf:∀p a,PI p->Lf p<=k->bE (fo p a) fun r=>GA p r.2/\Sx p r) {a1:Int}:∀(c:Nat) (v:Nat) (p:aC) (x y:aB),2<v+c->v<=2->PI p->Lf p<=k+16->bE (iJ fo n a1 c v p x y) fun r=>match r with | .inl s=>Gd p s.1/\s.2.1=x | .inr s=>GA p s.2/\(x.mM=0->Sx p s):=by
 intro c
 induction c with
 | zero=>intro v p x y h1 h2;omega
 | succ c ih=>
   intro v p x y h1 h2 h hk;unfold iJ;refine bE.iteb (fun h4=>?_) fun h4=>.some ⟨.refl h,rfl⟩;simp only [Fv] at h4;refine bE.bind' (bE.idx (by omega) (by have:mY.length=2:=rfl;omega) fun z hz=>?_);refine (kF h hn).bind fun r ⟨g1,g2,g3⟩=>?_;refine bE.iteb (fun h5=>?_) fun h5=>?_
   ·obtain ⟨_,g4,g5⟩:=g2 h5;have l1:=g4.lf g5;refine (hf r.2 _ g1.inv (by omega)).bind fun s ⟨g6,sx⟩=>.some ⟨g4.ga g6,fun hx e=>?_⟩;obtain ⟨w1,w2⟩:=sx e;have m1:=g4.adv (g6.toGd.e0 e);refine ⟨?_,by simp only [gO,rK];omega⟩;simp only [hx];refine .un ?_ w1;have hm:=Al hz;simpa [mY] using hm
   ·rw [fG (by omega) (by omega)];have l1:=g1.lf;refine (ih (v+1) r.2 x y (by omega) (by omega) g1.inv (by omega)).mono fun s hs=>?_;cases s with
    | inl s=>exact ⟨g1.trans hs.1,hs.2⟩
    | inr s=>
      refine ⟨g1.ga hs.1,fun hx e=>?_⟩;obtain ⟨w1,w2⟩:=hs.2 hx e;have:=g1.at';exact ⟨w1,by omega⟩
theorem OR (hn:13<n) {fe fo:aC->Int->Option (aB × aC)} {fa:aC->Int->Option ((List aB) × aC)} (he:NT n 30 fe) (ho:NT n 21 fo) (ha:OkA n fa):NT (n+1) 21 (kR fe fo fa n):=by
 intro p a h hb;unfold kR;refine (Lv h).bind fun q g1=>(kF g1.inv hn).bind fun r ⟨g2,g3,_⟩=>?_;have m1:=g1.lf;have m2:=g2.lf;have m3:=h.lf;have n1:=g1.at';have n2:=g2.at';refine bE.iteb (fun h5=>?_) fun h5=>?_
 ·obtain ⟨_,g4,g5⟩:=g3 h5;have l1:=g4.lf g5;refine (he r.2 _ g2.inv (by omega)).bind fun s ⟨g6,sx⟩=>(iQ g6.inv hn).bind fun t g7=>.some ⟨g1.ga (g4.ga (g6.ga g7)),fun e=>?_⟩;obtain ⟨w1,w2⟩:=sx (g7.toGd.e0 e);have n3:=g7.at';exact ⟨w1,by simp only;omega⟩
 ·refine (wW g2.inv).bind fun s ⟨g4,e4⟩=>?_;have m4:=g4.lf;have n4:=g4.at';refine (Mm hn (k:=(n:Int) - 21) (fun q b hq hk=>ho q b hq (by omega)) n 0 s.2 _ _ (by omega) (by omega) g4.inv (by omega)).bind fun y hy=>?_;have g5:=g1.trans (g2.trans g4);refine bE.elim (fun z e=>?_) fun z e=>?_
  ·subst e;have hy':Gd s.2 z.1:=hy.1;have hz:z.2.1=s.1:=hy.2;have g6:=g5.trans hy';have n5:=hy'.at';rw [hz,e4];refine bE.bind (P:=fun _=>True) ?_ fun b _=>?_
   ·refine bE.iteb (fun _=>?_) fun _=>.some trivial;exact (uJ hy'.inv).bind fun t _=>.some trivial
   ·refine bE.iteb (fun _=>?_) fun _=>?_
    ·refine (Hj hy'.inv).bind fun t g7=>.some ⟨g6.ga g7,fun e=>?_⟩;have:=g7.adv e;exact ⟨.num,by simp only [gO,mU];omega⟩
    ·refine (zD hy'.inv hn).bind fun t g7=>?_;have g8:=g6.ga g7;have l8:=g8.toGd.lf;refine bE.bind (P:=fun y=>GA p y.1/\Sx p (y.2,y.1)) ?_ fun y hy=>.some hy;refine (Ht g7.inv hn).bind fun b hb=>bE.iteb (fun h9=>?_) fun h9=>?_
     ·have l9:=g8.lf (hb h9).1;refine (ha t.2 a g7.inv (by omega)).bind fun u ⟨g9,sx⟩=>.some ⟨g8.ga g9,fun e=>?_⟩;obtain ⟨w1,w2⟩:=sx e;have:=g7.adv (g9.toGd.e0 e);exact ⟨.call w1,by simp only [gO];omega⟩
     ·refine (kF g7.inv hn).bind fun u ⟨g9,g10,_⟩=>bE.iteb (fun h10=>?_) fun h10=>.some ⟨g8.gd g9,fun e=>?_⟩
      ·obtain ⟨_,g11,g12⟩:=g10 h10;have l9:=g11.lf g12;refine (he u.2 _ g9.inv (by omega)).bind fun v ⟨g13,sx⟩=>(iQ g13.inv hn).bind fun w g14=>.some ⟨g8.ga (g11.ga (g13.ga g14)),fun e=>?_⟩;have ev:=g14.toGd.e0 e;obtain ⟨w1,w2⟩:=sx ev;have n6:=g14.at';have n7:=g7.adv (g9.e0 (g13.toGd.e0 ev));have n8:=g9.at';exact ⟨.index w1,by simp only [gO,rK];omega⟩
      ·have n7:=g7.adv (g9.e0 e);have n8:=g9.at';exact ⟨.ref,by simp only [gO,mU];omega⟩
  ·subst e;refine .some ⟨g5.ga hy.1,fun e=>?_⟩;obtain ⟨w1,w2⟩:=hy.2 (by rw [e4]) e;exact ⟨w1,by omega⟩
theorem grp_ok:∀n:Nat,OkA n (bG n).1/\NT n 30 (bG n).2.1/\OkL n (bG n).2.2.1/\NT n 21 (bG n).2.2.2.1/\NT n 31 (bG n).2.2.2.2:=by
 have small:∀n:Nat,n<=14->OkA n (bG n).1/\NT n 30 (bG n).2.1/\OkL n (bG n).2.2.1/\NT n 21 (bG n).2.2.2.1/\NT n 31 (bG n).2.2.2.2:=by
  intro n hn;refine ⟨fun p a h hb=>?_,fun p a h hb=>?_,fun p a b h h0 h7 hb=>?_,fun p a h hb=>?_,fun p a h hb=>?_⟩ <;> (have:=h.lf;omega)
 intro n
 induction n with
 | zero=>exact small 0 (by omega)
 | succ n ih=>
   by_cases hn:13<n
   ·obtain ⟨i1,i2,i3,i4,i5⟩:=ih;exact ⟨Ho hn i5,expr_b i3,level_b hn i4 i3,OR hn i2 i4 i1,KT i2⟩
   ·exact small (n+1) (by omega)
theorem vM (h:PI p) {a:Int} (hb:Lf p+30<=n):bE (fF n p a) fun r=>GA p r.2/\Sx p r:=(grp_ok n).2.1 p a h hb
theorem IF (h:PI p) {x:aB} {a:Int} (hb:Lf p+30<=n):bE (lB n p x a) fun r=>GA p r.2/\(r.2.e_=0->∃s y,r.1={ x with cP:=s,aM:=[y] }/\WE y/\sz y+1<=r.2.gB - p.gB):=by
 have hn:13<n:=by have:=h.lf;omega
 unfold lB;refine (zD h hn).bind fun r g1=>(iQ g1.inv hn).bind fun q g2=>?_;have l1:=g1.toGd.lf;have l2:=g2.toGd.lf;refine (vM g2.inv (by omega)).bind fun s ⟨g3,sx⟩=>(iQ g3.inv hn).bind fun t g4=>.some ⟨g1.ga (g2.ga (g3.ga g4)),fun e=>?_⟩;obtain ⟨w1,w2⟩:=sx (g4.toGd.e0 e);have n1:=g1.at';have n2:=g2.at';have n4:=g4.adv e;exact ⟨_,_,rfl,w1,by simp only;omega⟩
theorem KO (h:PI p) {a:Int} (hb:Lf p+30<=n):bE (lV n p a) fun r=>GA p r.2/\Sx p r:=by
 unfold lV;exact (vM h hb).bind fun r g=>.some g
theorem Ic (hn:13<n) {a:Int}:∀(c:Nat) (l:List aB) (p:aC),PI p->Lf p+30<=n->(p.l_.length:Int) - p.gB<c->(l.length:Int)<=p.gB->bE (gA n a c l p) fun r=>Gd p r.2/\(r.1.length:Int)<=r.2.gB+1/\(r.2.e_=0->(∀x ∈ l,WE x)->(∀x ∈ r.1,WE x)/\tZ r.1<=tZ l+(r.2.gB - p.gB)):=by
 intro c
 induction c with
 | zero=>intro l p h _ h1 h2;have:=h.hi;omega
 | succ c ih=>
   intro l p h hk h1 h2;have k1:=h.lo;have k2:=h.hi;have k3:=h.big;unfold gA;refine bE.iteb (fun h4=>?_) fun h4=>.some ⟨.refl h,by simp only;omega,fun _ hl=>⟨hl,by simp only;omega⟩⟩;refine (KO h hk).bind fun x ⟨g1,sx⟩=>?_;refine bE.need (by simp only [uW];omega) ?_;refine (kF g1.inv hn).bind fun r ⟨g2,g3,_⟩=>?_;have m1:=g1.at';have m2:=g2.at';have hx:=SL.more (l:=l) g1.toGd sx g2;refine bE.iteb (fun h5=>.some ⟨g1.toGd.trans g2,by simp only [nC,uW];omega,hx⟩) fun h5=>?_;have g4:=g3 (by simpa using h5);have g5:=g1.ga g4.2.1;have m3:=g1.adv g4.1;have m4:=g1.toGd.trans g2;have m5:=g5.toGd.lf;refine (ih _ r.2 g2.inv (by omega) (by rw [m4.len];omega) (by simp only [nC,uW];omega)).mono fun s ⟨s1,s2,s3⟩=>⟨g5.toGd.trans s1,s2,fun e hl=>?_⟩;obtain ⟨v1,v2⟩:=hx (s1.e0 e) hl;obtain ⟨v3,v4⟩:=s3 e v1;exact ⟨v3,by omega⟩
theorem Hm (h:PI p) {a:Int} (hb:Lf p+30<=n):bE (iP n p a) fun r=>GA p r.2/\SL p r:=by
 have hn:13<n:=by have:=h.lf;omega
 unfold iP;refine (iQ h hn).bind fun q g1=>(kF g1.inv hn).bind fun r ⟨g2,g3,g4⟩=>?_;have m1:=g1.at';have m2:=g2.at';refine bE.iteb (fun h5=>.some ⟨g1.gd g2,fun _=>⟨(fun x hx=>nomatch hx),by rw [mU];simp only;omega⟩⟩) fun h5=>?_;have g5:=g1.gd g2;have k0:=g2.inv.lo;have k1:=g5.toGd.lf;refine bE.bind (P:=fun y=>Gd r.2 y.2/\SL r.2 y) ?_ fun y ⟨g6,s6⟩=>?_
 ·refine (Ic hn n [] r.2 g2.inv (by omega) ?_ (by simpa using k0)).bind fun y ⟨y1,y2,y3⟩=>.some ⟨y1,fun e=>?_⟩
  ·unfold Lf at hb k1;rw [g5.toGd.len] at k1 ⊢;have:=h.hi;omega
  ·obtain ⟨w1,w2⟩:=y3 e (fun x hx=>nomatch hx);exact ⟨w1,by rw [mU] at w2;simp only;omega⟩
 ·refine (iQ g6.inv hn).bind fun s g7=>.some ⟨(g5.gd g6).ga g7,fun e=>?_⟩;obtain ⟨w1,w2⟩:=s6 (g7.toGd.e0 e);have m5:=g7.at';exact ⟨w1,by simp only;omega⟩
def St0 (x:aB):Prop:=x=⟨8,x.fR,[],0,[]⟩
def Ss (p:aC) (r:aB × aC):Prop:=r.2.e_=0->WS r.1/\sz r.1<=r.2.gB - p.gB
theorem OP (h:PI p) {x:aB} {a:Int} (hb:Lf p+30<=n) (hx:St0 x):bE (oH n p x a) fun r=>GA p r.2/\Ss p r:=by
 have hn:13<n:=by have:=h.lf;omega
 unfold oH;rw [hx];refine (zD h hn).bind fun r g1=>?_;have l1:=g1.toGd.lf;have n1:=g1.at';refine bE.bind (P:=fun y=>GA p y.1/\(y.1.e_=0->WS y.2/\sz y.2<=1+(y.1.gB - p.gB))) ?_ fun y hy=>?_
 case refine_2=>
  obtain ⟨hy',hs⟩:GA p y.1/\(y.1.e_=0->WS y.2/\sz y.2<=1+(y.1.gB - p.gB)):=hy;refine (iQ hy'.inv hn).bind fun s g=>.some ⟨hy'.ga g,fun e=>?_⟩;obtain ⟨w1,w2⟩:=hs (g.toGd.e0 e);have:=g.adv e;exact ⟨w1,by simp only;omega⟩
 refine (Ht g1.inv hn).bind fun b _=>bE.iteb (fun _=>?_) fun _=>?_
 ·refine (Hm g1.inv (by omega)).bind fun s ⟨g2,sx⟩=>.some ⟨g1.ga g2,fun e=>?_⟩;obtain ⟨w1,w2⟩:=sx e;exact ⟨.call w1,by simp only [gO];omega⟩
 ·refine (kF g1.inv hn).bind fun s ⟨g2,_,_⟩=>?_;have l2:=g2.lf;have n2:=g2.at';refine bE.iteb (fun _=>?_) fun _=>?_
  ·refine (vM g2.inv (by omega)).bind fun t ⟨g3,s3⟩=>(iQ g3.inv hn).bind fun u g4=>(iQ g4.inv hn).bind fun v g5=>?_;have l3:=g3.toGd.lf;have l4:=g4.toGd.lf;have l5:=g5.toGd.lf;refine (vM g5.inv (by omega)).bind fun w ⟨g6,s6⟩=>bE.need (by simp) (.some ⟨g1.gd (g2.trans (g3.toGd.trans (g4.toGd.trans (g5.toGd.trans g6.toGd)))),fun e=>?_⟩);obtain ⟨w1,w2⟩:=s6 e;have e5:=g6.toGd.e0 e;obtain ⟨w3,w4⟩:=s3 (g4.toGd.e0 (g5.toGd.e0 e5));have n4:=g4.at';have n5:=g5.at';exact ⟨.put w3 w1,by simp only [gO,List.singleton_append,Gf];omega⟩
  ·refine (iQ g2.inv hn).bind fun v g5=>?_;have l5:=g5.toGd.lf;have n5:=g5.at';refine (vM g5.inv (by omega)).bind fun w ⟨g6,s6⟩=>.some ⟨g1.gd (g2.trans (g5.toGd.trans g6.toGd)),fun e=>?_⟩;obtain ⟨w1,w2⟩:=s6 e;exact ⟨.set w1,by simp only [gO,rK];omega⟩
end
def Bk (p:aC) (r:aB × aC):Prop:=r.2.e_=0->(r.1=⟨4,r.1.fR,[],0,r.1.aM⟩/\∀y ∈ r.1.aM,WS y)/\sz r.1<=r.2.gB - p.gB
def OkS (n:Nat) (f:aC->Int->Option (aB × aC)):Prop:=∀p a,PI p->Lf p+45<=n->bE (f p a) fun r=>GA p r.2/\Ss p r
def OkK (n:Nat) (f:aC->Int->Option (aB × aC)):Prop:=∀p a,PI p->Lf p+46<=n->bE (f p a) fun r=>GA p r.2/\Bk p r
def OkN (n:Nat) (k:Int) (f:aC->aB->Int->Option (aB × aC)):Prop:=∀p x a,PI p->Lf p+k<=n->St0 x->bE (f p x a) fun r=>GA p r.2/\(r.2.e_=0->WS r.1/\sz r.1<=1+(r.2.gB - p.gB))
section
variable {n:Nat} {p:aC}
theorem Se (hn:13<n) {fs:aC->Int->Option (aB × aC)} {k:Int} {a:Int} (hf:∀p,PI p->Lf p<=k->bE (fs p a) fun r=>GA p r.2/\Ss p r):∀(c:Nat) (p:aC) (x:aB),PI p->(p.e_=0->Lf p<=k)->(p.l_.length:Int) - p.gB<c->1<=c->(p.e_=0->(x.aM.length:Int)<=p.gB)->(x.aM.length:Int)<=65538->bE (iB fs n a c p x) fun r=>Gd p r.1/\(r.1.e_=0->(∀y ∈ x.aM,WS y)->(∀y ∈ r.2.aM,WS y)/\tZ r.2.aM<=tZ x.aM+(r.1.gB - p.gB)/\r.2={ x with aM:=r.2.aM }):=by
 intro c
 induction c with
 | zero=>intro p x h _ h1 h2;omega
 | succ c ih=>
   intro p x h hk h1 h2 h3 h4;have k1:=h.lo;have k2:=h.hi;have k3:=h.big;unfold iB;refine bE.bind (P:=fun b=>b=true->p.e_=0) ?_ fun b hb=>?_
   ·refine bE.iteb (fun he=>?_) fun _=>.some fun h=>by cases h
    exact (Ht h hn).bind fun b hb=>.some fun _=>by simpa using he
   ·refine bE.iteb (fun h5=>?_) fun h5=>.some ⟨.refl h,fun _ hl=>⟨hl,by simp only;omega,by cases x;rfl⟩⟩;have he:=hb h5;refine (hf p h (hk he)).bind fun r ⟨g,ss⟩=>?_;have m1:=g.at';have m2:=hk he;have m3:=h3 he;have m4:=g.toGd.lf;have m5:=g.inv.hi;have m6:=g.toGd.len;refine bE.need (by simp only [uW];omega) ?_
    by_cases he2:r.2.e_=0
    ·have m7:=g.adv he2;obtain ⟨w1,w2⟩:=ss he2;refine (ih r.2 _ g.inv (fun _=>by omega) (by rw [m6];omega) (by omega) (fun _=>by simp only [nC,uW];omega) (by simp only [nC,uW];omega)).mono fun s ⟨g2,s2⟩=>⟨g.toGd.trans g2,fun e hl=>?_⟩
     obtain ⟨v1,v2,v3⟩:=s2 e (fun y hy=>by
      rcases At.1 hy with hy | hy
      ·exact hl y hy
      ·obtain rfl:=zN.1 hy;exact w1)
     refine ⟨v1,?_,v3⟩;simp only [DV,rK] at v2;omega
    ·cases c with
     | zero=>omega
     | succ c=>
       unfold iB;rw [if_neg (by simpa using he2),mS,if_neg (by decide)];exact .some ⟨g.toGd,fun e=>absurd e he2⟩
theorem block_b {fs:aC->Int->Option (aB × aC)} (hs:OkS n fs):OkK (n+1) (lZ fs n):=by
 intro p a h hb;have hn:13<n:=by have:=h.lf;omega
 unfold lZ;refine (Lv h).bind fun q g1=>(wW g1.inv).bind fun r ⟨g2,e2⟩=>(iQ g2.inv hn).bind fun t g3=>?_;have e:r.1.aM=[]:=by rw [e2]
 have g4:=g1.trans g2;have g5:=g4.ga g3;have l5:=g5.toGd.lf;have k0:=g3.inv.lo;refine (Se hn (k:=(n:Int) - 45) (fun q hq hk=>hs q a hq (by omega)) n t r.1 g3.inv (fun he=>?_) ?_ (by omega) (fun _=>by rw [e];simpa using k0) (by rw [e];simp)).bind fun y ⟨g6,s6⟩=>(iQ g6.inv hn).bind fun s g7=>.some ⟨(g5.gd g6).ga g7,fun e3=>?_⟩
 ·have:=g5.lf he;omega
 ·unfold Lf at hb l5;rw [g5.toGd.len] at l5 ⊢;have:=h.hi;omega
 ·have ey:=g7.toGd.e0 e3;obtain ⟨v1,v2,v3⟩:=s6 ey (fun y hy=>by rw [e] at hy;cases hy);have n3:=g3.adv (g6.e0 ey);have n4:=g4.at';have n7:=g7.at';rw [e2] at v3;rw [e,mU] at v2;refine ⟨⟨by simp only;rw [v3],v1⟩,?_⟩;simp only [Dq];omega
theorem RO {fb:aC->Int->Option (aB × aC)} (hf:OkK n fb):OkN (n+1) 47 (lD fb n):=by
 intro p x a h hb hx;have hn:13<n:=by have:=h.lf;omega
 unfold lD;rw [hx];refine (vM h (by omega)).bind fun r ⟨g1,s1⟩=>?_;have l1:=g1.toGd.lf;refine (hf r.2 _ g1.inv (by omega)).bind fun s ⟨g2,s2⟩=>bE.need (by simp) ((kF g2.inv hn).bind fun t ⟨g3,_,_⟩=>?_);have l2:=g2.toGd.lf;have l3:=g3.lf;have n3:=g3.at';refine bE.iteb (fun _=>?_) fun _=>.some ⟨(g1.ga g2).gd g3,fun e=>?_⟩
 ·refine (hf t.2 _ g3.inv (by omega)).bind fun u ⟨g4,s4⟩=>bE.need (by simp) (.some ⟨((g1.ga g2).gd g3).ga g4,fun e=>?_⟩);have e3:=g4.toGd.e0 e;have e2:=g3.e0 e3;obtain ⟨⟨a1,a2⟩,a3⟩:=s4 e;obtain ⟨⟨b1,b2⟩,b3⟩:=s2 e2;obtain ⟨c1,c2⟩:=s1 (g2.toGd.e0 e2);simp only [List.singleton_append,BO,uG];rw [gO,Ir];refine ⟨?_,by omega⟩;rw [a1,b1];exact .choice2 c1 b2 a2
 ·have e2:=g3.e0 e;obtain ⟨⟨b1,b2⟩,b3⟩:=s2 e2;obtain ⟨c1,c2⟩:=s1 (g2.toGd.e0 e2);simp only [List.singleton_append];rw [gO,Gf];refine ⟨?_,by omega⟩;rw [b1];exact .choice c1 b2
theorem loop_b {fb:aC->Int->Option (aB × aC)} (hf:OkK n fb):OkN (n+1) 47 (nG fb n):=by
 intro p x a h hb hx;have hn:13<n:=by have:=h.lf;omega
 unfold nG;rw [hx];refine (zD h hn).bind fun r g1=>(iQ g1.inv hn).bind fun s g2=>?_;have l1:=g1.toGd.lf;have l2:=g2.toGd.lf;have n1:=g1.at';have n2:=g2.at';refine (vM g2.inv (by omega)).bind fun t ⟨g3,s3⟩=>(iQ g3.inv hn).bind fun u g4=>?_;have l3:=g3.toGd.lf;have l4:=g4.toGd.lf;have n4:=g4.at';refine (vM g4.inv (by omega)).bind fun v ⟨g5,s5⟩=>bE.need (by simp) ?_;have l5:=g5.toGd.lf;refine (hf v.2 _ g5.inv (by omega)).bind fun w ⟨g6,s6⟩=>bE.need (by simp) (.some ⟨g1.ga (g2.ga (g3.ga (g4.ga (g5.ga g6)))),fun e=>?_⟩);have e5:=g6.toGd.e0 e;have e4:=g5.toGd.e0 e5;obtain ⟨⟨b1,b2⟩,b3⟩:=s6 e;obtain ⟨c1,c2⟩:=s5 e5;obtain ⟨d1,d2⟩:=s3 (g4.toGd.e0 e4);simp only [List.singleton_append,BO,uG];rw [gO,Ir];refine ⟨?_,by omega⟩;rw [b1];exact .loop d1 c1 b2
theorem Kv {fc fl:aC->aB->Int->Option (aB × aC)} (hc:OkN n 47 fc) (hl:OkN n 47 fl):OkS (n+1) (jQ fc fl n):=by
 intro p a h hb;have hn:13<n:=by have:=h.lf;omega
 unfold jQ;refine (wW h).bind fun r ⟨g1,e1⟩=>?_;have hx:St0 r.1:=e1;have l1:=g1.lf;have n1:=g1.at';refine bE.bind (P:=fun y=>match y with | .inl y=>GA p y.1/\(y.1.e_=0->WS y.2/\sz y.2<=1+(y.1.gB - p.gB)) | .inr y=>GA p y.2/\Ss p y) ?_ fun y hy=>?_
 ·refine (kF g1.inv hn).bind fun t1 ⟨a1,b1,_⟩=>bE.iteb (fun h1=>?_) fun h1=>?_
  ·have m1:=a1.lf;have o1:=a1.at';refine (IF a1.inv (by omega)).bind fun u ⟨g2,s2⟩=>.some ⟨g1.ga (a1.ga g2),fun e=>?_⟩;obtain ⟨s,y,q1,q2,q3⟩:=s2 e;simp only;rw [q1,e1];exact ⟨.bind (.inl rfl) q2,by simp only [gO,rK];omega⟩
  have m1:=a1.lf;have o1:=a1.at';refine (kF a1.inv hn).bind fun t2 ⟨a2,b2,_⟩=>bE.iteb (fun h2=>?_) fun h2=>?_
  ·have m2:=a2.lf;have o2:=a2.at';refine (IF a2.inv (by omega)).bind fun u ⟨g2,s2⟩=>.some ⟨g1.ga (a1.ga (a2.ga g2)),fun e=>?_⟩;obtain ⟨s,y,q1,q2,q3⟩:=s2 e;simp only;rw [q1,e1];exact ⟨.bind (.inr rfl) q2,by simp only [gO,rK];omega⟩
  have m2:=a2.lf;have o2:=a2.at';refine (kF a2.inv hn).bind fun t3 ⟨a3,b3,_⟩=>bE.iteb (fun h3=>?_) fun h3=>?_
  ·have o3:=a3.at';refine (zD a3.inv hn).bind fun u g2=>(KB g2.inv hn).bind fun v g3=>.some ⟨g1.ga (a1.ga (a2.ga (a3.ga (g2.ga g3)))),fun e=>?_⟩;have o4:=g2.at';have o5:=g3.at';simp only;rw [e1];exact ⟨.arr,by simp only [gO,mU];omega⟩
  have m3:=a3.lf;have o3:=a3.at';refine (kF a3.inv hn).bind fun t4 ⟨a4,b4,_⟩=>bE.iteb (fun h4=>?_) fun h4=>?_
  ·have m4:=a4.lf;have o4:=a4.at';refine (vM a4.inv (by omega)).bind fun u ⟨g2,s2⟩=>.some ⟨g1.ga (a1.ga (a2.ga (a3.ga (a4.ga g2)))),fun e=>?_⟩;obtain ⟨q1,q2⟩:=s2 e;simp only;rw [e1];exact ⟨.ret q1,by simp only [gO,rK];omega⟩
  have m4:=a4.lf;have o4:=a4.at';refine (kF a4.inv hn).bind fun t5 ⟨a5,b5,_⟩=>bE.iteb (fun h5=>?_) fun h5=>?_
  ·obtain ⟨_,c1,c2⟩:=b5 h5;have m5:=c1.lf c2;have o5:=c1.adv c2;refine (hc t5.2 _ _ a5.inv (by omega) hx).bind fun u ⟨g2,s2⟩=>.some ⟨g1.ga (a1.ga (a2.ga (a3.ga (a4.ga (a5.ga g2))))),fun e=>?_⟩;obtain ⟨q1,q2⟩:=s2 e;exact ⟨q1,by simp only;omega⟩
  have m5:=a5.lf;have o5:=a5.at';refine (kF a5.inv hn).bind fun t6 ⟨a6,b6,_⟩=>bE.iteb (fun h6=>?_) fun h6=>?_
  ·obtain ⟨_,c1,c2⟩:=b6 h6;have m6:=c1.lf c2;have o6:=c1.adv c2;refine (hl t6.2 _ _ a6.inv (by omega) hx).bind fun u ⟨g2,s2⟩=>.some ⟨g1.ga (a1.ga (a2.ga (a3.ga (a4.ga (a5.ga (a6.ga g2)))))),fun e=>?_⟩;obtain ⟨q1,q2⟩:=s2 e;exact ⟨q1,by simp only;omega⟩
  have m6:=a6.lf;have o6:=a6.at';refine (OP a6.inv (by omega) hx).bind fun u ⟨g2,s2⟩=>.some ⟨g1.ga (a1.ga (a2.ga (a3.ga (a4.ga (a5.ga (a6.ga g2)))))),fun e=>?_⟩;obtain ⟨q1,q2⟩:=s2 e;exact ⟨q1,by simp only;omega⟩
 ·refine bE.elim (fun z e=>?_) fun z e=>?_
  ·subst e;obtain ⟨hy',hs⟩:GA p z.1/\(z.1.e_=0->WS z.2/\sz z.2<=1+(z.1.gB - p.gB)):=hy;refine (iQ hy'.inv hn).bind fun s g=>.some ⟨hy'.ga g,fun e=>?_⟩;obtain ⟨w1,w2⟩:=hs (g.toGd.e0 e);have:=g.adv e;exact ⟨w1,by simp only;omega⟩
  ·subst e;exact .some hy
theorem grp2_ok:∀n:Nat,OkK n (dO n).1/\OkS n (dO n).2.1/\OkN n 47 (dO n).2.2.1/\OkN n 47 (dO n).2.2.2:=by
 intro n
 induction n with
 | zero=>refine ⟨fun p a h hb=>?_,fun p a h hb=>?_,fun p x a h hb=>?_,fun p x a h hb=>?_⟩ <;> (have:=h.lf;omega)
 | succ n ih=>
   obtain ⟨i1,i2,i3,i4⟩:=ih;exact ⟨block_b i2,Kv i3 i4,RO i1,loop_b i1⟩
theorem FV (h:PI p) {a:Int} (hb:Lf p+46<=n):bE (eV n p a) fun r=>GA p r.2/\Bk p r:=(grp2_ok n).1 p a h hb
def Fx (p:aC) (r:aB × aC):Prop:=r.2.e_=0->WF r.1/\sz r.1<=r.2.gB - p.gB
theorem JI (h:PI p) (hb:Lf p+46<=n):bE (lC n p) fun r=>GA p r.2/\Fx p r:=by
 have hn:13<n:=by have:=h.lf;omega
 unfold lC;refine (wW h).bind fun r ⟨g1,e1⟩=>(kF g1.inv hn).bind fun t ⟨g2,_,_⟩=>?_;have g3:=g1.trans g2;have n3:=g3.at'
 have key:∀q:aC,GA p q->(q.l_.length:Int) - q.gB<n:=by
  intro q g;have:=g.toGd.lf;unfold Lf at this hb;have:=h.hi;have:=g.inv.hi;omega
 have fin:∀ {q b:aC} {ps:List aB} {z:aB × aC} {at' k:Int} {s:cQ},Gd q b->GA b z.2->Bk b z->p.gB+1<=q.gB - tZ ps->(b.e_=0->∀x ∈ ps,WP x)->Fx p (⟨2,at',s,k,ps++[z.1]⟩,z.2):=fun gb gz bz hq hp e=>by
  obtain ⟨⟨c1,c2⟩,c3⟩:=bz e;have eb:=gz.toGd.e0 e;have n1:=gb.at';refine ⟨?_,by simp only [gO,DV,rK];omega⟩;simp only;rw [c1];exact .fn (hp eb) c2
 have one:∀(k0 k1 k2:Int),bE ((bS n t.2 [102,110]).bind fun x10=>(eP n x10).bind fun x11=>(gI n x11.2).bind fun x13=>(cB n x13.2 [45,62]).bind fun x15=>if x15.1=true then (cB n x15.2 [117,51,50]).bind fun x18=>if x18.1=true then (eV n x18.2 1).bind fun x21=>gX (x13.1.length+[x21.1].length<=1073741824) <| some (({ r.1 with mM:=k1,cP:=x11.1,aM:=x13.1++[x21.1] }:aB),x21.2) else (bS n x18.2 [117,54,52]).bind fun x23=>(eV n x23 1).bind fun x25=>gX (x13.1.length+[x25.1].length<=1073741824) <| some (({ r.1 with mM:=k2,cP:=x11.1,aM:=x13.1++[x25.1] }:aB),x25.2) else (eV n x15.2 1).bind fun x27=>gX (x13.1.length+[x27.1].length<=1073741824) <| some (({ r.1 with mM:=k0,cP:=x11.1,aM:=x13.1++[x27.1] }:aB),x27.2)) fun r=>GA p r.2/\Fx p r:=by
  intro k0 k1 k2;rw [e1];refine (iQ g2.inv hn).bind fun u g4=>(zD g4.inv hn).bind fun v g5=>?_;have g6:=g3.ga (g4.ga g5);have n6:=g5.at';refine (Hn g5.inv hn (key _ g6)).bind fun w ⟨g7,hw,hp⟩=>(kF g7.inv hn).bind fun x ⟨g8,_,_⟩=>?_;have g9:=(g6.ga g7).gd g8;have l9:=g9.toGd.lf
  have big:∀ {b:aC},Gd w.2 b->b.e_=0->p.gB+1<=w.2.gB - tZ w.1/\∀x ∈ w.1,WP x:=fun gb e=>by
   obtain ⟨q1,q2⟩:=hp (gb.e0 e);have:=g4.adv (g5.toGd.e0 (g7.toGd.e0 (gb.e0 e)));exact ⟨by omega,q1⟩
  have fin2:∀ {b:aC} {z:aB × aC} {at' k:Int} {s:cQ},Gd w.2 b->GA b z.2->Bk b z->Fx p (⟨2,at',s,k,w.1++[z.1]⟩,z.2):=fun gb gz bz e=>fin gb gz bz (big gb (gz.toGd.e0 e)).1 (fun e2=>(big gb e2).2) e;refine bE.iteb (fun _=>?_) fun _=>?_
  ·refine (kF g8.inv hn).bind fun y ⟨g10,_,_⟩=>?_;have l10:=g10.lf;refine bE.iteb (fun _=>?_) fun _=>?_
   ·exact (FV g10.inv (by omega)).bind fun z ⟨g11,b11⟩=>bE.need (by simp only [uW];omega) (.some ⟨(g9.gd g10).ga g11,fin2 (g8.trans g10) g11 b11⟩)
   ·refine (iQ g10.inv hn).bind fun y' g11=>?_;have l11:=g11.toGd.lf;exact (FV g11.inv (by omega)).bind fun z ⟨g12,b12⟩=>bE.need (by simp only [uW];omega) (.some ⟨((g9.gd g10).ga g11).ga g12,fin2 (g8.trans (g10.trans g11.toGd)) g12 b12⟩)
  ·exact (FV g8.inv (by omega)).bind fun z ⟨g11,b11⟩=>bE.need (by simp only [uW];omega) (.some ⟨g9.ga g11,fin2 g8 g11 b11⟩)
 exact bE.iteb (fun _=>one _ _ _) fun _=>one _ _ _
theorem Sp:∀(c:Nat) (p:aC) (x:aB),PI p->Lf p+46<=n->(p.l_.length:Int) - p.gB<c->1<=c->(p.e_=0->(x.aM.length:Int)<=p.gB)->(x.aM.length:Int)<=65538->bE (pI n c p x) fun r=>Gd p r.1/\(r.1.e_=0->(∀y ∈ x.aM,WF y)->(∀y ∈ r.2.aM,WF y)/\tZ r.2.aM<=tZ x.aM+(r.1.gB - p.gB)):=by
 intro c
 induction c with
 | zero=>intro p x h _ h1 h2;omega
 | succ c ih=>
   intro p x h hk h1 h2 h3 h4;have k1:=h.lo;have k2:=h.hi;have k3:=h.big;unfold pI;refine bE.bind (P:=fun b=>b=true->p.e_=0) ?_ fun b hb=>?_
   ·refine bE.iteb (fun he=>?_) fun _=>.some fun h=>by cases h
    exact (uJ h).bind fun b hb=>.some fun _=>by simpa using he
   ·refine bE.iteb (fun h5=>?_) fun h5=>.some ⟨.refl h,fun _ hl=>⟨hl,by simp only;omega⟩⟩;have he:=hb h5;refine (JI h hk).bind fun r ⟨g,fx⟩=>?_;have m1:=g.at';have m3:=h3 he;have m4:=g.toGd.lf;have m5:=g.inv.hi;have m6:=g.toGd.len;refine bE.need (by simp only [uW];omega) ?_
    by_cases he2:r.2.e_=0
    ·have m7:=g.adv he2;obtain ⟨w1,w2⟩:=fx he2;refine (ih r.2 _ g.inv (by omega) (by rw [m6];omega) (by omega) (fun _=>by simp only [nC,uW];omega) (by simp only [nC,uW];omega)).mono fun s ⟨g2,s2⟩=>⟨g.toGd.trans g2,fun e hl=>?_⟩
     obtain ⟨v1,v2⟩:=s2 e (fun y hy=>by
      rcases At.1 hy with hy | hy
      ·exact hl y hy
      ·obtain rfl:=zN.1 hy;exact w1)
     refine ⟨v1,?_⟩;simp only [DV,rK] at v2;omega
    ·cases c with
     | zero=>omega
     | succ c=>
       unfold pI;rw [if_neg (by simpa using he2),mS,if_neg (by decide)];exact .some ⟨g.toGd,fun e=>absurd e he2⟩
end
theorem KQ {n:Nat} {s:cQ} (hn:16*s.length+200<n):bE (wT n s) fun r=>r.2.1=0->(∀x ∈ r.1.aM,WF x)/\tZ r.1.aM<=s.length+1:=by
 unfold wT;refine (MT (by omega) (by omega)).bind fun x hx=>?_;refine bE.iteb (fun h1=>.some fun h=>?_) fun h1=>?_
 ·rw [show x.2.1=0 from h] at h1;cases h1
 obtain ⟨l,h2,h3,h4,h5⟩:=hx (by simpa using h1);have hp:PI (aC.mk x.1 0 0 0 0):=⟨by simp only;omega,by simp only [h2,nC,uW];omega,by simp only [h2,nC,uW];omega,⟨l,_,h2,h3,rfl⟩⟩
 have hl:Lf (aC.mk x.1 0 0 0 0)<=16*s.length+16:=by
  unfold Lf;simp only [h2,nC,uW];omega
 refine (wW hp).bind fun r ⟨g1,e1⟩=>?_;have e:r.1.aM=[]:=by rw [e1]
 have l1:=g1.lf;have k0:=g1.inv.lo;have k1:=g1.inv.hi;have k2:=g1.inv.lf;refine (Sp n r.2 r.1 g1.inv (by omega) (by unfold Lf at l1 hl;omega) (by omega) (fun _=>by rw [e];simpa using k0) (by rw [e];simp)).bind fun y ⟨g2,s2⟩=>?_;refine bE.iteb (fun he=>.some fun h=>absurd h (by simpa using he)) fun he=>.some fun _=>?_;obtain ⟨v1,v2⟩:=s2 (by simpa using he) (fun y hy=>by rw [e] at hy;cases hy);refine ⟨v1,?_⟩;rw [e,mU] at v2;have m1:=g2.inv.hi;rw [g2.len,g1.len] at m1;simp only [h2,nC,uW] at m1;simp only;omega
end Go.Proofs.YtncembphlfbgoaaGreatDoor.Abs
