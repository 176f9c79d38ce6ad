/-
 Own helper theorems of no one function: that a model gives something, and what holds of it.
-/
import Derived.Test.YtldnmmnnohnpkaaGreatDoorFpS3
import Derived.Test.YtldnmmnnohnpkaaGreatDoorFpGMm
import Derived.Lib.IndexLaws
namespace Go.Proofs.YtldnmmnnohnpkaaGreatDoor.Abs
open Go.RowKit
def Tot {α:Type} (o:Option α) (Q:α->Prop):Prop:=∃r,o=some r/\Q r
section
variable {α β:Type} {o:Option α} {Q P:α->Prop}
theorem Tot.some {r:α} (h:Q r):Tot (some r) Q:=⟨r,rfl,h⟩
theorem Tot.mono (h:Tot o P) (k:∀x,P x->Q x):Tot o Q:=by obtain ⟨r,e,hr⟩:=h;exact ⟨r,e,k r hr⟩
theorem Tot.bind {f:α->Option β} {R:β->Prop} (h:Tot o P) (k:∀x,P x->Tot (f x) R):Tot (o.bind f) R:=by
 obtain ⟨r,e,hr⟩:=h;subst e;exact k r hr
theorem Tot.bind' {f:α->Option β} {R:β->Prop} (h:Tot o fun x=>Tot (f x) R):Tot (o.bind f) R:=h.bind fun _ k=>k
theorem Tot.eqn {v:α} {f:α->Option β} {R:β->Prop} (h:o=Option.some v) (k:Tot (f v) R):Tot (o.bind f) R:=by subst h;exact k
theorem Tot.need {c:Prop} [Decidable c] (hc:c) (h:Tot o Q):Tot (need c o) Q:=by rw [zhr hc];exact h
theorem Tot.iteb {b:Bool} {x y:Option α} (h1:b=true->Tot x Q) (h2:b=false->Tot y Q):Tot (if b=true then x else y) Q:=by
 cases b
 ·exact h2 rfl
 ·exact h1 rfl
theorem Tot.elim {γ:Type} {s:β ⊕ γ} {f:β->Option α} {g:γ->Option α} (h1:∀x,s=.inl x->Tot (f x) Q) (h2:∀x,s=.inr x->Tot (g x) Q):Tot (s.elim f g) Q:=by
 cases s
 ·exact h1 _ rfl
 ·exact h2 _ rfl
theorem Tot.idx {l:List α} {i:Int} (h0:0<=i) (h1:i<l.length) (k:∀x,l[i.toNat]? = Option.some x->Q x):Tot (idxL l i) Q:=by
 unfold idxL;rw [if_pos h0];refine ⟨l[i.toNat]'(by omega),List.getElem?_eq_getElem (by omega),k _ (List.getElem?_eq_getElem (by omega))⟩
end
theorem zcp {n:Int} (h1:-9223372036854775808<=n) (h2:n<=9223372036854775807):IntKind.i64.wrap n=n:=by
 rw [IntKind.wrap_i64];omega
theorem take_step' {α:Type} {l:List α} {j:Nat} {x:α} (h:l[j]? = some x):l.take (j+1)=l.take j++[x]:=by
 rw [List.take_add_one,h];rfl
theorem zmU {α:Type} {p:α->Bool} {s:List α} {v:Nat} {x:α} (h:∀y ∈ s.take v,p y=true) (hx:s[v]? = some x) (hp:p x=false):s.takeWhile p=s.take v:=by
 obtain ⟨hv,rfl⟩:=List.getElem?_eq_some_iff.1 hx;have h1:(s.take v++s.drop v).takeWhile p=s.take v++(s.drop v).takeWhile p:=List.takeWhile_append_of_pos h;rw [List.take_append_drop] at h1;rw [h1,List.drop_eq_getElem_cons hv,List.takeWhile_cons_of_neg (by simp [hp]),List.append_nil]
theorem find_at {α:Type} {p:α->Bool} {s:List α} {v:Nat} {x:α} (h:∀y ∈ s.take v,p y=false) (hx:s[v]? = some x) (hp:p x=true):s.find? p=some x:=by
 obtain ⟨hv,rfl⟩:=List.getElem?_eq_some_iff.1 hx
 have h1:(s.take v++s.drop v).find? p=(s.drop v).find? p:=by
  rw [List.find?_append,List.find?_eq_none.2 (fun y hy=>by simp [h y hy])];rfl
 rw [List.take_append_drop] at h1;rw [h1,List.drop_eq_getElem_cons hv,List.find?_cons_of_pos (by simp [hp])]
theorem zll {α:Type} {p:α->Bool} {s:List α} (h:∀y ∈ s,p y=true):s.takeWhile p=s:=by
 have:=List.takeWhile_append_of_pos (l₂:=[]) h;simpa using this
end Go.Proofs.YtldnmmnnohnpkaaGreatDoor.Abs
namespace Go.Proofs.YtldnmmnnohnpkaaGreatDoor.Abs
open Go.RowKit
set_option linter.unusedVariables false
set_option linter.unusedSimpArgs false
def isLet (c:Int):Bool:=(decide (97<=c) && decide (c<=122)) || (c == 95)
def isDig (c:Int):Bool:=decide (48<=c) && decide (c<=57)
def isBl (c:Int):Bool:=c == 32 || (c == 9 || (c == 13 || c == 10))
def lod (b:UInt8):Bool:=isLet b.toNat || isDig b.toNat
theorem blank_eq (a:Int):zjL a=some (isBl a):=by
 unfold zjL isBl;cases a == 32 <;> cases a == 9 <;> cases a == 13 <;> rfl
theorem znw (a:Int):zhg a=some (isLet a):=by
 unfold zhg isLet;cases decide (97<=a) <;> cases decide (a<=122) <;> simp
theorem zoE (a:Int):ziB a=some (isDig a):=by
 unfold ziB isDig;cases decide (48<=a) <;> simp
theorem zlf (a b:Str):zbW a b=some (decide (a.take b.length=b)):=by
 unfold zbW
 by_cases h:(b.length:Int)<=a.length
 ·rw [if_pos (by simpa using h),zhr ⟨by omega,h⟩];rfl
 ·rw [if_neg (by simpa using h),Option.bind_some,decide_eq_false];intro e;have:=congrArg List.length e;rw [List.length_take] at this;omega
theorem zg1 (a b:Str):zeu a b=some (decide (a.take b.length=b)):=by
 unfold zeu;rw [zlf];rfl
theorem zjW (a:Str) (c:Int):zet a c=some (Lib.indexByte a c.toNat.toUInt8):=rfl
theorem word_l1 (s:Str):∀(c:Nat) (v:Nat),s.length<v+c->v<=s.length->(∀y ∈ s.take v,lod y=true)->s.length<4611686018427387904 ->
  Tot (zfM s c v) (fun r=>match r with | .inl _=>s.takeWhile lod=s | .inr t=>t=s.takeWhile lod):=by
 intro c
 induction c with
 | zero=>intro v h1 h2;omega
 | succ c ih=>
   intro v h1 h2 h3 hs;unfold zfM;refine Tot.iteb (fun h4=>?_) (fun h4=>?_)
   ·simp only [decide_eq_true_eq] at h4;refine (Tot.bind (P:=fun y=>∃x,s[v]? = some x/\y=!lod x) ?_) ?_
    ·refine Tot.bind' (Tot.idx (by omega) h4 fun x hx=>?_);rw [Int.toNat_natCast] at hx;rw [znw,Option.bind_some,zoE,Option.bind_some];refine Tot.iteb (fun h5=>.some ⟨x,hx,?_⟩) (fun h5=>.some ⟨x,hx,?_⟩)
     ·simp only [Bool.not_eq_true'] at h5;simp [lod,h5]
     ·simp only [Bool.not_eq_false'] at h5;simp [lod,h5]
    ·rintro y ⟨x,hx,rfl⟩;refine Tot.iteb (fun h5=>?_) (fun h5=>?_)
     ·refine Tot.need ⟨by omega,by omega⟩ (.some ?_);simp only [Bool.not_eq_true'] at h5;rw [Int.toNat_natCast];exact (zmU h3 hx h5).symm
     ·simp only [Bool.not_eq_false'] at h5;rw [zcp (by omega) (by omega)];refine ih (v+1) (by omega) (by omega) ?_ hs;rw [take_step' hx];intro y hy
      rcases List.mem_append.1 hy with hy | hy
      ·exact h3 y hy
      ·rw [List.mem_singleton.1 hy];exact h5
   ·refine .some ?_;simp only [decide_eq_false_iff_not] at h4;rw [List.take_of_length_le (by omega)] at h3;exact zll h3
theorem word_eq {n:Nat} {s:Str} (hn:s.length<n) (hs:s.length<4611686018427387904):zkH n s=some (s.takeWhile lod):=by
 unfold zkH;obtain ⟨r,e,hr⟩:=word_l1 s n 0 (by omega) (by omega) (by simp) hs;rw [show ((0:Nat):Int)=0 from rfl] at e;rw [e,Option.bind_some];cases r with
 | inl _=>rw [hr];rfl
 | inr t=>rw [hr];rfl
theorem sign_l1 (s:Str):∀(c:Nat) (v:Nat),26<v+c->v<=26->(∀y ∈ zbR.take v,decide (s.take y.length=y)=false) ->
  Tot (zfN s c v) (fun r=>match r with | .inl _=>zbR.find? (fun y=>decide (s.take y.length=y))=none | .inr t=>zbR.find? (fun y=>decide (s.take y.length=y))=some t):=by
 intro c
 induction c with
 | zero=>intro v h1 h2;omega
 | succ c ih=>
   intro v h1 h2 h3;unfold zfN;refine Tot.iteb (fun h4=>?_) (fun h4=>?_)
   ·simp only [decide_eq_true_eq] at h4;refine Tot.bind' (Tot.idx (by omega) (by have:zbR.length=26:=rfl;omega) fun x hx=>?_);rw [Int.toNat_natCast] at hx;rw [zg1,Option.bind_some];refine Tot.iteb (fun h5=>.some ?_) (fun h5=>?_)
    ·exact find_at h3 hx h5
    ·rw [zcp (by omega) (by omega)];refine ih (v+1) (by omega) (by omega) ?_;rw [take_step' hx];intro y hy
     rcases List.mem_append.1 hy with hy | hy
     ·exact h3 y hy
     ·rw [List.mem_singleton.1 hy];exact h5
   ·refine .some ?_;simp only [decide_eq_false_iff_not] at h4;rw [List.take_of_length_le (by have:zbR.length=26:=rfl;omega)] at h3;exact List.find?_eq_none.2 fun y hy=>by simpa using h3 y hy
def zl8 (s:Str):Str:=(zbR.find? (fun y=>decide (s.take y.length=y))).getD []
theorem sign_eq {n:Nat} {s:Str} (hn:26<n):zkI n s=some (zl8 s):=by
 unfold zkI zl8;obtain ⟨r,e,hr⟩:=sign_l1 s n 0 (by omega) (by omega) (by simp);rw [show ((0:Nat):Int)=0 from rfl] at e;rw [e,Option.bind_some];cases r with
 | inl _=>rw [hr];rfl
 | inr t=>rw [hr];rfl
theorem zoM (s:Str):zl8 s=[] ∨ 1<=(zl8 s).length/\(zl8 s).length<=s.length:=by
 unfold zl8;cases h:zbR.find? (fun y=>decide (s.take y.length=y)) with
 | none=>exact .inl rfl
 | some y=>
   have h1:=List.find?_some h;have h2:=List.mem_of_find?_eq_some h;simp only [decide_eq_true_eq] at h1;have h3:=congrArg List.length h1;rw [List.length_take] at h3;have h4:(zbR.all fun y=>decide (1<=y.length))=true:=by decide
   have h5:=List.all_eq_true.1 h4 y h2;simp only [decide_eq_true_eq] at h5;exact .inr ⟨h5,by show y.length<=_;omega⟩
theorem skip_l1 (s:Str) (hs:s.length<4611686018427387904):∀(c:Nat) (v:Nat),s.length<v+c->v<=s.length->Tot (zfz s c v) (fun r=>∃k:Nat,v<=k/\k<=s.length/\(r=.inl (k:Int) ∨ r=.inr (k:Int))):=by
 intro c
 induction c with
 | zero=>intro v h1 h2;omega
 | succ c ih=>
   intro v h1 h2;unfold zfz;refine Tot.iteb (fun h4=>?_) (fun h4=>.some ⟨v,by omega,h2,.inl rfl⟩);simp only [decide_eq_true_eq] at h4;refine Tot.bind' (Tot.idx (by omega) h4 fun x hx=>?_);rw [Int.toNat_natCast] at hx;rw [blank_eq,Option.bind_some];refine Tot.iteb (fun h5=>?_) (fun h5=>?_)
   ·rw [zcp (by omega) (by omega)];exact (ih (v+1) (by omega) (by omega)).mono fun r ⟨k,h6,h7,h8⟩=>⟨k,by omega,h7,h8⟩
   ·refine Tot.need ⟨by omega,by omega⟩ ?_;rw [Int.toNat_natCast,zg1,Option.bind_some];refine Tot.iteb (fun h6=>?_) (fun h6=>.some ⟨v,by omega,h2,.inr rfl⟩);simp only [decide_eq_true_eq] at h6;refine Tot.need ⟨by omega,by omega⟩ ?_;rw [zjW,Option.bind_some];refine Tot.iteb (fun h7=>.some ⟨s.length,h2,by omega,.inr rfl⟩) (fun h7=>?_);simp only [decide_eq_false_iff_not,Int.not_lt] at h7;obtain ⟨o,ho⟩:=Int.eq_ofNat_of_zero_le h7;rw [ho];obtain ⟨h8,h9⟩:=Lib.indexByte_some ho;have h10:o<(s.drop v).length:=(List.getElem?_eq_some_iff.1 h8).1;rw [List.length_drop] at h10
    have h11:o ≠ 0:=by
     rintro rfl;have h12:=congrArg (·[0]?) h6;simp only [List.getElem?_take_of_lt (show 0<([47,47]:Str).length by decide)] at h12;rw [h8] at h12
     revert h12;decide
    rw [zcp (by omega) (by omega)];exact (ih (v+o) (by omega) (by omega)).mono fun r ⟨k,h6,h7,h8⟩=>⟨k,by omega,h7,h8⟩
theorem zom {n:Nat} {s:Str} {v:Nat} (hs:s.length<4611686018427387904) (hn:s.length<v+n) (hv:v<=s.length):Tot (zj2 n s v) fun r=>∃k:Nat,v<=k/\k<=s.length/\r=k:=by
 unfold zj2;refine (skip_l1 s hs n v hn hv).bind fun r ⟨k,h1,h2,h3⟩=>?_
 rcases h3 with rfl | rfl <;> exact .some ⟨k,h1,h2,rfl⟩
theorem value_l1 (x:Str × Bool) (hs:x.1.length<4611686018427387904):∀(c:Nat) (t:Int) (v:Nat),x.1.length<v+c->v<=x.1.length->Tot (zfy x c t v) fun _=>True:=by
 intro c
 induction c with
 | zero=>intro t v h1 h2;omega
 | succ c ih=>
   intro t v h1 h2;unfold zfy;refine Tot.iteb (fun h4=>?_) (fun h4=>.some trivial);simp only [decide_eq_true_eq] at h4;refine Tot.need (by decide) ?_;refine Tot.bind' (Tot.idx (by omega) h4 fun y hy=>?_);rw [zjW,Option.bind_some];refine Tot.bind (P:=fun _=>True) (Tot.iteb (fun _=>.some trivial) fun _=>.some trivial) fun y _=>?_;refine Tot.iteb (fun _=>.some trivial) fun _=>?_;rw [zcp (n:=(v:Int)+1) (by omega) (by omega)];exact ih _ (v+1) (by omega) (by omega)
theorem value_l2 (s:Str) (hs:s.length<4611686018427387904):∀(c:Nat) (t:Int) (v:Nat),s.length<v+c->v<=s.length->Tot (zfx s c t v) fun _=>True:=by
 intro c
 induction c with
 | zero=>intro t v h1 h2;omega
 | succ c ih=>
   intro t v h1 h2;unfold zfx;refine Tot.iteb (fun h4=>?_) (fun h4=>.some trivial);simp only [decide_eq_true_eq] at h4;refine Tot.need (by decide) ?_;refine Tot.bind' (Tot.idx (by omega) h4 fun y hy=>?_);rw [zjW,Option.bind_some];refine Tot.bind (P:=fun _=>True) (Tot.iteb (fun _=>.some trivial) fun _=>.some trivial) fun y _=>?_;refine Tot.iteb (fun _=>.some trivial) fun _=>?_;rw [zcp (n:=(v:Int)+1) (by omega) (by omega)];exact ih _ (v+1) (by omega) (by omega)
theorem znx (a b:Str):zeT a b=some (if a.take b.length=b then (a.drop b.length,true) else (a,false)):=by
 unfold zeT zcT;rw [zlf,Option.bind_some]
 by_cases h:a.take b.length=b
 ·rw [decide_eq_true h,if_neg (by decide),if_pos h,zhr]
  ·rfl
  ·have:=congrArg List.length h;rw [List.length_take] at this;omega
 ·rw [decide_eq_false h,if_pos (by decide),if_neg h];rfl
theorem zpy {n:Nat} {s:Str} (hs:s.length<4611686018427387904) (hn:s.length<n):Tot (zjK n s) fun _=>True:=by
 unfold zjK;rw [znx,Option.bind_some]
 have hl:∀x:Str × Bool,x=(if s.take ([48,120]:Str).length=([48,120]:Str) then (s.drop ([48,120]:Str).length,true) else (s,false))->x.1.length<=s.length:=by
  rintro x rfl
  split
  ·rw [List.length_drop];omega
  ·exact Nat.le_refl _
 generalize (if s.take ([48,120]:Str).length=([48,120]:Str) then (s.drop ([48,120]:Str).length,true) else (s,false))=x at hl
 have hx:=hl x rfl;refine Tot.iteb (fun _=>?_) fun _=>?_
 ·exact (value_l1 x (by omega) n 0 0 (by omega) (by omega)).bind fun r _=>Tot.elim (fun _ _=>.some trivial) fun _ _=>.some trivial
 ·exact (value_l2 s (by omega) n 0 0 (by omega) (by omega)).bind fun r _=>Tot.elim (fun _ _=>.some trivial) fun _ _=>.some trivial
theorem next_tot {n:Nat} {s:Str} {v:Nat} (hs:s.length<4611686018427387904) (hn:s.length<n) (hn2:26<n) (hv:v<s.length) :
  Tot (zkJ n s v) fun r=>r.2=0->(r.1.za4=1 ∨ r.1.za4=2 ∨ r.1.za4=3)/\r.1.At_=v/\1<=r.1.za7.length/\v+r.1.za7.length<=s.length:=by
 unfold zkJ;refine Tot.need ⟨by omega,by omega⟩ ?_;rw [Int.toNat_natCast,word_eq (by rw [List.length_drop];omega) (by rw [List.length_drop];omega),Option.bind_some];refine Tot.bind' (Tot.idx (by omega) (by omega) fun x hx=>?_);rw [Int.toNat_natCast] at hx
 have hd:s.drop v=x::s.drop (v+1):=by
  obtain ⟨h1,rfl⟩:=List.getElem?_eq_some_iff.1 hx;exact List.drop_eq_getElem_cons h1
 have hle:((s.drop v).takeWhile lod).length<=s.length - v:=by
  have:=(List.takeWhile_prefix (l:=s.drop v) lod).length_le
  rwa [List.length_drop] at this
 have hpos:lod x=true->1<=((s.drop v).takeWhile lod).length:=by
  intro h;rw [hd,List.takeWhile_cons_of_pos h,List.length_cons];omega
 rw [znw,Option.bind_some];refine Tot.iteb (fun h1=>Tot.iteb (fun _=>.some fun h=>by cases h) fun _=>.some fun _=>⟨.inl rfl,rfl,hpos (by simp [lod,h1]),by simp only;omega⟩) fun h1=>?_;rw [zoE,Option.bind_some];refine Tot.iteb (fun h2=>?_) fun h2=>?_
 ·refine (zpy (by omega) (by omega)).bind fun y _=>Tot.iteb (fun _=>.some fun h=>by cases h) fun _=>.some fun _=>⟨.inr (.inl rfl),rfl,hpos (by simp [lod,h2]),by simp only;omega⟩
 ·refine Tot.need ⟨by omega,by omega⟩ ?_;rw [sign_eq hn2,Option.bind_some];refine Tot.iteb (fun _=>.some fun h=>by cases h) fun h3=>.some fun _=>⟨.inr (.inr rfl),rfl,?_⟩;have h4:=zoM (s.drop v);simp only [decide_eq_false_iff_not] at h3
  rcases h4 with h4 | h4
  ·exact absurd h4 h3
  ·rw [List.length_drop] at h4;exact ⟨h4.1,by simp only;omega⟩
def zqS (l:List zbg):Prop:=∀t ∈ l,(t.za4=1 ∨ t.za4=2 ∨ t.za4=3)/\t.za7 ≠ []
theorem zqR {n:Nat} {s:Str} (hs:s.length<=65536) (hn:s.length<n) (hn2:26<n):∀(c:Nat) (l:List zbg) (v:Nat),s.length<v+c->v<=s.length->zqS l->l.length<=v ->
  Tot (zfa n s c l v) fun r=>match r with | .inl l=>zqS l/\l.length<=s.length | .inr x=>x.2.1 ≠ 0:=by
 intro c
 induction c with
 | zero=>intro l v h1 h2;omega
 | succ c ih=>
   intro l v h1 h2 h3 h4;unfold zfa;refine Tot.iteb (fun h5=>?_) fun h5=>.some ⟨h3,by omega⟩;simp only [decide_eq_true_eq] at h5;refine (next_tot (by omega) hn hn2 (by omega)).bind fun x hx=>?_;refine Tot.iteb (fun h6=>.some (by simpa using h6)) fun h6=>?_;obtain ⟨k1,k2,k3,k4⟩:=hx (by simpa using h6);refine Tot.need (by simp only [List.length_singleton];omega) ?_;rw [zcp (by omega) (by omega)];refine (zom (v:=v+x.1.za7.length) (by omega) (by omega) k4).bind fun r ⟨k,h7,h8,h9⟩=>?_;subst h9;refine ih _ k (by omega) h8 ?_ (by simp only [List.length_append,List.length_singleton];omega);intro t ht
   rcases List.mem_append.1 ht with ht | ht
   ·exact h3 t ht
   ·rw [List.mem_singleton.1 ht];exact ⟨k1,fun e=>by rw [e] at k3;simp at k3⟩
theorem zpr {n:Nat} {s:Str} (hn:s.length<n) (hn2:26<n):Tot (ziA n s) fun r=>r.2.1=0->∃l,r.1=l++[⟨4,s.length,[],0⟩]/\zqS l/\l.length<=s.length/\s.length<=65536:=by
 unfold ziA;refine Tot.iteb (fun _=>.some fun h=>by cases h) fun h1=>?_;simp only [decide_eq_false_iff_not,Int.not_lt] at h1;refine (zom (v:=0) (by omega) (by omega) (by omega)).bind fun r ⟨k,h2,h3,h4⟩=>?_;subst h4;refine (zqR (by omega) hn hn2 n [] k (by omega) h3 (by simp [zqS]) (by simp)).bind fun y hy=>?_;refine Tot.elim (fun z e=>?_) (fun z e=>?_)
 ·subst e;refine Tot.need (by simp only [List.length_singleton];omega) (.some fun _=>⟨z,rfl,hy.1,hy.2,by omega⟩)
 ·subst e;exact .some fun h=>absurd h hy
end Go.Proofs.YtldnmmnnohnpkaaGreatDoor.Abs
namespace Go.Proofs.YtldnmmnnohnpkaaGreatDoor.Abs
open Go.RowKit
set_option linter.unusedVariables false
abbrev Nd:=zaa
mutual
def sz:zaa->Int
 | ⟨_,_,_,_,l⟩=>1+szL l
def szL:List zaa->Int
 | []=>0
 | x::l=>sz x+szL l
end
theorem zdi {a b:Int} {c:Str} {d:Int} {l:List zaa}:sz ⟨a,b,c,d,l⟩=1+szL l:=by rw [sz]
theorem zeB:szL []=0:=by rw [szL]
theorem zgA {x:zaa} {l:List zaa}:szL (x::l)=sz x+szL l:=by rw [szL]
theorem zlm (x:zaa):sz x=1+szL x.zas:=by cases x;rw [sz]
theorem zkX {a b:List zaa}:szL (a++b)=szL a+szL b:=by
 induction a with
 | nil=>rw [List.nil_append,zeB,Int.zero_add]
 | cons x a ih=>rw [List.cons_append,zgA,zgA,ih,Int.add_assoc]
theorem zgF {x:zaa}:szL [x]=sz x:=by rw [zgA,zeB,Int.add_zero]
theorem zmW {x y:zaa}:szL [x,y]=sz x+sz y:=by rw [zgA,zgF]
theorem zoG {x y z:zaa}:szL [x,y,z]=sz x+sz y+sz z:=by rw [zgA,zmW,Int.add_assoc]
mutual
theorem zfF:∀x:zaa,1<=sz x
 | ⟨_,_,_,_,l⟩=>by rw [sz];have:=zeZ l;omega
theorem zeZ:∀l:List zaa,(l.length:Int)<=szL l
 | []=>by rw [szL];exact Int.le_refl _
 | x::l=>by rw [szL,List.length_cons];have:=zeZ l;have:=zfF x;omega
end
theorem zmV {l:List zaa} {k:zaa} (h:k ∈ l):sz k<=szL l:=by
 obtain ⟨a,b,rfl⟩:=List.append_of_mem h;rw [zkX,zgA];have h1:=zeZ a;have h2:=zeZ b;omega
def zl7:List Str:=[[124],[94],[38],[61,61],[60],[60,60],[62,62],[60,60,60],[43],[45],[42],[47],[37]]
inductive WE:Nd->Prop
 | num {a n}:WE ⟨14,a,[],n,[]⟩
 | ref {a s}:WE ⟨15,a,s,0,[]⟩
 | index {a s x}:WE x->WE ⟨16,a,s,0,[x]⟩
 | un {a s x}:(s=[126] ∨ s=[45])->WE x->WE ⟨18,a,s,0,[x]⟩
 | bin {a s x y}:s ∈ zl7->WE x->WE y->WE ⟨19,a,s,0,[x,y]⟩
 | call {a s xs}:(∀x ∈ xs,WE x)->WE ⟨17,a,s,0,xs⟩
inductive WS:Nd->Prop
 | bind {k a s x}:(k=5 ∨ k=6)->WE x->WS ⟨k,a,s,0,[x]⟩
 | arr {a s n}:WS ⟨7,a,s,n,[]⟩
 | ret {a x}:WE x->WS ⟨13,a,[],0,[x]⟩
 | choice {a c b ys}:WE c->(∀y ∈ ys,WS y)->WS ⟨11,a,[],0,[c,⟨4,b,[],0,ys⟩]⟩
 | choice2 {a c b ys b2 zs}:WE c->(∀y ∈ ys,WS y)->(∀z ∈ zs,WS z)->WS ⟨11,a,[],0,[c,⟨4,b,[],0,ys⟩,⟨4,b2,[],0,zs⟩]⟩
 | loop {a s x y b ys}:WE x->WE y->(∀y ∈ ys,WS y)->WS ⟨12,a,s,0,[x,y,⟨4,b,[],0,ys⟩]⟩
 | call {a s xs}:(∀x ∈ xs,WE x)->WS ⟨10,a,s,0,xs⟩
 | put {a s i x}:WE i->WE x->WS ⟨9,a,s,0,[i,x]⟩
 | set {a s x}:WE x->WS ⟨8,a,s,0,[x]⟩
inductive WP:Nd->Prop
 | word {a s k}:(k=1 ∨ k=2 ∨ k=3)->WP ⟨3,a,s,k,[]⟩
 | arr {a s b n}:WP ⟨3,a,s,4,[⟨14,b,[],n,[]⟩]⟩
inductive WF:Nd->Prop
 | fn {a s r ps b ys}:(∀p ∈ ps,WP p)->(∀y ∈ ys,WS y)->WF ⟨2,a,s,r,ps++[⟨4,b,[],0,ys⟩]⟩
theorem mem1 {α:Type} {x:α}:x ∈ [x]:=List.mem_singleton.2 rfl
end Go.Proofs.YtldnmmnnohnpkaaGreatDoor.Abs
namespace Go.Proofs.YtldnmmnnohnpkaaGreatDoor.Abs
open Go.RowKit
set_option linter.unusedVariables false
set_option linter.unusedSimpArgs false
structure PI (p:zab):Prop where
 lo:0<=p.at_
 hi:p.at_<p.l_.length
 big:p.l_.length<=65537
 toks:∃l z,p.l_=l++[z]/\zqS l/\z.za4=4
structure Gd (p p':zab):Prop where
 inv:PI p'
 l:p'.l_=p.l_
 at':p.at_<=p'.at_
 err':p.e_ ≠ 0->p'.e_=p.e_/\p'.at_=p.at_
structure GA (p p':zab):Prop extends Gd p p' where
 adv:p'.e_=0->p.at_<p'.at_
theorem Gd.err {p q:zab} (h:Gd p q):p.e_ ≠ 0->q.e_ ≠ 0/\q.at_=p.at_:=fun he=>⟨by rw [(h.err' he).1];exact he,(h.err' he).2⟩
theorem Gd.refl {p:zab} (h:PI p):Gd p p:=⟨h,rfl,Int.le_refl _,fun h=>⟨rfl,rfl⟩⟩
theorem Gd.trans {p q r:zab} (h:Gd p q) (k:Gd q r):Gd p r:=⟨k.inv,k.l.trans h.l,Int.le_trans h.at' k.at',fun he=>⟨(k.err' (h.err he).1).1.trans (h.err' he).1,(k.err' (h.err he).1).2.trans (h.err' he).2⟩⟩
theorem Gd.e0 {p q:zab} (h:Gd p q) (he:q.e_=0):p.e_=0:=Classical.byContradiction fun hn=>(h.err hn).1 he
theorem Gd.ga {p q r:zab} (h:Gd p q) (k:GA q r):GA p r:=⟨h.trans k.toGd,fun he=>Int.lt_of_le_of_lt h.at' (k.adv he)⟩
theorem GA.gd {p q r:zab} (h:GA p q) (k:Gd q r):GA p r:=⟨h.toGd.trans k,fun he=>Int.lt_of_lt_of_le (h.adv (k.e0 he)) k.at'⟩
theorem GA.ga {p q r:zab} (h:GA p q) (k:GA q r):GA p r:=h.gd k.toGd
theorem Gd.len {p q:zab} (h:Gd p q):q.l_.length=p.l_.length:=by rw [h.l]
section
variable {p:zab} {n:Nat}
theorem zgE (h:PI p):Tot (zbA p) fun t=>t.za4 ≠ 4->p.at_+1<p.l_.length:=by
 unfold zbA;refine Tot.bind' (Tot.idx h.lo h.hi fun x hx=>.some fun hk=>?_);obtain ⟨l,z,h1,h2,h3⟩:=h.toks;have h4:=h.lo;have h5:=h.hi;rw [h1] at hx h5 ⊢;simp only [List.length_append,List.length_singleton] at h5 ⊢
 by_cases h6:p.at_.toNat=l.length
 ·rw [List.getElem?_append_right (by omega),h6,Nat.sub_self] at hx;simp at hx
  subst hx;exact absurd h3 hk
 ·omega
theorem zkN (h:PI p) {e:Int} (he:e ≠ 0):Tot (zcx p e) fun q=>Gd p q/\q.e_ ≠ 0:=by
 unfold zcx;refine Tot.iteb (fun h1=>?_) fun h1=>.some ⟨.refl h,by simpa using h1⟩;simp only [beq_iff_eq] at h1;exact (zgE h).bind fun t _=>.some ⟨⟨⟨h.lo,h.hi,h.big,h.toks⟩,rfl,Int.le_refl _,fun hn=>absurd h1 hn⟩,he⟩
theorem zhP (h:PI p) {k:Int}:Tot (zbG p k) fun r=>Gd p r.2/\r.1=⟨k,r.1.At_,[],0,[]⟩:=by
 unfold zbG;have hp:PI { p with zgo:=(IntKind.i64.wrap (p.zgo+(1:Int))) }:=⟨h.lo,h.hi,h.big,h.toks⟩;have hg:Gd p { p with zgo:=(IntKind.i64.wrap (p.zgo+(1:Int))) }:=⟨hp,rfl,Int.le_refl _,fun hn=>⟨rfl,rfl⟩⟩;refine Tot.iteb (fun h1=>?_) fun h1=>?_
 ·exact (zkN hp (by decide)).bind fun q ⟨g,_⟩=>(zgE g.inv).bind fun t _=>.some ⟨hg.trans g,rfl⟩
 ·exact (zgE hp).bind fun t _=>.some ⟨hg,rfl⟩
theorem Index_l1 (l:List Str) (s:Str) (hl:l.length<1000):∀(c:Nat) (v:Nat),l.length<v+c->v<=l.length->(∀y ∈ l.take v,decide (s=y)=false) ->
  Tot (zbx l s c v) fun r=>match r with | .inl _=>(l.any fun y=>decide (s=y))=false | .inr k=>0<=k/\(l.any fun y=>decide (s=y))=true:=by
 intro c
 induction c with
 | zero=>intro v h1 h2;omega
 | succ c ih=>
   intro v h1 h2 h3;unfold zbx;refine Tot.iteb (fun h4=>?_) (fun h4=>?_)
   ·simp only [decide_eq_true_eq] at h4;refine Tot.bind' (Tot.idx (by omega) h4 fun x hx=>?_);rw [Int.toNat_natCast] at hx;refine Tot.iteb (fun h5=>.some ⟨by omega,?_⟩) (fun h5=>?_)
    ·exact List.any_eq_true.2 ⟨x,List.mem_of_getElem? hx,h5⟩
    ·rw [zcp (by omega) (by omega)];refine ih (v+1) (by omega) (by omega) ?_;rw [take_step' hx];intro y hy
     rcases List.mem_append.1 hy with hy | hy
     ·exact h3 y hy
     ·rw [List.mem_singleton.1 hy];exact h5
   ·refine .some ?_;simp only [decide_eq_false_iff_not] at h4;rw [List.take_of_length_le (by omega)] at h3;exact List.any_eq_false.2 fun y hy=>by simp [h3 y hy]
def isWord (s:Str):Bool:=zaX.any fun y=>decide (s=y)
theorem zqQ {s:Str} (hn:13<n):zhf n s=some (isWord s):=by
 unfold zhf zcK zdh;obtain ⟨r,e,hr⟩:=Index_l1 zaX s (by decide) n 0 (by have:zaX.length=13:=rfl;omega) (by omega) (by simp);rw [show ((0:Nat):Int)=0 from rfl] at e;rw [e,Option.bind_some];unfold isWord;cases r with
 | inl _=>rw [hr];rfl
 | inr k=>
   rw [hr.2];simp only [Sum.elim_inr,Option.bind_some,Option.some.injEq,decide_eq_true_eq];exact hr.1
theorem znf (h:PI p) (hn:13<n) {s:Str}:Tot (zcL n p s) fun b=>b=true->p.e_=0/\p.at_+1<p.l_.length:=by
 unfold zcL;refine (zgE h).bind fun t ht=>?_;refine Tot.bind (P:=fun b=>b=true->p.e_=0/\p.at_+1<p.l_.length) ?_ fun b hb=>.some hb;refine Tot.iteb (fun h1=>?_) fun h1=>.some fun h=>by cases h
 simp only [beq_iff_eq] at h1;refine Tot.iteb (fun h2=>?_) fun h2=>.some fun h=>by cases h
 refine Tot.iteb (fun h3=>.some fun _=>⟨h1,ht ?_⟩) fun h3=>?_
 ·simp only [beq_iff_eq] at h3;omega
 refine Tot.iteb (fun h4=>?_) fun h4=>.some fun h=>by cases h
 rw [zqQ hn,Option.bind_some];refine .some fun _=>⟨h1,ht ?_⟩;simp only [beq_iff_eq] at h4;omega
theorem znF (h:PI p) (he:p.e_=0) (hk:p.at_+1<p.l_.length):IntKind.i64.wrap (p.at_+(1:Int))=p.at_+1/\GA p { p with at_:=p.at_+1 }:=by
 have h1:=h.lo;have h2:=h.big;refine ⟨zcp (by omega) (by omega),⟨⟨⟨by simp only;omega,by simpa using hk,h.big,h.toks⟩,rfl,by simp only;omega,fun hn=>absurd he hn⟩,fun _=>by simp only;omega⟩⟩
theorem zdz (h:PI p) (hn:13<n) {s:Str}:Tot (zaN n p s) fun r=>Gd p r.2/\(r.1=true->p.e_=0/\GA p r.2/\r.2.e_=0)/\(r.1=false->r.2=p):=by
 unfold zaN;refine (znf h hn).bind fun b hb=>?_;refine Tot.iteb (fun h1=>.some ⟨.refl h,(fun h=>by cases h),fun _=>rfl⟩) fun h1=>?_;simp only [Bool.not_eq_false'] at h1;obtain ⟨h2,h3⟩:=hb h1;obtain ⟨h4,h5⟩:=znF h h2 h3;rw [h4];exact .some ⟨h5.toGd,fun _=>⟨h2,h5,h2⟩,fun h=>by cases h⟩
theorem zcY (h:PI p) (hn:13<n) {s:Str}:Tot (zaF n p s) fun q=>GA p q:=by
 unfold zaF;refine (zdz h hn).bind fun r ⟨h1,h2,h3⟩=>?_;refine Tot.iteb (fun h4=>?_) fun h4=>.some (h2 (by simpa using h4)).2.1;exact (zkN h1.inv (by decide)).bind fun q ⟨g,he⟩=>.some ⟨h1.trans g,fun h=>absurd h he⟩
theorem ziY (h:PI p) (hn:13<n):Tot (zby n p) fun r=>GA p r.2:=by
 unfold zby;refine (zgE h).bind fun t ht=>?_;refine Tot.bind (P:=fun b=>b=false->p.e_=0/\t.za4=1) ?_ fun b hb=>?_
 ·refine Tot.iteb (fun h1=>.some fun h=>by cases h) fun h1=>?_;refine Tot.iteb (fun h2=>.some fun h=>by cases h) fun h2=>?_;rw [zqQ hn,Option.bind_some];exact .some fun _=>⟨by simpa using h1,by simpa using h2⟩
 ·refine Tot.iteb (fun h1=>?_) fun h1=>?_
  ·exact (zkN h (by decide)).bind fun q ⟨g,he⟩=>.some ⟨g,fun h=>absurd h he⟩
  ·obtain ⟨h2,h3⟩:=hb h1;obtain ⟨h4,h5⟩:=znF h h2 (ht (by omega));rw [h4];exact .some h5
theorem zmd (h:PI p):Tot (zc9 p) fun r=>GA p r.2:=by
 unfold zc9;refine (zgE h).bind fun t ht=>?_;refine Tot.bind (P:=fun b=>b=false->p.e_=0/\t.za4=2) ?_ fun b hb=>?_
 ·refine Tot.iteb (fun h1=>.some fun h=>by cases h) fun h1=>.some fun h=>⟨by simpa using h1,by simpa using h⟩
 ·refine Tot.iteb (fun h1=>?_) fun h1=>?_
  ·exact (zkN h (by decide)).bind fun q ⟨g,he⟩=>.some ⟨g,fun h=>absurd h he⟩
  ·obtain ⟨h2,h3⟩:=hb h1;obtain ⟨h4,h5⟩:=znF h h2 (ht (by omega));rw [h4];exact .some h5
theorem zon (h:PI p) (hn:13<n):Tot (zdP n p) fun r=>GA p r.2:=by
 unfold zdP;exact (zcY h hn).bind fun q g1=>(zmd g1.inv).bind fun r g2=>(zcY g2.inv hn).bind fun s g3=>.some (g1.ga (g2.ga g3))
theorem param_l1 (hn:13<n):∀(c:Nat) (v:Nat) (p:zab) (x y:zaa),3<v+c->v<=3->PI p->Tot (zcv n c v p x y) fun r=>match r with | .inl s=>Gd p s.1/\s.2.2=y | .inr s=>Gd p s.2/\∃k,(k=1 ∨ k=2 ∨ k=3)/\s.1={ y with Num_:=k }:=by
 intro c
 induction c with
 | zero=>intro v p x y h1 h2;omega
 | succ c ih=>
   intro v p x y h1 h2 h;unfold zcv;refine Tot.iteb (fun h4=>?_) fun h4=>.some ⟨.refl h,rfl⟩;simp only [decide_eq_true_eq] at h4;refine Tot.bind' (Tot.idx (by omega) (by have:ze5.length=3:=rfl;omega) fun z hz=>?_);refine (zdz h hn).bind fun r ⟨g1,g2,g3⟩=>?_;refine Tot.iteb (fun _=>.some ⟨g1,_,?_,rfl⟩) fun _=>?_
   ·have h5:v=0 ∨ v=1 ∨ v=2:=by omega
    rcases h5 with rfl | rfl | rfl <;> decide
   rw [zcp (by omega) (by omega)];refine (ih (v+1) r.2 x y (by omega) (by omega) g1.inv).mono fun s hs=>?_;cases s with
   | inl s=>exact ⟨g1.trans hs.1,hs.2⟩
   | inr s=>exact ⟨g1.trans hs.1,hs.2⟩
theorem zp7 (h:PI p) (hn:13<n):Tot (zei n p) fun r=>GA p r.2/\(r.2.e_=0->WP r.1/\sz r.1<=r.2.at_ - p.at_):=by
 unfold zei;refine (zhP h).bind fun r ⟨g1,e1⟩=>(ziY g1.inv hn).bind fun s g2=>(zcY g2.inv hn).bind fun q g3=>?_;refine (param_l1 hn n 0 q _ _ (by omega) (by omega) g3.inv).bind fun y hy=>?_;have g4:=g1.ga (g2.ga g3);refine Tot.elim (fun z e=>?_) fun z e=>?_
 ·subst e;obtain ⟨hy,hz⟩:=hy;refine (zhP hy.inv).bind fun r ⟨g5,e5⟩=>(zon g5.inv hn).bind fun s g6=>.some ⟨(g4.gd hy).ga (g5.ga g6),fun e=>?_⟩;have m6:=g6.adv e;have e6:=(g5.ga g6).toGd.e0 e;have e7:=hy.e0 e6;have m3:=g3.adv e7;have m2:=g2.adv (g3.toGd.e0 e7);have m1:=g1.at';have m5:=g5.at';have m4:=hy.at';rw [hz,e1,e5];exact ⟨.arr,by rw [zdi,zgF,zdi,zeB];simp only;omega⟩
 ·subst e;obtain ⟨hy,k,hk,hz⟩:=hy;refine .some ⟨g4.gd hy,fun e=>?_⟩;have e7:=hy.e0 e;have m3:=g3.adv e7;have m1:=g1.at';have m2:=g2.at';have m4:=hy.at';rw [hz,e1];exact ⟨.word hk,by rw [zdi,zeB];omega⟩
theorem zmC (hn:13<n):∀(c:Nat) (l:List zaa) (p:zab),PI p->(p.l_.length:Int) - p.at_<c->(l.length:Int)<=p.at_->Tot (zbH n c l p) fun r=>Gd p r.2/\(r.1.length:Int)<=r.2.at_+1/\(r.2.e_=0->(∀x ∈ l,WP x)->(∀x ∈ r.1,WP x)/\szL r.1<=szL l+(r.2.at_ - p.at_)):=by
 intro c
 induction c with
 | zero=>intro l p h h1 h2;have:=h.hi;omega
 | succ c ih=>
   intro l p h h1 h2;have k1:=h.lo;have k2:=h.hi;have k3:=h.big;unfold zbH;refine Tot.iteb (fun h4=>?_) fun h4=>.some ⟨.refl h,by simp only;omega,fun _ hl=>⟨hl,by simp only;omega⟩⟩;refine (zp7 h hn).bind fun x ⟨g1,gx⟩=>?_;refine Tot.need (by simp only [List.length_singleton];omega) ?_;refine (zdz g1.inv hn).bind fun r ⟨g2,g3,_⟩=>?_;have m1:=g1.at';have m2:=g2.at'
   have hx:r.2.e_=0->(∀x ∈ l,WP x)->(∀y ∈ l++[x.1],WP y)/\szL (l++[x.1])<=szL l+(r.2.at_ - p.at_):=fun e hl=>by
    obtain ⟨w1,w2⟩:=gx (g2.e0 e);refine ⟨fun y hy=>?_,by rw [zkX,zgF];omega⟩
    rcases List.mem_append.1 hy with hy | hy
    ·exact hl y hy
    ·obtain rfl:=List.mem_singleton.1 hy;exact w1
   refine Tot.iteb (fun h5=>.some ⟨g1.toGd.trans g2,by simp only [List.length_append,List.length_singleton];omega,hx⟩) fun h5=>?_;have g4:=g3 (by simpa using h5);have g5:=g1.ga g4.2.1;have m3:=g1.adv g4.1;have m4:=g1.toGd.trans g2;refine (ih _ r.2 g2.inv (by rw [m4.len];omega) (by simp only [List.length_append,List.length_singleton];omega)).mono fun s ⟨s1,s2,s3⟩=>⟨g5.toGd.trans s1,s2,fun e hl=>?_⟩;obtain ⟨v1,v2⟩:=hx (s1.e0 e) hl;obtain ⟨v3,v4⟩:=s3 e v1;exact ⟨v3,by omega⟩
theorem zlT (h:PI p) (hn:13<n) (hb:(p.l_.length:Int) - p.at_<n):Tot (zbX n p) fun r=>GA p r.2/\r.1.length<=65538/\(r.2.e_=0->(∀x ∈ r.1,WP x)/\szL r.1<=r.2.at_ - p.at_):=by
 unfold zbX;refine (zcY h hn).bind fun q g1=>(zdz g1.inv hn).bind fun r ⟨g2,g3,g4⟩=>?_;have m1:=g1.at';have m2:=g2.at';refine Tot.iteb (fun h5=>.some ⟨g1.gd g2,by simp,fun _=>⟨(fun x hx=>nomatch hx),by rw [zeB];simp only;omega⟩⟩) fun h5=>?_;have g5:=g1.gd g2;have k0:=g2.inv.lo;refine Tot.bind (P:=fun y=>Gd r.2 y.2/\y.1.length<=65538/\(y.2.e_=0->(∀x ∈ y.1,WP x)/\szL y.1<=y.2.at_ - r.2.at_)) ?_ fun y ⟨g6,m3,m4⟩=>?_
 ·refine (zmC hn n [] r.2 g2.inv (by rw [g5.len];omega) (by simpa using k0)).bind fun y ⟨y1,y2,y3⟩=>.some ⟨y1,?_,fun e=>?_⟩
  ·have k1:=y1.inv.hi;have k2:=y1.inv.big;show y.1.length<=_;omega
  ·obtain ⟨w1,w2⟩:=y3 e (fun x hx=>nomatch hx);exact ⟨w1,by rw [zeB] at w2;simp only;omega⟩
 ·refine (zcY g6.inv hn).bind fun s g7=>.some ⟨(g5.gd g6).ga g7,m3,fun e=>?_⟩;obtain ⟨w1,w2⟩:=m4 (g7.toGd.e0 e);have m5:=g7.at';exact ⟨w1,by simp only;omega⟩
theorem zoz (h:PI p) {a:Int}:Tot (zdR p a) fun q=>Gd p q:=by
 unfold zdR;refine Tot.iteb (fun _=>?_) fun _=>.some (.refl h);exact (zkN h (by decide)).bind fun q ⟨g,_⟩=>.some g
theorem psign_l1 (h:PI p) (hn:13<n) (x:List Str) (hx:x.length=3):∀(c:Nat) (v:Nat),3<v+c->v<=3->Tot (zcD n x p c v) fun r=>match r with | .inl _=>True | .inr t=>p.e_=0/\t ∈ x/\t ≠ []:=by
 intro c
 induction c with
 | zero=>intro v h1 h2;omega
 | succ c ih=>
   intro v h1 h2;unfold zcD;refine Tot.iteb (fun h4=>?_) fun h4=>.some trivial;simp only [decide_eq_true_eq] at h4;refine Tot.bind' (Tot.idx (by omega) (by omega) fun z hz=>?_);refine Tot.bind (P:=fun b=>b=true->p.e_=0/\z ≠ []) ?_ fun b hb=>?_
   ·refine Tot.iteb (fun hz0=>?_) fun _=>.some fun h=>by cases h
    exact (znf h hn).bind fun b hb=>.some fun h=>⟨(hb h).1,by simpa using hz0⟩
   ·refine Tot.iteb (fun h5=>.some ⟨(hb h5).1,List.mem_of_getElem? hz,(hb h5).2⟩) fun h5=>?_;rw [zcp (by omega) (by omega)];exact ih (v+1) (by omega) (by omega)
theorem zm6 (h:PI p) (hn:13<n) {a:Int} (h0:0<=a) (h1:a<7):Tot (zdQ n p a) fun t=>t ≠ []->p.e_=0/\t ∈ zl7:=by
 unfold zdQ;refine Tot.bind' (Tot.idx h0 (by have:zbc.length=7:=rfl;omega) fun x hx=>?_)
 have hl:x.length=3:=by
  have:(zbc.all fun y=>y.length == 3)=true:=by decide
  simpa using List.all_eq_true.1 this x (List.mem_of_getElem? hx)
 refine (psign_l1 h hn x hl n 0 (by omega) (by omega)).bind fun y hy=>Tot.elim (fun _ _=>.some fun h=>absurd rfl h) fun z e=>?_;subst e;refine .some fun _=>⟨hy.1,?_⟩;have hall:(zbc.all fun x=>x.all fun s=>s == [] || zl7.contains s)=true:=by decide
 have:=List.all_eq_true.1 (List.all_eq_true.1 hall x (List.mem_of_getElem? hx)) z hy.2.1;simp only [Bool.or_eq_true,beq_iff_eq,List.contains_iff_mem] at this;exact this.resolve_left hy.2.2
end
end Go.Proofs.YtldnmmnnohnpkaaGreatDoor.Abs
namespace Go.Proofs.YtldnmmnnohnpkaaGreatDoor.Abs
open Go.RowKit
set_option linter.unusedVariables false
set_option linter.unusedSimpArgs false
def Lf (p:zab):Int:=16*((p.l_.length:Int) - p.at_)
theorem Gd.lf {p q:zab} (h:Gd p q):Lf q<=Lf p:=by have:=h.at';unfold Lf;rw [h.len];omega
theorem GA.lf {p q:zab} (h:GA p q) (he:q.e_=0):Lf q+16<=Lf p:=by have:=h.adv he;unfold Lf;rw [h.toGd.len];omega
theorem PI.lf {p:zab} (h:PI p):16<=Lf p:=by have:=h.hi;unfold Lf;omega
def Sx (p:zab) (r:zaa × zab):Prop:=r.2.e_=0->WE r.1/\sz r.1<=r.2.at_ - p.at_
def SL (p:zab) (r:List zaa × zab):Prop:=r.2.e_=0->(∀x ∈ r.1,WE x)/\szL r.1<=r.2.at_ - p.at_
def OkE (n:Nat) (k:Int) (f:zab->Int->Option (zaa × zab)):Prop:=∀p a,PI p->Lf p+k<=n->Tot (f p a) fun r=>GA p r.2/\Sx p r
def OkL (n:Nat) (f:zab->Int->Int->Option (zaa × zab)):Prop:=∀p a b,PI p->0<=a->a<=7->Lf p+29 - a<=n->Tot (f p a b) fun r=>GA p r.2/\Sx p r
def OkA (n:Nat) (f:zab->Int->Option ((List zaa) × zab)):Prop:=∀p a,PI p->Lf p+25<=n->Tot (f p a) fun r=>GA p r.2/\SL p r
section
variable {n:Nat} {p:zab}
theorem level_l1 (hn:13<n) {f:zab->Int->Int->Option (zaa × zab)} {a1 a2:Int} (h0:0<=a1) (h6:a1<7) {k:Int} (hf:∀p,PI p->Lf p<=k->Tot (f p (a1+1) a2) fun r=>GA p r.2/\Sx p r) :
  ∀(c:Nat) (t:Str) (p:zab) (x:zaa),PI p->Lf p<=k->1<=c->(t ≠ []->Lf p+1<=c/\t ∈ zl7)->Tot (zcw f n a1 a2 c t p x) fun r=>Gd p r.1/\(r.1.e_=0->WE x->WE r.2/\sz r.2<=sz x+(r.1.at_ - p.at_)):=by
 intro c
 induction c with
 | zero=>intro t p x h hl h1;omega
 | succ c ih=>
   intro t p x h hl h1 h2;unfold zcw;refine Tot.iteb (fun h4=>?_) fun h4=>.some ⟨.refl h,fun _ hw=>⟨hw,by simp only;omega⟩⟩;simp only [ne_eq,decide_eq_true_eq] at h4;obtain ⟨h5,hsg⟩:=h2 h4;have h6':=h.lf;refine (zhP h).bind fun r ⟨g1,e1⟩=>(zcY g1.inv hn).bind fun q g2=>?_;have l1:=g1.lf;have l2:=g2.toGd.lf;rw [zcp (n:=a1+1) (by omega) (by omega)];refine (hf q g2.inv (by omega)).bind fun s ⟨g3,sx⟩=>?_;have g4:=g1.ga (g2.ga g3)
   have hx:s.2.e_=0->WE x->WE { r.1 with za7:=t,zas:=[x,s.1] }/\sz { r.1 with za7:=t,zas:=[x,s.1] }<=sz x+(s.2.at_ - p.at_):=fun e hw=>by
    obtain ⟨w1,w2⟩:=sx e;have m2:=g2.adv (g3.toGd.e0 e);have m1:=g1.at';rw [e1];exact ⟨.bin hsg hw w1,by rw [zdi,zmW];omega⟩
   refine Tot.iteb (fun _=>.some ⟨g4.toGd,hx⟩) fun _=>?_;refine (zm6 g3.inv hn h0 h6).bind fun t' ht=>?_;have l3:=g3.toGd.lf;refine (ih t' s.2 _ g3.inv (by omega) (by omega) fun hne=>?_).mono fun r ⟨g5,g6⟩=>⟨g4.toGd.trans g5,fun e hw=>?_⟩
   ·have l4:=g4.lf (ht hne).1;exact ⟨by omega,(ht hne).2⟩
   ·obtain ⟨v1,v2⟩:=hx (g5.e0 e) hw;obtain ⟨v3,v4⟩:=g6 e v1;exact ⟨v3,by omega⟩
theorem level_b (hn:13<n) {fo:zab->Int->Option (zaa × zab)} {fl:zab->Int->Int->Option (zaa × zab)} (ho:OkE n 21 fo) (hl:OkL n fl):OkL (n+1) (zdE fo fl n):=by
 intro p a b h h0 h7 hb;unfold zdE;refine Tot.iteb (fun h1=>?_) fun h1=>?_
 ·simp only [beq_iff_eq] at h1;exact (ho p b h (by omega)).bind fun r g=>.some g
 ·simp only [beq_eq_false_iff_ne,ne_eq] at h1;rw [zcp (n:=a+1) (by omega) (by omega)];refine (hl p (a+1) b h (by omega) (by omega) (by omega)).bind fun r ⟨g,sx⟩=>?_;have l1:=g.toGd.lf;have l2:=g.inv.lf;refine (zm6 g.inv hn h0 (by omega)).bind fun t ht=>?_;refine (level_l1 hn h0 (by omega) (k:=Lf r.2) (fun q hq hk=>hl q (a+1) b hq (by omega) (by omega) (by omega)) n t r.2 r.1 g.inv (Int.le_refl _) (by omega) (fun hne=>⟨by omega,(ht hne).2⟩)).bind fun s ⟨g2,sx2⟩=>.some ⟨g.gd g2,fun e=>?_⟩;obtain ⟨v1,v2⟩:=sx (g2.e0 e);obtain ⟨v3,v4⟩:=sx2 e v1;exact ⟨v3,by simp only;omega⟩
theorem expr_b {fl:zab->Int->Int->Option (zaa × zab)} (hl:OkL n fl):OkE (n+1) 30 (zd2 fl n):=by
 intro p a h hb;unfold zd2;exact (hl p 0 a h (by omega) (by omega) (by omega)).bind fun r g=>.some g
theorem znT {fe:zab->Int->Option (zaa × zab)} (he:OkE n 30 fe):OkE (n+1) 31 (zcQ fe n):=by
 intro p a h hb;unfold zcQ;exact (he p _ h (by omega)).bind fun r g=>.some g
theorem SL.more {p q r:zab} {x:zaa} {l:List zaa} (g1:Gd p q) (sx:Sx p (x,q)) (g2:Gd q r):r.e_=0->(∀x ∈ l,WE x)->(∀y ∈ l++[x],WE y)/\szL (l++[x])<=szL l+(r.at_ - p.at_):=fun e hl=>by
 obtain ⟨w1,w2⟩:=sx (g2.e0 e);have m2:=g2.at';simp only at w2;refine ⟨fun y hy=>?_,by rw [zkX,zgF];omega⟩
 rcases List.mem_append.1 hy with hy | hy
 ·exact hl y hy
 ·obtain rfl:=List.mem_singleton.1 hy;exact w1
theorem zlx (hn:13<n) {fo:zab->Int->Option (zaa × zab)} {k:Int} {a:Int} (hf:∀p,PI p->Lf p<=k->Tot (fo p a) fun r=>GA p r.2/\Sx p r):∀(c:Nat) (l:List zaa) (p:zab),PI p->(p.e_=0->Lf p<=k)->(p.l_.length:Int) - p.at_<c->(l.length:Int)<=p.at_->Tot (zbq fo n a c l p) fun r=>Gd p r.2/\(r.1.length:Int)<=r.2.at_+1/\(r.2.e_=0->(∀x ∈ l,WE x)->(∀x ∈ r.1,WE x)/\szL r.1<=szL l+(r.2.at_ - p.at_)):=by
 intro c
 induction c with
 | zero=>intro l p h _ h1 h2;have:=h.hi;omega
 | succ c ih=>
   intro l p h hk h1 h2;have k1:=h.lo;have k2:=h.hi;have k3:=h.big;unfold zbq;refine Tot.iteb (fun h4=>?_) fun h4=>.some ⟨.refl h,by simp only;omega,fun _ hl=>⟨hl,by simp only;omega⟩⟩;simp only [beq_iff_eq] at h4;refine (hf p h (hk h4)).bind fun x ⟨g1,sx⟩=>?_;refine Tot.need (by simp only [List.length_singleton];omega) ?_;refine (zdz g1.inv hn).bind fun r ⟨g2,g3,_⟩=>?_;have m1:=g1.at';have m2:=g2.at';have hx:=SL.more (l:=l) g1.toGd sx g2;refine Tot.iteb (fun h5=>.some ⟨g1.toGd.trans g2,by simp only [List.length_append,List.length_singleton];omega,hx⟩) fun h5=>?_;have g4:=g3 (by simpa using h5);have g5:=g1.ga g4.2.1;have m3:=g1.adv g4.1;have m4:=g1.toGd.trans g2;have m5:=g5.toGd.lf;have m6:=hk h4;refine (ih _ r.2 g2.inv (fun _=>by omega) (by rw [m4.len];omega) (by simp only [List.length_append,List.length_singleton];omega)).mono fun s ⟨s1,s2,s3⟩=>⟨g5.toGd.trans s1,s2,fun e hl=>?_⟩;obtain ⟨v1,v2⟩:=hx (s1.e0 e) hl;obtain ⟨v3,v4⟩:=s3 e v1;exact ⟨v3,by omega⟩
theorem zlU (hn:13<n) {fo:zab->Int->Option (zaa × zab)} (ho:OkE n 31 fo):OkA (n+1) (zca fo n):=by
 intro p a h hb;unfold zca;refine (zcY h hn).bind fun q g1=>(zdz g1.inv hn).bind fun r ⟨g2,g3,g4⟩=>?_;have m1:=g1.at';have m2:=g2.at';refine Tot.iteb (fun h5=>.some ⟨g1.gd g2,fun _=>⟨(fun x hx=>nomatch hx),by rw [zeB];simp only;omega⟩⟩) fun h5=>?_;have g5:=g1.gd g2;have k0:=g2.inv.lo;have k1:=g5.toGd.lf;have k2:=h.lf;refine Tot.bind (P:=fun y=>Gd r.2 y.2/\SL r.2 y) ?_ fun y ⟨g6,s6⟩=>?_
 ·refine (zlx hn (k:=(n:Int) - 31) (fun q hq hk=>ho q a hq (by omega)) n [] r.2 g2.inv (fun he=>?_) ?_ (by simpa using k0)).bind fun y ⟨y1,y2,y3⟩=>.some ⟨y1,fun e=>?_⟩
  ·have:=g5.lf he;omega
  ·unfold Lf at hb k1;rw [g5.toGd.len] at k1 ⊢;have:=h.hi;omega
  ·obtain ⟨w1,w2⟩:=y3 e (fun x hx=>nomatch hx);exact ⟨w1,by rw [zeB] at w2;simp only;omega⟩
 ·refine (zcY g6.inv hn).bind fun s g7=>.some ⟨(g5.gd g6).ga g7,fun e=>?_⟩;obtain ⟨w1,w2⟩:=s6 (g7.toGd.e0 e);have m5:=g7.at';exact ⟨w1,by simp only;omega⟩
theorem zoW (hn:13<n) {fo:zab->Int->Option (zaa × zab)} {k:Int} (hf:∀p a,PI p->Lf p<=k->Tot (fo p a) fun r=>GA p r.2/\Sx p r) {a1:Int}:∀(c:Nat) (v:Nat) (p:zab) (x y:zaa),2<v+c->v<=2->PI p->Lf p<=k+16->Tot (zb7 fo n a1 c v p x y) fun r=>match r with | .inl s=>Gd p s.1/\s.2.1=x | .inr s=>GA p s.2/\(x.Num_=0->Sx p s):=by
 intro c
 induction c with
 | zero=>intro v p x y h1 h2;omega
 | succ c ih=>
   intro v p x y h1 h2 h hk;unfold zb7;refine Tot.iteb (fun h4=>?_) fun h4=>.some ⟨.refl h,rfl⟩;simp only [decide_eq_true_eq] at h4;refine Tot.bind' (Tot.idx (by omega) (by have:zdV.length=2:=rfl;omega) fun z hz=>?_);refine (zdz h hn).bind fun r ⟨g1,g2,g3⟩=>?_;refine Tot.iteb (fun h5=>?_) fun h5=>?_
   ·obtain ⟨_,g4,g5⟩:=g2 h5;have l1:=g4.lf g5;refine (hf r.2 _ g1.inv (by omega)).bind fun s ⟨g6,sx⟩=>.some ⟨g4.ga g6,fun hx e=>?_⟩;obtain ⟨w1,w2⟩:=sx e;have m1:=g4.adv (g6.toGd.e0 e);refine ⟨?_,by simp only [zdi,zgF];omega⟩;simp only [hx];refine .un ?_ w1;have hm:=List.mem_of_getElem? hz;simpa [zdV] using hm
   ·rw [zcp (by omega) (by omega)];have l1:=g1.lf;refine (ih (v+1) r.2 x y (by omega) (by omega) g1.inv (by omega)).mono fun s hs=>?_;cases s with
    | inl s=>exact ⟨g1.trans hs.1,hs.2⟩
    | inr s=>
      refine ⟨g1.ga hs.1,fun hx e=>?_⟩;obtain ⟨w1,w2⟩:=hs.2 hx e;have:=g1.at';exact ⟨w1,by omega⟩
theorem zp8 (hn:13<n) {fe fo:zab->Int->Option (zaa × zab)} {fa:zab->Int->Option ((List zaa) × zab)} (he:OkE n 30 fe) (ho:OkE n 21 fo) (ha:OkA n fa):OkE (n+1) 21 (zc8 fe fo fa n):=by
 intro p a h hb;unfold zc8;refine (zoz h).bind fun q g1=>(zdz g1.inv hn).bind fun r ⟨g2,g3,_⟩=>?_;have m1:=g1.lf;have m2:=g2.lf;have m3:=h.lf;have n1:=g1.at';have n2:=g2.at';refine Tot.iteb (fun h5=>?_) fun h5=>?_
 ·obtain ⟨_,g4,g5⟩:=g3 h5;have l1:=g4.lf g5;refine (he r.2 _ g2.inv (by omega)).bind fun s ⟨g6,sx⟩=>(zcY g6.inv hn).bind fun t g7=>.some ⟨g1.ga (g4.ga (g6.ga g7)),fun e=>?_⟩;obtain ⟨w1,w2⟩:=sx (g7.toGd.e0 e);have n3:=g7.at';exact ⟨w1,by simp only;omega⟩
 ·refine (zhP g2.inv).bind fun s ⟨g4,e4⟩=>?_;have m4:=g4.lf;have n4:=g4.at';refine (zoW hn (k:=(n:Int) - 21) (fun q b hq hk=>ho q b hq (by omega)) n 0 s.2 _ _ (by omega) (by omega) g4.inv (by omega)).bind fun y hy=>?_;have g5:=g1.trans (g2.trans g4);refine Tot.elim (fun z e=>?_) fun z e=>?_
  ·subst e;have hy':Gd s.2 z.1:=hy.1;have hz:z.2.1=s.1:=hy.2;have g6:=g5.trans hy';have n5:=hy'.at';rw [hz,e4];refine Tot.bind (P:=fun _=>True) ?_ fun b _=>?_
   ·refine Tot.iteb (fun _=>?_) fun _=>.some trivial;exact (zgE hy'.inv).bind fun t _=>.some trivial
   ·refine Tot.iteb (fun _=>?_) fun _=>?_
    ·refine (zmd hy'.inv).bind fun t g7=>.some ⟨g6.ga g7,fun e=>?_⟩;have:=g7.adv e;exact ⟨.num,by simp only [zdi,zeB];omega⟩
    ·refine (ziY hy'.inv hn).bind fun t g7=>?_;have g8:=g6.ga g7;have l8:=g8.toGd.lf;refine Tot.bind (P:=fun y=>GA p y.1/\Sx p (y.2,y.1)) ?_ fun y hy=>.some hy;refine (znf g7.inv hn).bind fun b hb=>Tot.iteb (fun h9=>?_) fun h9=>?_
     ·have l9:=g8.lf (hb h9).1;refine (ha t.2 a g7.inv (by omega)).bind fun u ⟨g9,sx⟩=>.some ⟨g8.ga g9,fun e=>?_⟩;obtain ⟨w1,w2⟩:=sx e;have:=g7.adv (g9.toGd.e0 e);exact ⟨.call w1,by simp only [zdi];omega⟩
     ·refine (zdz g7.inv hn).bind fun u ⟨g9,g10,_⟩=>Tot.iteb (fun h10=>?_) fun h10=>.some ⟨g8.gd g9,fun e=>?_⟩
      ·obtain ⟨_,g11,g12⟩:=g10 h10;have l9:=g11.lf g12;refine (he u.2 _ g9.inv (by omega)).bind fun v ⟨g13,sx⟩=>(zcY g13.inv hn).bind fun w g14=>.some ⟨g8.ga (g11.ga (g13.ga g14)),fun e=>?_⟩;have ev:=g14.toGd.e0 e;obtain ⟨w1,w2⟩:=sx ev;have n6:=g14.at';have n7:=g7.adv (g9.e0 (g13.toGd.e0 ev));have n8:=g9.at';exact ⟨.index w1,by simp only [zdi,zgF];omega⟩
      ·have n7:=g7.adv (g9.e0 e);have n8:=g9.at';exact ⟨.ref,by simp only [zdi,zeB];omega⟩
  ·subst e;refine .some ⟨g5.ga hy.1,fun e=>?_⟩;obtain ⟨w1,w2⟩:=hy.2 (by rw [e4]) e;exact ⟨w1,by omega⟩
theorem grp_ok:∀n:Nat,OkA n (zav n).1/\OkE n 30 (zav n).2.1/\OkL n (zav n).2.2.1/\OkE n 21 (zav n).2.2.2.1/\OkE n 31 (zav n).2.2.2.2:=by
 have small:∀n:Nat,n<=14->OkA n (zav n).1/\OkE n 30 (zav n).2.1/\OkL n (zav n).2.2.1/\OkE n 21 (zav n).2.2.2.1/\OkE n 31 (zav n).2.2.2.2:=by
  intro n hn;refine ⟨fun p a h hb=>?_,fun p a h hb=>?_,fun p a b h h0 h7 hb=>?_,fun p a h hb=>?_,fun p a h hb=>?_⟩ <;> (have:=h.lf;omega)
 intro n
 induction n with
 | zero=>exact small 0 (by omega)
 | succ n ih=>
   by_cases hn:13<n
   ·obtain ⟨i1,i2,i3,i4,i5⟩:=ih;exact ⟨zlU hn i5,expr_b i3,level_b hn i4 i3,zp8 hn i2 i4 i1,znT i2⟩
   ·exact small (n+1) (by omega)
theorem zhb (h:PI p) {a:Int} (hb:Lf p+30<=n):Tot (zbI n p a) fun r=>GA p r.2/\Sx p r:=(grp_ok n).2.1 p a h hb
theorem zm9 (h:PI p) {x:zaa} {a:Int} (hb:Lf p+30<=n):Tot (zdw n p x a) fun r=>GA p r.2/\(r.2.e_=0->∃s y,r.1={ x with za7:=s,zas:=[y] }/\WE y/\sz y+1<=r.2.at_ - p.at_):=by
 have hn:13<n:=by have:=h.lf;omega
 unfold zdw;refine (ziY h hn).bind fun r g1=>(zcY g1.inv hn).bind fun q g2=>?_;have l1:=g1.toGd.lf;have l2:=g2.toGd.lf;refine (zhb g2.inv (by omega)).bind fun s ⟨g3,sx⟩=>(zcY g3.inv hn).bind fun t g4=>.some ⟨g1.ga (g2.ga (g3.ga g4)),fun e=>?_⟩;obtain ⟨w1,w2⟩:=sx (g4.toGd.e0 e);have n1:=g1.at';have n2:=g2.at';have n4:=g4.adv e;exact ⟨_,_,rfl,w1,by simp only;omega⟩
theorem znQ (h:PI p) {a:Int} (hb:Lf p+30<=n):Tot (zdD n p a) fun r=>GA p r.2/\Sx p r:=by
 unfold zdD;exact (zhb h hb).bind fun r g=>.some g
theorem zmB (hn:13<n) {a:Int}:∀(c:Nat) (l:List zaa) (p:zab),PI p->Lf p+30<=n->(p.l_.length:Int) - p.at_<c->(l.length:Int)<=p.at_->Tot (zbz n a c l p) fun r=>Gd p r.2/\(r.1.length:Int)<=r.2.at_+1/\(r.2.e_=0->(∀x ∈ l,WE x)->(∀x ∈ r.1,WE x)/\szL r.1<=szL l+(r.2.at_ - p.at_)):=by
 intro c
 induction c with
 | zero=>intro l p h _ h1 h2;have:=h.hi;omega
 | succ c ih=>
   intro l p h hk h1 h2;have k1:=h.lo;have k2:=h.hi;have k3:=h.big;unfold zbz;refine Tot.iteb (fun h4=>?_) fun h4=>.some ⟨.refl h,by simp only;omega,fun _ hl=>⟨hl,by simp only;omega⟩⟩;refine (znQ h hk).bind fun x ⟨g1,sx⟩=>?_;refine Tot.need (by simp only [List.length_singleton];omega) ?_;refine (zdz g1.inv hn).bind fun r ⟨g2,g3,_⟩=>?_;have m1:=g1.at';have m2:=g2.at';have hx:=SL.more (l:=l) g1.toGd sx g2;refine Tot.iteb (fun h5=>.some ⟨g1.toGd.trans g2,by simp only [List.length_append,List.length_singleton];omega,hx⟩) fun h5=>?_;have g4:=g3 (by simpa using h5);have g5:=g1.ga g4.2.1;have m3:=g1.adv g4.1;have m4:=g1.toGd.trans g2;have m5:=g5.toGd.lf;refine (ih _ r.2 g2.inv (by omega) (by rw [m4.len];omega) (by simp only [List.length_append,List.length_singleton];omega)).mono fun s ⟨s1,s2,s3⟩=>⟨g5.toGd.trans s1,s2,fun e hl=>?_⟩;obtain ⟨v1,v2⟩:=hx (s1.e0 e) hl;obtain ⟨v3,v4⟩:=s3 e v1;exact ⟨v3,by omega⟩
theorem zlS (h:PI p) {a:Int} (hb:Lf p+30<=n):Tot (zcG n p a) fun r=>GA p r.2/\SL p r:=by
 have hn:13<n:=by have:=h.lf;omega
 unfold zcG;refine (zcY h hn).bind fun q g1=>(zdz g1.inv hn).bind fun r ⟨g2,g3,g4⟩=>?_;have m1:=g1.at';have m2:=g2.at';refine Tot.iteb (fun h5=>.some ⟨g1.gd g2,fun _=>⟨(fun x hx=>nomatch hx),by rw [zeB];simp only;omega⟩⟩) fun h5=>?_;have g5:=g1.gd g2;have k0:=g2.inv.lo;have k1:=g5.toGd.lf;refine Tot.bind (P:=fun y=>Gd r.2 y.2/\SL r.2 y) ?_ fun y ⟨g6,s6⟩=>?_
 ·refine (zmB hn n [] r.2 g2.inv (by omega) ?_ (by simpa using k0)).bind fun y ⟨y1,y2,y3⟩=>.some ⟨y1,fun e=>?_⟩
  ·unfold Lf at hb k1;rw [g5.toGd.len] at k1 ⊢;have:=h.hi;omega
  ·obtain ⟨w1,w2⟩:=y3 e (fun x hx=>nomatch hx);exact ⟨w1,by rw [zeB] at w2;simp only;omega⟩
 ·refine (zcY g6.inv hn).bind fun s g7=>.some ⟨(g5.gd g6).ga g7,fun e=>?_⟩;obtain ⟨w1,w2⟩:=s6 (g7.toGd.e0 e);have m5:=g7.at';exact ⟨w1,by simp only;omega⟩
def St0 (x:zaa):Prop:=x=⟨8,x.At_,[],0,[]⟩
def Ss (p:zab) (r:zaa × zab):Prop:=r.2.e_=0->WS r.1/\sz r.1<=r.2.at_ - p.at_
theorem zp6 (h:PI p) {x:zaa} {a:Int} (hb:Lf p+30<=n) (hx:St0 x):Tot (zeh n p x a) fun r=>GA p r.2/\Ss p r:=by
 have hn:13<n:=by have:=h.lf;omega
 unfold zeh;rw [hx];refine (ziY h hn).bind fun r g1=>?_;have l1:=g1.toGd.lf;have n1:=g1.at';refine Tot.bind (P:=fun y=>GA p y.1/\(y.1.e_=0->WS y.2/\sz y.2<=1+(y.1.at_ - p.at_))) ?_ fun y hy=>?_
 case refine_2=>
  obtain ⟨hy',hs⟩:GA p y.1/\(y.1.e_=0->WS y.2/\sz y.2<=1+(y.1.at_ - p.at_)):=hy;refine (zcY hy'.inv hn).bind fun s g=>.some ⟨hy'.ga g,fun e=>?_⟩;obtain ⟨w1,w2⟩:=hs (g.toGd.e0 e);have:=g.adv e;exact ⟨w1,by simp only;omega⟩
 refine (znf g1.inv hn).bind fun b _=>Tot.iteb (fun _=>?_) fun _=>?_
 ·refine (zlS g1.inv (by omega)).bind fun s ⟨g2,sx⟩=>.some ⟨g1.ga g2,fun e=>?_⟩;obtain ⟨w1,w2⟩:=sx e;exact ⟨.call w1,by simp only [zdi];omega⟩
 ·refine (zdz g1.inv hn).bind fun s ⟨g2,_,_⟩=>?_;have l2:=g2.lf;have n2:=g2.at';refine Tot.iteb (fun _=>?_) fun _=>?_
  ·refine (zhb g2.inv (by omega)).bind fun t ⟨g3,s3⟩=>(zcY g3.inv hn).bind fun u g4=>(zcY g4.inv hn).bind fun v g5=>?_;have l3:=g3.toGd.lf;have l4:=g4.toGd.lf;have l5:=g5.toGd.lf;refine (zhb g5.inv (by omega)).bind fun w ⟨g6,s6⟩=>Tot.need (by simp) (.some ⟨g1.gd (g2.trans (g3.toGd.trans (g4.toGd.trans (g5.toGd.trans g6.toGd)))),fun e=>?_⟩);obtain ⟨w1,w2⟩:=s6 e;have e5:=g6.toGd.e0 e;obtain ⟨w3,w4⟩:=s3 (g4.toGd.e0 (g5.toGd.e0 e5));have n4:=g4.at';have n5:=g5.at';exact ⟨.put w3 w1,by simp only [zdi,List.singleton_append,zmW];omega⟩
  ·refine (zcY g2.inv hn).bind fun v g5=>?_;have l5:=g5.toGd.lf;have n5:=g5.at';refine (zhb g5.inv (by omega)).bind fun w ⟨g6,s6⟩=>.some ⟨g1.gd (g2.trans (g5.toGd.trans g6.toGd)),fun e=>?_⟩;obtain ⟨w1,w2⟩:=s6 e;exact ⟨.set w1,by simp only [zdi,zgF];omega⟩
end
def Bk (p:zab) (r:zaa × zab):Prop:=r.2.e_=0->(r.1=⟨4,r.1.At_,[],0,r.1.zas⟩/\∀y ∈ r.1.zas,WS y)/\sz r.1<=r.2.at_ - p.at_
def OkS (n:Nat) (f:zab->Int->Option (zaa × zab)):Prop:=∀p a,PI p->Lf p+45<=n->Tot (f p a) fun r=>GA p r.2/\Ss p r
def OkK (n:Nat) (f:zab->Int->Option (zaa × zab)):Prop:=∀p a,PI p->Lf p+46<=n->Tot (f p a) fun r=>GA p r.2/\Bk p r
def OkN (n:Nat) (k:Int) (f:zab->zaa->Int->Option (zaa × zab)):Prop:=∀p x a,PI p->Lf p+k<=n->St0 x->Tot (f p x a) fun r=>GA p r.2/\(r.2.e_=0->WS r.1/\sz r.1<=1+(r.2.at_ - p.at_))
section
variable {n:Nat} {p:zab}
theorem block_l1 (hn:13<n) {fs:zab->Int->Option (zaa × zab)} {k:Int} {a:Int} (hf:∀p,PI p->Lf p<=k->Tot (fs p a) fun r=>GA p r.2/\Ss p r):∀(c:Nat) (p:zab) (x:zaa),PI p->(p.e_=0->Lf p<=k)->(p.l_.length:Int) - p.at_<c->1<=c->(p.e_=0->(x.zas.length:Int)<=p.at_)->(x.zas.length:Int)<=65538->Tot (zb2 fs n a c p x) fun r=>Gd p r.1/\(r.1.e_=0->(∀y ∈ x.zas,WS y)->(∀y ∈ r.2.zas,WS y)/\szL r.2.zas<=szL x.zas+(r.1.at_ - p.at_)/\r.2={ x with zas:=r.2.zas }):=by
 intro c
 induction c with
 | zero=>intro p x h _ h1 h2;omega
 | succ c ih=>
   intro p x h hk h1 h2 h3 h4;have k1:=h.lo;have k2:=h.hi;have k3:=h.big;unfold zb2;refine Tot.bind (P:=fun b=>b=true->p.e_=0) ?_ fun b hb=>?_
   ·refine Tot.iteb (fun he=>?_) fun _=>.some fun h=>by cases h
    exact (znf h hn).bind fun b hb=>.some fun _=>by simpa using he
   ·refine Tot.iteb (fun h5=>?_) fun h5=>.some ⟨.refl h,fun _ hl=>⟨hl,by simp only;omega,by cases x;rfl⟩⟩;have he:=hb h5;refine (hf p h (hk he)).bind fun r ⟨g,ss⟩=>?_;have m1:=g.at';have m2:=hk he;have m3:=h3 he;have m4:=g.toGd.lf;have m5:=g.inv.hi;have m6:=g.toGd.len;refine Tot.need (by simp only [List.length_singleton];omega) ?_
    by_cases he2:r.2.e_=0
    ·have m7:=g.adv he2;obtain ⟨w1,w2⟩:=ss he2;refine (ih r.2 _ g.inv (fun _=>by omega) (by rw [m6];omega) (by omega) (fun _=>by simp only [List.length_append,List.length_singleton];omega) (by simp only [List.length_append,List.length_singleton];omega)).mono fun s ⟨g2,s2⟩=>⟨g.toGd.trans g2,fun e hl=>?_⟩
     obtain ⟨v1,v2,v3⟩:=s2 e (fun y hy=>by
      rcases List.mem_append.1 hy with hy | hy
      ·exact hl y hy
      ·obtain rfl:=List.mem_singleton.1 hy;exact w1)
     refine ⟨v1,?_,v3⟩;simp only [zkX,zgF] at v2;omega
    ·cases c with
     | zero=>omega
     | succ c=>
       unfold zb2;rw [if_neg (by simpa using he2),Option.bind_some,if_neg (by decide)];exact .some ⟨g.toGd,fun e=>absurd e he2⟩
theorem block_b {fs:zab->Int->Option (zaa × zab)} (hs:OkS n fs):OkK (n+1) (zdG fs n):=by
 intro p a h hb;have hn:13<n:=by have:=h.lf;omega
 unfold zdG;refine (zoz h).bind fun q g1=>(zhP g1.inv).bind fun r ⟨g2,e2⟩=>(zcY g2.inv hn).bind fun t g3=>?_;have e:r.1.zas=[]:=by rw [e2]
 have g4:=g1.trans g2;have g5:=g4.ga g3;have l5:=g5.toGd.lf;have k0:=g3.inv.lo;refine (block_l1 hn (k:=(n:Int) - 45) (fun q hq hk=>hs q a hq (by omega)) n t r.1 g3.inv (fun he=>?_) ?_ (by omega) (fun _=>by rw [e];simpa using k0) (by rw [e];simp)).bind fun y ⟨g6,s6⟩=>(zcY g6.inv hn).bind fun s g7=>.some ⟨(g5.gd g6).ga g7,fun e3=>?_⟩
 ·have:=g5.lf he;omega
 ·unfold Lf at hb l5;rw [g5.toGd.len] at l5 ⊢;have:=h.hi;omega
 ·have ey:=g7.toGd.e0 e3;obtain ⟨v1,v2,v3⟩:=s6 ey (fun y hy=>by rw [e] at hy;cases hy);have n3:=g3.adv (g6.e0 ey);have n4:=g4.at';have n7:=g7.at';rw [e2] at v3;rw [e,zeB] at v2;refine ⟨⟨by simp only;rw [v3],v1⟩,?_⟩;simp only [zlm];omega
theorem choice_b {fb:zab->Int->Option (zaa × zab)} (hf:OkK n fb):OkN (n+1) 47 (zdn fb n):=by
 intro p x a h hb hx;have hn:13<n:=by have:=h.lf;omega
 unfold zdn;rw [hx];refine (zhb h (by omega)).bind fun r ⟨g1,s1⟩=>?_;have l1:=g1.toGd.lf;refine (hf r.2 _ g1.inv (by omega)).bind fun s ⟨g2,s2⟩=>Tot.need (by simp) ((zdz g2.inv hn).bind fun t ⟨g3,_,_⟩=>?_);have l2:=g2.toGd.lf;have l3:=g3.lf;have n3:=g3.at';refine Tot.iteb (fun _=>?_) fun _=>.some ⟨(g1.ga g2).gd g3,fun e=>?_⟩
 ·refine (hf t.2 _ g3.inv (by omega)).bind fun u ⟨g4,s4⟩=>Tot.need (by simp) (.some ⟨((g1.ga g2).gd g3).ga g4,fun e=>?_⟩);have e3:=g4.toGd.e0 e;have e2:=g3.e0 e3;obtain ⟨⟨a1,a2⟩,a3⟩:=s4 e;obtain ⟨⟨b1,b2⟩,b3⟩:=s2 e2;obtain ⟨c1,c2⟩:=s1 (g2.toGd.e0 e2);simp only [List.singleton_append,List.cons_append,List.nil_append];rw [zdi,zoG];refine ⟨?_,by omega⟩;rw [a1,b1];exact .choice2 c1 b2 a2
 ·have e2:=g3.e0 e;obtain ⟨⟨b1,b2⟩,b3⟩:=s2 e2;obtain ⟨c1,c2⟩:=s1 (g2.toGd.e0 e2);simp only [List.singleton_append];rw [zdi,zmW];refine ⟨?_,by omega⟩;rw [b1];exact .choice c1 b2
theorem loop_b {fb:zab->Int->Option (zaa × zab)} (hf:OkK n fb):OkN (n+1) 47 (zd1 fb n):=by
 intro p x a h hb hx;have hn:13<n:=by have:=h.lf;omega
 unfold zd1;rw [hx];refine (ziY h hn).bind fun r g1=>(zcY g1.inv hn).bind fun s g2=>?_;have l1:=g1.toGd.lf;have l2:=g2.toGd.lf;have n1:=g1.at';have n2:=g2.at';refine (zhb g2.inv (by omega)).bind fun t ⟨g3,s3⟩=>(zcY g3.inv hn).bind fun u g4=>?_;have l3:=g3.toGd.lf;have l4:=g4.toGd.lf;have n4:=g4.at';refine (zhb g4.inv (by omega)).bind fun v ⟨g5,s5⟩=>Tot.need (by simp) ?_;have l5:=g5.toGd.lf;refine (hf v.2 _ g5.inv (by omega)).bind fun w ⟨g6,s6⟩=>Tot.need (by simp) (.some ⟨g1.ga (g2.ga (g3.ga (g4.ga (g5.ga g6)))),fun e=>?_⟩);have e5:=g6.toGd.e0 e;have e4:=g5.toGd.e0 e5;obtain ⟨⟨b1,b2⟩,b3⟩:=s6 e;obtain ⟨c1,c2⟩:=s5 e5;obtain ⟨d1,d2⟩:=s3 (g4.toGd.e0 e4);simp only [List.singleton_append,List.cons_append,List.nil_append];rw [zdi,zoG];refine ⟨?_,by omega⟩;rw [b1];exact .loop d1 c1 b2
theorem znG {fc fl:zab->zaa->Int->Option (zaa × zab)} (hc:OkN n 47 fc) (hl:OkN n 47 fl):OkS (n+1) (zcP fc fl n):=by
 intro p a h hb;have hn:13<n:=by have:=h.lf;omega
 unfold zcP;refine (zhP h).bind fun r ⟨g1,e1⟩=>?_;have hx:St0 r.1:=e1;have l1:=g1.lf;have n1:=g1.at';refine Tot.bind (P:=fun y=>match y with | .inl y=>GA p y.1/\(y.1.e_=0->WS y.2/\sz y.2<=1+(y.1.at_ - p.at_)) | .inr y=>GA p y.2/\Ss p y) ?_ fun y hy=>?_
 ·refine (zdz g1.inv hn).bind fun t1 ⟨a1,b1,_⟩=>Tot.iteb (fun h1=>?_) fun h1=>?_
  ·have m1:=a1.lf;have o1:=a1.at';refine (zm9 a1.inv (by omega)).bind fun u ⟨g2,s2⟩=>.some ⟨g1.ga (a1.ga g2),fun e=>?_⟩;obtain ⟨s,y,q1,q2,q3⟩:=s2 e;simp only;rw [q1,e1];exact ⟨.bind (.inl rfl) q2,by simp only [zdi,zgF];omega⟩
  have m1:=a1.lf;have o1:=a1.at';refine (zdz a1.inv hn).bind fun t2 ⟨a2,b2,_⟩=>Tot.iteb (fun h2=>?_) fun h2=>?_
  ·have m2:=a2.lf;have o2:=a2.at';refine (zm9 a2.inv (by omega)).bind fun u ⟨g2,s2⟩=>.some ⟨g1.ga (a1.ga (a2.ga g2)),fun e=>?_⟩;obtain ⟨s,y,q1,q2,q3⟩:=s2 e;simp only;rw [q1,e1];exact ⟨.bind (.inr rfl) q2,by simp only [zdi,zgF];omega⟩
  have m2:=a2.lf;have o2:=a2.at';refine (zdz a2.inv hn).bind fun t3 ⟨a3,b3,_⟩=>Tot.iteb (fun h3=>?_) fun h3=>?_
  ·have o3:=a3.at';refine (ziY a3.inv hn).bind fun u g2=>(zon g2.inv hn).bind fun v g3=>.some ⟨g1.ga (a1.ga (a2.ga (a3.ga (g2.ga g3)))),fun e=>?_⟩;have o4:=g2.at';have o5:=g3.at';simp only;rw [e1];exact ⟨.arr,by simp only [zdi,zeB];omega⟩
  have m3:=a3.lf;have o3:=a3.at';refine (zdz a3.inv hn).bind fun t4 ⟨a4,b4,_⟩=>Tot.iteb (fun h4=>?_) fun h4=>?_
  ·have m4:=a4.lf;have o4:=a4.at';refine (zhb a4.inv (by omega)).bind fun u ⟨g2,s2⟩=>.some ⟨g1.ga (a1.ga (a2.ga (a3.ga (a4.ga g2)))),fun e=>?_⟩;obtain ⟨q1,q2⟩:=s2 e;simp only;rw [e1];exact ⟨.ret q1,by simp only [zdi,zgF];omega⟩
  have m4:=a4.lf;have o4:=a4.at';refine (zdz a4.inv hn).bind fun t5 ⟨a5,b5,_⟩=>Tot.iteb (fun h5=>?_) fun h5=>?_
  ·obtain ⟨_,c1,c2⟩:=b5 h5;have m5:=c1.lf c2;have o5:=c1.adv c2;refine (hc t5.2 _ _ a5.inv (by omega) hx).bind fun u ⟨g2,s2⟩=>.some ⟨g1.ga (a1.ga (a2.ga (a3.ga (a4.ga (a5.ga g2))))),fun e=>?_⟩;obtain ⟨q1,q2⟩:=s2 e;exact ⟨q1,by simp only;omega⟩
  have m5:=a5.lf;have o5:=a5.at';refine (zdz a5.inv hn).bind fun t6 ⟨a6,b6,_⟩=>Tot.iteb (fun h6=>?_) fun h6=>?_
  ·obtain ⟨_,c1,c2⟩:=b6 h6;have m6:=c1.lf c2;have o6:=c1.adv c2;refine (hl t6.2 _ _ a6.inv (by omega) hx).bind fun u ⟨g2,s2⟩=>.some ⟨g1.ga (a1.ga (a2.ga (a3.ga (a4.ga (a5.ga (a6.ga g2)))))),fun e=>?_⟩;obtain ⟨q1,q2⟩:=s2 e;exact ⟨q1,by simp only;omega⟩
  have m6:=a6.lf;have o6:=a6.at';refine (zp6 a6.inv (by omega) hx).bind fun u ⟨g2,s2⟩=>.some ⟨g1.ga (a1.ga (a2.ga (a3.ga (a4.ga (a5.ga (a6.ga g2)))))),fun e=>?_⟩;obtain ⟨q1,q2⟩:=s2 e;exact ⟨q1,by simp only;omega⟩
 ·refine Tot.elim (fun z e=>?_) fun z e=>?_
  ·subst e;obtain ⟨hy',hs⟩:GA p z.1/\(z.1.e_=0->WS z.2/\sz z.2<=1+(z.1.at_ - p.at_)):=hy;refine (zcY hy'.inv hn).bind fun s g=>.some ⟨hy'.ga g,fun e=>?_⟩;obtain ⟨w1,w2⟩:=hs (g.toGd.e0 e);have:=g.adv e;exact ⟨w1,by simp only;omega⟩
  ·subst e;exact .some hy
theorem grp2_ok:∀n:Nat,OkK n (zbe n).1/\OkS n (zbe n).2.1/\OkN n 47 (zbe n).2.2.1/\OkN n 47 (zbe n).2.2.2:=by
 intro n
 induction n with
 | zero=>refine ⟨fun p a h hb=>?_,fun p a h hb=>?_,fun p x a h hb=>?_,fun p x a h hb=>?_⟩ <;> (have:=h.lf;omega)
 | succ n ih=>
   obtain ⟨i1,i2,i3,i4⟩:=ih;exact ⟨block_b i2,znG i3 i4,choice_b i1,loop_b i1⟩
theorem zlL (h:PI p) {a:Int} (hb:Lf p+46<=n):Tot (zbB n p a) fun r=>GA p r.2/\Bk p r:=(grp2_ok n).1 p a h hb
def Fx (p:zab) (r:zaa × zab):Prop:=r.2.e_=0->WF r.1/\sz r.1<=r.2.at_ - p.at_
theorem zng (h:PI p) (hb:Lf p+46<=n):Tot (zdm n p) fun r=>GA p r.2/\Fx p r:=by
 have hn:13<n:=by have:=h.lf;omega
 unfold zdm;refine (zhP h).bind fun r ⟨g1,e1⟩=>(zdz g1.inv hn).bind fun t ⟨g2,_,_⟩=>?_;have g3:=g1.trans g2;have n3:=g3.at'
 have key:∀q:zab,GA p q->(q.l_.length:Int) - q.at_<n:=by
  intro q g;have:=g.toGd.lf;unfold Lf at this hb;have:=h.hi;have:=g.inv.hi;omega
 have fin:∀ {q b:zab} {ps:List zaa} {z:zaa × zab} {at' k:Int} {s:Str},Gd q b->GA b z.2->Bk b z->p.at_+1<=q.at_ - szL ps->(b.e_=0->∀x ∈ ps,WP x)->Fx p (⟨2,at',s,k,ps++[z.1]⟩,z.2):=fun gb gz bz hq hp e=>by
  obtain ⟨⟨c1,c2⟩,c3⟩:=bz e;have eb:=gz.toGd.e0 e;have n1:=gb.at';refine ⟨?_,by simp only [zdi,zkX,zgF];omega⟩;simp only;rw [c1];exact .fn (hp eb) c2
 have one:∀(k0 k1 k2:Int),Tot ((zaF n t.2 [102,110]).bind fun x10=>(zby n x10).bind fun x11=>(zbX n x11.2).bind fun x13=>(zaN n x13.2 [45,62]).bind fun x15=>if x15.1=true then (zaN n x15.2 [117,51,50]).bind fun x18=>if x18.1=true then (zbB n x18.2 1).bind fun x21=>need (x13.1.length+[x21.1].length<=1073741824) <| some (({ r.1 with Num_:=k1,za7:=x11.1,zas:=x13.1++[x21.1] }:zaa),x21.2) else (zaF n x18.2 [117,54,52]).bind fun x23=>(zbB n x23 1).bind fun x25=>need (x13.1.length+[x25.1].length<=1073741824) <| some (({ r.1 with Num_:=k2,za7:=x11.1,zas:=x13.1++[x25.1] }:zaa),x25.2) else (zbB n x15.2 1).bind fun x27=>need (x13.1.length+[x27.1].length<=1073741824) <| some (({ r.1 with Num_:=k0,za7:=x11.1,zas:=x13.1++[x27.1] }:zaa),x27.2)) fun r=>GA p r.2/\Fx p r:=by
  intro k0 k1 k2;rw [e1];refine (zcY g2.inv hn).bind fun u g4=>(ziY g4.inv hn).bind fun v g5=>?_;have g6:=g3.ga (g4.ga g5);have n6:=g5.at';refine (zlT g5.inv hn (key _ g6)).bind fun w ⟨g7,hw,hp⟩=>(zdz g7.inv hn).bind fun x ⟨g8,_,_⟩=>?_;have g9:=(g6.ga g7).gd g8;have l9:=g9.toGd.lf
  have big:∀ {b:zab},Gd w.2 b->b.e_=0->p.at_+1<=w.2.at_ - szL w.1/\∀x ∈ w.1,WP x:=fun gb e=>by
   obtain ⟨q1,q2⟩:=hp (gb.e0 e);have:=g4.adv (g5.toGd.e0 (g7.toGd.e0 (gb.e0 e)));exact ⟨by omega,q1⟩
  have fin2:∀ {b:zab} {z:zaa × zab} {at' k:Int} {s:Str},Gd w.2 b->GA b z.2->Bk b z->Fx p (⟨2,at',s,k,w.1++[z.1]⟩,z.2):=fun gb gz bz e=>fin gb gz bz (big gb (gz.toGd.e0 e)).1 (fun e2=>(big gb e2).2) e;refine Tot.iteb (fun _=>?_) fun _=>?_
  ·refine (zdz g8.inv hn).bind fun y ⟨g10,_,_⟩=>?_;have l10:=g10.lf;refine Tot.iteb (fun _=>?_) fun _=>?_
   ·exact (zlL g10.inv (by omega)).bind fun z ⟨g11,b11⟩=>Tot.need (by simp only [List.length_singleton];omega) (.some ⟨(g9.gd g10).ga g11,fin2 (g8.trans g10) g11 b11⟩)
   ·refine (zcY g10.inv hn).bind fun y' g11=>?_;have l11:=g11.toGd.lf;exact (zlL g11.inv (by omega)).bind fun z ⟨g12,b12⟩=>Tot.need (by simp only [List.length_singleton];omega) (.some ⟨((g9.gd g10).ga g11).ga g12,fin2 (g8.trans (g10.trans g11.toGd)) g12 b12⟩)
  ·exact (zlL g8.inv (by omega)).bind fun z ⟨g11,b11⟩=>Tot.need (by simp only [List.length_singleton];omega) (.some ⟨g9.ga g11,fin2 g8 g11 b11⟩)
 exact Tot.iteb (fun _=>one _ _ _) fun _=>one _ _ _
theorem Parse_l1:∀(c:Nat) (p:zab) (x:zaa),PI p->Lf p+46<=n->(p.l_.length:Int) - p.at_<c->1<=c->(p.e_=0->(x.zas.length:Int)<=p.at_)->(x.zas.length:Int)<=65538->Tot (zes n c p x) fun r=>Gd p r.1/\(r.1.e_=0->(∀y ∈ x.zas,WF y)->(∀y ∈ r.2.zas,WF y)/\szL r.2.zas<=szL x.zas+(r.1.at_ - p.at_)):=by
 intro c
 induction c with
 | zero=>intro p x h _ h1 h2;omega
 | succ c ih=>
   intro p x h hk h1 h2 h3 h4;have k1:=h.lo;have k2:=h.hi;have k3:=h.big;unfold zes;refine Tot.bind (P:=fun b=>b=true->p.e_=0) ?_ fun b hb=>?_
   ·refine Tot.iteb (fun he=>?_) fun _=>.some fun h=>by cases h
    exact (zgE h).bind fun b hb=>.some fun _=>by simpa using he
   ·refine Tot.iteb (fun h5=>?_) fun h5=>.some ⟨.refl h,fun _ hl=>⟨hl,by simp only;omega⟩⟩;have he:=hb h5;refine (zng h hk).bind fun r ⟨g,fx⟩=>?_;have m1:=g.at';have m3:=h3 he;have m4:=g.toGd.lf;have m5:=g.inv.hi;have m6:=g.toGd.len;refine Tot.need (by simp only [List.length_singleton];omega) ?_
    by_cases he2:r.2.e_=0
    ·have m7:=g.adv he2;obtain ⟨w1,w2⟩:=fx he2;refine (ih r.2 _ g.inv (by omega) (by rw [m6];omega) (by omega) (fun _=>by simp only [List.length_append,List.length_singleton];omega) (by simp only [List.length_append,List.length_singleton];omega)).mono fun s ⟨g2,s2⟩=>⟨g.toGd.trans g2,fun e hl=>?_⟩
     obtain ⟨v1,v2⟩:=s2 e (fun y hy=>by
      rcases List.mem_append.1 hy with hy | hy
      ·exact hl y hy
      ·obtain rfl:=List.mem_singleton.1 hy;exact w1)
     refine ⟨v1,?_⟩;simp only [zkX,zgF] at v2;omega
    ·cases c with
     | zero=>omega
     | succ c=>
       unfold zes;rw [if_neg (by simpa using he2),Option.bind_some,if_neg (by decide)];exact .some ⟨g.toGd,fun e=>absurd e he2⟩
end
theorem znR {n:Nat} {s:Str} (hn:16*s.length+200<n):Tot (zhl n s) fun r=>r.2.1=0->(∀x ∈ r.1.zas,WF x)/\szL r.1.zas<=s.length+1:=by
 unfold zhl;refine (zpr (by omega) (by omega)).bind fun x hx=>?_;refine Tot.iteb (fun h1=>.some fun h=>?_) fun h1=>?_
 ·rw [show x.2.1=0 from h] at h1;cases h1
 obtain ⟨l,h2,h3,h4,h5⟩:=hx (by simpa using h1);have hp:PI (zab.mk x.1 0 0 0 0):=⟨by simp only;omega,by simp only [h2,List.length_append,List.length_singleton];omega,by simp only [h2,List.length_append,List.length_singleton];omega,⟨l,_,h2,h3,rfl⟩⟩
 have hl:Lf (zab.mk x.1 0 0 0 0)<=16*s.length+16:=by
  unfold Lf;simp only [h2,List.length_append,List.length_singleton];omega
 refine (zhP hp).bind fun r ⟨g1,e1⟩=>?_;have e:r.1.zas=[]:=by rw [e1]
 have l1:=g1.lf;have k0:=g1.inv.lo;have k1:=g1.inv.hi;have k2:=g1.inv.lf;refine (Parse_l1 n r.2 r.1 g1.inv (by omega) (by unfold Lf at l1 hl;omega) (by omega) (fun _=>by rw [e];simpa using k0) (by rw [e];simp)).bind fun y ⟨g2,s2⟩=>?_;refine Tot.iteb (fun he=>.some fun h=>absurd h (by simpa using he)) fun he=>.some fun _=>?_;obtain ⟨v1,v2⟩:=s2 (by simpa using he) (fun y hy=>by rw [e] at hy;cases hy);refine ⟨v1,?_⟩;rw [e,zeB] at v2;have m1:=g2.inv.hi;rw [g2.len,g1.len] at m1;simp only [h2,List.length_append,List.length_singleton] at m1;simp only;omega
end Go.Proofs.YtldnmmnnohnpkaaGreatDoor.Abs
