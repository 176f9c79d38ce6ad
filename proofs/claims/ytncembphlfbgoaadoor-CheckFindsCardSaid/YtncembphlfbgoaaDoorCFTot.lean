/-
 vB helper theorems of no one function: that a model gives something, and what holds of it.
-/
import Derived.Test.YtncembphlfbgoaaDoorCFS3
import Derived.Test.YtncembphlfbgoaaDoorCFGMm
import Derived.Lib.IndexLaws
namespace Go.Proofs.YtncembphlfbgoaaDoor.Abs
open Go.RowKit
def bU {α:Type} (o:Option α) (Q:α->Prop):Prop:=∃r,o=some r/\Q r
section
variable {α β:Type} {o:Option α} {Q P:α->Prop}
theorem bU.some {r:α} (h:Q r):bU (some r) Q:=⟨r,rfl,h⟩
theorem bU.mono (h:bU o P) (k:∀x,P x->Q x):bU o Q:=by obtain ⟨r,e,hr⟩:=h;exact ⟨r,e,k r hr⟩
theorem bU.bind {f:α->Option β} {R:β->Prop} (h:bU o P) (k:∀x,P x->bU (f x) R):bU (o.bind f) R:=by
 obtain ⟨r,e,hr⟩:=h;subst e;exact k r hr
theorem bU.bind' {f:α->Option β} {R:β->Prop} (h:bU o fun x=>bU (f x) R):bU (o.bind f) R:=h.bind fun _ k=>k
theorem bU.eqn {v:α} {f:α->Option β} {R:β->Prop} (h:o=Option.some v) (k:bU (f v) R):bU (o.bind f) R:=by subst h;exact k
theorem bU.need {c:Prop} [Decidable c] (hc:c) (h:bU o Q):bU (kM c o) Q:=by rw [Bv hc];exact h
theorem bU.iteb {b:Bool} {x y:Option α} (h1:b=true->bU x Q) (h2:b=false->bU y Q):bU (if b=true then x else y) Q:=by
 cases b
 ·exact h2 rfl
 ·exact h1 rfl
theorem bU.elim {γ:Type} {s:β ⊕ γ} {f:β->Option α} {g:γ->Option α} (h1:∀x,s=.inl x->bU (f x) Q) (h2:∀x,s=.inr x->bU (g x) Q):bU (s.elim f g) Q:=by
 cases s
 ·exact h1 _ rfl
 ·exact h2 _ rfl
theorem bU.idx {l:List α} {i:Int} (h0:0<=i) (h1:i<l.length) (k:∀x,l[i.toNat]? = Option.some x->Q x):bU (cJ l i) Q:=by
 unfold cJ;rw [if_pos h0];refine ⟨l[i.toNat]'(by omega),List.getElem?_eq_getElem (by omega),k _ (List.getElem?_eq_getElem (by omega))⟩
end
theorem fQ {n:Int} (h1:-9223372036854775808<=n) (h2:n<=9223372036854775807):IntKind.i64.wrap n=n:=by
 rw [IntKind.wrap_i64];omega
theorem take_step' {α:Type} {l:List α} {j:Nat} {x:α} (h:l[j]? = some x):l.take (j+1)=l.take j++[x]:=by
 rw [List.take_add_one,h];rfl
theorem CX {α:Type} {p:α->Bool} {s:List α} {v:Nat} {x:α} (h:∀y ∈ s.take v,p y=true) (hx:s[v]? = some x) (hp:p x=false):s.takeWhile p=s.take v:=by
 obtain ⟨hv,rfl⟩:=List.getElem?_eq_some_iff.1 hx;have h1:(s.take v++s.drop v).takeWhile p=s.take v++(s.drop v).takeWhile p:=List.takeWhile_append_of_pos h;rw [List.take_append_drop] at h1;rw [h1,List.drop_eq_getElem_cons hv,List.takeWhile_cons_of_neg (by simp [hp]),List.append_nil]
theorem find_at {α:Type} {p:α->Bool} {s:List α} {v:Nat} {x:α} (h:∀y ∈ s.take v,p y=false) (hx:s[v]? = some x) (hp:p x=true):s.find? p=some x:=by
 obtain ⟨hv,rfl⟩:=List.getElem?_eq_some_iff.1 hx
 have h1:(s.take v++s.drop v).find? p=(s.drop v).find? p:=by
  rw [List.find?_append,List.find?_eq_none.2 (fun y hy=>by simp [h y hy])];rfl
 rw [List.take_append_drop] at h1;rw [h1,List.drop_eq_getElem_cons hv,List.find?_cons_of_pos (by simp [hp])]
theorem Bj {α:Type} {p:α->Bool} {s:List α} (h:∀y ∈ s,p y=true):s.takeWhile p=s:=by
 have:=List.takeWhile_append_of_pos (l₂:=[]) h;simpa using this
end Go.Proofs.YtncembphlfbgoaaDoor.Abs
namespace Go.Proofs.YtncembphlfbgoaaDoor.Abs
open Go.RowKit
set_option linter.unusedVariables false
set_option linter.unusedSimpArgs false
def Jc (c:Int):Bool:=(decide (97<=c) && decide (c<=122)) || (c == 95)
def Jd (c:Int):Bool:=decide (48<=c) && decide (c<=57)
def isBl (c:Int):Bool:=c == 32 || (c == 9 || (c == 13 || c == 10))
def Hm (b:UInt8):Bool:=Jc b.toNat || Jd b.toNat
theorem JD (a:Int):vY a=some (isBl a):=by
 unfold vY isBl;cases a == 32 <;> cases a == 9 <;> cases a == 13 <;> rfl
theorem CV (a:Int):qZ a=some (Jc a):=by
 unfold qZ Jc;cases decide (97<=a) <;> cases decide (a<=122) <;> simp
theorem EV (a:Int):sJ a=some (Jd a):=by
 unfold sJ Jd;cases decide (48<=a) <;> simp
theorem AF (a b:cD):eQ a b=some (decide (a.take b.length=b)):=by
 unfold eQ
 by_cases h:(b.length:Int)<=a.length
 ·rw [if_pos (by simpa using h),Bv ⟨by omega,h⟩];rfl
 ·rw [if_neg (by simpa using h),Option.bind_some,decide_eq_false];intro e;have:=congrArg List.length e;rw [List.length_take] at this;omega
theorem rI (a b:cD):lE a b=some (decide (a.take b.length=b)):=by
 unfold lE;rw [AF];rfl
theorem xH (a:cD) (c:Int):lD a c=some (Lib.indexByte a c.toNat.toUInt8):=rfl
theorem word_l1 (s:cD):∀(c:Nat) (v:Nat),s.length<v+c->v<=s.length->(∀y ∈ s.take v,Hm y=true)->s.length<4611686018427387904 ->
  bU (oE s c v) (fun r=>match r with | .inl _=>s.takeWhile Hm=s | .inr t=>t=s.takeWhile Hm):=by
 intro c
 induction c with
 | zero=>intro v h1 h2;omega
 | succ c ih=>
   intro v h1 h2 h3 hs;unfold oE;refine bU.iteb (fun h4=>?_) (fun h4=>?_)
   ·simp only [decide_eq_true_eq] at h4;refine (bU.bind (P:=fun y=>∃x,s[v]? = some x/\y=!Hm x) ?_) ?_
    ·refine bU.bind' (bU.idx (by omega) h4 fun x hx=>?_);rw [Int.toNat_natCast] at hx;rw [CV,Option.bind_some,EV,Option.bind_some];refine bU.iteb (fun h5=>.some ⟨x,hx,?_⟩) (fun h5=>.some ⟨x,hx,?_⟩)
     ·simp only [Bool.not_eq_true'] at h5;simp [Hm,h5]
     ·simp only [Bool.not_eq_false'] at h5;simp [Hm,h5]
    ·rintro y ⟨x,hx,rfl⟩;refine bU.iteb (fun h5=>?_) (fun h5=>?_)
     ·refine bU.need ⟨by omega,by omega⟩ (.some ?_);simp only [Bool.not_eq_true'] at h5;rw [Int.toNat_natCast];exact (CX h3 hx h5).symm
     ·simp only [Bool.not_eq_false'] at h5;rw [fQ (by omega) (by omega)];refine ih (v+1) (by omega) (by omega) ?_ hs;rw [take_step' hx];intro y hy
      rcases List.mem_append.1 hy with hy | hy
      ·exact h3 y hy
      ·rw [List.mem_singleton.1 hy];exact h5
   ·refine .some ?_;simp only [decide_eq_false_iff_not] at h4;rw [List.take_of_length_le (by omega)] at h3;exact Bj h3
theorem word_eq {n:Nat} {s:cD} (hn:s.length<n) (hs:s.length<4611686018427387904):yK n s=some (s.takeWhile Hm):=by
 unfold yK;obtain ⟨r,e,hr⟩:=word_l1 s n 0 (by omega) (by omega) (by simp) hs;rw [show ((0:Nat):Int)=0 from rfl] at e;rw [e,Option.bind_some];cases r with
 | inl _=>rw [hr];rfl
 | inr t=>rw [hr];rfl
theorem sign_l1 (s:cD):∀(c:Nat) (v:Nat),26<v+c->v<=26->(∀y ∈ eF.take v,decide (s.take y.length=y)=false) ->
  bU (oF s c v) (fun r=>match r with | .inl _=>eF.find? (fun y=>decide (s.take y.length=y))=none | .inr t=>eF.find? (fun y=>decide (s.take y.length=y))=some t):=by
 intro c
 induction c with
 | zero=>intro v h1 h2;omega
 | succ c ih=>
   intro v h1 h2 h3;unfold oF;refine bU.iteb (fun h4=>?_) (fun h4=>?_)
   ·simp only [decide_eq_true_eq] at h4;refine bU.bind' (bU.idx (by omega) (by have:eF.length=26:=rfl;omega) fun x hx=>?_);rw [Int.toNat_natCast] at hx;rw [rI,Option.bind_some];refine bU.iteb (fun h5=>.some ?_) (fun h5=>?_)
    ·exact find_at h3 hx h5
    ·rw [fQ (by omega) (by omega)];refine ih (v+1) (by omega) (by omega) ?_;rw [take_step' hx];intro y hy
     rcases List.mem_append.1 hy with hy | hy
     ·exact h3 y hy
     ·rw [List.mem_singleton.1 hy];exact h5
   ·refine .some ?_;simp only [decide_eq_false_iff_not] at h4;rw [List.take_of_length_le (by have:eF.length=26:=rfl;omega)] at h3;exact List.find?_eq_none.2 fun y hy=>by simpa using h3 y hy
def AK (s:cD):cD:=(eF.find? (fun y=>decide (s.take y.length=y))).getD []
theorem sign_eq {n:Nat} {s:cD} (hn:26<n):yL n s=some (AK s):=by
 unfold yL AK;obtain ⟨r,e,hr⟩:=sign_l1 s n 0 (by omega) (by omega) (by simp);rw [show ((0:Nat):Int)=0 from rfl] at e;rw [e,Option.bind_some];cases r with
 | inl _=>rw [hr];rfl
 | inr t=>rw [hr];rfl
theorem Fe (s:cD):AK s=[] ∨ 1<=(AK s).length/\(AK s).length<=s.length:=by
 unfold AK;cases h:eF.find? (fun y=>decide (s.take y.length=y)) with
 | none=>exact .inl rfl
 | some y=>
   have h1:=List.find?_some h;have h2:=List.mem_of_find?_eq_some h;simp only [decide_eq_true_eq] at h1;have h3:=congrArg List.length h1;rw [List.length_take] at h3;have h4:(eF.all fun y=>decide (1<=y.length))=true:=by decide
   have h5:=List.all_eq_true.1 h4 y h2;simp only [decide_eq_true_eq] at h5;exact .inr ⟨h5,by show y.length<=_;omega⟩
theorem skip_l1 (s:cD) (hs:s.length<4611686018427387904):∀(c:Nat) (v:Nat),s.length<v+c->v<=s.length->bU (nA s c v) (fun r=>∃k:Nat,v<=k/\k<=s.length/\(r=.inl (k:Int) ∨ r=.inr (k:Int))):=by
 intro c
 induction c with
 | zero=>intro v h1 h2;omega
 | succ c ih=>
   intro v h1 h2;unfold nA;refine bU.iteb (fun h4=>?_) (fun h4=>.some ⟨v,by omega,h2,.inl rfl⟩);simp only [decide_eq_true_eq] at h4;refine bU.bind' (bU.idx (by omega) h4 fun x hx=>?_);rw [Int.toNat_natCast] at hx;rw [JD,Option.bind_some];refine bU.iteb (fun h5=>?_) (fun h5=>?_)
   ·rw [fQ (by omega) (by omega)];exact (ih (v+1) (by omega) (by omega)).mono fun r ⟨k,h6,h7,h8⟩=>⟨k,by omega,h7,h8⟩
   ·refine bU.need ⟨by omega,by omega⟩ ?_;rw [Int.toNat_natCast,rI,Option.bind_some];refine bU.iteb (fun h6=>?_) (fun h6=>.some ⟨v,by omega,h2,.inr rfl⟩);simp only [decide_eq_true_eq] at h6;refine bU.need ⟨by omega,by omega⟩ ?_;rw [xH,Option.bind_some];refine bU.iteb (fun h7=>.some ⟨s.length,h2,by omega,.inr rfl⟩) (fun h7=>?_);simp only [decide_eq_false_iff_not,Int.not_lt] at h7;obtain ⟨o,ho⟩:=Int.eq_ofNat_of_zero_le h7;rw [ho];obtain ⟨h8,h9⟩:=Lib.indexByte_some ho;have h10:o<(s.drop v).length:=(List.getElem?_eq_some_iff.1 h8).1;rw [List.length_drop] at h10
    have h11:o ≠ 0:=by
     rintro rfl;have h12:=congrArg (·[0]?) h6;simp only [List.getElem?_take_of_lt (show 0<([47,47]:cD).length by decide)] at h12;rw [h8] at h12
     revert h12;decide
    rw [fQ (by omega) (by omega)];exact (ih (v+o) (by omega) (by omega)).mono fun r ⟨k,h6,h7,h8⟩=>⟨k,by omega,h7,h8⟩
theorem DY {n:Nat} {s:cD} {v:Nat} (hs:s.length<4611686018427387904) (hn:s.length<v+n) (hv:v<=s.length):bU (vX n s v) fun r=>∃k:Nat,v<=k/\k<=s.length/\r=k:=by
 unfold vX;refine (skip_l1 s hs n v hn hv).bind fun r ⟨k,h1,h2,h3⟩=>?_
 rcases h3 with rfl | rfl <;> exact .some ⟨k,h1,h2,rfl⟩
theorem Ik (x:cD × Bool) (hs:x.1.length<4611686018427387904):∀(c:Nat) (t:Int) (v:Nat),x.1.length<v+c->v<=x.1.length->bU (nH x c t v) fun _=>True:=by
 intro c
 induction c with
 | zero=>intro t v h1 h2;omega
 | succ c ih=>
   intro t v h1 h2;unfold nH;refine bU.iteb (fun h4=>?_) (fun h4=>.some trivial);simp only [decide_eq_true_eq] at h4;refine bU.need (by decide) ?_;refine bU.bind' (bU.idx (by omega) h4 fun y hy=>?_);rw [xH,Option.bind_some];refine bU.bind (P:=fun _=>True) (bU.iteb (fun _=>.some trivial) fun _=>.some trivial) fun y _=>?_;refine bU.iteb (fun _=>.some trivial) fun _=>?_;rw [fQ (n:=(v:Int)+1) (by omega) (by omega)];exact ih _ (v+1) (by omega) (by omega)
theorem Ij (s:cD) (hs:s.length<4611686018427387904):∀(c:Nat) (t:Int) (v:Nat),s.length<v+c->v<=s.length->bU (nG s c t v) fun _=>True:=by
 intro c
 induction c with
 | zero=>intro t v h1 h2;omega
 | succ c ih=>
   intro t v h1 h2;unfold nG;refine bU.iteb (fun h4=>?_) (fun h4=>.some trivial);simp only [decide_eq_true_eq] at h4;refine bU.need (by decide) ?_;refine bU.bind' (bU.idx (by omega) h4 fun y hy=>?_);rw [xH,Option.bind_some];refine bU.bind (P:=fun _=>True) (bU.iteb (fun _=>.some trivial) fun _=>.some trivial) fun y _=>?_;refine bU.iteb (fun _=>.some trivial) fun _=>?_;rw [fQ (n:=(v:Int)+1) (by omega) (by omega)];exact ih _ (v+1) (by omega) (by omega)
theorem DM (a b:cD):mG a b=some (if a.take b.length=b then (a.drop b.length,true) else (a,false)):=by
 unfold mG iA;rw [AF,Option.bind_some]
 by_cases h:a.take b.length=b
 ·rw [decide_eq_true h,if_neg (by decide),if_pos h,Bv]
  ·rfl
  ·have:=congrArg List.length h;rw [List.length_take] at this;omega
 ·rw [decide_eq_false h,if_pos (by decide),if_neg h];rfl
theorem GH {n:Nat} {s:cD} (hs:s.length<4611686018427387904) (hn:s.length<n):bU (vW n s) fun _=>True:=by
 unfold vW;rw [DM,Option.bind_some]
 have hl:∀x:cD × Bool,x=(if s.take ([48,120]:cD).length=([48,120]:cD) then (s.drop ([48,120]:cD).length,true) else (s,false))->x.1.length<=s.length:=by
  rintro x rfl
  split
  ·rw [List.length_drop];omega
  ·exact Nat.le_refl _
 generalize (if s.take ([48,120]:cD).length=([48,120]:cD) then (s.drop ([48,120]:cD).length,true) else (s,false))=x at hl
 have hx:=hl x rfl;refine bU.iteb (fun _=>?_) fun _=>?_
 ·exact (Ik x (by omega) n 0 0 (by omega) (by omega)).bind fun r _=>bU.elim (fun _ _=>.some trivial) fun _ _=>.some trivial
 ·exact (Ij s (by omega) n 0 0 (by omega) (by omega)).bind fun r _=>bU.elim (fun _ _=>.some trivial) fun _ _=>.some trivial
theorem IK {n:Nat} {s:cD} {v:Nat} (hs:s.length<4611686018427387904) (hn:s.length<n) (hn2:26<n) (hv:v<s.length) :
  bU (yM n s v) fun r=>r.2=0->(r.1.bN=1 ∨ r.1.bN=2 ∨ r.1.bN=3)/\r.1.eH=v/\1<=r.1.bP.length/\v+r.1.bP.length<=s.length:=by
 unfold yM;refine bU.need ⟨by omega,by omega⟩ ?_;rw [Int.toNat_natCast,word_eq (by rw [List.length_drop];omega) (by rw [List.length_drop];omega),Option.bind_some];refine bU.bind' (bU.idx (by omega) (by omega) fun x hx=>?_);rw [Int.toNat_natCast] at hx
 have hd:s.drop v=x::s.drop (v+1):=by
  obtain ⟨h1,rfl⟩:=List.getElem?_eq_some_iff.1 hx;exact List.drop_eq_getElem_cons h1
 have hle:((s.drop v).takeWhile Hm).length<=s.length - v:=by
  have:=(List.takeWhile_prefix (l:=s.drop v) Hm).length_le
  rwa [List.length_drop] at this
 have hpos:Hm x=true->1<=((s.drop v).takeWhile Hm).length:=by
  intro h;rw [hd,List.takeWhile_cons_of_pos h,List.length_cons];omega
 rw [CV,Option.bind_some];refine bU.iteb (fun h1=>bU.iteb (fun _=>.some fun h=>by cases h) fun _=>.some fun _=>⟨.inl rfl,rfl,hpos (by simp [Hm,h1]),by simp only;omega⟩) fun h1=>?_;rw [EV,Option.bind_some];refine bU.iteb (fun h2=>?_) fun h2=>?_
 ·refine (GH (by omega) (by omega)).bind fun y _=>bU.iteb (fun _=>.some fun h=>by cases h) fun _=>.some fun _=>⟨.inr (.inl rfl),rfl,hpos (by simp [Hm,h2]),by simp only;omega⟩
 ·refine bU.need ⟨by omega,by omega⟩ ?_;rw [sign_eq hn2,Option.bind_some];refine bU.iteb (fun _=>.some fun h=>by cases h) fun h3=>.some fun _=>⟨.inr (.inr rfl),rfl,?_⟩;have h4:=Fe (s.drop v);simp only [decide_eq_false_iff_not] at h3
  rcases h4 with h4 | h4
  ·exact absurd h4 h3
  ·rw [List.length_drop] at h4;exact ⟨h4.1,by simp only;omega⟩
def EQ (l:List cV):Prop:=∀t ∈ l,(t.bN=1 ∨ t.bN=2 ∨ t.bN=3)/\t.bP ≠ []
theorem HP {n:Nat} {s:cD} (hs:s.length<=65536) (hn:s.length<n) (hn2:26<n):∀(c:Nat) (l:List cV) (v:Nat),s.length<v+c->v<=s.length->EQ l->l.length<=v ->
  bU (mO n s c l v) fun r=>match r with | .inl l=>EQ l/\l.length<=s.length | .inr x=>x.2.1 ≠ 0:=by
 intro c
 induction c with
 | zero=>intro l v h1 h2;omega
 | succ c ih=>
   intro l v h1 h2 h3 h4;unfold mO;refine bU.iteb (fun h5=>?_) fun h5=>.some ⟨h3,by omega⟩;simp only [decide_eq_true_eq] at h5;refine (IK (by omega) hn hn2 (by omega)).bind fun x hx=>?_;refine bU.iteb (fun h6=>.some (by simpa using h6)) fun h6=>?_;obtain ⟨k1,k2,k3,k4⟩:=hx (by simpa using h6);refine bU.need (by simp only [List.length_singleton];omega) ?_;rw [fQ (by omega) (by omega)];refine (DY (v:=v+x.1.bP.length) (by omega) (by omega) k4).bind fun r ⟨k,h7,h8,h9⟩=>?_;subst h9;refine ih _ k (by omega) h8 ?_ (by simp only [List.length_append,List.length_singleton];omega);intro t ht
   rcases List.mem_append.1 ht with ht | ht
   ·exact h3 t ht
   ·rw [List.mem_singleton.1 ht];exact ⟨k1,fun e=>by rw [e] at k3;simp at k3⟩
theorem FW {n:Nat} {s:cD} (hn:s.length<n) (hn2:26<n):bU (sX n s) fun r=>r.2.1=0->∃l,r.1=l++[⟨4,s.length,[],0⟩]/\EQ l/\l.length<=s.length/\s.length<=65536:=by
 unfold sX;refine bU.iteb (fun _=>.some fun h=>by cases h) fun h1=>?_;simp only [decide_eq_false_iff_not,Int.not_lt] at h1;refine (DY (v:=0) (by omega) (by omega) (by omega)).bind fun r ⟨k,h2,h3,h4⟩=>?_;subst h4;refine (HP (by omega) hn hn2 n [] k (by omega) h3 (by simp [EQ]) (by simp)).bind fun y hy=>?_;refine bU.elim (fun z e=>?_) (fun z e=>?_)
 ·subst e;refine bU.need (by simp only [List.length_singleton];omega) (.some fun _=>⟨z,rfl,hy.1,hy.2,by omega⟩)
 ·subst e;exact .some fun h=>absurd h hy
end Go.Proofs.YtncembphlfbgoaaDoor.Abs
namespace Go.Proofs.YtncembphlfbgoaaDoor.Abs
open Go.RowKit
set_option linter.unusedVariables false
abbrev Nd:=aA
mutual
def sz:aA->Int
 | ⟨_,_,_,_,l⟩=>1+pB l
def pB:List aA->Int
 | []=>0
 | x::l=>sz x+pB l
end
theorem fA {a b:Int} {c:cD} {d:Int} {l:List aA}:sz ⟨a,b,c,d,l⟩=1+pB l:=by rw [sz]
theorem jV:pB []=0:=by rw [pB]
theorem oQ {x:aA} {l:List aA}:pB (x::l)=sz x+pB l:=by rw [pB]
theorem yB (x:aA):sz x=1+pB x.aN:=by cases x;rw [sz]
theorem yZ {a b:List aA}:pB (a++b)=pB a+pB b:=by
 induction a with
 | nil=>rw [List.nil_append,jV,Int.zero_add]
 | cons x a ih=>rw [List.cons_append,oQ,oQ,ih,Int.add_assoc]
theorem mY {x:aA}:pB [x]=sz x:=by rw [oQ,jV,Int.add_zero]
theorem Bb {x y:aA}:pB [x,y]=sz x+sz y:=by rw [oQ,mY]
theorem Cx {x y z:aA}:pB [x,y,z]=sz x+sz y+sz z:=by rw [oQ,Bb,Int.add_assoc]
mutual
theorem mB:∀x:aA,1<=sz x
 | ⟨_,_,_,_,l⟩=>by rw [sz];have:=kU l;omega
theorem kU:∀l:List aA,(l.length:Int)<=pB l
 | []=>by rw [pB];exact Int.le_refl _
 | x::l=>by rw [pB,List.length_cons];have:=kU l;have:=mB x;omega
end
theorem BC {l:List aA} {k:aA} (h:k ∈ l):sz k<=pB l:=by
 obtain ⟨a,b,rfl⟩:=List.append_of_mem h;rw [yZ,oQ];have h1:=kU a;have h2:=kU b;omega
def AJ:List cD:=[[124],[94],[38],[61,61],[60],[60,60],[62,62],[60,60,60],[43],[45],[42],[47],[37]]
inductive WE:Nd->Prop
 | num {a n}:WE ⟨14,a,[],n,[]⟩
 | ref {a s}:WE ⟨15,a,s,0,[]⟩
 | index {a s x}:WE x->WE ⟨16,a,s,0,[x]⟩
 | un {a s x}:(s=[126] ∨ s=[45])->WE x->WE ⟨18,a,s,0,[x]⟩
 | bin {a s x y}:s ∈ AJ->WE x->WE y->WE ⟨19,a,s,0,[x,y]⟩
 | call {a s xs}:(∀x ∈ xs,WE x)->WE ⟨17,a,s,0,xs⟩
inductive WS:Nd->Prop
 | bind {k a s x}:(k=5 ∨ k=6)->WE x->WS ⟨k,a,s,0,[x]⟩
 | arr {a s n}:WS ⟨7,a,s,n,[]⟩
 | ret {a x}:WE x->WS ⟨13,a,[],0,[x]⟩
 | choice {a c b ys}:WE c->(∀y ∈ ys,WS y)->WS ⟨11,a,[],0,[c,⟨4,b,[],0,ys⟩]⟩
 | choice2 {a c b ys b2 zs}:WE c->(∀y ∈ ys,WS y)->(∀z ∈ zs,WS z)->WS ⟨11,a,[],0,[c,⟨4,b,[],0,ys⟩,⟨4,b2,[],0,zs⟩]⟩
 | loop {a s x y b ys}:WE x->WE y->(∀y ∈ ys,WS y)->WS ⟨12,a,s,0,[x,y,⟨4,b,[],0,ys⟩]⟩
 | call {a s xs}:(∀x ∈ xs,WE x)->WS ⟨10,a,s,0,xs⟩
 | put {a s i x}:WE i->WE x->WS ⟨9,a,s,0,[i,x]⟩
 | set {a s x}:WE x->WS ⟨8,a,s,0,[x]⟩
inductive WP:Nd->Prop
 | word {a s k}:(k=1 ∨ k=2 ∨ k=3)->WP ⟨3,a,s,k,[]⟩
 | arr {a s b n}:WP ⟨3,a,s,4,[⟨14,b,[],n,[]⟩]⟩
inductive WF:Nd->Prop
 | fn {a s r ps b ys}:(∀p ∈ ps,WP p)->(∀y ∈ ys,WS y)->WF ⟨2,a,s,r,ps++[⟨4,b,[],0,ys⟩]⟩
theorem IR {α:Type} {x:α}:x ∈ [x]:=List.mem_singleton.2 rfl
end Go.Proofs.YtncembphlfbgoaaDoor.Abs
namespace Go.Proofs.YtncembphlfbgoaaDoor.Abs
open Go.RowKit
set_option linter.unusedVariables false
set_option linter.unusedSimpArgs false
structure PI (p:aB):Prop where
 lo:0<=p.fC
 hi:p.fC<p.l_.length
 big:p.l_.length<=65537
 toks:∃l z,p.l_=l++[z]/\EQ l/\z.bN=4
structure Gd (p p':aB):Prop where
 inv:PI p'
 l:p'.l_=p.l_
 at':p.fC<=p'.fC
 err':p.e_ ≠ 0->p'.e_=p.e_/\p'.fC=p.fC
structure GA (p p':aB):Prop extends Gd p p' where
 adv:p'.e_=0->p.fC<p'.fC
theorem Gd.err {p q:aB} (h:Gd p q):p.e_ ≠ 0->q.e_ ≠ 0/\q.fC=p.fC:=fun he=>⟨by rw [(h.err' he).1];exact he,(h.err' he).2⟩
theorem Gd.refl {p:aB} (h:PI p):Gd p p:=⟨h,rfl,Int.le_refl _,fun h=>⟨rfl,rfl⟩⟩
theorem Gd.trans {p q r:aB} (h:Gd p q) (k:Gd q r):Gd p r:=⟨k.inv,k.l.trans h.l,Int.le_trans h.at' k.at',fun he=>⟨(k.err' (h.err he).1).1.trans (h.err' he).1,(k.err' (h.err he).1).2.trans (h.err' he).2⟩⟩
theorem Gd.e0 {p q:aB} (h:Gd p q) (he:q.e_=0):p.e_=0:=Classical.byContradiction fun hn=>(h.err hn).1 he
theorem Gd.ga {p q r:aB} (h:Gd p q) (k:GA q r):GA p r:=⟨h.trans k.toGd,fun he=>Int.lt_of_le_of_lt h.at' (k.adv he)⟩
theorem GA.gd {p q r:aB} (h:GA p q) (k:Gd q r):GA p r:=⟨h.toGd.trans k,fun he=>Int.lt_of_lt_of_le (h.adv (k.e0 he)) k.at'⟩
theorem GA.ga {p q r:aB} (h:GA p q) (k:GA q r):GA p r:=h.gd k.toGd
theorem Gd.len {p q:aB} (h:Gd p q):q.l_.length=p.l_.length:=by rw [h.l]
section
variable {p:aB} {n:Nat}
theorem pM (h:PI p):bU (dR p) fun t=>t.bN ≠ 4->p.fC+1<p.l_.length:=by
 unfold dR;refine bU.bind' (bU.idx h.lo h.hi fun x hx=>.some fun hk=>?_);obtain ⟨l,z,h1,h2,h3⟩:=h.toks;have h4:=h.lo;have h5:=h.hi;rw [h1] at hx h5 ⊢;simp only [List.length_append,List.length_singleton] at h5 ⊢
 by_cases h6:p.fC.toNat=l.length
 ·rw [List.getElem?_append_right (by omega),h6,Nat.sub_self] at hx;simp at hx
  subst hx;exact absurd h3 hk
 ·omega
theorem yQ (h:PI p) {e:Int} (he:e ≠ 0):bU (fP p e) fun q=>Gd p q/\q.e_ ≠ 0:=by
 unfold fP;refine bU.iteb (fun h1=>?_) fun h1=>.some ⟨.refl h,by simpa using h1⟩;simp only [beq_iff_eq] at h1;exact (pM h).bind fun t _=>.some ⟨⟨⟨h.lo,h.hi,h.big,h.toks⟩,rfl,Int.le_refl _,fun hn=>absurd h1 hn⟩,he⟩
theorem rO (h:PI p) {k:Int}:bU (dX p k) fun r=>Gd p r.2/\r.1=⟨k,r.1.eH,[],0,[]⟩:=by
 unfold dX;have hp:PI { p with nV:=(IntKind.i64.wrap (p.nV+(1:Int))) }:=⟨h.lo,h.hi,h.big,h.toks⟩;have hg:Gd p { p with nV:=(IntKind.i64.wrap (p.nV+(1:Int))) }:=⟨hp,rfl,Int.le_refl _,fun hn=>⟨rfl,rfl⟩⟩;refine bU.iteb (fun h1=>?_) fun h1=>?_
 ·exact (yQ hp (by decide)).bind fun q ⟨g,_⟩=>(pM g.inv).bind fun t _=>.some ⟨hg.trans g,rfl⟩
 ·exact (pM hp).bind fun t _=>.some ⟨hg,rfl⟩
theorem JS (l:List cD) (s:cD) (hl:l.length<1000):∀(c:Nat) (v:Nat),l.length<v+c->v<=l.length->(∀y ∈ l.take v,decide (s=y)=false) ->
  bU (dU l s c v) fun r=>match r with | .inl _=>(l.any fun y=>decide (s=y))=false | .inr k=>0<=k/\(l.any fun y=>decide (s=y))=true:=by
 intro c
 induction c with
 | zero=>intro v h1 h2;omega
 | succ c ih=>
   intro v h1 h2 h3;unfold dU;refine bU.iteb (fun h4=>?_) (fun h4=>?_)
   ·simp only [decide_eq_true_eq] at h4;refine bU.bind' (bU.idx (by omega) h4 fun x hx=>?_);rw [Int.toNat_natCast] at hx;refine bU.iteb (fun h5=>.some ⟨by omega,?_⟩) (fun h5=>?_)
    ·exact List.any_eq_true.2 ⟨x,List.mem_of_getElem? hx,h5⟩
    ·rw [fQ (by omega) (by omega)];refine ih (v+1) (by omega) (by omega) ?_;rw [take_step' hx];intro y hy
     rcases List.mem_append.1 hy with hy | hy
     ·exact h3 y hy
     ·rw [List.mem_singleton.1 hy];exact h5
   ·refine .some ?_;simp only [decide_eq_false_iff_not] at h4;rw [List.take_of_length_le (by omega)] at h3;exact List.any_eq_false.2 fun y hy=>by simp [h3 y hy]
def Jb (s:cD):Bool:=bT.any fun y=>decide (s=y)
theorem Gy {s:cD} (hn:13<n):qV n s=some (Jb s):=by
 unfold qV gU iQ;obtain ⟨r,e,hr⟩:=JS bT s (by decide) n 0 (by have:bT.length=13:=rfl;omega) (by omega) (by simp);rw [show ((0:Nat):Int)=0 from rfl] at e;rw [e,Option.bind_some];unfold Jb;cases r with
 | inl _=>rw [hr];rfl
 | inr k=>
   rw [hr.2];simp only [Sum.elim_inr,Option.bind_some,Option.some.injEq,decide_eq_true_eq];exact hr.1
theorem BU (h:PI p) (hn:13<n) {s:cD}:bU (gO n p s) fun b=>b=true->p.e_=0/\p.fC+1<p.l_.length:=by
 unfold gO;refine (pM h).bind fun t ht=>?_;refine bU.bind (P:=fun b=>b=true->p.e_=0/\p.fC+1<p.l_.length) ?_ fun b hb=>.some hb;refine bU.iteb (fun h1=>?_) fun h1=>.some fun h=>by cases h
 simp only [beq_iff_eq] at h1;refine bU.iteb (fun h2=>?_) fun h2=>.some fun h=>by cases h
 refine bU.iteb (fun h3=>.some fun _=>⟨h1,ht ?_⟩) fun h3=>?_
 ·simp only [beq_iff_eq] at h3;omega
 refine bU.iteb (fun h4=>?_) fun h4=>.some fun h=>by cases h
 rw [Gy hn,Option.bind_some];refine .some fun _=>⟨h1,ht ?_⟩;simp only [beq_iff_eq] at h4;omega
theorem CY (h:PI p) (he:p.e_=0) (hk:p.fC+1<p.l_.length):IntKind.i64.wrap (p.fC+(1:Int))=p.fC+1/\GA p { p with fC:=p.fC+1 }:=by
 have h1:=h.lo;have h2:=h.big;refine ⟨fQ (by omega) (by omega),⟨⟨⟨by simp only;omega,by simpa using hk,h.big,h.toks⟩,rfl,by simp only;omega,fun hn=>absurd he hn⟩,fun _=>by simp only;omega⟩⟩
theorem iB (h:PI p) (hn:13<n) {s:cD}:bU (bJ n p s) fun r=>Gd p r.2/\(r.1=true->p.e_=0/\GA p r.2/\r.2.e_=0)/\(r.1=false->r.2=p):=by
 unfold bJ;refine (BU h hn).bind fun b hb=>?_;refine bU.iteb (fun h1=>.some ⟨.refl h,(fun h=>by cases h),fun _=>rfl⟩) fun h1=>?_;simp only [Bool.not_eq_false'] at h1;obtain ⟨h2,h3⟩:=hb h1;obtain ⟨h4,h5⟩:=CY h h2 h3;rw [h4];exact .some ⟨h5.toGd,fun _=>⟨h2,h5,h2⟩,fun h=>by cases h⟩
theorem gH (h:PI p) (hn:13<n) {s:cD}:bU (bG n p s) fun q=>GA p q:=by
 unfold bG;refine (iB h hn).bind fun r ⟨h1,h2,h3⟩=>?_;refine bU.iteb (fun h4=>?_) fun h4=>.some (h2 (by simpa using h4)).2.1;exact (yQ h1.inv (by decide)).bind fun q ⟨g,he⟩=>.some ⟨h1.trans g,fun h=>absurd h he⟩
theorem sW (h:PI p) (hn:13<n):bU (dN n p) fun r=>GA p r.2:=by
 unfold dN;refine (pM h).bind fun t ht=>?_;refine bU.bind (P:=fun b=>b=false->p.e_=0/\t.bN=1) ?_ fun b hb=>?_
 ·refine bU.iteb (fun h1=>.some fun h=>by cases h) fun h1=>?_;refine bU.iteb (fun h2=>.some fun h=>by cases h) fun h2=>?_;rw [Gy hn,Option.bind_some];exact .some fun _=>⟨by simpa using h1,by simpa using h2⟩
 ·refine bU.iteb (fun h1=>?_) fun h1=>?_
  ·exact (yQ h (by decide)).bind fun q ⟨g,he⟩=>.some ⟨g,fun h=>absurd h he⟩
  ·obtain ⟨h2,h3⟩:=hb h1;obtain ⟨h4,h5⟩:=CY h h2 (ht (by omega));rw [h4];exact .some h5
theorem BM (h:PI p):bU (iH p) fun r=>GA p r.2:=by
 unfold iH;refine (pM h).bind fun t ht=>?_;refine bU.bind (P:=fun b=>b=false->p.e_=0/\t.bN=2) ?_ fun b hb=>?_
 ·refine bU.iteb (fun h1=>.some fun h=>by cases h) fun h1=>.some fun h=>⟨by simpa using h1,by simpa using h⟩
 ·refine bU.iteb (fun h1=>?_) fun h1=>?_
  ·exact (yQ h (by decide)).bind fun q ⟨g,he⟩=>.some ⟨g,fun h=>absurd h he⟩
  ·obtain ⟨h2,h3⟩:=hb h1;obtain ⟨h4,h5⟩:=CY h h2 (ht (by omega));rw [h4];exact .some h5
theorem DZ (h:PI p) (hn:13<n):bU (jR n p) fun r=>GA p r.2:=by
 unfold jR;exact (gH h hn).bind fun q g1=>(BM g1.inv).bind fun r g2=>(gH g2.inv hn).bind fun s g3=>.some (g1.ga (g2.ga g3))
theorem IH (hn:13<n):∀(c:Nat) (v:Nat) (p:aB) (x y:aA),3<v+c->v<=3->PI p->bU (fR n c v p x y) fun r=>match r with | .inl s=>Gd p s.1/\s.2.2=y | .inr s=>Gd p s.2/\∃k,(k=1 ∨ k=2 ∨ k=3)/\s.1={ y with jC:=k }:=by
 intro c
 induction c with
 | zero=>intro v p x y h1 h2;omega
 | succ c ih=>
   intro v p x y h1 h2 h;unfold fR;refine bU.iteb (fun h4=>?_) fun h4=>.some ⟨.refl h,rfl⟩;simp only [decide_eq_true_eq] at h4;refine bU.bind' (bU.idx (by omega) (by have:mT.length=3:=rfl;omega) fun z hz=>?_);refine (iB h hn).bind fun r ⟨g1,g2,g3⟩=>?_;refine bU.iteb (fun _=>.some ⟨g1,_,?_,rfl⟩) fun _=>?_
   ·have h5:v=0 ∨ v=1 ∨ v=2:=by omega
    rcases h5 with rfl | rfl | rfl <;> decide
   rw [fQ (by omega) (by omega)];refine (ih (v+1) r.2 x y (by omega) (by omega) g1.inv).mono fun s hs=>?_;cases s with
   | inl s=>exact ⟨g1.trans hs.1,hs.2⟩
   | inr s=>exact ⟨g1.trans hs.1,hs.2⟩
theorem Hj (h:PI p) (hn:13<n):bU (kY n p) fun r=>GA p r.2/\(r.2.e_=0->WP r.1/\sz r.1<=r.2.fC - p.fC):=by
 unfold kY;refine (rO h).bind fun r ⟨g1,e1⟩=>(sW g1.inv hn).bind fun s g2=>(gH g2.inv hn).bind fun q g3=>?_;refine (IH hn n 0 q _ _ (by omega) (by omega) g3.inv).bind fun y hy=>?_;have g4:=g1.ga (g2.ga g3);refine bU.elim (fun z e=>?_) fun z e=>?_
 ·subst e;obtain ⟨hy,hz⟩:=hy;refine (rO hy.inv).bind fun r ⟨g5,e5⟩=>(DZ g5.inv hn).bind fun s g6=>.some ⟨(g4.gd hy).ga (g5.ga g6),fun e=>?_⟩;have m6:=g6.adv e;have e6:=(g5.ga g6).toGd.e0 e;have e7:=hy.e0 e6;have m3:=g3.adv e7;have m2:=g2.adv (g3.toGd.e0 e7);have m1:=g1.at';have m5:=g5.at';have m4:=hy.at';rw [hz,e1,e5];exact ⟨.arr,by rw [fA,mY,fA,jV];simp only;omega⟩
 ·subst e;obtain ⟨hy,k,hk,hz⟩:=hy;refine .some ⟨g4.gd hy,fun e=>?_⟩;have e7:=hy.e0 e;have m3:=g3.adv e7;have m1:=g1.at';have m2:=g2.at';have m4:=hy.at';rw [hz,e1];exact ⟨.word hk,by rw [fA,jV];omega⟩
theorem Cq (hn:13<n):∀(c:Nat) (l:List aA) (p:aB),PI p->(p.l_.length:Int) - p.fC<c->(l.length:Int)<=p.fC->bU (eD n c l p) fun r=>Gd p r.2/\(r.1.length:Int)<=r.2.fC+1/\(r.2.e_=0->(∀x ∈ l,WP x)->(∀x ∈ r.1,WP x)/\pB r.1<=pB l+(r.2.fC - p.fC)):=by
 intro c
 induction c with
 | zero=>intro l p h h1 h2;have:=h.hi;omega
 | succ c ih=>
   intro l p h h1 h2;have k1:=h.lo;have k2:=h.hi;have k3:=h.big;unfold eD;refine bU.iteb (fun h4=>?_) fun h4=>.some ⟨.refl h,by simp only;omega,fun _ hl=>⟨hl,by simp only;omega⟩⟩;refine (Hj h hn).bind fun x ⟨g1,gx⟩=>?_;refine bU.need (by simp only [List.length_singleton];omega) ?_;refine (iB g1.inv hn).bind fun r ⟨g2,g3,_⟩=>?_;have m1:=g1.at';have m2:=g2.at'
   have hx:r.2.e_=0->(∀x ∈ l,WP x)->(∀y ∈ l++[x.1],WP y)/\pB (l++[x.1])<=pB l+(r.2.fC - p.fC):=fun e hl=>by
    obtain ⟨w1,w2⟩:=gx (g2.e0 e);refine ⟨fun y hy=>?_,by rw [yZ,mY];omega⟩
    rcases List.mem_append.1 hy with hy | hy
    ·exact hl y hy
    ·obtain rfl:=List.mem_singleton.1 hy;exact w1
   refine bU.iteb (fun h5=>.some ⟨g1.toGd.trans g2,by simp only [List.length_append,List.length_singleton];omega,hx⟩) fun h5=>?_;have g4:=g3 (by simpa using h5);have g5:=g1.ga g4.2.1;have m3:=g1.adv g4.1;have m4:=g1.toGd.trans g2;refine (ih _ r.2 g2.inv (by rw [m4.len];omega) (by simp only [List.length_append,List.length_singleton];omega)).mono fun s ⟨s1,s2,s3⟩=>⟨g5.toGd.trans s1,s2,fun e hl=>?_⟩;obtain ⟨v1,v2⟩:=hx (s1.e0 e) hl;obtain ⟨v3,v4⟩:=s3 e v1;exact ⟨v3,by omega⟩
theorem BP (h:PI p) (hn:13<n) (hb:(p.l_.length:Int) - p.fC<n):bU (eS n p) fun r=>GA p r.2/\r.1.length<=65538/\(r.2.e_=0->(∀x ∈ r.1,WP x)/\pB r.1<=r.2.fC - p.fC):=by
 unfold eS;refine (gH h hn).bind fun q g1=>(iB g1.inv hn).bind fun r ⟨g2,g3,g4⟩=>?_;have m1:=g1.at';have m2:=g2.at';refine bU.iteb (fun h5=>.some ⟨g1.gd g2,by simp,fun _=>⟨(fun x hx=>nomatch hx),by rw [jV];simp only;omega⟩⟩) fun h5=>?_;have g5:=g1.gd g2;have k0:=g2.inv.lo;refine bU.bind (P:=fun y=>Gd r.2 y.2/\y.1.length<=65538/\(y.2.e_=0->(∀x ∈ y.1,WP x)/\pB y.1<=y.2.fC - r.2.fC)) ?_ fun y ⟨g6,m3,m4⟩=>?_
 ·refine (Cq hn n [] r.2 g2.inv (by rw [g5.len];omega) (by simpa using k0)).bind fun y ⟨y1,y2,y3⟩=>.some ⟨y1,?_,fun e=>?_⟩
  ·have k1:=y1.inv.hi;have k2:=y1.inv.big;show y.1.length<=_;omega
  ·obtain ⟨w1,w2⟩:=y3 e (fun x hx=>nomatch hx);exact ⟨w1,by rw [jV] at w2;simp only;omega⟩
 ·refine (gH g6.inv hn).bind fun s g7=>.some ⟨(g5.gd g6).ga g7,m3,fun e=>?_⟩;obtain ⟨w1,w2⟩:=m4 (g7.toGd.e0 e);have m5:=g7.at';exact ⟨w1,by simp only;omega⟩
theorem EL (h:PI p) {a:Int}:bU (jT p a) fun q=>Gd p q:=by
 unfold jT;refine bU.iteb (fun _=>?_) fun _=>.some (.refl h);exact (yQ h (by decide)).bind fun q ⟨g,_⟩=>.some g
theorem IC (h:PI p) (hn:13<n) (x:List cD) (hx:x.length=3):∀(c:Nat) (v:Nat),3<v+c->v<=3->bU (gC n x p c v) fun r=>match r with | .inl _=>True | .inr t=>p.e_=0/\t ∈ x/\t ≠ []:=by
 intro c
 induction c with
 | zero=>intro v h1 h2;omega
 | succ c ih=>
   intro v h1 h2;unfold gC;refine bU.iteb (fun h4=>?_) fun h4=>.some trivial;simp only [decide_eq_true_eq] at h4;refine bU.bind' (bU.idx (by omega) (by omega) fun z hz=>?_);refine bU.bind (P:=fun b=>b=true->p.e_=0/\z ≠ []) ?_ fun b hb=>?_
   ·refine bU.iteb (fun hz0=>?_) fun _=>.some fun h=>by cases h
    exact (BU h hn).bind fun b hb=>.some fun h=>⟨(hb h).1,by simpa using hz0⟩
   ·refine bU.iteb (fun h5=>.some ⟨(hb h5).1,List.mem_of_getElem? hz,(hb h5).2⟩) fun h5=>?_;rw [fQ (by omega) (by omega)];exact ih (v+1) (by omega) (by omega)
theorem CD (h:PI p) (hn:13<n) {a:Int} (h0:0<=a) (h1:a<7):bU (jS n p a) fun t=>t ≠ []->p.e_=0/\t ∈ AJ:=by
 unfold jS;refine bU.bind' (bU.idx h0 (by have:cT.length=7:=rfl;omega) fun x hx=>?_)
 have hl:x.length=3:=by
  have:(cT.all fun y=>y.length == 3)=true:=by decide
  simpa using List.all_eq_true.1 this x (List.mem_of_getElem? hx)
 refine (IC h hn x hl n 0 (by omega) (by omega)).bind fun y hy=>bU.elim (fun _ _=>.some fun h=>absurd rfl h) fun z e=>?_;subst e;refine .some fun _=>⟨hy.1,?_⟩;have hall:(cT.all fun x=>x.all fun s=>s == [] || AJ.contains s)=true:=by decide
 have:=List.all_eq_true.1 (List.all_eq_true.1 hall x (List.mem_of_getElem? hx)) z hy.2.1;simp only [Bool.or_eq_true,beq_iff_eq,List.contains_iff_mem] at this;exact this.resolve_left hy.2.2
end
end Go.Proofs.YtncembphlfbgoaaDoor.Abs
namespace Go.Proofs.YtncembphlfbgoaaDoor.Abs
open Go.RowKit
set_option linter.unusedVariables false
set_option linter.unusedSimpArgs false
def Lf (p:aB):Int:=16*((p.l_.length:Int) - p.fC)
theorem Gd.lf {p q:aB} (h:Gd p q):Lf q<=Lf p:=by have:=h.at';unfold Lf;rw [h.len];omega
theorem GA.lf {p q:aB} (h:GA p q) (he:q.e_=0):Lf q+16<=Lf p:=by have:=h.adv he;unfold Lf;rw [h.toGd.len];omega
theorem PI.lf {p:aB} (h:PI p):16<=Lf p:=by have:=h.hi;unfold Lf;omega
def Sx (p:aB) (r:aA × aB):Prop:=r.2.e_=0->WE r.1/\sz r.1<=r.2.fC - p.fC
def SL (p:aB) (r:List aA × aB):Prop:=r.2.e_=0->(∀x ∈ r.1,WE x)/\pB r.1<=r.2.fC - p.fC
def GE (n:Nat) (k:Int) (f:aB->Int->Option (aA × aB)):Prop:=∀p a,PI p->Lf p+k<=n->bU (f p a) fun r=>GA p r.2/\Sx p r
def OkL (n:Nat) (f:aB->Int->Int->Option (aA × aB)):Prop:=∀p a b,PI p->0<=a->a<=7->Lf p+29 - a<=n->bU (f p a b) fun r=>GA p r.2/\Sx p r
def OkA (n:Nat) (f:aB->Int->Option ((List aA) × aB)):Prop:=∀p a,PI p->Lf p+25<=n->bU (f p a) fun r=>GA p r.2/\SL p r
section
variable {n:Nat} {p:aB}
theorem IV (hn:13<n) {f:aB->Int->Int->Option (aA × aB)} {a1 a2:Int} (h0:0<=a1) (h6:a1<7) {k:Int} (hf:∀p,PI p->Lf p<=k->bU (f p (a1+1) a2) fun r=>GA p r.2/\Sx p r) :
  ∀(c:Nat) (t:cD) (p:aB) (x:aA),PI p->Lf p<=k->1<=c->(t ≠ []->Lf p+1<=c/\t ∈ AJ)->bU (fT f n a1 a2 c t p x) fun r=>Gd p r.1/\(r.1.e_=0->WE x->WE r.2/\sz r.2<=sz x+(r.1.fC - p.fC)):=by
 intro c
 induction c with
 | zero=>intro t p x h hl h1;omega
 | succ c ih=>
   intro t p x h hl h1 h2;unfold fT;refine bU.iteb (fun h4=>?_) fun h4=>.some ⟨.refl h,fun _ hw=>⟨hw,by simp only;omega⟩⟩;simp only [ne_eq,decide_eq_true_eq] at h4;obtain ⟨h5,hsg⟩:=h2 h4;have h6':=h.lf;refine (rO h).bind fun r ⟨g1,e1⟩=>(gH g1.inv hn).bind fun q g2=>?_;have l1:=g1.lf;have l2:=g2.toGd.lf;rw [fQ (n:=a1+1) (by omega) (by omega)];refine (hf q g2.inv (by omega)).bind fun s ⟨g3,sx⟩=>?_;have g4:=g1.ga (g2.ga g3)
   have hx:s.2.e_=0->WE x->WE { r.1 with bP:=t,aN:=[x,s.1] }/\sz { r.1 with bP:=t,aN:=[x,s.1] }<=sz x+(s.2.fC - p.fC):=fun e hw=>by
    obtain ⟨w1,w2⟩:=sx e;have m2:=g2.adv (g3.toGd.e0 e);have m1:=g1.at';rw [e1];exact ⟨.bin hsg hw w1,by rw [fA,Bb];omega⟩
   refine bU.iteb (fun _=>.some ⟨g4.toGd,hx⟩) fun _=>?_;refine (CD g3.inv hn h0 h6).bind fun t' ht=>?_;have l3:=g3.toGd.lf;refine (ih t' s.2 _ g3.inv (by omega) (by omega) fun hne=>?_).mono fun r ⟨g5,g6⟩=>⟨g4.toGd.trans g5,fun e hw=>?_⟩
   ·have l4:=g4.lf (ht hne).1;exact ⟨by omega,(ht hne).2⟩
   ·obtain ⟨v1,v2⟩:=hx (g5.e0 e) hw;obtain ⟨v3,v4⟩:=g6 e v1;exact ⟨v3,by omega⟩
theorem level_b (hn:13<n) {fo:aB->Int->Option (aA × aB)} {fl:aB->Int->Int->Option (aA × aB)} (ho:GE n 21 fo) (hl:OkL n fl):OkL (n+1) (jG fo fl n):=by
 intro p a b h h0 h7 hb;unfold jG;refine bU.iteb (fun h1=>?_) fun h1=>?_
 ·simp only [beq_iff_eq] at h1;exact (ho p b h (by omega)).bind fun r g=>.some g
 ·simp only [beq_eq_false_iff_ne,ne_eq] at h1;rw [fQ (n:=a+1) (by omega) (by omega)];refine (hl p (a+1) b h (by omega) (by omega) (by omega)).bind fun r ⟨g,sx⟩=>?_;have l1:=g.toGd.lf;have l2:=g.inv.lf;refine (CD g.inv hn h0 (by omega)).bind fun t ht=>?_;refine (IV hn h0 (by omega) (k:=Lf r.2) (fun q hq hk=>hl q (a+1) b hq (by omega) (by omega) (by omega)) n t r.2 r.1 g.inv (Int.le_refl _) (by omega) (fun hne=>⟨by omega,(ht hne).2⟩)).bind fun s ⟨g2,sx2⟩=>.some ⟨g.gd g2,fun e=>?_⟩;obtain ⟨v1,v2⟩:=sx (g2.e0 e);obtain ⟨v3,v4⟩:=sx2 e v1;exact ⟨v3,by simp only;omega⟩
theorem expr_b {fl:aB->Int->Int->Option (aA × aB)} (hl:OkL n fl):GE (n+1) 30 (kD fl n):=by
 intro p a h hb;unfold kD;exact (hl p 0 a h (by omega) (by omega) (by omega)).bind fun r g=>.some g
theorem Ek {fe:aB->Int->Option (aA × aB)} (he:GE n 30 fe):GE (n+1) 31 (gX fe n):=by
 intro p a h hb;unfold gX;exact (he p _ h (by omega)).bind fun r g=>.some g
theorem SL.more {p q r:aB} {x:aA} {l:List aA} (g1:Gd p q) (sx:Sx p (x,q)) (g2:Gd q r):r.e_=0->(∀x ∈ l,WE x)->(∀y ∈ l++[x],WE y)/\pB (l++[x])<=pB l+(r.fC - p.fC):=fun e hl=>by
 obtain ⟨w1,w2⟩:=sx (g2.e0 e);have m2:=g2.at';simp only at w2;refine ⟨fun y hy=>?_,by rw [yZ,mY];omega⟩
 rcases List.mem_append.1 hy with hy | hy
 ·exact hl y hy
 ·obtain rfl:=List.mem_singleton.1 hy;exact w1
theorem Bm (hn:13<n) {fo:aB->Int->Option (aA × aB)} {k:Int} {a:Int} (hf:∀p,PI p->Lf p<=k->bU (fo p a) fun r=>GA p r.2/\Sx p r):∀(c:Nat) (l:List aA) (p:aB),PI p->(p.e_=0->Lf p<=k)->(p.l_.length:Int) - p.fC<c->(l.length:Int)<=p.fC->bU (dI fo n a c l p) fun r=>Gd p r.2/\(r.1.length:Int)<=r.2.fC+1/\(r.2.e_=0->(∀x ∈ l,WE x)->(∀x ∈ r.1,WE x)/\pB r.1<=pB l+(r.2.fC - p.fC)):=by
 intro c
 induction c with
 | zero=>intro l p h _ h1 h2;have:=h.hi;omega
 | succ c ih=>
   intro l p h hk h1 h2;have k1:=h.lo;have k2:=h.hi;have k3:=h.big;unfold dI;refine bU.iteb (fun h4=>?_) fun h4=>.some ⟨.refl h,by simp only;omega,fun _ hl=>⟨hl,by simp only;omega⟩⟩;simp only [beq_iff_eq] at h4;refine (hf p h (hk h4)).bind fun x ⟨g1,sx⟩=>?_;refine bU.need (by simp only [List.length_singleton];omega) ?_;refine (iB g1.inv hn).bind fun r ⟨g2,g3,_⟩=>?_;have m1:=g1.at';have m2:=g2.at';have hx:=SL.more (l:=l) g1.toGd sx g2;refine bU.iteb (fun h5=>.some ⟨g1.toGd.trans g2,by simp only [List.length_append,List.length_singleton];omega,hx⟩) fun h5=>?_;have g4:=g3 (by simpa using h5);have g5:=g1.ga g4.2.1;have m3:=g1.adv g4.1;have m4:=g1.toGd.trans g2;have m5:=g5.toGd.lf;have m6:=hk h4;refine (ih _ r.2 g2.inv (fun _=>by omega) (by rw [m4.len];omega) (by simp only [List.length_append,List.length_singleton];omega)).mono fun s ⟨s1,s2,s3⟩=>⟨g5.toGd.trans s1,s2,fun e hl=>?_⟩;obtain ⟨v1,v2⟩:=hx (s1.e0 e) hl;obtain ⟨v3,v4⟩:=s3 e v1;exact ⟨v3,by omega⟩
theorem BQ (hn:13<n) {fo:aB->Int->Option (aA × aB)} (ho:GE n 31 fo):OkA (n+1) (fH fo n):=by
 intro p a h hb;unfold fH;refine (gH h hn).bind fun q g1=>(iB g1.inv hn).bind fun r ⟨g2,g3,g4⟩=>?_;have m1:=g1.at';have m2:=g2.at';refine bU.iteb (fun h5=>.some ⟨g1.gd g2,fun _=>⟨(fun x hx=>nomatch hx),by rw [jV];simp only;omega⟩⟩) fun h5=>?_;have g5:=g1.gd g2;have k0:=g2.inv.lo;have k1:=g5.toGd.lf;have k2:=h.lf;refine bU.bind (P:=fun y=>Gd r.2 y.2/\SL r.2 y) ?_ fun y ⟨g6,s6⟩=>?_
 ·refine (Bm hn (k:=(n:Int) - 31) (fun q hq hk=>ho q a hq (by omega)) n [] r.2 g2.inv (fun he=>?_) ?_ (by simpa using k0)).bind fun y ⟨y1,y2,y3⟩=>.some ⟨y1,fun e=>?_⟩
  ·have:=g5.lf he;omega
  ·unfold Lf at hb k1;rw [g5.toGd.len] at k1 ⊢;have:=h.hi;omega
  ·obtain ⟨w1,w2⟩:=y3 e (fun x hx=>nomatch hx);exact ⟨w1,by rw [jV] at w2;simp only;omega⟩
 ·refine (gH g6.inv hn).bind fun s g7=>.some ⟨(g5.gd g6).ga g7,fun e=>?_⟩;obtain ⟨w1,w2⟩:=s6 (g7.toGd.e0 e);have m5:=g7.at';exact ⟨w1,by simp only;omega⟩
theorem Fo (hn:13<n) {fo:aB->Int->Option (aA × aB)} {k:Int} (hf:∀p a,PI p->Lf p<=k->bU (fo p a) fun r=>GA p r.2/\Sx p r) {a1:Int}:∀(c:Nat) (v:Nat) (p:aB) (x y:aA),2<v+c->v<=2->PI p->Lf p<=k+16->bU (fD fo n a1 c v p x y) fun r=>match r with | .inl s=>Gd p s.1/\s.2.1=x | .inr s=>GA p s.2/\(x.jC=0->Sx p s):=by
 intro c
 induction c with
 | zero=>intro v p x y h1 h2;omega
 | succ c ih=>
   intro v p x y h1 h2 h hk;unfold fD;refine bU.iteb (fun h4=>?_) fun h4=>.some ⟨.refl h,rfl⟩;simp only [decide_eq_true_eq] at h4;refine bU.bind' (bU.idx (by omega) (by have:jY.length=2:=rfl;omega) fun z hz=>?_);refine (iB h hn).bind fun r ⟨g1,g2,g3⟩=>?_;refine bU.iteb (fun h5=>?_) fun h5=>?_
   ·obtain ⟨_,g4,g5⟩:=g2 h5;have l1:=g4.lf g5;refine (hf r.2 _ g1.inv (by omega)).bind fun s ⟨g6,sx⟩=>.some ⟨g4.ga g6,fun hx e=>?_⟩;obtain ⟨w1,w2⟩:=sx e;have m1:=g4.adv (g6.toGd.e0 e);refine ⟨?_,by simp only [fA,mY];omega⟩;simp only [hx];refine .un ?_ w1;have hm:=List.mem_of_getElem? hz;simpa [jY] using hm
   ·rw [fQ (by omega) (by omega)];have l1:=g1.lf;refine (ih (v+1) r.2 x y (by omega) (by omega) g1.inv (by omega)).mono fun s hs=>?_;cases s with
    | inl s=>exact ⟨g1.trans hs.1,hs.2⟩
    | inr s=>
      refine ⟨g1.ga hs.1,fun hx e=>?_⟩;obtain ⟨w1,w2⟩:=hs.2 hx e;have:=g1.at';exact ⟨w1,by omega⟩
theorem Hk (hn:13<n) {fe fo:aB->Int->Option (aA × aB)} {fa:aB->Int->Option ((List aA) × aB)} (he:GE n 30 fe) (ho:GE n 21 fo) (ha:OkA n fa):GE (n+1) 21 (iK fe fo fa n):=by
 intro p a h hb;unfold iK;refine (EL h).bind fun q g1=>(iB g1.inv hn).bind fun r ⟨g2,g3,_⟩=>?_;have m1:=g1.lf;have m2:=g2.lf;have m3:=h.lf;have n1:=g1.at';have n2:=g2.at';refine bU.iteb (fun h5=>?_) fun h5=>?_
 ·obtain ⟨_,g4,g5⟩:=g3 h5;have l1:=g4.lf g5;refine (he r.2 _ g2.inv (by omega)).bind fun s ⟨g6,sx⟩=>(gH g6.inv hn).bind fun t g7=>.some ⟨g1.ga (g4.ga (g6.ga g7)),fun e=>?_⟩;obtain ⟨w1,w2⟩:=sx (g7.toGd.e0 e);have n3:=g7.at';exact ⟨w1,by simp only;omega⟩
 ·refine (rO g2.inv).bind fun s ⟨g4,e4⟩=>?_;have m4:=g4.lf;have n4:=g4.at';refine (Fo hn (k:=(n:Int) - 21) (fun q b hq hk=>ho q b hq (by omega)) n 0 s.2 _ _ (by omega) (by omega) g4.inv (by omega)).bind fun y hy=>?_;have g5:=g1.trans (g2.trans g4);refine bU.elim (fun z e=>?_) fun z e=>?_
  ·subst e;have hy':Gd s.2 z.1:=hy.1;have hz:z.2.1=s.1:=hy.2;have g6:=g5.trans hy';have n5:=hy'.at';rw [hz,e4];refine bU.bind (P:=fun _=>True) ?_ fun b _=>?_
   ·refine bU.iteb (fun _=>?_) fun _=>.some trivial;exact (pM hy'.inv).bind fun t _=>.some trivial
   ·refine bU.iteb (fun _=>?_) fun _=>?_
    ·refine (BM hy'.inv).bind fun t g7=>.some ⟨g6.ga g7,fun e=>?_⟩;have:=g7.adv e;exact ⟨.num,by simp only [fA,jV];omega⟩
    ·refine (sW hy'.inv hn).bind fun t g7=>?_;have g8:=g6.ga g7;have l8:=g8.toGd.lf;refine bU.bind (P:=fun y=>GA p y.1/\Sx p (y.2,y.1)) ?_ fun y hy=>.some hy;refine (BU g7.inv hn).bind fun b hb=>bU.iteb (fun h9=>?_) fun h9=>?_
     ·have l9:=g8.lf (hb h9).1;refine (ha t.2 a g7.inv (by omega)).bind fun u ⟨g9,sx⟩=>.some ⟨g8.ga g9,fun e=>?_⟩;obtain ⟨w1,w2⟩:=sx e;have:=g7.adv (g9.toGd.e0 e);exact ⟨.call w1,by simp only [fA];omega⟩
     ·refine (iB g7.inv hn).bind fun u ⟨g9,g10,_⟩=>bU.iteb (fun h10=>?_) fun h10=>.some ⟨g8.gd g9,fun e=>?_⟩
      ·obtain ⟨_,g11,g12⟩:=g10 h10;have l9:=g11.lf g12;refine (he u.2 _ g9.inv (by omega)).bind fun v ⟨g13,sx⟩=>(gH g13.inv hn).bind fun w g14=>.some ⟨g8.ga (g11.ga (g13.ga g14)),fun e=>?_⟩;have ev:=g14.toGd.e0 e;obtain ⟨w1,w2⟩:=sx ev;have n6:=g14.at';have n7:=g7.adv (g9.e0 (g13.toGd.e0 ev));have n8:=g9.at';exact ⟨.index w1,by simp only [fA,mY];omega⟩
      ·have n7:=g7.adv (g9.e0 e);have n8:=g9.at';exact ⟨.ref,by simp only [fA,jV];omega⟩
  ·subst e;refine .some ⟨g5.ga hy.1,fun e=>?_⟩;obtain ⟨w1,w2⟩:=hy.2 (by rw [e4]) e;exact ⟨w1,by omega⟩
theorem grp_ok:∀n:Nat,OkA n (aV n).1/\GE n 30 (aV n).2.1/\OkL n (aV n).2.2.1/\GE n 21 (aV n).2.2.2.1/\GE n 31 (aV n).2.2.2.2:=by
 have small:∀n:Nat,n<=14->OkA n (aV n).1/\GE n 30 (aV n).2.1/\OkL n (aV n).2.2.1/\GE n 21 (aV n).2.2.2.1/\GE n 31 (aV n).2.2.2.2:=by
  intro n hn;refine ⟨fun p a h hb=>?_,fun p a h hb=>?_,fun p a b h h0 h7 hb=>?_,fun p a h hb=>?_,fun p a h hb=>?_⟩ <;> (have:=h.lf;omega)
 intro n
 induction n with
 | zero=>exact small 0 (by omega)
 | succ n ih=>
   by_cases hn:13<n
   ·obtain ⟨i1,i2,i3,i4,i5⟩:=ih;exact ⟨BQ hn i5,expr_b i3,level_b hn i4 i3,Hk hn i2 i4 i1,Ek i2⟩
   ·exact small (n+1) (by omega)
theorem qG (h:PI p) {a:Int} (hb:Lf p+30<=n):bU (dY n p a) fun r=>GA p r.2/\Sx p r:=(grp_ok n).2.1 p a h hb
theorem CG (h:PI p) {x:aA} {a:Int} (hb:Lf p+30<=n):bU (iR n p x a) fun r=>GA p r.2/\(r.2.e_=0->∃s y,r.1={ x with bP:=s,aN:=[y] }/\WE y/\sz y+1<=r.2.fC - p.fC):=by
 have hn:13<n:=by have:=h.lf;omega
 unfold iR;refine (sW h hn).bind fun r g1=>(gH g1.inv hn).bind fun q g2=>?_;have l1:=g1.toGd.lf;have l2:=g2.toGd.lf;refine (qG g2.inv (by omega)).bind fun s ⟨g3,sx⟩=>(gH g3.inv hn).bind fun t g4=>.some ⟨g1.ga (g2.ga (g3.ga g4)),fun e=>?_⟩;obtain ⟨w1,w2⟩:=sx (g4.toGd.e0 e);have n1:=g1.at';have n2:=g2.at';have n4:=g4.adv e;exact ⟨_,_,rfl,w1,by simp only;omega⟩
theorem Ei (h:PI p) {a:Int} (hb:Lf p+30<=n):bU (jE n p a) fun r=>GA p r.2/\Sx p r:=by
 unfold jE;exact (qG h hb).bind fun r g=>.some g
theorem Cp (hn:13<n) {a:Int}:∀(c:Nat) (l:List aA) (p:aB),PI p->Lf p+30<=n->(p.l_.length:Int) - p.fC<c->(l.length:Int)<=p.fC->bU (dV n a c l p) fun r=>Gd p r.2/\(r.1.length:Int)<=r.2.fC+1/\(r.2.e_=0->(∀x ∈ l,WE x)->(∀x ∈ r.1,WE x)/\pB r.1<=pB l+(r.2.fC - p.fC)):=by
 intro c
 induction c with
 | zero=>intro l p h _ h1 h2;have:=h.hi;omega
 | succ c ih=>
   intro l p h hk h1 h2;have k1:=h.lo;have k2:=h.hi;have k3:=h.big;unfold dV;refine bU.iteb (fun h4=>?_) fun h4=>.some ⟨.refl h,by simp only;omega,fun _ hl=>⟨hl,by simp only;omega⟩⟩;refine (Ei h hk).bind fun x ⟨g1,sx⟩=>?_;refine bU.need (by simp only [List.length_singleton];omega) ?_;refine (iB g1.inv hn).bind fun r ⟨g2,g3,_⟩=>?_;have m1:=g1.at';have m2:=g2.at';have hx:=SL.more (l:=l) g1.toGd sx g2;refine bU.iteb (fun h5=>.some ⟨g1.toGd.trans g2,by simp only [List.length_append,List.length_singleton];omega,hx⟩) fun h5=>?_;have g4:=g3 (by simpa using h5);have g5:=g1.ga g4.2.1;have m3:=g1.adv g4.1;have m4:=g1.toGd.trans g2;have m5:=g5.toGd.lf;refine (ih _ r.2 g2.inv (by omega) (by rw [m4.len];omega) (by simp only [List.length_append,List.length_singleton];omega)).mono fun s ⟨s1,s2,s3⟩=>⟨g5.toGd.trans s1,s2,fun e hl=>?_⟩;obtain ⟨v1,v2⟩:=hx (s1.e0 e) hl;obtain ⟨v3,v4⟩:=s3 e v1;exact ⟨v3,by omega⟩
theorem BO (h:PI p) {a:Int} (hb:Lf p+30<=n):bU (gG n p a) fun r=>GA p r.2/\SL p r:=by
 have hn:13<n:=by have:=h.lf;omega
 unfold gG;refine (gH h hn).bind fun q g1=>(iB g1.inv hn).bind fun r ⟨g2,g3,g4⟩=>?_;have m1:=g1.at';have m2:=g2.at';refine bU.iteb (fun h5=>.some ⟨g1.gd g2,fun _=>⟨(fun x hx=>nomatch hx),by rw [jV];simp only;omega⟩⟩) fun h5=>?_;have g5:=g1.gd g2;have k0:=g2.inv.lo;have k1:=g5.toGd.lf;refine bU.bind (P:=fun y=>Gd r.2 y.2/\SL r.2 y) ?_ fun y ⟨g6,s6⟩=>?_
 ·refine (Cp hn n [] r.2 g2.inv (by omega) ?_ (by simpa using k0)).bind fun y ⟨y1,y2,y3⟩=>.some ⟨y1,fun e=>?_⟩
  ·unfold Lf at hb k1;rw [g5.toGd.len] at k1 ⊢;have:=h.hi;omega
  ·obtain ⟨w1,w2⟩:=y3 e (fun x hx=>nomatch hx);exact ⟨w1,by rw [jV] at w2;simp only;omega⟩
 ·refine (gH g6.inv hn).bind fun s g7=>.some ⟨(g5.gd g6).ga g7,fun e=>?_⟩;obtain ⟨w1,w2⟩:=s6 (g7.toGd.e0 e);have m5:=g7.at';exact ⟨w1,by simp only;omega⟩
def St0 (x:aA):Prop:=x=⟨8,x.eH,[],0,[]⟩
def Ss (p:aB) (r:aA × aB):Prop:=r.2.e_=0->WS r.1/\sz r.1<=r.2.fC - p.fC
theorem Hi (h:PI p) {x:aA} {a:Int} (hb:Lf p+30<=n) (hx:St0 x):bU (kX n p x a) fun r=>GA p r.2/\Ss p r:=by
 have hn:13<n:=by have:=h.lf;omega
 unfold kX;rw [hx];refine (sW h hn).bind fun r g1=>?_;have l1:=g1.toGd.lf;have n1:=g1.at';refine bU.bind (P:=fun y=>GA p y.1/\(y.1.e_=0->WS y.2/\sz y.2<=1+(y.1.fC - p.fC))) ?_ fun y hy=>?_
 case refine_2=>
  obtain ⟨hy',hs⟩:GA p y.1/\(y.1.e_=0->WS y.2/\sz y.2<=1+(y.1.fC - p.fC)):=hy;refine (gH hy'.inv hn).bind fun s g=>.some ⟨hy'.ga g,fun e=>?_⟩;obtain ⟨w1,w2⟩:=hs (g.toGd.e0 e);have:=g.adv e;exact ⟨w1,by simp only;omega⟩
 refine (BU g1.inv hn).bind fun b _=>bU.iteb (fun _=>?_) fun _=>?_
 ·refine (BO g1.inv (by omega)).bind fun s ⟨g2,sx⟩=>.some ⟨g1.ga g2,fun e=>?_⟩;obtain ⟨w1,w2⟩:=sx e;exact ⟨.call w1,by simp only [fA];omega⟩
 ·refine (iB g1.inv hn).bind fun s ⟨g2,_,_⟩=>?_;have l2:=g2.lf;have n2:=g2.at';refine bU.iteb (fun _=>?_) fun _=>?_
  ·refine (qG g2.inv (by omega)).bind fun t ⟨g3,s3⟩=>(gH g3.inv hn).bind fun u g4=>(gH g4.inv hn).bind fun v g5=>?_;have l3:=g3.toGd.lf;have l4:=g4.toGd.lf;have l5:=g5.toGd.lf;refine (qG g5.inv (by omega)).bind fun w ⟨g6,s6⟩=>bU.need (by simp) (.some ⟨g1.gd (g2.trans (g3.toGd.trans (g4.toGd.trans (g5.toGd.trans g6.toGd)))),fun e=>?_⟩);obtain ⟨w1,w2⟩:=s6 e;have e5:=g6.toGd.e0 e;obtain ⟨w3,w4⟩:=s3 (g4.toGd.e0 (g5.toGd.e0 e5));have n4:=g4.at';have n5:=g5.at';exact ⟨.put w3 w1,by simp only [fA,List.singleton_append,Bb];omega⟩
  ·refine (gH g2.inv hn).bind fun v g5=>?_;have l5:=g5.toGd.lf;have n5:=g5.at';refine (qG g5.inv (by omega)).bind fun w ⟨g6,s6⟩=>.some ⟨g1.gd (g2.trans (g5.toGd.trans g6.toGd)),fun e=>?_⟩;obtain ⟨w1,w2⟩:=s6 e;exact ⟨.set w1,by simp only [fA,mY];omega⟩
end
def Bk (p:aB) (r:aA × aB):Prop:=r.2.e_=0->(r.1=⟨4,r.1.eH,[],0,r.1.aN⟩/\∀y ∈ r.1.aN,WS y)/\sz r.1<=r.2.fC - p.fC
def OkS (n:Nat) (f:aB->Int->Option (aA × aB)):Prop:=∀p a,PI p->Lf p+45<=n->bU (f p a) fun r=>GA p r.2/\Ss p r
def OkK (n:Nat) (f:aB->Int->Option (aA × aB)):Prop:=∀p a,PI p->Lf p+46<=n->bU (f p a) fun r=>GA p r.2/\Bk p r
def OkN (n:Nat) (k:Int) (f:aB->aA->Int->Option (aA × aB)):Prop:=∀p x a,PI p->Lf p+k<=n->St0 x->bU (f p x a) fun r=>GA p r.2/\(r.2.e_=0->WS r.1/\sz r.1<=1+(r.2.fC - p.fC))
section
variable {n:Nat} {p:aB}
theorem JC (hn:13<n) {fs:aB->Int->Option (aA × aB)} {k:Int} {a:Int} (hf:∀p,PI p->Lf p<=k->bU (fs p a) fun r=>GA p r.2/\Ss p r):∀(c:Nat) (p:aB) (x:aA),PI p->(p.e_=0->Lf p<=k)->(p.l_.length:Int) - p.fC<c->1<=c->(p.e_=0->(x.aN.length:Int)<=p.fC)->(x.aN.length:Int)<=65538->bU (eW fs n a c p x) fun r=>Gd p r.1/\(r.1.e_=0->(∀y ∈ x.aN,WS y)->(∀y ∈ r.2.aN,WS y)/\pB r.2.aN<=pB x.aN+(r.1.fC - p.fC)/\r.2={ x with aN:=r.2.aN }):=by
 intro c
 induction c with
 | zero=>intro p x h _ h1 h2;omega
 | succ c ih=>
   intro p x h hk h1 h2 h3 h4;have k1:=h.lo;have k2:=h.hi;have k3:=h.big;unfold eW;refine bU.bind (P:=fun b=>b=true->p.e_=0) ?_ fun b hb=>?_
   ·refine bU.iteb (fun he=>?_) fun _=>.some fun h=>by cases h
    exact (BU h hn).bind fun b hb=>.some fun _=>by simpa using he
   ·refine bU.iteb (fun h5=>?_) fun h5=>.some ⟨.refl h,fun _ hl=>⟨hl,by simp only;omega,by cases x;rfl⟩⟩;have he:=hb h5;refine (hf p h (hk he)).bind fun r ⟨g,ss⟩=>?_;have m1:=g.at';have m2:=hk he;have m3:=h3 he;have m4:=g.toGd.lf;have m5:=g.inv.hi;have m6:=g.toGd.len;refine bU.need (by simp only [List.length_singleton];omega) ?_
    by_cases he2:r.2.e_=0
    ·have m7:=g.adv he2;obtain ⟨w1,w2⟩:=ss he2;refine (ih r.2 _ g.inv (fun _=>by omega) (by rw [m6];omega) (by omega) (fun _=>by simp only [List.length_append,List.length_singleton];omega) (by simp only [List.length_append,List.length_singleton];omega)).mono fun s ⟨g2,s2⟩=>⟨g.toGd.trans g2,fun e hl=>?_⟩
     obtain ⟨v1,v2,v3⟩:=s2 e (fun y hy=>by
      rcases List.mem_append.1 hy with hy | hy
      ·exact hl y hy
      ·obtain rfl:=List.mem_singleton.1 hy;exact w1)
     refine ⟨v1,?_,v3⟩;simp only [yZ,mY] at v2;omega
    ·cases c with
     | zero=>omega
     | succ c=>
       unfold eW;rw [if_neg (by simpa using he2),Option.bind_some,if_neg (by decide)];exact .some ⟨g.toGd,fun e=>absurd e he2⟩
theorem block_b {fs:aB->Int->Option (aA × aB)} (hs:OkS n fs):OkK (n+1) (jI fs n):=by
 intro p a h hb;have hn:13<n:=by have:=h.lf;omega
 unfold jI;refine (EL h).bind fun q g1=>(rO g1.inv).bind fun r ⟨g2,e2⟩=>(gH g2.inv hn).bind fun t g3=>?_;have e:r.1.aN=[]:=by rw [e2]
 have g4:=g1.trans g2;have g5:=g4.ga g3;have l5:=g5.toGd.lf;have k0:=g3.inv.lo;refine (JC hn (k:=(n:Int) - 45) (fun q hq hk=>hs q a hq (by omega)) n t r.1 g3.inv (fun he=>?_) ?_ (by omega) (fun _=>by rw [e];simpa using k0) (by rw [e];simp)).bind fun y ⟨g6,s6⟩=>(gH g6.inv hn).bind fun s g7=>.some ⟨(g5.gd g6).ga g7,fun e3=>?_⟩
 ·have:=g5.lf he;omega
 ·unfold Lf at hb l5;rw [g5.toGd.len] at l5 ⊢;have:=h.hi;omega
 ·have ey:=g7.toGd.e0 e3;obtain ⟨v1,v2,v3⟩:=s6 ey (fun y hy=>by rw [e] at hy;cases hy);have n3:=g3.adv (g6.e0 ey);have n4:=g4.at';have n7:=g7.at';rw [e2] at v3;rw [e,jV] at v2;refine ⟨⟨by simp only;rw [v3],v1⟩,?_⟩;simp only [yB];omega
theorem Jr {fb:aB->Int->Option (aA × aB)} (hf:OkK n fb):OkN (n+1) 47 (iT fb n):=by
 intro p x a h hb hx;have hn:13<n:=by have:=h.lf;omega
 unfold iT;rw [hx];refine (qG h (by omega)).bind fun r ⟨g1,s1⟩=>?_;have l1:=g1.toGd.lf;refine (hf r.2 _ g1.inv (by omega)).bind fun s ⟨g2,s2⟩=>bU.need (by simp) ((iB g2.inv hn).bind fun t ⟨g3,_,_⟩=>?_);have l2:=g2.toGd.lf;have l3:=g3.lf;have n3:=g3.at';refine bU.iteb (fun _=>?_) fun _=>.some ⟨(g1.ga g2).gd g3,fun e=>?_⟩
 ·refine (hf t.2 _ g3.inv (by omega)).bind fun u ⟨g4,s4⟩=>bU.need (by simp) (.some ⟨((g1.ga g2).gd g3).ga g4,fun e=>?_⟩);have e3:=g4.toGd.e0 e;have e2:=g3.e0 e3;obtain ⟨⟨a1,a2⟩,a3⟩:=s4 e;obtain ⟨⟨b1,b2⟩,b3⟩:=s2 e2;obtain ⟨c1,c2⟩:=s1 (g2.toGd.e0 e2);simp only [List.singleton_append,List.cons_append,List.nil_append];rw [fA,Cx];refine ⟨?_,by omega⟩;rw [a1,b1];exact .choice2 c1 b2 a2
 ·have e2:=g3.e0 e;obtain ⟨⟨b1,b2⟩,b3⟩:=s2 e2;obtain ⟨c1,c2⟩:=s1 (g2.toGd.e0 e2);simp only [List.singleton_append];rw [fA,Bb];refine ⟨?_,by omega⟩;rw [b1];exact .choice c1 b2
theorem loop_b {fb:aB->Int->Option (aA × aB)} (hf:OkK n fb):OkN (n+1) 47 (kC fb n):=by
 intro p x a h hb hx;have hn:13<n:=by have:=h.lf;omega
 unfold kC;rw [hx];refine (sW h hn).bind fun r g1=>(gH g1.inv hn).bind fun s g2=>?_;have l1:=g1.toGd.lf;have l2:=g2.toGd.lf;have n1:=g1.at';have n2:=g2.at';refine (qG g2.inv (by omega)).bind fun t ⟨g3,s3⟩=>(gH g3.inv hn).bind fun u g4=>?_;have l3:=g3.toGd.lf;have l4:=g4.toGd.lf;have n4:=g4.at';refine (qG g4.inv (by omega)).bind fun v ⟨g5,s5⟩=>bU.need (by simp) ?_;have l5:=g5.toGd.lf;refine (hf v.2 _ g5.inv (by omega)).bind fun w ⟨g6,s6⟩=>bU.need (by simp) (.some ⟨g1.ga (g2.ga (g3.ga (g4.ga (g5.ga g6)))),fun e=>?_⟩);have e5:=g6.toGd.e0 e;have e4:=g5.toGd.e0 e5;obtain ⟨⟨b1,b2⟩,b3⟩:=s6 e;obtain ⟨c1,c2⟩:=s5 e5;obtain ⟨d1,d2⟩:=s3 (g4.toGd.e0 e4);simp only [List.singleton_append,List.cons_append,List.nil_append];rw [fA,Cx];refine ⟨?_,by omega⟩;rw [b1];exact .loop d1 c1 b2
theorem DS {fc fl:aB->aA->Int->Option (aA × aB)} (hc:OkN n 47 fc) (hl:OkN n 47 fl):OkS (n+1) (gW fc fl n):=by
 intro p a h hb;have hn:13<n:=by have:=h.lf;omega
 unfold gW;refine (rO h).bind fun r ⟨g1,e1⟩=>?_;have hx:St0 r.1:=e1;have l1:=g1.lf;have n1:=g1.at';refine bU.bind (P:=fun y=>match y with | .inl y=>GA p y.1/\(y.1.e_=0->WS y.2/\sz y.2<=1+(y.1.fC - p.fC)) | .inr y=>GA p y.2/\Ss p y) ?_ fun y hy=>?_
 ·refine (iB g1.inv hn).bind fun t1 ⟨a1,b1,_⟩=>bU.iteb (fun h1=>?_) fun h1=>?_
  ·have m1:=a1.lf;have o1:=a1.at';refine (CG a1.inv (by omega)).bind fun u ⟨g2,s2⟩=>.some ⟨g1.ga (a1.ga g2),fun e=>?_⟩;obtain ⟨s,y,q1,q2,q3⟩:=s2 e;simp only;rw [q1,e1];exact ⟨.bind (.inl rfl) q2,by simp only [fA,mY];omega⟩
  have m1:=a1.lf;have o1:=a1.at';refine (iB a1.inv hn).bind fun t2 ⟨a2,b2,_⟩=>bU.iteb (fun h2=>?_) fun h2=>?_
  ·have m2:=a2.lf;have o2:=a2.at';refine (CG a2.inv (by omega)).bind fun u ⟨g2,s2⟩=>.some ⟨g1.ga (a1.ga (a2.ga g2)),fun e=>?_⟩;obtain ⟨s,y,q1,q2,q3⟩:=s2 e;simp only;rw [q1,e1];exact ⟨.bind (.inr rfl) q2,by simp only [fA,mY];omega⟩
  have m2:=a2.lf;have o2:=a2.at';refine (iB a2.inv hn).bind fun t3 ⟨a3,b3,_⟩=>bU.iteb (fun h3=>?_) fun h3=>?_
  ·have o3:=a3.at';refine (sW a3.inv hn).bind fun u g2=>(DZ g2.inv hn).bind fun v g3=>.some ⟨g1.ga (a1.ga (a2.ga (a3.ga (g2.ga g3)))),fun e=>?_⟩;have o4:=g2.at';have o5:=g3.at';simp only;rw [e1];exact ⟨.arr,by simp only [fA,jV];omega⟩
  have m3:=a3.lf;have o3:=a3.at';refine (iB a3.inv hn).bind fun t4 ⟨a4,b4,_⟩=>bU.iteb (fun h4=>?_) fun h4=>?_
  ·have m4:=a4.lf;have o4:=a4.at';refine (qG a4.inv (by omega)).bind fun u ⟨g2,s2⟩=>.some ⟨g1.ga (a1.ga (a2.ga (a3.ga (a4.ga g2)))),fun e=>?_⟩;obtain ⟨q1,q2⟩:=s2 e;simp only;rw [e1];exact ⟨.ret q1,by simp only [fA,mY];omega⟩
  have m4:=a4.lf;have o4:=a4.at';refine (iB a4.inv hn).bind fun t5 ⟨a5,b5,_⟩=>bU.iteb (fun h5=>?_) fun h5=>?_
  ·obtain ⟨_,c1,c2⟩:=b5 h5;have m5:=c1.lf c2;have o5:=c1.adv c2;refine (hc t5.2 _ _ a5.inv (by omega) hx).bind fun u ⟨g2,s2⟩=>.some ⟨g1.ga (a1.ga (a2.ga (a3.ga (a4.ga (a5.ga g2))))),fun e=>?_⟩;obtain ⟨q1,q2⟩:=s2 e;exact ⟨q1,by simp only;omega⟩
  have m5:=a5.lf;have o5:=a5.at';refine (iB a5.inv hn).bind fun t6 ⟨a6,b6,_⟩=>bU.iteb (fun h6=>?_) fun h6=>?_
  ·obtain ⟨_,c1,c2⟩:=b6 h6;have m6:=c1.lf c2;have o6:=c1.adv c2;refine (hl t6.2 _ _ a6.inv (by omega) hx).bind fun u ⟨g2,s2⟩=>.some ⟨g1.ga (a1.ga (a2.ga (a3.ga (a4.ga (a5.ga (a6.ga g2)))))),fun e=>?_⟩;obtain ⟨q1,q2⟩:=s2 e;exact ⟨q1,by simp only;omega⟩
  have m6:=a6.lf;have o6:=a6.at';refine (Hi a6.inv (by omega) hx).bind fun u ⟨g2,s2⟩=>.some ⟨g1.ga (a1.ga (a2.ga (a3.ga (a4.ga (a5.ga (a6.ga g2)))))),fun e=>?_⟩;obtain ⟨q1,q2⟩:=s2 e;exact ⟨q1,by simp only;omega⟩
 ·refine bU.elim (fun z e=>?_) fun z e=>?_
  ·subst e;obtain ⟨hy',hs⟩:GA p z.1/\(z.1.e_=0->WS z.2/\sz z.2<=1+(z.1.fC - p.fC)):=hy;refine (gH hy'.inv hn).bind fun s g=>.some ⟨hy'.ga g,fun e=>?_⟩;obtain ⟨w1,w2⟩:=hs (g.toGd.e0 e);have:=g.adv e;exact ⟨w1,by simp only;omega⟩
  ·subst e;exact .some hy
theorem grp2_ok:∀n:Nat,OkK n (cX n).1/\OkS n (cX n).2.1/\OkN n 47 (cX n).2.2.1/\OkN n 47 (cX n).2.2.2:=by
 intro n
 induction n with
 | zero=>refine ⟨fun p a h hb=>?_,fun p a h hb=>?_,fun p x a h hb=>?_,fun p x a h hb=>?_⟩ <;> (have:=h.lf;omega)
 | succ n ih=>
   obtain ⟨i1,i2,i3,i4⟩:=ih;exact ⟨block_b i2,DS i3 i4,Jr i1,loop_b i1⟩
theorem AT (h:PI p) {a:Int} (hb:Lf p+46<=n):bU (dS n p a) fun r=>GA p r.2/\Bk p r:=(grp2_ok n).1 p a h hb
def Fx (p:aB) (r:aA × aB):Prop:=r.2.e_=0->WF r.1/\sz r.1<=r.2.fC - p.fC
theorem Du (h:PI p) (hb:Lf p+46<=n):bU (iS n p) fun r=>GA p r.2/\Fx p r:=by
 have hn:13<n:=by have:=h.lf;omega
 unfold iS;refine (rO h).bind fun r ⟨g1,e1⟩=>(iB g1.inv hn).bind fun t ⟨g2,_,_⟩=>?_;have g3:=g1.trans g2;have n3:=g3.at'
 have key:∀q:aB,GA p q->(q.l_.length:Int) - q.fC<n:=by
  intro q g;have:=g.toGd.lf;unfold Lf at this hb;have:=h.hi;have:=g.inv.hi;omega
 have fin:∀ {q b:aB} {ps:List aA} {z:aA × aB} {at' k:Int} {s:cD},Gd q b->GA b z.2->Bk b z->p.fC+1<=q.fC - pB ps->(b.e_=0->∀x ∈ ps,WP x)->Fx p (⟨2,at',s,k,ps++[z.1]⟩,z.2):=fun gb gz bz hq hp e=>by
  obtain ⟨⟨c1,c2⟩,c3⟩:=bz e;have eb:=gz.toGd.e0 e;have n1:=gb.at';refine ⟨?_,by simp only [fA,yZ,mY];omega⟩;simp only;rw [c1];exact .fn (hp eb) c2
 have one:∀(k0 k1 k2:Int),bU ((bG n t.2 [102,110]).bind fun x10=>(dN n x10).bind fun x11=>(eS n x11.2).bind fun x13=>(bJ n x13.2 [45,62]).bind fun x15=>if x15.1=true then (bJ n x15.2 [117,51,50]).bind fun x18=>if x18.1=true then (dS n x18.2 1).bind fun x21=>kM (x13.1.length+[x21.1].length<=1073741824) <| some (({ r.1 with jC:=k1,bP:=x11.1,aN:=x13.1++[x21.1] }:aA),x21.2) else (bG n x18.2 [117,54,52]).bind fun x23=>(dS n x23 1).bind fun x25=>kM (x13.1.length+[x25.1].length<=1073741824) <| some (({ r.1 with jC:=k2,bP:=x11.1,aN:=x13.1++[x25.1] }:aA),x25.2) else (dS n x15.2 1).bind fun x27=>kM (x13.1.length+[x27.1].length<=1073741824) <| some (({ r.1 with jC:=k0,bP:=x11.1,aN:=x13.1++[x27.1] }:aA),x27.2)) fun r=>GA p r.2/\Fx p r:=by
  intro k0 k1 k2;rw [e1];refine (gH g2.inv hn).bind fun u g4=>(sW g4.inv hn).bind fun v g5=>?_;have g6:=g3.ga (g4.ga g5);have n6:=g5.at';refine (BP g5.inv hn (key _ g6)).bind fun w ⟨g7,hw,hp⟩=>(iB g7.inv hn).bind fun x ⟨g8,_,_⟩=>?_;have g9:=(g6.ga g7).gd g8;have l9:=g9.toGd.lf
  have big:∀ {b:aB},Gd w.2 b->b.e_=0->p.fC+1<=w.2.fC - pB w.1/\∀x ∈ w.1,WP x:=fun gb e=>by
   obtain ⟨q1,q2⟩:=hp (gb.e0 e);have:=g4.adv (g5.toGd.e0 (g7.toGd.e0 (gb.e0 e)));exact ⟨by omega,q1⟩
  have fin2:∀ {b:aB} {z:aA × aB} {at' k:Int} {s:cD},Gd w.2 b->GA b z.2->Bk b z->Fx p (⟨2,at',s,k,w.1++[z.1]⟩,z.2):=fun gb gz bz e=>fin gb gz bz (big gb (gz.toGd.e0 e)).1 (fun e2=>(big gb e2).2) e;refine bU.iteb (fun _=>?_) fun _=>?_
  ·refine (iB g8.inv hn).bind fun y ⟨g10,_,_⟩=>?_;have l10:=g10.lf;refine bU.iteb (fun _=>?_) fun _=>?_
   ·exact (AT g10.inv (by omega)).bind fun z ⟨g11,b11⟩=>bU.need (by simp only [List.length_singleton];omega) (.some ⟨(g9.gd g10).ga g11,fin2 (g8.trans g10) g11 b11⟩)
   ·refine (gH g10.inv hn).bind fun y' g11=>?_;have l11:=g11.toGd.lf;exact (AT g11.inv (by omega)).bind fun z ⟨g12,b12⟩=>bU.need (by simp only [List.length_singleton];omega) (.some ⟨((g9.gd g10).ga g11).ga g12,fin2 (g8.trans (g10.trans g11.toGd)) g12 b12⟩)
  ·exact (AT g8.inv (by omega)).bind fun z ⟨g11,b11⟩=>bU.need (by simp only [List.length_singleton];omega) (.some ⟨g9.ga g11,fin2 g8 g11 b11⟩)
 exact bU.iteb (fun _=>one _ _ _) fun _=>one _ _ _
theorem JO:∀(c:Nat) (p:aB) (x:aA),PI p->Lf p+46<=n->(p.l_.length:Int) - p.fC<c->1<=c->(p.e_=0->(x.aN.length:Int)<=p.fC)->(x.aN.length:Int)<=65538->bU (kW n c p x) fun r=>Gd p r.1/\(r.1.e_=0->(∀y ∈ x.aN,WF y)->(∀y ∈ r.2.aN,WF y)/\pB r.2.aN<=pB x.aN+(r.1.fC - p.fC)):=by
 intro c
 induction c with
 | zero=>intro p x h _ h1 h2;omega
 | succ c ih=>
   intro p x h hk h1 h2 h3 h4;have k1:=h.lo;have k2:=h.hi;have k3:=h.big;unfold kW;refine bU.bind (P:=fun b=>b=true->p.e_=0) ?_ fun b hb=>?_
   ·refine bU.iteb (fun he=>?_) fun _=>.some fun h=>by cases h
    exact (pM h).bind fun b hb=>.some fun _=>by simpa using he
   ·refine bU.iteb (fun h5=>?_) fun h5=>.some ⟨.refl h,fun _ hl=>⟨hl,by simp only;omega⟩⟩;have he:=hb h5;refine (Du h hk).bind fun r ⟨g,fx⟩=>?_;have m1:=g.at';have m3:=h3 he;have m4:=g.toGd.lf;have m5:=g.inv.hi;have m6:=g.toGd.len;refine bU.need (by simp only [List.length_singleton];omega) ?_
    by_cases he2:r.2.e_=0
    ·have m7:=g.adv he2;obtain ⟨w1,w2⟩:=fx he2;refine (ih r.2 _ g.inv (by omega) (by rw [m6];omega) (by omega) (fun _=>by simp only [List.length_append,List.length_singleton];omega) (by simp only [List.length_append,List.length_singleton];omega)).mono fun s ⟨g2,s2⟩=>⟨g.toGd.trans g2,fun e hl=>?_⟩
     obtain ⟨v1,v2⟩:=s2 e (fun y hy=>by
      rcases List.mem_append.1 hy with hy | hy
      ·exact hl y hy
      ·obtain rfl:=List.mem_singleton.1 hy;exact w1)
     refine ⟨v1,?_⟩;simp only [yZ,mY] at v2;omega
    ·cases c with
     | zero=>omega
     | succ c=>
       unfold kW;rw [if_neg (by simpa using he2),Option.bind_some,if_neg (by decide)];exact .some ⟨g.toGd,fun e=>absurd e he2⟩
end
theorem Ej {n:Nat} {s:cD} (hn:16*s.length+200<n):bU (rL n s) fun r=>r.2.1=0->(∀x ∈ r.1.aN,WF x)/\pB r.1.aN<=s.length+1:=by
 unfold rL;refine (FW (by omega) (by omega)).bind fun x hx=>?_;refine bU.iteb (fun h1=>.some fun h=>?_) fun h1=>?_
 ·rw [show x.2.1=0 from h] at h1;cases h1
 obtain ⟨l,h2,h3,h4,h5⟩:=hx (by simpa using h1);have hp:PI (aB.mk x.1 0 0 0 0):=⟨by simp only;omega,by simp only [h2,List.length_append,List.length_singleton];omega,by simp only [h2,List.length_append,List.length_singleton];omega,⟨l,_,h2,h3,rfl⟩⟩
 have hl:Lf (aB.mk x.1 0 0 0 0)<=16*s.length+16:=by
  unfold Lf;simp only [h2,List.length_append,List.length_singleton];omega
 refine (rO hp).bind fun r ⟨g1,e1⟩=>?_;have e:r.1.aN=[]:=by rw [e1]
 have l1:=g1.lf;have k0:=g1.inv.lo;have k1:=g1.inv.hi;have k2:=g1.inv.lf;refine (JO n r.2 r.1 g1.inv (by omega) (by unfold Lf at l1 hl;omega) (by omega) (fun _=>by rw [e];simpa using k0) (by rw [e];simp)).bind fun y ⟨g2,s2⟩=>?_;refine bU.iteb (fun he=>.some fun h=>absurd h (by simpa using he)) fun he=>.some fun _=>?_;obtain ⟨v1,v2⟩:=s2 (by simpa using he) (fun y hy=>by rw [e] at hy;cases hy);refine ⟨v1,?_⟩;rw [e,jV] at v2;have m1:=g2.inv.hi;rw [g2.len,g1.len] at m1;simp only [h2,List.length_append,List.length_singleton] at m1;simp only;omega
end Go.Proofs.YtncembphlfbgoaaDoor.Abs
