/- Lemmas of ours. -/
import Derived.Test.YtncembphlfbgoaaGreatDoorIFGMm
import Derived.Lib.IndexLaws
namespace Go.Proofs.YtncembphlfbgoaaGreatDoor.Abs
open IntKind (i64 u32 u64 u8)
open Go.RowKit
def bC {α:Type} (o:Option α) (Q:α->Prop):Prop:=∃r,o=some r/\Q r
section
variable {α β:Type} {o:Option α} {Q P:α->Prop}
theorem bC.some {r:α} (h:Q r):bC (some r) Q:=⟨r,rfl,h⟩
theorem bC.mono (h:bC o P) (k:∀x,P x->Q x):bC o Q:=by obtain ⟨r,e,hr⟩:=h;exact ⟨r,e,k r hr⟩
theorem bC.bind {f:α->Option β} {R:β->Prop} (h:bC o P) (k:∀x,P x->bC (f x) R):bC (o.bind f) R:=by
 obtain ⟨r,e,hr⟩:=h;subst e;exact k r hr
theorem bC.bind' {f:α->Option β} {R:β->Prop} (h:bC o fun x=>bC (f x) R):bC (o.bind f) R:=h.bind fun _ k=>k
theorem bC.eqn {v:α} {f:α->Option β} {R:β->Prop} (h:o=Option.some v) (k:bC (f v) R):bC (o.bind f) R:=by subst h;exact k
theorem bC.need {c:Prop} [Decidable c] (hc:c) (h:bC o Q):bC (gV c o) Q:=by rw [DO hc];exact h
theorem bC.ite {c:Prop} [Decidable c] {a b:Option α} (h1:c->bC a Q) (h2:¬ c->bC b Q):bC (if c then a else b) Q:=by
 split
 ·exact h1 ‹_›
 ·exact h2 ‹_›
theorem bC.iteb {b:Bool} {x y:Option α} (h1:b=true->bC x Q) (h2:b=false->bC y Q):bC (if b=true then x else y) Q:=by
 cases b
 ·exact h2 rfl
 ·exact h1 rfl
theorem bC.elim {γ:Type} {s:β ⊕ γ} {f:β->Option α} {g:γ->Option α} (h1:∀x,s=.inl x->bC (f x) Q) (h2:∀x,s=.inr x->bC (g x) Q):bC (s.elim f g) Q:=by
 cases s
 ·exact h1 _ rfl
 ·exact h2 _ rfl
theorem bC.idx {l:List α} {i:Int} (h0:0<=i) (h1:i<l.length) (k:∀x,l[i.toNat]? = Option.some x->Q x):bC (bY l i) Q:=by
 unfold bY;rw [if_pos h0];refine ⟨l[i.toNat]'(by omega),tH (by omega),k _ (tH (by omega))⟩
end
theorem fR {n:Int} (h1:-9223372036854775808<=n) (h2:n<=9223372036854775807):i64.wrap n=n:=by
 rw [IntKind.wrap_i64];omega
theorem take_step' {α:Type} {l:List α} {j:Nat} {x:α} (h:l[j]? = some x):l.take (j+1)=l.take j++[x]:=by
 rw [List.take_add_one,h];rfl
theorem IC {α:Type} {p:α->Bool} {s:List α} {v:Nat} {x:α} (h:∀y ∈ s.take v,p y=true) (hx:s[v]? = some x) (hp:p x=false):s.takeWhile p=s.take v:=by
 obtain ⟨hv,rfl⟩:=qS.1 hx;have h1:(s.take v++s.drop v).takeWhile p=s.take v++(s.drop v).takeWhile p:=List.takeWhile_append_of_pos h;rw [List.take_append_drop] at h1;rw [h1,Ps hv,List.takeWhile_cons_of_neg (by simp [hp]),Ef]
theorem find_at {α:Type} {p:α->Bool} {s:List α} {v:Nat} {x:α} (h:∀y ∈ s.take v,p y=false) (hx:s[v]? = some x) (hp:p x=true):s.find? p=some x:=by
 obtain ⟨hv,rfl⟩:=qS.1 hx
 have h1:(s.take v++s.drop v).find? p=(s.drop v).find? p:=by
  rw [List.find?_append,List.find?_eq_none.2 (fun y hy=>by simp [h y hy])];rfl
 rw [List.take_append_drop] at h1;rw [h1,Ps hv,List.find?_cons_of_pos (by simp [hp])]
theorem FZ {α:Type} {p:α->Bool} {s:List α} (h:∀y ∈ s,p y=true):s.takeWhile p=s:=by
 have:=List.takeWhile_append_of_pos (l₂:=[]) h;simpa using this
set_option linter.unusedVariables false
set_option linter.unusedSimpArgs false
def QH (c:Int):Bool:=(decide (97<=c) && decide (c<=122)) || (c == 95)
def QI (c:Int):Bool:=decide (48<=c) && decide (c<=57)
def isBl (c:Int):Bool:=c == 32 || (c == 9 || (c == 13 || c == 10))
def Ok (b:UInt8):Bool:=QH b.toNat || QI b.toNat
theorem Rp (a:Int):Bt a=some (isBl a):=by
 unfold Bt isBl;cases a == 32 <;> cases a == 9 <;> cases a == 13 <;> rfl
theorem Iu (a:Int):vW a=some (QH a):=by
 unfold vW QH;cases decide (97<=a) <;> cases decide (a<=122) <;> simp
theorem KZ (a:Int):xT a=some (QI a):=by
 unfold xT QI;cases decide (48<=a) <;> simp
theorem Ff (a b:cR):gE a b=some (decide (a.take b.length=b)):=by
 unfold gE
 by_cases h:(b.length:Int)<=a.length
 ·rw [if_pos (by simpa using h),DO ⟨by omega,h⟩];rfl
 ·rw [if_neg (by simpa using h),pI,xdn];intro e;have:=congrArg List.length e;rw [EF] at this;omega
theorem wI (a b:cR):oD a b=some (decide (a.take b.length=b)):=by
 unfold oD;rw [Ff];rfl
theorem Cu (a:cR) (c:Int):oC a c=some (Lib.indexByte a c.toNat.toUInt8):=rfl
theorem word_l1 (s:cR):∀(c:Nat) (v:Nat),s.length<v+c->v<=s.length->(∀y ∈ s.take v,Ok y=true)->s.length<4611686018427387904 ->
  bC (uC s c v) (fun r=>match r with | .inl _=>s.takeWhile Ok=s | .inr t=>t=s.takeWhile Ok):=by
 intro c
 induction c with
 | zero=>intro v h1 h2;omega
 | succ c ih=>
   intro v h1 h2 h3 hs;unfold uC;refine bC.iteb (fun h4=>?_) (fun h4=>?_)
   ·simp only [FV] at h4;refine (bC.bind (P:=fun y=>∃x,s[v]? = some x/\y=!Ok x) ?_) ?_
    ·refine bC.bind' (bC.idx (by omega) h4 fun x hx=>?_);rw [AP] at hx;rw [Iu,pI,KZ,pI];refine bC.iteb (fun h5=>.some ⟨x,hx,?_⟩) (fun h5=>.some ⟨x,hx,?_⟩)
     ·simp only [Nq] at h5;simp [Ok,h5]
     ·simp only [Bool.not_eq_false'] at h5;simp [Ok,h5]
    ·rintro y ⟨x,hx,rfl⟩;refine bC.iteb (fun h5=>?_) (fun h5=>?_)
     ·refine bC.need ⟨by omega,by omega⟩ (.some ?_);simp only [Nq] at h5;rw [AP];exact (IC h3 hx h5).symm
     ·simp only [Bool.not_eq_false'] at h5;rw [fR (by omega) (by omega)];refine ih (v+1) (by omega) (by omega) ?_ hs;rw [take_step' hx];intro y hy
      rcases Ah.1 hy with hy | hy
      ·exact h3 y hy
      ·rw [AU.1 hy];exact h5
   ·refine .some ?_;simp only [decide_eq_false_iff_not] at h4;rw [xeh (by omega)] at h3;exact FZ h3
theorem word_eq {n:Nat} {s:cR} (hn:s.length<n) (hs:s.length<4611686018427387904):Ds n s=some (s.takeWhile Ok):=by
 unfold Ds;obtain ⟨r,e,hr⟩:=word_l1 s n 0 (by omega) (by omega) (by simp) hs;rw [show ((0:Nat):Int)=0 from rfl] at e;rw [e,pI];cases r with
 | inl _=>rw [hr];rfl
 | inr t=>rw [hr];rfl
theorem sign_l1 (s:cR):∀(c:Nat) (v:Nat),26<v+c->v<=26->(∀y ∈ fN.take v,decide (s.take y.length=y)=false) ->
  bC (uD s c v) (fun r=>match r with | .inl _=>fN.find? (fun y=>decide (s.take y.length=y))=none | .inr t=>fN.find? (fun y=>decide (s.take y.length=y))=some t):=by
 intro c
 induction c with
 | zero=>intro v h1 h2;omega
 | succ c ih=>
   intro v h1 h2 h3;unfold uD;refine bC.iteb (fun h4=>?_) (fun h4=>?_)
   ·simp only [FV] at h4;refine bC.bind' (bC.idx (by omega) (by have:fN.length=26:=rfl;omega) fun x hx=>?_);rw [AP] at hx;rw [wI,pI];refine bC.iteb (fun h5=>.some ?_) (fun h5=>?_)
    ·exact find_at h3 hx h5
    ·rw [fR (by omega) (by omega)];refine ih (v+1) (by omega) (by omega) ?_;rw [take_step' hx];intro y hy
     rcases Ah.1 hy with hy | hy
     ·exact h3 y hy
     ·rw [AU.1 hy];exact h5
   ·refine .some ?_;simp only [decide_eq_false_iff_not] at h4;rw [xeh (by have:fN.length=26:=rfl;omega)] at h3;exact List.find?_eq_none.2 fun y hy=>by simpa using h3 y hy
def Fq (s:cR):cR:=(fN.find? (fun y=>decide (s.take y.length=y))).getD []
theorem sign_eq {n:Nat} {s:cR} (hn:26<n):Dt n s=some (Fq s):=by
 unfold Dt Fq;obtain ⟨r,e,hr⟩:=sign_l1 s n 0 (by omega) (by omega) (by simp);rw [show ((0:Nat):Int)=0 from rfl] at e;rw [e,pI];cases r with
 | inl _=>rw [hr];rfl
 | inr t=>rw [hr];rfl
theorem Lv (s:cR):Fq s=[] ∨ 1<=(Fq s).length/\(Fq s).length<=s.length:=by
 unfold Fq;cases h:fN.find? (fun y=>decide (s.take y.length=y)) with
 | none=>exact .inl rfl
 | some y=>
   have h1:=List.find?_some h;have h2:=List.mem_of_find?_eq_some h;simp only [FV] at h1;have h3:=congrArg List.length h1;rw [EF] at h3;have h4:(fN.all fun y=>decide (1<=y.length))=true:=by decide
   have h5:=FJ.1 h4 y h2;simp only [FV] at h5;exact .inr ⟨h5,by show y.length<=_;omega⟩
theorem skip_l1 (s:cR) (hs:s.length<4611686018427387904):∀(c:Nat) (v:Nat),s.length<v+c->v<=s.length->bC (sE s c v) (fun r=>∃k:Nat,v<=k/\k<=s.length/\(r=.inl (k:Int) ∨ r=.inr (k:Int))):=by
 intro c
 induction c with
 | zero=>intro v h1 h2;omega
 | succ c ih=>
   intro v h1 h2;unfold sE;refine bC.iteb (fun h4=>?_) (fun h4=>.some ⟨v,by omega,h2,.inl rfl⟩);simp only [FV] at h4;refine bC.bind' (bC.idx (by omega) h4 fun x hx=>?_);rw [AP] at hx;rw [Rp,pI];refine bC.iteb (fun h5=>?_) (fun h5=>?_)
   ·rw [fR (by omega) (by omega)];exact (ih (v+1) (by omega) (by omega)).mono fun r ⟨k,h6,h7,h8⟩=>⟨k,by omega,h7,h8⟩
   ·refine bC.need ⟨by omega,by omega⟩ ?_;rw [AP,wI,pI];refine bC.iteb (fun h6=>?_) (fun h6=>.some ⟨v,by omega,h2,.inr rfl⟩);simp only [FV] at h6;refine bC.need ⟨by omega,by omega⟩ ?_;rw [Cu,pI];refine bC.iteb (fun h7=>.some ⟨s.length,h2,by omega,.inr rfl⟩) (fun h7=>?_);simp only [decide_eq_false_iff_not,Int.not_lt] at h7;obtain ⟨o,ho⟩:=Int.eq_ofNat_of_zero_le h7;rw [ho];obtain ⟨h8,h9⟩:=Lib.indexByte_some ho;have h10:o<(s.drop v).length:=(qS.1 h8).1;rw [Ho] at h10
    have h11:o ≠ 0:=by
     rintro rfl;have h12:=congrArg (·[0]?) h6;simp only [xeq (show 0<([47,47]:cR).length by decide)] at h12;rw [h8] at h12
     revert h12;decide
    rw [fR (by omega) (by omega)];exact (ih (v+o) (by omega) (by omega)).mono fun r ⟨k,h6,h7,h8⟩=>⟨k,by omega,h7,h8⟩
theorem JR {n:Nat} {s:cR} {v:Nat} (hs:s.length<4611686018427387904) (hn:s.length<v+n) (hv:v<=s.length):bC (Bs n s v) fun r=>∃k:Nat,v<=k/\k<=s.length/\r=k:=by
 unfold Bs;refine (skip_l1 s hs n v hn hv).bind fun r ⟨k,h1,h2,h3⟩=>?_
 rcases h3 with rfl | rfl <;> exact .some ⟨k,h1,h2,rfl⟩
theorem PH (x:cR × Bool) (hs:x.1.length<4611686018427387904):∀(c:Nat) (t:Int) (v:Nat),x.1.length<v+c->v<=x.1.length->bC (sL x c t v) fun _=>True:=by
 intro c
 induction c with
 | zero=>intro t v h1 h2;omega
 | succ c ih=>
   intro t v h1 h2;unfold sL;refine bC.iteb (fun h4=>?_) (fun h4=>.some trivial);simp only [FV] at h4;refine bC.need (by decide) ?_;refine bC.bind' (bC.idx (by omega) h4 fun y hy=>?_);rw [Cu,pI];refine bC.bind (P:=fun _=>True) (bC.iteb (fun _=>.some trivial) fun _=>.some trivial) fun y _=>?_;refine bC.iteb (fun _=>.some trivial) fun _=>?_;rw [fR (n:=(v:Int)+1) (by omega) (by omega)];exact ih _ (v+1) (by omega) (by omega)
theorem PG (s:cR) (hs:s.length<4611686018427387904):∀(c:Nat) (t:Int) (v:Nat),s.length<v+c->v<=s.length->bC (sK s c t v) fun _=>True:=by
 intro c
 induction c with
 | zero=>intro t v h1 h2;omega
 | succ c ih=>
   intro t v h1 h2;unfold sK;refine bC.iteb (fun h4=>?_) (fun h4=>.some trivial);simp only [FV] at h4;refine bC.need (by decide) ?_;refine bC.bind' (bC.idx (by omega) h4 fun y hy=>?_);rw [Cu,pI];refine bC.bind (P:=fun _=>True) (bC.iteb (fun _=>.some trivial) fun _=>.some trivial) fun y _=>?_;refine bC.iteb (fun _=>.some trivial) fun _=>?_;rw [fR (n:=(v:Int)+1) (by omega) (by omega)];exact ih _ (v+1) (by omega) (by omega)
theorem Jv (a b:cR):pR a b=some (if a.take b.length=b then (a.drop b.length,true) else (a,false)):=by
 unfold pR jV;rw [Ff,pI]
 by_cases h:a.take b.length=b
 ·rw [Fh h,if_neg (by decide),if_pos h,DO]
  ·rfl
  ·have:=congrArg List.length h;rw [EF] at this;omega
 ·rw [xdn h,if_pos (by decide),if_neg h];rfl
theorem Nv {n:Nat} {s:cR} (hs:s.length<4611686018427387904) (hn:s.length<n):bC (Br n s) fun _=>True:=by
 unfold Br;rw [Jv,pI]
 have hl:∀x:cR × Bool,x=(if s.take ([48,120]:cR).length=([48,120]:cR) then (s.drop ([48,120]:cR).length,true) else (s,false))->x.1.length<=s.length:=by
  rintro x rfl
  split
  ·rw [Ho];omega
  ·exact sU _
 generalize (if s.take ([48,120]:cR).length=([48,120]:cR) then (s.drop ([48,120]:cR).length,true) else (s,false))=x at hl
 have hx:=hl x rfl;refine bC.iteb (fun _=>?_) fun _=>?_
 ·exact (PH x (by omega) n 0 0 (by omega) (by omega)).bind fun r _=>bC.elim (fun _ _=>.some trivial) fun _ _=>.some trivial
 ·exact (PG s (by omega) n 0 0 (by omega) (by omega)).bind fun r _=>bC.elim (fun _ _=>.some trivial) fun _ _=>.some trivial
theorem Qo {n:Nat} {s:cR} {v:Nat} (hs:s.length<4611686018427387904) (hn:s.length<n) (hn2:26<n) (hv:v<s.length) :
  bC (Du n s v) fun r=>r.2=0->(r.1.cF=1 ∨ r.1.cF=2 ∨ r.1.cF=3)/\r.1.fQ=v/\1<=r.1.cP.length/\v+r.1.cP.length<=s.length:=by
 unfold Du;refine bC.need ⟨by omega,by omega⟩ ?_;rw [AP,word_eq (by rw [Ho];omega) (by rw [Ho];omega),pI];refine bC.bind' (bC.idx (by omega) (by omega) fun x hx=>?_);rw [AP] at hx
 have hd:s.drop v=x::s.drop (v+1):=by
  obtain ⟨h1,rfl⟩:=qS.1 hx;exact Ps h1
 have hle:((s.drop v).takeWhile Ok).length<=s.length - v:=by
  have:=(List.takeWhile_prefix (l:=s.drop v) Ok).length_le
  rwa [Ho] at this
 have hpos:Ok x=true->1<=((s.drop v).takeWhile Ok).length:=by
  intro h;rw [hd,List.takeWhile_cons_of_pos h,jK];omega
 rw [Iu,pI];refine bC.iteb (fun h1=>bC.iteb (fun _=>.some fun h=>by cases h) fun _=>.some fun _=>⟨.inl rfl,rfl,hpos (by simp [Ok,h1]),by simp only;omega⟩) fun h1=>?_;rw [KZ,pI];refine bC.iteb (fun h2=>?_) fun h2=>?_
 ·refine (Nv (by omega) (by omega)).bind fun y _=>bC.iteb (fun _=>.some fun h=>by cases h) fun _=>.some fun _=>⟨.inr (.inl rfl),rfl,hpos (by simp [Ok,h2]),by simp only;omega⟩
 ·refine bC.need ⟨by omega,by omega⟩ ?_;rw [sign_eq hn2,pI];refine bC.iteb (fun _=>.some fun h=>by cases h) fun h3=>.some fun _=>⟨.inr (.inr rfl),rfl,?_⟩;have h4:=Lv (s.drop v);simp only [decide_eq_false_iff_not] at h3
  rcases h4 with h4 | h4
  ·exact absurd h4 h3
  ·rw [Ho] at h4;exact ⟨h4.1,by simp only;omega⟩
def KU (l:List dK):Prop:=∀t ∈ l,(t.cF=1 ∨ t.cF=2 ∨ t.cF=3)/\t.cP ≠ []
theorem OT {n:Nat} {s:cR} (hs:s.length<=65536) (hn:s.length<n) (hn2:26<n):∀(c:Nat) (l:List dK) (v:Nat),s.length<v+c->v<=s.length->KU l->l.length<=v ->
  bC (rP n s c l v) fun r=>match r with | .inl l=>KU l/\l.length<=s.length | .inr x=>x.2.1 ≠ 0:=by
 intro c
 induction c with
 | zero=>intro l v h1 h2;omega
 | succ c ih=>
   intro l v h1 h2 h3 h4;unfold rP;refine bC.iteb (fun h5=>?_) fun h5=>.some ⟨h3,by omega⟩;simp only [FV] at h5;refine (Qo (by omega) hn hn2 (by omega)).bind fun x hx=>?_;refine bC.iteb (fun h6=>.some (by simpa using h6)) fun h6=>?_;obtain ⟨k1,k2,k3,k4⟩:=hx (by simpa using h6);refine bC.need (by simp only [uP];omega) ?_;rw [fR (by omega) (by omega)];refine (JR (v:=v+x.1.cP.length) (by omega) (by omega) k4).bind fun r ⟨k,h7,h8,h9⟩=>?_;subst h9;refine ih _ k (by omega) h8 ?_ (by simp only [nL,uP];omega);intro t ht
   rcases Ah.1 ht with ht | ht
   ·exact h3 t ht
   ·rw [AU.1 ht];exact ⟨k1,fun e=>by rw [e] at k3;simp at k3⟩
theorem Mq {n:Nat} {s:cR} (hn:s.length<n) (hn2:26<n):bC (yS n s) fun r=>r.2.1=0->∃l,r.1=l++[⟨4,s.length,[],0⟩]/\KU l/\l.length<=s.length/\s.length<=65536:=by
 unfold yS;refine bC.iteb (fun _=>.some fun h=>by cases h) fun h1=>?_;simp only [decide_eq_false_iff_not,Int.not_lt] at h1;refine (JR (v:=0) (by omega) (by omega) (by omega)).bind fun r ⟨k,h2,h3,h4⟩=>?_;subst h4;refine (OT (by omega) hn hn2 n [] k (by omega) h3 (by simp [KU]) (by simp)).bind fun y hy=>?_;refine bC.elim (fun z e=>?_) (fun z e=>?_)
 ·subst e;refine bC.need (by simp only [uP];omega) (.some fun _=>⟨z,rfl,hy.1,hy.2,by omega⟩)
 ·subst e;exact .some fun h=>absurd h hy
abbrev Nd:=aB
mutual
def sz:aB->Int
 | ⟨_,_,_,_,l⟩=>1+tI l
def tI:List aB->Int
 | []=>0
 | x::l=>sz x+tI l
end
theorem gM {a b:Int} {c:cR} {d:Int} {l:List aB}:sz ⟨a,b,c,d,l⟩=1+tI l:=by rw [sz]
theorem mM:tI []=0:=by rw [tI]
theorem sV {x:aB} {l:List aB}:tI (x::l)=sz x+tI l:=by rw [tI]
theorem Dd (x:aB):sz x=1+tI x.aP:=by cases x;rw [sz]
theorem DH {a b:List aB}:tI (a++b)=tI a+tI b:=by
 induction a with
 | nil=>rw [tS,mM,Int.zero_add]
 | cons x a ih=>rw [BB,sV,sV,ih,Int.add_assoc]
theorem qV {x:aB}:tI [x]=sz x:=by rw [sV,mM,Int.add_zero]
theorem FN {x y:aB}:tI [x,y]=sz x+sz y:=by rw [sV,qV]
theorem HQ {x y z:aB}:tI [x,y,z]=sz x+sz y+sz z:=by rw [sV,FN,Int.add_assoc]
mutual
theorem pJ:∀x:aB,1<=sz x
 | ⟨_,_,_,_,l⟩=>by rw [sz];have:=nV l;omega
theorem nV:∀l:List aB,(l.length:Int)<=tI l
 | []=>by rw [tI];exact Pg _
 | x::l=>by rw [tI,jK];have:=nV l;have:=pJ x;omega
end
theorem Gz {l:List aB} {k:aB} (h:k ∈ l):sz k<=tI l:=by
 obtain ⟨a,b,rfl⟩:=xdj h;rw [DH,sV];have h1:=nV a;have h2:=nV b;omega
def BE:List cR:=[[124],[94],[38],[61,61],[60],[60,60],[62,62],[60,60,60],[43],[45],[42],[47],[37]]
inductive WE:Nd->Prop
 | num {a n}:WE ⟨14,a,[],n,[]⟩
 | ref {a s}:WE ⟨15,a,s,0,[]⟩
 | index {a s x}:WE x->WE ⟨16,a,s,0,[x]⟩
 | un {a s x}:(s=[126] ∨ s=[45])->WE x->WE ⟨18,a,s,0,[x]⟩
 | bin {a s x y}:s ∈ BE->WE x->WE y->WE ⟨19,a,s,0,[x,y]⟩
 | call {a s xs}:(∀x ∈ xs,WE x)->WE ⟨17,a,s,0,xs⟩
inductive WS:Nd->Prop
 | bind {k a s x}:(k=5 ∨ k=6)->WE x->WS ⟨k,a,s,0,[x]⟩
 | arr {a s n}:WS ⟨7,a,s,n,[]⟩
 | ret {a x}:WE x->WS ⟨13,a,[],0,[x]⟩
 | choice {a c b ys}:WE c->(∀y ∈ ys,WS y)->WS ⟨11,a,[],0,[c,⟨4,b,[],0,ys⟩]⟩
 | choice2 {a c b ys b2 zs}:WE c->(∀y ∈ ys,WS y)->(∀z ∈ zs,WS z)->WS ⟨11,a,[],0,[c,⟨4,b,[],0,ys⟩,⟨4,b2,[],0,zs⟩]⟩
 | loop {a s x y b ys}:WE x->WE y->(∀y ∈ ys,WS y)->WS ⟨12,a,s,0,[x,y,⟨4,b,[],0,ys⟩]⟩
 | call {a s xs}:(∀x ∈ xs,WE x)->WS ⟨10,a,s,0,xs⟩
 | put {a s i x}:WE i->WE x->WS ⟨9,a,s,0,[i,x]⟩
 | set {a s x}:WE x->WS ⟨8,a,s,0,[x]⟩
inductive WP:Nd->Prop
 | word {a s k}:(k=1 ∨ k=2 ∨ k=3)->WP ⟨3,a,s,k,[]⟩
 | arr {a s b n}:WP ⟨3,a,s,4,[⟨14,b,[],n,[]⟩]⟩
inductive WF:Nd->Prop
 | fn {a s r ps b ys}:(∀p ∈ ps,WP p)->(∀y ∈ ys,WS y)->WF ⟨2,a,s,r,ps++[⟨4,b,[],0,ys⟩]⟩
theorem Qv {α:Type} {x:α}:x ∈ [x]:=AU.2 rfl
structure PI (p:aC):Prop where
 lo:0<=p.gC
 hi:p.gC<p.l_.length
 big:p.l_.length<=65537
 toks:∃l z,p.l_=l++[z]/\KU l/\z.cF=4
structure Gd (p p':aC):Prop where
 inv:PI p'
 l:p'.l_=p.l_
 at':p.gC<=p'.gC
 err':p.e_ ≠ 0->p'.e_=p.e_/\p'.gC=p.gC
structure GA (p p':aC):Prop extends Gd p p' where
 adv:p'.e_=0->p.gC<p'.gC
theorem Gd.err {p q:aC} (h:Gd p q):p.e_ ≠ 0->q.e_ ≠ 0/\q.gC=p.gC:=fun he=>⟨by rw [(h.err' he).1];exact he,(h.err' he).2⟩
theorem Gd.refl {p:aC} (h:PI p):Gd p p:=⟨h,rfl,Pg _,fun h=>⟨rfl,rfl⟩⟩
theorem Gd.trans {p q r:aC} (h:Gd p q) (k:Gd q r):Gd p r:=⟨k.inv,k.l.trans h.l,Int.le_trans h.at' k.at',fun he=>⟨(k.err' (h.err he).1).1.trans (h.err' he).1,(k.err' (h.err he).1).2.trans (h.err' he).2⟩⟩
theorem Gd.e0 {p q:aC} (h:Gd p q) (he:q.e_=0):p.e_=0:=Classical.byContradiction fun hn=>(h.err hn).1 he
theorem Gd.ga {p q r:aC} (h:Gd p q) (k:GA q r):GA p r:=⟨h.trans k.toGd,fun he=>Int.lt_of_le_of_lt h.at' (k.adv he)⟩
theorem GA.gd {p q r:aC} (h:GA p q) (k:Gd q r):GA p r:=⟨h.toGd.trans k,fun he=>Int.lt_of_lt_of_le (h.adv (k.e0 he)) k.at'⟩
theorem GA.ga {p q r:aC} (h:GA p q) (k:GA q r):GA p r:=h.gd k.toGd
theorem Gd.len {p q:aC} (h:Gd p q):q.l_.length=p.l_.length:=by rw [h.l]
section
variable {p:aC} {n:Nat}
theorem tV (h:PI p):bC (eQ p) fun t=>t.cF ≠ 4->p.gC+1<p.l_.length:=by
 unfold eQ;refine bC.bind' (bC.idx h.lo h.hi fun x hx=>.some fun hk=>?_);obtain ⟨l,z,h1,h2,h3⟩:=h.toks;have h4:=h.lo;have h5:=h.hi;rw [h1] at hx h5 ⊢;simp only [nL,uP] at h5 ⊢
 by_cases h6:p.gC.toNat=l.length
 ·rw [Hr (by omega),h6,xdx] at hx;simp at hx
  subst hx;exact absurd h3 hk
 ·omega
theorem Dz (h:PI p) {e:Int} (he:e ≠ 0):bC (gX p e) fun q=>Gd p q/\q.e_ ≠ 0:=by
 unfold gX;refine bC.iteb (fun h1=>?_) fun h1=>.some ⟨.refl h,by simpa using h1⟩;simp only [beq_iff_eq] at h1;exact (tV h).bind fun t _=>.some ⟨⟨⟨h.lo,h.hi,h.big,h.toks⟩,rfl,Pg _,fun hn=>absurd h1 hn⟩,he⟩
theorem wN (h:PI p) {k:Int}:bC (fD p k) fun r=>Gd p r.2/\r.1=⟨k,r.1.fQ,[],0,[]⟩:=by
 unfold fD;have hp:PI { p with sD:=(i64.wrap (p.sD+(1:Int))) }:=⟨h.lo,h.hi,h.big,h.toks⟩;have hg:Gd p { p with sD:=(i64.wrap (p.sD+(1:Int))) }:=⟨hp,rfl,Pg _,fun hn=>⟨rfl,rfl⟩⟩;refine bC.iteb (fun h1=>?_) fun h1=>?_
 ·exact (Dz hp (by decide)).bind fun q ⟨g,_⟩=>(tV g.inv).bind fun t _=>.some ⟨hg.trans g,rfl⟩
 ·exact (tV hp).bind fun t _=>.some ⟨hg,rfl⟩
theorem RE (l:List cR) (s:cR) (hl:l.length<1000):∀(c:Nat) (v:Nat),l.length<v+c->v<=l.length->(∀y ∈ l.take v,decide (s=y)=false) ->
  bC (fX l s c v) fun r=>match r with | .inl _=>(l.any fun y=>decide (s=y))=false | .inr k=>0<=k/\(l.any fun y=>decide (s=y))=true:=by
 intro c
 induction c with
 | zero=>intro v h1 h2;omega
 | succ c ih=>
   intro v h1 h2 h3;unfold fX;refine bC.iteb (fun h4=>?_) (fun h4=>?_)
   ·simp only [FV] at h4;refine bC.bind' (bC.idx (by omega) h4 fun x hx=>?_);rw [AP] at hx;refine bC.iteb (fun h5=>.some ⟨by omega,?_⟩) (fun h5=>?_)
    ·exact xea.2 ⟨x,AT hx,h5⟩
    ·rw [fR (by omega) (by omega)];refine ih (v+1) (by omega) (by omega) ?_;rw [take_step' hx];intro y hy
     rcases Ah.1 hy with hy | hy
     ·exact h3 y hy
     ·rw [AU.1 hy];exact h5
   ·refine .some ?_;simp only [decide_eq_false_iff_not] at h4;rw [xeh (by omega)] at h3;exact List.any_eq_false.2 fun y hy=>by simp [h3 y hy]
def QG (s:cR):Bool:=cN.any fun y=>decide (s=y)
theorem Ni {s:cR} (hn:13<n):vR n s=some (QG s):=by
 unfold vR jI kO;obtain ⟨r,e,hr⟩:=RE cN s (by decide) n 0 (by have:cN.length=13:=rfl;omega) (by omega) (by simp);rw [show ((0:Nat):Int)=0 from rfl] at e;rw [e,pI];unfold QG;cases r with
 | inl _=>rw [hr];rfl
 | inr k=>
   rw [hr.2];simp only [DX,pI,Option.some.injEq,FV];exact hr.1
theorem GT (h:PI p) (hn:13<n) {s:cR}:bC (iT n p s) fun b=>b=true->p.e_=0/\p.gC+1<p.l_.length:=by
 unfold iT;refine (tV h).bind fun t ht=>?_;refine bC.bind (P:=fun b=>b=true->p.e_=0/\p.gC+1<p.l_.length) ?_ fun b hb=>.some hb;refine bC.iteb (fun h1=>?_) fun h1=>.some fun h=>by cases h
 simp only [beq_iff_eq] at h1;refine bC.iteb (fun h2=>?_) fun h2=>.some fun h=>by cases h
 refine bC.iteb (fun h3=>.some fun _=>⟨h1,ht ?_⟩) fun h3=>?_
 ·simp only [beq_iff_eq] at h3;omega
 refine bC.iteb (fun h4=>?_) fun h4=>.some fun h=>by cases h
 rw [Ni hn,pI];refine .some fun _=>⟨h1,ht ?_⟩;simp only [beq_iff_eq] at h4;omega
theorem ID (h:PI p) (he:p.e_=0) (hk:p.gC+1<p.l_.length):i64.wrap (p.gC+(1:Int))=p.gC+1/\GA p { p with gC:=p.gC+1 }:=by
 have h1:=h.lo;have h2:=h.big;refine ⟨fR (by omega) (by omega),⟨⟨⟨by simp only;omega,by simpa using hk,h.big,h.toks⟩,rfl,by simp only;omega,fun hn=>absurd he hn⟩,fun _=>by simp only;omega⟩⟩
theorem jW (h:PI p) (hn:13<n) {s:cR}:bC (bX n p s) fun r=>Gd p r.2/\(r.1=true->p.e_=0/\GA p r.2/\r.2.e_=0)/\(r.1=false->r.2=p):=by
 unfold bX;refine (GT h hn).bind fun b hb=>?_;refine bC.iteb (fun h1=>.some ⟨.refl h,(fun h=>by cases h),fun _=>rfl⟩) fun h1=>?_;simp only [Bool.not_eq_false'] at h1;obtain ⟨h2,h3⟩:=hb h1;obtain ⟨h4,h5⟩:=ID h h2 h3;rw [h4];exact .some ⟨h5.toGd,fun _=>⟨h2,h5,h2⟩,fun h=>by cases h⟩
theorem iM (h:PI p) (hn:13<n) {s:cR}:bC (bQ n p s) fun q=>GA p q:=by
 unfold bQ;refine (jW h hn).bind fun r ⟨h1,h2,h3⟩=>?_;refine bC.iteb (fun h4=>?_) fun h4=>.some (h2 (by simpa using h4)).2.1;exact (Dz h1.inv (by decide)).bind fun q ⟨g,he⟩=>.some ⟨h1.trans g,fun h=>absurd h he⟩
theorem yR (h:PI p) (hn:13<n):bC (eN n p) fun r=>GA p r.2:=by
 unfold eN;refine (tV h).bind fun t ht=>?_;refine bC.bind (P:=fun b=>b=false->p.e_=0/\t.cF=1) ?_ fun b hb=>?_
 ·refine bC.iteb (fun h1=>.some fun h=>by cases h) fun h1=>?_;refine bC.iteb (fun h2=>.some fun h=>by cases h) fun h2=>?_;rw [Ni hn,pI];exact .some fun _=>⟨by simpa using h1,by simpa using h2⟩
 ·refine bC.iteb (fun h1=>?_) fun h1=>?_
  ·exact (Dz h (by decide)).bind fun q ⟨g,he⟩=>.some ⟨g,fun h=>absurd h he⟩
  ·obtain ⟨h2,h3⟩:=hb h1;obtain ⟨h4,h5⟩:=ID h h2 (ht (by omega));rw [h4];exact .some h5
theorem GL (h:PI p):bC (kE p) fun r=>GA p r.2:=by
 unfold kE;refine (tV h).bind fun t ht=>?_;refine bC.bind (P:=fun b=>b=false->p.e_=0/\t.cF=2) ?_ fun b hb=>?_
 ·refine bC.iteb (fun h1=>.some fun h=>by cases h) fun h1=>.some fun h=>⟨by simpa using h1,by simpa using h⟩
 ·refine bC.iteb (fun h1=>?_) fun h1=>?_
  ·exact (Dz h (by decide)).bind fun q ⟨g,he⟩=>.some ⟨g,fun h=>absurd h he⟩
  ·obtain ⟨h2,h3⟩:=hb h1;obtain ⟨h4,h5⟩:=ID h h2 (ht (by omega));rw [h4];exact .some h5
theorem JS (h:PI p) (hn:13<n):bC (mF n p) fun r=>GA p r.2:=by
 unfold mF;exact (iM h hn).bind fun q g1=>(GL g1.inv).bind fun r g2=>(iM g2.inv hn).bind fun s g3=>.some (g1.ga (g2.ga g3))
theorem Qk (hn:13<n):∀(c:Nat) (v:Nat) (p:aC) (x y:aB),3<v+c->v<=3->PI p->bC (iZ n c v p x y) fun r=>match r with | .inl s=>Gd p s.1/\s.2.2=y | .inr s=>Gd p s.2/\∃k,(k=1 ∨ k=2 ∨ k=3)/\s.1={ y with mE:=k }:=by
 intro c
 induction c with
 | zero=>intro v p x y h1 h2;omega
 | succ c ih=>
   intro v p x y h1 h2 h;unfold iZ;refine bC.iteb (fun h4=>?_) fun h4=>.some ⟨.refl h,rfl⟩;simp only [FV] at h4;refine bC.bind' (bC.idx (by omega) (by have:qJ.length=3:=rfl;omega) fun z hz=>?_);refine (jW h hn).bind fun r ⟨g1,g2,g3⟩=>?_;refine bC.iteb (fun _=>.some ⟨g1,_,?_,rfl⟩) fun _=>?_
   ·have h5:v=0 ∨ v=1 ∨ v=2:=by omega
    rcases h5 with rfl | rfl | rfl <;> decide
   rw [fR (by omega) (by omega)];refine (ih (v+1) r.2 x y (by omega) (by omega) g1.inv).mono fun s hs=>?_;cases s with
   | inl s=>exact ⟨g1.trans hs.1,hs.2⟩
   | inr s=>exact ⟨g1.trans hs.1,hs.2⟩
theorem Og (h:PI p) (hn:13<n):bC (nZ n p) fun r=>GA p r.2/\(r.2.e_=0->WP r.1/\sz r.1<=r.2.gC - p.gC):=by
 unfold nZ;refine (wN h).bind fun r ⟨g1,e1⟩=>(yR g1.inv hn).bind fun s g2=>(iM g2.inv hn).bind fun q g3=>?_;refine (Qk hn n 0 q _ _ (by omega) (by omega) g3.inv).bind fun y hy=>?_;have g4:=g1.ga (g2.ga g3);refine bC.elim (fun z e=>?_) fun z e=>?_
 ·subst e;obtain ⟨hy,hz⟩:=hy;refine (wN hy.inv).bind fun r ⟨g5,e5⟩=>(JS g5.inv hn).bind fun s g6=>.some ⟨(g4.gd hy).ga (g5.ga g6),fun e=>?_⟩;have m6:=g6.adv e;have e6:=(g5.ga g6).toGd.e0 e;have e7:=hy.e0 e6;have m3:=g3.adv e7;have m2:=g2.adv (g3.toGd.e0 e7);have m1:=g1.at';have m5:=g5.at';have m4:=hy.at';rw [hz,e1,e5];exact ⟨.arr,by rw [gM,qV,gM,mM];simp only;omega⟩
 ·subst e;obtain ⟨hy,k,hk,hz⟩:=hy;refine .some ⟨g4.gd hy,fun e=>?_⟩;have e7:=hy.e0 e;have m3:=g3.adv e7;have m1:=g1.at';have m2:=g2.at';have m4:=hy.at';rw [hz,e1];exact ⟨.word hk,by rw [gM,mM];omega⟩
theorem Hy (hn:13<n):∀(c:Nat) (l:List aB) (p:aC),PI p->(p.l_.length:Int) - p.gC<c->(l.length:Int)<=p.gC->bC (gK n c l p) fun r=>Gd p r.2/\(r.1.length:Int)<=r.2.gC+1/\(r.2.e_=0->(∀x ∈ l,WP x)->(∀x ∈ r.1,WP x)/\tI r.1<=tI l+(r.2.gC - p.gC)):=by
 intro c
 induction c with
 | zero=>intro l p h h1 h2;have:=h.hi;omega
 | succ c ih=>
   intro l p h h1 h2;have k1:=h.lo;have k2:=h.hi;have k3:=h.big;unfold gK;refine bC.iteb (fun h4=>?_) fun h4=>.some ⟨.refl h,by simp only;omega,fun _ hl=>⟨hl,by simp only;omega⟩⟩;refine (Og h hn).bind fun x ⟨g1,gx⟩=>?_;refine bC.need (by simp only [uP];omega) ?_;refine (jW g1.inv hn).bind fun r ⟨g2,g3,_⟩=>?_;have m1:=g1.at';have m2:=g2.at'
   have hx:r.2.e_=0->(∀x ∈ l,WP x)->(∀y ∈ l++[x.1],WP y)/\tI (l++[x.1])<=tI l+(r.2.gC - p.gC):=fun e hl=>by
    obtain ⟨w1,w2⟩:=gx (g2.e0 e);refine ⟨fun y hy=>?_,by rw [DH,qV];omega⟩
    rcases Ah.1 hy with hy | hy
    ·exact hl y hy
    ·obtain rfl:=AU.1 hy;exact w1
   refine bC.iteb (fun h5=>.some ⟨g1.toGd.trans g2,by simp only [nL,uP];omega,hx⟩) fun h5=>?_;have g4:=g3 (by simpa using h5);have g5:=g1.ga g4.2.1;have m3:=g1.adv g4.1;have m4:=g1.toGd.trans g2;refine (ih _ r.2 g2.inv (by rw [m4.len];omega) (by simp only [nL,uP];omega)).mono fun s ⟨s1,s2,s3⟩=>⟨g5.toGd.trans s1,s2,fun e hl=>?_⟩;obtain ⟨v1,v2⟩:=hx (s1.e0 e) hl;obtain ⟨v3,v4⟩:=s3 e v1;exact ⟨v3,by omega⟩
theorem GP (h:PI p) (hn:13<n) (hb:(p.l_.length:Int) - p.gC<n):bC (gH n p) fun r=>GA p r.2/\r.1.length<=65538/\(r.2.e_=0->(∀x ∈ r.1,WP x)/\tI r.1<=r.2.gC - p.gC):=by
 unfold gH;refine (iM h hn).bind fun q g1=>(jW g1.inv hn).bind fun r ⟨g2,g3,g4⟩=>?_;have m1:=g1.at';have m2:=g2.at';refine bC.iteb (fun h5=>.some ⟨g1.gd g2,by simp,fun _=>⟨(fun x hx=>nomatch hx),by rw [mM];simp only;omega⟩⟩) fun h5=>?_;have g5:=g1.gd g2;have k0:=g2.inv.lo;refine bC.bind (P:=fun y=>Gd r.2 y.2/\y.1.length<=65538/\(y.2.e_=0->(∀x ∈ y.1,WP x)/\tI y.1<=y.2.gC - r.2.gC)) ?_ fun y ⟨g6,m3,m4⟩=>?_
 ·refine (Hy hn n [] r.2 g2.inv (by rw [g5.len];omega) (by simpa using k0)).bind fun y ⟨y1,y2,y3⟩=>.some ⟨y1,?_,fun e=>?_⟩
  ·have k1:=y1.inv.hi;have k2:=y1.inv.big;show y.1.length<=_;omega
  ·obtain ⟨w1,w2⟩:=y3 e (fun x hx=>nomatch hx);exact ⟨w1,by rw [mM] at w2;simp only;omega⟩
 ·refine (iM g6.inv hn).bind fun s g7=>.some ⟨(g5.gd g6).ga g7,m3,fun e=>?_⟩;obtain ⟨w1,w2⟩:=m4 (g7.toGd.e0 e);have m5:=g7.at';exact ⟨w1,by simp only;omega⟩
theorem KN (h:PI p) {a:Int}:bC (mH p a) fun q=>Gd p q:=by
 unfold mH;refine bC.iteb (fun _=>?_) fun _=>.some (.refl h);exact (Dz h (by decide)).bind fun q ⟨g,_⟩=>.some g
theorem Qg (h:PI p) (hn:13<n) (x:List cR) (hx:x.length=3):∀(c:Nat) (v:Nat),3<v+c->v<=3->bC (jS n x p c v) fun r=>match r with | .inl _=>True | .inr t=>p.e_=0/\t ∈ x/\t ≠ []:=by
 intro c
 induction c with
 | zero=>intro v h1 h2;omega
 | succ c ih=>
   intro v h1 h2;unfold jS;refine bC.iteb (fun h4=>?_) fun h4=>.some trivial;simp only [FV] at h4;refine bC.bind' (bC.idx (by omega) (by omega) fun z hz=>?_);refine bC.bind (P:=fun b=>b=true->p.e_=0/\z ≠ []) ?_ fun b hb=>?_
   ·refine bC.iteb (fun hz0=>?_) fun _=>.some fun h=>by cases h
    exact (GT h hn).bind fun b hb=>.some fun h=>⟨(hb h).1,by simpa using hz0⟩
   ·refine bC.iteb (fun h5=>.some ⟨(hb h5).1,AT hz,(hb h5).2⟩) fun h5=>?_;rw [fR (by omega) (by omega)];exact ih (v+1) (by omega) (by omega)
theorem Ia (h:PI p) (hn:13<n) {a:Int} (h0:0<=a) (h1:a<7):bC (mG n p a) fun t=>t ≠ []->p.e_=0/\t ∈ BE:=by
 unfold mG;refine bC.bind' (bC.idx h0 (by have:dE.length=7:=rfl;omega) fun x hx=>?_)
 have hl:x.length=3:=by
  have:(dE.all fun y=>y.length == 3)=true:=by decide
  simpa using FJ.1 this x (AT hx)
 refine (Qg h hn x hl n 0 (by omega) (by omega)).bind fun y hy=>bC.elim (fun _ _=>.some fun h=>absurd rfl h) fun z e=>?_;subst e;refine .some fun _=>⟨hy.1,?_⟩;have hall:(dE.all fun x=>x.all fun s=>s == [] || BE.contains s)=true:=by decide
 have:=FJ.1 (FJ.1 hall x (AT hx)) z hy.2.1;simp only [Nr,beq_iff_eq,xdi] at this;exact this.resolve_left hy.2.2
end
def Lf (p:aC):Int:=16*((p.l_.length:Int) - p.gC)
theorem Gd.lf {p q:aC} (h:Gd p q):Lf q<=Lf p:=by have:=h.at';unfold Lf;rw [h.len];omega
theorem GA.lf {p q:aC} (h:GA p q) (he:q.e_=0):Lf q+16<=Lf p:=by have:=h.adv he;unfold Lf;rw [h.toGd.len];omega
theorem PI.lf {p:aC} (h:PI p):16<=Lf p:=by have:=h.hi;unfold Lf;omega
def Sx (p:aC) (r:aB × aC):Prop:=r.2.e_=0->WE r.1/\sz r.1<=r.2.gC - p.gC
def SL (p:aC) (r:List aB × aC):Prop:=r.2.e_=0->(∀x ∈ r.1,WE x)/\tI r.1<=r.2.gC - p.gC
def Np (n:Nat) (k:Int) (f:aC->Int->Option (aB × aC)):Prop:=∀p a,PI p->Lf p+k<=n->bC (f p a) fun r=>GA p r.2/\Sx p r
def OkL (n:Nat) (f:aC->Int->Int->Option (aB × aC)):Prop:=∀p a b,PI p->0<=a->a<=7->Lf p+29 - a<=n->bC (f p a b) fun r=>GA p r.2/\Sx p r
def OkA (n:Nat) (f:aC->Int->Option ((List aB) × aC)):Prop:=∀p a,PI p->Lf p+25<=n->bC (f p a) fun r=>GA p r.2/\SL p r
section
variable {n:Nat} {p:aC}
theorem QA (hn:13<n) {f:aC->Int->Int->Option (aB × aC)} {a1 a2:Int} (h0:0<=a1) (h6:a1<7) {k:Int} (hf:∀p,PI p->Lf p<=k->bC (f p (a1+1) a2) fun r=>GA p r.2/\Sx p r) :
  ∀(c:Nat) (t:cR) (p:aC) (x:aB),PI p->Lf p<=k->1<=c->(t ≠ []->Lf p+1<=c/\t ∈ BE)->bC (jA f n a1 a2 c t p x) fun r=>Gd p r.1/\(r.1.e_=0->WE x->WE r.2/\sz r.2<=sz x+(r.1.gC - p.gC)):=by
 intro c
 induction c with
 | zero=>intro t p x h hl h1;omega
 | succ c ih=>
   intro t p x h hl h1 h2;unfold jA;refine bC.iteb (fun h4=>?_) fun h4=>.some ⟨.refl h,fun _ hw=>⟨hw,by simp only;omega⟩⟩;simp only [ne_eq,FV] at h4;obtain ⟨h5,hsg⟩:=h2 h4;have h6':=h.lf;refine (wN h).bind fun r ⟨g1,e1⟩=>(iM g1.inv hn).bind fun q g2=>?_;have l1:=g1.lf;have l2:=g2.toGd.lf;rw [fR (n:=a1+1) (by omega) (by omega)];refine (hf q g2.inv (by omega)).bind fun s ⟨g3,sx⟩=>?_;have g4:=g1.ga (g2.ga g3)
   have hx:s.2.e_=0->WE x->WE { r.1 with cP:=t,aP:=[x,s.1] }/\sz { r.1 with cP:=t,aP:=[x,s.1] }<=sz x+(s.2.gC - p.gC):=fun e hw=>by
    obtain ⟨w1,w2⟩:=sx e;have m2:=g2.adv (g3.toGd.e0 e);have m1:=g1.at';rw [e1];exact ⟨.bin hsg hw w1,by rw [gM,FN];omega⟩
   refine bC.iteb (fun _=>.some ⟨g4.toGd,hx⟩) fun _=>?_;refine (Ia g3.inv hn h0 h6).bind fun t' ht=>?_;have l3:=g3.toGd.lf;refine (ih t' s.2 _ g3.inv (by omega) (by omega) fun hne=>?_).mono fun r ⟨g5,g6⟩=>⟨g4.toGd.trans g5,fun e hw=>?_⟩
   ·have l4:=g4.lf (ht hne).1;exact ⟨by omega,(ht hne).2⟩
   ·obtain ⟨v1,v2⟩:=hx (g5.e0 e) hw;obtain ⟨v3,v4⟩:=g6 e v1;exact ⟨v3,by omega⟩
theorem level_b (hn:13<n) {fo:aC->Int->Option (aB × aC)} {fl:aC->Int->Int->Option (aB × aC)} (ho:Np n 21 fo) (hl:OkL n fl):OkL (n+1) (lL fo fl n):=by
 intro p a b h h0 h7 hb;unfold lL;refine bC.iteb (fun h1=>?_) fun h1=>?_
 ·simp only [beq_iff_eq] at h1;exact (ho p b h (by omega)).bind fun r g=>.some g
 ·simp only [beq_eq_false_iff_ne,ne_eq] at h1;rw [fR (n:=a+1) (by omega) (by omega)];refine (hl p (a+1) b h (by omega) (by omega) (by omega)).bind fun r ⟨g,sx⟩=>?_;have l1:=g.toGd.lf;have l2:=g.inv.lf;refine (Ia g.inv hn h0 (by omega)).bind fun t ht=>?_;refine (QA hn h0 (by omega) (k:=Lf r.2) (fun q hq hk=>hl q (a+1) b hq (by omega) (by omega) (by omega)) n t r.2 r.1 g.inv (Pg _) (by omega) (fun hne=>⟨by omega,(ht hne).2⟩)).bind fun s ⟨g2,sx2⟩=>.some ⟨g.gd g2,fun e=>?_⟩;obtain ⟨v1,v2⟩:=sx (g2.e0 e);obtain ⟨v3,v4⟩:=sx2 e v1;exact ⟨v3,by simp only;omega⟩
theorem expr_b {fl:aC->Int->Int->Option (aB × aC)} (hl:OkL n fl):Np (n+1) 30 (mX fl n):=by
 intro p a h hb;unfold mX;exact (hl p 0 a h (by omega) (by omega) (by omega)).bind fun r g=>.some g
theorem Kl {fe:aC->Int->Option (aB × aC)} (he:Np n 30 fe):Np (n+1) 31 (jM fe n):=by
 intro p a h hb;unfold jM;exact (he p _ h (by omega)).bind fun r g=>.some g
theorem SL.more {p q r:aC} {x:aB} {l:List aB} (g1:Gd p q) (sx:Sx p (x,q)) (g2:Gd q r):r.e_=0->(∀x ∈ l,WE x)->(∀y ∈ l++[x],WE y)/\tI (l++[x])<=tI l+(r.gC - p.gC):=fun e hl=>by
 obtain ⟨w1,w2⟩:=sx (g2.e0 e);have m2:=g2.at';simp only at w2;refine ⟨fun y hy=>?_,by rw [DH,qV];omega⟩
 rcases Ah.1 hy with hy | hy
 ·exact hl y hy
 ·obtain rfl:=AU.1 hy;exact w1
theorem Gc (hn:13<n) {fo:aC->Int->Option (aB × aC)} {k:Int} {a:Int} (hf:∀p,PI p->Lf p<=k->bC (fo p a) fun r=>GA p r.2/\Sx p r):∀(c:Nat) (l:List aB) (p:aC),PI p->(p.e_=0->Lf p<=k)->(p.l_.length:Int) - p.gC<c->(l.length:Int)<=p.gC->bC (fI fo n a c l p) fun r=>Gd p r.2/\(r.1.length:Int)<=r.2.gC+1/\(r.2.e_=0->(∀x ∈ l,WE x)->(∀x ∈ r.1,WE x)/\tI r.1<=tI l+(r.2.gC - p.gC)):=by
 intro c
 induction c with
 | zero=>intro l p h _ h1 h2;have:=h.hi;omega
 | succ c ih=>
   intro l p h hk h1 h2;have k1:=h.lo;have k2:=h.hi;have k3:=h.big;unfold fI;refine bC.iteb (fun h4=>?_) fun h4=>.some ⟨.refl h,by simp only;omega,fun _ hl=>⟨hl,by simp only;omega⟩⟩;simp only [beq_iff_eq] at h4;refine (hf p h (hk h4)).bind fun x ⟨g1,sx⟩=>?_;refine bC.need (by simp only [uP];omega) ?_;refine (jW g1.inv hn).bind fun r ⟨g2,g3,_⟩=>?_;have m1:=g1.at';have m2:=g2.at';have hx:=SL.more (l:=l) g1.toGd sx g2;refine bC.iteb (fun h5=>.some ⟨g1.toGd.trans g2,by simp only [nL,uP];omega,hx⟩) fun h5=>?_;have g4:=g3 (by simpa using h5);have g5:=g1.ga g4.2.1;have m3:=g1.adv g4.1;have m4:=g1.toGd.trans g2;have m5:=g5.toGd.lf;have m6:=hk h4;refine (ih _ r.2 g2.inv (fun _=>by omega) (by rw [m4.len];omega) (by simp only [nL,uP];omega)).mono fun s ⟨s1,s2,s3⟩=>⟨g5.toGd.trans s1,s2,fun e hl=>?_⟩;obtain ⟨v1,v2⟩:=hx (s1.e0 e) hl;obtain ⟨v3,v4⟩:=s3 e v1;exact ⟨v3,by omega⟩
theorem GQ (hn:13<n) {fo:aC->Int->Option (aB × aC)} (ho:Np n 31 fo):OkA (n+1) (gQ fo n):=by
 intro p a h hb;unfold gQ;refine (iM h hn).bind fun q g1=>(jW g1.inv hn).bind fun r ⟨g2,g3,g4⟩=>?_;have m1:=g1.at';have m2:=g2.at';refine bC.iteb (fun h5=>.some ⟨g1.gd g2,fun _=>⟨(fun x hx=>nomatch hx),by rw [mM];simp only;omega⟩⟩) fun h5=>?_;have g5:=g1.gd g2;have k0:=g2.inv.lo;have k1:=g5.toGd.lf;have k2:=h.lf;refine bC.bind (P:=fun y=>Gd r.2 y.2/\SL r.2 y) ?_ fun y ⟨g6,s6⟩=>?_
 ·refine (Gc hn (k:=(n:Int) - 31) (fun q hq hk=>ho q a hq (by omega)) n [] r.2 g2.inv (fun he=>?_) ?_ (by simpa using k0)).bind fun y ⟨y1,y2,y3⟩=>.some ⟨y1,fun e=>?_⟩
  ·have:=g5.lf he;omega
  ·unfold Lf at hb k1;rw [g5.toGd.len] at k1 ⊢;have:=h.hi;omega
  ·obtain ⟨w1,w2⟩:=y3 e (fun x hx=>nomatch hx);exact ⟨w1,by rw [mM] at w2;simp only;omega⟩
 ·refine (iM g6.inv hn).bind fun s g7=>.some ⟨(g5.gd g6).ga g7,fun e=>?_⟩;obtain ⟨w1,w2⟩:=s6 (g7.toGd.e0 e);have m5:=g7.at';exact ⟨w1,by simp only;omega⟩
theorem LK (hn:13<n) {fo:aC->Int->Option (aB × aC)} {k:Int} (hf:∀p a,PI p->Lf p<=k->bC (fo p a) fun r=>GA p r.2/\Sx p r) {a1:Int}:∀(c:Nat) (v:Nat) (p:aC) (x y:aB),2<v+c->v<=2->PI p->Lf p<=k+16->bC (iE fo n a1 c v p x y) fun r=>match r with | .inl s=>Gd p s.1/\s.2.1=x | .inr s=>GA p s.2/\(x.mE=0->Sx p s):=by
 intro c
 induction c with
 | zero=>intro v p x y h1 h2;omega
 | succ c ih=>
   intro v p x y h1 h2 h hk;unfold iE;refine bC.iteb (fun h4=>?_) fun h4=>.some ⟨.refl h,rfl⟩;simp only [FV] at h4;refine bC.bind' (bC.idx (by omega) (by have:mQ.length=2:=rfl;omega) fun z hz=>?_);refine (jW h hn).bind fun r ⟨g1,g2,g3⟩=>?_;refine bC.iteb (fun h5=>?_) fun h5=>?_
   ·obtain ⟨_,g4,g5⟩:=g2 h5;have l1:=g4.lf g5;refine (hf r.2 _ g1.inv (by omega)).bind fun s ⟨g6,sx⟩=>.some ⟨g4.ga g6,fun hx e=>?_⟩;obtain ⟨w1,w2⟩:=sx e;have m1:=g4.adv (g6.toGd.e0 e);refine ⟨?_,by simp only [gM,qV];omega⟩;simp only [hx];refine .un ?_ w1;have hm:=AT hz;simpa [mQ] using hm
   ·rw [fR (by omega) (by omega)];have l1:=g1.lf;refine (ih (v+1) r.2 x y (by omega) (by omega) g1.inv (by omega)).mono fun s hs=>?_;cases s with
    | inl s=>exact ⟨g1.trans hs.1,hs.2⟩
    | inr s=>
      refine ⟨g1.ga hs.1,fun hx e=>?_⟩;obtain ⟨w1,w2⟩:=hs.2 hx e;have:=g1.at';exact ⟨w1,by omega⟩
theorem Oh (hn:13<n) {fe fo:aC->Int->Option (aB × aC)} {fa:aC->Int->Option ((List aB) × aC)} (he:Np n 30 fe) (ho:Np n 21 fo) (ha:OkA n fa):Np (n+1) 21 (kI fe fo fa n):=by
 intro p a h hb;unfold kI;refine (KN h).bind fun q g1=>(jW g1.inv hn).bind fun r ⟨g2,g3,_⟩=>?_;have m1:=g1.lf;have m2:=g2.lf;have m3:=h.lf;have n1:=g1.at';have n2:=g2.at';refine bC.iteb (fun h5=>?_) fun h5=>?_
 ·obtain ⟨_,g4,g5⟩:=g3 h5;have l1:=g4.lf g5;refine (he r.2 _ g2.inv (by omega)).bind fun s ⟨g6,sx⟩=>(iM g6.inv hn).bind fun t g7=>.some ⟨g1.ga (g4.ga (g6.ga g7)),fun e=>?_⟩;obtain ⟨w1,w2⟩:=sx (g7.toGd.e0 e);have n3:=g7.at';exact ⟨w1,by simp only;omega⟩
 ·refine (wN g2.inv).bind fun s ⟨g4,e4⟩=>?_;have m4:=g4.lf;have n4:=g4.at';refine (LK hn (k:=(n:Int) - 21) (fun q b hq hk=>ho q b hq (by omega)) n 0 s.2 _ _ (by omega) (by omega) g4.inv (by omega)).bind fun y hy=>?_;have g5:=g1.trans (g2.trans g4);refine bC.elim (fun z e=>?_) fun z e=>?_
  ·subst e;have hy':Gd s.2 z.1:=hy.1;have hz:z.2.1=s.1:=hy.2;have g6:=g5.trans hy';have n5:=hy'.at';rw [hz,e4];refine bC.bind (P:=fun _=>True) ?_ fun b _=>?_
   ·refine bC.iteb (fun _=>?_) fun _=>.some trivial;exact (tV hy'.inv).bind fun t _=>.some trivial
   ·refine bC.iteb (fun _=>?_) fun _=>?_
    ·refine (GL hy'.inv).bind fun t g7=>.some ⟨g6.ga g7,fun e=>?_⟩;have:=g7.adv e;exact ⟨.num,by simp only [gM,mM];omega⟩
    ·refine (yR hy'.inv hn).bind fun t g7=>?_;have g8:=g6.ga g7;have l8:=g8.toGd.lf;refine bC.bind (P:=fun y=>GA p y.1/\Sx p (y.2,y.1)) ?_ fun y hy=>.some hy;refine (GT g7.inv hn).bind fun b hb=>bC.iteb (fun h9=>?_) fun h9=>?_
     ·have l9:=g8.lf (hb h9).1;refine (ha t.2 a g7.inv (by omega)).bind fun u ⟨g9,sx⟩=>.some ⟨g8.ga g9,fun e=>?_⟩;obtain ⟨w1,w2⟩:=sx e;have:=g7.adv (g9.toGd.e0 e);exact ⟨.call w1,by simp only [gM];omega⟩
     ·refine (jW g7.inv hn).bind fun u ⟨g9,g10,_⟩=>bC.iteb (fun h10=>?_) fun h10=>.some ⟨g8.gd g9,fun e=>?_⟩
      ·obtain ⟨_,g11,g12⟩:=g10 h10;have l9:=g11.lf g12;refine (he u.2 _ g9.inv (by omega)).bind fun v ⟨g13,sx⟩=>(iM g13.inv hn).bind fun w g14=>.some ⟨g8.ga (g11.ga (g13.ga g14)),fun e=>?_⟩;have ev:=g14.toGd.e0 e;obtain ⟨w1,w2⟩:=sx ev;have n6:=g14.at';have n7:=g7.adv (g9.e0 (g13.toGd.e0 ev));have n8:=g9.at';exact ⟨.index w1,by simp only [gM,qV];omega⟩
      ·have n7:=g7.adv (g9.e0 e);have n8:=g9.at';exact ⟨.ref,by simp only [gM,mM];omega⟩
  ·subst e;refine .some ⟨g5.ga hy.1,fun e=>?_⟩;obtain ⟨w1,w2⟩:=hy.2 (by rw [e4]) e;exact ⟨w1,by omega⟩
theorem grp_ok:∀n:Nat,OkA n (bI n).1/\Np n 30 (bI n).2.1/\OkL n (bI n).2.2.1/\Np n 21 (bI n).2.2.2.1/\Np n 31 (bI n).2.2.2.2:=by
 have small:∀n:Nat,n<=14->OkA n (bI n).1/\Np n 30 (bI n).2.1/\OkL n (bI n).2.2.1/\Np n 21 (bI n).2.2.2.1/\Np n 31 (bI n).2.2.2.2:=by
  intro n hn;refine ⟨fun p a h hb=>?_,fun p a h hb=>?_,fun p a b h h0 h7 hb=>?_,fun p a h hb=>?_,fun p a h hb=>?_⟩ <;> (have:=h.lf;omega)
 intro n
 induction n with
 | zero=>exact small 0 (by omega)
 | succ n ih=>
   by_cases hn:13<n
   ·obtain ⟨i1,i2,i3,i4,i5⟩:=ih;exact ⟨GQ hn i5,expr_b i3,level_b hn i4 i3,Oh hn i2 i4 i1,Kl i2⟩
   ·exact small (n+1) (by omega)
theorem vC (h:PI p) {a:Int} (hb:Lf p+30<=n):bC (fE n p a) fun r=>GA p r.2/\Sx p r:=(grp_ok n).2.1 p a h hb
theorem Id (h:PI p) {x:aB} {a:Int} (hb:Lf p+30<=n):bC (kP n p x a) fun r=>GA p r.2/\(r.2.e_=0->∃s y,r.1={ x with cP:=s,aP:=[y] }/\WE y/\sz y+1<=r.2.gC - p.gC):=by
 have hn:13<n:=by have:=h.lf;omega
 unfold kP;refine (yR h hn).bind fun r g1=>(iM g1.inv hn).bind fun q g2=>?_;have l1:=g1.toGd.lf;have l2:=g2.toGd.lf;refine (vC g2.inv (by omega)).bind fun s ⟨g3,sx⟩=>(iM g3.inv hn).bind fun t g4=>.some ⟨g1.ga (g2.ga (g3.ga g4)),fun e=>?_⟩;obtain ⟨w1,w2⟩:=sx (g4.toGd.e0 e);have n1:=g1.at';have n2:=g2.at';have n4:=g4.adv e;exact ⟨_,_,rfl,w1,by simp only;omega⟩
theorem Kg (h:PI p) {a:Int} (hb:Lf p+30<=n):bC (lJ n p a) fun r=>GA p r.2/\Sx p r:=by
 unfold lJ;exact (vC h hb).bind fun r g=>.some g
theorem Hx (hn:13<n) {a:Int}:∀(c:Nat) (l:List aB) (p:aC),PI p->Lf p+30<=n->(p.l_.length:Int) - p.gC<c->(l.length:Int)<=p.gC->bC (fY n a c l p) fun r=>Gd p r.2/\(r.1.length:Int)<=r.2.gC+1/\(r.2.e_=0->(∀x ∈ l,WE x)->(∀x ∈ r.1,WE x)/\tI r.1<=tI l+(r.2.gC - p.gC)):=by
 intro c
 induction c with
 | zero=>intro l p h _ h1 h2;have:=h.hi;omega
 | succ c ih=>
   intro l p h hk h1 h2;have k1:=h.lo;have k2:=h.hi;have k3:=h.big;unfold fY;refine bC.iteb (fun h4=>?_) fun h4=>.some ⟨.refl h,by simp only;omega,fun _ hl=>⟨hl,by simp only;omega⟩⟩;refine (Kg h hk).bind fun x ⟨g1,sx⟩=>?_;refine bC.need (by simp only [uP];omega) ?_;refine (jW g1.inv hn).bind fun r ⟨g2,g3,_⟩=>?_;have m1:=g1.at';have m2:=g2.at';have hx:=SL.more (l:=l) g1.toGd sx g2;refine bC.iteb (fun h5=>.some ⟨g1.toGd.trans g2,by simp only [nL,uP];omega,hx⟩) fun h5=>?_;have g4:=g3 (by simpa using h5);have g5:=g1.ga g4.2.1;have m3:=g1.adv g4.1;have m4:=g1.toGd.trans g2;have m5:=g5.toGd.lf;refine (ih _ r.2 g2.inv (by omega) (by rw [m4.len];omega) (by simp only [nL,uP];omega)).mono fun s ⟨s1,s2,s3⟩=>⟨g5.toGd.trans s1,s2,fun e hl=>?_⟩;obtain ⟨v1,v2⟩:=hx (s1.e0 e) hl;obtain ⟨v3,v4⟩:=s3 e v1;exact ⟨v3,by omega⟩
theorem GO (h:PI p) {a:Int} (hb:Lf p+30<=n):bC (iL n p a) fun r=>GA p r.2/\SL p r:=by
 have hn:13<n:=by have:=h.lf;omega
 unfold iL;refine (iM h hn).bind fun q g1=>(jW g1.inv hn).bind fun r ⟨g2,g3,g4⟩=>?_;have m1:=g1.at';have m2:=g2.at';refine bC.iteb (fun h5=>.some ⟨g1.gd g2,fun _=>⟨(fun x hx=>nomatch hx),by rw [mM];simp only;omega⟩⟩) fun h5=>?_;have g5:=g1.gd g2;have k0:=g2.inv.lo;have k1:=g5.toGd.lf;refine bC.bind (P:=fun y=>Gd r.2 y.2/\SL r.2 y) ?_ fun y ⟨g6,s6⟩=>?_
 ·refine (Hx hn n [] r.2 g2.inv (by omega) ?_ (by simpa using k0)).bind fun y ⟨y1,y2,y3⟩=>.some ⟨y1,fun e=>?_⟩
  ·unfold Lf at hb k1;rw [g5.toGd.len] at k1 ⊢;have:=h.hi;omega
  ·obtain ⟨w1,w2⟩:=y3 e (fun x hx=>nomatch hx);exact ⟨w1,by rw [mM] at w2;simp only;omega⟩
 ·refine (iM g6.inv hn).bind fun s g7=>.some ⟨(g5.gd g6).ga g7,fun e=>?_⟩;obtain ⟨w1,w2⟩:=s6 (g7.toGd.e0 e);have m5:=g7.at';exact ⟨w1,by simp only;omega⟩
def St0 (x:aB):Prop:=x=⟨8,x.fQ,[],0,[]⟩
def Ss (p:aC) (r:aB × aC):Prop:=r.2.e_=0->WS r.1/\sz r.1<=r.2.gC - p.gC
theorem Of (h:PI p) {x:aB} {a:Int} (hb:Lf p+30<=n) (hx:St0 x):bC (nY n p x a) fun r=>GA p r.2/\Ss p r:=by
 have hn:13<n:=by have:=h.lf;omega
 unfold nY;rw [hx];refine (yR h hn).bind fun r g1=>?_;have l1:=g1.toGd.lf;have n1:=g1.at';refine bC.bind (P:=fun y=>GA p y.1/\(y.1.e_=0->WS y.2/\sz y.2<=1+(y.1.gC - p.gC))) ?_ fun y hy=>?_
 case refine_2=>
  obtain ⟨hy',hs⟩:GA p y.1/\(y.1.e_=0->WS y.2/\sz y.2<=1+(y.1.gC - p.gC)):=hy;refine (iM hy'.inv hn).bind fun s g=>.some ⟨hy'.ga g,fun e=>?_⟩;obtain ⟨w1,w2⟩:=hs (g.toGd.e0 e);have:=g.adv e;exact ⟨w1,by simp only;omega⟩
 refine (GT g1.inv hn).bind fun b _=>bC.iteb (fun _=>?_) fun _=>?_
 ·refine (GO g1.inv (by omega)).bind fun s ⟨g2,sx⟩=>.some ⟨g1.ga g2,fun e=>?_⟩;obtain ⟨w1,w2⟩:=sx e;exact ⟨.call w1,by simp only [gM];omega⟩
 ·refine (jW g1.inv hn).bind fun s ⟨g2,_,_⟩=>?_;have l2:=g2.lf;have n2:=g2.at';refine bC.iteb (fun _=>?_) fun _=>?_
  ·refine (vC g2.inv (by omega)).bind fun t ⟨g3,s3⟩=>(iM g3.inv hn).bind fun u g4=>(iM g4.inv hn).bind fun v g5=>?_;have l3:=g3.toGd.lf;have l4:=g4.toGd.lf;have l5:=g5.toGd.lf;refine (vC g5.inv (by omega)).bind fun w ⟨g6,s6⟩=>bC.need (by simp) (.some ⟨g1.gd (g2.trans (g3.toGd.trans (g4.toGd.trans (g5.toGd.trans g6.toGd)))),fun e=>?_⟩);obtain ⟨w1,w2⟩:=s6 e;have e5:=g6.toGd.e0 e;obtain ⟨w3,w4⟩:=s3 (g4.toGd.e0 (g5.toGd.e0 e5));have n4:=g4.at';have n5:=g5.at';exact ⟨.put w3 w1,by simp only [gM,List.singleton_append,FN];omega⟩
  ·refine (iM g2.inv hn).bind fun v g5=>?_;have l5:=g5.toGd.lf;have n5:=g5.at';refine (vC g5.inv (by omega)).bind fun w ⟨g6,s6⟩=>.some ⟨g1.gd (g2.trans (g5.toGd.trans g6.toGd)),fun e=>?_⟩;obtain ⟨w1,w2⟩:=s6 e;exact ⟨.set w1,by simp only [gM,qV];omega⟩
end
def Bk (p:aC) (r:aB × aC):Prop:=r.2.e_=0->(r.1=⟨4,r.1.fQ,[],0,r.1.aP⟩/\∀y ∈ r.1.aP,WS y)/\sz r.1<=r.2.gC - p.gC
def OkS (n:Nat) (f:aC->Int->Option (aB × aC)):Prop:=∀p a,PI p->Lf p+45<=n->bC (f p a) fun r=>GA p r.2/\Ss p r
def OkK (n:Nat) (f:aC->Int->Option (aB × aC)):Prop:=∀p a,PI p->Lf p+46<=n->bC (f p a) fun r=>GA p r.2/\Bk p r
def OkN (n:Nat) (k:Int) (f:aC->aB->Int->Option (aB × aC)):Prop:=∀p x a,PI p->Lf p+k<=n->St0 x->bC (f p x a) fun r=>GA p r.2/\(r.2.e_=0->WS r.1/\sz r.1<=1+(r.2.gC - p.gC))
section
variable {n:Nat} {p:aC}
theorem Rn (hn:13<n) {fs:aC->Int->Option (aB × aC)} {k:Int} {a:Int} (hf:∀p,PI p->Lf p<=k->bC (fs p a) fun r=>GA p r.2/\Ss p r):∀(c:Nat) (p:aC) (x:aB),PI p->(p.e_=0->Lf p<=k)->(p.l_.length:Int) - p.gC<c->1<=c->(p.e_=0->(x.aP.length:Int)<=p.gC)->(x.aP.length:Int)<=65538->bC (gZ fs n a c p x) fun r=>Gd p r.1/\(r.1.e_=0->(∀y ∈ x.aP,WS y)->(∀y ∈ r.2.aP,WS y)/\tI r.2.aP<=tI x.aP+(r.1.gC - p.gC)/\r.2={ x with aP:=r.2.aP }):=by
 intro c
 induction c with
 | zero=>intro p x h _ h1 h2;omega
 | succ c ih=>
   intro p x h hk h1 h2 h3 h4;have k1:=h.lo;have k2:=h.hi;have k3:=h.big;unfold gZ;refine bC.bind (P:=fun b=>b=true->p.e_=0) ?_ fun b hb=>?_
   ·refine bC.iteb (fun he=>?_) fun _=>.some fun h=>by cases h
    exact (GT h hn).bind fun b hb=>.some fun _=>by simpa using he
   ·refine bC.iteb (fun h5=>?_) fun h5=>.some ⟨.refl h,fun _ hl=>⟨hl,by simp only;omega,by cases x;rfl⟩⟩;have he:=hb h5;refine (hf p h (hk he)).bind fun r ⟨g,ss⟩=>?_;have m1:=g.at';have m2:=hk he;have m3:=h3 he;have m4:=g.toGd.lf;have m5:=g.inv.hi;have m6:=g.toGd.len;refine bC.need (by simp only [uP];omega) ?_
    by_cases he2:r.2.e_=0
    ·have m7:=g.adv he2;obtain ⟨w1,w2⟩:=ss he2;refine (ih r.2 _ g.inv (fun _=>by omega) (by rw [m6];omega) (by omega) (fun _=>by simp only [nL,uP];omega) (by simp only [nL,uP];omega)).mono fun s ⟨g2,s2⟩=>⟨g.toGd.trans g2,fun e hl=>?_⟩
     obtain ⟨v1,v2,v3⟩:=s2 e (fun y hy=>by
      rcases Ah.1 hy with hy | hy
      ·exact hl y hy
      ·obtain rfl:=AU.1 hy;exact w1)
     refine ⟨v1,?_,v3⟩;simp only [DH,qV] at v2;omega
    ·cases c with
     | zero=>omega
     | succ c=>
       unfold gZ;rw [if_neg (by simpa using he2),pI,if_neg (by decide)];exact .some ⟨g.toGd,fun e=>absurd e he2⟩
theorem block_b {fs:aC->Int->Option (aB × aC)} (hs:OkS n fs):OkK (n+1) (lN fs n):=by
 intro p a h hb;have hn:13<n:=by have:=h.lf;omega
 unfold lN;refine (KN h).bind fun q g1=>(wN g1.inv).bind fun r ⟨g2,e2⟩=>(iM g2.inv hn).bind fun t g3=>?_;have e:r.1.aP=[]:=by rw [e2]
 have g4:=g1.trans g2;have g5:=g4.ga g3;have l5:=g5.toGd.lf;have k0:=g3.inv.lo;refine (Rn hn (k:=(n:Int) - 45) (fun q hq hk=>hs q a hq (by omega)) n t r.1 g3.inv (fun he=>?_) ?_ (by omega) (fun _=>by rw [e];simpa using k0) (by rw [e];simp)).bind fun y ⟨g6,s6⟩=>(iM g6.inv hn).bind fun s g7=>.some ⟨(g5.gd g6).ga g7,fun e3=>?_⟩
 ·have:=g5.lf he;omega
 ·unfold Lf at hb l5;rw [g5.toGd.len] at l5 ⊢;have:=h.hi;omega
 ·have ey:=g7.toGd.e0 e3;obtain ⟨v1,v2,v3⟩:=s6 ey (fun y hy=>by rw [e] at hy;cases hy);have n3:=g3.adv (g6.e0 ey);have n4:=g4.at';have n7:=g7.at';rw [e2] at v3;rw [e,mM] at v2;refine ⟨⟨by simp only;rw [v3],v1⟩,?_⟩;simp only [Dd];omega
theorem QZ {fb:aC->Int->Option (aB × aC)} (hf:OkK n fb):OkN (n+1) 47 (kR fb n):=by
 intro p x a h hb hx;have hn:13<n:=by have:=h.lf;omega
 unfold kR;rw [hx];refine (vC h (by omega)).bind fun r ⟨g1,s1⟩=>?_;have l1:=g1.toGd.lf;refine (hf r.2 _ g1.inv (by omega)).bind fun s ⟨g2,s2⟩=>bC.need (by simp) ((jW g2.inv hn).bind fun t ⟨g3,_,_⟩=>?_);have l2:=g2.toGd.lf;have l3:=g3.lf;have n3:=g3.at';refine bC.iteb (fun _=>?_) fun _=>.some ⟨(g1.ga g2).gd g3,fun e=>?_⟩
 ·refine (hf t.2 _ g3.inv (by omega)).bind fun u ⟨g4,s4⟩=>bC.need (by simp) (.some ⟨((g1.ga g2).gd g3).ga g4,fun e=>?_⟩);have e3:=g4.toGd.e0 e;have e2:=g3.e0 e3;obtain ⟨⟨a1,a2⟩,a3⟩:=s4 e;obtain ⟨⟨b1,b2⟩,b3⟩:=s2 e2;obtain ⟨c1,c2⟩:=s1 (g2.toGd.e0 e2);simp only [List.singleton_append,BB,tS];rw [gM,HQ];refine ⟨?_,by omega⟩;rw [a1,b1];exact .choice2 c1 b2 a2
 ·have e2:=g3.e0 e;obtain ⟨⟨b1,b2⟩,b3⟩:=s2 e2;obtain ⟨c1,c2⟩:=s1 (g2.toGd.e0 e2);simp only [List.singleton_append];rw [gM,FN];refine ⟨?_,by omega⟩;rw [b1];exact .choice c1 b2
theorem loop_b {fb:aC->Int->Option (aB × aC)} (hf:OkK n fb):OkN (n+1) 47 (mW fb n):=by
 intro p x a h hb hx;have hn:13<n:=by have:=h.lf;omega
 unfold mW;rw [hx];refine (yR h hn).bind fun r g1=>(iM g1.inv hn).bind fun s g2=>?_;have l1:=g1.toGd.lf;have l2:=g2.toGd.lf;have n1:=g1.at';have n2:=g2.at';refine (vC g2.inv (by omega)).bind fun t ⟨g3,s3⟩=>(iM g3.inv hn).bind fun u g4=>?_;have l3:=g3.toGd.lf;have l4:=g4.toGd.lf;have n4:=g4.at';refine (vC g4.inv (by omega)).bind fun v ⟨g5,s5⟩=>bC.need (by simp) ?_;have l5:=g5.toGd.lf;refine (hf v.2 _ g5.inv (by omega)).bind fun w ⟨g6,s6⟩=>bC.need (by simp) (.some ⟨g1.ga (g2.ga (g3.ga (g4.ga (g5.ga g6)))),fun e=>?_⟩);have e5:=g6.toGd.e0 e;have e4:=g5.toGd.e0 e5;obtain ⟨⟨b1,b2⟩,b3⟩:=s6 e;obtain ⟨c1,c2⟩:=s5 e5;obtain ⟨d1,d2⟩:=s3 (g4.toGd.e0 e4);simp only [List.singleton_append,BB,tS];rw [gM,HQ];refine ⟨?_,by omega⟩;rw [b1];exact .loop d1 c1 b2
theorem JM {fc fl:aC->aB->Int->Option (aB × aC)} (hc:OkN n 47 fc) (hl:OkN n 47 fl):OkS (n+1) (jL fc fl n):=by
 intro p a h hb;have hn:13<n:=by have:=h.lf;omega
 unfold jL;refine (wN h).bind fun r ⟨g1,e1⟩=>?_;have hx:St0 r.1:=e1;have l1:=g1.lf;have n1:=g1.at';refine bC.bind (P:=fun y=>match y with | .inl y=>GA p y.1/\(y.1.e_=0->WS y.2/\sz y.2<=1+(y.1.gC - p.gC)) | .inr y=>GA p y.2/\Ss p y) ?_ fun y hy=>?_
 ·refine (jW g1.inv hn).bind fun t1 ⟨a1,b1,_⟩=>bC.iteb (fun h1=>?_) fun h1=>?_
  ·have m1:=a1.lf;have o1:=a1.at';refine (Id a1.inv (by omega)).bind fun u ⟨g2,s2⟩=>.some ⟨g1.ga (a1.ga g2),fun e=>?_⟩;obtain ⟨s,y,q1,q2,q3⟩:=s2 e;simp only;rw [q1,e1];exact ⟨.bind (.inl rfl) q2,by simp only [gM,qV];omega⟩
  have m1:=a1.lf;have o1:=a1.at';refine (jW a1.inv hn).bind fun t2 ⟨a2,b2,_⟩=>bC.iteb (fun h2=>?_) fun h2=>?_
  ·have m2:=a2.lf;have o2:=a2.at';refine (Id a2.inv (by omega)).bind fun u ⟨g2,s2⟩=>.some ⟨g1.ga (a1.ga (a2.ga g2)),fun e=>?_⟩;obtain ⟨s,y,q1,q2,q3⟩:=s2 e;simp only;rw [q1,e1];exact ⟨.bind (.inr rfl) q2,by simp only [gM,qV];omega⟩
  have m2:=a2.lf;have o2:=a2.at';refine (jW a2.inv hn).bind fun t3 ⟨a3,b3,_⟩=>bC.iteb (fun h3=>?_) fun h3=>?_
  ·have o3:=a3.at';refine (yR a3.inv hn).bind fun u g2=>(JS g2.inv hn).bind fun v g3=>.some ⟨g1.ga (a1.ga (a2.ga (a3.ga (g2.ga g3)))),fun e=>?_⟩;have o4:=g2.at';have o5:=g3.at';simp only;rw [e1];exact ⟨.arr,by simp only [gM,mM];omega⟩
  have m3:=a3.lf;have o3:=a3.at';refine (jW a3.inv hn).bind fun t4 ⟨a4,b4,_⟩=>bC.iteb (fun h4=>?_) fun h4=>?_
  ·have m4:=a4.lf;have o4:=a4.at';refine (vC a4.inv (by omega)).bind fun u ⟨g2,s2⟩=>.some ⟨g1.ga (a1.ga (a2.ga (a3.ga (a4.ga g2)))),fun e=>?_⟩;obtain ⟨q1,q2⟩:=s2 e;simp only;rw [e1];exact ⟨.ret q1,by simp only [gM,qV];omega⟩
  have m4:=a4.lf;have o4:=a4.at';refine (jW a4.inv hn).bind fun t5 ⟨a5,b5,_⟩=>bC.iteb (fun h5=>?_) fun h5=>?_
  ·obtain ⟨_,c1,c2⟩:=b5 h5;have m5:=c1.lf c2;have o5:=c1.adv c2;refine (hc t5.2 _ _ a5.inv (by omega) hx).bind fun u ⟨g2,s2⟩=>.some ⟨g1.ga (a1.ga (a2.ga (a3.ga (a4.ga (a5.ga g2))))),fun e=>?_⟩;obtain ⟨q1,q2⟩:=s2 e;exact ⟨q1,by simp only;omega⟩
  have m5:=a5.lf;have o5:=a5.at';refine (jW a5.inv hn).bind fun t6 ⟨a6,b6,_⟩=>bC.iteb (fun h6=>?_) fun h6=>?_
  ·obtain ⟨_,c1,c2⟩:=b6 h6;have m6:=c1.lf c2;have o6:=c1.adv c2;refine (hl t6.2 _ _ a6.inv (by omega) hx).bind fun u ⟨g2,s2⟩=>.some ⟨g1.ga (a1.ga (a2.ga (a3.ga (a4.ga (a5.ga (a6.ga g2)))))),fun e=>?_⟩;obtain ⟨q1,q2⟩:=s2 e;exact ⟨q1,by simp only;omega⟩
  have m6:=a6.lf;have o6:=a6.at';refine (Of a6.inv (by omega) hx).bind fun u ⟨g2,s2⟩=>.some ⟨g1.ga (a1.ga (a2.ga (a3.ga (a4.ga (a5.ga (a6.ga g2)))))),fun e=>?_⟩;obtain ⟨q1,q2⟩:=s2 e;exact ⟨q1,by simp only;omega⟩
 ·refine bC.elim (fun z e=>?_) fun z e=>?_
  ·subst e;obtain ⟨hy',hs⟩:GA p z.1/\(z.1.e_=0->WS z.2/\sz z.2<=1+(z.1.gC - p.gC)):=hy;refine (iM hy'.inv hn).bind fun s g=>.some ⟨hy'.ga g,fun e=>?_⟩;obtain ⟨w1,w2⟩:=hs (g.toGd.e0 e);have:=g.adv e;exact ⟨w1,by simp only;omega⟩
  ·subst e;exact .some hy
theorem grp2_ok:∀n:Nat,OkK n (dM n).1/\OkS n (dM n).2.1/\OkN n 47 (dM n).2.2.1/\OkN n 47 (dM n).2.2.2:=by
 intro n
 induction n with
 | zero=>refine ⟨fun p a h hb=>?_,fun p a h hb=>?_,fun p x a h hb=>?_,fun p x a h hb=>?_⟩ <;> (have:=h.lf;omega)
 | succ n ih=>
   obtain ⟨i1,i2,i3,i4⟩:=ih;exact ⟨block_b i2,JM i3 i4,QZ i1,loop_b i1⟩
theorem FE (h:PI p) {a:Int} (hb:Lf p+46<=n):bC (eR n p a) fun r=>GA p r.2/\Bk p r:=(grp2_ok n).1 p a h hb
def Fx (p:aC) (r:aB × aC):Prop:=r.2.e_=0->WF r.1/\sz r.1<=r.2.gC - p.gC
theorem Je (h:PI p) (hb:Lf p+46<=n):bC (kQ n p) fun r=>GA p r.2/\Fx p r:=by
 have hn:13<n:=by have:=h.lf;omega
 unfold kQ;refine (wN h).bind fun r ⟨g1,e1⟩=>(jW g1.inv hn).bind fun t ⟨g2,_,_⟩=>?_;have g3:=g1.trans g2;have n3:=g3.at'
 have key:∀q:aC,GA p q->(q.l_.length:Int) - q.gC<n:=by
  intro q g;have:=g.toGd.lf;unfold Lf at this hb;have:=h.hi;have:=g.inv.hi;omega
 have fin:∀ {q b:aC} {ps:List aB} {z:aB × aC} {at' k:Int} {s:cR},Gd q b->GA b z.2->Bk b z->p.gC+1<=q.gC - tI ps->(b.e_=0->∀x ∈ ps,WP x)->Fx p (⟨2,at',s,k,ps++[z.1]⟩,z.2):=fun gb gz bz hq hp e=>by
  obtain ⟨⟨c1,c2⟩,c3⟩:=bz e;have eb:=gz.toGd.e0 e;have n1:=gb.at';refine ⟨?_,by simp only [gM,DH,qV];omega⟩;simp only;rw [c1];exact .fn (hp eb) c2
 have one:∀(k0 k1 k2:Int),bC ((bQ n t.2 [102,110]).bind fun x10=>(eN n x10).bind fun x11=>(gH n x11.2).bind fun x13=>(bX n x13.2 [45,62]).bind fun x15=>if x15.1=true then (bX n x15.2 [117,51,50]).bind fun x18=>if x18.1=true then (eR n x18.2 1).bind fun x21=>gV (x13.1.length+[x21.1].length<=1073741824) <| some (({ r.1 with mE:=k1,cP:=x11.1,aP:=x13.1++[x21.1] }:aB),x21.2) else (bQ n x18.2 [117,54,52]).bind fun x23=>(eR n x23 1).bind fun x25=>gV (x13.1.length+[x25.1].length<=1073741824) <| some (({ r.1 with mE:=k2,cP:=x11.1,aP:=x13.1++[x25.1] }:aB),x25.2) else (eR n x15.2 1).bind fun x27=>gV (x13.1.length+[x27.1].length<=1073741824) <| some (({ r.1 with mE:=k0,cP:=x11.1,aP:=x13.1++[x27.1] }:aB),x27.2)) fun r=>GA p r.2/\Fx p r:=by
  intro k0 k1 k2;rw [e1];refine (iM g2.inv hn).bind fun u g4=>(yR g4.inv hn).bind fun v g5=>?_;have g6:=g3.ga (g4.ga g5);have n6:=g5.at';refine (GP g5.inv hn (key _ g6)).bind fun w ⟨g7,hw,hp⟩=>(jW g7.inv hn).bind fun x ⟨g8,_,_⟩=>?_;have g9:=(g6.ga g7).gd g8;have l9:=g9.toGd.lf
  have big:∀ {b:aC},Gd w.2 b->b.e_=0->p.gC+1<=w.2.gC - tI w.1/\∀x ∈ w.1,WP x:=fun gb e=>by
   obtain ⟨q1,q2⟩:=hp (gb.e0 e);have:=g4.adv (g5.toGd.e0 (g7.toGd.e0 (gb.e0 e)));exact ⟨by omega,q1⟩
  have fin2:∀ {b:aC} {z:aB × aC} {at' k:Int} {s:cR},Gd w.2 b->GA b z.2->Bk b z->Fx p (⟨2,at',s,k,w.1++[z.1]⟩,z.2):=fun gb gz bz e=>fin gb gz bz (big gb (gz.toGd.e0 e)).1 (fun e2=>(big gb e2).2) e;refine bC.iteb (fun _=>?_) fun _=>?_
  ·refine (jW g8.inv hn).bind fun y ⟨g10,_,_⟩=>?_;have l10:=g10.lf;refine bC.iteb (fun _=>?_) fun _=>?_
   ·exact (FE g10.inv (by omega)).bind fun z ⟨g11,b11⟩=>bC.need (by simp only [uP];omega) (.some ⟨(g9.gd g10).ga g11,fin2 (g8.trans g10) g11 b11⟩)
   ·refine (iM g10.inv hn).bind fun y' g11=>?_;have l11:=g11.toGd.lf;exact (FE g11.inv (by omega)).bind fun z ⟨g12,b12⟩=>bC.need (by simp only [uP];omega) (.some ⟨((g9.gd g10).ga g11).ga g12,fin2 (g8.trans (g10.trans g11.toGd)) g12 b12⟩)
  ·exact (FE g8.inv (by omega)).bind fun z ⟨g11,b11⟩=>bC.need (by simp only [uP];omega) (.some ⟨g9.ga g11,fin2 g8 g11 b11⟩)
 exact bC.iteb (fun _=>one _ _ _) fun _=>one _ _ _
theorem RA:∀(c:Nat) (p:aC) (x:aB),PI p->Lf p+46<=n->(p.l_.length:Int) - p.gC<c->1<=c->(p.e_=0->(x.aP.length:Int)<=p.gC)->(x.aP.length:Int)<=65538->bC (oZ n c p x) fun r=>Gd p r.1/\(r.1.e_=0->(∀y ∈ x.aP,WF y)->(∀y ∈ r.2.aP,WF y)/\tI r.2.aP<=tI x.aP+(r.1.gC - p.gC)):=by
 intro c
 induction c with
 | zero=>intro p x h _ h1 h2;omega
 | succ c ih=>
   intro p x h hk h1 h2 h3 h4;have k1:=h.lo;have k2:=h.hi;have k3:=h.big;unfold oZ;refine bC.bind (P:=fun b=>b=true->p.e_=0) ?_ fun b hb=>?_
   ·refine bC.iteb (fun he=>?_) fun _=>.some fun h=>by cases h
    exact (tV h).bind fun b hb=>.some fun _=>by simpa using he
   ·refine bC.iteb (fun h5=>?_) fun h5=>.some ⟨.refl h,fun _ hl=>⟨hl,by simp only;omega⟩⟩;have he:=hb h5;refine (Je h hk).bind fun r ⟨g,fx⟩=>?_;have m1:=g.at';have m3:=h3 he;have m4:=g.toGd.lf;have m5:=g.inv.hi;have m6:=g.toGd.len;refine bC.need (by simp only [uP];omega) ?_
    by_cases he2:r.2.e_=0
    ·have m7:=g.adv he2;obtain ⟨w1,w2⟩:=fx he2;refine (ih r.2 _ g.inv (by omega) (by rw [m6];omega) (by omega) (fun _=>by simp only [nL,uP];omega) (by simp only [nL,uP];omega)).mono fun s ⟨g2,s2⟩=>⟨g.toGd.trans g2,fun e hl=>?_⟩
     obtain ⟨v1,v2⟩:=s2 e (fun y hy=>by
      rcases Ah.1 hy with hy | hy
      ·exact hl y hy
      ·obtain rfl:=AU.1 hy;exact w1)
     refine ⟨v1,?_⟩;simp only [DH,qV] at v2;omega
    ·cases c with
     | zero=>omega
     | succ c=>
       unfold oZ;rw [if_neg (by simpa using he2),pI,if_neg (by decide)];exact .some ⟨g.toGd,fun e=>absurd e he2⟩
end
theorem Ki {n:Nat} {s:cR} (hn:16*s.length+200<n):bC (wK n s) fun r=>r.2.1=0->(∀x ∈ r.1.aP,WF x)/\tI r.1.aP<=s.length+1:=by
 unfold wK;refine (Mq (by omega) (by omega)).bind fun x hx=>?_;refine bC.iteb (fun h1=>.some fun h=>?_) fun h1=>?_
 ·rw [show x.2.1=0 from h] at h1;cases h1
 obtain ⟨l,h2,h3,h4,h5⟩:=hx (by simpa using h1);have hp:PI (aC.mk x.1 0 0 0 0):=⟨by simp only;omega,by simp only [h2,nL,uP];omega,by simp only [h2,nL,uP];omega,⟨l,_,h2,h3,rfl⟩⟩
 have hl:Lf (aC.mk x.1 0 0 0 0)<=16*s.length+16:=by
  unfold Lf;simp only [h2,nL,uP];omega
 refine (wN hp).bind fun r ⟨g1,e1⟩=>?_;have e:r.1.aP=[]:=by rw [e1]
 have l1:=g1.lf;have k0:=g1.inv.lo;have k1:=g1.inv.hi;have k2:=g1.inv.lf;refine (RA n r.2 r.1 g1.inv (by omega) (by unfold Lf at l1 hl;omega) (by omega) (fun _=>by rw [e];simpa using k0) (by rw [e];simp)).bind fun y ⟨g2,s2⟩=>?_;refine bC.iteb (fun he=>.some fun h=>absurd h (by simpa using he)) fun he=>.some fun _=>?_;obtain ⟨v1,v2⟩:=s2 (by simpa using he) (fun y hy=>by rw [e] at hy;cases hy);refine ⟨v1,?_⟩;rw [e,mM] at v2;have m1:=g2.inv.hi;rw [g2.len,g1.len] at m1;simp only [h2,nL,uP] at m1;simp only;omega
end Go.Proofs.YtncembphlfbgoaaGreatDoor.Abs
