import Derived.Test.YtljbbjpbefjpiaaGreatDoorPGMm
import Derived.Lib.IndexLaws
namespace Go.Proofs.YtljbbjpbefjpiaaGreatDoor.Abs
open IntKind (i64 u32 u64 u8)
open Go.RowKit
def bD {α:Type} (o:Option α) (Q:α->Prop):Prop:=∃r,o=some r/\Q r
section
variable {α β:Type} {o:Option α} {Q P:α->Prop}
theorem bD.some {r:α} (h:Q r):bD (some r) Q:=⟨r,rfl,h⟩
theorem bD.mono (h:bD o P) (k:∀x,P x->Q x):bD o Q:=by obtain ⟨r,e,hr⟩:=h;exact ⟨r,e,k r hr⟩
theorem bD.bind {f:α->Option β} {R:β->Prop} (h:bD o P) (k:∀x,P x->bD (f x) R):bD (o.bind f) R:=by
 obtain ⟨r,e,hr⟩:=h;subst e;exact k r hr
theorem bD.bind' {f:α->Option β} {R:β->Prop} (h:bD o λx=>bD (f x) R):bD (o.bind f) R:=h.bind λ_ k=>k
theorem bD.eqn {v:α} {f:α->Option β} {R:β->Prop} (h:o=Option.some v) (k:bD (f v) R):bD (o.bind f) R:=by subst h;exact k
theorem bD.need {c:Prop} [Decidable c] (hc:c) (h:bD o Q):bD (iU c o) Q:=by rw [dN hc];exact h
theorem bD.iteb {b:Bool} {x y:Option α} (h1:b=true->bD x Q) (h2:b=false->bD y Q):bD (if b=true then x else y) Q:=by
 cases b
 ·exact h2 rfl
 ·exact h1 rfl
theorem bD.elim {γ:Type} {s:β ⊕ γ} {f:β->Option α} {g:γ->Option α} (h1:∀x,s=.inl x->bD (f x) Q) (h2:∀x,s=.inr x->bD (g x) Q):bD (s.elim f g) Q:=by
 cases s
 ·exact h1 _ rfl
 ·exact h2 _ rfl
theorem bD.idx {l:List α} {i:Int} (h0:0<=i) (h1:i<l.length) (k:∀x,l[i.toNat]? = Option.some x->Q x):bD (bY l i) Q:=by
 unfold bY;rw [if_pos h0];refine ⟨l[i.toNat]'(by omega),yP (by omega),k _ (yP (by omega))⟩
theorem bD.get (h:bD o Q) {r:α} (e:o=Option.some r):Q r:=by
 obtain ⟨x,e',hx⟩:=h;rw [e] at e';cases e';exact hx
theorem bD.and (h:bD o Q) (k:bD o P):bD o λx=>Q x/\P x:=by
 obtain ⟨x,e,hx⟩:=h;exact ⟨x,e,hx,k.get e⟩
end
theorem cZ {n:Int} (h1:-9223372036854775808<=n) (h2:n<=9223372036854775807):i64.wrap n=n:=by
 rw [IntKind.wrap_i64];omega
theorem take_step' {α:Type} {l:List α} {j:Nat} {x:α} (h:l[j]? = some x):l.take (j+1)=l.take j++[x]:=by
 rw [List.take_add_one,h];rfl
theorem Jo {α:Type} {p:α->Bool} {s:List α} {v:Nat} {x:α} (h:∀y ∈ s.take v,p y=true) (hx:s[v]? = some x) (hp:p x=false):s.takeWhile p=s.take v:=by
 obtain ⟨hv,rfl⟩:=uD.1 hx;have h1:(s.take v++s.drop v).takeWhile p=s.take v++(s.drop v).takeWhile p:=List.takeWhile_append_of_pos h;rw [xex] at h1;rw [h1,NP hv,xez (by simp [hp]),jR]
theorem Ny {α:Type} {p:α->Bool} {s:List α} {v:Nat} {x:α} (h:∀y ∈ s.take v,p y=false) (hx:s[v]? = some x) (hp:p x=true):s.find? p=some x:=by
 obtain ⟨hv,rfl⟩:=uD.1 hx
 have h1:(s.take v++s.drop v).find? p=(s.drop v).find? p:=by
  rw [List.find?_append,List.find?_eq_none.2 (λy hy=>by simp [h y hy])];rfl
 rw [xex] at h1;rw [h1,NP hv,List.find?_cons_of_pos (by simp [hp])]
theorem Gz {α:Type} {p:α->Bool} {s:List α} (h:∀y ∈ s,p y=true):s.takeWhile p=s:=by
 have:=List.takeWhile_append_of_pos (l₂:=[]) h;simpa using this
set_option linter.all false
def CN (c:Int):Bool:=(decide (97<=c) && decide (c<=122)) || (c == 95)
def yD (c:Int):Bool:=decide (48<=c) && decide (c<=57)
def FO (c:Int):Bool:=c == 32 || (c == 9 || (c == 13 || c == 10))
def Fy (b:UInt8):Bool:=CN b.toNat || yD b.toNat
theorem Ls (a:Int):yR a=some (FO a):=by
 unfold yR FO;cases a == 32 <;> cases a == 9 <;> cases a == 13 <;> rfl
theorem BM (a:Int):uK a=some (CN a):=by
 unfold uK CN;cases decide (97<=a) <;> cases decide (a<=122) <;> simp
theorem Fs (a:Int):wU a=some (yD a):=by
 unfold wU yD;cases decide (48<=a) <;> simp
theorem Fp (a b:cB):gM a b=some (decide (a.take b.length=b)):=by
 unfold gM
 by_cases h:(b.length:Int)<=a.length
 ·rw [if_pos (by simpa using h),dN ⟨by omega,h⟩];rfl
 ·rw [if_neg (by simpa using h),bU,decide_eq_false];intro e;have:=congrArg List.length e;rw [In] at this;omega
theorem sW (a b:cB):nX a b=some (decide (a.take b.length=b)):=by
 unfold nX;rw [Fp];rfl
theorem vW (a:cB) (c:Int):nW a c=some (Lib.indexByte a c.toNat.toUInt8):=rfl
theorem word_l1 (s:cB):∀(c:Nat) (v:Nat),s.length<v+c->v<=s.length->(∀y ∈ s.take v,Fy y=true)->s.length<4611686018427387904 ->
  bD (Az s c v) (λr=>match r with | .inl _=>s.takeWhile Fy=s | .inr t=>t=s.takeWhile Fy):=by
 intro c
 induction c with
 | zero=>intro v h1 h2;omega
 | succ c ih=>
   intro v h1 h2 h3 hs;unfold Az;refine bD.iteb (λh4=>?_) (λh4=>?_)
   ·simp only [uH] at h4;refine (bD.bind (P:=λy=>∃x,s[v]? = some x/\y=!Fy x) ?_) ?_
    ·refine bD.bind' (bD.idx (by omega) h4 λx hx=>?_);rw [yV] at hx;rw [BM,bU,Fs,bU];refine bD.iteb (λh5=>.some ⟨x,hx,?_⟩) (λh5=>.some ⟨x,hx,?_⟩)
     ·simp only [NU] at h5;simp [Fy,h5]
     ·simp only [Bool.not_eq_false'] at h5;simp [Fy,h5]
    ·rintro y ⟨x,hx,rfl⟩;refine bD.iteb (λh5=>?_) (λh5=>?_)
     ·refine bD.need ⟨by omega,by omega⟩ (.some ?_);simp only [NU] at h5;rw [yV];exact (Jo h3 hx h5).symm
     ·simp only [Bool.not_eq_false'] at h5;rw [cZ (by omega) (by omega)];refine ih (v+1) (by omega) (by omega) ?_ hs;rw [take_step' hx];intro y hy
      rcases BQ.1 hy with hy | hy
      ·exact h3 y hy
      ·rw [DX.1 hy];exact h5
   ·refine .some ?_;simp only [decide_eq_false_iff_not] at h4;rw [xdq (by omega)] at h3;exact Gz h3
theorem GN {n:Nat} {s:cB} (hn:s.length<n) (hs:s.length<4611686018427387904):zR n s=some (s.takeWhile Fy):=by
 unfold zR;obtain ⟨r,e,hr⟩:=word_l1 s n 0 (by omega) (by omega) (by simp) hs;rw [show ((0:Nat):Int)=0 from rfl] at e;rw [e,bU];cases r with
 | inl _=>rw [hr];rfl
 | inr t=>rw [hr];rfl
theorem sign_l1 (s:cB):∀(c:Nat) (v:Nat),26<v+c->v<=26->(∀y ∈ eY.take v,decide (s.take y.length=y)=false) ->
  bD (AA s c v) (λr=>match r with | .inl _=>eY.find? (λy=>decide (s.take y.length=y))=none | .inr t=>eY.find? (λy=>decide (s.take y.length=y))=some t):=by
 intro c
 induction c with
 | zero=>intro v h1 h2;omega
 | succ c ih=>
   intro v h1 h2 h3;unfold AA;refine bD.iteb (λh4=>?_) (λh4=>?_)
   ·simp only [uH] at h4;refine bD.bind' (bD.idx (by omega) (by have:eY.length=26:=rfl;omega) λx hx=>?_);rw [yV] at hx;rw [sW,bU];refine bD.iteb (λh5=>.some ?_) (λh5=>?_)
    ·exact Ny h3 hx h5
    ·rw [cZ (by omega) (by omega)];refine ih (v+1) (by omega) (by omega) ?_;rw [take_step' hx];intro y hy
     rcases BQ.1 hy with hy | hy
     ·exact h3 y hy
     ·rw [DX.1 hy];exact h5
   ·refine .some ?_;simp only [decide_eq_false_iff_not] at h4;rw [xdq (by have:eY.length=26:=rfl;omega)] at h3;exact List.find?_eq_none.2 λy hy=>by simpa using h3 y hy
def wM (s:cB):cB:=(eY.find? (λy=>decide (s.take y.length=y))).getD []
theorem GS {n:Nat} {s:cB} (hn:26<n):BD n s=some (wM s):=by
 unfold BD wM;obtain ⟨r,e,hr⟩:=sign_l1 s n 0 (by omega) (by omega) (by simp);rw [show ((0:Nat):Int)=0 from rfl] at e;rw [e,bU];cases r with
 | inl _=>rw [hr];rfl
 | inr t=>rw [hr];rfl
theorem LT (s:cB):wM s=[] ∨ 1<=(wM s).length/\(wM s).length<=s.length:=by
 unfold wM;cases h:eY.find? (λy=>decide (s.take y.length=y)) with
 | none=>exact .inl rfl
 | some y=>
   have h1:=List.find?_some h;have h2:=xfc h;simp only [uH] at h1;have h3:=congrArg List.length h1;rw [In] at h3;have h4:(eY.all λy=>decide (1<=y.length))=true:=by decide
   have h5:=EG.1 h4 y h2;simp only [uH] at h5;exact .inr ⟨h5,by show y.length<=_;omega⟩
theorem skip_l1 (s:cB) (hs:s.length<4611686018427387904):∀(c:Nat) (v:Nat),s.length<v+c->v<=s.length->bD (sY s c v) (λr=>∃k:Nat,v<=k/\k<=s.length/\(r=.inl (k:Int) ∨ r=.inr (k:Int))):=by
 intro c
 induction c with
 | zero=>intro v h1 h2;omega
 | succ c ih=>
   intro v h1 h2;unfold sY;refine bD.iteb (λh4=>?_) (λh4=>.some ⟨v,by omega,h2,.inl rfl⟩);simp only [uH] at h4;refine bD.bind' (bD.idx (by omega) h4 λx hx=>?_);rw [yV] at hx;rw [Ls,bU];refine bD.iteb (λh5=>?_) (λh5=>?_)
   ·rw [cZ (by omega) (by omega)];exact (ih (v+1) (by omega) (by omega)).mono λr ⟨k,h6,h7,h8⟩=>⟨k,by omega,h7,h8⟩
   ·refine bD.need ⟨by omega,by omega⟩ ?_;rw [yV,sW,bU];refine bD.iteb (λh6=>?_) (λh6=>.some ⟨v,by omega,h2,.inr rfl⟩);simp only [uH] at h6;refine bD.need ⟨by omega,by omega⟩ ?_;rw [vW,bU];refine bD.iteb (λh7=>.some ⟨s.length,h2,by omega,.inr rfl⟩) (λh7=>?_);simp only [decide_eq_false_iff_not,Int.not_lt] at h7;obtain ⟨o,ho⟩:=Int.eq_ofNat_of_zero_le h7;rw [ho];obtain ⟨h8,h9⟩:=Lib.indexByte_some ho;have h10:o<(s.drop v).length:=(uD.1 h8).1;rw [Gw] at h10
    have h11:o ≠ 0:=by
     rintro rfl;have h12:=congrArg (·[0]?) h6;simp only [xew (show 0<([47,47]:cB).length by decide)] at h12;rw [h8] at h12
     revert h12;decide
    rw [cZ (by omega) (by omega)];exact (ih (v+o) (by omega) (by omega)).mono λr ⟨k,h6,h7,h8⟩=>⟨k,by omega,h7,h8⟩
theorem Kz {n:Nat} {s:cB} {v:Nat} (hs:s.length<4611686018427387904) (hn:s.length<v+n) (hv:v<=s.length):bD (tY n s v) λr=>∃k:Nat,v<=k/\k<=s.length/\r=k:=by
 unfold tY;refine (skip_l1 s hs n v hn hv).bind λr ⟨k,h1,h2,h3⟩=>?_
 rcases h3 with rfl | rfl <;> exact .some ⟨k,h1,h2,rfl⟩
theorem Qx (x:cB × Bool) (hs:x.1.length<4611686018427387904):∀(c:Nat) (t:Int) (v:Nat),x.1.length<v+c->v<=x.1.length->bD (yM x c t v) λr=>∀x,r=.inr x->x=((0:Int),false):=by
 intro c
 induction c with
 | zero=>intro t v h1 h2;omega
 | succ c ih=>
   intro t v h1 h2;unfold yM;refine bD.iteb (λh4=>?_) (λh4=>.some λ_ h=>nomatch h);simp only [uH] at h4;refine bD.need (by decide) ?_;refine bD.bind' (bD.idx (by omega) h4 λy hy=>?_);rw [vW,bU];refine bD.bind (P:=λ_=>True) (bD.iteb (λ_=>.some trivial) λ_=>.some trivial) λy _=>?_;refine bD.iteb (λ_=>.some λ_ h=>(Sum.inr.inj h).symm) λ_=>?_;rw [cZ (n:=(v:Int)+1) (by omega) (by omega)];exact ih _ (v+1) (by omega) (by omega)
theorem Qw (s:cB) (hs:s.length<4611686018427387904):∀(c:Nat) (t:Int) (v:Nat),s.length<v+c->v<=s.length->bD (tE s c t v) λr=>∀x,r=.inr x->x=((0:Int),false):=by
 intro c
 induction c with
 | zero=>intro t v h1 h2;omega
 | succ c ih=>
   intro t v h1 h2;unfold tE;refine bD.iteb (λh4=>?_) (λh4=>.some λ_ h=>nomatch h);simp only [uH] at h4;refine bD.need (by decide) ?_;refine bD.bind' (bD.idx (by omega) h4 λy hy=>?_);rw [vW,bU];refine bD.bind (P:=λ_=>True) (bD.iteb (λ_=>.some trivial) λ_=>.some trivial) λy _=>?_;refine bD.iteb (λ_=>.some λ_ h=>(Sum.inr.inj h).symm) λ_=>?_;rw [cZ (n:=(v:Int)+1) (by omega) (by omega)];exact ih _ (v+1) (by omega) (by omega)
theorem Ft (a b:cB):pD a b=some (if a.take b.length=b then (a.drop b.length,true) else (a,false)):=by
 unfold pD kK;rw [Fp,bU]
 by_cases h:a.take b.length=b
 ·rw [DD h,if_neg (by decide),if_pos h,dN]
  ·rfl
  ·have:=congrArg List.length h;rw [In] at this;omega
 ·rw [decide_eq_false h,if_pos (by decide),if_neg h];rfl
theorem NZ {n:Nat} {s:cB} (hs:s.length<4611686018427387904) (hn:s.length<n):bD (uW n s) λr=>0<=r.1/\r.1<=4294967295:=by
 have hw:∀v:Int,0<=u32.wrap v/\u32.wrap v<=4294967295:=λv=>by rw [IntKind.wrap_u32];omega
 unfold uW;rw [Ft,bU]
 have hl:∀x:cB × Bool,x=(if s.take ([48,120]:cB).length=([48,120]:cB) then (s.drop ([48,120]:cB).length,true) else (s,false))->x.1.length<=s.length:=by
  rintro x rfl
  split
  ·rw [Gw];omega
  ·exact tM _
 generalize (if s.take ([48,120]:cB).length=([48,120]:cB) then (s.drop ([48,120]:cB).length,true) else (s,false))=x at hl
 have hx:=hl x rfl;refine bD.iteb (λ_=>?_) λ_=>?_
 ·exact (Qx x (by omega) n 0 0 (by omega) (by omega)).bind λr hr=>bD.elim (λ_ _=>.some (hw _)) λz h=>.some (by rw [hr z h];decide)
 ·exact (Qw s (by omega) n 0 0 (by omega) (by omega)).bind λr hr=>bD.elim (λ_ _=>.some (hw _)) λz h=>.some (by rw [hr z h];decide)
theorem EX {n:Nat} {s:cB} {v:Nat} (hs:s.length<4611686018427387904) (hn:s.length<n) (hn2:26<n) (hv:v<s.length) :
  bD (oZ n s v) λr=>r.2=0->(r.1.bT=1 ∨ r.1.bT=2 ∨ r.1.bT=3)/\r.1.eO=v/\1<=r.1.bQ.length/\v+r.1.bQ.length<=s.length/\0<=r.1.kL/\r.1.kL<=4294967295:=by
 unfold oZ;refine bD.need ⟨by omega,by omega⟩ ?_;rw [yV,GN (by rw [Gw];omega) (by rw [Gw];omega),bU];refine bD.bind' (bD.idx (by omega) (by omega) λx hx=>?_);rw [yV] at hx
 have hd:s.drop v=x::s.drop (v+1):=by
  obtain ⟨h1,rfl⟩:=uD.1 hx;exact NP h1
 have hle:((s.drop v).takeWhile Fy).length<=s.length - v:=by
  have:=(List.takeWhile_prefix (l:=s.drop v) Fy).length_le
  rwa [Gw] at this
 have hpos:Fy x=true->1<=((s.drop v).takeWhile Fy).length:=by
  intro h;rw [hd,List.takeWhile_cons_of_pos h,gK];omega
 rw [BM,bU];refine bD.iteb (λh1=>bD.iteb (λ_=>.some λh=>by cases h) λ_=>.some λ_=>⟨.inl rfl,rfl,hpos (by simp [Fy,h1]),by simp only;omega,by simp only;omega,by simp only;omega⟩) λh1=>?_;rw [Fs,bU];refine bD.iteb (λh2=>?_) λh2=>?_
 ·refine (NZ (by omega) (by omega)).bind λy hy=>bD.iteb (λ_=>.some λh=>by cases h) λ_=>.some λ_=>⟨.inr (.inl rfl),rfl,hpos (by simp [Fy,h2]),by simp only;omega,hy.1,hy.2⟩
 ·refine bD.need ⟨by omega,by omega⟩ ?_;rw [GS hn2,bU];refine bD.iteb (λ_=>.some λh=>by cases h) λh3=>.some λ_=>⟨.inr (.inr rfl),rfl,?_⟩;have h4:=LT (s.drop v);simp only [decide_eq_false_iff_not] at h3
  rcases h4 with h4 | h4
  ·exact absurd h4 h3
  ·rw [Gw] at h4;exact ⟨h4.1,by simp only;omega,by simp only;omega,by simp only;omega⟩
def Gu (l:List dT):Prop:=∀t ∈ l,(t.bT=1 ∨ t.bT=2 ∨ t.bT=3)/\t.bQ ≠ []/\0<=t.kL/\t.kL<=4294967295
theorem FW {n:Nat} {s:cB} (hs:s.length<=65536) (hn:s.length<n) (hn2:26<n):∀(c:Nat) (l:List dT) (v:Nat),s.length<v+c->v<=s.length->Gu l->l.length<=v ->
  bD (oU n s c l v) λr=>match r with | .inl l=>Gu l/\l.length<=s.length | .inr x=>x.2.1 ≠ 0:=by
 intro c
 induction c with
 | zero=>intro l v h1 h2;omega
 | succ c ih=>
   intro l v h1 h2 h3 h4;unfold oU;refine bD.iteb (λh5=>?_) λh5=>.some ⟨h3,by omega⟩;simp only [uH] at h5;refine (EX (by omega) hn hn2 (by omega)).bind λx hx=>?_;refine bD.iteb (λh6=>.some (by simpa using h6)) λh6=>?_;obtain ⟨k1,k2,k3,k4,k5⟩:=hx (by simpa using h6);refine bD.need (by simp only [mQ];omega) ?_;rw [cZ (by omega) (by omega)];refine (Kz (v:=v+x.1.bQ.length) (by omega) (by omega) k4).bind λr ⟨k,h7,h8,h9⟩=>?_;subst h9;refine ih _ k (by omega) h8 ?_ (by simp only [mK,mQ];omega);intro t ht
   rcases BQ.1 ht with ht | ht
   ·exact h3 t ht
   ·rw [DX.1 ht];exact ⟨k1,λe=>by rw [e] at k3;simp at k3,k5⟩
theorem EC {n:Nat} {s:cB} (hn:s.length<n) (hn2:26<n):bD (mV n s) λr=>r.2.1=0->∃l,r.1=l++[⟨4,s.length,[],0⟩]/\Gu l/\l.length<=s.length/\s.length<=65536:=by
 unfold mV;refine bD.iteb (λ_=>.some λh=>by cases h) λh1=>?_;simp only [decide_eq_false_iff_not,Int.not_lt] at h1;refine (Kz (v:=0) (by omega) (by omega) (by omega)).bind λr ⟨k,h2,h3,h4⟩=>?_;subst h4;refine (FW (by omega) hn hn2 n [] k (by omega) h3 (by simp [Gu]) (by simp)).bind λy hy=>?_;refine bD.elim (λz e=>?_) (λz e=>?_)
 ·subst e;refine bD.need (by simp only [mQ];omega) (.some λ_=>⟨z,rfl,hy.1,hy.2,by omega⟩)
 ·subst e;exact .some λh=>absurd h hy
abbrev Nd:=aB
mutual
def sz:aB->Int
 | ⟨_,_,_,_,l⟩=>1+pM l
def pM:List aB->Int
 | []=>0
 | x::l=>sz x+pM l
end
theorem fD {a b:Int} {c:cB} {d:Int} {l:List aB}:sz ⟨a,b,c,d,l⟩=1+pM l:=by rw [sz]
theorem kM:pM []=0:=by rw [pM]
theorem pO {x:aB} {l:List aB}:pM (x::l)=sz x+pM l:=by rw [pM]
theorem CJ (x:aB):sz x=1+pM x.aL:=by cases x;rw [sz]
theorem Aw {a b:List aB}:pM (a++b)=pM a+pM b:=by
 induction a with
 | nil=>rw [iV,kM,Int.zero_add]
 | cons x a ih=>rw [iC,pO,pO,ih,xej]
theorem gW {x:aB}:pM [x]=sz x:=by rw [pO,kM,xeh]
theorem yZ {x y:aB}:pM [x,y]=sz x+sz y:=by rw [pO,gW]
theorem Gh {x y z:aB}:pM [x,y,z]=sz x+sz y+sz z:=by rw [pO,yZ,xej]
mutual
theorem iW:∀x:aB,1<=sz x
 | ⟨_,_,_,_,l⟩=>by rw [sz];have:=lY l;omega
theorem lY:∀l:List aB,(l.length:Int)<=pM l
 | []=>by rw [pM];exact NR _
 | x::l=>by rw [pM,gK];have:=lY l;have:=iW x;omega
end
theorem Fz {l:List aB} {k:aB} (h:k ∈ l):sz k<=pM l:=by
 obtain ⟨a,b,rfl⟩:=xdo h;rw [Aw,pO];have h1:=lY a;have h2:=lY b;omega
def FD:List cB:=[[124],[94],[38],[61,61],[60],[60,60],[62,62],[60,60,60],[43],[45],[42],[47],[37]]
inductive WE:Nd->Prop
 | num {a n}:0<=n->n<=4294967295->WE ⟨14,a,[],n,[]⟩
 | ref {a s}:WE ⟨15,a,s,0,[]⟩
 | index {a s x}:WE x->WE ⟨16,a,s,0,[x]⟩
 | un {a s x}:(s=[126] ∨ s=[45])->WE x->WE ⟨18,a,s,0,[x]⟩
 | bin {a s x y}:s ∈ FD->WE x->WE y->WE ⟨19,a,s,0,[x,y]⟩
 | call {a s xs}:(∀x ∈ xs,WE x)->WE ⟨17,a,s,0,xs⟩
inductive WS:Nd->Prop
 | bind {k a s x}:(k=5 ∨ k=6)->WE x->WS ⟨k,a,s,0,[x]⟩
 | arr {a s n}:WS ⟨7,a,s,n,[]⟩
 | ret {a x}:WE x->WS ⟨13,a,[],0,[x]⟩
 | choice {a c b ys}:WE c->(∀y ∈ ys,WS y)->WS ⟨11,a,[],0,[c,⟨4,b,[],0,ys⟩]⟩
 | choice2 {a c b ys b2 zs}:WE c->(∀y ∈ ys,WS y)->(∀z ∈ zs,WS z)->WS ⟨11,a,[],0,[c,⟨4,b,[],0,ys⟩,⟨4,b2,[],0,zs⟩]⟩
 | loop {a s x y b ys}:WE x->WE y->(∀y ∈ ys,WS y)->WS ⟨12,a,s,0,[x,y,⟨4,b,[],0,ys⟩]⟩
 | call {a s xs}:(∀x ∈ xs,WE x)->WS ⟨10,a,s,0,xs⟩
 | put {a s i x}:WE i->WE x->WS ⟨9,a,s,0,[i,x]⟩
 | set {a s x}:WE x->WS ⟨8,a,s,0,[x]⟩
inductive WP:Nd->Prop
 | word {a s k}:(k=1 ∨ k=2 ∨ k=3)->WP ⟨3,a,s,k,[]⟩
 | arr {a s b n}:WP ⟨3,a,s,4,[⟨14,b,[],n,[]⟩]⟩
inductive WF:Nd->Prop
 | fn {a s r ps b ys}:(∀p ∈ ps,WP p)->(∀y ∈ ys,WS y)->WF ⟨2,a,s,r,ps++[⟨4,b,[],0,ys⟩]⟩
theorem Rr {α:Type} {x:α}:x ∈ [x]:=DX.2 rfl
structure PI (p:aA):Prop where
 lo:0<=p.fA
 hi:p.fA<p.l_.length
 big:p.l_.length<=65537
 toks:∃l z,p.l_=l++[z]/\Gu l/\z.bT=4
structure Gd (p p':aA):Prop where
 inv:PI p'
 l:p'.l_=p.l_
 at':p.fA<=p'.fA
 err':p.e_ ≠ 0->p'.e_=p.e_/\p'.fA=p.fA
structure GA (p p':aA):Prop extends Gd p p' where
 adv:p'.e_=0->p.fA<p'.fA
theorem Gd.err {p q:aA} (h:Gd p q):p.e_ ≠ 0->q.e_ ≠ 0/\q.fA=p.fA:=λhe=>⟨by rw [(h.err' he).1];exact he,(h.err' he).2⟩
theorem Gd.refl {p:aA} (h:PI p):Gd p p:=⟨h,rfl,NR _,λh=>⟨rfl,rfl⟩⟩
theorem Gd.trans {p q r:aA} (h:Gd p q) (k:Gd q r):Gd p r:=⟨k.inv,k.l.trans h.l,Int.le_trans h.at' k.at',λhe=>⟨(k.err' (h.err he).1).1.trans (h.err' he).1,(k.err' (h.err he).1).2.trans (h.err' he).2⟩⟩
theorem Gd.e0 {p q:aA} (h:Gd p q) (he:q.e_=0):p.e_=0:=Classical.byContradiction λhn=>(h.err hn).1 he
theorem Gd.ga {p q r:aA} (h:Gd p q) (k:GA q r):GA p r:=⟨h.trans k.toGd,λhe=>Int.lt_of_le_of_lt h.at' (k.adv he)⟩
theorem GA.gd {p q r:aA} (h:GA p q) (k:Gd q r):GA p r:=⟨h.toGd.trans k,λhe=>Int.lt_of_lt_of_le (h.adv (k.e0 he)) k.at'⟩
theorem GA.ga {p q r:aA} (h:GA p q) (k:GA q r):GA p r:=h.gd k.toGd
theorem Gd.len {p q:aA} (h:Gd p q):q.l_.length=p.l_.length:=by rw [h.l]
section
variable {p:aA} {n:Nat}
theorem nI (h:PI p):bD (cG p) λt=>t.bT ≠ 4->p.fA+1<p.l_.length:=by
 unfold cG;refine bD.bind' (bD.idx h.lo h.hi λx hx=>.some λhk=>?_);obtain ⟨l,z,h1,h2,h3⟩:=h.toks;have h4:=h.lo;have h5:=h.hi;rw [h1] at hx h5 ⊢;simp only [mK,mQ] at h5 ⊢
 by_cases h6:p.fA.toNat=l.length
 ·rw [NW (by omega),h6,Nat.sub_self] at hx;simp at hx
  subst hx;exact absurd h3 hk
 ·omega
theorem sL (h:PI p) {e:Int} (he:e ≠ 0):bD (fF p e) λq=>Gd p q/\q.e_ ≠ 0:=by
 unfold fF;refine bD.iteb (λh1=>?_) λh1=>.some ⟨.refl h,by simpa using h1⟩;simp only [beq_iff_eq] at h1;exact (nI h).bind λt _=>.some ⟨⟨⟨h.lo,h.hi,h.big,h.toks⟩,rfl,NR _,λhn=>absurd h1 hn⟩,he⟩
theorem oX (h:PI p) {k:Int}:bD (dR p k) λr=>Gd p r.2/\r.1=⟨k,r.1.eO,[],0,[]⟩:=by
 unfold dR;have hp:PI { p with nV:=(i64.wrap (p.nV+(1:Int))) }:=⟨h.lo,h.hi,h.big,h.toks⟩;have hg:Gd p { p with nV:=(i64.wrap (p.nV+(1:Int))) }:=⟨hp,rfl,NR _,λhn=>⟨rfl,rfl⟩⟩;refine bD.iteb (λh1=>?_) λh1=>?_
 ·exact (sL hp (by decide)).bind λq ⟨g,_⟩=>(nI g.inv).bind λt _=>.some ⟨hg.trans g,rfl⟩
 ·exact (nI hp).bind λt _=>.some ⟨hg,rfl⟩
theorem Ij (l:List cB) (s:cB) (hl:l.length<1000):∀(c:Nat) (v:Nat),l.length<v+c->v<=l.length->(∀y ∈ l.take v,decide (s=y)=false) ->
  bD (iL l s c v) λr=>match r with | .inl _=>(l.any λy=>decide (s=y))=false | .inr k=>0<=k/\(l.any λy=>decide (s=y))=true:=by
 intro c
 induction c with
 | zero=>intro v h1 h2;omega
 | succ c ih=>
   intro v h1 h2 h3;unfold iL;refine bD.iteb (λh4=>?_) (λh4=>?_)
   ·simp only [uH] at h4;refine bD.bind' (bD.idx (by omega) h4 λx hx=>?_);rw [yV] at hx;refine bD.iteb (λh5=>.some ⟨by omega,?_⟩) (λh5=>?_)
    ·exact xeq.2 ⟨x,Fw hx,h5⟩
    ·rw [cZ (by omega) (by omega)];refine ih (v+1) (by omega) (by omega) ?_;rw [take_step' hx];intro y hy
     rcases BQ.1 hy with hy | hy
     ·exact h3 y hy
     ·rw [DX.1 hy];exact h5
   ·refine .some ?_;simp only [decide_eq_false_iff_not] at h4;rw [xdq (by omega)] at h3;exact List.any_eq_false.2 λy hy=>by simp [h3 y hy]
def Bc (s:cB):Bool:=cE.any λy=>decide (s=y)
theorem CA {s:cB} (hn:13<n):rX n s=some (Bc s):=by
 unfold rX iM jK;obtain ⟨r,e,hr⟩:=Ij cE s (by decide) n 0 (by have:cE.length=13:=rfl;omega) (by omega) (by simp);rw [show ((0:Nat):Int)=0 from rfl] at e;rw [e,bU];unfold Bc;cases r with
 | inl _=>rw [hr];rfl
 | inr k=>
   rw [hr.2];simp only [xeg,bU,Option.some.injEq,uH];exact hr.1
theorem zV (h:PI p) (hn:13<n) {s:cB}:bD (fX n p s) λb=>b=true->p.e_=0/\p.fA+1<p.l_.length:=by
 unfold fX;refine (nI h).bind λt ht=>?_;refine bD.bind (P:=λb=>b=true->p.e_=0/\p.fA+1<p.l_.length) ?_ λb hb=>.some hb;refine bD.iteb (λh1=>?_) λh1=>.some λh=>by cases h
 simp only [beq_iff_eq] at h1;refine bD.iteb (λh2=>?_) λh2=>.some λh=>by cases h
 refine bD.iteb (λh3=>.some λ_=>⟨h1,ht ?_⟩) λh3=>?_
 ·simp only [beq_iff_eq] at h3;omega
 refine bD.iteb (λh4=>?_) λh4=>.some λh=>by cases h
 rw [CA hn,bU];refine .some λ_=>⟨h1,ht ?_⟩;simp only [beq_iff_eq] at h4;omega
theorem BS (h:PI p) (he:p.e_=0) (hk:p.fA+1<p.l_.length):i64.wrap (p.fA+(1:Int))=p.fA+1/\GA p { p with fA:=p.fA+1 }:=by
 have h1:=h.lo;have h2:=h.big;refine ⟨cZ (by omega) (by omega),⟨⟨⟨by simp only;omega,by simpa using hk,h.big,h.toks⟩,rfl,by simp only;omega,λhn=>absurd he hn⟩,λ_=>by simp only;omega⟩⟩
theorem dZ (h:PI p) (hn:13<n) {s:cB}:bD (bE n p s) λr=>Gd p r.2/\(r.1=true->p.e_=0/\GA p r.2/\r.2.e_=0)/\(r.1=false->r.2=p):=by
 unfold bE;refine (zV h hn).bind λb hb=>?_;refine bD.iteb (λh1=>.some ⟨.refl h,(λh=>by cases h),λ_=>rfl⟩) λh1=>?_;simp only [Bool.not_eq_false'] at h1;obtain ⟨h2,h3⟩:=hb h1;obtain ⟨h4,h5⟩:=BS h h2 h3;rw [h4];exact .some ⟨h5.toGd,λ_=>⟨h2,h5,h2⟩,λh=>by cases h⟩
theorem dM (h:PI p) (hn:13<n) {s:cB}:bD (aX n p s) λq=>GA p q:=by
 unfold aX;refine (dZ h hn).bind λr ⟨h1,h2,h3⟩=>?_;refine bD.iteb (λh4=>?_) λh4=>.some (h2 (by simpa using h4)).2.1;exact (sL h1.inv (by decide)).bind λq ⟨g,he⟩=>.some ⟨h1.trans g,λh=>absurd h he⟩
theorem oY (h:PI p) (hn:13<n):bD (dD n p) λr=>GA p r.2:=by
 unfold dD;refine (nI h).bind λt ht=>?_;refine bD.bind (P:=λb=>b=false->p.e_=0/\t.bT=1) ?_ λb hb=>?_
 ·refine bD.iteb (λh1=>.some λh=>by cases h) λh1=>?_;refine bD.iteb (λh2=>.some λh=>by cases h) λh2=>?_;rw [CA hn,bU];exact .some λ_=>⟨by simpa using h1,by simpa using h2⟩
 ·refine bD.iteb (λh1=>?_) λh1=>?_
  ·exact (sL h (by decide)).bind λq ⟨g,he⟩=>.some ⟨g,λh=>absurd h he⟩
  ·obtain ⟨h2,h3⟩:=hb h1;obtain ⟨h4,h5⟩:=BS h h2 (ht (by omega));rw [h4];exact .some h5
theorem Od (h:PI p):bD (cG p) λt=>t.bT ≠ 4->p.fA+1<p.l_.length/\0<=t.kL/\t.kL<=4294967295:=by
 obtain ⟨t,e,ht⟩:=nI h;refine ⟨t,e,λhk=>⟨ht hk,?_⟩⟩;unfold cG at e;obtain ⟨x,hx,e⟩:=aH e;obtain rfl:=bX e;obtain ⟨l,z,h1,h2,h3⟩:=h.toks;obtain ⟨_,_,hx⟩:=cO hx;rw [h1] at hx
 rcases BQ.1 (Fw hx) with hm | hm
 ·exact (h2 _ hm).2.2
 ·rw [DX.1 hm] at hk;exact absurd h3 hk
theorem wS (h:PI p):bD (gG p) λr=>GA p r.2/\0<=r.1/\r.1<=4294967295:=by
 unfold gG;refine (Od h).bind λt ht=>?_;refine bD.bind (P:=λb=>b=false->p.e_=0/\t.bT=2) ?_ λb hb=>?_
 ·refine bD.iteb (λh1=>.some λh=>by cases h) λh1=>.some λh=>⟨by simpa using h1,by simpa using h⟩
 ·refine bD.iteb (λh1=>?_) λh1=>?_
  ·exact (sL h (by decide)).bind λq ⟨g,he⟩=>.some ⟨⟨g,λh=>absurd h he⟩,by simp only;omega,by simp only;omega⟩
  ·obtain ⟨h2,h3⟩:=hb h1;obtain ⟨h4,h5⟩:=BS h h2 (ht (by omega)).1;rw [h4];exact .some ⟨h5,(ht (by omega)).2⟩
theorem Dg (h:PI p) (hn:13<n):bD (iH n p) λr=>GA p r.2:=by
 unfold iH;exact (dM h hn).bind λq g1=>(wS g1.inv).bind λr ⟨g2,_⟩=>(dM g2.inv hn).bind λs g3=>.some (g1.ga (g2.ga g3))
theorem Hv (hn:13<n):∀(c:Nat) (v:Nat) (p:aA) (x y:aB),3<v+c->v<=3->PI p->bD (fJ n c v p x y) λr=>match r with | .inl s=>Gd p s.1/\s.2.2=y | .inr s=>Gd p s.2/\∃k,(k=1 ∨ k=2 ∨ k=3)/\s.1={ y with kL:=k }:=by
 intro c
 induction c with
 | zero=>intro v p x y h1 h2;omega
 | succ c ih=>
   intro v p x y h1 h2 h;unfold fJ;refine bD.iteb (λh4=>?_) λh4=>.some ⟨.refl h,rfl⟩;simp only [uH] at h4;refine bD.bind' (bD.idx (by omega) (by have:gC.length=3:=rfl;omega) λz hz=>?_);refine (dZ h hn).bind λr ⟨g1,g2,g3⟩=>?_;refine bD.iteb (λ_=>.some ⟨g1,_,?_,rfl⟩) λ_=>?_
   ·have h5:v=0 ∨ v=1 ∨ v=2:=by omega
    rcases h5 with rfl | rfl | rfl <;> decide
   rw [cZ (by omega) (by omega)];refine (ih (v+1) r.2 x y (by omega) (by omega) g1.inv).mono λs hs=>?_;cases s with
   | inl s=>exact ⟨g1.trans hs.1,hs.2⟩
   | inr s=>exact ⟨g1.trans hs.1,hs.2⟩
theorem FK (h:PI p) (hn:13<n):bD (eJ n p) λr=>GA p r.2/\(r.2.e_=0->WP r.1/\sz r.1<=r.2.fA - p.fA):=by
 unfold eJ;refine (oX h).bind λr ⟨g1,e1⟩=>(oY g1.inv hn).bind λs g2=>(dM g2.inv hn).bind λq g3=>?_;refine (Hv hn n 0 q _ _ (by omega) (by omega) g3.inv).bind λy hy=>?_;have g4:=g1.ga (g2.ga g3);refine bD.elim (λz e=>?_) λz e=>?_
 ·subst e;obtain ⟨hy,hz⟩:=hy;refine (oX hy.inv).bind λr ⟨g5,e5⟩=>(Dg g5.inv hn).bind λs g6=>.some ⟨(g4.gd hy).ga (g5.ga g6),λe=>?_⟩;have m6:=g6.adv e;have e6:=(g5.ga g6).toGd.e0 e;have e7:=hy.e0 e6;have m3:=g3.adv e7;have m2:=g2.adv (g3.toGd.e0 e7);have m1:=g1.at';have m5:=g5.at';have m4:=hy.at';rw [hz,e1,e5];exact ⟨.arr,by rw [fD,gW,fD,kM];simp only;omega⟩
 ·subst e;obtain ⟨hy,k,hk,hz⟩:=hy;refine .some ⟨g4.gd hy,λe=>?_⟩;have e7:=hy.e0 e;have m3:=g3.adv e7;have m1:=g1.at';have m2:=g2.at';have m4:=hy.at';rw [hz,e1];exact ⟨.word hk,by rw [fD,kM];omega⟩
theorem Bb (hn:13<n):∀(c:Nat) (l:List aB) (p:aA),PI p->(p.l_.length:Int) - p.fA<c->(l.length:Int)<=p.fA->bD (dO n c l p) λr=>Gd p r.2/\(r.1.length:Int)<=r.2.fA+1/\(r.2.e_=0->(∀x ∈ l,WP x)->(∀x ∈ r.1,WP x)/\pM r.1<=pM l+(r.2.fA - p.fA)):=by
 intro c
 induction c with
 | zero=>intro l p h h1 h2;have:=h.hi;omega
 | succ c ih=>
   intro l p h h1 h2;have k1:=h.lo;have k2:=h.hi;have k3:=h.big;unfold dO;refine bD.iteb (λh4=>?_) λh4=>.some ⟨.refl h,by simp only;omega,λ_ hl=>⟨hl,by simp only;omega⟩⟩;refine (FK h hn).bind λx ⟨g1,gx⟩=>?_;refine bD.need (by simp only [mQ];omega) ?_;refine (dZ g1.inv hn).bind λr ⟨g2,g3,_⟩=>?_;have m1:=g1.at';have m2:=g2.at'
   have hx:r.2.e_=0->(∀x ∈ l,WP x)->(∀y ∈ l++[x.1],WP y)/\pM (l++[x.1])<=pM l+(r.2.fA - p.fA):=λe hl=>by
    obtain ⟨w1,w2⟩:=gx (g2.e0 e);refine ⟨λy hy=>?_,by rw [Aw,gW];omega⟩
    rcases BQ.1 hy with hy | hy
    ·exact hl y hy
    ·obtain rfl:=DX.1 hy;exact w1
   refine bD.iteb (λh5=>.some ⟨g1.toGd.trans g2,by simp only [mK,mQ];omega,hx⟩) λh5=>?_;have g4:=g3 (by simpa using h5);have g5:=g1.ga g4.2.1;have m3:=g1.adv g4.1;have m4:=g1.toGd.trans g2;refine (ih _ r.2 g2.inv (by rw [m4.len];omega) (by simp only [mK,mQ];omega)).mono λs ⟨s1,s2,s3⟩=>⟨g5.toGd.trans s1,s2,λe hl=>?_⟩;obtain ⟨v1,v2⟩:=hx (s1.e0 e) hl;obtain ⟨v3,v4⟩:=s3 e v1;exact ⟨v3,by omega⟩
theorem vP (h:PI p) (hn:13<n) (hb:(p.l_.length:Int) - p.fA<n):bD (cH n p) λr=>GA p r.2/\r.1.length<=65538/\(r.2.e_=0->(∀x ∈ r.1,WP x)/\pM r.1<=r.2.fA - p.fA):=by
 unfold cH;refine (dM h hn).bind λq g1=>(dZ g1.inv hn).bind λr ⟨g2,g3,g4⟩=>?_;have m1:=g1.at';have m2:=g2.at';refine bD.iteb (λh5=>.some ⟨g1.gd g2,by simp,λ_=>⟨(λx hx=>nomatch hx),by rw [kM];simp only;omega⟩⟩) λh5=>?_;have g5:=g1.gd g2;have k0:=g2.inv.lo;refine bD.bind (P:=λy=>Gd r.2 y.2/\y.1.length<=65538/\(y.2.e_=0->(∀x ∈ y.1,WP x)/\pM y.1<=y.2.fA - r.2.fA)) ?_ λy ⟨g6,m3,m4⟩=>?_
 ·refine (Bb hn n [] r.2 g2.inv (by rw [g5.len];omega) (by simpa using k0)).bind λy ⟨y1,y2,y3⟩=>.some ⟨y1,?_,λe=>?_⟩
  ·have k1:=y1.inv.hi;have k2:=y1.inv.big;show y.1.length<=_;omega
  ·obtain ⟨w1,w2⟩:=y3 e (λx hx=>nomatch hx);exact ⟨w1,by rw [kM] at w2;simp only;omega⟩
 ·refine (dM g6.inv hn).bind λs g7=>.some ⟨(g5.gd g6).ga g7,m3,λe=>?_⟩;obtain ⟨w1,w2⟩:=m4 (g7.toGd.e0 e);have m5:=g7.at';exact ⟨w1,by simp only;omega⟩
theorem BH (h:PI p) {a:Int}:bD (iJ p a) λq=>Gd p q:=by
 unfold iJ;refine bD.iteb (λ_=>?_) λ_=>.some (.refl h);exact (sL h (by decide)).bind λq ⟨g,_⟩=>.some g
theorem Ht (h:PI p) (hn:13<n) (x:List cB) (hx:x.length=3):∀(c:Nat) (v:Nat),3<v+c->v<=3->bD (gP n x p c v) λr=>match r with | .inl _=>True | .inr t=>p.e_=0/\t ∈ x/\t ≠ []:=by
 intro c
 induction c with
 | zero=>intro v h1 h2;omega
 | succ c ih=>
   intro v h1 h2;unfold gP;refine bD.iteb (λh4=>?_) λh4=>.some trivial;simp only [uH] at h4;refine bD.bind' (bD.idx (by omega) (by omega) λz hz=>?_);refine bD.bind (P:=λb=>b=true->p.e_=0/\z ≠ []) ?_ λb hb=>?_
   ·refine bD.iteb (λhz0=>?_) λ_=>.some λh=>by cases h
    exact (zV h hn).bind λb hb=>.some λh=>⟨(hb h).1,by simpa using hz0⟩
   ·refine bD.iteb (λh5=>.some ⟨(hb h5).1,Fw hz,(hb h5).2⟩) λh5=>?_;rw [cZ (by omega) (by omega)];exact ih (v+1) (by omega) (by omega)
theorem Bl (h:PI p) (hn:13<n) {a:Int} (h0:0<=a) (h1:a<7):bD (iI n p a) λt=>t ≠ []->p.e_=0/\t ∈ FD:=by
 unfold iI;refine bD.bind' (bD.idx h0 (by have:cQ.length=7:=rfl;omega) λx hx=>?_)
 have hl:x.length=3:=by
  have:(cQ.all λy=>y.length == 3)=true:=by decide
  simpa using EG.1 this x (Fw hx)
 refine (Ht h hn x hl n 0 (by omega) (by omega)).bind λy hy=>bD.elim (λ_ _=>.some λh=>absurd rfl h) λz e=>?_;subst e;refine .some λ_=>⟨hy.1,?_⟩;have hall:(cQ.all λx=>x.all λs=>s == [] || FD.contains s)=true:=by decide
 have:=EG.1 (EG.1 hall x (Fw hx)) z hy.2.1;simp only [Kq,beq_iff_eq,xed] at this;exact this.resolve_left hy.2.2
end
def Lf (p:aA):Int:=16*((p.l_.length:Int) - p.fA)
theorem Gd.lf {p q:aA} (h:Gd p q):Lf q<=Lf p:=by have:=h.at';unfold Lf;rw [h.len];omega
theorem GA.lf {p q:aA} (h:GA p q) (he:q.e_=0):Lf q+16<=Lf p:=by have:=h.adv he;unfold Lf;rw [h.toGd.len];omega
theorem PI.lf {p:aA} (h:PI p):16<=Lf p:=by have:=h.hi;unfold Lf;omega
def Sx (p:aA) (r:aB × aA):Prop:=r.2.e_=0->WE r.1/\sz r.1<=r.2.fA - p.fA
def SL (p:aA) (r:List aB × aA):Prop:=r.2.e_=0->(∀x ∈ r.1,WE x)/\pM r.1<=r.2.fA - p.fA
def CF (n:Nat) (k:Int) (f:aA->Int->Option (aB × aA)):Prop:=∀p a,PI p->Lf p+k<=n->bD (f p a) λr=>GA p r.2/\Sx p r
def SE (n:Nat) (f:aA->Int->Int->Option (aB × aA)):Prop:=∀p a b,PI p->0<=a->a<=7->Lf p+29 - a<=n->bD (f p a b) λr=>GA p r.2/\Sx p r
def OkA (n:Nat) (f:aA->Int->Option ((List aB) × aA)):Prop:=∀p a,PI p->Lf p+25<=n->bD (f p a) λr=>GA p r.2/\SL p r
section
variable {n:Nat} {p:aA}
theorem HI (hn:13<n) {f:aA->Int->Int->Option (aB × aA)} {a1 a2:Int} (h0:0<=a1) (h6:a1<7) {k:Int} (hf:∀p,PI p->Lf p<=k->bD (f p (a1+1) a2) λr=>GA p r.2/\Sx p r) :
  ∀(c:Nat) (t:cB) (p:aA) (x:aB),PI p->Lf p<=k->1<=c->(t ≠ []->Lf p+1<=c/\t ∈ FD)->bD (cT f n a1 a2 c t p x) λr=>Gd p r.1/\(r.1.e_=0->WE x->WE r.2/\sz r.2<=sz x+(r.1.fA - p.fA)):=by
 intro c
 induction c with
 | zero=>intro t p x h hl h1;omega
 | succ c ih=>
   intro t p x h hl h1 h2;unfold cT;refine bD.iteb (λh4=>?_) λh4=>.some ⟨.refl h,λ_ hw=>⟨hw,by simp only;omega⟩⟩;simp only [ne_eq,uH] at h4;obtain ⟨h5,hsg⟩:=h2 h4;have h6':=h.lf;refine (oX h).bind λr ⟨g1,e1⟩=>(dM g1.inv hn).bind λq g2=>?_;have l1:=g1.lf;have l2:=g2.toGd.lf;rw [cZ (n:=a1+1) (by omega) (by omega)];refine (hf q g2.inv (by omega)).bind λs ⟨g3,sx⟩=>?_;have g4:=g1.ga (g2.ga g3)
   have hx:s.2.e_=0->WE x->WE { r.1 with bQ:=t,aL:=[x,s.1] }/\sz { r.1 with bQ:=t,aL:=[x,s.1] }<=sz x+(s.2.fA - p.fA):=λe hw=>by
    obtain ⟨w1,w2⟩:=sx e;have m2:=g2.adv (g3.toGd.e0 e);have m1:=g1.at';rw [e1];exact ⟨.bin hsg hw w1,by rw [fD,yZ];omega⟩
   refine bD.iteb (λ_=>.some ⟨g4.toGd,hx⟩) λ_=>?_;refine (Bl g3.inv hn h0 h6).bind λt' ht=>?_;have l3:=g3.toGd.lf;refine (ih t' s.2 _ g3.inv (by omega) (by omega) λhne=>?_).mono λr ⟨g5,g6⟩=>⟨g4.toGd.trans g5,λe hw=>?_⟩
   ·have l4:=g4.lf (ht hne).1;exact ⟨by omega,(ht hne).2⟩
   ·obtain ⟨v1,v2⟩:=hx (g5.e0 e) hw;obtain ⟨v3,v4⟩:=g6 e v1;exact ⟨v3,by omega⟩
theorem JK (hn:13<n) {fo:aA->Int->Option (aB × aA)} {fl:aA->Int->Int->Option (aB × aA)} (ho:CF n 21 fo) (hl:SE n fl):SE (n+1) (eP fo fl n):=by
 intro p a b h h0 h7 hb;unfold eP;refine bD.iteb (λh1=>?_) λh1=>?_
 ·simp only [beq_iff_eq] at h1;exact (ho p b h (by omega)).bind λr g=>.some g
 ·simp only [beq_eq_false_iff_ne,ne_eq] at h1;rw [cZ (n:=a+1) (by omega) (by omega)];refine (hl p (a+1) b h (by omega) (by omega) (by omega)).bind λr ⟨g,sx⟩=>?_;have l1:=g.toGd.lf;have l2:=g.inv.lf;refine (Bl g.inv hn h0 (by omega)).bind λt ht=>?_;refine (HI hn h0 (by omega) (k:=Lf r.2) (λq hq hk=>hl q (a+1) b hq (by omega) (by omega) (by omega)) n t r.2 r.1 g.inv (NR _) (by omega) (λhne=>⟨by omega,(ht hne).2⟩)).bind λs ⟨g2,sx2⟩=>.some ⟨g.gd g2,λe=>?_⟩;obtain ⟨v1,v2⟩:=sx (g2.e0 e);obtain ⟨v3,v4⟩:=sx2 e v1;exact ⟨v3,by simp only;omega⟩
theorem Mx {fl:aA->Int->Int->Option (aB × aA)} (hl:SE n fl):CF (n+1) 30 (gI fl n):=by
 intro p a h hb;unfold gI;exact (hl p 0 a h (by omega) (by omega) (by omega)).bind λr g=>.some g
theorem Dp {fe:aA->Int->Option (aB × aA)} (he:CF n 30 fe):CF (n+1) 31 (dI fe n):=by
 intro p a h hb;unfold dI;exact (he p _ h (by omega)).bind λr g=>.some g
theorem SL.more {p q r:aA} {x:aB} {l:List aB} (g1:Gd p q) (sx:Sx p (x,q)) (g2:Gd q r):r.e_=0->(∀x ∈ l,WE x)->(∀y ∈ l++[x],WE y)/\pM (l++[x])<=pM l+(r.fA - p.fA):=λe hl=>by
 obtain ⟨w1,w2⟩:=sx (g2.e0 e);have m2:=g2.at';simp only at w2;refine ⟨λy hy=>?_,by rw [Aw,gW];omega⟩
 rcases BQ.1 hy with hy | hy
 ·exact hl y hy
 ·obtain rfl:=DX.1 hy;exact w1
theorem xQ (hn:13<n) {fo:aA->Int->Option (aB × aA)} {k:Int} {a:Int} (hf:∀p,PI p->Lf p<=k->bD (fo p a) λr=>GA p r.2/\Sx p r):∀(c:Nat) (l:List aB) (p:aA),PI p->(p.e_=0->Lf p<=k)->(p.l_.length:Int) - p.fA<c->(l.length:Int)<=p.fA->bD (cF fo n a c l p) λr=>Gd p r.2/\(r.1.length:Int)<=r.2.fA+1/\(r.2.e_=0->(∀x ∈ l,WE x)->(∀x ∈ r.1,WE x)/\pM r.1<=pM l+(r.2.fA - p.fA)):=by
 intro c
 induction c with
 | zero=>intro l p h _ h1 h2;have:=h.hi;omega
 | succ c ih=>
   intro l p h hk h1 h2;have k1:=h.lo;have k2:=h.hi;have k3:=h.big;unfold cF;refine bD.iteb (λh4=>?_) λh4=>.some ⟨.refl h,by simp only;omega,λ_ hl=>⟨hl,by simp only;omega⟩⟩;simp only [beq_iff_eq] at h4;refine (hf p h (hk h4)).bind λx ⟨g1,sx⟩=>?_;refine bD.need (by simp only [mQ];omega) ?_;refine (dZ g1.inv hn).bind λr ⟨g2,g3,_⟩=>?_;have m1:=g1.at';have m2:=g2.at';have hx:=SL.more (l:=l) g1.toGd sx g2;refine bD.iteb (λh5=>.some ⟨g1.toGd.trans g2,by simp only [mK,mQ];omega,hx⟩) λh5=>?_;have g4:=g3 (by simpa using h5);have g5:=g1.ga g4.2.1;have m3:=g1.adv g4.1;have m4:=g1.toGd.trans g2;have m5:=g5.toGd.lf;have m6:=hk h4;refine (ih _ r.2 g2.inv (λ_=>by omega) (by rw [m4.len];omega) (by simp only [mK,mQ];omega)).mono λs ⟨s1,s2,s3⟩=>⟨g5.toGd.trans s1,s2,λe hl=>?_⟩;obtain ⟨v1,v2⟩:=hx (s1.e0 e) hl;obtain ⟨v3,v4⟩:=s3 e v1;exact ⟨v3,by omega⟩
theorem zQ (hn:13<n) {fo:aA->Int->Option (aB × aA)} (ho:CF n 31 fo):OkA (n+1) (cK fo n):=by
 intro p a h hb;unfold cK;refine (dM h hn).bind λq g1=>(dZ g1.inv hn).bind λr ⟨g2,g3,g4⟩=>?_;have m1:=g1.at';have m2:=g2.at';refine bD.iteb (λh5=>.some ⟨g1.gd g2,λ_=>⟨(λx hx=>nomatch hx),by rw [kM];simp only;omega⟩⟩) λh5=>?_;have g5:=g1.gd g2;have k0:=g2.inv.lo;have k1:=g5.toGd.lf;have k2:=h.lf;refine bD.bind (P:=λy=>Gd r.2 y.2/\SL r.2 y) ?_ λy ⟨g6,s6⟩=>?_
 ·refine (xQ hn (k:=(n:Int) - 31) (λq hq hk=>ho q a hq (by omega)) n [] r.2 g2.inv (λhe=>?_) ?_ (by simpa using k0)).bind λy ⟨y1,y2,y3⟩=>.some ⟨y1,λe=>?_⟩
  ·have:=g5.lf he;omega
  ·unfold Lf at hb k1;rw [g5.toGd.len] at k1 ⊢;have:=h.hi;omega
  ·obtain ⟨w1,w2⟩:=y3 e (λx hx=>nomatch hx);exact ⟨w1,by rw [kM] at w2;simp only;omega⟩
 ·refine (dM g6.inv hn).bind λs g7=>.some ⟨(g5.gd g6).ga g7,λe=>?_⟩;obtain ⟨w1,w2⟩:=s6 (g7.toGd.e0 e);have m5:=g7.at';exact ⟨w1,by simp only;omega⟩
theorem El (hn:13<n) {fo:aA->Int->Option (aB × aA)} {k:Int} (hf:∀p a,PI p->Lf p<=k->bD (fo p a) λr=>GA p r.2/\Sx p r) {a1:Int}:∀(c:Nat) (v:Nat) (p:aA) (x y:aB),2<v+c->v<=2->PI p->Lf p<=k+16->bD (fG fo n a1 c v p x y) λr=>match r with | .inl s=>Gd p s.1/\s.2.1=x | .inr s=>GA p s.2/\(x.kL=0->Sx p s):=by
 intro c
 induction c with
 | zero=>intro v p x y h1 h2;omega
 | succ c ih=>
   intro v p x y h1 h2 h hk;unfold fG;refine bD.iteb (λh4=>?_) λh4=>.some ⟨.refl h,rfl⟩;simp only [uH] at h4;refine bD.bind' (bD.idx (by omega) (by have:fH.length=2:=rfl;omega) λz hz=>?_);refine (dZ h hn).bind λr ⟨g1,g2,g3⟩=>?_;refine bD.iteb (λh5=>?_) λh5=>?_
   ·obtain ⟨_,g4,g5⟩:=g2 h5;have l1:=g4.lf g5;refine (hf r.2 _ g1.inv (by omega)).bind λs ⟨g6,sx⟩=>.some ⟨g4.ga g6,λhx e=>?_⟩;obtain ⟨w1,w2⟩:=sx e;have m1:=g4.adv (g6.toGd.e0 e);refine ⟨?_,by simp only [fD,gW];omega⟩;simp only [hx];refine .un ?_ w1;have hm:=Fw hz;simpa [fH] using hm
   ·rw [cZ (by omega) (by omega)];have l1:=g1.lf;refine (ih (v+1) r.2 x y (by omega) (by omega) g1.inv (by omega)).mono λs hs=>?_;cases s with
    | inl s=>exact ⟨g1.trans hs.1,hs.2⟩
    | inr s=>
      refine ⟨g1.ga hs.1,λhx e=>?_⟩;obtain ⟨w1,w2⟩:=hs.2 hx e;have:=g1.at';exact ⟨w1,by omega⟩
theorem DI (hn:13<n) {fe fo:aA->Int->Option (aB × aA)} {fa:aA->Int->Option ((List aB) × aA)} (he:CF n 30 fe) (ho:CF n 21 fo) (ha:OkA n fa):CF (n+1) 21 (bV fe fo fa n):=by
 intro p a h hb;unfold bV;refine (BH h).bind λq g1=>(dZ g1.inv hn).bind λr ⟨g2,g3,_⟩=>?_;have m1:=g1.lf;have m2:=g2.lf;have m3:=h.lf;have n1:=g1.at';have n2:=g2.at';refine bD.iteb (λh5=>?_) λh5=>?_
 ·obtain ⟨_,g4,g5⟩:=g3 h5;have l1:=g4.lf g5;refine (he r.2 _ g2.inv (by omega)).bind λs ⟨g6,sx⟩=>(dM g6.inv hn).bind λt g7=>.some ⟨g1.ga (g4.ga (g6.ga g7)),λe=>?_⟩;obtain ⟨w1,w2⟩:=sx (g7.toGd.e0 e);have n3:=g7.at';exact ⟨w1,by simp only;omega⟩
 ·refine (oX g2.inv).bind λs ⟨g4,e4⟩=>?_;have m4:=g4.lf;have n4:=g4.at';refine (El hn (k:=(n:Int) - 21) (λq b hq hk=>ho q b hq (by omega)) n 0 s.2 _ _ (by omega) (by omega) g4.inv (by omega)).bind λy hy=>?_;have g5:=g1.trans (g2.trans g4);refine bD.elim (λz e=>?_) λz e=>?_
  ·subst e;have hy':Gd s.2 z.1:=hy.1;have hz:z.2.1=s.1:=hy.2;have g6:=g5.trans hy';have n5:=hy'.at';rw [hz,e4];refine bD.bind (P:=λ_=>True) ?_ λb _=>?_
   ·refine bD.iteb (λ_=>?_) λ_=>.some trivial;exact (nI hy'.inv).bind λt _=>.some trivial
   ·refine bD.iteb (λ_=>?_) λ_=>?_
    ·refine (wS hy'.inv).bind λt ⟨g7,n7⟩=>.some ⟨g6.ga g7,λe=>?_⟩;have:=g7.adv e;exact ⟨.num n7.1 n7.2,by simp only [fD,kM];omega⟩
    ·refine (oY hy'.inv hn).bind λt g7=>?_;have g8:=g6.ga g7;have l8:=g8.toGd.lf;refine bD.bind (P:=λy=>GA p y.1/\Sx p (y.2,y.1)) ?_ λy hy=>.some hy;refine (zV g7.inv hn).bind λb hb=>bD.iteb (λh9=>?_) λh9=>?_
     ·have l9:=g8.lf (hb h9).1;refine (ha t.2 a g7.inv (by omega)).bind λu ⟨g9,sx⟩=>.some ⟨g8.ga g9,λe=>?_⟩;obtain ⟨w1,w2⟩:=sx e;have:=g7.adv (g9.toGd.e0 e);exact ⟨.call w1,by simp only [fD];omega⟩
     ·refine (dZ g7.inv hn).bind λu ⟨g9,g10,_⟩=>bD.iteb (λh10=>?_) λh10=>.some ⟨g8.gd g9,λe=>?_⟩
      ·obtain ⟨_,g11,g12⟩:=g10 h10;have l9:=g11.lf g12;refine (he u.2 _ g9.inv (by omega)).bind λv ⟨g13,sx⟩=>(dM g13.inv hn).bind λw g14=>.some ⟨g8.ga (g11.ga (g13.ga g14)),λe=>?_⟩;have ev:=g14.toGd.e0 e;obtain ⟨w1,w2⟩:=sx ev;have n6:=g14.at';have n7:=g7.adv (g9.e0 (g13.toGd.e0 ev));have n8:=g9.at';exact ⟨.index w1,by simp only [fD,gW];omega⟩
      ·have n7:=g7.adv (g9.e0 e);have n8:=g9.at';exact ⟨.ref,by simp only [fD,kM];omega⟩
  ·subst e;refine .some ⟨g5.ga hy.1,λe=>?_⟩;obtain ⟨w1,w2⟩:=hy.2 (by rw [e4]) e;exact ⟨w1,by omega⟩
theorem Et:∀n:Nat,OkA n (aJ n).1/\CF n 30 (aJ n).2.1/\SE n (aJ n).2.2.1/\CF n 21 (aJ n).2.2.2.1/\CF n 31 (aJ n).2.2.2.2:=by
 have small:∀n:Nat,n<=14->OkA n (aJ n).1/\CF n 30 (aJ n).2.1/\SE n (aJ n).2.2.1/\CF n 21 (aJ n).2.2.2.1/\CF n 31 (aJ n).2.2.2.2:=by
  intro n hn;refine ⟨λp a h hb=>?_,λp a h hb=>?_,λp a b h h0 h7 hb=>?_,λp a h hb=>?_,λp a h hb=>?_⟩ <;> (have:=h.lf;omega)
 intro n
 induction n with
 | zero=>exact small 0 (by omega)
 | succ n ih=>
   by_cases hn:13<n
   ·obtain ⟨i1,i2,i3,i4,i5⟩:=ih;exact ⟨zQ hn i5,Mx i3,JK hn i4 i3,DI hn i2 i4 i1,Dp i2⟩
   ·exact small (n+1) (by omega)
theorem nS (h:PI p) {a:Int} (hb:Lf p+30<=n):bD (cM n p a) λr=>GA p r.2/\Sx p r:=(Et n).2.1 p a h hb
theorem BC (h:PI p) {x:aB} {a:Int} (hb:Lf p+30<=n):bD (fK n p x a) λr=>GA p r.2/\(r.2.e_=0->∃s y,r.1={ x with bQ:=s,aL:=[y] }/\WE y/\sz y+1<=r.2.fA - p.fA):=by
 have hn:13<n:=by have:=h.lf;omega
 unfold fK;refine (oY h hn).bind λr g1=>(dM g1.inv hn).bind λq g2=>?_;have l1:=g1.toGd.lf;have l2:=g2.toGd.lf;refine (nS g2.inv (by omega)).bind λs ⟨g3,sx⟩=>(dM g3.inv hn).bind λt g4=>.some ⟨g1.ga (g2.ga (g3.ga g4)),λe=>?_⟩;obtain ⟨w1,w2⟩:=sx (g4.toGd.e0 e);have n1:=g1.at';have n2:=g2.at';have n4:=g4.adv e;exact ⟨_,_,rfl,w1,by simp only;omega⟩
theorem Dk (h:PI p) {a:Int} (hb:Lf p+30<=n):bD (fW n p a) λr=>GA p r.2/\Sx p r:=by
 unfold fW;exact (nS h hb).bind λr g=>.some g
theorem Ba (hn:13<n) {a:Int}:∀(c:Nat) (l:List aB) (p:aA),PI p->Lf p+30<=n->(p.l_.length:Int) - p.fA<c->(l.length:Int)<=p.fA->bD (cN n a c l p) λr=>Gd p r.2/\(r.1.length:Int)<=r.2.fA+1/\(r.2.e_=0->(∀x ∈ l,WE x)->(∀x ∈ r.1,WE x)/\pM r.1<=pM l+(r.2.fA - p.fA)):=by
 intro c
 induction c with
 | zero=>intro l p h _ h1 h2;have:=h.hi;omega
 | succ c ih=>
   intro l p h hk h1 h2;have k1:=h.lo;have k2:=h.hi;have k3:=h.big;unfold cN;refine bD.iteb (λh4=>?_) λh4=>.some ⟨.refl h,by simp only;omega,λ_ hl=>⟨hl,by simp only;omega⟩⟩;refine (Dk h hk).bind λx ⟨g1,sx⟩=>?_;refine bD.need (by simp only [mQ];omega) ?_;refine (dZ g1.inv hn).bind λr ⟨g2,g3,_⟩=>?_;have m1:=g1.at';have m2:=g2.at';have hx:=SL.more (l:=l) g1.toGd sx g2;refine bD.iteb (λh5=>.some ⟨g1.toGd.trans g2,by simp only [mK,mQ];omega,hx⟩) λh5=>?_;have g4:=g3 (by simpa using h5);have g5:=g1.ga g4.2.1;have m3:=g1.adv g4.1;have m4:=g1.toGd.trans g2;have m5:=g5.toGd.lf;refine (ih _ r.2 g2.inv (by omega) (by rw [m4.len];omega) (by simp only [mK,mQ];omega)).mono λs ⟨s1,s2,s3⟩=>⟨g5.toGd.trans s1,s2,λe hl=>?_⟩;obtain ⟨v1,v2⟩:=hx (s1.e0 e) hl;obtain ⟨v3,v4⟩:=s3 e v1;exact ⟨v3,by omega⟩
theorem zP (h:PI p) {a:Int} (hb:Lf p+30<=n):bD (cX n p a) λr=>GA p r.2/\SL p r:=by
 have hn:13<n:=by have:=h.lf;omega
 unfold cX;refine (dM h hn).bind λq g1=>(dZ g1.inv hn).bind λr ⟨g2,g3,g4⟩=>?_;have m1:=g1.at';have m2:=g2.at';refine bD.iteb (λh5=>.some ⟨g1.gd g2,λ_=>⟨(λx hx=>nomatch hx),by rw [kM];simp only;omega⟩⟩) λh5=>?_;have g5:=g1.gd g2;have k0:=g2.inv.lo;have k1:=g5.toGd.lf;refine bD.bind (P:=λy=>Gd r.2 y.2/\SL r.2 y) ?_ λy ⟨g6,s6⟩=>?_
 ·refine (Ba hn n [] r.2 g2.inv (by omega) ?_ (by simpa using k0)).bind λy ⟨y1,y2,y3⟩=>.some ⟨y1,λe=>?_⟩
  ·unfold Lf at hb k1;rw [g5.toGd.len] at k1 ⊢;have:=h.hi;omega
  ·obtain ⟨w1,w2⟩:=y3 e (λx hx=>nomatch hx);exact ⟨w1,by rw [kM] at w2;simp only;omega⟩
 ·refine (dM g6.inv hn).bind λs g7=>.some ⟨(g5.gd g6).ga g7,λe=>?_⟩;obtain ⟨w1,w2⟩:=s6 (g7.toGd.e0 e);have m5:=g7.at';exact ⟨w1,by simp only;omega⟩
def St0 (x:aB):Prop:=x=⟨8,x.eO,[],0,[]⟩
def Ss (p:aA) (r:aB × aA):Prop:=r.2.e_=0->WS r.1/\sz r.1<=r.2.fA - p.fA
theorem FI (h:PI p) {x:aB} {a:Int} (hb:Lf p+30<=n) (hx:St0 x):bD (fI n p x a) λr=>GA p r.2/\Ss p r:=by
 have hn:13<n:=by have:=h.lf;omega
 unfold fI;rw [hx];refine (oY h hn).bind λr g1=>?_;have l1:=g1.toGd.lf;have n1:=g1.at';refine bD.bind (P:=λy=>GA p y.1/\(y.1.e_=0->WS y.2/\sz y.2<=1+(y.1.fA - p.fA))) ?_ λy hy=>?_
 case refine_2=>
  obtain ⟨hy',hs⟩:GA p y.1/\(y.1.e_=0->WS y.2/\sz y.2<=1+(y.1.fA - p.fA)):=hy;refine (dM hy'.inv hn).bind λs g=>.some ⟨hy'.ga g,λe=>?_⟩;obtain ⟨w1,w2⟩:=hs (g.toGd.e0 e);have:=g.adv e;exact ⟨w1,by simp only;omega⟩
 refine (zV g1.inv hn).bind λb _=>bD.iteb (λ_=>?_) λ_=>?_
 ·refine (zP g1.inv (by omega)).bind λs ⟨g2,sx⟩=>.some ⟨g1.ga g2,λe=>?_⟩;obtain ⟨w1,w2⟩:=sx e;exact ⟨.call w1,by simp only [fD];omega⟩
 ·refine (dZ g1.inv hn).bind λs ⟨g2,_,_⟩=>?_;have l2:=g2.lf;have n2:=g2.at';refine bD.iteb (λ_=>?_) λ_=>?_
  ·refine (nS g2.inv (by omega)).bind λt ⟨g3,s3⟩=>(dM g3.inv hn).bind λu g4=>(dM g4.inv hn).bind λv g5=>?_;have l3:=g3.toGd.lf;have l4:=g4.toGd.lf;have l5:=g5.toGd.lf;refine (nS g5.inv (by omega)).bind λw ⟨g6,s6⟩=>bD.need (by simp) (.some ⟨g1.gd (g2.trans (g3.toGd.trans (g4.toGd.trans (g5.toGd.trans g6.toGd)))),λe=>?_⟩);obtain ⟨w1,w2⟩:=s6 e;have e5:=g6.toGd.e0 e;obtain ⟨w3,w4⟩:=s3 (g4.toGd.e0 (g5.toGd.e0 e5));have n4:=g4.at';have n5:=g5.at';exact ⟨.put w3 w1,by simp only [fD,List.singleton_append,yZ];omega⟩
  ·refine (dM g2.inv hn).bind λv g5=>?_;have l5:=g5.toGd.lf;have n5:=g5.at';refine (nS g5.inv (by omega)).bind λw ⟨g6,s6⟩=>.some ⟨g1.gd (g2.trans (g5.toGd.trans g6.toGd)),λe=>?_⟩;obtain ⟨w1,w2⟩:=s6 e;exact ⟨.set w1,by simp only [fD,gW];omega⟩
end
def Bk (p:aA) (r:aB × aA):Prop:=r.2.e_=0->(r.1=⟨4,r.1.eO,[],0,r.1.aL⟩/\∀y ∈ r.1.aL,WS y)/\sz r.1<=r.2.fA - p.fA
def OkS (n:Nat) (f:aA->Int->Option (aB × aA)):Prop:=∀p a,PI p->Lf p+45<=n->bD (f p a) λr=>GA p r.2/\Ss p r
def OkK (n:Nat) (f:aA->Int->Option (aB × aA)):Prop:=∀p a,PI p->Lf p+46<=n->bD (f p a) λr=>GA p r.2/\Bk p r
def PU (n:Nat) (k:Int) (f:aA->aB->Int->Option (aB × aA)):Prop:=∀p x a,PI p->Lf p+k<=n->St0 x->bD (f p x a) λr=>GA p r.2/\(r.2.e_=0->WS r.1/\sz r.1<=1+(r.2.fA - p.fA))
section
variable {n:Nat} {p:aA}
theorem Ie (hn:13<n) {fs:aA->Int->Option (aB × aA)} {k:Int} {a:Int} (hf:∀p,PI p->Lf p<=k->bD (fs p a) λr=>GA p r.2/\Ss p r):∀(c:Nat) (p:aA) (x:aB),PI p->(p.e_=0->Lf p<=k)->(p.l_.length:Int) - p.fA<c->1<=c->(p.e_=0->(x.aL.length:Int)<=p.fA)->(x.aL.length:Int)<=65538->bD (dJ fs n a c p x) λr=>Gd p r.1/\(r.1.e_=0->(∀y ∈ x.aL,WS y)->(∀y ∈ r.2.aL,WS y)/\pM r.2.aL<=pM x.aL+(r.1.fA - p.fA)/\r.2={ x with aL:=r.2.aL }):=by
 intro c
 induction c with
 | zero=>intro p x h _ h1 h2;omega
 | succ c ih=>
   intro p x h hk h1 h2 h3 h4;have k1:=h.lo;have k2:=h.hi;have k3:=h.big;unfold dJ;refine bD.bind (P:=λb=>b=true->p.e_=0) ?_ λb hb=>?_
   ·refine bD.iteb (λhe=>?_) λ_=>.some λh=>by cases h
    exact (zV h hn).bind λb hb=>.some λ_=>by simpa using he
   ·refine bD.iteb (λh5=>?_) λh5=>.some ⟨.refl h,λ_ hl=>⟨hl,by simp only;omega,by cases x;rfl⟩⟩;have he:=hb h5;refine (hf p h (hk he)).bind λr ⟨g,ss⟩=>?_;have m1:=g.at';have m2:=hk he;have m3:=h3 he;have m4:=g.toGd.lf;have m5:=g.inv.hi;have m6:=g.toGd.len;refine bD.need (by simp only [mQ];omega) ?_
    by_cases he2:r.2.e_=0
    ·have m7:=g.adv he2;obtain ⟨w1,w2⟩:=ss he2;refine (ih r.2 _ g.inv (λ_=>by omega) (by rw [m6];omega) (by omega) (λ_=>by simp only [mK,mQ];omega) (by simp only [mK,mQ];omega)).mono λs ⟨g2,s2⟩=>⟨g.toGd.trans g2,λe hl=>?_⟩
     obtain ⟨v1,v2,v3⟩:=s2 e (λy hy=>by
      rcases BQ.1 hy with hy | hy
      ·exact hl y hy
      ·obtain rfl:=DX.1 hy;exact w1)
     refine ⟨v1,?_,v3⟩;simp only [Aw,gW] at v2;omega
    ·cases c with
     | zero=>omega
     | succ c=>
       unfold dJ;rw [if_neg (by simpa using he2),bU,if_neg (by decide)];exact .some ⟨g.toGd,λe=>absurd e he2⟩
theorem GY {fs:aA->Int->Option (aB × aA)} (hs:OkS n fs):OkK (n+1) (dC fs n):=by
 intro p a h hb;have hn:13<n:=by have:=h.lf;omega
 unfold dC;refine (BH h).bind λq g1=>(oX g1.inv).bind λr ⟨g2,e2⟩=>(dM g2.inv hn).bind λt g3=>?_;have e:r.1.aL=[]:=by rw [e2]
 have g4:=g1.trans g2;have g5:=g4.ga g3;have l5:=g5.toGd.lf;have k0:=g3.inv.lo;refine (Ie hn (k:=(n:Int) - 45) (λq hq hk=>hs q a hq (by omega)) n t r.1 g3.inv (λhe=>?_) ?_ (by omega) (λ_=>by rw [e];simpa using k0) (by rw [e];simp)).bind λy ⟨g6,s6⟩=>(dM g6.inv hn).bind λs g7=>.some ⟨(g5.gd g6).ga g7,λe3=>?_⟩
 ·have:=g5.lf he;omega
 ·unfold Lf at hb l5;rw [g5.toGd.len] at l5 ⊢;have:=h.hi;omega
 ·have ey:=g7.toGd.e0 e3;obtain ⟨v1,v2,v3⟩:=s6 ey (λy hy=>by rw [e] at hy;cases hy);have n3:=g3.adv (g6.e0 ey);have n4:=g4.at';have n7:=g7.at';rw [e2] at v3;rw [e,kM] at v2;refine ⟨⟨by simp only;rw [v3],v1⟩,?_⟩;simp only [CJ];omega
theorem HX {fb:aA->Int->Option (aB × aA)} (hf:OkK n fb):PU (n+1) 47 (eD fb n):=by
 intro p x a h hb hx;have hn:13<n:=by have:=h.lf;omega
 unfold eD;rw [hx];refine (nS h (by omega)).bind λr ⟨g1,s1⟩=>?_;have l1:=g1.toGd.lf;refine (hf r.2 _ g1.inv (by omega)).bind λs ⟨g2,s2⟩=>bD.need (by simp) ((dZ g2.inv hn).bind λt ⟨g3,_,_⟩=>?_);have l2:=g2.toGd.lf;have l3:=g3.lf;have n3:=g3.at';refine bD.iteb (λ_=>?_) λ_=>.some ⟨(g1.ga g2).gd g3,λe=>?_⟩
 ·refine (hf t.2 _ g3.inv (by omega)).bind λu ⟨g4,s4⟩=>bD.need (by simp) (.some ⟨((g1.ga g2).gd g3).ga g4,λe=>?_⟩);have e3:=g4.toGd.e0 e;have e2:=g3.e0 e3;obtain ⟨⟨a1,a2⟩,a3⟩:=s4 e;obtain ⟨⟨b1,b2⟩,b3⟩:=s2 e2;obtain ⟨c1,c2⟩:=s1 (g2.toGd.e0 e2);simp only [List.singleton_append,iC,iV];rw [fD,Gh];refine ⟨?_,by omega⟩;rw [a1,b1];exact .choice2 c1 b2 a2
 ·have e2:=g3.e0 e;obtain ⟨⟨b1,b2⟩,b3⟩:=s2 e2;obtain ⟨c1,c2⟩:=s1 (g2.toGd.e0 e2);simp only [List.singleton_append];rw [fD,yZ];refine ⟨?_,by omega⟩;rw [b1];exact .choice c1 b2
theorem Ml {fb:aA->Int->Option (aB × aA)} (hf:OkK n fb):PU (n+1) 47 (gH fb n):=by
 intro p x a h hb hx;have hn:13<n:=by have:=h.lf;omega
 unfold gH;rw [hx];refine (oY h hn).bind λr g1=>(dM g1.inv hn).bind λs g2=>?_;have l1:=g1.toGd.lf;have l2:=g2.toGd.lf;have n1:=g1.at';have n2:=g2.at';refine (nS g2.inv (by omega)).bind λt ⟨g3,s3⟩=>(dM g3.inv hn).bind λu g4=>?_;have l3:=g3.toGd.lf;have l4:=g4.toGd.lf;have n4:=g4.at';refine (nS g4.inv (by omega)).bind λv ⟨g5,s5⟩=>bD.need (by simp) ?_;have l5:=g5.toGd.lf;refine (hf v.2 _ g5.inv (by omega)).bind λw ⟨g6,s6⟩=>bD.need (by simp) (.some ⟨g1.ga (g2.ga (g3.ga (g4.ga (g5.ga g6)))),λe=>?_⟩);have e5:=g6.toGd.e0 e;have e4:=g5.toGd.e0 e5;obtain ⟨⟨b1,b2⟩,b3⟩:=s6 e;obtain ⟨c1,c2⟩:=s5 e5;obtain ⟨d1,d2⟩:=s3 (g4.toGd.e0 e4);simp only [List.singleton_append,iC,iV];rw [fD,Gh];refine ⟨?_,by omega⟩;rw [b1];exact .loop d1 c1 b2
theorem De {fc fl:aA->aB->Int->Option (aB × aA)} (hc:PU n 47 fc) (hl:PU n 47 fl):OkS (n+1) (bF fc fl n):=by
 intro p a h hb;have hn:13<n:=by have:=h.lf;omega
 unfold bF;refine (oX h).bind λr ⟨g1,e1⟩=>?_;have hx:St0 r.1:=e1;have l1:=g1.lf;have n1:=g1.at';refine bD.bind (P:=λy=>match y with | .inl y=>GA p y.1/\(y.1.e_=0->WS y.2/\sz y.2<=1+(y.1.fA - p.fA)) | .inr y=>GA p y.2/\Ss p y) ?_ λy hy=>?_
 ·refine (dZ g1.inv hn).bind λt1 ⟨a1,b1,_⟩=>bD.iteb (λh1=>?_) λh1=>?_
  ·have m1:=a1.lf;have o1:=a1.at';refine (BC a1.inv (by omega)).bind λu ⟨g2,s2⟩=>.some ⟨g1.ga (a1.ga g2),λe=>?_⟩;obtain ⟨s,y,q1,q2,q3⟩:=s2 e;simp only;rw [q1,e1];exact ⟨.bind (.inl rfl) q2,by simp only [fD,gW];omega⟩
  have m1:=a1.lf;have o1:=a1.at';refine (dZ a1.inv hn).bind λt2 ⟨a2,b2,_⟩=>bD.iteb (λh2=>?_) λh2=>?_
  ·have m2:=a2.lf;have o2:=a2.at';refine (BC a2.inv (by omega)).bind λu ⟨g2,s2⟩=>.some ⟨g1.ga (a1.ga (a2.ga g2)),λe=>?_⟩;obtain ⟨s,y,q1,q2,q3⟩:=s2 e;simp only;rw [q1,e1];exact ⟨.bind (.inr rfl) q2,by simp only [fD,gW];omega⟩
  have m2:=a2.lf;have o2:=a2.at';refine (dZ a2.inv hn).bind λt3 ⟨a3,b3,_⟩=>bD.iteb (λh3=>?_) λh3=>?_
  ·have o3:=a3.at';refine (oY a3.inv hn).bind λu g2=>(Dg g2.inv hn).bind λv g3=>.some ⟨g1.ga (a1.ga (a2.ga (a3.ga (g2.ga g3)))),λe=>?_⟩;have o4:=g2.at';have o5:=g3.at';simp only;rw [e1];exact ⟨.arr,by simp only [fD,kM];omega⟩
  have m3:=a3.lf;have o3:=a3.at';refine (dZ a3.inv hn).bind λt4 ⟨a4,b4,_⟩=>bD.iteb (λh4=>?_) λh4=>?_
  ·have m4:=a4.lf;have o4:=a4.at';refine (nS a4.inv (by omega)).bind λu ⟨g2,s2⟩=>.some ⟨g1.ga (a1.ga (a2.ga (a3.ga (a4.ga g2)))),λe=>?_⟩;obtain ⟨q1,q2⟩:=s2 e;simp only;rw [e1];exact ⟨.ret q1,by simp only [fD,gW];omega⟩
  have m4:=a4.lf;have o4:=a4.at';refine (dZ a4.inv hn).bind λt5 ⟨a5,b5,_⟩=>bD.iteb (λh5=>?_) λh5=>?_
  ·obtain ⟨_,c1,c2⟩:=b5 h5;have m5:=c1.lf c2;have o5:=c1.adv c2;refine (hc t5.2 _ _ a5.inv (by omega) hx).bind λu ⟨g2,s2⟩=>.some ⟨g1.ga (a1.ga (a2.ga (a3.ga (a4.ga (a5.ga g2))))),λe=>?_⟩;obtain ⟨q1,q2⟩:=s2 e;exact ⟨q1,by simp only;omega⟩
  have m5:=a5.lf;have o5:=a5.at';refine (dZ a5.inv hn).bind λt6 ⟨a6,b6,_⟩=>bD.iteb (λh6=>?_) λh6=>?_
  ·obtain ⟨_,c1,c2⟩:=b6 h6;have m6:=c1.lf c2;have o6:=c1.adv c2;refine (hl t6.2 _ _ a6.inv (by omega) hx).bind λu ⟨g2,s2⟩=>.some ⟨g1.ga (a1.ga (a2.ga (a3.ga (a4.ga (a5.ga (a6.ga g2)))))),λe=>?_⟩;obtain ⟨q1,q2⟩:=s2 e;exact ⟨q1,by simp only;omega⟩
  have m6:=a6.lf;have o6:=a6.at';refine (FI a6.inv (by omega) hx).bind λu ⟨g2,s2⟩=>.some ⟨g1.ga (a1.ga (a2.ga (a3.ga (a4.ga (a5.ga (a6.ga g2)))))),λe=>?_⟩;obtain ⟨q1,q2⟩:=s2 e;exact ⟨q1,by simp only;omega⟩
 ·refine bD.elim (λz e=>?_) λz e=>?_
  ·subst e;obtain ⟨hy',hs⟩:GA p z.1/\(z.1.e_=0->WS z.2/\sz z.2<=1+(z.1.fA - p.fA)):=hy;refine (dM hy'.inv hn).bind λs g=>.some ⟨hy'.ga g,λe=>?_⟩;obtain ⟨w1,w2⟩:=hs (g.toGd.e0 e);have:=g.adv e;exact ⟨w1,by simp only;omega⟩
  ·subst e;exact .some hy
theorem Cw:∀n:Nat,OkK n (bR n).1/\OkS n (bR n).2.1/\PU n 47 (bR n).2.2.1/\PU n 47 (bR n).2.2.2:=by
 intro n
 induction n with
 | zero=>refine ⟨λp a h hb=>?_,λp a h hb=>?_,λp x a h hb=>?_,λp x a h hb=>?_⟩ <;> (have:=h.lf;omega)
 | succ n ih=>
   obtain ⟨i1,i2,i3,i4⟩:=ih;exact ⟨GY i2,De i3 i4,HX i1,Ml i1⟩
theorem rP (h:PI p) {a:Int} (hb:Lf p+46<=n):bD (bN n p a) λr=>GA p r.2/\Bk p r:=(Cw n).1 p a h hb
def Fx (p:aA) (r:aB × aA):Prop:=r.2.e_=0->WF r.1/\sz r.1<=r.2.fA - p.fA
theorem Cx (h:PI p) (hb:Lf p+46<=n):bD (eC n p) λr=>GA p r.2/\Fx p r:=by
 have hn:13<n:=by have:=h.lf;omega
 unfold eC;refine (oX h).bind λr ⟨g1,e1⟩=>(dZ g1.inv hn).bind λt ⟨g2,_,_⟩=>?_;have g3:=g1.trans g2;have n3:=g3.at'
 have key:∀q:aA,GA p q->(q.l_.length:Int) - q.fA<n:=by
  intro q g;have:=g.toGd.lf;unfold Lf at this hb;have:=h.hi;have:=g.inv.hi;omega
 have fin:∀ {q b:aA} {ps:List aB} {z:aB × aA} {at' k:Int} {s:cB},Gd q b->GA b z.2->Bk b z->p.fA+1<=q.fA - pM ps->(b.e_=0->∀x ∈ ps,WP x)->Fx p (⟨2,at',s,k,ps++[z.1]⟩,z.2):=λgb gz bz hq hp e=>by
  obtain ⟨⟨c1,c2⟩,c3⟩:=bz e;have eb:=gz.toGd.e0 e;have n1:=gb.at';refine ⟨?_,by simp only [fD,Aw,gW];omega⟩;simp only;rw [c1];exact .fn (hp eb) c2
 have one:∀(k0 k1 k2:Int),bD ((aX n t.2 [102,110]).bind λx10=>(dD n x10).bind λx11=>(cH n x11.2).bind λx13=>(bE n x13.2 [45,62]).bind λx15=>if x15.1=true then (bE n x15.2 [117,51,50]).bind λx18=>if x18.1=true then (bN n x18.2 1).bind λx21=>iU (x13.1.length+[x21.1].length<=1073741824) <| some (({ r.1 with kL:=k1,bQ:=x11.1,aL:=x13.1++[x21.1] }:aB),x21.2) else (aX n x18.2 [117,54,52]).bind λx23=>(bN n x23 1).bind λx25=>iU (x13.1.length+[x25.1].length<=1073741824) <| some (({ r.1 with kL:=k2,bQ:=x11.1,aL:=x13.1++[x25.1] }:aB),x25.2) else (bN n x15.2 1).bind λx27=>iU (x13.1.length+[x27.1].length<=1073741824) <| some (({ r.1 with kL:=k0,bQ:=x11.1,aL:=x13.1++[x27.1] }:aB),x27.2)) λr=>GA p r.2/\Fx p r:=by
  intro k0 k1 k2;rw [e1];refine (dM g2.inv hn).bind λu g4=>(oY g4.inv hn).bind λv g5=>?_;have g6:=g3.ga (g4.ga g5);have n6:=g5.at';refine (vP g5.inv hn (key _ g6)).bind λw ⟨g7,hw,hp⟩=>(dZ g7.inv hn).bind λx ⟨g8,_,_⟩=>?_;have g9:=(g6.ga g7).gd g8;have l9:=g9.toGd.lf
  have big:∀ {b:aA},Gd w.2 b->b.e_=0->p.fA+1<=w.2.fA - pM w.1/\∀x ∈ w.1,WP x:=λgb e=>by
   obtain ⟨q1,q2⟩:=hp (gb.e0 e);have:=g4.adv (g5.toGd.e0 (g7.toGd.e0 (gb.e0 e)));exact ⟨by omega,q1⟩
  have fin2:∀ {b:aA} {z:aB × aA} {at' k:Int} {s:cB},Gd w.2 b->GA b z.2->Bk b z->Fx p (⟨2,at',s,k,w.1++[z.1]⟩,z.2):=λgb gz bz e=>fin gb gz bz (big gb (gz.toGd.e0 e)).1 (λe2=>(big gb e2).2) e;refine bD.iteb (λ_=>?_) λ_=>?_
  ·refine (dZ g8.inv hn).bind λy ⟨g10,_,_⟩=>?_;have l10:=g10.lf;refine bD.iteb (λ_=>?_) λ_=>?_
   ·exact (rP g10.inv (by omega)).bind λz ⟨g11,b11⟩=>bD.need (by simp only [mQ];omega) (.some ⟨(g9.gd g10).ga g11,fin2 (g8.trans g10) g11 b11⟩)
   ·refine (dM g10.inv hn).bind λy' g11=>?_;have l11:=g11.toGd.lf;exact (rP g11.inv (by omega)).bind λz ⟨g12,b12⟩=>bD.need (by simp only [mQ];omega) (.some ⟨((g9.gd g10).ga g11).ga g12,fin2 (g8.trans (g10.trans g11.toGd)) g12 b12⟩)
  ·exact (rP g8.inv (by omega)).bind λz ⟨g11,b11⟩=>bD.need (by simp only [mQ];omega) (.some ⟨g9.ga g11,fin2 g8 g11 b11⟩)
 exact bD.iteb (λ_=>one _ _ _) λ_=>one _ _ _
theorem SB:∀(c:Nat) (p:aA) (x:aB),PI p->Lf p+46<=n->(p.l_.length:Int) - p.fA<c->1<=c->(p.e_=0->(x.aL.length:Int)<=p.fA)->(x.aL.length:Int)<=65538->bD (lJ n c p x) λr=>Gd p r.1/\(r.1.e_=0->(∀y ∈ x.aL,WF y)->(∀y ∈ r.2.aL,WF y)/\pM r.2.aL<=pM x.aL+(r.1.fA - p.fA)):=by
 intro c
 induction c with
 | zero=>intro p x h _ h1 h2;omega
 | succ c ih=>
   intro p x h hk h1 h2 h3 h4;have k1:=h.lo;have k2:=h.hi;have k3:=h.big;unfold lJ;refine bD.bind (P:=λb=>b=true->p.e_=0) ?_ λb hb=>?_
   ·refine bD.iteb (λhe=>?_) λ_=>.some λh=>by cases h
    exact (nI h).bind λb hb=>.some λ_=>by simpa using he
   ·refine bD.iteb (λh5=>?_) λh5=>.some ⟨.refl h,λ_ hl=>⟨hl,by simp only;omega⟩⟩;have he:=hb h5;refine (Cx h hk).bind λr ⟨g,fx⟩=>?_;have m1:=g.at';have m3:=h3 he;have m4:=g.toGd.lf;have m5:=g.inv.hi;have m6:=g.toGd.len;refine bD.need (by simp only [mQ];omega) ?_
    by_cases he2:r.2.e_=0
    ·have m7:=g.adv he2;obtain ⟨w1,w2⟩:=fx he2;refine (ih r.2 _ g.inv (by omega) (by rw [m6];omega) (by omega) (λ_=>by simp only [mK,mQ];omega) (by simp only [mK,mQ];omega)).mono λs ⟨g2,s2⟩=>⟨g.toGd.trans g2,λe hl=>?_⟩
     obtain ⟨v1,v2⟩:=s2 e (λy hy=>by
      rcases BQ.1 hy with hy | hy
      ·exact hl y hy
      ·obtain rfl:=DX.1 hy;exact w1)
     refine ⟨v1,?_⟩;simp only [Aw,gW] at v2;omega
    ·cases c with
     | zero=>omega
     | succ c=>
       unfold lJ;rw [if_neg (by simpa using he2),bU,if_neg (by decide)];exact .some ⟨g.toGd,λe=>absurd e he2⟩
end
theorem Dl {n:Nat} {s:cB} (hn:16*s.length+200<n):bD (mG n s) λr=>r.2.1=0->(∀x ∈ r.1.aL,WF x)/\pM r.1.aL<=s.length+1:=by
 unfold mG;refine (EC (by omega) (by omega)).bind λx hx=>?_;refine bD.iteb (λh1=>.some λh=>?_) λh1=>?_
 ·rw [show x.2.1=0 from h] at h1;cases h1
 obtain ⟨l,h2,h3,h4,h5⟩:=hx (by simpa using h1);have hp:PI (aA.mk x.1 0 0 0 0):=⟨by simp only;omega,by simp only [h2,mK,mQ];omega,by simp only [h2,mK,mQ];omega,⟨l,_,h2,h3,rfl⟩⟩
 have hl:Lf (aA.mk x.1 0 0 0 0)<=16*s.length+16:=by
  unfold Lf;simp only [h2,mK,mQ];omega
 refine (oX hp).bind λr ⟨g1,e1⟩=>?_;have e:r.1.aL=[]:=by rw [e1]
 have l1:=g1.lf;have k0:=g1.inv.lo;have k1:=g1.inv.hi;have k2:=g1.inv.lf;refine (SB n r.2 r.1 g1.inv (by omega) (by unfold Lf at l1 hl;omega) (by omega) (λ_=>by rw [e];simpa using k0) (by rw [e];simp)).bind λy ⟨g2,s2⟩=>?_;refine bD.iteb (λhe=>.some λh=>absurd h (by simpa using he)) λhe=>.some λ_=>?_;obtain ⟨v1,v2⟩:=s2 (by simpa using he) (λy hy=>by rw [e] at hy;cases hy);refine ⟨v1,?_⟩;rw [e,kM] at v2;have m1:=g2.inv.hi;rw [g2.len,g1.len] at m1;simp only [h2,mK,mQ] at m1;simp only;omega
