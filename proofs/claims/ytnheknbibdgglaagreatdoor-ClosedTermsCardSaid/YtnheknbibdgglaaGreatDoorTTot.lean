import Derived.Test.YtnheknbibdgglaaGreatDoorTGMm
import Derived.Lib.IndexLaws
namespace Go.Proofs.YtnheknbibdgglaaGreatDoor.Abs
open IntKind (i64 u32 u64 u8)
open Go.RowKit
def bD {α:Type} (o:Option α) (Q:α->Prop):Prop:=∃r,o=some r/\Q r
section
variable {α β:Type} {o:Option α} {Q P:α->Prop}
theorem bD.some {r:α} (h:Q r):bD (some r) Q:=⟨r,rfl,h⟩
theorem bD.mono (h:bD o P) (k:∀x,P x->Q x):bD o Q:=by obtain ⟨r,e,hr⟩:=h;exact ⟨r,e,k r hr⟩
theorem bD.bind {f:α->Option β} {R:β->Prop} (h:bD o P) (k:∀x,P x->bD (f x) R):bD (o.bind f) R:=by
 obtain ⟨r,e,hr⟩:=h;subst e;exact k r hr
theorem bD.bind' {f:α->Option β} {R:β->Prop} (h:bD o λx=>bD (f x) R):bD (o.bind f) R:=h.bind λ_ k=>k
theorem bD.eqn {v:α} {f:α->Option β} {R:β->Prop} (h:o=Option.some v) (k:bD (f v) R):bD (o.bind f) R:=by subst h;exact k
theorem bD.need {c:Prop} [Decidable c] (hc:c) (h:bD o Q):bD (fC c o) Q:=by rw [iR hc];exact h
theorem bD.iteb {b:Bool} {x y:Option α} (h1:b=true->bD x Q) (h2:b=false->bD y Q):bD (if b=true then x else y) Q:=by
 cases b
 ·exact h2 rfl
 ·exact h1 rfl
theorem bD.elim {γ:Type} {s:β ⊕ γ} {f:β->Option α} {g:γ->Option α} (h1:∀x,s=.inl x->bD (f x) Q) (h2:∀x,s=.inr x->bD (g x) Q):bD (s.elim f g) Q:=by
 cases s
 ·exact h1 _ rfl
 ·exact h2 _ rfl
theorem bD.idx {l:List α} {i:Int} (h0:0<=i) (h1:i<l.length) (k:∀x,l[i.toNat]? = Option.some x->Q x):bD (aZ l i) Q:=by
 unfold aZ;rw [if_pos h0];refine ⟨l[i.toNat]'(by omega),wB (by omega),k _ (wB (by omega))⟩
end
theorem cG {n:Int} (h1:-9223372036854775808<=n) (h2:n<=9223372036854775807):i64.wrap n=n:=by
 rw [IntKind.wrap_i64];omega
theorem take_step' {α:Type} {l:List α} {j:Nat} {x:α} (h:l[j]? = some x):l.take (j+1)=l.take j++[x]:=by
 rw [List.take_add_one,h];rfl
theorem MP {α:Type} {p:α->Bool} {s:List α} {v:Nat} {x:α} (h:∀y ∈ s.take v,p y=true) (hx:s[v]? = some x) (hp:p x=false):s.takeWhile p=s.take v:=by
 obtain ⟨hv,rfl⟩:=vJ.1 hx;have h1:(s.take v++s.drop v).takeWhile p=s.take v++(s.drop v).takeWhile p:=List.takeWhile_append_of_pos h;rw [xeh] at h1;rw [h1,NQ hv,List.takeWhile_cons_of_neg (by simp [hp]),Ga]
theorem find_at {α:Type} {p:α->Bool} {s:List α} {v:Nat} {x:α} (h:∀y ∈ s.take v,p y=false) (hx:s[v]? = some x) (hp:p x=true):s.find? p=some x:=by
 obtain ⟨hv,rfl⟩:=vJ.1 hx
 have h1:(s.take v++s.drop v).find? p=(s.drop v).find? p:=by
  rw [List.find?_append,List.find?_eq_none.2 (λy hy=>by simp [h y hy])];rfl
 rw [xeh] at h1;rw [h1,NQ hv,List.find?_cons_of_pos (by simp [hp])]
theorem Jw {α:Type} {p:α->Bool} {s:List α} (h:∀y ∈ s,p y=true):s.takeWhile p=s:=by
 have:=List.takeWhile_append_of_pos (l₂:=[]) h;simpa using this
set_option linter.all false
def VO (c:Int):Bool:=(decide (97<=c) && decide (c<=122)) || (c == 95)
def VP (c:Int):Bool:=decide (48<=c) && decide (c<=57)
def isBl (c:Int):Bool:=c == 32 || (c == 9 || (c == 13 || c == 10))
def SY (b:UInt8):Bool:=VO b.toNat || VP b.toNat
theorem WD (a:Int):BB a=some (isBl a):=by
 unfold BB isBl;cases a == 32 <;> cases a == 9 <;> cases a == 13 <;> rfl
theorem ME (a:Int):wL a=some (VO a):=by
 unfold wL VO;cases decide (97<=a) <;> cases decide (a<=122) <;> simp
theorem Pp (a:Int):Ac a=some (VP a):=by
 unfold Ac VP;cases decide (48<=a) <;> simp
theorem Ix (a b:bW):fR a b=some (decide (a.take b.length=b)):=by
 unfold fR
 by_cases h:(b.length:Int)<=a.length
 ·rw [if_pos (by simpa using h),iR ⟨by omega,h⟩];rfl
 ·rw [if_neg (by simpa using h),dV,Sc];intro e;have:=congrArg List.length e;rw [JQ] at this;omega
theorem Aw (a b:bW):nR a b=some (decide (a.take b.length=b)):=by
 unfold nR;rw [Ix];rfl
theorem FH (a:bW) (c:Int):nQ a c=some (Lib.indexByte a c.toNat.toUInt8):=rfl
theorem word_l1 (s:bW):∀(c:Nat) (v:Nat),s.length<v+c->v<=s.length->(∀y ∈ s.take v,SY y=true)->s.length<4611686018427387904 ->
  bD (Dl s c v) (λr=>match r with | .inl _=>s.takeWhile SY=s | .inr t=>t=s.takeWhile SY):=by
 intro c
 induction c with
 | zero=>intro v h1 h2;omega
 | succ c ih=>
   intro v h1 h2 h3 hs;unfold Dl;refine bD.iteb (λh4=>?_) (λh4=>?_)
   ·simp only [sX] at h4;refine (bD.bind (P:=λy=>∃x,s[v]? = some x/\y=!SY x) ?_) ?_
    ·refine bD.bind' (bD.idx (by omega) h4 λx hx=>?_);rw [Dq] at hx;rw [ME,dV,Pp,dV];refine bD.iteb (λh5=>.some ⟨x,hx,?_⟩) (λh5=>.some ⟨x,hx,?_⟩)
     ·simp only [xdu] at h5;simp [SY,h5]
     ·simp only [Bool.not_eq_false'] at h5;simp [SY,h5]
    ·rintro y ⟨x,hx,rfl⟩;refine bD.iteb (λh5=>?_) (λh5=>?_)
     ·refine bD.need ⟨by omega,by omega⟩ (.some ?_);simp only [xdu] at h5;rw [Dq];exact (MP h3 hx h5).symm
     ·simp only [Bool.not_eq_false'] at h5;rw [cG (by omega) (by omega)];refine ih (v+1) (by omega) (by omega) ?_ hs;rw [take_step' hx];intro y hy
      rcases Cu.1 hy with hy | hy
      ·exact h3 y hy
      ·rw [AV.1 hy];exact h5
   ·refine .some ?_;simp only [decide_eq_false_iff_not] at h4;rw [xdq (by omega)] at h3;exact Jw h3
theorem word_eq {n:Nat} {s:bW} (hn:s.length<n) (hs:s.length<4611686018427387904):ED n s=some (s.takeWhile SY):=by
 unfold ED;obtain ⟨r,e,hr⟩:=word_l1 s n 0 (by omega) (by omega) (by simp) hs;rw [show ((0:Nat):Int)=0 from rfl] at e;rw [e,dV];cases r with
 | inl _=>rw [hr];rfl
 | inr t=>rw [hr];rfl
theorem sign_l1 (s:bW):∀(c:Nat) (v:Nat),26<v+c->v<=26->(∀y ∈ fO.take v,decide (s.take y.length=y)=false) ->
  bD (Dm s c v) (λr=>match r with | .inl _=>fO.find? (λy=>decide (s.take y.length=y))=none | .inr t=>fO.find? (λy=>decide (s.take y.length=y))=some t):=by
 intro c
 induction c with
 | zero=>intro v h1 h2;omega
 | succ c ih=>
   intro v h1 h2 h3;unfold Dm;refine bD.iteb (λh4=>?_) (λh4=>?_)
   ·simp only [sX] at h4;refine bD.bind' (bD.idx (by omega) (by have:fO.length=26:=rfl;omega) λx hx=>?_);rw [Dq] at hx;rw [Aw,dV];refine bD.iteb (λh5=>.some ?_) (λh5=>?_)
    ·exact find_at h3 hx h5
    ·rw [cG (by omega) (by omega)];refine ih (v+1) (by omega) (by omega) ?_;rw [take_step' hx];intro y hy
     rcases Cu.1 hy with hy | hy
     ·exact h3 y hy
     ·rw [AV.1 hy];exact h5
   ·refine .some ?_;simp only [decide_eq_false_iff_not] at h4;rw [xdq (by have:fO.length=26:=rfl;omega)] at h3;exact List.find?_eq_none.2 λy hy=>by simpa using h3 y hy
def IG (s:bW):bW:=(fO.find? (λy=>decide (s.take y.length=y))).getD []
theorem sign_eq {n:Nat} {s:bW} (hn:26<n):EE n s=some (IG s):=by
 unfold EE IG;obtain ⟨r,e,hr⟩:=sign_l1 s n 0 (by omega) (by omega) (by simp);rw [show ((0:Nat):Int)=0 from rfl] at e;rw [e,dV];cases r with
 | inl _=>rw [hr];rfl
 | inr t=>rw [hr];rfl
theorem Qb (s:bW):IG s=[] ∨ 1<=(IG s).length/\(IG s).length<=s.length:=by
 unfold IG;cases h:fO.find? (λy=>decide (s.take y.length=y)) with
 | none=>exact .inl rfl
 | some y=>
   have h1:=List.find?_some h;have h2:=List.mem_of_find?_eq_some h;simp only [sX] at h1;have h3:=congrArg List.length h1;rw [JQ] at h3;have h4:(fO.all λy=>decide (1<=y.length))=true:=by decide
   have h5:=LX.1 h4 y h2;simp only [sX] at h5;exact .inr ⟨h5,by show y.length<=_;omega⟩
theorem skip_l1 (s:bW) (hs:s.length<4611686018427387904):∀(c:Nat) (v:Nat),s.length<v+c->v<=s.length->bD (AE s c v) (λr=>∃k:Nat,v<=k/\k<=s.length/\(r=.inl (k:Int) ∨ r=.inr (k:Int))):=by
 intro c
 induction c with
 | zero=>intro v h1 h2;omega
 | succ c ih=>
   intro v h1 h2;unfold AE;refine bD.iteb (λh4=>?_) (λh4=>.some ⟨v,by omega,h2,.inl rfl⟩);simp only [sX] at h4;refine bD.bind' (bD.idx (by omega) h4 λx hx=>?_);rw [Dq] at hx;rw [WD,dV];refine bD.iteb (λh5=>?_) (λh5=>?_)
   ·rw [cG (by omega) (by omega)];exact (ih (v+1) (by omega) (by omega)).mono λr ⟨k,h6,h7,h8⟩=>⟨k,by omega,h7,h8⟩
   ·refine bD.need ⟨by omega,by omega⟩ ?_;rw [Dq,Aw,dV];refine bD.iteb (λh6=>?_) (λh6=>.some ⟨v,by omega,h2,.inr rfl⟩);simp only [sX] at h6;refine bD.need ⟨by omega,by omega⟩ ?_;rw [FH,dV];refine bD.iteb (λh7=>.some ⟨s.length,h2,by omega,.inr rfl⟩) (λh7=>?_);simp only [decide_eq_false_iff_not,Int.not_lt] at h7;obtain ⟨o,ho⟩:=Sd h7;rw [ho];obtain ⟨h8,h9⟩:=Lib.indexByte_some ho;have h10:o<(s.drop v).length:=(vJ.1 h8).1;rw [Pw] at h10
    have h11:o ≠ 0:=by
     rintro rfl;have h12:=congrArg (·[0]?) h6;simp only [xei (show 0<([47,47]:bW).length by decide)] at h12;rw [h8] at h12
     revert h12;decide
    rw [cG (by omega) (by omega)];exact (ih (v+o) (by omega) (by omega)).mono λr ⟨k,h6,h7,h8⟩=>⟨k,by omega,h7,h8⟩
theorem Og {n:Nat} {s:bW} {v:Nat} (hs:s.length<4611686018427387904) (hn:s.length<v+n) (hv:v<=s.length):bD (Cc n s v) λr=>∃k:Nat,v<=k/\k<=s.length/\r=k:=by
 unfold Cc;refine (skip_l1 s hs n v hn hv).bind λr ⟨k,h1,h2,h3⟩=>?_
 rcases h3 with rfl | rfl <;> exact .some ⟨k,h1,h2,rfl⟩
theorem Uu (x:bW × Bool) (hs:x.1.length<4611686018427387904):∀(c:Nat) (t:Int) (v:Nat),x.1.length<v+c->v<=x.1.length->bD (Bs x c t v) λr=>∀x,r=.inr x->x=((0:Int),false):=by
 intro c
 induction c with
 | zero=>intro t v h1 h2;omega
 | succ c ih=>
   intro t v h1 h2;unfold Bs;refine bD.iteb (λh4=>?_) (λh4=>.some λ_ h=>nomatch h);simp only [sX] at h4;refine bD.need (by decide) ?_;refine bD.bind' (bD.idx (by omega) h4 λy hy=>?_);rw [FH,dV];refine bD.bind (P:=λ_=>True) (bD.iteb (λ_=>.some trivial) λ_=>.some trivial) λy _=>?_;refine bD.iteb (λ_=>.some λ_ h=>(Sum.inr.inj h).symm) λ_=>?_;rw [cG (n:=(v:Int)+1) (by omega) (by omega)];exact ih _ (v+1) (by omega) (by omega)
theorem Ut (s:bW) (hs:s.length<4611686018427387904):∀(c:Nat) (t:Int) (v:Nat),s.length<v+c->v<=s.length->bD (Br s c t v) λr=>∀x,r=.inr x->x=((0:Int),false):=by
 intro c
 induction c with
 | zero=>intro t v h1 h2;omega
 | succ c ih=>
   intro t v h1 h2;unfold Br;refine bD.iteb (λh4=>?_) (λh4=>.some λ_ h=>nomatch h);simp only [sX] at h4;refine bD.need (by decide) ?_;refine bD.bind' (bD.idx (by omega) h4 λy hy=>?_);rw [FH,dV];refine bD.bind (P:=λ_=>True) (bD.iteb (λ_=>.some trivial) λ_=>.some trivial) λy _=>?_;refine bD.iteb (λ_=>.some λ_ h=>(Sum.inr.inj h).symm) λ_=>?_;rw [cG (n:=(v:Int)+1) (by omega) (by omega)];exact ih _ (v+1) (by omega) (by omega)
theorem NC (a b:bW):qG a b=some (if a.take b.length=b then (a.drop b.length,true) else (a,false)):=by
 unfold qG jN;rw [Ix,dV]
 by_cases h:a.take b.length=b
 ·rw [tA h,if_neg (by decide),if_pos h,iR]
  ·rfl
  ·have:=congrArg List.length h;rw [JQ] at this;omega
 ·rw [Sc h,if_pos (by decide),if_neg h];rfl
theorem Sj {n:Nat} {s:bW} (hs:s.length<4611686018427387904) (hn:s.length<n):bD (BA n s) λr=>0<=r.1/\r.1<=4294967295:=by
 have hw:∀v:Int,0<=u32.wrap v/\u32.wrap v<=4294967295:=λv=>by rw [IntKind.wrap_u32];omega
 unfold BA;rw [NC,dV]
 have hl:∀x:bW × Bool,x=(if s.take ([48,120]:bW).length=([48,120]:bW) then (s.drop ([48,120]:bW).length,true) else (s,false))->x.1.length<=s.length:=by
  rintro x rfl
  split
  ·rw [Pw];omega
  ·exact sZ _
 generalize (if s.take ([48,120]:bW).length=([48,120]:bW) then (s.drop ([48,120]:bW).length,true) else (s,false))=x at hl
 have hx:=hl x rfl;refine bD.iteb (λ_=>?_) λ_=>?_
 ·exact (Uu x (by omega) n 0 0 (by omega) (by omega)).bind λr hr=>bD.elim (λ_ _=>.some (hw _)) λz h=>.some (by rw [hr z h];decide)
 ·exact (Ut s (by omega) n 0 0 (by omega) (by omega)).bind λr hr=>bD.elim (λ_ _=>.some (hw _)) λz h=>.some (by rw [hr z h];decide)
theorem Vt {n:Nat} {s:bW} {v:Nat} (hs:s.length<4611686018427387904) (hn:s.length<n) (hn2:26<n) (hv:v<s.length) :
  bD (EF n s v) λr=>r.2=0->(r.1.bK=1 ∨ r.1.bK=2 ∨ r.1.bK=3)/\r.1.fM=v/\1<=r.1.cZ.length/\v+r.1.cZ.length<=s.length/\0<=r.1.jO/\r.1.jO<=4294967295:=by
 unfold EF;refine bD.need ⟨by omega,by omega⟩ ?_;rw [Dq,word_eq (by rw [Pw];omega) (by rw [Pw];omega),dV];refine bD.bind' (bD.idx (by omega) (by omega) λx hx=>?_);rw [Dq] at hx
 have hd:s.drop v=x::s.drop (v+1):=by
  obtain ⟨h1,rfl⟩:=vJ.1 hx;exact NQ h1
 have hle:((s.drop v).takeWhile SY).length<=s.length - v:=by
  have:=(List.takeWhile_prefix (l:=s.drop v) SY).length_le
  rwa [Pw] at this
 have hpos:SY x=true->1<=((s.drop v).takeWhile SY).length:=by
  intro h;rw [hd,List.takeWhile_cons_of_pos h,pX];omega
 rw [ME,dV];refine bD.iteb (λh1=>bD.iteb (λ_=>.some λh=>by cases h) λ_=>.some λ_=>⟨.inl rfl,rfl,hpos (by simp [SY,h1]),by simp only;omega,by simp only;omega,by simp only;omega⟩) λh1=>?_;rw [Pp,dV];refine bD.iteb (λh2=>?_) λh2=>?_
 ·refine (Sj (by omega) (by omega)).bind λy hy=>bD.iteb (λ_=>.some λh=>by cases h) λ_=>.some λ_=>⟨.inr (.inl rfl),rfl,hpos (by simp [SY,h2]),by simp only;omega,hy.1,hy.2⟩
 ·refine bD.need ⟨by omega,by omega⟩ ?_;rw [sign_eq hn2,dV];refine bD.iteb (λ_=>.some λh=>by cases h) λh3=>.some λ_=>⟨.inr (.inr rfl),rfl,?_⟩;have h4:=Qb (s.drop v);simp only [decide_eq_false_iff_not] at h3
  rcases h4 with h4 | h4
  ·exact absurd h4 h3
  ·rw [Pw] at h4;exact ⟨h4.1,by simp only;omega,by simp only;omega,by simp only;omega⟩
def Pj (l:List dK):Prop:=∀t ∈ l,(t.bK=1 ∨ t.bK=2 ∨ t.bK=3)/\t.cZ ≠ []/\0<=t.jO/\t.jO<=4294967295
theorem TJ {n:Nat} {s:bW} (hs:s.length<=65536) (hn:s.length<n) (hn2:26<n):∀(c:Nat) (l:List dK) (v:Nat),s.length<v+c->v<=s.length->Pj l->l.length<=v ->
  bD (Am n s c l v) λr=>match r with | .inl l=>Pj l/\l.length<=s.length | .inr x=>x.2.1 ≠ 0:=by
 intro c
 induction c with
 | zero=>intro l v h1 h2;omega
 | succ c ih=>
   intro l v h1 h2 h3 h4;unfold Am;refine bD.iteb (λh5=>?_) λh5=>.some ⟨h3,by omega⟩;simp only [sX] at h5;refine (Vt (by omega) hn hn2 (by omega)).bind λx hx=>?_;refine bD.iteb (λh6=>.some (by simpa using h6)) λh6=>?_;obtain ⟨k1,k2,k3,k4,k5⟩:=hx (by simpa using h6);refine bD.need (by simp only [sW];omega) ?_;rw [cG (by omega) (by omega)];refine (Og (v:=v+x.1.cZ.length) (by omega) (by omega) k4).bind λr ⟨k,h7,h8,h9⟩=>?_;subst h9;refine ih _ k (by omega) h8 ?_ (by simp only [mX,sW];omega);intro t ht
   rcases Cu.1 ht with ht | ht
   ·exact h3 t ht
   ·rw [AV.1 ht];exact ⟨k1,λe=>by rw [e] at k3;simp at k3,k5⟩
theorem QR {n:Nat} {s:bW} (hn:s.length<n) (hn2:26<n):bD (Ab n s) λr=>r.2.1=0->∃l,r.1=l++[⟨4,s.length,[],0⟩]/\Pj l/\l.length<=s.length/\s.length<=65536:=by
 unfold Ab;refine bD.iteb (λ_=>.some λh=>by cases h) λh1=>?_;simp only [decide_eq_false_iff_not,Int.not_lt] at h1;refine (Og (v:=0) (by omega) (by omega) (by omega)).bind λr ⟨k,h2,h3,h4⟩=>?_;subst h4;refine (TJ (by omega) hn hn2 n [] k (by omega) h3 (by simp [Pj]) (by simp)).bind λy hy=>?_;refine bD.elim (λz e=>?_) (λz e=>?_)
 ·subst e;refine bD.need (by simp only [sW];omega) (.some λ_=>⟨z,rfl,hy.1,hy.2,by omega⟩)
 ·subst e;exact .some λh=>absurd h hy
abbrev Nd:=aB
mutual
def sz:aB->Int
 | ⟨_,_,_,_,l⟩=>1+wC l
def wC:List aB->Int
 | []=>0
 | x::l=>sz x+wC l
end
theorem iP {a b:Int} {c:bW} {d:Int} {l:List aB}:sz ⟨a,b,c,d,l⟩=1+wC l:=by rw [sz]
theorem oP:wC []=0:=by rw [wC]
theorem vL {x:aB} {l:List aB}:wC (x::l)=sz x+wC l:=by rw [wC]
theorem Gf (x:aB):sz x=1+wC x.aL:=by cases x;rw [sz]
theorem GO {a b:List aB}:wC (a++b)=wC a+wC b:=by
 induction a with
 | nil=>rw [Dh,oP,Int.zero_add]
 | cons x a ih=>rw [LV,vL,vL,ih,Int.add_assoc]
theorem tL {x:aB}:wC [x]=sz x:=by rw [vL,oP,Int.add_zero]
theorem Jf {x y:aB}:wC [x,y]=sz x+sz y:=by rw [vL,tL]
theorem Me {x y z:aB}:wC [x,y,z]=sz x+sz y+sz z:=by rw [vL,Jf,Int.add_assoc]
mutual
theorem sE:∀x:aB,1<=sz x
 | ⟨_,_,_,_,l⟩=>by rw [sz];have:=pY l;omega
theorem pY:∀l:List aB,(l.length:Int)<=wC l
 | []=>by rw [wC];exact Se _
 | x::l=>by rw [wC,pX];have:=pY l;have:=sE x;omega
end
theorem Ku {l:List aB} {k:aB} (h:k ∈ l):sz k<=wC l:=by
 obtain ⟨a,b,rfl⟩:=List.append_of_mem h;rw [GO,vL];have h1:=pY a;have h2:=pY b;omega
def IF:List bW:=[[124],[94],[38],[61,61],[60],[60,60],[62,62],[60,60,60],[43],[45],[42],[47],[37]]
inductive WE:Nd->Prop
 | num {a n}:0<=n->n<=4294967295->WE ⟨14,a,[],n,[]⟩
 | ref {a s}:WE ⟨15,a,s,0,[]⟩
 | index {a s x}:WE x->WE ⟨16,a,s,0,[x]⟩
 | un {a s x}:(s=[126] ∨ s=[45])->WE x->WE ⟨18,a,s,0,[x]⟩
 | bin {a s x y}:s ∈ IF->WE x->WE y->WE ⟨19,a,s,0,[x,y]⟩
 | call {a s xs}:(∀x ∈ xs,WE x)->WE ⟨17,a,s,0,xs⟩
inductive WS:Nd->Prop
 | bind {k a s x}:(k=5 ∨ k=6)->WE x->WS ⟨k,a,s,0,[x]⟩
 | arr {a s n}:WS ⟨7,a,s,n,[]⟩
 | ret {a x}:WE x->WS ⟨13,a,[],0,[x]⟩
 | choice {a c b ys}:WE c->(∀y ∈ ys,WS y)->WS ⟨11,a,[],0,[c,⟨4,b,[],0,ys⟩]⟩
 | choice2 {a c b ys b2 zs}:WE c->(∀y ∈ ys,WS y)->(∀z ∈ zs,WS z)->WS ⟨11,a,[],0,[c,⟨4,b,[],0,ys⟩,⟨4,b2,[],0,zs⟩]⟩
 | loop {a s x y b ys}:WE x->WE y->(∀y ∈ ys,WS y)->WS ⟨12,a,s,0,[x,y,⟨4,b,[],0,ys⟩]⟩
 | call {a s xs}:(∀x ∈ xs,WE x)->WS ⟨10,a,s,0,xs⟩
 | put {a s i x}:WE i->WE x->WS ⟨9,a,s,0,[i,x]⟩
 | set {a s x}:WE x->WS ⟨8,a,s,0,[x]⟩
inductive WP:Nd->Prop
 | word {a s k}:(k=1 ∨ k=2 ∨ k=3)->WP ⟨3,a,s,k,[]⟩
 | arr {a s b n}:WP ⟨3,a,s,4,[⟨14,b,[],n,[]⟩]⟩
inductive WF:Nd->Prop
 | fn {a s r ps b ys}:(∀p ∈ ps,WP p)->(∀y ∈ ys,WS y)->WF ⟨2,a,s,r,ps++[⟨4,b,[],0,ys⟩]⟩
theorem VB {α:Type} {x:α}:x ∈ [x]:=AV.2 rfl
structure PI (p:aC):Prop where
 lo:0<=p.gC
 hi:p.gC<p.l_.length
 big:p.l_.length<=65537
 toks:∃l z,p.l_=l++[z]/\Pj l/\z.bK=4
structure Gd (p p':aC):Prop where
 inv:PI p'
 l:p'.l_=p.l_
 at':p.gC<=p'.gC
 err':p.e_ ≠ 0->p'.e_=p.e_/\p'.gC=p.gC
structure GA (p p':aC):Prop extends Gd p p' where
 adv:p'.e_=0->p.gC<p'.gC
theorem Gd.err {p q:aC} (h:Gd p q):p.e_ ≠ 0->q.e_ ≠ 0/\q.gC=p.gC:=λhe=>⟨by rw [(h.err' he).1];exact he,(h.err' he).2⟩
theorem Gd.refl {p:aC} (h:PI p):Gd p p:=⟨h,rfl,Se _,λh=>⟨rfl,rfl⟩⟩
theorem Gd.trans {p q r:aC} (h:Gd p q) (k:Gd q r):Gd p r:=⟨k.inv,k.l.trans h.l,Int.le_trans h.at' k.at',λhe=>⟨(k.err' (h.err he).1).1.trans (h.err' he).1,(k.err' (h.err he).1).2.trans (h.err' he).2⟩⟩
theorem Gd.e0 {p q:aC} (h:Gd p q) (he:q.e_=0):p.e_=0:=Classical.byContradiction λhn=>(h.err hn).1 he
theorem Gd.ga {p q r:aC} (h:Gd p q) (k:GA q r):GA p r:=⟨h.trans k.toGd,λhe=>Int.lt_of_le_of_lt h.at' (k.adv he)⟩
theorem GA.gd {p q r:aC} (h:GA p q) (k:Gd q r):GA p r:=⟨h.toGd.trans k,λhe=>Int.lt_of_lt_of_le (h.adv (k.e0 he)) k.at'⟩
theorem GA.ga {p q r:aC} (h:GA p q) (k:GA q r):GA p r:=h.gd k.toGd
theorem Gd.len {p q:aC} (h:Gd p q):q.l_.length=p.l_.length:=by rw [h.l]
section
variable {p:aC} {n:Nat}
theorem wP (h:PI p):bD (dO p) λt=>t.bK ≠ 4->p.gC+1<p.l_.length:=by
 unfold dO;refine bD.bind' (bD.idx h.lo h.hi λx hx=>.some λhk=>?_);obtain ⟨l,z,h1,h2,h3⟩:=h.toks;have h4:=h.lo;have h5:=h.hi;rw [h1] at hx h5 ⊢;simp only [mX,sW] at h5 ⊢
 by_cases h6:p.gC.toNat=l.length
 ·rw [Lx (by omega),h6,xdx] at hx;simp at hx
  subst hx;exact absurd h3 hk
 ·omega
theorem GD (h:PI p) {e:Int} (he:e ≠ 0):bD (iO p e) λq=>Gd p q/\q.e_ ≠ 0:=by
 unfold iO;refine bD.iteb (λh1=>?_) λh1=>.some ⟨.refl h,by simpa using h1⟩;simp only [beq_iff_eq] at h1;exact (wP h).bind λt _=>.some ⟨⟨⟨h.lo,h.hi,h.big,h.toks⟩,rfl,Se _,λhn=>absurd h1 hn⟩,he⟩
theorem AD (h:PI p) {k:Int}:bD (fA p k) λr=>Gd p r.2/\r.1=⟨k,r.1.fM,[],0,[]⟩:=by
 unfold fA;have hp:PI { p with Aa:=(i64.wrap (p.Aa+(1:Int))) }:=⟨h.lo,h.hi,h.big,h.toks⟩;have hg:Gd p { p with Aa:=(i64.wrap (p.Aa+(1:Int))) }:=⟨hp,rfl,Se _,λhn=>⟨rfl,rfl⟩⟩;refine bD.iteb (λh1=>?_) λh1=>?_
 ·exact (GD hp (by decide)).bind λq ⟨g,_⟩=>(wP g.inv).bind λt _=>.some ⟨hg.trans g,rfl⟩
 ·exact (wP hp).bind λt _=>.some ⟨hg,rfl⟩
theorem Xb (l:List bW) (s:bW) (hl:l.length<1000):∀(c:Nat) (v:Nat),l.length<v+c->v<=l.length->(∀y ∈ l.take v,decide (s=y)=false) ->
  bD (lB l s c v) λr=>match r with | .inl _=>(l.any λy=>decide (s=y))=false | .inr k=>0<=k/\(l.any λy=>decide (s=y))=true:=by
 intro c
 induction c with
 | zero=>intro v h1 h2;omega
 | succ c ih=>
   intro v h1 h2 h3;unfold lB;refine bD.iteb (λh4=>?_) (λh4=>?_)
   ·simp only [sX] at h4;refine bD.bind' (bD.idx (by omega) h4 λx hx=>?_);rw [Dq] at hx;refine bD.iteb (λh5=>.some ⟨by omega,?_⟩) (λh5=>?_)
    ·exact List.any_eq_true.2 ⟨x,FK hx,h5⟩
    ·rw [cG (by omega) (by omega)];refine ih (v+1) (by omega) (by omega) ?_;rw [take_step' hx];intro y hy
     rcases Cu.1 hy with hy | hy
     ·exact h3 y hy
     ·rw [AV.1 hy];exact h5
   ·refine .some ?_;simp only [decide_eq_false_iff_not] at h4;rw [xdq (by omega)] at h3;exact List.any_eq_false.2 λy hy=>by simp [h3 y hy]
def VN (s:bW):Bool:=cC.any λy=>decide (s=y)
theorem RT {s:bW} (hn:13<n):wJ n s=some (VN s):=by
 unfold wJ jE kB;obtain ⟨r,e,hr⟩:=Xb cC s (by decide) n 0 (by have:cC.length=13:=rfl;omega) (by omega) (by simp);rw [show ((0:Nat):Int)=0 from rfl] at e;rw [e,dV];unfold VN;cases r with
 | inl _=>rw [hr];rfl
 | inr k=>
   rw [hr.2];simp only [Pu,dV,Option.some.injEq,sX];exact hr.1
theorem KS (h:PI p) (hn:13<n) {s:bW}:bD (jP n p s) λb=>b=true->p.e_=0/\p.gC+1<p.l_.length:=by
 unfold jP;refine (wP h).bind λt ht=>?_;refine bD.bind (P:=λb=>b=true->p.e_=0/\p.gC+1<p.l_.length) ?_ λb hb=>.some hb;refine bD.iteb (λh1=>?_) λh1=>.some λh=>by cases h
 simp only [beq_iff_eq] at h1;refine bD.iteb (λh2=>?_) λh2=>.some λh=>by cases h
 refine bD.iteb (λh3=>.some λ_=>⟨h1,ht ?_⟩) λh3=>?_
 ·simp only [beq_iff_eq] at h3;omega
 refine bD.iteb (λh4=>?_) λh4=>.some λh=>by cases h
 rw [RT hn,dV];refine .some λ_=>⟨h1,ht ?_⟩;simp only [beq_iff_eq] at h4;omega
theorem MQ (h:PI p) (he:p.e_=0) (hk:p.gC+1<p.l_.length):i64.wrap (p.gC+(1:Int))=p.gC+1/\GA p { p with gC:=p.gC+1 }:=by
 have h1:=h.lo;have h2:=h.big;refine ⟨cG (by omega) (by omega),⟨⟨⟨by simp only;omega,by simpa using hk,h.big,h.toks⟩,rfl,by simp only;omega,λhn=>absurd he hn⟩,λ_=>by simp only;omega⟩⟩
theorem lX (h:PI p) (hn:13<n) {s:bW}:bD (bM n p s) λr=>Gd p r.2/\(r.1=true->p.e_=0/\GA p r.2/\r.2.e_=0)/\(r.1=false->r.2=p):=by
 unfold bM;refine (KS h hn).bind λb hb=>?_;refine bD.iteb (λh1=>.some ⟨.refl h,(λh=>by cases h),λ_=>rfl⟩) λh1=>?_;simp only [Bool.not_eq_false'] at h1;obtain ⟨h2,h3⟩:=hb h1;obtain ⟨h4,h5⟩:=MQ h h2 h3;rw [h4];exact .some ⟨h5.toGd,λ_=>⟨h2,h5,h2⟩,λh=>by cases h⟩
theorem kE (h:PI p) (hn:13<n) {s:bW}:bD (bJ n p s) λq=>GA p q:=by
 unfold bJ;refine (lX h hn).bind λr ⟨h1,h2,h3⟩=>?_;refine bD.iteb (λh4=>?_) λh4=>.some (h2 (by simpa using h4)).2.1;exact (GD h1.inv (by decide)).bind λq ⟨g,he⟩=>.some ⟨h1.trans g,λh=>absurd h he⟩
theorem Ca (h:PI p) (hn:13<n):bD (eH n p) λr=>GA p r.2:=by
 unfold eH;refine (wP h).bind λt ht=>?_;refine bD.bind (P:=λb=>b=false->p.e_=0/\t.bK=1) ?_ λb hb=>?_
 ·refine bD.iteb (λh1=>.some λh=>by cases h) λh1=>?_;refine bD.iteb (λh2=>.some λh=>by cases h) λh2=>?_;rw [RT hn,dV];exact .some λ_=>⟨by simpa using h1,by simpa using h2⟩
 ·refine bD.iteb (λh1=>?_) λh1=>?_
  ·exact (GD h (by decide)).bind λq ⟨g,he⟩=>.some ⟨g,λh=>absurd h he⟩
  ·obtain ⟨h2,h3⟩:=hb h1;obtain ⟨h4,h5⟩:=MQ h h2 (ht (by omega));rw [h4];exact .some h5
theorem Sm (h:PI p):bD (dO p) λt=>t.bK ≠ 4->p.gC+1<p.l_.length/\0<=t.jO/\t.jO<=4294967295:=by
 obtain ⟨t,e,ht⟩:=wP h;refine ⟨t,e,λhk=>⟨ht hk,?_⟩⟩;unfold dO at e;obtain ⟨x,hx,e⟩:=aF e;obtain rfl:=aU e;obtain ⟨l,z,h1,h2,h3⟩:=h.toks;obtain ⟨_,_,hx⟩:=bI hx;rw [h1] at hx
 rcases Cu.1 (FK hx) with hm | hm
 ·exact (h2 _ hm).2.2
 ·rw [AV.1 hm] at hk;exact absurd h3 hk
theorem KC (h:PI p):bD (kN p) λr=>GA p r.2/\0<=r.1/\r.1<=4294967295:=by
 unfold kN;refine (Sm h).bind λt ht=>?_;refine bD.bind (P:=λb=>b=false->p.e_=0/\t.bK=2) ?_ λb hb=>?_
 ·refine bD.iteb (λh1=>.some λh=>by cases h) λh1=>.some λh=>⟨by simpa using h1,by simpa using h⟩
 ·refine bD.iteb (λh1=>?_) λh1=>?_
  ·exact (GD h (by decide)).bind λq ⟨g,he⟩=>.some ⟨⟨g,λh=>absurd h he⟩,by simp only;omega,by simp only;omega⟩
  ·obtain ⟨h2,h3⟩:=hb h1;obtain ⟨h4,h5⟩:=MQ h h2 (ht (by omega)).1;rw [h4];exact .some ⟨h5,(ht (by omega)).2⟩
theorem Oh (h:PI p) (hn:13<n):bD (mD n p) λr=>GA p r.2:=by
 unfold mD;exact (kE h hn).bind λq g1=>(KC g1.inv).bind λr ⟨g2,_⟩=>(kE g2.inv hn).bind λs g3=>.some (g1.ga (g2.ga g3))
theorem Vj (hn:13<n):∀(c:Nat) (v:Nat) (p:aC) (x y:aB),3<v+c->v<=3->PI p->bD (qI n c v p x y) λr=>match r with | .inl s=>Gd p s.1/\s.2.2=y | .inr s=>Gd p s.2/\∃k,(k=1 ∨ k=2 ∨ k=3)/\s.1={ y with jO:=k }:=by
 intro c
 induction c with
 | zero=>intro v p x y h1 h2;omega
 | succ c ih=>
   intro v p x y h1 h2 h;unfold qI;refine bD.iteb (λh4=>?_) λh4=>.some ⟨.refl h,rfl⟩;simp only [sX] at h4;refine bD.bind' (bD.idx (by omega) (by have:kV.length=3:=rfl;omega) λz hz=>?_);refine (lX h hn).bind λr ⟨g1,g2,g3⟩=>?_;refine bD.iteb (λ_=>.some ⟨g1,_,?_,rfl⟩) λ_=>?_
   ·have h5:v=0 ∨ v=1 ∨ v=2:=by omega
    rcases h5 with rfl | rfl | rfl <;> decide
   rw [cG (by omega) (by omega)];refine (ih (v+1) r.2 x y (by omega) (by omega) g1.inv).mono λs hs=>?_;cases s with
   | inl s=>exact ⟨g1.trans hs.1,hs.2⟩
   | inr s=>exact ⟨g1.trans hs.1,hs.2⟩
theorem SR (h:PI p) (hn:13<n):bD (nE n p) λr=>GA p r.2/\(r.2.e_=0->WP r.1/\sz r.1<=r.2.gC - p.gC):=by
 unfold nE;refine (AD h).bind λr ⟨g1,e1⟩=>(Ca g1.inv hn).bind λs g2=>(kE g2.inv hn).bind λq g3=>?_;refine (Vj hn n 0 q _ _ (by omega) (by omega) g3.inv).bind λy hy=>?_;have g4:=g1.ga (g2.ga g3);refine bD.elim (λz e=>?_) λz e=>?_
 ·subst e;obtain ⟨hy,hz⟩:=hy;refine (AD hy.inv).bind λr ⟨g5,e5⟩=>(Oh g5.inv hn).bind λs g6=>.some ⟨(g4.gd hy).ga (g5.ga g6),λe=>?_⟩;have m6:=g6.adv e;have e6:=(g5.ga g6).toGd.e0 e;have e7:=hy.e0 e6;have m3:=g3.adv e7;have m2:=g2.adv (g3.toGd.e0 e7);have m1:=g1.at';have m5:=g5.at';have m4:=hy.at';rw [hz,e1,e5];exact ⟨.arr,by rw [iP,tL,iP,oP];simp only;omega⟩
 ·subst e;obtain ⟨hy,k,hk,hz⟩:=hy;refine .some ⟨g4.gd hy,λe=>?_⟩;have e7:=hy.e0 e;have m3:=g3.adv e7;have m1:=g1.at';have m2:=g2.at';have m4:=hy.at';rw [hz,e1];exact ⟨.word hk,by rw [iP,oP];omega⟩
theorem LL (hn:13<n):∀(c:Nat) (l:List aB) (p:aC),PI p->(p.l_.length:Int) - p.gC<c->(l.length:Int)<=p.gC->bD (mH n c l p) λr=>Gd p r.2/\(r.1.length:Int)<=r.2.gC+1/\(r.2.e_=0->(∀x ∈ l,WP x)->(∀x ∈ r.1,WP x)/\wC r.1<=wC l+(r.2.gC - p.gC)):=by
 intro c
 induction c with
 | zero=>intro l p h h1 h2;have:=h.hi;omega
 | succ c ih=>
   intro l p h h1 h2;have k1:=h.lo;have k2:=h.hi;have k3:=h.big;unfold mH;refine bD.iteb (λh4=>?_) λh4=>.some ⟨.refl h,by simp only;omega,λ_ hl=>⟨hl,by simp only;omega⟩⟩;refine (SR h hn).bind λx ⟨g1,gx⟩=>?_;refine bD.need (by simp only [sW];omega) ?_;refine (lX g1.inv hn).bind λr ⟨g2,g3,_⟩=>?_;have m1:=g1.at';have m2:=g2.at'
   have hx:r.2.e_=0->(∀x ∈ l,WP x)->(∀y ∈ l++[x.1],WP y)/\wC (l++[x.1])<=wC l+(r.2.gC - p.gC):=λe hl=>by
    obtain ⟨w1,w2⟩:=gx (g2.e0 e);refine ⟨λy hy=>?_,by rw [GO,tL];omega⟩
    rcases Cu.1 hy with hy | hy
    ·exact hl y hy
    ·obtain rfl:=AV.1 hy;exact w1
   refine bD.iteb (λh5=>.some ⟨g1.toGd.trans g2,by simp only [mX,sW];omega,hx⟩) λh5=>?_;have g4:=g3 (by simpa using h5);have g5:=g1.ga g4.2.1;have m3:=g1.adv g4.1;have m4:=g1.toGd.trans g2;refine (ih _ r.2 g2.inv (by rw [m4.len];omega) (by simp only [mX,sW];omega)).mono λs ⟨s1,s2,s3⟩=>⟨g5.toGd.trans s1,s2,λe hl=>?_⟩;obtain ⟨v1,v2⟩:=hx (s1.e0 e) hl;obtain ⟨v3,v4⟩:=s3 e v1;exact ⟨v3,by omega⟩
theorem KH (h:PI p) (hn:13<n) (hb:(p.l_.length:Int) - p.gC<n):bD (gA n p) λr=>GA p r.2/\r.1.length<=65538/\(r.2.e_=0->(∀x ∈ r.1,WP x)/\wC r.1<=r.2.gC - p.gC):=by
 unfold gA;refine (kE h hn).bind λq g1=>(lX g1.inv hn).bind λr ⟨g2,g3,g4⟩=>?_;have m1:=g1.at';have m2:=g2.at';refine bD.iteb (λh5=>.some ⟨g1.gd g2,by simp,λ_=>⟨(λx hx=>nomatch hx),by rw [oP];simp only;omega⟩⟩) λh5=>?_;have g5:=g1.gd g2;have k0:=g2.inv.lo;refine bD.bind (P:=λy=>Gd r.2 y.2/\y.1.length<=65538/\(y.2.e_=0->(∀x ∈ y.1,WP x)/\wC y.1<=y.2.gC - r.2.gC)) ?_ λy ⟨g6,m3,m4⟩=>?_
 ·refine (LL hn n [] r.2 g2.inv (by rw [g5.len];omega) (by simpa using k0)).bind λy ⟨y1,y2,y3⟩=>.some ⟨y1,?_,λe=>?_⟩
  ·have k1:=y1.inv.hi;have k2:=y1.inv.big;show y.1.length<=_;omega
  ·obtain ⟨w1,w2⟩:=y3 e (λx hx=>nomatch hx);exact ⟨w1,by rw [oP] at w2;simp only;omega⟩
 ·refine (kE g6.inv hn).bind λs g7=>.some ⟨(g5.gd g6).ga g7,m3,λe=>?_⟩;obtain ⟨w1,w2⟩:=m4 (g7.toGd.e0 e);have m5:=g7.at';exact ⟨w1,by simp only;omega⟩
theorem OZ (h:PI p) {a:Int}:bD (mF p a) λq=>Gd p q:=by
 unfold mF;refine bD.iteb (λ_=>?_) λ_=>.some (.refl h);exact (GD h (by decide)).bind λq ⟨g,_⟩=>.some g
theorem Vc (h:PI p) (hn:13<n) (x:List bW) (hx:x.length=3):∀(c:Nat) (v:Nat),3<v+c->v<=3->bD (lT n x p c v) λr=>match r with | .inl _=>True | .inr t=>p.e_=0/\t ∈ x/\t ≠ []:=by
 intro c
 induction c with
 | zero=>intro v h1 h2;omega
 | succ c ih=>
   intro v h1 h2;unfold lT;refine bD.iteb (λh4=>?_) λh4=>.some trivial;simp only [sX] at h4;refine bD.bind' (bD.idx (by omega) (by omega) λz hz=>?_);refine bD.bind (P:=λb=>b=true->p.e_=0/\z ≠ []) ?_ λb hb=>?_
   ·refine bD.iteb (λhz0=>?_) λ_=>.some λh=>by cases h
    exact (KS h hn).bind λb hb=>.some λh=>⟨(hb h).1,by simpa using hz0⟩
   ·refine bD.iteb (λh5=>.some ⟨(hb h5).1,FK hz,(hb h5).2⟩) λh5=>?_;rw [cG (by omega) (by omega)];exact ih (v+1) (by omega) (by omega)
theorem Mm (h:PI p) (hn:13<n) {a:Int} (h0:0<=a) (h1:a<7):bD (mE n p a) λt=>t ≠ []->p.e_=0/\t ∈ IF:=by
 unfold mE;refine bD.bind' (bD.idx h0 (by have:cW.length=7:=rfl;omega) λx hx=>?_)
 have hl:x.length=3:=by
  have:(cW.all λy=>y.length == 3)=true:=by decide
  simpa using LX.1 this x (FK hx)
 refine (Vc h hn x hl n 0 (by omega) (by omega)).bind λy hy=>bD.elim (λ_ _=>.some λh=>absurd rfl h) λz e=>?_;subst e;refine .some λ_=>⟨hy.1,?_⟩;have hall:(cW.all λx=>x.all λs=>s == [] || IF.contains s)=true:=by decide
 have:=LX.1 (LX.1 hall x (FK hx)) z hy.2.1;simp only [xdt,beq_iff_eq,List.contains_iff_mem] at this;exact this.resolve_left hy.2.2
end
def Lf (p:aC):Int:=16*((p.l_.length:Int) - p.gC)
theorem Gd.lf {p q:aC} (h:Gd p q):Lf q<=Lf p:=by have:=h.at';unfold Lf;rw [h.len];omega
theorem GA.lf {p q:aC} (h:GA p q) (he:q.e_=0):Lf q+16<=Lf p:=by have:=h.adv he;unfold Lf;rw [h.toGd.len];omega
theorem PI.lf {p:aC} (h:PI p):16<=Lf p:=by have:=h.hi;unfold Lf;omega
def Sx (p:aC) (r:aB × aC):Prop:=r.2.e_=0->WE r.1/\sz r.1<=r.2.gC - p.gC
def SL (p:aC) (r:List aB × aC):Prop:=r.2.e_=0->(∀x ∈ r.1,WE x)/\wC r.1<=r.2.gC - p.gC
def RX (n:Nat) (k:Int) (f:aC->Int->Option (aB × aC)):Prop:=∀p a,PI p->Lf p+k<=n->bD (f p a) λr=>GA p r.2/\Sx p r
def OkL (n:Nat) (f:aC->Int->Int->Option (aB × aC)):Prop:=∀p a b,PI p->0<=a->a<=7->Lf p+29 - a<=n->bD (f p a b) λr=>GA p r.2/\Sx p r
def OkA (n:Nat) (f:aC->Int->Option ((List aB) × aC)):Prop:=∀p a,PI p->Lf p+25<=n->bD (f p a) λr=>GA p r.2/\SL p r
section
variable {n:Nat} {p:aC}
theorem VI (hn:13<n) {f:aC->Int->Int->Option (aB × aC)} {a1 a2:Int} (h0:0<=a1) (h6:a1<7) {k:Int} (hf:∀p,PI p->Lf p<=k->bD (f p (a1+1) a2) λr=>GA p r.2/\Sx p r) :
  ∀(c:Nat) (t:bW) (p:aC) (x:aB),PI p->Lf p<=k->1<=c->(t ≠ []->Lf p+1<=c/\t ∈ IF)->bD (qK f n a1 a2 c t p x) λr=>Gd p r.1/\(r.1.e_=0->WE x->WE r.2/\sz r.2<=sz x+(r.1.gC - p.gC)):=by
 intro c
 induction c with
 | zero=>intro t p x h hl h1;omega
 | succ c ih=>
   intro t p x h hl h1 h2;unfold qK;refine bD.iteb (λh4=>?_) λh4=>.some ⟨.refl h,λ_ hw=>⟨hw,by simp only;omega⟩⟩;simp only [ne_eq,sX] at h4;obtain ⟨h5,hsg⟩:=h2 h4;have h6':=h.lf;refine (AD h).bind λr ⟨g1,e1⟩=>(kE g1.inv hn).bind λq g2=>?_;have l1:=g1.lf;have l2:=g2.toGd.lf;rw [cG (n:=a1+1) (by omega) (by omega)];refine (hf q g2.inv (by omega)).bind λs ⟨g3,sx⟩=>?_;have g4:=g1.ga (g2.ga g3)
   have hx:s.2.e_=0->WE x->WE { r.1 with cZ:=t,aL:=[x,s.1] }/\sz { r.1 with cZ:=t,aL:=[x,s.1] }<=sz x+(s.2.gC - p.gC):=λe hw=>by
    obtain ⟨w1,w2⟩:=sx e;have m2:=g2.adv (g3.toGd.e0 e);have m1:=g1.at';rw [e1];exact ⟨.bin hsg hw w1,by rw [iP,Jf];omega⟩
   refine bD.iteb (λ_=>.some ⟨g4.toGd,hx⟩) λ_=>?_;refine (Mm g3.inv hn h0 h6).bind λt' ht=>?_;have l3:=g3.toGd.lf;refine (ih t' s.2 _ g3.inv (by omega) (by omega) λhne=>?_).mono λr ⟨g5,g6⟩=>⟨g4.toGd.trans g5,λe hw=>?_⟩
   ·have l4:=g4.lf (ht hne).1;exact ⟨by omega,(ht hne).2⟩
   ·obtain ⟨v1,v2⟩:=hx (g5.e0 e) hw;obtain ⟨v3,v4⟩:=g6 e v1;exact ⟨v3,by omega⟩
theorem level_b (hn:13<n) {fo:aC->Int->Option (aB × aC)} {fl:aC->Int->Int->Option (aB × aC)} (ho:RX n 21 fo) (hl:OkL n fl):OkL (n+1) (oC fo fl n):=by
 intro p a b h h0 h7 hb;unfold oC;refine bD.iteb (λh1=>?_) λh1=>?_
 ·simp only [beq_iff_eq] at h1;exact (ho p b h (by omega)).bind λr g=>.some g
 ·simp only [beq_eq_false_iff_ne,ne_eq] at h1;rw [cG (n:=a+1) (by omega) (by omega)];refine (hl p (a+1) b h (by omega) (by omega) (by omega)).bind λr ⟨g,sx⟩=>?_;have l1:=g.toGd.lf;have l2:=g.inv.lf;refine (Mm g.inv hn h0 (by omega)).bind λt ht=>?_;refine (VI hn h0 (by omega) (k:=Lf r.2) (λq hq hk=>hl q (a+1) b hq (by omega) (by omega) (by omega)) n t r.2 r.1 g.inv (Se _) (by omega) (λhne=>⟨by omega,(ht hne).2⟩)).bind λs ⟨g2,sx2⟩=>.some ⟨g.gd g2,λe=>?_⟩;obtain ⟨v1,v2⟩:=sx (g2.e0 e);obtain ⟨v3,v4⟩:=sx2 e v1;exact ⟨v3,by simp only;omega⟩
theorem expr_b {fl:aC->Int->Int->Option (aB × aC)} (hl:OkL n fl):RX (n+1) 30 (pC fl n):=by
 intro p a h hb;unfold pC;exact (hl p 0 a h (by omega) (by omega) (by omega)).bind λr g=>.some g
theorem OA {fe:aC->Int->Option (aB × aC)} (he:RX n 30 fe):RX (n+1) 31 (lG fe n):=by
 intro p a h hb;unfold lG;exact (he p _ h (by omega)).bind λr g=>.some g
theorem SL.more {p q r:aC} {x:aB} {l:List aB} (g1:Gd p q) (sx:Sx p (x,q)) (g2:Gd q r):r.e_=0->(∀x ∈ l,WE x)->(∀y ∈ l++[x],WE y)/\wC (l++[x])<=wC l+(r.gC - p.gC):=λe hl=>by
 obtain ⟨w1,w2⟩:=sx (g2.e0 e);have m2:=g2.at';simp only at w2;refine ⟨λy hy=>?_,by rw [GO,tL];omega⟩
 rcases Cu.1 hy with hy | hy
 ·exact hl y hy
 ·obtain rfl:=AV.1 hy;exact w1
theorem Jz (hn:13<n) {fo:aC->Int->Option (aB × aC)} {k:Int} {a:Int} (hf:∀p,PI p->Lf p<=k->bD (fo p a) λr=>GA p r.2/\Sx p r):∀(c:Nat) (l:List aB) (p:aC),PI p->(p.e_=0->Lf p<=k)->(p.l_.length:Int) - p.gC<c->(l.length:Int)<=p.gC->bD (fY fo n a c l p) λr=>Gd p r.2/\(r.1.length:Int)<=r.2.gC+1/\(r.2.e_=0->(∀x ∈ l,WE x)->(∀x ∈ r.1,WE x)/\wC r.1<=wC l+(r.2.gC - p.gC)):=by
 intro c
 induction c with
 | zero=>intro l p h _ h1 h2;have:=h.hi;omega
 | succ c ih=>
   intro l p h hk h1 h2;have k1:=h.lo;have k2:=h.hi;have k3:=h.big;unfold fY;refine bD.iteb (λh4=>?_) λh4=>.some ⟨.refl h,by simp only;omega,λ_ hl=>⟨hl,by simp only;omega⟩⟩;simp only [beq_iff_eq] at h4;refine (hf p h (hk h4)).bind λx ⟨g1,sx⟩=>?_;refine bD.need (by simp only [sW];omega) ?_;refine (lX g1.inv hn).bind λr ⟨g2,g3,_⟩=>?_;have m1:=g1.at';have m2:=g2.at';have hx:=SL.more (l:=l) g1.toGd sx g2;refine bD.iteb (λh5=>.some ⟨g1.toGd.trans g2,by simp only [mX,sW];omega,hx⟩) λh5=>?_;have g4:=g3 (by simpa using h5);have g5:=g1.ga g4.2.1;have m3:=g1.adv g4.1;have m4:=g1.toGd.trans g2;have m5:=g5.toGd.lf;have m6:=hk h4;refine (ih _ r.2 g2.inv (λ_=>by omega) (by rw [m4.len];omega) (by simp only [mX,sW];omega)).mono λs ⟨s1,s2,s3⟩=>⟨g5.toGd.trans s1,s2,λe hl=>?_⟩;obtain ⟨v1,v2⟩:=hx (s1.e0 e) hl;obtain ⟨v3,v4⟩:=s3 e v1;exact ⟨v3,by omega⟩
theorem KI (hn:13<n) {fo:aC->Int->Option (aB × aC)} (ho:RX n 31 fo):OkA (n+1) (iX fo n):=by
 intro p a h hb;unfold iX;refine (kE h hn).bind λq g1=>(lX g1.inv hn).bind λr ⟨g2,g3,g4⟩=>?_;have m1:=g1.at';have m2:=g2.at';refine bD.iteb (λh5=>.some ⟨g1.gd g2,λ_=>⟨(λx hx=>nomatch hx),by rw [oP];simp only;omega⟩⟩) λh5=>?_;have g5:=g1.gd g2;have k0:=g2.inv.lo;have k1:=g5.toGd.lf;have k2:=h.lf;refine bD.bind (P:=λy=>Gd r.2 y.2/\SL r.2 y) ?_ λy ⟨g6,s6⟩=>?_
 ·refine (Jz hn (k:=(n:Int) - 31) (λq hq hk=>ho q a hq (by omega)) n [] r.2 g2.inv (λhe=>?_) ?_ (by simpa using k0)).bind λy ⟨y1,y2,y3⟩=>.some ⟨y1,λe=>?_⟩
  ·have:=g5.lf he;omega
  ·unfold Lf at hb k1;rw [g5.toGd.len] at k1 ⊢;have:=h.hi;omega
  ·obtain ⟨w1,w2⟩:=y3 e (λx hx=>nomatch hx);exact ⟨w1,by rw [oP] at w2;simp only;omega⟩
 ·refine (kE g6.inv hn).bind λs g7=>.some ⟨(g5.gd g6).ga g7,λe=>?_⟩;obtain ⟨w1,w2⟩:=s6 (g7.toGd.e0 e);have m5:=g7.at';exact ⟨w1,by simp only;omega⟩
theorem Qj (hn:13<n) {fo:aC->Int->Option (aB × aC)} {k:Int} (hf:∀p a,PI p->Lf p<=k->bD (fo p a) λr=>GA p r.2/\Sx p r) {a1:Int}:∀(c:Nat) (v:Nat) (p:aC) (x y:aB),2<v+c->v<=2->PI p->Lf p<=k+16->bD (oU fo n a1 c v p x y) λr=>match r with | .inl s=>Gd p s.1/\s.2.1=x | .inr s=>GA p s.2/\(x.jO=0->Sx p s):=by
 intro c
 induction c with
 | zero=>intro v p x y h1 h2;omega
 | succ c ih=>
   intro v p x y h1 h2 h hk;unfold oU;refine bD.iteb (λh4=>?_) λh4=>.some ⟨.refl h,rfl⟩;simp only [sX] at h4;refine bD.bind' (bD.idx (by omega) (by have:iS.length=2:=rfl;omega) λz hz=>?_);refine (lX h hn).bind λr ⟨g1,g2,g3⟩=>?_;refine bD.iteb (λh5=>?_) λh5=>?_
   ·obtain ⟨_,g4,g5⟩:=g2 h5;have l1:=g4.lf g5;refine (hf r.2 _ g1.inv (by omega)).bind λs ⟨g6,sx⟩=>.some ⟨g4.ga g6,λhx e=>?_⟩;obtain ⟨w1,w2⟩:=sx e;have m1:=g4.adv (g6.toGd.e0 e);refine ⟨?_,by simp only [iP,tL];omega⟩;simp only [hx];refine .un ?_ w1;have hm:=FK hz;simpa [iS] using hm
   ·rw [cG (by omega) (by omega)];have l1:=g1.lf;refine (ih (v+1) r.2 x y (by omega) (by omega) g1.inv (by omega)).mono λs hs=>?_;cases s with
    | inl s=>exact ⟨g1.trans hs.1,hs.2⟩
    | inr s=>
      refine ⟨g1.ga hs.1,λhx e=>?_⟩;obtain ⟨w1,w2⟩:=hs.2 hx e;have:=g1.at';exact ⟨w1,by omega⟩
theorem SS (hn:13<n) {fe fo:aC->Int->Option (aB × aC)} {fa:aC->Int->Option ((List aB) × aC)} (he:RX n 30 fe) (ho:RX n 21 fo) (ha:OkA n fa):RX (n+1) 21 (mP fe fo fa n):=by
 intro p a h hb;unfold mP;refine (OZ h).bind λq g1=>(lX g1.inv hn).bind λr ⟨g2,g3,_⟩=>?_;have m1:=g1.lf;have m2:=g2.lf;have m3:=h.lf;have n1:=g1.at';have n2:=g2.at';refine bD.iteb (λh5=>?_) λh5=>?_
 ·obtain ⟨_,g4,g5⟩:=g3 h5;have l1:=g4.lf g5;refine (he r.2 _ g2.inv (by omega)).bind λs ⟨g6,sx⟩=>(kE g6.inv hn).bind λt g7=>.some ⟨g1.ga (g4.ga (g6.ga g7)),λe=>?_⟩;obtain ⟨w1,w2⟩:=sx (g7.toGd.e0 e);have n3:=g7.at';exact ⟨w1,by simp only;omega⟩
 ·refine (AD g2.inv).bind λs ⟨g4,e4⟩=>?_;have m4:=g4.lf;have n4:=g4.at';refine (Qj hn (k:=(n:Int) - 21) (λq b hq hk=>ho q b hq (by omega)) n 0 s.2 _ _ (by omega) (by omega) g4.inv (by omega)).bind λy hy=>?_;have g5:=g1.trans (g2.trans g4);refine bD.elim (λz e=>?_) λz e=>?_
  ·subst e;have hy':Gd s.2 z.1:=hy.1;have hz:z.2.1=s.1:=hy.2;have g6:=g5.trans hy';have n5:=hy'.at';rw [hz,e4];refine bD.bind (P:=λ_=>True) ?_ λb _=>?_
   ·refine bD.iteb (λ_=>?_) λ_=>.some trivial;exact (wP hy'.inv).bind λt _=>.some trivial
   ·refine bD.iteb (λ_=>?_) λ_=>?_
    ·refine (KC hy'.inv).bind λt ⟨g7,n7⟩=>.some ⟨g6.ga g7,λe=>?_⟩;have:=g7.adv e;exact ⟨.num n7.1 n7.2,by simp only [iP,oP];omega⟩
    ·refine (Ca hy'.inv hn).bind λt g7=>?_;have g8:=g6.ga g7;have l8:=g8.toGd.lf;refine bD.bind (P:=λy=>GA p y.1/\Sx p (y.2,y.1)) ?_ λy hy=>.some hy;refine (KS g7.inv hn).bind λb hb=>bD.iteb (λh9=>?_) λh9=>?_
     ·have l9:=g8.lf (hb h9).1;refine (ha t.2 a g7.inv (by omega)).bind λu ⟨g9,sx⟩=>.some ⟨g8.ga g9,λe=>?_⟩;obtain ⟨w1,w2⟩:=sx e;have:=g7.adv (g9.toGd.e0 e);exact ⟨.call w1,by simp only [iP];omega⟩
     ·refine (lX g7.inv hn).bind λu ⟨g9,g10,_⟩=>bD.iteb (λh10=>?_) λh10=>.some ⟨g8.gd g9,λe=>?_⟩
      ·obtain ⟨_,g11,g12⟩:=g10 h10;have l9:=g11.lf g12;refine (he u.2 _ g9.inv (by omega)).bind λv ⟨g13,sx⟩=>(kE g13.inv hn).bind λw g14=>.some ⟨g8.ga (g11.ga (g13.ga g14)),λe=>?_⟩;have ev:=g14.toGd.e0 e;obtain ⟨w1,w2⟩:=sx ev;have n6:=g14.at';have n7:=g7.adv (g9.e0 (g13.toGd.e0 ev));have n8:=g9.at';exact ⟨.index w1,by simp only [iP,tL];omega⟩
      ·have n7:=g7.adv (g9.e0 e);have n8:=g9.at';exact ⟨.ref,by simp only [iP,oP];omega⟩
  ·subst e;refine .some ⟨g5.ga hy.1,λe=>?_⟩;obtain ⟨w1,w2⟩:=hy.2 (by rw [e4]) e;exact ⟨w1,by omega⟩
theorem grp_ok:∀n:Nat,OkA n (aY n).1/\RX n 30 (aY n).2.1/\OkL n (aY n).2.2.1/\RX n 21 (aY n).2.2.2.1/\RX n 31 (aY n).2.2.2.2:=by
 have small:∀n:Nat,n<=14->OkA n (aY n).1/\RX n 30 (aY n).2.1/\OkL n (aY n).2.2.1/\RX n 21 (aY n).2.2.2.1/\RX n 31 (aY n).2.2.2.2:=by
  intro n hn;refine ⟨λp a h hb=>?_,λp a h hb=>?_,λp a b h h0 h7 hb=>?_,λp a h hb=>?_,λp a h hb=>?_⟩ <;> (have:=h.lf;omega)
 intro n
 induction n with
 | zero=>exact small 0 (by omega)
 | succ n ih=>
   by_cases hn:13<n
   ·obtain ⟨i1,i2,i3,i4,i5⟩:=ih;exact ⟨KI hn i5,expr_b i3,level_b hn i4 i3,SS hn i2 i4 i1,OA i2⟩
   ·exact small (n+1) (by omega)
theorem yM (h:PI p) {a:Int} (hb:Lf p+30<=n):bD (fB n p a) λr=>GA p r.2/\Sx p r:=(grp_ok n).2.1 p a h hb
theorem Mq (h:PI p) {x:aB} {a:Int} (hb:Lf p+30<=n):bD (lH n p x a) λr=>GA p r.2/\(r.2.e_=0->∃s y,r.1={ x with cZ:=s,aL:=[y] }/\WE y/\sz y+1<=r.2.gC - p.gC):=by
 have hn:13<n:=by have:=h.lf;omega
 unfold lH;refine (Ca h hn).bind λr g1=>(kE g1.inv hn).bind λq g2=>?_;have l1:=g1.toGd.lf;have l2:=g2.toGd.lf;refine (yM g2.inv (by omega)).bind λs ⟨g3,sx⟩=>(kE g3.inv hn).bind λt g4=>.some ⟨g1.ga (g2.ga (g3.ga g4)),λe=>?_⟩;obtain ⟨w1,w2⟩:=sx (g4.toGd.e0 e);have n1:=g1.at';have n2:=g2.at';have n4:=g4.adv e;exact ⟨_,_,rfl,w1,by simp only;omega⟩
theorem Ox (h:PI p) {a:Int} (hb:Lf p+30<=n):bD (oA n p a) λr=>GA p r.2/\Sx p r:=by
 unfold oA;exact (yM h hb).bind λr g=>.some g
theorem LK (hn:13<n) {a:Int}:∀(c:Nat) (l:List aB) (p:aC),PI p->Lf p+30<=n->(p.l_.length:Int) - p.gC<c->(l.length:Int)<=p.gC->bD (gR n a c l p) λr=>Gd p r.2/\(r.1.length:Int)<=r.2.gC+1/\(r.2.e_=0->(∀x ∈ l,WE x)->(∀x ∈ r.1,WE x)/\wC r.1<=wC l+(r.2.gC - p.gC)):=by
 intro c
 induction c with
 | zero=>intro l p h _ h1 h2;have:=h.hi;omega
 | succ c ih=>
   intro l p h hk h1 h2;have k1:=h.lo;have k2:=h.hi;have k3:=h.big;unfold gR;refine bD.iteb (λh4=>?_) λh4=>.some ⟨.refl h,by simp only;omega,λ_ hl=>⟨hl,by simp only;omega⟩⟩;refine (Ox h hk).bind λx ⟨g1,sx⟩=>?_;refine bD.need (by simp only [sW];omega) ?_;refine (lX g1.inv hn).bind λr ⟨g2,g3,_⟩=>?_;have m1:=g1.at';have m2:=g2.at';have hx:=SL.more (l:=l) g1.toGd sx g2;refine bD.iteb (λh5=>.some ⟨g1.toGd.trans g2,by simp only [mX,sW];omega,hx⟩) λh5=>?_;have g4:=g3 (by simpa using h5);have g5:=g1.ga g4.2.1;have m3:=g1.adv g4.1;have m4:=g1.toGd.trans g2;have m5:=g5.toGd.lf;refine (ih _ r.2 g2.inv (by omega) (by rw [m4.len];omega) (by simp only [mX,sW];omega)).mono λs ⟨s1,s2,s3⟩=>⟨g5.toGd.trans s1,s2,λe hl=>?_⟩;obtain ⟨v1,v2⟩:=hx (s1.e0 e) hl;obtain ⟨v3,v4⟩:=s3 e v1;exact ⟨v3,by omega⟩
theorem KG (h:PI p) {a:Int} (hb:Lf p+30<=n):bD (iU n p a) λr=>GA p r.2/\SL p r:=by
 have hn:13<n:=by have:=h.lf;omega
 unfold iU;refine (kE h hn).bind λq g1=>(lX g1.inv hn).bind λr ⟨g2,g3,g4⟩=>?_;have m1:=g1.at';have m2:=g2.at';refine bD.iteb (λh5=>.some ⟨g1.gd g2,λ_=>⟨(λx hx=>nomatch hx),by rw [oP];simp only;omega⟩⟩) λh5=>?_;have g5:=g1.gd g2;have k0:=g2.inv.lo;have k1:=g5.toGd.lf;refine bD.bind (P:=λy=>Gd r.2 y.2/\SL r.2 y) ?_ λy ⟨g6,s6⟩=>?_
 ·refine (LK hn n [] r.2 g2.inv (by omega) ?_ (by simpa using k0)).bind λy ⟨y1,y2,y3⟩=>.some ⟨y1,λe=>?_⟩
  ·unfold Lf at hb k1;rw [g5.toGd.len] at k1 ⊢;have:=h.hi;omega
  ·obtain ⟨w1,w2⟩:=y3 e (λx hx=>nomatch hx);exact ⟨w1,by rw [oP] at w2;simp only;omega⟩
 ·refine (kE g6.inv hn).bind λs g7=>.some ⟨(g5.gd g6).ga g7,λe=>?_⟩;obtain ⟨w1,w2⟩:=s6 (g7.toGd.e0 e);have m5:=g7.at';exact ⟨w1,by simp only;omega⟩
def St0 (x:aB):Prop:=x=⟨8,x.fM,[],0,[]⟩
def Ss (p:aC) (r:aB × aC):Prop:=r.2.e_=0->WS r.1/\sz r.1<=r.2.gC - p.gC
theorem SQ (h:PI p) {x:aB} {a:Int} (hb:Lf p+30<=n) (hx:St0 x):bD (nD n p x a) λr=>GA p r.2/\Ss p r:=by
 have hn:13<n:=by have:=h.lf;omega
 unfold nD;rw [hx];refine (Ca h hn).bind λr g1=>?_;have l1:=g1.toGd.lf;have n1:=g1.at';refine bD.bind (P:=λy=>GA p y.1/\(y.1.e_=0->WS y.2/\sz y.2<=1+(y.1.gC - p.gC))) ?_ λy hy=>?_
 case refine_2=>
  obtain ⟨hy',hs⟩:GA p y.1/\(y.1.e_=0->WS y.2/\sz y.2<=1+(y.1.gC - p.gC)):=hy;refine (kE hy'.inv hn).bind λs g=>.some ⟨hy'.ga g,λe=>?_⟩;obtain ⟨w1,w2⟩:=hs (g.toGd.e0 e);have:=g.adv e;exact ⟨w1,by simp only;omega⟩
 refine (KS g1.inv hn).bind λb _=>bD.iteb (λ_=>?_) λ_=>?_
 ·refine (KG g1.inv (by omega)).bind λs ⟨g2,sx⟩=>.some ⟨g1.ga g2,λe=>?_⟩;obtain ⟨w1,w2⟩:=sx e;exact ⟨.call w1,by simp only [iP];omega⟩
 ·refine (lX g1.inv hn).bind λs ⟨g2,_,_⟩=>?_;have l2:=g2.lf;have n2:=g2.at';refine bD.iteb (λ_=>?_) λ_=>?_
  ·refine (yM g2.inv (by omega)).bind λt ⟨g3,s3⟩=>(kE g3.inv hn).bind λu g4=>(kE g4.inv hn).bind λv g5=>?_;have l3:=g3.toGd.lf;have l4:=g4.toGd.lf;have l5:=g5.toGd.lf;refine (yM g5.inv (by omega)).bind λw ⟨g6,s6⟩=>bD.need (by simp) (.some ⟨g1.gd (g2.trans (g3.toGd.trans (g4.toGd.trans (g5.toGd.trans g6.toGd)))),λe=>?_⟩);obtain ⟨w1,w2⟩:=s6 e;have e5:=g6.toGd.e0 e;obtain ⟨w3,w4⟩:=s3 (g4.toGd.e0 (g5.toGd.e0 e5));have n4:=g4.at';have n5:=g5.at';exact ⟨.put w3 w1,by simp only [iP,Pv,Jf];omega⟩
  ·refine (kE g2.inv hn).bind λv g5=>?_;have l5:=g5.toGd.lf;have n5:=g5.at';refine (yM g5.inv (by omega)).bind λw ⟨g6,s6⟩=>.some ⟨g1.gd (g2.trans (g5.toGd.trans g6.toGd)),λe=>?_⟩;obtain ⟨w1,w2⟩:=s6 e;exact ⟨.set w1,by simp only [iP,tL];omega⟩
end
def Bk (p:aC) (r:aB × aC):Prop:=r.2.e_=0->(r.1=⟨4,r.1.fM,[],0,r.1.aL⟩/\∀y ∈ r.1.aL,WS y)/\sz r.1<=r.2.gC - p.gC
def OkS (n:Nat) (f:aC->Int->Option (aB × aC)):Prop:=∀p a,PI p->Lf p+45<=n->bD (f p a) λr=>GA p r.2/\Ss p r
def OkK (n:Nat) (f:aC->Int->Option (aB × aC)):Prop:=∀p a,PI p->Lf p+46<=n->bD (f p a) λr=>GA p r.2/\Bk p r
def OkN (n:Nat) (k:Int) (f:aC->aB->Int->Option (aB × aC)):Prop:=∀p x a,PI p->Lf p+k<=n->St0 x->bD (f p x a) λr=>GA p r.2/\(r.2.e_=0->WS r.1/\sz r.1<=1+(r.2.gC - p.gC))
section
variable {n:Nat} {p:aC}
theorem WB (hn:13<n) {fs:aC->Int->Option (aB × aC)} {k:Int} {a:Int} (hf:∀p,PI p->Lf p<=k->bD (fs p a) λr=>GA p r.2/\Ss p r):∀(c:Nat) (p:aC) (x:aB),PI p->(p.e_=0->Lf p<=k)->(p.l_.length:Int) - p.gC<c->1<=c->(p.e_=0->(x.aL.length:Int)<=p.gC)->(x.aL.length:Int)<=65538->bD (nH fs n a c p x) λr=>Gd p r.1/\(r.1.e_=0->(∀y ∈ x.aL,WS y)->(∀y ∈ r.2.aL,WS y)/\wC r.2.aL<=wC x.aL+(r.1.gC - p.gC)/\r.2={ x with aL:=r.2.aL }):=by
 intro c
 induction c with
 | zero=>intro p x h _ h1 h2;omega
 | succ c ih=>
   intro p x h hk h1 h2 h3 h4;have k1:=h.lo;have k2:=h.hi;have k3:=h.big;unfold nH;refine bD.bind (P:=λb=>b=true->p.e_=0) ?_ λb hb=>?_
   ·refine bD.iteb (λhe=>?_) λ_=>.some λh=>by cases h
    exact (KS h hn).bind λb hb=>.some λ_=>by simpa using he
   ·refine bD.iteb (λh5=>?_) λh5=>.some ⟨.refl h,λ_ hl=>⟨hl,by simp only;omega,by cases x;rfl⟩⟩;have he:=hb h5;refine (hf p h (hk he)).bind λr ⟨g,ss⟩=>?_;have m1:=g.at';have m2:=hk he;have m3:=h3 he;have m4:=g.toGd.lf;have m5:=g.inv.hi;have m6:=g.toGd.len;refine bD.need (by simp only [sW];omega) ?_
    by_cases he2:r.2.e_=0
    ·have m7:=g.adv he2;obtain ⟨w1,w2⟩:=ss he2;refine (ih r.2 _ g.inv (λ_=>by omega) (by rw [m6];omega) (by omega) (λ_=>by simp only [mX,sW];omega) (by simp only [mX,sW];omega)).mono λs ⟨g2,s2⟩=>⟨g.toGd.trans g2,λe hl=>?_⟩
     obtain ⟨v1,v2,v3⟩:=s2 e (λy hy=>by
      rcases Cu.1 hy with hy | hy
      ·exact hl y hy
      ·obtain rfl:=AV.1 hy;exact w1)
     refine ⟨v1,?_,v3⟩;simp only [GO,tL] at v2;omega
    ·cases c with
     | zero=>omega
     | succ c=>
       unfold nH;rw [if_neg (by simpa using he2),dV,if_neg (by decide)];exact .some ⟨g.toGd,λe=>absurd e he2⟩
theorem block_b {fs:aC->Int->Option (aB × aC)} (hs:OkS n fs):OkK (n+1) (oD fs n):=by
 intro p a h hb;have hn:13<n:=by have:=h.lf;omega
 unfold oD;refine (OZ h).bind λq g1=>(AD g1.inv).bind λr ⟨g2,e2⟩=>(kE g2.inv hn).bind λt g3=>?_;have e:r.1.aL=[]:=by rw [e2]
 have g4:=g1.trans g2;have g5:=g4.ga g3;have l5:=g5.toGd.lf;have k0:=g3.inv.lo;refine (WB hn (k:=(n:Int) - 45) (λq hq hk=>hs q a hq (by omega)) n t r.1 g3.inv (λhe=>?_) ?_ (by omega) (λ_=>by rw [e];simpa using k0) (by rw [e];simp)).bind λy ⟨g6,s6⟩=>(kE g6.inv hn).bind λs g7=>.some ⟨(g5.gd g6).ga g7,λe3=>?_⟩
 ·have:=g5.lf he;omega
 ·unfold Lf at hb l5;rw [g5.toGd.len] at l5 ⊢;have:=h.hi;omega
 ·have ey:=g7.toGd.e0 e3;obtain ⟨v1,v2,v3⟩:=s6 ey (λy hy=>by rw [e] at hy;cases hy);have n3:=g3.adv (g6.e0 ey);have n4:=g4.at';have n7:=g7.at';rw [e2] at v3;rw [e,oP] at v2;refine ⟨⟨by simp only;rw [v3],v1⟩,?_⟩;simp only [Gf];omega
theorem Wq {fb:aC->Int->Option (aB × aC)} (hf:OkK n fb):OkN (n+1) 47 (nG fb n):=by
 intro p x a h hb hx;have hn:13<n:=by have:=h.lf;omega
 unfold nG;rw [hx];refine (yM h (by omega)).bind λr ⟨g1,s1⟩=>?_;have l1:=g1.toGd.lf;refine (hf r.2 _ g1.inv (by omega)).bind λs ⟨g2,s2⟩=>bD.need (by simp) ((lX g2.inv hn).bind λt ⟨g3,_,_⟩=>?_);have l2:=g2.toGd.lf;have l3:=g3.lf;have n3:=g3.at';refine bD.iteb (λ_=>?_) λ_=>.some ⟨(g1.ga g2).gd g3,λe=>?_⟩
 ·refine (hf t.2 _ g3.inv (by omega)).bind λu ⟨g4,s4⟩=>bD.need (by simp) (.some ⟨((g1.ga g2).gd g3).ga g4,λe=>?_⟩);have e3:=g4.toGd.e0 e;have e2:=g3.e0 e3;obtain ⟨⟨a1,a2⟩,a3⟩:=s4 e;obtain ⟨⟨b1,b2⟩,b3⟩:=s2 e2;obtain ⟨c1,c2⟩:=s1 (g2.toGd.e0 e2);simp only [Pv,LV,Dh];rw [iP,Me];refine ⟨?_,by omega⟩;rw [a1,b1];exact .choice2 c1 b2 a2
 ·have e2:=g3.e0 e;obtain ⟨⟨b1,b2⟩,b3⟩:=s2 e2;obtain ⟨c1,c2⟩:=s1 (g2.toGd.e0 e2);simp only [Pv];rw [iP,Jf];refine ⟨?_,by omega⟩;rw [b1];exact .choice c1 b2
theorem loop_b {fb:aC->Int->Option (aB × aC)} (hf:OkK n fb):OkN (n+1) 47 (pB fb n):=by
 intro p x a h hb hx;have hn:13<n:=by have:=h.lf;omega
 unfold pB;rw [hx];refine (Ca h hn).bind λr g1=>(kE g1.inv hn).bind λs g2=>?_;have l1:=g1.toGd.lf;have l2:=g2.toGd.lf;have n1:=g1.at';have n2:=g2.at';refine (yM g2.inv (by omega)).bind λt ⟨g3,s3⟩=>(kE g3.inv hn).bind λu g4=>?_;have l3:=g3.toGd.lf;have l4:=g4.toGd.lf;have n4:=g4.at';refine (yM g4.inv (by omega)).bind λv ⟨g5,s5⟩=>bD.need (by simp) ?_;have l5:=g5.toGd.lf;refine (hf v.2 _ g5.inv (by omega)).bind λw ⟨g6,s6⟩=>bD.need (by simp) (.some ⟨g1.ga (g2.ga (g3.ga (g4.ga (g5.ga g6)))),λe=>?_⟩);have e5:=g6.toGd.e0 e;have e4:=g5.toGd.e0 e5;obtain ⟨⟨b1,b2⟩,b3⟩:=s6 e;obtain ⟨c1,c2⟩:=s5 e5;obtain ⟨d1,d2⟩:=s3 (g4.toGd.e0 e4);simp only [Pv,LV,Dh];rw [iP,Me];refine ⟨?_,by omega⟩;rw [b1];exact .loop d1 c1 b2
theorem Ob {fc fl:aC->aB->Int->Option (aB × aC)} (hc:OkN n 47 fc) (hl:OkN n 47 fl):OkS (n+1) (lF fc fl n):=by
 intro p a h hb;have hn:13<n:=by have:=h.lf;omega
 unfold lF;refine (AD h).bind λr ⟨g1,e1⟩=>?_;have hx:St0 r.1:=e1;have l1:=g1.lf;have n1:=g1.at';refine bD.bind (P:=λy=>match y with | .inl y=>GA p y.1/\(y.1.e_=0->WS y.2/\sz y.2<=1+(y.1.gC - p.gC)) | .inr y=>GA p y.2/\Ss p y) ?_ λy hy=>?_
 ·refine (lX g1.inv hn).bind λt1 ⟨a1,b1,_⟩=>bD.iteb (λh1=>?_) λh1=>?_
  ·have m1:=a1.lf;have o1:=a1.at';refine (Mq a1.inv (by omega)).bind λu ⟨g2,s2⟩=>.some ⟨g1.ga (a1.ga g2),λe=>?_⟩;obtain ⟨s,y,q1,q2,q3⟩:=s2 e;simp only;rw [q1,e1];exact ⟨.bind (.inl rfl) q2,by simp only [iP,tL];omega⟩
  have m1:=a1.lf;have o1:=a1.at';refine (lX a1.inv hn).bind λt2 ⟨a2,b2,_⟩=>bD.iteb (λh2=>?_) λh2=>?_
  ·have m2:=a2.lf;have o2:=a2.at';refine (Mq a2.inv (by omega)).bind λu ⟨g2,s2⟩=>.some ⟨g1.ga (a1.ga (a2.ga g2)),λe=>?_⟩;obtain ⟨s,y,q1,q2,q3⟩:=s2 e;simp only;rw [q1,e1];exact ⟨.bind (.inr rfl) q2,by simp only [iP,tL];omega⟩
  have m2:=a2.lf;have o2:=a2.at';refine (lX a2.inv hn).bind λt3 ⟨a3,b3,_⟩=>bD.iteb (λh3=>?_) λh3=>?_
  ·have o3:=a3.at';refine (Ca a3.inv hn).bind λu g2=>(Oh g2.inv hn).bind λv g3=>.some ⟨g1.ga (a1.ga (a2.ga (a3.ga (g2.ga g3)))),λe=>?_⟩;have o4:=g2.at';have o5:=g3.at';simp only;rw [e1];exact ⟨.arr,by simp only [iP,oP];omega⟩
  have m3:=a3.lf;have o3:=a3.at';refine (lX a3.inv hn).bind λt4 ⟨a4,b4,_⟩=>bD.iteb (λh4=>?_) λh4=>?_
  ·have m4:=a4.lf;have o4:=a4.at';refine (yM a4.inv (by omega)).bind λu ⟨g2,s2⟩=>.some ⟨g1.ga (a1.ga (a2.ga (a3.ga (a4.ga g2)))),λe=>?_⟩;obtain ⟨q1,q2⟩:=s2 e;simp only;rw [e1];exact ⟨.ret q1,by simp only [iP,tL];omega⟩
  have m4:=a4.lf;have o4:=a4.at';refine (lX a4.inv hn).bind λt5 ⟨a5,b5,_⟩=>bD.iteb (λh5=>?_) λh5=>?_
  ·obtain ⟨_,c1,c2⟩:=b5 h5;have m5:=c1.lf c2;have o5:=c1.adv c2;refine (hc t5.2 _ _ a5.inv (by omega) hx).bind λu ⟨g2,s2⟩=>.some ⟨g1.ga (a1.ga (a2.ga (a3.ga (a4.ga (a5.ga g2))))),λe=>?_⟩;obtain ⟨q1,q2⟩:=s2 e;exact ⟨q1,by simp only;omega⟩
  have m5:=a5.lf;have o5:=a5.at';refine (lX a5.inv hn).bind λt6 ⟨a6,b6,_⟩=>bD.iteb (λh6=>?_) λh6=>?_
  ·obtain ⟨_,c1,c2⟩:=b6 h6;have m6:=c1.lf c2;have o6:=c1.adv c2;refine (hl t6.2 _ _ a6.inv (by omega) hx).bind λu ⟨g2,s2⟩=>.some ⟨g1.ga (a1.ga (a2.ga (a3.ga (a4.ga (a5.ga (a6.ga g2)))))),λe=>?_⟩;obtain ⟨q1,q2⟩:=s2 e;exact ⟨q1,by simp only;omega⟩
  have m6:=a6.lf;have o6:=a6.at';refine (SQ a6.inv (by omega) hx).bind λu ⟨g2,s2⟩=>.some ⟨g1.ga (a1.ga (a2.ga (a3.ga (a4.ga (a5.ga (a6.ga g2)))))),λe=>?_⟩;obtain ⟨q1,q2⟩:=s2 e;exact ⟨q1,by simp only;omega⟩
 ·refine bD.elim (λz e=>?_) λz e=>?_
  ·subst e;obtain ⟨hy',hs⟩:GA p z.1/\(z.1.e_=0->WS z.2/\sz z.2<=1+(z.1.gC - p.gC)):=hy;refine (kE hy'.inv hn).bind λs g=>.some ⟨hy'.ga g,λe=>?_⟩;obtain ⟨w1,w2⟩:=hs (g.toGd.e0 e);have:=g.adv e;exact ⟨w1,by simp only;omega⟩
  ·subst e;exact .some hy
theorem grp2_ok:∀n:Nat,OkK n (dG n).1/\OkS n (dG n).2.1/\OkN n 47 (dG n).2.2.1/\OkN n 47 (dG n).2.2.2:=by
 intro n
 induction n with
 | zero=>refine ⟨λp a h hb=>?_,λp a h hb=>?_,λp x a h hb=>?_,λp x a h hb=>?_⟩ <;> (have:=h.lf;omega)
 | succ n ih=>
   obtain ⟨i1,i2,i3,i4⟩:=ih;exact ⟨block_b i2,Ob i3 i4,Wq i1,loop_b i1⟩
theorem IY (h:PI p) {a:Int} (hb:Lf p+46<=n):bD (eL n p a) λr=>GA p r.2/\Bk p r:=(grp2_ok n).1 p a h hb
def Fx (p:aC) (r:aB × aC):Prop:=r.2.e_=0->WF r.1/\sz r.1<=r.2.gC - p.gC
theorem Nk (h:PI p) (hb:Lf p+46<=n):bD (kW n p) λr=>GA p r.2/\Fx p r:=by
 have hn:13<n:=by have:=h.lf;omega
 unfold kW;refine (AD h).bind λr ⟨g1,e1⟩=>(lX g1.inv hn).bind λt ⟨g2,_,_⟩=>?_;have g3:=g1.trans g2;have n3:=g3.at'
 have key:∀q:aC,GA p q->(q.l_.length:Int) - q.gC<n:=by
  intro q g;have:=g.toGd.lf;unfold Lf at this hb;have:=h.hi;have:=g.inv.hi;omega
 have fin:∀ {q b:aC} {ps:List aB} {z:aB × aC} {at' k:Int} {s:bW},Gd q b->GA b z.2->Bk b z->p.gC+1<=q.gC - wC ps->(b.e_=0->∀x ∈ ps,WP x)->Fx p (⟨2,at',s,k,ps++[z.1]⟩,z.2):=λgb gz bz hq hp e=>by
  obtain ⟨⟨c1,c2⟩,c3⟩:=bz e;have eb:=gz.toGd.e0 e;have n1:=gb.at';refine ⟨?_,by simp only [iP,GO,tL];omega⟩;simp only;rw [c1];exact .fn (hp eb) c2
 have one:∀(k0 k1 k2:Int),bD ((bJ n t.2 [102,110]).bind λx10=>(eH n x10).bind λx11=>(gA n x11.2).bind λx13=>(bM n x13.2 [45,62]).bind λx15=>if x15.1=true then (bM n x15.2 [117,51,50]).bind λx18=>if x18.1=true then (eL n x18.2 1).bind λx21=>fC (x13.1.length+[x21.1].length<=1073741824) <| some (({ r.1 with jO:=k1,cZ:=x11.1,aL:=x13.1++[x21.1] }:aB),x21.2) else (bJ n x18.2 [117,54,52]).bind λx23=>(eL n x23 1).bind λx25=>fC (x13.1.length+[x25.1].length<=1073741824) <| some (({ r.1 with jO:=k2,cZ:=x11.1,aL:=x13.1++[x25.1] }:aB),x25.2) else (eL n x15.2 1).bind λx27=>fC (x13.1.length+[x27.1].length<=1073741824) <| some (({ r.1 with jO:=k0,cZ:=x11.1,aL:=x13.1++[x27.1] }:aB),x27.2)) λr=>GA p r.2/\Fx p r:=by
  intro k0 k1 k2;rw [e1];refine (kE g2.inv hn).bind λu g4=>(Ca g4.inv hn).bind λv g5=>?_;have g6:=g3.ga (g4.ga g5);have n6:=g5.at';refine (KH g5.inv hn (key _ g6)).bind λw ⟨g7,hw,hp⟩=>(lX g7.inv hn).bind λx ⟨g8,_,_⟩=>?_;have g9:=(g6.ga g7).gd g8;have l9:=g9.toGd.lf
  have big:∀ {b:aC},Gd w.2 b->b.e_=0->p.gC+1<=w.2.gC - wC w.1/\∀x ∈ w.1,WP x:=λgb e=>by
   obtain ⟨q1,q2⟩:=hp (gb.e0 e);have:=g4.adv (g5.toGd.e0 (g7.toGd.e0 (gb.e0 e)));exact ⟨by omega,q1⟩
  have fin2:∀ {b:aC} {z:aB × aC} {at' k:Int} {s:bW},Gd w.2 b->GA b z.2->Bk b z->Fx p (⟨2,at',s,k,w.1++[z.1]⟩,z.2):=λgb gz bz e=>fin gb gz bz (big gb (gz.toGd.e0 e)).1 (λe2=>(big gb e2).2) e;refine bD.iteb (λ_=>?_) λ_=>?_
  ·refine (lX g8.inv hn).bind λy ⟨g10,_,_⟩=>?_;have l10:=g10.lf;refine bD.iteb (λ_=>?_) λ_=>?_
   ·exact (IY g10.inv (by omega)).bind λz ⟨g11,b11⟩=>bD.need (by simp only [sW];omega) (.some ⟨(g9.gd g10).ga g11,fin2 (g8.trans g10) g11 b11⟩)
   ·refine (kE g10.inv hn).bind λy' g11=>?_;have l11:=g11.toGd.lf;exact (IY g11.inv (by omega)).bind λz ⟨g12,b12⟩=>bD.need (by simp only [sW];omega) (.some ⟨((g9.gd g10).ga g11).ga g12,fin2 (g8.trans (g10.trans g11.toGd)) g12 b12⟩)
  ·exact (IY g8.inv (by omega)).bind λz ⟨g11,b11⟩=>bD.need (by simp only [sW];omega) (.some ⟨g9.ga g11,fin2 g8 g11 b11⟩)
 exact bD.iteb (λ_=>one _ _ _) λ_=>one _ _ _
theorem WW:∀(c:Nat) (p:aC) (x:aB),PI p->Lf p+46<=n->(p.l_.length:Int) - p.gC<c->1<=c->(p.e_=0->(x.aL.length:Int)<=p.gC)->(x.aL.length:Int)<=65538->bD (uX n c p x) λr=>Gd p r.1/\(r.1.e_=0->(∀y ∈ x.aL,WF y)->(∀y ∈ r.2.aL,WF y)/\wC r.2.aL<=wC x.aL+(r.1.gC - p.gC)):=by
 intro c
 induction c with
 | zero=>intro p x h _ h1 h2;omega
 | succ c ih=>
   intro p x h hk h1 h2 h3 h4;have k1:=h.lo;have k2:=h.hi;have k3:=h.big;unfold uX;refine bD.bind (P:=λb=>b=true->p.e_=0) ?_ λb hb=>?_
   ·refine bD.iteb (λhe=>?_) λ_=>.some λh=>by cases h
    exact (wP h).bind λb hb=>.some λ_=>by simpa using he
   ·refine bD.iteb (λh5=>?_) λh5=>.some ⟨.refl h,λ_ hl=>⟨hl,by simp only;omega⟩⟩;have he:=hb h5;refine (Nk h hk).bind λr ⟨g,fx⟩=>?_;have m1:=g.at';have m3:=h3 he;have m4:=g.toGd.lf;have m5:=g.inv.hi;have m6:=g.toGd.len;refine bD.need (by simp only [sW];omega) ?_
    by_cases he2:r.2.e_=0
    ·have m7:=g.adv he2;obtain ⟨w1,w2⟩:=fx he2;refine (ih r.2 _ g.inv (by omega) (by rw [m6];omega) (by omega) (λ_=>by simp only [mX,sW];omega) (by simp only [mX,sW];omega)).mono λs ⟨g2,s2⟩=>⟨g.toGd.trans g2,λe hl=>?_⟩
     obtain ⟨v1,v2⟩:=s2 e (λy hy=>by
      rcases Cu.1 hy with hy | hy
      ·exact hl y hy
      ·obtain rfl:=AV.1 hy;exact w1)
     refine ⟨v1,?_⟩;simp only [GO,tL] at v2;omega
    ·cases c with
     | zero=>omega
     | succ c=>
       unfold uX;rw [if_neg (by simpa using he2),dV,if_neg (by decide)];exact .some ⟨g.toGd,λe=>absurd e he2⟩
end
theorem Oz {n:Nat} {s:bW} (hn:16*s.length+200<n):bD (Ay n s) λr=>r.2.1=0->(∀x ∈ r.1.aL,WF x)/\wC r.1.aL<=s.length+1:=by
 unfold Ay;refine (QR (by omega) (by omega)).bind λx hx=>?_;refine bD.iteb (λh1=>.some λh=>?_) λh1=>?_
 ·rw [show x.2.1=0 from h] at h1;cases h1
 obtain ⟨l,h2,h3,h4,h5⟩:=hx (by simpa using h1);have hp:PI (aC.mk x.1 0 0 0 0):=⟨by simp only;omega,by simp only [h2,mX,sW];omega,by simp only [h2,mX,sW];omega,⟨l,_,h2,h3,rfl⟩⟩
 have hl:Lf (aC.mk x.1 0 0 0 0)<=16*s.length+16:=by
  unfold Lf;simp only [h2,mX,sW];omega
 refine (AD hp).bind λr ⟨g1,e1⟩=>?_;have e:r.1.aL=[]:=by rw [e1]
 have l1:=g1.lf;have k0:=g1.inv.lo;have k1:=g1.inv.hi;have k2:=g1.inv.lf;refine (WW n r.2 r.1 g1.inv (by omega) (by unfold Lf at l1 hl;omega) (by omega) (λ_=>by rw [e];simpa using k0) (by rw [e];simp)).bind λy ⟨g2,s2⟩=>?_;refine bD.iteb (λhe=>.some λh=>absurd h (by simpa using he)) λhe=>.some λ_=>?_;obtain ⟨v1,v2⟩:=s2 (by simpa using he) (λy hy=>by rw [e] at hy;cases hy);refine ⟨v1,?_⟩;rw [e,oP] at v2;have m1:=g2.inv.hi;rw [g2.len,g1.len] at m1;simp only [h2,mX,sW] at m1;simp only;omega
