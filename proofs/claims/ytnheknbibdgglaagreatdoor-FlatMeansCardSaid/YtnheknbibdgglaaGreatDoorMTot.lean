import Derived.Test.YtnheknbibdgglaaGreatDoorMGMm
import Derived.Lib.IndexLaws
namespace Go.Proofs.YtnheknbibdgglaaGreatDoor.Abs
open IntKind (i64 u32 u64 u8)
open Go.RowKit
theorem yz {p:Prop} (h:p:=by simp only;omega):p:=h
def aW {α:Type} (o:Option α) (Q:α->Prop):Prop:=∃r,o=some r/\Q r
section
variable {α β:Type} {o:Option α} {Q P:α->Prop}
theorem aW.some {r:α} (h:Q r):aW (some r) Q:=⟨r,rfl,h⟩
theorem aW.mono (h:aW o P) (k:∀x,P x->Q x):aW o Q:=by obtain ⟨r,e,hr⟩:=h;exact ⟨r,e,k r hr⟩
theorem aW.bind {f:α->Option β} {R:β->Prop} (h:aW o P) (k:∀x,P x->aW (f x) R):aW (o.bind f) R:=by
 obtain ⟨r,e,hr⟩:=h;subst e;exact k r hr
theorem aW.bind' {f:α->Option β} {R:β->Prop} (h:aW o λx=>aW (f x) R):aW (o.bind f) R:=h.bind λ_ k=>k
theorem aW.eqn {v:α} {f:α->Option β} {R:β->Prop} (h:o=Option.some v) (k:aW (f v) R):aW (o.bind f) R:=by subst h;exact k
theorem aW.need {c:Prop} [Decidable c] (hc:c) (h:aW o Q):aW (iE c o) Q:=by rw [FW hc];exact h
theorem aW.ite {c:Prop} [Decidable c] {a b:Option α} (h1:c->aW a Q) (h2:¬ c->aW b Q):aW (if c then a else b) Q:=by
 split
 ·exact h1 ‹_›
 ·exact h2 ‹_›
theorem aW.iteb {b:Bool} {x y:Option α} (h1:b=true->aW x Q) (h2:b=false->aW y Q):aW (if b=true then x else y) Q:=by
 cases b
 ·exact h2 rfl
 ·exact h1 rfl
theorem aW.elim {γ:Type} {s:β ⊕ γ} {f:β->Option α} {g:γ->Option α} (h1:∀x,s=.inl x->aW (f x) Q) (h2:∀x,s=.inr x->aW (g x) Q):aW (s.elim f g) Q:=by
 cases s
 ·exact h1 _ rfl
 ·exact h2 _ rfl
theorem aW.idx {l:List α} {i:Int} (h0:0<=i) (h1:i<l.length) (k:∀x,l[i.toNat]? = Option.some x->Q x):aW (aS l i) Q:=by
 unfold aS;rw [cG h0];refine ⟨l[i.toNat]'(by omega),tS za,k _ (tS za)⟩
end
theorem fD {n:Int} (h1:-9223372036854775808<=n) (h2:n<=9223372036854775807):i64.wrap n=n:=by
 rw [IntKind.wrap_i64];omega
theorem take_step' {α:Type} {l:List α} {j:Nat} {x:α} (h:l[j]? = some x):l.take (j+1)=l.take j++[x]:=by
 rw [List.take_add_one,h];rfl
theorem LJ {α:Type} {p:α->Bool} {s:List α} {v:Nat} {x:α} (h:∀y ∈ s.take v,p y=true) (hx:s[v]? = some x) (hp:p x=false):s.takeWhile p=s.take v:=by
 obtain ⟨hv,rfl⟩:=sG.1 hx;have h1:(s.take v++s.drop v).takeWhile p=s.take v++(s.drop v).takeWhile p:=List.takeWhile_append_of_pos h;rw [List.take_append_drop] at h1;rw [h1,On hv,List.takeWhile_cons_of_neg (by simp [hp]),ER]
theorem find_at {α:Type} {p:α->Bool} {s:List α} {v:Nat} {x:α} (h:∀y ∈ s.take v,p y=false) (hx:s[v]? = some x) (hp:p x=true):s.find? p=some x:=by
 obtain ⟨hv,rfl⟩:=sG.1 hx
 have h1:(s.take v++s.drop v).find? p=(s.drop v).find? p:=by
  rw [List.find?_append,List.find?_eq_none.2 (λy hy=>by simp [h y hy])];rfl
 rw [List.take_append_drop] at h1;rw [h1,On hv,List.find?_cons_of_pos (by simp [hp])]
theorem Ix {α:Type} {p:α->Bool} {s:List α} (h:∀y ∈ s,p y=true):s.takeWhile p=s:=by
 have:=List.takeWhile_append_of_pos (l₂:=[]) h;simpa using this
set_option linter.all false
def UA (c:Int):Bool:=(decide (97<=c) && decide (c<=122)) || (c == 95)
def UB (c:Int):Bool:=decide (48<=c) && decide (c<=57)
def isBl (c:Int):Bool:=c == 32 || (c == 9 || (c == 13 || c == 10))
def RQ (b:UInt8):Bool:=UA b.toNat || UB b.toNat
theorem Vq (a:Int):AG a=some (isBl a):=by
 unfold AG isBl;cases a == 32 <;> cases a == 9 <;> cases a == 13 <;> rfl
theorem Lz (a:Int):vT a=some (UA a):=by
 unfold vT UA;cases decide (97<=a) <;> cases decide (a<=122) <;> simp
theorem Oi (a:Int):yM a=some (UB a):=by
 unfold yM UB;cases decide (48<=a) <;> simp
theorem HD (a b:cQ):fY a b=some (decide (a.take b.length=b)):=by
 unfold fY
 by_cases h:(b.length:Int)<=a.length
 ·rw [cG (by simpa using h),FW ⟨za,h⟩];rfl
 ·rw [bU (by simpa using h),nA,Om];intro e;have:=vJ List.length e;rw [EC] at this;omega
theorem zC (a b:cQ):nG a b=some (decide (a.take b.length=b)):=by
 unfold nG;rw [HD];rfl
theorem Ez (a:cQ) (c:Int):nE a c=some (Lib.indexByte a c.toNat.toUInt8):=rfl
theorem word_l1 (s:cQ):∀(c:Nat) (v:Nat),s.length<v+c->v<=s.length->(∀y ∈ s.take v,RQ y=true)->s.length<4611686018427387904 ->
  aW (Ca s c v) (λr=>match r with | .inl _=>s.takeWhile RQ=s | .inr t=>t=s.takeWhile RQ):=by
 intro c
 induction c with
 | zero=>intro v h1 h2;omega
 | succ c ih=>
   intro v h1 h2 h3 hs;unfold Ca;refine aW.iteb (λh4=>?_) (λh4=>?_)
   ·simp only [GC] at h4;refine (aW.bind (P:=λy=>∃x,s[v]? = some x/\y=!RQ x) ?_) ?_
    ·refine aW.bind' (aW.idx za h4 λx hx=>?_);rw [wR] at hx;rw [Lz,nA,Oi,nA];refine aW.iteb (λh5=>.some ⟨x,hx,?_⟩) (λh5=>.some ⟨x,hx,?_⟩)
     ·simp only [xec] at h5;simp [RQ,h5]
     ·simp only [Bool.not_eq_false'] at h5;simp [RQ,h5]
    ·rintro y ⟨x,hx,rfl⟩;refine aW.iteb (λh5=>?_) (λh5=>?_)
     ·refine aW.need ⟨za,za⟩ (.some ?_);simp only [xec] at h5;rw [wR];exact (LJ h3 hx h5).symm
     ·simp only [Bool.not_eq_false'] at h5;rw [fD za za];refine ih (v+1) za za ?_ hs;rw [take_step' hx];intro y hy
      rcases BV.1 hy with hy | hy
      ·exact h3 y hy
      ·rw [zA.1 hy];exact h5
   ·refine .some ?_;simp only [decide_eq_false_iff_not] at h4;rw [xdx za] at h3;exact Ix h3
theorem word_eq {n:Nat} {s:cQ} (hn:s.length<n) (hs:s.length<4611686018427387904):Dv n s=some (s.takeWhile RQ):=by
 unfold Dv;obtain ⟨r,e,hr⟩:=word_l1 s n 0 za za zc hs;rw [show ((0:Nat):Int)=0 from rfl] at e;rw [e,nA];cases r with
 | inl _=>rw [hr];rfl
 | inr t=>rw [hr];rfl
theorem sign_l1 (s:cQ):∀(c:Nat) (v:Nat),26<v+c->v<=26->(∀y ∈ gO.take v,decide (s.take y.length=y)=false) ->
  aW (Cb s c v) (λr=>match r with | .inl _=>gO.find? (λy=>decide (s.take y.length=y))=none | .inr t=>gO.find? (λy=>decide (s.take y.length=y))=some t):=by
 intro c
 induction c with
 | zero=>intro v h1 h2;omega
 | succ c ih=>
   intro v h1 h2 h3;unfold Cb;refine aW.iteb (λh4=>?_) (λh4=>?_)
   ·simp only [GC] at h4;refine aW.bind' (aW.idx za (by have:gO.length=26:=rfl;omega) λx hx=>?_);rw [wR] at hx;rw [zC,nA];refine aW.iteb (λh5=>.some ?_) (λh5=>?_)
    ·exact find_at h3 hx h5
    ·rw [fD za za];refine ih (v+1) za za ?_;rw [take_step' hx];intro y hy
     rcases BV.1 hy with hy | hy
     ·exact h3 y hy
     ·rw [zA.1 hy];exact h5
   ·refine .some ?_;simp only [decide_eq_false_iff_not] at h4;rw [xdx (by have:gO.length=26:=rfl;omega)] at h3;exact List.find?_eq_none.2 λy hy=>by simpa using h3 y hy
def HO (s:cQ):cQ:=(gO.find? (λy=>decide (s.take y.length=y))).getD []
theorem sign_eq {n:Nat} {s:cQ} (hn:26<n):Dw n s=some (HO s):=by
 unfold Dw HO;obtain ⟨r,e,hr⟩:=sign_l1 s n 0 za za zc;rw [show ((0:Nat):Int)=0 from rfl] at e;rw [e,nA];cases r with
 | inl _=>rw [hr];rfl
 | inr t=>rw [hr];rfl
theorem OO (s:cQ):HO s=[] ∨ 1<=(HO s).length/\(HO s).length<=s.length:=by
 unfold HO;cases h:gO.find? (λy=>decide (s.take y.length=y)) with
 | none=>exact .inl rfl
 | some y=>
   have h1:=List.find?_some h;have h2:=List.mem_of_find?_eq_some h;simp only [GC] at h1;have h3:=vJ List.length h1;rw [EC] at h3;have h4:(gO.all λy=>decide (1<=y.length))=true:=zb
   have h5:=KK.1 h4 y h2;simp only [GC] at h5;exact .inr ⟨h5,by show y.length<=_;omega⟩
theorem skip_l1 (s:cQ) (hs:s.length<4611686018427387904):∀(c:Nat) (v:Nat),s.length<v+c->v<=s.length->aW (zK s c v) (λr=>∃k:Nat,v<=k/\k<=s.length/\(r=.inl (k:Int) ∨ r=.inr (k:Int))):=by
 intro c
 induction c with
 | zero=>intro v h1 h2;omega
 | succ c ih=>
   intro v h1 h2;unfold zK;refine aW.iteb (λh4=>?_) (λh4=>.some ⟨v,za,h2,.inl rfl⟩);simp only [GC] at h4;refine aW.bind' (aW.idx za h4 λx hx=>?_);rw [wR] at hx;rw [Vq,nA];refine aW.iteb (λh5=>?_) (λh5=>?_)
   ·rw [fD za za];exact (ih (v+1) za za).mono λr ⟨k,h6,h7,h8⟩=>⟨k,za,h7,h8⟩
   ·refine aW.need ⟨za,za⟩ ?_;rw [wR,zC,nA];refine aW.iteb (λh6=>?_) (λh6=>.some ⟨v,za,h2,.inr rfl⟩);simp only [GC] at h6;refine aW.need ⟨za,za⟩ ?_;rw [Ez,nA];refine aW.iteb (λh7=>.some ⟨s.length,h2,za,.inr rfl⟩) (λh7=>?_);simp only [decide_eq_false_iff_not,Int.not_lt] at h7;obtain ⟨o,ho⟩:=Int.eq_ofNat_of_zero_le h7;rw [ho];obtain ⟨h8,h9⟩:=Lib.indexByte_some ho;have h10:o<(s.drop v).length:=(sG.1 h8).1;rw [HG] at h10
    have h11:o ≠ 0:=by
     rintro rfl;have h12:=vJ (·[0]?) h6;simp only [xeo (show 0<([47,47]:cQ).length by decide)] at h12;rw [h8] at h12
     revert h12;decide
    rw [fD za za];exact (ih (v+o) za za).mono λr ⟨k,h6,h7,h8⟩=>⟨k,za,h7,h8⟩
theorem Nf {n:Nat} {s:cQ} {v:Nat} (hs:s.length<4611686018427387904) (hn:s.length<v+n) (hv:v<=s.length):aW (Bg n s v) λr=>∃k:Nat,v<=k/\k<=s.length/\r=k:=by
 unfold Bg;refine (skip_l1 s hs n v hn hv).bind λr ⟨k,h1,h2,h3⟩=>?_
 rcases h3 with rfl | rfl <;> exact .some ⟨k,h1,h2,rfl⟩
theorem Tp (x:cQ × Bool) (hs:x.1.length<4611686018427387904):∀(c:Nat) (t:Int) (v:Nat),x.1.length<v+c->v<=x.1.length->aW (Av x c t v) λr=>∀x,r=.inr x->x=((0:Int),false):=by
 intro c
 induction c with
 | zero=>intro t v h1 h2;omega
 | succ c ih=>
   intro t v h1 h2;unfold Av;refine aW.iteb (λh4=>?_) (λh4=>.some λ_ h=>nomatch h);simp only [GC] at h4;refine aW.need zb ?_;refine aW.bind' (aW.idx za h4 λy hy=>?_);rw [Ez,nA];refine aW.bind (P:=λ_=>True) (aW.iteb (λ_=>.some trivial) λ_=>.some trivial) λy _=>?_;refine aW.iteb (λ_=>.some λ_ h=>(Sum.inr.inj h).symm) λ_=>?_;rw [fD (n:=(v:Int)+1) za za];exact ih _ (v+1) za za
theorem To (s:cQ) (hs:s.length<4611686018427387904):∀(c:Nat) (t:Int) (v:Nat),s.length<v+c->v<=s.length->aW (Au s c t v) λr=>∀x,r=.inr x->x=((0:Int),false):=by
 intro c
 induction c with
 | zero=>intro t v h1 h2;omega
 | succ c ih=>
   intro t v h1 h2;unfold Au;refine aW.iteb (λh4=>?_) (λh4=>.some λ_ h=>nomatch h);simp only [GC] at h4;refine aW.need zb ?_;refine aW.bind' (aW.idx za h4 λy hy=>?_);rw [Ez,nA];refine aW.bind (P:=λ_=>True) (aW.iteb (λ_=>.some trivial) λ_=>.some trivial) λy _=>?_;refine aW.iteb (λ_=>.some λ_ h=>(Sum.inr.inj h).symm) λ_=>?_;rw [fD (n:=(v:Int)+1) za za];exact ih _ (v+1) za za
theorem MF (a b:cQ):pN a b=some (if a.take b.length=b then (a.drop b.length,true) else (a,false)):=by
 unfold pN jH;rw [HD,nA]
 by_cases h:a.take b.length=b
 ·rw [vO h,bU zb,cG h,FW]
  ·rfl
  ·have:=vJ List.length h;rw [EC] at this;omega
 ·rw [Om h,cG zb,bU h];rfl
theorem QW {n:Nat} {s:cQ} (hs:s.length<4611686018427387904) (hn:s.length<n):aW (AF n s) λr=>0<=r.1/\r.1<=4294967295:=by
 have hw:∀v:Int,0<=u32.wrap v/\u32.wrap v<=4294967295:=λv=>by rw [IntKind.wrap_u32];omega
 unfold AF;rw [MF,nA]
 have hl:∀x:cQ × Bool,x=(if s.take ([48,120]:cQ).length=([48,120]:cQ) then (s.drop ([48,120]:cQ).length,true) else (s,false))->x.1.length<=s.length:=by
  rintro x rfl
  split
  ·rw [HG];omega
  ·exact tW _
 generalize (if s.take ([48,120]:cQ).length=([48,120]:cQ) then (s.drop ([48,120]:cQ).length,true) else (s,false))=x at hl
 have hx:=hl x rfl;refine aW.iteb (λ_=>?_) λ_=>?_
 ·exact (Tp x za n 0 0 za za).bind λr hr=>aW.elim (λ_ _=>.some (hw _)) λz h=>.some (by rw [hr z h];decide)
 ·exact (To s za n 0 0 za za).bind λr hr=>aW.elim (λ_ _=>.some (hw _)) λz h=>.some (by rw [hr z h];decide)
theorem Ug {n:Nat} {s:cQ} {v:Nat} (hs:s.length<4611686018427387904) (hn:s.length<n) (hn2:26<n) (hv:v<s.length) :
  aW (Dx n s v) λr=>r.2=0->(r.1.bF=1 ∨ r.1.bF=2 ∨ r.1.bF=3)/\r.1.fV=v/\1<=r.1.dL.length/\v+r.1.dL.length<=s.length/\0<=r.1.nY/\r.1.nY<=4294967295:=by
 unfold Dx;refine aW.need ⟨za,za⟩ ?_;rw [wR,word_eq (by rw [HG];omega) (by rw [HG];omega),nA];refine aW.bind' (aW.idx za za λx hx=>?_);rw [wR] at hx
 have hd:s.drop v=x::s.drop (v+1):=by
  obtain ⟨h1,rfl⟩:=sG.1 hx;exact On h1
 have hle:((s.drop v).takeWhile RQ).length<=s.length - v:=by
  have:=(List.takeWhile_prefix (l:=s.drop v) RQ).length_le
  rwa [HG] at this
 have hpos:RQ x=true->1<=((s.drop v).takeWhile RQ).length:=by
  intro h;rw [hd,List.takeWhile_cons_of_pos h,jJ];omega
 rw [Lz,nA];refine aW.iteb (λh1=>aW.iteb (λ_=>.some λh=>by cases h) λ_=>.some λ_=>⟨.inl rfl,rfl,hpos (by simp [RQ,h1]),yz,yz,yz⟩) λh1=>?_;rw [Oi,nA];refine aW.iteb (λh2=>?_) λh2=>?_
 ·refine (QW za za).bind λy hy=>aW.iteb (λ_=>.some λh=>by cases h) λ_=>.some λ_=>⟨.inr (.inl rfl),rfl,hpos (by simp [RQ,h2]),yz,hy.1,hy.2⟩
 ·refine aW.need ⟨za,za⟩ ?_;rw [sign_eq hn2,nA];refine aW.iteb (λ_=>.some λh=>by cases h) λh3=>.some λ_=>⟨.inr (.inr rfl),rfl,?_⟩;have h4:=OO (s.drop v);simp only [decide_eq_false_iff_not] at h3
  rcases h4 with h4 | h4
  ·exact dE h4 h3
  ·rw [HG] at h4;exact ⟨h4.1,yz,yz,yz⟩
def Od (l:List dU):Prop:=∀t ∈ l,(t.bF=1 ∨ t.bF=2 ∨ t.bF=3)/\t.dL ≠ []/\0<=t.nY/\t.nY<=4294967295
theorem SE {n:Nat} {s:cQ} (hs:s.length<=65536) (hn:s.length<n) (hn2:26<n):∀(c:Nat) (l:List dU) (v:Nat),s.length<v+c->v<=s.length->Od l->l.length<=v ->
  aW (yW n s c l v) λr=>match r with | .inl l=>Od l/\l.length<=s.length | .inr x=>x.2.1 ≠ 0:=by
 intro c
 induction c with
 | zero=>intro l v h1 h2;omega
 | succ c ih=>
   intro l v h1 h2 h3 h4;unfold yW;refine aW.iteb (λh5=>?_) λh5=>.some ⟨h3,za⟩;simp only [GC] at h5;refine (Ug za hn hn2 za).bind λx hx=>?_;refine aW.iteb (λh6=>.some (by simpa using h6)) λh6=>?_;obtain ⟨k1,k2,k3,k4,k5⟩:=hx (by simpa using h6);refine aW.need (by simp only [tF];omega) ?_;rw [fD za za];refine (Nf (v:=v+x.1.dL.length) za za k4).bind λr ⟨k,h7,h8,h9⟩=>?_;subst h9;refine ih _ k za h8 ?_ (by simp only [nB,tF];omega);intro t ht
   rcases BV.1 ht with ht | ht
   ·exact h3 t ht
   ·rw [zA.1 ht];exact ⟨k1,λe=>by rw [e] at k3;simp at k3,k5⟩
theorem PJ {n:Nat} {s:cQ} (hn:s.length<n) (hn2:26<n):aW (yL n s) λr=>r.2.1=0->∃l,r.1=l++[⟨4,s.length,[],0⟩]/\Od l/\l.length<=s.length/\s.length<=65536:=by
 unfold yL;refine aW.iteb (λ_=>.some λh=>by cases h) λh1=>?_;simp only [decide_eq_false_iff_not,Int.not_lt] at h1;refine (Nf (v:=0) za za za).bind λr ⟨k,h2,h3,h4⟩=>?_;subst h4;refine (SE za hn hn2 n [] k za h3 (by simp [Od]) zc).bind λy hy=>?_;refine aW.elim (λz e=>?_) (λz e=>?_)
 ·subst e;refine aW.need (by simp only [tF];omega) (.some λ_=>⟨z,rfl,hy.1,hy.2,za⟩)
 ·subst e;exact .some λh=>dE h hy
abbrev Nd:=aB
mutual
def sz:aB->Int
 | ⟨_,_,_,_,l⟩=>1+vK l
def vK:List aB->Int
 | []=>0
 | x::l=>sz x+vK l
end
theorem iN {a b:Int} {c:cQ} {d:Int} {l:List aB}:sz ⟨a,b,c,d,l⟩=1+vK l:=by rw [sz]
theorem oF:vK []=0:=by rw [vK]
theorem uV {x:aB} {l:List aB}:vK (x::l)=sz x+vK l:=by rw [vK]
theorem EV (x:aB):sz x=1+vK x.aM:=by cases x;rw [sz]
theorem FM {a b:List aB}:vK (a++b)=vK a+vK b:=by
 induction a with
 | nil=>rw [wN,oF,Int.zero_add]
 | cons x a ih=>rw [EP,uV,uV,ih,Int.add_assoc]
theorem sT {x:aB}:vK [x]=sz x:=by rw [uV,oF,Int.add_zero]
theorem Im {x y:aB}:vK [x,y]=sz x+sz y:=by rw [uV,sT]
theorem KT {x y z:aB}:vK [x,y,z]=sz x+sz y+sz z:=by rw [uV,Im,Int.add_assoc]
mutual
theorem rH:∀x:aB,1<=sz x
 | ⟨_,_,_,_,l⟩=>by rw [sz];have:=pD l;omega
theorem pD:∀l:List aB,(l.length:Int)<=vK l
 | []=>by rw [vK];exact Oz _
 | x::l=>by rw [vK,jJ];have:=pD l;have:=rH x;omega
end
theorem Jk {l:List aB} {k:aB} (h:k ∈ l):sz k<=vK l:=by
 obtain ⟨a,b,rfl⟩:=List.append_of_mem h;rw [FM,uV];have h1:=pD a;have h2:=pD b;omega
def DN:List cQ:=[[124],[94],[38],[61,61],[60],[60,60],[62,62],[60,60,60],[43],[45],[42],[47],[37]]
inductive WE:Nd->Prop
 | num {a n}:0<=n->n<=4294967295->WE ⟨14,a,[],n,[]⟩
 | ref {a s}:WE ⟨15,a,s,0,[]⟩
 | index {a s x}:WE x->WE ⟨16,a,s,0,[x]⟩
 | un {a s x}:(s=[126] ∨ s=[45])->WE x->WE ⟨18,a,s,0,[x]⟩
 | bin {a s x y}:s ∈ DN->WE x->WE y->WE ⟨19,a,s,0,[x,y]⟩
 | call {a s xs}:(∀x ∈ xs,WE x)->WE ⟨17,a,s,0,xs⟩
inductive WS:Nd->Prop
 | bind {k a s x}:(k=5 ∨ k=6)->WE x->WS ⟨k,a,s,0,[x]⟩
 | arr {a s n}:WS ⟨7,a,s,n,[]⟩
 | ret {a x}:WE x->WS ⟨13,a,[],0,[x]⟩
 | choice {a c b ys}:WE c->(∀y ∈ ys,WS y)->WS ⟨11,a,[],0,[c,⟨4,b,[],0,ys⟩]⟩
 | choice2 {a c b ys b2 zs}:WE c->(∀y ∈ ys,WS y)->(∀z ∈ zs,WS z)->WS ⟨11,a,[],0,[c,⟨4,b,[],0,ys⟩,⟨4,b2,[],0,zs⟩]⟩
 | loop {a s x y b ys}:WE x->WE y->(∀y ∈ ys,WS y)->WS ⟨12,a,s,0,[x,y,⟨4,b,[],0,ys⟩]⟩
 | call {a s xs}:(∀x ∈ xs,WE x)->WS ⟨10,a,s,0,xs⟩
 | put {a s i x}:WE i->WE x->WS ⟨9,a,s,0,[i,x]⟩
 | set {a s x}:WE x->WS ⟨8,a,s,0,[x]⟩
inductive WP:Nd->Prop
 | word {a s k}:(k=1 ∨ k=2 ∨ k=3)->WP ⟨3,a,s,k,[]⟩
 | arr {a s b n}:WP ⟨3,a,s,4,[⟨14,b,[],n,[]⟩]⟩
inductive WF:Nd->Prop
 | fn {a s r ps b ys}:(∀p ∈ ps,WP p)->(∀y ∈ ys,WS y)->WF ⟨2,a,s,r,ps++[⟨4,b,[],0,ys⟩]⟩
theorem Ul {α:Type} {x:α}:x ∈ [x]:=zA.2 rfl
structure PI (p:aC):Prop where
 lo:0<=p.fU
 hi:p.fU<p.l_.length
 big:p.l_.length<=65537
 toks:∃l z,p.l_=l++[z]/\Od l/\z.bF=4
structure Gd (p p':aC):Prop where
 inv:PI p'
 l:p'.l_=p.l_
 at':p.fU<=p'.fU
 err':p.e_ ≠ 0->p'.e_=p.e_/\p'.fU=p.fU
structure GA (p p':aC):Prop extends Gd p p' where
 adv:p'.e_=0->p.fU<p'.fU
theorem Gd.err {p q:aC} (h:Gd p q):p.e_ ≠ 0->q.e_ ≠ 0/\q.fU=p.fU:=λhe=>⟨by rw [(h.err' he).1];exact he,(h.err' he).2⟩
theorem Gd.refl {p:aC} (h:PI p):Gd p p:=⟨h,rfl,Oz _,λh=>⟨rfl,rfl⟩⟩
theorem Gd.trans {p q r:aC} (h:Gd p q) (k:Gd q r):Gd p r:=⟨k.inv,k.l.trans h.l,Int.le_trans h.at' k.at',λhe=>⟨(k.err' (h.err he).1).1.trans (h.err' he).1,(k.err' (h.err he).1).2.trans (h.err' he).2⟩⟩
theorem Gd.e0 {p q:aC} (h:Gd p q) (he:q.e_=0):p.e_=0:=Classical.byContradiction λhn=>(h.err hn).1 he
theorem Gd.ga {p q r:aC} (h:Gd p q) (k:GA q r):GA p r:=⟨h.trans k.toGd,λhe=>Int.lt_of_le_of_lt h.at' (k.adv he)⟩
theorem GA.gd {p q r:aC} (h:GA p q) (k:Gd q r):GA p r:=⟨h.toGd.trans k,λhe=>Int.lt_of_lt_of_le (h.adv (k.e0 he)) k.at'⟩
theorem GA.ga {p q r:aC} (h:GA p q) (k:GA q r):GA p r:=h.gd k.toGd
theorem Gd.len {p q:aC} (h:Gd p q):q.l_.length=p.l_.length:=by rw [h.l]
section
variable {p:aC} {n:Nat}
theorem vX (h:PI p):aW (dV p) λt=>t.bF ≠ 4->p.fU+1<p.l_.length:=by
 unfold dV;refine aW.bind' (aW.idx h.lo h.hi λx hx=>.some λhk=>?_);obtain ⟨l,z,h1,h2,h3⟩:=h.toks;have h4:=h.lo;have h5:=h.hi;rw [h1] at hx h5 ⊢;simp only [nB,tF] at h5 ⊢
 by_cases h6:p.fU.toNat=l.length
 ·rw [GT za,h6,Tc] at hx;simp at hx
  subst hx;exact dE h3 hk
 ·omega
theorem Ft (h:PI p) {e:Int} (he:e ≠ 0):aW (iM p e) λq=>Gd p q/\q.e_ ≠ 0:=by
 unfold iM;refine aW.iteb (λh1=>?_) λh1=>.some ⟨.refl h,by simpa using h1⟩;simp only [beq_iff_eq] at h1;exact (vX h).bind λt _=>.some ⟨⟨⟨h.lo,h.hi,h.big,h.toks⟩,rfl,Oz _,λhn=>dE h1 hn⟩,he⟩
theorem zJ (h:PI p) {k:Int}:aW (fK p k) λr=>Gd p r.2/\r.1=⟨k,r.1.fV,[],0,[]⟩:=by
 unfold fK;have hp:PI { p with yJ:=(i64.wrap (p.yJ+(1:Int))) }:=⟨h.lo,h.hi,h.big,h.toks⟩;have hg:Gd p { p with yJ:=(i64.wrap (p.yJ+(1:Int))) }:=⟨hp,rfl,Oz _,λhn=>⟨rfl,rfl⟩⟩;refine aW.iteb (λh1=>?_) λh1=>?_
 ·exact (Ft hp zb).bind λq ⟨g,_⟩=>(vX g.inv).bind λt _=>.some ⟨hg.trans g,rfl⟩
 ·exact (vX hp).bind λt _=>.some ⟨hg,rfl⟩
theorem VG (l:List cQ) (s:cQ) (hl:l.length<1000):∀(c:Nat) (v:Nat),l.length<v+c->v<=l.length->(∀y ∈ l.take v,decide (s=y)=false) ->
  aW (kV l s c v) λr=>match r with | .inl _=>(l.any λy=>decide (s=y))=false | .inr k=>0<=k/\(l.any λy=>decide (s=y))=true:=by
 intro c
 induction c with
 | zero=>intro v h1 h2;omega
 | succ c ih=>
   intro v h1 h2 h3;unfold kV;refine aW.iteb (λh4=>?_) (λh4=>?_)
   ·simp only [GC] at h4;refine aW.bind' (aW.idx za h4 λx hx=>?_);rw [wR] at hx;refine aW.iteb (λh5=>.some ⟨za,?_⟩) (λh5=>?_)
    ·exact List.any_eq_true.2 ⟨x,zX hx,h5⟩
    ·rw [fD za za];refine ih (v+1) za za ?_;rw [take_step' hx];intro y hy
     rcases BV.1 hy with hy | hy
     ·exact h3 y hy
     ·rw [zA.1 hy];exact h5
   ·refine .some ?_;simp only [decide_eq_false_iff_not] at h4;rw [xdx za] at h3;exact List.any_eq_false.2 λy hy=>by simp [h3 y hy]
def Uz (s:cQ):Bool:=cT.any λy=>decide (s=y)
theorem QL {s:cQ} (hn:13<n):vS n s=some (Uz s):=by
 unfold vS iY jW;obtain ⟨r,e,hr⟩:=VG cT s zb n 0 (by have:cT.length=13:=rfl;omega) za zc;rw [show ((0:Nat):Int)=0 from rfl] at e;rw [e,nA];unfold Uz;cases r with
 | inl _=>rw [hr];rfl
 | inr k=>
   rw [hr.2];simp only [PQ,nA,Option.some.injEq,GC];exact hr.1
theorem JL (h:PI p) (hn:13<n) {s:cQ}:aW (jK n p s) λb=>b=true->p.e_=0/\p.fU+1<p.l_.length:=by
 unfold jK;refine (vX h).bind λt ht=>?_;refine aW.bind (P:=λb=>b=true->p.e_=0/\p.fU+1<p.l_.length) ?_ λb hb=>.some hb;refine aW.iteb (λh1=>?_) λh1=>.some λh=>by cases h
 simp only [beq_iff_eq] at h1;refine aW.iteb (λh2=>?_) λh2=>.some λh=>by cases h
 refine aW.iteb (λh3=>.some λ_=>⟨h1,ht ?_⟩) λh3=>?_
 ·simp only [beq_iff_eq] at h3;omega
 refine aW.iteb (λh4=>?_) λh4=>.some λh=>by cases h
 rw [QL hn,nA];refine .some λ_=>⟨h1,ht ?_⟩;simp only [beq_iff_eq] at h4;omega
theorem LK (h:PI p) (he:p.e_=0) (hk:p.fU+1<p.l_.length):i64.wrap (p.fU+(1:Int))=p.fU+1/\GA p { p with fU:=p.fU+1 }:=by
 have h1:=h.lo;have h2:=h.big;refine ⟨fD za za,⟨⟨⟨yz,by simpa using hk,h.big,h.toks⟩,rfl,yz,λhn=>dE he hn⟩,λ_=>yz⟩⟩
theorem lN (h:PI p) (hn:13<n) {s:cQ}:aW (bW n p s) λr=>Gd p r.2/\(r.1=true->p.e_=0/\GA p r.2/\r.2.e_=0)/\(r.1=false->r.2=p):=by
 unfold bW;refine (JL h hn).bind λb hb=>?_;refine aW.iteb (λh1=>.some ⟨.refl h,(λh=>by cases h),λ_=>rfl⟩) λh1=>?_;simp only [Bool.not_eq_false'] at h1;obtain ⟨h2,h3⟩:=hb h1;obtain ⟨h4,h5⟩:=LK h h2 h3;rw [h4];exact .some ⟨h5.toGd,λ_=>⟨h2,h5,h2⟩,λh=>by cases h⟩
theorem jX (h:PI p) (hn:13<n) {s:cQ}:aW (bS n p s) λq=>GA p q:=by
 unfold bS;refine (lN h hn).bind λr ⟨h1,h2,h3⟩=>?_;refine aW.iteb (λh4=>?_) λh4=>.some (h2 (by simpa using h4)).2.1;exact (Ft h1.inv zb).bind λq ⟨g,he⟩=>.some ⟨h1.trans g,λh=>dE h he⟩
theorem Be (h:PI p) (hn:13<n):aW (eP n p) λr=>GA p r.2:=by
 unfold eP;refine (vX h).bind λt ht=>?_;refine aW.bind (P:=λb=>b=false->p.e_=0/\t.bF=1) ?_ λb hb=>?_
 ·refine aW.iteb (λh1=>.some λh=>by cases h) λh1=>?_;refine aW.iteb (λh2=>.some λh=>by cases h) λh2=>?_;rw [QL hn,nA];exact .some λ_=>⟨by simpa using h1,by simpa using h2⟩
 ·refine aW.iteb (λh1=>?_) λh1=>?_
  ·exact (Ft h zb).bind λq ⟨g,he⟩=>.some ⟨g,λh=>dE h he⟩
  ·obtain ⟨h2,h3⟩:=hb h1;obtain ⟨h4,h5⟩:=LK h h2 (ht za);rw [h4];exact .some h5
theorem QY (h:PI p):aW (dV p) λt=>t.bF ≠ 4->p.fU+1<p.l_.length/\0<=t.nY/\t.nY<=4294967295:=by
 obtain ⟨t,e,ht⟩:=vX h;refine ⟨t,e,λhk=>⟨ht hk,?_⟩⟩;unfold dV at e;obtain ⟨x,hx,e⟩:=aD e;obtain rfl:=aZ e;obtain ⟨l,z,h1,h2,h3⟩:=h.toks;obtain ⟨_,_,hx⟩:=aY hx;rw [h1] at hx
 rcases BV.1 (zX hx) with hm | hm
 ·exact (h2 _ hm).2.2
 ·rw [zA.1 hm] at hk;exact dE h3 hk
theorem Jx (h:PI p):aW (kG p) λr=>GA p r.2/\0<=r.1/\r.1<=4294967295:=by
 unfold kG;refine (QY h).bind λt ht=>?_;refine aW.bind (P:=λb=>b=false->p.e_=0/\t.bF=2) ?_ λb hb=>?_
 ·refine aW.iteb (λh1=>.some λh=>by cases h) λh1=>.some λh=>⟨by simpa using h1,by simpa using h⟩
 ·refine aW.iteb (λh1=>?_) λh1=>?_
  ·exact (Ft h zb).bind λq ⟨g,he⟩=>.some ⟨⟨g,λh=>dE h he⟩,yz,yz⟩
  ·obtain ⟨h2,h3⟩:=hb h1;obtain ⟨h4,h5⟩:=LK h h2 (ht za).1;rw [h4];exact .some ⟨h5,(ht za).2⟩
theorem Ng (h:PI p) (hn:13<n):aW (lV n p) λr=>GA p r.2:=by
 unfold lV;exact (jX h hn).bind λq g1=>(Jx g1.inv).bind λr ⟨g2,_⟩=>(jX g2.inv hn).bind λs g3=>.some (g1.ga (g2.ga g3))
theorem Ub (hn:13<n):∀(c:Nat) (v:Nat) (p:aC) (x y:aB),3<v+c->v<=3->PI p->aW (pP n c v p x y) λr=>match r with | .inl s=>Gd p s.1/\s.2.2=y | .inr s=>Gd p s.2/\∃k,(k=1 ∨ k=2 ∨ k=3)/\s.1={ y with nY:=k }:=by
 intro c
 induction c with
 | zero=>intro v p x y h1 h2;omega
 | succ c ih=>
   intro v p x y h1 h2 h;unfold pP;refine aW.iteb (λh4=>?_) λh4=>.some ⟨.refl h,rfl⟩;simp only [GC] at h4;refine aW.bind' (aW.idx za (by have:kN.length=3:=rfl;omega) λz hz=>?_);refine (lN h hn).bind λr ⟨g1,g2,g3⟩=>?_;refine aW.iteb (λ_=>.some ⟨g1,_,?_,rfl⟩) λ_=>?_
   ·have h5:v=0 ∨ v=1 ∨ v=2:=za
    rcases h5 with rfl | rfl | rfl <;> decide
   rw [fD za za];refine (ih (v+1) r.2 x y za za g1.inv).mono λs hs=>?_;cases s with
   | inl s=>exact ⟨g1.trans hs.1,hs.2⟩
   | inr s=>exact ⟨g1.trans hs.1,hs.2⟩
theorem RJ (h:PI p) (hn:13<n):aW (mR n p) λr=>GA p r.2/\(r.2.e_=0->WP r.1/\sz r.1<=r.2.fU - p.fU):=by
 unfold mR;refine (zJ h).bind λr ⟨g1,e1⟩=>(Be g1.inv hn).bind λs g2=>(jX g2.inv hn).bind λq g3=>?_;refine (Ub hn n 0 q _ _ za za g3.inv).bind λy hy=>?_;have g4:=g1.ga (g2.ga g3);refine aW.elim (λz e=>?_) λz e=>?_
 ·subst e;obtain ⟨hy,hz⟩:=hy;refine (zJ hy.inv).bind λr ⟨g5,e5⟩=>(Ng g5.inv hn).bind λs g6=>.some ⟨(g4.gd hy).ga (g5.ga g6),λe=>?_⟩;have m6:=g6.adv e;have e6:=(g5.ga g6).toGd.e0 e;have e7:=hy.e0 e6;have m3:=g3.adv e7;have m2:=g2.adv (g3.toGd.e0 e7);have m1:=g1.at';have m5:=g5.at';have m4:=hy.at';rw [hz,e1,e5];exact ⟨.arr,by rw [iN,sT,iN,oF];simp only;omega⟩
 ·subst e;obtain ⟨hy,k,hk,hz⟩:=hy;refine .some ⟨g4.gd hy,λe=>?_⟩;have e7:=hy.e0 e;have m3:=g3.adv e7;have m1:=g1.at';have m2:=g2.at';have m4:=hy.at';rw [hz,e1];exact ⟨.word hk,by rw [iN,oF];omega⟩
theorem Kx (hn:13<n):∀(c:Nat) (l:List aB) (p:aC),PI p->(p.l_.length:Int) - p.fU<c->(l.length:Int)<=p.fU->aW (lZ n c l p) λr=>Gd p r.2/\(r.1.length:Int)<=r.2.fU+1/\(r.2.e_=0->(∀x ∈ l,WP x)->(∀x ∈ r.1,WP x)/\vK r.1<=vK l+(r.2.fU - p.fU)):=by
 intro c
 induction c with
 | zero=>intro l p h h1 h2;have:=h.hi;omega
 | succ c ih=>
   intro l p h h1 h2;have k1:=h.lo;have k2:=h.hi;have k3:=h.big;unfold lZ;refine aW.iteb (λh4=>?_) λh4=>.some ⟨.refl h,yz,λ_ hl=>⟨hl,yz⟩⟩;refine (RJ h hn).bind λx ⟨g1,gx⟩=>?_;refine aW.need (by simp only [tF];omega) ?_;refine (lN g1.inv hn).bind λr ⟨g2,g3,_⟩=>?_;have m1:=g1.at';have m2:=g2.at'
   have hx:r.2.e_=0->(∀x ∈ l,WP x)->(∀y ∈ l++[x.1],WP y)/\vK (l++[x.1])<=vK l+(r.2.fU - p.fU):=λe hl=>by
    obtain ⟨w1,w2⟩:=gx (g2.e0 e);refine ⟨λy hy=>?_,by rw [FM,sT];omega⟩
    rcases BV.1 hy with hy | hy
    ·exact hl y hy
    ·obtain rfl:=zA.1 hy;exact w1
   refine aW.iteb (λh5=>.some ⟨g1.toGd.trans g2,by simp only [nB,tF];omega,hx⟩) λh5=>?_;have g4:=g3 (by simpa using h5);have g5:=g1.ga g4.2.1;have m3:=g1.adv g4.1;have m4:=g1.toGd.trans g2;refine (ih _ r.2 g2.inv (by rw [m4.len];omega) (by simp only [nB,tF];omega)).mono λs ⟨s1,s2,s3⟩=>⟨g5.toGd.trans s1,s2,λe hl=>?_⟩;obtain ⟨v1,v2⟩:=hx (s1.e0 e) hl;obtain ⟨v3,v4⟩:=s3 e v1;exact ⟨v3,za⟩
theorem JB (h:PI p) (hn:13<n) (hb:(p.l_.length:Int) - p.fU<n):aW (gL n p) λr=>GA p r.2/\r.1.length<=65538/\(r.2.e_=0->(∀x ∈ r.1,WP x)/\vK r.1<=r.2.fU - p.fU):=by
 unfold gL;refine (jX h hn).bind λq g1=>(lN g1.inv hn).bind λr ⟨g2,g3,g4⟩=>?_;have m1:=g1.at';have m2:=g2.at';refine aW.iteb (λh5=>.some ⟨g1.gd g2,zc,λ_=>⟨(λx hx=>nomatch hx),by rw [oF];simp only;omega⟩⟩) λh5=>?_;have g5:=g1.gd g2;have k0:=g2.inv.lo;refine aW.bind (P:=λy=>Gd r.2 y.2/\y.1.length<=65538/\(y.2.e_=0->(∀x ∈ y.1,WP x)/\vK y.1<=y.2.fU - r.2.fU)) ?_ λy ⟨g6,m3,m4⟩=>?_
 ·refine (Kx hn n [] r.2 g2.inv (by rw [g5.len];omega) (by simpa using k0)).bind λy ⟨y1,y2,y3⟩=>.some ⟨y1,?_,λe=>?_⟩
  ·have k1:=y1.inv.hi;have k2:=y1.inv.big;show y.1.length<=_;omega
  ·obtain ⟨w1,w2⟩:=y3 e (λx hx=>nomatch hx);exact ⟨w1,by rw [oF] at w2;simp only;omega⟩
 ·refine (jX g6.inv hn).bind λs g7=>.some ⟨(g5.gd g6).ga g7,m3,λe=>?_⟩;obtain ⟨w1,w2⟩:=m4 (g7.toGd.e0 e);have m5:=g7.at';exact ⟨w1,yz⟩
theorem NS (h:PI p) {a:Int}:aW (lX p a) λq=>Gd p q:=by
 unfold lX;refine aW.iteb (λ_=>?_) λ_=>.some (.refl h);exact (Ft h zb).bind λq ⟨g,_⟩=>.some g
theorem TW (h:PI p) (hn:13<n) (x:List cQ) (hx:x.length=3):∀(c:Nat) (v:Nat),3<v+c->v<=3->aW (lG n x p c v) λr=>match r with | .inl _=>True | .inr t=>p.e_=0/\t ∈ x/\t ≠ []:=by
 intro c
 induction c with
 | zero=>intro v h1 h2;omega
 | succ c ih=>
   intro v h1 h2;unfold lG;refine aW.iteb (λh4=>?_) λh4=>.some trivial;simp only [GC] at h4;refine aW.bind' (aW.idx za za λz hz=>?_);refine aW.bind (P:=λb=>b=true->p.e_=0/\z ≠ []) ?_ λb hb=>?_
   ·refine aW.iteb (λhz0=>?_) λ_=>.some λh=>by cases h
    exact (JL h hn).bind λb hb=>.some λh=>⟨(hb h).1,by simpa using hz0⟩
   ·refine aW.iteb (λh5=>.some ⟨(hb h5).1,zX hz,(hb h5).2⟩) λh5=>?_;rw [fD za za];exact ih (v+1) za za
theorem Lb (h:PI p) (hn:13<n) {a:Int} (h0:0<=a) (h1:a<7):aW (lW n p a) λt=>t ≠ []->p.e_=0/\t ∈ DN:=by
 unfold lW;refine aW.bind' (aW.idx h0 (by have:dM.length=7:=rfl;omega) λx hx=>?_)
 have hl:x.length=3:=by
  have:(dM.all λy=>y.length == 3)=true:=zb
  simpa using KK.1 this x (zX hx)
 refine (TW h hn x hl n 0 za za).bind λy hy=>aW.elim (λ_ _=>.some λh=>dE rfl h) λz e=>?_;subst e;refine .some λ_=>⟨hy.1,?_⟩;have hall:(dM.all λx=>x.all λs=>s == [] || DN.contains s)=true:=zb
 have:=KK.1 (KK.1 hall x (zX hx)) z hy.2.1;simp only [xeb,beq_iff_eq,List.contains_iff_mem] at this;exact this.resolve_left hy.2.2
end
def Lf (p:aC):Int:=16*((p.l_.length:Int) - p.fU)
theorem Gd.lf {p q:aC} (h:Gd p q):Lf q<=Lf p:=by have:=h.at';unfold Lf;rw [h.len];omega
theorem GA.lf {p q:aC} (h:GA p q) (he:q.e_=0):Lf q+16<=Lf p:=by have:=h.adv he;unfold Lf;rw [h.toGd.len];omega
theorem PI.lf {p:aC} (h:PI p):16<=Lf p:=by have:=h.hi;unfold Lf;omega
def Sx (p:aC) (r:aB × aC):Prop:=r.2.e_=0->WE r.1/\sz r.1<=r.2.fU - p.fU
def SL (p:aC) (r:List aB × aC):Prop:=r.2.e_=0->(∀x ∈ r.1,WE x)/\vK r.1<=r.2.fU - p.fU
def QQ (n:Nat) (k:Int) (f:aC->Int->Option (aB × aC)):Prop:=∀p a,PI p->Lf p+k<=n->aW (f p a) λr=>GA p r.2/\Sx p r
def OkL (n:Nat) (f:aC->Int->Int->Option (aB × aC)):Prop:=∀p a b,PI p->0<=a->a<=7->Lf p+29 - a<=n->aW (f p a b) λr=>GA p r.2/\Sx p r
def OkA (n:Nat) (f:aC->Int->Option ((List aB) × aC)):Prop:=∀p a,PI p->Lf p+25<=n->aW (f p a) λr=>GA p r.2/\SL p r
section
variable {n:Nat} {p:aC}
theorem Uu (hn:13<n) {f:aC->Int->Int->Option (aB × aC)} {a1 a2:Int} (h0:0<=a1) (h6:a1<7) {k:Int} (hf:∀p,PI p->Lf p<=k->aW (f p (a1+1) a2) λr=>GA p r.2/\Sx p r) :
  ∀(c:Nat) (t:cQ) (p:aC) (x:aB),PI p->Lf p<=k->1<=c->(t ≠ []->Lf p+1<=c/\t ∈ DN)->aW (pR f n a1 a2 c t p x) λr=>Gd p r.1/\(r.1.e_=0->WE x->WE r.2/\sz r.2<=sz x+(r.1.fU - p.fU)):=by
 intro c
 induction c with
 | zero=>intro t p x h hl h1;omega
 | succ c ih=>
   intro t p x h hl h1 h2;unfold pR;refine aW.iteb (λh4=>?_) λh4=>.some ⟨.refl h,λ_ hw=>⟨hw,yz⟩⟩;simp only [ne_eq,GC] at h4;obtain ⟨h5,hsg⟩:=h2 h4;have h6':=h.lf;refine (zJ h).bind λr ⟨g1,e1⟩=>(jX g1.inv hn).bind λq g2=>?_;have l1:=g1.lf;have l2:=g2.toGd.lf;rw [fD (n:=a1+1) za za];refine (hf q g2.inv za).bind λs ⟨g3,sx⟩=>?_;have g4:=g1.ga (g2.ga g3)
   have hx:s.2.e_=0->WE x->WE { r.1 with dL:=t,aM:=[x,s.1] }/\sz { r.1 with dL:=t,aM:=[x,s.1] }<=sz x+(s.2.fU - p.fU):=λe hw=>by
    obtain ⟨w1,w2⟩:=sx e;have m2:=g2.adv (g3.toGd.e0 e);have m1:=g1.at';rw [e1];exact ⟨.bin hsg hw w1,by rw [iN,Im];omega⟩
   refine aW.iteb (λ_=>.some ⟨g4.toGd,hx⟩) λ_=>?_;refine (Lb g3.inv hn h0 h6).bind λt' ht=>?_;have l3:=g3.toGd.lf;refine (ih t' s.2 _ g3.inv za za λhne=>?_).mono λr ⟨g5,g6⟩=>⟨g4.toGd.trans g5,λe hw=>?_⟩
   ·have l4:=g4.lf (ht hne).1;exact ⟨za,(ht hne).2⟩
   ·obtain ⟨v1,v2⟩:=hx (g5.e0 e) hw;obtain ⟨v3,v4⟩:=g6 e v1;exact ⟨v3,za⟩
theorem level_b (hn:13<n) {fo:aC->Int->Option (aB × aC)} {fl:aC->Int->Int->Option (aB × aC)} (ho:QQ n 21 fo) (hl:OkL n fl):OkL (n+1) (nQ fo fl n):=by
 intro p a b h h0 h7 hb;unfold nQ;refine aW.iteb (λh1=>?_) λh1=>?_
 ·simp only [beq_iff_eq] at h1;exact (ho p b h za).bind λr g=>.some g
 ·simp only [beq_eq_false_iff_ne,ne_eq] at h1;rw [fD (n:=a+1) za za];refine (hl p (a+1) b h za za za).bind λr ⟨g,sx⟩=>?_;have l1:=g.toGd.lf;have l2:=g.inv.lf;refine (Lb g.inv hn h0 za).bind λt ht=>?_;refine (Uu hn h0 za (k:=Lf r.2) (λq hq hk=>hl q (a+1) b hq za za za) n t r.2 r.1 g.inv (Oz _) za (λhne=>⟨za,(ht hne).2⟩)).bind λs ⟨g2,sx2⟩=>.some ⟨g.gd g2,λe=>?_⟩;obtain ⟨v1,v2⟩:=sx (g2.e0 e);obtain ⟨v3,v4⟩:=sx2 e v1;exact ⟨v3,yz⟩
theorem expr_b {fl:aC->Int->Int->Option (aB × aC)} (hl:OkL n fl):QQ (n+1) 30 (oP fl n):=by
 intro p a h hb;unfold oP;exact (hl p 0 a h za za za).bind λr g=>.some g
theorem Nv {fe:aC->Int->Option (aB × aC)} (he:QQ n 30 fe):QQ (n+1) 31 (kZ fe n):=by
 intro p a h hb;unfold kZ;exact (he p _ h za).bind λr g=>.some g
theorem SL.more {p q r:aC} {x:aB} {l:List aB} (g1:Gd p q) (sx:Sx p (x,q)) (g2:Gd q r):r.e_=0->(∀x ∈ l,WE x)->(∀y ∈ l++[x],WE y)/\vK (l++[x])<=vK l+(r.fU - p.fU):=λe hl=>by
 obtain ⟨w1,w2⟩:=sx (g2.e0 e);have m2:=g2.at';simp only at w2;refine ⟨λy hy=>?_,by rw [FM,sT];omega⟩
 rcases BV.1 hy with hy | hy
 ·exact hl y hy
 ·obtain rfl:=zA.1 hy;exact w1
theorem IB (hn:13<n) {fo:aC->Int->Option (aB × aC)} {k:Int} {a:Int} (hf:∀p,PI p->Lf p<=k->aW (fo p a) λr=>GA p r.2/\Sx p r):∀(c:Nat) (l:List aB) (p:aC),PI p->(p.e_=0->Lf p<=k)->(p.l_.length:Int) - p.fU<c->(l.length:Int)<=p.fU->aW (gJ fo n a c l p) λr=>Gd p r.2/\(r.1.length:Int)<=r.2.fU+1/\(r.2.e_=0->(∀x ∈ l,WE x)->(∀x ∈ r.1,WE x)/\vK r.1<=vK l+(r.2.fU - p.fU)):=by
 intro c
 induction c with
 | zero=>intro l p h _ h1 h2;have:=h.hi;omega
 | succ c ih=>
   intro l p h hk h1 h2;have k1:=h.lo;have k2:=h.hi;have k3:=h.big;unfold gJ;refine aW.iteb (λh4=>?_) λh4=>.some ⟨.refl h,yz,λ_ hl=>⟨hl,yz⟩⟩;simp only [beq_iff_eq] at h4;refine (hf p h (hk h4)).bind λx ⟨g1,sx⟩=>?_;refine aW.need (by simp only [tF];omega) ?_;refine (lN g1.inv hn).bind λr ⟨g2,g3,_⟩=>?_;have m1:=g1.at';have m2:=g2.at';have hx:=SL.more (l:=l) g1.toGd sx g2;refine aW.iteb (λh5=>.some ⟨g1.toGd.trans g2,by simp only [nB,tF];omega,hx⟩) λh5=>?_;have g4:=g3 (by simpa using h5);have g5:=g1.ga g4.2.1;have m3:=g1.adv g4.1;have m4:=g1.toGd.trans g2;have m5:=g5.toGd.lf;have m6:=hk h4;refine (ih _ r.2 g2.inv (λ_=>za) (by rw [m4.len];omega) (by simp only [nB,tF];omega)).mono λs ⟨s1,s2,s3⟩=>⟨g5.toGd.trans s1,s2,λe hl=>?_⟩;obtain ⟨v1,v2⟩:=hx (s1.e0 e) hl;obtain ⟨v3,v4⟩:=s3 e v1;exact ⟨v3,za⟩
theorem JC (hn:13<n) {fo:aC->Int->Option (aB × aC)} (ho:QQ n 31 fo):OkA (n+1) (iT fo n):=by
 intro p a h hb;unfold iT;refine (jX h hn).bind λq g1=>(lN g1.inv hn).bind λr ⟨g2,g3,g4⟩=>?_;have m1:=g1.at';have m2:=g2.at';refine aW.iteb (λh5=>.some ⟨g1.gd g2,λ_=>⟨(λx hx=>nomatch hx),by rw [oF];simp only;omega⟩⟩) λh5=>?_;have g5:=g1.gd g2;have k0:=g2.inv.lo;have k1:=g5.toGd.lf;have k2:=h.lf;refine aW.bind (P:=λy=>Gd r.2 y.2/\SL r.2 y) ?_ λy ⟨g6,s6⟩=>?_
 ·refine (IB hn (k:=(n:Int) - 31) (λq hq hk=>ho q a hq za) n [] r.2 g2.inv (λhe=>?_) ?_ (by simpa using k0)).bind λy ⟨y1,y2,y3⟩=>.some ⟨y1,λe=>?_⟩
  ·have:=g5.lf he;omega
  ·unfold Lf at hb k1;rw [g5.toGd.len] at k1 ⊢;have:=h.hi;omega
  ·obtain ⟨w1,w2⟩:=y3 e (λx hx=>nomatch hx);exact ⟨w1,by rw [oF] at w2;simp only;omega⟩
 ·refine (jX g6.inv hn).bind λs g7=>.some ⟨(g5.gd g6).ga g7,λe=>?_⟩;obtain ⟨w1,w2⟩:=s6 (g7.toGd.e0 e);have m5:=g7.at';exact ⟨w1,yz⟩
theorem Pd (hn:13<n) {fo:aC->Int->Option (aB × aC)} {k:Int} (hf:∀p a,PI p->Lf p<=k->aW (fo p a) λr=>GA p r.2/\Sx p r) {a1:Int}:∀(c:Nat) (v:Nat) (p:aC) (x y:aB),2<v+c->v<=2->PI p->Lf p<=k+16->aW (oI fo n a1 c v p x y) λr=>match r with | .inl s=>Gd p s.1/\s.2.1=x | .inr s=>GA p s.2/\(x.nY=0->Sx p s):=by
 intro c
 induction c with
 | zero=>intro v p x y h1 h2;omega
 | succ c ih=>
   intro v p x y h1 h2 h hk;unfold oI;refine aW.iteb (λh4=>?_) λh4=>.some ⟨.refl h,rfl⟩;simp only [GC] at h4;refine aW.bind' (aW.idx za (by have:iO.length=2:=rfl;omega) λz hz=>?_);refine (lN h hn).bind λr ⟨g1,g2,g3⟩=>?_;refine aW.iteb (λh5=>?_) λh5=>?_
   ·obtain ⟨_,g4,g5⟩:=g2 h5;have l1:=g4.lf g5;refine (hf r.2 _ g1.inv za).bind λs ⟨g6,sx⟩=>.some ⟨g4.ga g6,λhx e=>?_⟩;obtain ⟨w1,w2⟩:=sx e;have m1:=g4.adv (g6.toGd.e0 e);refine ⟨?_,by simp only [iN,sT];omega⟩;simp only [hx];refine .un ?_ w1;have hm:=zX hz;simpa [iO] using hm
   ·rw [fD za za];have l1:=g1.lf;refine (ih (v+1) r.2 x y za za g1.inv za).mono λs hs=>?_;cases s with
    | inl s=>exact ⟨g1.trans hs.1,hs.2⟩
    | inr s=>
      refine ⟨g1.ga hs.1,λhx e=>?_⟩;obtain ⟨w1,w2⟩:=hs.2 hx e;have:=g1.at';exact ⟨w1,za⟩
theorem RK (hn:13<n) {fe fo:aC->Int->Option (aB × aC)} {fa:aC->Int->Option ((List aB) × aC)} (he:QQ n 30 fe) (ho:QQ n 21 fo) (ha:OkA n fa):QQ (n+1) 21 (mG fe fo fa n):=by
 intro p a h hb;unfold mG;refine (NS h).bind λq g1=>(lN g1.inv hn).bind λr ⟨g2,g3,_⟩=>?_;have m1:=g1.lf;have m2:=g2.lf;have m3:=h.lf;have n1:=g1.at';have n2:=g2.at';refine aW.iteb (λh5=>?_) λh5=>?_
 ·obtain ⟨_,g4,g5⟩:=g3 h5;have l1:=g4.lf g5;refine (he r.2 _ g2.inv za).bind λs ⟨g6,sx⟩=>(jX g6.inv hn).bind λt g7=>.some ⟨g1.ga (g4.ga (g6.ga g7)),λe=>?_⟩;obtain ⟨w1,w2⟩:=sx (g7.toGd.e0 e);have n3:=g7.at';exact ⟨w1,yz⟩
 ·refine (zJ g2.inv).bind λs ⟨g4,e4⟩=>?_;have m4:=g4.lf;have n4:=g4.at';refine (Pd hn (k:=(n:Int) - 21) (λq b hq hk=>ho q b hq za) n 0 s.2 _ _ za za g4.inv za).bind λy hy=>?_;have g5:=g1.trans (g2.trans g4);refine aW.elim (λz e=>?_) λz e=>?_
  ·subst e;have hy':Gd s.2 z.1:=hy.1;have hz:z.2.1=s.1:=hy.2;have g6:=g5.trans hy';have n5:=hy'.at';rw [hz,e4];refine aW.bind (P:=λ_=>True) ?_ λb _=>?_
   ·refine aW.iteb (λ_=>?_) λ_=>.some trivial;exact (vX hy'.inv).bind λt _=>.some trivial
   ·refine aW.iteb (λ_=>?_) λ_=>?_
    ·refine (Jx hy'.inv).bind λt ⟨g7,n7⟩=>.some ⟨g6.ga g7,λe=>?_⟩;have:=g7.adv e;exact ⟨.num n7.1 n7.2,by simp only [iN,oF];omega⟩
    ·refine (Be hy'.inv hn).bind λt g7=>?_;have g8:=g6.ga g7;have l8:=g8.toGd.lf;refine aW.bind (P:=λy=>GA p y.1/\Sx p (y.2,y.1)) ?_ λy hy=>.some hy;refine (JL g7.inv hn).bind λb hb=>aW.iteb (λh9=>?_) λh9=>?_
     ·have l9:=g8.lf (hb h9).1;refine (ha t.2 a g7.inv za).bind λu ⟨g9,sx⟩=>.some ⟨g8.ga g9,λe=>?_⟩;obtain ⟨w1,w2⟩:=sx e;have:=g7.adv (g9.toGd.e0 e);exact ⟨.call w1,by simp only [iN];omega⟩
     ·refine (lN g7.inv hn).bind λu ⟨g9,g10,_⟩=>aW.iteb (λh10=>?_) λh10=>.some ⟨g8.gd g9,λe=>?_⟩
      ·obtain ⟨_,g11,g12⟩:=g10 h10;have l9:=g11.lf g12;refine (he u.2 _ g9.inv za).bind λv ⟨g13,sx⟩=>(jX g13.inv hn).bind λw g14=>.some ⟨g8.ga (g11.ga (g13.ga g14)),λe=>?_⟩;have ev:=g14.toGd.e0 e;obtain ⟨w1,w2⟩:=sx ev;have n6:=g14.at';have n7:=g7.adv (g9.e0 (g13.toGd.e0 ev));have n8:=g9.at';exact ⟨.index w1,by simp only [iN,sT];omega⟩
      ·have n7:=g7.adv (g9.e0 e);have n8:=g9.at';exact ⟨.ref,by simp only [iN,oF];omega⟩
  ·subst e;refine .some ⟨g5.ga hy.1,λe=>?_⟩;obtain ⟨w1,w2⟩:=hy.2 (by rw [e4]) e;exact ⟨w1,za⟩
theorem grp_ok:∀n:Nat,OkA n (bD n).1/\QQ n 30 (bD n).2.1/\OkL n (bD n).2.2.1/\QQ n 21 (bD n).2.2.2.1/\QQ n 31 (bD n).2.2.2.2:=by
 have small:∀n:Nat,n<=14->OkA n (bD n).1/\QQ n 30 (bD n).2.1/\OkL n (bD n).2.2.1/\QQ n 21 (bD n).2.2.2.1/\QQ n 31 (bD n).2.2.2.2:=by
  intro n hn;refine ⟨λp a h hb=>?_,λp a h hb=>?_,λp a b h h0 h7 hb=>?_,λp a h hb=>?_,λp a h hb=>?_⟩ <;> (have:=h.lf;omega)
 intro n
 induction n with
 | zero=>exact small 0 za
 | succ n ih=>
   by_cases hn:13<n
   ·obtain ⟨i1,i2,i3,i4,i5⟩:=ih;exact ⟨JC hn i5,expr_b i3,level_b hn i4 i3,RK hn i2 i4 i1,Nv i2⟩
   ·exact small (n+1) za
theorem xJ (h:PI p) {a:Int} (hb:Lf p+30<=n):aW (fL n p a) λr=>GA p r.2/\Sx p r:=(grp_ok n).2.1 p a h hb
theorem Lg (h:PI p) {x:aB} {a:Int} (hb:Lf p+30<=n):aW (lA n p x a) λr=>GA p r.2/\(r.2.e_=0->∃s y,r.1={ x with dL:=s,aM:=[y] }/\WE y/\sz y+1<=r.2.fU - p.fU):=by
 have hn:13<n:=by have:=h.lf;omega
 unfold lA;refine (Be h hn).bind λr g1=>(jX g1.inv hn).bind λq g2=>?_;have l1:=g1.toGd.lf;have l2:=g2.toGd.lf;refine (xJ g2.inv za).bind λs ⟨g3,sx⟩=>(jX g3.inv hn).bind λt g4=>.some ⟨g1.ga (g2.ga (g3.ga g4)),λe=>?_⟩;obtain ⟨w1,w2⟩:=sx (g4.toGd.e0 e);have n1:=g1.at';have n2:=g2.at';have n4:=g4.adv e;exact ⟨_,_,rfl,w1,yz⟩
theorem Nr (h:PI p) {a:Int} (hb:Lf p+30<=n):aW (nO n p a) λr=>GA p r.2/\Sx p r:=by
 unfold nO;exact (xJ h hb).bind λr g=>.some g
theorem Kw (hn:13<n) {a:Int}:∀(c:Nat) (l:List aB) (p:aC),PI p->Lf p+30<=n->(p.l_.length:Int) - p.fU<c->(l.length:Int)<=p.fU->aW (gW n a c l p) λr=>Gd p r.2/\(r.1.length:Int)<=r.2.fU+1/\(r.2.e_=0->(∀x ∈ l,WE x)->(∀x ∈ r.1,WE x)/\vK r.1<=vK l+(r.2.fU - p.fU)):=by
 intro c
 induction c with
 | zero=>intro l p h _ h1 h2;have:=h.hi;omega
 | succ c ih=>
   intro l p h hk h1 h2;have k1:=h.lo;have k2:=h.hi;have k3:=h.big;unfold gW;refine aW.iteb (λh4=>?_) λh4=>.some ⟨.refl h,yz,λ_ hl=>⟨hl,yz⟩⟩;refine (Nr h hk).bind λx ⟨g1,sx⟩=>?_;refine aW.need (by simp only [tF];omega) ?_;refine (lN g1.inv hn).bind λr ⟨g2,g3,_⟩=>?_;have m1:=g1.at';have m2:=g2.at';have hx:=SL.more (l:=l) g1.toGd sx g2;refine aW.iteb (λh5=>.some ⟨g1.toGd.trans g2,by simp only [nB,tF];omega,hx⟩) λh5=>?_;have g4:=g3 (by simpa using h5);have g5:=g1.ga g4.2.1;have m3:=g1.adv g4.1;have m4:=g1.toGd.trans g2;have m5:=g5.toGd.lf;refine (ih _ r.2 g2.inv za (by rw [m4.len];omega) (by simp only [nB,tF];omega)).mono λs ⟨s1,s2,s3⟩=>⟨g5.toGd.trans s1,s2,λe hl=>?_⟩;obtain ⟨v1,v2⟩:=hx (s1.e0 e) hl;obtain ⟨v3,v4⟩:=s3 e v1;exact ⟨v3,za⟩
theorem JA (h:PI p) {a:Int} (hb:Lf p+30<=n):aW (iS n p a) λr=>GA p r.2/\SL p r:=by
 have hn:13<n:=by have:=h.lf;omega
 unfold iS;refine (jX h hn).bind λq g1=>(lN g1.inv hn).bind λr ⟨g2,g3,g4⟩=>?_;have m1:=g1.at';have m2:=g2.at';refine aW.iteb (λh5=>.some ⟨g1.gd g2,λ_=>⟨(λx hx=>nomatch hx),by rw [oF];simp only;omega⟩⟩) λh5=>?_;have g5:=g1.gd g2;have k0:=g2.inv.lo;have k1:=g5.toGd.lf;refine aW.bind (P:=λy=>Gd r.2 y.2/\SL r.2 y) ?_ λy ⟨g6,s6⟩=>?_
 ·refine (Kw hn n [] r.2 g2.inv za ?_ (by simpa using k0)).bind λy ⟨y1,y2,y3⟩=>.some ⟨y1,λe=>?_⟩
  ·unfold Lf at hb k1;rw [g5.toGd.len] at k1 ⊢;have:=h.hi;omega
  ·obtain ⟨w1,w2⟩:=y3 e (λx hx=>nomatch hx);exact ⟨w1,by rw [oF] at w2;simp only;omega⟩
 ·refine (jX g6.inv hn).bind λs g7=>.some ⟨(g5.gd g6).ga g7,λe=>?_⟩;obtain ⟨w1,w2⟩:=s6 (g7.toGd.e0 e);have m5:=g7.at';exact ⟨w1,yz⟩
def St0 (x:aB):Prop:=x=⟨8,x.fV,[],0,[]⟩
def Ss (p:aC) (r:aB × aC):Prop:=r.2.e_=0->WS r.1/\sz r.1<=r.2.fU - p.fU
theorem RH (h:PI p) {x:aB} {a:Int} (hb:Lf p+30<=n) (hx:St0 x):aW (mQ n p x a) λr=>GA p r.2/\Ss p r:=by
 have hn:13<n:=by have:=h.lf;omega
 unfold mQ;rw [hx];refine (Be h hn).bind λr g1=>?_;have l1:=g1.toGd.lf;have n1:=g1.at';refine aW.bind (P:=λy=>GA p y.1/\(y.1.e_=0->WS y.2/\sz y.2<=1+(y.1.fU - p.fU))) ?_ λy hy=>?_
 case refine_2=>
  obtain ⟨hy',hs⟩:GA p y.1/\(y.1.e_=0->WS y.2/\sz y.2<=1+(y.1.fU - p.fU)):=hy;refine (jX hy'.inv hn).bind λs g=>.some ⟨hy'.ga g,λe=>?_⟩;obtain ⟨w1,w2⟩:=hs (g.toGd.e0 e);have:=g.adv e;exact ⟨w1,yz⟩
 refine (JL g1.inv hn).bind λb _=>aW.iteb (λ_=>?_) λ_=>?_
 ·refine (JA g1.inv za).bind λs ⟨g2,sx⟩=>.some ⟨g1.ga g2,λe=>?_⟩;obtain ⟨w1,w2⟩:=sx e;exact ⟨.call w1,by simp only [iN];omega⟩
 ·refine (lN g1.inv hn).bind λs ⟨g2,_,_⟩=>?_;have l2:=g2.lf;have n2:=g2.at';refine aW.iteb (λ_=>?_) λ_=>?_
  ·refine (xJ g2.inv za).bind λt ⟨g3,s3⟩=>(jX g3.inv hn).bind λu g4=>(jX g4.inv hn).bind λv g5=>?_;have l3:=g3.toGd.lf;have l4:=g4.toGd.lf;have l5:=g5.toGd.lf;refine (xJ g5.inv za).bind λw ⟨g6,s6⟩=>aW.need zc (.some ⟨g1.gd (g2.trans (g3.toGd.trans (g4.toGd.trans (g5.toGd.trans g6.toGd)))),λe=>?_⟩);obtain ⟨w1,w2⟩:=s6 e;have e5:=g6.toGd.e0 e;obtain ⟨w3,w4⟩:=s3 (g4.toGd.e0 (g5.toGd.e0 e5));have n4:=g4.at';have n5:=g5.at';exact ⟨.put w3 w1,by simp only [iN,List.singleton_append,Im];omega⟩
  ·refine (jX g2.inv hn).bind λv g5=>?_;have l5:=g5.toGd.lf;have n5:=g5.at';refine (xJ g5.inv za).bind λw ⟨g6,s6⟩=>.some ⟨g1.gd (g2.trans (g5.toGd.trans g6.toGd)),λe=>?_⟩;obtain ⟨w1,w2⟩:=s6 e;exact ⟨.set w1,by simp only [iN,sT];omega⟩
end
def Bk (p:aC) (r:aB × aC):Prop:=r.2.e_=0->(r.1=⟨4,r.1.fV,[],0,r.1.aM⟩/\∀y ∈ r.1.aM,WS y)/\sz r.1<=r.2.fU - p.fU
def OkS (n:Nat) (f:aC->Int->Option (aB × aC)):Prop:=∀p a,PI p->Lf p+45<=n->aW (f p a) λr=>GA p r.2/\Ss p r
def OkK (n:Nat) (f:aC->Int->Option (aB × aC)):Prop:=∀p a,PI p->Lf p+46<=n->aW (f p a) λr=>GA p r.2/\Bk p r
def OkN (n:Nat) (k:Int) (f:aC->aB->Int->Option (aB × aC)):Prop:=∀p x a,PI p->Lf p+k<=n->St0 x->aW (f p x a) λr=>GA p r.2/\(r.2.e_=0->WS r.1/\sz r.1<=1+(r.2.fU - p.fU))
section
variable {n:Nat} {p:aC}
theorem Vp (hn:13<n) {fs:aC->Int->Option (aB × aC)} {k:Int} {a:Int} (hf:∀p,PI p->Lf p<=k->aW (fs p a) λr=>GA p r.2/\Ss p r):∀(c:Nat) (p:aC) (x:aB),PI p->(p.e_=0->Lf p<=k)->(p.l_.length:Int) - p.fU<c->1<=c->(p.e_=0->(x.aM.length:Int)<=p.fU)->(x.aM.length:Int)<=65538->aW (mT fs n a c p x) λr=>Gd p r.1/\(r.1.e_=0->(∀y ∈ x.aM,WS y)->(∀y ∈ r.2.aM,WS y)/\vK r.2.aM<=vK x.aM+(r.1.fU - p.fU)/\r.2={ x with aM:=r.2.aM }):=by
 intro c
 induction c with
 | zero=>intro p x h _ h1 h2;omega
 | succ c ih=>
   intro p x h hk h1 h2 h3 h4;have k1:=h.lo;have k2:=h.hi;have k3:=h.big;unfold mT;refine aW.bind (P:=λb=>b=true->p.e_=0) ?_ λb hb=>?_
   ·refine aW.iteb (λhe=>?_) λ_=>.some λh=>by cases h
    exact (JL h hn).bind λb hb=>.some λ_=>by simpa using he
   ·refine aW.iteb (λh5=>?_) λh5=>.some ⟨.refl h,λ_ hl=>⟨hl,yz,by cases x;rfl⟩⟩;have he:=hb h5;refine (hf p h (hk he)).bind λr ⟨g,ss⟩=>?_;have m1:=g.at';have m2:=hk he;have m3:=h3 he;have m4:=g.toGd.lf;have m5:=g.inv.hi;have m6:=g.toGd.len;refine aW.need (by simp only [tF];omega) ?_
    by_cases he2:r.2.e_=0
    ·have m7:=g.adv he2;obtain ⟨w1,w2⟩:=ss he2;refine (ih r.2 _ g.inv (λ_=>za) (by rw [m6];omega) za (λ_=>by simp only [nB,tF];omega) (by simp only [nB,tF];omega)).mono λs ⟨g2,s2⟩=>⟨g.toGd.trans g2,λe hl=>?_⟩
     obtain ⟨v1,v2,v3⟩:=s2 e (λy hy=>by
      rcases BV.1 hy with hy | hy
      ·exact hl y hy
      ·obtain rfl:=zA.1 hy;exact w1)
     refine ⟨v1,?_,v3⟩;simp only [FM,sT] at v2;omega
    ·cases c with
     | zero=>omega
     | succ c=>
       unfold mT;rw [bU (by simpa using he2),nA,bU zb];exact .some ⟨g.toGd,λe=>dE e he2⟩
theorem block_b {fs:aC->Int->Option (aB × aC)} (hs:OkS n fs):OkK (n+1) (nR fs n):=by
 intro p a h hb;have hn:13<n:=by have:=h.lf;omega
 unfold nR;refine (NS h).bind λq g1=>(zJ g1.inv).bind λr ⟨g2,e2⟩=>(jX g2.inv hn).bind λt g3=>?_;have e:r.1.aM=[]:=by rw [e2]
 have g4:=g1.trans g2;have g5:=g4.ga g3;have l5:=g5.toGd.lf;have k0:=g3.inv.lo;refine (Vp hn (k:=(n:Int) - 45) (λq hq hk=>hs q a hq za) n t r.1 g3.inv (λhe=>?_) ?_ za (λ_=>by rw [e];simpa using k0) (by rw [e];simp)).bind λy ⟨g6,s6⟩=>(jX g6.inv hn).bind λs g7=>.some ⟨(g5.gd g6).ga g7,λe3=>?_⟩
 ·have:=g5.lf he;omega
 ·unfold Lf at hb l5;rw [g5.toGd.len] at l5 ⊢;have:=h.hi;omega
 ·have ey:=g7.toGd.e0 e3;obtain ⟨v1,v2,v3⟩:=s6 ey (λy hy=>by rw [e] at hy;cases hy);have n3:=g3.adv (g6.e0 ey);have n4:=g4.at';have n7:=g7.at';rw [e2] at v3;rw [e,oF] at v2;refine ⟨⟨by simp only;rw [v3],v1⟩,?_⟩;simp only [EV];omega
theorem UY {fb:aC->Int->Option (aB × aC)} (hf:OkK n fb):OkN (n+1) 47 (mS fb n):=by
 intro p x a h hb hx;have hn:13<n:=by have:=h.lf;omega
 unfold mS;rw [hx];refine (xJ h za).bind λr ⟨g1,s1⟩=>?_;have l1:=g1.toGd.lf;refine (hf r.2 _ g1.inv za).bind λs ⟨g2,s2⟩=>aW.need zc ((lN g2.inv hn).bind λt ⟨g3,_,_⟩=>?_);have l2:=g2.toGd.lf;have l3:=g3.lf;have n3:=g3.at';refine aW.iteb (λ_=>?_) λ_=>.some ⟨(g1.ga g2).gd g3,λe=>?_⟩
 ·refine (hf t.2 _ g3.inv za).bind λu ⟨g4,s4⟩=>aW.need zc (.some ⟨((g1.ga g2).gd g3).ga g4,λe=>?_⟩);have e3:=g4.toGd.e0 e;have e2:=g3.e0 e3;obtain ⟨⟨a1,a2⟩,a3⟩:=s4 e;obtain ⟨⟨b1,b2⟩,b3⟩:=s2 e2;obtain ⟨c1,c2⟩:=s1 (g2.toGd.e0 e2);simp only [List.singleton_append,EP,wN];rw [iN,KT];refine ⟨?_,za⟩;rw [a1,b1];exact .choice2 c1 b2 a2
 ·have e2:=g3.e0 e;obtain ⟨⟨b1,b2⟩,b3⟩:=s2 e2;obtain ⟨c1,c2⟩:=s1 (g2.toGd.e0 e2);simp only [List.singleton_append];rw [iN,Im];refine ⟨?_,za⟩;rw [b1];exact .choice c1 b2
theorem loop_b {fb:aC->Int->Option (aB × aC)} (hf:OkK n fb):OkN (n+1) 47 (oO fb n):=by
 intro p x a h hb hx;have hn:13<n:=by have:=h.lf;omega
 unfold oO;rw [hx];refine (Be h hn).bind λr g1=>(jX g1.inv hn).bind λs g2=>?_;have l1:=g1.toGd.lf;have l2:=g2.toGd.lf;have n1:=g1.at';have n2:=g2.at';refine (xJ g2.inv za).bind λt ⟨g3,s3⟩=>(jX g3.inv hn).bind λu g4=>?_;have l3:=g3.toGd.lf;have l4:=g4.toGd.lf;have n4:=g4.at';refine (xJ g4.inv za).bind λv ⟨g5,s5⟩=>aW.need zc ?_;have l5:=g5.toGd.lf;refine (hf v.2 _ g5.inv za).bind λw ⟨g6,s6⟩=>aW.need zc (.some ⟨g1.ga (g2.ga (g3.ga (g4.ga (g5.ga g6)))),λe=>?_⟩);have e5:=g6.toGd.e0 e;have e4:=g5.toGd.e0 e5;obtain ⟨⟨b1,b2⟩,b3⟩:=s6 e;obtain ⟨c1,c2⟩:=s5 e5;obtain ⟨d1,d2⟩:=s3 (g4.toGd.e0 e4);simp only [List.singleton_append,EP,wN];rw [iN,KT];refine ⟨?_,za⟩;rw [b1];exact .loop d1 c1 b2
theorem MZ {fc fl:aC->aB->Int->Option (aB × aC)} (hc:OkN n 47 fc) (hl:OkN n 47 fl):OkS (n+1) (kY fc fl n):=by
 intro p a h hb;have hn:13<n:=by have:=h.lf;omega
 unfold kY;refine (zJ h).bind λr ⟨g1,e1⟩=>?_;have hx:St0 r.1:=e1;have l1:=g1.lf;have n1:=g1.at';refine aW.bind (P:=λy=>match y with | .inl y=>GA p y.1/\(y.1.e_=0->WS y.2/\sz y.2<=1+(y.1.fU - p.fU)) | .inr y=>GA p y.2/\Ss p y) ?_ λy hy=>?_
 ·refine (lN g1.inv hn).bind λt1 ⟨a1,b1,_⟩=>aW.iteb (λh1=>?_) λh1=>?_
  ·have m1:=a1.lf;have o1:=a1.at';refine (Lg a1.inv za).bind λu ⟨g2,s2⟩=>.some ⟨g1.ga (a1.ga g2),λe=>?_⟩;obtain ⟨s,y,q1,q2,q3⟩:=s2 e;simp only;rw [q1,e1];exact ⟨.bind (.inl rfl) q2,by simp only [iN,sT];omega⟩
  have m1:=a1.lf;have o1:=a1.at';refine (lN a1.inv hn).bind λt2 ⟨a2,b2,_⟩=>aW.iteb (λh2=>?_) λh2=>?_
  ·have m2:=a2.lf;have o2:=a2.at';refine (Lg a2.inv za).bind λu ⟨g2,s2⟩=>.some ⟨g1.ga (a1.ga (a2.ga g2)),λe=>?_⟩;obtain ⟨s,y,q1,q2,q3⟩:=s2 e;simp only;rw [q1,e1];exact ⟨.bind (.inr rfl) q2,by simp only [iN,sT];omega⟩
  have m2:=a2.lf;have o2:=a2.at';refine (lN a2.inv hn).bind λt3 ⟨a3,b3,_⟩=>aW.iteb (λh3=>?_) λh3=>?_
  ·have o3:=a3.at';refine (Be a3.inv hn).bind λu g2=>(Ng g2.inv hn).bind λv g3=>.some ⟨g1.ga (a1.ga (a2.ga (a3.ga (g2.ga g3)))),λe=>?_⟩;have o4:=g2.at';have o5:=g3.at';simp only;rw [e1];exact ⟨.arr,by simp only [iN,oF];omega⟩
  have m3:=a3.lf;have o3:=a3.at';refine (lN a3.inv hn).bind λt4 ⟨a4,b4,_⟩=>aW.iteb (λh4=>?_) λh4=>?_
  ·have m4:=a4.lf;have o4:=a4.at';refine (xJ a4.inv za).bind λu ⟨g2,s2⟩=>.some ⟨g1.ga (a1.ga (a2.ga (a3.ga (a4.ga g2)))),λe=>?_⟩;obtain ⟨q1,q2⟩:=s2 e;simp only;rw [e1];exact ⟨.ret q1,by simp only [iN,sT];omega⟩
  have m4:=a4.lf;have o4:=a4.at';refine (lN a4.inv hn).bind λt5 ⟨a5,b5,_⟩=>aW.iteb (λh5=>?_) λh5=>?_
  ·obtain ⟨_,c1,c2⟩:=b5 h5;have m5:=c1.lf c2;have o5:=c1.adv c2;refine (hc t5.2 _ _ a5.inv za hx).bind λu ⟨g2,s2⟩=>.some ⟨g1.ga (a1.ga (a2.ga (a3.ga (a4.ga (a5.ga g2))))),λe=>?_⟩;obtain ⟨q1,q2⟩:=s2 e;exact ⟨q1,yz⟩
  have m5:=a5.lf;have o5:=a5.at';refine (lN a5.inv hn).bind λt6 ⟨a6,b6,_⟩=>aW.iteb (λh6=>?_) λh6=>?_
  ·obtain ⟨_,c1,c2⟩:=b6 h6;have m6:=c1.lf c2;have o6:=c1.adv c2;refine (hl t6.2 _ _ a6.inv za hx).bind λu ⟨g2,s2⟩=>.some ⟨g1.ga (a1.ga (a2.ga (a3.ga (a4.ga (a5.ga (a6.ga g2)))))),λe=>?_⟩;obtain ⟨q1,q2⟩:=s2 e;exact ⟨q1,yz⟩
  have m6:=a6.lf;have o6:=a6.at';refine (RH a6.inv za hx).bind λu ⟨g2,s2⟩=>.some ⟨g1.ga (a1.ga (a2.ga (a3.ga (a4.ga (a5.ga (a6.ga g2)))))),λe=>?_⟩;obtain ⟨q1,q2⟩:=s2 e;exact ⟨q1,yz⟩
 ·refine aW.elim (λz e=>?_) λz e=>?_
  ·subst e;obtain ⟨hy',hs⟩:GA p z.1/\(z.1.e_=0->WS z.2/\sz z.2<=1+(z.1.fU - p.fU)):=hy;refine (jX hy'.inv hn).bind λs g=>.some ⟨hy'.ga g,λe=>?_⟩;obtain ⟨w1,w2⟩:=hs (g.toGd.e0 e);have:=g.adv e;exact ⟨w1,yz⟩
  ·subst e;exact .some hy
theorem grp2_ok:∀n:Nat,OkK n (dQ n).1/\OkS n (dQ n).2.1/\OkN n 47 (dQ n).2.2.1/\OkN n 47 (dQ n).2.2.2:=by
 intro n
 induction n with
 | zero=>refine ⟨λp a h hb=>?_,λp a h hb=>?_,λp x a h hb=>?_,λp x a h hb=>?_⟩ <;> (have:=h.lf;omega)
 | succ n ih=>
   obtain ⟨i1,i2,i3,i4⟩:=ih;exact ⟨block_b i2,MZ i3 i4,UY i1,loop_b i1⟩
theorem Ib (h:PI p) {a:Int} (hb:Lf p+46<=n):aW (eS n p a) λr=>GA p r.2/\Bk p r:=(grp2_ok n).1 p a h hb
def Fx (p:aC) (r:aB × aC):Prop:=r.2.e_=0->WF r.1/\sz r.1<=r.2.fU - p.fU
theorem Mo (h:PI p) (hb:Lf p+46<=n):aW (kO n p) λr=>GA p r.2/\Fx p r:=by
 have hn:13<n:=by have:=h.lf;omega
 unfold kO;refine (zJ h).bind λr ⟨g1,e1⟩=>(lN g1.inv hn).bind λt ⟨g2,_,_⟩=>?_;have g3:=g1.trans g2;have n3:=g3.at'
 have key:∀q:aC,GA p q->(q.l_.length:Int) - q.fU<n:=by
  intro q g;have:=g.toGd.lf;unfold Lf at this hb;have:=h.hi;have:=g.inv.hi;omega
 have fin:∀ {q b:aC} {ps:List aB} {z:aB × aC} {at' k:Int} {s:cQ},Gd q b->GA b z.2->Bk b z->p.fU+1<=q.fU - vK ps->(b.e_=0->∀x ∈ ps,WP x)->Fx p (⟨2,at',s,k,ps++[z.1]⟩,z.2):=λgb gz bz hq hp e=>by
  obtain ⟨⟨c1,c2⟩,c3⟩:=bz e;have eb:=gz.toGd.e0 e;have n1:=gb.at';refine ⟨?_,by simp only [iN,FM,sT];omega⟩;simp only;rw [c1];exact .fn (hp eb) c2
 have one:∀(k0 k1 k2:Int),aW ((bS n t.2 [102,110]).bind λx10=>(eP n x10).bind λx11=>(gL n x11.2).bind λx13=>(bW n x13.2 [45,62]).bind λx15=>if x15.1=true then (bW n x15.2 [117,51,50]).bind λx18=>if x18.1=true then (eS n x18.2 1).bind λx21=>iE (x13.1.length+[x21.1].length<=1073741824) <| some (({ r.1 with nY:=k1,dL:=x11.1,aM:=x13.1++[x21.1] }:aB),x21.2) else (bS n x18.2 [117,54,52]).bind λx23=>(eS n x23 1).bind λx25=>iE (x13.1.length+[x25.1].length<=1073741824) <| some (({ r.1 with nY:=k2,dL:=x11.1,aM:=x13.1++[x25.1] }:aB),x25.2) else (eS n x15.2 1).bind λx27=>iE (x13.1.length+[x27.1].length<=1073741824) <| some (({ r.1 with nY:=k0,dL:=x11.1,aM:=x13.1++[x27.1] }:aB),x27.2)) λr=>GA p r.2/\Fx p r:=by
  intro k0 k1 k2;rw [e1];refine (jX g2.inv hn).bind λu g4=>(Be g4.inv hn).bind λv g5=>?_;have g6:=g3.ga (g4.ga g5);have n6:=g5.at';refine (JB g5.inv hn (key _ g6)).bind λw ⟨g7,hw,hp⟩=>(lN g7.inv hn).bind λx ⟨g8,_,_⟩=>?_;have g9:=(g6.ga g7).gd g8;have l9:=g9.toGd.lf
  have big:∀ {b:aC},Gd w.2 b->b.e_=0->p.fU+1<=w.2.fU - vK w.1/\∀x ∈ w.1,WP x:=λgb e=>by
   obtain ⟨q1,q2⟩:=hp (gb.e0 e);have:=g4.adv (g5.toGd.e0 (g7.toGd.e0 (gb.e0 e)));exact ⟨za,q1⟩
  have fin2:∀ {b:aC} {z:aB × aC} {at' k:Int} {s:cQ},Gd w.2 b->GA b z.2->Bk b z->Fx p (⟨2,at',s,k,w.1++[z.1]⟩,z.2):=λgb gz bz e=>fin gb gz bz (big gb (gz.toGd.e0 e)).1 (λe2=>(big gb e2).2) e;refine aW.iteb (λ_=>?_) λ_=>?_
  ·refine (lN g8.inv hn).bind λy ⟨g10,_,_⟩=>?_;have l10:=g10.lf;refine aW.iteb (λ_=>?_) λ_=>?_
   ·exact (Ib g10.inv za).bind λz ⟨g11,b11⟩=>aW.need (by simp only [tF];omega) (.some ⟨(g9.gd g10).ga g11,fin2 (g8.trans g10) g11 b11⟩)
   ·refine (jX g10.inv hn).bind λy' g11=>?_;have l11:=g11.toGd.lf;exact (Ib g11.inv za).bind λz ⟨g12,b12⟩=>aW.need (by simp only [tF];omega) (.some ⟨((g9.gd g10).ga g11).ga g12,fin2 (g8.trans (g10.trans g11.toGd)) g12 b12⟩)
  ·exact (Ib g8.inv za).bind λz ⟨g11,b11⟩=>aW.need (by simp only [tF];omega) (.some ⟨g9.ga g11,fin2 g8 g11 b11⟩)
 exact aW.iteb (λ_=>one _ _ _) λ_=>one _ _ _
theorem VC:∀(c:Nat) (p:aC) (x:aB),PI p->Lf p+46<=n->(p.l_.length:Int) - p.fU<c->1<=c->(p.e_=0->(x.aM.length:Int)<=p.fU)->(x.aM.length:Int)<=65538->aW (uE n c p x) λr=>Gd p r.1/\(r.1.e_=0->(∀y ∈ x.aM,WF y)->(∀y ∈ r.2.aM,WF y)/\vK r.2.aM<=vK x.aM+(r.1.fU - p.fU)):=by
 intro c
 induction c with
 | zero=>intro p x h _ h1 h2;omega
 | succ c ih=>
   intro p x h hk h1 h2 h3 h4;have k1:=h.lo;have k2:=h.hi;have k3:=h.big;unfold uE;refine aW.bind (P:=λb=>b=true->p.e_=0) ?_ λb hb=>?_
   ·refine aW.iteb (λhe=>?_) λ_=>.some λh=>by cases h
    exact (vX h).bind λb hb=>.some λ_=>by simpa using he
   ·refine aW.iteb (λh5=>?_) λh5=>.some ⟨.refl h,λ_ hl=>⟨hl,yz⟩⟩;have he:=hb h5;refine (Mo h hk).bind λr ⟨g,fx⟩=>?_;have m1:=g.at';have m3:=h3 he;have m4:=g.toGd.lf;have m5:=g.inv.hi;have m6:=g.toGd.len;refine aW.need (by simp only [tF];omega) ?_
    by_cases he2:r.2.e_=0
    ·have m7:=g.adv he2;obtain ⟨w1,w2⟩:=fx he2;refine (ih r.2 _ g.inv za (by rw [m6];omega) za (λ_=>by simp only [nB,tF];omega) (by simp only [nB,tF];omega)).mono λs ⟨g2,s2⟩=>⟨g.toGd.trans g2,λe hl=>?_⟩
     obtain ⟨v1,v2⟩:=s2 e (λy hy=>by
      rcases BV.1 hy with hy | hy
      ·exact hl y hy
      ·obtain rfl:=zA.1 hy;exact w1)
     refine ⟨v1,?_⟩;simp only [FM,sT] at v2;omega
    ·cases c with
     | zero=>omega
     | succ c=>
       unfold uE;rw [bU (by simpa using he2),nA,bU zb];exact .some ⟨g.toGd,λe=>dE e he2⟩
end
theorem Nt {n:Nat} {s:cQ} (hn:16*s.length+200<n):aW (zE n s) λr=>r.2.1=0->(∀x ∈ r.1.aM,WF x)/\vK r.1.aM<=s.length+1:=by
 unfold zE;refine (PJ za za).bind λx hx=>?_;refine aW.iteb (λh1=>.some λh=>?_) λh1=>?_
 ·rw [show x.2.1=0 from h] at h1;cases h1
 obtain ⟨l,h2,h3,h4,h5⟩:=hx (by simpa using h1);have hp:PI (aC.mk x.1 0 0 0 0):=⟨yz,by simp only [h2,nB,tF];omega,by simp only [h2,nB,tF];omega,⟨l,_,h2,h3,rfl⟩⟩
 have hl:Lf (aC.mk x.1 0 0 0 0)<=16*s.length+16:=by
  unfold Lf;simp only [h2,nB,tF];omega
 refine (zJ hp).bind λr ⟨g1,e1⟩=>?_;have e:r.1.aM=[]:=by rw [e1]
 have l1:=g1.lf;have k0:=g1.inv.lo;have k1:=g1.inv.hi;have k2:=g1.inv.lf;refine (VC n r.2 r.1 g1.inv za (by unfold Lf at l1 hl;omega) za (λ_=>by rw [e];simpa using k0) (by rw [e];simp)).bind λy ⟨g2,s2⟩=>?_;refine aW.iteb (λhe=>.some λh=>dE h (by simpa using he)) λhe=>.some λ_=>?_;obtain ⟨v1,v2⟩:=s2 (by simpa using he) (λy hy=>by rw [e] at hy;cases hy);refine ⟨v1,?_⟩;rw [e,oF] at v2;have m1:=g2.inv.hi;rw [g2.len,g1.len] at m1;simp only [h2,nB,tF] at m1;simp only;omega
