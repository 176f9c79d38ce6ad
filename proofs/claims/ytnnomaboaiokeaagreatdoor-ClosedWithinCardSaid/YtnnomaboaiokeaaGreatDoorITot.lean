import Derived.Test.YtnnomaboaiokeaaGreatDoorIGMm
import Derived.Lib.IndexLaws
namespace Go.Proofs.YtnnomaboaiokeaaGreatDoor.Abs
open IntKind (i64 u32 u64 u8)
open Go.RowKit
def bK {α:Type} (o:Option α) (Q:α->Prop):Prop:=∃r,o=some r/\Q r
section
variable {α β:Type} {o:Option α} {Q P:α->Prop}
theorem bK.some {r:α} (h:Q r):bK (some r) Q:=⟨r,rfl,h⟩
theorem bK.mono (h:bK o P) (k:∀x,P x->Q x):bK o Q:=by obtain ⟨r,e,hr⟩:=h;exact ⟨r,e,k r hr⟩
theorem bK.bind {f:α->Option β} {R:β->Prop} (h:bK o P) (k:∀x,P x->bK (f x) R):bK (o.bind f) R:=by
 obtain ⟨r,e,hr⟩:=h;subst e;exact k r hr
theorem bK.bind' {f:α->Option β} {R:β->Prop} (h:bK o λx=>bK (f x) R):bK (o.bind f) R:=h.bind λ_ k=>k
theorem bK.eqn {v:α} {f:α->Option β} {R:β->Prop} (h:o=Option.some v) (k:bK (f v) R):bK (o.bind f) R:=by subst h;exact k
theorem bK.need {c:Prop} [Decidable c] (hc:c) (h:bK o Q):bK (gY c o) Q:=by rw [uV hc];exact h
theorem bK.iteb {b:Bool} {x y:Option α} (h1:b=true->bK x Q) (h2:b=false->bK y Q):bK (if b=true then x else y) Q:=by
 cases b
 ·exact h2 rfl
 ·exact h1 rfl
theorem bK.elim {γ:Type} {s:β ⊕ γ} {f:β->Option α} {g:γ->Option α} (h1:∀x,s=.inl x->bK (f x) Q) (h2:∀x,s=.inr x->bK (g x) Q):bK (s.elim f g) Q:=by
 cases s
 ·exact h1 _ rfl
 ·exact h2 _ rfl
theorem bK.idx {l:List α} {i:Int} (h0:0<=i) (h1:i<l.length) (k:∀x,l[i.toNat]? = Option.some x->Q x):bK (bM l i) Q:=by
 unfold bM;rw [if_pos h0];refine ⟨l[i.toNat]'(by omega),uS (by omega),k _ (uS (by omega))⟩
end
theorem cR {n:Int} (h1:-9223372036854775808<=n) (h2:n<=9223372036854775807):i64.wrap n=n:=by
 rw [IntKind.wrap_i64];omega
theorem take_step' {α:Type} {l:List α} {j:Nat} {x:α} (h:l[j]? = some x):l.take (j+1)=l.take j++[x]:=by
 rw [List.take_add_one,h];rfl
theorem Me {α:Type} {p:α->Bool} {s:List α} {v:Nat} {x:α} (h:∀y ∈ s.take v,p y=true) (hx:s[v]? = some x) (hp:p x=false):s.takeWhile p=s.take v:=by
 obtain ⟨hv,rfl⟩:=uG.1 hx;have h1:(s.take v++s.drop v).takeWhile p=s.take v++(s.drop v).takeWhile p:=List.takeWhile_append_of_pos h;rw [xfi] at h1;rw [h1,MT hv,List.takeWhile_cons_of_neg (by simp [hp]),gS]
theorem find_at {α:Type} {p:α->Bool} {s:List α} {v:Nat} {x:α} (h:∀y ∈ s.take v,p y=false) (hx:s[v]? = some x) (hp:p x=true):s.find? p=some x:=by
 obtain ⟨hv,rfl⟩:=uG.1 hx
 have h1:(s.take v++s.drop v).find? p=(s.drop v).find? p:=by
  rw [List.find?_append,List.find?_eq_none.2 (λy hy=>by simp [h y hy])];rfl
 rw [xfi] at h1;rw [h1,MT hv,List.find?_cons_of_pos (by simp [hp])]
theorem IR {α:Type} {p:α->Bool} {s:List α} (h:∀y ∈ s,p y=true):s.takeWhile p=s:=by
 have:=List.takeWhile_append_of_pos (l₂:=[]) h;simpa using this
set_option linter.all false
def Uz (c:Int):Bool:=(decide (97<=c) && decide (c<=122)) || (c == 95)
def UA (c:Int):Bool:=decide (48<=c) && decide (c<=57)
def isBl (c:Int):Bool:=c == 32 || (c == 9 || (c == 13 || c == 10))
def RG (b:UInt8):Bool:=Uz b.toNat || UA b.toNat
theorem Vi (a:Int):Bj a=some (isBl a):=by
 unfold Bj isBl;cases a == 32 <;> cases a == 9 <;> cases a == 13 <;> rfl
theorem LU (a:Int):wB a=some (Uz a):=by
 unfold wB Uz;cases decide (97<=a) <;> cases decide (a<=122) <;> simp
theorem Oy (a:Int):zR a=some (UA a):=by
 unfold zR UA;cases decide (48<=a) <;> simp
theorem HJ (a b:cF):eX a b=some (decide (a.take b.length=b)):=by
 unfold eX
 by_cases h:(b.length:Int)<=a.length
 ·rw [if_pos (by simpa using h),uV ⟨by omega,h⟩];rfl
 ·rw [if_neg (by simpa using h),iJ,xeo];intro e;have:=congrArg List.length e;rw [Ji] at this;omega
theorem Ag (a b:cF):nT a b=some (decide (a.take b.length=b)):=by
 unfold nT;rw [HJ];rfl
theorem EX (a:cF) (c:Int):nS a c=some (Lib.indexByte a c.toNat.toUInt8):=rfl
theorem word_l1 (s:cF):∀(c:Nat) (v:Nat),s.length<v+c->v<=s.length->(∀y ∈ s.take v,RG y=true)->s.length<4611686018427387904 ->
  bK (CD s c v) (λr=>match r with | .inl _=>s.takeWhile RG=s | .inr t=>t=s.takeWhile RG):=by
 intro c
 induction c with
 | zero=>intro v h1 h2;omega
 | succ c ih=>
   intro v h1 h2 h3 hs;unfold CD;refine bK.iteb (λh4=>?_) (λh4=>?_)
   ·simp only [Bq] at h4;refine (bK.bind (P:=λy=>∃x,s[v]? = some x/\y=!RG x) ?_) ?_
    ·refine bK.bind' (bK.idx (by omega) h4 λx hx=>?_);rw [CS] at hx;rw [LU,iJ,Oy,iJ];refine bK.iteb (λh5=>.some ⟨x,hx,?_⟩) (λh5=>.some ⟨x,hx,?_⟩)
     ·simp only [QM] at h5;simp [RG,h5]
     ·simp only [Bool.not_eq_false'] at h5;simp [RG,h5]
    ·rintro y ⟨x,hx,rfl⟩;refine bK.iteb (λh5=>?_) (λh5=>?_)
     ·refine bK.need ⟨by omega,by omega⟩ (.some ?_);simp only [QM] at h5;rw [CS];exact (Me h3 hx h5).symm
     ·simp only [Bool.not_eq_false'] at h5;rw [cR (by omega) (by omega)];refine ih (v+1) (by omega) (by omega) ?_ hs;rw [take_step' hx];intro y hy
      rcases zH.1 hy with hy | hy
      ·exact h3 y hy
      ·rw [zG.1 hy];exact h5
   ·refine .some ?_;simp only [decide_eq_false_iff_not] at h4;rw [xer (by omega)] at h3;exact IR h3
theorem word_eq {n:Nat} {s:cF} (hn:s.length<n) (hs:s.length<4611686018427387904):DX n s=some (s.takeWhile RG):=by
 unfold DX;obtain ⟨r,e,hr⟩:=word_l1 s n 0 (by omega) (by omega) (by simp) hs;rw [show ((0:Nat):Int)=0 from rfl] at e;rw [e,iJ];cases r with
 | inl _=>rw [hr];rfl
 | inr t=>rw [hr];rfl
theorem sign_l1 (s:cF):∀(c:Nat) (v:Nat),26<v+c->v<=26->(∀y ∈ eV.take v,decide (s.take y.length=y)=false) ->
  bK (CE s c v) (λr=>match r with | .inl _=>eV.find? (λy=>decide (s.take y.length=y))=none | .inr t=>eV.find? (λy=>decide (s.take y.length=y))=some t):=by
 intro c
 induction c with
 | zero=>intro v h1 h2;omega
 | succ c ih=>
   intro v h1 h2 h3;unfold CE;refine bK.iteb (λh4=>?_) (λh4=>?_)
   ·simp only [Bq] at h4;refine bK.bind' (bK.idx (by omega) (by have:eV.length=26:=rfl;omega) λx hx=>?_);rw [CS] at hx;rw [Ag,iJ];refine bK.iteb (λh5=>.some ?_) (λh5=>?_)
    ·exact find_at h3 hx h5
    ·rw [cR (by omega) (by omega)];refine ih (v+1) (by omega) (by omega) ?_;rw [take_step' hx];intro y hy
     rcases zH.1 hy with hy | hy
     ·exact h3 y hy
     ·rw [zG.1 hy];exact h5
   ·refine .some ?_;simp only [decide_eq_false_iff_not] at h4;rw [xer (by have:eV.length=26:=rfl;omega)] at h3;exact List.find?_eq_none.2 λy hy=>by simpa using h3 y hy
def HS (s:cF):cF:=(eV.find? (λy=>decide (s.take y.length=y))).getD []
theorem sign_eq {n:Nat} {s:cF} (hn:26<n):DY n s=some (HS s):=by
 unfold DY HS;obtain ⟨r,e,hr⟩:=sign_l1 s n 0 (by omega) (by omega) (by simp);rw [show ((0:Nat):Int)=0 from rfl] at e;rw [e,iJ];cases r with
 | inl _=>rw [hr];rfl
 | inr t=>rw [hr];rfl
theorem OW (s:cF):HS s=[] ∨ 1<=(HS s).length/\(HS s).length<=s.length:=by
 unfold HS;cases h:eV.find? (λy=>decide (s.take y.length=y)) with
 | none=>exact .inl rfl
 | some y=>
   have h1:=List.find?_some h;have h2:=List.mem_of_find?_eq_some h;simp only [Bq] at h1;have h3:=congrArg List.length h1;rw [Ji] at h3;have h4:(eV.all λy=>decide (1<=y.length))=true:=by decide
   have h5:=Iu.1 h4 y h2;simp only [Bq] at h5;exact .inr ⟨h5,by show y.length<=_;omega⟩
theorem skip_l1 (s:cF) (hs:s.length<4611686018427387904):∀(c:Nat) (v:Nat),s.length<v+c->v<=s.length->bK (Ao s c v) (λr=>∃k:Nat,v<=k/\k<=s.length/\(r=.inl (k:Int) ∨ r=.inr (k:Int))):=by
 intro c
 induction c with
 | zero=>intro v h1 h2;omega
 | succ c ih=>
   intro v h1 h2;unfold Ao;refine bK.iteb (λh4=>?_) (λh4=>.some ⟨v,by omega,h2,.inl rfl⟩);simp only [Bq] at h4;refine bK.bind' (bK.idx (by omega) h4 λx hx=>?_);rw [CS] at hx;rw [Vi,iJ];refine bK.iteb (λh5=>?_) (λh5=>?_)
   ·rw [cR (by omega) (by omega)];exact (ih (v+1) (by omega) (by omega)).mono λr ⟨k,h6,h7,h8⟩=>⟨k,by omega,h7,h8⟩
   ·refine bK.need ⟨by omega,by omega⟩ ?_;rw [CS,Ag,iJ];refine bK.iteb (λh6=>?_) (λh6=>.some ⟨v,by omega,h2,.inr rfl⟩);simp only [Bq] at h6;refine bK.need ⟨by omega,by omega⟩ ?_;rw [EX,iJ];refine bK.iteb (λh7=>.some ⟨s.length,h2,by omega,.inr rfl⟩) (λh7=>?_);simp only [decide_eq_false_iff_not,Int.not_lt] at h7;obtain ⟨o,ho⟩:=xen h7;rw [ho];obtain ⟨h8,h9⟩:=Lib.indexByte_some ho;have h10:o<(s.drop v).length:=(uG.1 h8).1;rw [OI] at h10
    have h11:o ≠ 0:=by
     rintro rfl;have h12:=congrArg (·[0]?) h6;simp only [xfj (show 0<([47,47]:cF).length by decide)] at h12;rw [h8] at h12
     revert h12;decide
    rw [cR (by omega) (by omega)];exact (ih (v+o) (by omega) (by omega)).mono λr ⟨k,h6,h7,h8⟩=>⟨k,by omega,h7,h8⟩
theorem Nt {n:Nat} {s:cF} {v:Nat} (hs:s.length<4611686018427387904) (hn:s.length<v+n) (hv:v<=s.length):bK (BJ n s v) λr=>∃k:Nat,v<=k/\k<=s.length/\r=k:=by
 unfold BJ;refine (skip_l1 s hs n v hn hv).bind λr ⟨k,h1,h2,h3⟩=>?_
 rcases h3 with rfl | rfl <;> exact .some ⟨k,h1,h2,rfl⟩
theorem Tj (x:cF × Bool) (hs:x.1.length<4611686018427387904):∀(c:Nat) (t:Int) (v:Nat),x.1.length<v+c->v<=x.1.length->bK (Bd x c t v) λr=>∀x,r=.inr x->x=((0:Int),false):=by
 intro c
 induction c with
 | zero=>intro t v h1 h2;omega
 | succ c ih=>
   intro t v h1 h2;unfold Bd;refine bK.iteb (λh4=>?_) (λh4=>.some λ_ h=>nomatch h);simp only [Bq] at h4;refine bK.need (by decide) ?_;refine bK.bind' (bK.idx (by omega) h4 λy hy=>?_);rw [EX,iJ];refine bK.bind (P:=λ_=>True) (bK.iteb (λ_=>.some trivial) λ_=>.some trivial) λy _=>?_;refine bK.iteb (λ_=>.some λ_ h=>(Sum.inr.inj h).symm) λ_=>?_;rw [cR (n:=(v:Int)+1) (by omega) (by omega)];exact ih _ (v+1) (by omega) (by omega)
theorem Ti (s:cF) (hs:s.length<4611686018427387904):∀(c:Nat) (t:Int) (v:Nat),s.length<v+c->v<=s.length->bK (Bc s c t v) λr=>∀x,r=.inr x->x=((0:Int),false):=by
 intro c
 induction c with
 | zero=>intro t v h1 h2;omega
 | succ c ih=>
   intro t v h1 h2;unfold Bc;refine bK.iteb (λh4=>?_) (λh4=>.some λ_ h=>nomatch h);simp only [Bq] at h4;refine bK.need (by decide) ?_;refine bK.bind' (bK.idx (by omega) h4 λy hy=>?_);rw [EX,iJ];refine bK.bind (P:=λ_=>True) (bK.iteb (λ_=>.some trivial) λ_=>.some trivial) λy _=>?_;refine bK.iteb (λ_=>.some λ_ h=>(Sum.inr.inj h).symm) λ_=>?_;rw [cR (n:=(v:Int)+1) (by omega) (by omega)];exact ih _ (v+1) (by omega) (by omega)
theorem MO (a b:cF):pT a b=some (if a.take b.length=b then (a.drop b.length,true) else (a,false)):=by
 unfold pT iP;rw [HJ,iJ]
 by_cases h:a.take b.length=b
 ·rw [AB h,if_neg (by decide),if_pos h,uV]
  ·rfl
  ·have:=congrArg List.length h;rw [Ji] at this;omega
 ·rw [xeo h,if_pos (by decide),if_neg h];rfl
theorem QU {n:Nat} {s:cF} (hs:s.length<4611686018427387904) (hn:s.length<n):bK (Bi n s) λr=>0<=r.1/\r.1<=4294967295:=by
 have hw:∀v:Int,0<=u32.wrap v/\u32.wrap v<=4294967295:=λv=>by rw [IntKind.wrap_u32];omega
 unfold Bi;rw [MO,iJ]
 have hl:∀x:cF × Bool,x=(if s.take ([48,120]:cF).length=([48,120]:cF) then (s.drop ([48,120]:cF).length,true) else (s,false))->x.1.length<=s.length:=by
  rintro x rfl
  split
  ·rw [OI];omega
  ·exact rM _
 generalize (if s.take ([48,120]:cF).length=([48,120]:cF) then (s.drop ([48,120]:cF).length,true) else (s,false))=x at hl
 have hx:=hl x rfl;refine bK.iteb (λ_=>?_) λ_=>?_
 ·exact (Tj x (by omega) n 0 0 (by omega) (by omega)).bind λr hr=>bK.elim (λ_ _=>.some (hw _)) λz h=>.some (by rw [hr z h];decide)
 ·exact (Ti s (by omega) n 0 0 (by omega) (by omega)).bind λr hr=>bK.elim (λ_ _=>.some (hw _)) λz h=>.some (by rw [hr z h];decide)
theorem Ua {n:Nat} {s:cF} {v:Nat} (hs:s.length<4611686018427387904) (hn:s.length<n) (hn2:26<n) (hv:v<s.length) :
  bK (DZ n s v) λr=>r.2=0->(r.1.bS=1 ∨ r.1.bS=2 ∨ r.1.bS=3)/\r.1.eU=v/\1<=r.1.cX.length/\v+r.1.cX.length<=s.length/\0<=r.1.oM/\r.1.oM<=4294967295:=by
 unfold DZ;refine bK.need ⟨by omega,by omega⟩ ?_;rw [CS,word_eq (by rw [OI];omega) (by rw [OI];omega),iJ];refine bK.bind' (bK.idx (by omega) (by omega) λx hx=>?_);rw [CS] at hx
 have hd:s.drop v=x::s.drop (v+1):=by
  obtain ⟨h1,rfl⟩:=uG.1 hx;exact MT h1
 have hle:((s.drop v).takeWhile RG).length<=s.length - v:=by
  have:=(List.takeWhile_prefix (l:=s.drop v) RG).length_le
  rwa [OI] at this
 have hpos:RG x=true->1<=((s.drop v).takeWhile RG).length:=by
  intro h;rw [hd,List.takeWhile_cons_of_pos h,dT];omega
 rw [LU,iJ];refine bK.iteb (λh1=>bK.iteb (λ_=>.some λh=>by cases h) λ_=>.some λ_=>⟨.inl rfl,rfl,hpos (by simp [RG,h1]),by simp only;omega,by simp only;omega,by simp only;omega⟩) λh1=>?_;rw [Oy,iJ];refine bK.iteb (λh2=>?_) λh2=>?_
 ·refine (QU (by omega) (by omega)).bind λy hy=>bK.iteb (λ_=>.some λh=>by cases h) λ_=>.some λ_=>⟨.inr (.inl rfl),rfl,hpos (by simp [RG,h2]),by simp only;omega,hy.1,hy.2⟩
 ·refine bK.need ⟨by omega,by omega⟩ ?_;rw [sign_eq hn2,iJ];refine bK.iteb (λ_=>.some λh=>by cases h) λh3=>.some λ_=>⟨.inr (.inr rfl),rfl,?_⟩;have h4:=OW (s.drop v);simp only [decide_eq_false_iff_not] at h3
  rcases h4 with h4 | h4
  ·exact absurd h4 h3
  ·rw [OI] at h4;exact ⟨h4.1,by simp only;omega,by simp only;omega,by simp only;omega⟩
def Ot (l:List dE):Prop:=∀t ∈ l,(t.bS=1 ∨ t.bS=2 ∨ t.bS=3)/\t.cX ≠ []/\0<=t.oM/\t.oM<=4294967295
theorem Sm {n:Nat} {s:cF} (hs:s.length<=65536) (hn:s.length<n) (hn2:26<n):∀(c:Nat) (l:List dE) (v:Nat),s.length<v+c->v<=s.length->Ot l->l.length<=v ->
  bK (zY n s c l v) λr=>match r with | .inl l=>Ot l/\l.length<=s.length | .inr x=>x.2.1 ≠ 0:=by
 intro c
 induction c with
 | zero=>intro l v h1 h2;omega
 | succ c ih=>
   intro l v h1 h2 h3 h4;unfold zY;refine bK.iteb (λh5=>?_) λh5=>.some ⟨h3,by omega⟩;simp only [Bq] at h5;refine (Ua (by omega) hn hn2 (by omega)).bind λx hx=>?_;refine bK.iteb (λh6=>.some (by simpa using h6)) λh6=>?_;obtain ⟨k1,k2,k3,k4,k5⟩:=hx (by simpa using h6);refine bK.need (by simp only [uF];omega) ?_;rw [cR (by omega) (by omega)];refine (Nt (v:=v+x.1.cX.length) (by omega) (by omega) k4).bind λr ⟨k,h7,h8,h9⟩=>?_;subst h9;refine ih _ k (by omega) h8 ?_ (by simp only [mB,uF];omega);intro t ht
   rcases zH.1 ht with ht | ht
   ·exact h3 t ht
   ·rw [zG.1 ht];exact ⟨k1,λe=>by rw [e] at k3;simp at k3,k5⟩
theorem PN {n:Nat} {s:cF} (hn:s.length<n) (hn2:26<n):bK (zQ n s) λr=>r.2.1=0->∃l,r.1=l++[⟨4,s.length,[],0⟩]/\Ot l/\l.length<=s.length/\s.length<=65536:=by
 unfold zQ;refine bK.iteb (λ_=>.some λh=>by cases h) λh1=>?_;simp only [decide_eq_false_iff_not,Int.not_lt] at h1;refine (Nt (v:=0) (by omega) (by omega) (by omega)).bind λr ⟨k,h2,h3,h4⟩=>?_;subst h4;refine (Sm (by omega) hn hn2 n [] k (by omega) h3 (by simp [Ot]) (by simp)).bind λy hy=>?_;refine bK.elim (λz e=>?_) (λz e=>?_)
 ·subst e;refine bK.need (by simp only [uF];omega) (.some λ_=>⟨z,rfl,hy.1,hy.2,by omega⟩)
 ·subst e;exact .some λh=>absurd h hy
abbrev Nd:=aD
mutual
def sz:aD->Int
 | ⟨_,_,_,_,l⟩=>1+vT l
def vT:List aD->Int
 | []=>0
 | x::l=>sz x+vT l
end
theorem gO {a b:Int} {c:cF} {d:Int} {l:List aD}:sz ⟨a,b,c,d,l⟩=1+vT l:=by rw [sz]
theorem oR:vT []=0:=by rw [vT]
theorem vB {x:aD} {l:List aD}:vT (x::l)=sz x+vT l:=by rw [vT]
theorem Fs (x:aD):sz x=1+vT x.aO:=by cases x;rw [sz]
theorem FZ {a b:List aD}:vT (a++b)=vT a+vT b:=by
 induction a with
 | nil=>rw [gC,oR,Int.zero_add]
 | cons x a ih=>rw [iD,vB,vB,ih,Int.add_assoc]
theorem sZ {x:aD}:vT [x]=sz x:=by rw [vB,oR,Int.add_zero]
theorem Iz {x y:aD}:vT [x,y]=sz x+sz y:=by rw [vB,sZ]
theorem Ls {x y z:aD}:vT [x,y,z]=sz x+sz y+sz z:=by rw [vB,Iz,Int.add_assoc]
mutual
theorem rO:∀x:aD,1<=sz x
 | ⟨_,_,_,_,l⟩=>by rw [sz];have:=pL l;omega
theorem pL:∀l:List aD,(l.length:Int)<=vT l
 | []=>by rw [vT];exact Sy _
 | x::l=>by rw [vT,dT];have:=pL l;have:=rO x;omega
end
theorem JG {l:List aD} {k:aD} (h:k ∈ l):sz k<=vT l:=by
 obtain ⟨a,b,rfl⟩:=SU h;rw [FZ,vB];have h1:=pL a;have h2:=pL b;omega
def HR:List cF:=[[124],[94],[38],[61,61],[60],[60,60],[62,62],[60,60,60],[43],[45],[42],[47],[37]]
inductive WE:Nd->Prop
 | num {a n}:0<=n->n<=4294967295->WE ⟨14,a,[],n,[]⟩
 | ref {a s}:WE ⟨15,a,s,0,[]⟩
 | index {a s x}:WE x->WE ⟨16,a,s,0,[x]⟩
 | un {a s x}:(s=[126] ∨ s=[45])->WE x->WE ⟨18,a,s,0,[x]⟩
 | bin {a s x y}:s ∈ HR->WE x->WE y->WE ⟨19,a,s,0,[x,y]⟩
 | call {a s xs}:(∀x ∈ xs,WE x)->WE ⟨17,a,s,0,xs⟩
inductive WS:Nd->Prop
 | bind {k a s x}:(k=5 ∨ k=6)->WE x->WS ⟨k,a,s,0,[x]⟩
 | arr {a s n}:WS ⟨7,a,s,n,[]⟩
 | ret {a x}:WE x->WS ⟨13,a,[],0,[x]⟩
 | choice {a c b ys}:WE c->(∀y ∈ ys,WS y)->WS ⟨11,a,[],0,[c,⟨4,b,[],0,ys⟩]⟩
 | choice2 {a c b ys b2 zs}:WE c->(∀y ∈ ys,WS y)->(∀z ∈ zs,WS z)->WS ⟨11,a,[],0,[c,⟨4,b,[],0,ys⟩,⟨4,b2,[],0,zs⟩]⟩
 | loop {a s x y b ys}:WE x->WE y->(∀y ∈ ys,WS y)->WS ⟨12,a,s,0,[x,y,⟨4,b,[],0,ys⟩]⟩
 | call {a s xs}:(∀x ∈ xs,WE x)->WS ⟨10,a,s,0,xs⟩
 | put {a s i x}:WE i->WE x->WS ⟨9,a,s,0,[i,x]⟩
 | set {a s x}:WE x->WS ⟨8,a,s,0,[x]⟩
inductive WP:Nd->Prop
 | word {a s k}:(k=1 ∨ k=2 ∨ k=3)->WP ⟨3,a,s,k,[]⟩
 | arr {a s b n}:WP ⟨3,a,s,4,[⟨14,b,[],n,[]⟩]⟩
inductive WF:Nd->Prop
 | fn {a s r ps b ys}:(∀p ∈ ps,WP p)->(∀y ∈ ys,WS y)->WF ⟨2,a,s,r,ps++[⟨4,b,[],0,ys⟩]⟩
theorem Uj {α:Type} {x:α}:x ∈ [x]:=zG.2 rfl
structure PI (p:aE):Prop where
 lo:0<=p.fW
 hi:p.fW<p.l_.length
 big:p.l_.length<=65537
 toks:∃l z,p.l_=l++[z]/\Ot l/\z.bS=4
structure Gd (p p':aE):Prop where
 inv:PI p'
 l:p'.l_=p.l_
 at':p.fW<=p'.fW
 err':p.e_ ≠ 0->p'.e_=p.e_/\p'.fW=p.fW
structure GA (p p':aE):Prop extends Gd p p' where
 adv:p'.e_=0->p.fW<p'.fW
theorem Gd.err {p q:aE} (h:Gd p q):p.e_ ≠ 0->q.e_ ≠ 0/\q.fW=p.fW:=λhe=>⟨by rw [(h.err' he).1];exact he,(h.err' he).2⟩
theorem Gd.refl {p:aE} (h:PI p):Gd p p:=⟨h,rfl,Sy _,λh=>⟨rfl,rfl⟩⟩
theorem Gd.trans {p q r:aE} (h:Gd p q) (k:Gd q r):Gd p r:=⟨k.inv,k.l.trans h.l,Int.le_trans h.at' k.at',λhe=>⟨(k.err' (h.err he).1).1.trans (h.err' he).1,(k.err' (h.err he).1).2.trans (h.err' he).2⟩⟩
theorem Gd.e0 {p q:aE} (h:Gd p q) (he:q.e_=0):p.e_=0:=Classical.byContradiction λhn=>(h.err hn).1 he
theorem Gd.ga {p q r:aE} (h:Gd p q) (k:GA q r):GA p r:=⟨h.trans k.toGd,λhe=>Int.lt_of_le_of_lt h.at' (k.adv he)⟩
theorem GA.gd {p q r:aE} (h:GA p q) (k:Gd q r):GA p r:=⟨h.toGd.trans k,λhe=>Int.lt_of_lt_of_le (h.adv (k.e0 he)) k.at'⟩
theorem GA.ga {p q r:aE} (h:GA p q) (k:GA q r):GA p r:=h.gd k.toGd
theorem Gd.len {p q:aE} (h:Gd p q):q.l_.length=p.l_.length:=by rw [h.l]
section
variable {p:aE} {n:Nat}
theorem wH (h:PI p):bK (dG p) λt=>t.bS ≠ 4->p.fW+1<p.l_.length:=by
 unfold dG;refine bK.bind' (bK.idx h.lo h.hi λx hx=>.some λhk=>?_);obtain ⟨l,z,h1,h2,h3⟩:=h.toks;have h4:=h.lo;have h5:=h.hi;rw [h1] at hx h5 ⊢;simp only [mB,uF] at h5 ⊢
 by_cases h6:p.fW.toNat=l.length
 ·rw [Ma (by omega),h6,xes] at hx;simp at hx
  subst hx;exact absurd h3 hk
 ·omega
theorem FL (h:PI p) {e:Int} (he:e ≠ 0):bK (gN p e) λq=>Gd p q/\q.e_ ≠ 0:=by
 unfold gN;refine bK.iteb (λh1=>?_) λh1=>.some ⟨.refl h,by simpa using h1⟩;simp only [beq_iff_eq] at h1;exact (wH h).bind λt _=>.some ⟨⟨⟨h.lo,h.hi,h.big,h.toks⟩,rfl,Sy _,λhn=>absurd h1 hn⟩,he⟩
theorem An (h:PI p) {k:Int}:bK (eJ p k) λr=>Gd p r.2/\r.1=⟨k,r.1.eU,[],0,[]⟩:=by
 unfold eJ;have hp:PI { p with zP:=(i64.wrap (p.zP+(1:Int))) }:=⟨h.lo,h.hi,h.big,h.toks⟩;have hg:Gd p { p with zP:=(i64.wrap (p.zP+(1:Int))) }:=⟨hp,rfl,Sy _,λhn=>⟨rfl,rfl⟩⟩;refine bK.iteb (λh1=>?_) λh1=>?_
 ·exact (FL hp (by decide)).bind λq ⟨g,_⟩=>(wH g.inv).bind λt _=>.some ⟨hg.trans g,rfl⟩
 ·exact (wH hp).bind λt _=>.some ⟨hg,rfl⟩
theorem VA (l:List cF) (s:cF) (hl:l.length<1000):∀(c:Nat) (v:Nat),l.length<v+c->v<=l.length->(∀y ∈ l.take v,decide (s=y)=false) ->
  bK (kW l s c v) λr=>match r with | .inl _=>(l.any λy=>decide (s=y))=false | .inr k=>0<=k/\(l.any λy=>decide (s=y))=true:=by
 intro c
 induction c with
 | zero=>intro v h1 h2;omega
 | succ c ih=>
   intro v h1 h2 h3;unfold kW;refine bK.iteb (λh4=>?_) (λh4=>?_)
   ·simp only [Bq] at h4;refine bK.bind' (bK.idx (by omega) h4 λx hx=>?_);rw [CS] at hx;refine bK.iteb (λh5=>.some ⟨by omega,?_⟩) (λh5=>?_)
    ·exact xex.2 ⟨x,CT hx,h5⟩
    ·rw [cR (by omega) (by omega)];refine ih (v+1) (by omega) (by omega) ?_;rw [take_step' hx];intro y hy
     rcases zH.1 hy with hy | hy
     ·exact h3 y hy
     ·rw [zG.1 hy];exact h5
   ·refine .some ?_;simp only [decide_eq_false_iff_not] at h4;rw [xer (by omega)] at h3;exact List.any_eq_false.2 λy hy=>by simp [h3 y hy]
def Uy (s:cF):Bool:=cD.any λy=>decide (s=y)
theorem QC {s:cF} (hn:13<n):wA n s=some (Uy s):=by
 unfold wA iF jW;obtain ⟨r,e,hr⟩:=VA cD s (by decide) n 0 (by have:cD.length=13:=rfl;omega) (by omega) (by simp);rw [show ((0:Nat):Int)=0 from rfl] at e;rw [e,iJ];unfold Uy;cases r with
 | inl _=>rw [hr];rfl
 | inr k=>
   rw [hr.2];simp only [xep,iJ,Option.some.injEq,Bq];exact hr.1
theorem Kh (h:PI p) (hn:13<n) {s:cF}:bK (iR n p s) λb=>b=true->p.e_=0/\p.fW+1<p.l_.length:=by
 unfold iR;refine (wH h).bind λt ht=>?_;refine bK.bind (P:=λb=>b=true->p.e_=0/\p.fW+1<p.l_.length) ?_ λb hb=>.some hb;refine bK.iteb (λh1=>?_) λh1=>.some λh=>by cases h
 simp only [beq_iff_eq] at h1;refine bK.iteb (λh2=>?_) λh2=>.some λh=>by cases h
 refine bK.iteb (λh3=>.some λ_=>⟨h1,ht ?_⟩) λh3=>?_
 ·simp only [beq_iff_eq] at h3;omega
 refine bK.iteb (λh4=>?_) λh4=>.some λh=>by cases h
 rw [QC hn,iJ];refine .some λ_=>⟨h1,ht ?_⟩;simp only [beq_iff_eq] at h4;omega
theorem Mf (h:PI p) (he:p.e_=0) (hk:p.fW+1<p.l_.length):i64.wrap (p.fW+(1:Int))=p.fW+1/\GA p { p with fW:=p.fW+1 }:=by
 have h1:=h.lo;have h2:=h.big;refine ⟨cR (by omega) (by omega),⟨⟨⟨by simp only;omega,by simpa using hk,h.big,h.toks⟩,rfl,by simp only;omega,λhn=>absurd he hn⟩,λ_=>by simp only;omega⟩⟩
theorem lX (h:PI p) (hn:13<n) {s:cF}:bK (bV n p s) λr=>Gd p r.2/\(r.1=true->p.e_=0/\GA p r.2/\r.2.e_=0)/\(r.1=false->r.2=p):=by
 unfold bV;refine (Kh h hn).bind λb hb=>?_;refine bK.iteb (λh1=>.some ⟨.refl h,(λh=>by cases h),λ_=>rfl⟩) λh1=>?_;simp only [Bool.not_eq_false'] at h1;obtain ⟨h2,h3⟩:=hb h1;obtain ⟨h4,h5⟩:=Mf h h2 h3;rw [h4];exact .some ⟨h5.toGd,λ_=>⟨h2,h5,h2⟩,λh=>by cases h⟩
theorem jZ (h:PI p) (hn:13<n) {s:cF}:bK (bR n p s) λq=>GA p q:=by
 unfold bR;refine (lX h hn).bind λr ⟨h1,h2,h3⟩=>?_;refine bK.iteb (λh4=>?_) λh4=>.some (h2 (by simpa using h4)).2.1;exact (FL h1.inv (by decide)).bind λq ⟨g,he⟩=>.some ⟨h1.trans g,λh=>absurd h he⟩
theorem BG (h:PI p) (hn:13<n):bK (dX n p) λr=>GA p r.2:=by
 unfold dX;refine (wH h).bind λt ht=>?_;refine bK.bind (P:=λb=>b=false->p.e_=0/\t.bS=1) ?_ λb hb=>?_
 ·refine bK.iteb (λh1=>.some λh=>by cases h) λh1=>?_;refine bK.iteb (λh2=>.some λh=>by cases h) λh2=>?_;rw [QC hn,iJ];exact .some λ_=>⟨by simpa using h1,by simpa using h2⟩
 ·refine bK.iteb (λh1=>?_) λh1=>?_
  ·exact (FL h (by decide)).bind λq ⟨g,he⟩=>.some ⟨g,λh=>absurd h he⟩
  ·obtain ⟨h2,h3⟩:=hb h1;obtain ⟨h4,h5⟩:=Mf h h2 (ht (by omega));rw [h4];exact .some h5
theorem QW (h:PI p):bK (dG p) λt=>t.bS ≠ 4->p.fW+1<p.l_.length/\0<=t.oM/\t.oM<=4294967295:=by
 obtain ⟨t,e,ht⟩:=wH h;refine ⟨t,e,λhk=>⟨ht hk,?_⟩⟩;unfold dG at e;obtain ⟨x,hx,e⟩:=aI e;obtain rfl:=bU e;obtain ⟨l,z,h1,h2,h3⟩:=h.toks;obtain ⟨_,_,hx⟩:=bZ hx;rw [h1] at hx
 rcases zH.1 (CT hx) with hm | hm
 ·exact (h2 _ hm).2.2
 ·rw [zG.1 hm] at hk;exact absurd h3 hk
theorem JR (h:PI p):bK (kI p) λr=>GA p r.2/\0<=r.1/\r.1<=4294967295:=by
 unfold kI;refine (QW h).bind λt ht=>?_;refine bK.bind (P:=λb=>b=false->p.e_=0/\t.bS=2) ?_ λb hb=>?_
 ·refine bK.iteb (λh1=>.some λh=>by cases h) λh1=>.some λh=>⟨by simpa using h1,by simpa using h⟩
 ·refine bK.iteb (λh1=>?_) λh1=>?_
  ·exact (FL h (by decide)).bind λq ⟨g,he⟩=>.some ⟨⟨g,λh=>absurd h he⟩,by simp only;omega,by simp only;omega⟩
  ·obtain ⟨h2,h3⟩:=hb h1;obtain ⟨h4,h5⟩:=Mf h h2 (ht (by omega)).1;rw [h4];exact .some ⟨h5,(ht (by omega)).2⟩
theorem Nu (h:PI p) (hn:13<n):bK (mD n p) λr=>GA p r.2:=by
 unfold mD;exact (jZ h hn).bind λq g1=>(JR g1.inv).bind λr ⟨g2,_⟩=>(jZ g2.inv hn).bind λs g3=>.some (g1.ga (g2.ga g3))
theorem TU (hn:13<n):∀(c:Nat) (v:Nat) (p:aE) (x y:aD),3<v+c->v<=3->PI p->bK (pX n c v p x y) λr=>match r with | .inl s=>Gd p s.1/\s.2.2=y | .inr s=>Gd p s.2/\∃k,(k=1 ∨ k=2 ∨ k=3)/\s.1={ y with oM:=k }:=by
 intro c
 induction c with
 | zero=>intro v p x y h1 h2;omega
 | succ c ih=>
   intro v p x y h1 h2 h;unfold pX;refine bK.iteb (λh4=>?_) λh4=>.some ⟨.refl h,rfl⟩;simp only [Bq] at h4;refine bK.bind' (bK.idx (by omega) (by have:kQ.length=3:=rfl;omega) λz hz=>?_);refine (lX h hn).bind λr ⟨g1,g2,g3⟩=>?_;refine bK.iteb (λ_=>.some ⟨g1,_,?_,rfl⟩) λ_=>?_
   ·have h5:v=0 ∨ v=1 ∨ v=2:=by omega
    rcases h5 with rfl | rfl | rfl <;> decide
   rw [cR (by omega) (by omega)];refine (ih (v+1) r.2 x y (by omega) (by omega) g1.inv).mono λs hs=>?_;cases s with
   | inl s=>exact ⟨g1.trans hs.1,hs.2⟩
   | inr s=>exact ⟨g1.trans hs.1,hs.2⟩
theorem RB (h:PI p) (hn:13<n):bK (nD n p) λr=>GA p r.2/\(r.2.e_=0->WP r.1/\sz r.1<=r.2.fW - p.fW):=by
 unfold nD;refine (An h).bind λr ⟨g1,e1⟩=>(BG g1.inv hn).bind λs g2=>(jZ g2.inv hn).bind λq g3=>?_;refine (TU hn n 0 q _ _ (by omega) (by omega) g3.inv).bind λy hy=>?_;have g4:=g1.ga (g2.ga g3);refine bK.elim (λz e=>?_) λz e=>?_
 ·subst e;obtain ⟨hy,hz⟩:=hy;refine (An hy.inv).bind λr ⟨g5,e5⟩=>(Nu g5.inv hn).bind λs g6=>.some ⟨(g4.gd hy).ga (g5.ga g6),λe=>?_⟩;have m6:=g6.adv e;have e6:=(g5.ga g6).toGd.e0 e;have e7:=hy.e0 e6;have m3:=g3.adv e7;have m2:=g2.adv (g3.toGd.e0 e7);have m1:=g1.at';have m5:=g5.at';have m4:=hy.at';rw [hz,e1,e5];exact ⟨.arr,by rw [gO,sZ,gO,oR];simp only;omega⟩
 ·subst e;obtain ⟨hy,k,hk,hz⟩:=hy;refine .some ⟨g4.gd hy,λe=>?_⟩;have e7:=hy.e0 e;have m3:=g3.adv e7;have m1:=g1.at';have m2:=g2.at';have m4:=hy.at';rw [hz,e1];exact ⟨.word hk,by rw [gO,oR];omega⟩
theorem KY (hn:13<n):∀(c:Nat) (l:List aD) (p:aE),PI p->(p.l_.length:Int) - p.fW<c->(l.length:Int)<=p.fW->bK (mI n c l p) λr=>Gd p r.2/\(r.1.length:Int)<=r.2.fW+1/\(r.2.e_=0->(∀x ∈ l,WP x)->(∀x ∈ r.1,WP x)/\vT r.1<=vT l+(r.2.fW - p.fW)):=by
 intro c
 induction c with
 | zero=>intro l p h h1 h2;have:=h.hi;omega
 | succ c ih=>
   intro l p h h1 h2;have k1:=h.lo;have k2:=h.hi;have k3:=h.big;unfold mI;refine bK.iteb (λh4=>?_) λh4=>.some ⟨.refl h,by simp only;omega,λ_ hl=>⟨hl,by simp only;omega⟩⟩;refine (RB h hn).bind λx ⟨g1,gx⟩=>?_;refine bK.need (by simp only [uF];omega) ?_;refine (lX g1.inv hn).bind λr ⟨g2,g3,_⟩=>?_;have m1:=g1.at';have m2:=g2.at'
   have hx:r.2.e_=0->(∀x ∈ l,WP x)->(∀y ∈ l++[x.1],WP y)/\vT (l++[x.1])<=vT l+(r.2.fW - p.fW):=λe hl=>by
    obtain ⟨w1,w2⟩:=gx (g2.e0 e);refine ⟨λy hy=>?_,by rw [FZ,sZ];omega⟩
    rcases zH.1 hy with hy | hy
    ·exact hl y hy
    ·obtain rfl:=zG.1 hy;exact w1
   refine bK.iteb (λh5=>.some ⟨g1.toGd.trans g2,by simp only [mB,uF];omega,hx⟩) λh5=>?_;have g4:=g3 (by simpa using h5);have g5:=g1.ga g4.2.1;have m3:=g1.adv g4.1;have m4:=g1.toGd.trans g2;refine (ih _ r.2 g2.inv (by rw [m4.len];omega) (by simp only [mB,uF];omega)).mono λs ⟨s1,s2,s3⟩=>⟨g5.toGd.trans s1,s2,λe hl=>?_⟩;obtain ⟨v1,v2⟩:=hx (s1.e0 e) hl;obtain ⟨v3,v4⟩:=s3 e v1;exact ⟨v3,by omega⟩
theorem JU (h:PI p) (hn:13<n) (hb:(p.l_.length:Int) - p.fW<n):bK (fG n p) λr=>GA p r.2/\r.1.length<=65538/\(r.2.e_=0->(∀x ∈ r.1,WP x)/\vT r.1<=r.2.fW - p.fW):=by
 unfold fG;refine (jZ h hn).bind λq g1=>(lX g1.inv hn).bind λr ⟨g2,g3,g4⟩=>?_;have m1:=g1.at';have m2:=g2.at';refine bK.iteb (λh5=>.some ⟨g1.gd g2,by simp,λ_=>⟨(λx hx=>nomatch hx),by rw [oR];simp only;omega⟩⟩) λh5=>?_;have g5:=g1.gd g2;have k0:=g2.inv.lo;refine bK.bind (P:=λy=>Gd r.2 y.2/\y.1.length<=65538/\(y.2.e_=0->(∀x ∈ y.1,WP x)/\vT y.1<=y.2.fW - r.2.fW)) ?_ λy ⟨g6,m3,m4⟩=>?_
 ·refine (KY hn n [] r.2 g2.inv (by rw [g5.len];omega) (by simpa using k0)).bind λy ⟨y1,y2,y3⟩=>.some ⟨y1,?_,λe=>?_⟩
  ·have k1:=y1.inv.hi;have k2:=y1.inv.big;show y.1.length<=_;omega
  ·obtain ⟨w1,w2⟩:=y3 e (λx hx=>nomatch hx);exact ⟨w1,by rw [oR] at w2;simp only;omega⟩
 ·refine (jZ g6.inv hn).bind λs g7=>.some ⟨(g5.gd g6).ga g7,m3,λe=>?_⟩;obtain ⟨w1,w2⟩:=m4 (g7.toGd.e0 e);have m5:=g7.at';exact ⟨w1,by simp only;omega⟩
theorem Ol (h:PI p) {a:Int}:bK (mF p a) λq=>Gd p q:=by
 unfold mF;refine bK.iteb (λ_=>?_) λ_=>.some (.refl h);exact (FL h (by decide)).bind λq ⟨g,_⟩=>.some g
theorem TP (h:PI p) (hn:13<n) (x:List cF) (hx:x.length=3):∀(c:Nat) (v:Nat),3<v+c->v<=3->bK (lQ n x p c v) λr=>match r with | .inl _=>True | .inr t=>p.e_=0/\t ∈ x/\t ≠ []:=by
 intro c
 induction c with
 | zero=>intro v h1 h2;omega
 | succ c ih=>
   intro v h1 h2;unfold lQ;refine bK.iteb (λh4=>?_) λh4=>.some trivial;simp only [Bq] at h4;refine bK.bind' (bK.idx (by omega) (by omega) λz hz=>?_);refine bK.bind (P:=λb=>b=true->p.e_=0/\z ≠ []) ?_ λb hb=>?_
   ·refine bK.iteb (λhz0=>?_) λ_=>.some λh=>by cases h
    exact (Kh h hn).bind λb hb=>.some λh=>⟨(hb h).1,by simpa using hz0⟩
   ·refine bK.iteb (λh5=>.some ⟨(hb h5).1,CT hz,(hb h5).2⟩) λh5=>?_;rw [cR (by omega) (by omega)];exact ih (v+1) (by omega) (by omega)
theorem LA (h:PI p) (hn:13<n) {a:Int} (h0:0<=a) (h1:a<7):bK (mE n p a) λt=>t ≠ []->p.e_=0/\t ∈ HR:=by
 unfold mE;refine bK.bind' (bK.idx h0 (by have:cT.length=7:=rfl;omega) λx hx=>?_)
 have hl:x.length=3:=by
  have:(cT.all λy=>y.length == 3)=true:=by decide
  simpa using Iu.1 this x (CT hx)
 refine (TP h hn x hl n 0 (by omega) (by omega)).bind λy hy=>bK.elim (λ_ _=>.some λh=>absurd rfl h) λz e=>?_;subst e;refine .some λ_=>⟨hy.1,?_⟩;have hall:(cT.all λx=>x.all λs=>s == [] || HR.contains s)=true:=by decide
 have:=Iu.1 (Iu.1 hall x (CT hx)) z hy.2.1;simp only [QO,beq_iff_eq,xed] at this;exact this.resolve_left hy.2.2
end
def Lf (p:aE):Int:=16*((p.l_.length:Int) - p.fW)
theorem Gd.lf {p q:aE} (h:Gd p q):Lf q<=Lf p:=by have:=h.at';unfold Lf;rw [h.len];omega
theorem GA.lf {p q:aE} (h:GA p q) (he:q.e_=0):Lf q+16<=Lf p:=by have:=h.adv he;unfold Lf;rw [h.toGd.len];omega
theorem PI.lf {p:aE} (h:PI p):16<=Lf p:=by have:=h.hi;unfold Lf;omega
def Sx (p:aE) (r:aD × aE):Prop:=r.2.e_=0->WE r.1/\sz r.1<=r.2.fW - p.fW
def SL (p:aE) (r:List aD × aE):Prop:=r.2.e_=0->(∀x ∈ r.1,WE x)/\vT r.1<=r.2.fW - p.fW
def QF (n:Nat) (k:Int) (f:aE->Int->Option (aD × aE)):Prop:=∀p a,PI p->Lf p+k<=n->bK (f p a) λr=>GA p r.2/\Sx p r
def OkL (n:Nat) (f:aE->Int->Int->Option (aD × aE)):Prop:=∀p a b,PI p->0<=a->a<=7->Lf p+29 - a<=n->bK (f p a b) λr=>GA p r.2/\Sx p r
def OkA (n:Nat) (f:aE->Int->Option ((List aD) × aE)):Prop:=∀p a,PI p->Lf p+25<=n->bK (f p a) λr=>GA p r.2/\SL p r
section
variable {n:Nat} {p:aE}
theorem Us (hn:13<n) {f:aE->Int->Int->Option (aD × aE)} {a1 a2:Int} (h0:0<=a1) (h6:a1<7) {k:Int} (hf:∀p,PI p->Lf p<=k->bK (f p (a1+1) a2) λr=>GA p r.2/\Sx p r) :
  ∀(c:Nat) (t:cF) (p:aE) (x:aD),PI p->Lf p<=k->1<=c->(t ≠ []->Lf p+1<=c/\t ∈ HR)->bK (pZ f n a1 a2 c t p x) λr=>Gd p r.1/\(r.1.e_=0->WE x->WE r.2/\sz r.2<=sz x+(r.1.fW - p.fW)):=by
 intro c
 induction c with
 | zero=>intro t p x h hl h1;omega
 | succ c ih=>
   intro t p x h hl h1 h2;unfold pZ;refine bK.iteb (λh4=>?_) λh4=>.some ⟨.refl h,λ_ hw=>⟨hw,by simp only;omega⟩⟩;simp only [ne_eq,Bq] at h4;obtain ⟨h5,hsg⟩:=h2 h4;have h6':=h.lf;refine (An h).bind λr ⟨g1,e1⟩=>(jZ g1.inv hn).bind λq g2=>?_;have l1:=g1.lf;have l2:=g2.toGd.lf;rw [cR (n:=a1+1) (by omega) (by omega)];refine (hf q g2.inv (by omega)).bind λs ⟨g3,sx⟩=>?_;have g4:=g1.ga (g2.ga g3)
   have hx:s.2.e_=0->WE x->WE { r.1 with cX:=t,aO:=[x,s.1] }/\sz { r.1 with cX:=t,aO:=[x,s.1] }<=sz x+(s.2.fW - p.fW):=λe hw=>by
    obtain ⟨w1,w2⟩:=sx e;have m2:=g2.adv (g3.toGd.e0 e);have m1:=g1.at';rw [e1];exact ⟨.bin hsg hw w1,by rw [gO,Iz];omega⟩
   refine bK.iteb (λ_=>.some ⟨g4.toGd,hx⟩) λ_=>?_;refine (LA g3.inv hn h0 h6).bind λt' ht=>?_;have l3:=g3.toGd.lf;refine (ih t' s.2 _ g3.inv (by omega) (by omega) λhne=>?_).mono λr ⟨g5,g6⟩=>⟨g4.toGd.trans g5,λe hw=>?_⟩
   ·have l4:=g4.lf (ht hne).1;exact ⟨by omega,(ht hne).2⟩
   ·obtain ⟨v1,v2⟩:=hx (g5.e0 e) hw;obtain ⟨v3,v4⟩:=g6 e v1;exact ⟨v3,by omega⟩
theorem level_b (hn:13<n) {fo:aE->Int->Option (aD × aE)} {fl:aE->Int->Int->Option (aD × aE)} (ho:QF n 21 fo) (hl:OkL n fl):OkL (n+1) (oB fo fl n):=by
 intro p a b h h0 h7 hb;unfold oB;refine bK.iteb (λh1=>?_) λh1=>?_
 ·simp only [beq_iff_eq] at h1;exact (ho p b h (by omega)).bind λr g=>.some g
 ·simp only [beq_eq_false_iff_ne,ne_eq] at h1;rw [cR (n:=a+1) (by omega) (by omega)];refine (hl p (a+1) b h (by omega) (by omega) (by omega)).bind λr ⟨g,sx⟩=>?_;have l1:=g.toGd.lf;have l2:=g.inv.lf;refine (LA g.inv hn h0 (by omega)).bind λt ht=>?_;refine (Us hn h0 (by omega) (k:=Lf r.2) (λq hq hk=>hl q (a+1) b hq (by omega) (by omega) (by omega)) n t r.2 r.1 g.inv (Sy _) (by omega) (λhne=>⟨by omega,(ht hne).2⟩)).bind λs ⟨g2,sx2⟩=>.some ⟨g.gd g2,λe=>?_⟩;obtain ⟨v1,v2⟩:=sx (g2.e0 e);obtain ⟨v3,v4⟩:=sx2 e v1;exact ⟨v3,by simp only;omega⟩
theorem expr_b {fl:aE->Int->Int->Option (aD × aE)} (hl:OkL n fl):QF (n+1) 30 (pA fl n):=by
 intro p a h hb;unfold pA;exact (hl p 0 a h (by omega) (by omega) (by omega)).bind λr g=>.some g
theorem NH {fe:aE->Int->Option (aD × aE)} (he:QF n 30 fe):QF (n+1) 31 (lE fe n):=by
 intro p a h hb;unfold lE;exact (he p _ h (by omega)).bind λr g=>.some g
theorem SL.more {p q r:aE} {x:aD} {l:List aD} (g1:Gd p q) (sx:Sx p (x,q)) (g2:Gd q r):r.e_=0->(∀x ∈ l,WE x)->(∀y ∈ l++[x],WE y)/\vT (l++[x])<=vT l+(r.fW - p.fW):=λe hl=>by
 obtain ⟨w1,w2⟩:=sx (g2.e0 e);have m2:=g2.at';simp only at w2;refine ⟨λy hy=>?_,by rw [FZ,sZ];omega⟩
 rcases zH.1 hy with hy | hy
 ·exact hl y hy
 ·obtain rfl:=zG.1 hy;exact w1
theorem IU (hn:13<n) {fo:aE->Int->Option (aD × aE)} {k:Int} {a:Int} (hf:∀p,PI p->Lf p<=k->bK (fo p a) λr=>GA p r.2/\Sx p r):∀(c:Nat) (l:List aD) (p:aE),PI p->(p.e_=0->Lf p<=k)->(p.l_.length:Int) - p.fW<c->(l.length:Int)<=p.fW->bK (fF fo n a c l p) λr=>Gd p r.2/\(r.1.length:Int)<=r.2.fW+1/\(r.2.e_=0->(∀x ∈ l,WE x)->(∀x ∈ r.1,WE x)/\vT r.1<=vT l+(r.2.fW - p.fW)):=by
 intro c
 induction c with
 | zero=>intro l p h _ h1 h2;have:=h.hi;omega
 | succ c ih=>
   intro l p h hk h1 h2;have k1:=h.lo;have k2:=h.hi;have k3:=h.big;unfold fF;refine bK.iteb (λh4=>?_) λh4=>.some ⟨.refl h,by simp only;omega,λ_ hl=>⟨hl,by simp only;omega⟩⟩;simp only [beq_iff_eq] at h4;refine (hf p h (hk h4)).bind λx ⟨g1,sx⟩=>?_;refine bK.need (by simp only [uF];omega) ?_;refine (lX g1.inv hn).bind λr ⟨g2,g3,_⟩=>?_;have m1:=g1.at';have m2:=g2.at';have hx:=SL.more (l:=l) g1.toGd sx g2;refine bK.iteb (λh5=>.some ⟨g1.toGd.trans g2,by simp only [mB,uF];omega,hx⟩) λh5=>?_;have g4:=g3 (by simpa using h5);have g5:=g1.ga g4.2.1;have m3:=g1.adv g4.1;have m4:=g1.toGd.trans g2;have m5:=g5.toGd.lf;have m6:=hk h4;refine (ih _ r.2 g2.inv (λ_=>by omega) (by rw [m4.len];omega) (by simp only [mB,uF];omega)).mono λs ⟨s1,s2,s3⟩=>⟨g5.toGd.trans s1,s2,λe hl=>?_⟩;obtain ⟨v1,v2⟩:=hx (s1.e0 e) hl;obtain ⟨v3,v4⟩:=s3 e v1;exact ⟨v3,by omega⟩
theorem JV (hn:13<n) {fo:aE->Int->Option (aD × aE)} (ho:QF n 31 fo):OkA (n+1) (hM fo n):=by
 intro p a h hb;unfold hM;refine (jZ h hn).bind λq g1=>(lX g1.inv hn).bind λr ⟨g2,g3,g4⟩=>?_;have m1:=g1.at';have m2:=g2.at';refine bK.iteb (λh5=>.some ⟨g1.gd g2,λ_=>⟨(λx hx=>nomatch hx),by rw [oR];simp only;omega⟩⟩) λh5=>?_;have g5:=g1.gd g2;have k0:=g2.inv.lo;have k1:=g5.toGd.lf;have k2:=h.lf;refine bK.bind (P:=λy=>Gd r.2 y.2/\SL r.2 y) ?_ λy ⟨g6,s6⟩=>?_
 ·refine (IU hn (k:=(n:Int) - 31) (λq hq hk=>ho q a hq (by omega)) n [] r.2 g2.inv (λhe=>?_) ?_ (by simpa using k0)).bind λy ⟨y1,y2,y3⟩=>.some ⟨y1,λe=>?_⟩
  ·have:=g5.lf he;omega
  ·unfold Lf at hb k1;rw [g5.toGd.len] at k1 ⊢;have:=h.hi;omega
  ·obtain ⟨w1,w2⟩:=y3 e (λx hx=>nomatch hx);exact ⟨w1,by rw [oR] at w2;simp only;omega⟩
 ·refine (jZ g6.inv hn).bind λs g7=>.some ⟨(g5.gd g6).ga g7,λe=>?_⟩;obtain ⟨w1,w2⟩:=s6 (g7.toGd.e0 e);have m5:=g7.at';exact ⟨w1,by simp only;omega⟩
theorem Pi (hn:13<n) {fo:aE->Int->Option (aD × aE)} {k:Int} (hf:∀p a,PI p->Lf p<=k->bK (fo p a) λr=>GA p r.2/\Sx p r) {a1:Int}:∀(c:Nat) (v:Nat) (p:aE) (x y:aD),2<v+c->v<=2->PI p->Lf p<=k+16->bK (oT fo n a1 c v p x y) λr=>match r with | .inl s=>Gd p s.1/\s.2.1=x | .inr s=>GA p s.2/\(x.oM=0->Sx p s):=by
 intro c
 induction c with
 | zero=>intro v p x y h1 h2;omega
 | succ c ih=>
   intro v p x y h1 h2 h hk;unfold oT;refine bK.iteb (λh4=>?_) λh4=>.some ⟨.refl h,rfl⟩;simp only [Bq] at h4;refine bK.bind' (bK.idx (by omega) (by have:gU.length=2:=rfl;omega) λz hz=>?_);refine (lX h hn).bind λr ⟨g1,g2,g3⟩=>?_;refine bK.iteb (λh5=>?_) λh5=>?_
   ·obtain ⟨_,g4,g5⟩:=g2 h5;have l1:=g4.lf g5;refine (hf r.2 _ g1.inv (by omega)).bind λs ⟨g6,sx⟩=>.some ⟨g4.ga g6,λhx e=>?_⟩;obtain ⟨w1,w2⟩:=sx e;have m1:=g4.adv (g6.toGd.e0 e);refine ⟨?_,by simp only [gO,sZ];omega⟩;simp only [hx];refine .un ?_ w1;have hm:=CT hz;simpa [gU] using hm
   ·rw [cR (by omega) (by omega)];have l1:=g1.lf;refine (ih (v+1) r.2 x y (by omega) (by omega) g1.inv (by omega)).mono λs hs=>?_;cases s with
    | inl s=>exact ⟨g1.trans hs.1,hs.2⟩
    | inr s=>
      refine ⟨g1.ga hs.1,λhx e=>?_⟩;obtain ⟨w1,w2⟩:=hs.2 hx e;have:=g1.at';exact ⟨w1,by omega⟩
theorem RC (hn:13<n) {fe fo:aE->Int->Option (aD × aE)} {fa:aE->Int->Option ((List aD) × aE)} (he:QF n 30 fe) (ho:QF n 21 fo) (ha:OkA n fa):QF (n+1) 21 (mO fe fo fa n):=by
 intro p a h hb;unfold mO;refine (Ol h).bind λq g1=>(lX g1.inv hn).bind λr ⟨g2,g3,_⟩=>?_;have m1:=g1.lf;have m2:=g2.lf;have m3:=h.lf;have n1:=g1.at';have n2:=g2.at';refine bK.iteb (λh5=>?_) λh5=>?_
 ·obtain ⟨_,g4,g5⟩:=g3 h5;have l1:=g4.lf g5;refine (he r.2 _ g2.inv (by omega)).bind λs ⟨g6,sx⟩=>(jZ g6.inv hn).bind λt g7=>.some ⟨g1.ga (g4.ga (g6.ga g7)),λe=>?_⟩;obtain ⟨w1,w2⟩:=sx (g7.toGd.e0 e);have n3:=g7.at';exact ⟨w1,by simp only;omega⟩
 ·refine (An g2.inv).bind λs ⟨g4,e4⟩=>?_;have m4:=g4.lf;have n4:=g4.at';refine (Pi hn (k:=(n:Int) - 21) (λq b hq hk=>ho q b hq (by omega)) n 0 s.2 _ _ (by omega) (by omega) g4.inv (by omega)).bind λy hy=>?_;have g5:=g1.trans (g2.trans g4);refine bK.elim (λz e=>?_) λz e=>?_
  ·subst e;have hy':Gd s.2 z.1:=hy.1;have hz:z.2.1=s.1:=hy.2;have g6:=g5.trans hy';have n5:=hy'.at';rw [hz,e4];refine bK.bind (P:=λ_=>True) ?_ λb _=>?_
   ·refine bK.iteb (λ_=>?_) λ_=>.some trivial;exact (wH hy'.inv).bind λt _=>.some trivial
   ·refine bK.iteb (λ_=>?_) λ_=>?_
    ·refine (JR hy'.inv).bind λt ⟨g7,n7⟩=>.some ⟨g6.ga g7,λe=>?_⟩;have:=g7.adv e;exact ⟨.num n7.1 n7.2,by simp only [gO,oR];omega⟩
    ·refine (BG hy'.inv hn).bind λt g7=>?_;have g8:=g6.ga g7;have l8:=g8.toGd.lf;refine bK.bind (P:=λy=>GA p y.1/\Sx p (y.2,y.1)) ?_ λy hy=>.some hy;refine (Kh g7.inv hn).bind λb hb=>bK.iteb (λh9=>?_) λh9=>?_
     ·have l9:=g8.lf (hb h9).1;refine (ha t.2 a g7.inv (by omega)).bind λu ⟨g9,sx⟩=>.some ⟨g8.ga g9,λe=>?_⟩;obtain ⟨w1,w2⟩:=sx e;have:=g7.adv (g9.toGd.e0 e);exact ⟨.call w1,by simp only [gO];omega⟩
     ·refine (lX g7.inv hn).bind λu ⟨g9,g10,_⟩=>bK.iteb (λh10=>?_) λh10=>.some ⟨g8.gd g9,λe=>?_⟩
      ·obtain ⟨_,g11,g12⟩:=g10 h10;have l9:=g11.lf g12;refine (he u.2 _ g9.inv (by omega)).bind λv ⟨g13,sx⟩=>(jZ g13.inv hn).bind λw g14=>.some ⟨g8.ga (g11.ga (g13.ga g14)),λe=>?_⟩;have ev:=g14.toGd.e0 e;obtain ⟨w1,w2⟩:=sx ev;have n6:=g14.at';have n7:=g7.adv (g9.e0 (g13.toGd.e0 ev));have n8:=g9.at';exact ⟨.index w1,by simp only [gO,sZ];omega⟩
      ·have n7:=g7.adv (g9.e0 e);have n8:=g9.at';exact ⟨.ref,by simp only [gO,oR];omega⟩
  ·subst e;refine .some ⟨g5.ga hy.1,λe=>?_⟩;obtain ⟨w1,w2⟩:=hy.2 (by rw [e4]) e;exact ⟨w1,by omega⟩
theorem grp_ok:∀n:Nat,OkA n (bG n).1/\QF n 30 (bG n).2.1/\OkL n (bG n).2.2.1/\QF n 21 (bG n).2.2.2.1/\QF n 31 (bG n).2.2.2.2:=by
 have small:∀n:Nat,n<=14->OkA n (bG n).1/\QF n 30 (bG n).2.1/\OkL n (bG n).2.2.1/\QF n 21 (bG n).2.2.2.1/\QF n 31 (bG n).2.2.2.2:=by
  intro n hn;refine ⟨λp a h hb=>?_,λp a h hb=>?_,λp a b h h0 h7 hb=>?_,λp a h hb=>?_,λp a h hb=>?_⟩ <;> (have:=h.lf;omega)
 intro n
 induction n with
 | zero=>exact small 0 (by omega)
 | succ n ih=>
   by_cases hn:13<n
   ·obtain ⟨i1,i2,i3,i4,i5⟩:=ih;exact ⟨JV hn i5,expr_b i3,level_b hn i4 i3,RC hn i2 i4 i1,NH i2⟩
   ·exact small (n+1) (by omega)
theorem yC (h:PI p) {a:Int} (hb:Lf p+30<=n):bK (eK n p a) λr=>GA p r.2/\Sx p r:=(grp_ok n).2.1 p a h hb
theorem LD (h:PI p) {x:aD} {a:Int} (hb:Lf p+30<=n):bK (lF n p x a) λr=>GA p r.2/\(r.2.e_=0->∃s y,r.1={ x with cX:=s,aO:=[y] }/\WE y/\sz y+1<=r.2.fW - p.fW):=by
 have hn:13<n:=by have:=h.lf;omega
 unfold lF;refine (BG h hn).bind λr g1=>(jZ g1.inv hn).bind λq g2=>?_;have l1:=g1.toGd.lf;have l2:=g2.toGd.lf;refine (yC g2.inv (by omega)).bind λs ⟨g3,sx⟩=>(jZ g3.inv hn).bind λt g4=>.some ⟨g1.ga (g2.ga (g3.ga g4)),λe=>?_⟩;obtain ⟨w1,w2⟩:=sx (g4.toGd.e0 e);have n1:=g1.at';have n2:=g2.at';have n4:=g4.adv e;exact ⟨_,_,rfl,w1,by simp only;omega⟩
theorem NE (h:PI p) {a:Int} (hb:Lf p+30<=n):bK (nZ n p a) λr=>GA p r.2/\Sx p r:=by
 unfold nZ;exact (yC h hb).bind λr g=>.some g
theorem KX (hn:13<n) {a:Int}:∀(c:Nat) (l:List aD) (p:aE),PI p->Lf p+30<=n->(p.l_.length:Int) - p.fW<c->(l.length:Int)<=p.fW->bK (fQ n a c l p) λr=>Gd p r.2/\(r.1.length:Int)<=r.2.fW+1/\(r.2.e_=0->(∀x ∈ l,WE x)->(∀x ∈ r.1,WE x)/\vT r.1<=vT l+(r.2.fW - p.fW)):=by
 intro c
 induction c with
 | zero=>intro l p h _ h1 h2;have:=h.hi;omega
 | succ c ih=>
   intro l p h hk h1 h2;have k1:=h.lo;have k2:=h.hi;have k3:=h.big;unfold fQ;refine bK.iteb (λh4=>?_) λh4=>.some ⟨.refl h,by simp only;omega,λ_ hl=>⟨hl,by simp only;omega⟩⟩;refine (NE h hk).bind λx ⟨g1,sx⟩=>?_;refine bK.need (by simp only [uF];omega) ?_;refine (lX g1.inv hn).bind λr ⟨g2,g3,_⟩=>?_;have m1:=g1.at';have m2:=g2.at';have hx:=SL.more (l:=l) g1.toGd sx g2;refine bK.iteb (λh5=>.some ⟨g1.toGd.trans g2,by simp only [mB,uF];omega,hx⟩) λh5=>?_;have g4:=g3 (by simpa using h5);have g5:=g1.ga g4.2.1;have m3:=g1.adv g4.1;have m4:=g1.toGd.trans g2;have m5:=g5.toGd.lf;refine (ih _ r.2 g2.inv (by omega) (by rw [m4.len];omega) (by simp only [mB,uF];omega)).mono λs ⟨s1,s2,s3⟩=>⟨g5.toGd.trans s1,s2,λe hl=>?_⟩;obtain ⟨v1,v2⟩:=hx (s1.e0 e) hl;obtain ⟨v3,v4⟩:=s3 e v1;exact ⟨v3,by omega⟩
theorem JT (h:PI p) {a:Int} (hb:Lf p+30<=n):bK (gX n p a) λr=>GA p r.2/\SL p r:=by
 have hn:13<n:=by have:=h.lf;omega
 unfold gX;refine (jZ h hn).bind λq g1=>(lX g1.inv hn).bind λr ⟨g2,g3,g4⟩=>?_;have m1:=g1.at';have m2:=g2.at';refine bK.iteb (λh5=>.some ⟨g1.gd g2,λ_=>⟨(λx hx=>nomatch hx),by rw [oR];simp only;omega⟩⟩) λh5=>?_;have g5:=g1.gd g2;have k0:=g2.inv.lo;have k1:=g5.toGd.lf;refine bK.bind (P:=λy=>Gd r.2 y.2/\SL r.2 y) ?_ λy ⟨g6,s6⟩=>?_
 ·refine (KX hn n [] r.2 g2.inv (by omega) ?_ (by simpa using k0)).bind λy ⟨y1,y2,y3⟩=>.some ⟨y1,λe=>?_⟩
  ·unfold Lf at hb k1;rw [g5.toGd.len] at k1 ⊢;have:=h.hi;omega
  ·obtain ⟨w1,w2⟩:=y3 e (λx hx=>nomatch hx);exact ⟨w1,by rw [oR] at w2;simp only;omega⟩
 ·refine (jZ g6.inv hn).bind λs g7=>.some ⟨(g5.gd g6).ga g7,λe=>?_⟩;obtain ⟨w1,w2⟩:=s6 (g7.toGd.e0 e);have m5:=g7.at';exact ⟨w1,by simp only;omega⟩
def St0 (x:aD):Prop:=x=⟨8,x.eU,[],0,[]⟩
def Ss (p:aE) (r:aD × aE):Prop:=r.2.e_=0->WS r.1/\sz r.1<=r.2.fW - p.fW
theorem RA (h:PI p) {x:aD} {a:Int} (hb:Lf p+30<=n) (hx:St0 x):bK (nC n p x a) λr=>GA p r.2/\Ss p r:=by
 have hn:13<n:=by have:=h.lf;omega
 unfold nC;rw [hx];refine (BG h hn).bind λr g1=>?_;have l1:=g1.toGd.lf;have n1:=g1.at';refine bK.bind (P:=λy=>GA p y.1/\(y.1.e_=0->WS y.2/\sz y.2<=1+(y.1.fW - p.fW))) ?_ λy hy=>?_
 case refine_2=>
  obtain ⟨hy',hs⟩:GA p y.1/\(y.1.e_=0->WS y.2/\sz y.2<=1+(y.1.fW - p.fW)):=hy;refine (jZ hy'.inv hn).bind λs g=>.some ⟨hy'.ga g,λe=>?_⟩;obtain ⟨w1,w2⟩:=hs (g.toGd.e0 e);have:=g.adv e;exact ⟨w1,by simp only;omega⟩
 refine (Kh g1.inv hn).bind λb _=>bK.iteb (λ_=>?_) λ_=>?_
 ·refine (JT g1.inv (by omega)).bind λs ⟨g2,sx⟩=>.some ⟨g1.ga g2,λe=>?_⟩;obtain ⟨w1,w2⟩:=sx e;exact ⟨.call w1,by simp only [gO];omega⟩
 ·refine (lX g1.inv hn).bind λs ⟨g2,_,_⟩=>?_;have l2:=g2.lf;have n2:=g2.at';refine bK.iteb (λ_=>?_) λ_=>?_
  ·refine (yC g2.inv (by omega)).bind λt ⟨g3,s3⟩=>(jZ g3.inv hn).bind λu g4=>(jZ g4.inv hn).bind λv g5=>?_;have l3:=g3.toGd.lf;have l4:=g4.toGd.lf;have l5:=g5.toGd.lf;refine (yC g5.inv (by omega)).bind λw ⟨g6,s6⟩=>bK.need (by simp) (.some ⟨g1.gd (g2.trans (g3.toGd.trans (g4.toGd.trans (g5.toGd.trans g6.toGd)))),λe=>?_⟩);obtain ⟨w1,w2⟩:=s6 e;have e5:=g6.toGd.e0 e;obtain ⟨w3,w4⟩:=s3 (g4.toGd.e0 (g5.toGd.e0 e5));have n4:=g4.at';have n5:=g5.at';exact ⟨.put w3 w1,by simp only [gO,xez,Iz];omega⟩
  ·refine (jZ g2.inv hn).bind λv g5=>?_;have l5:=g5.toGd.lf;have n5:=g5.at';refine (yC g5.inv (by omega)).bind λw ⟨g6,s6⟩=>.some ⟨g1.gd (g2.trans (g5.toGd.trans g6.toGd)),λe=>?_⟩;obtain ⟨w1,w2⟩:=s6 e;exact ⟨.set w1,by simp only [gO,sZ];omega⟩
end
def Bk (p:aE) (r:aD × aE):Prop:=r.2.e_=0->(r.1=⟨4,r.1.eU,[],0,r.1.aO⟩/\∀y ∈ r.1.aO,WS y)/\sz r.1<=r.2.fW - p.fW
def OkS (n:Nat) (f:aE->Int->Option (aD × aE)):Prop:=∀p a,PI p->Lf p+45<=n->bK (f p a) λr=>GA p r.2/\Ss p r
def OkK (n:Nat) (f:aE->Int->Option (aD × aE)):Prop:=∀p a,PI p->Lf p+46<=n->bK (f p a) λr=>GA p r.2/\Bk p r
def OkN (n:Nat) (k:Int) (f:aE->aD->Int->Option (aD × aE)):Prop:=∀p x a,PI p->Lf p+k<=n->St0 x->bK (f p x a) λr=>GA p r.2/\(r.2.e_=0->WS r.1/\sz r.1<=1+(r.2.fW - p.fW))
section
variable {n:Nat} {p:aE}
theorem Vg (hn:13<n) {fs:aE->Int->Option (aD × aE)} {k:Int} {a:Int} (hf:∀p,PI p->Lf p<=k->bK (fs p a) λr=>GA p r.2/\Ss p r):∀(c:Nat) (p:aE) (x:aD),PI p->(p.e_=0->Lf p<=k)->(p.l_.length:Int) - p.fW<c->1<=c->(p.e_=0->(x.aO.length:Int)<=p.fW)->(x.aO.length:Int)<=65538->bK (nG fs n a c p x) λr=>Gd p r.1/\(r.1.e_=0->(∀y ∈ x.aO,WS y)->(∀y ∈ r.2.aO,WS y)/\vT r.2.aO<=vT x.aO+(r.1.fW - p.fW)/\r.2={ x with aO:=r.2.aO }):=by
 intro c
 induction c with
 | zero=>intro p x h _ h1 h2;omega
 | succ c ih=>
   intro p x h hk h1 h2 h3 h4;have k1:=h.lo;have k2:=h.hi;have k3:=h.big;unfold nG;refine bK.bind (P:=λb=>b=true->p.e_=0) ?_ λb hb=>?_
   ·refine bK.iteb (λhe=>?_) λ_=>.some λh=>by cases h
    exact (Kh h hn).bind λb hb=>.some λ_=>by simpa using he
   ·refine bK.iteb (λh5=>?_) λh5=>.some ⟨.refl h,λ_ hl=>⟨hl,by simp only;omega,by cases x;rfl⟩⟩;have he:=hb h5;refine (hf p h (hk he)).bind λr ⟨g,ss⟩=>?_;have m1:=g.at';have m2:=hk he;have m3:=h3 he;have m4:=g.toGd.lf;have m5:=g.inv.hi;have m6:=g.toGd.len;refine bK.need (by simp only [uF];omega) ?_
    by_cases he2:r.2.e_=0
    ·have m7:=g.adv he2;obtain ⟨w1,w2⟩:=ss he2;refine (ih r.2 _ g.inv (λ_=>by omega) (by rw [m6];omega) (by omega) (λ_=>by simp only [mB,uF];omega) (by simp only [mB,uF];omega)).mono λs ⟨g2,s2⟩=>⟨g.toGd.trans g2,λe hl=>?_⟩
     obtain ⟨v1,v2,v3⟩:=s2 e (λy hy=>by
      rcases zH.1 hy with hy | hy
      ·exact hl y hy
      ·obtain rfl:=zG.1 hy;exact w1)
     refine ⟨v1,?_,v3⟩;simp only [FZ,sZ] at v2;omega
    ·cases c with
     | zero=>omega
     | succ c=>
       unfold nG;rw [if_neg (by simpa using he2),iJ,if_neg (by decide)];exact .some ⟨g.toGd,λe=>absurd e he2⟩
theorem block_b {fs:aE->Int->Option (aD × aE)} (hs:OkS n fs):OkK (n+1) (oC fs n):=by
 intro p a h hb;have hn:13<n:=by have:=h.lf;omega
 unfold oC;refine (Ol h).bind λq g1=>(An g1.inv).bind λr ⟨g2,e2⟩=>(jZ g2.inv hn).bind λt g3=>?_;have e:r.1.aO=[]:=by rw [e2]
 have g4:=g1.trans g2;have g5:=g4.ga g3;have l5:=g5.toGd.lf;have k0:=g3.inv.lo;refine (Vg hn (k:=(n:Int) - 45) (λq hq hk=>hs q a hq (by omega)) n t r.1 g3.inv (λhe=>?_) ?_ (by omega) (λ_=>by rw [e];simpa using k0) (by rw [e];simp)).bind λy ⟨g6,s6⟩=>(jZ g6.inv hn).bind λs g7=>.some ⟨(g5.gd g6).ga g7,λe3=>?_⟩
 ·have:=g5.lf he;omega
 ·unfold Lf at hb l5;rw [g5.toGd.len] at l5 ⊢;have:=h.hi;omega
 ·have ey:=g7.toGd.e0 e3;obtain ⟨v1,v2,v3⟩:=s6 ey (λy hy=>by rw [e] at hy;cases hy);have n3:=g3.adv (g6.e0 ey);have n4:=g4.at';have n7:=g7.at';rw [e2] at v3;rw [e,oR] at v2;refine ⟨⟨by simp only;rw [v3],v1⟩,?_⟩;simp only [Fs];omega
theorem UV {fb:aE->Int->Option (aD × aE)} (hf:OkK n fb):OkN (n+1) 47 (nE fb n):=by
 intro p x a h hb hx;have hn:13<n:=by have:=h.lf;omega
 unfold nE;rw [hx];refine (yC h (by omega)).bind λr ⟨g1,s1⟩=>?_;have l1:=g1.toGd.lf;refine (hf r.2 _ g1.inv (by omega)).bind λs ⟨g2,s2⟩=>bK.need (by simp) ((lX g2.inv hn).bind λt ⟨g3,_,_⟩=>?_);have l2:=g2.toGd.lf;have l3:=g3.lf;have n3:=g3.at';refine bK.iteb (λ_=>?_) λ_=>.some ⟨(g1.ga g2).gd g3,λe=>?_⟩
 ·refine (hf t.2 _ g3.inv (by omega)).bind λu ⟨g4,s4⟩=>bK.need (by simp) (.some ⟨((g1.ga g2).gd g3).ga g4,λe=>?_⟩);have e3:=g4.toGd.e0 e;have e2:=g3.e0 e3;obtain ⟨⟨a1,a2⟩,a3⟩:=s4 e;obtain ⟨⟨b1,b2⟩,b3⟩:=s2 e2;obtain ⟨c1,c2⟩:=s1 (g2.toGd.e0 e2);simp only [xez,iD,gC];rw [gO,Ls];refine ⟨?_,by omega⟩;rw [a1,b1];exact .choice2 c1 b2 a2
 ·have e2:=g3.e0 e;obtain ⟨⟨b1,b2⟩,b3⟩:=s2 e2;obtain ⟨c1,c2⟩:=s1 (g2.toGd.e0 e2);simp only [xez];rw [gO,Iz];refine ⟨?_,by omega⟩;rw [b1];exact .choice c1 b2
theorem loop_b {fb:aE->Int->Option (aD × aE)} (hf:OkK n fb):OkN (n+1) 47 (oZ fb n):=by
 intro p x a h hb hx;have hn:13<n:=by have:=h.lf;omega
 unfold oZ;rw [hx];refine (BG h hn).bind λr g1=>(jZ g1.inv hn).bind λs g2=>?_;have l1:=g1.toGd.lf;have l2:=g2.toGd.lf;have n1:=g1.at';have n2:=g2.at';refine (yC g2.inv (by omega)).bind λt ⟨g3,s3⟩=>(jZ g3.inv hn).bind λu g4=>?_;have l3:=g3.toGd.lf;have l4:=g4.toGd.lf;have n4:=g4.at';refine (yC g4.inv (by omega)).bind λv ⟨g5,s5⟩=>bK.need (by simp) ?_;have l5:=g5.toGd.lf;refine (hf v.2 _ g5.inv (by omega)).bind λw ⟨g6,s6⟩=>bK.need (by simp) (.some ⟨g1.ga (g2.ga (g3.ga (g4.ga (g5.ga g6)))),λe=>?_⟩);have e5:=g6.toGd.e0 e;have e4:=g5.toGd.e0 e5;obtain ⟨⟨b1,b2⟩,b3⟩:=s6 e;obtain ⟨c1,c2⟩:=s5 e5;obtain ⟨d1,d2⟩:=s3 (g4.toGd.e0 e4);simp only [xez,iD,gC];rw [gO,Ls];refine ⟨?_,by omega⟩;rw [b1];exact .loop d1 c1 b2
theorem Nm {fc fl:aE->aD->Int->Option (aD × aE)} (hc:OkN n 47 fc) (hl:OkN n 47 fl):OkS (n+1) (lD fc fl n):=by
 intro p a h hb;have hn:13<n:=by have:=h.lf;omega
 unfold lD;refine (An h).bind λr ⟨g1,e1⟩=>?_;have hx:St0 r.1:=e1;have l1:=g1.lf;have n1:=g1.at';refine bK.bind (P:=λy=>match y with | .inl y=>GA p y.1/\(y.1.e_=0->WS y.2/\sz y.2<=1+(y.1.fW - p.fW)) | .inr y=>GA p y.2/\Ss p y) ?_ λy hy=>?_
 ·refine (lX g1.inv hn).bind λt1 ⟨a1,b1,_⟩=>bK.iteb (λh1=>?_) λh1=>?_
  ·have m1:=a1.lf;have o1:=a1.at';refine (LD a1.inv (by omega)).bind λu ⟨g2,s2⟩=>.some ⟨g1.ga (a1.ga g2),λe=>?_⟩;obtain ⟨s,y,q1,q2,q3⟩:=s2 e;simp only;rw [q1,e1];exact ⟨.bind (.inl rfl) q2,by simp only [gO,sZ];omega⟩
  have m1:=a1.lf;have o1:=a1.at';refine (lX a1.inv hn).bind λt2 ⟨a2,b2,_⟩=>bK.iteb (λh2=>?_) λh2=>?_
  ·have m2:=a2.lf;have o2:=a2.at';refine (LD a2.inv (by omega)).bind λu ⟨g2,s2⟩=>.some ⟨g1.ga (a1.ga (a2.ga g2)),λe=>?_⟩;obtain ⟨s,y,q1,q2,q3⟩:=s2 e;simp only;rw [q1,e1];exact ⟨.bind (.inr rfl) q2,by simp only [gO,sZ];omega⟩
  have m2:=a2.lf;have o2:=a2.at';refine (lX a2.inv hn).bind λt3 ⟨a3,b3,_⟩=>bK.iteb (λh3=>?_) λh3=>?_
  ·have o3:=a3.at';refine (BG a3.inv hn).bind λu g2=>(Nu g2.inv hn).bind λv g3=>.some ⟨g1.ga (a1.ga (a2.ga (a3.ga (g2.ga g3)))),λe=>?_⟩;have o4:=g2.at';have o5:=g3.at';simp only;rw [e1];exact ⟨.arr,by simp only [gO,oR];omega⟩
  have m3:=a3.lf;have o3:=a3.at';refine (lX a3.inv hn).bind λt4 ⟨a4,b4,_⟩=>bK.iteb (λh4=>?_) λh4=>?_
  ·have m4:=a4.lf;have o4:=a4.at';refine (yC a4.inv (by omega)).bind λu ⟨g2,s2⟩=>.some ⟨g1.ga (a1.ga (a2.ga (a3.ga (a4.ga g2)))),λe=>?_⟩;obtain ⟨q1,q2⟩:=s2 e;simp only;rw [e1];exact ⟨.ret q1,by simp only [gO,sZ];omega⟩
  have m4:=a4.lf;have o4:=a4.at';refine (lX a4.inv hn).bind λt5 ⟨a5,b5,_⟩=>bK.iteb (λh5=>?_) λh5=>?_
  ·obtain ⟨_,c1,c2⟩:=b5 h5;have m5:=c1.lf c2;have o5:=c1.adv c2;refine (hc t5.2 _ _ a5.inv (by omega) hx).bind λu ⟨g2,s2⟩=>.some ⟨g1.ga (a1.ga (a2.ga (a3.ga (a4.ga (a5.ga g2))))),λe=>?_⟩;obtain ⟨q1,q2⟩:=s2 e;exact ⟨q1,by simp only;omega⟩
  have m5:=a5.lf;have o5:=a5.at';refine (lX a5.inv hn).bind λt6 ⟨a6,b6,_⟩=>bK.iteb (λh6=>?_) λh6=>?_
  ·obtain ⟨_,c1,c2⟩:=b6 h6;have m6:=c1.lf c2;have o6:=c1.adv c2;refine (hl t6.2 _ _ a6.inv (by omega) hx).bind λu ⟨g2,s2⟩=>.some ⟨g1.ga (a1.ga (a2.ga (a3.ga (a4.ga (a5.ga (a6.ga g2)))))),λe=>?_⟩;obtain ⟨q1,q2⟩:=s2 e;exact ⟨q1,by simp only;omega⟩
  have m6:=a6.lf;have o6:=a6.at';refine (RA a6.inv (by omega) hx).bind λu ⟨g2,s2⟩=>.some ⟨g1.ga (a1.ga (a2.ga (a3.ga (a4.ga (a5.ga (a6.ga g2)))))),λe=>?_⟩;obtain ⟨q1,q2⟩:=s2 e;exact ⟨q1,by simp only;omega⟩
 ·refine bK.elim (λz e=>?_) λz e=>?_
  ·subst e;obtain ⟨hy',hs⟩:GA p z.1/\(z.1.e_=0->WS z.2/\sz z.2<=1+(z.1.fW - p.fW)):=hy;refine (jZ hy'.inv hn).bind λs g=>.some ⟨hy'.ga g,λe=>?_⟩;obtain ⟨w1,w2⟩:=hs (g.toGd.e0 e);have:=g.adv e;exact ⟨w1,by simp only;omega⟩
  ·subst e;exact .some hy
theorem grp2_ok:∀n:Nat,OkK n (dA n).1/\OkS n (dA n).2.1/\OkN n 47 (dA n).2.2.1/\OkN n 47 (dA n).2.2.2:=by
 intro n
 induction n with
 | zero=>refine ⟨λp a h hb=>?_,λp a h hb=>?_,λp x a h hb=>?_,λp x a h hb=>?_⟩ <;> (have:=h.lf;omega)
 | succ n ih=>
   obtain ⟨i1,i2,i3,i4⟩:=ih;exact ⟨block_b i2,Nm i3 i4,UV i1,loop_b i1⟩
theorem Il (h:PI p) {a:Int} (hb:Lf p+46<=n):bK (eA n p a) λr=>GA p r.2/\Bk p r:=(grp2_ok n).1 p a h hb
def Fx (p:aE) (r:aD × aE):Prop:=r.2.e_=0->WF r.1/\sz r.1<=r.2.fW - p.fW
theorem Mx (h:PI p) (hb:Lf p+46<=n):bK (kR n p) λr=>GA p r.2/\Fx p r:=by
 have hn:13<n:=by have:=h.lf;omega
 unfold kR;refine (An h).bind λr ⟨g1,e1⟩=>(lX g1.inv hn).bind λt ⟨g2,_,_⟩=>?_;have g3:=g1.trans g2;have n3:=g3.at'
 have key:∀q:aE,GA p q->(q.l_.length:Int) - q.fW<n:=by
  intro q g;have:=g.toGd.lf;unfold Lf at this hb;have:=h.hi;have:=g.inv.hi;omega
 have fin:∀ {q b:aE} {ps:List aD} {z:aD × aE} {at' k:Int} {s:cF},Gd q b->GA b z.2->Bk b z->p.fW+1<=q.fW - vT ps->(b.e_=0->∀x ∈ ps,WP x)->Fx p (⟨2,at',s,k,ps++[z.1]⟩,z.2):=λgb gz bz hq hp e=>by
  obtain ⟨⟨c1,c2⟩,c3⟩:=bz e;have eb:=gz.toGd.e0 e;have n1:=gb.at';refine ⟨?_,by simp only [gO,FZ,sZ];omega⟩;simp only;rw [c1];exact .fn (hp eb) c2
 have one:∀(k0 k1 k2:Int),bK ((bR n t.2 [102,110]).bind λx10=>(dX n x10).bind λx11=>(fG n x11.2).bind λx13=>(bV n x13.2 [45,62]).bind λx15=>if x15.1=true then (bV n x15.2 [117,51,50]).bind λx18=>if x18.1=true then (eA n x18.2 1).bind λx21=>gY (x13.1.length+[x21.1].length<=1073741824) <| some (({ r.1 with oM:=k1,cX:=x11.1,aO:=x13.1++[x21.1] }:aD),x21.2) else (bR n x18.2 [117,54,52]).bind λx23=>(eA n x23 1).bind λx25=>gY (x13.1.length+[x25.1].length<=1073741824) <| some (({ r.1 with oM:=k2,cX:=x11.1,aO:=x13.1++[x25.1] }:aD),x25.2) else (eA n x15.2 1).bind λx27=>gY (x13.1.length+[x27.1].length<=1073741824) <| some (({ r.1 with oM:=k0,cX:=x11.1,aO:=x13.1++[x27.1] }:aD),x27.2)) λr=>GA p r.2/\Fx p r:=by
  intro k0 k1 k2;rw [e1];refine (jZ g2.inv hn).bind λu g4=>(BG g4.inv hn).bind λv g5=>?_;have g6:=g3.ga (g4.ga g5);have n6:=g5.at';refine (JU g5.inv hn (key _ g6)).bind λw ⟨g7,hw,hp⟩=>(lX g7.inv hn).bind λx ⟨g8,_,_⟩=>?_;have g9:=(g6.ga g7).gd g8;have l9:=g9.toGd.lf
  have big:∀ {b:aE},Gd w.2 b->b.e_=0->p.fW+1<=w.2.fW - vT w.1/\∀x ∈ w.1,WP x:=λgb e=>by
   obtain ⟨q1,q2⟩:=hp (gb.e0 e);have:=g4.adv (g5.toGd.e0 (g7.toGd.e0 (gb.e0 e)));exact ⟨by omega,q1⟩
  have fin2:∀ {b:aE} {z:aD × aE} {at' k:Int} {s:cF},Gd w.2 b->GA b z.2->Bk b z->Fx p (⟨2,at',s,k,w.1++[z.1]⟩,z.2):=λgb gz bz e=>fin gb gz bz (big gb (gz.toGd.e0 e)).1 (λe2=>(big gb e2).2) e;refine bK.iteb (λ_=>?_) λ_=>?_
  ·refine (lX g8.inv hn).bind λy ⟨g10,_,_⟩=>?_;have l10:=g10.lf;refine bK.iteb (λ_=>?_) λ_=>?_
   ·exact (Il g10.inv (by omega)).bind λz ⟨g11,b11⟩=>bK.need (by simp only [uF];omega) (.some ⟨(g9.gd g10).ga g11,fin2 (g8.trans g10) g11 b11⟩)
   ·refine (jZ g10.inv hn).bind λy' g11=>?_;have l11:=g11.toGd.lf;exact (Il g11.inv (by omega)).bind λz ⟨g12,b12⟩=>bK.need (by simp only [uF];omega) (.some ⟨((g9.gd g10).ga g11).ga g12,fin2 (g8.trans (g10.trans g11.toGd)) g12 b12⟩)
  ·exact (Il g8.inv (by omega)).bind λz ⟨g11,b11⟩=>bK.need (by simp only [uF];omega) (.some ⟨g9.ga g11,fin2 g8 g11 b11⟩)
 exact bK.iteb (λ_=>one _ _ _) λ_=>one _ _ _
theorem Vv:∀(c:Nat) (p:aE) (x:aD),PI p->Lf p+46<=n->(p.l_.length:Int) - p.fW<c->1<=c->(p.e_=0->(x.aO.length:Int)<=p.fW)->(x.aO.length:Int)<=65538->bK (uL n c p x) λr=>Gd p r.1/\(r.1.e_=0->(∀y ∈ x.aO,WF y)->(∀y ∈ r.2.aO,WF y)/\vT r.2.aO<=vT x.aO+(r.1.fW - p.fW)):=by
 intro c
 induction c with
 | zero=>intro p x h _ h1 h2;omega
 | succ c ih=>
   intro p x h hk h1 h2 h3 h4;have k1:=h.lo;have k2:=h.hi;have k3:=h.big;unfold uL;refine bK.bind (P:=λb=>b=true->p.e_=0) ?_ λb hb=>?_
   ·refine bK.iteb (λhe=>?_) λ_=>.some λh=>by cases h
    exact (wH h).bind λb hb=>.some λ_=>by simpa using he
   ·refine bK.iteb (λh5=>?_) λh5=>.some ⟨.refl h,λ_ hl=>⟨hl,by simp only;omega⟩⟩;have he:=hb h5;refine (Mx h hk).bind λr ⟨g,fx⟩=>?_;have m1:=g.at';have m3:=h3 he;have m4:=g.toGd.lf;have m5:=g.inv.hi;have m6:=g.toGd.len;refine bK.need (by simp only [uF];omega) ?_
    by_cases he2:r.2.e_=0
    ·have m7:=g.adv he2;obtain ⟨w1,w2⟩:=fx he2;refine (ih r.2 _ g.inv (by omega) (by rw [m6];omega) (by omega) (λ_=>by simp only [mB,uF];omega) (by simp only [mB,uF];omega)).mono λs ⟨g2,s2⟩=>⟨g.toGd.trans g2,λe hl=>?_⟩
     obtain ⟨v1,v2⟩:=s2 e (λy hy=>by
      rcases zH.1 hy with hy | hy
      ·exact hl y hy
      ·obtain rfl:=zG.1 hy;exact w1)
     refine ⟨v1,?_⟩;simp only [FZ,sZ] at v2;omega
    ·cases c with
     | zero=>omega
     | succ c=>
       unfold uL;rw [if_neg (by simpa using he2),iJ,if_neg (by decide)];exact .some ⟨g.toGd,λe=>absurd e he2⟩
end
theorem NF {n:Nat} {s:cF} (hn:16*s.length+200<n):bK (Ai n s) λr=>r.2.1=0->(∀x ∈ r.1.aO,WF x)/\vT r.1.aO<=s.length+1:=by
 unfold Ai;refine (PN (by omega) (by omega)).bind λx hx=>?_;refine bK.iteb (λh1=>.some λh=>?_) λh1=>?_
 ·rw [show x.2.1=0 from h] at h1;cases h1
 obtain ⟨l,h2,h3,h4,h5⟩:=hx (by simpa using h1);have hp:PI (aE.mk x.1 0 0 0 0):=⟨by simp only;omega,by simp only [h2,mB,uF];omega,by simp only [h2,mB,uF];omega,⟨l,_,h2,h3,rfl⟩⟩
 have hl:Lf (aE.mk x.1 0 0 0 0)<=16*s.length+16:=by
  unfold Lf;simp only [h2,mB,uF];omega
 refine (An hp).bind λr ⟨g1,e1⟩=>?_;have e:r.1.aO=[]:=by rw [e1]
 have l1:=g1.lf;have k0:=g1.inv.lo;have k1:=g1.inv.hi;have k2:=g1.inv.lf;refine (Vv n r.2 r.1 g1.inv (by omega) (by unfold Lf at l1 hl;omega) (by omega) (λ_=>by rw [e];simpa using k0) (by rw [e];simp)).bind λy ⟨g2,s2⟩=>?_;refine bK.iteb (λhe=>.some λh=>absurd h (by simpa using he)) λhe=>.some λ_=>?_;obtain ⟨v1,v2⟩:=s2 (by simpa using he) (λy hy=>by rw [e] at hy;cases hy);refine ⟨v1,?_⟩;rw [e,oR] at v2;have m1:=g2.inv.hi;rw [g2.len,g1.len] at m1;simp only [h2,mB,uF] at m1;simp only;omega
