import Derived.Test.YtknbgnpeiohifaaGreatDoorGGMm
import Derived.Lib.IndexLaws
namespace Go.Proofs.YtknbgnpeiohifaaGreatDoor.Abs
open IntKind (i64 u32 u64 u8)
open Go.RowKit
theorem yz {p:Prop} (h:p:=by simp only;omega):p:=h
def aW {α:Type} (o:Option α) (Q:α->Prop):Prop:=∃r,o=some r/\Q r
section
variable {α β:Type} {o:Option α} {Q P:α->Prop}
theorem aW.some {r:α} (h:Q r):aW (some r) Q:=⟨r,rfl,h⟩
theorem aW.mono (h:aW o P) (k:∀x,P x->Q x):aW o Q:=by obtain ⟨r,e,hr⟩:=h;exact ⟨r,e,k r hr⟩
theorem aW.bind {f:α->Option β} {R:β->Prop} (h:aW o P) (k:∀x,P x->aW (f x) R):aW (o.bind f) R:=by
 obtain ⟨r,e,hr⟩:=h;subst e;exact k r hr
theorem aW.bind' {f:α->Option β} {R:β->Prop} (h:aW o λx=>aW (f x) R):aW (o.bind f) R:=h.bind λ_ k=>k
theorem aW.eqn {v:α} {f:α->Option β} {R:β->Prop} (h:o=Option.some v) (k:aW (f v) R):aW (o.bind f) R:=by subst h;exact k
theorem aW.need {c:Prop} [Decidable c] (hc:c) (h:aW o Q):aW (iN c o) Q:=by rw [wP hc];exact h
theorem aW.iteb {b:Bool} {x y:Option α} (h1:b=true->aW x Q) (h2:b=false->aW y Q):aW (if b=true then x else y) Q:=by
 cases b
 ·exact h2 rfl
 ·exact h1 rfl
theorem aW.elim {γ:Type} {s:β ⊕ γ} {f:β->Option α} {g:γ->Option α} (h1:∀x,s=.inl x->aW (f x) Q) (h2:∀x,s=.inr x->aW (g x) Q):aW (s.elim f g) Q:=by
 cases s
 ·exact h1 _ rfl
 ·exact h2 _ rfl
theorem aW.idx {l:List α} {i:Int} (h0:0<=i) (h1:i<l.length) (k:∀x,l[i.toNat]? = Option.some x->Q x):aW (aZ l i) Q:=by
 unfold aZ;rw [cX h0];refine ⟨l[i.toNat]'(by omega),yN zb,k _ (yN zb)⟩
end
theorem dB {n:Int} (h1:-9223372036854775808<=n) (h2:n<=9223372036854775807):i64.wrap n=n:=by
 rw [IntKind.wrap_i64];omega
theorem take_step' {α:Type} {l:List α} {j:Nat} {x:α} (h:l[j]? = some x):l.take (j+1)=l.take j++[x]:=by
 rw [List.take_add_one,h];rfl
theorem Rs {α:Type} {p:α->Bool} {s:List α} {v:Nat} {x:α} (h:∀y ∈ s.take v,p y=true) (hx:s[v]? = some x) (hp:p x=false):s.takeWhile p=s.take v:=by
 obtain ⟨hv,rfl⟩:=xW.1 hx;have h1:(s.take v++s.drop v).takeWhile p=s.take v++(s.drop v).takeWhile p:=List.takeWhile_append_of_pos h;rw [xeo] at h1;rw [h1,Sq hv,List.takeWhile_cons_of_neg (by simp [hp]),Fu]
theorem find_at {α:Type} {p:α->Bool} {s:List α} {v:Nat} {x:α} (h:∀y ∈ s.take v,p y=false) (hx:s[v]? = some x) (hp:p x=true):s.find? p=some x:=by
 obtain ⟨hv,rfl⟩:=xW.1 hx
 have h1:(s.take v++s.drop v).find? p=(s.drop v).find? p:=by
  rw [List.find?_append,List.find?_eq_none.2 (λy hy=>by simp [h y hy])];rfl
 rw [xeo] at h1;rw [h1,Sq hv,List.find?_cons_of_pos (by simp [hp])]
theorem Ns {α:Type} {p:α->Bool} {s:List α} (h:∀y ∈ s,p y=true):s.takeWhile p=s:=by
 have:=List.takeWhile_append_of_pos (l₂:=[]) h;simpa using this
set_option linter.all false
def zas (c:Int):Bool:=(decide (97<=c) && decide (c<=122)) || (c == 95)
def zat (c:Int):Bool:=decide (48<=c) && decide (c<=57)
def isBl (c:Int):Bool:=c == 32 || (c == 9 || (c == 13 || c == 10))
def XD (b:UInt8):Bool:=zas b.toNat || zat b.toNat
theorem za2 (a:Int):DL a=some (isBl a):=by
 unfold DL isBl;cases a == 32 <;> cases a == 9 <;> cases a == 13 <;> rfl
theorem QZ (a:Int):Ad a=some (zas a):=by
 unfold Ad zas;cases decide (97<=a) <;> cases decide (a<=122) <;> simp
theorem Ug (a:Int):BT a=some (zat a):=by
 unfold BT zat;cases decide (48<=a) <;> simp
theorem Me (a b:cB):gN a b=some (decide (a.take b.length=b)):=by
 unfold gN
 by_cases h:(b.length:Int)<=a.length
 ·rw [cX (by simpa using h),wP ⟨zb,h⟩];rfl
 ·rw [cE (by simpa using h),iX,SB];intro e;have:=DI List.length e;rw [NL] at this;omega
theorem Cr (a b:cB):pB a b=some (decide (a.take b.length=b)):=by
 unfold pB;rw [Me];rfl
theorem It (a:cB) (c:Int):pA a c=some (Lib.indexByte a c.toNat.toUInt8):=rfl
theorem word_l1 (s:cB):∀(c:Nat) (v:Nat),s.length<v+c->v<=s.length->(∀y ∈ s.take v,XD y=true)->s.length<4611686018427387904 ->
  aW (FE s c v) (λr=>match r with | .inl _=>s.takeWhile XD=s | .inr t=>t=s.takeWhile XD):=by
 intro c
 induction c with
 | zero=>intro v h1 h2;omega
 | succ c ih=>
   intro v h1 h2 h3 hs;unfold FE;refine aW.iteb (λh4=>?_) (λh4=>?_)
   ·simp only [Da] at h4;refine (aW.bind (P:=λy=>∃x,s[v]? = some x/\y=!XD x) ?_) ?_
    ·refine aW.bind' (aW.idx zb h4 λx hx=>?_);rw [GD] at hx;rw [QZ,iX,Ug,iX];refine aW.iteb (λh5=>.some ⟨x,hx,?_⟩) (λh5=>.some ⟨x,hx,?_⟩)
     ·simp only [xdw] at h5;simp [XD,h5]
     ·simp only [Bool.not_eq_false'] at h5;simp [XD,h5]
    ·rintro y ⟨x,hx,rfl⟩;refine aW.iteb (λh5=>?_) (λh5=>?_)
     ·refine aW.need ⟨zb,zb⟩ (.some ?_);simp only [xdw] at h5;rw [GD];exact (Rs h3 hx h5).symm
     ·simp only [Bool.not_eq_false'] at h5;rw [dB zb zb];refine ih (v+1) zb zb ?_ hs;rw [take_step' hx];intro y hy
      rcases yU.1 hy with hy | hy
      ·exact h3 y hy
      ·rw [zU.1 hy];exact h5
   ·refine .some ?_;simp only [decide_eq_false_iff_not] at h4;rw [xdq zb] at h3;exact Ns h3
theorem word_eq {n:Nat} {s:cB} (hn:s.length<n) (hs:s.length<4611686018427387904):Hj n s=some (s.takeWhile XD):=by
 unfold Hj;obtain ⟨r,e,hr⟩:=word_l1 s n 0 zb zb zd hs;rw [show ((0:Nat):Int)=0 from rfl] at e;rw [e,iX];cases r with
 | inl _=>rw [hr];rfl
 | inr t=>rw [hr];rfl
theorem sign_l1 (s:cB):∀(c:Nat) (v:Nat),26<v+c->v<=26->(∀y ∈ gL.take v,decide (s.take y.length=y)=false) ->
  aW (FF s c v) (λr=>match r with | .inl _=>gL.find? (λy=>decide (s.take y.length=y))=none | .inr t=>gL.find? (λy=>decide (s.take y.length=y))=some t):=by
 intro c
 induction c with
 | zero=>intro v h1 h2;omega
 | succ c ih=>
   intro v h1 h2 h3;unfold FF;refine aW.iteb (λh4=>?_) (λh4=>?_)
   ·simp only [Da] at h4;refine aW.bind' (aW.idx zb (by have:gL.length=26:=rfl;omega) λx hx=>?_);rw [GD] at hx;rw [Cr,iX];refine aW.iteb (λh5=>.some ?_) (λh5=>?_)
    ·exact find_at h3 hx h5
    ·rw [dB zb zb];refine ih (v+1) zb zb ?_;rw [take_step' hx];intro y hy
     rcases yU.1 hy with hy | hy
     ·exact h3 y hy
     ·rw [zU.1 hy];exact h5
   ·refine .some ?_;simp only [decide_eq_false_iff_not] at h4;rw [xdq (by have:gL.length=26:=rfl;omega)] at h3;exact List.find?_eq_none.2 λy hy=>by simpa using h3 y hy
def Mq (s:cB):cB:=(gL.find? (λy=>decide (s.take y.length=y))).getD []
theorem sign_eq {n:Nat} {s:cB} (hn:26<n):Hk n s=some (Mq s):=by
 unfold Hk Mq;obtain ⟨r,e,hr⟩:=sign_l1 s n 0 zb zb zd;rw [show ((0:Nat):Int)=0 from rfl] at e;rw [e,iX];cases r with
 | inl _=>rw [hr];rfl
 | inr t=>rw [hr];rfl
theorem UJ (s:cB):Mq s=[] ∨ 1<=(Mq s).length/\(Mq s).length<=s.length:=by
 unfold Mq;cases h:gL.find? (λy=>decide (s.take y.length=y)) with
 | none=>exact .inl rfl
 | some y=>
   have h1:=List.find?_some h;have h2:=List.mem_of_find?_eq_some h;simp only [Da] at h1;have h3:=DI List.length h1;rw [NL] at h3;have h4:(gL.all λy=>decide (1<=y.length))=true:=zc
   have h5:=Rj.1 h4 y h2;simp only [Da] at h5;exact .inr ⟨h5,by show y.length<=_;omega⟩
theorem skip_l1 (s:cB) (hs:s.length<4611686018427387904):∀(c:Nat) (v:Nat),s.length<v+c->v<=s.length->aW (CG s c v) (λr=>∃k:Nat,v<=k/\k<=s.length/\(r=.inl (k:Int) ∨ r=.inr (k:Int))):=by
 intro c
 induction c with
 | zero=>intro v h1 h2;omega
 | succ c ih=>
   intro v h1 h2;unfold CG;refine aW.iteb (λh4=>?_) (λh4=>.some ⟨v,zb,h2,.inl rfl⟩);simp only [Da] at h4;refine aW.bind' (aW.idx zb h4 λx hx=>?_);rw [GD] at hx;rw [za2,iX];refine aW.iteb (λh5=>?_) (λh5=>?_)
   ·rw [dB zb zb];exact (ih (v+1) zb zb).mono λr ⟨k,h6,h7,h8⟩=>⟨k,zb,h7,h8⟩
   ·refine aW.need ⟨zb,zb⟩ ?_;rw [GD,Cr,iX];refine aW.iteb (λh6=>?_) (λh6=>.some ⟨v,zb,h2,.inr rfl⟩);simp only [Da] at h6;refine aW.need ⟨zb,zb⟩ ?_;rw [It,iX];refine aW.iteb (λh7=>.some ⟨s.length,h2,zb,.inr rfl⟩) (λh7=>?_);simp only [decide_eq_false_iff_not,Int.not_lt] at h7;obtain ⟨o,ho⟩:=xdt h7;rw [ho];obtain ⟨h8,h9⟩:=Lib.indexByte_some ho;have h10:o<(s.drop v).length:=(xW.1 h8).1;rw [Us] at h10
    have h11:o ≠ 0:=by
     rintro rfl;have h12:=DI (·[0]?) h6;simp only [xep (show 0<([47,47]:cB).length by decide)] at h12;rw [h8] at h12
     revert h12;decide
    rw [dB zb zb];exact (ih (v+o) zb zb).mono λr ⟨k,h6,h7,h8⟩=>⟨k,zb,h7,h8⟩
theorem SZ {n:Nat} {s:cB} {v:Nat} (hs:s.length<4611686018427387904) (hn:s.length<v+n) (hv:v<=s.length):aW (Ew n s v) λr=>∃k:Nat,v<=k/\k<=s.length/\r=k:=by
 unfold Ew;refine (skip_l1 s hs n v hn hv).bind λr ⟨k,h1,h2,h3⟩=>?_
 rcases h3 with rfl | rfl <;> exact .some ⟨k,h1,h2,rfl⟩
theorem YW (x:cB × Bool) (hs:x.1.length<4611686018427387904):∀(c:Nat) (t:Int) (v:Nat),x.1.length<v+c->v<=x.1.length->aW (DA x c t v) λr=>∀x,r=.inr x->x=((0:Int),false):=by
 intro c
 induction c with
 | zero=>intro t v h1 h2;omega
 | succ c ih=>
   intro t v h1 h2;unfold DA;refine aW.iteb (λh4=>?_) (λh4=>.some λ_ h=>nomatch h);simp only [Da] at h4;refine aW.need zc ?_;refine aW.bind' (aW.idx zb h4 λy hy=>?_);rw [It,iX];refine aW.bind (P:=λ_=>True) (aW.iteb (λ_=>.some trivial) λ_=>.some trivial) λy _=>?_;refine aW.iteb (λ_=>.some λ_ h=>(Sum.inr.inj h).symm) λ_=>?_;rw [dB (n:=(v:Int)+1) zb zb];exact ih _ (v+1) zb zb
theorem YV (s:cB) (hs:s.length<4611686018427387904):∀(c:Nat) (t:Int) (v:Nat),s.length<v+c->v<=s.length->aW (Dz s c t v) λr=>∀x,r=.inr x->x=((0:Int),false):=by
 intro c
 induction c with
 | zero=>intro t v h1 h2;omega
 | succ c ih=>
   intro t v h1 h2;unfold Dz;refine aW.iteb (λh4=>?_) (λh4=>.some λ_ h=>nomatch h);simp only [Da] at h4;refine aW.need zc ?_;refine aW.bind' (aW.idx zb h4 λy hy=>?_);rw [It,iX];refine aW.bind (P:=λ_=>True) (aW.iteb (λ_=>.some trivial) λ_=>.some trivial) λy _=>?_;refine aW.iteb (λ_=>.some λ_ h=>(Sum.inr.inj h).symm) λ_=>?_;rw [dB (n:=(v:Int)+1) zb zb];exact ih _ (v+1) zb zb
theorem Sl (a b:cB):sK a b=some (if a.take b.length=b then (a.drop b.length,true) else (a,false)):=by
 unfold sK kB;rw [Me,iX]
 by_cases h:a.take b.length=b
 ·rw [Ah h,cE zc,cX h,wP]
  ·rfl
  ·have:=DI List.length h;rw [NL] at this;omega
 ·rw [SB h,cX zc,cE h];rfl
theorem WV {n:Nat} {s:cB} (hs:s.length<4611686018427387904) (hn:s.length<n):aW (DK n s) λr=>0<=r.1/\r.1<=4294967295:=by
 have hw:∀v:Int,0<=u32.wrap v/\u32.wrap v<=4294967295:=λv=>by rw [IntKind.wrap_u32];omega
 unfold DK;rw [Sl,iX]
 have hl:∀x:cB × Bool,x=(if s.take ([48,120]:cB).length=([48,120]:cB) then (s.drop ([48,120]:cB).length,true) else (s,false))->x.1.length<=s.length:=by
  rintro x rfl
  split
  ·rw [Us];omega
  ·exact uZ _
 generalize (if s.take ([48,120]:cB).length=([48,120]:cB) then (s.drop ([48,120]:cB).length,true) else (s,false))=x at hl
 have hx:=hl x rfl;refine aW.iteb (λ_=>?_) λ_=>?_
 ·exact (YW x zb n 0 0 zb zb).bind λr hr=>aW.elim (λ_ _=>.some (hw _)) λz h=>.some (by rw [hr z h];decide)
 ·exact (YV s zb n 0 0 zb zb).bind λr hr=>aW.elim (λ_ _=>.some (hw _)) λz h=>.some (by rw [hr z h];decide)
theorem ZV {n:Nat} {s:cB} {v:Nat} (hs:s.length<4611686018427387904) (hn:s.length<n) (hn2:26<n) (hv:v<s.length) :
  aW (Hl n s v) λr=>r.2=0->(r.1.bJ=1 ∨ r.1.bJ=2 ∨ r.1.bJ=3)/\r.1.gI=v/\1<=r.1.dM.length/\v+r.1.dM.length<=s.length/\0<=r.1.pX/\r.1.pX<=4294967295:=by
 unfold Hl;refine aW.need ⟨zb,zb⟩ ?_;rw [GD,word_eq (by rw [Us];omega) (by rw [Us];omega),iX];refine aW.bind' (aW.idx zb zb λx hx=>?_);rw [GD] at hx
 have hd:s.drop v=x::s.drop (v+1):=by
  obtain ⟨h1,rfl⟩:=xW.1 hx;exact Sq h1
 have hle:((s.drop v).takeWhile XD).length<=s.length - v:=by
  have:=(List.takeWhile_prefix (l:=s.drop v) XD).length_le
  rwa [Us] at this
 have hpos:XD x=true->1<=((s.drop v).takeWhile XD).length:=by
  intro h;rw [hd,List.takeWhile_cons_of_pos h,qB];omega
 rw [QZ,iX];refine aW.iteb (λh1=>aW.iteb (λ_=>.some λh=>by cases h) λ_=>.some λ_=>⟨.inl rfl,rfl,hpos (by simp [XD,h1]),yz,yz,yz⟩) λh1=>?_;rw [Ug,iX];refine aW.iteb (λh2=>?_) λh2=>?_
 ·refine (WV zb zb).bind λy hy=>aW.iteb (λ_=>.some λh=>by cases h) λ_=>.some λ_=>⟨.inr (.inl rfl),rfl,hpos (by simp [XD,h2]),yz,hy.1,hy.2⟩
 ·refine aW.need ⟨zb,zb⟩ ?_;rw [sign_eq hn2,iX];refine aW.iteb (λ_=>.some λh=>by cases h) λh3=>.some λ_=>⟨.inr (.inr rfl),rfl,?_⟩;have h4:=UJ (s.drop v);simp only [decide_eq_false_iff_not] at h3
  rcases h4 with h4 | h4
  ·exact cM h4 h3
  ·rw [Us] at h4;exact ⟨h4.1,yz,yz,yz⟩
def Ub (l:List eA):Prop:=∀t ∈ l,(t.bJ=1 ∨ t.bJ=2 ∨ t.bJ=3)/\t.dM ≠ []/\0<=t.pX/\t.pX<=4294967295
theorem Yn {n:Nat} {s:cB} (hs:s.length<=65536) (hn:s.length<n) (hn2:26<n):∀(c:Nat) (l:List eA) (v:Nat),s.length<v+c->v<=s.length->Ub l->l.length<=v ->
  aW (Cf n s c l v) λr=>match r with | .inl l=>Ub l/\l.length<=s.length | .inr x=>x.2.1 ≠ 0:=by
 intro c
 induction c with
 | zero=>intro l v h1 h2;omega
 | succ c ih=>
   intro l v h1 h2 h3 h4;unfold Cf;refine aW.iteb (λh5=>?_) λh5=>.some ⟨h3,zb⟩;simp only [Da] at h5;refine (ZV zb hn hn2 zb).bind λx hx=>?_;refine aW.iteb (λh6=>.some (by simpa using h6)) λh6=>?_;obtain ⟨k1,k2,k3,k4,k5⟩:=hx (by simpa using h6);refine aW.need (by simp only [vO];omega) ?_;rw [dB zb zb];refine (SZ (v:=v+x.1.dM.length) zb zb k4).bind λr ⟨k,h7,h8,h9⟩=>?_;subst h9;refine ih _ k zb h8 ?_ (by simp only [oY,vO];omega);intro t ht
   rcases yU.1 ht with ht | ht
   ·exact h3 t ht
   ·rw [zU.1 ht];exact ⟨k1,λe=>by rw [e] at k3;simp at k3,k5⟩
theorem Vy {n:Nat} {s:cB} (hn:s.length<n) (hn2:26<n):aW (BS n s) λr=>r.2.1=0->∃l,r.1=l++[⟨4,s.length,[],0⟩]/\Ub l/\l.length<=s.length/\s.length<=65536:=by
 unfold BS;refine aW.iteb (λ_=>.some λh=>by cases h) λh1=>?_;simp only [decide_eq_false_iff_not,Int.not_lt] at h1;refine (SZ (v:=0) zb zb zb).bind λr ⟨k,h2,h3,h4⟩=>?_;subst h4;refine (Yn zb hn hn2 n [] k zb h3 (by simp [Ub]) zd).bind λy hy=>?_;refine aW.elim (λz e=>?_) (λz e=>?_)
 ·subst e;refine aW.need (by simp only [vO];omega) (.some λ_=>⟨z,rfl,hy.1,hy.2,zb⟩)
 ·subst e;exact .some λh=>cM h hy
abbrev Nd:=aC
mutual
def sz:aC->Int
 | ⟨_,_,_,_,l⟩=>1+zW l
def zW:List aC->Int
 | []=>0
 | x::l=>sz x+zW l
end
theorem iZ {a b:Int} {c:cB} {d:Int} {l:List aC}:sz ⟨a,b,c,d,l⟩=1+zW l:=by rw [sz]
theorem qD:zW []=0:=by rw [zW]
theorem yY {x:aC} {l:List aC}:zW (x::l)=sz x+zW l:=by rw [zW]
theorem Jb (x:aC):sz x=1+zW x.aN:=by cases x;rw [sz]
theorem JU {a b:List aC}:zW (a++b)=zW a+zW b:=by
 induction a with
 | nil=>rw [AE,qD,Int.zero_add]
 | cons x a ih=>rw [Ri,yY,yY,ih,Int.add_assoc]
theorem wH {x:aC}:zW [x]=sz x:=by rw [yY,qD,Int.add_zero]
theorem MT {x y:aC}:zW [x,y]=sz x+sz y:=by rw [yY,wH]
theorem Qx {x y z:aC}:zW [x,y,z]=sz x+sz y+sz z:=by rw [yY,MT,Int.add_assoc]
mutual
theorem uP:∀x:aC,1<=sz x
 | ⟨_,_,_,_,l⟩=>by rw [sz];have:=rN l;omega
theorem rN:∀l:List aC,(l.length:Int)<=zW l
 | []=>by rw [zW];exact Uj _
 | x::l=>by rw [zW,qB];have:=rN l;have:=uP x;omega
end
theorem Oq {l:List aC} {k:aC} (h:k ∈ l):sz k<=zW l:=by
 obtain ⟨a,b,rfl⟩:=List.append_of_mem h;rw [JU,yY];have h1:=rN a;have h2:=rN b;omega
def AK:List cB:=[[124],[94],[38],[61,61],[60],[60,60],[62,62],[60,60,60],[43],[45],[42],[47],[37]]
inductive WE:Nd->Prop
 | num {a n}:0<=n->n<=4294967295->WE ⟨14,a,[],n,[]⟩
 | ref {a s}:WE ⟨15,a,s,0,[]⟩
 | index {a s x}:WE x->WE ⟨16,a,s,0,[x]⟩
 | un {a s x}:(s=[126] ∨ s=[45])->WE x->WE ⟨18,a,s,0,[x]⟩
 | bin {a s x y}:s ∈ AK->WE x->WE y->WE ⟨19,a,s,0,[x,y]⟩
 | call {a s xs}:(∀x ∈ xs,WE x)->WE ⟨17,a,s,0,xs⟩
inductive WS:Nd->Prop
 | bind {k a s x}:(k=5 ∨ k=6)->WE x->WS ⟨k,a,s,0,[x]⟩
 | arr {a s n}:WS ⟨7,a,s,n,[]⟩
 | ret {a x}:WE x->WS ⟨13,a,[],0,[x]⟩
 | choice {a c b ys}:WE c->(∀y ∈ ys,WS y)->WS ⟨11,a,[],0,[c,⟨4,b,[],0,ys⟩]⟩
 | choice2 {a c b ys b2 zs}:WE c->(∀y ∈ ys,WS y)->(∀z ∈ zs,WS z)->WS ⟨11,a,[],0,[c,⟨4,b,[],0,ys⟩,⟨4,b2,[],0,zs⟩]⟩
 | loop {a s x y b ys}:WE x->WE y->(∀y ∈ ys,WS y)->WS ⟨12,a,s,0,[x,y,⟨4,b,[],0,ys⟩]⟩
 | call {a s xs}:(∀x ∈ xs,WE x)->WS ⟨10,a,s,0,xs⟩
 | put {a s i x}:WE i->WE x->WS ⟨9,a,s,0,[i,x]⟩
 | set {a s x}:WE x->WS ⟨8,a,s,0,[x]⟩
inductive WP:Nd->Prop
 | word {a s k}:(k=1 ∨ k=2 ∨ k=3)->WP ⟨3,a,s,k,[]⟩
 | arr {a s b n}:WP ⟨3,a,s,4,[⟨14,b,[],n,[]⟩]⟩
inductive WF:Nd->Prop
 | fn {a s r ps b ys}:(∀p ∈ ps,WP p)->(∀y ∈ ys,WS y)->WF ⟨2,a,s,r,ps++[⟨4,b,[],0,ys⟩]⟩
theorem Gr {α:Type} {x:α}:x ∈ [x]:=zU.2 rfl
structure PI (p:aD):Prop where
 lo:0<=p.fW
 hi:p.fW<p.l_.length
 big:p.l_.length<=65537
 toks:∃l z,p.l_=l++[z]/\Ub l/\z.bJ=4
structure Gd (p p':aD):Prop where
 inv:PI p'
 l:p'.l_=p.l_
 at':p.fW<=p'.fW
 err':p.e_ ≠ 0->p'.e_=p.e_/\p'.fW=p.fW
structure GA (p p':aD):Prop extends Gd p p' where
 adv:p'.e_=0->p.fW<p'.fW
theorem Gd.err {p q:aD} (h:Gd p q):p.e_ ≠ 0->q.e_ ≠ 0/\q.fW=p.fW:=λhe=>⟨by rw [(h.err' he).1];exact he,(h.err' he).2⟩
theorem Gd.refl {p:aD} (h:PI p):Gd p p:=⟨h,rfl,Uj _,λh=>⟨rfl,rfl⟩⟩
theorem Gd.trans {p q r:aD} (h:Gd p q) (k:Gd q r):Gd p r:=⟨k.inv,k.l.trans h.l,Int.le_trans h.at' k.at',λhe=>⟨(k.err' (h.err he).1).1.trans (h.err' he).1,(k.err' (h.err he).1).2.trans (h.err' he).2⟩⟩
theorem Gd.e0 {p q:aD} (h:Gd p q) (he:q.e_=0):p.e_=0:=Classical.byContradiction λhn=>(h.err hn).1 he
theorem Gd.ga {p q r:aD} (h:Gd p q) (k:GA q r):GA p r:=⟨h.trans k.toGd,λhe=>Int.lt_of_le_of_lt h.at' (k.adv he)⟩
theorem GA.gd {p q r:aD} (h:GA p q) (k:Gd q r):GA p r:=⟨h.toGd.trans k,λhe=>Int.lt_of_lt_of_le (h.adv (k.e0 he)) k.at'⟩
theorem GA.ga {p q r:aD} (h:GA p q) (k:GA q r):GA p r:=h.gd k.toGd
theorem Gd.len {p q:aD} (h:Gd p q):q.l_.length=p.l_.length:=by rw [h.l]
section
variable {p:aD} {n:Nat}
theorem Aj (h:PI p):aW (eD p) λt=>t.bJ ≠ 4->p.fW+1<p.l_.length:=by
 unfold eD;refine aW.bind' (aW.idx h.lo h.hi λx hx=>.some λhk=>?_);obtain ⟨l,z,h1,h2,h3⟩:=h.toks;have h4:=h.lo;have h5:=h.hi;rw [h1] at hx h5 ⊢;simp only [oY,vO] at h5 ⊢
 by_cases h6:p.fW.toNat=l.length
 ·rw [Mh zb,h6,xec] at hx;simp at hx
  subst hx;exact cM h3 hk
 ·omega
theorem JF (h:PI p) {e:Int} (he:e ≠ 0):aW (iY p e) λq=>Gd p q/\q.e_ ≠ 0:=by
 unfold iY;refine aW.iteb (λh1=>?_) λh1=>.some ⟨.refl h,by simpa using h1⟩;simp only [beq_iff_eq] at h1;exact (Aj h).bind λt _=>.some ⟨⟨⟨h.lo,h.hi,h.big,h.toks⟩,rfl,Uj _,λhn=>cM h1 hn⟩,he⟩
theorem CE (h:PI p) {k:Int}:aW (fP p k) λr=>Gd p r.2/\r.1=⟨k,r.1.gI,[],0,[]⟩:=by
 unfold fP;have hp:PI { p with BR:=(i64.wrap (p.BR+(1:Int))) }:=⟨h.lo,h.hi,h.big,h.toks⟩;have hg:Gd p { p with BR:=(i64.wrap (p.BR+(1:Int))) }:=⟨hp,rfl,Uj _,λhn=>⟨rfl,rfl⟩⟩;refine aW.iteb (λh1=>?_) λh1=>?_
 ·exact (JF hp zc).bind λq ⟨g,_⟩=>(Aj g.inv).bind λt _=>.some ⟨hg.trans g,rfl⟩
 ·exact (Aj hp).bind λt _=>.some ⟨hg,rfl⟩
theorem zbn (l:List cB) (s:cB) (hl:l.length<1000):∀(c:Nat) (v:Nat),l.length<v+c->v<=l.length->(∀y ∈ l.take v,decide (s=y)=false) ->
  aW (lT l s c v) λr=>match r with | .inl _=>(l.any λy=>decide (s=y))=false | .inr k=>0<=k/\(l.any λy=>decide (s=y))=true:=by
 intro c
 induction c with
 | zero=>intro v h1 h2;omega
 | succ c ih=>
   intro v h1 h2 h3;unfold lT;refine aW.iteb (λh4=>?_) (λh4=>?_)
   ·simp only [Da] at h4;refine aW.bind' (aW.idx zb h4 λx hx=>?_);rw [GD] at hx;refine aW.iteb (λh5=>.some ⟨zb,?_⟩) (λh5=>?_)
    ·exact List.any_eq_true.2 ⟨x,GB hx,h5⟩
    ·rw [dB zb zb];refine ih (v+1) zb zb ?_;rw [take_step' hx];intro y hy
     rcases yU.1 hy with hy | hy
     ·exact h3 y hy
     ·rw [zU.1 hy];exact h5
   ·refine .some ?_;simp only [decide_eq_false_iff_not] at h4;rw [xdq zb] at h3;exact List.any_eq_false.2 λy hy=>by simp [h3 y hy]
def zar (s:cB):Bool:=cL.any λy=>decide (s=y)
theorem WG {s:cB} (hn:13<n):Ac n s=some (zar s):=by
 unfold Ac jQ kQ;obtain ⟨r,e,hr⟩:=zbn cL s zc n 0 (by have:cL.length=13:=rfl;omega) zb zd;rw [show ((0:Nat):Int)=0 from rfl] at e;rw [e,iX];unfold zar;cases r with
 | inl _=>rw [hr];rfl
 | inr k=>
   rw [hr.2];simp only [Sum.elim_inr,iX,Option.some.injEq,Da];exact hr.1
theorem OT (h:PI p) (hn:13<n) {s:cB}:aW (kC n p s) λb=>b=true->p.e_=0/\p.fW+1<p.l_.length:=by
 unfold kC;refine (Aj h).bind λt ht=>?_;refine aW.bind (P:=λb=>b=true->p.e_=0/\p.fW+1<p.l_.length) ?_ λb hb=>.some hb;refine aW.iteb (λh1=>?_) λh1=>.some λh=>by cases h
 simp only [beq_iff_eq] at h1;refine aW.iteb (λh2=>?_) λh2=>.some λh=>by cases h
 refine aW.iteb (λh3=>.some λ_=>⟨h1,ht ?_⟩) λh3=>?_
 ·simp only [beq_iff_eq] at h3;omega
 refine aW.iteb (λh4=>?_) λh4=>.some λh=>by cases h
 rw [WG hn,iX];refine .some λ_=>⟨h1,ht ?_⟩;simp only [beq_iff_eq] at h4;omega
theorem Rt (h:PI p) (he:p.e_=0) (hk:p.fW+1<p.l_.length):i64.wrap (p.fW+(1:Int))=p.fW+1/\GA p { p with fW:=p.fW+1 }:=by
 have h1:=h.lo;have h2:=h.big;refine ⟨dB zb zb,⟨⟨⟨yz,by simpa using hk,h.big,h.toks⟩,rfl,yz,λhn=>cM he hn⟩,λ_=>yz⟩⟩
theorem mS (h:PI p) (hn:13<n) {s:cB}:aW (bU n p s) λr=>Gd p r.2/\(r.1=true->p.e_=0/\GA p r.2/\r.2.e_=0)/\(r.1=false->r.2=p):=by
 unfold bU;refine (OT h hn).bind λb hb=>?_;refine aW.iteb (λh1=>.some ⟨.refl h,(λh=>by cases h),λ_=>rfl⟩) λh1=>?_;simp only [Bool.not_eq_false'] at h1;obtain ⟨h2,h3⟩:=hb h1;obtain ⟨h4,h5⟩:=Rt h h2 h3;rw [h4];exact .some ⟨h5.toGd,λ_=>⟨h2,h5,h2⟩,λh=>by cases h⟩
theorem kS (h:PI p) (hn:13<n) {s:cB}:aW (bQ n p s) λq=>GA p q:=by
 unfold bQ;refine (mS h hn).bind λr ⟨h1,h2,h3⟩=>?_;refine aW.iteb (λh4=>?_) λh4=>.some (h2 (by simpa using h4)).2.1;exact (JF h1.inv zc).bind λq ⟨g,he⟩=>.some ⟨h1.trans g,λh=>cM h he⟩
theorem Es (h:PI p) (hn:13<n):aW (eW n p) λr=>GA p r.2:=by
 unfold eW;refine (Aj h).bind λt ht=>?_;refine aW.bind (P:=λb=>b=false->p.e_=0/\t.bJ=1) ?_ λb hb=>?_
 ·refine aW.iteb (λh1=>.some λh=>by cases h) λh1=>?_;refine aW.iteb (λh2=>.some λh=>by cases h) λh2=>?_;rw [WG hn,iX];exact .some λ_=>⟨by simpa using h1,by simpa using h2⟩
 ·refine aW.iteb (λh1=>?_) λh1=>?_
  ·exact (JF h zc).bind λq ⟨g,he⟩=>.some ⟨g,λh=>cM h he⟩
  ·obtain ⟨h2,h3⟩:=hb h1;obtain ⟨h4,h5⟩:=Rt h h2 (ht zb);rw [h4];exact .some h5
theorem WX (h:PI p):aW (eD p) λt=>t.bJ ≠ 4->p.fW+1<p.l_.length/\0<=t.pX/\t.pX<=4294967295:=by
 obtain ⟨t,e,ht⟩:=Aj h;refine ⟨t,e,λhk=>⟨ht hk,?_⟩⟩;unfold eD at e;obtain ⟨x,hx,e⟩:=aH e;obtain rfl:=bS e;obtain ⟨l,z,h1,h2,h3⟩:=h.toks;obtain ⟨_,_,hx⟩:=bX hx;rw [h1] at hx
 rcases yU.1 (GB hx) with hm | hm
 ·exact (h2 _ hm).2.2
 ·rw [zU.1 hm] at hk;exact cM h3 hk
theorem OC (h:PI p):aW (lD p) λr=>GA p r.2/\0<=r.1/\r.1<=4294967295:=by
 unfold lD;refine (WX h).bind λt ht=>?_;refine aW.bind (P:=λb=>b=false->p.e_=0/\t.bJ=2) ?_ λb hb=>?_
 ·refine aW.iteb (λh1=>.some λh=>by cases h) λh1=>.some λh=>⟨by simpa using h1,by simpa using h⟩
 ·refine aW.iteb (λh1=>?_) λh1=>?_
  ·exact (JF h zc).bind λq ⟨g,he⟩=>.some ⟨⟨g,λh=>cM h he⟩,yz,yz⟩
  ·obtain ⟨h2,h3⟩:=hb h1;obtain ⟨h4,h5⟩:=Rt h h2 (ht zb).1;rw [h4];exact .some ⟨h5,(ht zb).2⟩
theorem Ta (h:PI p) (hn:13<n):aW (nA n p) λr=>GA p r.2:=by
 unfold nA;exact (kS h hn).bind λq g1=>(OC g1.inv).bind λr ⟨g2,_⟩=>(kS g2.inv hn).bind λs g3=>.some (g1.ga (g2.ga g3))
theorem ZK (hn:13<n):∀(c:Nat) (v:Nat) (p:aD) (x y:aC),3<v+c->v<=3->PI p->aW (sL n c v p x y) λr=>match r with | .inl s=>Gd p s.1/\s.2.2=y | .inr s=>Gd p s.2/\∃k,(k=1 ∨ k=2 ∨ k=3)/\s.1={ y with pX:=k }:=by
 intro c
 induction c with
 | zero=>intro v p x y h1 h2;omega
 | succ c ih=>
   intro v p x y h1 h2 h;unfold sL;refine aW.iteb (λh4=>?_) λh4=>.some ⟨.refl h,rfl⟩;simp only [Da] at h4;refine aW.bind' (aW.idx zb (by have:lN.length=3:=rfl;omega) λz hz=>?_);refine (mS h hn).bind λr ⟨g1,g2,g3⟩=>?_;refine aW.iteb (λ_=>.some ⟨g1,_,?_,rfl⟩) λ_=>?_
   ·have h5:v=0 ∨ v=1 ∨ v=2:=zb
    rcases h5 with rfl | rfl | rfl <;> decide
   rw [dB zb zb];refine (ih (v+1) r.2 x y zb zb g1.inv).mono λs hs=>?_;cases s with
   | inl s=>exact ⟨g1.trans hs.1,hs.2⟩
   | inr s=>exact ⟨g1.trans hs.1,hs.2⟩
theorem Xw (h:PI p) (hn:13<n):aW (oN n p) λr=>GA p r.2/\(r.2.e_=0->WP r.1/\sz r.1<=r.2.fW - p.fW):=by
 unfold oN;refine (CE h).bind λr ⟨g1,e1⟩=>(Es g1.inv hn).bind λs g2=>(kS g2.inv hn).bind λq g3=>?_;refine (ZK hn n 0 q _ _ zb zb g3.inv).bind λy hy=>?_;have g4:=g1.ga (g2.ga g3);refine aW.elim (λz e=>?_) λz e=>?_
 ·subst e;obtain ⟨hy,hz⟩:=hy;refine (CE hy.inv).bind λr ⟨g5,e5⟩=>(Ta g5.inv hn).bind λs g6=>.some ⟨(g4.gd hy).ga (g5.ga g6),λe=>?_⟩;have m6:=g6.adv e;have e6:=(g5.ga g6).toGd.e0 e;have e7:=hy.e0 e6;have m3:=g3.adv e7;have m2:=g2.adv (g3.toGd.e0 e7);have m1:=g1.at';have m5:=g5.at';have m4:=hy.at';rw [hz,e1,e5];exact ⟨.arr,by rw [iZ,wH,iZ,qD];simp only;omega⟩
 ·subst e;obtain ⟨hy,k,hk,hz⟩:=hy;refine .some ⟨g4.gd hy,λe=>?_⟩;have e7:=hy.e0 e;have m3:=g3.adv e7;have m1:=g1.at';have m2:=g2.at';have m4:=hy.at';rw [hz,e1];exact ⟨.word hk,by rw [iZ,qD];omega⟩
theorem Qc (hn:13<n):∀(c:Nat) (l:List aC) (p:aD),PI p->(p.l_.length:Int) - p.fW<c->(l.length:Int)<=p.fW->aW (nI n c l p) λr=>Gd p r.2/\(r.1.length:Int)<=r.2.fW+1/\(r.2.e_=0->(∀x ∈ l,WP x)->(∀x ∈ r.1,WP x)/\zW r.1<=zW l+(r.2.fW - p.fW)):=by
 intro c
 induction c with
 | zero=>intro l p h h1 h2;have:=h.hi;omega
 | succ c ih=>
   intro l p h h1 h2;have k1:=h.lo;have k2:=h.hi;have k3:=h.big;unfold nI;refine aW.iteb (λh4=>?_) λh4=>.some ⟨.refl h,yz,λ_ hl=>⟨hl,yz⟩⟩;refine (Xw h hn).bind λx ⟨g1,gx⟩=>?_;refine aW.need (by simp only [vO];omega) ?_;refine (mS g1.inv hn).bind λr ⟨g2,g3,_⟩=>?_;have m1:=g1.at';have m2:=g2.at'
   have hx:r.2.e_=0->(∀x ∈ l,WP x)->(∀y ∈ l++[x.1],WP y)/\zW (l++[x.1])<=zW l+(r.2.fW - p.fW):=λe hl=>by
    obtain ⟨w1,w2⟩:=gx (g2.e0 e);refine ⟨λy hy=>?_,by rw [JU,wH];omega⟩
    rcases yU.1 hy with hy | hy
    ·exact hl y hy
    ·obtain rfl:=zU.1 hy;exact w1
   refine aW.iteb (λh5=>.some ⟨g1.toGd.trans g2,by simp only [oY,vO];omega,hx⟩) λh5=>?_;have g4:=g3 (by simpa using h5);have g5:=g1.ga g4.2.1;have m3:=g1.adv g4.1;have m4:=g1.toGd.trans g2;refine (ih _ r.2 g2.inv (by rw [m4.len];omega) (by simp only [oY,vO];omega)).mono λs ⟨s1,s2,s3⟩=>⟨g5.toGd.trans s1,s2,λe hl=>?_⟩;obtain ⟨v1,v2⟩:=hx (s1.e0 e) hl;obtain ⟨v3,v4⟩:=s3 e v1;exact ⟨v3,zb⟩
theorem OF (h:PI p) (hn:13<n) (hb:(p.l_.length:Int) - p.fW<n):aW (gV n p) λr=>GA p r.2/\r.1.length<=65538/\(r.2.e_=0->(∀x ∈ r.1,WP x)/\zW r.1<=r.2.fW - p.fW):=by
 unfold gV;refine (kS h hn).bind λq g1=>(mS g1.inv hn).bind λr ⟨g2,g3,g4⟩=>?_;have m1:=g1.at';have m2:=g2.at';refine aW.iteb (λh5=>.some ⟨g1.gd g2,zd,λ_=>⟨(λx hx=>nomatch hx),by rw [qD];simp only;omega⟩⟩) λh5=>?_;have g5:=g1.gd g2;have k0:=g2.inv.lo;refine aW.bind (P:=λy=>Gd r.2 y.2/\y.1.length<=65538/\(y.2.e_=0->(∀x ∈ y.1,WP x)/\zW y.1<=y.2.fW - r.2.fW)) ?_ λy ⟨g6,m3,m4⟩=>?_
 ·refine (Qc hn n [] r.2 g2.inv (by rw [g5.len];omega) (by simpa using k0)).bind λy ⟨y1,y2,y3⟩=>.some ⟨y1,?_,λe=>?_⟩
  ·have k1:=y1.inv.hi;have k2:=y1.inv.big;show y.1.length<=_;omega
  ·obtain ⟨w1,w2⟩:=y3 e (λx hx=>nomatch hx);exact ⟨w1,by rw [qD] at w2;simp only;omega⟩
 ·refine (kS g6.inv hn).bind λs g7=>.some ⟨(g5.gd g6).ga g7,m3,λe=>?_⟩;obtain ⟨w1,w2⟩:=m4 (g7.toGd.e0 e);have m5:=g7.at';exact ⟨w1,yz⟩
theorem TS (h:PI p) {a:Int}:aW (nC p a) λq=>Gd p q:=by
 unfold nC;refine aW.iteb (λ_=>?_) λ_=>.some (.refl h);exact (JF h zc).bind λq ⟨g,_⟩=>.some g
theorem ZD (h:PI p) (hn:13<n) (x:List cB) (hx:x.length=3):∀(c:Nat) (v:Nat),3<v+c->v<=3->aW (mN n x p c v) λr=>match r with | .inl _=>True | .inr t=>p.e_=0/\t ∈ x/\t ≠ []:=by
 intro c
 induction c with
 | zero=>intro v h1 h2;omega
 | succ c ih=>
   intro v h1 h2;unfold mN;refine aW.iteb (λh4=>?_) λh4=>.some trivial;simp only [Da] at h4;refine aW.bind' (aW.idx zb zb λz hz=>?_);refine aW.bind (P:=λb=>b=true->p.e_=0/\z ≠ []) ?_ λb hb=>?_
   ·refine aW.iteb (λhz0=>?_) λ_=>.some λh=>by cases h
    exact (OT h hn).bind λb hb=>.some λh=>⟨(hb h).1,by simpa using hz0⟩
   ·refine aW.iteb (λh5=>.some ⟨(hb h5).1,GB hz,(hb h5).2⟩) λh5=>?_;rw [dB zb zb];exact ih (v+1) zb zb
theorem QE (h:PI p) (hn:13<n) {a:Int} (h0:0<=a) (h1:a<7):aW (nB n p a) λt=>t ≠ []->p.e_=0/\t ∈ AK:=by
 unfold nB;refine aW.bind' (aW.idx h0 (by have:dH.length=7:=rfl;omega) λx hx=>?_)
 have hl:x.length=3:=by
  have:(dH.all λy=>y.length == 3)=true:=zc
  simpa using Rj.1 this x (GB hx)
 refine (ZD h hn x hl n 0 zb zb).bind λy hy=>aW.elim (λ_ _=>.some λh=>cM rfl h) λz e=>?_;subst e;refine .some λ_=>⟨hy.1,?_⟩;have hall:(dH.all λx=>x.all λs=>s == [] || AK.contains s)=true:=zc
 have:=Rj.1 (Rj.1 hall x (GB hx)) z hy.2.1;simp only [xdv,beq_iff_eq,List.contains_iff_mem] at this;exact this.resolve_left hy.2.2
end
def Lf (p:aD):Int:=16*((p.l_.length:Int) - p.fW)
theorem Gd.lf {p q:aD} (h:Gd p q):Lf q<=Lf p:=by have:=h.at';unfold Lf;rw [h.len];omega
theorem GA.lf {p q:aD} (h:GA p q) (he:q.e_=0):Lf q+16<=Lf p:=by have:=h.adv he;unfold Lf;rw [h.toGd.len];omega
theorem PI.lf {p:aD} (h:PI p):16<=Lf p:=by have:=h.hi;unfold Lf;omega
def Sx (p:aD) (r:aC × aD):Prop:=r.2.e_=0->WE r.1/\sz r.1<=r.2.fW - p.fW
def SL (p:aD) (r:List aC × aD):Prop:=r.2.e_=0->(∀x ∈ r.1,WE x)/\zW r.1<=r.2.fW - p.fW
def WJ (n:Nat) (k:Int) (f:aD->Int->Option (aC × aD)):Prop:=∀p a,PI p->Lf p+k<=n->aW (f p a) λr=>GA p r.2/\Sx p r
def OkL (n:Nat) (f:aD->Int->Int->Option (aC × aD)):Prop:=∀p a b,PI p->0<=a->a<=7->Lf p+29 - a<=n->aW (f p a b) λr=>GA p r.2/\Sx p r
def OkA (n:Nat) (f:aD->Int->Option ((List aC) × aD)):Prop:=∀p a,PI p->Lf p+25<=n->aW (f p a) λr=>GA p r.2/\SL p r
section
variable {n:Nat} {p:aD}
theorem zam (hn:13<n) {f:aD->Int->Int->Option (aC × aD)} {a1 a2:Int} (h0:0<=a1) (h6:a1<7) {k:Int} (hf:∀p,PI p->Lf p<=k->aW (f p (a1+1) a2) λr=>GA p r.2/\Sx p r) :
  ∀(c:Nat) (t:cB) (p:aD) (x:aC),PI p->Lf p<=k->1<=c->(t ≠ []->Lf p+1<=c/\t ∈ AK)->aW (sN f n a1 a2 c t p x) λr=>Gd p r.1/\(r.1.e_=0->WE x->WE r.2/\sz r.2<=sz x+(r.1.fW - p.fW)):=by
 intro c
 induction c with
 | zero=>intro t p x h hl h1;omega
 | succ c ih=>
   intro t p x h hl h1 h2;unfold sN;refine aW.iteb (λh4=>?_) λh4=>.some ⟨.refl h,λ_ hw=>⟨hw,yz⟩⟩;simp only [ne_eq,Da] at h4;obtain ⟨h5,hsg⟩:=h2 h4;have h6':=h.lf;refine (CE h).bind λr ⟨g1,e1⟩=>(kS g1.inv hn).bind λq g2=>?_;have l1:=g1.lf;have l2:=g2.toGd.lf;rw [dB (n:=a1+1) zb zb];refine (hf q g2.inv zb).bind λs ⟨g3,sx⟩=>?_;have g4:=g1.ga (g2.ga g3)
   have hx:s.2.e_=0->WE x->WE { r.1 with dM:=t,aN:=[x,s.1] }/\sz { r.1 with dM:=t,aN:=[x,s.1] }<=sz x+(s.2.fW - p.fW):=λe hw=>by
    obtain ⟨w1,w2⟩:=sx e;have m2:=g2.adv (g3.toGd.e0 e);have m1:=g1.at';rw [e1];exact ⟨.bin hsg hw w1,by rw [iZ,MT];omega⟩
   refine aW.iteb (λ_=>.some ⟨g4.toGd,hx⟩) λ_=>?_;refine (QE g3.inv hn h0 h6).bind λt' ht=>?_;have l3:=g3.toGd.lf;refine (ih t' s.2 _ g3.inv zb zb λhne=>?_).mono λr ⟨g5,g6⟩=>⟨g4.toGd.trans g5,λe hw=>?_⟩
   ·have l4:=g4.lf (ht hne).1;exact ⟨zb,(ht hne).2⟩
   ·obtain ⟨v1,v2⟩:=hx (g5.e0 e) hw;obtain ⟨v3,v4⟩:=g6 e v1;exact ⟨v3,zb⟩
theorem level_b (hn:13<n) {fo:aD->Int->Option (aC × aD)} {fl:aD->Int->Int->Option (aC × aD)} (ho:WJ n 21 fo) (hl:OkL n fl):OkL (n+1) (pI fo fl n):=by
 intro p a b h h0 h7 hb;unfold pI;refine aW.iteb (λh1=>?_) λh1=>?_
 ·simp only [beq_iff_eq] at h1;exact (ho p b h zb).bind λr g=>.some g
 ·simp only [beq_eq_false_iff_ne,ne_eq] at h1;rw [dB (n:=a+1) zb zb];refine (hl p (a+1) b h zb zb zb).bind λr ⟨g,sx⟩=>?_;have l1:=g.toGd.lf;have l2:=g.inv.lf;refine (QE g.inv hn h0 zb).bind λt ht=>?_;refine (zam hn h0 zb (k:=Lf r.2) (λq hq hk=>hl q (a+1) b hq zb zb zb) n t r.2 r.1 g.inv (Uj _) zb (λhne=>⟨zb,(ht hne).2⟩)).bind λs ⟨g2,sx2⟩=>.some ⟨g.gd g2,λe=>?_⟩;obtain ⟨v1,v2⟩:=sx (g2.e0 e);obtain ⟨v3,v4⟩:=sx2 e v1;exact ⟨v3,yz⟩
theorem expr_b {fl:aD->Int->Int->Option (aC × aD)} (hl:OkL n fl):WJ (n+1) 30 (qN fl n):=by
 intro p a h hb;unfold qN;exact (hl p 0 a h zb zb zb).bind λr g=>.some g
theorem To {fe:aD->Int->Option (aC × aD)} (he:WJ n 30 fe):WJ (n+1) 31 (lX fe n):=by
 intro p a h hb;unfold lX;exact (he p _ h zb).bind λr g=>.some g
theorem SL.more {p q r:aD} {x:aC} {l:List aC} (g1:Gd p q) (sx:Sx p (x,q)) (g2:Gd q r):r.e_=0->(∀x ∈ l,WE x)->(∀y ∈ l++[x],WE y)/\zW (l++[x])<=zW l+(r.fW - p.fW):=λe hl=>by
 obtain ⟨w1,w2⟩:=sx (g2.e0 e);have m2:=g2.at';simp only at w2;refine ⟨λy hy=>?_,by rw [JU,wH];omega⟩
 rcases yU.1 hy with hy | hy
 ·exact hl y hy
 ·obtain rfl:=zU.1 hy;exact w1
theorem Nw (hn:13<n) {fo:aD->Int->Option (aC × aD)} {k:Int} {a:Int} (hf:∀p,PI p->Lf p<=k->aW (fo p a) λr=>GA p r.2/\Sx p r):∀(c:Nat) (l:List aC) (p:aD),PI p->(p.e_=0->Lf p<=k)->(p.l_.length:Int) - p.fW<c->(l.length:Int)<=p.fW->aW (gU fo n a c l p) λr=>Gd p r.2/\(r.1.length:Int)<=r.2.fW+1/\(r.2.e_=0->(∀x ∈ l,WE x)->(∀x ∈ r.1,WE x)/\zW r.1<=zW l+(r.2.fW - p.fW)):=by
 intro c
 induction c with
 | zero=>intro l p h _ h1 h2;have:=h.hi;omega
 | succ c ih=>
   intro l p h hk h1 h2;have k1:=h.lo;have k2:=h.hi;have k3:=h.big;unfold gU;refine aW.iteb (λh4=>?_) λh4=>.some ⟨.refl h,yz,λ_ hl=>⟨hl,yz⟩⟩;simp only [beq_iff_eq] at h4;refine (hf p h (hk h4)).bind λx ⟨g1,sx⟩=>?_;refine aW.need (by simp only [vO];omega) ?_;refine (mS g1.inv hn).bind λr ⟨g2,g3,_⟩=>?_;have m1:=g1.at';have m2:=g2.at';have hx:=SL.more (l:=l) g1.toGd sx g2;refine aW.iteb (λh5=>.some ⟨g1.toGd.trans g2,by simp only [oY,vO];omega,hx⟩) λh5=>?_;have g4:=g3 (by simpa using h5);have g5:=g1.ga g4.2.1;have m3:=g1.adv g4.1;have m4:=g1.toGd.trans g2;have m5:=g5.toGd.lf;have m6:=hk h4;refine (ih _ r.2 g2.inv (λ_=>zb) (by rw [m4.len];omega) (by simp only [oY,vO];omega)).mono λs ⟨s1,s2,s3⟩=>⟨g5.toGd.trans s1,s2,λe hl=>?_⟩;obtain ⟨v1,v2⟩:=hx (s1.e0 e) hl;obtain ⟨v3,v4⟩:=s3 e v1;exact ⟨v3,zb⟩
theorem OG (hn:13<n) {fo:aD->Int->Option (aC × aD)} (ho:WJ n 31 fo):OkA (n+1) (jI fo n):=by
 intro p a h hb;unfold jI;refine (kS h hn).bind λq g1=>(mS g1.inv hn).bind λr ⟨g2,g3,g4⟩=>?_;have m1:=g1.at';have m2:=g2.at';refine aW.iteb (λh5=>.some ⟨g1.gd g2,λ_=>⟨(λx hx=>nomatch hx),by rw [qD];simp only;omega⟩⟩) λh5=>?_;have g5:=g1.gd g2;have k0:=g2.inv.lo;have k1:=g5.toGd.lf;have k2:=h.lf;refine aW.bind (P:=λy=>Gd r.2 y.2/\SL r.2 y) ?_ λy ⟨g6,s6⟩=>?_
 ·refine (Nw hn (k:=(n:Int) - 31) (λq hq hk=>ho q a hq zb) n [] r.2 g2.inv (λhe=>?_) ?_ (by simpa using k0)).bind λy ⟨y1,y2,y3⟩=>.some ⟨y1,λe=>?_⟩
  ·have:=g5.lf he;omega
  ·unfold Lf at hb k1;rw [g5.toGd.len] at k1 ⊢;have:=h.hi;omega
  ·obtain ⟨w1,w2⟩:=y3 e (λx hx=>nomatch hx);exact ⟨w1,by rw [qD] at w2;simp only;omega⟩
 ·refine (kS g6.inv hn).bind λs g7=>.some ⟨(g5.gd g6).ga g7,λe=>?_⟩;obtain ⟨w1,w2⟩:=s6 (g7.toGd.e0 e);have m5:=g7.at';exact ⟨w1,yz⟩
theorem UT (hn:13<n) {fo:aD->Int->Option (aC × aD)} {k:Int} (hf:∀p a,PI p->Lf p<=k->aW (fo p a) λr=>GA p r.2/\Sx p r) {a1:Int}:∀(c:Nat) (v:Nat) (p:aD) (x y:aC),2<v+c->v<=2->PI p->Lf p<=k+16->aW (qF fo n a1 c v p x y) λr=>match r with | .inl s=>Gd p s.1/\s.2.1=x | .inr s=>GA p s.2/\(x.pX=0->Sx p s):=by
 intro c
 induction c with
 | zero=>intro v p x y h1 h2;omega
 | succ c ih=>
   intro v p x y h1 h2 h hk;unfold qF;refine aW.iteb (λh4=>?_) λh4=>.some ⟨.refl h,rfl⟩;simp only [Da] at h4;refine aW.bind' (aW.idx zb (by have:jB.length=2:=rfl;omega) λz hz=>?_);refine (mS h hn).bind λr ⟨g1,g2,g3⟩=>?_;refine aW.iteb (λh5=>?_) λh5=>?_
   ·obtain ⟨_,g4,g5⟩:=g2 h5;have l1:=g4.lf g5;refine (hf r.2 _ g1.inv zb).bind λs ⟨g6,sx⟩=>.some ⟨g4.ga g6,λhx e=>?_⟩;obtain ⟨w1,w2⟩:=sx e;have m1:=g4.adv (g6.toGd.e0 e);refine ⟨?_,by simp only [iZ,wH];omega⟩;simp only [hx];refine .un ?_ w1;have hm:=GB hz;simpa [jB] using hm
   ·rw [dB zb zb];have l1:=g1.lf;refine (ih (v+1) r.2 x y zb zb g1.inv zb).mono λs hs=>?_;cases s with
    | inl s=>exact ⟨g1.trans hs.1,hs.2⟩
    | inr s=>
      refine ⟨g1.ga hs.1,λhx e=>?_⟩;obtain ⟨w1,w2⟩:=hs.2 hx e;have:=g1.at';exact ⟨w1,zb⟩
theorem Xx (hn:13<n) {fe fo:aD->Int->Option (aC × aD)} {fa:aD->Int->Option ((List aC) × aD)} (he:WJ n 30 fe) (ho:WJ n 21 fo) (ha:OkA n fa):WJ (n+1) 21 (nT fe fo fa n):=by
 intro p a h hb;unfold nT;refine (TS h).bind λq g1=>(mS g1.inv hn).bind λr ⟨g2,g3,_⟩=>?_;have m1:=g1.lf;have m2:=g2.lf;have m3:=h.lf;have n1:=g1.at';have n2:=g2.at';refine aW.iteb (λh5=>?_) λh5=>?_
 ·obtain ⟨_,g4,g5⟩:=g3 h5;have l1:=g4.lf g5;refine (he r.2 _ g2.inv zb).bind λs ⟨g6,sx⟩=>(kS g6.inv hn).bind λt g7=>.some ⟨g1.ga (g4.ga (g6.ga g7)),λe=>?_⟩;obtain ⟨w1,w2⟩:=sx (g7.toGd.e0 e);have n3:=g7.at';exact ⟨w1,yz⟩
 ·refine (CE g2.inv).bind λs ⟨g4,e4⟩=>?_;have m4:=g4.lf;have n4:=g4.at';refine (UT hn (k:=(n:Int) - 21) (λq b hq hk=>ho q b hq zb) n 0 s.2 _ _ zb zb g4.inv zb).bind λy hy=>?_;have g5:=g1.trans (g2.trans g4);refine aW.elim (λz e=>?_) λz e=>?_
  ·subst e;have hy':Gd s.2 z.1:=hy.1;have hz:z.2.1=s.1:=hy.2;have g6:=g5.trans hy';have n5:=hy'.at';rw [hz,e4];refine aW.bind (P:=λ_=>True) ?_ λb _=>?_
   ·refine aW.iteb (λ_=>?_) λ_=>.some trivial;exact (Aj hy'.inv).bind λt _=>.some trivial
   ·refine aW.iteb (λ_=>?_) λ_=>?_
    ·refine (OC hy'.inv).bind λt ⟨g7,n7⟩=>.some ⟨g6.ga g7,λe=>?_⟩;have:=g7.adv e;exact ⟨.num n7.1 n7.2,by simp only [iZ,qD];omega⟩
    ·refine (Es hy'.inv hn).bind λt g7=>?_;have g8:=g6.ga g7;have l8:=g8.toGd.lf;refine aW.bind (P:=λy=>GA p y.1/\Sx p (y.2,y.1)) ?_ λy hy=>.some hy;refine (OT g7.inv hn).bind λb hb=>aW.iteb (λh9=>?_) λh9=>?_
     ·have l9:=g8.lf (hb h9).1;refine (ha t.2 a g7.inv zb).bind λu ⟨g9,sx⟩=>.some ⟨g8.ga g9,λe=>?_⟩;obtain ⟨w1,w2⟩:=sx e;have:=g7.adv (g9.toGd.e0 e);exact ⟨.call w1,by simp only [iZ];omega⟩
     ·refine (mS g7.inv hn).bind λu ⟨g9,g10,_⟩=>aW.iteb (λh10=>?_) λh10=>.some ⟨g8.gd g9,λe=>?_⟩
      ·obtain ⟨_,g11,g12⟩:=g10 h10;have l9:=g11.lf g12;refine (he u.2 _ g9.inv zb).bind λv ⟨g13,sx⟩=>(kS g13.inv hn).bind λw g14=>.some ⟨g8.ga (g11.ga (g13.ga g14)),λe=>?_⟩;have ev:=g14.toGd.e0 e;obtain ⟨w1,w2⟩:=sx ev;have n6:=g14.at';have n7:=g7.adv (g9.e0 (g13.toGd.e0 ev));have n8:=g9.at';exact ⟨.index w1,by simp only [iZ,wH];omega⟩
      ·have n7:=g7.adv (g9.e0 e);have n8:=g9.at';exact ⟨.ref,by simp only [iZ,qD];omega⟩
  ·subst e;refine .some ⟨g5.ga hy.1,λe=>?_⟩;obtain ⟨w1,w2⟩:=hy.2 (by rw [e4]) e;exact ⟨w1,zb⟩
theorem grp_ok:∀n:Nat,OkA n (bF n).1/\WJ n 30 (bF n).2.1/\OkL n (bF n).2.2.1/\WJ n 21 (bF n).2.2.2.1/\WJ n 31 (bF n).2.2.2.2:=by
 have small:∀n:Nat,n<=14->OkA n (bF n).1/\WJ n 30 (bF n).2.1/\OkL n (bF n).2.2.1/\WJ n 21 (bF n).2.2.2.1/\WJ n 31 (bF n).2.2.2.2:=by
  intro n hn;refine ⟨λp a h hb=>?_,λp a h hb=>?_,λp a b h h0 h7 hb=>?_,λp a h hb=>?_,λp a h hb=>?_⟩ <;> (have:=h.lf;omega)
 intro n
 induction n with
 | zero=>exact small 0 zb
 | succ n ih=>
   by_cases hn:13<n
   ·obtain ⟨i1,i2,i3,i4,i5⟩:=ih;exact ⟨OG hn i5,expr_b i3,level_b hn i4 i3,Xx hn i2 i4 i1,To i2⟩
   ·exact small (n+1) zb
theorem Bg (h:PI p) {a:Int} (hb:Lf p+30<=n):aW (fQ n p a) λr=>GA p r.2/\Sx p r:=(grp_ok n).2.1 p a h hb
theorem QH (h:PI p) {x:aC} {a:Int} (hb:Lf p+30<=n):aW (lY n p x a) λr=>GA p r.2/\(r.2.e_=0->∃s y,r.1={ x with dM:=s,aN:=[y] }/\WE y/\sz y+1<=r.2.fW - p.fW):=by
 have hn:13<n:=by have:=h.lf;omega
 unfold lY;refine (Es h hn).bind λr g1=>(kS g1.inv hn).bind λq g2=>?_;have l1:=g1.toGd.lf;have l2:=g2.toGd.lf;refine (Bg g2.inv zb).bind λs ⟨g3,sx⟩=>(kS g3.inv hn).bind λt g4=>.some ⟨g1.ga (g2.ga (g3.ga g4)),λe=>?_⟩;obtain ⟨w1,w2⟩:=sx (g4.toGd.e0 e);have n1:=g1.at';have n2:=g2.at';have n4:=g4.adv e;exact ⟨_,_,rfl,w1,yz⟩
theorem Tm (h:PI p) {a:Int} (hb:Lf p+30<=n):aW (pG n p a) λr=>GA p r.2/\Sx p r:=by
 unfold pG;exact (Bg h hb).bind λr g=>.some g
theorem Qb (hn:13<n) {a:Int}:∀(c:Nat) (l:List aC) (p:aD),PI p->Lf p+30<=n->(p.l_.length:Int) - p.fW<c->(l.length:Int)<=p.fW->aW (iF n a c l p) λr=>Gd p r.2/\(r.1.length:Int)<=r.2.fW+1/\(r.2.e_=0->(∀x ∈ l,WE x)->(∀x ∈ r.1,WE x)/\zW r.1<=zW l+(r.2.fW - p.fW)):=by
 intro c
 induction c with
 | zero=>intro l p h _ h1 h2;have:=h.hi;omega
 | succ c ih=>
   intro l p h hk h1 h2;have k1:=h.lo;have k2:=h.hi;have k3:=h.big;unfold iF;refine aW.iteb (λh4=>?_) λh4=>.some ⟨.refl h,yz,λ_ hl=>⟨hl,yz⟩⟩;refine (Tm h hk).bind λx ⟨g1,sx⟩=>?_;refine aW.need (by simp only [vO];omega) ?_;refine (mS g1.inv hn).bind λr ⟨g2,g3,_⟩=>?_;have m1:=g1.at';have m2:=g2.at';have hx:=SL.more (l:=l) g1.toGd sx g2;refine aW.iteb (λh5=>.some ⟨g1.toGd.trans g2,by simp only [oY,vO];omega,hx⟩) λh5=>?_;have g4:=g3 (by simpa using h5);have g5:=g1.ga g4.2.1;have m3:=g1.adv g4.1;have m4:=g1.toGd.trans g2;have m5:=g5.toGd.lf;refine (ih _ r.2 g2.inv zb (by rw [m4.len];omega) (by simp only [oY,vO];omega)).mono λs ⟨s1,s2,s3⟩=>⟨g5.toGd.trans s1,s2,λe hl=>?_⟩;obtain ⟨v1,v2⟩:=hx (s1.e0 e) hl;obtain ⟨v3,v4⟩:=s3 e v1;exact ⟨v3,zb⟩
theorem OE (h:PI p) {a:Int} (hb:Lf p+30<=n):aW (jC n p a) λr=>GA p r.2/\SL p r:=by
 have hn:13<n:=by have:=h.lf;omega
 unfold jC;refine (kS h hn).bind λq g1=>(mS g1.inv hn).bind λr ⟨g2,g3,g4⟩=>?_;have m1:=g1.at';have m2:=g2.at';refine aW.iteb (λh5=>.some ⟨g1.gd g2,λ_=>⟨(λx hx=>nomatch hx),by rw [qD];simp only;omega⟩⟩) λh5=>?_;have g5:=g1.gd g2;have k0:=g2.inv.lo;have k1:=g5.toGd.lf;refine aW.bind (P:=λy=>Gd r.2 y.2/\SL r.2 y) ?_ λy ⟨g6,s6⟩=>?_
 ·refine (Qb hn n [] r.2 g2.inv zb ?_ (by simpa using k0)).bind λy ⟨y1,y2,y3⟩=>.some ⟨y1,λe=>?_⟩
  ·unfold Lf at hb k1;rw [g5.toGd.len] at k1 ⊢;have:=h.hi;omega
  ·obtain ⟨w1,w2⟩:=y3 e (λx hx=>nomatch hx);exact ⟨w1,by rw [qD] at w2;simp only;omega⟩
 ·refine (kS g6.inv hn).bind λs g7=>.some ⟨(g5.gd g6).ga g7,λe=>?_⟩;obtain ⟨w1,w2⟩:=s6 (g7.toGd.e0 e);have m5:=g7.at';exact ⟨w1,yz⟩
def St0 (x:aC):Prop:=x=⟨8,x.gI,[],0,[]⟩
def Ss (p:aD) (r:aC × aD):Prop:=r.2.e_=0->WS r.1/\sz r.1<=r.2.fW - p.fW
theorem Xv (h:PI p) {x:aC} {a:Int} (hb:Lf p+30<=n) (hx:St0 x):aW (oM n p x a) λr=>GA p r.2/\Ss p r:=by
 have hn:13<n:=by have:=h.lf;omega
 unfold oM;rw [hx];refine (Es h hn).bind λr g1=>?_;have l1:=g1.toGd.lf;have n1:=g1.at';refine aW.bind (P:=λy=>GA p y.1/\(y.1.e_=0->WS y.2/\sz y.2<=1+(y.1.fW - p.fW))) ?_ λy hy=>?_
 case refine_2=>
  obtain ⟨hy',hs⟩:GA p y.1/\(y.1.e_=0->WS y.2/\sz y.2<=1+(y.1.fW - p.fW)):=hy;refine (kS hy'.inv hn).bind λs g=>.some ⟨hy'.ga g,λe=>?_⟩;obtain ⟨w1,w2⟩:=hs (g.toGd.e0 e);have:=g.adv e;exact ⟨w1,yz⟩
 refine (OT g1.inv hn).bind λb _=>aW.iteb (λ_=>?_) λ_=>?_
 ·refine (OE g1.inv zb).bind λs ⟨g2,sx⟩=>.some ⟨g1.ga g2,λe=>?_⟩;obtain ⟨w1,w2⟩:=sx e;exact ⟨.call w1,by simp only [iZ];omega⟩
 ·refine (mS g1.inv hn).bind λs ⟨g2,_,_⟩=>?_;have l2:=g2.lf;have n2:=g2.at';refine aW.iteb (λ_=>?_) λ_=>?_
  ·refine (Bg g2.inv zb).bind λt ⟨g3,s3⟩=>(kS g3.inv hn).bind λu g4=>(kS g4.inv hn).bind λv g5=>?_;have l3:=g3.toGd.lf;have l4:=g4.toGd.lf;have l5:=g5.toGd.lf;refine (Bg g5.inv zb).bind λw ⟨g6,s6⟩=>aW.need zd (.some ⟨g1.gd (g2.trans (g3.toGd.trans (g4.toGd.trans (g5.toGd.trans g6.toGd)))),λe=>?_⟩);obtain ⟨w1,w2⟩:=s6 e;have e5:=g6.toGd.e0 e;obtain ⟨w3,w4⟩:=s3 (g4.toGd.e0 (g5.toGd.e0 e5));have n4:=g4.at';have n5:=g5.at';exact ⟨.put w3 w1,by simp only [iZ,xen,MT];omega⟩
  ·refine (kS g2.inv hn).bind λv g5=>?_;have l5:=g5.toGd.lf;have n5:=g5.at';refine (Bg g5.inv zb).bind λw ⟨g6,s6⟩=>.some ⟨g1.gd (g2.trans (g5.toGd.trans g6.toGd)),λe=>?_⟩;obtain ⟨w1,w2⟩:=s6 e;exact ⟨.set w1,by simp only [iZ,wH];omega⟩
end
def Bk (p:aD) (r:aC × aD):Prop:=r.2.e_=0->(r.1=⟨4,r.1.gI,[],0,r.1.aN⟩/\∀y ∈ r.1.aN,WS y)/\sz r.1<=r.2.fW - p.fW
def OkS (n:Nat) (f:aD->Int->Option (aC × aD)):Prop:=∀p a,PI p->Lf p+45<=n->aW (f p a) λr=>GA p r.2/\Ss p r
def OkK (n:Nat) (f:aD->Int->Option (aC × aD)):Prop:=∀p a,PI p->Lf p+46<=n->aW (f p a) λr=>GA p r.2/\Bk p r
def OkN (n:Nat) (k:Int) (f:aD->aC->Int->Option (aC × aD)):Prop:=∀p x a,PI p->Lf p+k<=n->St0 x->aW (f p x a) λr=>GA p r.2/\(r.2.e_=0->WS r.1/\sz r.1<=1+(r.2.fW - p.fW))
section
variable {n:Nat} {p:aD}
theorem za0 (hn:13<n) {fs:aD->Int->Option (aC × aD)} {k:Int} {a:Int} (hf:∀p,PI p->Lf p<=k->aW (fs p a) λr=>GA p r.2/\Ss p r):∀(c:Nat) (p:aD) (x:aC),PI p->(p.e_=0->Lf p<=k)->(p.l_.length:Int) - p.fW<c->1<=c->(p.e_=0->(x.aN.length:Int)<=p.fW)->(x.aN.length:Int)<=65538->aW (oP fs n a c p x) λr=>Gd p r.1/\(r.1.e_=0->(∀y ∈ x.aN,WS y)->(∀y ∈ r.2.aN,WS y)/\zW r.2.aN<=zW x.aN+(r.1.fW - p.fW)/\r.2={ x with aN:=r.2.aN }):=by
 intro c
 induction c with
 | zero=>intro p x h _ h1 h2;omega
 | succ c ih=>
   intro p x h hk h1 h2 h3 h4;have k1:=h.lo;have k2:=h.hi;have k3:=h.big;unfold oP;refine aW.bind (P:=λb=>b=true->p.e_=0) ?_ λb hb=>?_
   ·refine aW.iteb (λhe=>?_) λ_=>.some λh=>by cases h
    exact (OT h hn).bind λb hb=>.some λ_=>by simpa using he
   ·refine aW.iteb (λh5=>?_) λh5=>.some ⟨.refl h,λ_ hl=>⟨hl,yz,by cases x;rfl⟩⟩;have he:=hb h5;refine (hf p h (hk he)).bind λr ⟨g,ss⟩=>?_;have m1:=g.at';have m2:=hk he;have m3:=h3 he;have m4:=g.toGd.lf;have m5:=g.inv.hi;have m6:=g.toGd.len;refine aW.need (by simp only [vO];omega) ?_
    by_cases he2:r.2.e_=0
    ·have m7:=g.adv he2;obtain ⟨w1,w2⟩:=ss he2;refine (ih r.2 _ g.inv (λ_=>zb) (by rw [m6];omega) zb (λ_=>by simp only [oY,vO];omega) (by simp only [oY,vO];omega)).mono λs ⟨g2,s2⟩=>⟨g.toGd.trans g2,λe hl=>?_⟩
     obtain ⟨v1,v2,v3⟩:=s2 e (λy hy=>by
      rcases yU.1 hy with hy | hy
      ·exact hl y hy
      ·obtain rfl:=zU.1 hy;exact w1)
     refine ⟨v1,?_,v3⟩;simp only [JU,wH] at v2;omega
    ·cases c with
     | zero=>omega
     | succ c=>
       unfold oP;rw [cE (by simpa using he2),iX,cE zc];exact .some ⟨g.toGd,λe=>cM e he2⟩
theorem block_b {fs:aD->Int->Option (aC × aD)} (hs:OkS n fs):OkK (n+1) (pJ fs n):=by
 intro p a h hb;have hn:13<n:=by have:=h.lf;omega
 unfold pJ;refine (TS h).bind λq g1=>(CE g1.inv).bind λr ⟨g2,e2⟩=>(kS g2.inv hn).bind λt g3=>?_;have e:r.1.aN=[]:=by rw [e2]
 have g4:=g1.trans g2;have g5:=g4.ga g3;have l5:=g5.toGd.lf;have k0:=g3.inv.lo;refine (za0 hn (k:=(n:Int) - 45) (λq hq hk=>hs q a hq zb) n t r.1 g3.inv (λhe=>?_) ?_ zb (λ_=>by rw [e];simpa using k0) (by rw [e];simp)).bind λy ⟨g6,s6⟩=>(kS g6.inv hn).bind λs g7=>.some ⟨(g5.gd g6).ga g7,λe3=>?_⟩
 ·have:=g5.lf he;omega
 ·unfold Lf at hb l5;rw [g5.toGd.len] at l5 ⊢;have:=h.hi;omega
 ·have ey:=g7.toGd.e0 e3;obtain ⟨v1,v2,v3⟩:=s6 ey (λy hy=>by rw [e] at hy;cases hy);have n3:=g3.adv (g6.e0 ey);have n4:=g4.at';have n7:=g7.at';rw [e2] at v3;rw [e,qD] at v2;refine ⟨⟨by simp only;rw [v3],v1⟩,?_⟩;simp only [Jb];omega
theorem zaP {fb:aD->Int->Option (aC × aD)} (hf:OkK n fb):OkN (n+1) 47 (oO fb n):=by
 intro p x a h hb hx;have hn:13<n:=by have:=h.lf;omega
 unfold oO;rw [hx];refine (Bg h zb).bind λr ⟨g1,s1⟩=>?_;have l1:=g1.toGd.lf;refine (hf r.2 _ g1.inv zb).bind λs ⟨g2,s2⟩=>aW.need zd ((mS g2.inv hn).bind λt ⟨g3,_,_⟩=>?_);have l2:=g2.toGd.lf;have l3:=g3.lf;have n3:=g3.at';refine aW.iteb (λ_=>?_) λ_=>.some ⟨(g1.ga g2).gd g3,λe=>?_⟩
 ·refine (hf t.2 _ g3.inv zb).bind λu ⟨g4,s4⟩=>aW.need zd (.some ⟨((g1.ga g2).gd g3).ga g4,λe=>?_⟩);have e3:=g4.toGd.e0 e;have e2:=g3.e0 e3;obtain ⟨⟨a1,a2⟩,a3⟩:=s4 e;obtain ⟨⟨b1,b2⟩,b3⟩:=s2 e2;obtain ⟨c1,c2⟩:=s1 (g2.toGd.e0 e2);simp only [xen,Ri,AE];rw [iZ,Qx];refine ⟨?_,zb⟩;rw [a1,b1];exact .choice2 c1 b2 a2
 ·have e2:=g3.e0 e;obtain ⟨⟨b1,b2⟩,b3⟩:=s2 e2;obtain ⟨c1,c2⟩:=s1 (g2.toGd.e0 e2);simp only [xen];rw [iZ,MT];refine ⟨?_,zb⟩;rw [b1];exact .choice c1 b2
theorem loop_b {fb:aD->Int->Option (aC × aD)} (hf:OkK n fb):OkN (n+1) 47 (qM fb n):=by
 intro p x a h hb hx;have hn:13<n:=by have:=h.lf;omega
 unfold qM;rw [hx];refine (Es h hn).bind λr g1=>(kS g1.inv hn).bind λs g2=>?_;have l1:=g1.toGd.lf;have l2:=g2.toGd.lf;have n1:=g1.at';have n2:=g2.at';refine (Bg g2.inv zb).bind λt ⟨g3,s3⟩=>(kS g3.inv hn).bind λu g4=>?_;have l3:=g3.toGd.lf;have l4:=g4.toGd.lf;have n4:=g4.at';refine (Bg g4.inv zb).bind λv ⟨g5,s5⟩=>aW.need zd ?_;have l5:=g5.toGd.lf;refine (hf v.2 _ g5.inv zb).bind λw ⟨g6,s6⟩=>aW.need zd (.some ⟨g1.ga (g2.ga (g3.ga (g4.ga (g5.ga g6)))),λe=>?_⟩);have e5:=g6.toGd.e0 e;have e4:=g5.toGd.e0 e5;obtain ⟨⟨b1,b2⟩,b3⟩:=s6 e;obtain ⟨c1,c2⟩:=s5 e5;obtain ⟨d1,d2⟩:=s3 (g4.toGd.e0 e4);simp only [xen,Ri,AE];rw [iZ,Qx];refine ⟨?_,zb⟩;rw [b1];exact .loop d1 c1 b2
theorem ST {fc fl:aD->aC->Int->Option (aC × aD)} (hc:OkN n 47 fc) (hl:OkN n 47 fl):OkS (n+1) (lW fc fl n):=by
 intro p a h hb;have hn:13<n:=by have:=h.lf;omega
 unfold lW;refine (CE h).bind λr ⟨g1,e1⟩=>?_;have hx:St0 r.1:=e1;have l1:=g1.lf;have n1:=g1.at';refine aW.bind (P:=λy=>match y with | .inl y=>GA p y.1/\(y.1.e_=0->WS y.2/\sz y.2<=1+(y.1.fW - p.fW)) | .inr y=>GA p y.2/\Ss p y) ?_ λy hy=>?_
 ·refine (mS g1.inv hn).bind λt1 ⟨a1,b1,_⟩=>aW.iteb (λh1=>?_) λh1=>?_
  ·have m1:=a1.lf;have o1:=a1.at';refine (QH a1.inv zb).bind λu ⟨g2,s2⟩=>.some ⟨g1.ga (a1.ga g2),λe=>?_⟩;obtain ⟨s,y,q1,q2,q3⟩:=s2 e;simp only;rw [q1,e1];exact ⟨.bind (.inl rfl) q2,by simp only [iZ,wH];omega⟩
  have m1:=a1.lf;have o1:=a1.at';refine (mS a1.inv hn).bind λt2 ⟨a2,b2,_⟩=>aW.iteb (λh2=>?_) λh2=>?_
  ·have m2:=a2.lf;have o2:=a2.at';refine (QH a2.inv zb).bind λu ⟨g2,s2⟩=>.some ⟨g1.ga (a1.ga (a2.ga g2)),λe=>?_⟩;obtain ⟨s,y,q1,q2,q3⟩:=s2 e;simp only;rw [q1,e1];exact ⟨.bind (.inr rfl) q2,by simp only [iZ,wH];omega⟩
  have m2:=a2.lf;have o2:=a2.at';refine (mS a2.inv hn).bind λt3 ⟨a3,b3,_⟩=>aW.iteb (λh3=>?_) λh3=>?_
  ·have o3:=a3.at';refine (Es a3.inv hn).bind λu g2=>(Ta g2.inv hn).bind λv g3=>.some ⟨g1.ga (a1.ga (a2.ga (a3.ga (g2.ga g3)))),λe=>?_⟩;have o4:=g2.at';have o5:=g3.at';simp only;rw [e1];exact ⟨.arr,by simp only [iZ,qD];omega⟩
  have m3:=a3.lf;have o3:=a3.at';refine (mS a3.inv hn).bind λt4 ⟨a4,b4,_⟩=>aW.iteb (λh4=>?_) λh4=>?_
  ·have m4:=a4.lf;have o4:=a4.at';refine (Bg a4.inv zb).bind λu ⟨g2,s2⟩=>.some ⟨g1.ga (a1.ga (a2.ga (a3.ga (a4.ga g2)))),λe=>?_⟩;obtain ⟨q1,q2⟩:=s2 e;simp only;rw [e1];exact ⟨.ret q1,by simp only [iZ,wH];omega⟩
  have m4:=a4.lf;have o4:=a4.at';refine (mS a4.inv hn).bind λt5 ⟨a5,b5,_⟩=>aW.iteb (λh5=>?_) λh5=>?_
  ·obtain ⟨_,c1,c2⟩:=b5 h5;have m5:=c1.lf c2;have o5:=c1.adv c2;refine (hc t5.2 _ _ a5.inv zb hx).bind λu ⟨g2,s2⟩=>.some ⟨g1.ga (a1.ga (a2.ga (a3.ga (a4.ga (a5.ga g2))))),λe=>?_⟩;obtain ⟨q1,q2⟩:=s2 e;exact ⟨q1,yz⟩
  have m5:=a5.lf;have o5:=a5.at';refine (mS a5.inv hn).bind λt6 ⟨a6,b6,_⟩=>aW.iteb (λh6=>?_) λh6=>?_
  ·obtain ⟨_,c1,c2⟩:=b6 h6;have m6:=c1.lf c2;have o6:=c1.adv c2;refine (hl t6.2 _ _ a6.inv zb hx).bind λu ⟨g2,s2⟩=>.some ⟨g1.ga (a1.ga (a2.ga (a3.ga (a4.ga (a5.ga (a6.ga g2)))))),λe=>?_⟩;obtain ⟨q1,q2⟩:=s2 e;exact ⟨q1,yz⟩
  have m6:=a6.lf;have o6:=a6.at';refine (Xv a6.inv zb hx).bind λu ⟨g2,s2⟩=>.some ⟨g1.ga (a1.ga (a2.ga (a3.ga (a4.ga (a5.ga (a6.ga g2)))))),λe=>?_⟩;obtain ⟨q1,q2⟩:=s2 e;exact ⟨q1,yz⟩
 ·refine aW.elim (λz e=>?_) λz e=>?_
  ·subst e;obtain ⟨hy',hs⟩:GA p z.1/\(z.1.e_=0->WS z.2/\sz z.2<=1+(z.1.fW - p.fW)):=hy;refine (kS hy'.inv hn).bind λs g=>.some ⟨hy'.ga g,λe=>?_⟩;obtain ⟨w1,w2⟩:=hs (g.toGd.e0 e);have:=g.adv e;exact ⟨w1,yz⟩
  ·subst e;exact .some hy
theorem grp2_ok:∀n:Nat,OkK n (dT n).1/\OkS n (dT n).2.1/\OkN n 47 (dT n).2.2.1/\OkN n 47 (dT n).2.2.2:=by
 intro n
 induction n with
 | zero=>refine ⟨λp a h hb=>?_,λp a h hb=>?_,λp x a h hb=>?_,λp x a h hb=>?_⟩ <;> (have:=h.lf;omega)
 | succ n ih=>
   obtain ⟨i1,i2,i3,i4⟩:=ih;exact ⟨block_b i2,ST i3 i4,zaP i1,loop_b i1⟩
theorem ML (h:PI p) {a:Int} (hb:Lf p+46<=n):aW (eZ n p a) λr=>GA p r.2/\Bk p r:=(grp2_ok n).1 p a h hb
def Fx (p:aD) (r:aC × aD):Prop:=r.2.e_=0->WF r.1/\sz r.1<=r.2.fW - p.fW
theorem RP (h:PI p) (hb:Lf p+46<=n):aW (lO n p) λr=>GA p r.2/\Fx p r:=by
 have hn:13<n:=by have:=h.lf;omega
 unfold lO;refine (CE h).bind λr ⟨g1,e1⟩=>(mS g1.inv hn).bind λt ⟨g2,_,_⟩=>?_;have g3:=g1.trans g2;have n3:=g3.at'
 have key:∀q:aD,GA p q->(q.l_.length:Int) - q.fW<n:=by
  intro q g;have:=g.toGd.lf;unfold Lf at this hb;have:=h.hi;have:=g.inv.hi;omega
 have fin:∀ {q b:aD} {ps:List aC} {z:aC × aD} {at' k:Int} {s:cB},Gd q b->GA b z.2->Bk b z->p.fW+1<=q.fW - zW ps->(b.e_=0->∀x ∈ ps,WP x)->Fx p (⟨2,at',s,k,ps++[z.1]⟩,z.2):=λgb gz bz hq hp e=>by
  obtain ⟨⟨c1,c2⟩,c3⟩:=bz e;have eb:=gz.toGd.e0 e;have n1:=gb.at';refine ⟨?_,by simp only [iZ,JU,wH];omega⟩;simp only;rw [c1];exact .fn (hp eb) c2
 have one:∀(k0 k1 k2:Int),aW ((bQ n t.2 [102,110]).bind λx10=>(eW n x10).bind λx11=>(gV n x11.2).bind λx13=>(bU n x13.2 [45,62]).bind λx15=>if x15.1=true then (bU n x15.2 [117,51,50]).bind λx18=>if x18.1=true then (eZ n x18.2 1).bind λx21=>iN (x13.1.length+[x21.1].length<=1073741824) <| some (({ r.1 with pX:=k1,dM:=x11.1,aN:=x13.1++[x21.1] }:aC),x21.2) else (bQ n x18.2 [117,54,52]).bind λx23=>(eZ n x23 1).bind λx25=>iN (x13.1.length+[x25.1].length<=1073741824) <| some (({ r.1 with pX:=k2,dM:=x11.1,aN:=x13.1++[x25.1] }:aC),x25.2) else (eZ n x15.2 1).bind λx27=>iN (x13.1.length+[x27.1].length<=1073741824) <| some (({ r.1 with pX:=k0,dM:=x11.1,aN:=x13.1++[x27.1] }:aC),x27.2)) λr=>GA p r.2/\Fx p r:=by
  intro k0 k1 k2;rw [e1];refine (kS g2.inv hn).bind λu g4=>(Es g4.inv hn).bind λv g5=>?_;have g6:=g3.ga (g4.ga g5);have n6:=g5.at';refine (OF g5.inv hn (key _ g6)).bind λw ⟨g7,hw,hp⟩=>(mS g7.inv hn).bind λx ⟨g8,_,_⟩=>?_;have g9:=(g6.ga g7).gd g8;have l9:=g9.toGd.lf
  have big:∀ {b:aD},Gd w.2 b->b.e_=0->p.fW+1<=w.2.fW - zW w.1/\∀x ∈ w.1,WP x:=λgb e=>by
   obtain ⟨q1,q2⟩:=hp (gb.e0 e);have:=g4.adv (g5.toGd.e0 (g7.toGd.e0 (gb.e0 e)));exact ⟨zb,q1⟩
  have fin2:∀ {b:aD} {z:aC × aD} {at' k:Int} {s:cB},Gd w.2 b->GA b z.2->Bk b z->Fx p (⟨2,at',s,k,w.1++[z.1]⟩,z.2):=λgb gz bz e=>fin gb gz bz (big gb (gz.toGd.e0 e)).1 (λe2=>(big gb e2).2) e;refine aW.iteb (λ_=>?_) λ_=>?_
  ·refine (mS g8.inv hn).bind λy ⟨g10,_,_⟩=>?_;have l10:=g10.lf;refine aW.iteb (λ_=>?_) λ_=>?_
   ·exact (ML g10.inv zb).bind λz ⟨g11,b11⟩=>aW.need (by simp only [vO];omega) (.some ⟨(g9.gd g10).ga g11,fin2 (g8.trans g10) g11 b11⟩)
   ·refine (kS g10.inv hn).bind λy' g11=>?_;have l11:=g11.toGd.lf;exact (ML g11.inv zb).bind λz ⟨g12,b12⟩=>aW.need (by simp only [vO];omega) (.some ⟨((g9.gd g10).ga g11).ga g12,fin2 (g8.trans (g10.trans g11.toGd)) g12 b12⟩)
  ·exact (ML g8.inv zb).bind λz ⟨g11,b11⟩=>aW.need (by simp only [vO];omega) (.some ⟨g9.ga g11,fin2 g8 g11 b11⟩)
 exact aW.iteb (λ_=>one _ _ _) λ_=>one _ _ _
theorem zbi:∀(c:Nat) (p:aD) (x:aC),PI p->Lf p+46<=n->(p.l_.length:Int) - p.fW<c->1<=c->(p.e_=0->(x.aN.length:Int)<=p.fW)->(x.aN.length:Int)<=65538->aW (yB n c p x) λr=>Gd p r.1/\(r.1.e_=0->(∀y ∈ x.aN,WF y)->(∀y ∈ r.2.aN,WF y)/\zW r.2.aN<=zW x.aN+(r.1.fW - p.fW)):=by
 intro c
 induction c with
 | zero=>intro p x h _ h1 h2;omega
 | succ c ih=>
   intro p x h hk h1 h2 h3 h4;have k1:=h.lo;have k2:=h.hi;have k3:=h.big;unfold yB;refine aW.bind (P:=λb=>b=true->p.e_=0) ?_ λb hb=>?_
   ·refine aW.iteb (λhe=>?_) λ_=>.some λh=>by cases h
    exact (Aj h).bind λb hb=>.some λ_=>by simpa using he
   ·refine aW.iteb (λh5=>?_) λh5=>.some ⟨.refl h,λ_ hl=>⟨hl,yz⟩⟩;have he:=hb h5;refine (RP h hk).bind λr ⟨g,fx⟩=>?_;have m1:=g.at';have m3:=h3 he;have m4:=g.toGd.lf;have m5:=g.inv.hi;have m6:=g.toGd.len;refine aW.need (by simp only [vO];omega) ?_
    by_cases he2:r.2.e_=0
    ·have m7:=g.adv he2;obtain ⟨w1,w2⟩:=fx he2;refine (ih r.2 _ g.inv zb (by rw [m6];omega) zb (λ_=>by simp only [oY,vO];omega) (by simp only [oY,vO];omega)).mono λs ⟨g2,s2⟩=>⟨g.toGd.trans g2,λe hl=>?_⟩
     obtain ⟨v1,v2⟩:=s2 e (λy hy=>by
      rcases yU.1 hy with hy | hy
      ·exact hl y hy
      ·obtain rfl:=zU.1 hy;exact w1)
     refine ⟨v1,?_⟩;simp only [JU,wH] at v2;omega
    ·cases c with
     | zero=>omega
     | succ c=>
       unfold yB;rw [cE (by simpa using he2),iX,cE zc];exact .some ⟨g.toGd,λe=>cM e he2⟩
end
theorem Tn {n:Nat} {s:cB} (hn:16*s.length+200<n):aW (Cu n s) λr=>r.2.1=0->(∀x ∈ r.1.aN,WF x)/\zW r.1.aN<=s.length+1:=by
 unfold Cu;refine (Vy zb zb).bind λx hx=>?_;refine aW.iteb (λh1=>.some λh=>?_) λh1=>?_
 ·rw [show x.2.1=0 from h] at h1;cases h1
 obtain ⟨l,h2,h3,h4,h5⟩:=hx (by simpa using h1);have hp:PI (aD.mk x.1 0 0 0 0):=⟨yz,by simp only [h2,oY,vO];omega,by simp only [h2,oY,vO];omega,⟨l,_,h2,h3,rfl⟩⟩
 have hl:Lf (aD.mk x.1 0 0 0 0)<=16*s.length+16:=by
  unfold Lf;simp only [h2,oY,vO];omega
 refine (CE hp).bind λr ⟨g1,e1⟩=>?_;have e:r.1.aN=[]:=by rw [e1]
 have l1:=g1.lf;have k0:=g1.inv.lo;have k1:=g1.inv.hi;have k2:=g1.inv.lf;refine (zbi n r.2 r.1 g1.inv zb (by unfold Lf at l1 hl;omega) zb (λ_=>by rw [e];simpa using k0) (by rw [e];simp)).bind λy ⟨g2,s2⟩=>?_;refine aW.iteb (λhe=>.some λh=>cM h (by simpa using he)) λhe=>.some λ_=>?_;obtain ⟨v1,v2⟩:=s2 (by simpa using he) (λy hy=>by rw [e] at hy;cases hy);refine ⟨v1,?_⟩;rw [e,qD] at v2;have m1:=g2.inv.hi;rw [g2.len,g1.len] at m1;simp only [h2,oY,vO] at m1;simp only;omega
