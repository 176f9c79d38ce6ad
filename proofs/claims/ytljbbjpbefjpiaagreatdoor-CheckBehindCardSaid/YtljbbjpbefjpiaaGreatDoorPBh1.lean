import Derived.Test.YtljbbjpbefjpiaaGreatDoorPTyp
namespace Go.Proofs.YtljbbjpbefjpiaaGreatDoor.Abs
open Go.RowKit
set_option linter.all false
def Ag (c d:aD):Prop:=bY d.p_.aS d.f_=bY c.p_.aS c.f_/\d.aZ=c.aZ
theorem oJ (c d:aD):aO d=aO c:=rfl
theorem Ku (c d:aD):cD d=cD c:=rfl
theorem QM (c d:aD):gJ d=gJ c:=rfl
theorem Pw (c d:aD):jQ d=jQ c:=rfl
theorem FS (n:Nat) (c d:aD):iP n d=iP n c:=rfl
section
variable {c d:aD} (h:Ag c d)
include h
theorem Nz (n:Nat):eX n d=eX n c:=by
 funext w s
 have hl:∀k v,fM d s k v=fM c s k v:=by
  intro k
  induction k with
  | zero=>intro v;rfl
  | succ k ih=>intro v;unfold fM;rw [h.1,h.2];simp only [ih]
 unfold eX;rw [h.2,hl]
theorem Ct:dP d=dP c:=by funext w v;unfold dP;rw [h.1]
theorem EY (n:Nat):eK n d=eK n c:=by funext w x;unfold eK;rw [Nz h,oJ c d]
theorem grp_ag:∀n:Nat,(aY n).1 d=(aY n).1 c/\(aY n).2.1 d=(aY n).2.1 c/\(aY n).2.2.1 d=(aY n).2.2.1 c/\(aY n).2.2.2.1 d=(aY n).2.2.2.1 c/\(aY n).2.2.2.2.1 d=(aY n).2.2.2.2.1 c/\(aY n).2.2.2.2.2 d=(aY n).2.2.2.2.2 c:=by
 intro n
 induction n with
 | zero=>exact ⟨rfl,rfl,rfl,rfl,rfl,rfl⟩
 | succ n ih=>
   obtain ⟨i1,i2,i3,i4,i5,i6⟩:=ih;refine ⟨?_,?_,?_,?_,?_,?_⟩
   ·funext w x
    show jP _ _ _ _ n d w x=jP _ _ _ _ n c w x;unfold jP;simp only [EY h,Ct h,oJ c d,i2,i3,i4,i5]
   ·funext w x y
    show jO _ n d w x y=jO _ n c w x y;unfold jO;simp only [EY h,Ct h,oJ c d,i1,h.1]
   ·funext w x y
    show jB _ n d w x y=jB _ n c w x y;unfold jB;simp only [i6]
   ·funext w x y
    show fT _ n d w x y=fT _ n c w x y;unfold fT;simp only [oJ c d,Ku c d,QM c d,i6]
   ·funext w x y
    show iE _ n d w x y=iE _ n c w x y;unfold iE;simp only [oJ c d,Ku c d,Pw c d,i6]
   ·funext w x
    show kB _ n d w x=kB _ n c w x
    have hl:∀k l v w,fE (aY n).1 x d k l v w=fE (aY n).1 x c k l v w:=by
     intro k
     induction k with
     | zero=>intro l v w;rfl
     | succ k ih=>intro l v w;unfold fE;simp only [i1,ih]
    unfold kB;simp only [hl]
theorem DT (n:Nat):cJ n d=cJ n c:=(grp_ag h n).1
theorem Bj (n:Nat):dX n d=dX n c:=by funext w x;unfold dX;simp only [DT h,oJ c d]
theorem RH (n:Nat):jZ n d=jZ n c:=by funext w x v;unfold jZ;simp only [Bj h,oJ c d,h.1]
theorem Sr (n:Nat):iZ n d=iZ n c:=by funext w x v;unfold iZ;simp only [EY h,Ct h,oJ c d,h.1]
theorem Lt (n:Nat):iR n d=iR n c:=by funext w x v;unfold iR;simp only [Sr h,Bj h,DT h,oJ c d]
theorem Mk (n:Nat):jC n d=jC n c:=by funext w x;unfold jC;simp only [EY h,Ct h,oJ c d]
theorem put_ag (n:Nat):lR n d=lR n c:=by funext w x s;unfold lR;simp only [EY h,Ct h,RH h,DT h,oJ c d]
end
def XC (z:aQ) (q:List Int) (c:aD):aD:={ c with p_:=⟨c.p_.aS++[z]⟩,bP:=c.bP++[q] }
structure IV (N:Nat) (c:aD):Prop where
 fl:c.p_.aS.length=N
 cl:c.bP.length=N
 f0:0<=c.f_
 f1:c.f_<N
 a0:0<=c.fA
 a1:c.fA<N
theorem HR {α:Type} {l r:List α} {i:Int} (h0:0<=i) (h1:i<(l.length:Int)):bY (l++r) i=bY l i:=by
 unfold bY;rw [if_pos h0,if_pos h0,Kr (by omega)]
theorem EQ {α:Type} {l r:List α} {i:Int} {x:α} (h0:0<=i) (h1:i<(l.length:Int)):(l++r).set i.toNat x=l.set i.toNat x++r:=List.set_append_left _ _ (by omega)
section
variable {z:aQ} {q:List Int} {c:aD} {N:Nat}
theorem IV.ag (h:IV N c):Ag c (XC z q c):=⟨HR h.f0 (by rw [h.fl];exact h.f1),rfl⟩
theorem IV.ag2 (h:IV N c) (l:List (List Int)) (l2:List (List Int)):Ag { c with bP:=l } { XC z q c with bP:=l2 }:=⟨HR h.f0 (by rw [h.fl];exact h.f1),rfl⟩
theorem HA {c:aD} {w w':aF} {b:Bool} {k a:Int} (hk:k ≠ 0) (h:aO c w b k a=some w') (e:w'.e_=0):b=true/\w'=w:=by
 unfold aO mH at h;cases b with
 | true=>rw [if_neg (by decide)] at h;exact ⟨rfl,(bX h).symm⟩
 | false=>
   rw [if_pos (by rfl)] at h
   by_cases hw:w.e_=0
   ·rw [if_pos (by simpa using hw),bU] at h;rw [←bX h] at e;exact absurd e hk
   ·rw [if_neg (by simpa using hw),bU] at h;rw [←bX h] at e;exact absurd e hw
theorem wW (h:IV N c) {n:Nat} {w:aF} {v:bB} {a:Int} {r:Int × aD × aF} (e:cU n c w v a=some r):cU n (XC z q c) w v a=some (r.1,XC z q r.2.1,r.2.2)/\IV N r.2.1:=by
 have hA:=h.ag (z:=z) (q:=q);unfold cU at e ⊢;rw [Nz hA,oJ c (XC z q c)];obtain ⟨x2,e2,e⟩:=aH e;rw [e2,bU];obtain ⟨x3,e3,e⟩:=aH e;rw [e3,bU];obtain ⟨x6,e6,e⟩:=aH e;rw [hA.1.trans e6,bU];obtain ⟨x9,e9,e⟩:=aH e;rw [e9,bU];cases hb:(x9.e_ != (0:Int)) with
 | true=>
   rw [hb,if_pos rfl] at e;rw [if_pos rfl,←bX e];exact ⟨rfl,h⟩
 | false=>
   rw [hb,if_neg (by decide)] at e;obtain ⟨n1,e⟩:=dK e;obtain ⟨n2,e⟩:=dK e;rw [if_neg (by decide),dN n1,dN (show (XC z q c).aZ.length+1<=1073741824 from n2),←bX e];refine ⟨?_,⟨by simp only [vX];exact h.fl,h.cl,h.f0,h.f1,h.a0,h.a1⟩⟩;unfold XC;simp only;rw [EQ h.f0 (by rw [h.fl];exact h.f1)]
theorem Find_x {l:List aQ} {s:cB}:∀(k v:Nat) (r:Int),bK l s k (v:Int)=some (.inr r)->l.length<=100000000->v<=l.length->bK (l++[z]) s k (v:Int)=some (.inr r)/\0<=r/\r<l.length:=by
 intro k
 induction k with
 | zero=>intro v r h;cases h
 | succ k ih=>
   intro v r h hl hv;unfold bK at h ⊢
   by_cases h1:v<l.length
   ·have hg:bY l (v:Int)=some l[v]:=by rw [Fd];exact yP h1
    rw [if_pos (DD (by omega)),hg,bU] at h;rw [if_pos (DD (by rw [mK];omega)),HR (by omega) (by omega),hg,bU];obtain ⟨b,hb,h⟩:=aH h;rw [hb,bU];cases b with
    | true=>
      rw [if_pos rfl] at h ⊢;have:=Sum.inr.inj (bX h);exact ⟨h,by omega,by omega⟩
    | false=>
      rw [if_neg (by decide),cZ (n:=(v:Int)+1) (by omega) (by omega),show ((v:Int)+1)=((v+1:Nat):Int) by omega] at h ⊢;exact ih (v+1) r h hl (by omega)
   ·rw [if_neg (by rw [uH];omega)] at h;cases bX h
theorem Mt (h:IV N c) (hN:N<=100000000) {n:Nat} {w:aF} {x:aB} {r:Int × aF} (e:iQ n c w x=some r) (e0:r.2.e_=0):iQ n (XC z q c) w x=some r/\0<=r.1/\r.1<N/\r.2=w:=by
 unfold iQ at e ⊢;rw [oJ c (XC z q c)];obtain ⟨x2,e2,e⟩:=aH e;obtain ⟨x5,e5,e⟩:=aH e;obtain rfl:=bX e;obtain ⟨hb,hw⟩:=HA (by decide) e5 e0;unfold dS cC at e2 ⊢;obtain ⟨y,ey,e2⟩:=aH e2;obtain ⟨y3,ey3,ey⟩:=aH ey;cases y3 with
 | inl u=>
   obtain rfl:=bX ey;rw [←bX e2] at hb;exact absurd hb (by decide)
 | inr k=>
   have ey:some k=some y:=ey;obtain rfl:=bX ey;rw [show (0:Int)=((0:Nat):Int) from rfl] at ey3;obtain ⟨g1,g2,g3⟩:=Find_x (z:=z) n 0 k ey3 (by rw [h.fl];exact hN) (NS _);have hx:(XC z q c).p_.aS=c.p_.aS++[z]:=rfl;rw [hx,show (0:Int)=((0:Nat):Int) from rfl,g1,bU];have e2':=bX e2;subst e2';refine ⟨?_,by simp only;omega,by simp only;rw [←h.fl];omega,hw⟩;show (some _ ).bind _=_;rw [bU];simp only at e5;show (aO c w _ 130 x.eO).bind _=_;rw [show ((0:Nat):Int)=0 from rfl,e5];rfl
end
theorem oN {α:Type} {l r:List α} {i:Int} {x:α} (e:bY l i=some x):bY (l++r) i=some x:=by
 unfold bY at e ⊢
 split at e
 ·rename_i h;rw [if_pos h];rw [Kr (uD.1 e).1];exact e
 ·cases e
theorem Ou {c d:aD} {w:aF} {i:Int} {y:List bB} (h:∀f,bY c.p_.aS i=some f->bY d.p_.aS i=some f) (e:iO c w i=some y):iO d w i=some y:=by
 unfold iO at e ⊢;obtain ⟨x,e1,e⟩:=aH e;rw [h _ e1];exact e
theorem Ep {a:Int} (h:a=0):(a != (0:Int))=false:=by rw [h];rfl
theorem ne_bne' {a:Int} (h:¬ a=0):(a != (0:Int))=true:=by simpa using h
theorem Be {a:Int} (h:a=0):(a == (0:Int))=true:=by rw [h];rfl
theorem eq_beq' {a:Int} (h:¬ a=0):(a == (0:Int))=false:=by simpa using h
section
variable {z:aQ} {q:List Int} {c:aD} {N:Nat}
theorem PA (h:IV N c) {n:Nat} {a2:aB} {sh:List bB} {x7:List Int} {x4:Int × aF}:∀(k:Nat) (v:Int) (w:aF) (s:aG),gZ n a2 sh (XC z q c) x7 x4 k v w s=gZ n a2 sh c x7 x4 k v w s:=by
 intro k
 induction k with
 | zero=>intro v w s;rfl
 | succ k ih=>
   intro v w s;unfold gZ;simp only [Lt (h.ag2 (z:=z) (q:=q) (c.bP.set c.fA.toNat (x7++[x4.1])) ((XC z q c).bP.set (XC z q c).fA.toNat (x7++[x4.1]))),ih]
theorem JT (h:IV N c) (hN:N<=100000000) {n:Nat} {w:aF} {x:aB} {s:aG} {v:Int} {r:aG × aD × aF} (e:gT n c w x s v=some r) (e0:r.2.2.e_=0):gT n (XC z q c) w x s v=some (r.1,XC z q r.2.1,r.2.2)/\IV N r.2.1:=by
 unfold gT at e ⊢;obtain ⟨x4,e4,e⟩:=aH e
 by_cases he:x4.2.e_=0
 ·obtain ⟨g1,g2,g3,g4⟩:=Mt (z:=z) (q:=q) h hN e4 he;rw [g1,bU];rw [Ep he,if_neg (by decide)] at e ⊢;obtain ⟨x7,e7,e⟩:=aH e;obtain ⟨n1,e⟩:=dK e;obtain ⟨x20,e20,e⟩:=aH e;obtain ⟨x22,e22,e⟩:=aH e;obtain ⟨y28,e28,e⟩:=aH e;have h7:bY (XC z q c).bP (XC z q c).fA=some x7:=oN e7;have h20:iO { XC z q c with bP:=(XC z q c).bP.set (XC z q c).fA.toNat (x7++[x4.1]) } x4.2 x4.1=some x20:=Ou (λf ef=>oN ef) e20;rw [h7,bU,dN n1,h20,bU];rw [show aO { XC z q c with bP:=(XC z q c).bP.set (XC z q c).fA.toNat (x7++[x4.1]) }=aO { c with bP:=c.bP.set c.fA.toNat (x7++[x4.1]) } from rfl,e22,bU,PA h,e28,bU,←bX e];refine ⟨?_,⟨h.fl,by simp only [vX];exact h.cl,h.f0,h.f1,h.a0,h.a1⟩⟩;unfold XC;simp only;rw [EQ h.a0 (by rw [h.cl];exact h.a1)]
 ·rw [ne_bne' he,if_pos rfl] at e;rw [←bX e] at e0;exact absurd e0 he
theorem fresh_x (h:IV N c) (hN:N<=100000000) {n:Nat} {w:aF} {x:aB} {s:aG} {r:aG × aD × aF} (e:kA n c w x s=some r) (e0:r.2.2.e_=0):kA n (XC z q c) w x s=some (r.1,XC z q r.2.1,r.2.2)/\IV N r.2.1:=by
 unfold kA at e ⊢;obtain ⟨x4,e4,e⟩:=aH e;obtain ⟨x5,e5,e⟩:=aH e;rw [e4,bU,FS n c (XC z q c),e5,bU];cases x5 with
 | true=>
   rw [if_pos rfl] at e ⊢;obtain ⟨x13,e13,e⟩:=aH e
   by_cases he:x13.2.2.e_=0
   ·obtain ⟨g,i⟩:=JT (z:=z) (q:=q) h hN e13 he;rw [g,bU]
    dsimp only
    rw [Ep he,if_neg (by decide)] at e ⊢;obtain ⟨x16,e16,e⟩:=aH e;obtain ⟨x30,e30,e⟩:=aH e;obtain ⟨x32,e32,e⟩:=aH e;obtain ⟨g2,i2⟩:=wW (z:=z) (q:=q) i e32;have h16:bY (XC z q x13.2.1).p_.aS x13.1.oL=some x16:=oN e16;rw [h16,bU,oJ x13.2.1 (XC z q x13.2.1),e30,bU,g2,bU,←bX e];exact ⟨rfl,i2⟩
   ·rw [ne_bne' he,if_pos rfl] at e;rw [←bX e] at e0;exact absurd e0 he
 | false=>
   rw [if_neg (by decide)] at e ⊢;obtain ⟨x34,e34,e⟩:=aH e;obtain ⟨x37,e37,e⟩:=aH e;obtain ⟨x38,e38,e⟩:=aH e;obtain ⟨g2,i2⟩:=wW (z:=z) (q:=q) h e38;rw [DT h.ag,e34,bU,e37,bU,g2,bU,←bX e];exact ⟨rfl,i2⟩
theorem set_x (h:IV N c) (hN:N<=100000000) {n:Nat} {w:aF} {x:aB} {s:aG} {r:aG × aD × aF} (e:lQ n c w x s=some r) (e0:r.2.2.e_=0):lQ n (XC z q c) w x s=some (r.1,XC z q r.2.1,r.2.2)/\IV N r.2.1:=by
 unfold lQ at e ⊢;obtain ⟨x4,e4,e⟩:=aH e;obtain ⟨x6,e6,e⟩:=aH e;obtain ⟨x7,e7,e⟩:=aH e;rw [Mk h.ag,e4,bU,e6,bU,FS n c (XC z q c),e7,bU];cases x7 with
 | true=>
   rw [if_pos rfl] at e ⊢;obtain ⟨x15,e15,e⟩:=aH e
   by_cases he:x15.2.2.e_=0
   ·obtain ⟨g,i⟩:=JT (z:=z) (q:=q) h hN e15 he;rw [g,bU]
    dsimp only
    rw [Be he,if_pos rfl] at e ⊢;obtain ⟨x18,e18,e⟩:=aH e;obtain ⟨x19,e19,e⟩:=aH e;obtain ⟨x21,e21,e⟩:=aH e;have h19:bY (XC z q x15.2.1).p_.aS x15.1.oL=some x19:=oN e19;rw [Ct i.ag,e18,bU,h19,bU,oJ x15.2.1 (XC z q x15.2.1),e21,bU,←bX e];exact ⟨rfl,i⟩
   ·rw [eq_beq' he,if_neg (by decide)] at e;rw [←bX e] at e0;exact absurd e0 he
 | false=>
   rw [if_neg (by decide)] at e ⊢;obtain ⟨x36,e36,e⟩:=aH e;obtain ⟨x39,e39,e⟩:=aH e;obtain ⟨x40,e40,e⟩:=aH e;obtain ⟨x41,e41,e⟩:=aH e;rw [DT h.ag,e36,bU,Ct h.ag,e39,bU,e40,bU,oJ c (XC z q c),e41,bU,←bX e];exact ⟨rfl,h⟩
theorem back_x (h:IV N c) (hN:N<=100000000) {n:Nat} {w:aF} {x:aB} {s:aG} {b:Bool} {r:aG × aD × aF} (e:gU n c w x s b=some r) (e0:r.2.2.e_=0):gU n (XC z q c) w x s b=some (r.1,XC z q r.2.1,r.2.2)/\IV N r.2.1:=by
 have hA:=h.ag (z:=z) (q:=q);unfold gU at e ⊢;rw [hA.1,oJ c (XC z q c),FS n c (XC z q c)];obtain ⟨y4,e4,e⟩:=aH e;rw [e4,bU];obtain ⟨y29,e29,e⟩:=aH e;rw [e29,bU];cases y29 with
 | true=>
   rw [if_pos rfl] at e ⊢;obtain ⟨x43,e43,e⟩:=aH e;obtain ⟨x44,e44,e⟩:=aH e;rw [e43,bU]
   by_cases he:x44.2.2.e_=0
   ·obtain ⟨g,i⟩:=JT (z:=z) (q:=q) h hN e44 he;rw [g,bU]
    dsimp only
    rw [Be he,if_pos rfl] at e ⊢;obtain ⟨x52,e52,e⟩:=aH e;obtain ⟨x54,e54,e⟩:=aH e;obtain ⟨x57,e57,e⟩:=aH e;have h52:bY (XC z q x44.2.1).p_.aS x44.1.oL=some x52:=oN e52;have h54:bY (XC z q x44.2.1).p_.aS (XC z q x44.2.1).f_=some x54:=oN e54;rw [h52,bU,h54,bU,oJ x44.2.1 (XC z q x44.2.1),e57,bU,←bX e];exact ⟨rfl,i⟩
   ·rw [eq_beq' he,if_neg (by decide)] at e;rw [←bX e] at e0;exact absurd e0 he
 | false=>
   rw [if_neg (by decide)] at e ⊢;obtain ⟨x83,e83,e⟩:=aH e;obtain ⟨x84,e84,e⟩:=aH e;obtain ⟨x92,e92,e⟩:=aH e;obtain ⟨x95,e95,e⟩:=aH e;obtain ⟨x96,e96,e⟩:=aH e;rw [e83,bU,DT hA,e84,bU,e92,bU,e95,bU,e96,bU,←bX e];exact ⟨rfl,h⟩
end
def SXx {β:Type} (z:aQ) (q:List Int) (N:Nat) (f:aD->aF->aB->Bool->Option (β × aD × aF)):Prop:=∀c w x b r,IV N c->f c w x b=some r->r.2.2.e_=0->f (XC z q c) w x b=some (r.1,XC z q r.2.1,r.2.2)/\IV N r.2.1
def SEx {β:Type} (f:aD->aF->aB->Bool->Option (β × aD × aF)):Prop:=∀c w x b r,f c w x b=some r->r.2.2.e_=0->w.e_=0
def SLx (z:aQ) (q:List Int) (N:Nat) (f:aD->aF->aB->aG->Option (aG × aD × aF)):Prop:=∀c w x s r,IV N c->f c w x s=some r->r.2.2.e_=0->f (XC z q c) w x s=some (r.1,XC z q r.2.1,r.2.2)/\IV N r.2.1
section
variable {z:aQ} {q:List Int} {c:aD} {N:Nat}
theorem IV.sc (h:IV N c) (s:List Int):IV N { c with aZ:=s }:=⟨h.fl,h.cl,h.f0,h.f1,h.a0,h.a1⟩
theorem Id {f:aD->aF->aB->Bool->Option (aG × aD × aF)} {x:aB} {b:Bool} {k:Nat} {l:List aG} {v:Int} {c:aD} {w:aF} {r:(List aG) × aD × aF} (e:eM f x b k l v c w=some r) (e0:r.2.2.e_=0):w.e_=0:=by
 cases k with
 | zero=>cases e
 | succ k=>
   unfold eM at e
   split at e
   ·obtain ⟨x14,e14,e⟩:=aH e
    by_cases he:w.e_=0
    ·exact he
    ·rw [ne_bne' he,if_pos rfl] at e;rw [←bX e] at e0;exact e0
   ·rw [←bX e] at e0;exact e0
theorem ML {f:aD->aF->aB->Bool->Option (aG × aD × aF)} (hf:SXx z q N f) {x:aB} {b:Bool}:∀(k:Nat) (l:List aG) (v:Int) (c:aD) (w:aF) (r:(List aG) × aD × aF),IV N c->eM f x b k l v c w=some r->r.2.2.e_=0->eM f x b k l v (XC z q c) w=some (r.1,XC z q r.2.1,r.2.2)/\IV N r.2.1:=by
 intro k
 induction k with
 | zero=>intro l v c w r h e;cases e
 | succ k ih=>
   intro l v c w r h e e0;unfold eM at e ⊢
   by_cases hl:(decide (v<(x.aL.length:Int)))=true
   ·rw [if_pos hl] at e ⊢;obtain ⟨x14,e14,e⟩:=aH e;rw [e14,bU]
    by_cases he:w.e_=0
    ·rw [Ep he,if_neg (by decide)] at e ⊢;obtain ⟨y,ey,e⟩:=aH e;have hy:=Id e e0
     have key:∀b',(f c w x14 b').bind (λx28=>iU (l.length+[x28.1].length<=1073741824) <| some ((l++[x28.1]),x28.2.1,x28.2.2))=some y->(f (XC z q c) w x14 b').bind (λx28=>iU (l.length+[x28.1].length<=1073741824) <| some ((l++[x28.1]),x28.2.1,x28.2.2))=some (y.1,XC z q y.2.1,y.2.2)/\IV N y.2.1:=by
      intro b' ey;obtain ⟨x28,e28,ey⟩:=aH ey;obtain ⟨n1,ey⟩:=dK ey;have ey:=bX ey;subst ey;obtain ⟨g,i⟩:=hf _ _ _ _ _ h e28 hy;rw [g,bU];exact ⟨dN n1,i⟩
     have key2:(if b=true then
       (f (XC z q c) w x14 (v == (IntKind.i64.wrap ((x.aL.length:Int) - (1:Int))))).bind λx28=>
       iU (l.length+[x28.1].length<=1073741824) <|
       some ((l++[x28.1]),x28.2.1,x28.2.2)
      else
       (f (XC z q c) w x14 false).bind λx33=>
       iU (l.length+[x33.1].length<=1073741824) <|
       some ((l++[x33.1]),x33.2.1,x33.2.2))=some (y.1,XC z q y.2.1,y.2.2)/\IV N y.2.1:=by
      cases b with
      | true=>rw [if_pos rfl] at ey ⊢;exact key _ ey
      | false=>rw [if_neg (by decide)] at ey ⊢;exact key _ ey
     rw [key2.1,bU];exact ih _ _ _ _ _ key2.2 e e0
    ·rw [ne_bne' he,if_pos rfl] at e;rw [←bX e] at e0;exact absurd e0 he
   ·rw [if_neg hl] at e ⊢;rw [←bX e];exact ⟨rfl,h⟩
theorem IZ {f:aD->aF->aB->Bool->Option (aG × aD × aF)} {n:Nat}:SEx (fN f n):=by
 intro c w x b r e e0;unfold fN at e;obtain ⟨y,ey,e⟩:=aH e;obtain ⟨n1,e⟩:=dK e;rw [←bX e] at e0;exact Id ey e0
theorem PH {f:aD->aF->aB->Bool->Option (aG × aD × aF)} (hf:SXx z q N f) {n:Nat}:SXx z q N (fN f n):=by
 intro c w x b r h e e0;unfold fN at e ⊢;obtain ⟨y,ey,e⟩:=aH e;obtain ⟨n1,e⟩:=dK e;have e:=bX e;subst e;obtain ⟨g,i⟩:=ML hf _ _ _ _ _ _ h ey e0;rw [g,bU];exact ⟨dN n1,i.sc _⟩
theorem Ru {f:aD->aF->aB->Bool->Option ((List aG) × aD × aF)} (hf:SXx z q N f) {n:Nat}:SLx z q N (kZ f n):=by
 intro c w x s r h e e0;unfold kZ at e ⊢;obtain ⟨x4,e4,e⟩:=aH e;obtain ⟨x5,e5,e⟩:=aH e;obtain ⟨x6,e6,e⟩:=aH e;obtain ⟨x7,e7,e⟩:=aH e;obtain ⟨x21,e21,e⟩:=aH e;obtain ⟨x23,e23,e⟩:=aH e;obtain ⟨x24,e24,e⟩:=aH e;obtain ⟨n1,e⟩:=dK e;have e:=bX e;subst e;obtain ⟨g2,i2⟩:=wW (z:=z) (q:=q) h e21;obtain ⟨g3,i3⟩:=hf _ _ _ _ _ i2 e24 e0;rw [Bj h.ag,e4,bU,e5,bU,e6,bU,e7,bU,g2,bU,e23,bU,g3,bU];exact ⟨dN n1,i3.sc _⟩
theorem ID {f} (hf:SEx f) {x:aB}:∀ {k:Nat} {v:Int} {c:aD} {w:aF} {s:aG} {r:aD × aF × aG},dH f x k v c w s=some r->r.2.1.e_=0->w.e_=0:=by
 intro k
 induction k with
 | zero=>intro v c w s r e;cases e
 | succ k ih=>
   intro v c w s r e e0;unfold dH at e
   split at e
   ·obtain ⟨x64,e64,e⟩:=aH e;obtain ⟨x70,e70,e⟩:=aH e;exact hf _ _ _ _ _ e70 (ih e e0)
   ·rw [←bX e] at e0;exact e0
theorem Og {f:aD->aF->aB->Bool->Option ((List aG) × aD × aF)} (hf:SXx z q N f) (he:SEx f) {x:aB}:∀(k:Nat) (v:Int) (c:aD) (w:aF) (s:aG) (r:aD × aF × aG),IV N c->dH f x k v c w s=some r->r.2.1.e_=0->dH f x k v (XC z q c) w s=some (XC z q r.1,r.2.1,r.2.2)/\IV N r.1:=by
 intro k
 induction k with
 | zero=>intro v c w s r h e;cases e
 | succ k ih=>
   intro v c w s r h e e0;unfold dH at e ⊢
   by_cases hl:(decide (v<((x.aL.drop 2).length:Int)))=true
   ·rw [if_pos hl] at e ⊢;obtain ⟨x64,e64,e⟩:=aH e;obtain ⟨x70,e70,e⟩:=aH e;obtain ⟨g,i⟩:=hf _ _ _ _ _ h e70 (ID he e e0);rw [e64,bU,g,bU];exact ih _ _ _ _ _ i e e0
   ·rw [if_neg hl] at e ⊢;rw [←bX e];exact ⟨rfl,h⟩
theorem QA {f:aD->aF->aB->Bool->Option ((List aG) × aD × aF)} {g:aD->aF->aB->aG->Option (aG × aD × aF)} (hN:N<=100000000) (hf:SXx z q N f) (he:SEx f) (hg:SLx z q N g) {n:Nat}:SXx z q N (iN f g n):=by
 intro c w x b r h e e0;have hA:=h.ag (z:=z) (q:=q);unfold iN at e ⊢
 by_cases k5:(x.bT == (5:Int))=true
 ·rw [if_pos k5] at e ⊢;obtain ⟨x5,e5,e⟩:=aH e;obtain ⟨x6,e6,e⟩:=aH e;obtain ⟨x13,e13,e⟩:=aH e;obtain ⟨g2,i2⟩:=wW (z:=z) (q:=q) h e13;rw [e5,bU,Bj hA,e6,bU,g2,bU,←bX e];exact ⟨rfl,i2⟩
 rw [if_neg k5] at e ⊢
 by_cases k6:(x.bT == (6:Int))=true
 ·rw [if_pos k6] at e ⊢;obtain ⟨x16,e16,e⟩:=aH e;have e:=bX e;subst e;obtain ⟨g2,i2⟩:=fresh_x (z:=z) (q:=q) h hN e16 e0;rw [g2,bU];exact ⟨rfl,i2⟩
 rw [if_neg k6] at e ⊢
 by_cases k7:(x.bT == (7:Int))=true
 ·rw [if_pos k7] at e ⊢;obtain ⟨x19,e19,e⟩:=aH e;obtain ⟨x20,e20,e⟩:=aH e;obtain ⟨x23,e23,e⟩:=aH e;obtain ⟨g2,i2⟩:=wW (z:=z) (q:=q) h e23;rw [e19,bU,oJ c (XC z q c),e20,bU,g2,bU,←bX e];exact ⟨rfl,i2⟩
 rw [if_neg k7] at e ⊢
 by_cases k8:(x.bT == (8:Int))=true
 ·rw [if_pos k8] at e ⊢;obtain ⟨x26,e26,e⟩:=aH e;have e:=bX e;subst e;obtain ⟨g2,i2⟩:=set_x (z:=z) (q:=q) h hN e26 e0;rw [g2,bU];exact ⟨rfl,i2⟩
 rw [if_neg k8] at e ⊢
 by_cases k9:(x.bT == (9:Int))=true
 ·rw [if_pos k9] at e ⊢;obtain ⟨x29,e29,e⟩:=aH e;rw [put_ag hA,e29,bU,←bX e];exact ⟨rfl,h⟩
 rw [if_neg k9] at e ⊢
 by_cases k10:(x.bT == (10:Int))=true
 ·rw [if_pos k10] at e ⊢;obtain ⟨x32,e32,e⟩:=aH e;have e:=bX e;subst e;obtain ⟨g2,i2⟩:=JT (z:=z) (q:=q) h hN e32 e0;rw [g2,bU];exact ⟨rfl,i2⟩
 rw [if_neg k10] at e ⊢
 by_cases k11:(x.bT == (11:Int))=true
 ·rw [if_pos k11] at e ⊢;obtain ⟨x35,e35,e⟩:=aH e;obtain ⟨x36,e36,e⟩:=aH e;obtain ⟨x43,e43,e⟩:=aH e;obtain ⟨x44,e44,e⟩:=aH e;obtain ⟨n1,e⟩:=dK e;obtain ⟨y58,e58,e⟩:=aH e;have e:=bX e;subst e;obtain ⟨g2,i2⟩:=hf _ _ _ _ _ h e44 (ID he e58 e0);obtain ⟨g3,i3⟩:=Og hf he _ _ _ _ _ _ i2 e58 e0;rw [e35,bU,Bj hA,e36,bU,e43,bU,g2,bU,dN n1,g3,bU];exact ⟨rfl,i3⟩
 rw [if_neg k11] at e ⊢
 by_cases k12:(x.bT == (12:Int))=true
 ·rw [if_pos k12] at e ⊢;obtain ⟨x73,e73,e⟩:=aH e;have e:=bX e;subst e;obtain ⟨g2,i2⟩:=hg _ _ _ _ _ h e73 e0;rw [g2,bU];exact ⟨rfl,i2⟩
 rw [if_neg k12] at e ⊢
 by_cases k13:(x.bT == (13:Int))=true
 ·rw [if_pos k13] at e ⊢;obtain ⟨x76,e76,e⟩:=aH e;have e:=bX e;subst e;obtain ⟨g2,i2⟩:=back_x (z:=z) (q:=q) h hN e76 e0;rw [g2,bU];exact ⟨rfl,i2⟩
 rw [if_neg k13] at e ⊢;rw [←bX e];exact ⟨rfl,h⟩
theorem grp_x (hN:N<=100000000):∀n:Nat,SXx z q N (dG n).1/\SEx (dG n).1/\SXx z q N (dG n).2.1/\SLx z q N (dG n).2.2:=by
 intro n
 induction n with
 | zero=>exact ⟨λ_ _ _ _ _ _ e=>(nomatch e),λ_ _ _ _ _ e=>(nomatch e),λ_ _ _ _ _ _ e=>(nomatch e),λ_ _ _ _ _ _ e=>(nomatch e)⟩
 | succ n ih=>
   obtain ⟨i1,i2,i3,i4⟩:=ih;exact ⟨PH i3,IZ,QA hN i1 i2 i4,Ru i1⟩
theorem block_x (hN:N<=100000000) (n:Nat):SXx z q N (lU n):=(grp_x hN n).1
theorem block_e (n:Nat):SEx (lU n):=by
 cases n with
 | zero=>exact λ_ _ _ _ _ e=>(nomatch e)
 | succ n=>exact IZ
structure RX (z:aQ) (q:List Int) (N:Nat) (c d:aD):Prop where
 p:d.p_=⟨c.p_.aS++[z]⟩
 k:d.bP=c.bP++[q]
 fl:c.p_.aS.length=N
 cl:c.bP.length=N
theorem RX.of (h:IV N c):RX z q N c (XC z q c):=⟨rfl,rfl,h.fl,h.cl⟩
theorem MA {f:aQ}:∀(k:Nat) (v:Int) (c r:aD),IV N c->fR f k v c=some r->fR f k v (XC z q c)=some (XC z q r)/\IV N r:=by
 intro k
 induction k with
 | zero=>intro v c r h e;cases e
 | succ k ih=>
   intro v c r h e;unfold fR at e ⊢
   by_cases hl:(decide (v<f.bS))=true
   ·rw [if_pos hl] at e ⊢;obtain ⟨n1,e⟩:=dK e;rw [dN (show (XC z q c).aZ.length+1<=1073741824 from n1)];exact ih _ _ _ (h.sc _) e
   ·rw [if_neg hl] at e ⊢;rw [←bX e];exact ⟨rfl,h⟩
theorem NB {d:aD} (h:RX z q N c d) {n:Nat} {w:aF} {i:Int} (h0:0<=i) (h1:i<N) {r:aD × aF} (e:fB n c w i=some r):fB n d w i=some (XC z q r.1,r.2)/\IV N r.1/\r.2=w:=by
 unfold fB at e ⊢;obtain ⟨x1,e1,e⟩:=aH e;obtain ⟨y,ey,e⟩:=aH e;have e:=bX e;subst e;obtain ⟨g,iv⟩:=MA (z:=z) (q:=q) (N:=N) _ _ _ _ (⟨h.fl,h.cl,h0,h1,h0,h1⟩:IV N { c with f_:=i,aZ:=[],fA:=i }) ey
 have hd:({ d with f_:=i,aZ:=[],fA:=i }:aD)=XC z q { c with f_:=i,aZ:=[],fA:=i }:=by
  unfold XC;rw [h.p,h.k]
 have hx:bY d.p_.aS i=some x1:=by rw [h.p];exact oN e1
 rw [hx,bU,hd,g,bU];exact ⟨rfl,iv,rfl⟩
theorem KM {n:Nat} {l:List aB}:∀(k:Nat) (v:Int) (c:aD) (w:aF) (r:aD × aF),IV N c->eR n l k v c w=some r->eR n l k v (XC z q c) w=some (XC z q r.1,r.2)/\IV N r.1:=by
 intro k
 induction k with
 | zero=>intro v c w r h e;cases e
 | succ k ih=>
   intro v c w r h e;unfold eR at e ⊢
   by_cases hl:(decide (v<(l.length:Int)))=true
   ·rw [if_pos hl] at e ⊢;obtain ⟨y,ey,e⟩:=aH e;obtain ⟨x12,e12,ey⟩:=aH ey;obtain ⟨y19,e19,ey⟩:=aH ey;rw [e12,bU,e19,bU];cases y19 with
    | true=>
      rw [if_pos rfl] at ey ⊢;obtain ⟨x25,e25,ey⟩:=aH ey;obtain ⟨x31,e31,ey⟩:=aH ey;obtain ⟨x32,e32,ey⟩:=aH ey;obtain ⟨x35,e35,ey⟩:=aH ey;have ey:=bX ey;subst ey;obtain ⟨g,i⟩:=wW (z:=z) (q:=q) h e35;rw [e25,bU,e31,bU,oJ c (XC z q c),e32,bU,g,bU,bU];exact ih _ _ _ _ i e
    | false=>
      rw [if_neg (by decide)] at ey ⊢;obtain ⟨x35,e35,ey⟩:=aH ey;have ey:=bX ey;subst ey;obtain ⟨g,i⟩:=wW (z:=z) (q:=q) h e35;rw [g,bU,bU];exact ih _ _ _ _ i e
   ·rw [if_neg hl] at e ⊢;rw [←bX e];exact ⟨rfl,h⟩
theorem set_xc (h:IV N c) (f:aQ):({ XC z q c with p_:=⟨(XC z q c).p_.aS.set (XC z q c).f_.toNat f⟩ }:aD)=XC z q { c with p_:=⟨c.p_.aS.set c.f_.toNat f⟩ }:=by
 unfold XC;simp only;rw [EQ h.f0 (by rw [h.fl];exact h.f1)]
theorem IV.set (h:IV N c) (f:aQ) (i:Nat):IV N { c with p_:=⟨c.p_.aS.set i f⟩ }:=⟨by simp only [vX];exact h.fl,h.cl,h.f0,h.f1,h.a0,h.a1⟩
theorem Rg (h:IV N c) {n:Nat} {w:aF} {l:List aB} {r:aD × aF} (e:gQ n c w l=some r):gQ n (XC z q c) w l=some (XC z q r.1,r.2)/\IV N r.1:=by
 unfold gQ at e ⊢;obtain ⟨y,ey,e⟩:=aH e;obtain ⟨x61,e61,e⟩:=aH e;have e:=bX e;subst e;obtain ⟨g,i⟩:=KM (z:=z) (q:=q) _ _ _ _ _ h ey;rw [g,bU]
 dsimp only
 have h61:bY (XC z q y.1).p_.aS (XC z q y.1).f_=some x61:=oN e61;rw [h61,bU,set_xc i];exact ⟨rfl,i.set _ _⟩
theorem head_x {d:aD} (h:RX z q N c d) {n:Nat} {w:aF} {i:Int} (h0:0<=i) (h1:i<N) {x:aB} {r:aD × aF} (e:dV n c w i x=some r):dV n d w i x=some (XC z q r.1,r.2)/\IV N r.1:=by
 unfold dV at e ⊢;obtain ⟨x2,e2,e⟩:=aH e;obtain ⟨n1,e⟩:=dK e;obtain ⟨x4,e4,e⟩:=aH e;obtain ⟨g,iv,_⟩:=NB h h0 h1 e2;obtain ⟨g4,i4⟩:=Rg (z:=z) (q:=q) iv e4;rw [g,bU,dN n1,g4,bU]
 dsimp only
 by_cases he:x4.2.e_=0
 ·rw [Be he,if_pos rfl] at e ⊢;obtain ⟨y,ey,e⟩:=aH e;rw [(i4.ag (z:=z) (q:=q)).1,oJ x4.1 (XC z q x4.1),ey,bU,←bX e];exact ⟨rfl,i4⟩
 ·rw [eq_beq' he,if_neg (by decide)] at e ⊢;rw [←bX e];exact ⟨rfl,i4⟩
theorem PF {n:Nat} {x:aB}:∀ {k:Nat} {v:Int} {c:aD} {w:aF} {r:aD × aF},eE n x k v c w=some r->r.2.e_=0->w.e_=0:=by
 intro k
 induction k with
 | zero=>intro v c w r e;cases e
 | succ k ih=>
   intro v c w r e e0;unfold eE at e
   split at e
   ·obtain ⟨x16,e16,e⟩:=aH e;obtain ⟨x22,e22,e⟩:=aH e;obtain ⟨x25,e25,e⟩:=aH e;obtain ⟨x26,e26,e⟩:=aH e;obtain ⟨y55,e55,e⟩:=aH e;have k0:=ih e e0;obtain ⟨x56,e56,e55⟩:=aH e55
    have k1:x25.2.2.e_=0:=by
     split at e55
     ·obtain ⟨x71,e71,e55⟩:=aH e55;have e55:=bX e55;subst e55;rw [(HA (by decide) e71 k0).2] at k0;exact k0
     ·obtain ⟨x73,e73,e55⟩:=aH e55;obtain ⟨x71,e71,e55⟩:=aH e55;have e55:=bX e55;subst e55;rw [(HA (by decide) e71 k0).2] at k0;exact k0
    exact block_e n _ _ _ _ _ e25 k1
   ·rw [←bX e] at e0;exact e0
theorem PE (hN:N<=100000000) {n:Nat} {x:aB}:∀(k:Nat) (v:Int) (c:aD) (w:aF) (r:aD × aF),IV N c->eE n x k v c w=some r->r.2.e_=0->eE n x k v (XC z q c) w=some (XC z q r.1,r.2)/\IV N r.1:=by
 intro k
 induction k with
 | zero=>intro v c w r h e;cases e
 | succ k ih=>
   intro v c w r h e e0;unfold eE at e ⊢
   by_cases hl:(decide (v<((x.aL.drop (max (IntKind.i64.wrap ((x.aL.length:Int) - (1:Int))) (0:Int)).toNat).length:Int)))=true
   ·rw [if_pos hl] at e ⊢;obtain ⟨x16,e16,e⟩:=aH e;obtain ⟨x22,e22,e⟩:=aH e;obtain ⟨x25,e25,e⟩:=aH e;obtain ⟨x26,e26,e⟩:=aH e;obtain ⟨y55,e55,e⟩:=aH e;have k0:=PF e e0;obtain ⟨x56,e56,e55⟩:=aH e55
    have k1:x25.2.2.e_=0:=by
     split at e55
     ·obtain ⟨x71,e71,e55⟩:=aH e55;have e55:=bX e55;subst e55;rw [(HA (by decide) e71 k0).2] at k0;exact k0
     ·obtain ⟨x73,e73,e55⟩:=aH e55;obtain ⟨x71,e71,e55⟩:=aH e55;have e55:=bX e55;subst e55;rw [(HA (by decide) e71 k0).2] at k0;exact k0
    obtain ⟨g,i⟩:=block_x (z:=z) (q:=q) hN n _ _ _ _ _ h e25 k1;have h22:bY (XC z q c).p_.aS (XC z q c).f_=some x22:=oN e22;have h26:bY (XC z q x25.2.1).p_.aS (XC z q c).f_=some x26:=oN e26;have hf:∀f:aQ,(XC z q x25.2.1).p_.aS.set (XC z q c).f_.toNat f=x25.2.1.p_.aS.set c.f_.toNat f++[z]:=λf=>EQ h.f0 (by rw [i.fl];exact h.f1);rw [e16,bU,h22,bU,g,bU]
    dsimp only
    rw [h26,bU,hf];have h56:bY (x25.2.1.p_.aS.set c.f_.toNat { x26 with eG:=x25.1 }++[z]) (XC z q c).f_=some x56:=oN e56;rw [h56,bU,show aO { XC z q x25.2.1 with p_:=⟨x25.2.1.p_.aS.set c.f_.toNat { x26 with eG:=x25.1 }++[z]⟩ }=aO { x25.2.1 with p_:=⟨x25.2.1.p_.aS.set c.f_.toNat { x26 with eG:=x25.1 }⟩ } from rfl,e55,bU];exact ih _ _ _ _ (i.set _ _) e e0
   ·rw [if_neg hl] at e ⊢;rw [←bX e];exact ⟨rfl,h⟩
theorem body_x (hN:N<=100000000) {d:aD} (h:RX z q N c d) {n:Nat} {w:aF} {i:Int} (h0:0<=i) (h1:i<N) {x:aB} {r:aD × aF} (e:dW n c w i x=some r) (e0:r.2.e_=0):dW n d w i x=some (XC z q r.1,r.2)/\IV N r.1:=by
 unfold dW at e ⊢;obtain ⟨x2,e2,e⟩:=aH e;obtain ⟨n1,e⟩:=dK e;obtain ⟨y,ey,e⟩:=aH e;have e:=bX e;subst e;obtain ⟨g,iv,_⟩:=NB h h0 h1 e2;obtain ⟨g4,i4⟩:=PE (z:=z) (q:=q) hN _ _ _ _ _ iv ey e0;rw [g,bU,dN n1,g4,bU];exact ⟨rfl,i4⟩
end
set_option linter.all false
theorem FM {look:Ii}:∀(l:List aB) (i:Nat) (c:aD) (w:aF),w.e_ ≠ 0->fY look l i c w=some (c,w):=by
 intro l
 induction l with
 | nil=>intro i c w h;rfl
 | cons x l ih=>
   intro i c w h;unfold fY;rw [eq_beq' h,if_neg (by decide)];exact ih _ _ _ h
theorem JG {look:Ii} {l:List aB} {i:Nat} {c:aD} {w:aF} {r:aD × aF} (e:fY look l i c w=some r) (e0:r.2.e_=0):w.e_=0:=by
 by_cases h:w.e_=0
 ·exact h
 ·rw [FM l i c w h] at e;rw [←bX e] at e0;exact absurd e0 h
theorem DL {look:Ii} {x:aB} {l:List aB} {i:Nat} {c:aD} {w:aF}:fY look (x::l) i c w=if (w.e_ == (0:Int))=true then (look i x c w).bind λr=>fY look l (i+1) r.1 r.2 else fY look l (i+1) c w:=rfl
theorem KR {look:Ii} {l2:List aB}:∀(l:List aB) (i:Nat) (c:aD) (w:aF),fY look (l++l2) i c w=(fY look l i c w).bind λr=>fY look l2 (i+l.length) r.1 r.2:=by
 intro l
 induction l with
 | nil=>intro i c w;rfl
 | cons x l ih=>
   intro i c w;rw [iC,DL,DL];simp only [gK]
   by_cases h:(w.e_ == (0:Int))=true
   ·rw [if_pos h,if_pos h];cases hl:look i x c w with
    | none=>rfl
    | some r=>simp only [bU];rw [ih,show i+1+l.length=i+(l.length+1) by omega]
   ·rw [if_neg h,if_neg h,ih,show i+1+l.length=i+(l.length+1) by omega]
section
variable {z:aQ} {q:List Int} {c:aD} {N:Nat}
theorem Rt {look:Ii} (hL:∀(i:Nat) x c d w r,i<N->RX z q N c d->look i x c w=some r->r.2.e_=0->∃d',look i x d w=some (d',r.2)/\RX z q N r.1 d'):∀(l:List aB) (i:Nat) (c d:aD) (w:aF) (r:aD × aF),i+l.length<=N->RX z q N c d->fY look l i c w=some r->r.2.e_=0->∃d',fY look l i d w=some (d',r.2)/\RX z q N r.1 d':=by
 intro l
 induction l with
 | nil=>
   intro i c d w r _ h e e0;have e:=bX e;subst e;exact ⟨d,rfl,h⟩
 | cons x l ih=>
   intro i c d w r hl h e e0;simp only [gK] at hl;have h0:=JG e e0;unfold fY at e ⊢;rw [Be h0,if_pos rfl] at e ⊢;obtain ⟨y,ey,e⟩:=aH e;obtain ⟨d1,g1,h1⟩:=hL i x c d w y (by omega) h ey (JG e e0);rw [g1,bU];exact ih _ _ _ _ _ (by omega) h1 e e0
theorem KJ {f g:Int->List Int->Option (Bool × List Int)} {s:Int} (hf:∀k seen r,f k seen=some r->g k (seen++[s])=some (r.1,r.2++[s])) {to:Int}:∀(ks seen:List Int) (r:Bool × List Int),rK f to ks seen=some r->rK g to ks (seen++[s])=some (r.1,r.2++[s]):=by
 intro ks
 induction ks with
 | nil=>intro seen r e;have e:=bX e;subst e;rfl
 | cons k ks ih=>
   intro seen r e;unfold rK at e ⊢
   by_cases h1:(k == to)=true
   ·rw [if_pos h1] at e ⊢;have e:=bX e;subst e;rfl
   ·rw [if_neg h1] at e ⊢;obtain ⟨u,eu,e⟩:=aH e
    have hk:0<=k/\k<(seen.length:Int):=by
     unfold bY at eu
     split at eu
     ·rename_i h0;have:=(uD.1 eu).1;exact ⟨h0,by omega⟩
     ·cases eu
    have hs:∀v:Int,(seen++[s]).set k.toNat v=seen.set k.toNat v++[s]:=λv=>EQ hk.1 hk.2;rw [oN eu,bU,hs]
    by_cases h2:(IntKind.i64.wrap (u+(1:Int)) == (1:Int))=true
    ·rw [if_pos h2] at e ⊢;obtain ⟨y,ey,e⟩:=aH e;rw [hf _ _ _ ey,bU]
     dsimp only
     by_cases h3:y.1=true
     ·rw [if_pos h3] at e ⊢;have e:=bX e;subst e;rfl
     ·rw [if_neg h3] at e ⊢;exact ih _ _ e
    ·rw [if_neg h2] at e ⊢;exact ih _ _ e
theorem OS {d:aD} (h:d.bP=c.bP++[q]) {s:Int} {to:Int}:∀(n:Nat) (k:Int) (seen:List Int) (r:Bool × List Int),fL n c k to seen=some r->fL n d k to (seen++[s])=some (r.1,r.2++[s]):=by
 intro n
 induction n with
 | zero=>intro k seen r e;cases e
 | succ n ih=>
   intro k seen r e;unfold fL at e ⊢;obtain ⟨l,el,e⟩:=aH e;obtain ⟨n1,e⟩:=dK e;rw [h,oN el,bU,dN n1];exact KJ (λk seen r e=>ih k seen r e) _ _ _ e
theorem Lm {n len:Nat} {c:aD}:∀(l:List aB) (i:Nat) (w:aF),w.e_ ≠ 0->pK n len c l i w=some w:=by
 intro l
 induction l with
 | nil=>intro i w h;rfl
 | cons x l ih=>
   intro i w h;unfold pK;rw [eq_beq' h,if_neg (by decide)];exact ih _ _ h
theorem cyc_e {n len:Nat} {c:aD} {l:List aB} {i:Nat} {w w':aF} (e:pK n len c l i w=some w') (e0:w'.e_=0):w.e_=0:=by
 by_cases h:w.e_=0
 ·exact h
 ·rw [Lm l i w h] at e;rw [←bX e] at e0;exact absurd e0 h
theorem cyc_x {d:aD} (h:d.bP=c.bP++[[]]) (hc:c.bP.length=N) {n:Nat} (hn:1<n) {y:aB}:∀(l:List aB) (i:Nat) (w w':aF),i+l.length=N->pK n N c l i w=some w'->w'.e_=0->pK n (N+1) d (l++[y]) i w=some w':=by
 intro l
 induction l with
 | nil=>
   intro i w w' hi e e0;have e:=bX e;subst e;have hi:i=N:=by simpa using hi
   subst hi;obtain ⟨m,rfl⟩:∃m,n=m+1:=⟨n - 1,by omega⟩;rw [iV];unfold pK;rw [Be e0,if_pos rfl];have hx:bY d.bP (i:Int)=some []:=by rw [h];unfold bY;rw [if_pos (by omega),yV,←hc];simp
   rw [show fL (m+1) d i i (List.replicate (i+1) 0)=some (false,List.replicate (i+1) 0) by unfold fL;rw [hx,bU,dN (by simp)];rfl,bU];rfl
 | cons x l ih=>
   intro i w w' hi e e0;simp only [gK] at hi;have h0:=cyc_e e e0;rw [iC];unfold pK at e ⊢;rw [Be h0,if_pos rfl] at e ⊢;obtain ⟨r,er,e⟩:=aH e;obtain ⟨w2,e2,e⟩:=aH e;rw [List.replicate_succ',OS h _ _ _ _ er,bU,oJ c d,e2,bU];exact ih _ _ _ (by omega) e e0
end
theorem Mj {n:Nat} {x x' y:aB} (hx:x'.aL=x.aL++[y]) (hl:x.aL.length<=100000):∀(k v:Nat) (c:aD) (w:aF) (r:aD × aF),v<=x.aL.length->cL n x k (v:Int) c w=some r->cL n x' k (v:Int) c w=cL n x' (v+k - x.aL.length) (x.aL.length:Int) r.1 r.2/\x.aL.length<v+k/\r.1.f_=c.f_/\r.1.p_.aS.length=c.p_.aS.length+(x.aL.length - v):=by
 intro k
 induction k with
 | zero=>intro v c w r hv e;cases e
 | succ k ih=>
   intro v c w r hv e
   by_cases hlt:v<x.aL.length
   ·conv at e=>lhs;unfold cL
    rw [if_pos (DD (by omega))] at e;obtain ⟨x14,e14,e⟩:=aH e;obtain ⟨x20,e20,e⟩:=aH e;obtain ⟨y23,e23,e⟩:=aH e;obtain ⟨x34,e34,e⟩:=aH e;obtain ⟨n1,e⟩:=dK e;obtain ⟨n2,e⟩:=dK e;rw [cZ (n:=(v:Int)+1) (by omega) (by omega),show ((v:Int)+1)=((v+1:Nat):Int) by omega] at e;obtain ⟨g1,g2,g3,g4⟩:=ih (v+1) _ _ _ (by omega) e;refine ⟨?_,by omega,g3,?_⟩
    ·rw [show v+(k+1) - x.aL.length=v+1+k - x.aL.length by omega,←g1]
     conv=>lhs;unfold cL
     have h14:bY x'.aL (v:Int)=some x14:=by rw [hx];exact oN e14
     rw [if_pos (DD (by rw [hx,mK];omega)),h14,bU,e20,bU,e23,bU,e34,bU,dN n1,dN n2,cZ (n:=(v:Int)+1) (by omega) (by omega),show ((v:Int)+1)=((v+1:Nat):Int) by omega]
    ·rw [g4];simp only [mK,mQ];omega
   ·have hv2:v=x.aL.length:=by omega
    subst hv2
    conv at e=>lhs;unfold cL
    rw [if_neg (by rw [uH];omega)] at e;have e:=bX e;subst e;exact ⟨by rw [show x.aL.length+(k+1) - x.aL.length=k+1 by omega],by omega,rfl,by show c.p_.aS.length=_;omega⟩
def MU:cB:=[122,122,57]
def zF (p:Int) (vs:List bB) (b:List aG):aQ:=⟨MU,false,2,p,vs,b⟩
theorem names_x {n:Nat} {x x' y:aB} (hx:x'.aL=x.aL++[y]) (hy1:y.bQ=MU) (hy2:y.kL=2) (hl:x.aL.length+1<=64) (hn:200<n) {r:aD × aF} (e:iA n aD.Z ⟨0,0⟩ x=some r) (e0:r.2.e_=0) {i:Int} {ok:Bool} (hf:dS n r.1.p_ MU=some (i,ok)) :
  (ok=false->iA n aD.Z ⟨0,0⟩ x'=some (XC (zF 0 [] []) [] r.1,r.2))/\(ok=true->∃c' w',iA n aD.Z ⟨0,0⟩ x'=some (c',w')/\w'.e_ ≠ 0)/\r.1.p_.aS.length=x.aL.length/\r.1.bP.length=x.aL.length:=by
 unfold iA at e ⊢;have hd:∀(b:Bool) (a a':Int),aO aD.Z ⟨0,0⟩ true 136 a=some ⟨0,0⟩:=λ_ _ _=>rfl;rw [DD (by omega),hd true _ 0,bU] at e;rw [DD (by rw [hx,mK,mQ];omega),hd true _ 0,bU];obtain ⟨y8,e8,e⟩:=aH e;obtain ⟨n1,e⟩:=dK e;have e:=bX e;subst e;obtain ⟨g1,g2,g3,g4⟩:=Mj hx (by omega) n 0 aD.Z ⟨0,0⟩ y8 (by omega) e8;have g1:cL n x' n (0:Int) aD.Z ⟨0,0⟩=cL n x' (0+n - x.aL.length) (x.aL.length:Int) y8.1 y8.2:=g1;rw [g1];obtain ⟨m,hm⟩:∃m,0+n - x.aL.length=m+2:=⟨n - x.aL.length - 2,by omega⟩;rw [hm];have h14:bY x'.aL (x.aL.length:Int)=some y:=by rw [hx];unfold bY;rw [if_pos (by omega),yV];simp
 have g4:y8.1.p_.aS.length=0+(x.aL.length - 0):=g4;have hf:dS n y8.1.p_ MU=some (i,ok):=hf
 have hstop:∀c w,cL n x' (m+1) (((x.aL.length+1:Nat)):Int) c w=some (c,w):=by
  intro c w;unfold cL;rw [if_neg (by rw [uH,hx,mK,mQ];omega)]
 have hstep:∀y23,((if (!ok)=true then
     (qZ n y.bQ).bind λx25=>
     (aO y8.1 y8.2 (x25 == (0:Int)) (131:Int) y.eO).bind λx26=>
     some x26
    else
     (aO y8.1 y8.2 false (131:Int) y.eO).bind λx29=>
     some x29)=some y23)->cL n x' (m+2) (x.aL.length:Int) y8.1 y8.2=some ({ y8.1 with p_:=⟨y8.1.p_.aS++[zF 0 [] []]⟩ },y23):=by
  intro y23 h23
  conv=>lhs;unfold cL
  rw [if_pos (DD (by rw [hx,mK,mQ];omega)),h14,bU,hy1,hf,bU];rw [hy1] at h23;rw [h23,bU,hy2,show tF 2=some 2 from rfl,bU,dN (by rw [g3];decide),dN (by omega),cZ (n:=(x.aL.length:Int)+1) (by omega) (by omega),show ((x.aL.length:Int)+1)=((x.aL.length+1:Nat):Int) by omega,hstop];rfl
 refine ⟨λhok=>?_,λhok=>?_,by simp only;omega,by simp⟩
 ·subst hok
  have ha:qZ n MU=some 0:=by
   obtain ⟨v,ev,h0,h3,_,_,h4⟩:=DW (n:=n) (s:=MU) (by omega)
   by_cases hv:0<v
   ·rcases h4 hv with h | ⟨h,_⟩ | ⟨h,_⟩ | ⟨h,_⟩ | h <;> exact absurd h (by decide)
   ·rw [ev,show v=0 by omega]
  rw [hstep y8.2 (by rw [hy1,ha];rfl),bU,dN (by rw [hx,mK,mQ];omega),hx,mK,mQ,List.replicate_succ'];rfl
 ·subst hok;have e0:y8.2.e_=0:=e0
  have hq:aO y8.1 y8.2 false (131:Int) y.eO=some ⟨131,y.eO⟩:=by
   unfold aO mH;rw [if_pos (by rfl),if_pos (by rw [e0];rfl),bU]
  rw [hstep ⟨131,y.eO⟩ (by rw [hq];rfl),bU,dN (by rw [hx,mK,mQ];omega)];exact ⟨_,_,rfl,show (131:Int) ≠ 0 by decide⟩
def zzB (c d e f g x:Int):Nd:=⟨4,c,[],0,[⟨13,d,[],0,[⟨19,e,[43],0,[⟨15,f,[120],0,[]⟩,⟨14,g,[],x,[]⟩]⟩]⟩]⟩
def PW (a b c d e f g x:Int):Nd:=⟨2,a,MU,2,[⟨3,b,[120],2,[]⟩,zzB c d e f g x]⟩
def Fv:bB:=⟨[120],2,0⟩
def zzR (d e f g x:Int):aG:=⟨[114,101,116,117,114,110],-1,0,[⟨[43],2,0,-1,[⟨[118,97,114],2,0,0,[],f⟩,⟨[110,117,109],1,x,-1,[],g⟩],e⟩],[],[],d⟩
theorem Cs {α:Type} {l:List α} {N:Nat} (h:l.length=N) (z:α):bY (l++[z]) (N:Int)=some z:=by unfold bY;rw [if_pos (by omega),yV,←h];simp
theorem JD {α:Type} {l:List α} {N:Nat} (h:l.length=N) (z y:α):(l++[z]).set (N:Int).toNat y=l++[y]:=by rw [yV,←h];simp
theorem EU {c:aD} {w:aF} {k a:Int}:aO c w true k a=some w:=rfl
theorem RO {c:aD} {w:aF} {v:cB} {n:Nat} (h:c.aZ=[]):eX (n+1) c w v=some (-1):=by
 unfold eX;rw [h];rfl
theorem Ll {c:aD} {w:aF} {v:bB} {n:Nat} {a:Int} {f:aQ} (h:c.aZ=[]) (hf:bY c.p_.aS c.f_=some f) (h0:f.bW=[]) (hw:w.e_=0):cU (n+1) c w v a=some (0,{ c with p_:=⟨c.p_.aS.set c.f_.toNat { f with bW:=[v] }⟩,aZ:=[0] },w):=by
 unfold cU;rw [RO h,bU,DD (by decide),EU,bU,hf,bU,h0,DD (by decide),EU,bU,Ep hw,if_neg (by decide),dN (by decide),dN (by rw [h];decide),h];rfl
section
variable {l:List aQ} {ks:List (List Int)} {N:Nat} {s:List Int} {fi ai:Int} {w:aF}
theorem RJ (hl:l.length=N) (hw:w.e_=0) {n:Nat} (hn:20<n) {a b c d e f g x:Int}:dV n ⟨⟨l++[zF 0 [] []]⟩,fi,s,ks,ai⟩ w N (PW a b c d e f g x)=some (⟨⟨l++[zF 1 [Fv] []]⟩,N,[0],ks,N⟩,w):=by
 obtain ⟨m,rfl⟩:∃m,n=m+20:=⟨n - 20,by omega⟩
 have e1:fB (m+20) ⟨⟨l++[zF 0 [] []]⟩,fi,s,ks,ai⟩ w N=some (⟨⟨l++[zF 0 [] []]⟩,N,[],ks,N⟩,w):=by
  unfold fB;rw [Cs hl];rfl
 have e2:gQ (m+20) ⟨⟨l++[zF 0 [] []]⟩,N,[],ks,N⟩ w [⟨3,b,[120],2,[]⟩]=some (⟨⟨l++[zF 1 [Fv] []]⟩,N,[0],ks,N⟩,w):=by
  have e3:eR (m+20) [⟨3,b,[120],2,[]⟩] (m+20) 0 ⟨⟨l++[zF 0 [] []]⟩,N,[],ks,N⟩ w=some (⟨⟨l++[zF 0 [Fv] []]⟩,N,[0],ks,N⟩,w):=by
   show ((cU (m+20) ⟨⟨l++[zF 0 [] []]⟩,N,[],ks,N⟩ w Fv b).bind (λx37=>some (x37.2.1,x37.2.2))).bind (λy=>eR (m+20) [⟨3,b,[120],2,[]⟩] (m+19) 1 y.1 y.2)=_;rw [Ll rfl (Cs hl _) rfl hw];simp only [bU,JD hl];rfl
  unfold gQ;rw [e3,bU]
  dsimp only
  rw [Cs hl,bU,JD hl];rfl
 unfold dV;rw [e1,bU];refine (dN (show (0:Int)<=1/\(1:Int)<=2 by decide)).trans ?_;show ((gQ (m+20) ⟨⟨l++[zF 0 [] []]⟩,N,[],ks,N⟩ w [⟨3,b,[120],2,[]⟩]).bind _)=_;rw [e2,bU]
 dsimp only
 rw [Be hw,if_pos rfl,Cs hl];rfl
theorem RN {c:aD} {w:aF} {n:Nat} {y:aQ} (h:c.aZ=[0]) (hf:bY c.p_.aS c.f_=some y) (h0:y.bW=[Fv]):eX (n+1) c w [120]=some 0:=by
 unfold eX;rw [h];show (fM c [120] (n+1) 0).bind _=_;unfold fM;rw [if_pos (by decide),hf,bU,h,h0];rfl
theorem RR {c:aD} {w:aF} {n:Nat} {y:aQ} (h:c.aZ=[0]) (hf:bY c.p_.aS c.f_=some y) (h0:y.bW=[Fv]) {e f g x:Int}:cJ (n+9) c w ⟨19,e,[43],0,[⟨15,f,[120],0,[]⟩,⟨14,g,[],x,[]⟩]⟩=some (⟨[43],2,0,-1,[⟨[118,97,114],2,0,0,[],f⟩,⟨[110,117,109],1,x,-1,[],g⟩],e⟩,w):=by
 have hv:∀k,cJ (k+2) c w ⟨15,f,[120],0,[]⟩=some (⟨[118,97,114],2,0,0,[],f⟩,w):=by
  intro k;show ((eK (k+1) c w ⟨15,f,[120],0,[]⟩).bind λx9=>_)=_;unfold eK;rw [show (⟨15,f,[120],0,[]⟩:Nd).bQ=[120] from rfl,RN h hf h0,bU,DD (by decide),EU,bU,bU];show ((dP c w 0).bind λx=>_)=_;unfold dP;rw [if_neg (by decide),hf,bU,h0];rfl
 have hu:∀k,cJ (k+1) c w ⟨14,g,[],x,[]⟩=some (⟨[110,117,109],1,x,-1,[],g⟩,w):=λk=>rfl
 have ha:tK (n+7) c w [⟨15,f,[120],0,[]⟩,⟨14,g,[],x,[]⟩]=some ([⟨[118,97,114],2,0,0,[],f⟩,⟨[110,117,109],1,x,-1,[],g⟩],w):=by
  have h2:fE (cJ (n+6)) [⟨15,f,[120],0,[]⟩,⟨14,g,[],x,[]⟩] c (n+5) [⟨[118,97,114],2,0,0,[],f⟩] 1 w=some ([⟨[118,97,114],2,0,0,[],f⟩,⟨[110,117,109],1,x,-1,[],g⟩],w):=by
   show ((cJ (n+6) c w ⟨14,g,[],x,[]⟩).bind λx17=>iU (([⟨[118,97,114],2,0,0,[],f⟩]:List aI).length+[x17.1].length<=1073741824) (fE (cJ (n+6)) [⟨15,f,[120],0,[]⟩,⟨14,g,[],x,[]⟩] c (n+4) ([⟨[118,97,114],2,0,0,[],f⟩]++[x17.1]) 2 x17.2))=_;rw [hu,bU];exact (dN (by simp)).trans rfl
  have h1:fE (cJ (n+6)) [⟨15,f,[120],0,[]⟩,⟨14,g,[],x,[]⟩] c (n+6) [] 0 w=some ([⟨[118,97,114],2,0,0,[],f⟩,⟨[110,117,109],1,x,-1,[],g⟩],w):=by
   show ((cJ (n+6) c w ⟨15,f,[120],0,[]⟩).bind λx17=>iU (([]:List aI).length+[x17.1].length<=1073741824) (fE (cJ (n+6)) [⟨15,f,[120],0,[]⟩,⟨14,g,[],x,[]⟩] c (n+5) ([]++[x17.1]) 1 x17.2))=_;rw [hv,bU];exact (dN (by simp)).trans h2
  show (fE (cJ (n+6)) [⟨15,f,[120],0,[]⟩,⟨14,g,[],x,[]⟩] c (n+6) [] 0 w).bind _=_;rw [h1];rfl
 show (vO (n+8) c w ⟨19,e,[43],0,[⟨15,f,[120],0,[]⟩,⟨14,g,[],x,[]⟩]⟩ ⟨[],0,0,-1,[],e⟩).bind _=_;show (fT (tK (n+7)) (n+7) c w ⟨19,e,[43],0,[⟨15,f,[120],0,[]⟩,⟨14,g,[],x,[]⟩]⟩ ⟨[],0,0,-1,[],e⟩).bind _=_;unfold fT;rw [ha];rfl
theorem Sq {c:aD} {w:aF} {n:Nat} {y:aQ} (h:c.aZ=[0]) (hf:bY c.p_.aS c.f_=some y) (h0:y.bW=[Fv]) (h2:y.cW=2) (hw:w.e_=0) {d e f g x:Int}:gU (n+9) c w ⟨13,d,[],0,[⟨19,e,[43],0,[⟨15,f,[120],0,[]⟩,⟨14,g,[],x,[]⟩]⟩]⟩ ⟨[],-1,0,[],[],[],d⟩ true=some (zzR d e f g x,c,w):=by
 unfold gU;rw [if_pos rfl,hf,bU,h2,show ((2:Int) != 0)=true from rfl,EU,bU,bU,Be hw,if_pos rfl];show ((cJ (n+9) c w ⟨19,e,[43],0,[⟨15,f,[120],0,[]⟩,⟨14,g,[],x,[]⟩]⟩).bind _)=_;rw [RR h hf h0,bU,bU,h2];rfl
theorem So (hl:l.length=N) (hw:w.e_=0) {n:Nat} (hn:20<n) {a b c d e f g x:Int}:dW n ⟨⟨l++[zF 1 [Fv] []]⟩,fi,s,ks,ai⟩ w N (PW a b c d e f g x)=some (⟨⟨l++[zF 1 [Fv] [zzR d e f g x]]⟩,N,[0],ks,N⟩,w):=by
 obtain ⟨m,rfl⟩:∃m,n=m+20:=⟨n - 20,by omega⟩
 have e1:fB (m+20) ⟨⟨l++[zF 1 [Fv] []]⟩,fi,s,ks,ai⟩ w N=some (⟨⟨l++[zF 1 [Fv] []]⟩,N,[0],ks,N⟩,w):=by
  unfold fB;rw [Cs hl];rfl
 have e2:lU (m+20) ⟨⟨l++[zF 1 [Fv] []]⟩,N,[0],ks,N⟩ w (zzB c d e f g x) true=some ([zzR d e f g x],⟨⟨l++[zF 1 [Fv] []]⟩,N,[0],ks,N⟩,w):=by
  have e3:oH (m+19) ⟨⟨l++[zF 1 [Fv] []]⟩,N,[0],ks,N⟩ w ⟨13,d,[],0,[⟨19,e,[43],0,[⟨15,f,[120],0,[]⟩,⟨14,g,[],x,[]⟩]⟩]⟩ true=some (zzR d e f g x,⟨⟨l++[zF 1 [Fv] []]⟩,N,[0],ks,N⟩,w):=by
   show ((gU (m+18) ⟨⟨l++[zF 1 [Fv] []]⟩,N,[0],ks,N⟩ w ⟨13,d,[],0,[⟨19,e,[43],0,[⟨15,f,[120],0,[]⟩,⟨14,g,[],x,[]⟩]⟩]⟩ ⟨[],-1,0,[],[],[],d⟩ true).bind _)=_;rw [Sq (n:=m+9) rfl (Cs hl _) rfl rfl hw];rfl
  show (fN (oH (m+19)) (m+19) ⟨⟨l++[zF 1 [Fv] []]⟩,N,[0],ks,N⟩ w (zzB c d e f g x) true)=_;unfold fN;unfold eM;rw [if_pos (show decide ((0:Int)<((zzB c d e f g x).aL.length:Int))=true from rfl)];show ((if (w.e_ != (0:Int))=true then _ else _:Option _).bind _)=_;rw [Ep hw,if_neg (by decide)];show (((oH (m+19) ⟨⟨l++[zF 1 [Fv] []]⟩,N,[0],ks,N⟩ w ⟨13,d,[],0,[⟨19,e,[43],0,[⟨15,f,[120],0,[]⟩,⟨14,g,[],x,[]⟩]⟩]⟩ true).bind _).bind _).bind _=_;rw [e3];rfl
 unfold dW;rw [e1,bU];refine (dN (show (0:Int)<=1/\(1:Int)<=2 by decide)).trans ?_;unfold eE;rw [if_pos (show (decide ((0:Int)<((List.drop (max (IntKind.i64.wrap (((PW a b c d e f g x).aL.length:Int) - 1)) 0).toNat (PW a b c d e f g x).aL).length:Int)))=true from rfl)];show ((bY (l++[zF 1 [Fv] []]) (N:Int)).bind λx22=>_).bind _=_;rw [Cs hl,bU];show ((lU (m+20) ⟨⟨l++[zF 1 [Fv] []]⟩,N,[0],ks,N⟩ w (zzB c d e f g x) true).bind _).bind _=_;rw [e2,bU]
 dsimp only
 rw [Cs hl,bU,JD hl,Cs hl];rfl
end
variable {N B n:Nat}
abbrev Qf (l:List aQ):List cB:=l.map aQ.iS
theorem IN {l l':List aQ} {i:Nat} (h:∀j:Nat,j ≠ i->l'[j]? = l[j]?) {f f':aQ} (hf:l[i]? = some f) (hf':l'[i]? = some f') (hn:f'.iS=f.iS):Qf l'=Qf l:=by
 apply Qd;intro j;simp only [jJ]
 by_cases hj:j=i
 ·subst hj;rw [hf,hf',jV,jV,hn]
 ·rw [h j hj]
abbrev hdK (n:Nat):Ii:=λi f c w=>dV n c w i f
abbrev bdK (n:Nat):Ii:=λi f c w=>dW n c w i f
theorem RI (hn:20300<n):∀(l:List Nd) (i:Nat) (c:aD) (w:aF),CO N B c->i+l.length=N->(∀x ∈ l,WF x/\x.aL.length<=20000)->(∀(j:Nat) f,i<=j->c.p_.aS[j]? = some f->f.eG=[])->bD (fY (hdK n) l i c w) λr=>Qf r.1.p_.aS=Qf c.p_.aS:=by
 intro l
 induction l with
 | nil=>intro i c w h h1 h2 h3;exact .some rfl
 | cons x l ih=>
   intro i c w h h1 h2 h3;simp only [gK] at h1;unfold fY
   by_cases he:(w.e_ == (0:Int))=true
   ·rw [if_pos he];obtain ⟨f,ef,ef2,_⟩:=nU (l:=c.p_.aS) (i:=(i:Int)) (by omega) (by rw [h.nf];omega);obtain ⟨hx1,hx2⟩:=h2 x NQ;refine (IX (w:=w) h (i:=(i:Int)) (by omega) (by omega) hn ef (h3 i f (tM _) (uF ef)) hx1 hx2).bind λr hr=>?_;obtain ⟨k1,k2,k3,k4,f',k5,k6,_⟩:=hr;rw [yV] at k4;refine (ih (i+1) r.1 r.2 k1 (by omega) (λy hy=>h2 y (Jk _ hy)) (λj g hj hg=>?_)).mono λq hq=>hq.trans (IN k4 (uF ef) (uF k5) k6);exact h3 j g (by omega) (by rw [←k4 j (by omega)];exact hg)
   ·rw [if_neg he];exact ih (i+1) c w h (by omega) (λy hy=>h2 y (Jk _ hy)) (λj g hj hg=>h3 j g (by omega) hg)
theorem PG (hn:90000<=n):∀(l:List Nd) (i B:Nat) (c:aD) (w:aF),CO N B c->i+l.length=N->(∀x ∈ l,WF x/\sz x<=3001)->(B:Int)+pM l<=1073741824->(w.e_=0->∀(j:Nat) f,i<=j->c.p_.aS[j]? = some f->f.bS=f.bW.length)->bD (fY (bdK n) l i c w) λr=>Qf r.1.p_.aS=Qf c.p_.aS:=by
 intro l
 induction l with
 | nil=>intro i B c w h h1 h2 h3 h4;exact .some rfl
 | cons x l ih=>
   intro i B c w h h1 h2 h3 h4;simp only [gK] at h1;rw [pO] at h3;have hp:=iW x;have hg:=lY l;unfold fY
   by_cases he:(w.e_ == (0:Int))=true
   ·rw [if_pos he];have he0:w.e_=0:=by simpa using he
    obtain ⟨f,ef,ef2,hfm⟩:=nU (l:=c.p_.aS) (i:=(i:Int)) (by omega) (by rw [h.nf];omega);obtain ⟨hx1,hx2⟩:=h2 x NQ;refine (IY (w:=w) h (i:=(i:Int)) (by omega) (by omega) ef (h4 he0 i f (tM _) (uF ef)) hx1 (by omega) (by omega) hn).bind λr hr=>?_;obtain ⟨⟨B',hb',k1⟩,k2,k4,f',k5,k6,_⟩:=hr;rw [yV] at k4;refine (ih (i+1) B' r.1 r.2 k1 (by omega) (λy hy=>h2 y (Jk _ hy)) (by omega) (λe j g hj hg=>?_)).mono λq hq=>hq.trans (IN (λj hj=>(k4 j hj).1) (uF ef) (uF k5) k6);exact h4 he0 j g (by omega) (by rw [←(k4 j (by omega)).1];exact hg)
   ·rw [if_neg he];exact ih (i+1) B c w h (by omega) (λy hy=>h2 y (Jk _ hy)) (by omega) (λe=>absurd e (by simpa using he))
theorem idx_nm {l l':List aQ} (h:Qf l=Qf l') {i:Int}:(bY l i).map aQ.iS=(bY l' i).map aQ.iS:=by
 unfold bY
 split
 ·rw [←jJ,←jJ];exact congrArg (λz:List cB=>z[i.toNat]?) h
 ·rfl
theorem Find_nm {l l':List aQ} (h:Qf l=Qf l') {n:Nat} {s:cB}:dS n ⟨l⟩ s=dS n ⟨l'⟩ s:=by
 have hl:l.length=l'.length:=by have:=congrArg List.length h;simpa using this
 have key:∀(k:Nat) (v:Int),bK l s k v=bK l' s k v:=by
  intro k
  induction k with
  | zero=>intro v;rfl
  | succ k ih=>
    intro v;unfold bK;have hi:=idx_nm h (i:=v);rw [hl]
    split
    ·cases h1:bY l v with
     | none=>
       rw [h1] at hi;cases h2:bY l' v with
       | none=>rfl
       | some y=>rw [h2] at hi;cases hi
     | some x=>
       rw [h1] at hi;cases h2:bY l' v with
       | none=>rw [h2] at hi;cases hi
       | some y=>
         rw [h2] at hi;have hi:x.iS=y.iS:=Option.some.inj hi;simp only [bU,nT,hi,ih]
    ·rfl
 unfold dS cC;rw [key]
theorem HB {nodes:List aB} {c:aD} {w:aF}:pY nodes [hdK n,bdK n] c w=(fY (hdK n) nodes 0 c w).bind λr=>(fY (bdK n) nodes 0 r.1 r.2).bind λq=>some (q.1,q.2):=rfl
theorem HZ {s:cB} {x:Nd} {u:Int} (hp:mG n s=some (x,0,u)) (hl:x.aL.length<=1073741824) {c':aD} {w':aF} (h:iA n aD.Z ⟨0,0⟩ x=some (c',w')) (hw:w'.e_ ≠ 0):∃r,kD n s=some r/\r.2.1 ≠ 0:=by
 unfold kD;rw [hp,bU]
 dsimp only
 rw [if_neg (by decide),h,bU,dN hl]
 dsimp only
 rw [show pY x.aL [λi f c w=>dV n c w i f,λi f c w=>dW n c w i f] c' w'=_ from HB,FM _ _ _ _ hw,bU,FM _ _ _ _ hw,bU,bU,Lm _ _ _ hw,bU,if_pos (ne_bne' hw)];exact ⟨_,rfl,hw⟩
theorem JS {s s':cB} {x x':Nd} {u u':Int} (hn:90000<=n) (hs:s.length<=3000) (hp:mG n s=some (x,0,u)) (hp':mG n s'=some (x',0,u')) {a b c d e f g v:Int} (hx:x'.aL=x.aL++[PW a b c d e f g v]) {p:cY} {t:Int} (h:kD n s=some (p,0,t)) :
  ((64<=p.aS.length ∨ ∃i,dS n p MU=some (i,true))/\∃r,kD n s'=some r/\r.2.1 ≠ 0) ∨ kD n s'=some (⟨p.aS++[zF 1 [Fv] [zzR d e f g v]]⟩,0,0):=by
 obtain ⟨hw,hz⟩:=(Dl (n:=n) (s:=s) (by omega)).get hp rfl;have hw:∀y ∈ x.aL,WF y:=hw;have hz:pM x.aL<=s.length+1:=hz;have hg:=lY x.aL
 have hsz:∀y ∈ x.aL,sz y<=3001/\y.aL.length<=20000:=λy hy=>by
  have h1:=Fz hy;have h2:=CJ y;have h3:=lY y.aL;omega
 unfold kD at h;rw [hp,bU] at h
 dsimp only at h
 rw [if_neg (by decide)] at h;obtain ⟨A,eA,h⟩:=aH h;obtain ⟨_,h⟩:=dK h;obtain ⟨Q,eQ,h⟩:=aH h;have eQ:pY x.aL [hdK n,bdK n] A.1 A.2=some Q:=eQ;rw [HB] at eQ;obtain ⟨H,eH,eQ⟩:=aH eQ;obtain ⟨Q',eB,eQ⟩:=aH eQ;have eQ:=bX eQ;have hQ:Q'=Q:=eQ;subst hQ;obtain ⟨W,eW,h⟩:=aH h
 have W0:W.e_=0:=by
  by_cases k:W.e_=0
  ·exact k
  ·rw [ne_bne' k,if_pos rfl] at h;have:=congrArg (λr:cY × Int × Int=>r.2.1) (bX h);exact this
 rw [Ep W0,if_neg (by decide)] at h;have hpp:Q'.1.p_=p:=congrArg Prod.fst (bX h);have Q0:=cyc_e eW W0;have H0:=JG eB Q0;have A0:=JG eH H0;obtain ⟨a1,a2,a3,a4⟩:=(FL (n:=n) (w:=⟨0,0⟩) (x:=x) (by omega) (by omega)).get eA;have l64:=a4 A0;obtain ⟨q1,q2,q3,q4⟩:=(IR (n:=n) (by omega) x.aL 0 A.1 A.2 a1 (by omega) (λy hy=>⟨hw y hy,(hsz y hy).2⟩) (λj f _ hf=>(a2 f (Fw hf)).b) (λ_ j f h=>by omega)).get eH;have m1:=(RI (n:=n) (by omega) x.aL 0 A.1 A.2 a1 (by omega) (λy hy=>⟨hw y hy,(hsz y hy).2⟩) (λj f _ hf=>(a2 f (Fw hf)).b)).get eH;have m2:=(PG (n:=n) hn x.aL 0 0 H.1 H.2 q1 (by omega) (λy hy=>⟨hw y hy,(hsz y hy).1⟩) (by omega) (λe j f _ hf=>(q4 e j f hf).1)).get eB;have hnm:Qf p.aS=Qf A.1.p_.aS:=by rw [←hpp];exact m2.trans m1
 have hlen:p.aS.length=x.aL.length:=by have:=congrArg List.length hnm;simp only [jI] at this;rw [this,a1.nf]
 have hx1:x'.aL.length=x.aL.length+1:=by rw [hx,mK,mQ]
 by_cases hmax:64<=x.aL.length
 ·left
  refine ⟨.inl (by omega),?_⟩;obtain ⟨r,er,_,_,_,hr⟩:=FL (n:=n) (w:=⟨0,0⟩) (x:=x') (by omega) (by omega);exact HZ hp' (by omega) er λe0=>by have:=hr e0;omega
 ·obtain ⟨⟨i,ok⟩,eF,_⟩:=Fq (n:=n) (p:=A.1.p_) (s:=MU) (by rw [a1.nf];omega) (by omega);obtain ⟨g1,g2,g3,g4⟩:=names_x hx rfl rfl (by omega) (by omega) eA A0 eF;cases ok with
  | true=>
    left
    obtain ⟨c',w',e1,e2⟩:=g2 rfl;refine ⟨.inr ⟨i,?_⟩,HZ hp' (by omega) e1 e2⟩;rw [←eF];exact Find_nm (l:=p.aS) (l':=A.1.p_.aS) hnm
  | false=>
    right
    have g1:=g1 rfl
    obtain ⟨d1,e1,r1⟩:=Rt (z:=zF 0 [] []) (q:=[]) (N:=x.aL.length) (look:=hdK n) (λi x c d w r hi hr he e0=>by
     obtain ⟨k1,k2⟩:=head_x hr (by omega) (by omega) he;exact ⟨_,k1,.of k2⟩) x.aL 0 A.1 (XC (zF 0 [] []) [] A.1) A.2 H (by omega) ⟨rfl,rfl,g3,g4⟩ eH H0
    have hd1:d1=⟨⟨H.1.p_.aS++[zF 0 [] []]⟩,d1.f_,d1.aZ,H.1.bP++[[]],d1.fA⟩:=by rw [←r1.p,←r1.k]
    have e2:fY (hdK n) x'.aL 0 (XC (zF 0 [] []) [] A.1) A.2=some (⟨⟨H.1.p_.aS++[zF 1 [Fv] []]⟩,x.aL.length,[0],H.1.bP++[[]],x.aL.length⟩,H.2):=by
     rw [hx,KR,e1,bU]
     dsimp only
     rw [DL,Be H0,if_pos rfl,LF];show ((dV n d1 H.2 (x.aL.length:Int) (PW a b c d e f g v)).bind _)=_;rw [hd1,RJ r1.fl H0 (by omega)];rfl
    obtain ⟨d3,e3,r3⟩:=Rt (z:=zF 1 [Fv] []) (q:=[]) (N:=x.aL.length) (look:=bdK n) (λi x c d w r hi hr he e0=>by
     obtain ⟨k1,k2⟩:=body_x (by omega) hr (by omega) (by omega) he e0;exact ⟨_,k1,.of k2⟩) x.aL 0 H.1 ⟨⟨H.1.p_.aS++[zF 1 [Fv] []]⟩,x.aL.length,[0],H.1.bP++[[]],x.aL.length⟩ H.2 Q' (by omega) ⟨rfl,rfl,r1.fl,r1.cl⟩ eB Q0
    have hd3:d3=⟨⟨Q'.1.p_.aS++[zF 1 [Fv] []]⟩,d3.f_,d3.aZ,Q'.1.bP++[[]],d3.fA⟩:=by rw [←r3.p,←r3.k]
    have e4:fY (bdK n) x'.aL 0 ⟨⟨H.1.p_.aS++[zF 1 [Fv] []]⟩,x.aL.length,[0],H.1.bP++[[]],x.aL.length⟩ H.2=some (⟨⟨Q'.1.p_.aS++[zF 1 [Fv] [zzR d e f g v]]⟩,x.aL.length,[0],Q'.1.bP++[[]],x.aL.length⟩,Q'.2):=by
     rw [hx,KR,e3,bU]
     dsimp only
     rw [DL,Be Q0,if_pos rfl,LF];show ((dW n d3 Q'.2 (x.aL.length:Int) (PW a b c d e f g v)).bind _)=_;rw [hd3,So r3.fl Q0 (by omega)];rfl
    unfold kD;rw [hp',bU]
    dsimp only
    rw [if_neg (by decide),g1,bU,dN (by omega)]
    dsimp only
    rw [show pY x'.aL [λi f c w=>dV n c w i f,λi f c w=>dW n c w i f] (XC (zF 0 [] []) [] A.1) A.2=_ from HB,e2,bU,e4,bU,bU]
    dsimp only
    rw [hx1,hx,cyc_x (c:=Q'.1) (N:=x.aL.length) rfl r3.cl (by omega) x.aL 0 Q'.2 W (by omega) eW W0,bU,if_neg (by rw [Ep W0];decide),←hpp]
