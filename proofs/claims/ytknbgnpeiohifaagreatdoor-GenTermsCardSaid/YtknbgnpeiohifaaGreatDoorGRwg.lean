import Derived.Test.YtknbgnpeiohifaaGreatDoorGTyp
namespace Go.Proofs.YtknbgnpeiohifaaGreatDoor.Abs
open Go.RowKit
set_option linter.all false
inductive SA:aB->Prop
 | mk {x}:x.dJ.length<=16->(∀y ∈ x.aN,SA y)->SA x
inductive StB:aA->Prop
 | mk {s}:(∀x ∈ s.aN,SA x)->(∀t ∈ s.bH,StB t)->(∀t ∈ s.eG,StB t)->StB s
theorem SA.nil {o:cB} {t k v a:Int} (h:o.length<=16):SA ⟨o,t,k,v,[],a⟩:=.mk h λy hy=>nomatch hy
theorem yM {α:Type} {P:α->Prop} {x:α} (h:P x):∀y ∈ [x],P y:=λy hy=>by obtain rfl:=zU.1 hy;exact h
theorem BZ {α:Type} {P:α->Prop} {x y:α} (h:P x) (k:P y):∀z ∈ [x,y],P z:=λz hz=>by
 rcases Di.1 hz with rfl | hz
 ·exact h
 ·exact yM k z hz
theorem za8 {α:Type} {P:α->Prop} {x y z:α} (h:P x) (k:P y) (l:P z):∀u ∈ [x,y,z],P u:=λu hu=>by
 rcases Di.1 hu with rfl | hu
 ·exact h
 ·exact BZ k l u hu
theorem Qn.len {o:cB} {x y:aB} {t:Int} (h:Qn o x y t):o.length<=16:=by
 rcases h with ⟨h,_⟩ | ⟨h,_⟩ | ⟨h,_⟩ | ⟨h,_⟩ | ⟨h,_⟩
 ·rcases h with rfl | rfl <;> decide
 ·rcases h with rfl | rfl | rfl <;> decide
 ·subst h;decide
 ·rcases h with rfl | rfl <;> decide
 ·rcases h with rfl | rfl | rfl | rfl | rfl <;> decide
section
variable {vs:List aK} {sc:List Int}
theorem TX.opB {x:aB} (h:TX vs sc x):SA x:=by
 induction h with
 | num=>exact .nil zc
 | var _ _ _=>exact .nil zc
 | index _ _ _ _ _ _ ih=>exact .mk (by simp only;decide) (yM ih)
 | un h _ ih=>exact .mk (by simp only;rcases h with rfl | rfl <;> decide) (yM ih)
 | bin _ _ h ih1 ih2=>exact .mk h.len (BZ ih1 ih2)
 | sel _ _ _ _ _ ih1 ih2 ih3=>exact .mk (by simp only;decide) (za8 ih1 ih2 ih3)
 | long _ _ ih=>exact .mk (by simp only;decide) (yM ih)
 | wide _ _ _ _ ih1 ih2=>exact .mk (by simp only;decide) (BZ ih1 ih2)
 | half h _ _ ih=>exact .mk (by simp only;rcases h with rfl | rfl <;> decide) (yM ih)
theorem Lc.opB {p:aK} {x:aB} (h:Lc vs sc p x):SA x:=by
 cases h with
 | arr _ _ _ _ _=>exact .nil zc
 | pub _ h _=>exact h.opB
 | val _ _ h _=>exact h.opB
theorem Dr.each {ps:List aK} {l:List aB} (h:Dr vs sc ps l) {x:aB} (hx:x ∈ l):∃p ∈ ps,Lc vs sc p x:=by
 obtain ⟨i,hi⟩:=xem hx;have hlt:=(xW.1 hi).1;exact ⟨ps[i]'(by rw [←h.1];exact hlt),NY _,h.2 i _ x (yN _) hi⟩
variable {sg:Vz} {res:Int} {l:Bool} {n n':Nat} {sc':List Int} {ss:List aA}
theorem Bh {α:Type} {P:α->Prop} {x:α} {l:List α} (h:P x) (k:∀y ∈ l,P y):∀y ∈ x::l,P y:=λy hy=>by
 rcases Di.1 hy with rfl | hy
 ·exact h
 ·exact k y hy
theorem oD {α:Type} {P:α->Prop}:∀y ∈ ([]:List α),P y:=λy hy=>nomatch hy
end
theorem Rp {v:Int} {as:List Int}:aW (Bb v as) λr=>as=[]->r=v:=by
 unfold Bb;refine aW.bind (P:=λy=>y=true ∨ y=false/\0<=v/\v<as.length) ?_ λy hy=>?_
 ·refine aW.iteb (λ_=>.some (.inl rfl)) λh=>.some ?_;have h:=Lj h
  by_cases h2:(as.length:Int)<=v
  ·exact .inl (Ah h2)
  ·exact .inr ⟨SB h2,zb,zb⟩
 ·refine aW.iteb (λ_=>.some λ_=>rfl) λh=>?_
  rcases hy with e | ⟨_,h0,h1⟩
  ·rw [e] at h;cases h
  ·exact (aW.idx h0 h1 (Q:=λ_=>True) λ_ _=>trivial).bind λx _=>.some λe=>by rw [e] at h1;simp at h1;omega
structure XR (as:List Int) (x y:aB):Prop where
 sz:xz y=xz x
 op:SA x->SA y
 id:as=[]->y=x
structure XLR (as:List Int) (l r:List aB):Prop where
 len:r.length=l.length
 sz:nG r=nG l
 op:(∀x ∈ l,SA x)->∀y ∈ r,SA y
 id:as=[]->r=l
theorem XLR.nil {as:List Int}:XLR as [] []:=⟨rfl,rfl,λh=>h,λ_=>rfl⟩
theorem XLR.cons {as:List Int} {x y:aB} {l r:List aB} (h:XR as x y) (k:XLR as l r):XLR as (x::l) (y::r):=
 ⟨by rw [qB,qB,k.len],by rw [nG,nG,h.sz,k.sz],λho=>Bh (h.op (ho x PH)) (k.op λz hz=>ho z (Nm _ hz)),λe=>by rw [h.id e,k.id e]⟩
theorem XQ {f:aB->List Int->Option aB} {l:List aB} {as:List Int} (hf:∀x ∈ l,aW (f x as) (XR as x)) (hl:l.length<=100000000) :
  ∀(k v:Nat) (acc:List aB),l.length<v+k->v<=l.length->acc.length=v->aW (xJ f l as k acc (v:Int)) λr=>∃r',r=acc++r'/\XLR as (l.drop v) r':=by
 intro k
 induction k with
 | zero=>intro v acc h1 h2;omega
 | succ k ih=>
   intro v acc h1 h2 h3;unfold xJ
   by_cases hv:v<l.length
   ·have hd:l.drop v=l[v]::l.drop (v+1):=Sq hv;have e:aZ l (v:Int)=some l[v]:=zY (yN hv);rw [cX (Ah zb),e,iX];refine (hf _ (NY hv)).bind λy hy=>aW.need (by simp only [qB,sY];omega) ?_;rw [dB (n:=(v:Int)+1) zb zb,show ((v:Int)+1)=((v+1:Nat):Int) by omega];refine (ih (v+1) _ zb zb (by rw [oY,vO,h3])).mono λr hr=>?_;obtain ⟨r',rfl,hr⟩:=hr;exact ⟨y::r',zd,by rw [hd];exact .cons hy hr⟩
   ·rw [cE (by rw [Da];omega),WR zb];exact .some ⟨[],zd,.nil⟩
theorem QP:∀n:Nat,(∀(x:aB) (as:List Int),2*xz x<n->xz x<=100000000->aW (uB n x as) (XR as x))/\(∀(l:List aB) (as:List Int),2*nG l+1<n->nG l<=100000000->aW (wS n l as) (XLR as l)):=by
 intro n
 induction n with
 | zero=>exact ⟨λx as h=>zb,λl as h=>zb⟩
 | succ n ih=>
   refine ⟨λx as h hb=>?_,λl as h hb=>?_⟩
   ·show aW (yC (wS n) n x as) _;unfold yC;have hz:=Dg x;refine Rp.bind λv hv=>(ih.2 _ as zb zb).bind λr hr=>.some ⟨?_,λho=>?_,λe=>?_⟩
    ·rw [Dg,Dg,hr.sz]
    ·obtain ⟨h1,h2⟩:=ho;exact .mk h1 (hr.op h2)
    ·cases x;rw [hv e,hr.id e]
   ·show aW (wR (uB n) n l as) _;unfold wR;have hl:=Ca l
    have:=XQ (f:=uB n) (l:=l) (as:=as) (λx hx=>by
     have h1:=yI hx;exact ih.1 x as zb zb) zb n 0 [] zb zb rfl
    refine aW.bind this λr hr=>.some ?_;obtain ⟨r',rfl,hr⟩:=hr;exact hr
theorem QO {n:Nat} {x:aB} {as:List Int} (h:2*xz x<n) (hb:xz x<=100000000):aW (uB n x as) (XR as x):=(QP n).1 x as h hb
theorem Vh {n:Nat} {l:List aB} {as:List Int} (h:2*nG l+1<n) (hb:nG l<=100000000):aW (wS n l as) (XLR as l):=(QP n).2 l as h hb
mutual
def YA:aA->Nat
 | ⟨_,_,_,_,b,e,_⟩=>1+yR b+yR e
def yR:List aA->Nat
 | []=>0
 | x::l=>YA x+yR l
end
theorem SR (a b:List aA):yR (a++b)=yR a+yR b:=by
 induction a with
 | nil=>rw [AE,yR,Lk]
 | cons x a ih=>rw [Ri,yR,yR,ih,xdr]
inductive NCS:aA->Prop
 | ret {x a}:NCS ⟨[114,101,116,117,114,110],-1,0,[x],[],[],a⟩
 | st {o v f l b e a}:o ≠ [99,97,108,108]->o ≠ [114,101,116,117,114,110]->(∀t ∈ b,NCS t)->(∀t ∈ e,NCS t)->NCS ⟨o,v,f,l,b,e,a⟩
structure Sz (x:aM):Prop where
 lo:0<=x.gS
 hi:x.gS<=30000
 ok:x.e_=0->x.gS<=16384
 e:x.e_=0 ∨ x.e_=161
structure CtR (x r:aM):Prop where
 p:r.p_=x.p_
 f:r.f_=x.f_
 s:r.gS=x.gS+1
 e:r.e_=if 16384<x.gS+1 then 161 else x.e_
theorem Ke {x:aM} (h0:0<=x.gS) (h1:x.gS<=1000000000):aW (eJ x) (CtR x):=by
 unfold eJ;rw [dB (n:=x.gS+1) zb zb];refine aW.iteb (λh=>.some ⟨rfl,rfl,rfl,?_⟩) (λh=>.some ⟨rfl,rfl,rfl,?_⟩)
 ·rw [cX (xG h)]
 ·rw [cE (Lj h)]
theorem CtR.sz {x r:aM} (h:CtR x r) (hs:Sz x) (hx:x.gS<=29999):Sz r:=by
 have h1:=h.s;have h2:=h.e;have h3:=hs.lo;refine ⟨zb,zb,λe=>?_,?_⟩
 ·rw [h2] at e;split at e
  ·omega
  ·omega
 ·rw [h2];split
  ·exact .inr rfl
  ·exact hs.e
def back0:aA:=⟨[114,101,116,117,114,110],-1,0,[],[],[],-1⟩
inductive FS (p:bM) (rk:Int->Nat) (m:Nat):aA->Prop
 | ret {x a}:SA x->FS p rk m ⟨[114,101,116,117,114,110],-1,0,[x],[],[],a⟩
 | call {v f xs a fn}:aZ p.bC f=some fn->rk f<m->xs.length<=fn.aQ.length->(∀x ∈ xs,SA x)->FS p rk m ⟨[99,97,108,108],v,f,xs,[],[],a⟩
 | st {o v f l b e a}:o ≠ [99,97,108,108]->o ≠ [114,101,116,117,114,110]->(∀x ∈ l,SA x)->(∀t ∈ b,FS p rk m t)->(∀t ∈ e,FS p rk m t)->FS p rk m ⟨o,v,f,l,b,e,a⟩
structure PG (p:bM) (rk:Int->Nat):Prop where
 fs:∀k fn,aZ p.bC k=some fn->∀t ∈ fn.bH,FS p rk (rk k) t
 sz:∀k fn,aZ p.bC k=some fn->wF fn.bH<=3001
 vl:∀k fn,aZ p.bC k=some fn->fn.aQ.length<=250/\0<=fn.aT/\fn.aT<=fn.aQ.length
structure Ok (t:aA):Prop where
 nc:NCS t
 st:StB t
 tzb:tz t<=3001*YA t
theorem Ok.all {l:List aA} (h:∀t ∈ l,Ok t):wF l<=3001*yR l:=by
 induction l with
 | nil=>exact Ko _
 | cons x l ih=>
   have h1:=(h x PH).tzb;have h2:=ih λt ht=>h t (Nm _ ht);rw [wF,yR];omega
structure VR (x r:aM):Prop where
 f:r.f_={ x.f_ with aQ:=r.f_.aQ }
 l:x.f_.aQ.length<=4096->r.f_.aQ.length<=4096
theorem VR.refl (x:aM):VR x x:=⟨rfl,λh=>h⟩
theorem VR.of {x r:aM} (h:r.f_=x.f_):VR x r:=⟨by rw [h],λk=>by rw [h];exact k⟩
theorem VR.trans {x y z:aM} (h:VR x y) (k:VR y z):VR x z:=⟨by rw [k.f,h.f],λe=>k.l (h.l e)⟩
structure FrR (x r:aM):Prop where
 p:r.p_=x.p_
 v:VR x r
 s:r.gS=x.gS
 e:r.e_=x.e_ ∨ r.e_=161
theorem FrR.sz {x r:aM} (h:FrR x r) (hs:Sz x):Sz r:=by
 have h1:=h.s;refine ⟨by rw [h1];exact hs.lo,by rw [h1];exact hs.hi,λe=>?_,?_⟩
 ·rw [h1]
  rcases h.e with k | k
  ·exact hs.ok (by rw [←k];exact e)
  ·rw [k] at e;cases e
 ·rcases h.e with k | k
  ·rw [k];exact hs.e
  ·exact .inr k
theorem FrR.zero {x r:aM} (h:FrR x r) (e:r.e_=0):x.e_=0:=by
 rcases h.e with k | k
 ·rw [←k];exact e
 ·rw [k] at e;cases e
theorem MF {x:aM} {v:aK}:aW (eI x v) λr=>FrR x r.2:=by
 unfold eI;refine aW.iteb (λh=>.some ⟨rfl,.of rfl,rfl,.inr rfl⟩) (λh=>?_);have h:=Lj h;refine aW.need (by simp only [qB,sY];omega) (.some ⟨rfl,⟨rfl,λ_=>?_⟩,rfl,.inl rfl⟩);show (x.f_.aQ++[v]).length<=4096;rw [oY,vO];omega
structure FR (x:aM) (r:List aA × aM):Prop where
 p:r.2.p_=x.p_
 v:VR x r.2
 s:Sz r.2
 len:(r.1.length:Int)+x.gS<=r.2.gS
 out:r.2.e_=0->x.e_=0/\(∀t ∈ r.1,Ok t)/\x.gS+yR r.1<=r.2.gS
structure BkS (b:aA):Prop where
 bo:b.bH=[]
 el:b.eG=[]
 op:(b.dJ=[114,101,116,117,114,110]/\b.fB=-1) ∨ b.dJ=[118,97,114] ∨ b.dJ=[115,101,116]
theorem VT {o:cB} {v f:Int} {y:aB} {a:Int} (h1:o ≠ [99,97,108,108]) (h2:o ≠ [114,101,116,117,114,110]) (ho:SA y) (hz:xz y<=3000):Ok ⟨o,v,f,[y],[],[],a⟩:=
 ⟨.st h1 h2 oD oD,.mk (yM ho) oD oD,by rw [tz,nG,nG,wF,YA,yR];omega⟩
theorem YS:([118,97,114]:cB) ≠ [99,97,108,108]:=zc
theorem YR:([118,97,114]:cB) ≠ [114,101,116,117,114,110]:=zc
theorem set_nc:([115,101,116]:cB) ≠ [99,97,108,108]:=zc
theorem set_nr:([115,101,116]:cB) ≠ [114,101,116,117,114,110]:=zc
theorem Zh {x:aM} {y:aB} {b:aA} (hb:BkS b) (ho:SA y) (hz:xz y<=3000):aW (fE x y b) λr=>FrR x r.2/\Ok r.1/\YA r.1=1:=by
 obtain ⟨h1,h2,h3⟩:=hb;obtain ⟨o,v,f,l,bo,el,a⟩:=b;simp only at h1 h2 h3;subst h1 h2;have hs:∀v f l a,YA ⟨o,v,f,l,[],[],a⟩=1:=λv f l a=>by rw [YA,yR]
 unfold fE;refine aW.iteb (λh=>?_) (λh=>?_)
 ·have h:o=[118,97,114]:=xG h;subst h;exact MF.bind λr hr=>.some ⟨hr,VT YS YR ho hz,hs _ _ _ _⟩
 ·refine .some ⟨⟨rfl,.refl x,rfl,.inl rfl⟩,?_,hs _ _ _ _⟩
  rcases h3 with ⟨rfl,rfl⟩ | rfl | rfl
  ·exact ⟨.ret,.mk (yM ho) oD oD,by show tz ⟨_,_,_,[y],[],[],_⟩<=3001*YA ⟨_,_,_,[y],[],[],_⟩;rw [tz,nG,nG,wF,YA,yR];omega⟩
  ·exact VT YS YR ho hz
  ·exact VT set_nc set_nr ho hz
theorem WZ {x:aM} {s b:aA} {as:List Int} {fn:aJ} (h:aZ x.p_.bC s.iO=some fn) (hb:BkS b):aW (kJ x s as b) BkS:=by
 unfold kJ;rw [h,iX];refine aW.iteb (λ_=>aW.iteb (λ_=>.some ⟨hb.bo,hb.el,hb.op⟩) (λ_=>.some hb)) (λ_=>aW.iteb (λ_=>.some ⟨rfl,rfl,.inr (.inl rfl)⟩) (λ_=>Rp.bind λv _=>.some ⟨rfl,rfl,.inr (.inr rfl)⟩))
structure AR (x:aM) (k:Nat) (n:Int) (r:List aA × List Int × aM):Prop where
 p:r.2.2.p_=x.p_
 v:VR x r.2.2
 s:Sz r.2.2
 hi:r.2.2.gS<=x.gS+n
 own:r.2.1.length=k
 len:(r.1.length:Int)+x.gS<=r.2.2.gS
 out:r.2.2.e_=0->x.e_=0/\(∀t ∈ r.1,Ok t)/\x.gS+yR r.1<=r.2.2.gS
theorem args_l1 {n:Nat} {s:aA} {as:List Int} {fn:aJ} (hl:s.aN.length<=fn.aQ.length) (hv:fn.aQ.length<=250) (ho:∀y ∈ s.aN,SA y) (hz:nG s.aN<=3000) (hn:6002<n) {x0:aM} (h0:0<=x0.gS) (h1:x0.gS<=20000) :
  ∀(k v:Nat) (acc:List aA) (own:List Int) (x:aM),s.aN.length<v+k->v<=s.aN.length->AR x0 v v (acc,own,x)->aW (fH n s as fn k acc own (v:Int) x) (AR x0 s.aN.length s.aN.length):=by
 intro k
 induction k with
 | zero=>intro v acc own x h1 h2;omega
 | succ k ih=>
   intro v acc own x h2 h3 ha;unfold fH
   by_cases hv2:v<s.aN.length
   ·have hg:=yN hv2;have e:aZ s.aN (v:Int)=some s.aN[v]:=zY hg;have hm:s.aN[v] ∈ s.aN:=NY hv2;have hzm:=yI hm;have hi:=ha.hi;have hlo:=ha.len;have how:own.length=v:=ha.own;simp only at hi hlo;rw [cX (Ah zb),e,iX,dB (n:=(v:Int)+1) zb zb,show ((v:Int)+1)=((v+1:Nat):Int) by omega]
    have step:∀(o:cB) (u:aK),o ≠ [99,97,108,108]->o ≠ [114,101,116,117,114,110]->aW ((eJ x).bind λx35=>(eI x35 u).bind λx37=>iN (own.length+[x37.1].length<=1073741824) <| (uB n s.aN[v] as).bind λx44=>iN (acc.length+[(aA.mk o x37.1 (0:Int) [x44] [] [] s.gI)].length<=1073741824) <| some ((acc++[(aA.mk o x37.1 (0:Int) [x44] [] [] s.gI)]),(own++[x37.1]),x37.2)) (AR x0 (v+1) (v+1:Nat)):=by
     intro o u ho1 ho2;refine (Ke (x:=x) ha.s.lo zb).bind λx1 g1=>MF.bind λx2 g2=>aW.need (by simp only [qB,sY];omega) ((QO (n:=n) zb zb).bind λy hy=>aW.need (by simp only [qB,sY];omega) ?_);have hs1:Sz x1:=g1.sz ha.s (by show x.gS<=29999;omega);have e1:=g1.s;have e2:=g2.s;refine .some ⟨g2.p.trans (g1.p.trans ha.p),ha.v.trans ((VR.of g1.f).trans g2.v),g2.sz hs1,?_,?_,?_,λe0=>?_⟩
     ·show x2.2.gS<=_;omega
     ·show (own++[x2.1]).length=_;rw [oY,vO,how]
     ·show ((acc++[_]).length:Int)+_<=x2.2.gS;rw [oY,vO];omega
     ·have k1:=g2.zero e0
      have k2:x.e_=0:=by
       have:=g1.e;rw [k1] at this
       split at this
       ·cases this
       ·exact this.symm
      obtain ⟨q1,q2,q3⟩:=ha.out k2;simp only at q2 q3;refine ⟨q1,λt ht=>?_,?_⟩
      ·rcases yU.1 ht with ht | ht
       ·exact q2 t ht
       ·obtain rfl:=zU.1 ht;exact VT ho1 ho2 (hy.op (ho _ hm)) (by rw [hy.sz];omega)
      ·show _+(yR (acc++[_]):Int)<=x2.2.gS;rw [SR,yR,YA,yR];omega
    refine aW.bind (P:=AR x0 (v+1) (v+1:Nat)) ?_ λy hy=>ih (v+1) _ _ _ zb zb hy;refine aW.iteb (λ_=>Rp.bind λw _=>aW.need (by simp only [qB,sY];omega) (.some ?_)) (λ_=>?_)
    ·exact ⟨ha.p,ha.v,ha.s,by show x.gS<=_;omega,by show (own++[w]).length=_;rw [oY,vO,how],ha.len,ha.out⟩
    ·have hv3:v<fn.aQ.length:=zb
     rw [zY (yN hv3),iX];exact aW.iteb (λ_=>step _ _ zc zc) (λ_=>step _ _ zc zc)
   ·rw [cE (by rw [Da];omega)];have:v=s.aN.length:=zb
    subst this;exact .some ha
theorem FrR.trans {x y z:aM} (h:FrR x y) (k:FrR y z):FrR x z:=⟨k.p.trans h.p,h.v.trans k.v,k.s.trans h.s,by
 rcases k.e with e | e
 ·rw [e];exact h.e
 ·exact .inr e⟩
theorem Vs {fn:aJ} (hv:fn.aQ.length<=250):∀(k v:Nat) (own:List Int) (x:aM),(fn.aQ.drop fn.aT.toNat).length<v+k->v<=(fn.aQ.drop fn.aT.toNat).length->own.length<=300+v->aW (fG fn k own (v:Int) x) λr=>FrR x r.2:=by
 have hd:(fn.aQ.drop fn.aT.toNat).length<=250:=by rw [Us];omega
 intro k
 induction k with
 | zero=>intro v own x h1 h2;omega
 | succ k ih=>
   intro v own x h1 h2 h3;unfold fG
   by_cases hv2:v<(fn.aQ.drop fn.aT.toNat).length
   ·rw [cX (Ah zb),zY (yN hv2),iX];refine MF.bind λr hr=>aW.need (by simp only [qB,sY];omega) ?_;rw [dB (n:=(v:Int)+1) zb zb,show ((v:Int)+1)=((v+1:Nat):Int) by omega];exact (ih (v+1) _ _ zb zb (by rw [oY,vO];omega)).mono λz hz=>hr.trans hz
   ·rw [cE (by rw [Da];omega)];exact .some ⟨rfl,.refl x,rfl,.inl rfl⟩
theorem FR.app {x0 x:aM} {acc:List aA} {r:List aA × aM} (h:FR x0 (acc,x)) (k:FR x r):FR x0 (acc++r.1,r.2):=by
 have h1:=h.len;have h2:=k.len;simp only at h1;refine ⟨k.p.trans h.p,h.v.trans k.v,k.s,?_,λe=>?_⟩
 ·show ((acc++r.1).length:Int)+_<=r.2.gS;rw [oY];omega
 ·obtain ⟨q1,q2,q3⟩:=k.out e;obtain ⟨p1,p2,p3⟩:=h.out q1;refine ⟨p1,λt ht=>?_,?_⟩
  ·rcases yU.1 ht with ht | ht
   ·exact p2 t ht
   ·exact q2 t ht
  ·show _+(yR (acc++r.1):Int)<=r.2.gS;simp only at p3;rw [SR];omega
theorem FR.none {x0 x:aM} {acc:List aA} (h:FR x0 (acc,x)) (e:x.e_ ≠ 0):FR x0 ([],x):=by
 have h1:=h.len;simp only at h1;exact ⟨h.p,h.v,h.s,by show ((([]:List aA).length:Nat):Int)+_<=x.gS;rw [sY];omega,λk=>cM k e⟩
theorem FR.start {x:aM} (hs:Sz x):FR x ([],x):=⟨rfl,.refl x,hs,by show ((([]:List aA).length:Nat):Int)+_<=x.gS;rw [sY];omega,λe=>⟨e,λt ht=>(nomatch ht),by show _+((yR []:Nat):Int)<=x.gS;rw [yR];omega⟩⟩
theorem Yh {fs:aM->aA->List Int->aA->Option (List aA × aM)} {l:List aA} {as:List Int} {b:aA} {p:bM} (hf:∀s ∈ l,∀x,x.e_=0->Sz x->x.p_=p->aW (fs x s as b) (FR x)) (hl:l.length<=100000000) {x0:aM} (hp:x0.p_=p) (h0:0<=x0.gS) :
  ∀(k v:Nat) (acc:List aA) (x:aM),l.length<v+k->v<=l.length->FR x0 (acc,x)->aW (dZ fs l as b k acc (v:Int) x) λy=>aW (y.elim (λa=>some (a.1,a.2)) (λa=>some a)) (FR x0):=by
 intro k
 induction k with
 | zero=>intro v acc x h1 h2;omega
 | succ k ih=>
   intro v acc x h1 h2 ha;unfold dZ
   by_cases hv:v<l.length
   ·have hg:=yN hv;rw [cX (Ah zb),zY hg,iX];refine aW.iteb (λh=>.some (.some ?_)) (λh=>?_)
    ·exact ha.none (by simpa using h)
    ·have h:x.e_=0:=by simpa using h
     refine (hf _ (NY hv) x h ha.s (ha.p.trans hp)).bind λr hr=>?_;have l1:=ha.len;have l2:=hr.len;have l3:=hr.s.hi;have l4:=ha.s.lo;simp only at l1 l4;refine aW.need zb ?_;rw [dB (n:=(v:Int)+1) zb zb,show ((v:Int)+1)=((v+1:Nat):Int) by omega];exact ih (v+1) _ _ zb zb (ha.app hr)
   ·rw [cE (by rw [Da];omega)];exact .some (.some ha)
section
variable {p:bM} {rk:Int->Nat}
set_option maxRecDepth 20000 in
theorem XO (hp:PG p rk):∀n:Nat,
  (∀(m:Nat) (x:aM) (l:List aA) (as:List Int) (b:aA),m*20000+4*wF l+2<n->wF l<=3001->(∀t ∈ l,FS p rk m t)->Sz x->x.p_=p->BkS b->aW (eU n x l as b) (FR x)) ∧
  (∀(m:Nat) (x:aM) (s:aA) (as:List Int) (b:aA),m*20000+4*tz s<n->tz s<=3001->FS p rk m s->x.e_=0->Sz x->x.p_=p->BkS b->aW (gW n x s as b) (FR x)) ∧
  (∀(m:Nat) (x:aM) (s:aA) (as:List Int) (b:aA) (fn:aJ),m*20000<=n->aZ p.bC s.iO=some fn->rk s.iO<m->s.aN.length<=fn.aQ.length->(∀y ∈ s.aN,SA y)->nG s.aN<=3000->x.e_=0->Sz x->x.p_=p->BkS b->aW (lF n x s as b) (FR x)):=by
 intro n
 induction n with
 | zero=>exact ⟨λm x l as b h=>zb,λm x s as b h=>zb,λm x s as b fn h _ h2=>zb⟩
 | succ n ih=>
   obtain ⟨ihB,ihS,ihC⟩:=ih;refine ⟨λm x l as b h hz hl hs hx hb=>?_,λm x s as b h hz hf he hs hx hb=>?_,λm x s as b fn h hi hr hl ho hz he hs hx hb=>?_⟩
   ·show aW (gQ (gW n) n x l as b) _;unfold gQ;have hlen:=JS l
    exact aW.bind (Yh (fs:=gW n) (l:=l) (p:=p) (λs hm y hy hz2 hp2=>by
     have h1:=Ro hm;exact ihS m y s as b (by generalize m*20000=M at h ⊢;omega) zb (hl s hm) hy hz2 hp2 hb) zb hx hs.lo n 0 [] x zb zb (.start hs)) λy hy=>hy
   ·show aW (eT (lF n) (eU n) n x s as b) _;unfold eT;have hx0:=hs.ok he;cases hf with
    | @ret e a ho=>
      rw [tz,nG,nG] at h hz;rw [cE (show ¬ decide (([114,101,116,117,114,110]:cB)=[99,97,108,108])=true by decide)];refine (Ke hs.lo zb).bind λx1 h1=>?_;rw [cX (show decide (([114,101,116,117,114,110]:cB)=[114,101,116,117,114,110])=true by decide)];refine aW.eqn (v:=e) rfl ((QO (n:=n) zb zb).bind λy hy=>?_)
      have key:∀b',BkS b'->aW ((fE x1 y b').bind λx19=>some ([x19.1],x19.2)) (FR x):=λb' hb'=>(Zh hb' (hy.op ho) (by rw [hy.sz];omega)).bind λr hr=>by
       obtain ⟨r1,r2,r3⟩:=hr;have e1:=h1.s;have e2:=r1.s;refine .some ⟨r1.p.trans h1.p,(VR.of h1.f).trans r1.v,r1.sz (h1.sz hs zb),?_,λe0=>⟨he,λt ht=>?_,?_⟩⟩
       ·show ((([r.1]:List aA).length:Nat):Int)+_<=r.2.gS;rw [vO];omega
       ·obtain rfl:=zU.1 ht;exact r2
       ·show _+((yR [r.1]:Nat):Int)<=r.2.gS;rw [yR,yR,r3];omega
      exact aW.iteb (λ_=>key _ ⟨hb.bo,hb.el,hb.op⟩) (λ_=>key _ hb)
    | @call v f xs a fn hi hr hl ho=>
      rw [tz] at h hz;rw [cX (show decide (([99,97,108,108]:cB)=[99,97,108,108])=true by decide)];exact (ihC m x _ as b fn zb hi hr hl ho (by show nG xs<=3000;omega) he hs hx hb).bind λr hr=>.some hr
    | @st o v f l bo el a ho1 ho2 ho hn1 hn2=>
      rw [tz] at h hz;rw [cE (by rw [Da];exact ho1)];refine (Ke hs.lo zb).bind λx1 h1=>?_;rw [cE (by rw [Da];exact ho2)];have hs1:=h1.sz hs zb;refine Rp.bind λv' hv'=>(Vh (n:=n) (by show 2*nG l+1<n;omega) (by show nG l<=100000000;omega)).bind λl' hl'=>?_;refine (ihB m x1 bo as b (by generalize m*20000=M at h ⊢;omega) zb hn1 hs1 (h1.p.trans hx) hb).bind λr1 g1=>(ihB m r1.2 el as b (by generalize m*20000=M at h ⊢;omega) zb hn2 g1.s (g1.p.trans (h1.p.trans hx)) hb).bind λr2 g2=>?_;have e1:=h1.s;have e2:=g1.len;have e3:=g2.len;refine .some ⟨g2.p.trans (g1.p.trans h1.p),(VR.of h1.f).trans (g1.v.trans g2.v),g2.s,?_,λe0=>?_⟩
      ·show (((([_]:List aA)).length:Nat):Int)+_<=r2.2.gS;rw [vO];omega
      ·obtain ⟨q1,q2,q3⟩:=g2.out e0;obtain ⟨p1,p2,p3⟩:=g1.out q1;have z1:=Ok.all q2;have z2:=Ok.all p2;have z3:nG l'=nG l:=hl'.sz;refine ⟨he,λt ht=>?_,?_⟩
       ·obtain rfl:=zU.1 ht;refine ⟨.st ho1 ho2 (λt ht=>(p2 t ht).nc) (λt ht=>(q2 t ht).nc),.mk (hl'.op ho) (λt ht=>(p2 t ht).st) (λt ht=>(q2 t ht).st),?_⟩;show tz ⟨o,v',f,l',r1.1,r2.1,a⟩<=3001*YA ⟨o,v',f,l',r1.1,r2.1,a⟩;rw [tz,YA,z3];omega
       ·show _+((yR [⟨o,v',f,l',r1.1,r2.1,a⟩]:Nat):Int)<=r2.2.gS;rw [yR,YA,yR];omega
   ·show aW (gZ (eU n) n x s as b) _;unfold gZ;have hx0:=hs.ok he;obtain ⟨hv1,hv2,hv3⟩:=hp.vl _ _ hi;have hm:1<=m:=zb
    refine (Ke hs.lo zb).bind λx1 h1=>?_;have hs1:=h1.sz hs zb;have e1:=h1.s;rw [h1.p,hx,hi,iX];have hlen:=Ca s.aN;refine aW.bind (P:=AR x1 s.aN.length s.aN.length) ?_ λy hy=>?_
    ·unfold nK;refine aW.bind (args_l1 (n:=n) (s:=s) (as:=as) (fn:=fn) hl hv1 ho hz zb hs1.lo zb n 0 [] [] x1 zb zb ⟨rfl,.refl x1,hs1,by show x1.gS<=_;omega,rfl,by show ((([]:List aA).length:Nat):Int)+_<=x1.gS;rw [sY];omega,λe=>⟨e,λt ht=>(nomatch ht),by show _+((yR []:Nat):Int)<=x1.gS;rw [yR];omega⟩⟩) λy hy=>.some hy
    ·refine aW.need ⟨hv2,hv3⟩ ?_;have d1:(fn.aQ.drop fn.aT.toNat).length<=250:=by rw [Us];omega
     have d2:=hy.own;refine (Vs hv1 n 0 y.2.1 y.2.2 zb zb zb).bind λz hz2=>?_;have e2:=hy.len;have e3:=hz2.s;have hsz:=hz2.sz hy.s
     have hA:FR x (y.1,z.2):=⟨hz2.p.trans (hy.p.trans h1.p),(VR.of h1.f).trans (hy.v.trans hz2.v),hsz,by show (y.1.length:Int)+_<=z.2.gS;omega,λe0=>by
      obtain ⟨_,q2,q3⟩:=hy.out (hz2.zero e0);exact ⟨he,q2,by show _+(yR y.1:Int)<=z.2.gS;omega⟩⟩
     refine aW.iteb (λh2=>.some (hA.none (by simpa using h2))) (λh2=>?_);have hzp:z.2.p_=p:=hA.p.trans hx;refine (WZ (x:=z.2) (s:=s) (b:=b) (as:=as) (fn:=fn) (by rw [hzp];exact hi) hb).bind λb' hb'=>?_;have hsz3:=hp.sz _ _ hi;refine (ihB (rk s.iO) z.2 fn.bH z.1 b' zb hsz3 (hp.fs _ _ hi) hsz hzp hb').bind λr hr=>?_;have l1:=hA.len;have l2:=hr.len;have l3:=hr.s.hi;have l4:=hsz.lo;have l5:=hs.lo;simp only at l1;exact aW.need zb (.some (hA.app hr))
structure Sj (fn g:aJ):Prop where
 f:g={ fn with aQ:=g.aQ,bH:=g.bH }
 v:g.aQ.length<=4096
 ok:∀t ∈ g.bH,Ok t
 sz:yR g.bH<=16384
theorem zbq (hp:PG p rk) {n:Nat} {i:Int} (hm:∀k,rk k<=64) (hn:1400000<=n):aW (xK n p i) λr=>(r.2=0->∃fn,aZ p.bC i=some fn/\Sj fn r.1)/\(0<=i->i<p.bC.length->r.2=0 ∨ r.2=161):=by
 unfold xK;refine aW.bind (P:=λy=>y=true/\¬ (0<=i/\i<p.bC.length) ∨ y=false/\0<=i/\i<p.bC.length) ?_ λy hy=>?_
 ·refine aW.iteb (λh=>.some (.inl ⟨rfl,?_⟩)) λh=>.some ?_
  ·have h:=xG h;omega
  ·have h:=Lj h
   by_cases h2:(p.bC.length:Int)<=i
   ·exact .inl ⟨Ah h2,zb⟩
   ·exact .inr ⟨SB h2,zb,zb⟩
 refine aW.iteb (λh=>.some ?_) (λh=>?_)
 ·rcases hy with ⟨_,h2⟩ | ⟨h2,_⟩
  ·exact ⟨λe=>cM e zc,λh3 h4=>cM ⟨h3,h4⟩ h2⟩
  ·rw [h2] at h;cases h
 ·rcases hy with ⟨h2,_⟩ | ⟨_,h0,h1⟩
  ·rw [h2] at h;cases h
  obtain ⟨fn,hfn⟩:∃fn,aZ p.bC i=some fn:=by
   obtain ⟨r,e,_⟩:=aW.idx (l:=p.bC) h0 h1 (Q:=λ_=>True) λ_ _=>trivial;exact ⟨r,e⟩
  obtain ⟨hv1,_,_⟩:=hp.vl _ _ hfn;have h64:=hm i;have hsz:=hp.sz _ _ hfn;rw [hfn,iX];refine aW.need zb ?_;refine ((XO hp n).1 (rk i) ⟨p,fn,0,0⟩ fn.bH [] back0 zb hsz (hp.fs _ _ hfn) ⟨Uj _,(by decide:(0:Int)<=30000),λ_=>(by decide:(0:Int)<=16384),.inl rfl⟩ rfl ⟨rfl,rfl,.inl ⟨rfl,rfl⟩⟩).bind λr hr=>?_;refine aW.iteb (λh=>.some ⟨λe=>cM e (by simpa using h),λ_ _=>hr.s.e⟩) (λh=>.some ⟨λ_=>⟨fn,rfl,?_⟩,λ_ _=>.inl rfl⟩);have h:r.2.e_=0:=by simpa using h
  obtain ⟨_,q2,q3⟩:=hr.out h;have q4:=hr.s.ok h;have hvf:=hr.v.f;refine ⟨?_,hr.v.l (by show fn.aQ.length<=4096;omega),q2,by show yR r.1<=16384;simp only at q3;omega⟩;show ({ r.2.f_ with bH:=r.1 }:aJ)=_;rw [hvf]
end
end Go.Proofs.YtknbgnpeiohifaaGreatDoor.Abs
namespace Go.Proofs.YtknbgnpeiohifaaGreatDoor.Abs
open Go.RowKit
set_option linter.all false
section
variable {c:aE} {rk:Int->Nat}
theorem TB.fs (hp:PO c rk) {j:Nat} {vs:List aK} {res:Int} {l:Bool} {n n':Nat} {sc sc':List Int} {ss:List aA} (h:TB (HM c j) vs res l n sc ss n' sc'):∀s ∈ ss,FS c.p_ rk (rk j) s:=by
 have key:∀ {sc:List Int} {v f r:Int} {ps:List aK} {xs:List aB} {a:Int},HM c j f r ps->Dr vs sc ps xs->FS c.p_ rk (rk j) ⟨[99,97,108,108],v,f,xs,[],[],a⟩:=by
  intro sc v f r ps xs a h1 h2;obtain ⟨⟨l,k1,k2⟩,fn,k3,_,k5⟩:=h1;refine .call k3 (hp.rk _ l (zY k1) f k2) ?_ (λx hx=>by obtain ⟨p,_,h⟩:=h2.each hx;exact h.opB);rw [h2.1,k5,NL];omega
 induction h with
 | nil=>exact oD
 | let_ h1 _ _ _ _ ih=>exact Bh (.st zc zc (yM h1.opB) oD oD) ih
 | var_ h1 _ _ _ ih=>exact Bh (.st zc zc (yM h1.opB) oD oD) ih
 | arr _ _ _ ih=>exact Bh (.st zc zc oD oD oD) ih
 | callv h1 h2 _ _ _ _ ih=>exact Bh (key h1 h2) ih
 | set _ _ _ h4 _ _ ih=>exact Bh (.st zc zc (yM h4.opB) oD oD) ih
 | calls _ _ _ h4 h5 _ _ ih=>exact Bh (key h4 h5) ih
 | put _ _ _ h4 _ _ h7 _ _ ih=>exact Bh (.st zc zc (BZ h4.opB h7.opB) oD oD) ih
 | do_ h1 h2 _ ih=>exact Bh (key h1 h2) ih
 | Ln h1 _ _ _ _ ih1 ih2 ih3=>exact Bh (.st zc zc (yM h1.opB) ih1 ih2) ih3
 | Ba h1 _ h3 _ _ _ _ _ ih1 ih2=>exact Bh (.st zc zc (BZ h1.opB h3.opB) ih1 oD) ih2
 | ret h1 _ _=>exact yM (.ret h1.opB)
 | retc h1 _ h3=>exact yM (key h1 h3)
theorem PO.pg (hp:PO c rk):PG c.p_ rk:=by
 have hm:∀ {k:Int} {fn:aJ},aZ c.p_.bC k=some fn->∃j:Nat,k=j/\c.p_.bC[j]? = some fn:=by
  intro k fn h
  obtain ⟨r,e⟩:∃r:Nat,k=r:=by
   unfold aZ at h
   split at h
   ·exact ⟨k.toNat,zb⟩
   ·cases h
  subst e;refine ⟨r,rfl,?_⟩;unfold aZ at h;rw [cX zb] at h;simpa using h
 refine ⟨λk fn h=>?_,λk fn h=>?_,λk fn h=>?_⟩
 ·obtain ⟨j,rfl,hj⟩:=hm h;obtain ⟨sc',ht⟩:=(hp.tf j fn hj).body;exact ht.fs hp
 ·obtain ⟨j,rfl,hj⟩:=hm h;exact hp.sz _ (GB hj)
 ·obtain ⟨j,rfl,hj⟩:=hm h;exact hp.co.vl _ (GB hj)
end
theorem Sj.tz {fn g:aJ} (h:Sj fn g):wF g.bH<=50000000:=by
 have h1:=Ok.all h.ok;have h2:=h.sz;omega
def mp (as:List Int) (v:Int):Int:=if v<0 ∨ (as.length:Int)<=v then v else (as[v.toNat]?).getD v
mutual
def fx (as:List Int):aB->aB
 | ⟨o,t,n,v,l,a⟩=>⟨o,t,n,mp as v,PB as l,a⟩
def PB (as:List Int):List aB->List aB
 | []=>[]
 | x::l=>fx as x::PB as l
end
theorem JD (as:List Int) (x:aB):fx as x=⟨x.dJ,x.bR,x.N_,mp as x.fB,PB as x.aN,x.gI⟩:=by cases x;rw [fx]
theorem VK (v:Int) (as:List Int):Bb v as=some (mp as v):=by
 unfold Bb mp
 by_cases h0:v<0
 ·rw [cX (Ah h0),iX,cX rfl,cX (.inl h0)]
 ·rw [cE (by simpa using h0),iX]
  by_cases h1:(as.length:Int)<=v
  ·rw [cX (Ah h1),cX (.inr h1)]
  ·rw [cE (by simpa using h1),cE zb];have hl:v.toNat<as.length:=zb
   unfold aZ;rw [cX zb,yN hl];rfl
theorem fxL_l1 {f:aB->List Int->Option aB} {l:List aB} {as:List Int} (hf:∀x ∈ l,∀y,f x as=some y->y=fx as x) (hl:l.length<=1000000000) :
  ∀(k v:Nat) (acc r:List aB),v<=l.length->xJ f l as k acc (v:Int)=some r->r=acc++PB as (l.drop v):=by
 intro k
 induction k with
 | zero=>intro v acc r _ h;exact nomatch h
 | succ k ih=>
   intro v acc r hv h;unfold xJ at h
   by_cases hv1:v<l.length
   ·have hd:l.drop v=l[v]::l.drop (v+1):=Sq hv1;have e:aZ l (v:Int)=some l[v]:=by unfold aZ;rw [cX zb,GD,yN hv1]
    rw [cX (Ah zb),e,iX] at h;obtain ⟨y,hy,h⟩:=aH h;obtain ⟨_,h⟩:=cQ h;rw [dB (n:=(v:Int)+1) zb zb,show ((v:Int)+1)=((v+1:Nat):Int) by omega] at h;rw [ih (v+1) _ r zb h,hd,PB,hf _ (NY hv1) _ hy];simp
   ·rw [cE (by rw [Da];omega)] at h;rw [←bS h,WR zb,PB,Fu]
theorem zaA:∀n:Nat,(∀(x y:aB) (as:List Int),xz x<=1000000000->uB n x as=some y->y=fx as x)/\(∀(l r:List aB) (as:List Int),nG l<=1000000000->wS n l as=some r->r=PB as l):=by
 intro n
 induction n with
 | zero=>exact ⟨λx y as _ h=>(nomatch h),λl r as _ h=>(nomatch h)⟩
 | succ n ih=>
   refine ⟨λx y as hz h=>?_,λl r as hz h=>?_⟩
   ·have h:yC (wS n) n x as=some y:=h;unfold yC at h;rw [VK,iX] at h;obtain ⟨z,hz1,h⟩:=aH h;have:=Dg x;rw [←bS h,JD,ih.2 _ _ _ zb hz1]
   ·have h:wR (uB n) n l as=some r:=h;unfold wR at h;obtain ⟨z,hz1,h⟩:=aH h;have hl:=Ca l;have:=fxL_l1 (λx hx y hy=>ih.1 x y as (No (yI hx) hz) hy) zb n 0 [] z (Ko _) hz1;rw [←bS h,this];rfl
theorem zaz {n:Nat} {x y:aB} {as:List Int} (hz:xz x<=1000000000) (h:uB n x as=some y):y=fx as x:=(zaA n).1 x y as hz h
theorem fxL_of {n:Nat} {l r:List aB} {as:List Int} (hz:nG l<=1000000000) (h:wS n l as=some r):r=PB as l:=(zaA n).2 l r as hz h
inductive Sk (as:List Int) (fW:Int) (ps:List aK):List aK->List aB->Nat->List aA->List Int->List aK->Prop
 | nil {vs i}:Sk as fW ps vs [] i [] [] vs
 | arr {vs y l i o own vs'}:y.bR=4->Sk as fW ps vs l (i+1) o own vs'->Sk as fW ps vs (y::l) i o (mp as y.fB::own) vs'
 | val {vs y l i u o own vs'}:y.bR ≠ 4->ps[i]? = some u->Sk as fW ps (vs++[u]) l (i+1) o own vs'->Sk as fW ps vs (y::l) i (⟨if u.bJ=1 then [108,101,116] else [118,97,114],vs.length,0,[fx as y],[],[],fW⟩::o) ((vs.length:Int)::own) vs'
def Gq (k n:Nat):List Int:=(List.range n).map λi=>((k+i:Nat):Int)
def SN (f:aJ) (s:aA) (as:List Int) (b:aA):aA:=
 if s.fB=-2 then (if b.gI<0 then { b with gI:=s.gI } else b)
 else if s.fB=-1 then ⟨[118,97,114],-1,f.bO,[],[],[],s.gI⟩ else ⟨[115,101,116],mp as s.fB,0,[],[],[],s.gI⟩
def IR (b:aA) (a:Int):aA:=if b.gI<0 then { b with gI:=a } else b
inductive MO (p:bM):List aK->List aA->List Int->aA->List aA->List aK->Prop
 | nil {vs as b}:MO p vs [] as b [] vs
 | call {vs s l as b f o1 own v1 o2 v2 o3 v3}:s.dJ=[99,97,108,108]->aZ p.bC s.iO=some f->Sk as s.gI f.aQ vs s.aN 0 o1 own v1->0<=f.aT->f.aT<=f.aQ.length ->
    MO p (v1++f.aQ.drop f.aT.toNat) f.bH (own++Gq v1.length (f.aQ.drop f.aT.toNat).length) (SN f s as b) o2 v2->MO p v2 l as b o3 v3->MO p vs (s::l) as b ((o1++o2)++o3) v3
 | ret {vs s l as b y r o v}:s.dJ=[114,101,116,117,114,110]->s.aN=y::r->b.dJ ≠ [118,97,114]->MO p vs l as b o v->MO p vs (s::l) as b ([{ IR b s.gI with iO:=0,aN:=[fx as y] }]++o) v
 | retv {vs s l as b y r o v}:s.dJ=[114,101,116,117,114,110]->s.aN=y::r->b.dJ=[118,97,114]->MO p (vs++[⟨[],b.iO,0⟩]) l as b o v->MO p vs (s::l) as b ([{ IR b s.gI with fB:=vs.length,iO:=0,aN:=[fx as y] }]++o) v
 | other {vs s l as b o1 v1 o2 v2 o3 v3}:s.dJ ≠ [99,97,108,108]->s.dJ ≠ [114,101,116,117,114,110]->MO p vs s.bH as b o1 v1->MO p v1 s.eG as b o2 v2->MO p v2 l as b o3 v3 ->
    MO p vs (s::l) as b ([{ s with fB:=mp as s.fB,aN:=PB as s.aN,bH:=o1,eG:=o2 }]++o3) v3
structure Gt (x r:aM) (vs:List aK):Prop where
 e:x.e_=0
 p:r.p_=x.p_
 f:r.f_={ x.f_ with aQ:=vs }
theorem Gt.vs {x r:aM} {vs:List aK} (h:Gt x r vs):r.f_.aQ=vs:=by rw [h.f]
theorem Gt.trans {x y z:aM} {vs vs':List aK} (h:Gt x y vs) (k:Gt y z vs'):Gt x z vs':=⟨h.e,k.p.trans h.p,by rw [k.f,h.f]⟩
theorem Gt.refl {x:aM} (h:x.e_=0):Gt x x x.f_.aQ:=⟨h,rfl,rfl⟩
theorem Kf {x r:aM} (h:eJ x=some r) (he:r.e_=0):Gt x r x.f_.aQ:=by
 unfold eJ at h
 split at h
 ·have:=bS h;rw [←this] at he;cases he
 ·have:=bS h;subst this;exact ⟨he,rfl,rfl⟩
theorem NS {x:aM} {v:aK} {r:Int × aM} (h:eI x v=some r) (he:r.2.e_=0):r.1=(x.f_.aQ.length:Int)/\Gt x r.2 (x.f_.aQ++[v]):=by
 unfold eI at h
 by_cases hc:(4096:Int)<=x.f_.aQ.length
 ·rw [cX (Ah hc)] at h;have:=bS h;rw [←this] at he;cases he
 ·rw [cE (by simpa using hc)] at h;obtain ⟨_,h⟩:=cQ h;have:=bS h;subst this;refine ⟨?_,he,rfl,rfl⟩;simp only [oY,qB,sY];rw [dB zb zb];omega
theorem args_s {n:Nat} {s:aA} {as:List Int} {f:aJ} (hz:nG s.aN<=1000000000):∀(k v:Nat) (acc:List aA) (own:List Int) (x:aM) (r:List aA × List Int × aM),v<=s.aN.length ->
  fH n s as f k acc own (v:Int) x=some r->r.2.2.e_=0->∃o own' vs',r.1=acc++o/\r.2.1=own++own'/\Sk as s.gI f.aQ x.f_.aQ (s.aN.drop v) v o own' vs'/\Gt x r.2.2 vs':=by
 have hl:=Ca s.aN;intro k
 induction k with
 | zero=>intro v acc own x r _ h;exact nomatch h
 | succ k ih=>
   intro v acc own x r hv h he;unfold fH at h
   by_cases hv1:v<s.aN.length
   ·have hd:s.aN.drop v=s.aN[v]::s.aN.drop (v+1):=Sq hv1;have e:aZ s.aN (v:Int)=some s.aN[v]:=by unfold aZ;rw [cX zb,GD,yN hv1]
    have hn:IntKind.i64.wrap ((v:Int)+1)=((v+1:Nat):Int):=(dB zb zb).trans zb;have hxz:xz s.aN[v]<=1000000000:=No (yI (NY hv1)) hz;rw [cX (Ah zb),e,iX] at h;obtain ⟨y,hy,h⟩:=aH h;rw [hn] at h;obtain ⟨o,own',vs',h1,h2,h3,h4⟩:=ih (v+1) _ _ _ r zb h he
    by_cases h4t:s.aN[v].bR=4
    ·rw [cX (by simpa using h4t),VK,iX] at hy;obtain ⟨_,hy⟩:=cQ hy;obtain rfl:=bS hy;refine ⟨o,mp as s.aN[v].fB::own',vs',h1,by rw [h2];simp,?_,h4⟩;rw [hd];exact .arr h4t h3
    ·rw [cE (by simpa using h4t)] at hy;obtain ⟨u,hu,hy⟩:=aH hy
     have hu':f.aQ[v]? = some u:=by
      unfold aZ at hu;rw [cX zb,GD] at hu;exact hu
     by_cases hk:u.bJ=1
     ·rw [cX (by simpa using hk)] at hy;obtain ⟨x1,hc,hy⟩:=aH hy;obtain ⟨x2,hf,hy⟩:=aH hy;obtain ⟨_,hy⟩:=cQ hy;obtain ⟨x3,hx,hy⟩:=aH hy;obtain ⟨_,hy⟩:=cQ hy;obtain rfl:=bS hy;have g4:Gt x2.2 r.2.2 vs':=h4;obtain ⟨f1,f2⟩:=NS hf g4.e;have c1:=Kf hc f2.e;rw [c1.vs] at f1 f2;refine ⟨_,_,vs',h1.trans (Mi _ _ _),h2.trans (Mi _ _ _),?_,(c1.trans f2).trans g4⟩;rw [hd,zaz hxz hx,f1];have:=Sk.val (as:=as) (fW:=s.gI) (l:=s.aN.drop (v+1)) (o:=o) (own:=own') (vs':=vs') h4t hu' (by rw [←f2.vs];exact h3);rw [cX hk] at this;exact this
     ·rw [cE (by simpa using hk)] at hy;obtain ⟨x1,hc,hy⟩:=aH hy;obtain ⟨x2,hf,hy⟩:=aH hy;obtain ⟨_,hy⟩:=cQ hy;obtain ⟨x3,hx,hy⟩:=aH hy;obtain ⟨_,hy⟩:=cQ hy;obtain rfl:=bS hy;have g4:Gt x2.2 r.2.2 vs':=h4;obtain ⟨f1,f2⟩:=NS hf g4.e;have c1:=Kf hc f2.e;rw [c1.vs] at f1 f2;refine ⟨_,_,vs',h1.trans (Mi _ _ _),h2.trans (Mi _ _ _),?_,(c1.trans f2).trans g4⟩;rw [hd,zaz hxz hx,f1];have:=Sk.val (as:=as) (fW:=s.gI) (l:=s.aN.drop (v+1)) (o:=o) (own:=own') (vs':=vs') h4t hu' (by rw [←f2.vs];exact h3);rw [cE hk] at this;exact this
   ·rw [cE (by rw [Da];omega)] at h;obtain rfl:=bS h;exact ⟨[],[],x.f_.aQ,zd,zd,by rw [WR zb];exact .nil,.refl he⟩
theorem Xy (k n:Nat):Gq k (n+1)=(k:Int)::Gq (k+1) n:=by
 unfold Gq;rw [List.range_succ_eq_map,yV,List.map_map]
 congr 1
 refine xdj λi _=>?_;simp only [Function.comp];omega
theorem call_s {f:aJ} (hl:(f.aQ.drop f.aT.toNat).length<=1000000000):∀(k v:Nat) (own:List Int) (x:aM) (r:List Int × aM),v<=(f.aQ.drop f.aT.toNat).length ->
  fG f k own (v:Int) x=some r->r.2.e_=0->r.1=own++Gq x.f_.aQ.length ((f.aQ.drop f.aT.toNat).drop v).length/\Gt x r.2 (x.f_.aQ++(f.aQ.drop f.aT.toNat).drop v):=by
 intro k
 induction k with
 | zero=>intro v own x r _ h;exact nomatch h
 | succ k ih=>
   intro v own x r hv h he;unfold fG at h
   by_cases hv1:v<(f.aQ.drop f.aT.toNat).length
   ·have hd:(f.aQ.drop f.aT.toNat).drop v=(f.aQ.drop f.aT.toNat)[v]::(f.aQ.drop f.aT.toNat).drop (v+1):=Sq hv1;have e:aZ (f.aQ.drop f.aT.toNat) (v:Int)=some (f.aQ.drop f.aT.toNat)[v]:=by unfold aZ;rw [cX zb,GD,yN hv1]
    have hn:IntKind.i64.wrap ((v:Int)+1)=((v+1:Nat):Int):=(dB zb zb).trans zb;rw [cX (Ah zb),e,iX] at h;obtain ⟨y,hy,h⟩:=aH h;obtain ⟨_,h⟩:=cQ h;rw [hn] at h;obtain ⟨h1,h2⟩:=ih (v+1) _ _ r zb h he;obtain ⟨f1,f2⟩:=NS hy h2.e;rw [f2.vs] at h1 h2;rw [hd];refine ⟨?_,?_⟩
    ·rw [h1,f1,qB,Xy,oY,vO,Mi];rfl
    ·have:=f2.trans h2
     rwa [Mi] at this
   ·rw [cE (by rw [Da];omega)] at h;obtain rfl:=bS h;rw [WR zb];exact ⟨by simp [Gq],by rw [Fu];exact .refl he⟩
theorem taken_s {x:aM} {s b r:aA} {as:List Int} {f:aJ} (h:kJ x s as b=some r) (hf:aZ x.p_.bC s.iO=some f):r=SN f s as b:=by
 unfold kJ at h;rw [hf,iX] at h;unfold SN
 by_cases h2:s.fB=-2
 ·rw [cX (by simpa using h2)] at h;rw [cX h2]
  by_cases ha:b.gI<0
  ·rw [cX (Ah ha)] at h;rw [cX ha,←bS h]
  ·rw [cE (by simpa using ha)] at h;rw [cE ha,←bS h]
 ·rw [cE (by simpa using h2)] at h;rw [cE h2]
  by_cases h1:s.fB=-1
  ·rw [cX (by simpa using h1)] at h;rw [cX h1,←bS h]
  ·rw [cE (by simpa using h1),VK,iX] at h;rw [cE h1,←bS h]
section
variable {p:bM}
theorem Kg {x r:aM} (h:eJ x=some r):r.p_=x.p_:=by
 unfold eJ at h
 split at h <;> (rw [←bS h])
theorem RQ {x:aM} {v:aK} {r:Int × aM} (h:eI x v=some r):r.2.p_=x.p_:=by
 unfold eI at h
 split at h
 ·rw [←bS h]
 ·obtain ⟨_,h⟩:=cQ h;rw [←bS h]
theorem tell_p {x:aM} {y:aB} {b:aA} {r:aA × aM} (h:fE x y b=some r):r.2.p_=x.p_:=by
 unfold fE at h
 split at h
 ·obtain ⟨z,hz,h⟩:=aH h;rw [←bS h];exact RQ hz
 ·rw [←bS h]
theorem za5 {n:Nat} {s:aA} {as:List Int} {f:aJ}:∀(k:Nat) (v:Int) (acc:List aA) (own:List Int) (x:aM) (r:List aA × List Int × aM),fH n s as f k acc own v x=some r->r.2.2.p_=x.p_:=by
 intro k
 induction k with
 | zero=>intro v acc own x r h;exact nomatch h
 | succ k ih=>
   intro v acc own x r h;unfold fH at h
   split at h
   ·obtain ⟨y,hy,h⟩:=aH h;refine (ih _ _ _ _ _ h).trans ?_;obtain ⟨e,_,hy⟩:=aH hy
    split at hy
    ·obtain ⟨_,_,hy⟩:=aH hy;obtain ⟨_,hy⟩:=cQ hy;rw [←bS hy]
    ·obtain ⟨_,_,hy⟩:=aH hy
     split at hy
     all_goals
      obtain ⟨x1,h1,hy⟩:=aH hy;obtain ⟨x2,h2,hy⟩:=aH hy;obtain ⟨_,hy⟩:=cQ hy;obtain ⟨_,_,hy⟩:=aH hy;obtain ⟨_,hy⟩:=cQ hy;rw [←bS hy];exact (RQ h2).trans (Kg h1)
   ·rw [←bS h]
theorem zaT {f:aJ}:∀(k:Nat) (v:Int) (own:List Int) (x:aM) (r:List Int × aM),fG f k own v x=some r->r.2.p_=x.p_:=by
 intro k
 induction k with
 | zero=>intro v own x r h;exact nomatch h
 | succ k ih=>
   intro v own x r h;unfold fG at h
   split at h
   ·obtain ⟨_,_,h⟩:=aH h;obtain ⟨y,hy,h⟩:=aH h;obtain ⟨_,h⟩:=cQ h;exact (ih _ _ _ _ h).trans (RQ hy)
   ·rw [←bS h]
theorem block_p {rec_:aM->aA->List Int->aA->Option (List aA × aM)} {l:List aA} {as:List Int} {b:aA} (hr:∀x s out x',rec_ x s as b=some (out,x')->x'.p_=x.p_):∀(k:Nat) (v:Int) (acc:List aA) (x:aM) (r:(List aA × aM) ⊕ (List aA × aM)),
  dZ rec_ l as b k acc v x=some r->(r.elim (λz=>z.2.p_) λz=>z.2.p_)=x.p_:=by
 intro k
 induction k with
 | zero=>intro v acc x r h;exact nomatch h
 | succ k ih=>
   intro v acc x r h;unfold dZ at h
   split at h
   ·obtain ⟨s,_,h⟩:=aH h
    split at h
    ·rw [←bS h];rfl
    ·obtain ⟨y,hy,h⟩:=aH h;obtain ⟨_,h⟩:=cQ h;exact (ih _ _ _ _ h).trans (hr _ _ y.1 y.2 hy)
   ·rw [←bS h];rfl
theorem flP_all:∀n:Nat,
  (∀x l as b out x',eU n x l as b=some (out,x')->x'.p_=x.p_) ∧
  (∀x s as b out x',gW n x s as b=some (out,x')->x'.p_=x.p_) ∧
  (∀x s as b out x',lF n x s as b=some (out,x')->x'.p_=x.p_):=by
 intro n
 induction n with
 | zero=>exact ⟨λ_ _ _ _ _ _ h=>(nomatch h),λ_ _ _ _ _ _ h=>(nomatch h),λ_ _ _ _ _ _ h=>(nomatch h)⟩
 | succ n ih=>
   obtain ⟨ihb,ihs,ihc⟩:=ih;refine ⟨λx l as b out x' h=>?_,λx s as b out x' h=>?_,λx s as b out x' h=>?_⟩
   ·have h:gQ (gW n) n x l as b=some (out,x'):=h;unfold gQ at h;obtain ⟨y,hy,h⟩:=aH h;have k1:=block_p (λx s out x' h'=>ihs x s as b out x' h') n 0 [] x y hy;cases y with
    | inl z=>obtain ⟨rfl,rfl⟩:=Prod.mk.inj (bS h);exact k1
    | inr z=>obtain rfl:=bS h;exact k1
   ·have h:eT (lF n) (eU n) n x s as b=some (out,x'):=h;unfold eT at h
    split at h
    ·obtain ⟨z,hz1,h⟩:=aH h;obtain ⟨rfl,rfl⟩:=Prod.mk.inj (bS h);exact ihc x s as b z.1 z.2 hz1
    ·obtain ⟨x1,hx1,h⟩:=aH h
     split at h
     ·obtain ⟨y,hy,h⟩:=aH h;obtain ⟨y2,hy2,h⟩:=aH h
      split at h
      all_goals
       obtain ⟨z,hz1,h⟩:=aH h;obtain ⟨rfl,rfl⟩:=Prod.mk.inj (bS h);exact (tell_p hz1).trans (Kg hx1)
     ·obtain ⟨_,_,h⟩:=aH h;obtain ⟨es,hes,h⟩:=aH h;obtain ⟨z1,hz1,h⟩:=aH h;obtain ⟨z2,hz2,h⟩:=aH h;obtain ⟨rfl,rfl⟩:=Prod.mk.inj (bS h);exact (ihb _ _ _ _ z2.1 z2.2 hz2).trans ((ihb _ _ _ _ z1.1 z1.2 hz1).trans (Kg hx1))
   ·have h:gZ (eU n) n x s as b=some (out,x'):=h;unfold gZ at h;obtain ⟨x1,hx1,h⟩:=aH h;obtain ⟨f,hf,h⟩:=aH h;obtain ⟨z,hz,h⟩:=aH h;obtain ⟨_,h⟩:=cQ h;obtain ⟨y,hy,h⟩:=aH h
    have hz2:z.2.2.p_=x1.p_:=by
     unfold nK at hz;obtain ⟨w,hw,hz⟩:=aH hz;rw [←bS hz];exact za5 n 0 [] [] x1 w hw
    have hy2:=(zaT n 0 _ _ y hy).trans (hz2.trans (Kg hx1))
    split at h
    ·obtain ⟨rfl,rfl⟩:=Prod.mk.inj (bS h);exact hy2
    ·obtain ⟨t,ht,h⟩:=aH h;obtain ⟨u,hu,h⟩:=aH h;obtain ⟨_,h⟩:=cQ h;obtain ⟨rfl,rfl⟩:=Prod.mk.inj (bS h);exact (ihb _ _ _ _ u.1 u.2 hu).trans hy2
def StF (p:bM) (s:aA) (as:List Int) (b:aA) (x:aM) (out:List aA) (x':aM):Prop:=
 (∀l o vs2,MO p x'.f_.aQ l as b o vs2->MO p x.f_.aQ (s::l) as b (out++o) vs2)/\Gt x x' x'.f_.aQ
theorem Yg {rec_:aM->aA->List Int->aA->Option (List aA × aM)} {l:List aA} {as:List Int} {b:aA} {C:(List aA × aM)->Prop} {k:Nat} {v:Int} {acc:List aA} {x:aM} {r:(List aA × aM) ⊕ (List aA × aM)} (he:x.e_ ≠ 0)
  (h:dZ rec_ l as b k acc v x=some r):(∀z,r=.inr z->z.2.e_ ≠ 0)/\∀z,r=.inl z->z.2.e_=0->C z:=by
 cases k with
 | zero=>exact nomatch h
 | succ k=>
   unfold dZ at h
   split at h
   ·obtain ⟨y,hy,h⟩:=aH h;rw [cX (by simpa using he)] at h;obtain rfl:=bS h;refine ⟨λz hz=>?_,λz hz=>(nomatch hz)⟩;cases hz;exact he
   ·obtain rfl:=bS h;refine ⟨λz hz=>(nomatch hz),λz hz hze=>?_⟩;cases hz;exact cM hze he
theorem block_s {rec_:aM->aA->List Int->aA->Option (List aA × aM)} {l:List aA} {as:List Int} {b:aA} (hl:l.length<=1000000000)
  (hr:∀s ∈ l,∀x out x',x.p_=p->rec_ x s as b=some (out,x')->x'.e_=0->StF p s as b x out x'):∀(k v:Nat) (acc:List aA) (x:aM) (r:(List aA × aM) ⊕ (List aA × aM)),v<=l.length->x.p_=p ->
  dZ rec_ l as b k acc (v:Int) x=some r->(∀z,r=.inr z->z.2.e_ ≠ 0)/\∀z,r=.inl z->z.2.e_=0->∃o,z.1=acc++o/\MO p x.f_.aQ (l.drop v) as b o z.2.f_.aQ/\Gt x z.2 z.2.f_.aQ:=by
 intro k
 induction k with
 | zero=>intro v acc x r _ _ h;exact nomatch h
 | succ k ih=>
   intro v acc x r hv hp h;unfold dZ at h
   by_cases hv1:v<l.length
   ·have hd:l.drop v=l[v]::l.drop (v+1):=Sq hv1;have e:aZ l (v:Int)=some l[v]:=by unfold aZ;rw [cX zb,GD,yN hv1]
    have hn:IntKind.i64.wrap ((v:Int)+1)=((v+1:Nat):Int):=(dB zb zb).trans zb;rw [cX (Ah zb),e,iX] at h
    by_cases he:x.e_=0
    ·rw [cE (by simp [he])] at h;obtain ⟨y,hy,h⟩:=aH h;obtain ⟨_,h⟩:=cQ h;rw [hn] at h;have hy':rec_ x l[v] as b=some (y.1,y.2):=hy
     by_cases hye:y.2.e_=0
     ·obtain ⟨s1,s2⟩:=hr _ (NY hv1) x y.1 y.2 hp hy' hye;obtain ⟨i1,i2⟩:=ih (v+1) _ _ r zb (s2.p.trans hp) h;refine ⟨i1,λz hz hze=>?_⟩;obtain ⟨o,o1,o2,o3⟩:=i2 z hz hze;exact ⟨y.1++o,by rw [o1,Mi],by rw [hd];exact s1 _ _ _ o2,s2.trans o3⟩
     ·exact Yg hye h
    ·rw [cX (by simpa using he)] at h;obtain rfl:=bS h;refine ⟨λz hz=>?_,λz hz=>(nomatch hz)⟩;cases hz;exact he
   ·rw [cE (by rw [Da];omega)] at h;obtain rfl:=bS h;refine ⟨λz hz=>(nomatch hz),λz hz hze=>?_⟩;cases hz;exact ⟨[],zd,by rw [WR zb];exact .nil,.refl hze⟩
theorem bat_op {b:aA} {a:Int}:(IR b a).dJ=b.dJ/\(IR b a).iO=b.iO:=by unfold IR;split <;> exact ⟨rfl,rfl⟩
theorem tell_s {x:aM} {y:aB} {b:aA} {r:aA × aM} (h:fE x y b=some r) (he:r.2.e_=0) :
  (b.dJ ≠ [118,97,114]/\r.1={ b with iO:=0,aN:=[y] }/\Gt x r.2 x.f_.aQ) ∨ (b.dJ=[118,97,114]/\r.1={ b with fB:=x.f_.aQ.length,iO:=0,aN:=[y] }/\Gt x r.2 (x.f_.aQ++[⟨[],b.iO,0⟩])):=by
 unfold fE at h
 by_cases hv:b.dJ=[118,97,114]
 ·rw [cX (Ah hv)] at h;obtain ⟨z,hz,h⟩:=aH h;obtain rfl:=bS h;obtain ⟨f1,f2⟩:=NS hz he;exact .inr ⟨hv,by rw [f1],f2⟩
 ·rw [cE (by simpa using hv)] at h;obtain rfl:=bS h;exact .inl ⟨hv,rfl,he,rfl,rfl⟩
theorem flB_all (hB:∀f ∈ p.bC,wF f.bH<=1000000000/\f.aQ.length<=1000000000):∀n:Nat,
  (∀x l as b out x',x.p_=p->wF l<=1000000000->eU n x l as b=some (out,x')->x'.e_=0->MO p x.f_.aQ l as b out x'.f_.aQ/\Gt x x' x'.f_.aQ) ∧
  (∀x s as b out x',x.p_=p->tz s<=1000000000->gW n x s as b=some (out,x')->x'.e_=0->StF p s as b x out x') ∧
  (∀x s as b out x',s.dJ=[99,97,108,108]->x.p_=p->tz s<=1000000000->lF n x s as b=some (out,x')->x'.e_=0->StF p s as b x out x'):=by
 intro n
 induction n with
 | zero=>exact ⟨λ_ _ _ _ _ _ _ _ h=>(nomatch h),λ_ _ _ _ _ _ _ _ h=>(nomatch h),λ_ _ _ _ _ _ _ _ _ h=>(nomatch h)⟩
 | succ n ih=>
   obtain ⟨ihb,ihs,ihc⟩:=ih;refine ⟨λx l as b out x' hp hz h he=>?_,λx s as b out x' hp hz h he=>?_,λx s as b out x' ho hp hz h he=>?_⟩
   ·have h:gQ (gW n) n x l as b=some (out,x'):=h;unfold gQ at h;obtain ⟨y,hy,h⟩:=aH h;have hlen:=JS l;obtain ⟨k1,k2⟩:=block_s (p:=p) zb (λs hs x out x' hp' h' he'=>ihs x s as b out x' hp' (No (Ro hs) hz) h' he') n 0 [] x y (Ko _) hp hy;cases y with
    | inl z=>
      obtain ⟨rfl,rfl⟩:=Prod.mk.inj (bS h);obtain ⟨o,o1,o2,o3⟩:=k2 z rfl he;rw [o1];exact ⟨o2,o3⟩
    | inr z=>
      obtain rfl:=bS h;exact cM he (k1 _ rfl)
   ·have h:eT (lF n) (eU n) n x s as b=some (out,x'):=h;unfold eT at h
    by_cases hc:s.dJ=[99,97,108,108]
    ·rw [cX (Ah hc)] at h;obtain ⟨z,hz1,h⟩:=aH h;have h2:=bS h;exact ihc x s as b out x' hc hp hz (by rw [hz1,←h2]) he
    rw [cE (by simpa using hc)] at h;obtain ⟨x1,hx1,h⟩:=aH h;have hze:=Bz s
    by_cases hr:s.dJ=[114,101,116,117,114,110]
    ·rw [cX (Ah hr)] at h;obtain ⟨y,hy,h⟩:=aH h;obtain ⟨y2,hy2,h⟩:=aH h
     obtain ⟨rs,hrs⟩:∃rs,s.aN=y::rs:=by
      cases hsl:s.aN with
      | nil=>rw [hsl] at hy;exact nomatch hy
      | cons y' rs=>rw [hsl] at hy;exact ⟨rs,by rw [show y'=y from bS hy]⟩
     have hyz:xz y<=1000000000:=by have:=yI (l:=s.aN) (x:=y) (by rw [hrs];exact PH);omega
     have h:(fE x1 y2 (IR b s.gI)).bind (λz=>some ([z.1],z.2))=some (out,x'):=by
      unfold IR
      by_cases ha:b.gI<0
      ·rw [cX ha];rw [cX (Ah ha)] at h;exact h
      ·rw [cE ha];rw [cE (by simpa using ha)] at h;exact h
     obtain ⟨z,hz1,h⟩:=aH h;obtain ⟨rfl,rfl⟩:=Prod.mk.inj (bS h);have hyx:=zaz hyz hy2;obtain ⟨b1,b2⟩:=bat_op (b:=b) (a:=s.gI)
     rcases tell_s hz1 he with ⟨t1,t2,t3⟩ | ⟨t1,t2,t3⟩
     ·have c1:=Kf hx1 t3.e;rw [c1.vs] at t3;refine ⟨λl o vs2 hl=>?_,by rw [t3.vs];exact c1.trans t3⟩;rw [t3.vs] at hl;rw [t2,hyx];exact .ret hr hrs (by rw [←b1];exact t1) hl
     ·have c1:=Kf hx1 t3.e;rw [c1.vs] at t2 t3;refine ⟨λl o vs2 hl=>?_,by rw [t3.vs];exact c1.trans t3⟩;rw [t3.vs,b2] at hl;rw [t2,hyx];exact .retv hr hrs (by rw [←b1];exact t1) hl
    ·rw [cE (by simpa using hr),VK,iX] at h;obtain ⟨es,hes,h⟩:=aH h;obtain ⟨z1,hz1,h⟩:=aH h;obtain ⟨z2,hz2,h⟩:=aH h;obtain ⟨rfl,rfl⟩:=Prod.mk.inj (bS h);have hes':=fxL_of zb hes;have p1:=(Kg hx1).trans hp;have p2:=((flP_all n).1 _ _ _ _ z1.1 z1.2 hz1).trans p1;obtain ⟨q3,q4⟩:=ihb z1.2 s.eG as b z2.1 z2.2 p2 zb hz2 he;obtain ⟨q1,q2⟩:=ihb x1 s.bH as b z1.1 z1.2 p1 zb hz1 q4.e;have c1:=Kf hx1 q2.e;refine ⟨λl o vs2 hl=>?_,(c1.trans q2).trans q4⟩;rw [c1.vs] at q1;rw [hes'];exact .other hc hr q1 q3 hl
   ·have h:gZ (eU n) n x s as b=some (out,x'):=h;unfold gZ at h;have hze:=Bz s;obtain ⟨x1,hx1,h⟩:=aH h;obtain ⟨f,hf,h⟩:=aH h;obtain ⟨z,hz1,h⟩:=aH h;obtain ⟨⟨hp0,hp1⟩,h⟩:=cQ h;obtain ⟨y,hy,h⟩:=aH h;have p1:=(Kg hx1).trans hp;unfold nK at hz1;obtain ⟨w,hw,hz1⟩:=aH hz1;obtain rfl:=bS hz1;have p2:w.2.2.p_=p:=(za5 n 0 [] [] x1 w hw).trans p1;have p3:y.2.p_=p:=(zaT n 0 _ _ y hy).trans p2
    have hfm:f ∈ p.bC:=by
     rw [p1] at hf;unfold aZ at hf
     split at hf
     ·exact GB hf
     ·exact nomatch hf
    have hfb:=hB f hfm
    by_cases hye:y.2.e_=0
    ·rw [cE (by simp [hye])] at h;obtain ⟨t,ht,h⟩:=aH h;obtain ⟨u,hu,h⟩:=aH h;obtain ⟨_,h⟩:=cQ h;obtain ⟨rfl,rfl⟩:=Prod.mk.inj (bS h);obtain ⟨q1,q2⟩:=ihb y.2 f.bH y.1 t u.1 u.2 p3 hfb.1 hu he;obtain ⟨c1,c2⟩:=call_s (f:=f) (by simp;omega) n 0 _ _ y (Ko _) hy hye;obtain ⟨o,own',vs',a1,a2,a3,a4⟩:=args_s (n:=n) (s:=s) (as:=as) (f:=f) zb n 0 [] [] x1 w (Ko _) hw c2.e;have k1:=Kf hx1 a4.e;have htk:=taken_s (f:=f) ht (by rw [p3,←p1];exact hf);rw [DH] at c1 c2 a3;rw [AE] at a1 a2;rw [a4.vs] at c1 c2;rw [k1.vs] at a3;rw [htk,c2.vs,c1,a2] at q1;refine ⟨λl o2 vs2 hl=>?_,((k1.trans a4).trans c2).trans q2⟩;rw [a1];exact .call ho (by rw [←p1];exact hf) a3 hp0 hp1 q1 hl
    ·rw [cX (by simpa using hye)] at h;obtain ⟨rfl,rfl⟩:=Prod.mk.inj (bS h);exact cM he hye
end
end Go.Proofs.YtknbgnpeiohifaaGreatDoor.Abs
namespace Go.Proofs.YtknbgnpeiohifaaGreatDoor.Abs
open Go.RowKit
set_option linter.all false
inductive FB (vs:List aK) (res:Int):Bool->List Int->List aA->List Int->Prop
 | nil {l sc}:FB vs res l sc [] sc
 | let_ {l sc x v u a ss sc'}:TX vs sc x->x.bR=1->aZ vs v=some u->u.bJ=1->FB vs res l (sc++[v]) ss sc'->FB vs res l sc (⟨[108,101,116],v,0,[x],[],[],a⟩::ss) sc'
 | var_ {l sc x v u a ss sc'}:TX vs sc x->aZ vs v=some u->(u.bJ=2 ∨ u.bJ=3)->KC x.bR u.bJ->FB vs res l (sc++[v]) ss sc'->FB vs res l sc (⟨[118,97,114],v,0,[x],[],[],a⟩::ss) sc'
 | arr {l sc v u a ss sc'}:aZ vs v=some u->u.bJ=4->FB vs res l (sc++[v]) ss sc'->FB vs res l sc (⟨[97,114,114],v,0,[],[],[],a⟩::ss) sc'
 | set {l sc x v u a ss sc'}:TX vs sc x->aZ vs v=some u->(u.bJ=2 ∨ u.bJ=3)->KC x.bR u.bJ->FB vs res l (sc++[v]) ss sc'->FB vs res l sc (⟨[115,101,116],v,0,[x],[],[],a⟩::ss) sc'
 | put {l sc v u i x a ss sc'}:v ∈ sc->aZ vs v=some u->u.bJ=4->TX vs sc i->i.bR=1->(i.dJ=[110,117,109]->IntKind.i64.wrap i.N_<u.jR)->TX vs sc x->KC x.bR 2->FB vs res l sc ss sc'->FB vs res l sc (⟨[112,117,116],v,0,[i,x],[],[],a⟩::ss) sc'
 | Ln {l sc c b e a sc1 sc2 ss sc'}:TX vs sc c->c.bR=1->FB vs res false sc b sc1->FB vs res false sc e sc2->FB vs res l sc ss sc'->FB vs res l sc (⟨[105,102],-1,0,[c],b,e,a⟩::ss) sc'
 | Ba {l sc x y v u b a sc1 ss sc'}:TX vs sc x->x.bR=1->TX vs sc y->y.bR=1->aZ vs v=some u->u.bJ=1->FB vs res false (sc++[v]) b sc1->FB vs res l sc ss sc'->FB vs res l sc (⟨[102,111,114],v,0,[x,y],b,[],a⟩::ss) sc'
 | ret {sc x a}:TX vs sc x->KC x.bR res->FB vs res true sc [⟨[114,101,116,117,114,110],-1,0,[x],[],[],a⟩] sc
section
variable {vs vs':List aK} {res:Int} {l:Bool} {sc sc' sc1:List Int} {ss xs ys:List aA}
theorem FB.mono (hv:vs <+: vs') (h:FB vs res l sc ss sc'):FB vs' res l sc ss sc':=by
 have hs:∀ {sc:List Int} v,v ∈ sc->v ∈ sc:=λ_ h=>h
 induction h with
 | nil=>exact .nil
 | let_ h1 h2 h3 h4 _ ih=>exact .let_ (h1.mono hv hs) h2 (lL hv h3) h4 ih
 | var_ h1 h2 h3 h4 _ ih=>exact .var_ (h1.mono hv hs) (lL hv h2) h3 h4 ih
 | arr h1 h2 _ ih=>exact .arr (lL hv h1) h2 ih
 | set h1 h2 h3 h4 _ ih=>exact .set (h1.mono hv hs) (lL hv h2) h3 h4 ih
 | put h1 h2 h3 h4 h5 h6 h7 h8 _ ih=>exact .put h1 (lL hv h2) h3 (h4.mono hv hs) h5 h6 (h7.mono hv hs) h8 ih
 | Ln h1 h2 _ _ _ i1 i2 i3=>exact .Ln (h1.mono hv hs) h2 i1 i2 i3
 | Ba h1 h2 h3 h4 h5 h6 _ _ i1 i2=>exact .Ba (h1.mono hv hs) h2 (h3.mono hv hs) h4 (lL hv h5) h6 i1 i2
 | ret h1 h2=>exact .ret (h1.mono hv hs) h2
theorem FB.app {l0:Bool} (h:FB vs res l0 sc xs sc1) (h0:l0=false) (k:FB vs res l sc1 ys sc'):FB vs res l sc (xs++ys) sc':=by
 induction h with
 | nil=>exact k
 | let_ h1 h2 h3 h4 _ ih=>exact .let_ h1 h2 h3 h4 (ih h0 k)
 | var_ h1 h2 h3 h4 _ ih=>exact .var_ h1 h2 h3 h4 (ih h0 k)
 | arr h1 h2 _ ih=>exact .arr h1 h2 (ih h0 k)
 | set h1 h2 h3 h4 _ ih=>exact .set h1 h2 h3 h4 (ih h0 k)
 | put h1 h2 h3 h4 h5 h6 h7 h8 _ ih=>exact .put h1 h2 h3 h4 h5 h6 h7 h8 (ih h0 k)
 | Ln h1 h2 h3 h4 _ _ _ ih=>exact .Ln h1 h2 h3 h4 (ih h0 k)
 | Ba h1 h2 h3 h4 h5 h6 h7 _ _ ih=>exact .Ba h1 h2 h3 h4 h5 h6 h7 (ih h0 k)
 | ret=>cases h0
theorem FB.sub (h:FB vs res l sc ss sc'):∀v ∈ sc,v ∈ sc':=by
 induction h with
 | nil=>exact λ_ h=>h
 | let_ _ _ _ _ _ ih=>exact λv hv=>ih v (GC _ hv)
 | var_ _ _ _ _ _ ih=>exact λv hv=>ih v (GC _ hv)
 | arr _ _ _ ih=>exact λv hv=>ih v (GC _ hv)
 | set _ _ _ _ _ ih=>exact λv hv=>ih v (GC _ hv)
 | put _ _ _ _ _ _ _ _ _ ih=>exact ih
 | Ln _ _ _ _ _ _ _ ih=>exact ih
 | Ba _ _ _ _ _ _ _ _ _ ih=>exact ih
 | ret=>exact λ_ h=>h
end
structure EO (vsC vsX:List aK) (as scC scX:List Int):Prop where
 k:∀v u,aZ vsC v=some u->∃u',aZ vsX (mp as v)=some u'/\u'.bJ=u.bJ/\(u.bJ=4->u'.jR=u.jR)
 s:∀v ∈ scC,mp as v ∈ scX
section
variable {vsC vsX vsX':List aK} {as scC scX scX':List Int}
theorem EO.mono (h:EO vsC vsX as scC scX) (hv:vsX <+: vsX') (hs:∀v ∈ scX,v ∈ scX'):EO vsC vsX' as scC scX':=
 ⟨λv u hu=>by obtain ⟨u',h1,h2⟩:=h.k v u hu;exact ⟨u',lL hv h1,h2⟩,λv hv=>hs _ (h.s v hv)⟩
theorem EO.snoc (h:EO vsC vsX as scC scX) (n:Int):EO vsC vsX as (scC++[n]) (scX++[mp as n]):=
 ⟨h.k,λv hv=>by
  rcases yU.1 hv with h1 | h1
  ·exact GC _ (h.s v h1)
  ·rw [zU.1 h1];exact IU _ (zU.2 rfl)⟩
theorem Jw {as:List Int} {v:Int} (h:v<0):mp as v=v:=cX (.inl h)
theorem jA (as:List Int) (x:aB):(fx as x).bR=x.bR/\(fx as x).dJ=x.dJ/\(fx as x).N_=x.N_:=by rw [JD];exact ⟨rfl,rfl,rfl⟩
theorem TX.fx (h:EO vsC vsX as scC scX) {x:aB} (hx:TX vsC scC x):TX vsX scX (fx as x):=by
 induction hx with
 | num h1 h2=>rw [JD];simp only [PB,Jw (show (-1:Int)<0 by decide)];exact .num h1 h2
 | var h1 h2 h3=>
   obtain ⟨u',k1,k2,_⟩:=h.k _ _ h2;rw [JD];simp only [PB];rw [←k2];exact .var (h.s _ h1) k1 (by rw [k2];exact h3)
 | index h1 h2 h3 _ h5 h6 ih=>
   obtain ⟨u',k1,k2,k3⟩:=h.k _ _ h2;rw [JD];simp only [PB];obtain ⟨p1,p2,p3⟩:=jA as ‹_›;exact .index (h.s _ h1) k1 (by rw [k2];exact h3) ih (by rw [p1];exact h5) (by rw [p2,p3,k3 h3];exact h6)
 | un h1 _ ih=>
   rw [JD];simp only [PB,Jw (show (-1:Int)<0 by decide)];rw [←(jA as _).1];exact .un h1 ih
 | bin _ _ hb ih1 ih2=>
   rw [JD];simp only [PB,Jw (show (-1:Int)<0 by decide)];refine .bin ih1 ih2 ?_;unfold Qn at hb ⊢;rw [(jA as _).1,(jA as _).1,(jA as _).2.1,(jA as _).2.2];exact hb
 | @sel c x y a _ _ _ h1 h2 ih1 ih2 ih3=>
   rw [JD];simp only [PB,Jw (show (-1:Int)<0 by decide)];rw [←(jA as x).1,←(jA as y).1];exact .sel ih1 ih2 ih3 (by rw [(jA as _).1];exact h1) (by rw [(jA as _).1,(jA as _).1];exact h2)
 | long _ h1 ih=>
   rw [JD];simp only [PB,Jw (show (-1:Int)<0 by decide)];exact .long ih (by rw [(jA as _).1];exact h1)
 | wide _ _ h1 h2 ih1 ih2=>
   rw [JD];simp only [PB,Jw (show (-1:Int)<0 by decide)];exact .wide ih1 ih2 (by rw [(jA as _).1];exact h1) (by rw [(jA as _).1];exact h2)
 | half h1 _ h2 ih=>
   rw [JD];simp only [PB,Jw (show (-1:Int)<0 by decide)];exact .half h1 ih (by rw [(jA as _).1];exact h2)
def Sn (vsX:List aK) (res resT:Int) (b:aA):Prop:=
 b.bH=[]/\b.eG=[]/\((b.dJ=[114,101,116,117,114,110]/\b.fB=-1/\res=resT) ∨ (b.dJ=[115,101,116]/\∃u,aZ vsX b.fB=some u/\u.bJ=res) ∨ (b.dJ=[118,97,114]/\b.iO=res))
theorem Sn.mono {vsX vsX':List aK} {res resT:Int} {b:aA} (h:Sn vsX res resT b) (hv:vsX <+: vsX'):Sn vsX' res resT b:=by
 obtain ⟨h1,h2,h3⟩:=h;refine ⟨h1,h2,?_⟩
 rcases h3 with h3 | ⟨h3,u,h4,h5⟩ | h3
 ·exact .inl h3
 ·exact .inr (.inl ⟨h3,u,lL hv h4,h5⟩)
 ·exact .inr (.inr h3)
theorem DR (b:aA) (a:Int):(IR b a).dJ=b.dJ/\(IR b a).fB=b.fB/\(IR b a).iO=b.iO/\(IR b a).bH=b.bH/\(IR b a).eG=b.eG:=by unfold IR;split <;> exact ⟨rfl,rfl,rfl,rfl,rfl⟩
theorem Sn.bat {vsX:List aK} {res resT:Int} {b:aA} (h:Sn vsX res resT b) (a:Int):Sn vsX res resT (IR b a):=by
 obtain ⟨b1,b2,b3,b4,b5⟩:=DR b a;unfold Sn;rw [b1,b2,b3,b4,b5];exact h
theorem Sk.pre {as:List Int} {fW:Int} {ps vs vs':List aK} {l:List aB} {i:Nat} {o:List aA} {own:List Int} (h:Sk as fW ps vs l i o own vs'):vs <+: vs':=by
 induction h with
 | nil=>exact WQ _
 | arr _ _ ih=>exact ih
 | val _ _ _ ih=>exact (Rg _ _).trans ih
theorem MO.pre {p:bM} {vs vs':List aK} {l:List aA} {as:List Int} {b:aA} {o:List aA} (h:MO p vs l as b o vs'):vs <+: vs':=by
 induction h with
 | nil=>exact WQ _
 | call _ _ h1 _ _ _ _ ih1 ih2=>exact ((h1.pre.trans (Rg _ _)).trans ih1).trans ih2
 | ret _ _ _ _ ih=>exact ih
 | retv _ _ _ _ ih=>exact (Rg _ _).trans ih
 | other _ _ _ _ _ i1 i2 i3=>exact (i1.trans i2).trans i3
theorem Sk.ok {resT:Int} {vsC:List aK} {scC:List Int} {as:List Int} {fW:Int} {ps vs vs':List aK} {l:List aB} {i:Nat} {o:List aA} {own:List Int} (h:Sk as fW ps vs l i o own vs') (hps:∀u ∈ ps,Hz u) (hv:∀u ∈ vsC,Hz u) :
  ∀ {scX:List Int},EO vsC vs as scC scX->(∀(k:Nat) p x,ps[i+k]? = some p->l[k]? = some x->Lc vsC scC p x)->i+l.length<=ps.length ->
   ∃scX',FB vs' resT false scX o scX'/\own.length=l.length/\∀(k:Nat) p,k<l.length->ps[i+k]? = some p->∃v u,own[k]? = some v/\v ∈ scX'/\aZ vs' v=some u/\u.bJ=p.bJ/\(p.bJ=4->u.jR=p.jR):=by
 induction h with
 | nil=>intro scX _ _ _;exact ⟨scX,.nil,rfl,λk p hk=>cM hk (Nat.not_lt_zero _)⟩
 | @arr vs y l i o own vs' ht h ih=>
   intro scX hm ha hl;simp only [qB] at hl;obtain ⟨scX',g1,g2,g3⟩:=ih hm (λk p x h1 h2=>ha (k+1) p x (by rw [←h1];congr 1;omega) h2) zb;refine ⟨scX',g1,by simp only [qB,g2],λk p hk hp=>?_⟩;cases k with
   | zero=>
     have hta:=ha 0 p y hp rfl;cases hta with
     | @arr v u a k1 k2 k3 k4 k5=>
       obtain ⟨u',m1,m2,m3⟩:=hm.k _ _ k3;exact ⟨_,u',rfl,g1.sub _ (hm.s _ k2),lL h.pre m1,by rw [m2,k4,k1],λ_=>by rw [m3 k4,k5]⟩
     | pub k1 k2 k3=>rw [k3] at ht;exact cM ht zc
     | val k1 k2 k3 k4=>
       have:=hps p (GB hp)
       rcases k4 with k4 | k4
       ·rw [ht] at k4;exact cM k4.symm k2
       ·rw [k4.1] at ht;exact cM ht zc
   | succ k=>
     obtain ⟨v,u,q1,q2⟩:=g3 k p (by simpa using hk) (by rw [←hp];congr 1;omega);exact ⟨v,u,q1,q2⟩
 | @val vs y l i u o own vs' ht hu h ih=>
   intro scX hm ha hl;simp only [qB] at hl
   have hnew:aZ (vs++[u]) (vs.length:Int)=some u:=by
    unfold aZ;rw [cX zb,GD,Mh (uZ _)];simp
   have hm':EO vsC (vs++[u]) as scC (scX++[(vs.length:Int)]):=hm.mono (Rg _ _) λv hv=>GC _ hv;obtain ⟨scX',g1,g2,g3⟩:=ih hm' (λk p x h1 h2=>ha (k+1) p x (by rw [←h1];congr 1;omega) h2) zb;have hpre:=(Rg vs [u]).trans h.pre;have hnew':=lL h.pre hnew;have hta:=ha 0 u y hu rfl;have hsame:∀ {sc:List Int} v,v ∈ sc->v ∈ sc:=λ_ h=>h
   have hpar:∀(k:Nat) p,k<(y::l).length->ps[i+k]? = some p->∃v u',((vs.length:Int)::own)[k]? = some v/\v ∈ scX'/\aZ vs' v=some u'/\u'.bJ=p.bJ/\(p.bJ=4->u'.jR=p.jR):=by
    intro k p hk hp;cases k with
    | zero=>
      obtain rfl:u=p:=Li (hu.symm.trans hp);exact ⟨_,u,rfl,g1.sub _ (IU _ (zU.2 rfl)),hnew',rfl,λ_=>rfl⟩
    | succ k=>
      obtain ⟨v,u',q1,q2⟩:=g3 k p (by simpa using hk) (by rw [←hp];congr 1;omega);exact ⟨v,u',q1,q2⟩
   cases hta with
   | arr k1 k2 k3 k4 k5=>exact cM rfl ht
   | pub k1 k2 k3=>
     rw [cX k1];exact ⟨scX',.let_ ((TX.fx hm k2).mono hpre hsame) (by rw [(jA as y).1];exact k3) hnew' k1 g1,by simp only [qB,g2],hpar⟩
   | val k1 k2 k3 k4=>
     rw [cE k1];have:=hps u (GB hu);exact ⟨scX',.var_ ((TX.fx hm k3).mono hpre hsame) hnew' (by have t1:=this.1;have t2:=this.2.1;omega) (by rw [(jA as y).1];exact k4) g1,by simp only [qB,g2],hpar⟩
end
section
variable {c:aE} {rk:Int->Nat} {resT:Int}
theorem MO.nil_inv {p:bM} {vs v:List aK} {as:List Int} {b:aA} {o:List aA} (h:MO p vs [] as b o v):o=[]/\v=vs:=by cases h;exact ⟨rfl,rfl⟩
def FtyR (c:aE) (resT:Int) (vs:List aK) (l:List aA) (as:List Int) (b:aA) (out:List aA) (vs':List aK):Prop:=
 ∀ {j:Nat} {vsC:List aK} {res:Int} {lf:Bool} {n:Nat} {sc:List Int} {n':Nat} {sc' scX:List Int},TB (HM c j) vsC res lf n sc l n' sc'->(∀u ∈ vsC,Hz u)->(res=0 ∨ res=2 ∨ res=3)->EO vsC vs as sc scX->Sn vs res resT b ->
  ∃scX',FB vs' resT (lf && decide (b.dJ=[114,101,116,117,114,110])) scX out scX'/\(∀v ∈ sc',mp as v ∈ scX')/\((∃s,l.getLast? = some s/\Md s)->b.dJ=[115,101,116]->b.fB ∈ scX')
theorem own_map {fv v1:List aK} {own:List Int} {pn:Nat} {scX1:List Int} (hpn:pn<=fv.length) (hol:own.length=pn) (ho:∀(k:Nat) p,k<pn->fv[0+k]? = some p->∃v u,own[k]? = some v/\v ∈ scX1/\aZ v1 v=some u/\u.bJ=p.bJ/\(p.bJ=4->u.jR=p.jR)) :
  EO fv (v1++fv.drop pn) (own++Gq v1.length (fv.drop pn).length) (pC pn) scX1:=by
 have hlen:(own++Gq v1.length (fv.drop pn).length).length=fv.length:=by
  rw [oY,hol];simp [Gq];omega
 have hmp:∀i:Nat,i<fv.length->mp (own++Gq v1.length (fv.drop pn).length) (i:Int)=((own++Gq v1.length (fv.drop pn).length)[i]?).getD (i:Int):=by
  intro i hi;unfold mp;rw [cE (by rw [hlen];omega),GD]
 refine ⟨λv u hu=>?_,λv hv=>?_⟩
 ·obtain ⟨i,rfl⟩:∃i:Nat,v=(i:Int):=by
   unfold aZ at hu
   split at hu
   ·exact ⟨v.toNat,zb⟩
   ·exact nomatch hu
  have hu':=yJ hu;obtain ⟨hil,_⟩:=xW.1 hu';rw [hmp i hil]
  by_cases hip:i<pn
  ·obtain ⟨v,u',q1,q2,q3,q4,q5⟩:=ho i u hip (by rw [Lk];exact hu');rw [Py zb,q1];exact ⟨u',lL (Rg _ _) q3,q4,q5⟩
  ·have hn:(Gq v1.length (fv.drop pn).length)[i - own.length]? = some ((v1.length+(i - pn):Nat):Int):=by
    unfold Gq;rw [KM,xej (by rw [Us];omega),hol];rfl
   rw [Mh zb,hn];refine ⟨u,zY ?_,rfl,λ_=>rfl⟩;rw [Mh zb,xdk];rw [←hu']
   congr 1
   omega
 ·unfold pC at hv;obtain ⟨i,hi,rfl⟩:=Qo.1 hv;have hi:=Yx.1 hi;obtain ⟨v,u',q1,q2,_⟩:=ho i fv[i] hi (by rw [Lk];exact yN zb);show mp _ (i:Int) ∈ _;rw [hmp i zb,Py zb,q1];exact q2
theorem RX (hp:PO c rk) {j:Nat} {vsC vs v1 v2:List aK} {sc scX:List Int} {as own:List Int} {fi r:Int} {ps:List aK} {xs:List aB} {a:Int} {f:aJ} {o1 o2:List aA} {b':aA}
  (hsg:HM c j fi r ps) (hta:Dr vsC sc ps xs) (hvC:∀u ∈ vsC,Hz u) (hf:aZ c.p_.bC fi=some f) (hA:Sk as a f.aQ vs xs 0 o1 own v1) (hB:MO c.p_ (v1++f.aQ.drop f.aT.toNat) f.bH (own++Gq v1.length (f.aQ.drop f.aT.toNat).length) b' o2 v2)
  (ih:FtyR c resT (v1++f.aQ.drop f.aT.toNat) f.bH (own++Gq v1.length (f.aQ.drop f.aT.toNat).length) b' o2 v2) (hm:EO vsC vs as sc scX) (IV:Sn (v1++f.aQ.drop f.aT.toNat) r resT b') :
  ∃scX',FB v2 resT (decide (b'.dJ=[114,101,116,117,114,110])) scX (o1++o2) scX'/\(∀v ∈ scX,v ∈ scX')/\(r ≠ 0->b'.dJ=[115,101,116]->b'.fB ∈ scX'):=by
 obtain ⟨_,f',hf',hr,hps⟩:=hsg;obtain rfl:f=f':=Li (hf.symm.trans hf');subst hr hps
 obtain ⟨fn,rfl⟩:∃k:Nat,fi=(k:Int):=by
  unfold aZ at hf
  split at hf
  ·exact ⟨fi.toNat,zb⟩
  ·exact nomatch hf
 have hfg:=yJ hf;have hfm:=GB hfg;have tf:=hp.tf fn f hfg;obtain ⟨vl1,vl2,vl3⟩:=hp.co.vl f hfm;obtain ⟨ki1,ki2⟩:=hp.co.ki f hfm;obtain ⟨sc'',htb⟩:=tf.body;have hpl:(f.aQ.take f.aT.toNat).length=f.aT.toNat:=by rw [NL];omega
 have hxl:xs.length=f.aT.toNat:=hta.1.trans hpl
 obtain ⟨scX1,g1,g2,g3⟩:=hA.ok (resT:=resT) (λu hu=>ki1 u hu) hvC hm (λk p x h1 h2=>by
  have hk:k<xs.length:=(xW.1 h2).1;refine hta.2 k p x ?_ h2;rw [xdl,cX zb];rw [←h1];congr 1;omega) zb
 have hmap:=own_map (fv:=f.aQ) (v1:=v1) (own:=own) (pn:=f.aT.toNat) (scX1:=scX1) zb zb (λk p hk hpk=>g3 k p zb hpk);obtain ⟨scX2,k1,k2,k3⟩:=ih (j:=fn) htb ki1 ki2 hmap IV;refine ⟨scX2,?_,λv hv=>k1.sub _ (g1.sub _ hv),λhr0 hop=>k3 (tf.ret hr0) hop⟩;rw [Bool.true_and] at k1;exact (g1.mono ((Rg _ _).trans hB.pre)).app rfl k1
end
section
variable {c:aE} {rk:Int->Nat} {resT:Int}
theorem yK {s t:aA} {l:List aA} (h:(s::l).getLast? = some t) (hs:¬ Md s) (ht:Md t):∃u,l.getLast? = some u/\Md u:=by
 cases l with
 | nil=>rw [List.getLast?_singleton] at h;rw [Li h] at hs;exact cM ht hs
 | cons x l=>rw [List.getLast?_cons_cons] at h;exact ⟨t,h,ht⟩
theorem fty (hp:PO c rk) {vs vs':List aK} {l:List aA} {as:List Int} {b:aA} {out:List aA} (h:MO c.p_ vs l as b out vs'):FtyR c resT vs l as b out vs':=by
 generalize hcp:c.p_=p at h
 induction h with
 | nil=>
   intro j vsC res lf n sc n' sc' scX htb hv hr hm hb;cases htb;exact ⟨scX,.nil,hm.s,λ⟨s,hs,_⟩=>nomatch hs⟩
 | @call vs s l as b f o1 own v1 o2 v2 o3 v3 ho hf hA hp0 hp1 hB hrest ihB ihR=>
   subst hcp;intro j vsC res lf n sc n' sc' scX htb hv hr hm hb;have hb1:=hb.mono (hA.pre.trans (Rg _ (f.aQ.drop f.aT.toNat)));have hpre:=(hA.pre.trans (Rg _ (f.aQ.drop f.aT.toNat))).trans hB.pre
   -- a call whose answer goes to a variable
   have toVar:∀ {m:Int} {r:Int} {ps:List aK} {u:aK} {n1:Nat} {sc1:List Int},s.fB=m->m ≠ -1->m ≠ -2->HM c j s.iO r ps->Dr vsC sc ps s.aN->r ≠ 0->aZ vsC m=some u->u.bJ=r->¬ Md s->TB (HM c j) vsC res lf n1 sc1 l n' sc'->(∀scX2:List Int,(∀v ∈ scX,v ∈ scX2)->mp as m ∈ scX2->∀v ∈ sc1,mp as v ∈ scX2) ->
     ∃scX',FB v3 resT (lf && decide (b.dJ=[114,101,116,117,114,110])) scX ((o1++o2)++o3) scX'/\(∀v ∈ sc',mp as v ∈ scX')/\((∃t,(s::l).getLast? = some t/\Md t)->b.dJ=[115,101,116]->b.fB ∈ scX'):=by
    intro m r ps u n1 sc1 e1 e2 e3 hsg hta hr0 hu hk hns htl hsc;obtain ⟨u',w1,w2,w3⟩:=hm.k _ _ hu
    have htk:SN f s as b=⟨[115,101,116],mp as m,0,[],[],[],s.gI⟩:=by
     unfold SN;rw [cE (by rw [e1];exact e3),cE (by rw [e1];exact e2),e1]
    obtain ⟨scX2,g1,g2,g3⟩:=RX (resT:=resT) hp hsg hta hv hf hA hB ihB hm (by
     rw [htk];exact ⟨rfl,rfl,.inr (.inl ⟨rfl,u',lL (hA.pre.trans (Rg _ _)) w1,by rw [w2,hk]⟩)⟩)
    have hin:=g3 hr0 (by rw [htk]);rw [htk] at g1 hin;have hm2:EO vsC v2 as sc1 scX2:=⟨(hm.mono hpre g2).k,hsc scX2 g2 hin⟩;obtain ⟨scX3,q1,q2,q3⟩:=ihR htl hv hr hm2 (hb1.mono hB.pre);refine ⟨scX3,(g1.mono hrest.pre).app (SB (show ¬ ([115,101,116]:cB)=[114,101,116,117,114,110] by decide)) q1,q2,λ⟨t,ht1,ht2⟩ hop=>q3 (yK ht1 hns ht2) hop⟩
   have tk1:s.fB=-1->SN f s as b=⟨[118,97,114],-1,f.bO,[],[],[],s.gI⟩:=λh=>by unfold SN;rw [cE (by rw [h];decide),cX h]
   have tk2:s.fB=-2->SN f s as b=IR b s.gI:=λh=>by unfold SN;rw [cX h];rfl
   have e2:∀ {v:Int},0<=v->v ≠ -1/\v ≠ -2:=λh=>⟨zb,zb⟩;cases htb with
   | let_=>exact cM (show ([108,101,116]:cB)=[99,97,108,108] from ho) zc
   | var_=>exact cM (show ([118,97,114]:cB)=[99,97,108,108] from ho) zc
   | arr=>exact cM (show ([97,114,114]:cB)=[99,97,108,108] from ho) zc
   | set=>exact cM (show ([115,101,116]:cB)=[99,97,108,108] from ho) zc
   | put=>exact cM (show ([112,117,116]:cB)=[99,97,108,108] from ho) zc
   | Ln=>exact cM (show ([105,102]:cB)=[99,97,108,108] from ho) zc
   | Ba=>exact cM (show ([102,111,114]:cB)=[99,97,108,108] from ho) zc
   | ret=>exact cM (show ([114,101,116,117,114,110]:cB)=[99,97,108,108] from ho) zc
   | callv k1 k2 k3 k4 k5 k6=>
     exact toVar rfl (e2 (Int.natCast_nonneg n)).1 (e2 (Int.natCast_nonneg n)).2 k1 k2 k3 (zY k4) k5 (λh=>by rcases h with h | h;exact cM (show ([99,97,108,108]:cB)=[114,101,116,117,114,110] from h) zc;have:=h.2;simp only at this;omega) k6 (λscX2 h1 h2 v hv=>by
      rcases yU.1 hv with h3 | h3
      ·exact h1 _ (hm.s v h3)
      ·rw [zU.1 h3];exact h2)
   | calls k1 k2 k3 k4 k5 k6 k7=>
     have hv0:∀ {v:Int} {u:aK},aZ vsC v=some u->0<=v:=by
      intro v u h;unfold aZ at h
      split at h
      ·assumption
      ·exact nomatch h
     have h0:=hv0 k2;exact toVar rfl (e2 h0).1 (e2 h0).2 k4 k5 (by rcases k3 with k3 | k3 <;> omega) k2 k6.symm (λh=>by rcases h with h | h;exact cM (show ([99,97,108,108]:cB)=[114,101,116,117,114,110] from h) zc;have:=h.2;simp only at this;omega) k7 (λscX2 h1 h2 v hv=>h1 _ (hm.s v hv))
   | do_ k1 k2 k3=>
     have k1':=k1;obtain ⟨_,f',hf',hr',_⟩:=k1';obtain rfl:f=f':=Li (hf.symm.trans hf')
     obtain ⟨scX2,g1,g2,g3⟩:=RX (resT:=resT) hp k1 k2 hv hf hA hB ihB hm (by
      rw [tk1 rfl];exact ⟨rfl,rfl,.inr (.inr ⟨rfl,hr'.symm⟩)⟩)
     rw [tk1 rfl] at g1;have hm2:EO vsC v2 as sc scX2:=hm.mono hpre g2;obtain ⟨scX3,q1,q2,q3⟩:=ihR k3 hv hr hm2 (hb1.mono hB.pre);refine ⟨scX3,(g1.mono hrest.pre).app (SB (show ¬ ([118,97,114]:cB)=[114,101,116,117,114,110] by decide)) q1,q2,λ⟨t,ht1,ht2⟩ hop=>q3 (yK ht1 (λh=>by rcases h with h | h;exact cM (show ([99,97,108,108]:cB)=[114,101,116,117,114,110] from h) zc;exact cM (show (-1:Int)=-2 from h.2) zc) ht2) hop⟩
   | retc k1 k2 k3=>
     obtain ⟨rfl,rfl⟩:=hrest.nil_inv;obtain ⟨scX2,g1,g2,g3⟩:=RX (resT:=resT) hp k1 k3 hv hf hA hB ihB hm (by rw [tk2 rfl];exact hb1.bat _);rw [tk2 rfl] at g1 g3;rw [(DR b _).1] at g1 g3;rw [(DR b _).2.1] at g3;rw [Fu];exact ⟨scX2,by rw [Bool.true_and];exact g1,λv hv=>g2 _ (hm.s v hv),λ_ hop=>g3 k2 hop⟩
 | @ret vs s l as b y r o v ho hl hnv hrest ihR=>
   intro j vsC res lf n sc n' sc' scX htb hv hr hm hb;cases htb with
   | let_=>exact cM (show ([108,101,116]:cB)=[114,101,116,117,114,110] from ho) zc
   | var_=>exact cM (show ([118,97,114]:cB)=[114,101,116,117,114,110] from ho) zc
   | arr=>exact cM (show ([97,114,114]:cB)=[114,101,116,117,114,110] from ho) zc
   | set=>exact cM (show ([115,101,116]:cB)=[114,101,116,117,114,110] from ho) zc
   | put=>exact cM (show ([112,117,116]:cB)=[114,101,116,117,114,110] from ho) zc
   | Ln=>exact cM (show ([105,102]:cB)=[114,101,116,117,114,110] from ho) zc
   | Ba=>exact cM (show ([102,111,114]:cB)=[114,101,116,117,114,110] from ho) zc
   | callv=>exact cM (show ([99,97,108,108]:cB)=[114,101,116,117,114,110] from ho) zc
   | calls=>exact cM (show ([99,97,108,108]:cB)=[114,101,116,117,114,110] from ho) zc
   | do_=>exact cM (show ([99,97,108,108]:cB)=[114,101,116,117,114,110] from ho) zc
   | retc=>exact cM (show ([99,97,108,108]:cB)=[114,101,116,117,114,110] from ho) zc
   | ret k1 k2 k3=>
     obtain ⟨rfl,rfl⟩:=hrest.nil_inv;have hy:=(List.cons.inj hl).1;rw [hy] at k1 k3;obtain ⟨c1,c2,c3⟩:=hb
     have Kb:∀a,({ IR b a with iO:=0,aN:=[fx as y] }:aA)=⟨b.dJ,b.fB,0,[fx as y],[],[],(IR b a).gI⟩:=by
      intro a;obtain ⟨b1,b2,b3,b4,b5⟩:=DR b a;show (⟨(IR b a).dJ,(IR b a).fB,0,[fx as y],(IR b a).bH,(IR b a).eG,(IR b a).gI⟩:aA)=_;rw [b1,b2,b4,b5,c1,c2]
     rw [Fu,Kb]
     rcases c3 with ⟨d1,d2,d3⟩ | ⟨d1,u,d2,d3⟩ | ⟨d1,_⟩
     ·rw [d1,d2];exact ⟨scX,.ret (TX.fx hm k1) (by rw [(jA as y).1,←d3];exact k3),hm.s,λ_ h=>cM h zc⟩
     ·rw [d1];exact ⟨scX++[b.fB],.set (TX.fx hm k1) d2 zb (by rw [(jA as y).1,d3];exact k3) .nil,λv hv=>GC _ (hm.s v hv),λ_ _=>IU _ (zU.2 rfl)⟩
     ·exact cM d1 hnv
 | @retv vs s l as b y r o v ho hl hv0 hrest ihR=>
   intro j vsC res lf n sc n' sc' scX htb hv hr hm hb;cases htb with
   | let_=>exact cM (show ([108,101,116]:cB)=[114,101,116,117,114,110] from ho) zc
   | var_=>exact cM (show ([118,97,114]:cB)=[114,101,116,117,114,110] from ho) zc
   | arr=>exact cM (show ([97,114,114]:cB)=[114,101,116,117,114,110] from ho) zc
   | set=>exact cM (show ([115,101,116]:cB)=[114,101,116,117,114,110] from ho) zc
   | put=>exact cM (show ([112,117,116]:cB)=[114,101,116,117,114,110] from ho) zc
   | Ln=>exact cM (show ([105,102]:cB)=[114,101,116,117,114,110] from ho) zc
   | Ba=>exact cM (show ([102,111,114]:cB)=[114,101,116,117,114,110] from ho) zc
   | callv=>exact cM (show ([99,97,108,108]:cB)=[114,101,116,117,114,110] from ho) zc
   | calls=>exact cM (show ([99,97,108,108]:cB)=[114,101,116,117,114,110] from ho) zc
   | do_=>exact cM (show ([99,97,108,108]:cB)=[114,101,116,117,114,110] from ho) zc
   | retc=>exact cM (show ([99,97,108,108]:cB)=[114,101,116,117,114,110] from ho) zc
   | ret k1 k2 k3=>
     obtain ⟨rfl,rfl⟩:=hrest.nil_inv;have hy:=(List.cons.inj hl).1;rw [hy] at k1 k3;obtain ⟨c1,c2,c3⟩:=hb
     have Kb:∀a,({ IR b a with fB:=(vs.length:Int),iO:=0,aN:=[fx as y] }:aA)=⟨b.dJ,(vs.length:Int),0,[fx as y],[],[],(IR b a).gI⟩:=by
      intro a;obtain ⟨b1,b2,b3,b4,b5⟩:=DR b a;show (⟨(IR b a).dJ,(vs.length:Int),0,[fx as y],(IR b a).bH,(IR b a).eG,(IR b a).gI⟩:aA)=_;rw [b1,b4,b5,c1,c2]
     have hnew:aZ (vs++[⟨[],b.iO,0⟩]) (vs.length:Int)=some (⟨[],b.iO,0⟩:aK):=by
      unfold aZ;rw [cX zb,GD,Mh (uZ _)];simp
     rw [Fu,Kb,hv0]
     rcases c3 with ⟨d1,_⟩ | ⟨d1,_⟩ | ⟨_,d2⟩
     ·rw [hv0] at d1;exact cM d1 zc
     ·rw [hv0] at d1;exact cM d1 zc
     ·exact ⟨scX++[(vs.length:Int)],.var_ ((TX.fx hm k1).mono (Rg _ _) (λ_ h=>h)) hnew yz (by rw [(jA as y).1];simp only [d2];exact k3) .nil,λv hv=>GC _ (hm.s v hv),λ_ h=>cM h zc⟩
 | @other vs s l as b o1 v1 o2 v2 o3 v3 h1 h2 hb1 hb2 hrest i1 i2 ihR=>
   intro j vsC res lf n sc n' sc' scX htb hv hr hm hb;have hsm:∀ {sc:List Int} v,v ∈ sc->v ∈ sc:=λ_ h=>h;have hns:¬ Md s:=λh=>by rcases h with h | h;exact h2 h;exact h1 h.1
   cases htb with
   | callv=>exact cM rfl h1
   | calls=>exact cM rfl h1
   | do_=>exact cM rfl h1
   | retc=>exact cM rfl h1
   | ret=>exact cM rfl h2
   | let_ k1 k2 k3 k4 k5=>
     obtain ⟨rfl,rfl⟩:=hb1.nil_inv;obtain ⟨rfl,rfl⟩:=hb2.nil_inv;obtain ⟨u',w1,w2,w3⟩:=hm.k _ _ (zY k3);obtain ⟨scX3,q1,q2,q3⟩:=ihR k5 hv hr (hm.snoc _) hb;exact ⟨scX3,.let_ ((TX.fx hm k1).mono hrest.pre hsm) (by rw [(jA as _).1];exact k2) (lL hrest.pre w1) (by rw [w2];exact k4) q1,q2,λ⟨t,ht1,ht2⟩ hop=>q3 (yK ht1 hns ht2) hop⟩
   | var_ k1 k3 k4 k5=>
     obtain ⟨rfl,rfl⟩:=hb1.nil_inv;obtain ⟨rfl,rfl⟩:=hb2.nil_inv;obtain ⟨u',w1,w2,w3⟩:=hm.k _ _ (zY k3);obtain ⟨scX3,q1,q2,q3⟩:=ihR k5 hv hr (hm.snoc _) hb;have hrg:=k1.range hv;have hk:u'.bJ=Iw _:=w2.trans k4;exact ⟨scX3,.var_ ((TX.fx hm k1).mono hrest.pre hsm) (lL hrest.pre w1) (by rw [hk];unfold Iw;split <;> omega) (by rw [(jA as _).1,hk];unfold KC Iw;split <;> omega) q1,q2,λ⟨t,ht1,ht2⟩ hop=>q3 (yK ht1 hns ht2) hop⟩
   | arr k3 k4 k5=>
     obtain ⟨rfl,rfl⟩:=hb1.nil_inv;obtain ⟨rfl,rfl⟩:=hb2.nil_inv;obtain ⟨u',w1,w2,w3⟩:=hm.k _ _ (zY k3);obtain ⟨scX3,q1,q2,q3⟩:=ihR k5 hv hr (hm.snoc _) hb;exact ⟨scX3,.arr (lL hrest.pre w1) (by rw [w2];exact k4) q1,q2,λ⟨t,ht1,ht2⟩ hop=>q3 (yK ht1 hns ht2) hop⟩
   | set k1 k2 k3 k4 k5 k6=>
     obtain ⟨rfl,rfl⟩:=hb1.nil_inv;obtain ⟨rfl,rfl⟩:=hb2.nil_inv;obtain ⟨u',w1,w2,w3⟩:=hm.k _ _ k2;obtain ⟨scX3,q1,q2,q3⟩:=ihR k6 hv hr (hm.mono (WQ _) λv hv=>GC _ hv) hb;exact ⟨scX3,.set ((TX.fx hm k4).mono hrest.pre hsm) (lL hrest.pre w1) (by rw [w2];exact k3) (by rw [(jA as _).1,w2];exact k5) q1,q2,λ⟨t,ht1,ht2⟩ hop=>q3 (yK ht1 hns ht2) hop⟩
   | put k1 k2 k3 k4 k5 k6 k7 k8 k9=>
     obtain ⟨rfl,rfl⟩:=hb1.nil_inv;obtain ⟨rfl,rfl⟩:=hb2.nil_inv;obtain ⟨u',w1,w2,w3⟩:=hm.k _ _ k2;obtain ⟨scX3,q1,q2,q3⟩:=ihR k9 hv hr hm hb;exact ⟨scX3,.put (hm.s _ k1) (lL hrest.pre w1) (by rw [w2];exact k3) ((TX.fx hm k4).mono hrest.pre hsm) (by rw [(jA as _).1];exact k5) (by rw [(jA as _).2.1,(jA as _).2.2,w3 k3];exact k6) ((TX.fx hm k7).mono hrest.pre hsm) (by rw [(jA as _).1];exact k8) q1,q2,λ⟨t,ht1,ht2⟩ hop=>q3 (yK ht1 hns ht2) hop⟩
   | Ln k1 k2 k3 k4 k5=>
     obtain ⟨sa,p1,p2,p3⟩:=i1 k3 hv hr hm hb;obtain ⟨sb,r1,r2,r3⟩:=i2 k4 hv hr (hm.mono hb1.pre hsm) (hb.mono hb1.pre);obtain ⟨scX3,q1,q2,q3⟩:=ihR k5 hv hr (hm.mono (hb1.pre.trans hb2.pre) hsm) (hb.mono (hb1.pre.trans hb2.pre));rw [Bool.false_and] at p1 r1;have hpre:=(hb1.pre.trans hb2.pre).trans hrest.pre;refine ⟨scX3,?_,q2,λ⟨t,ht1,ht2⟩ hop=>q3 (yK ht1 hns ht2) hop⟩;simp only [PB,Jw (show (-1:Int)<0 by decide)];exact .Ln ((TX.fx hm k1).mono hpre hsm) (by rw [(jA as _).1];exact k2) (p1.mono (hb2.pre.trans hrest.pre)) (r1.mono hrest.pre) q1
   | Ba k1 k2 k3 k4 k5 k6 k7 k8=>
     obtain ⟨rfl,rfl⟩:=hb2.nil_inv;obtain ⟨u',w1,w2,w3⟩:=hm.k _ _ (zY k5);obtain ⟨sa,p1,p2,p3⟩:=i1 k7 hv hr (hm.snoc _) hb;obtain ⟨scX3,q1,q2,q3⟩:=ihR k8 hv hr (hm.mono hb1.pre hsm) (hb.mono hb1.pre);rw [Bool.false_and] at p1;have hpre:=hb1.pre.trans hrest.pre;exact ⟨scX3,.Ba ((TX.fx hm k1).mono hpre hsm) (by rw [(jA as _).1];exact k2) ((TX.fx hm k3).mono hpre hsm) (by rw [(jA as _).1];exact k4) (lL hpre w1) (by rw [w2];exact k6) (p1.mono hrest.pre) q1,q2,λ⟨t,ht1,ht2⟩ hop=>q3 (yK ht1 hns ht2) hop⟩
theorem UX (v:Int):mp [] v=v:=by
 unfold mp;rw [cX (by simp;omega)]
theorem WM (hp:PO c rk) {n:Nat} {i:Int} {r:aJ × Int} (h:xK n c.p_ i=some r) (he:r.2=0) :
  ∃(k:Nat) (fn:aJ),i=(k:Int)/\c.p_.bC[k]? = some fn/\r.1={ fn with aQ:=r.1.aQ,bH:=r.1.bH }/\fn.aQ <+: r.1.aQ ∧
   MO c.p_ fn.aQ fn.bH [] ⟨[114,101,116,117,114,110],-1,0,[],[],[],-1⟩ r.1.bH r.1.aQ/\∃sc',FB r.1.aQ fn.bO true (pC fn.aT.toNat) r.1.bH sc':=by
 unfold xK at h;obtain ⟨y,hy,h⟩:=aH h;cases y with
 | true=>
   rw [cX rfl] at h;rw [←bS h] at he;exact cM he zc
 | false=>
   rw [cE zc] at h;obtain ⟨fn,hfn,h⟩:=aH h;obtain ⟨_,h⟩:=cQ h;obtain ⟨z,hz,h⟩:=aH h
   obtain ⟨k,hk⟩:∃k:Nat,i=(k:Int):=by
    unfold aZ at hfn
    split at hfn
    ·exact ⟨i.toNat,zb⟩
    ·exact nomatch hfn
   rw [hk] at hfn;have hfg:=yJ hfn
   by_cases hze:z.2.e_=0
   ·rw [cE (by simp [hze])] at h;obtain rfl:=bS h;have hB:∀f ∈ c.p_.bC,wF f.bH<=1000000000/\f.aQ.length<=1000000000:=λf hf=>⟨by have:=hp.sz f hf;omega,by have:=(hp.co.vl f hf).1;omega⟩;have hfm:=GB hfg;obtain ⟨g1,g2⟩:=(flB_all hB n).1 ⟨c.p_,fn,0,0⟩ fn.bH [] _ z.1 z.2 rfl (hB fn hfm).1 hz hze;have tf:=hp.tf k fn hfg;obtain ⟨sc',htb⟩:=tf.body;obtain ⟨ki1,ki2⟩:=hp.co.ki fn hfm;have hmap:EO fn.aQ fn.aQ [] (pC fn.aT.toNat) (pC fn.aT.toNat):=⟨λv u hu=>⟨u,by rw [UX];exact hu,rfl,λ_=>rfl⟩,λv hv=>by rw [UX];exact hv⟩;obtain ⟨scX,k1,_,_⟩:=fty (resT:=fn.bO) hp g1 htb ki1 ki2 hmap ⟨rfl,rfl,.inl ⟨rfl,rfl,rfl⟩⟩;have hvs:z.2.f_={ fn with aQ:=z.2.f_.aQ }:=g2.f;refine ⟨k,fn,hk,hfg,?_,g1.pre,g1,scX,k1⟩;show ({ z.2.f_ with bH:=z.1 }:aJ)=_;rw [hvs]
   ·rw [cX (by simpa using hze)] at h;rw [←bS h] at he;exact cM he hze
end
