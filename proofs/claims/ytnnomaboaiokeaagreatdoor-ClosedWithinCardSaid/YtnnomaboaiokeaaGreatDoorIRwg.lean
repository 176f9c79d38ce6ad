import Derived.Test.YtnnomaboaiokeaaGreatDoorITyp
namespace Go.Proofs.YtnnomaboaiokeaaGreatDoor.Abs
open Go.RowKit
set_option linter.all false
inductive Nb:aF->Prop
 | mk {x}:x.fR.length<=16->(∀y ∈ x.aO,Nb y)->Nb x
inductive StB:aB->Prop
 | mk {s}:(∀x ∈ s.aO,Nb x)->(∀t ∈ s.bQ,StB t)->(∀t ∈ s.eW,StB t)->StB s
theorem Nb.nil {o:cF} {t k v a:Int} (h:o.length<=16):Nb ⟨o,t,k,v,[],a⟩:=.mk h λy hy=>nomatch hy
theorem In {α:Type} {P:α->Prop} {x:α} (h:P x):∀y ∈ [x],P y:=λy hy=>by obtain rfl:=zG.1 hy;exact h
theorem Vm {α:Type} {P:α->Prop} {x y:α} (h:P x) (k:P y):∀z ∈ [x,y],P z:=λz hz=>by
 rcases AE.1 hz with rfl | hz
 ·exact h
 ·exact In k z hz
theorem all3 {α:Type} {P:α->Prop} {x y z:α} (h:P x) (k:P y) (l:P z):∀u ∈ [x,y,z],P u:=λu hu=>by
 rcases AE.1 hu with rfl | hu
 ·exact h
 ·exact Vm k l u hu
theorem Oz.len {o:cF} {x y:aF} {t:Int} (h:Oz o x y t):o.length<=16:=by
 rcases h with ⟨h,_⟩ | ⟨h,_⟩ | ⟨h,_⟩ | ⟨h,_⟩ | ⟨h,_⟩
 ·rcases h with rfl | rfl <;> decide
 ·rcases h with rfl | rfl | rfl <;> decide
 ·subst h;decide
 ·rcases h with rfl | rfl <;> decide
 ·rcases h with rfl | rfl | rfl | rfl | rfl <;> decide
section
variable {vs:List aL} {sc:List Int}
theorem TX.opB {x:aF} (h:TX vs sc x):Nb x:=by
 induction h with
 | num=>exact .nil (by decide)
 | var _ _ _=>exact .nil (by decide)
 | index _ _ _ _ _ _ ih=>exact .mk (by simp only;decide) (In ih)
 | un h _ ih=>exact .mk (by simp only;rcases h with rfl | rfl <;> decide) (In ih)
 | bin _ _ h ih1 ih2=>exact .mk h.len (Vm ih1 ih2)
 | sel _ _ _ _ _ ih1 ih2 ih3=>exact .mk (by simp only;decide) (all3 ih1 ih2 ih3)
 | long _ _ ih=>exact .mk (by simp only;decide) (In ih)
 | wide _ _ _ _ ih1 ih2=>exact .mk (by simp only;decide) (Vm ih1 ih2)
 | half h _ _ ih=>exact .mk (by simp only;rcases h with rfl | rfl <;> decide) (In ih)
theorem GU.opB {p:aL} {x:aF} (h:GU vs sc p x):Nb x:=by
 cases h with
 | arr _ _ _ _ _=>exact .nil (by decide)
 | pub _ h _=>exact h.opB
 | val _ _ h _=>exact h.opB
theorem AU.each {ps:List aL} {l:List aF} (h:AU vs sc ps l) {x:aF} (hx:x ∈ l):∃p ∈ ps,GU vs sc p x:=by
 obtain ⟨i,hi⟩:=xfh hx;have hlt:=(uG.1 hi).1;exact ⟨ps[i]'(by rw [←h.1];exact hlt),Ln _,h.2 i _ x (uS _) hi⟩
variable {sg:PP} {res:Int} {l:Bool} {n n':Nat} {sc':List Int} {ss:List aB}
theorem yD {α:Type} {P:α->Prop} {x:α} {l:List α} (h:P x) (k:∀y ∈ l,P y):∀y ∈ x::l,P y:=λy hy=>by
 rcases AE.1 hy with rfl | hy
 ·exact h
 ·exact k y hy
theorem xV {α:Type} {P:α->Prop}:∀y ∈ ([]:List α),P y:=λy hy=>nomatch hy
end
theorem Mc {v:Int} {as:List Int}:bK (xY v as) λr=>as=[]->r=v:=by
 unfold xY;refine bK.bind (P:=λy=>y=true ∨ y=false/\0<=v/\v<as.length) ?_ λy hy=>?_
 ·refine bK.iteb (λ_=>.some (.inl rfl)) λh=>.some ?_;have h:=LY h
  by_cases h2:(as.length:Int)<=v
  ·exact .inl (AB h2)
  ·exact .inr ⟨xeo h2,by omega,by omega⟩
 ·refine bK.iteb (λ_=>.some λ_=>rfl) λh=>?_
  rcases hy with e | ⟨_,h0,h1⟩
  ·rw [e] at h;cases h
  ·exact (bK.idx h0 h1 (Q:=λ_=>True) λ_ _=>trivial).bind λx _=>.some λe=>by rw [e] at h1;simp at h1;omega
structure XR (as:List Int) (x y:aF):Prop where
 sz:xz y=xz x
 op:Nb x->Nb y
 id:as=[]->y=x
structure XLR (as:List Int) (l r:List aF):Prop where
 len:r.length=l.length
 sz:rB r=rB l
 op:(∀x ∈ l,Nb x)->∀y ∈ r,Nb y
 id:as=[]->r=l
theorem XLR.nil {as:List Int}:XLR as [] []:=⟨rfl,rfl,λh=>h,λ_=>rfl⟩
theorem XLR.cons {as:List Int} {x y:aF} {l r:List aF} (h:XR as x y) (k:XLR as l r):XLR as (x::l) (y::r):=
 ⟨by rw [dT,dT,k.len],by rw [rB,rB,h.sz,k.sz],λho=>yD (h.op (ho x xek)) (k.op λz hz=>ho z (LZ _ hz)),λe=>by rw [h.id e,k.id e]⟩
theorem RP {f:aF->List Int->Option aF} {l:List aF} {as:List Int} (hf:∀x ∈ l,bK (f x as) (XR as x)) (hl:l.length<=100000000) :
  ∀(k v:Nat) (acc:List aF),l.length<v+k->v<=l.length->acc.length=v->bK (tV f l as k acc (v:Int)) λr=>∃r',r=acc++r'/\XLR as (l.drop v) r':=by
 intro k
 induction k with
 | zero=>intro v acc h1 h2;omega
 | succ k ih=>
   intro v acc h1 h2 h3;unfold tV
   by_cases hv:v<l.length
   ·have hd:l.drop v=l[v]::l.drop (v+1):=MT hv;have e:bM l (v:Int)=some l[v]:=vV (uS hv);rw [if_pos (AB (by omega)),e,iJ];refine (hf _ (Ln hv)).bind λy hy=>bK.need (by simp only [dT,eI];omega) ?_;rw [cR (n:=(v:Int)+1) (by omega) (by omega),show ((v:Int)+1)=((v+1:Nat):Int) by omega];refine (ih (v+1) _ (by omega) (by omega) (by rw [mB,uF,h3])).mono λr hr=>?_;obtain ⟨r',rfl,hr⟩:=hr;exact ⟨y::r',by simp,by rw [hd];exact .cons hy hr⟩
   ·rw [if_neg (by rw [Bq];omega),Sw (by omega)];exact .some ⟨[],by simp,.nil⟩
theorem LL:∀n:Nat,(∀(x:aF) (as:List Int),2*xz x<n->xz x<=100000000->bK (rD n x as) (XR as x))/\(∀(l:List aF) (as:List Int),2*rB l+1<n->rB l<=100000000->bK (tI n l as) (XLR as l)):=by
 intro n
 induction n with
 | zero=>exact ⟨λx as h=>by omega,λl as h=>by omega⟩
 | succ n ih=>
   refine ⟨λx as h hb=>?_,λl as h hb=>?_⟩
   ·show bK (uM (tI n) n x as) _;unfold uM;have hz:=Bp x;refine Mc.bind λv hv=>(ih.2 _ as (by omega) (by omega)).bind λr hr=>.some ⟨?_,λho=>?_,λe=>?_⟩
    ·rw [Bp,Bp,hr.sz]
    ·obtain ⟨h1,h2⟩:=ho;exact .mk h1 (hr.op h2)
    ·cases x;rw [hv e,hr.id e]
   ·show bK (tH (rD n) n l as) _;unfold tH;have hl:=vS l
    have:=RP (f:=rD n) (l:=l) (as:=as) (λx hx=>by
     have h1:=AV hx;exact ih.1 x as (by omega) (by omega)) (by omega) n 0 [] (by omega) (by omega) rfl
    refine bK.bind this λr hr=>.some ?_;obtain ⟨r',rfl,hr⟩:=hr;exact hr
theorem LK {n:Nat} {x:aF} {as:List Int} (h:2*xz x<n) (hb:xz x<=100000000):bK (rD n x as) (XR as x):=(LL n).1 x as h hb
theorem Pw {n:Nat} {l:List aF} {as:List Int} (h:2*rB l+1<n) (hb:rB l<=100000000):bK (tI n l as) (XLR as l):=(LL n).2 l as h hb
mutual
def SI:aB->Nat
 | ⟨_,_,_,_,b,e,_⟩=>1+uI b+uI e
def uI:List aB->Nat
 | []=>0
 | x::l=>SI x+uI l
end
theorem Nl (a b:List aB):uI (a++b)=uI a+uI b:=by
 induction a with
 | nil=>rw [gC,uI,CU]
 | cons x a ih=>rw [iD,uI,uI,ih,GW]
inductive NCS:aB->Prop
 | ret {x a}:NCS ⟨[114,101,116,117,114,110],-1,0,[x],[],[],a⟩
 | st {o v f l b e a}:o ≠ [99,97,108,108]->o ≠ [114,101,116,117,114,110]->(∀t ∈ b,NCS t)->(∀t ∈ e,NCS t)->NCS ⟨o,v,f,l,b,e,a⟩
structure Sz (x:aJ):Prop where
 lo:0<=x.eR
 hi:x.eR<=30000
 ok:x.e_=0->x.eR<=16384
 e:x.e_=0 ∨ x.e_=161
structure CtR (x r:aJ):Prop where
 p:r.p_=x.p_
 f:r.f_=x.f_
 s:r.eR=x.eR+1
 e:r.e_=if 16384<x.eR+1 then 161 else x.e_
theorem Gi {x:aJ} (h0:0<=x.eR) (h1:x.eR<=1000000000):bK (dK x) (CtR x):=by
 unfold dK;rw [cR (n:=x.eR+1) (by omega) (by omega)];refine bK.iteb (λh=>.some ⟨rfl,rfl,rfl,?_⟩) (λh=>.some ⟨rfl,rfl,rfl,?_⟩)
 ·rw [if_pos (AD h)]
 ·rw [if_neg (LY h)]
theorem CtR.sz {x r:aJ} (h:CtR x r) (hs:Sz x) (hx:x.eR<=29999):Sz r:=by
 have h1:=h.s;have h2:=h.e;have h3:=hs.lo;refine ⟨by omega,by omega,λe=>?_,?_⟩
 ·rw [h2] at e;split at e
  ·omega
  ·omega
 ·rw [h2];split
  ·exact .inr rfl
  ·exact hs.e
structure PR (x:aJ) (l:List aB) (r:List aB × aJ):Prop where
 p:r.2.p_=x.p_
 f:r.2.f_=x.f_
 s:Sz r.2
 id:r.2.e_=0->x.e_=0/\r.1=l/\r.2.eR=x.eR+uI l
 ok:x.e_=0->x.eR+uI l<=16384->r.2.e_=0
def back0:aB:=⟨[114,101,116,117,114,110],-1,0,[],[],[],-1⟩
inductive FS (p:bH) (rk:Int->Nat) (m:Nat):aB->Prop
 | ret {x a}:Nb x->FS p rk m ⟨[114,101,116,117,114,110],-1,0,[x],[],[],a⟩
 | call {v f xs a fn}:bM p.bF f=some fn->rk f<m->xs.length<=fn.aX.length->(∀x ∈ xs,Nb x)->FS p rk m ⟨[99,97,108,108],v,f,xs,[],[],a⟩
 | st {o v f l b e a}:o ≠ [99,97,108,108]->o ≠ [114,101,116,117,114,110]->(∀x ∈ l,Nb x)->(∀t ∈ b,FS p rk m t)->(∀t ∈ e,FS p rk m t)->FS p rk m ⟨o,v,f,l,b,e,a⟩
structure PG (p:bH) (rk:Int->Nat):Prop where
 fs:∀k fn,bM p.bF k=some fn->∀t ∈ fn.bQ,FS p rk (rk k) t
 sz:∀k fn,bM p.bF k=some fn->tX fn.bQ<=3001
 vl:∀k fn,bM p.bF k=some fn->fn.aX.length<=250/\0<=fn.bC/\fn.bC<=fn.aX.length
structure Ok (t:aB):Prop where
 nc:NCS t
 st:StB t
 tzb:tz t<=3001*SI t
theorem Ok.all {l:List aB} (h:∀t ∈ l,Ok t):tX l<=3001*uI l:=by
 induction l with
 | nil=>exact KH _
 | cons x l ih=>
   have h1:=(h x xek).tzb;have h2:=ih λt ht=>h t (LZ _ ht);rw [tX,uI];omega
structure VR (x r:aJ):Prop where
 f:r.f_={ x.f_ with aX:=r.f_.aX }
 l:x.f_.aX.length<=4096->r.f_.aX.length<=4096
theorem VR.refl (x:aJ):VR x x:=⟨rfl,λh=>h⟩
theorem VR.of {x r:aJ} (h:r.f_=x.f_):VR x r:=⟨by rw [h],λk=>by rw [h];exact k⟩
theorem VR.trans {x y z:aJ} (h:VR x y) (k:VR y z):VR x z:=⟨by rw [k.f,h.f],λe=>k.l (h.l e)⟩
structure VC (x r:aJ):Prop where
 p:r.p_=x.p_
 v:VR x r
 s:r.eR=x.eR
 e:r.e_=x.e_ ∨ r.e_=161
theorem VC.sz {x r:aJ} (h:VC x r) (hs:Sz x):Sz r:=by
 have h1:=h.s;refine ⟨by rw [h1];exact hs.lo,by rw [h1];exact hs.hi,λe=>?_,?_⟩
 ·rw [h1]
  rcases h.e with k | k
  ·exact hs.ok (by rw [←k];exact e)
  ·rw [k] at e;cases e
 ·rcases h.e with k | k
  ·rw [k];exact hs.e
  ·exact .inr k
theorem VC.zero {x r:aJ} (h:VC x r) (e:r.e_=0):x.e_=0:=by
 rcases h.e with k | k
 ·rw [←k];exact e
 ·rw [k] at e;cases e
theorem Ig {x:aJ} {v:aL}:bK (dJ x v) λr=>VC x r.2:=by
 unfold dJ;refine bK.iteb (λh=>.some ⟨rfl,.of rfl,rfl,.inr rfl⟩) (λh=>?_);have h:=LY h;refine bK.need (by simp only [dT,eI];omega) (.some ⟨rfl,⟨rfl,λ_=>?_⟩,rfl,.inl rfl⟩);show (x.f_.aX++[v]).length<=4096;rw [mB,uF];omega
structure FR (x:aJ) (r:List aB × aJ):Prop where
 p:r.2.p_=x.p_
 v:VR x r.2
 s:Sz r.2
 len:(r.1.length:Int)+x.eR<=r.2.eR
 out:r.2.e_=0->x.e_=0/\(∀t ∈ r.1,Ok t)/\x.eR+uI r.1<=r.2.eR
structure BkS (b:aB):Prop where
 bo:b.bQ=[]
 el:b.eW=[]
 op:(b.fR=[114,101,116,117,114,110]/\b.fI=-1) ∨ b.fR=[118,97,114] ∨ b.fR=[115,101,116]
theorem Qf {o:cF} {v f:Int} {y:aF} {a:Int} (h1:o ≠ [99,97,108,108]) (h2:o ≠ [114,101,116,117,114,110]) (ho:Nb y) (hz:xz y<=3000):Ok ⟨o,v,f,[y],[],[],a⟩:=
 ⟨.st h1 h2 xV xV,.mk (In ho) xV xV,by rw [tz,rB,rB,tX,SI,uI];omega⟩
theorem Tf:([118,97,114]:cF) ≠ [99,97,108,108]:=by decide
theorem Te:([118,97,114]:cF) ≠ [114,101,116,117,114,110]:=by decide
theorem set_nc:([115,101,116]:cF) ≠ [99,97,108,108]:=by decide
theorem set_nr:([115,101,116]:cF) ≠ [114,101,116,117,114,110]:=by decide
theorem To {x:aJ} {y:aF} {b:aB} (hb:BkS b) (ho:Nb y) (hz:xz y<=3000):bK (eC x y b) λr=>VC x r.2/\Ok r.1/\SI r.1=1:=by
 obtain ⟨h1,h2,h3⟩:=hb;obtain ⟨o,v,f,l,bo,el,a⟩:=b;simp only at h1 h2 h3;subst h1 h2;have hs:∀v f l a,SI ⟨o,v,f,l,[],[],a⟩=1:=λv f l a=>by rw [SI,uI]
 unfold eC;refine bK.iteb (λh=>?_) (λh=>?_)
 ·have h:o=[118,97,114]:=AD h;subst h;exact Ig.bind λr hr=>.some ⟨hr,Qf Tf Te ho hz,hs _ _ _ _⟩
 ·refine .some ⟨⟨rfl,.refl x,rfl,.inl rfl⟩,?_,hs _ _ _ _⟩
  rcases h3 with ⟨rfl,rfl⟩ | rfl | rfl
  ·exact ⟨.ret,.mk (In ho) xV xV,by show tz ⟨_,_,_,[y],[],[],_⟩<=3001*SI ⟨_,_,_,[y],[],[],_⟩;rw [tz,rB,rB,tX,SI,uI];omega⟩
  ·exact Qf Tf Te ho hz
  ·exact Qf set_nc set_nr ho hz
theorem QY {x:aJ} {s b:aB} {as:List Int} {fn:aT} (h:bM x.p_.bF s.gJ=some fn) (hb:BkS b):bK (jI x s as b) BkS:=by
 unfold jI;rw [h,iJ];refine bK.iteb (λ_=>bK.iteb (λ_=>.some ⟨hb.bo,hb.el,hb.op⟩) (λ_=>.some hb)) (λ_=>bK.iteb (λ_=>.some ⟨rfl,rfl,.inr (.inl rfl)⟩) (λ_=>Mc.bind λv _=>.some ⟨rfl,rfl,.inr (.inr rfl)⟩))
structure AR (x:aJ) (k:Nat) (n:Int) (r:List aB × List Int × aJ):Prop where
 p:r.2.2.p_=x.p_
 v:VR x r.2.2
 s:Sz r.2.2
 hi:r.2.2.eR<=x.eR+n
 own:r.2.1.length=k
 len:(r.1.length:Int)+x.eR<=r.2.2.eR
 out:r.2.2.e_=0->x.e_=0/\(∀t ∈ r.1,Ok t)/\x.eR+uI r.1<=r.2.2.eR
theorem args_l1 {n:Nat} {s:aB} {as:List Int} {fn:aT} (hl:s.aO.length<=fn.aX.length) (hv:fn.aX.length<=250) (ho:∀y ∈ s.aO,Nb y) (hz:rB s.aO<=3000) (hn:6002<n) {x0:aJ} (h0:0<=x0.eR) (h1:x0.eR<=20000) :
  ∀(k v:Nat) (acc:List aB) (own:List Int) (x:aJ),s.aO.length<v+k->v<=s.aO.length->AR x0 v v (acc,own,x)->bK (eF n s as fn k acc own (v:Int) x) (AR x0 s.aO.length s.aO.length):=by
 intro k
 induction k with
 | zero=>intro v acc own x h1 h2;omega
 | succ k ih=>
   intro v acc own x h2 h3 ha;unfold eF
   by_cases hv2:v<s.aO.length
   ·have hg:=uS hv2;have e:bM s.aO (v:Int)=some s.aO[v]:=vV hg;have hm:s.aO[v] ∈ s.aO:=Ln hv2;have hzm:=AV hm;have hi:=ha.hi;have hlo:=ha.len;have how:own.length=v:=ha.own;simp only at hi hlo;rw [if_pos (AB (by omega)),e,iJ,cR (n:=(v:Int)+1) (by omega) (by omega),show ((v:Int)+1)=((v+1:Nat):Int) by omega]
    have step:∀(o:cF) (u:aL),o ≠ [99,97,108,108]->o ≠ [114,101,116,117,114,110]->bK ((dK x).bind λx35=>(dJ x35 u).bind λx37=>gY (own.length+[x37.1].length<=1073741824) <| (rD n s.aO[v] as).bind λx44=>gY (acc.length+[(aB.mk o x37.1 (0:Int) [x44] [] [] s.eU)].length<=1073741824) <| some ((acc++[(aB.mk o x37.1 (0:Int) [x44] [] [] s.eU)]),(own++[x37.1]),x37.2)) (AR x0 (v+1) (v+1:Nat)):=by
     intro o u ho1 ho2;refine (Gi (x:=x) ha.s.lo (by omega)).bind λx1 g1=>Ig.bind λx2 g2=>bK.need (by simp only [dT,eI];omega) ((LK (n:=n) (by omega) (by omega)).bind λy hy=>bK.need (by simp only [dT,eI];omega) ?_);have hs1:Sz x1:=g1.sz ha.s (by show x.eR<=29999;omega);have e1:=g1.s;have e2:=g2.s;refine .some ⟨g2.p.trans (g1.p.trans ha.p),ha.v.trans ((VR.of g1.f).trans g2.v),g2.sz hs1,?_,?_,?_,λe0=>?_⟩
     ·show x2.2.eR<=_;omega
     ·show (own++[x2.1]).length=_;rw [mB,uF,how]
     ·show ((acc++[_]).length:Int)+_<=x2.2.eR;rw [mB,uF];omega
     ·have k1:=g2.zero e0
      have k2:x.e_=0:=by
       have:=g1.e;rw [k1] at this
       split at this
       ·cases this
       ·exact this.symm
      obtain ⟨q1,q2,q3⟩:=ha.out k2;simp only at q2 q3;refine ⟨q1,λt ht=>?_,?_⟩
      ·rcases zH.1 ht with ht | ht
       ·exact q2 t ht
       ·obtain rfl:=zG.1 ht;exact Qf ho1 ho2 (hy.op (ho _ hm)) (by rw [hy.sz];omega)
      ·show _+(uI (acc++[_]):Int)<=x2.2.eR;rw [Nl,uI,SI,uI];omega
    refine bK.bind (P:=AR x0 (v+1) (v+1:Nat)) ?_ λy hy=>ih (v+1) _ _ _ (by omega) (by omega) hy;refine bK.iteb (λ_=>Mc.bind λw _=>bK.need (by simp only [dT,eI];omega) (.some ?_)) (λ_=>?_)
    ·exact ⟨ha.p,ha.v,ha.s,by show x.eR<=_;omega,by show (own++[w]).length=_;rw [mB,uF,how],ha.len,ha.out⟩
    ·have hv3:v<fn.aX.length:=by omega
     rw [vV (uS hv3),iJ];exact bK.iteb (λ_=>step _ _ (by decide) (by decide)) (λ_=>step _ _ (by decide) (by decide))
   ·rw [if_neg (by rw [Bq];omega)];have:v=s.aO.length:=by omega
    subst this;exact .some ha
theorem VC.trans {x y z:aJ} (h:VC x y) (k:VC y z):VC x z:=⟨k.p.trans h.p,h.v.trans k.v,k.s.trans h.s,by
 rcases k.e with e | e
 ·rw [e];exact h.e
 ·exact .inr e⟩
theorem PH {fn:aT} (hv:fn.aX.length<=250):∀(k v:Nat) (own:List Int) (x:aJ),(fn.aX.drop fn.bC.toNat).length<v+k->v<=(fn.aX.drop fn.bC.toNat).length->own.length<=300+v->bK (eE fn k own (v:Int) x) λr=>VC x r.2:=by
 have hd:(fn.aX.drop fn.bC.toNat).length<=250:=by rw [OI];omega
 intro k
 induction k with
 | zero=>intro v own x h1 h2;omega
 | succ k ih=>
   intro v own x h1 h2 h3;unfold eE
   by_cases hv2:v<(fn.aX.drop fn.bC.toNat).length
   ·rw [if_pos (AB (by omega)),vV (uS hv2),iJ];refine Ig.bind λr hr=>bK.need (by simp only [dT,eI];omega) ?_;rw [cR (n:=(v:Int)+1) (by omega) (by omega),show ((v:Int)+1)=((v+1:Nat):Int) by omega];exact (ih (v+1) _ _ (by omega) (by omega) (by rw [mB,uF];omega)).mono λz hz=>hr.trans hz
   ·rw [if_neg (by rw [Bq];omega)];exact .some ⟨rfl,.refl x,rfl,.inl rfl⟩
theorem FR.app {x0 x:aJ} {acc:List aB} {r:List aB × aJ} (h:FR x0 (acc,x)) (k:FR x r):FR x0 (acc++r.1,r.2):=by
 have h1:=h.len;have h2:=k.len;simp only at h1;refine ⟨k.p.trans h.p,h.v.trans k.v,k.s,?_,λe=>?_⟩
 ·show ((acc++r.1).length:Int)+_<=r.2.eR;rw [mB];omega
 ·obtain ⟨q1,q2,q3⟩:=k.out e;obtain ⟨p1,p2,p3⟩:=h.out q1;refine ⟨p1,λt ht=>?_,?_⟩
  ·rcases zH.1 ht with ht | ht
   ·exact p2 t ht
   ·exact q2 t ht
  ·show _+(uI (acc++r.1):Int)<=r.2.eR;simp only at p3;rw [Nl];omega
theorem FR.none {x0 x:aJ} {acc:List aB} (h:FR x0 (acc,x)) (e:x.e_ ≠ 0):FR x0 ([],x):=by
 have h1:=h.len;simp only at h1;exact ⟨h.p,h.v,h.s,by show ((([]:List aB).length:Nat):Int)+_<=x.eR;rw [eI];omega,λk=>absurd k e⟩
theorem FR.start {x:aJ} (hs:Sz x):FR x ([],x):=⟨rfl,.refl x,hs,by show ((([]:List aB).length:Nat):Int)+_<=x.eR;rw [eI];omega,λe=>⟨e,λt ht=>(nomatch ht),by show _+((uI []:Nat):Int)<=x.eR;rw [uI];omega⟩⟩
theorem Sf {fs:aJ->aB->List Int->aB->Option (List aB × aJ)} {l:List aB} {as:List Int} {b:aB} {p:bH} (hf:∀s ∈ l,∀x,x.e_=0->Sz x->x.p_=p->bK (fs x s as b) (FR x)) (hl:l.length<=100000000) {x0:aJ} (hp:x0.p_=p) (h0:0<=x0.eR) :
  ∀(k v:Nat) (acc:List aB) (x:aJ),l.length<v+k->v<=l.length->FR x0 (acc,x)->bK (dC fs l as b k acc (v:Int) x) λy=>bK (y.elim (λa=>some (a.1,a.2)) (λa=>some a)) (FR x0):=by
 intro k
 induction k with
 | zero=>intro v acc x h1 h2;omega
 | succ k ih=>
   intro v acc x h1 h2 ha;unfold dC
   by_cases hv:v<l.length
   ·have hg:=uS hv;rw [if_pos (AB (by omega)),vV hg,iJ];refine bK.iteb (λh=>.some (.some ?_)) (λh=>?_)
    ·exact ha.none (by simpa using h)
    ·have h:x.e_=0:=by simpa using h
     refine (hf _ (Ln hv) x h ha.s (ha.p.trans hp)).bind λr hr=>?_;have l1:=ha.len;have l2:=hr.len;have l3:=hr.s.hi;have l4:=ha.s.lo;simp only at l1 l4;refine bK.need (by omega) ?_;rw [cR (n:=(v:Int)+1) (by omega) (by omega),show ((v:Int)+1)=((v+1:Nat):Int) by omega];exact ih (v+1) _ _ (by omega) (by omega) (ha.app hr)
   ·rw [if_neg (by rw [Bq];omega)];exact .some (.some ha)
section
variable {p:bH} {rk:Int->Nat}
set_option maxRecDepth 20000 in
theorem RN (hp:PG p rk):∀n:Nat,
  (∀(m:Nat) (x:aJ) (l:List aB) (as:List Int) (b:aB),m*20000+4*tX l+2<n->tX l<=3001->(∀t ∈ l,FS p rk m t)->Sz x->x.p_=p->BkS b->bK (dV n x l as b) (FR x)) ∧
  (∀(m:Nat) (x:aJ) (s:aB) (as:List Int) (b:aB),m*20000+4*tz s<n->tz s<=3001->FS p rk m s->x.e_=0->Sz x->x.p_=p->BkS b->bK (fH n x s as b) (FR x)) ∧
  (∀(m:Nat) (x:aJ) (s:aB) (as:List Int) (b:aB) (fn:aT),m*20000<=n->bM p.bF s.gJ=some fn->rk s.gJ<m->s.aO.length<=fn.aX.length->(∀y ∈ s.aO,Nb y)->rB s.aO<=3000->x.e_=0->Sz x->x.p_=p->BkS b->bK (kJ n x s as b) (FR x)):=by
 intro n
 induction n with
 | zero=>exact ⟨λm x l as b h=>by omega,λm x s as b h=>by omega,λm x s as b fn h _ h2=>by omega⟩
 | succ n ih=>
   obtain ⟨ihB,ihS,ihC⟩:=ih;refine ⟨λm x l as b h hz hl hs hx hb=>?_,λm x s as b h hz hf he hs hx hb=>?_,λm x s as b fn h hi hr hl ho hz he hs hx hb=>?_⟩
   ·show bK (fC (fH n) n x l as b) _;unfold fC;have hlen:=Ek l
    exact bK.bind (Sf (fs:=fH n) (l:=l) (p:=p) (λs hm y hy hz2 hp2=>by
     have h1:=Ha hm;exact ihS m y s as b (by generalize m*20000=M at h ⊢;omega) (by omega) (hl s hm) hy hz2 hp2 hb) (by omega) hx hs.lo n 0 [] x (by omega) (by omega) (.start hs)) λy hy=>hy
   ·show bK (dU (kJ n) (dV n) n x s as b) _;unfold dU;have hx0:=hs.ok he;cases hf with
    | @ret e a ho=>
      rw [tz,rB,rB] at h hz;rw [if_neg (show ¬ decide (([114,101,116,117,114,110]:cF)=[99,97,108,108])=true by decide)];refine (Gi hs.lo (by omega)).bind λx1 h1=>?_;rw [if_pos (show decide (([114,101,116,117,114,110]:cF)=[114,101,116,117,114,110])=true by decide)];refine bK.eqn (v:=e) rfl ((LK (n:=n) (by omega) (by omega)).bind λy hy=>?_)
      have key:∀b',BkS b'->bK ((eC x1 y b').bind λx19=>some ([x19.1],x19.2)) (FR x):=λb' hb'=>(To hb' (hy.op ho) (by rw [hy.sz];omega)).bind λr hr=>by
       obtain ⟨r1,r2,r3⟩:=hr;have e1:=h1.s;have e2:=r1.s;refine .some ⟨r1.p.trans h1.p,(VR.of h1.f).trans r1.v,r1.sz (h1.sz hs (by omega)),?_,λe0=>⟨he,λt ht=>?_,?_⟩⟩
       ·show ((([r.1]:List aB).length:Nat):Int)+_<=r.2.eR;rw [uF];omega
       ·obtain rfl:=zG.1 ht;exact r2
       ·show _+((uI [r.1]:Nat):Int)<=r.2.eR;rw [uI,uI,r3];omega
      exact bK.iteb (λ_=>key _ ⟨hb.bo,hb.el,hb.op⟩) (λ_=>key _ hb)
    | @call v f xs a fn hi hr hl ho=>
      rw [tz] at h hz;rw [if_pos (show decide (([99,97,108,108]:cF)=[99,97,108,108])=true by decide)];exact (ihC m x _ as b fn (by omega) hi hr hl ho (by show rB xs<=3000;omega) he hs hx hb).bind λr hr=>.some hr
    | @st o v f l bo el a ho1 ho2 ho hn1 hn2=>
      rw [tz] at h hz;rw [if_neg (by rw [Bq];exact ho1)];refine (Gi hs.lo (by omega)).bind λx1 h1=>?_;rw [if_neg (by rw [Bq];exact ho2)];have hs1:=h1.sz hs (by omega);refine Mc.bind λv' hv'=>(Pw (n:=n) (by show 2*rB l+1<n;omega) (by show rB l<=100000000;omega)).bind λl' hl'=>?_;refine (ihB m x1 bo as b (by generalize m*20000=M at h ⊢;omega) (by omega) hn1 hs1 (h1.p.trans hx) hb).bind λr1 g1=>(ihB m r1.2 el as b (by generalize m*20000=M at h ⊢;omega) (by omega) hn2 g1.s (g1.p.trans (h1.p.trans hx)) hb).bind λr2 g2=>?_;have e1:=h1.s;have e2:=g1.len;have e3:=g2.len;refine .some ⟨g2.p.trans (g1.p.trans h1.p),(VR.of h1.f).trans (g1.v.trans g2.v),g2.s,?_,λe0=>?_⟩
      ·show (((([_]:List aB)).length:Nat):Int)+_<=r2.2.eR;rw [uF];omega
      ·obtain ⟨q1,q2,q3⟩:=g2.out e0;obtain ⟨p1,p2,p3⟩:=g1.out q1;have z1:=Ok.all q2;have z2:=Ok.all p2;have z3:rB l'=rB l:=hl'.sz;refine ⟨he,λt ht=>?_,?_⟩
       ·obtain rfl:=zG.1 ht;refine ⟨.st ho1 ho2 (λt ht=>(p2 t ht).nc) (λt ht=>(q2 t ht).nc),.mk (hl'.op ho) (λt ht=>(p2 t ht).st) (λt ht=>(q2 t ht).st),?_⟩;show tz ⟨o,v',f,l',r1.1,r2.1,a⟩<=3001*SI ⟨o,v',f,l',r1.1,r2.1,a⟩;rw [tz,SI,z3];omega
       ·show _+((uI [⟨o,v',f,l',r1.1,r2.1,a⟩]:Nat):Int)<=r2.2.eR;rw [uI,SI,uI];omega
   ·show bK (fL (dV n) n x s as b) _;unfold fL;have hx0:=hs.ok he;obtain ⟨hv1,hv2,hv3⟩:=hp.vl _ _ hi;have hm:1<=m:=by omega
    refine (Gi hs.lo (by omega)).bind λx1 h1=>?_;have hs1:=h1.sz hs (by omega);have e1:=h1.s;rw [h1.p,hx,hi,iJ];have hlen:=vS s.aO;refine bK.bind (P:=AR x1 s.aO.length s.aO.length) ?_ λy hy=>?_
    ·unfold mK;refine bK.bind (args_l1 (n:=n) (s:=s) (as:=as) (fn:=fn) hl hv1 ho hz (by omega) hs1.lo (by omega) n 0 [] [] x1 (by omega) (by omega) ⟨rfl,.refl x1,hs1,by show x1.eR<=_;omega,rfl,by show ((([]:List aB).length:Nat):Int)+_<=x1.eR;rw [eI];omega,λe=>⟨e,λt ht=>(nomatch ht),by show _+((uI []:Nat):Int)<=x1.eR;rw [uI];omega⟩⟩) λy hy=>.some hy
    ·refine bK.need ⟨hv2,hv3⟩ ?_;have d1:(fn.aX.drop fn.bC.toNat).length<=250:=by rw [OI];omega
     have d2:=hy.own;refine (PH hv1 n 0 y.2.1 y.2.2 (by omega) (by omega) (by omega)).bind λz hz2=>?_;have e2:=hy.len;have e3:=hz2.s;have hsz:=hz2.sz hy.s
     have hA:FR x (y.1,z.2):=⟨hz2.p.trans (hy.p.trans h1.p),(VR.of h1.f).trans (hy.v.trans hz2.v),hsz,by show (y.1.length:Int)+_<=z.2.eR;omega,λe0=>by
      obtain ⟨_,q2,q3⟩:=hy.out (hz2.zero e0);exact ⟨he,q2,by show _+(uI y.1:Int)<=z.2.eR;omega⟩⟩
     refine bK.iteb (λh2=>.some (hA.none (by simpa using h2))) (λh2=>?_);have hzp:z.2.p_=p:=hA.p.trans hx;refine (QY (x:=z.2) (s:=s) (b:=b) (as:=as) (fn:=fn) (by rw [hzp];exact hi) hb).bind λb' hb'=>?_;have hsz3:=hp.sz _ _ hi;refine (ihB (rk s.gJ) z.2 fn.bQ z.1 b' (by omega) hsz3 (hp.fs _ _ hi) hsz hzp hb').bind λr hr=>?_;have l1:=hA.len;have l2:=hr.len;have l3:=hr.s.hi;have l4:=hsz.lo;have l5:=hs.lo;simp only at l1;exact bK.need (by omega) (.some (hA.app hr))
structure MN (fn g:aT):Prop where
 f:g={ fn with aX:=g.aX,bQ:=g.bQ }
 v:g.aX.length<=4096
 ok:∀t ∈ g.bQ,Ok t
 sz:uI g.bQ<=16384
theorem VE (hp:PG p rk) {n:Nat} {i:Int} (hm:∀k,rk k<=64) (hn:1400000<=n):bK (uX n p i) λr=>(r.2=0->∃fn,bM p.bF i=some fn/\MN fn r.1)/\(0<=i->i<p.bF.length->r.2=0 ∨ r.2=161):=by
 unfold uX;refine bK.bind (P:=λy=>y=true/\¬ (0<=i/\i<p.bF.length) ∨ y=false/\0<=i/\i<p.bF.length) ?_ λy hy=>?_
 ·refine bK.iteb (λh=>.some (.inl ⟨rfl,?_⟩)) λh=>.some ?_
  ·have h:=AD h;omega
  ·have h:=LY h
   by_cases h2:(p.bF.length:Int)<=i
   ·exact .inl ⟨AB h2,by omega⟩
   ·exact .inr ⟨xeo h2,by omega,by omega⟩
 refine bK.iteb (λh=>.some ?_) (λh=>?_)
 ·rcases hy with ⟨_,h2⟩ | ⟨h2,_⟩
  ·exact ⟨λe=>absurd e (by decide),λh3 h4=>absurd ⟨h3,h4⟩ h2⟩
  ·rw [h2] at h;cases h
 ·rcases hy with ⟨h2,_⟩ | ⟨_,h0,h1⟩
  ·rw [h2] at h;cases h
  obtain ⟨fn,hfn⟩:∃fn,bM p.bF i=some fn:=by
   obtain ⟨r,e,_⟩:=bK.idx (l:=p.bF) h0 h1 (Q:=λ_=>True) λ_ _=>trivial;exact ⟨r,e⟩
  obtain ⟨hv1,_,_⟩:=hp.vl _ _ hfn;have h64:=hm i;have hsz:=hp.sz _ _ hfn;rw [hfn,iJ];refine bK.need (by omega) ?_;refine ((RN hp n).1 (rk i) ⟨p,fn,0,0⟩ fn.bQ [] back0 (by omega) hsz (hp.fs _ _ hfn) ⟨Sy _,(by decide:(0:Int)<=30000),λ_=>(by decide:(0:Int)<=16384),.inl rfl⟩ rfl ⟨rfl,rfl,.inl ⟨rfl,rfl⟩⟩).bind λr hr=>?_;refine bK.iteb (λh=>.some ⟨λe=>absurd e (by simpa using h),λ_ _=>hr.s.e⟩) (λh=>.some ⟨λ_=>⟨fn,rfl,?_⟩,λ_ _=>.inl rfl⟩);have h:r.2.e_=0:=by simpa using h
  obtain ⟨_,q2,q3⟩:=hr.out h;have q4:=hr.s.ok h;have hvf:=hr.v.f;refine ⟨?_,hr.v.l (by show fn.aX.length<=4096;omega),q2,by show uI r.1<=16384;simp only at q3;omega⟩;show ({ r.2.f_ with bQ:=r.1 }:aT)=_;rw [hvf]
end
end Go.Proofs.YtnnomaboaiokeaaGreatDoor.Abs
namespace Go.Proofs.YtnnomaboaiokeaaGreatDoor.Abs
open Go.RowKit
set_option linter.all false
section
variable {c:aG} {rk:Int->Nat}
theorem TB.fs (hp:PO c rk) {j:Nat} {vs:List aL} {res:Int} {l:Bool} {n n':Nat} {sc sc':List Int} {ss:List aB} (h:TB (Eo c j) vs res l n sc ss n' sc'):∀s ∈ ss,FS c.p_ rk (rk j) s:=by
 have key:∀ {sc:List Int} {v f r:Int} {ps:List aL} {xs:List aF} {a:Int},Eo c j f r ps->AU vs sc ps xs->FS c.p_ rk (rk j) ⟨[99,97,108,108],v,f,xs,[],[],a⟩:=by
  intro sc v f r ps xs a h1 h2;obtain ⟨⟨l,k1,k2⟩,fn,k3,_,k5⟩:=h1;refine .call k3 (hp.rk _ l (vV k1) f k2) ?_ (λx hx=>by obtain ⟨p,_,h⟩:=h2.each hx;exact h.opB);rw [h2.1,k5,Ji];omega
 induction h with
 | nil=>exact xV
 | let_ h1 _ _ _ _ ih=>exact yD (.st (by decide) (by decide) (In h1.opB) xV xV) ih
 | var_ h1 _ _ _ ih=>exact yD (.st (by decide) (by decide) (In h1.opB) xV xV) ih
 | arr _ _ _ ih=>exact yD (.st (by decide) (by decide) xV xV xV) ih
 | callv h1 h2 _ _ _ _ ih=>exact yD (key h1 h2) ih
 | set _ _ _ h4 _ _ ih=>exact yD (.st (by decide) (by decide) (In h4.opB) xV xV) ih
 | calls _ _ _ h4 h5 _ _ ih=>exact yD (key h4 h5) ih
 | put _ _ _ h4 _ _ h7 _ _ ih=>exact yD (.st (by decide) (by decide) (Vm h4.opB h7.opB) xV xV) ih
 | do_ h1 h2 _ ih=>exact yD (key h1 h2) ih
 | if_ h1 _ _ _ _ ih1 ih2 ih3=>exact yD (.st (by decide) (by decide) (In h1.opB) ih1 ih2) ih3
 | for_ h1 _ h3 _ _ _ _ _ ih1 ih2=>exact yD (.st (by decide) (by decide) (Vm h1.opB h3.opB) ih1 xV) ih2
 | ret h1 _ _=>exact In (.ret h1.opB)
 | retc h1 _ h3=>exact In (key h1 h3)
theorem PO.pg (hp:PO c rk):PG c.p_ rk:=by
 have hm:∀ {k:Int} {fn:aT},bM c.p_.bF k=some fn->∃j:Nat,k=j/\c.p_.bF[j]? = some fn:=by
  intro k fn h
  obtain ⟨r,e⟩:∃r:Nat,k=r:=by
   unfold bM at h
   split at h
   ·exact ⟨k.toNat,by omega⟩
   ·cases h
  subst e;refine ⟨r,rfl,?_⟩;unfold bM at h;rw [if_pos (by omega)] at h;simpa using h
 refine ⟨λk fn h=>?_,λk fn h=>?_,λk fn h=>?_⟩
 ·obtain ⟨j,rfl,hj⟩:=hm h;obtain ⟨sc',ht⟩:=(hp.tf j fn hj).body;exact ht.fs hp
 ·obtain ⟨j,rfl,hj⟩:=hm h;exact hp.sz _ (CT hj)
 ·obtain ⟨j,rfl,hj⟩:=hm h;exact hp.co.vl _ (CT hj)
end
theorem MN.tz {fn g:aT} (h:MN fn g):tX g.bQ<=50000000:=by
 have h1:=Ok.all h.ok;have h2:=h.sz;omega
def mp (as:List Int) (v:Int):Int:=if v<0 ∨ (as.length:Int)<=v then v else (as[v.toNat]?).getD v
mutual
def fx (as:List Int):aF->aF
 | ⟨o,t,n,v,l,a⟩=>⟨o,t,n,mp as v,KL as l,a⟩
def KL (as:List Int):List aF->List aF
 | []=>[]
 | x::l=>fx as x::KL as l
end
theorem FJ (as:List Int) (x:aF):fx as x=⟨x.fR,x.cK,x.N_,mp as x.fI,KL as x.aO,x.eU⟩:=by cases x;rw [fx]
theorem PY (v:Int) (as:List Int):xY v as=some (mp as v):=by
 unfold xY mp
 by_cases h0:v<0
 ·rw [if_pos (AB h0),iJ,if_pos rfl,if_pos (.inl h0)]
 ·rw [if_neg (by simpa using h0),iJ]
  by_cases h1:(as.length:Int)<=v
  ·rw [if_pos (AB h1),if_pos (.inr h1)]
  ·rw [if_neg (by simpa using h1),if_neg (by omega)];have hl:v.toNat<as.length:=by omega
   unfold bM;rw [if_pos (by omega),uS hl];rfl
theorem fxL_l1 {f:aF->List Int->Option aF} {l:List aF} {as:List Int} (hf:∀x ∈ l,∀y,f x as=some y->y=fx as x) (hl:l.length<=1000000000) :
  ∀(k v:Nat) (acc r:List aF),v<=l.length->tV f l as k acc (v:Int)=some r->r=acc++KL as (l.drop v):=by
 intro k
 induction k with
 | zero=>intro v acc r _ h;exact nomatch h
 | succ k ih=>
   intro v acc r hv h;unfold tV at h
   by_cases hv1:v<l.length
   ·have hd:l.drop v=l[v]::l.drop (v+1):=MT hv1;have e:bM l (v:Int)=some l[v]:=by unfold bM;rw [if_pos (by omega),CS,uS hv1]
    rw [if_pos (AB (by omega)),e,iJ] at h;obtain ⟨y,hy,h⟩:=aI h;obtain ⟨_,h⟩:=cH h;rw [cR (n:=(v:Int)+1) (by omega) (by omega),show ((v:Int)+1)=((v+1:Nat):Int) by omega] at h;rw [ih (v+1) _ r (by omega) h,hd,KL,hf _ (Ln hv1) _ hy];simp
   ·rw [if_neg (by rw [Bq];omega)] at h;rw [←bU h,Sw (by omega),KL,gS]
theorem UG:∀n:Nat,(∀(x y:aF) (as:List Int),xz x<=1000000000->rD n x as=some y->y=fx as x)/\(∀(l r:List aF) (as:List Int),rB l<=1000000000->tI n l as=some r->r=KL as l):=by
 intro n
 induction n with
 | zero=>exact ⟨λx y as _ h=>(nomatch h),λl r as _ h=>(nomatch h)⟩
 | succ n ih=>
   refine ⟨λx y as hz h=>?_,λl r as hz h=>?_⟩
   ·have h:uM (tI n) n x as=some y:=h;unfold uM at h;rw [PY,iJ] at h;obtain ⟨z,hz1,h⟩:=aI h;have:=Bp x;rw [←bU h,FJ,ih.2 _ _ _ (by omega) hz1]
   ·have h:tH (rD n) n l as=some r:=h;unfold tH at h;obtain ⟨z,hz1,h⟩:=aI h;have hl:=vS l;have:=fxL_l1 (λx hx y hy=>ih.1 x y as (Jj (AV hx) hz) hy) (by omega) n 0 [] z (KH _) hz1;rw [←bU h,this];rfl
theorem UF {n:Nat} {x y:aF} {as:List Int} (hz:xz x<=1000000000) (h:rD n x as=some y):y=fx as x:=(UG n).1 x y as hz h
theorem fxL_of {n:Nat} {l r:List aF} {as:List Int} (hz:rB l<=1000000000) (h:tI n l as=some r):r=KL as l:=(UG n).2 l r as hz h
inductive Ow (as:List Int) (fW:Int) (ps:List aL):List aL->List aF->Nat->List aB->List Int->List aL->Prop
 | nil {vs i}:Ow as fW ps vs [] i [] [] vs
 | arr {vs y l i o own vs'}:y.cK=4->Ow as fW ps vs l (i+1) o own vs'->Ow as fW ps vs (y::l) i o (mp as y.fI::own) vs'
 | val {vs y l i u o own vs'}:y.cK ≠ 4->ps[i]? = some u->Ow as fW ps (vs++[u]) l (i+1) o own vs'->Ow as fW ps vs (y::l) i (⟨if u.bS=1 then [108,101,116] else [118,97,114],vs.length,0,[fx as y],[],[],fW⟩::o) ((vs.length:Int)::own) vs'
def Dw (k n:Nat):List Int:=(List.range n).map λi=>((k+i:Nat):Int)
def OD (f:aT) (s:aB) (as:List Int) (b:aB):aB:=
 if s.fI=-2 then (if b.eU<0 then { b with eU:=s.eU } else b)
 else if s.fI=-1 then ⟨[118,97,114],-1,f.bX,[],[],[],s.eU⟩ else ⟨[115,101,116],mp as s.fI,0,[],[],[],s.eU⟩
def Fl (b:aB) (a:Int):aB:=if b.eU<0 then { b with eU:=a } else b
inductive Jh (p:bH):List aL->List aB->List Int->aB->List aB->List aL->Prop
 | nil {vs as b}:Jh p vs [] as b [] vs
 | call {vs s l as b f o1 own v1 o2 v2 o3 v3}:s.fR=[99,97,108,108]->bM p.bF s.gJ=some f->Ow as s.eU f.aX vs s.aO 0 o1 own v1->0<=f.bC->f.bC<=f.aX.length ->
    Jh p (v1++f.aX.drop f.bC.toNat) f.bQ (own++Dw v1.length (f.aX.drop f.bC.toNat).length) (OD f s as b) o2 v2->Jh p v2 l as b o3 v3->Jh p vs (s::l) as b ((o1++o2)++o3) v3
 | ret {vs s l as b y r o v}:s.fR=[114,101,116,117,114,110]->s.aO=y::r->b.fR ≠ [118,97,114]->Jh p vs l as b o v->Jh p vs (s::l) as b ([{ Fl b s.eU with gJ:=0,aO:=[fx as y] }]++o) v
 | retv {vs s l as b y r o v}:s.fR=[114,101,116,117,114,110]->s.aO=y::r->b.fR=[118,97,114]->Jh p (vs++[⟨[],b.gJ,0⟩]) l as b o v->Jh p vs (s::l) as b ([{ Fl b s.eU with fI:=vs.length,gJ:=0,aO:=[fx as y] }]++o) v
 | other {vs s l as b o1 v1 o2 v2 o3 v3}:s.fR ≠ [99,97,108,108]->s.fR ≠ [114,101,116,117,114,110]->Jh p vs s.bQ as b o1 v1->Jh p v1 s.eW as b o2 v2->Jh p v2 l as b o3 v3 ->
    Jh p vs (s::l) as b ([{ s with fI:=mp as s.fI,aO:=KL as s.aO,bQ:=o1,eW:=o2 }]++o3) v3
structure Gt (x r:aJ) (vs:List aL):Prop where
 e:x.e_=0
 p:r.p_=x.p_
 f:r.f_={ x.f_ with aX:=vs }
theorem Gt.vs {x r:aJ} {vs:List aL} (h:Gt x r vs):r.f_.aX=vs:=by rw [h.f]
theorem Gt.trans {x y z:aJ} {vs vs':List aL} (h:Gt x y vs) (k:Gt y z vs'):Gt x z vs':=⟨h.e,k.p.trans h.p,by rw [k.f,h.f]⟩
theorem Gt.refl {x:aJ} (h:x.e_=0):Gt x x x.f_.aX:=⟨h,rfl,rfl⟩
theorem Gj {x r:aJ} (h:dK x=some r) (he:r.e_=0):Gt x r x.f_.aX:=by
 unfold dK at h
 split at h
 ·have:=bU h;rw [←this] at he;cases he
 ·have:=bU h;subst this;exact ⟨he,rfl,rfl⟩
theorem Jp {x:aJ} {v:aL} {r:Int × aJ} (h:dJ x v=some r) (he:r.2.e_=0):r.1=(x.f_.aX.length:Int)/\Gt x r.2 (x.f_.aX++[v]):=by
 unfold dJ at h
 by_cases hc:(4096:Int)<=x.f_.aX.length
 ·rw [if_pos (AB hc)] at h;have:=bU h;rw [←this] at he;cases he
 ·rw [if_neg (by simpa using hc)] at h;obtain ⟨_,h⟩:=cH h;have:=bU h;subst this;refine ⟨?_,he,rfl,rfl⟩;simp only [mB,dT,eI];rw [cR (by omega) (by omega)];omega
theorem args_s {n:Nat} {s:aB} {as:List Int} {f:aT} (hz:rB s.aO<=1000000000):∀(k v:Nat) (acc:List aB) (own:List Int) (x:aJ) (r:List aB × List Int × aJ),v<=s.aO.length ->
  eF n s as f k acc own (v:Int) x=some r->r.2.2.e_=0->∃o own' vs',r.1=acc++o/\r.2.1=own++own'/\Ow as s.eU f.aX x.f_.aX (s.aO.drop v) v o own' vs'/\Gt x r.2.2 vs':=by
 have hl:=vS s.aO;intro k
 induction k with
 | zero=>intro v acc own x r _ h;exact nomatch h
 | succ k ih=>
   intro v acc own x r hv h he;unfold eF at h
   by_cases hv1:v<s.aO.length
   ·have hd:s.aO.drop v=s.aO[v]::s.aO.drop (v+1):=MT hv1;have e:bM s.aO (v:Int)=some s.aO[v]:=by unfold bM;rw [if_pos (by omega),CS,uS hv1]
    have hn:IntKind.i64.wrap ((v:Int)+1)=((v+1:Nat):Int):=(cR (by omega) (by omega)).trans (by omega);have hxz:xz s.aO[v]<=1000000000:=Jj (AV (Ln hv1)) hz;rw [if_pos (AB (by omega)),e,iJ] at h;obtain ⟨y,hy,h⟩:=aI h;rw [hn] at h;obtain ⟨o,own',vs',h1,h2,h3,h4⟩:=ih (v+1) _ _ _ r (by omega) h he
    by_cases h4t:s.aO[v].cK=4
    ·rw [if_pos (by simpa using h4t),PY,iJ] at hy;obtain ⟨_,hy⟩:=cH hy;obtain rfl:=bU hy;refine ⟨o,mp as s.aO[v].fI::own',vs',h1,by rw [h2];simp,?_,h4⟩;rw [hd];exact .arr h4t h3
    ·rw [if_neg (by simpa using h4t)] at hy;obtain ⟨u,hu,hy⟩:=aI hy
     have hu':f.aX[v]? = some u:=by
      unfold bM at hu;rw [if_pos (by omega),CS] at hu;exact hu
     by_cases hk:u.bS=1
     ·rw [if_pos (by simpa using hk)] at hy;obtain ⟨x1,hc,hy⟩:=aI hy;obtain ⟨x2,hf,hy⟩:=aI hy;obtain ⟨_,hy⟩:=cH hy;obtain ⟨x3,hx,hy⟩:=aI hy;obtain ⟨_,hy⟩:=cH hy;obtain rfl:=bU hy;have g4:Gt x2.2 r.2.2 vs':=h4;obtain ⟨f1,f2⟩:=Jp hf g4.e;have c1:=Gj hc f2.e;rw [c1.vs] at f1 f2;refine ⟨_,_,vs',h1.trans (GX _ _ _),h2.trans (GX _ _ _),?_,(c1.trans f2).trans g4⟩;rw [hd,UF hxz hx,f1];have:=Ow.val (as:=as) (fW:=s.eU) (l:=s.aO.drop (v+1)) (o:=o) (own:=own') (vs':=vs') h4t hu' (by rw [←f2.vs];exact h3);rw [if_pos hk] at this;exact this
     ·rw [if_neg (by simpa using hk)] at hy;obtain ⟨x1,hc,hy⟩:=aI hy;obtain ⟨x2,hf,hy⟩:=aI hy;obtain ⟨_,hy⟩:=cH hy;obtain ⟨x3,hx,hy⟩:=aI hy;obtain ⟨_,hy⟩:=cH hy;obtain rfl:=bU hy;have g4:Gt x2.2 r.2.2 vs':=h4;obtain ⟨f1,f2⟩:=Jp hf g4.e;have c1:=Gj hc f2.e;rw [c1.vs] at f1 f2;refine ⟨_,_,vs',h1.trans (GX _ _ _),h2.trans (GX _ _ _),?_,(c1.trans f2).trans g4⟩;rw [hd,UF hxz hx,f1];have:=Ow.val (as:=as) (fW:=s.eU) (l:=s.aO.drop (v+1)) (o:=o) (own:=own') (vs':=vs') h4t hu' (by rw [←f2.vs];exact h3);rw [if_neg hk] at this;exact this
   ·rw [if_neg (by rw [Bq];omega)] at h;obtain rfl:=bU h;exact ⟨[],[],x.f_.aX,by simp,by simp,by rw [Sw (by omega)];exact .nil,.refl he⟩
theorem RD (k n:Nat):Dw k (n+1)=(k:Int)::Dw (k+1) n:=by
 unfold Dw;rw [List.range_succ_eq_map,gT,xee]
 congr 1
 refine QN λi _=>?_;simp only [Function.comp];omega
theorem call_s {f:aT} (hl:(f.aX.drop f.bC.toNat).length<=1000000000):∀(k v:Nat) (own:List Int) (x:aJ) (r:List Int × aJ),v<=(f.aX.drop f.bC.toNat).length ->
  eE f k own (v:Int) x=some r->r.2.e_=0->r.1=own++Dw x.f_.aX.length ((f.aX.drop f.bC.toNat).drop v).length/\Gt x r.2 (x.f_.aX++(f.aX.drop f.bC.toNat).drop v):=by
 intro k
 induction k with
 | zero=>intro v own x r _ h;exact nomatch h
 | succ k ih=>
   intro v own x r hv h he;unfold eE at h
   by_cases hv1:v<(f.aX.drop f.bC.toNat).length
   ·have hd:(f.aX.drop f.bC.toNat).drop v=(f.aX.drop f.bC.toNat)[v]::(f.aX.drop f.bC.toNat).drop (v+1):=MT hv1;have e:bM (f.aX.drop f.bC.toNat) (v:Int)=some (f.aX.drop f.bC.toNat)[v]:=by unfold bM;rw [if_pos (by omega),CS,uS hv1]
    have hn:IntKind.i64.wrap ((v:Int)+1)=((v+1:Nat):Int):=(cR (by omega) (by omega)).trans (by omega);rw [if_pos (AB (by omega)),e,iJ] at h;obtain ⟨y,hy,h⟩:=aI h;obtain ⟨_,h⟩:=cH h;rw [hn] at h;obtain ⟨h1,h2⟩:=ih (v+1) _ _ r (by omega) h he;obtain ⟨f1,f2⟩:=Jp hy h2.e;rw [f2.vs] at h1 h2;rw [hd];refine ⟨?_,?_⟩
    ·rw [h1,f1,dT,RD,mB,uF,GX];rfl
    ·have:=f2.trans h2
     rwa [GX] at this
   ·rw [if_neg (by rw [Bq];omega)] at h;obtain rfl:=bU h;rw [Sw (by omega)];exact ⟨by simp [Dw],by rw [gS];exact .refl he⟩
theorem taken_s {x:aJ} {s b r:aB} {as:List Int} {f:aT} (h:jI x s as b=some r) (hf:bM x.p_.bF s.gJ=some f):r=OD f s as b:=by
 unfold jI at h;rw [hf,iJ] at h;unfold OD
 by_cases h2:s.fI=-2
 ·rw [if_pos (by simpa using h2)] at h;rw [if_pos h2]
  by_cases ha:b.eU<0
  ·rw [if_pos (AB ha)] at h;rw [if_pos ha,←bU h]
  ·rw [if_neg (by simpa using ha)] at h;rw [if_neg ha,←bU h]
 ·rw [if_neg (by simpa using h2)] at h;rw [if_neg h2]
  by_cases h1:s.fI=-1
  ·rw [if_pos (by simpa using h1)] at h;rw [if_pos h1,←bU h]
  ·rw [if_neg (by simpa using h1),PY,iJ] at h;rw [if_neg h1,←bU h]
section
variable {p:bH}
theorem Gk {x r:aJ} (h:dK x=some r):r.p_=x.p_:=by
 unfold dK at h
 split at h <;> (rw [←bU h])
theorem My {x:aJ} {v:aL} {r:Int × aJ} (h:dJ x v=some r):r.2.p_=x.p_:=by
 unfold dJ at h
 split at h
 ·rw [←bU h]
 ·obtain ⟨_,h⟩:=cH h;rw [←bU h]
theorem tell_p {x:aJ} {y:aF} {b:aB} {r:aB × aJ} (h:eC x y b=some r):r.2.p_=x.p_:=by
 unfold eC at h
 split at h
 ·obtain ⟨z,hz,h⟩:=aI h;rw [←bU h];exact My hz
 ·rw [←bU h]
theorem Vk {n:Nat} {s:aB} {as:List Int} {f:aT}:∀(k:Nat) (v:Int) (acc:List aB) (own:List Int) (x:aJ) (r:List aB × List Int × aJ),eF n s as f k acc own v x=some r->r.2.2.p_=x.p_:=by
 intro k
 induction k with
 | zero=>intro v acc own x r h;exact nomatch h
 | succ k ih=>
   intro v acc own x r h;unfold eF at h
   split at h
   ·obtain ⟨y,hy,h⟩:=aI h;refine (ih _ _ _ _ _ h).trans ?_;obtain ⟨e,_,hy⟩:=aI hy
    split at hy
    ·obtain ⟨_,_,hy⟩:=aI hy;obtain ⟨_,hy⟩:=cH hy;rw [←bU hy]
    ·obtain ⟨_,_,hy⟩:=aI hy
     split at hy
     all_goals
      obtain ⟨x1,h1,hy⟩:=aI hy;obtain ⟨x2,h2,hy⟩:=aI hy;obtain ⟨_,hy⟩:=cH hy;obtain ⟨_,_,hy⟩:=aI hy;obtain ⟨_,hy⟩:=cH hy;rw [←bU hy];exact (My h2).trans (Gk h1)
   ·rw [←bU h]
theorem UZ {f:aT}:∀(k:Nat) (v:Int) (own:List Int) (x:aJ) (r:List Int × aJ),eE f k own v x=some r->r.2.p_=x.p_:=by
 intro k
 induction k with
 | zero=>intro v own x r h;exact nomatch h
 | succ k ih=>
   intro v own x r h;unfold eE at h
   split at h
   ·obtain ⟨_,_,h⟩:=aI h;obtain ⟨y,hy,h⟩:=aI h;obtain ⟨_,h⟩:=cH h;exact (ih _ _ _ _ h).trans (My hy)
   ·rw [←bU h]
theorem block_p {rec_:aJ->aB->List Int->aB->Option (List aB × aJ)} {l:List aB} {as:List Int} {b:aB} (hr:∀x s out x',rec_ x s as b=some (out,x')->x'.p_=x.p_):∀(k:Nat) (v:Int) (acc:List aB) (x:aJ) (r:(List aB × aJ) ⊕ (List aB × aJ)),
  dC rec_ l as b k acc v x=some r->(r.elim (λz=>z.2.p_) λz=>z.2.p_)=x.p_:=by
 intro k
 induction k with
 | zero=>intro v acc x r h;exact nomatch h
 | succ k ih=>
   intro v acc x r h;unfold dC at h
   split at h
   ·obtain ⟨s,_,h⟩:=aI h
    split at h
    ·rw [←bU h];rfl
    ·obtain ⟨y,hy,h⟩:=aI h;obtain ⟨_,h⟩:=cH h;exact (ih _ _ _ _ h).trans (hr _ _ y.1 y.2 hy)
   ·rw [←bU h];rfl
theorem flP_all:∀n:Nat,
  (∀x l as b out x',dV n x l as b=some (out,x')->x'.p_=x.p_) ∧
  (∀x s as b out x',fH n x s as b=some (out,x')->x'.p_=x.p_) ∧
  (∀x s as b out x',kJ n x s as b=some (out,x')->x'.p_=x.p_):=by
 intro n
 induction n with
 | zero=>exact ⟨λ_ _ _ _ _ _ h=>(nomatch h),λ_ _ _ _ _ _ h=>(nomatch h),λ_ _ _ _ _ _ h=>(nomatch h)⟩
 | succ n ih=>
   obtain ⟨ihb,ihs,ihc⟩:=ih;refine ⟨λx l as b out x' h=>?_,λx s as b out x' h=>?_,λx s as b out x' h=>?_⟩
   ·have h:fC (fH n) n x l as b=some (out,x'):=h;unfold fC at h;obtain ⟨y,hy,h⟩:=aI h;have k1:=block_p (λx s out x' h'=>ihs x s as b out x' h') n 0 [] x y hy;cases y with
    | inl z=>obtain ⟨rfl,rfl⟩:=Prod.mk.inj (bU h);exact k1
    | inr z=>obtain rfl:=bU h;exact k1
   ·have h:dU (kJ n) (dV n) n x s as b=some (out,x'):=h;unfold dU at h
    split at h
    ·obtain ⟨z,hz1,h⟩:=aI h;obtain ⟨rfl,rfl⟩:=Prod.mk.inj (bU h);exact ihc x s as b z.1 z.2 hz1
    ·obtain ⟨x1,hx1,h⟩:=aI h
     split at h
     ·obtain ⟨y,hy,h⟩:=aI h;obtain ⟨y2,hy2,h⟩:=aI h
      split at h
      all_goals
       obtain ⟨z,hz1,h⟩:=aI h;obtain ⟨rfl,rfl⟩:=Prod.mk.inj (bU h);exact (tell_p hz1).trans (Gk hx1)
     ·obtain ⟨_,_,h⟩:=aI h;obtain ⟨es,hes,h⟩:=aI h;obtain ⟨z1,hz1,h⟩:=aI h;obtain ⟨z2,hz2,h⟩:=aI h;obtain ⟨rfl,rfl⟩:=Prod.mk.inj (bU h);exact (ihb _ _ _ _ z2.1 z2.2 hz2).trans ((ihb _ _ _ _ z1.1 z1.2 hz1).trans (Gk hx1))
   ·have h:fL (dV n) n x s as b=some (out,x'):=h;unfold fL at h;obtain ⟨x1,hx1,h⟩:=aI h;obtain ⟨f,hf,h⟩:=aI h;obtain ⟨z,hz,h⟩:=aI h;obtain ⟨_,h⟩:=cH h;obtain ⟨y,hy,h⟩:=aI h
    have hz2:z.2.2.p_=x1.p_:=by
     unfold mK at hz;obtain ⟨w,hw,hz⟩:=aI hz;rw [←bU hz];exact Vk n 0 [] [] x1 w hw
    have hy2:=(UZ n 0 _ _ y hy).trans (hz2.trans (Gk hx1))
    split at h
    ·obtain ⟨rfl,rfl⟩:=Prod.mk.inj (bU h);exact hy2
    ·obtain ⟨t,ht,h⟩:=aI h;obtain ⟨u,hu,h⟩:=aI h;obtain ⟨_,h⟩:=cH h;obtain ⟨rfl,rfl⟩:=Prod.mk.inj (bU h);exact (ihb _ _ _ _ u.1 u.2 hu).trans hy2
def StF (p:bH) (s:aB) (as:List Int) (b:aB) (x:aJ) (out:List aB) (x':aJ):Prop:=
 (∀l o vs2,Jh p x'.f_.aX l as b o vs2->Jh p x.f_.aX (s::l) as b (out++o) vs2)/\Gt x x' x'.f_.aX
theorem Se {rec_:aJ->aB->List Int->aB->Option (List aB × aJ)} {l:List aB} {as:List Int} {b:aB} {C:(List aB × aJ)->Prop} {k:Nat} {v:Int} {acc:List aB} {x:aJ} {r:(List aB × aJ) ⊕ (List aB × aJ)} (he:x.e_ ≠ 0)
  (h:dC rec_ l as b k acc v x=some r):(∀z,r=.inr z->z.2.e_ ≠ 0)/\∀z,r=.inl z->z.2.e_=0->C z:=by
 cases k with
 | zero=>exact nomatch h
 | succ k=>
   unfold dC at h
   split at h
   ·obtain ⟨y,hy,h⟩:=aI h;rw [if_pos (by simpa using he)] at h;obtain rfl:=bU h;refine ⟨λz hz=>?_,λz hz=>(nomatch hz)⟩;cases hz;exact he
   ·obtain rfl:=bU h;refine ⟨λz hz=>(nomatch hz),λz hz hze=>?_⟩;cases hz;exact absurd hze he
theorem block_s {rec_:aJ->aB->List Int->aB->Option (List aB × aJ)} {l:List aB} {as:List Int} {b:aB} (hl:l.length<=1000000000)
  (hr:∀s ∈ l,∀x out x',x.p_=p->rec_ x s as b=some (out,x')->x'.e_=0->StF p s as b x out x'):∀(k v:Nat) (acc:List aB) (x:aJ) (r:(List aB × aJ) ⊕ (List aB × aJ)),v<=l.length->x.p_=p ->
  dC rec_ l as b k acc (v:Int) x=some r->(∀z,r=.inr z->z.2.e_ ≠ 0)/\∀z,r=.inl z->z.2.e_=0->∃o,z.1=acc++o/\Jh p x.f_.aX (l.drop v) as b o z.2.f_.aX/\Gt x z.2 z.2.f_.aX:=by
 intro k
 induction k with
 | zero=>intro v acc x r _ _ h;exact nomatch h
 | succ k ih=>
   intro v acc x r hv hp h;unfold dC at h
   by_cases hv1:v<l.length
   ·have hd:l.drop v=l[v]::l.drop (v+1):=MT hv1;have e:bM l (v:Int)=some l[v]:=by unfold bM;rw [if_pos (by omega),CS,uS hv1]
    have hn:IntKind.i64.wrap ((v:Int)+1)=((v+1:Nat):Int):=(cR (by omega) (by omega)).trans (by omega);rw [if_pos (AB (by omega)),e,iJ] at h
    by_cases he:x.e_=0
    ·rw [if_neg (by simp [he])] at h;obtain ⟨y,hy,h⟩:=aI h;obtain ⟨_,h⟩:=cH h;rw [hn] at h;have hy':rec_ x l[v] as b=some (y.1,y.2):=hy
     by_cases hye:y.2.e_=0
     ·obtain ⟨s1,s2⟩:=hr _ (Ln hv1) x y.1 y.2 hp hy' hye;obtain ⟨i1,i2⟩:=ih (v+1) _ _ r (by omega) (s2.p.trans hp) h;refine ⟨i1,λz hz hze=>?_⟩;obtain ⟨o,o1,o2,o3⟩:=i2 z hz hze;exact ⟨y.1++o,by rw [o1,GX],by rw [hd];exact s1 _ _ _ o2,s2.trans o3⟩
     ·exact Se hye h
    ·rw [if_pos (by simpa using he)] at h;obtain rfl:=bU h;refine ⟨λz hz=>?_,λz hz=>(nomatch hz)⟩;cases hz;exact he
   ·rw [if_neg (by rw [Bq];omega)] at h;obtain rfl:=bU h;refine ⟨λz hz=>(nomatch hz),λz hz hze=>?_⟩;cases hz;exact ⟨[],by simp,by rw [Sw (by omega)];exact .nil,.refl hze⟩
theorem bat_op {b:aB} {a:Int}:(Fl b a).fR=b.fR/\(Fl b a).gJ=b.gJ:=by unfold Fl;split <;> exact ⟨rfl,rfl⟩
theorem tell_s {x:aJ} {y:aF} {b:aB} {r:aB × aJ} (h:eC x y b=some r) (he:r.2.e_=0) :
  (b.fR ≠ [118,97,114]/\r.1={ b with gJ:=0,aO:=[y] }/\Gt x r.2 x.f_.aX) ∨ (b.fR=[118,97,114]/\r.1={ b with fI:=x.f_.aX.length,gJ:=0,aO:=[y] }/\Gt x r.2 (x.f_.aX++[⟨[],b.gJ,0⟩])):=by
 unfold eC at h
 by_cases hv:b.fR=[118,97,114]
 ·rw [if_pos (AB hv)] at h;obtain ⟨z,hz,h⟩:=aI h;obtain rfl:=bU h;obtain ⟨f1,f2⟩:=Jp hz he;exact .inr ⟨hv,by rw [f1],f2⟩
 ·rw [if_neg (by simpa using hv)] at h;obtain rfl:=bU h;exact .inl ⟨hv,rfl,he,rfl,rfl⟩
theorem flB_all (hB:∀f ∈ p.bF,tX f.bQ<=1000000000/\f.aX.length<=1000000000):∀n:Nat,
  (∀x l as b out x',x.p_=p->tX l<=1000000000->dV n x l as b=some (out,x')->x'.e_=0->Jh p x.f_.aX l as b out x'.f_.aX/\Gt x x' x'.f_.aX) ∧
  (∀x s as b out x',x.p_=p->tz s<=1000000000->fH n x s as b=some (out,x')->x'.e_=0->StF p s as b x out x') ∧
  (∀x s as b out x',s.fR=[99,97,108,108]->x.p_=p->tz s<=1000000000->kJ n x s as b=some (out,x')->x'.e_=0->StF p s as b x out x'):=by
 intro n
 induction n with
 | zero=>exact ⟨λ_ _ _ _ _ _ _ _ h=>(nomatch h),λ_ _ _ _ _ _ _ _ h=>(nomatch h),λ_ _ _ _ _ _ _ _ _ h=>(nomatch h)⟩
 | succ n ih=>
   obtain ⟨ihb,ihs,ihc⟩:=ih;refine ⟨λx l as b out x' hp hz h he=>?_,λx s as b out x' hp hz h he=>?_,λx s as b out x' ho hp hz h he=>?_⟩
   ·have h:fC (fH n) n x l as b=some (out,x'):=h;unfold fC at h;obtain ⟨y,hy,h⟩:=aI h;have hlen:=Ek l;obtain ⟨k1,k2⟩:=block_s (p:=p) (by omega) (λs hs x out x' hp' h' he'=>ihs x s as b out x' hp' (Jj (Ha hs) hz) h' he') n 0 [] x y (KH _) hp hy;cases y with
    | inl z=>
      obtain ⟨rfl,rfl⟩:=Prod.mk.inj (bU h);obtain ⟨o,o1,o2,o3⟩:=k2 z rfl he;rw [o1];exact ⟨o2,o3⟩
    | inr z=>
      obtain rfl:=bU h;exact absurd he (k1 _ rfl)
   ·have h:dU (kJ n) (dV n) n x s as b=some (out,x'):=h;unfold dU at h
    by_cases hc:s.fR=[99,97,108,108]
    ·rw [if_pos (AB hc)] at h;obtain ⟨z,hz1,h⟩:=aI h;have h2:=bU h;exact ihc x s as b out x' hc hp hz (by rw [hz1,←h2]) he
    rw [if_neg (by simpa using hc)] at h;obtain ⟨x1,hx1,h⟩:=aI h;have hze:=wF s
    by_cases hr:s.fR=[114,101,116,117,114,110]
    ·rw [if_pos (AB hr)] at h;obtain ⟨y,hy,h⟩:=aI h;obtain ⟨y2,hy2,h⟩:=aI h
     obtain ⟨rs,hrs⟩:∃rs,s.aO=y::rs:=by
      cases hsl:s.aO with
      | nil=>rw [hsl] at hy;exact nomatch hy
      | cons y' rs=>rw [hsl] at hy;exact ⟨rs,by rw [show y'=y from bU hy]⟩
     have hyz:xz y<=1000000000:=by have:=AV (l:=s.aO) (x:=y) (by rw [hrs];exact xek);omega
     have h:(eC x1 y2 (Fl b s.eU)).bind (λz=>some ([z.1],z.2))=some (out,x'):=by
      unfold Fl
      by_cases ha:b.eU<0
      ·rw [if_pos ha];rw [if_pos (AB ha)] at h;exact h
      ·rw [if_neg ha];rw [if_neg (by simpa using ha)] at h;exact h
     obtain ⟨z,hz1,h⟩:=aI h;obtain ⟨rfl,rfl⟩:=Prod.mk.inj (bU h);have hyx:=UF hyz hy2;obtain ⟨b1,b2⟩:=bat_op (b:=b) (a:=s.eU)
     rcases tell_s hz1 he with ⟨t1,t2,t3⟩ | ⟨t1,t2,t3⟩
     ·have c1:=Gj hx1 t3.e;rw [c1.vs] at t3;refine ⟨λl o vs2 hl=>?_,by rw [t3.vs];exact c1.trans t3⟩;rw [t3.vs] at hl;rw [t2,hyx];exact .ret hr hrs (by rw [←b1];exact t1) hl
     ·have c1:=Gj hx1 t3.e;rw [c1.vs] at t2 t3;refine ⟨λl o vs2 hl=>?_,by rw [t3.vs];exact c1.trans t3⟩;rw [t3.vs,b2] at hl;rw [t2,hyx];exact .retv hr hrs (by rw [←b1];exact t1) hl
    ·rw [if_neg (by simpa using hr),PY,iJ] at h;obtain ⟨es,hes,h⟩:=aI h;obtain ⟨z1,hz1,h⟩:=aI h;obtain ⟨z2,hz2,h⟩:=aI h;obtain ⟨rfl,rfl⟩:=Prod.mk.inj (bU h);have hes':=fxL_of (by omega) hes;have p1:=(Gk hx1).trans hp;have p2:=((flP_all n).1 _ _ _ _ z1.1 z1.2 hz1).trans p1;obtain ⟨q3,q4⟩:=ihb z1.2 s.eW as b z2.1 z2.2 p2 (by omega) hz2 he;obtain ⟨q1,q2⟩:=ihb x1 s.bQ as b z1.1 z1.2 p1 (by omega) hz1 q4.e;have c1:=Gj hx1 q2.e;refine ⟨λl o vs2 hl=>?_,(c1.trans q2).trans q4⟩;rw [c1.vs] at q1;rw [hes'];exact .other hc hr q1 q3 hl
   ·have h:fL (dV n) n x s as b=some (out,x'):=h;unfold fL at h;have hze:=wF s;obtain ⟨x1,hx1,h⟩:=aI h;obtain ⟨f,hf,h⟩:=aI h;obtain ⟨z,hz1,h⟩:=aI h;obtain ⟨⟨hp0,hp1⟩,h⟩:=cH h;obtain ⟨y,hy,h⟩:=aI h;have p1:=(Gk hx1).trans hp;unfold mK at hz1;obtain ⟨w,hw,hz1⟩:=aI hz1;obtain rfl:=bU hz1;have p2:w.2.2.p_=p:=(Vk n 0 [] [] x1 w hw).trans p1;have p3:y.2.p_=p:=(UZ n 0 _ _ y hy).trans p2
    have hfm:f ∈ p.bF:=by
     rw [p1] at hf;unfold bM at hf
     split at hf
     ·exact CT hf
     ·exact nomatch hf
    have hfb:=hB f hfm
    by_cases hye:y.2.e_=0
    ·rw [if_neg (by simp [hye])] at h;obtain ⟨t,ht,h⟩:=aI h;obtain ⟨u,hu,h⟩:=aI h;obtain ⟨_,h⟩:=cH h;obtain ⟨rfl,rfl⟩:=Prod.mk.inj (bU h);obtain ⟨q1,q2⟩:=ihb y.2 f.bQ y.1 t u.1 u.2 p3 hfb.1 hu he;obtain ⟨c1,c2⟩:=call_s (f:=f) (by simp;omega) n 0 _ _ y (KH _) hy hye;obtain ⟨o,own',vs',a1,a2,a3,a4⟩:=args_s (n:=n) (s:=s) (as:=as) (f:=f) (by omega) n 0 [] [] x1 w (KH _) hw c2.e;have k1:=Gj hx1 a4.e;have htk:=taken_s (f:=f) ht (by rw [p3,←p1];exact hf);rw [iB] at c1 c2 a3;rw [gC] at a1 a2;rw [a4.vs] at c1 c2;rw [k1.vs] at a3;rw [htk,c2.vs,c1,a2] at q1;refine ⟨λl o2 vs2 hl=>?_,((k1.trans a4).trans c2).trans q2⟩;rw [a1];exact .call ho (by rw [←p1];exact hf) a3 hp0 hp1 q1 hl
    ·rw [if_pos (by simpa using hye)] at h;obtain ⟨rfl,rfl⟩:=Prod.mk.inj (bU h);exact absurd he hye
end
end Go.Proofs.YtnnomaboaiokeaaGreatDoor.Abs
namespace Go.Proofs.YtnnomaboaiokeaaGreatDoor.Abs
open Go.RowKit
set_option linter.all false
inductive FB (vs:List aL) (res:Int):Bool->List Int->List aB->List Int->Prop
 | nil {l sc}:FB vs res l sc [] sc
 | let_ {l sc x v u a ss sc'}:TX vs sc x->x.cK=1->bM vs v=some u->u.bS=1->FB vs res l (sc++[v]) ss sc'->FB vs res l sc (⟨[108,101,116],v,0,[x],[],[],a⟩::ss) sc'
 | var_ {l sc x v u a ss sc'}:TX vs sc x->bM vs v=some u->(u.bS=2 ∨ u.bS=3)->KE x.cK u.bS->FB vs res l (sc++[v]) ss sc'->FB vs res l sc (⟨[118,97,114],v,0,[x],[],[],a⟩::ss) sc'
 | arr {l sc v u a ss sc'}:bM vs v=some u->u.bS=4->FB vs res l (sc++[v]) ss sc'->FB vs res l sc (⟨[97,114,114],v,0,[],[],[],a⟩::ss) sc'
 | set {l sc x v u a ss sc'}:TX vs sc x->bM vs v=some u->(u.bS=2 ∨ u.bS=3)->KE x.cK u.bS->FB vs res l (sc++[v]) ss sc'->FB vs res l sc (⟨[115,101,116],v,0,[x],[],[],a⟩::ss) sc'
 | put {l sc v u i x a ss sc'}:v ∈ sc->bM vs v=some u->u.bS=4->TX vs sc i->i.cK=1->(i.fR=[110,117,109]->IntKind.i64.wrap i.N_<u.qO)->TX vs sc x->KE x.cK 2->FB vs res l sc ss sc'->FB vs res l sc (⟨[112,117,116],v,0,[i,x],[],[],a⟩::ss) sc'
 | if_ {l sc c b e a sc1 sc2 ss sc'}:TX vs sc c->c.cK=1->FB vs res false sc b sc1->FB vs res false sc e sc2->FB vs res l sc ss sc'->FB vs res l sc (⟨[105,102],-1,0,[c],b,e,a⟩::ss) sc'
 | for_ {l sc x y v u b a sc1 ss sc'}:TX vs sc x->x.cK=1->TX vs sc y->y.cK=1->bM vs v=some u->u.bS=1->FB vs res false (sc++[v]) b sc1->FB vs res l sc ss sc'->FB vs res l sc (⟨[102,111,114],v,0,[x,y],b,[],a⟩::ss) sc'
 | ret {sc x a}:TX vs sc x->KE x.cK res->FB vs res true sc [⟨[114,101,116,117,114,110],-1,0,[x],[],[],a⟩] sc
section
variable {vs vs':List aL} {res:Int} {l:Bool} {sc sc' sc1:List Int} {ss xs ys:List aB}
theorem FB.mono (hv:vs <+: vs') (h:FB vs res l sc ss sc'):FB vs' res l sc ss sc':=by
 have hs:∀ {sc:List Int} v,v ∈ sc->v ∈ sc:=λ_ h=>h
 induction h with
 | nil=>exact .nil
 | let_ h1 h2 h3 h4 _ ih=>exact .let_ (h1.mono hv hs) h2 (kO hv h3) h4 ih
 | var_ h1 h2 h3 h4 _ ih=>exact .var_ (h1.mono hv hs) (kO hv h2) h3 h4 ih
 | arr h1 h2 _ ih=>exact .arr (kO hv h1) h2 ih
 | set h1 h2 h3 h4 _ ih=>exact .set (h1.mono hv hs) (kO hv h2) h3 h4 ih
 | put h1 h2 h3 h4 h5 h6 h7 h8 _ ih=>exact .put h1 (kO hv h2) h3 (h4.mono hv hs) h5 h6 (h7.mono hv hs) h8 ih
 | if_ h1 h2 _ _ _ i1 i2 i3=>exact .if_ (h1.mono hv hs) h2 i1 i2 i3
 | for_ h1 h2 h3 h4 h5 h6 _ _ i1 i2=>exact .for_ (h1.mono hv hs) h2 (h3.mono hv hs) h4 (kO hv h5) h6 i1 i2
 | ret h1 h2=>exact .ret (h1.mono hv hs) h2
theorem FB.app {l0:Bool} (h:FB vs res l0 sc xs sc1) (h0:l0=false) (k:FB vs res l sc1 ys sc'):FB vs res l sc (xs++ys) sc':=by
 induction h with
 | nil=>exact k
 | let_ h1 h2 h3 h4 _ ih=>exact .let_ h1 h2 h3 h4 (ih h0 k)
 | var_ h1 h2 h3 h4 _ ih=>exact .var_ h1 h2 h3 h4 (ih h0 k)
 | arr h1 h2 _ ih=>exact .arr h1 h2 (ih h0 k)
 | set h1 h2 h3 h4 _ ih=>exact .set h1 h2 h3 h4 (ih h0 k)
 | put h1 h2 h3 h4 h5 h6 h7 h8 _ ih=>exact .put h1 h2 h3 h4 h5 h6 h7 h8 (ih h0 k)
 | if_ h1 h2 h3 h4 _ _ _ ih=>exact .if_ h1 h2 h3 h4 (ih h0 k)
 | for_ h1 h2 h3 h4 h5 h6 h7 _ _ ih=>exact .for_ h1 h2 h3 h4 h5 h6 h7 (ih h0 k)
 | ret=>cases h0
theorem FB.sub (h:FB vs res l sc ss sc'):∀v ∈ sc,v ∈ sc':=by
 induction h with
 | nil=>exact λ_ h=>h
 | let_ _ _ _ _ _ ih=>exact λv hv=>ih v (Jw _ hv)
 | var_ _ _ _ _ _ ih=>exact λv hv=>ih v (Jw _ hv)
 | arr _ _ _ ih=>exact λv hv=>ih v (Jw _ hv)
 | set _ _ _ _ _ ih=>exact λv hv=>ih v (Jw _ hv)
 | put _ _ _ _ _ _ _ _ _ ih=>exact ih
 | if_ _ _ _ _ _ _ _ ih=>exact ih
 | for_ _ _ _ _ _ _ _ _ _ ih=>exact ih
 | ret=>exact λ_ h=>h
end
structure BW (vsC vsX:List aL) (as scC scX:List Int):Prop where
 k:∀v u,bM vsC v=some u->∃u',bM vsX (mp as v)=some u'/\u'.bS=u.bS/\(u.bS=4->u'.qO=u.qO)
 s:∀v ∈ scC,mp as v ∈ scX
section
variable {vsC vsX vsX':List aL} {as scC scX scX':List Int}
theorem BW.mono (h:BW vsC vsX as scC scX) (hv:vsX <+: vsX') (hs:∀v ∈ scX,v ∈ scX'):BW vsC vsX' as scC scX':=
 ⟨λv u hu=>by obtain ⟨u',h1,h2⟩:=h.k v u hu;exact ⟨u',kO hv h1,h2⟩,λv hv=>hs _ (h.s v hv)⟩
theorem BW.snoc (h:BW vsC vsX as scC scX) (n:Int):BW vsC vsX as (scC++[n]) (scX++[mp as n]):=
 ⟨h.k,λv hv=>by
  rcases zH.1 hv with h1 | h1
  ·exact Jw _ (h.s v h1)
  ·rw [zG.1 h1];exact MS _ (zG.2 rfl)⟩
theorem FG {as:List Int} {v:Int} (h:v<0):mp as v=v:=if_pos (.inl h)
theorem gP (as:List Int) (x:aF):(fx as x).cK=x.cK/\(fx as x).fR=x.fR/\(fx as x).N_=x.N_:=by rw [FJ];exact ⟨rfl,rfl,rfl⟩
theorem TX.fx (h:BW vsC vsX as scC scX) {x:aF} (hx:TX vsC scC x):TX vsX scX (fx as x):=by
 induction hx with
 | num h1 h2=>rw [FJ];simp only [KL,FG (show (-1:Int)<0 by decide)];exact .num h1 h2
 | var h1 h2 h3=>
   obtain ⟨u',k1,k2,_⟩:=h.k _ _ h2;rw [FJ];simp only [KL];rw [←k2];exact .var (h.s _ h1) k1 (by rw [k2];exact h3)
 | index h1 h2 h3 _ h5 h6 ih=>
   obtain ⟨u',k1,k2,k3⟩:=h.k _ _ h2;rw [FJ];simp only [KL];obtain ⟨p1,p2,p3⟩:=gP as ‹_›;exact .index (h.s _ h1) k1 (by rw [k2];exact h3) ih (by rw [p1];exact h5) (by rw [p2,p3,k3 h3];exact h6)
 | un h1 _ ih=>
   rw [FJ];simp only [KL,FG (show (-1:Int)<0 by decide)];rw [←(gP as _).1];exact .un h1 ih
 | bin _ _ hb ih1 ih2=>
   rw [FJ];simp only [KL,FG (show (-1:Int)<0 by decide)];refine .bin ih1 ih2 ?_;unfold Oz at hb ⊢;rw [(gP as _).1,(gP as _).1,(gP as _).2.1,(gP as _).2.2];exact hb
 | @sel c x y a _ _ _ h1 h2 ih1 ih2 ih3=>
   rw [FJ];simp only [KL,FG (show (-1:Int)<0 by decide)];rw [←(gP as x).1,←(gP as y).1];exact .sel ih1 ih2 ih3 (by rw [(gP as _).1];exact h1) (by rw [(gP as _).1,(gP as _).1];exact h2)
 | long _ h1 ih=>
   rw [FJ];simp only [KL,FG (show (-1:Int)<0 by decide)];exact .long ih (by rw [(gP as _).1];exact h1)
 | wide _ _ h1 h2 ih1 ih2=>
   rw [FJ];simp only [KL,FG (show (-1:Int)<0 by decide)];exact .wide ih1 ih2 (by rw [(gP as _).1];exact h1) (by rw [(gP as _).1];exact h2)
 | half h1 _ h2 ih=>
   rw [FJ];simp only [KL,FG (show (-1:Int)<0 by decide)];exact .half h1 ih (by rw [(gP as _).1];exact h2)
def MP (vsX:List aL) (res resT:Int) (b:aB):Prop:=
 b.bQ=[]/\b.eW=[]/\((b.fR=[114,101,116,117,114,110]/\b.fI=-1/\res=resT) ∨ (b.fR=[115,101,116]/\∃u,bM vsX b.fI=some u/\u.bS=res) ∨ (b.fR=[118,97,114]/\b.gJ=res))
theorem MP.mono {vsX vsX':List aL} {res resT:Int} {b:aB} (h:MP vsX res resT b) (hv:vsX <+: vsX'):MP vsX' res resT b:=by
 obtain ⟨h1,h2,h3⟩:=h;refine ⟨h1,h2,?_⟩
 rcases h3 with h3 | ⟨h3,u,h4,h5⟩ | h3
 ·exact .inl h3
 ·exact .inr (.inl ⟨h3,u,kO hv h4,h5⟩)
 ·exact .inr (.inr h3)
theorem Bn (b:aB) (a:Int):(Fl b a).fR=b.fR/\(Fl b a).fI=b.fI/\(Fl b a).gJ=b.gJ/\(Fl b a).bQ=b.bQ/\(Fl b a).eW=b.eW:=by unfold Fl;split <;> exact ⟨rfl,rfl,rfl,rfl,rfl⟩
theorem MP.bat {vsX:List aL} {res resT:Int} {b:aB} (h:MP vsX res resT b) (a:Int):MP vsX res resT (Fl b a):=by
 obtain ⟨b1,b2,b3,b4,b5⟩:=Bn b a;unfold MP;rw [b1,b2,b3,b4,b5];exact h
theorem Ow.pre {as:List Int} {fW:Int} {ps vs vs':List aL} {l:List aF} {i:Nat} {o:List aB} {own:List Int} (h:Ow as fW ps vs l i o own vs'):vs <+: vs':=by
 induction h with
 | nil=>exact QK _
 | arr _ _ ih=>exact ih
 | val _ _ _ ih=>exact (LX _ _).trans ih
theorem Jh.pre {p:bH} {vs vs':List aL} {l:List aB} {as:List Int} {b:aB} {o:List aB} (h:Jh p vs l as b o vs'):vs <+: vs':=by
 induction h with
 | nil=>exact QK _
 | call _ _ h1 _ _ _ _ ih1 ih2=>exact ((h1.pre.trans (LX _ _)).trans ih1).trans ih2
 | ret _ _ _ _ ih=>exact ih
 | retv _ _ _ _ ih=>exact (LX _ _).trans ih
 | other _ _ _ _ _ i1 i2 i3=>exact (i1.trans i2).trans i3
theorem Ow.ok {resT:Int} {vsC:List aL} {scC:List Int} {as:List Int} {fW:Int} {ps vs vs':List aL} {l:List aF} {i:Nat} {o:List aB} {own:List Int} (h:Ow as fW ps vs l i o own vs') (hps:∀u ∈ ps,Ef u) (hv:∀u ∈ vsC,Ef u) :
  ∀ {scX:List Int},BW vsC vs as scC scX->(∀(k:Nat) p x,ps[i+k]? = some p->l[k]? = some x->GU vsC scC p x)->i+l.length<=ps.length ->
   ∃scX',FB vs' resT false scX o scX'/\own.length=l.length/\∀(k:Nat) p,k<l.length->ps[i+k]? = some p->∃v u,own[k]? = some v/\v ∈ scX'/\bM vs' v=some u/\u.bS=p.bS/\(p.bS=4->u.qO=p.qO):=by
 induction h with
 | nil=>intro scX _ _ _;exact ⟨scX,.nil,rfl,λk p hk=>absurd hk (Nat.not_lt_zero _)⟩
 | @arr vs y l i o own vs' ht h ih=>
   intro scX hm ha hl;simp only [dT] at hl;obtain ⟨scX',g1,g2,g3⟩:=ih hm (λk p x h1 h2=>ha (k+1) p x (by rw [←h1];congr 1;omega) h2) (by omega);refine ⟨scX',g1,by simp only [dT,g2],λk p hk hp=>?_⟩;cases k with
   | zero=>
     have hta:=ha 0 p y hp rfl;cases hta with
     | @arr v u a k1 k2 k3 k4 k5=>
       obtain ⟨u',m1,m2,m3⟩:=hm.k _ _ k3;exact ⟨_,u',rfl,g1.sub _ (hm.s _ k2),kO h.pre m1,by rw [m2,k4,k1],λ_=>by rw [m3 k4,k5]⟩
     | pub k1 k2 k3=>rw [k3] at ht;exact absurd ht (by decide)
     | val k1 k2 k3 k4=>
       have:=hps p (CT hp)
       rcases k4 with k4 | k4
       ·rw [ht] at k4;exact absurd k4.symm k2
       ·rw [k4.1] at ht;exact absurd ht (by decide)
   | succ k=>
     obtain ⟨v,u,q1,q2⟩:=g3 k p (by simpa using hk) (by rw [←hp];congr 1;omega);exact ⟨v,u,q1,q2⟩
 | @val vs y l i u o own vs' ht hu h ih=>
   intro scX hm ha hl;simp only [dT] at hl
   have hnew:bM (vs++[u]) (vs.length:Int)=some u:=by
    unfold bM;rw [if_pos (by omega),CS,Ma (rM _)];simp
   have hm':BW vsC (vs++[u]) as scC (scX++[(vs.length:Int)]):=hm.mono (LX _ _) λv hv=>Jw _ hv;obtain ⟨scX',g1,g2,g3⟩:=ih hm' (λk p x h1 h2=>ha (k+1) p x (by rw [←h1];congr 1;omega) h2) (by omega);have hpre:=(LX vs [u]).trans h.pre;have hnew':=kO h.pre hnew;have hta:=ha 0 u y hu rfl;have hsame:∀ {sc:List Int} v,v ∈ sc->v ∈ sc:=λ_ h=>h
   have hpar:∀(k:Nat) p,k<(y::l).length->ps[i+k]? = some p->∃v u',((vs.length:Int)::own)[k]? = some v/\v ∈ scX'/\bM vs' v=some u'/\u'.bS=p.bS/\(p.bS=4->u'.qO=p.qO):=by
    intro k p hk hp;cases k with
    | zero=>
      obtain rfl:u=p:=Option.some.inj (hu.symm.trans hp);exact ⟨_,u,rfl,g1.sub _ (MS _ (zG.2 rfl)),hnew',rfl,λ_=>rfl⟩
    | succ k=>
      obtain ⟨v,u',q1,q2⟩:=g3 k p (by simpa using hk) (by rw [←hp];congr 1;omega);exact ⟨v,u',q1,q2⟩
   cases hta with
   | arr k1 k2 k3 k4 k5=>exact absurd rfl ht
   | pub k1 k2 k3=>
     rw [if_pos k1];exact ⟨scX',.let_ ((TX.fx hm k2).mono hpre hsame) (by rw [(gP as y).1];exact k3) hnew' k1 g1,by simp only [dT,g2],hpar⟩
   | val k1 k2 k3 k4=>
     rw [if_neg k1];have:=hps u (CT hu);exact ⟨scX',.var_ ((TX.fx hm k3).mono hpre hsame) hnew' (by have t1:=this.1;have t2:=this.2.1;omega) (by rw [(gP as y).1];exact k4) g1,by simp only [dT,g2],hpar⟩
end
section
variable {c:aG} {rk:Int->Nat} {resT:Int}
theorem Jh.nil_inv {p:bH} {vs v:List aL} {as:List Int} {b:aB} {o:List aB} (h:Jh p vs [] as b o v):o=[]/\v=vs:=by cases h;exact ⟨rfl,rfl⟩
def FtyR (c:aG) (resT:Int) (vs:List aL) (l:List aB) (as:List Int) (b:aB) (out:List aB) (vs':List aL):Prop:=
 ∀ {j:Nat} {vsC:List aL} {res:Int} {lf:Bool} {n:Nat} {sc:List Int} {n':Nat} {sc' scX:List Int},TB (Eo c j) vsC res lf n sc l n' sc'->(∀u ∈ vsC,Ef u)->(res=0 ∨ res=2 ∨ res=3)->BW vsC vs as sc scX->MP vs res resT b ->
  ∃scX',FB vs' resT (lf && decide (b.fR=[114,101,116,117,114,110])) scX out scX'/\(∀v ∈ sc',mp as v ∈ scX')/\((∃s,l.getLast? = some s/\HH s)->b.fR=[115,101,116]->b.fI ∈ scX')
theorem own_map {fv v1:List aL} {own:List Int} {pn:Nat} {scX1:List Int} (hpn:pn<=fv.length) (hol:own.length=pn) (ho:∀(k:Nat) p,k<pn->fv[0+k]? = some p->∃v u,own[k]? = some v/\v ∈ scX1/\bM v1 v=some u/\u.bS=p.bS/\(p.bS=4->u.qO=p.qO)) :
  BW fv (v1++fv.drop pn) (own++Dw v1.length (fv.drop pn).length) (qR pn) scX1:=by
 have hlen:(own++Dw v1.length (fv.drop pn).length).length=fv.length:=by
  rw [mB,hol];simp [Dw];omega
 have hmp:∀i:Nat,i<fv.length->mp (own++Dw v1.length (fv.drop pn).length) (i:Int)=((own++Dw v1.length (fv.drop pn).length)[i]?).getD (i:Int):=by
  intro i hi;unfold mp;rw [if_neg (by rw [hlen];omega),CS]
 refine ⟨λv u hu=>?_,λv hv=>?_⟩
 ·obtain ⟨i,rfl⟩:∃i:Nat,v=(i:Int):=by
   unfold bM at hu
   split at hu
   ·exact ⟨v.toNat,by omega⟩
   ·exact nomatch hu
  have hu':=zX hu;obtain ⟨hil,_⟩:=uG.1 hu';rw [hmp i hil]
  by_cases hip:i<pn
  ·obtain ⟨v,u',q1,q2,q3,q4,q5⟩:=ho i u hip (by rw [CU];exact hu');rw [MW (by omega),q1];exact ⟨u',kO (LX _ _) q3,q4,q5⟩
  ·have hn:(Dw v1.length (fv.drop pn).length)[i - own.length]? = some ((v1.length+(i - pn):Nat):Int):=by
    unfold Dw;rw [gW,xfg (by rw [OI];omega),hol];rfl
   rw [Ma (by omega),hn];refine ⟨u,vV ?_,rfl,λ_=>rfl⟩;rw [Ma (by omega),xef];rw [←hu']
   congr 1
   omega
 ·unfold qR at hv;obtain ⟨i,hi,rfl⟩:=HN.1 hv;have hi:=KO.1 hi;obtain ⟨v,u',q1,q2,_⟩:=ho i fv[i] hi (by rw [CU];exact uS (by omega));show mp _ (i:Int) ∈ _;rw [hmp i (by omega),MW (by omega),q1];exact q2
theorem MD (hp:PO c rk) {j:Nat} {vsC vs v1 v2:List aL} {sc scX:List Int} {as own:List Int} {fi r:Int} {ps:List aL} {xs:List aF} {a:Int} {f:aT} {o1 o2:List aB} {b':aB}
  (hsg:Eo c j fi r ps) (hta:AU vsC sc ps xs) (hvC:∀u ∈ vsC,Ef u) (hf:bM c.p_.bF fi=some f) (hA:Ow as a f.aX vs xs 0 o1 own v1) (hB:Jh c.p_ (v1++f.aX.drop f.bC.toNat) f.bQ (own++Dw v1.length (f.aX.drop f.bC.toNat).length) b' o2 v2)
  (ih:FtyR c resT (v1++f.aX.drop f.bC.toNat) f.bQ (own++Dw v1.length (f.aX.drop f.bC.toNat).length) b' o2 v2) (hm:BW vsC vs as sc scX) (hbk:MP (v1++f.aX.drop f.bC.toNat) r resT b') :
  ∃scX',FB v2 resT (decide (b'.fR=[114,101,116,117,114,110])) scX (o1++o2) scX'/\(∀v ∈ scX,v ∈ scX')/\(r ≠ 0->b'.fR=[115,101,116]->b'.fI ∈ scX'):=by
 obtain ⟨_,f',hf',hr,hps⟩:=hsg;obtain rfl:f=f':=Option.some.inj (hf.symm.trans hf');subst hr hps
 obtain ⟨fn,rfl⟩:∃k:Nat,fi=(k:Int):=by
  unfold bM at hf
  split at hf
  ·exact ⟨fi.toNat,by omega⟩
  ·exact nomatch hf
 have hfg:=zX hf;have hfm:=CT hfg;have tf:=hp.tf fn f hfg;obtain ⟨vl1,vl2,vl3⟩:=hp.co.vl f hfm;obtain ⟨ki1,ki2⟩:=hp.co.ki f hfm;obtain ⟨sc'',htb⟩:=tf.body;have hpl:(f.aX.take f.bC.toNat).length=f.bC.toNat:=by rw [Ji];omega
 have hxl:xs.length=f.bC.toNat:=hta.1.trans hpl
 obtain ⟨scX1,g1,g2,g3⟩:=hA.ok (resT:=resT) (λu hu=>ki1 u hu) hvC hm (λk p x h1 h2=>by
  have hk:k<xs.length:=(uG.1 h2).1;refine hta.2 k p x ?_ h2;rw [xeg,if_pos (by omega)];rw [←h1];congr 1;omega) (by omega)
 have hmap:=own_map (fv:=f.aX) (v1:=v1) (own:=own) (pn:=f.bC.toNat) (scX1:=scX1) (by omega) (by omega) (λk p hk hpk=>g3 k p (by omega) hpk);obtain ⟨scX2,k1,k2,k3⟩:=ih (j:=fn) htb ki1 ki2 hmap hbk;refine ⟨scX2,?_,λv hv=>k1.sub _ (g1.sub _ hv),λhr0 hop=>k3 (tf.ret hr0) hop⟩;rw [jF] at k1;exact (g1.mono ((LX _ _).trans hB.pre)).app rfl k1
end
section
variable {c:aG} {rk:Int->Nat} {resT:Int}
theorem uW {s t:aB} {l:List aB} (h:(s::l).getLast? = some t) (hs:¬ HH s) (ht:HH t):∃u,l.getLast? = some u/\HH u:=by
 cases l with
 | nil=>rw [List.getLast?_singleton] at h;rw [Option.some.inj h] at hs;exact absurd ht hs
 | cons x l=>rw [List.getLast?_cons_cons] at h;exact ⟨t,h,ht⟩
theorem fty (hp:PO c rk) {vs vs':List aL} {l:List aB} {as:List Int} {b:aB} {out:List aB} (h:Jh c.p_ vs l as b out vs'):FtyR c resT vs l as b out vs':=by
 generalize hcp:c.p_=p at h
 induction h with
 | nil=>
   intro j vsC res lf n sc n' sc' scX htb hv hr hm hb;cases htb;exact ⟨scX,.nil,hm.s,λ⟨s,hs,_⟩=>nomatch hs⟩
 | @call vs s l as b f o1 own v1 o2 v2 o3 v3 ho hf hA hp0 hp1 hB hrest ihB ihR=>
   subst hcp;intro j vsC res lf n sc n' sc' scX htb hv hr hm hb;have hb1:=hb.mono (hA.pre.trans (LX _ (f.aX.drop f.bC.toNat)));have hpre:=(hA.pre.trans (LX _ (f.aX.drop f.bC.toNat))).trans hB.pre
   -- a call whose answer goes to a variable
   have toVar:∀ {m:Int} {r:Int} {ps:List aL} {u:aL} {n1:Nat} {sc1:List Int},s.fI=m->m ≠ -1->m ≠ -2->Eo c j s.gJ r ps->AU vsC sc ps s.aO->r ≠ 0->bM vsC m=some u->u.bS=r->¬ HH s->TB (Eo c j) vsC res lf n1 sc1 l n' sc'->(∀scX2:List Int,(∀v ∈ scX,v ∈ scX2)->mp as m ∈ scX2->∀v ∈ sc1,mp as v ∈ scX2) ->
     ∃scX',FB v3 resT (lf && decide (b.fR=[114,101,116,117,114,110])) scX ((o1++o2)++o3) scX'/\(∀v ∈ sc',mp as v ∈ scX')/\((∃t,(s::l).getLast? = some t/\HH t)->b.fR=[115,101,116]->b.fI ∈ scX'):=by
    intro m r ps u n1 sc1 e1 e2 e3 hsg hta hr0 hu hk hns htl hsc;obtain ⟨u',w1,w2,w3⟩:=hm.k _ _ hu
    have htk:OD f s as b=⟨[115,101,116],mp as m,0,[],[],[],s.eU⟩:=by
     unfold OD;rw [if_neg (by rw [e1];exact e3),if_neg (by rw [e1];exact e2),e1]
    obtain ⟨scX2,g1,g2,g3⟩:=MD (resT:=resT) hp hsg hta hv hf hA hB ihB hm (by
     rw [htk];exact ⟨rfl,rfl,.inr (.inl ⟨rfl,u',kO (hA.pre.trans (LX _ _)) w1,by rw [w2,hk]⟩)⟩)
    have hin:=g3 hr0 (by rw [htk]);rw [htk] at g1 hin;have hm2:BW vsC v2 as sc1 scX2:=⟨(hm.mono hpre g2).k,hsc scX2 g2 hin⟩;obtain ⟨scX3,q1,q2,q3⟩:=ihR htl hv hr hm2 (hb1.mono hB.pre);refine ⟨scX3,(g1.mono hrest.pre).app (xeo (show ¬ ([115,101,116]:cF)=[114,101,116,117,114,110] by decide)) q1,q2,λ⟨t,ht1,ht2⟩ hop=>q3 (uW ht1 hns ht2) hop⟩
   have tk1:s.fI=-1->OD f s as b=⟨[118,97,114],-1,f.bX,[],[],[],s.eU⟩:=λh=>by unfold OD;rw [if_neg (by rw [h];decide),if_pos h]
   have tk2:s.fI=-2->OD f s as b=Fl b s.eU:=λh=>by unfold OD;rw [if_pos h];rfl
   have e2:∀ {v:Int},0<=v->v ≠ -1/\v ≠ -2:=λh=>⟨by omega,by omega⟩;cases htb with
   | let_=>exact absurd (show ([108,101,116]:cF)=[99,97,108,108] from ho) (by decide)
   | var_=>exact absurd (show ([118,97,114]:cF)=[99,97,108,108] from ho) (by decide)
   | arr=>exact absurd (show ([97,114,114]:cF)=[99,97,108,108] from ho) (by decide)
   | set=>exact absurd (show ([115,101,116]:cF)=[99,97,108,108] from ho) (by decide)
   | put=>exact absurd (show ([112,117,116]:cF)=[99,97,108,108] from ho) (by decide)
   | if_=>exact absurd (show ([105,102]:cF)=[99,97,108,108] from ho) (by decide)
   | for_=>exact absurd (show ([102,111,114]:cF)=[99,97,108,108] from ho) (by decide)
   | ret=>exact absurd (show ([114,101,116,117,114,110]:cF)=[99,97,108,108] from ho) (by decide)
   | callv k1 k2 k3 k4 k5 k6=>
     exact toVar rfl (e2 (Int.natCast_nonneg n)).1 (e2 (Int.natCast_nonneg n)).2 k1 k2 k3 (vV k4) k5 (λh=>by rcases h with h | h;exact absurd (show ([99,97,108,108]:cF)=[114,101,116,117,114,110] from h) (by decide);have:=h.2;simp only at this;omega) k6 (λscX2 h1 h2 v hv=>by
      rcases zH.1 hv with h3 | h3
      ·exact h1 _ (hm.s v h3)
      ·rw [zG.1 h3];exact h2)
   | calls k1 k2 k3 k4 k5 k6 k7=>
     have hv0:∀ {v:Int} {u:aL},bM vsC v=some u->0<=v:=by
      intro v u h;unfold bM at h
      split at h
      ·assumption
      ·exact nomatch h
     have h0:=hv0 k2;exact toVar rfl (e2 h0).1 (e2 h0).2 k4 k5 (by rcases k3 with k3 | k3 <;> omega) k2 k6.symm (λh=>by rcases h with h | h;exact absurd (show ([99,97,108,108]:cF)=[114,101,116,117,114,110] from h) (by decide);have:=h.2;simp only at this;omega) k7 (λscX2 h1 h2 v hv=>h1 _ (hm.s v hv))
   | do_ k1 k2 k3=>
     have k1':=k1;obtain ⟨_,f',hf',hr',_⟩:=k1';obtain rfl:f=f':=Option.some.inj (hf.symm.trans hf')
     obtain ⟨scX2,g1,g2,g3⟩:=MD (resT:=resT) hp k1 k2 hv hf hA hB ihB hm (by
      rw [tk1 rfl];exact ⟨rfl,rfl,.inr (.inr ⟨rfl,hr'.symm⟩)⟩)
     rw [tk1 rfl] at g1;have hm2:BW vsC v2 as sc scX2:=hm.mono hpre g2;obtain ⟨scX3,q1,q2,q3⟩:=ihR k3 hv hr hm2 (hb1.mono hB.pre);refine ⟨scX3,(g1.mono hrest.pre).app (xeo (show ¬ ([118,97,114]:cF)=[114,101,116,117,114,110] by decide)) q1,q2,λ⟨t,ht1,ht2⟩ hop=>q3 (uW ht1 (λh=>by rcases h with h | h;exact absurd (show ([99,97,108,108]:cF)=[114,101,116,117,114,110] from h) (by decide);exact absurd (show (-1:Int)=-2 from h.2) (by decide)) ht2) hop⟩
   | retc k1 k2 k3=>
     obtain ⟨rfl,rfl⟩:=hrest.nil_inv;obtain ⟨scX2,g1,g2,g3⟩:=MD (resT:=resT) hp k1 k3 hv hf hA hB ihB hm (by rw [tk2 rfl];exact hb1.bat _);rw [tk2 rfl] at g1 g3;rw [(Bn b _).1] at g1 g3;rw [(Bn b _).2.1] at g3;rw [gS];exact ⟨scX2,by rw [jF];exact g1,λv hv=>g2 _ (hm.s v hv),λ_ hop=>g3 k2 hop⟩
 | @ret vs s l as b y r o v ho hl hnv hrest ihR=>
   intro j vsC res lf n sc n' sc' scX htb hv hr hm hb;cases htb with
   | let_=>exact absurd (show ([108,101,116]:cF)=[114,101,116,117,114,110] from ho) (by decide)
   | var_=>exact absurd (show ([118,97,114]:cF)=[114,101,116,117,114,110] from ho) (by decide)
   | arr=>exact absurd (show ([97,114,114]:cF)=[114,101,116,117,114,110] from ho) (by decide)
   | set=>exact absurd (show ([115,101,116]:cF)=[114,101,116,117,114,110] from ho) (by decide)
   | put=>exact absurd (show ([112,117,116]:cF)=[114,101,116,117,114,110] from ho) (by decide)
   | if_=>exact absurd (show ([105,102]:cF)=[114,101,116,117,114,110] from ho) (by decide)
   | for_=>exact absurd (show ([102,111,114]:cF)=[114,101,116,117,114,110] from ho) (by decide)
   | callv=>exact absurd (show ([99,97,108,108]:cF)=[114,101,116,117,114,110] from ho) (by decide)
   | calls=>exact absurd (show ([99,97,108,108]:cF)=[114,101,116,117,114,110] from ho) (by decide)
   | do_=>exact absurd (show ([99,97,108,108]:cF)=[114,101,116,117,114,110] from ho) (by decide)
   | retc=>exact absurd (show ([99,97,108,108]:cF)=[114,101,116,117,114,110] from ho) (by decide)
   | ret k1 k2 k3=>
     obtain ⟨rfl,rfl⟩:=hrest.nil_inv;have hy:=(List.cons.inj hl).1;rw [hy] at k1 k3;obtain ⟨c1,c2,c3⟩:=hb
     have hst:∀a,({ Fl b a with gJ:=0,aO:=[fx as y] }:aB)=⟨b.fR,b.fI,0,[fx as y],[],[],(Fl b a).eU⟩:=by
      intro a;obtain ⟨b1,b2,b3,b4,b5⟩:=Bn b a;show (⟨(Fl b a).fR,(Fl b a).fI,0,[fx as y],(Fl b a).bQ,(Fl b a).eW,(Fl b a).eU⟩:aB)=_;rw [b1,b2,b4,b5,c1,c2]
     rw [gS,hst]
     rcases c3 with ⟨d1,d2,d3⟩ | ⟨d1,u,d2,d3⟩ | ⟨d1,_⟩
     ·rw [d1,d2];exact ⟨scX,.ret (TX.fx hm k1) (by rw [(gP as y).1,←d3];exact k3),hm.s,λ_ h=>absurd h (by decide)⟩
     ·rw [d1];exact ⟨scX++[b.fI],.set (TX.fx hm k1) d2 (by omega) (by rw [(gP as y).1,d3];exact k3) .nil,λv hv=>Jw _ (hm.s v hv),λ_ _=>MS _ (zG.2 rfl)⟩
     ·exact absurd d1 hnv
 | @retv vs s l as b y r o v ho hl hv0 hrest ihR=>
   intro j vsC res lf n sc n' sc' scX htb hv hr hm hb;cases htb with
   | let_=>exact absurd (show ([108,101,116]:cF)=[114,101,116,117,114,110] from ho) (by decide)
   | var_=>exact absurd (show ([118,97,114]:cF)=[114,101,116,117,114,110] from ho) (by decide)
   | arr=>exact absurd (show ([97,114,114]:cF)=[114,101,116,117,114,110] from ho) (by decide)
   | set=>exact absurd (show ([115,101,116]:cF)=[114,101,116,117,114,110] from ho) (by decide)
   | put=>exact absurd (show ([112,117,116]:cF)=[114,101,116,117,114,110] from ho) (by decide)
   | if_=>exact absurd (show ([105,102]:cF)=[114,101,116,117,114,110] from ho) (by decide)
   | for_=>exact absurd (show ([102,111,114]:cF)=[114,101,116,117,114,110] from ho) (by decide)
   | callv=>exact absurd (show ([99,97,108,108]:cF)=[114,101,116,117,114,110] from ho) (by decide)
   | calls=>exact absurd (show ([99,97,108,108]:cF)=[114,101,116,117,114,110] from ho) (by decide)
   | do_=>exact absurd (show ([99,97,108,108]:cF)=[114,101,116,117,114,110] from ho) (by decide)
   | retc=>exact absurd (show ([99,97,108,108]:cF)=[114,101,116,117,114,110] from ho) (by decide)
   | ret k1 k2 k3=>
     obtain ⟨rfl,rfl⟩:=hrest.nil_inv;have hy:=(List.cons.inj hl).1;rw [hy] at k1 k3;obtain ⟨c1,c2,c3⟩:=hb
     have hst:∀a,({ Fl b a with fI:=(vs.length:Int),gJ:=0,aO:=[fx as y] }:aB)=⟨b.fR,(vs.length:Int),0,[fx as y],[],[],(Fl b a).eU⟩:=by
      intro a;obtain ⟨b1,b2,b3,b4,b5⟩:=Bn b a;show (⟨(Fl b a).fR,(vs.length:Int),0,[fx as y],(Fl b a).bQ,(Fl b a).eW,(Fl b a).eU⟩:aB)=_;rw [b1,b4,b5,c1,c2]
     have hnew:bM (vs++[⟨[],b.gJ,0⟩]) (vs.length:Int)=some (⟨[],b.gJ,0⟩:aL):=by
      unfold bM;rw [if_pos (by omega),CS,Ma (rM _)];simp
     rw [gS,hst,hv0]
     rcases c3 with ⟨d1,_⟩ | ⟨d1,_⟩ | ⟨_,d2⟩
     ·rw [hv0] at d1;exact absurd d1 (by decide)
     ·rw [hv0] at d1;exact absurd d1 (by decide)
     ·exact ⟨scX++[(vs.length:Int)],.var_ ((TX.fx hm k1).mono (LX _ _) (λ_ h=>h)) hnew (by simp only;omega) (by rw [(gP as y).1];simp only [d2];exact k3) .nil,λv hv=>Jw _ (hm.s v hv),λ_ h=>absurd h (by decide)⟩
 | @other vs s l as b o1 v1 o2 v2 o3 v3 h1 h2 hb1 hb2 hrest i1 i2 ihR=>
   intro j vsC res lf n sc n' sc' scX htb hv hr hm hb;have hsm:∀ {sc:List Int} v,v ∈ sc->v ∈ sc:=λ_ h=>h;have hns:¬ HH s:=λh=>by rcases h with h | h;exact h2 h;exact h1 h.1
   cases htb with
   | callv=>exact absurd rfl h1
   | calls=>exact absurd rfl h1
   | do_=>exact absurd rfl h1
   | retc=>exact absurd rfl h1
   | ret=>exact absurd rfl h2
   | let_ k1 k2 k3 k4 k5=>
     obtain ⟨rfl,rfl⟩:=hb1.nil_inv;obtain ⟨rfl,rfl⟩:=hb2.nil_inv;obtain ⟨u',w1,w2,w3⟩:=hm.k _ _ (vV k3);obtain ⟨scX3,q1,q2,q3⟩:=ihR k5 hv hr (hm.snoc _) hb;exact ⟨scX3,.let_ ((TX.fx hm k1).mono hrest.pre hsm) (by rw [(gP as _).1];exact k2) (kO hrest.pre w1) (by rw [w2];exact k4) q1,q2,λ⟨t,ht1,ht2⟩ hop=>q3 (uW ht1 hns ht2) hop⟩
   | var_ k1 k3 k4 k5=>
     obtain ⟨rfl,rfl⟩:=hb1.nil_inv;obtain ⟨rfl,rfl⟩:=hb2.nil_inv;obtain ⟨u',w1,w2,w3⟩:=hm.k _ _ (vV k3);obtain ⟨scX3,q1,q2,q3⟩:=ihR k5 hv hr (hm.snoc _) hb;have hrg:=k1.range hv;have hk:u'.bS=GE _:=w2.trans k4;exact ⟨scX3,.var_ ((TX.fx hm k1).mono hrest.pre hsm) (kO hrest.pre w1) (by rw [hk];unfold GE;split <;> omega) (by rw [(gP as _).1,hk];unfold KE GE;split <;> omega) q1,q2,λ⟨t,ht1,ht2⟩ hop=>q3 (uW ht1 hns ht2) hop⟩
   | arr k3 k4 k5=>
     obtain ⟨rfl,rfl⟩:=hb1.nil_inv;obtain ⟨rfl,rfl⟩:=hb2.nil_inv;obtain ⟨u',w1,w2,w3⟩:=hm.k _ _ (vV k3);obtain ⟨scX3,q1,q2,q3⟩:=ihR k5 hv hr (hm.snoc _) hb;exact ⟨scX3,.arr (kO hrest.pre w1) (by rw [w2];exact k4) q1,q2,λ⟨t,ht1,ht2⟩ hop=>q3 (uW ht1 hns ht2) hop⟩
   | set k1 k2 k3 k4 k5 k6=>
     obtain ⟨rfl,rfl⟩:=hb1.nil_inv;obtain ⟨rfl,rfl⟩:=hb2.nil_inv;obtain ⟨u',w1,w2,w3⟩:=hm.k _ _ k2;obtain ⟨scX3,q1,q2,q3⟩:=ihR k6 hv hr (hm.mono (QK _) λv hv=>Jw _ hv) hb;exact ⟨scX3,.set ((TX.fx hm k4).mono hrest.pre hsm) (kO hrest.pre w1) (by rw [w2];exact k3) (by rw [(gP as _).1,w2];exact k5) q1,q2,λ⟨t,ht1,ht2⟩ hop=>q3 (uW ht1 hns ht2) hop⟩
   | put k1 k2 k3 k4 k5 k6 k7 k8 k9=>
     obtain ⟨rfl,rfl⟩:=hb1.nil_inv;obtain ⟨rfl,rfl⟩:=hb2.nil_inv;obtain ⟨u',w1,w2,w3⟩:=hm.k _ _ k2;obtain ⟨scX3,q1,q2,q3⟩:=ihR k9 hv hr hm hb;exact ⟨scX3,.put (hm.s _ k1) (kO hrest.pre w1) (by rw [w2];exact k3) ((TX.fx hm k4).mono hrest.pre hsm) (by rw [(gP as _).1];exact k5) (by rw [(gP as _).2.1,(gP as _).2.2,w3 k3];exact k6) ((TX.fx hm k7).mono hrest.pre hsm) (by rw [(gP as _).1];exact k8) q1,q2,λ⟨t,ht1,ht2⟩ hop=>q3 (uW ht1 hns ht2) hop⟩
   | if_ k1 k2 k3 k4 k5=>
     obtain ⟨sa,p1,p2,p3⟩:=i1 k3 hv hr hm hb;obtain ⟨sb,r1,r2,r3⟩:=i2 k4 hv hr (hm.mono hb1.pre hsm) (hb.mono hb1.pre);obtain ⟨scX3,q1,q2,q3⟩:=ihR k5 hv hr (hm.mono (hb1.pre.trans hb2.pre) hsm) (hb.mono (hb1.pre.trans hb2.pre));rw [Bool.false_and] at p1 r1;have hpre:=(hb1.pre.trans hb2.pre).trans hrest.pre;refine ⟨scX3,?_,q2,λ⟨t,ht1,ht2⟩ hop=>q3 (uW ht1 hns ht2) hop⟩;simp only [KL,FG (show (-1:Int)<0 by decide)];exact .if_ ((TX.fx hm k1).mono hpre hsm) (by rw [(gP as _).1];exact k2) (p1.mono (hb2.pre.trans hrest.pre)) (r1.mono hrest.pre) q1
   | for_ k1 k2 k3 k4 k5 k6 k7 k8=>
     obtain ⟨rfl,rfl⟩:=hb2.nil_inv;obtain ⟨u',w1,w2,w3⟩:=hm.k _ _ (vV k5);obtain ⟨sa,p1,p2,p3⟩:=i1 k7 hv hr (hm.snoc _) hb;obtain ⟨scX3,q1,q2,q3⟩:=ihR k8 hv hr (hm.mono hb1.pre hsm) (hb.mono hb1.pre);rw [Bool.false_and] at p1;have hpre:=hb1.pre.trans hrest.pre;exact ⟨scX3,.for_ ((TX.fx hm k1).mono hpre hsm) (by rw [(gP as _).1];exact k2) ((TX.fx hm k3).mono hpre hsm) (by rw [(gP as _).1];exact k4) (kO hpre w1) (by rw [w2];exact k6) (p1.mono hrest.pre) q1,q2,λ⟨t,ht1,ht2⟩ hop=>q3 (uW ht1 hns ht2) hop⟩
theorem Pl (v:Int):mp [] v=v:=by
 unfold mp;rw [if_pos (by simp;omega)]
theorem QH (hp:PO c rk) {n:Nat} {i:Int} {r:aT × Int} (h:uX n c.p_ i=some r) (he:r.2=0) :
  ∃(k:Nat) (fn:aT),i=(k:Int)/\c.p_.bF[k]? = some fn/\r.1={ fn with aX:=r.1.aX,bQ:=r.1.bQ }/\fn.aX <+: r.1.aX ∧
   Jh c.p_ fn.aX fn.bQ [] ⟨[114,101,116,117,114,110],-1,0,[],[],[],-1⟩ r.1.bQ r.1.aX/\∃sc',FB r.1.aX fn.bX true (qR fn.bC.toNat) r.1.bQ sc':=by
 unfold uX at h;obtain ⟨y,hy,h⟩:=aI h;cases y with
 | true=>
   rw [if_pos rfl] at h;rw [←bU h] at he;exact absurd he (by decide)
 | false=>
   rw [if_neg (by decide)] at h;obtain ⟨fn,hfn,h⟩:=aI h;obtain ⟨_,h⟩:=cH h;obtain ⟨z,hz,h⟩:=aI h
   obtain ⟨k,hk⟩:∃k:Nat,i=(k:Int):=by
    unfold bM at hfn
    split at hfn
    ·exact ⟨i.toNat,by omega⟩
    ·exact nomatch hfn
   rw [hk] at hfn;have hfg:=zX hfn
   by_cases hze:z.2.e_=0
   ·rw [if_neg (by simp [hze])] at h;obtain rfl:=bU h;have hB:∀f ∈ c.p_.bF,tX f.bQ<=1000000000/\f.aX.length<=1000000000:=λf hf=>⟨by have:=hp.sz f hf;omega,by have:=(hp.co.vl f hf).1;omega⟩;have hfm:=CT hfg;obtain ⟨g1,g2⟩:=(flB_all hB n).1 ⟨c.p_,fn,0,0⟩ fn.bQ [] _ z.1 z.2 rfl (hB fn hfm).1 hz hze;have tf:=hp.tf k fn hfg;obtain ⟨sc',htb⟩:=tf.body;obtain ⟨ki1,ki2⟩:=hp.co.ki fn hfm;have hmap:BW fn.aX fn.aX [] (qR fn.bC.toNat) (qR fn.bC.toNat):=⟨λv u hu=>⟨u,by rw [Pl];exact hu,rfl,λ_=>rfl⟩,λv hv=>by rw [Pl];exact hv⟩;obtain ⟨scX,k1,_,_⟩:=fty (resT:=fn.bX) hp g1 htb ki1 ki2 hmap ⟨rfl,rfl,.inl ⟨rfl,rfl,rfl⟩⟩;have hvs:z.2.f_={ fn with aX:=z.2.f_.aX }:=g2.f;refine ⟨k,fn,hk,hfg,?_,g1.pre,g1,scX,k1⟩;show ({ z.2.f_ with bQ:=z.1 }:aT)=_;rw [hvs]
   ·rw [if_pos (by simpa using hze)] at h;rw [←bU h] at he;exact absurd he hze
end
