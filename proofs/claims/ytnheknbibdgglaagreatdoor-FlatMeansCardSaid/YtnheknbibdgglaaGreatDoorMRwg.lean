import Derived.Test.YtnheknbibdgglaaGreatDoorMTyp
namespace Go.Proofs.YtnheknbibdgglaaGreatDoor.Abs
open Go.RowKit
set_option linter.all false
inductive MQ:aF->Prop
 | mk {x}:x.eG.length<=16->(∀y ∈ x.aM,MQ y)->MQ x
inductive StB:aA->Prop
 | mk {s}:(∀x ∈ s.aM,MQ x)->(∀t ∈ s.bR,StB t)->(∀t ∈ s.iP,StB t)->StB s
theorem MQ.nil {o:cQ} {t k v a:Int} (h:o.length<=16):MQ ⟨o,t,k,v,[],a⟩:=.mk h λy hy=>nomatch hy
theorem Ic {α:Type} {P:α->Prop} {x:α} (h:P x):∀y ∈ [x],P y:=λy hy=>by obtain rfl:=zA.1 hy;exact h
theorem Vv {α:Type} {P:α->Prop} {x y:α} (h:P x) (k:P y):∀z ∈ [x,y],P z:=λz hz=>by
 rcases Cj.1 hz with rfl | hz
 ·exact h
 ·exact Ic k z hz
theorem all3 {α:Type} {P:α->Prop} {x y z:α} (h:P x) (k:P y) (l:P z):∀u ∈ [x,y,z],P u:=λu hu=>by
 rcases Cj.1 hu with rfl | hu
 ·exact h
 ·exact Vv k l u hu
theorem SO.len {o:cQ} {x y:aF} {t:Int} (h:SO o x y t):o.length<=16:=by
 rcases h with ⟨h,_⟩ | ⟨h,_⟩ | ⟨h,_⟩ | ⟨h,_⟩ | ⟨h,_⟩
 ·rcases h with rfl | rfl <;> decide
 ·rcases h with rfl | rfl | rfl <;> decide
 ·subst h;decide
 ·rcases h with rfl | rfl <;> decide
 ·rcases h with rfl | rfl | rfl | rfl | rfl <;> decide
section
variable {vs:List aJ} {sc:List Int}
theorem TX.opB {x:aF} (h:TX vs sc x):MQ x:=by
 induction h with
 | num=>exact .nil zb
 | var _ _ _=>exact .nil zb
 | index _ _ _ _ _ _ ih=>exact .mk (by simp only;decide) (Ic ih)
 | un h _ ih=>exact .mk (by simp only;rcases h with rfl | rfl <;> decide) (Ic ih)
 | bin _ _ h ih1 ih2=>exact .mk h.len (Vv ih1 ih2)
 | sel _ _ _ _ _ ih1 ih2 ih3=>exact .mk (by simp only;decide) (all3 ih1 ih2 ih3)
 | long _ _ ih=>exact .mk (by simp only;decide) (Ic ih)
 | wide _ _ _ _ ih1 ih2=>exact .mk (by simp only;decide) (Vv ih1 ih2)
 | half h _ _ ih=>exact .mk (by simp only;rcases h with rfl | rfl <;> decide) (Ic ih)
theorem Bq.opB {p:aJ} {x:aF} (h:Bq vs sc p x):MQ x:=by
 cases h with
 | arr _ _ _ _ _=>exact .nil zb
 | pub _ h _=>exact h.opB
 | val _ _ h _=>exact h.opB
theorem zS.each {ps:List aJ} {l:List aF} (h:zS vs sc ps l) {x:aF} (hx:x ∈ l):∃p ∈ ps,Bq vs sc p x:=by
 obtain ⟨i,hi⟩:=List.getElem?_of_mem hx;have hlt:=(sG.1 hi).1;exact ⟨ps[i]'(by rw [←h.1];exact hlt),Oo _,h.2 i _ x (tS _) hi⟩
variable {sg:Hz} {res:Int} {l:Bool} {n n':Nat} {sc':List Int} {ss:List aA}
theorem xK {α:Type} {P:α->Prop} {x:α} {l:List α} (h:P x) (k:∀y ∈ l,P y):∀y ∈ x::l,P y:=λy hy=>by
 rcases Cj.1 hy with rfl | hy
 ·exact h
 ·exact k y hy
theorem xD {α:Type} {P:α->Prop}:∀y ∈ ([]:List α),P y:=λy hy=>nomatch hy
end
theorem LF {v:Int} {as:List Int}:aW (xF v as) λr=>as=[]->r=v:=by
 unfold xF;refine aW.bind (P:=λy=>y=true ∨ y=false/\0<=v/\v<as.length) ?_ λy hy=>?_
 ·refine aW.iteb (λ_=>.some (.inl rfl)) λh=>.some ?_;have h:=PP h
  by_cases h2:(as.length:Int)<=v
  ·exact .inl (vO h2)
  ·exact .inr ⟨Om h2,za,za⟩
 ·refine aW.iteb (λ_=>.some λ_=>rfl) λh=>?_
  rcases hy with e | ⟨_,h0,h1⟩
  ·rw [e] at h;cases h
  ·exact (aW.idx h0 h1 (Q:=λ_=>True) λ_ _=>trivial).bind λx _=>.some λe=>by rw [e] at h1;simp at h1;omega
structure XR (as:List Int) (x y:aF):Prop where
 sz:xz y=xz x
 op:MQ x->MQ y
 id:as=[]->y=x
structure XLR (as:List Int) (l r:List aF):Prop where
 len:r.length=l.length
 sz:oY r=oY l
 op:(∀x ∈ l,MQ x)->∀y ∈ r,MQ y
 id:as=[]->r=l
theorem XLR.nil {as:List Int}:XLR as [] []:=⟨rfl,rfl,λh=>h,λ_=>rfl⟩
theorem XLR.cons {as:List Int} {x y:aF} {l r:List aF} (h:XR as x y) (k:XLR as l r):XLR as (x::l) (y::r):=
 ⟨by rw [jJ,jJ,k.len],by rw [oY,oY,h.sz,k.sz],λho=>xK (h.op (ho x Ja)) (k.op λz hz=>ho z (IZ _ hz)),λe=>by rw [h.id e,k.id e]⟩
theorem Se {f:aF->List Int->Option aF} {l:List aF} {as:List Int} (hf:∀x ∈ l,aW (f x as) (XR as x)) (hl:l.length<=100000000) :
  ∀(k v:Nat) (acc:List aF),l.length<v+k->v<=l.length->acc.length=v->aW (tQ f l as k acc (v:Int)) λr=>∃r',r=acc++r'/\XLR as (l.drop v) r':=by
 intro k
 induction k with
 | zero=>intro v acc h1 h2;omega
 | succ k ih=>
   intro v acc h1 h2 h3;unfold tQ
   by_cases hv:v<l.length
   ·have hd:l.drop v=l[v]::l.drop (v+1):=On hv;have e:aS l (v:Int)=some l[v]:=vM (tS hv);rw [cG (vO za),e,nA];refine (hf _ (Oo hv)).bind λy hy=>aW.need (by simp only [jJ,mO];omega) ?_;rw [fD (n:=(v:Int)+1) za za,show ((v:Int)+1)=((v+1:Nat):Int) by omega];refine (ih (v+1) _ za za (by rw [nB,tF,h3])).mono λr hr=>?_;obtain ⟨r',rfl,hr⟩:=hr;exact ⟨y::r',zc,by rw [hd];exact .cons hy hr⟩
   ·rw [bU (by rw [GC];omega),xea za];exact .some ⟨[],zc,.nil⟩
theorem Ln:∀n:Nat,(∀(x:aF) (as:List Int),2*xz x<n->xz x<=100000000->aW (qV n x as) (XR as x))/\(∀(l:List aF) (as:List Int),2*oY l+1<n->oY l<=100000000->aW (sZ n l as) (XLR as l)):=by
 intro n
 induction n with
 | zero=>exact ⟨λx as h=>za,λl as h=>za⟩
 | succ n ih=>
   refine ⟨λx as h hb=>?_,λl as h hb=>?_⟩
   ·show aW (uG (sZ n) n x as) _;unfold uG;have hz:=yZ x;refine LF.bind λv hv=>(ih.2 _ as za za).bind λr hr=>.some ⟨?_,λho=>?_,λe=>?_⟩
    ·rw [yZ,yZ,hr.sz]
    ·obtain ⟨h1,h2⟩:=ho;exact .mk h1 (hr.op h2)
    ·cases x;rw [hv e,hr.id e]
   ·show aW (sY (qV n) n l as) _;unfold sY;have hl:=GQ l
    have:=Se (f:=qV n) (l:=l) (as:=as) (λx hx=>by
     have h1:=FH hx;exact ih.1 x as za za) za n 0 [] za za rfl
    refine aW.bind this λr hr=>.some ?_;obtain ⟨r',rfl,hr⟩:=hr;exact hr
theorem Lm {n:Nat} {x:aF} {as:List Int} (h:2*xz x<n) (hb:xz x<=100000000):aW (qV n x as) (XR as x):=(Ln n).1 x as h hb
theorem Pp {n:Nat} {l:List aF} {as:List Int} (h:2*oY l+1<n) (hb:oY l<=100000000):aW (sZ n l as) (XLR as l):=(Ln n).2 l as h hb
mutual
def PY:aA->Nat
 | ⟨_,_,_,_,b,e,_⟩=>1+rP b+rP e
def rP:List aA->Nat
 | []=>0
 | x::l=>PY x+rP l
end
theorem Tx (x:aA):PY x=1+rP x.bR+rP x.iP:=by cases x;rw [PY]
theorem MX (a b:List aA):rP (a++b)=rP a+rP b:=by
 induction a with
 | nil=>rw [wN,rP,ES]
 | cons x a ih=>rw [EP,rP,rP,ih,xee]
inductive NCS:aA->Prop
 | ret {x a}:NCS ⟨[114,101,116,117,114,110],-1,0,[x],[],[],a⟩
 | st {o v f l b e a}:o ≠ [99,97,108,108]->o ≠ [114,101,116,117,114,110]->(∀t ∈ b,NCS t)->(∀t ∈ e,NCS t)->NCS ⟨o,v,f,l,b,e,a⟩
structure Sz (x:aL):Prop where
 lo:0<=x.gG
 hi:x.gG<=30000
 ok:x.e_=0->x.gG<=16384
 e:x.e_=0 ∨ x.e_=161
structure CtR (x r:aL):Prop where
 p:r.p_=x.p_
 f:r.f_=x.f_
 s:r.gG=x.gG+1
 e:r.e_=if 16384<x.gG+1 then 161 else x.e_
theorem Ge {x:aL} (h0:0<=x.gG) (h1:x.gG<=1000000000):aW (eB x) (CtR x):=by
 unfold eB;rw [fD (n:=x.gG+1) za za];refine aW.iteb (λh=>.some ⟨rfl,rfl,rfl,?_⟩) (λh=>.some ⟨rfl,rfl,rfl,?_⟩)
 ·rw [cG (EG h)]
 ·rw [bU (PP h)]
theorem CtR.sz {x r:aL} (h:CtR x r) (hs:Sz x) (hx:x.gG<=29999):Sz r:=by
 have h1:=h.s;have h2:=h.e;have h3:=hs.lo;refine ⟨za,za,λe=>?_,?_⟩
 ·rw [h2] at e;split at e
  ·omega
  ·omega
 ·rw [h2];split
  ·exact .inr rfl
  ·exact hs.e
def back0:aA:=⟨[114,101,116,117,114,110],-1,0,[],[],[],-1⟩
inductive FS (p:aK) (rk:Int->Nat) (m:Nat):aA->Prop
 | ret {x a}:MQ x->FS p rk m ⟨[114,101,116,117,114,110],-1,0,[x],[],[],a⟩
 | call {v f xs a fn}:aS p.aU f=some fn->rk f<m->xs.length<=fn.aO.length->(∀x ∈ xs,MQ x)->FS p rk m ⟨[99,97,108,108],v,f,xs,[],[],a⟩
 | st {o v f l b e a}:o ≠ [99,97,108,108]->o ≠ [114,101,116,117,114,110]->(∀x ∈ l,MQ x)->(∀t ∈ b,FS p rk m t)->(∀t ∈ e,FS p rk m t)->FS p rk m ⟨o,v,f,l,b,e,a⟩
structure PG (p:aK) (rk:Int->Nat):Prop where
 fs:∀k fn,aS p.aU k=some fn->∀t ∈ fn.bR,FS p rk (rk k) t
 sz:∀k fn,aS p.aU k=some fn->uS fn.bR<=3001
 vl:∀k fn,aS p.aU k=some fn->fn.aO.length<=250/\0<=fn.aQ/\fn.aQ<=fn.aO.length
structure Ok (t:aA):Prop where
 nc:NCS t
 st:StB t
 tzb:tz t<=3001*PY t
theorem GX (l:List aA):l.length<=rP l:=by
 induction l with
 | nil=>exact HI _
 | cons x l ih=>have:=Tx x;rw [jJ,rP];omega
theorem Ok.all {l:List aA} (h:∀t ∈ l,Ok t):uS l<=3001*rP l:=by
 induction l with
 | nil=>exact HI _
 | cons x l ih=>
   have h1:=(h x Ja).tzb;have h2:=ih λt ht=>h t (IZ _ ht);rw [uS,rP];omega
structure VR (x r:aL):Prop where
 f:r.f_={ x.f_ with aO:=r.f_.aO }
 l:x.f_.aO.length<=4096->r.f_.aO.length<=4096
theorem VR.refl (x:aL):VR x x:=⟨rfl,λh=>h⟩
theorem VR.of {x r:aL} (h:r.f_=x.f_):VR x r:=⟨by rw [h],λk=>by rw [h];exact k⟩
theorem VR.trans {x y z:aL} (h:VR x y) (k:VR y z):VR x z:=⟨by rw [k.f,h.f],λe=>k.l (h.l e)⟩
structure VJ (x r:aL):Prop where
 p:r.p_=x.p_
 v:VR x r
 s:r.gG=x.gG
 e:r.e_=x.e_ ∨ r.e_=161
theorem VJ.sz {x r:aL} (h:VJ x r) (hs:Sz x):Sz r:=by
 have h1:=h.s;refine ⟨by rw [h1];exact hs.lo,by rw [h1];exact hs.hi,λe=>?_,?_⟩
 ·rw [h1]
  rcases h.e with k | k
  ·exact hs.ok (by rw [←k];exact e)
  ·rw [k] at e;cases e
 ·rcases h.e with k | k
  ·rw [k];exact hs.e
  ·exact .inr k
theorem VJ.zero {x r:aL} (h:VJ x r) (e:r.e_=0):x.e_=0:=by
 rcases h.e with k | k
 ·rw [←k];exact e
 ·rw [k] at e;cases e
theorem HY {x:aL} {v:aJ}:aW (eA x v) λr=>VJ x r.2:=by
 unfold eA;refine aW.iteb (λh=>.some ⟨rfl,.of rfl,rfl,.inr rfl⟩) (λh=>?_);have h:=PP h;refine aW.need (by simp only [jJ,mO];omega) (.some ⟨rfl,⟨rfl,λ_=>?_⟩,rfl,.inl rfl⟩);show (x.f_.aO++[v]).length<=4096;rw [nB,tF];omega
structure FR (x:aL) (r:List aA × aL):Prop where
 p:r.2.p_=x.p_
 v:VR x r.2
 s:Sz r.2
 len:(r.1.length:Int)+x.gG<=r.2.gG
 out:r.2.e_=0->x.e_=0/\(∀t ∈ r.1,Ok t)/\x.gG+rP r.1<=r.2.gG
structure BkS (b:aA):Prop where
 bo:b.bR=[]
 el:b.iP=[]
 op:(b.eG=[114,101,116,117,114,110]/\b.cZ=-1) ∨ b.eG=[118,97,114] ∨ b.eG=[115,101,116]
theorem Qh {o:cQ} {v f:Int} {y:aF} {a:Int} (h1:o ≠ [99,97,108,108]) (h2:o ≠ [114,101,116,117,114,110]) (ho:MQ y) (hz:xz y<=3000):Ok ⟨o,v,f,[y],[],[],a⟩:=
 ⟨.st h1 h2 xD xD,.mk (Ic ho) xD xD,by rw [tz,oY,oY,uS,PY,rP];omega⟩
theorem Tl:([118,97,114]:cQ) ≠ [99,97,108,108]:=zb
theorem Tk:([118,97,114]:cQ) ≠ [114,101,116,117,114,110]:=zb
theorem set_nc:([115,101,116]:cQ) ≠ [99,97,108,108]:=zb
theorem set_nr:([115,101,116]:cQ) ≠ [114,101,116,117,114,110]:=zb
theorem Ts {x:aL} {y:aF} {b:aA} (hb:BkS b) (ho:MQ y) (hz:xz y<=3000):aW (fB x y b) λr=>VJ x r.2/\Ok r.1/\PY r.1=1:=by
 obtain ⟨h1,h2,h3⟩:=hb;obtain ⟨o,v,f,l,bo,el,a⟩:=b;simp only at h1 h2 h3;subst h1 h2;have hs:∀v f l a,PY ⟨o,v,f,l,[],[],a⟩=1:=λv f l a=>by rw [PY,rP]
 unfold fB;refine aW.iteb (λh=>?_) (λh=>?_)
 ·have h:o=[118,97,114]:=EG h;subst h;exact HY.bind λr hr=>.some ⟨hr,Qh Tl Tk ho hz,hs _ _ _ _⟩
 ·refine .some ⟨⟨rfl,.refl x,rfl,.inl rfl⟩,?_,hs _ _ _ _⟩
  rcases h3 with ⟨rfl,rfl⟩ | rfl | rfl
  ·exact ⟨.ret,.mk (Ic ho) xD xD,by show tz ⟨_,_,_,[y],[],[],_⟩<=3001*PY ⟨_,_,_,[y],[],[],_⟩;rw [tz,oY,oY,uS,PY,rP];omega⟩
  ·exact Qh Tl Tk ho hz
  ·exact Qh set_nc set_nr ho hz
theorem Rb {x:aL} {s b:aA} {as:List Int} {fn:aP} (h:aS x.p_.aU s.gI=some fn) (hb:BkS b):aW (jT x s as b) BkS:=by
 unfold jT;rw [h,nA];refine aW.iteb (λ_=>aW.iteb (λ_=>.some ⟨hb.bo,hb.el,hb.op⟩) (λ_=>.some hb)) (λ_=>aW.iteb (λ_=>.some ⟨rfl,rfl,.inr (.inl rfl)⟩) (λ_=>LF.bind λv _=>.some ⟨rfl,rfl,.inr (.inr rfl)⟩))
structure AR (x:aL) (k:Nat) (n:Int) (r:List aA × List Int × aL):Prop where
 p:r.2.2.p_=x.p_
 v:VR x r.2.2
 s:Sz r.2.2
 hi:r.2.2.gG<=x.gG+n
 own:r.2.1.length=k
 len:(r.1.length:Int)+x.gG<=r.2.2.gG
 out:r.2.2.e_=0->x.e_=0/\(∀t ∈ r.1,Ok t)/\x.gG+rP r.1<=r.2.2.gG
theorem args_l1 {n:Nat} {s:aA} {as:List Int} {fn:aP} (hl:s.aM.length<=fn.aO.length) (hv:fn.aO.length<=250) (ho:∀y ∈ s.aM,MQ y) (hz:oY s.aM<=3000) (hn:6002<n) {x0:aL} (h0:0<=x0.gG) (h1:x0.gG<=20000) :
  ∀(k v:Nat) (acc:List aA) (own:List Int) (x:aL),s.aM.length<v+k->v<=s.aM.length->AR x0 v v (acc,own,x)->aW (fH n s as fn k acc own (v:Int) x) (AR x0 s.aM.length s.aM.length):=by
 intro k
 induction k with
 | zero=>intro v acc own x h1 h2;omega
 | succ k ih=>
   intro v acc own x h2 h3 ha;unfold fH
   by_cases hv2:v<s.aM.length
   ·have hg:=tS hv2;have e:aS s.aM (v:Int)=some s.aM[v]:=vM hg;have hm:s.aM[v] ∈ s.aM:=Oo hv2;have hzm:=FH hm;have hi:=ha.hi;have hlo:=ha.len;have how:own.length=v:=ha.own;simp only at hi hlo;rw [cG (vO za),e,nA,fD (n:=(v:Int)+1) za za,show ((v:Int)+1)=((v+1:Nat):Int) by omega]
    have step:∀(o:cQ) (u:aJ),o ≠ [99,97,108,108]->o ≠ [114,101,116,117,114,110]->aW ((eB x).bind λx35=>(eA x35 u).bind λx37=>iE (own.length+[x37.1].length<=1073741824) <| (qV n s.aM[v] as).bind λx44=>iE (acc.length+[(aA.mk o x37.1 (0:Int) [x44] [] [] s.fV)].length<=1073741824) <| some ((acc++[(aA.mk o x37.1 (0:Int) [x44] [] [] s.fV)]),(own++[x37.1]),x37.2)) (AR x0 (v+1) (v+1:Nat)):=by
     intro o u ho1 ho2;refine (Ge (x:=x) ha.s.lo za).bind λx1 g1=>HY.bind λx2 g2=>aW.need (by simp only [jJ,mO];omega) ((Lm (n:=n) za za).bind λy hy=>aW.need (by simp only [jJ,mO];omega) ?_);have hs1:Sz x1:=g1.sz ha.s (by show x.gG<=29999;omega);have e1:=g1.s;have e2:=g2.s;refine .some ⟨g2.p.trans (g1.p.trans ha.p),ha.v.trans ((VR.of g1.f).trans g2.v),g2.sz hs1,?_,?_,?_,λe0=>?_⟩
     ·show x2.2.gG<=_;omega
     ·show (own++[x2.1]).length=_;rw [nB,tF,how]
     ·show ((acc++[_]).length:Int)+_<=x2.2.gG;rw [nB,tF];omega
     ·have k1:=g2.zero e0
      have k2:x.e_=0:=by
       have:=g1.e;rw [k1] at this
       split at this
       ·cases this
       ·exact this.symm
      obtain ⟨q1,q2,q3⟩:=ha.out k2;simp only at q2 q3;refine ⟨q1,λt ht=>?_,?_⟩
      ·rcases BV.1 ht with ht | ht
       ·exact q2 t ht
       ·obtain rfl:=zA.1 ht;exact Qh ho1 ho2 (hy.op (ho _ hm)) (by rw [hy.sz];omega)
      ·show _+(rP (acc++[_]):Int)<=x2.2.gG;rw [MX,rP,PY,rP];omega
    refine aW.bind (P:=AR x0 (v+1) (v+1:Nat)) ?_ λy hy=>ih (v+1) _ _ _ za za hy;refine aW.iteb (λ_=>LF.bind λw _=>aW.need (by simp only [jJ,mO];omega) (.some ?_)) (λ_=>?_)
    ·exact ⟨ha.p,ha.v,ha.s,by show x.gG<=_;omega,by show (own++[w]).length=_;rw [nB,tF,how],ha.len,ha.out⟩
    ·have hv3:v<fn.aO.length:=za
     rw [vM (tS hv3),nA];exact aW.iteb (λ_=>step _ _ zb zb) (λ_=>step _ _ zb zb)
   ·rw [bU (by rw [GC];omega)];have:v=s.aM.length:=za
    subst this;exact .some ha
theorem VJ.trans {x y z:aL} (h:VJ x y) (k:VJ y z):VJ x z:=⟨k.p.trans h.p,h.v.trans k.v,k.s.trans h.s,by
 rcases k.e with e | e
 ·rw [e];exact h.e
 ·exact .inr e⟩
theorem PB {fn:aP} (hv:fn.aO.length<=250):∀(k v:Nat) (own:List Int) (x:aL),(fn.aO.drop fn.aQ.toNat).length<v+k->v<=(fn.aO.drop fn.aQ.toNat).length->own.length<=300+v->aW (fG fn k own (v:Int) x) λr=>VJ x r.2:=by
 have hd:(fn.aO.drop fn.aQ.toNat).length<=250:=by rw [HG];omega
 intro k
 induction k with
 | zero=>intro v own x h1 h2;omega
 | succ k ih=>
   intro v own x h1 h2 h3;unfold fG
   by_cases hv2:v<(fn.aO.drop fn.aQ.toNat).length
   ·rw [cG (vO za),vM (tS hv2),nA];refine HY.bind λr hr=>aW.need (by simp only [jJ,mO];omega) ?_;rw [fD (n:=(v:Int)+1) za za,show ((v:Int)+1)=((v+1:Nat):Int) by omega];exact (ih (v+1) _ _ za za (by rw [nB,tF];omega)).mono λz hz=>hr.trans hz
   ·rw [bU (by rw [GC];omega)];exact .some ⟨rfl,.refl x,rfl,.inl rfl⟩
theorem FR.app {x0 x:aL} {acc:List aA} {r:List aA × aL} (h:FR x0 (acc,x)) (k:FR x r):FR x0 (acc++r.1,r.2):=by
 have h1:=h.len;have h2:=k.len;simp only at h1;refine ⟨k.p.trans h.p,h.v.trans k.v,k.s,?_,λe=>?_⟩
 ·show ((acc++r.1).length:Int)+_<=r.2.gG;rw [nB];omega
 ·obtain ⟨q1,q2,q3⟩:=k.out e;obtain ⟨p1,p2,p3⟩:=h.out q1;refine ⟨p1,λt ht=>?_,?_⟩
  ·rcases BV.1 ht with ht | ht
   ·exact p2 t ht
   ·exact q2 t ht
  ·show _+(rP (acc++r.1):Int)<=r.2.gG;simp only at p3;rw [MX];omega
theorem FR.none {x0 x:aL} {acc:List aA} (h:FR x0 (acc,x)) (e:x.e_ ≠ 0):FR x0 ([],x):=by
 have h1:=h.len;simp only at h1;exact ⟨h.p,h.v,h.s,by show ((([]:List aA).length:Nat):Int)+_<=x.gG;rw [mO];omega,λk=>dE k e⟩
theorem FR.start {x:aL} (hs:Sz x):FR x ([],x):=⟨rfl,.refl x,hs,by show ((([]:List aA).length:Nat):Int)+_<=x.gG;rw [mO];omega,λe=>⟨e,λt ht=>(nomatch ht),by show _+((rP []:Nat):Int)<=x.gG;rw [rP];omega⟩⟩
theorem Sw {fs:aL->aA->List Int->aA->Option (List aA × aL)} {l:List aA} {as:List Int} {b:aA} {p:aK} (hf:∀s ∈ l,∀x,x.e_=0->Sz x->x.p_=p->aW (fs x s as b) (FR x)) (hl:l.length<=100000000) {x0:aL} (hp:x0.p_=p) (h0:0<=x0.gG) :
  ∀(k v:Nat) (acc:List aA) (x:aL),l.length<v+k->v<=l.length->FR x0 (acc,x)->aW (dT fs l as b k acc (v:Int) x) λy=>aW (y.elim (λa=>some (a.1,a.2)) (λa=>some a)) (FR x0):=by
 intro k
 induction k with
 | zero=>intro v acc x h1 h2;omega
 | succ k ih=>
   intro v acc x h1 h2 ha;unfold dT
   by_cases hv:v<l.length
   ·have hg:=tS hv;rw [cG (vO za),vM hg,nA];refine aW.iteb (λh=>.some (.some ?_)) (λh=>?_)
    ·exact ha.none (by simpa using h)
    ·have h:x.e_=0:=by simpa using h
     refine (hf _ (Oo hv) x h ha.s (ha.p.trans hp)).bind λr hr=>?_;have l1:=ha.len;have l2:=hr.len;have l3:=hr.s.hi;have l4:=ha.s.lo;simp only at l1 l4;refine aW.need za ?_;rw [fD (n:=(v:Int)+1) za za,show ((v:Int)+1)=((v+1:Nat):Int) by omega];exact ih (v+1) _ _ za za (ha.app hr)
   ·rw [bU (by rw [GC];omega)];exact .some (.some ha)
section
variable {p:aK} {rk:Int->Nat}
set_option maxRecDepth 20000 in
theorem Sc (hp:PG p rk):∀n:Nat,
  (∀(m:Nat) (x:aL) (l:List aA) (as:List Int) (b:aA),m*20000+4*uS l+2<n->uS l<=3001->(∀t ∈ l,FS p rk m t)->Sz x->x.p_=p->BkS b->aW (eN n x l as b) (FR x)) ∧
  (∀(m:Nat) (x:aL) (s:aA) (as:List Int) (b:aA),m*20000+4*tz s<n->tz s<=3001->FS p rk m s->x.e_=0->Sz x->x.p_=p->BkS b->aW (gM n x s as b) (FR x)) ∧
  (∀(m:Nat) (x:aL) (s:aA) (as:List Int) (b:aA) (fn:aP),m*20000<=n->aS p.aU s.gI=some fn->rk s.gI<m->s.aM.length<=fn.aO.length->(∀y ∈ s.aM,MQ y)->oY s.aM<=3000->x.e_=0->Sz x->x.p_=p->BkS b->aW (kH n x s as b) (FR x)):=by
 intro n
 induction n with
 | zero=>exact ⟨λm x l as b h=>za,λm x s as b h=>za,λm x s as b fn h _ h2=>za⟩
 | succ n ih=>
   obtain ⟨ihB,ihS,ihC⟩:=ih;refine ⟨λm x l as b h hz hl hs hx hb=>?_,λm x s as b h hz hf he hs hx hb=>?_,λm x s as b fn h hi hr hl ho hz he hs hx hb=>?_⟩
   ·show aW (gC (gM n) n x l as b) _;unfold gC;have hlen:=FK l
    exact aW.bind (Sw (fs:=gM n) (l:=l) (p:=p) (λs hm y hy hz2 hp2=>by
     have h1:=PU hm;exact ihS m y s as b (by generalize m*20000=M at h ⊢;omega) za (hl s hm) hy hz2 hp2 hb) za hx hs.lo n 0 [] x za za (.start hs)) λy hy=>hy
   ·show aW (eM (kH n) (eN n) n x s as b) _;unfold eM;have hx0:=hs.ok he;cases hf with
    | @ret e a ho=>
      rw [tz,oY,oY] at h hz;rw [bU (show ¬ decide (([114,101,116,117,114,110]:cQ)=[99,97,108,108])=true by decide)];refine (Ge hs.lo za).bind λx1 h1=>?_;rw [cG (show decide (([114,101,116,117,114,110]:cQ)=[114,101,116,117,114,110])=true by decide)];refine aW.eqn (v:=e) rfl ((Lm (n:=n) za za).bind λy hy=>?_)
      have key:∀b',BkS b'->aW ((fB x1 y b').bind λx19=>some ([x19.1],x19.2)) (FR x):=λb' hb'=>(Ts hb' (hy.op ho) (by rw [hy.sz];omega)).bind λr hr=>by
       obtain ⟨r1,r2,r3⟩:=hr;have e1:=h1.s;have e2:=r1.s;refine .some ⟨r1.p.trans h1.p,(VR.of h1.f).trans r1.v,r1.sz (h1.sz hs za),?_,λe0=>⟨he,λt ht=>?_,?_⟩⟩
       ·show ((([r.1]:List aA).length:Nat):Int)+_<=r.2.gG;rw [tF];omega
       ·obtain rfl:=zA.1 ht;exact r2
       ·show _+((rP [r.1]:Nat):Int)<=r.2.gG;rw [rP,rP,r3];omega
      exact aW.iteb (λ_=>key _ ⟨hb.bo,hb.el,hb.op⟩) (λ_=>key _ hb)
    | @call v f xs a fn hi hr hl ho=>
      rw [tz] at h hz;rw [cG (show decide (([99,97,108,108]:cQ)=[99,97,108,108])=true by decide)];exact (ihC m x _ as b fn za hi hr hl ho (by show oY xs<=3000;omega) he hs hx hb).bind λr hr=>.some hr
    | @st o v f l bo el a ho1 ho2 ho hn1 hn2=>
      rw [tz] at h hz;rw [bU (by rw [GC];exact ho1)];refine (Ge hs.lo za).bind λx1 h1=>?_;rw [bU (by rw [GC];exact ho2)];have hs1:=h1.sz hs za;refine LF.bind λv' hv'=>(Pp (n:=n) (by show 2*oY l+1<n;omega) (by show oY l<=100000000;omega)).bind λl' hl'=>?_;refine (ihB m x1 bo as b (by generalize m*20000=M at h ⊢;omega) za hn1 hs1 (h1.p.trans hx) hb).bind λr1 g1=>(ihB m r1.2 el as b (by generalize m*20000=M at h ⊢;omega) za hn2 g1.s (g1.p.trans (h1.p.trans hx)) hb).bind λr2 g2=>?_;have e1:=h1.s;have e2:=g1.len;have e3:=g2.len;refine .some ⟨g2.p.trans (g1.p.trans h1.p),(VR.of h1.f).trans (g1.v.trans g2.v),g2.s,?_,λe0=>?_⟩
      ·show (((([_]:List aA)).length:Nat):Int)+_<=r2.2.gG;rw [tF];omega
      ·obtain ⟨q1,q2,q3⟩:=g2.out e0;obtain ⟨p1,p2,p3⟩:=g1.out q1;have z1:=Ok.all q2;have z2:=Ok.all p2;have z3:oY l'=oY l:=hl'.sz;refine ⟨he,λt ht=>?_,?_⟩
       ·obtain rfl:=zA.1 ht;refine ⟨.st ho1 ho2 (λt ht=>(p2 t ht).nc) (λt ht=>(q2 t ht).nc),.mk (hl'.op ho) (λt ht=>(p2 t ht).st) (λt ht=>(q2 t ht).st),?_⟩;show tz ⟨o,v',f,l',r1.1,r2.1,a⟩<=3001*PY ⟨o,v',f,l',r1.1,r2.1,a⟩;rw [tz,PY,z3];omega
       ·show _+((rP [⟨o,v',f,l',r1.1,r2.1,a⟩]:Nat):Int)<=r2.2.gG;rw [rP,PY,rP];omega
   ·show aW (gQ (eN n) n x s as b) _;unfold gQ;have hx0:=hs.ok he;obtain ⟨hv1,hv2,hv3⟩:=hp.vl _ _ hi;have hm:1<=m:=za
    refine (Ge hs.lo za).bind λx1 h1=>?_;have hs1:=h1.sz hs za;have e1:=h1.s;rw [h1.p,hx,hi,nA];have hlen:=GQ s.aM;refine aW.bind (P:=AR x1 s.aM.length s.aM.length) ?_ λy hy=>?_
    ·unfold mC;refine aW.bind (args_l1 (n:=n) (s:=s) (as:=as) (fn:=fn) hl hv1 ho hz za hs1.lo za n 0 [] [] x1 za za ⟨rfl,.refl x1,hs1,by show x1.gG<=_;omega,rfl,by show ((([]:List aA).length:Nat):Int)+_<=x1.gG;rw [mO];omega,λe=>⟨e,λt ht=>(nomatch ht),by show _+((rP []:Nat):Int)<=x1.gG;rw [rP];omega⟩⟩) λy hy=>.some hy
    ·refine aW.need ⟨hv2,hv3⟩ ?_;have d1:(fn.aO.drop fn.aQ.toNat).length<=250:=by rw [HG];omega
     have d2:=hy.own;refine (PB hv1 n 0 y.2.1 y.2.2 za za za).bind λz hz2=>?_;have e2:=hy.len;have e3:=hz2.s;have hsz:=hz2.sz hy.s
     have hA:FR x (y.1,z.2):=⟨hz2.p.trans (hy.p.trans h1.p),(VR.of h1.f).trans (hy.v.trans hz2.v),hsz,by show (y.1.length:Int)+_<=z.2.gG;omega,λe0=>by
      obtain ⟨_,q2,q3⟩:=hy.out (hz2.zero e0);exact ⟨he,q2,by show _+(rP y.1:Int)<=z.2.gG;omega⟩⟩
     refine aW.iteb (λh2=>.some (hA.none (by simpa using h2))) (λh2=>?_);have hzp:z.2.p_=p:=hA.p.trans hx;refine (Rb (x:=z.2) (s:=s) (b:=b) (as:=as) (fn:=fn) (by rw [hzp];exact hi) hb).bind λb' hb'=>?_;have hsz3:=hp.sz _ _ hi;refine (ihB (rk s.gI) z.2 fn.bR z.1 b' za hsz3 (hp.fs _ _ hi) hsz hzp hb').bind λr hr=>?_;have l1:=hA.len;have l2:=hr.len;have l3:=hr.s.hi;have l4:=hsz.lo;have l5:=hs.lo;simp only at l1;exact aW.need za (.some (hA.app hr))
structure FlatOk (fn g:aP):Prop where
 f:g={ fn with aO:=g.aO,bR:=g.bR }
 v:g.aO.length<=4096
 ok:∀t ∈ g.bR,Ok t
 sz:rP g.bR<=16384
theorem VK (hp:PG p rk) {n:Nat} {i:Int} (hm:∀k,rk k<=64) (hn:1400000<=n):aW (tR n p i) λr=>(r.2=0->∃fn,aS p.aU i=some fn/\FlatOk fn r.1)/\(0<=i->i<p.aU.length->r.2=0 ∨ r.2=161):=by
 unfold tR;refine aW.bind (P:=λy=>y=true/\¬ (0<=i/\i<p.aU.length) ∨ y=false/\0<=i/\i<p.aU.length) ?_ λy hy=>?_
 ·refine aW.iteb (λh=>.some (.inl ⟨rfl,?_⟩)) λh=>.some ?_
  ·have h:=EG h;omega
  ·have h:=PP h
   by_cases h2:(p.aU.length:Int)<=i
   ·exact .inl ⟨vO h2,za⟩
   ·exact .inr ⟨Om h2,za,za⟩
 refine aW.iteb (λh=>.some ?_) (λh=>?_)
 ·rcases hy with ⟨_,h2⟩ | ⟨h2,_⟩
  ·exact ⟨λe=>dE e zb,λh3 h4=>dE ⟨h3,h4⟩ h2⟩
  ·rw [h2] at h;cases h
 ·rcases hy with ⟨h2,_⟩ | ⟨_,h0,h1⟩
  ·rw [h2] at h;cases h
  obtain ⟨fn,hfn⟩:∃fn,aS p.aU i=some fn:=by
   obtain ⟨r,e,_⟩:=aW.idx (l:=p.aU) h0 h1 (Q:=λ_=>True) λ_ _=>trivial;exact ⟨r,e⟩
  obtain ⟨hv1,_,_⟩:=hp.vl _ _ hfn;have h64:=hm i;have hsz:=hp.sz _ _ hfn;rw [hfn,nA];refine aW.need za ?_;refine ((Sc hp n).1 (rk i) ⟨p,fn,0,0⟩ fn.bR [] back0 za hsz (hp.fs _ _ hfn) ⟨Oz _,(by decide:(0:Int)<=30000),λ_=>(by decide:(0:Int)<=16384),.inl rfl⟩ rfl ⟨rfl,rfl,.inl ⟨rfl,rfl⟩⟩).bind λr hr=>?_;refine aW.iteb (λh=>.some ⟨λe=>dE e (by simpa using h),λ_ _=>hr.s.e⟩) (λh=>.some ⟨λ_=>⟨fn,rfl,?_⟩,λ_ _=>.inl rfl⟩);have h:r.2.e_=0:=by simpa using h
  obtain ⟨_,q2,q3⟩:=hr.out h;have q4:=hr.s.ok h;have hvf:=hr.v.f;refine ⟨?_,hr.v.l (by show fn.aO.length<=4096;omega),q2,by show rP r.1<=16384;simp only at q3;omega⟩;show ({ r.2.f_ with bR:=r.1 }:aP)=_;rw [hvf]
end
end Go.Proofs.YtnheknbibdgglaaGreatDoor.Abs
namespace Go.Proofs.YtnheknbibdgglaaGreatDoor.Abs
open Go.RowKit
set_option linter.all false
section
variable {c:aG} {rk:Int->Nat}
theorem TB.fs (hp:PO c rk) {j:Nat} {vs:List aJ} {res:Int} {l:Bool} {n n':Nat} {sc sc':List Int} {ss:List aA} (h:TB (Hb c j) vs res l n sc ss n' sc'):∀s ∈ ss,FS c.p_ rk (rk j) s:=by
 have key:∀ {sc:List Int} {v f r:Int} {ps:List aJ} {xs:List aF} {a:Int},Hb c j f r ps->zS vs sc ps xs->FS c.p_ rk (rk j) ⟨[99,97,108,108],v,f,xs,[],[],a⟩:=by
  intro sc v f r ps xs a h1 h2;obtain ⟨⟨l,k1,k2⟩,fn,k3,_,k5⟩:=h1;refine .call k3 (hp.rk _ l (vM k1) f k2) ?_ (λx hx=>by obtain ⟨p,_,h⟩:=h2.each hx;exact h.opB);rw [h2.1,k5,EC];omega
 induction h with
 | nil=>exact xD
 | let_ h1 _ _ _ _ ih=>exact xK (.st zb zb (Ic h1.opB) xD xD) ih
 | var_ h1 _ _ _ ih=>exact xK (.st zb zb (Ic h1.opB) xD xD) ih
 | arr _ _ _ ih=>exact xK (.st zb zb xD xD xD) ih
 | callv h1 h2 _ _ _ _ ih=>exact xK (key h1 h2) ih
 | set _ _ _ h4 _ _ ih=>exact xK (.st zb zb (Ic h4.opB) xD xD) ih
 | calls _ _ _ h4 h5 _ _ ih=>exact xK (key h4 h5) ih
 | put _ _ _ h4 _ _ h7 _ _ ih=>exact xK (.st zb zb (Vv h4.opB h7.opB) xD xD) ih
 | do_ h1 h2 _ ih=>exact xK (key h1 h2) ih
 | if_ h1 _ _ _ _ ih1 ih2 ih3=>exact xK (.st zb zb (Ic h1.opB) ih1 ih2) ih3
 | for_ h1 _ h3 _ _ _ _ _ ih1 ih2=>exact xK (.st zb zb (Vv h1.opB h3.opB) ih1 xD) ih2
 | ret h1 _ _=>exact Ic (.ret h1.opB)
 | retc h1 _ h3=>exact Ic (key h1 h3)
theorem PO.pg (hp:PO c rk):PG c.p_ rk:=by
 have hm:∀ {k:Int} {fn:aP},aS c.p_.aU k=some fn->∃j:Nat,k=j/\c.p_.aU[j]? = some fn:=by
  intro k fn h
  obtain ⟨r,e⟩:∃r:Nat,k=r:=by
   unfold aS at h
   split at h
   ·exact ⟨k.toNat,za⟩
   ·cases h
  subst e;refine ⟨r,rfl,?_⟩;unfold aS at h;rw [cG za] at h;simpa using h
 refine ⟨λk fn h=>?_,λk fn h=>?_,λk fn h=>?_⟩
 ·obtain ⟨j,rfl,hj⟩:=hm h;obtain ⟨sc',ht⟩:=(hp.tf j fn hj).body;exact ht.fs hp
 ·obtain ⟨j,rfl,hj⟩:=hm h;exact hp.sz _ (zX hj)
 ·obtain ⟨j,rfl,hj⟩:=hm h;exact hp.co.vl _ (zX hj)
end
def mp (as:List Int) (v:Int):Int:=if v<0 ∨ (as.length:Int)<=v then v else (as[v.toNat]?).getD v
mutual
def fx (as:List Int):aF->aF
 | ⟨o,t,n,v,l,a⟩=>⟨o,t,n,mp as v,EE as l,a⟩
def EE (as:List Int):List aF->List aF
 | []=>[]
 | x::l=>fx as x::EE as l
end
theorem Aj (as:List Int) (x:aF):fx as x=⟨x.eG,x.cP,x.N_,mp as x.cZ,EE as x.aM,x.fV⟩:=by cases x;rw [fx]
theorem PV (v:Int) (as:List Int):xF v as=some (mp as v):=by
 unfold xF mp
 by_cases h0:v<0
 ·rw [cG (vO h0),nA,cG rfl,cG (.inl h0)]
 ·rw [bU (by simpa using h0),nA]
  by_cases h1:(as.length:Int)<=v
  ·rw [cG (vO h1),cG (.inr h1)]
  ·rw [bU (by simpa using h1),bU za];have hl:v.toNat<as.length:=za
   unfold aS;rw [cG za,tS hl];rfl
theorem fxL_l1 {f:aF->List Int->Option aF} {l:List aF} {as:List Int} (hf:∀x ∈ l,∀y,f x as=some y->y=fx as x) (hl:l.length<=1000000000) :
  ∀(k v:Nat) (acc r:List aF),v<=l.length->tQ f l as k acc (v:Int)=some r->r=acc++EE as (l.drop v):=by
 intro k
 induction k with
 | zero=>intro v acc r _ h;exact nomatch h
 | succ k ih=>
   intro v acc r hv h;unfold tQ at h
   by_cases hv1:v<l.length
   ·have hd:l.drop v=l[v]::l.drop (v+1):=On hv1;have e:aS l (v:Int)=some l[v]:=by unfold aS;rw [cG za,wR,tS hv1]
    rw [cG (vO za),e,nA] at h;obtain ⟨y,hy,h⟩:=aD h;obtain ⟨_,h⟩:=bN h;rw [fD (n:=(v:Int)+1) za za,show ((v:Int)+1)=((v+1:Nat):Int) by omega] at h;rw [ih (v+1) _ r za h,hd,EE,hf _ (Oo hv1) _ hy];simp
   ·rw [bU (by rw [GC];omega)] at h;rw [←aZ h,xea za,EE,ER]
theorem UJ:∀n:Nat,(∀(x y:aF) (as:List Int),xz x<=1000000000->qV n x as=some y->y=fx as x)/\(∀(l r:List aF) (as:List Int),oY l<=1000000000->sZ n l as=some r->r=EE as l):=by
 intro n
 induction n with
 | zero=>exact ⟨λx y as _ h=>(nomatch h),λl r as _ h=>(nomatch h)⟩
 | succ n ih=>
   refine ⟨λx y as hz h=>?_,λl r as hz h=>?_⟩
   ·have h:uG (sZ n) n x as=some y:=h;unfold uG at h;rw [PV,nA] at h;obtain ⟨z,hz1,h⟩:=aD h;have:=yZ x;rw [←aZ h,Aj,ih.2 _ _ _ za hz1]
   ·have h:sY (qV n) n l as=some r:=h;unfold sY at h;obtain ⟨z,hz1,h⟩:=aD h;have hl:=GQ l;have:=fxL_l1 (λx hx y hy=>ih.1 x y as (KP (FH hx) hz) hy) za n 0 [] z (HI _) hz1;rw [←aZ h,this];rfl
theorem UI {n:Nat} {x y:aF} {as:List Int} (hz:xz x<=1000000000) (h:qV n x as=some y):y=fx as x:=(UJ n).1 x y as hz h
theorem fxL_of {n:Nat} {l r:List aF} {as:List Int} (hz:oY l<=1000000000) (h:sZ n l as=some r):r=EE as l:=(UJ n).2 l r as hz h
inductive Kg (as:List Int) (fU:Int) (ps:List aJ):List aJ->List aF->Nat->List aA->List Int->List aJ->Prop
 | nil {vs i}:Kg as fU ps vs [] i [] [] vs
 | arr {vs y l i o own vs'}:y.cP=4->Kg as fU ps vs l (i+1) o own vs'->Kg as fU ps vs (y::l) i o (mp as y.cZ::own) vs'
 | val {vs y l i u o own vs'}:y.cP ≠ 4->ps[i]? = some u->Kg as fU ps (vs++[u]) l (i+1) o own vs'->Kg as fU ps vs (y::l) i (⟨if u.bF=1 then [108,101,116] else [118,97,114],vs.length,0,[fx as y],[],[],fU⟩::o) ((vs.length:Int)::own) vs'
def uT (k n:Nat):List Int:=(List.range n).map λi=>((k+i:Nat):Int)
def Gs (f:aP) (s:aA) (as:List Int) (b:aA):aA:=
 if s.cZ=-2 then (if b.fV<0 then { b with fV:=s.fV } else b)
 else if s.cZ=-1 then ⟨[118,97,114],-1,f.bV,[],[],[],s.fV⟩ else ⟨[115,101,116],mp as s.cZ,0,[],[],[],s.fV⟩
def FD (b:aA) (a:Int):aA:=if b.fV<0 then { b with fV:=a } else b
inductive Ak (p:aK):List aJ->List aA->List Int->aA->List aA->List aJ->Prop
 | nil {vs as b}:Ak p vs [] as b [] vs
 | call {vs s l as b f o1 own v1 o2 v2 o3 v3}:s.eG=[99,97,108,108]->aS p.aU s.gI=some f->Kg as s.fV f.aO vs s.aM 0 o1 own v1->0<=f.aQ->f.aQ<=f.aO.length ->
    Ak p (v1++f.aO.drop f.aQ.toNat) f.bR (own++uT v1.length (f.aO.drop f.aQ.toNat).length) (Gs f s as b) o2 v2->Ak p v2 l as b o3 v3->Ak p vs (s::l) as b ((o1++o2)++o3) v3
 | ret {vs s l as b y r o v}:s.eG=[114,101,116,117,114,110]->s.aM=y::r->b.eG ≠ [118,97,114]->Ak p vs l as b o v->Ak p vs (s::l) as b ([{ FD b s.fV with gI:=0,aM:=[fx as y] }]++o) v
 | retv {vs s l as b y r o v}:s.eG=[114,101,116,117,114,110]->s.aM=y::r->b.eG=[118,97,114]->Ak p (vs++[⟨[],b.gI,0⟩]) l as b o v->Ak p vs (s::l) as b ([{ FD b s.fV with cZ:=vs.length,gI:=0,aM:=[fx as y] }]++o) v
 | other {vs s l as b o1 v1 o2 v2 o3 v3}:s.eG ≠ [99,97,108,108]->s.eG ≠ [114,101,116,117,114,110]->Ak p vs s.bR as b o1 v1->Ak p v1 s.iP as b o2 v2->Ak p v2 l as b o3 v3 ->
    Ak p vs (s::l) as b ([{ s with cZ:=mp as s.cZ,aM:=EE as s.aM,bR:=o1,iP:=o2 }]++o3) v3
structure Gt (x r:aL) (vs:List aJ):Prop where
 e:x.e_=0
 p:r.p_=x.p_
 f:r.f_={ x.f_ with aO:=vs }
theorem Gt.vs {x r:aL} {vs:List aJ} (h:Gt x r vs):r.f_.aO=vs:=by rw [h.f]
theorem Gt.trans {x y z:aL} {vs vs':List aJ} (h:Gt x y vs) (k:Gt y z vs'):Gt x z vs':=⟨h.e,k.p.trans h.p,by rw [k.f,h.f]⟩
theorem Gt.refl {x:aL} (h:x.e_=0):Gt x x x.f_.aO:=⟨h,rfl,rfl⟩
theorem Gf {x r:aL} (h:eB x=some r) (he:r.e_=0):Gt x r x.f_.aO:=by
 unfold eB at h
 split at h
 ·have:=aZ h;rw [←this] at he;cases he
 ·have:=aZ h;subst this;exact ⟨he,rfl,rfl⟩
theorem IW {x:aL} {v:aJ} {r:Int × aL} (h:eA x v=some r) (he:r.2.e_=0):r.1=(x.f_.aO.length:Int)/\Gt x r.2 (x.f_.aO++[v]):=by
 unfold eA at h
 by_cases hc:(4096:Int)<=x.f_.aO.length
 ·rw [cG (vO hc)] at h;have:=aZ h;rw [←this] at he;cases he
 ·rw [bU (by simpa using hc)] at h;obtain ⟨_,h⟩:=bN h;have:=aZ h;subst this;refine ⟨?_,he,rfl,rfl⟩;simp only [nB,jJ,mO];rw [fD za za];omega
theorem args_s {n:Nat} {s:aA} {as:List Int} {f:aP} (hz:oY s.aM<=1000000000):∀(k v:Nat) (acc:List aA) (own:List Int) (x:aL) (r:List aA × List Int × aL),v<=s.aM.length ->
  fH n s as f k acc own (v:Int) x=some r->r.2.2.e_=0->∃o own' vs',r.1=acc++o/\r.2.1=own++own'/\Kg as s.fV f.aO x.f_.aO (s.aM.drop v) v o own' vs'/\Gt x r.2.2 vs':=by
 have hl:=GQ s.aM;intro k
 induction k with
 | zero=>intro v acc own x r _ h;exact nomatch h
 | succ k ih=>
   intro v acc own x r hv h he;unfold fH at h
   by_cases hv1:v<s.aM.length
   ·have hd:s.aM.drop v=s.aM[v]::s.aM.drop (v+1):=On hv1;have e:aS s.aM (v:Int)=some s.aM[v]:=by unfold aS;rw [cG za,wR,tS hv1]
    have hn:IntKind.i64.wrap ((v:Int)+1)=((v+1:Nat):Int):=(fD za za).trans za;have hxz:xz s.aM[v]<=1000000000:=KP (FH (Oo hv1)) hz;rw [cG (vO za),e,nA] at h;obtain ⟨y,hy,h⟩:=aD h;rw [hn] at h;obtain ⟨o,own',vs',h1,h2,h3,h4⟩:=ih (v+1) _ _ _ r za h he
    by_cases h4t:s.aM[v].cP=4
    ·rw [cG (by simpa using h4t),PV,nA] at hy;obtain ⟨_,hy⟩:=bN hy;obtain rfl:=aZ hy;refine ⟨o,mp as s.aM[v].cZ::own',vs',h1,by rw [h2];simp,?_,h4⟩;rw [hd];exact .arr h4t h3
    ·rw [bU (by simpa using h4t)] at hy;obtain ⟨u,hu,hy⟩:=aD hy
     have hu':f.aO[v]? = some u:=by
      unfold aS at hu;rw [cG za,wR] at hu;exact hu
     by_cases hk:u.bF=1
     ·rw [cG (by simpa using hk)] at hy;obtain ⟨x1,hc,hy⟩:=aD hy;obtain ⟨x2,hf,hy⟩:=aD hy;obtain ⟨_,hy⟩:=bN hy;obtain ⟨x3,hx,hy⟩:=aD hy;obtain ⟨_,hy⟩:=bN hy;obtain rfl:=aZ hy;have g4:Gt x2.2 r.2.2 vs':=h4;obtain ⟨f1,f2⟩:=IW hf g4.e;have c1:=Gf hc f2.e;rw [c1.vs] at f1 f2;refine ⟨_,_,vs',h1.trans (ML _ _ _),h2.trans (ML _ _ _),?_,(c1.trans f2).trans g4⟩;rw [hd,UI hxz hx,f1];have:=Kg.val (as:=as) (fU:=s.fV) (l:=s.aM.drop (v+1)) (o:=o) (own:=own') (vs':=vs') h4t hu' (by rw [←f2.vs];exact h3);rw [cG hk] at this;exact this
     ·rw [bU (by simpa using hk)] at hy;obtain ⟨x1,hc,hy⟩:=aD hy;obtain ⟨x2,hf,hy⟩:=aD hy;obtain ⟨_,hy⟩:=bN hy;obtain ⟨x3,hx,hy⟩:=aD hy;obtain ⟨_,hy⟩:=bN hy;obtain rfl:=aZ hy;have g4:Gt x2.2 r.2.2 vs':=h4;obtain ⟨f1,f2⟩:=IW hf g4.e;have c1:=Gf hc f2.e;rw [c1.vs] at f1 f2;refine ⟨_,_,vs',h1.trans (ML _ _ _),h2.trans (ML _ _ _),?_,(c1.trans f2).trans g4⟩;rw [hd,UI hxz hx,f1];have:=Kg.val (as:=as) (fU:=s.fV) (l:=s.aM.drop (v+1)) (o:=o) (own:=own') (vs':=vs') h4t hu' (by rw [←f2.vs];exact h3);rw [bU hk] at this;exact this
   ·rw [bU (by rw [GC];omega)] at h;obtain rfl:=aZ h;exact ⟨[],[],x.f_.aO,zc,zc,by rw [xea za];exact .nil,.refl he⟩
theorem RL (k n:Nat):uT k (n+1)=(k:Int)::uT (k+1) n:=by
 unfold uT;rw [List.range_succ_eq_map,oC,List.map_map]
 congr 1
 refine xdr λi _=>?_;simp only [Function.comp];omega
theorem call_s {f:aP} (hl:(f.aO.drop f.aQ.toNat).length<=1000000000):∀(k v:Nat) (own:List Int) (x:aL) (r:List Int × aL),v<=(f.aO.drop f.aQ.toNat).length ->
  fG f k own (v:Int) x=some r->r.2.e_=0->r.1=own++uT x.f_.aO.length ((f.aO.drop f.aQ.toNat).drop v).length/\Gt x r.2 (x.f_.aO++(f.aO.drop f.aQ.toNat).drop v):=by
 intro k
 induction k with
 | zero=>intro v own x r _ h;exact nomatch h
 | succ k ih=>
   intro v own x r hv h he;unfold fG at h
   by_cases hv1:v<(f.aO.drop f.aQ.toNat).length
   ·have hd:(f.aO.drop f.aQ.toNat).drop v=(f.aO.drop f.aQ.toNat)[v]::(f.aO.drop f.aQ.toNat).drop (v+1):=On hv1;have e:aS (f.aO.drop f.aQ.toNat) (v:Int)=some (f.aO.drop f.aQ.toNat)[v]:=by unfold aS;rw [cG za,wR,tS hv1]
    have hn:IntKind.i64.wrap ((v:Int)+1)=((v+1:Nat):Int):=(fD za za).trans za;rw [cG (vO za),e,nA] at h;obtain ⟨y,hy,h⟩:=aD h;obtain ⟨_,h⟩:=bN h;rw [hn] at h;obtain ⟨h1,h2⟩:=ih (v+1) _ _ r za h he;obtain ⟨f1,f2⟩:=IW hy h2.e;rw [f2.vs] at h1 h2;rw [hd];refine ⟨?_,?_⟩
    ·rw [h1,f1,jJ,RL,nB,tF,ML];rfl
    ·have:=f2.trans h2
     rwa [ML] at this
   ·rw [bU (by rw [GC];omega)] at h;obtain rfl:=aZ h;rw [xea za];exact ⟨by simp [uT],by rw [ER];exact .refl he⟩
theorem taken_s {x:aL} {s b r:aA} {as:List Int} {f:aP} (h:jT x s as b=some r) (hf:aS x.p_.aU s.gI=some f):r=Gs f s as b:=by
 unfold jT at h;rw [hf,nA] at h;unfold Gs
 by_cases h2:s.cZ=-2
 ·rw [cG (by simpa using h2)] at h;rw [cG h2]
  by_cases ha:b.fV<0
  ·rw [cG (vO ha)] at h;rw [cG ha,←aZ h]
  ·rw [bU (by simpa using ha)] at h;rw [bU ha,←aZ h]
 ·rw [bU (by simpa using h2)] at h;rw [bU h2]
  by_cases h1:s.cZ=-1
  ·rw [cG (by simpa using h1)] at h;rw [cG h1,←aZ h]
  ·rw [bU (by simpa using h1),PV,nA] at h;rw [bU h1,←aZ h]
section
variable {p:aK}
theorem Gg {x r:aL} (h:eB x=some r):r.p_=x.p_:=by
 unfold eB at h
 split at h <;> (rw [←aZ h])
theorem Mp {x:aL} {v:aJ} {r:Int × aL} (h:eA x v=some r):r.2.p_=x.p_:=by
 unfold eA at h
 split at h
 ·rw [←aZ h]
 ·obtain ⟨_,h⟩:=bN h;rw [←aZ h]
theorem tell_p {x:aL} {y:aF} {b:aA} {r:aA × aL} (h:fB x y b=some r):r.2.p_=x.p_:=by
 unfold fB at h
 split at h
 ·obtain ⟨z,hz,h⟩:=aD h;rw [←aZ h];exact Mp hz
 ·rw [←aZ h]
theorem Vt {n:Nat} {s:aA} {as:List Int} {f:aP}:∀(k:Nat) (v:Int) (acc:List aA) (own:List Int) (x:aL) (r:List aA × List Int × aL),fH n s as f k acc own v x=some r->r.2.2.p_=x.p_:=by
 intro k
 induction k with
 | zero=>intro v acc own x r h;exact nomatch h
 | succ k ih=>
   intro v acc own x r h;unfold fH at h
   split at h
   ·obtain ⟨y,hy,h⟩:=aD h;refine (ih _ _ _ _ _ h).trans ?_;obtain ⟨e,_,hy⟩:=aD hy
    split at hy
    ·obtain ⟨_,_,hy⟩:=aD hy;obtain ⟨_,hy⟩:=bN hy;rw [←aZ hy]
    ·obtain ⟨_,_,hy⟩:=aD hy
     split at hy
     all_goals
      obtain ⟨x1,h1,hy⟩:=aD hy;obtain ⟨x2,h2,hy⟩:=aD hy;obtain ⟨_,hy⟩:=bN hy;obtain ⟨_,_,hy⟩:=aD hy;obtain ⟨_,hy⟩:=bN hy;rw [←aZ hy];exact (Mp h2).trans (Gg h1)
   ·rw [←aZ h]
theorem Ve {f:aP}:∀(k:Nat) (v:Int) (own:List Int) (x:aL) (r:List Int × aL),fG f k own v x=some r->r.2.p_=x.p_:=by
 intro k
 induction k with
 | zero=>intro v own x r h;exact nomatch h
 | succ k ih=>
   intro v own x r h;unfold fG at h
   split at h
   ·obtain ⟨_,_,h⟩:=aD h;obtain ⟨y,hy,h⟩:=aD h;obtain ⟨_,h⟩:=bN h;exact (ih _ _ _ _ h).trans (Mp hy)
   ·rw [←aZ h]
theorem block_p {rec_:aL->aA->List Int->aA->Option (List aA × aL)} {l:List aA} {as:List Int} {b:aA} (hr:∀x s out x',rec_ x s as b=some (out,x')->x'.p_=x.p_):∀(k:Nat) (v:Int) (acc:List aA) (x:aL) (r:(List aA × aL) ⊕ (List aA × aL)),
  dT rec_ l as b k acc v x=some r->(r.elim (λz=>z.2.p_) λz=>z.2.p_)=x.p_:=by
 intro k
 induction k with
 | zero=>intro v acc x r h;exact nomatch h
 | succ k ih=>
   intro v acc x r h;unfold dT at h
   split at h
   ·obtain ⟨s,_,h⟩:=aD h
    split at h
    ·rw [←aZ h];rfl
    ·obtain ⟨y,hy,h⟩:=aD h;obtain ⟨_,h⟩:=bN h;exact (ih _ _ _ _ h).trans (hr _ _ y.1 y.2 hy)
   ·rw [←aZ h];rfl
theorem flP_all:∀n:Nat,
  (∀x l as b out x',eN n x l as b=some (out,x')->x'.p_=x.p_) ∧
  (∀x s as b out x',gM n x s as b=some (out,x')->x'.p_=x.p_) ∧
  (∀x s as b out x',kH n x s as b=some (out,x')->x'.p_=x.p_):=by
 intro n
 induction n with
 | zero=>exact ⟨λ_ _ _ _ _ _ h=>(nomatch h),λ_ _ _ _ _ _ h=>(nomatch h),λ_ _ _ _ _ _ h=>(nomatch h)⟩
 | succ n ih=>
   obtain ⟨ihb,ihs,ihc⟩:=ih;refine ⟨λx l as b out x' h=>?_,λx s as b out x' h=>?_,λx s as b out x' h=>?_⟩
   ·have h:gC (gM n) n x l as b=some (out,x'):=h;unfold gC at h;obtain ⟨y,hy,h⟩:=aD h;have k1:=block_p (λx s out x' h'=>ihs x s as b out x' h') n 0 [] x y hy;cases y with
    | inl z=>obtain ⟨rfl,rfl⟩:=Prod.mk.inj (aZ h);exact k1
    | inr z=>obtain rfl:=aZ h;exact k1
   ·have h:eM (kH n) (eN n) n x s as b=some (out,x'):=h;unfold eM at h
    split at h
    ·obtain ⟨z,hz1,h⟩:=aD h;obtain ⟨rfl,rfl⟩:=Prod.mk.inj (aZ h);exact ihc x s as b z.1 z.2 hz1
    ·obtain ⟨x1,hx1,h⟩:=aD h
     split at h
     ·obtain ⟨y,hy,h⟩:=aD h;obtain ⟨y2,hy2,h⟩:=aD h
      split at h
      all_goals
       obtain ⟨z,hz1,h⟩:=aD h;obtain ⟨rfl,rfl⟩:=Prod.mk.inj (aZ h);exact (tell_p hz1).trans (Gg hx1)
     ·obtain ⟨_,_,h⟩:=aD h;obtain ⟨es,hes,h⟩:=aD h;obtain ⟨z1,hz1,h⟩:=aD h;obtain ⟨z2,hz2,h⟩:=aD h;obtain ⟨rfl,rfl⟩:=Prod.mk.inj (aZ h);exact (ihb _ _ _ _ z2.1 z2.2 hz2).trans ((ihb _ _ _ _ z1.1 z1.2 hz1).trans (Gg hx1))
   ·have h:gQ (eN n) n x s as b=some (out,x'):=h;unfold gQ at h;obtain ⟨x1,hx1,h⟩:=aD h;obtain ⟨f,hf,h⟩:=aD h;obtain ⟨z,hz,h⟩:=aD h;obtain ⟨_,h⟩:=bN h;obtain ⟨y,hy,h⟩:=aD h
    have hz2:z.2.2.p_=x1.p_:=by
     unfold mC at hz;obtain ⟨w,hw,hz⟩:=aD hz;rw [←aZ hz];exact Vt n 0 [] [] x1 w hw
    have hy2:=(Ve n 0 _ _ y hy).trans (hz2.trans (Gg hx1))
    split at h
    ·obtain ⟨rfl,rfl⟩:=Prod.mk.inj (aZ h);exact hy2
    ·obtain ⟨t,ht,h⟩:=aD h;obtain ⟨u,hu,h⟩:=aD h;obtain ⟨_,h⟩:=bN h;obtain ⟨rfl,rfl⟩:=Prod.mk.inj (aZ h);exact (ihb _ _ _ _ u.1 u.2 hu).trans hy2
def StF (p:aK) (s:aA) (as:List Int) (b:aA) (x:aL) (out:List aA) (x':aL):Prop:=
 (∀l o vs2,Ak p x'.f_.aO l as b o vs2->Ak p x.f_.aO (s::l) as b (out++o) vs2)/\Gt x x' x'.f_.aO
theorem Sv {rec_:aL->aA->List Int->aA->Option (List aA × aL)} {l:List aA} {as:List Int} {b:aA} {C:(List aA × aL)->Prop} {k:Nat} {v:Int} {acc:List aA} {x:aL} {r:(List aA × aL) ⊕ (List aA × aL)} (he:x.e_ ≠ 0)
  (h:dT rec_ l as b k acc v x=some r):(∀z,r=.inr z->z.2.e_ ≠ 0)/\∀z,r=.inl z->z.2.e_=0->C z:=by
 cases k with
 | zero=>exact nomatch h
 | succ k=>
   unfold dT at h
   split at h
   ·obtain ⟨y,hy,h⟩:=aD h;rw [cG (by simpa using he)] at h;obtain rfl:=aZ h;refine ⟨λz hz=>?_,λz hz=>(nomatch hz)⟩;cases hz;exact he
   ·obtain rfl:=aZ h;refine ⟨λz hz=>(nomatch hz),λz hz hze=>?_⟩;cases hz;exact dE hze he
theorem block_s {rec_:aL->aA->List Int->aA->Option (List aA × aL)} {l:List aA} {as:List Int} {b:aA} (hl:l.length<=1000000000)
  (hr:∀s ∈ l,∀x out x',x.p_=p->rec_ x s as b=some (out,x')->x'.e_=0->StF p s as b x out x'):∀(k v:Nat) (acc:List aA) (x:aL) (r:(List aA × aL) ⊕ (List aA × aL)),v<=l.length->x.p_=p ->
  dT rec_ l as b k acc (v:Int) x=some r->(∀z,r=.inr z->z.2.e_ ≠ 0)/\∀z,r=.inl z->z.2.e_=0->∃o,z.1=acc++o/\Ak p x.f_.aO (l.drop v) as b o z.2.f_.aO/\Gt x z.2 z.2.f_.aO:=by
 intro k
 induction k with
 | zero=>intro v acc x r _ _ h;exact nomatch h
 | succ k ih=>
   intro v acc x r hv hp h;unfold dT at h
   by_cases hv1:v<l.length
   ·have hd:l.drop v=l[v]::l.drop (v+1):=On hv1;have e:aS l (v:Int)=some l[v]:=by unfold aS;rw [cG za,wR,tS hv1]
    have hn:IntKind.i64.wrap ((v:Int)+1)=((v+1:Nat):Int):=(fD za za).trans za;rw [cG (vO za),e,nA] at h
    by_cases he:x.e_=0
    ·rw [bU (by simp [he])] at h;obtain ⟨y,hy,h⟩:=aD h;obtain ⟨_,h⟩:=bN h;rw [hn] at h;have hy':rec_ x l[v] as b=some (y.1,y.2):=hy
     by_cases hye:y.2.e_=0
     ·obtain ⟨s1,s2⟩:=hr _ (Oo hv1) x y.1 y.2 hp hy' hye;obtain ⟨i1,i2⟩:=ih (v+1) _ _ r za (s2.p.trans hp) h;refine ⟨i1,λz hz hze=>?_⟩;obtain ⟨o,o1,o2,o3⟩:=i2 z hz hze;exact ⟨y.1++o,by rw [o1,ML],by rw [hd];exact s1 _ _ _ o2,s2.trans o3⟩
     ·exact Sv hye h
    ·rw [cG (by simpa using he)] at h;obtain rfl:=aZ h;refine ⟨λz hz=>?_,λz hz=>(nomatch hz)⟩;cases hz;exact he
   ·rw [bU (by rw [GC];omega)] at h;obtain rfl:=aZ h;refine ⟨λz hz=>(nomatch hz),λz hz hze=>?_⟩;cases hz;exact ⟨[],zc,by rw [xea za];exact .nil,.refl hze⟩
theorem bat_op {b:aA} {a:Int}:(FD b a).eG=b.eG/\(FD b a).gI=b.gI:=by unfold FD;split <;> exact ⟨rfl,rfl⟩
theorem tell_s {x:aL} {y:aF} {b:aA} {r:aA × aL} (h:fB x y b=some r) (he:r.2.e_=0) :
  (b.eG ≠ [118,97,114]/\r.1={ b with gI:=0,aM:=[y] }/\Gt x r.2 x.f_.aO) ∨ (b.eG=[118,97,114]/\r.1={ b with cZ:=x.f_.aO.length,gI:=0,aM:=[y] }/\Gt x r.2 (x.f_.aO++[⟨[],b.gI,0⟩])):=by
 unfold fB at h
 by_cases hv:b.eG=[118,97,114]
 ·rw [cG (vO hv)] at h;obtain ⟨z,hz,h⟩:=aD h;obtain rfl:=aZ h;obtain ⟨f1,f2⟩:=IW hz he;exact .inr ⟨hv,by rw [f1],f2⟩
 ·rw [bU (by simpa using hv)] at h;obtain rfl:=aZ h;exact .inl ⟨hv,rfl,he,rfl,rfl⟩
theorem flB_all (hB:∀f ∈ p.aU,uS f.bR<=1000000000/\f.aO.length<=1000000000):∀n:Nat,
  (∀x l as b out x',x.p_=p->uS l<=1000000000->eN n x l as b=some (out,x')->x'.e_=0->Ak p x.f_.aO l as b out x'.f_.aO/\Gt x x' x'.f_.aO) ∧
  (∀x s as b out x',x.p_=p->tz s<=1000000000->gM n x s as b=some (out,x')->x'.e_=0->StF p s as b x out x') ∧
  (∀x s as b out x',s.eG=[99,97,108,108]->x.p_=p->tz s<=1000000000->kH n x s as b=some (out,x')->x'.e_=0->StF p s as b x out x'):=by
 intro n
 induction n with
 | zero=>exact ⟨λ_ _ _ _ _ _ _ _ h=>(nomatch h),λ_ _ _ _ _ _ _ _ h=>(nomatch h),λ_ _ _ _ _ _ _ _ _ h=>(nomatch h)⟩
 | succ n ih=>
   obtain ⟨ihb,ihs,ihc⟩:=ih;refine ⟨λx l as b out x' hp hz h he=>?_,λx s as b out x' hp hz h he=>?_,λx s as b out x' ho hp hz h he=>?_⟩
   ·have h:gC (gM n) n x l as b=some (out,x'):=h;unfold gC at h;obtain ⟨y,hy,h⟩:=aD h;have hlen:=FK l;obtain ⟨k1,k2⟩:=block_s (p:=p) za (λs hs x out x' hp' h' he'=>ihs x s as b out x' hp' (KP (PU hs) hz) h' he') n 0 [] x y (HI _) hp hy;cases y with
    | inl z=>
      obtain ⟨rfl,rfl⟩:=Prod.mk.inj (aZ h);obtain ⟨o,o1,o2,o3⟩:=k2 z rfl he;rw [o1];exact ⟨o2,o3⟩
    | inr z=>
      obtain rfl:=aZ h;exact dE he (k1 _ rfl)
   ·have h:eM (kH n) (eN n) n x s as b=some (out,x'):=h;unfold eM at h
    by_cases hc:s.eG=[99,97,108,108]
    ·rw [cG (vO hc)] at h;obtain ⟨z,hz1,h⟩:=aD h;have h2:=aZ h;exact ihc x s as b out x' hc hp hz (by rw [hz1,←h2]) he
    rw [bU (by simpa using hc)] at h;obtain ⟨x1,hx1,h⟩:=aD h;have hze:=qC s
    by_cases hr:s.eG=[114,101,116,117,114,110]
    ·rw [cG (vO hr)] at h;obtain ⟨y,hy,h⟩:=aD h;obtain ⟨y2,hy2,h⟩:=aD h
     obtain ⟨rs,hrs⟩:∃rs,s.aM=y::rs:=by
      cases hsl:s.aM with
      | nil=>rw [hsl] at hy;exact nomatch hy
      | cons y' rs=>rw [hsl] at hy;exact ⟨rs,by rw [show y'=y from aZ hy]⟩
     have hyz:xz y<=1000000000:=by have:=FH (l:=s.aM) (x:=y) (by rw [hrs];exact Ja);omega
     have h:(fB x1 y2 (FD b s.fV)).bind (λz=>some ([z.1],z.2))=some (out,x'):=by
      unfold FD
      by_cases ha:b.fV<0
      ·rw [cG ha];rw [cG (vO ha)] at h;exact h
      ·rw [bU ha];rw [bU (by simpa using ha)] at h;exact h
     obtain ⟨z,hz1,h⟩:=aD h;obtain ⟨rfl,rfl⟩:=Prod.mk.inj (aZ h);have hyx:=UI hyz hy2;obtain ⟨b1,b2⟩:=bat_op (b:=b) (a:=s.fV)
     rcases tell_s hz1 he with ⟨t1,t2,t3⟩ | ⟨t1,t2,t3⟩
     ·have c1:=Gf hx1 t3.e;rw [c1.vs] at t3;refine ⟨λl o vs2 hl=>?_,by rw [t3.vs];exact c1.trans t3⟩;rw [t3.vs] at hl;rw [t2,hyx];exact .ret hr hrs (by rw [←b1];exact t1) hl
     ·have c1:=Gf hx1 t3.e;rw [c1.vs] at t2 t3;refine ⟨λl o vs2 hl=>?_,by rw [t3.vs];exact c1.trans t3⟩;rw [t3.vs,b2] at hl;rw [t2,hyx];exact .retv hr hrs (by rw [←b1];exact t1) hl
    ·rw [bU (by simpa using hr),PV,nA] at h;obtain ⟨es,hes,h⟩:=aD h;obtain ⟨z1,hz1,h⟩:=aD h;obtain ⟨z2,hz2,h⟩:=aD h;obtain ⟨rfl,rfl⟩:=Prod.mk.inj (aZ h);have hes':=fxL_of za hes;have p1:=(Gg hx1).trans hp;have p2:=((flP_all n).1 _ _ _ _ z1.1 z1.2 hz1).trans p1;obtain ⟨q3,q4⟩:=ihb z1.2 s.iP as b z2.1 z2.2 p2 za hz2 he;obtain ⟨q1,q2⟩:=ihb x1 s.bR as b z1.1 z1.2 p1 za hz1 q4.e;have c1:=Gf hx1 q2.e;refine ⟨λl o vs2 hl=>?_,(c1.trans q2).trans q4⟩;rw [c1.vs] at q1;rw [hes'];exact .other hc hr q1 q3 hl
   ·have h:gQ (eN n) n x s as b=some (out,x'):=h;unfold gQ at h;have hze:=qC s;obtain ⟨x1,hx1,h⟩:=aD h;obtain ⟨f,hf,h⟩:=aD h;obtain ⟨z,hz1,h⟩:=aD h;obtain ⟨⟨hp0,hp1⟩,h⟩:=bN h;obtain ⟨y,hy,h⟩:=aD h;have p1:=(Gg hx1).trans hp;unfold mC at hz1;obtain ⟨w,hw,hz1⟩:=aD hz1;obtain rfl:=aZ hz1;have p2:w.2.2.p_=p:=(Vt n 0 [] [] x1 w hw).trans p1;have p3:y.2.p_=p:=(Ve n 0 _ _ y hy).trans p2
    have hfm:f ∈ p.aU:=by
     rw [p1] at hf;unfold aS at hf
     split at hf
     ·exact zX hf
     ·exact nomatch hf
    have hfb:=hB f hfm
    by_cases hye:y.2.e_=0
    ·rw [bU (by simp [hye])] at h;obtain ⟨t,ht,h⟩:=aD h;obtain ⟨u,hu,h⟩:=aD h;obtain ⟨_,h⟩:=bN h;obtain ⟨rfl,rfl⟩:=Prod.mk.inj (aZ h);obtain ⟨q1,q2⟩:=ihb y.2 f.bR y.1 t u.1 u.2 p3 hfb.1 hu he;obtain ⟨c1,c2⟩:=call_s (f:=f) (by simp;omega) n 0 _ _ y (HI _) hy hye;obtain ⟨o,own',vs',a1,a2,a3,a4⟩:=args_s (n:=n) (s:=s) (as:=as) (f:=f) za n 0 [] [] x1 w (HI _) hw c2.e;have k1:=Gf hx1 a4.e;have htk:=taken_s (f:=f) ht (by rw [p3,←p1];exact hf);rw [sR] at c1 c2 a3;rw [wN] at a1 a2;rw [a4.vs] at c1 c2;rw [k1.vs] at a3;rw [htk,c2.vs,c1,a2] at q1;refine ⟨λl o2 vs2 hl=>?_,((k1.trans a4).trans c2).trans q2⟩;rw [a1];exact .call ho (by rw [←p1];exact hf) a3 hp0 hp1 q1 hl
    ·rw [cG (by simpa using hye)] at h;obtain ⟨rfl,rfl⟩:=Prod.mk.inj (aZ h);exact dE he hye
end
end Go.Proofs.YtnheknbibdgglaaGreatDoor.Abs
namespace Go.Proofs.YtnheknbibdgglaaGreatDoor.Abs
open Go.RowKit
set_option linter.all false
inductive FB (vs:List aJ) (res:Int):Bool->List Int->List aA->List Int->Prop
 | nil {l sc}:FB vs res l sc [] sc
 | let_ {l sc x v u a ss sc'}:TX vs sc x->x.cP=1->aS vs v=some u->u.bF=1->FB vs res l (sc++[v]) ss sc'->FB vs res l sc (⟨[108,101,116],v,0,[x],[],[],a⟩::ss) sc'
 | var_ {l sc x v u a ss sc'}:TX vs sc x->aS vs v=some u->(u.bF=2 ∨ u.bF=3)->Kh x.cP u.bF->FB vs res l (sc++[v]) ss sc'->FB vs res l sc (⟨[118,97,114],v,0,[x],[],[],a⟩::ss) sc'
 | arr {l sc v u a ss sc'}:aS vs v=some u->u.bF=4->FB vs res l (sc++[v]) ss sc'->FB vs res l sc (⟨[97,114,114],v,0,[],[],[],a⟩::ss) sc'
 | set {l sc x v u a ss sc'}:TX vs sc x->aS vs v=some u->(u.bF=2 ∨ u.bF=3)->Kh x.cP u.bF->FB vs res l (sc++[v]) ss sc'->FB vs res l sc (⟨[115,101,116],v,0,[x],[],[],a⟩::ss) sc'
 | put {l sc v u i x a ss sc'}:v ∈ sc->aS vs v=some u->u.bF=4->TX vs sc i->i.cP=1->(i.eG=[110,117,109]->IntKind.i64.wrap i.N_<u.gA)->TX vs sc x->Kh x.cP 2->FB vs res l sc ss sc'->FB vs res l sc (⟨[112,117,116],v,0,[i,x],[],[],a⟩::ss) sc'
 | if_ {l sc c b e a sc1 sc2 ss sc'}:TX vs sc c->c.cP=1->FB vs res false sc b sc1->FB vs res false sc e sc2->FB vs res l sc ss sc'->FB vs res l sc (⟨[105,102],-1,0,[c],b,e,a⟩::ss) sc'
 | for_ {l sc x y v u b a sc1 ss sc'}:TX vs sc x->x.cP=1->TX vs sc y->y.cP=1->aS vs v=some u->u.bF=1->FB vs res false (sc++[v]) b sc1->FB vs res l sc ss sc'->FB vs res l sc (⟨[102,111,114],v,0,[x,y],b,[],a⟩::ss) sc'
 | ret {sc x a}:TX vs sc x->Kh x.cP res->FB vs res true sc [⟨[114,101,116,117,114,110],-1,0,[x],[],[],a⟩] sc
section
variable {vs vs':List aJ} {res:Int} {l:Bool} {sc sc' sc1:List Int} {ss xs ys:List aA}
theorem FB.mono (hv:vs <+: vs') (h:FB vs res l sc ss sc'):FB vs' res l sc ss sc':=by
 have hs:∀ {sc:List Int} v,v ∈ sc->v ∈ sc:=λ_ h=>h
 induction h with
 | nil=>exact .nil
 | let_ h1 h2 h3 h4 _ ih=>exact .let_ (h1.mono hv hs) h2 (gN hv h3) h4 ih
 | var_ h1 h2 h3 h4 _ ih=>exact .var_ (h1.mono hv hs) (gN hv h2) h3 h4 ih
 | arr h1 h2 _ ih=>exact .arr (gN hv h1) h2 ih
 | set h1 h2 h3 h4 _ ih=>exact .set (h1.mono hv hs) (gN hv h2) h3 h4 ih
 | put h1 h2 h3 h4 h5 h6 h7 h8 _ ih=>exact .put h1 (gN hv h2) h3 (h4.mono hv hs) h5 h6 (h7.mono hv hs) h8 ih
 | if_ h1 h2 _ _ _ i1 i2 i3=>exact .if_ (h1.mono hv hs) h2 i1 i2 i3
 | for_ h1 h2 h3 h4 h5 h6 _ _ i1 i2=>exact .for_ (h1.mono hv hs) h2 (h3.mono hv hs) h4 (gN hv h5) h6 i1 i2
 | ret h1 h2=>exact .ret (h1.mono hv hs) h2
theorem FB.app {l0:Bool} (h:FB vs res l0 sc xs sc1) (h0:l0=false) (k:FB vs res l sc1 ys sc'):FB vs res l sc (xs++ys) sc':=by
 induction h with
 | nil=>exact k
 | let_ h1 h2 h3 h4 _ ih=>exact .let_ h1 h2 h3 h4 (ih h0 k)
 | var_ h1 h2 h3 h4 _ ih=>exact .var_ h1 h2 h3 h4 (ih h0 k)
 | arr h1 h2 _ ih=>exact .arr h1 h2 (ih h0 k)
 | set h1 h2 h3 h4 _ ih=>exact .set h1 h2 h3 h4 (ih h0 k)
 | put h1 h2 h3 h4 h5 h6 h7 h8 _ ih=>exact .put h1 h2 h3 h4 h5 h6 h7 h8 (ih h0 k)
 | if_ h1 h2 h3 h4 _ _ _ ih=>exact .if_ h1 h2 h3 h4 (ih h0 k)
 | for_ h1 h2 h3 h4 h5 h6 h7 _ _ ih=>exact .for_ h1 h2 h3 h4 h5 h6 h7 (ih h0 k)
 | ret=>cases h0
theorem FB.sub (h:FB vs res l sc ss sc'):∀v ∈ sc,v ∈ sc':=by
 induction h with
 | nil=>exact λ_ h=>h
 | let_ _ _ _ _ _ ih=>exact λv hv=>ih v (MI _ hv)
 | var_ _ _ _ _ _ ih=>exact λv hv=>ih v (MI _ hv)
 | arr _ _ _ ih=>exact λv hv=>ih v (MI _ hv)
 | set _ _ _ _ _ ih=>exact λv hv=>ih v (MI _ hv)
 | put _ _ _ _ _ _ _ _ _ ih=>exact ih
 | if_ _ _ _ _ _ _ _ ih=>exact ih
 | for_ _ _ _ _ _ _ _ _ _ ih=>exact ih
 | ret=>exact λ_ h=>h
end
structure zV (vsC vsX:List aJ) (as scC scX:List Int):Prop where
 k:∀v u,aS vsC v=some u->∃u',aS vsX (mp as v)=some u'/\u'.bF=u.bF/\(u.bF=4->u'.gA=u.gA)
 s:∀v ∈ scC,mp as v ∈ scX
section
variable {vsC vsX vsX':List aJ} {as scC scX scX':List Int}
theorem zV.mono (h:zV vsC vsX as scC scX) (hv:vsX <+: vsX') (hs:∀v ∈ scX,v ∈ scX'):zV vsC vsX' as scC scX':=
 ⟨λv u hu=>by obtain ⟨u',h1,h2⟩:=h.k v u hu;exact ⟨u',gN hv h1,h2⟩,λv hv=>hs _ (h.s v hv)⟩
theorem zV.snoc (h:zV vsC vsX as scC scX) (n:Int):zV vsC vsX as (scC++[n]) (scX++[mp as n]):=
 ⟨h.k,λv hv=>by
  rcases BV.1 hv with h1 | h1
  ·exact MI _ (h.s v h1)
  ·rw [zA.1 h1];exact xeh _ (zA.2 rfl)⟩
theorem Fl {as:List Int} {v:Int} (h:v<0):mp as v=v:=cG (.inl h)
theorem iD (as:List Int) (x:aF):(fx as x).cP=x.cP/\(fx as x).eG=x.eG/\(fx as x).N_=x.N_:=by rw [Aj];exact ⟨rfl,rfl,rfl⟩
theorem TX.fx (h:zV vsC vsX as scC scX) {x:aF} (hx:TX vsC scC x):TX vsX scX (fx as x):=by
 induction hx with
 | num h1 h2=>rw [Aj];simp only [EE,Fl (show (-1:Int)<0 by decide)];exact .num h1 h2
 | var h1 h2 h3=>
   obtain ⟨u',k1,k2,_⟩:=h.k _ _ h2;rw [Aj];simp only [EE];rw [←k2];exact .var (h.s _ h1) k1 (by rw [k2];exact h3)
 | index h1 h2 h3 _ h5 h6 ih=>
   obtain ⟨u',k1,k2,k3⟩:=h.k _ _ h2;rw [Aj];simp only [EE];obtain ⟨p1,p2,p3⟩:=iD as ‹_›;exact .index (h.s _ h1) k1 (by rw [k2];exact h3) ih (by rw [p1];exact h5) (by rw [p2,p3,k3 h3];exact h6)
 | un h1 _ ih=>
   rw [Aj];simp only [EE,Fl (show (-1:Int)<0 by decide)];rw [←(iD as _).1];exact .un h1 ih
 | bin _ _ hb ih1 ih2=>
   rw [Aj];simp only [EE,Fl (show (-1:Int)<0 by decide)];refine .bin ih1 ih2 ?_;unfold SO at hb ⊢;rw [(iD as _).1,(iD as _).1,(iD as _).2.1,(iD as _).2.2];exact hb
 | @sel c x y a _ _ _ h1 h2 ih1 ih2 ih3=>
   rw [Aj];simp only [EE,Fl (show (-1:Int)<0 by decide)];rw [←(iD as x).1,←(iD as y).1];exact .sel ih1 ih2 ih3 (by rw [(iD as _).1];exact h1) (by rw [(iD as _).1,(iD as _).1];exact h2)
 | long _ h1 ih=>
   rw [Aj];simp only [EE,Fl (show (-1:Int)<0 by decide)];exact .long ih (by rw [(iD as _).1];exact h1)
 | wide _ _ h1 h2 ih1 ih2=>
   rw [Aj];simp only [EE,Fl (show (-1:Int)<0 by decide)];exact .wide ih1 ih2 (by rw [(iD as _).1];exact h1) (by rw [(iD as _).1];exact h2)
 | half h1 _ h2 ih=>
   rw [Aj];simp only [EE,Fl (show (-1:Int)<0 by decide)];exact .half h1 ih (by rw [(iD as _).1];exact h2)
def MG (vsX:List aJ) (res resT:Int) (b:aA):Prop:=
 b.bR=[]/\b.iP=[]/\((b.eG=[114,101,116,117,114,110]/\b.cZ=-1/\res=resT) ∨ (b.eG=[115,101,116]/\∃u,aS vsX b.cZ=some u/\u.bF=res) ∨ (b.eG=[118,97,114]/\b.gI=res))
theorem MG.mono {vsX vsX':List aJ} {res resT:Int} {b:aA} (h:MG vsX res resT b) (hv:vsX <+: vsX'):MG vsX' res resT b:=by
 obtain ⟨h1,h2,h3⟩:=h;refine ⟨h1,h2,?_⟩
 rcases h3 with h3 | ⟨h3,u,h4,h5⟩ | h3
 ·exact .inl h3
 ·exact .inr (.inl ⟨h3,u,gN hv h4,h5⟩)
 ·exact .inr (.inr h3)
theorem wK (b:aA) (a:Int):(FD b a).eG=b.eG/\(FD b a).cZ=b.cZ/\(FD b a).gI=b.gI/\(FD b a).bR=b.bR/\(FD b a).iP=b.iP:=by unfold FD;split <;> exact ⟨rfl,rfl,rfl,rfl,rfl⟩
theorem MG.bat {vsX:List aJ} {res resT:Int} {b:aA} (h:MG vsX res resT b) (a:Int):MG vsX res resT (FD b a):=by
 obtain ⟨b1,b2,b3,b4,b5⟩:=wK b a;unfold MG;rw [b1,b2,b3,b4,b5];exact h
theorem Kg.pre {as:List Int} {fU:Int} {ps vs vs':List aJ} {l:List aF} {i:Nat} {o:List aA} {own:List Int} (h:Kg as fU ps vs l i o own vs'):vs <+: vs':=by
 induction h with
 | nil=>exact Ig _
 | arr _ _ ih=>exact ih
 | val _ _ _ ih=>exact (GR _ _).trans ih
theorem Ak.pre {p:aK} {vs vs':List aJ} {l:List aA} {as:List Int} {b:aA} {o:List aA} (h:Ak p vs l as b o vs'):vs <+: vs':=by
 induction h with
 | nil=>exact Ig _
 | call _ _ h1 _ _ _ _ ih1 ih2=>exact ((h1.pre.trans (GR _ _)).trans ih1).trans ih2
 | ret _ _ _ _ ih=>exact ih
 | retv _ _ _ _ ih=>exact (GR _ _).trans ih
 | other _ _ _ _ _ i1 i2 i3=>exact (i1.trans i2).trans i3
theorem Kg.ok {resT:Int} {vsC:List aJ} {scC:List Int} {as:List Int} {fU:Int} {ps vs vs':List aJ} {l:List aF} {i:Nat} {o:List aA} {own:List Int} (h:Kg as fU ps vs l i o own vs') (hps:∀u ∈ ps,sE u) (hv:∀u ∈ vsC,sE u) :
  ∀ {scX:List Int},zV vsC vs as scC scX->(∀(k:Nat) p x,ps[i+k]? = some p->l[k]? = some x->Bq vsC scC p x)->i+l.length<=ps.length ->
   ∃scX',FB vs' resT false scX o scX'/\own.length=l.length/\∀(k:Nat) p,k<l.length->ps[i+k]? = some p->∃v u,own[k]? = some v/\v ∈ scX'/\aS vs' v=some u/\u.bF=p.bF/\(p.bF=4->u.gA=p.gA):=by
 induction h with
 | nil=>intro scX _ _ _;exact ⟨scX,.nil,rfl,λk p hk=>dE hk (Nat.not_lt_zero _)⟩
 | @arr vs y l i o own vs' ht h ih=>
   intro scX hm ha hl;simp only [jJ] at hl;obtain ⟨scX',g1,g2,g3⟩:=ih hm (λk p x h1 h2=>ha (k+1) p x (by rw [←h1];congr 1;omega) h2) za;refine ⟨scX',g1,by simp only [jJ,g2],λk p hk hp=>?_⟩;cases k with
   | zero=>
     have hta:=ha 0 p y hp rfl;cases hta with
     | @arr v u a k1 k2 k3 k4 k5=>
       obtain ⟨u',m1,m2,m3⟩:=hm.k _ _ k3;exact ⟨_,u',rfl,g1.sub _ (hm.s _ k2),gN h.pre m1,by rw [m2,k4,k1],λ_=>by rw [m3 k4,k5]⟩
     | pub k1 k2 k3=>rw [k3] at ht;exact dE ht zb
     | val k1 k2 k3 k4=>
       have:=hps p (zX hp)
       rcases k4 with k4 | k4
       ·rw [ht] at k4;exact dE k4.symm k2
       ·rw [k4.1] at ht;exact dE ht zb
   | succ k=>
     obtain ⟨v,u,q1,q2⟩:=g3 k p (by simpa using hk) (by rw [←hp];congr 1;omega);exact ⟨v,u,q1,q2⟩
 | @val vs y l i u o own vs' ht hu h ih=>
   intro scX hm ha hl;simp only [jJ] at hl
   have hnew:aS (vs++[u]) (vs.length:Int)=some u:=by
    unfold aS;rw [cG za,wR,GT (tW _)];simp
   have hm':zV vsC (vs++[u]) as scC (scX++[(vs.length:Int)]):=hm.mono (GR _ _) λv hv=>MI _ hv;obtain ⟨scX',g1,g2,g3⟩:=ih hm' (λk p x h1 h2=>ha (k+1) p x (by rw [←h1];congr 1;omega) h2) za;have hpre:=(GR vs [u]).trans h.pre;have hnew':=gN h.pre hnew;have hta:=ha 0 u y hu rfl;have hsame:∀ {sc:List Int} v,v ∈ sc->v ∈ sc:=λ_ h=>h
   have hpar:∀(k:Nat) p,k<(y::l).length->ps[i+k]? = some p->∃v u',((vs.length:Int)::own)[k]? = some v/\v ∈ scX'/\aS vs' v=some u'/\u'.bF=p.bF/\(p.bF=4->u'.gA=p.gA):=by
    intro k p hk hp;cases k with
    | zero=>
      obtain rfl:u=p:=jN (hu.symm.trans hp);exact ⟨_,u,rfl,g1.sub _ (xeh _ (zA.2 rfl)),hnew',rfl,λ_=>rfl⟩
    | succ k=>
      obtain ⟨v,u',q1,q2⟩:=g3 k p (by simpa using hk) (by rw [←hp];congr 1;omega);exact ⟨v,u',q1,q2⟩
   cases hta with
   | arr k1 k2 k3 k4 k5=>exact dE rfl ht
   | pub k1 k2 k3=>
     rw [cG k1];exact ⟨scX',.let_ ((TX.fx hm k2).mono hpre hsame) (by rw [(iD as y).1];exact k3) hnew' k1 g1,by simp only [jJ,g2],hpar⟩
   | val k1 k2 k3 k4=>
     rw [bU k1];have:=hps u (zX hu);exact ⟨scX',.var_ ((TX.fx hm k3).mono hpre hsame) hnew' (by have t1:=this.1;have t2:=this.2.1;omega) (by rw [(iD as y).1];exact k4) g1,by simp only [jJ,g2],hpar⟩
end
section
variable {c:aG} {rk:Int->Nat} {resT:Int}
theorem Ak.nil_inv {p:aK} {vs v:List aJ} {as:List Int} {b:aA} {o:List aA} (h:Ak p vs [] as b o v):o=[]/\v=vs:=by cases h;exact ⟨rfl,rfl⟩
def FtyR (c:aG) (resT:Int) (vs:List aJ) (l:List aA) (as:List Int) (b:aA) (out:List aA) (vs':List aJ):Prop:=
 ∀ {j:Nat} {vsC:List aJ} {res:Int} {lf:Bool} {n:Nat} {sc:List Int} {n':Nat} {sc' scX:List Int},TB (Hb c j) vsC res lf n sc l n' sc'->(∀u ∈ vsC,sE u)->(res=0 ∨ res=2 ∨ res=3)->zV vsC vs as sc scX->MG vs res resT b ->
  ∃scX',FB vs' resT (lf && decide (b.eG=[114,101,116,117,114,110])) scX out scX'/\(∀v ∈ sc',mp as v ∈ scX')/\((∃s,l.getLast? = some s/\FG s)->b.eG=[115,101,116]->b.cZ ∈ scX')
theorem Qe {fv v1:List aJ} {own:List Int} {pn:Nat} {scX1:List Int} (hpn:pn<=fv.length) (hol:own.length=pn) (ho:∀(k:Nat) p,k<pn->fv[0+k]? = some p->∃v u,own[k]? = some v/\v ∈ scX1/\aS v1 v=some u/\u.bF=p.bF/\(p.bF=4->u.gA=p.gA)) :
  zV fv (v1++fv.drop pn) (own++uT v1.length (fv.drop pn).length) (rJ pn) scX1:=by
 have hlen:(own++uT v1.length (fv.drop pn).length).length=fv.length:=by
  rw [nB,hol];simp [uT];omega
 have hmp:∀i:Nat,i<fv.length->mp (own++uT v1.length (fv.drop pn).length) (i:Int)=((own++uT v1.length (fv.drop pn).length)[i]?).getD (i:Int):=by
  intro i hi;unfold mp;rw [bU (by rw [hlen];omega),wR]
 refine ⟨λv u hu=>?_,λv hv=>?_⟩
 ·obtain ⟨i,rfl⟩:∃i:Nat,v=(i:Int):=by
   unfold aS at hu
   split at hu
   ·exact ⟨v.toNat,za⟩
   ·exact nomatch hu
  have hu':=At hu;obtain ⟨hil,_⟩:=sG.1 hu';rw [hmp i hil]
  by_cases hip:i<pn
  ·obtain ⟨v,u',q1,q2,q3,q4,q5⟩:=ho i u hip (by rw [ES];exact hu');rw [HH za,q1];exact ⟨u',gN (GR _ _) q3,q4,q5⟩
  ·have hn:(uT v1.length (fv.drop pn).length)[i - own.length]? = some ((v1.length+(i - pn):Nat):Int):=by
    unfold uT;rw [AJ,xel (by rw [HG];omega),hol];rfl
   rw [GT za,hn];refine ⟨u,vM ?_,rfl,λ_=>rfl⟩;rw [GT za,QS];rw [←hu']
   congr 1
   omega
 ·unfold rJ at hv;obtain ⟨i,hi,rfl⟩:=Iw.1 hv;have hi:=Te.1 hi;obtain ⟨v,u',q1,q2,_⟩:=ho i fv[i] hi (by rw [ES];exact tS za);show mp _ (i:Int) ∈ _;rw [hmp i za,HH za,q1];exact q2
theorem Mv (hp:PO c rk) {j:Nat} {vsC vs v1 v2:List aJ} {sc scX:List Int} {as own:List Int} {fi r:Int} {ps:List aJ} {xs:List aF} {a:Int} {f:aP} {o1 o2:List aA} {b':aA}
  (hsg:Hb c j fi r ps) (hta:zS vsC sc ps xs) (hvC:∀u ∈ vsC,sE u) (hf:aS c.p_.aU fi=some f) (hA:Kg as a f.aO vs xs 0 o1 own v1) (hB:Ak c.p_ (v1++f.aO.drop f.aQ.toNat) f.bR (own++uT v1.length (f.aO.drop f.aQ.toNat).length) b' o2 v2)
  (ih:FtyR c resT (v1++f.aO.drop f.aQ.toNat) f.bR (own++uT v1.length (f.aO.drop f.aQ.toNat).length) b' o2 v2) (hm:zV vsC vs as sc scX) (Da:MG (v1++f.aO.drop f.aQ.toNat) r resT b') :
  ∃scX',FB v2 resT (decide (b'.eG=[114,101,116,117,114,110])) scX (o1++o2) scX'/\(∀v ∈ scX,v ∈ scX')/\(r ≠ 0->b'.eG=[115,101,116]->b'.cZ ∈ scX'):=by
 obtain ⟨_,f',hf',hr,hps⟩:=hsg;obtain rfl:f=f':=jN (hf.symm.trans hf');subst hr hps
 obtain ⟨fn,rfl⟩:∃k:Nat,fi=(k:Int):=by
  unfold aS at hf
  split at hf
  ·exact ⟨fi.toNat,za⟩
  ·exact nomatch hf
 have hfg:=At hf;have hfm:=zX hfg;have tf:=hp.tf fn f hfg;obtain ⟨vl1,vl2,vl3⟩:=hp.co.vl f hfm;obtain ⟨ki1,ki2⟩:=hp.co.ki f hfm;obtain ⟨sc'',htb⟩:=tf.body;have hpl:(f.aO.take f.aQ.toNat).length=f.aQ.toNat:=by rw [EC];omega
 have hxl:xs.length=f.aQ.toNat:=hta.1.trans hpl
 obtain ⟨scX1,g1,g2,g3⟩:=hA.ok (resT:=resT) (λu hu=>ki1 u hu) hvC hm (λk p x h1 h2=>by
  have hk:k<xs.length:=(sG.1 h2).1;refine hta.2 k p x ?_ h2;rw [MJ,cG za];rw [←h1];congr 1;omega) za
 have hmap:=Qe (fv:=f.aO) (v1:=v1) (own:=own) (pn:=f.aQ.toNat) (scX1:=scX1) za za (λk p hk hpk=>g3 k p za hpk);obtain ⟨scX2,k1,k2,k3⟩:=ih (j:=fn) htb ki1 ki2 hmap Da;refine ⟨scX2,?_,λv hv=>k1.sub _ (g1.sub _ hv),λhr0 hop=>k3 (tf.ret hr0) hop⟩;rw [Bool.true_and] at k1;exact (g1.mono ((GR _ _).trans hB.pre)).app rfl k1
end
section
variable {c:aG} {rk:Int->Nat} {resT:Int}
theorem uN {s t:aA} {l:List aA} (h:(s::l).getLast? = some t) (hs:¬ FG s) (ht:FG t):∃u,l.getLast? = some u/\FG u:=by
 cases l with
 | nil=>rw [List.getLast?_singleton] at h;rw [jN h] at hs;exact dE ht hs
 | cons x l=>rw [List.getLast?_cons_cons] at h;exact ⟨t,h,ht⟩
theorem fty (hp:PO c rk) {vs vs':List aJ} {l:List aA} {as:List Int} {b:aA} {out:List aA} (h:Ak c.p_ vs l as b out vs'):FtyR c resT vs l as b out vs':=by
 generalize hcp:c.p_=p at h
 induction h with
 | nil=>
   intro j vsC res lf n sc n' sc' scX htb hv hr hm hb;cases htb;exact ⟨scX,.nil,hm.s,λ⟨s,hs,_⟩=>nomatch hs⟩
 | @call vs s l as b f o1 own v1 o2 v2 o3 v3 ho hf hA hp0 hp1 hB hrest ihB ihR=>
   subst hcp;intro j vsC res lf n sc n' sc' scX htb hv hr hm hb;have hb1:=hb.mono (hA.pre.trans (GR _ (f.aO.drop f.aQ.toNat)));have hpre:=(hA.pre.trans (GR _ (f.aO.drop f.aQ.toNat))).trans hB.pre
   -- a call whose answer goes to a variable
   have toVar:∀ {m:Int} {r:Int} {ps:List aJ} {u:aJ} {n1:Nat} {sc1:List Int},s.cZ=m->m ≠ -1->m ≠ -2->Hb c j s.gI r ps->zS vsC sc ps s.aM->r ≠ 0->aS vsC m=some u->u.bF=r->¬ FG s->TB (Hb c j) vsC res lf n1 sc1 l n' sc'->(∀scX2:List Int,(∀v ∈ scX,v ∈ scX2)->mp as m ∈ scX2->∀v ∈ sc1,mp as v ∈ scX2) ->
     ∃scX',FB v3 resT (lf && decide (b.eG=[114,101,116,117,114,110])) scX ((o1++o2)++o3) scX'/\(∀v ∈ sc',mp as v ∈ scX')/\((∃t,(s::l).getLast? = some t/\FG t)->b.eG=[115,101,116]->b.cZ ∈ scX'):=by
    intro m r ps u n1 sc1 e1 e2 e3 hsg hta hr0 hu hk hns htl hsc;obtain ⟨u',w1,w2,w3⟩:=hm.k _ _ hu
    have htk:Gs f s as b=⟨[115,101,116],mp as m,0,[],[],[],s.fV⟩:=by
     unfold Gs;rw [bU (by rw [e1];exact e3),bU (by rw [e1];exact e2),e1]
    obtain ⟨scX2,g1,g2,g3⟩:=Mv (resT:=resT) hp hsg hta hv hf hA hB ihB hm (by
     rw [htk];exact ⟨rfl,rfl,.inr (.inl ⟨rfl,u',gN (hA.pre.trans (GR _ _)) w1,by rw [w2,hk]⟩)⟩)
    have hin:=g3 hr0 (by rw [htk]);rw [htk] at g1 hin;have hm2:zV vsC v2 as sc1 scX2:=⟨(hm.mono hpre g2).k,hsc scX2 g2 hin⟩;obtain ⟨scX3,q1,q2,q3⟩:=ihR htl hv hr hm2 (hb1.mono hB.pre);refine ⟨scX3,(g1.mono hrest.pre).app (Om (show ¬ ([115,101,116]:cQ)=[114,101,116,117,114,110] by decide)) q1,q2,λ⟨t,ht1,ht2⟩ hop=>q3 (uN ht1 hns ht2) hop⟩
   have tk1:s.cZ=-1->Gs f s as b=⟨[118,97,114],-1,f.bV,[],[],[],s.fV⟩:=λh=>by unfold Gs;rw [bU (by rw [h];decide),cG h]
   have tk2:s.cZ=-2->Gs f s as b=FD b s.fV:=λh=>by unfold Gs;rw [cG h];rfl
   have e2:∀ {v:Int},0<=v->v ≠ -1/\v ≠ -2:=λh=>⟨za,za⟩;cases htb with
   | let_=>exact dE (show ([108,101,116]:cQ)=[99,97,108,108] from ho) zb
   | var_=>exact dE (show ([118,97,114]:cQ)=[99,97,108,108] from ho) zb
   | arr=>exact dE (show ([97,114,114]:cQ)=[99,97,108,108] from ho) zb
   | set=>exact dE (show ([115,101,116]:cQ)=[99,97,108,108] from ho) zb
   | put=>exact dE (show ([112,117,116]:cQ)=[99,97,108,108] from ho) zb
   | if_=>exact dE (show ([105,102]:cQ)=[99,97,108,108] from ho) zb
   | for_=>exact dE (show ([102,111,114]:cQ)=[99,97,108,108] from ho) zb
   | ret=>exact dE (show ([114,101,116,117,114,110]:cQ)=[99,97,108,108] from ho) zb
   | callv k1 k2 k3 k4 k5 k6=>
     exact toVar rfl (e2 (SR n)).1 (e2 (SR n)).2 k1 k2 k3 (vM k4) k5 (λh=>by rcases h with h | h;exact dE (show ([99,97,108,108]:cQ)=[114,101,116,117,114,110] from h) zb;have:=h.2;simp only at this;omega) k6 (λscX2 h1 h2 v hv=>by
      rcases BV.1 hv with h3 | h3
      ·exact h1 _ (hm.s v h3)
      ·rw [zA.1 h3];exact h2)
   | calls k1 k2 k3 k4 k5 k6 k7=>
     have hv0:∀ {v:Int} {u:aJ},aS vsC v=some u->0<=v:=by
      intro v u h;unfold aS at h
      split at h
      ·assumption
      ·exact nomatch h
     have h0:=hv0 k2;exact toVar rfl (e2 h0).1 (e2 h0).2 k4 k5 (by rcases k3 with k3 | k3 <;> omega) k2 k6.symm (λh=>by rcases h with h | h;exact dE (show ([99,97,108,108]:cQ)=[114,101,116,117,114,110] from h) zb;have:=h.2;simp only at this;omega) k7 (λscX2 h1 h2 v hv=>h1 _ (hm.s v hv))
   | do_ k1 k2 k3=>
     have k1':=k1;obtain ⟨_,f',hf',hr',_⟩:=k1';obtain rfl:f=f':=jN (hf.symm.trans hf')
     obtain ⟨scX2,g1,g2,g3⟩:=Mv (resT:=resT) hp k1 k2 hv hf hA hB ihB hm (by
      rw [tk1 rfl];exact ⟨rfl,rfl,.inr (.inr ⟨rfl,hr'.symm⟩)⟩)
     rw [tk1 rfl] at g1;have hm2:zV vsC v2 as sc scX2:=hm.mono hpre g2;obtain ⟨scX3,q1,q2,q3⟩:=ihR k3 hv hr hm2 (hb1.mono hB.pre);refine ⟨scX3,(g1.mono hrest.pre).app (Om (show ¬ ([118,97,114]:cQ)=[114,101,116,117,114,110] by decide)) q1,q2,λ⟨t,ht1,ht2⟩ hop=>q3 (uN ht1 (λh=>by rcases h with h | h;exact dE (show ([99,97,108,108]:cQ)=[114,101,116,117,114,110] from h) zb;exact dE (show (-1:Int)=-2 from h.2) zb) ht2) hop⟩
   | retc k1 k2 k3=>
     obtain ⟨rfl,rfl⟩:=hrest.nil_inv;obtain ⟨scX2,g1,g2,g3⟩:=Mv (resT:=resT) hp k1 k3 hv hf hA hB ihB hm (by rw [tk2 rfl];exact hb1.bat _);rw [tk2 rfl] at g1 g3;rw [(wK b _).1] at g1 g3;rw [(wK b _).2.1] at g3;rw [ER];exact ⟨scX2,by rw [Bool.true_and];exact g1,λv hv=>g2 _ (hm.s v hv),λ_ hop=>g3 k2 hop⟩
 | @ret vs s l as b y r o v ho hl hnv hrest ihR=>
   intro j vsC res lf n sc n' sc' scX htb hv hr hm hb;cases htb with
   | let_=>exact dE (show ([108,101,116]:cQ)=[114,101,116,117,114,110] from ho) zb
   | var_=>exact dE (show ([118,97,114]:cQ)=[114,101,116,117,114,110] from ho) zb
   | arr=>exact dE (show ([97,114,114]:cQ)=[114,101,116,117,114,110] from ho) zb
   | set=>exact dE (show ([115,101,116]:cQ)=[114,101,116,117,114,110] from ho) zb
   | put=>exact dE (show ([112,117,116]:cQ)=[114,101,116,117,114,110] from ho) zb
   | if_=>exact dE (show ([105,102]:cQ)=[114,101,116,117,114,110] from ho) zb
   | for_=>exact dE (show ([102,111,114]:cQ)=[114,101,116,117,114,110] from ho) zb
   | callv=>exact dE (show ([99,97,108,108]:cQ)=[114,101,116,117,114,110] from ho) zb
   | calls=>exact dE (show ([99,97,108,108]:cQ)=[114,101,116,117,114,110] from ho) zb
   | do_=>exact dE (show ([99,97,108,108]:cQ)=[114,101,116,117,114,110] from ho) zb
   | retc=>exact dE (show ([99,97,108,108]:cQ)=[114,101,116,117,114,110] from ho) zb
   | ret k1 k2 k3=>
     obtain ⟨rfl,rfl⟩:=hrest.nil_inv;have hy:=(List.cons.inj hl).1;rw [hy] at k1 k3;obtain ⟨c1,c2,c3⟩:=hb
     have Cc:∀a,({ FD b a with gI:=0,aM:=[fx as y] }:aA)=⟨b.eG,b.cZ,0,[fx as y],[],[],(FD b a).fV⟩:=by
      intro a;obtain ⟨b1,b2,b3,b4,b5⟩:=wK b a;show (⟨(FD b a).eG,(FD b a).cZ,0,[fx as y],(FD b a).bR,(FD b a).iP,(FD b a).fV⟩:aA)=_;rw [b1,b2,b4,b5,c1,c2]
     rw [ER,Cc]
     rcases c3 with ⟨d1,d2,d3⟩ | ⟨d1,u,d2,d3⟩ | ⟨d1,_⟩
     ·rw [d1,d2];exact ⟨scX,.ret (TX.fx hm k1) (by rw [(iD as y).1,←d3];exact k3),hm.s,λ_ h=>dE h zb⟩
     ·rw [d1];exact ⟨scX++[b.cZ],.set (TX.fx hm k1) d2 za (by rw [(iD as y).1,d3];exact k3) .nil,λv hv=>MI _ (hm.s v hv),λ_ _=>xeh _ (zA.2 rfl)⟩
     ·exact dE d1 hnv
 | @retv vs s l as b y r o v ho hl hv0 hrest ihR=>
   intro j vsC res lf n sc n' sc' scX htb hv hr hm hb;cases htb with
   | let_=>exact dE (show ([108,101,116]:cQ)=[114,101,116,117,114,110] from ho) zb
   | var_=>exact dE (show ([118,97,114]:cQ)=[114,101,116,117,114,110] from ho) zb
   | arr=>exact dE (show ([97,114,114]:cQ)=[114,101,116,117,114,110] from ho) zb
   | set=>exact dE (show ([115,101,116]:cQ)=[114,101,116,117,114,110] from ho) zb
   | put=>exact dE (show ([112,117,116]:cQ)=[114,101,116,117,114,110] from ho) zb
   | if_=>exact dE (show ([105,102]:cQ)=[114,101,116,117,114,110] from ho) zb
   | for_=>exact dE (show ([102,111,114]:cQ)=[114,101,116,117,114,110] from ho) zb
   | callv=>exact dE (show ([99,97,108,108]:cQ)=[114,101,116,117,114,110] from ho) zb
   | calls=>exact dE (show ([99,97,108,108]:cQ)=[114,101,116,117,114,110] from ho) zb
   | do_=>exact dE (show ([99,97,108,108]:cQ)=[114,101,116,117,114,110] from ho) zb
   | retc=>exact dE (show ([99,97,108,108]:cQ)=[114,101,116,117,114,110] from ho) zb
   | ret k1 k2 k3=>
     obtain ⟨rfl,rfl⟩:=hrest.nil_inv;have hy:=(List.cons.inj hl).1;rw [hy] at k1 k3;obtain ⟨c1,c2,c3⟩:=hb
     have Cc:∀a,({ FD b a with cZ:=(vs.length:Int),gI:=0,aM:=[fx as y] }:aA)=⟨b.eG,(vs.length:Int),0,[fx as y],[],[],(FD b a).fV⟩:=by
      intro a;obtain ⟨b1,b2,b3,b4,b5⟩:=wK b a;show (⟨(FD b a).eG,(vs.length:Int),0,[fx as y],(FD b a).bR,(FD b a).iP,(FD b a).fV⟩:aA)=_;rw [b1,b4,b5,c1,c2]
     have hnew:aS (vs++[⟨[],b.gI,0⟩]) (vs.length:Int)=some (⟨[],b.gI,0⟩:aJ):=by
      unfold aS;rw [cG za,wR,GT (tW _)];simp
     rw [ER,Cc,hv0]
     rcases c3 with ⟨d1,_⟩ | ⟨d1,_⟩ | ⟨_,d2⟩
     ·rw [hv0] at d1;exact dE d1 zb
     ·rw [hv0] at d1;exact dE d1 zb
     ·exact ⟨scX++[(vs.length:Int)],.var_ ((TX.fx hm k1).mono (GR _ _) (λ_ h=>h)) hnew yz (by rw [(iD as y).1];simp only [d2];exact k3) .nil,λv hv=>MI _ (hm.s v hv),λ_ h=>dE h zb⟩
 | @other vs s l as b o1 v1 o2 v2 o3 v3 h1 h2 hb1 hb2 hrest i1 i2 ihR=>
   intro j vsC res lf n sc n' sc' scX htb hv hr hm hb;have hsm:∀ {sc:List Int} v,v ∈ sc->v ∈ sc:=λ_ h=>h;have hns:¬ FG s:=λh=>by rcases h with h | h;exact h2 h;exact h1 h.1
   cases htb with
   | callv=>exact dE rfl h1
   | calls=>exact dE rfl h1
   | do_=>exact dE rfl h1
   | retc=>exact dE rfl h1
   | ret=>exact dE rfl h2
   | let_ k1 k2 k3 k4 k5=>
     obtain ⟨rfl,rfl⟩:=hb1.nil_inv;obtain ⟨rfl,rfl⟩:=hb2.nil_inv;obtain ⟨u',w1,w2,w3⟩:=hm.k _ _ (vM k3);obtain ⟨scX3,q1,q2,q3⟩:=ihR k5 hv hr (hm.snoc _) hb;exact ⟨scX3,.let_ ((TX.fx hm k1).mono hrest.pre hsm) (by rw [(iD as _).1];exact k2) (gN hrest.pre w1) (by rw [w2];exact k4) q1,q2,λ⟨t,ht1,ht2⟩ hop=>q3 (uN ht1 hns ht2) hop⟩
   | var_ k1 k3 k4 k5=>
     obtain ⟨rfl,rfl⟩:=hb1.nil_inv;obtain ⟨rfl,rfl⟩:=hb2.nil_inv;obtain ⟨u',w1,w2,w3⟩:=hm.k _ _ (vM k3);obtain ⟨scX3,q1,q2,q3⟩:=ihR k5 hv hr (hm.snoc _) hb;have hrg:=k1.range hv;have hk:u'.bF=HP _:=w2.trans k4;exact ⟨scX3,.var_ ((TX.fx hm k1).mono hrest.pre hsm) (gN hrest.pre w1) (by rw [hk];unfold HP;split <;> omega) (by rw [(iD as _).1,hk];unfold Kh HP;split <;> omega) q1,q2,λ⟨t,ht1,ht2⟩ hop=>q3 (uN ht1 hns ht2) hop⟩
   | arr k3 k4 k5=>
     obtain ⟨rfl,rfl⟩:=hb1.nil_inv;obtain ⟨rfl,rfl⟩:=hb2.nil_inv;obtain ⟨u',w1,w2,w3⟩:=hm.k _ _ (vM k3);obtain ⟨scX3,q1,q2,q3⟩:=ihR k5 hv hr (hm.snoc _) hb;exact ⟨scX3,.arr (gN hrest.pre w1) (by rw [w2];exact k4) q1,q2,λ⟨t,ht1,ht2⟩ hop=>q3 (uN ht1 hns ht2) hop⟩
   | set k1 k2 k3 k4 k5 k6=>
     obtain ⟨rfl,rfl⟩:=hb1.nil_inv;obtain ⟨rfl,rfl⟩:=hb2.nil_inv;obtain ⟨u',w1,w2,w3⟩:=hm.k _ _ k2;obtain ⟨scX3,q1,q2,q3⟩:=ihR k6 hv hr (hm.mono (Ig _) λv hv=>MI _ hv) hb;exact ⟨scX3,.set ((TX.fx hm k4).mono hrest.pre hsm) (gN hrest.pre w1) (by rw [w2];exact k3) (by rw [(iD as _).1,w2];exact k5) q1,q2,λ⟨t,ht1,ht2⟩ hop=>q3 (uN ht1 hns ht2) hop⟩
   | put k1 k2 k3 k4 k5 k6 k7 k8 k9=>
     obtain ⟨rfl,rfl⟩:=hb1.nil_inv;obtain ⟨rfl,rfl⟩:=hb2.nil_inv;obtain ⟨u',w1,w2,w3⟩:=hm.k _ _ k2;obtain ⟨scX3,q1,q2,q3⟩:=ihR k9 hv hr hm hb;exact ⟨scX3,.put (hm.s _ k1) (gN hrest.pre w1) (by rw [w2];exact k3) ((TX.fx hm k4).mono hrest.pre hsm) (by rw [(iD as _).1];exact k5) (by rw [(iD as _).2.1,(iD as _).2.2,w3 k3];exact k6) ((TX.fx hm k7).mono hrest.pre hsm) (by rw [(iD as _).1];exact k8) q1,q2,λ⟨t,ht1,ht2⟩ hop=>q3 (uN ht1 hns ht2) hop⟩
   | if_ k1 k2 k3 k4 k5=>
     obtain ⟨sa,p1,p2,p3⟩:=i1 k3 hv hr hm hb;obtain ⟨sb,r1,r2,r3⟩:=i2 k4 hv hr (hm.mono hb1.pre hsm) (hb.mono hb1.pre);obtain ⟨scX3,q1,q2,q3⟩:=ihR k5 hv hr (hm.mono (hb1.pre.trans hb2.pre) hsm) (hb.mono (hb1.pre.trans hb2.pre));rw [Bool.false_and] at p1 r1;have hpre:=(hb1.pre.trans hb2.pre).trans hrest.pre;refine ⟨scX3,?_,q2,λ⟨t,ht1,ht2⟩ hop=>q3 (uN ht1 hns ht2) hop⟩;simp only [EE,Fl (show (-1:Int)<0 by decide)];exact .if_ ((TX.fx hm k1).mono hpre hsm) (by rw [(iD as _).1];exact k2) (p1.mono (hb2.pre.trans hrest.pre)) (r1.mono hrest.pre) q1
   | for_ k1 k2 k3 k4 k5 k6 k7 k8=>
     obtain ⟨rfl,rfl⟩:=hb2.nil_inv;obtain ⟨u',w1,w2,w3⟩:=hm.k _ _ (vM k5);obtain ⟨sa,p1,p2,p3⟩:=i1 k7 hv hr (hm.snoc _) hb;obtain ⟨scX3,q1,q2,q3⟩:=ihR k8 hv hr (hm.mono hb1.pre hsm) (hb.mono hb1.pre);rw [Bool.false_and] at p1;have hpre:=hb1.pre.trans hrest.pre;exact ⟨scX3,.for_ ((TX.fx hm k1).mono hpre hsm) (by rw [(iD as _).1];exact k2) ((TX.fx hm k3).mono hpre hsm) (by rw [(iD as _).1];exact k4) (gN hpre w1) (by rw [w2];exact k6) (p1.mono hrest.pre) q1,q2,λ⟨t,ht1,ht2⟩ hop=>q3 (uN ht1 hns ht2) hop⟩
theorem xE (v:Int):mp [] v=v:=by
 unfold mp;rw [cG (by simp;omega)]
theorem Flat_ty (hp:PO c rk) {n:Nat} {i:Int} {r:aP × Int} (h:tR n c.p_ i=some r) (he:r.2=0) :
  ∃(k:Nat) (fn:aP),i=(k:Int)/\c.p_.aU[k]? = some fn/\r.1={ fn with aO:=r.1.aO,bR:=r.1.bR }/\fn.aO <+: r.1.aO ∧
   Ak c.p_ fn.aO fn.bR [] ⟨[114,101,116,117,114,110],-1,0,[],[],[],-1⟩ r.1.bR r.1.aO/\∃sc',FB r.1.aO fn.bV true (rJ fn.aQ.toNat) r.1.bR sc':=by
 unfold tR at h;obtain ⟨y,hy,h⟩:=aD h;cases y with
 | true=>
   rw [cG rfl] at h;rw [←aZ h] at he;exact dE he zb
 | false=>
   rw [bU zb] at h;obtain ⟨fn,hfn,h⟩:=aD h;obtain ⟨_,h⟩:=bN h;obtain ⟨z,hz,h⟩:=aD h
   obtain ⟨k,hk⟩:∃k:Nat,i=(k:Int):=by
    unfold aS at hfn
    split at hfn
    ·exact ⟨i.toNat,za⟩
    ·exact nomatch hfn
   rw [hk] at hfn;have hfg:=At hfn
   by_cases hze:z.2.e_=0
   ·rw [bU (by simp [hze])] at h;obtain rfl:=aZ h;have hB:∀f ∈ c.p_.aU,uS f.bR<=1000000000/\f.aO.length<=1000000000:=λf hf=>⟨by have:=hp.sz f hf;omega,by have:=(hp.co.vl f hf).1;omega⟩;have hfm:=zX hfg;obtain ⟨g1,g2⟩:=(flB_all hB n).1 ⟨c.p_,fn,0,0⟩ fn.bR [] _ z.1 z.2 rfl (hB fn hfm).1 hz hze;have tf:=hp.tf k fn hfg;obtain ⟨sc',htb⟩:=tf.body;obtain ⟨ki1,ki2⟩:=hp.co.ki fn hfm;have hmap:zV fn.aO fn.aO [] (rJ fn.aQ.toNat) (rJ fn.aQ.toNat):=⟨λv u hu=>⟨u,by rw [xE];exact hu,rfl,λ_=>rfl⟩,λv hv=>by rw [xE];exact hv⟩;obtain ⟨scX,k1,_,_⟩:=fty (resT:=fn.bV) hp g1 htb ki1 ki2 hmap ⟨rfl,rfl,.inl ⟨rfl,rfl,rfl⟩⟩;have hvs:z.2.f_={ fn with aO:=z.2.f_.aO }:=g2.f;refine ⟨k,fn,hk,hfg,?_,g1.pre,g1,scX,k1⟩;show ({ z.2.f_ with bR:=z.1 }:aP)=_;rw [hvs]
   ·rw [cG (by simpa using hze)] at h;rw [←aZ h] at he;exact dE he hze
end
