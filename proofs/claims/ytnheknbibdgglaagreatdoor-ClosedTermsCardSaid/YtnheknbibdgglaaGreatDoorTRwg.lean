import Derived.Test.YtnheknbibdgglaaGreatDoorTTyp
namespace Go.Proofs.YtnheknbibdgglaaGreatDoor.Abs
open Go.RowKit
set_option linter.all false
inductive NM:aD->Prop
 | mk {x}:x.dR.length<=16->(∀y ∈ x.aL,NM y)->NM x
inductive StB:aA->Prop
 | mk {s}:(∀x ∈ s.aL,NM x)->(∀t ∈ s.bH,StB t)->(∀t ∈ s.eN,StB t)->StB s
theorem NM.nil {o:bW} {t k v a:Int} (h:o.length<=16):NM ⟨o,t,k,v,[],a⟩:=.mk h λy hy=>nomatch hy
theorem IZ {α:Type} {P:α->Prop} {x:α} (h:P x):∀y ∈ [x],P y:=λy hy=>by obtain rfl:=AV.1 hy;exact h
theorem WJ {α:Type} {P:α->Prop} {x y:α} (h:P x) (k:P y):∀z ∈ [x,y],P z:=λz hz=>by
 rcases ES.1 hz with rfl | hz
 ·exact h
 ·exact IZ k z hz
theorem all3 {α:Type} {P:α->Prop} {x y z:α} (h:P x) (k:P y) (l:P z):∀u ∈ [x,y,z],P u:=λu hu=>by
 rcases ES.1 hu with rfl | hu
 ·exact h
 ·exact WJ k l u hu
theorem Pq.len {o:bW} {x y:aD} {t:Int} (h:Pq o x y t):o.length<=16:=by
 rcases h with ⟨h,_⟩ | ⟨h,_⟩ | ⟨h,_⟩ | ⟨h,_⟩ | ⟨h,_⟩
 ·rcases h with rfl | rfl <;> decide
 ·rcases h with rfl | rfl | rfl <;> decide
 ·subst h;decide
 ·rcases h with rfl | rfl <;> decide
 ·rcases h with rfl | rfl | rfl | rfl | rfl <;> decide
section
variable {vs:List aJ} {sc:List Int}
theorem TX.opB {x:aD} (h:TX vs sc x):NM x:=by
 induction h with
 | num=>exact .nil (by decide)
 | var _ _ _=>exact .nil (by decide)
 | index _ _ _ _ _ _ ih=>exact .mk (by simp only;decide) (IZ ih)
 | un h _ ih=>exact .mk (by simp only;rcases h with rfl | rfl <;> decide) (IZ ih)
 | bin _ _ h ih1 ih2=>exact .mk h.len (WJ ih1 ih2)
 | sel _ _ _ _ _ ih1 ih2 ih3=>exact .mk (by simp only;decide) (all3 ih1 ih2 ih3)
 | long _ _ ih=>exact .mk (by simp only;decide) (IZ ih)
 | wide _ _ _ _ ih1 ih2=>exact .mk (by simp only;decide) (WJ ih1 ih2)
 | half h _ _ ih=>exact .mk (by simp only;rcases h with rfl | rfl <;> decide) (IZ ih)
theorem HM.opB {p:aJ} {x:aD} (h:HM vs sc p x):NM x:=by
 cases h with
 | arr _ _ _ _ _=>exact .nil (by decide)
 | pub _ h _=>exact h.opB
 | val _ _ h _=>exact h.opB
theorem Bi.each {ps:List aJ} {l:List aD} (h:Bi vs sc ps l) {x:aD} (hx:x ∈ l):∃p ∈ ps,HM vs sc p x:=by
 obtain ⟨i,hi⟩:=List.getElem?_of_mem hx;have hlt:=(vJ.1 hi).1;exact ⟨ps[i]'(by rw [←h.1];exact hlt),LU _,h.2 i _ x (wB _) hi⟩
variable {sg:QS} {res:Int} {l:Bool} {n n':Nat} {sc':List Int} {ss:List aA}
theorem yN {α:Type} {P:α->Prop} {x:α} {l:List α} (h:P x) (k:∀y ∈ l,P y):∀y ∈ x::l,P y:=λy hy=>by
 rcases ES.1 hy with rfl | hy
 ·exact h
 ·exact k y hy
theorem yG {α:Type} {P:α->Prop}:∀y ∈ ([]:List α),P y:=λy hy=>nomatch hy
end
theorem ML {v:Int} {as:List Int}:bD (yI v as) λr=>as=[]->r=v:=by
 unfold yI;refine bD.bind (P:=λy=>y=true ∨ y=false/\0<=v/\v<as.length) ?_ λy hy=>?_
 ·refine bD.iteb (λ_=>.some (.inl rfl)) λh=>.some ?_;have h:=NP h
  by_cases h2:(as.length:Int)<=v
  ·exact .inl (tA h2)
  ·exact .inr ⟨Sc h2,by omega,by omega⟩
 ·refine bD.iteb (λ_=>.some λ_=>rfl) λh=>?_
  rcases hy with e | ⟨_,h0,h1⟩
  ·rw [e] at h;cases h
  ·exact (bD.idx h0 h1 (Q:=λ_=>True) λ_ _=>trivial).bind λx _=>.some λe=>by rw [e] at h1;simp at h1;omega
structure XR (as:List Int) (x y:aD):Prop where
 sz:xz y=xz x
 op:NM x->NM y
 id:as=[]->y=x
structure XLR (as:List Int) (l r:List aD):Prop where
 len:r.length=l.length
 sz:pQ r=pQ l
 op:(∀x ∈ l,NM x)->∀y ∈ r,NM y
 id:as=[]->r=l
theorem XLR.nil {as:List Int}:XLR as [] []:=⟨rfl,rfl,λh=>h,λ_=>rfl⟩
theorem XLR.cons {as:List Int} {x y:aD} {l r:List aD} (h:XR as x y) (k:XLR as l r):XLR as (x::l) (y::r):=
 ⟨by rw [pX,pX,k.len],by rw [pQ,pQ,h.sz,k.sz],λho=>yN (h.op (ho x xds)) (k.op λz hz=>ho z (Pt _ hz)),λe=>by rw [h.id e,k.id e]⟩
theorem Tl {f:aD->List Int->Option aD} {l:List aD} {as:List Int} (hf:∀x ∈ l,bD (f x as) (XR as x)) (hl:l.length<=100000000) :
  ∀(k v:Nat) (acc:List aD),l.length<v+k->v<=l.length->acc.length=v->bD (uI f l as k acc (v:Int)) λr=>∃r',r=acc++r'/\XLR as (l.drop v) r':=by
 intro k
 induction k with
 | zero=>intro v acc h1 h2;omega
 | succ k ih=>
   intro v acc h1 h2 h3;unfold uI
   by_cases hv:v<l.length
   ·have hd:l.drop v=l[v]::l.drop (v+1):=NQ hv;have e:aZ l (v:Int)=some l[v]:=wE (wB hv);rw [if_pos (tA (by omega)),e,dV];refine (hf _ (LU hv)).bind λy hy=>bD.need (by simp only [pX,sY];omega) ?_;rw [cG (n:=(v:Int)+1) (by omega) (by omega),show ((v:Int)+1)=((v+1:Nat):Int) by omega];refine (ih (v+1) _ (by omega) (by omega) (by rw [mX,sW,h3])).mono λr hr=>?_;obtain ⟨r',rfl,hr⟩:=hr;exact ⟨y::r',by simp,by rw [hd];exact .cons hy hr⟩
   ·rw [if_neg (by rw [sX];omega),TR (by omega)];exact .some ⟨[],by simp,.nil⟩
theorem Mx:∀n:Nat,(∀(x:aD) (as:List Int),2*xz x<n->xz x<=100000000->bD (rT n x as) (XR as x))/\(∀(l:List aD) (as:List Int),2*pQ l+1<n->pQ l<=100000000->bD (tU n l as) (XLR as l)):=by
 intro n
 induction n with
 | zero=>exact ⟨λx as h=>by omega,λl as h=>by omega⟩
 | succ n ih=>
   refine ⟨λx as h hb=>?_,λl as h hb=>?_⟩
   ·show bD (uY (tU n) n x as) _;unfold uY;have hz:=BG x;refine ML.bind λv hv=>(ih.2 _ as (by omega) (by omega)).bind λr hr=>.some ⟨?_,λho=>?_,λe=>?_⟩
    ·rw [BG,BG,hr.sz]
    ·obtain ⟨h1,h2⟩:=ho;exact .mk h1 (hr.op h2)
    ·cases x;rw [hv e,hr.id e]
   ·show bD (tT (rT n) n l as) _;unfold tT;have hl:=Af l
    have:=Tl (f:=rT n) (l:=l) (as:=as) (λx hx=>by
     have h1:=Bj hx;exact ih.1 x as (by omega) (by omega)) (by omega) n 0 [] (by omega) (by omega) rfl
    refine bD.bind this λr hr=>.some ?_;obtain ⟨r',rfl,hr⟩:=hr;exact hr
theorem Mw {n:Nat} {x:aD} {as:List Int} (h:2*xz x<n) (hb:xz x<=100000000):bD (rT n x as) (XR as x):=(Mx n).1 x as h hb
theorem Qz {n:Nat} {l:List aD} {as:List Int} (h:2*pQ l+1<n) (hb:pQ l<=100000000):bD (tU n l as) (XLR as l):=(Mx n).2 l as h hb
mutual
def TW:aA->Nat
 | ⟨_,_,_,_,b,e,_⟩=>1+vI b+vI e
def vI:List aA->Nat
 | []=>0
 | x::l=>TW x+vI l
end
theorem NZ (a b:List aA):vI (a++b)=vI a+vI b:=by
 induction a with
 | nil=>rw [Dh,vI,Lo]
 | cons x a ih=>rw [LV,vI,vI,ih,Nat.add_assoc]
inductive NCS:aA->Prop
 | ret {x a}:NCS ⟨[114,101,116,117,114,110],-1,0,[x],[],[],a⟩
 | st {o v f l b e a}:o ≠ [99,97,108,108]->o ≠ [114,101,116,117,114,110]->(∀t ∈ b,NCS t)->(∀t ∈ e,NCS t)->NCS ⟨o,v,f,l,b,e,a⟩
structure Sz (x:aI):Prop where
 lo:0<=x.fW
 hi:x.fW<=30000
 ok:x.e_=0->x.fW<=16384
 e:x.e_=0 ∨ x.e_=161
structure CtR (x r:aI):Prop where
 p:r.p_=x.p_
 f:r.f_=x.f_
 s:r.fW=x.fW+1
 e:r.e_=if 16384<x.fW+1 then 161 else x.e_
theorem GZ {x:aI} (h0:0<=x.fW) (h1:x.fW<=1000000000):bD (dT x) (CtR x):=by
 unfold dT;rw [cG (n:=x.fW+1) (by omega) (by omega)];refine bD.iteb (λh=>.some ⟨rfl,rfl,rfl,?_⟩) (λh=>.some ⟨rfl,rfl,rfl,?_⟩)
 ·rw [if_pos (By h)]
 ·rw [if_neg (NP h)]
theorem CtR.sz {x r:aI} (h:CtR x r) (hs:Sz x) (hx:x.fW<=29999):Sz r:=by
 have h1:=h.s;have h2:=h.e;have h3:=hs.lo;refine ⟨by omega,by omega,λe=>?_,?_⟩
 ·rw [h2] at e;split at e
  ·omega
  ·omega
 ·rw [h2];split
  ·exact .inr rfl
  ·exact hs.e
def back0:aA:=⟨[114,101,116,117,114,110],-1,0,[],[],[],-1⟩
inductive FS (p:aW) (rk:Int->Nat) (m:Nat):aA->Prop
 | ret {x a}:NM x->FS p rk m ⟨[114,101,116,117,114,110],-1,0,[x],[],[],a⟩
 | call {v f xs a fn}:aZ p.aV f=some fn->rk f<m->xs.length<=fn.aR.length->(∀x ∈ xs,NM x)->FS p rk m ⟨[99,97,108,108],v,f,xs,[],[],a⟩
 | st {o v f l b e a}:o ≠ [99,97,108,108]->o ≠ [114,101,116,117,114,110]->(∀x ∈ l,NM x)->(∀t ∈ b,FS p rk m t)->(∀t ∈ e,FS p rk m t)->FS p rk m ⟨o,v,f,l,b,e,a⟩
structure PG (p:aW) (rk:Int->Nat):Prop where
 fs:∀k fn,aZ p.aV k=some fn->∀t ∈ fn.bH,FS p rk (rk k) t
 sz:∀k fn,aZ p.aV k=some fn->uN fn.bH<=3001
 vl:∀k fn,aZ p.aV k=some fn->fn.aR.length<=250/\0<=fn.aT/\fn.aT<=fn.aR.length
structure Ok (t:aA):Prop where
 nc:NCS t
 st:StB t
 tzb:tz t<=3001*TW t
theorem Ok.all {l:List aA} (h:∀t ∈ l,Ok t):uN l<=3001*vI l:=by
 induction l with
 | nil=>exact Jc _
 | cons x l ih=>
   have h1:=(h x xds).tzb;have h2:=ih λt ht=>h t (Pt _ ht);rw [uN,vI];omega
structure VR (x r:aI):Prop where
 f:r.f_={ x.f_ with aR:=r.f_.aR }
 l:x.f_.aR.length<=4096->r.f_.aR.length<=4096
theorem VR.refl (x:aI):VR x x:=⟨rfl,λh=>h⟩
theorem VR.of {x r:aI} (h:r.f_=x.f_):VR x r:=⟨by rw [h],λk=>by rw [h];exact k⟩
theorem VR.trans {x y z:aI} (h:VR x y) (k:VR y z):VR x z:=⟨by rw [k.f,h.f],λe=>k.l (h.l e)⟩
structure Xd (x r:aI):Prop where
 p:r.p_=x.p_
 v:VR x r
 s:r.fW=x.fW
 e:r.e_=x.e_ ∨ r.e_=161
theorem Xd.sz {x r:aI} (h:Xd x r) (hs:Sz x):Sz r:=by
 have h1:=h.s;refine ⟨by rw [h1];exact hs.lo,by rw [h1];exact hs.hi,λe=>?_,?_⟩
 ·rw [h1]
  rcases h.e with k | k
  ·exact hs.ok (by rw [←k];exact e)
  ·rw [k] at e;cases e
 ·rcases h.e with k | k
  ·rw [k];exact hs.e
  ·exact .inr k
theorem Xd.zero {x r:aI} (h:Xd x r) (e:r.e_=0):x.e_=0:=by
 rcases h.e with k | k
 ·rw [←k];exact e
 ·rw [k] at e;cases e
theorem IT {x:aI} {v:aJ}:bD (dS x v) λr=>Xd x r.2:=by
 unfold dS;refine bD.iteb (λh=>.some ⟨rfl,.of rfl,rfl,.inr rfl⟩) (λh=>?_);have h:=NP h;refine bD.need (by simp only [pX,sY];omega) (.some ⟨rfl,⟨rfl,λ_=>?_⟩,rfl,.inl rfl⟩);show (x.f_.aR++[v]).length<=4096;rw [mX,sW];omega
structure FR (x:aI) (r:List aA × aI):Prop where
 p:r.2.p_=x.p_
 v:VR x r.2
 s:Sz r.2
 len:(r.1.length:Int)+x.fW<=r.2.fW
 out:r.2.e_=0->x.e_=0/\(∀t ∈ r.1,Ok t)/\x.fW+vI r.1<=r.2.fW
structure BkS (b:aA):Prop where
 bo:b.bH=[]
 el:b.eN=[]
 op:(b.dR=[114,101,116,117,114,110]/\b.eB=-1) ∨ b.dR=[118,97,114] ∨ b.dR=[115,101,116]
theorem Rp {o:bW} {v f:Int} {y:aD} {a:Int} (h1:o ≠ [99,97,108,108]) (h2:o ≠ [114,101,116,117,114,110]) (ho:NM y) (hz:xz y<=3000):Ok ⟨o,v,f,[y],[],[],a⟩:=
 ⟨.st h1 h2 yG yG,.mk (IZ ho) yG yG,by rw [tz,pQ,pQ,uN,TW,vI];omega⟩
theorem Uq:([118,97,114]:bW) ≠ [99,97,108,108]:=by decide
theorem Up:([118,97,114]:bW) ≠ [114,101,116,117,114,110]:=by decide
theorem set_nc:([115,101,116]:bW) ≠ [99,97,108,108]:=by decide
theorem set_nr:([115,101,116]:bW) ≠ [114,101,116,117,114,110]:=by decide
theorem UB {x:aI} {y:aD} {b:aA} (hb:BkS b) (ho:NM y) (hz:xz y<=3000):bD (eQ x y b) λr=>Xd x r.2/\Ok r.1/\TW r.1=1:=by
 obtain ⟨h1,h2,h3⟩:=hb;obtain ⟨o,v,f,l,bo,el,a⟩:=b;simp only at h1 h2 h3;subst h1 h2;have hs:∀v f l a,TW ⟨o,v,f,l,[],[],a⟩=1:=λv f l a=>by rw [TW,vI]
 unfold eQ;refine bD.iteb (λh=>?_) (λh=>?_)
 ·have h:o=[118,97,114]:=By h;subst h;exact IT.bind λr hr=>.some ⟨hr,Rp Uq Up ho hz,hs _ _ _ _⟩
 ·refine .some ⟨⟨rfl,.refl x,rfl,.inl rfl⟩,?_,hs _ _ _ _⟩
  rcases h3 with ⟨rfl,rfl⟩ | rfl | rfl
  ·exact ⟨.ret,.mk (IZ ho) yG yG,by show tz ⟨_,_,_,[y],[],[],_⟩<=3001*TW ⟨_,_,_,[y],[],[],_⟩;rw [tz,pQ,pQ,uN,TW,vI];omega⟩
  ·exact Rp Uq Up ho hz
  ·exact Rp set_nc set_nr ho hz
theorem Sn {x:aI} {s b:aA} {as:List Int} {fn:aQ} (h:aZ x.p_.aV s.iH=some fn) (hb:BkS b):bD (jX x s as b) BkS:=by
 unfold jX;rw [h,dV];refine bD.iteb (λ_=>bD.iteb (λ_=>.some ⟨hb.bo,hb.el,hb.op⟩) (λ_=>.some hb)) (λ_=>bD.iteb (λ_=>.some ⟨rfl,rfl,.inr (.inl rfl)⟩) (λ_=>ML.bind λv _=>.some ⟨rfl,rfl,.inr (.inr rfl)⟩))
structure AR (x:aI) (k:Nat) (n:Int) (r:List aA × List Int × aI):Prop where
 p:r.2.2.p_=x.p_
 v:VR x r.2.2
 s:Sz r.2.2
 hi:r.2.2.fW<=x.fW+n
 own:r.2.1.length=k
 len:(r.1.length:Int)+x.fW<=r.2.2.fW
 out:r.2.2.e_=0->x.e_=0/\(∀t ∈ r.1,Ok t)/\x.fW+vI r.1<=r.2.2.fW
theorem args_l1 {n:Nat} {s:aA} {as:List Int} {fn:aQ} (hl:s.aL.length<=fn.aR.length) (hv:fn.aR.length<=250) (ho:∀y ∈ s.aL,NM y) (hz:pQ s.aL<=3000) (hn:6002<n) {x0:aI} (h0:0<=x0.fW) (h1:x0.fW<=20000) :
  ∀(k v:Nat) (acc:List aA) (own:List Int) (x:aI),s.aL.length<v+k->v<=s.aL.length->AR x0 v v (acc,own,x)->bD (eS n s as fn k acc own (v:Int) x) (AR x0 s.aL.length s.aL.length):=by
 intro k
 induction k with
 | zero=>intro v acc own x h1 h2;omega
 | succ k ih=>
   intro v acc own x h2 h3 ha;unfold eS
   by_cases hv2:v<s.aL.length
   ·have hg:=wB hv2;have e:aZ s.aL (v:Int)=some s.aL[v]:=wE hg;have hm:s.aL[v] ∈ s.aL:=LU hv2;have hzm:=Bj hm;have hi:=ha.hi;have hlo:=ha.len;have how:own.length=v:=ha.own;simp only at hi hlo;rw [if_pos (tA (by omega)),e,dV,cG (n:=(v:Int)+1) (by omega) (by omega),show ((v:Int)+1)=((v+1:Nat):Int) by omega]
    have step:∀(o:bW) (u:aJ),o ≠ [99,97,108,108]->o ≠ [114,101,116,117,114,110]->bD ((dT x).bind λx35=>(dS x35 u).bind λx37=>fC (own.length+[x37.1].length<=1073741824) <| (rT n s.aL[v] as).bind λx44=>fC (acc.length+[(aA.mk o x37.1 (0:Int) [x44] [] [] s.fM)].length<=1073741824) <| some ((acc++[(aA.mk o x37.1 (0:Int) [x44] [] [] s.fM)]),(own++[x37.1]),x37.2)) (AR x0 (v+1) (v+1:Nat)):=by
     intro o u ho1 ho2;refine (GZ (x:=x) ha.s.lo (by omega)).bind λx1 g1=>IT.bind λx2 g2=>bD.need (by simp only [pX,sY];omega) ((Mw (n:=n) (by omega) (by omega)).bind λy hy=>bD.need (by simp only [pX,sY];omega) ?_);have hs1:Sz x1:=g1.sz ha.s (by show x.fW<=29999;omega);have e1:=g1.s;have e2:=g2.s;refine .some ⟨g2.p.trans (g1.p.trans ha.p),ha.v.trans ((VR.of g1.f).trans g2.v),g2.sz hs1,?_,?_,?_,λe0=>?_⟩
     ·show x2.2.fW<=_;omega
     ·show (own++[x2.1]).length=_;rw [mX,sW,how]
     ·show ((acc++[_]).length:Int)+_<=x2.2.fW;rw [mX,sW];omega
     ·have k1:=g2.zero e0
      have k2:x.e_=0:=by
       have:=g1.e;rw [k1] at this
       split at this
       ·cases this
       ·exact this.symm
      obtain ⟨q1,q2,q3⟩:=ha.out k2;simp only at q2 q3;refine ⟨q1,λt ht=>?_,?_⟩
      ·rcases Cu.1 ht with ht | ht
       ·exact q2 t ht
       ·obtain rfl:=AV.1 ht;exact Rp ho1 ho2 (hy.op (ho _ hm)) (by rw [hy.sz];omega)
      ·show _+(vI (acc++[_]):Int)<=x2.2.fW;rw [NZ,vI,TW,vI];omega
    refine bD.bind (P:=AR x0 (v+1) (v+1:Nat)) ?_ λy hy=>ih (v+1) _ _ _ (by omega) (by omega) hy;refine bD.iteb (λ_=>ML.bind λw _=>bD.need (by simp only [pX,sY];omega) (.some ?_)) (λ_=>?_)
    ·exact ⟨ha.p,ha.v,ha.s,by show x.fW<=_;omega,by show (own++[w]).length=_;rw [mX,sW,how],ha.len,ha.out⟩
    ·have hv3:v<fn.aR.length:=by omega
     rw [wE (wB hv3),dV];exact bD.iteb (λ_=>step _ _ (by decide) (by decide)) (λ_=>step _ _ (by decide) (by decide))
   ·rw [if_neg (by rw [sX];omega)];have:v=s.aL.length:=by omega
    subst this;exact .some ha
theorem Xd.trans {x y z:aI} (h:Xd x y) (k:Xd y z):Xd x z:=⟨k.p.trans h.p,h.v.trans k.v,k.s.trans h.s,by
 rcases k.e with e | e
 ·rw [e];exact h.e
 ·exact .inr e⟩
theorem QL {fn:aQ} (hv:fn.aR.length<=250):∀(k v:Nat) (own:List Int) (x:aI),(fn.aR.drop fn.aT.toNat).length<v+k->v<=(fn.aR.drop fn.aT.toNat).length->own.length<=300+v->bD (eR fn k own (v:Int) x) λr=>Xd x r.2:=by
 have hd:(fn.aR.drop fn.aT.toNat).length<=250:=by rw [Pw];omega
 intro k
 induction k with
 | zero=>intro v own x h1 h2;omega
 | succ k ih=>
   intro v own x h1 h2 h3;unfold eR
   by_cases hv2:v<(fn.aR.drop fn.aT.toNat).length
   ·rw [if_pos (tA (by omega)),wE (wB hv2),dV];refine IT.bind λr hr=>bD.need (by simp only [pX,sY];omega) ?_;rw [cG (n:=(v:Int)+1) (by omega) (by omega),show ((v:Int)+1)=((v+1:Nat):Int) by omega];exact (ih (v+1) _ _ (by omega) (by omega) (by rw [mX,sW];omega)).mono λz hz=>hr.trans hz
   ·rw [if_neg (by rw [sX];omega)];exact .some ⟨rfl,.refl x,rfl,.inl rfl⟩
theorem FR.app {x0 x:aI} {acc:List aA} {r:List aA × aI} (h:FR x0 (acc,x)) (k:FR x r):FR x0 (acc++r.1,r.2):=by
 have h1:=h.len;have h2:=k.len;simp only at h1;refine ⟨k.p.trans h.p,h.v.trans k.v,k.s,?_,λe=>?_⟩
 ·show ((acc++r.1).length:Int)+_<=r.2.fW;rw [mX];omega
 ·obtain ⟨q1,q2,q3⟩:=k.out e;obtain ⟨p1,p2,p3⟩:=h.out q1;refine ⟨p1,λt ht=>?_,?_⟩
  ·rcases Cu.1 ht with ht | ht
   ·exact p2 t ht
   ·exact q2 t ht
  ·show _+(vI (acc++r.1):Int)<=r.2.fW;simp only at p3;rw [NZ];omega
theorem FR.none {x0 x:aI} {acc:List aA} (h:FR x0 (acc,x)) (e:x.e_ ≠ 0):FR x0 ([],x):=by
 have h1:=h.len;simp only at h1;exact ⟨h.p,h.v,h.s,by show ((([]:List aA).length:Nat):Int)+_<=x.fW;rw [sY];omega,λk=>absurd k e⟩
theorem FR.start {x:aI} (hs:Sz x):FR x ([],x):=⟨rfl,.refl x,hs,by show ((([]:List aA).length:Nat):Int)+_<=x.fW;rw [sY];omega,λe=>⟨e,λt ht=>(nomatch ht),by show _+((vI []:Nat):Int)<=x.fW;rw [vI];omega⟩⟩
theorem Tz {fs:aI->aA->List Int->aA->Option (List aA × aI)} {l:List aA} {as:List Int} {b:aA} {p:aW} (hf:∀s ∈ l,∀x,x.e_=0->Sz x->x.p_=p->bD (fs x s as b) (FR x)) (hl:l.length<=100000000) {x0:aI} (hp:x0.p_=p) (h0:0<=x0.fW) :
  ∀(k v:Nat) (acc:List aA) (x:aI),l.length<v+k->v<=l.length->FR x0 (acc,x)->bD (dJ fs l as b k acc (v:Int) x) λy=>bD (y.elim (λa=>some (a.1,a.2)) (λa=>some a)) (FR x0):=by
 intro k
 induction k with
 | zero=>intro v acc x h1 h2;omega
 | succ k ih=>
   intro v acc x h1 h2 ha;unfold dJ
   by_cases hv:v<l.length
   ·have hg:=wB hv;rw [if_pos (tA (by omega)),wE hg,dV];refine bD.iteb (λh=>.some (.some ?_)) (λh=>?_)
    ·exact ha.none (by simpa using h)
    ·have h:x.e_=0:=by simpa using h
     refine (hf _ (LU hv) x h ha.s (ha.p.trans hp)).bind λr hr=>?_;have l1:=ha.len;have l2:=hr.len;have l3:=hr.s.hi;have l4:=ha.s.lo;simp only at l1 l4;refine bD.need (by omega) ?_;rw [cG (n:=(v:Int)+1) (by omega) (by omega),show ((v:Int)+1)=((v+1:Nat):Int) by omega];exact ih (v+1) _ _ (by omega) (by omega) (ha.app hr)
   ·rw [if_neg (by rw [sX];omega)];exact .some (.some ha)
section
variable {p:aW} {rk:Int->Nat}
set_option maxRecDepth 20000 in
theorem Tj (hp:PG p rk):∀n:Nat,
  (∀(m:Nat) (x:aI) (l:List aA) (as:List Int) (b:aA),m*20000+4*uN l+2<n->uN l<=3001->(∀t ∈ l,FS p rk m t)->Sz x->x.p_=p->BkS b->bD (eE n x l as b) (FR x)) ∧
  (∀(m:Nat) (x:aI) (s:aA) (as:List Int) (b:aA),m*20000+4*tz s<n->tz s<=3001->FS p rk m s->x.e_=0->Sz x->x.p_=p->BkS b->bD (gB n x s as b) (FR x)) ∧
  (∀(m:Nat) (x:aI) (s:aA) (as:List Int) (b:aA) (fn:aQ),m*20000<=n->aZ p.aV s.iH=some fn->rk s.iH<m->s.aL.length<=fn.aR.length->(∀y ∈ s.aL,NM y)->pQ s.aL<=3000->x.e_=0->Sz x->x.p_=p->BkS b->bD (kO n x s as b) (FR x)):=by
 intro n
 induction n with
 | zero=>exact ⟨λm x l as b h=>by omega,λm x s as b h=>by omega,λm x s as b fn h _ h2=>by omega⟩
 | succ n ih=>
   obtain ⟨ihB,ihS,ihC⟩:=ih;refine ⟨λm x l as b h hz hl hs hx hb=>?_,λm x s as b h hz hf he hs hx hb=>?_,λm x s as b fn h hi hr hl ho hz he hs hx hb=>?_⟩
   ·show bD (fU (gB n) n x l as b) _;unfold fU;have hlen:=GN l
    exact bD.bind (Tz (fs:=gB n) (l:=l) (p:=p) (λs hm y hy hz2 hp2=>by
     have h1:=MK hm;exact ihS m y s as b (by generalize m*20000=M at h ⊢;omega) (by omega) (hl s hm) hy hz2 hp2 hb) (by omega) hx hs.lo n 0 [] x (by omega) (by omega) (.start hs)) λy hy=>hy
   ·show bD (eD (kO n) (eE n) n x s as b) _;unfold eD;have hx0:=hs.ok he;cases hf with
    | @ret e a ho=>
      rw [tz,pQ,pQ] at h hz;rw [if_neg (show ¬ decide (([114,101,116,117,114,110]:bW)=[99,97,108,108])=true by decide)];refine (GZ hs.lo (by omega)).bind λx1 h1=>?_;rw [if_pos (show decide (([114,101,116,117,114,110]:bW)=[114,101,116,117,114,110])=true by decide)];refine bD.eqn (v:=e) rfl ((Mw (n:=n) (by omega) (by omega)).bind λy hy=>?_)
      have key:∀b',BkS b'->bD ((eQ x1 y b').bind λx19=>some ([x19.1],x19.2)) (FR x):=λb' hb'=>(UB hb' (hy.op ho) (by rw [hy.sz];omega)).bind λr hr=>by
       obtain ⟨r1,r2,r3⟩:=hr;have e1:=h1.s;have e2:=r1.s;refine .some ⟨r1.p.trans h1.p,(VR.of h1.f).trans r1.v,r1.sz (h1.sz hs (by omega)),?_,λe0=>⟨he,λt ht=>?_,?_⟩⟩
       ·show ((([r.1]:List aA).length:Nat):Int)+_<=r.2.fW;rw [sW];omega
       ·obtain rfl:=AV.1 ht;exact r2
       ·show _+((vI [r.1]:Nat):Int)<=r.2.fW;rw [vI,vI,r3];omega
      exact bD.iteb (λ_=>key _ ⟨hb.bo,hb.el,hb.op⟩) (λ_=>key _ hb)
    | @call v f xs a fn hi hr hl ho=>
      rw [tz] at h hz;rw [if_pos (show decide (([99,97,108,108]:bW)=[99,97,108,108])=true by decide)];exact (ihC m x _ as b fn (by omega) hi hr hl ho (by show pQ xs<=3000;omega) he hs hx hb).bind λr hr=>.some hr
    | @st o v f l bo el a ho1 ho2 ho hn1 hn2=>
      rw [tz] at h hz;rw [if_neg (by rw [sX];exact ho1)];refine (GZ hs.lo (by omega)).bind λx1 h1=>?_;rw [if_neg (by rw [sX];exact ho2)];have hs1:=h1.sz hs (by omega);refine ML.bind λv' hv'=>(Qz (n:=n) (by show 2*pQ l+1<n;omega) (by show pQ l<=100000000;omega)).bind λl' hl'=>?_;refine (ihB m x1 bo as b (by generalize m*20000=M at h ⊢;omega) (by omega) hn1 hs1 (h1.p.trans hx) hb).bind λr1 g1=>(ihB m r1.2 el as b (by generalize m*20000=M at h ⊢;omega) (by omega) hn2 g1.s (g1.p.trans (h1.p.trans hx)) hb).bind λr2 g2=>?_;have e1:=h1.s;have e2:=g1.len;have e3:=g2.len;refine .some ⟨g2.p.trans (g1.p.trans h1.p),(VR.of h1.f).trans (g1.v.trans g2.v),g2.s,?_,λe0=>?_⟩
      ·show (((([_]:List aA)).length:Nat):Int)+_<=r2.2.fW;rw [sW];omega
      ·obtain ⟨q1,q2,q3⟩:=g2.out e0;obtain ⟨p1,p2,p3⟩:=g1.out q1;have z1:=Ok.all q2;have z2:=Ok.all p2;have z3:pQ l'=pQ l:=hl'.sz;refine ⟨he,λt ht=>?_,?_⟩
       ·obtain rfl:=AV.1 ht;refine ⟨.st ho1 ho2 (λt ht=>(p2 t ht).nc) (λt ht=>(q2 t ht).nc),.mk (hl'.op ho) (λt ht=>(p2 t ht).st) (λt ht=>(q2 t ht).st),?_⟩;show tz ⟨o,v',f,l',r1.1,r2.1,a⟩<=3001*TW ⟨o,v',f,l',r1.1,r2.1,a⟩;rw [tz,TW,z3];omega
       ·show _+((vI [⟨o,v',f,l',r1.1,r2.1,a⟩]:Nat):Int)<=r2.2.fW;rw [vI,TW,vI];omega
   ·show bD (gE (eE n) n x s as b) _;unfold gE;have hx0:=hs.ok he;obtain ⟨hv1,hv2,hv3⟩:=hp.vl _ _ hi;have hm:1<=m:=by omega
    refine (GZ hs.lo (by omega)).bind λx1 h1=>?_;have hs1:=h1.sz hs (by omega);have e1:=h1.s;rw [h1.p,hx,hi,dV];have hlen:=Af s.aL;refine bD.bind (P:=AR x1 s.aL.length s.aL.length) ?_ λy hy=>?_
    ·unfold mK;refine bD.bind (args_l1 (n:=n) (s:=s) (as:=as) (fn:=fn) hl hv1 ho hz (by omega) hs1.lo (by omega) n 0 [] [] x1 (by omega) (by omega) ⟨rfl,.refl x1,hs1,by show x1.fW<=_;omega,rfl,by show ((([]:List aA).length:Nat):Int)+_<=x1.fW;rw [sY];omega,λe=>⟨e,λt ht=>(nomatch ht),by show _+((vI []:Nat):Int)<=x1.fW;rw [vI];omega⟩⟩) λy hy=>.some hy
    ·refine bD.need ⟨hv2,hv3⟩ ?_;have d1:(fn.aR.drop fn.aT.toNat).length<=250:=by rw [Pw];omega
     have d2:=hy.own;refine (QL hv1 n 0 y.2.1 y.2.2 (by omega) (by omega) (by omega)).bind λz hz2=>?_;have e2:=hy.len;have e3:=hz2.s;have hsz:=hz2.sz hy.s
     have hA:FR x (y.1,z.2):=⟨hz2.p.trans (hy.p.trans h1.p),(VR.of h1.f).trans (hy.v.trans hz2.v),hsz,by show (y.1.length:Int)+_<=z.2.fW;omega,λe0=>by
      obtain ⟨_,q2,q3⟩:=hy.out (hz2.zero e0);exact ⟨he,q2,by show _+(vI y.1:Int)<=z.2.fW;omega⟩⟩
     refine bD.iteb (λh2=>.some (hA.none (by simpa using h2))) (λh2=>?_);have hzp:z.2.p_=p:=hA.p.trans hx;refine (Sn (x:=z.2) (s:=s) (b:=b) (as:=as) (fn:=fn) (by rw [hzp];exact hi) hb).bind λb' hb'=>?_;have hsz3:=hp.sz _ _ hi;refine (ihB (rk s.iH) z.2 fn.bH z.1 b' (by omega) hsz3 (hp.fs _ _ hi) hsz hzp hb').bind λr hr=>?_;have l1:=hA.len;have l2:=hr.len;have l3:=hr.s.hi;have l4:=hsz.lo;have l5:=hs.lo;simp only at l1;exact bD.need (by omega) (.some (hA.app hr))
structure NB (fn g:aQ):Prop where
 f:g={ fn with aR:=g.aR,bH:=g.bH }
 v:g.aR.length<=4096
 ok:∀t ∈ g.bH,Ok t
 sz:vI g.bH<=16384
theorem Xe (hp:PG p rk) {n:Nat} {i:Int} (hm:∀k,rk k<=64) (hn:1400000<=n):bD (vF n p i) λr=>(r.2=0->∃fn,aZ p.aV i=some fn/\NB fn r.1)/\(0<=i->i<p.aV.length->r.2=0 ∨ r.2=161):=by
 unfold vF;refine bD.bind (P:=λy=>y=true/\¬ (0<=i/\i<p.aV.length) ∨ y=false/\0<=i/\i<p.aV.length) ?_ λy hy=>?_
 ·refine bD.iteb (λh=>.some (.inl ⟨rfl,?_⟩)) λh=>.some ?_
  ·have h:=By h;omega
  ·have h:=NP h
   by_cases h2:(p.aV.length:Int)<=i
   ·exact .inl ⟨tA h2,by omega⟩
   ·exact .inr ⟨Sc h2,by omega,by omega⟩
 refine bD.iteb (λh=>.some ?_) (λh=>?_)
 ·rcases hy with ⟨_,h2⟩ | ⟨h2,_⟩
  ·exact ⟨λe=>absurd e (by decide),λh3 h4=>absurd ⟨h3,h4⟩ h2⟩
  ·rw [h2] at h;cases h
 ·rcases hy with ⟨h2,_⟩ | ⟨_,h0,h1⟩
  ·rw [h2] at h;cases h
  obtain ⟨fn,hfn⟩:∃fn,aZ p.aV i=some fn:=by
   obtain ⟨r,e,_⟩:=bD.idx (l:=p.aV) h0 h1 (Q:=λ_=>True) λ_ _=>trivial;exact ⟨r,e⟩
  obtain ⟨hv1,_,_⟩:=hp.vl _ _ hfn;have h64:=hm i;have hsz:=hp.sz _ _ hfn;rw [hfn,dV];refine bD.need (by omega) ?_;refine ((Tj hp n).1 (rk i) ⟨p,fn,0,0⟩ fn.bH [] back0 (by omega) hsz (hp.fs _ _ hfn) ⟨Se _,(by decide:(0:Int)<=30000),λ_=>(by decide:(0:Int)<=16384),.inl rfl⟩ rfl ⟨rfl,rfl,.inl ⟨rfl,rfl⟩⟩).bind λr hr=>?_;refine bD.iteb (λh=>.some ⟨λe=>absurd e (by simpa using h),λ_ _=>hr.s.e⟩) (λh=>.some ⟨λ_=>⟨fn,rfl,?_⟩,λ_ _=>.inl rfl⟩);have h:r.2.e_=0:=by simpa using h
  obtain ⟨_,q2,q3⟩:=hr.out h;have q4:=hr.s.ok h;have hvf:=hr.v.f;refine ⟨?_,hr.v.l (by show fn.aR.length<=4096;omega),q2,by show vI r.1<=16384;simp only at q3;omega⟩;show ({ r.2.f_ with bH:=r.1 }:aQ)=_;rw [hvf]
end
end Go.Proofs.YtnheknbibdgglaaGreatDoor.Abs
namespace Go.Proofs.YtnheknbibdgglaaGreatDoor.Abs
open Go.RowKit
set_option linter.all false
section
variable {c:aE} {rk:Int->Nat}
theorem TB.fs (hp:PO c rk) {j:Nat} {vs:List aJ} {res:Int} {l:Bool} {n n':Nat} {sc sc':List Int} {ss:List aA} (h:TB (EZ c j) vs res l n sc ss n' sc'):∀s ∈ ss,FS c.p_ rk (rk j) s:=by
 have key:∀ {sc:List Int} {v f r:Int} {ps:List aJ} {xs:List aD} {a:Int},EZ c j f r ps->Bi vs sc ps xs->FS c.p_ rk (rk j) ⟨[99,97,108,108],v,f,xs,[],[],a⟩:=by
  intro sc v f r ps xs a h1 h2;obtain ⟨⟨l,k1,k2⟩,fn,k3,_,k5⟩:=h1;refine .call k3 (hp.rk _ l (wE k1) f k2) ?_ (λx hx=>by obtain ⟨p,_,h⟩:=h2.each hx;exact h.opB);rw [h2.1,k5,JQ];omega
 induction h with
 | nil=>exact yG
 | let_ h1 _ _ _ _ ih=>exact yN (.st (by decide) (by decide) (IZ h1.opB) yG yG) ih
 | var_ h1 _ _ _ ih=>exact yN (.st (by decide) (by decide) (IZ h1.opB) yG yG) ih
 | arr _ _ _ ih=>exact yN (.st (by decide) (by decide) yG yG yG) ih
 | callv h1 h2 _ _ _ _ ih=>exact yN (key h1 h2) ih
 | set _ _ _ h4 _ _ ih=>exact yN (.st (by decide) (by decide) (IZ h4.opB) yG yG) ih
 | calls _ _ _ h4 h5 _ _ ih=>exact yN (key h4 h5) ih
 | put _ _ _ h4 _ _ h7 _ _ ih=>exact yN (.st (by decide) (by decide) (WJ h4.opB h7.opB) yG yG) ih
 | do_ h1 h2 _ ih=>exact yN (key h1 h2) ih
 | Jp h1 _ _ _ _ ih1 ih2 ih3=>exact yN (.st (by decide) (by decide) (IZ h1.opB) ih1 ih2) ih3
 | AZ h1 _ h3 _ _ _ _ _ ih1 ih2=>exact yN (.st (by decide) (by decide) (WJ h1.opB h3.opB) ih1 yG) ih2
 | ret h1 _ _=>exact IZ (.ret h1.opB)
 | retc h1 _ h3=>exact IZ (key h1 h3)
theorem PO.pg (hp:PO c rk):PG c.p_ rk:=by
 have hm:∀ {k:Int} {fn:aQ},aZ c.p_.aV k=some fn->∃j:Nat,k=j/\c.p_.aV[j]? = some fn:=by
  intro k fn h
  obtain ⟨r,e⟩:∃r:Nat,k=r:=by
   unfold aZ at h
   split at h
   ·exact ⟨k.toNat,by omega⟩
   ·cases h
  subst e;refine ⟨r,rfl,?_⟩;unfold aZ at h;rw [if_pos (by omega)] at h;simpa using h
 refine ⟨λk fn h=>?_,λk fn h=>?_,λk fn h=>?_⟩
 ·obtain ⟨j,rfl,hj⟩:=hm h;obtain ⟨sc',ht⟩:=(hp.tf j fn hj).body;exact ht.fs hp
 ·obtain ⟨j,rfl,hj⟩:=hm h;exact hp.sz _ (FK hj)
 ·obtain ⟨j,rfl,hj⟩:=hm h;exact hp.co.vl _ (FK hj)
end
theorem NB.tz {fn g:aQ} (h:NB fn g):uN g.bH<=50000000:=by
 have h1:=Ok.all h.ok;have h2:=h.sz;omega
def mp (as:List Int) (v:Int):Int:=if v<0 ∨ (as.length:Int)<=v then v else (as[v.toNat]?).getD v
mutual
def fx (as:List Int):aD->aD
 | ⟨o,t,n,v,l,a⟩=>⟨o,t,n,mp as v,Ls as l,a⟩
def Ls (as:List Int):List aD->List aD
 | []=>[]
 | x::l=>fx as x::Ls as l
end
theorem Gz (as:List Int) (x:aD):fx as x=⟨x.dR,x.cJ,x.N_,mp as x.eB,Ls as x.aL,x.fM⟩:=by cases x;rw [fx]
theorem Rg (v:Int) (as:List Int):yI v as=some (mp as v):=by
 unfold yI mp
 by_cases h0:v<0
 ·rw [if_pos (tA h0),dV,if_pos rfl,if_pos (.inl h0)]
 ·rw [if_neg (by simpa using h0),dV]
  by_cases h1:(as.length:Int)<=v
  ·rw [if_pos (tA h1),if_pos (.inr h1)]
  ·rw [if_neg (by simpa using h1),if_neg (by omega)];have hl:v.toNat<as.length:=by omega
   unfold aZ;rw [if_pos (by omega),wB hl];rfl
theorem fxL_l1 {f:aD->List Int->Option aD} {l:List aD} {as:List Int} (hf:∀x ∈ l,∀y,f x as=some y->y=fx as x) (hl:l.length<=1000000000) :
  ∀(k v:Nat) (acc r:List aD),v<=l.length->uI f l as k acc (v:Int)=some r->r=acc++Ls as (l.drop v):=by
 intro k
 induction k with
 | zero=>intro v acc r _ h;exact nomatch h
 | succ k ih=>
   intro v acc r hv h;unfold uI at h
   by_cases hv1:v<l.length
   ·have hd:l.drop v=l[v]::l.drop (v+1):=NQ hv1;have e:aZ l (v:Int)=some l[v]:=by unfold aZ;rw [if_pos (by omega),Dq,wB hv1]
    rw [if_pos (tA (by omega)),e,dV] at h;obtain ⟨y,hy,h⟩:=aF h;obtain ⟨_,h⟩:=bY h;rw [cG (n:=(v:Int)+1) (by omega) (by omega),show ((v:Int)+1)=((v+1:Nat):Int) by omega] at h;rw [ih (v+1) _ r (by omega) h,hd,Ls,hf _ (LU hv1) _ hy];simp
   ·rw [if_neg (by rw [sX];omega)] at h;rw [←aU h,TR (by omega),Ls,Ga]
theorem VW:∀n:Nat,(∀(x y:aD) (as:List Int),xz x<=1000000000->rT n x as=some y->y=fx as x)/\(∀(l r:List aD) (as:List Int),pQ l<=1000000000->tU n l as=some r->r=Ls as l):=by
 intro n
 induction n with
 | zero=>exact ⟨λx y as _ h=>(nomatch h),λl r as _ h=>(nomatch h)⟩
 | succ n ih=>
   refine ⟨λx y as hz h=>?_,λl r as hz h=>?_⟩
   ·have h:uY (tU n) n x as=some y:=h;unfold uY at h;rw [Rg,dV] at h;obtain ⟨z,hz1,h⟩:=aF h;have:=BG x;rw [←aU h,Gz,ih.2 _ _ _ (by omega) hz1]
   ·have h:tT (rT n) n l as=some r:=h;unfold tT at h;obtain ⟨z,hz1,h⟩:=aF h;have hl:=Af l;have:=fxL_l1 (λx hx y hy=>ih.1 x y as (JR (Bj hx) hz) hy) (by omega) n 0 [] z (Jc _) hz1;rw [←aU h,this];rfl
theorem VV {n:Nat} {x y:aD} {as:List Int} (hz:xz x<=1000000000) (h:rT n x as=some y):y=fx as x:=(VW n).1 x y as hz h
theorem fxL_of {n:Nat} {l r:List aD} {as:List Int} (hz:pQ l<=1000000000) (h:tU n l as=some r):r=Ls as l:=(VW n).2 l r as hz h
inductive Pm (as:List Int) (gC:Int) (ps:List aJ):List aJ->List aD->Nat->List aA->List Int->List aJ->Prop
 | nil {vs i}:Pm as gC ps vs [] i [] [] vs
 | arr {vs y l i o own vs'}:y.cJ=4->Pm as gC ps vs l (i+1) o own vs'->Pm as gC ps vs (y::l) i o (mp as y.eB::own) vs'
 | val {vs y l i u o own vs'}:y.cJ ≠ 4->ps[i]? = some u->Pm as gC ps (vs++[u]) l (i+1) o own vs'->Pm as gC ps vs (y::l) i (⟨if u.bK=1 then [108,101,116] else [118,97,114],vs.length,0,[fx as y],[],[],gC⟩::o) ((vs.length:Int)::own) vs'
def DW (k n:Nat):List Int:=(List.range n).map λi=>((k+i:Nat):Int)
def PA (f:aQ) (s:aA) (as:List Int) (b:aA):aA:=
 if s.eB=-2 then (if b.fM<0 then { b with fM:=s.fM } else b)
 else if s.eB=-1 then ⟨[118,97,114],-1,f.bN,[],[],[],s.fM⟩ else ⟨[115,101,116],mp as s.eB,0,[],[],[],s.fM⟩
def FX (b:aA) (a:Int):aA:=if b.fM<0 then { b with fM:=a } else b
inductive JL (p:aW):List aJ->List aA->List Int->aA->List aA->List aJ->Prop
 | nil {vs as b}:JL p vs [] as b [] vs
 | call {vs s l as b f o1 own v1 o2 v2 o3 v3}:s.dR=[99,97,108,108]->aZ p.aV s.iH=some f->Pm as s.fM f.aR vs s.aL 0 o1 own v1->0<=f.aT->f.aT<=f.aR.length ->
    JL p (v1++f.aR.drop f.aT.toNat) f.bH (own++DW v1.length (f.aR.drop f.aT.toNat).length) (PA f s as b) o2 v2->JL p v2 l as b o3 v3->JL p vs (s::l) as b ((o1++o2)++o3) v3
 | ret {vs s l as b y r o v}:s.dR=[114,101,116,117,114,110]->s.aL=y::r->b.dR ≠ [118,97,114]->JL p vs l as b o v->JL p vs (s::l) as b ([{ FX b s.fM with iH:=0,aL:=[fx as y] }]++o) v
 | retv {vs s l as b y r o v}:s.dR=[114,101,116,117,114,110]->s.aL=y::r->b.dR=[118,97,114]->JL p (vs++[⟨[],b.iH,0⟩]) l as b o v->JL p vs (s::l) as b ([{ FX b s.fM with eB:=vs.length,iH:=0,aL:=[fx as y] }]++o) v
 | other {vs s l as b o1 v1 o2 v2 o3 v3}:s.dR ≠ [99,97,108,108]->s.dR ≠ [114,101,116,117,114,110]->JL p vs s.bH as b o1 v1->JL p v1 s.eN as b o2 v2->JL p v2 l as b o3 v3 ->
    JL p vs (s::l) as b ([{ s with eB:=mp as s.eB,aL:=Ls as s.aL,bH:=o1,eN:=o2 }]++o3) v3
structure Gt (x r:aI) (vs:List aJ):Prop where
 e:x.e_=0
 p:r.p_=x.p_
 f:r.f_={ x.f_ with aR:=vs }
theorem Gt.vs {x r:aI} {vs:List aJ} (h:Gt x r vs):r.f_.aR=vs:=by rw [h.f]
theorem Gt.trans {x y z:aI} {vs vs':List aJ} (h:Gt x y vs) (k:Gt y z vs'):Gt x z vs':=⟨h.e,k.p.trans h.p,by rw [k.f,h.f]⟩
theorem Gt.refl {x:aI} (h:x.e_=0):Gt x x x.f_.aR:=⟨h,rfl,rfl⟩
theorem Ha {x r:aI} (h:dT x=some r) (he:r.e_=0):Gt x r x.f_.aR:=by
 unfold dT at h
 split at h
 ·have:=aU h;rw [←this] at he;cases he
 ·have:=aU h;subst this;exact ⟨he,rfl,rfl⟩
theorem Kb {x:aI} {v:aJ} {r:Int × aI} (h:dS x v=some r) (he:r.2.e_=0):r.1=(x.f_.aR.length:Int)/\Gt x r.2 (x.f_.aR++[v]):=by
 unfold dS at h
 by_cases hc:(4096:Int)<=x.f_.aR.length
 ·rw [if_pos (tA hc)] at h;have:=aU h;rw [←this] at he;cases he
 ·rw [if_neg (by simpa using hc)] at h;obtain ⟨_,h⟩:=bY h;have:=aU h;subst this;refine ⟨?_,he,rfl,rfl⟩;simp only [mX,pX,sY];rw [cG (by omega) (by omega)];omega
theorem args_s {n:Nat} {s:aA} {as:List Int} {f:aQ} (hz:pQ s.aL<=1000000000):∀(k v:Nat) (acc:List aA) (own:List Int) (x:aI) (r:List aA × List Int × aI),v<=s.aL.length ->
  eS n s as f k acc own (v:Int) x=some r->r.2.2.e_=0->∃o own' vs',r.1=acc++o/\r.2.1=own++own'/\Pm as s.fM f.aR x.f_.aR (s.aL.drop v) v o own' vs'/\Gt x r.2.2 vs':=by
 have hl:=Af s.aL;intro k
 induction k with
 | zero=>intro v acc own x r _ h;exact nomatch h
 | succ k ih=>
   intro v acc own x r hv h he;unfold eS at h
   by_cases hv1:v<s.aL.length
   ·have hd:s.aL.drop v=s.aL[v]::s.aL.drop (v+1):=NQ hv1;have e:aZ s.aL (v:Int)=some s.aL[v]:=by unfold aZ;rw [if_pos (by omega),Dq,wB hv1]
    have hn:IntKind.i64.wrap ((v:Int)+1)=((v+1:Nat):Int):=(cG (by omega) (by omega)).trans (by omega);have hxz:xz s.aL[v]<=1000000000:=JR (Bj (LU hv1)) hz;rw [if_pos (tA (by omega)),e,dV] at h;obtain ⟨y,hy,h⟩:=aF h;rw [hn] at h;obtain ⟨o,own',vs',h1,h2,h3,h4⟩:=ih (v+1) _ _ _ r (by omega) h he
    by_cases h4t:s.aL[v].cJ=4
    ·rw [if_pos (by simpa using h4t),Rg,dV] at hy;obtain ⟨_,hy⟩:=bY hy;obtain rfl:=aU hy;refine ⟨o,mp as s.aL[v].eB::own',vs',h1,by rw [h2];simp,?_,h4⟩;rw [hd];exact .arr h4t h3
    ·rw [if_neg (by simpa using h4t)] at hy;obtain ⟨u,hu,hy⟩:=aF hy
     have hu':f.aR[v]? = some u:=by
      unfold aZ at hu;rw [if_pos (by omega),Dq] at hu;exact hu
     by_cases hk:u.bK=1
     ·rw [if_pos (by simpa using hk)] at hy;obtain ⟨x1,hc,hy⟩:=aF hy;obtain ⟨x2,hf,hy⟩:=aF hy;obtain ⟨_,hy⟩:=bY hy;obtain ⟨x3,hx,hy⟩:=aF hy;obtain ⟨_,hy⟩:=bY hy;obtain rfl:=aU hy;have g4:Gt x2.2 r.2.2 vs':=h4;obtain ⟨f1,f2⟩:=Kb hf g4.e;have c1:=Ha hc f2.e;rw [c1.vs] at f1 f2;refine ⟨_,_,vs',h1.trans (Gb _ _ _),h2.trans (Gb _ _ _),?_,(c1.trans f2).trans g4⟩;rw [hd,VV hxz hx,f1];have:=Pm.val (as:=as) (gC:=s.fM) (l:=s.aL.drop (v+1)) (o:=o) (own:=own') (vs':=vs') h4t hu' (by rw [←f2.vs];exact h3);rw [if_pos hk] at this;exact this
     ·rw [if_neg (by simpa using hk)] at hy;obtain ⟨x1,hc,hy⟩:=aF hy;obtain ⟨x2,hf,hy⟩:=aF hy;obtain ⟨_,hy⟩:=bY hy;obtain ⟨x3,hx,hy⟩:=aF hy;obtain ⟨_,hy⟩:=bY hy;obtain rfl:=aU hy;have g4:Gt x2.2 r.2.2 vs':=h4;obtain ⟨f1,f2⟩:=Kb hf g4.e;have c1:=Ha hc f2.e;rw [c1.vs] at f1 f2;refine ⟨_,_,vs',h1.trans (Gb _ _ _),h2.trans (Gb _ _ _),?_,(c1.trans f2).trans g4⟩;rw [hd,VV hxz hx,f1];have:=Pm.val (as:=as) (gC:=s.fM) (l:=s.aL.drop (v+1)) (o:=o) (own:=own') (vs':=vs') h4t hu' (by rw [←f2.vs];exact h3);rw [if_neg hk] at this;exact this
   ·rw [if_neg (by rw [sX];omega)] at h;obtain rfl:=aU h;exact ⟨[],[],x.f_.aR,by simp,by simp,by rw [TR (by omega)];exact .nil,.refl he⟩
theorem ST (k n:Nat):DW k (n+1)=(k:Int)::DW (k+1) n:=by
 unfold DW;rw [List.range_succ_eq_map,xK,xdp]
 congr 1
 refine xdh λi _=>?_;simp only [Function.comp];omega
theorem call_s {f:aQ} (hl:(f.aR.drop f.aT.toNat).length<=1000000000):∀(k v:Nat) (own:List Int) (x:aI) (r:List Int × aI),v<=(f.aR.drop f.aT.toNat).length ->
  eR f k own (v:Int) x=some r->r.2.e_=0->r.1=own++DW x.f_.aR.length ((f.aR.drop f.aT.toNat).drop v).length/\Gt x r.2 (x.f_.aR++(f.aR.drop f.aT.toNat).drop v):=by
 intro k
 induction k with
 | zero=>intro v own x r _ h;exact nomatch h
 | succ k ih=>
   intro v own x r hv h he;unfold eR at h
   by_cases hv1:v<(f.aR.drop f.aT.toNat).length
   ·have hd:(f.aR.drop f.aT.toNat).drop v=(f.aR.drop f.aT.toNat)[v]::(f.aR.drop f.aT.toNat).drop (v+1):=NQ hv1;have e:aZ (f.aR.drop f.aT.toNat) (v:Int)=some (f.aR.drop f.aT.toNat)[v]:=by unfold aZ;rw [if_pos (by omega),Dq,wB hv1]
    have hn:IntKind.i64.wrap ((v:Int)+1)=((v+1:Nat):Int):=(cG (by omega) (by omega)).trans (by omega);rw [if_pos (tA (by omega)),e,dV] at h;obtain ⟨y,hy,h⟩:=aF h;obtain ⟨_,h⟩:=bY h;rw [hn] at h;obtain ⟨h1,h2⟩:=ih (v+1) _ _ r (by omega) h he;obtain ⟨f1,f2⟩:=Kb hy h2.e;rw [f2.vs] at h1 h2;rw [hd];refine ⟨?_,?_⟩
    ·rw [h1,f1,pX,ST,mX,sW,Gb];rfl
    ·have:=f2.trans h2
     rwa [Gb] at this
   ·rw [if_neg (by rw [sX];omega)] at h;obtain rfl:=aU h;rw [TR (by omega)];exact ⟨by simp [DW],by rw [Ga];exact .refl he⟩
theorem taken_s {x:aI} {s b r:aA} {as:List Int} {f:aQ} (h:jX x s as b=some r) (hf:aZ x.p_.aV s.iH=some f):r=PA f s as b:=by
 unfold jX at h;rw [hf,dV] at h;unfold PA
 by_cases h2:s.eB=-2
 ·rw [if_pos (by simpa using h2)] at h;rw [if_pos h2]
  by_cases ha:b.fM<0
  ·rw [if_pos (tA ha)] at h;rw [if_pos ha,←aU h]
  ·rw [if_neg (by simpa using ha)] at h;rw [if_neg ha,←aU h]
 ·rw [if_neg (by simpa using h2)] at h;rw [if_neg h2]
  by_cases h1:s.eB=-1
  ·rw [if_pos (by simpa using h1)] at h;rw [if_pos h1,←aU h]
  ·rw [if_neg (by simpa using h1),Rg,dV] at h;rw [if_neg h1,←aU h]
section
variable {p:aW}
theorem Hb {x r:aI} (h:dT x=some r):r.p_=x.p_:=by
 unfold dT at h
 split at h <;> (rw [←aU h])
theorem Nl {x:aI} {v:aJ} {r:Int × aI} (h:dS x v=some r):r.2.p_=x.p_:=by
 unfold dS at h
 split at h
 ·rw [←aU h]
 ·obtain ⟨_,h⟩:=bY h;rw [←aU h]
theorem tell_p {x:aI} {y:aD} {b:aA} {r:aA × aI} (h:eQ x y b=some r):r.2.p_=x.p_:=by
 unfold eQ at h
 split at h
 ·obtain ⟨z,hz,h⟩:=aF h;rw [←aU h];exact Nl hz
 ·rw [←aU h]
theorem WH {n:Nat} {s:aA} {as:List Int} {f:aQ}:∀(k:Nat) (v:Int) (acc:List aA) (own:List Int) (x:aI) (r:List aA × List Int × aI),eS n s as f k acc own v x=some r->r.2.2.p_=x.p_:=by
 intro k
 induction k with
 | zero=>intro v acc own x r h;exact nomatch h
 | succ k ih=>
   intro v acc own x r h;unfold eS at h
   split at h
   ·obtain ⟨y,hy,h⟩:=aF h;refine (ih _ _ _ _ _ h).trans ?_;obtain ⟨e,_,hy⟩:=aF hy
    split at hy
    ·obtain ⟨_,_,hy⟩:=aF hy;obtain ⟨_,hy⟩:=bY hy;rw [←aU hy]
    ·obtain ⟨_,_,hy⟩:=aF hy
     split at hy
     all_goals
      obtain ⟨x1,h1,hy⟩:=aF hy;obtain ⟨x2,h2,hy⟩:=aF hy;obtain ⟨_,hy⟩:=bY hy;obtain ⟨_,_,hy⟩:=aF hy;obtain ⟨_,hy⟩:=bY hy;rw [←aU hy];exact (Nl h2).trans (Hb h1)
   ·rw [←aU h]
theorem Wu {f:aQ}:∀(k:Nat) (v:Int) (own:List Int) (x:aI) (r:List Int × aI),eR f k own v x=some r->r.2.p_=x.p_:=by
 intro k
 induction k with
 | zero=>intro v own x r h;exact nomatch h
 | succ k ih=>
   intro v own x r h;unfold eR at h
   split at h
   ·obtain ⟨_,_,h⟩:=aF h;obtain ⟨y,hy,h⟩:=aF h;obtain ⟨_,h⟩:=bY h;exact (ih _ _ _ _ h).trans (Nl hy)
   ·rw [←aU h]
theorem block_p {rec_:aI->aA->List Int->aA->Option (List aA × aI)} {l:List aA} {as:List Int} {b:aA} (hr:∀x s out x',rec_ x s as b=some (out,x')->x'.p_=x.p_):∀(k:Nat) (v:Int) (acc:List aA) (x:aI) (r:(List aA × aI) ⊕ (List aA × aI)),
  dJ rec_ l as b k acc v x=some r->(r.elim (λz=>z.2.p_) λz=>z.2.p_)=x.p_:=by
 intro k
 induction k with
 | zero=>intro v acc x r h;exact nomatch h
 | succ k ih=>
   intro v acc x r h;unfold dJ at h
   split at h
   ·obtain ⟨s,_,h⟩:=aF h
    split at h
    ·rw [←aU h];rfl
    ·obtain ⟨y,hy,h⟩:=aF h;obtain ⟨_,h⟩:=bY h;exact (ih _ _ _ _ h).trans (hr _ _ y.1 y.2 hy)
   ·rw [←aU h];rfl
theorem flP_all:∀n:Nat,
  (∀x l as b out x',eE n x l as b=some (out,x')->x'.p_=x.p_) ∧
  (∀x s as b out x',gB n x s as b=some (out,x')->x'.p_=x.p_) ∧
  (∀x s as b out x',kO n x s as b=some (out,x')->x'.p_=x.p_):=by
 intro n
 induction n with
 | zero=>exact ⟨λ_ _ _ _ _ _ h=>(nomatch h),λ_ _ _ _ _ _ h=>(nomatch h),λ_ _ _ _ _ _ h=>(nomatch h)⟩
 | succ n ih=>
   obtain ⟨ihb,ihs,ihc⟩:=ih;refine ⟨λx l as b out x' h=>?_,λx s as b out x' h=>?_,λx s as b out x' h=>?_⟩
   ·have h:fU (gB n) n x l as b=some (out,x'):=h;unfold fU at h;obtain ⟨y,hy,h⟩:=aF h;have k1:=block_p (λx s out x' h'=>ihs x s as b out x' h') n 0 [] x y hy;cases y with
    | inl z=>obtain ⟨rfl,rfl⟩:=Prod.mk.inj (aU h);exact k1
    | inr z=>obtain rfl:=aU h;exact k1
   ·have h:eD (kO n) (eE n) n x s as b=some (out,x'):=h;unfold eD at h
    split at h
    ·obtain ⟨z,hz1,h⟩:=aF h;obtain ⟨rfl,rfl⟩:=Prod.mk.inj (aU h);exact ihc x s as b z.1 z.2 hz1
    ·obtain ⟨x1,hx1,h⟩:=aF h
     split at h
     ·obtain ⟨y,hy,h⟩:=aF h;obtain ⟨y2,hy2,h⟩:=aF h
      split at h
      all_goals
       obtain ⟨z,hz1,h⟩:=aF h;obtain ⟨rfl,rfl⟩:=Prod.mk.inj (aU h);exact (tell_p hz1).trans (Hb hx1)
     ·obtain ⟨_,_,h⟩:=aF h;obtain ⟨es,hes,h⟩:=aF h;obtain ⟨z1,hz1,h⟩:=aF h;obtain ⟨z2,hz2,h⟩:=aF h;obtain ⟨rfl,rfl⟩:=Prod.mk.inj (aU h);exact (ihb _ _ _ _ z2.1 z2.2 hz2).trans ((ihb _ _ _ _ z1.1 z1.2 hz1).trans (Hb hx1))
   ·have h:gE (eE n) n x s as b=some (out,x'):=h;unfold gE at h;obtain ⟨x1,hx1,h⟩:=aF h;obtain ⟨f,hf,h⟩:=aF h;obtain ⟨z,hz,h⟩:=aF h;obtain ⟨_,h⟩:=bY h;obtain ⟨y,hy,h⟩:=aF h
    have hz2:z.2.2.p_=x1.p_:=by
     unfold mK at hz;obtain ⟨w,hw,hz⟩:=aF hz;rw [←aU hz];exact WH n 0 [] [] x1 w hw
    have hy2:=(Wu n 0 _ _ y hy).trans (hz2.trans (Hb hx1))
    split at h
    ·obtain ⟨rfl,rfl⟩:=Prod.mk.inj (aU h);exact hy2
    ·obtain ⟨t,ht,h⟩:=aF h;obtain ⟨u,hu,h⟩:=aF h;obtain ⟨_,h⟩:=bY h;obtain ⟨rfl,rfl⟩:=Prod.mk.inj (aU h);exact (ihb _ _ _ _ u.1 u.2 hu).trans hy2
def StF (p:aW) (s:aA) (as:List Int) (b:aA) (x:aI) (out:List aA) (x':aI):Prop:=
 (∀l o vs2,JL p x'.f_.aR l as b o vs2->JL p x.f_.aR (s::l) as b (out++o) vs2)/\Gt x x' x'.f_.aR
theorem Ty {rec_:aI->aA->List Int->aA->Option (List aA × aI)} {l:List aA} {as:List Int} {b:aA} {C:(List aA × aI)->Prop} {k:Nat} {v:Int} {acc:List aA} {x:aI} {r:(List aA × aI) ⊕ (List aA × aI)} (he:x.e_ ≠ 0)
  (h:dJ rec_ l as b k acc v x=some r):(∀z,r=.inr z->z.2.e_ ≠ 0)/\∀z,r=.inl z->z.2.e_=0->C z:=by
 cases k with
 | zero=>exact nomatch h
 | succ k=>
   unfold dJ at h
   split at h
   ·obtain ⟨y,hy,h⟩:=aF h;rw [if_pos (by simpa using he)] at h;obtain rfl:=aU h;refine ⟨λz hz=>?_,λz hz=>(nomatch hz)⟩;cases hz;exact he
   ·obtain rfl:=aU h;refine ⟨λz hz=>(nomatch hz),λz hz hze=>?_⟩;cases hz;exact absurd hze he
theorem block_s {rec_:aI->aA->List Int->aA->Option (List aA × aI)} {l:List aA} {as:List Int} {b:aA} (hl:l.length<=1000000000)
  (hr:∀s ∈ l,∀x out x',x.p_=p->rec_ x s as b=some (out,x')->x'.e_=0->StF p s as b x out x'):∀(k v:Nat) (acc:List aA) (x:aI) (r:(List aA × aI) ⊕ (List aA × aI)),v<=l.length->x.p_=p ->
  dJ rec_ l as b k acc (v:Int) x=some r->(∀z,r=.inr z->z.2.e_ ≠ 0)/\∀z,r=.inl z->z.2.e_=0->∃o,z.1=acc++o/\JL p x.f_.aR (l.drop v) as b o z.2.f_.aR/\Gt x z.2 z.2.f_.aR:=by
 intro k
 induction k with
 | zero=>intro v acc x r _ _ h;exact nomatch h
 | succ k ih=>
   intro v acc x r hv hp h;unfold dJ at h
   by_cases hv1:v<l.length
   ·have hd:l.drop v=l[v]::l.drop (v+1):=NQ hv1;have e:aZ l (v:Int)=some l[v]:=by unfold aZ;rw [if_pos (by omega),Dq,wB hv1]
    have hn:IntKind.i64.wrap ((v:Int)+1)=((v+1:Nat):Int):=(cG (by omega) (by omega)).trans (by omega);rw [if_pos (tA (by omega)),e,dV] at h
    by_cases he:x.e_=0
    ·rw [if_neg (by simp [he])] at h;obtain ⟨y,hy,h⟩:=aF h;obtain ⟨_,h⟩:=bY h;rw [hn] at h;have hy':rec_ x l[v] as b=some (y.1,y.2):=hy
     by_cases hye:y.2.e_=0
     ·obtain ⟨s1,s2⟩:=hr _ (LU hv1) x y.1 y.2 hp hy' hye;obtain ⟨i1,i2⟩:=ih (v+1) _ _ r (by omega) (s2.p.trans hp) h;refine ⟨i1,λz hz hze=>?_⟩;obtain ⟨o,o1,o2,o3⟩:=i2 z hz hze;exact ⟨y.1++o,by rw [o1,Gb],by rw [hd];exact s1 _ _ _ o2,s2.trans o3⟩
     ·exact Ty hye h
    ·rw [if_pos (by simpa using he)] at h;obtain rfl:=aU h;refine ⟨λz hz=>?_,λz hz=>(nomatch hz)⟩;cases hz;exact he
   ·rw [if_neg (by rw [sX];omega)] at h;obtain rfl:=aU h;refine ⟨λz hz=>(nomatch hz),λz hz hze=>?_⟩;cases hz;exact ⟨[],by simp,by rw [TR (by omega)];exact .nil,.refl hze⟩
theorem bat_op {b:aA} {a:Int}:(FX b a).dR=b.dR/\(FX b a).iH=b.iH:=by unfold FX;split <;> exact ⟨rfl,rfl⟩
theorem tell_s {x:aI} {y:aD} {b:aA} {r:aA × aI} (h:eQ x y b=some r) (he:r.2.e_=0) :
  (b.dR ≠ [118,97,114]/\r.1={ b with iH:=0,aL:=[y] }/\Gt x r.2 x.f_.aR) ∨ (b.dR=[118,97,114]/\r.1={ b with eB:=x.f_.aR.length,iH:=0,aL:=[y] }/\Gt x r.2 (x.f_.aR++[⟨[],b.iH,0⟩])):=by
 unfold eQ at h
 by_cases hv:b.dR=[118,97,114]
 ·rw [if_pos (tA hv)] at h;obtain ⟨z,hz,h⟩:=aF h;obtain rfl:=aU h;obtain ⟨f1,f2⟩:=Kb hz he;exact .inr ⟨hv,by rw [f1],f2⟩
 ·rw [if_neg (by simpa using hv)] at h;obtain rfl:=aU h;exact .inl ⟨hv,rfl,he,rfl,rfl⟩
theorem flB_all (hB:∀f ∈ p.aV,uN f.bH<=1000000000/\f.aR.length<=1000000000):∀n:Nat,
  (∀x l as b out x',x.p_=p->uN l<=1000000000->eE n x l as b=some (out,x')->x'.e_=0->JL p x.f_.aR l as b out x'.f_.aR/\Gt x x' x'.f_.aR) ∧
  (∀x s as b out x',x.p_=p->tz s<=1000000000->gB n x s as b=some (out,x')->x'.e_=0->StF p s as b x out x') ∧
  (∀x s as b out x',s.dR=[99,97,108,108]->x.p_=p->tz s<=1000000000->kO n x s as b=some (out,x')->x'.e_=0->StF p s as b x out x'):=by
 intro n
 induction n with
 | zero=>exact ⟨λ_ _ _ _ _ _ _ _ h=>(nomatch h),λ_ _ _ _ _ _ _ _ h=>(nomatch h),λ_ _ _ _ _ _ _ _ _ h=>(nomatch h)⟩
 | succ n ih=>
   obtain ⟨ihb,ihs,ihc⟩:=ih;refine ⟨λx l as b out x' hp hz h he=>?_,λx s as b out x' hp hz h he=>?_,λx s as b out x' ho hp hz h he=>?_⟩
   ·have h:fU (gB n) n x l as b=some (out,x'):=h;unfold fU at h;obtain ⟨y,hy,h⟩:=aF h;have hlen:=GN l;obtain ⟨k1,k2⟩:=block_s (p:=p) (by omega) (λs hs x out x' hp' h' he'=>ihs x s as b out x' hp' (JR (MK hs) hz) h' he') n 0 [] x y (Jc _) hp hy;cases y with
    | inl z=>
      obtain ⟨rfl,rfl⟩:=Prod.mk.inj (aU h);obtain ⟨o,o1,o2,o3⟩:=k2 z rfl he;rw [o1];exact ⟨o2,o3⟩
    | inr z=>
      obtain rfl:=aU h;exact absurd he (k1 _ rfl)
   ·have h:eD (kO n) (eE n) n x s as b=some (out,x'):=h;unfold eD at h
    by_cases hc:s.dR=[99,97,108,108]
    ·rw [if_pos (tA hc)] at h;obtain ⟨z,hz1,h⟩:=aF h;have h2:=aU h;exact ihc x s as b out x' hc hp hz (by rw [hz1,←h2]) he
    rw [if_neg (by simpa using hc)] at h;obtain ⟨x1,hx1,h⟩:=aF h;have hze:=zG s
    by_cases hr:s.dR=[114,101,116,117,114,110]
    ·rw [if_pos (tA hr)] at h;obtain ⟨y,hy,h⟩:=aF h;obtain ⟨y2,hy2,h⟩:=aF h
     obtain ⟨rs,hrs⟩:∃rs,s.aL=y::rs:=by
      cases hsl:s.aL with
      | nil=>rw [hsl] at hy;exact nomatch hy
      | cons y' rs=>rw [hsl] at hy;exact ⟨rs,by rw [show y'=y from aU hy]⟩
     have hyz:xz y<=1000000000:=by have:=Bj (l:=s.aL) (x:=y) (by rw [hrs];exact xds);omega
     have h:(eQ x1 y2 (FX b s.fM)).bind (λz=>some ([z.1],z.2))=some (out,x'):=by
      unfold FX
      by_cases ha:b.fM<0
      ·rw [if_pos ha];rw [if_pos (tA ha)] at h;exact h
      ·rw [if_neg ha];rw [if_neg (by simpa using ha)] at h;exact h
     obtain ⟨z,hz1,h⟩:=aF h;obtain ⟨rfl,rfl⟩:=Prod.mk.inj (aU h);have hyx:=VV hyz hy2;obtain ⟨b1,b2⟩:=bat_op (b:=b) (a:=s.fM)
     rcases tell_s hz1 he with ⟨t1,t2,t3⟩ | ⟨t1,t2,t3⟩
     ·have c1:=Ha hx1 t3.e;rw [c1.vs] at t3;refine ⟨λl o vs2 hl=>?_,by rw [t3.vs];exact c1.trans t3⟩;rw [t3.vs] at hl;rw [t2,hyx];exact .ret hr hrs (by rw [←b1];exact t1) hl
     ·have c1:=Ha hx1 t3.e;rw [c1.vs] at t2 t3;refine ⟨λl o vs2 hl=>?_,by rw [t3.vs];exact c1.trans t3⟩;rw [t3.vs,b2] at hl;rw [t2,hyx];exact .retv hr hrs (by rw [←b1];exact t1) hl
    ·rw [if_neg (by simpa using hr),Rg,dV] at h;obtain ⟨es,hes,h⟩:=aF h;obtain ⟨z1,hz1,h⟩:=aF h;obtain ⟨z2,hz2,h⟩:=aF h;obtain ⟨rfl,rfl⟩:=Prod.mk.inj (aU h);have hes':=fxL_of (by omega) hes;have p1:=(Hb hx1).trans hp;have p2:=((flP_all n).1 _ _ _ _ z1.1 z1.2 hz1).trans p1;obtain ⟨q3,q4⟩:=ihb z1.2 s.eN as b z2.1 z2.2 p2 (by omega) hz2 he;obtain ⟨q1,q2⟩:=ihb x1 s.bH as b z1.1 z1.2 p1 (by omega) hz1 q4.e;have c1:=Ha hx1 q2.e;refine ⟨λl o vs2 hl=>?_,(c1.trans q2).trans q4⟩;rw [c1.vs] at q1;rw [hes'];exact .other hc hr q1 q3 hl
   ·have h:gE (eE n) n x s as b=some (out,x'):=h;unfold gE at h;have hze:=zG s;obtain ⟨x1,hx1,h⟩:=aF h;obtain ⟨f,hf,h⟩:=aF h;obtain ⟨z,hz1,h⟩:=aF h;obtain ⟨⟨hp0,hp1⟩,h⟩:=bY h;obtain ⟨y,hy,h⟩:=aF h;have p1:=(Hb hx1).trans hp;unfold mK at hz1;obtain ⟨w,hw,hz1⟩:=aF hz1;obtain rfl:=aU hz1;have p2:w.2.2.p_=p:=(WH n 0 [] [] x1 w hw).trans p1;have p3:y.2.p_=p:=(Wu n 0 _ _ y hy).trans p2
    have hfm:f ∈ p.aV:=by
     rw [p1] at hf;unfold aZ at hf
     split at hf
     ·exact FK hf
     ·exact nomatch hf
    have hfb:=hB f hfm
    by_cases hye:y.2.e_=0
    ·rw [if_neg (by simp [hye])] at h;obtain ⟨t,ht,h⟩:=aF h;obtain ⟨u,hu,h⟩:=aF h;obtain ⟨_,h⟩:=bY h;obtain ⟨rfl,rfl⟩:=Prod.mk.inj (aU h);obtain ⟨q1,q2⟩:=ihb y.2 f.bH y.1 t u.1 u.2 p3 hfb.1 hu he;obtain ⟨c1,c2⟩:=call_s (f:=f) (by simp;omega) n 0 _ _ y (Jc _) hy hye;obtain ⟨o,own',vs',a1,a2,a3,a4⟩:=args_s (n:=n) (s:=s) (as:=as) (f:=f) (by omega) n 0 [] [] x1 w (Jc _) hw c2.e;have k1:=Ha hx1 a4.e;have htk:=taken_s (f:=f) ht (by rw [p3,←p1];exact hf);rw [Ct] at c1 c2 a3;rw [Dh] at a1 a2;rw [a4.vs] at c1 c2;rw [k1.vs] at a3;rw [htk,c2.vs,c1,a2] at q1;refine ⟨λl o2 vs2 hl=>?_,((k1.trans a4).trans c2).trans q2⟩;rw [a1];exact .call ho (by rw [←p1];exact hf) a3 hp0 hp1 q1 hl
    ·rw [if_pos (by simpa using hye)] at h;obtain ⟨rfl,rfl⟩:=Prod.mk.inj (aU h);exact absurd he hye
end
end Go.Proofs.YtnheknbibdgglaaGreatDoor.Abs
namespace Go.Proofs.YtnheknbibdgglaaGreatDoor.Abs
open Go.RowKit
set_option linter.all false
inductive FB (vs:List aJ) (res:Int):Bool->List Int->List aA->List Int->Prop
 | nil {l sc}:FB vs res l sc [] sc
 | let_ {l sc x v u a ss sc'}:TX vs sc x->x.cJ=1->aZ vs v=some u->u.bK=1->FB vs res l (sc++[v]) ss sc'->FB vs res l sc (⟨[108,101,116],v,0,[x],[],[],a⟩::ss) sc'
 | var_ {l sc x v u a ss sc'}:TX vs sc x->aZ vs v=some u->(u.bK=2 ∨ u.bK=3)->Lm x.cJ u.bK->FB vs res l (sc++[v]) ss sc'->FB vs res l sc (⟨[118,97,114],v,0,[x],[],[],a⟩::ss) sc'
 | arr {l sc v u a ss sc'}:aZ vs v=some u->u.bK=4->FB vs res l (sc++[v]) ss sc'->FB vs res l sc (⟨[97,114,114],v,0,[],[],[],a⟩::ss) sc'
 | set {l sc x v u a ss sc'}:TX vs sc x->aZ vs v=some u->(u.bK=2 ∨ u.bK=3)->Lm x.cJ u.bK->FB vs res l (sc++[v]) ss sc'->FB vs res l sc (⟨[115,101,116],v,0,[x],[],[],a⟩::ss) sc'
 | put {l sc v u i x a ss sc'}:v ∈ sc->aZ vs v=some u->u.bK=4->TX vs sc i->i.cJ=1->(i.dR=[110,117,109]->IntKind.i64.wrap i.N_<u.qZ)->TX vs sc x->Lm x.cJ 2->FB vs res l sc ss sc'->FB vs res l sc (⟨[112,117,116],v,0,[i,x],[],[],a⟩::ss) sc'
 | Jp {l sc c b e a sc1 sc2 ss sc'}:TX vs sc c->c.cJ=1->FB vs res false sc b sc1->FB vs res false sc e sc2->FB vs res l sc ss sc'->FB vs res l sc (⟨[105,102],-1,0,[c],b,e,a⟩::ss) sc'
 | AZ {l sc x y v u b a sc1 ss sc'}:TX vs sc x->x.cJ=1->TX vs sc y->y.cJ=1->aZ vs v=some u->u.bK=1->FB vs res false (sc++[v]) b sc1->FB vs res l sc ss sc'->FB vs res l sc (⟨[102,111,114],v,0,[x,y],b,[],a⟩::ss) sc'
 | ret {sc x a}:TX vs sc x->Lm x.cJ res->FB vs res true sc [⟨[114,101,116,117,114,110],-1,0,[x],[],[],a⟩] sc
section
variable {vs vs':List aJ} {res:Int} {l:Bool} {sc sc' sc1:List Int} {ss xs ys:List aA}
theorem FB.mono (hv:vs <+: vs') (h:FB vs res l sc ss sc'):FB vs' res l sc ss sc':=by
 have hs:∀ {sc:List Int} v,v ∈ sc->v ∈ sc:=λ_ h=>h
 induction h with
 | nil=>exact .nil
 | let_ h1 h2 h3 h4 _ ih=>exact .let_ (h1.mono hv hs) h2 (kT hv h3) h4 ih
 | var_ h1 h2 h3 h4 _ ih=>exact .var_ (h1.mono hv hs) (kT hv h2) h3 h4 ih
 | arr h1 h2 _ ih=>exact .arr (kT hv h1) h2 ih
 | set h1 h2 h3 h4 _ ih=>exact .set (h1.mono hv hs) (kT hv h2) h3 h4 ih
 | put h1 h2 h3 h4 h5 h6 h7 h8 _ ih=>exact .put h1 (kT hv h2) h3 (h4.mono hv hs) h5 h6 (h7.mono hv hs) h8 ih
 | Jp h1 h2 _ _ _ i1 i2 i3=>exact .Jp (h1.mono hv hs) h2 i1 i2 i3
 | AZ h1 h2 h3 h4 h5 h6 _ _ i1 i2=>exact .AZ (h1.mono hv hs) h2 (h3.mono hv hs) h4 (kT hv h5) h6 i1 i2
 | ret h1 h2=>exact .ret (h1.mono hv hs) h2
theorem FB.app {l0:Bool} (h:FB vs res l0 sc xs sc1) (h0:l0=false) (k:FB vs res l sc1 ys sc'):FB vs res l sc (xs++ys) sc':=by
 induction h with
 | nil=>exact k
 | let_ h1 h2 h3 h4 _ ih=>exact .let_ h1 h2 h3 h4 (ih h0 k)
 | var_ h1 h2 h3 h4 _ ih=>exact .var_ h1 h2 h3 h4 (ih h0 k)
 | arr h1 h2 _ ih=>exact .arr h1 h2 (ih h0 k)
 | set h1 h2 h3 h4 _ ih=>exact .set h1 h2 h3 h4 (ih h0 k)
 | put h1 h2 h3 h4 h5 h6 h7 h8 _ ih=>exact .put h1 h2 h3 h4 h5 h6 h7 h8 (ih h0 k)
 | Jp h1 h2 h3 h4 _ _ _ ih=>exact .Jp h1 h2 h3 h4 (ih h0 k)
 | AZ h1 h2 h3 h4 h5 h6 h7 _ _ ih=>exact .AZ h1 h2 h3 h4 h5 h6 h7 (ih h0 k)
 | ret=>cases h0
theorem FB.sub (h:FB vs res l sc ss sc'):∀v ∈ sc,v ∈ sc':=by
 induction h with
 | nil=>exact λ_ h=>h
 | let_ _ _ _ _ _ ih=>exact λv hv=>ih v (JN _ hv)
 | var_ _ _ _ _ _ ih=>exact λv hv=>ih v (JN _ hv)
 | arr _ _ _ ih=>exact λv hv=>ih v (JN _ hv)
 | set _ _ _ _ _ ih=>exact λv hv=>ih v (JN _ hv)
 | put _ _ _ _ _ _ _ _ _ ih=>exact ih
 | Jp _ _ _ _ _ _ _ ih=>exact ih
 | AZ _ _ _ _ _ _ _ _ _ ih=>exact ih
 | ret=>exact λ_ h=>h
end
structure Cs (vsC vsX:List aJ) (as scC scX:List Int):Prop where
 k:∀v u,aZ vsC v=some u->∃u',aZ vsX (mp as v)=some u'/\u'.bK=u.bK/\(u.bK=4->u'.qZ=u.qZ)
 s:∀v ∈ scC,mp as v ∈ scX
section
variable {vsC vsX vsX':List aJ} {as scC scX scX':List Int}
theorem Cs.mono (h:Cs vsC vsX as scC scX) (hv:vsX <+: vsX') (hs:∀v ∈ scX,v ∈ scX'):Cs vsC vsX' as scC scX':=
 ⟨λv u hu=>by obtain ⟨u',h1,h2⟩:=h.k v u hu;exact ⟨u',kT hv h1,h2⟩,λv hv=>hs _ (h.s v hv)⟩
theorem Cs.snoc (h:Cs vsC vsX as scC scX) (n:Int):Cs vsC vsX as (scC++[n]) (scX++[mp as n]):=
 ⟨h.k,λv hv=>by
  rcases Cu.1 hv with h1 | h1
  ·exact JN _ (h.s v h1)
  ·rw [AV.1 h1];exact NO _ (AV.2 rfl)⟩
theorem Gv {as:List Int} {v:Int} (h:v<0):mp as v=v:=if_pos (.inl h)
theorem iQ (as:List Int) (x:aD):(fx as x).cJ=x.cJ/\(fx as x).dR=x.dR/\(fx as x).N_=x.N_:=by rw [Gz];exact ⟨rfl,rfl,rfl⟩
theorem TX.fx (h:Cs vsC vsX as scC scX) {x:aD} (hx:TX vsC scC x):TX vsX scX (fx as x):=by
 induction hx with
 | num h1 h2=>rw [Gz];simp only [Ls,Gv (show (-1:Int)<0 by decide)];exact .num h1 h2
 | var h1 h2 h3=>
   obtain ⟨u',k1,k2,_⟩:=h.k _ _ h2;rw [Gz];simp only [Ls];rw [←k2];exact .var (h.s _ h1) k1 (by rw [k2];exact h3)
 | index h1 h2 h3 _ h5 h6 ih=>
   obtain ⟨u',k1,k2,k3⟩:=h.k _ _ h2;rw [Gz];simp only [Ls];obtain ⟨p1,p2,p3⟩:=iQ as ‹_›;exact .index (h.s _ h1) k1 (by rw [k2];exact h3) ih (by rw [p1];exact h5) (by rw [p2,p3,k3 h3];exact h6)
 | un h1 _ ih=>
   rw [Gz];simp only [Ls,Gv (show (-1:Int)<0 by decide)];rw [←(iQ as _).1];exact .un h1 ih
 | bin _ _ hb ih1 ih2=>
   rw [Gz];simp only [Ls,Gv (show (-1:Int)<0 by decide)];refine .bin ih1 ih2 ?_;unfold Pq at hb ⊢;rw [(iQ as _).1,(iQ as _).1,(iQ as _).2.1,(iQ as _).2.2];exact hb
 | @sel c x y a _ _ _ h1 h2 ih1 ih2 ih3=>
   rw [Gz];simp only [Ls,Gv (show (-1:Int)<0 by decide)];rw [←(iQ as x).1,←(iQ as y).1];exact .sel ih1 ih2 ih3 (by rw [(iQ as _).1];exact h1) (by rw [(iQ as _).1,(iQ as _).1];exact h2)
 | long _ h1 ih=>
   rw [Gz];simp only [Ls,Gv (show (-1:Int)<0 by decide)];exact .long ih (by rw [(iQ as _).1];exact h1)
 | wide _ _ h1 h2 ih1 ih2=>
   rw [Gz];simp only [Ls,Gv (show (-1:Int)<0 by decide)];exact .wide ih1 ih2 (by rw [(iQ as _).1];exact h1) (by rw [(iQ as _).1];exact h2)
 | half h1 _ h2 ih=>
   rw [Gz];simp only [Ls,Gv (show (-1:Int)<0 by decide)];exact .half h1 ih (by rw [(iQ as _).1];exact h2)
def ND (vsX:List aJ) (res resT:Int) (b:aA):Prop:=
 b.bH=[]/\b.eN=[]/\((b.dR=[114,101,116,117,114,110]/\b.eB=-1/\res=resT) ∨ (b.dR=[115,101,116]/\∃u,aZ vsX b.eB=some u/\u.bK=res) ∨ (b.dR=[118,97,114]/\b.iH=res))
theorem ND.mono {vsX vsX':List aJ} {res resT:Int} {b:aA} (h:ND vsX res resT b) (hv:vsX <+: vsX'):ND vsX' res resT b:=by
 obtain ⟨h1,h2,h3⟩:=h;refine ⟨h1,h2,?_⟩
 rcases h3 with h3 | ⟨h3,u,h4,h5⟩ | h3
 ·exact .inl h3
 ·exact .inr (.inl ⟨h3,u,kT hv h4,h5⟩)
 ·exact .inr (.inr h3)
theorem BE (b:aA) (a:Int):(FX b a).dR=b.dR/\(FX b a).eB=b.eB/\(FX b a).iH=b.iH/\(FX b a).bH=b.bH/\(FX b a).eN=b.eN:=by unfold FX;split <;> exact ⟨rfl,rfl,rfl,rfl,rfl⟩
theorem ND.bat {vsX:List aJ} {res resT:Int} {b:aA} (h:ND vsX res resT b) (a:Int):ND vsX res resT (FX b a):=by
 obtain ⟨b1,b2,b3,b4,b5⟩:=BE b a;unfold ND;rw [b1,b2,b3,b4,b5];exact h
theorem Pm.pre {as:List Int} {gC:Int} {ps vs vs':List aJ} {l:List aD} {i:Nat} {o:List aA} {own:List Int} (h:Pm as gC ps vs l i o own vs'):vs <+: vs':=by
 induction h with
 | nil=>exact Sb _
 | arr _ _ ih=>exact ih
 | val _ _ _ ih=>exact (MH _ _).trans ih
theorem JL.pre {p:aW} {vs vs':List aJ} {l:List aA} {as:List Int} {b:aA} {o:List aA} (h:JL p vs l as b o vs'):vs <+: vs':=by
 induction h with
 | nil=>exact Sb _
 | call _ _ h1 _ _ _ _ ih1 ih2=>exact ((h1.pre.trans (MH _ _)).trans ih1).trans ih2
 | ret _ _ _ _ ih=>exact ih
 | retv _ _ _ _ ih=>exact (MH _ _).trans ih
 | other _ _ _ _ _ i1 i2 i3=>exact (i1.trans i2).trans i3
theorem Pm.ok {resT:Int} {vsC:List aJ} {scC:List Int} {as:List Int} {gC:Int} {ps vs vs':List aJ} {l:List aD} {i:Nat} {o:List aA} {own:List Int} (h:Pm as gC ps vs l i o own vs') (hps:∀u ∈ ps,EP u) (hv:∀u ∈ vsC,EP u) :
  ∀ {scX:List Int},Cs vsC vs as scC scX->(∀(k:Nat) p x,ps[i+k]? = some p->l[k]? = some x->HM vsC scC p x)->i+l.length<=ps.length ->
   ∃scX',FB vs' resT false scX o scX'/\own.length=l.length/\∀(k:Nat) p,k<l.length->ps[i+k]? = some p->∃v u,own[k]? = some v/\v ∈ scX'/\aZ vs' v=some u/\u.bK=p.bK/\(p.bK=4->u.qZ=p.qZ):=by
 induction h with
 | nil=>intro scX _ _ _;exact ⟨scX,.nil,rfl,λk p hk=>absurd hk (Nat.not_lt_zero _)⟩
 | @arr vs y l i o own vs' ht h ih=>
   intro scX hm ha hl;simp only [pX] at hl;obtain ⟨scX',g1,g2,g3⟩:=ih hm (λk p x h1 h2=>ha (k+1) p x (by rw [←h1];congr 1;omega) h2) (by omega);refine ⟨scX',g1,by simp only [pX,g2],λk p hk hp=>?_⟩;cases k with
   | zero=>
     have hta:=ha 0 p y hp rfl;cases hta with
     | @arr v u a k1 k2 k3 k4 k5=>
       obtain ⟨u',m1,m2,m3⟩:=hm.k _ _ k3;exact ⟨_,u',rfl,g1.sub _ (hm.s _ k2),kT h.pre m1,by rw [m2,k4,k1],λ_=>by rw [m3 k4,k5]⟩
     | pub k1 k2 k3=>rw [k3] at ht;exact absurd ht (by decide)
     | val k1 k2 k3 k4=>
       have:=hps p (FK hp)
       rcases k4 with k4 | k4
       ·rw [ht] at k4;exact absurd k4.symm k2
       ·rw [k4.1] at ht;exact absurd ht (by decide)
   | succ k=>
     obtain ⟨v,u,q1,q2⟩:=g3 k p (by simpa using hk) (by rw [←hp];congr 1;omega);exact ⟨v,u,q1,q2⟩
 | @val vs y l i u o own vs' ht hu h ih=>
   intro scX hm ha hl;simp only [pX] at hl
   have hnew:aZ (vs++[u]) (vs.length:Int)=some u:=by
    unfold aZ;rw [if_pos (by omega),Dq,Lx (sZ _)];simp
   have hm':Cs vsC (vs++[u]) as scC (scX++[(vs.length:Int)]):=hm.mono (MH _ _) λv hv=>JN _ hv;obtain ⟨scX',g1,g2,g3⟩:=ih hm' (λk p x h1 h2=>ha (k+1) p x (by rw [←h1];congr 1;omega) h2) (by omega);have hpre:=(MH vs [u]).trans h.pre;have hnew':=kT h.pre hnew;have hta:=ha 0 u y hu rfl;have hsame:∀ {sc:List Int} v,v ∈ sc->v ∈ sc:=λ_ h=>h
   have hpar:∀(k:Nat) p,k<(y::l).length->ps[i+k]? = some p->∃v u',((vs.length:Int)::own)[k]? = some v/\v ∈ scX'/\aZ vs' v=some u'/\u'.bK=p.bK/\(p.bK=4->u'.qZ=p.qZ):=by
    intro k p hk hp;cases k with
    | zero=>
      obtain rfl:u=p:=Option.some.inj (hu.symm.trans hp);exact ⟨_,u,rfl,g1.sub _ (NO _ (AV.2 rfl)),hnew',rfl,λ_=>rfl⟩
    | succ k=>
      obtain ⟨v,u',q1,q2⟩:=g3 k p (by simpa using hk) (by rw [←hp];congr 1;omega);exact ⟨v,u',q1,q2⟩
   cases hta with
   | arr k1 k2 k3 k4 k5=>exact absurd rfl ht
   | pub k1 k2 k3=>
     rw [if_pos k1];exact ⟨scX',.let_ ((TX.fx hm k2).mono hpre hsame) (by rw [(iQ as y).1];exact k3) hnew' k1 g1,by simp only [pX,g2],hpar⟩
   | val k1 k2 k3 k4=>
     rw [if_neg k1];have:=hps u (FK hu);exact ⟨scX',.var_ ((TX.fx hm k3).mono hpre hsame) hnew' (by have t1:=this.1;have t2:=this.2.1;omega) (by rw [(iQ as y).1];exact k4) g1,by simp only [pX,g2],hpar⟩
end
section
variable {c:aE} {rk:Int->Nat} {resT:Int}
theorem JL.nil_inv {p:aW} {vs v:List aJ} {as:List Int} {b:aA} {o:List aA} (h:JL p vs [] as b o v):o=[]/\v=vs:=by cases h;exact ⟨rfl,rfl⟩
def FtyR (c:aE) (resT:Int) (vs:List aJ) (l:List aA) (as:List Int) (b:aA) (out:List aA) (vs':List aJ):Prop:=
 ∀ {j:Nat} {vsC:List aJ} {res:Int} {lf:Bool} {n:Nat} {sc:List Int} {n':Nat} {sc' scX:List Int},TB (EZ c j) vsC res lf n sc l n' sc'->(∀u ∈ vsC,EP u)->(res=0 ∨ res=2 ∨ res=3)->Cs vsC vs as sc scX->ND vs res resT b ->
  ∃scX',FB vs' resT (lf && decide (b.dR=[114,101,116,117,114,110])) scX out scX'/\(∀v ∈ sc',mp as v ∈ scX')/\((∃s,l.getLast? = some s/\Iv s)->b.dR=[115,101,116]->b.eB ∈ scX')
theorem own_map {fv v1:List aJ} {own:List Int} {pn:Nat} {scX1:List Int} (hpn:pn<=fv.length) (hol:own.length=pn) (ho:∀(k:Nat) p,k<pn->fv[0+k]? = some p->∃v u,own[k]? = some v/\v ∈ scX1/\aZ v1 v=some u/\u.bK=p.bK/\(p.bK=4->u.qZ=p.qZ)) :
  Cs fv (v1++fv.drop pn) (own++DW v1.length (fv.drop pn).length) (rB pn) scX1:=by
 have hlen:(own++DW v1.length (fv.drop pn).length).length=fv.length:=by
  rw [mX,hol];simp [DW];omega
 have hmp:∀i:Nat,i<fv.length->mp (own++DW v1.length (fv.drop pn).length) (i:Int)=((own++DW v1.length (fv.drop pn).length)[i]?).getD (i:Int):=by
  intro i hi;unfold mp;rw [if_neg (by rw [hlen];omega),Dq]
 refine ⟨λv u hu=>?_,λv hv=>?_⟩
 ·obtain ⟨i,rfl⟩:∃i:Nat,v=(i:Int):=by
   unfold aZ at hu
   split at hu
   ·exact ⟨v.toNat,by omega⟩
   ·exact nomatch hu
  have hu':=Al hu;obtain ⟨hil,_⟩:=vJ.1 hu';rw [hmp i hil]
  by_cases hip:i<pn
  ·obtain ⟨v,u',q1,q2,q3,q4,q5⟩:=ho i u hip (by rw [Lo];exact hu');rw [MI (by omega),q1];exact ⟨u',kT (MH _ _) q3,q4,q5⟩
  ·have hn:(DW v1.length (fv.drop pn).length)[i - own.length]? = some ((v1.length+(i - pn):Nat):Int):=by
    unfold DW;rw [HS,xef (by rw [Pw];omega),hol];rfl
   rw [Lx (by omega),hn];refine ⟨u,wE ?_,rfl,λ_=>rfl⟩;rw [Lx (by omega),xdi];rw [←hu']
   congr 1
   omega
 ·unfold rB at hv;obtain ⟨i,hi,rfl⟩:=LW.1 hv;have hi:=TS.1 hi;obtain ⟨v,u',q1,q2,_⟩:=ho i fv[i] hi (by rw [Lo];exact wB (by omega));show mp _ (i:Int) ∈ _;rw [hmp i (by omega),MI (by omega),q1];exact q2
theorem Ns (hp:PO c rk) {j:Nat} {vsC vs v1 v2:List aJ} {sc scX:List Int} {as own:List Int} {fi r:Int} {ps:List aJ} {xs:List aD} {a:Int} {f:aQ} {o1 o2:List aA} {b':aA}
  (hsg:EZ c j fi r ps) (hta:Bi vsC sc ps xs) (hvC:∀u ∈ vsC,EP u) (hf:aZ c.p_.aV fi=some f) (hA:Pm as a f.aR vs xs 0 o1 own v1) (hB:JL c.p_ (v1++f.aR.drop f.aT.toNat) f.bH (own++DW v1.length (f.aR.drop f.aT.toNat).length) b' o2 v2)
  (ih:FtyR c resT (v1++f.aR.drop f.aT.toNat) f.bH (own++DW v1.length (f.aR.drop f.aT.toNat).length) b' o2 v2) (hm:Cs vsC vs as sc scX) (Gc:ND (v1++f.aR.drop f.aT.toNat) r resT b') :
  ∃scX',FB v2 resT (decide (b'.dR=[114,101,116,117,114,110])) scX (o1++o2) scX'/\(∀v ∈ scX,v ∈ scX')/\(r ≠ 0->b'.dR=[115,101,116]->b'.eB ∈ scX'):=by
 obtain ⟨_,f',hf',hr,hps⟩:=hsg;obtain rfl:f=f':=Option.some.inj (hf.symm.trans hf');subst hr hps
 obtain ⟨fn,rfl⟩:∃k:Nat,fi=(k:Int):=by
  unfold aZ at hf
  split at hf
  ·exact ⟨fi.toNat,by omega⟩
  ·exact nomatch hf
 have hfg:=Al hf;have hfm:=FK hfg;have tf:=hp.tf fn f hfg;obtain ⟨vl1,vl2,vl3⟩:=hp.co.vl f hfm;obtain ⟨ki1,ki2⟩:=hp.co.ki f hfm;obtain ⟨sc'',htb⟩:=tf.body;have hpl:(f.aR.take f.aT.toNat).length=f.aT.toNat:=by rw [JQ];omega
 have hxl:xs.length=f.aT.toNat:=hta.1.trans hpl
 obtain ⟨scX1,g1,g2,g3⟩:=hA.ok (resT:=resT) (λu hu=>ki1 u hu) hvC hm (λk p x h1 h2=>by
  have hk:k<xs.length:=(vJ.1 h2).1;refine hta.2 k p x ?_ h2;rw [xdj,if_pos (by omega)];rw [←h1];congr 1;omega) (by omega)
 have hmap:=own_map (fv:=f.aR) (v1:=v1) (own:=own) (pn:=f.aT.toNat) (scX1:=scX1) (by omega) (by omega) (λk p hk hpk=>g3 k p (by omega) hpk);obtain ⟨scX2,k1,k2,k3⟩:=ih (j:=fn) htb ki1 ki2 hmap Gc;refine ⟨scX2,?_,λv hv=>k1.sub _ (g1.sub _ hv),λhr0 hop=>k3 (tf.ret hr0) hop⟩;rw [Bool.true_and] at k1;exact (g1.mono ((MH _ _).trans hB.pre)).app rfl k1
end
section
variable {c:aE} {rk:Int->Nat} {resT:Int}
theorem vE {s t:aA} {l:List aA} (h:(s::l).getLast? = some t) (hs:¬ Iv s) (ht:Iv t):∃u,l.getLast? = some u/\Iv u:=by
 cases l with
 | nil=>rw [List.getLast?_singleton] at h;rw [Option.some.inj h] at hs;exact absurd ht hs
 | cons x l=>rw [List.getLast?_cons_cons] at h;exact ⟨t,h,ht⟩
theorem fty (hp:PO c rk) {vs vs':List aJ} {l:List aA} {as:List Int} {b:aA} {out:List aA} (h:JL c.p_ vs l as b out vs'):FtyR c resT vs l as b out vs':=by
 generalize hcp:c.p_=p at h
 induction h with
 | nil=>
   intro j vsC res lf n sc n' sc' scX htb hv hr hm hb;cases htb;exact ⟨scX,.nil,hm.s,λ⟨s,hs,_⟩=>nomatch hs⟩
 | @call vs s l as b f o1 own v1 o2 v2 o3 v3 ho hf hA hp0 hp1 hB hrest ihB ihR=>
   subst hcp;intro j vsC res lf n sc n' sc' scX htb hv hr hm hb;have hb1:=hb.mono (hA.pre.trans (MH _ (f.aR.drop f.aT.toNat)));have hpre:=(hA.pre.trans (MH _ (f.aR.drop f.aT.toNat))).trans hB.pre
   -- a call whose answer goes to a variable
   have toVar:∀ {m:Int} {r:Int} {ps:List aJ} {u:aJ} {n1:Nat} {sc1:List Int},s.eB=m->m ≠ -1->m ≠ -2->EZ c j s.iH r ps->Bi vsC sc ps s.aL->r ≠ 0->aZ vsC m=some u->u.bK=r->¬ Iv s->TB (EZ c j) vsC res lf n1 sc1 l n' sc'->(∀scX2:List Int,(∀v ∈ scX,v ∈ scX2)->mp as m ∈ scX2->∀v ∈ sc1,mp as v ∈ scX2) ->
     ∃scX',FB v3 resT (lf && decide (b.dR=[114,101,116,117,114,110])) scX ((o1++o2)++o3) scX'/\(∀v ∈ sc',mp as v ∈ scX')/\((∃t,(s::l).getLast? = some t/\Iv t)->b.dR=[115,101,116]->b.eB ∈ scX'):=by
    intro m r ps u n1 sc1 e1 e2 e3 hsg hta hr0 hu hk hns htl hsc;obtain ⟨u',w1,w2,w3⟩:=hm.k _ _ hu
    have htk:PA f s as b=⟨[115,101,116],mp as m,0,[],[],[],s.fM⟩:=by
     unfold PA;rw [if_neg (by rw [e1];exact e3),if_neg (by rw [e1];exact e2),e1]
    obtain ⟨scX2,g1,g2,g3⟩:=Ns (resT:=resT) hp hsg hta hv hf hA hB ihB hm (by
     rw [htk];exact ⟨rfl,rfl,.inr (.inl ⟨rfl,u',kT (hA.pre.trans (MH _ _)) w1,by rw [w2,hk]⟩)⟩)
    have hin:=g3 hr0 (by rw [htk]);rw [htk] at g1 hin;have hm2:Cs vsC v2 as sc1 scX2:=⟨(hm.mono hpre g2).k,hsc scX2 g2 hin⟩;obtain ⟨scX3,q1,q2,q3⟩:=ihR htl hv hr hm2 (hb1.mono hB.pre);refine ⟨scX3,(g1.mono hrest.pre).app (Sc (show ¬ ([115,101,116]:bW)=[114,101,116,117,114,110] by decide)) q1,q2,λ⟨t,ht1,ht2⟩ hop=>q3 (vE ht1 hns ht2) hop⟩
   have tk1:s.eB=-1->PA f s as b=⟨[118,97,114],-1,f.bN,[],[],[],s.fM⟩:=λh=>by unfold PA;rw [if_neg (by rw [h];decide),if_pos h]
   have tk2:s.eB=-2->PA f s as b=FX b s.fM:=λh=>by unfold PA;rw [if_pos h];rfl
   have e2:∀ {v:Int},0<=v->v ≠ -1/\v ≠ -2:=λh=>⟨by omega,by omega⟩;cases htb with
   | let_=>exact absurd (show ([108,101,116]:bW)=[99,97,108,108] from ho) (by decide)
   | var_=>exact absurd (show ([118,97,114]:bW)=[99,97,108,108] from ho) (by decide)
   | arr=>exact absurd (show ([97,114,114]:bW)=[99,97,108,108] from ho) (by decide)
   | set=>exact absurd (show ([115,101,116]:bW)=[99,97,108,108] from ho) (by decide)
   | put=>exact absurd (show ([112,117,116]:bW)=[99,97,108,108] from ho) (by decide)
   | Jp=>exact absurd (show ([105,102]:bW)=[99,97,108,108] from ho) (by decide)
   | AZ=>exact absurd (show ([102,111,114]:bW)=[99,97,108,108] from ho) (by decide)
   | ret=>exact absurd (show ([114,101,116,117,114,110]:bW)=[99,97,108,108] from ho) (by decide)
   | callv k1 k2 k3 k4 k5 k6=>
     exact toVar rfl (e2 (Int.natCast_nonneg n)).1 (e2 (Int.natCast_nonneg n)).2 k1 k2 k3 (wE k4) k5 (λh=>by rcases h with h | h;exact absurd (show ([99,97,108,108]:bW)=[114,101,116,117,114,110] from h) (by decide);have:=h.2;simp only at this;omega) k6 (λscX2 h1 h2 v hv=>by
      rcases Cu.1 hv with h3 | h3
      ·exact h1 _ (hm.s v h3)
      ·rw [AV.1 h3];exact h2)
   | calls k1 k2 k3 k4 k5 k6 k7=>
     have hv0:∀ {v:Int} {u:aJ},aZ vsC v=some u->0<=v:=by
      intro v u h;unfold aZ at h
      split at h
      ·assumption
      ·exact nomatch h
     have h0:=hv0 k2;exact toVar rfl (e2 h0).1 (e2 h0).2 k4 k5 (by rcases k3 with k3 | k3 <;> omega) k2 k6.symm (λh=>by rcases h with h | h;exact absurd (show ([99,97,108,108]:bW)=[114,101,116,117,114,110] from h) (by decide);have:=h.2;simp only at this;omega) k7 (λscX2 h1 h2 v hv=>h1 _ (hm.s v hv))
   | do_ k1 k2 k3=>
     have k1':=k1;obtain ⟨_,f',hf',hr',_⟩:=k1';obtain rfl:f=f':=Option.some.inj (hf.symm.trans hf')
     obtain ⟨scX2,g1,g2,g3⟩:=Ns (resT:=resT) hp k1 k2 hv hf hA hB ihB hm (by
      rw [tk1 rfl];exact ⟨rfl,rfl,.inr (.inr ⟨rfl,hr'.symm⟩)⟩)
     rw [tk1 rfl] at g1;have hm2:Cs vsC v2 as sc scX2:=hm.mono hpre g2;obtain ⟨scX3,q1,q2,q3⟩:=ihR k3 hv hr hm2 (hb1.mono hB.pre);refine ⟨scX3,(g1.mono hrest.pre).app (Sc (show ¬ ([118,97,114]:bW)=[114,101,116,117,114,110] by decide)) q1,q2,λ⟨t,ht1,ht2⟩ hop=>q3 (vE ht1 (λh=>by rcases h with h | h;exact absurd (show ([99,97,108,108]:bW)=[114,101,116,117,114,110] from h) (by decide);exact absurd (show (-1:Int)=-2 from h.2) (by decide)) ht2) hop⟩
   | retc k1 k2 k3=>
     obtain ⟨rfl,rfl⟩:=hrest.nil_inv;obtain ⟨scX2,g1,g2,g3⟩:=Ns (resT:=resT) hp k1 k3 hv hf hA hB ihB hm (by rw [tk2 rfl];exact hb1.bat _);rw [tk2 rfl] at g1 g3;rw [(BE b _).1] at g1 g3;rw [(BE b _).2.1] at g3;rw [Ga];exact ⟨scX2,by rw [Bool.true_and];exact g1,λv hv=>g2 _ (hm.s v hv),λ_ hop=>g3 k2 hop⟩
 | @ret vs s l as b y r o v ho hl hnv hrest ihR=>
   intro j vsC res lf n sc n' sc' scX htb hv hr hm hb;cases htb with
   | let_=>exact absurd (show ([108,101,116]:bW)=[114,101,116,117,114,110] from ho) (by decide)
   | var_=>exact absurd (show ([118,97,114]:bW)=[114,101,116,117,114,110] from ho) (by decide)
   | arr=>exact absurd (show ([97,114,114]:bW)=[114,101,116,117,114,110] from ho) (by decide)
   | set=>exact absurd (show ([115,101,116]:bW)=[114,101,116,117,114,110] from ho) (by decide)
   | put=>exact absurd (show ([112,117,116]:bW)=[114,101,116,117,114,110] from ho) (by decide)
   | Jp=>exact absurd (show ([105,102]:bW)=[114,101,116,117,114,110] from ho) (by decide)
   | AZ=>exact absurd (show ([102,111,114]:bW)=[114,101,116,117,114,110] from ho) (by decide)
   | callv=>exact absurd (show ([99,97,108,108]:bW)=[114,101,116,117,114,110] from ho) (by decide)
   | calls=>exact absurd (show ([99,97,108,108]:bW)=[114,101,116,117,114,110] from ho) (by decide)
   | do_=>exact absurd (show ([99,97,108,108]:bW)=[114,101,116,117,114,110] from ho) (by decide)
   | retc=>exact absurd (show ([99,97,108,108]:bW)=[114,101,116,117,114,110] from ho) (by decide)
   | ret k1 k2 k3=>
     obtain ⟨rfl,rfl⟩:=hrest.nil_inv;have hy:=(List.cons.inj hl).1;rw [hy] at k1 k3;obtain ⟨c1,c2,c3⟩:=hb
     have GW:∀a,({ FX b a with iH:=0,aL:=[fx as y] }:aA)=⟨b.dR,b.eB,0,[fx as y],[],[],(FX b a).fM⟩:=by
      intro a;obtain ⟨b1,b2,b3,b4,b5⟩:=BE b a;show (⟨(FX b a).dR,(FX b a).eB,0,[fx as y],(FX b a).bH,(FX b a).eN,(FX b a).fM⟩:aA)=_;rw [b1,b2,b4,b5,c1,c2]
     rw [Ga,GW]
     rcases c3 with ⟨d1,d2,d3⟩ | ⟨d1,u,d2,d3⟩ | ⟨d1,_⟩
     ·rw [d1,d2];exact ⟨scX,.ret (TX.fx hm k1) (by rw [(iQ as y).1,←d3];exact k3),hm.s,λ_ h=>absurd h (by decide)⟩
     ·rw [d1];exact ⟨scX++[b.eB],.set (TX.fx hm k1) d2 (by omega) (by rw [(iQ as y).1,d3];exact k3) .nil,λv hv=>JN _ (hm.s v hv),λ_ _=>NO _ (AV.2 rfl)⟩
     ·exact absurd d1 hnv
 | @retv vs s l as b y r o v ho hl hv0 hrest ihR=>
   intro j vsC res lf n sc n' sc' scX htb hv hr hm hb;cases htb with
   | let_=>exact absurd (show ([108,101,116]:bW)=[114,101,116,117,114,110] from ho) (by decide)
   | var_=>exact absurd (show ([118,97,114]:bW)=[114,101,116,117,114,110] from ho) (by decide)
   | arr=>exact absurd (show ([97,114,114]:bW)=[114,101,116,117,114,110] from ho) (by decide)
   | set=>exact absurd (show ([115,101,116]:bW)=[114,101,116,117,114,110] from ho) (by decide)
   | put=>exact absurd (show ([112,117,116]:bW)=[114,101,116,117,114,110] from ho) (by decide)
   | Jp=>exact absurd (show ([105,102]:bW)=[114,101,116,117,114,110] from ho) (by decide)
   | AZ=>exact absurd (show ([102,111,114]:bW)=[114,101,116,117,114,110] from ho) (by decide)
   | callv=>exact absurd (show ([99,97,108,108]:bW)=[114,101,116,117,114,110] from ho) (by decide)
   | calls=>exact absurd (show ([99,97,108,108]:bW)=[114,101,116,117,114,110] from ho) (by decide)
   | do_=>exact absurd (show ([99,97,108,108]:bW)=[114,101,116,117,114,110] from ho) (by decide)
   | retc=>exact absurd (show ([99,97,108,108]:bW)=[114,101,116,117,114,110] from ho) (by decide)
   | ret k1 k2 k3=>
     obtain ⟨rfl,rfl⟩:=hrest.nil_inv;have hy:=(List.cons.inj hl).1;rw [hy] at k1 k3;obtain ⟨c1,c2,c3⟩:=hb
     have GW:∀a,({ FX b a with eB:=(vs.length:Int),iH:=0,aL:=[fx as y] }:aA)=⟨b.dR,(vs.length:Int),0,[fx as y],[],[],(FX b a).fM⟩:=by
      intro a;obtain ⟨b1,b2,b3,b4,b5⟩:=BE b a;show (⟨(FX b a).dR,(vs.length:Int),0,[fx as y],(FX b a).bH,(FX b a).eN,(FX b a).fM⟩:aA)=_;rw [b1,b4,b5,c1,c2]
     have hnew:aZ (vs++[⟨[],b.iH,0⟩]) (vs.length:Int)=some (⟨[],b.iH,0⟩:aJ):=by
      unfold aZ;rw [if_pos (by omega),Dq,Lx (sZ _)];simp
     rw [Ga,GW,hv0]
     rcases c3 with ⟨d1,_⟩ | ⟨d1,_⟩ | ⟨_,d2⟩
     ·rw [hv0] at d1;exact absurd d1 (by decide)
     ·rw [hv0] at d1;exact absurd d1 (by decide)
     ·exact ⟨scX++[(vs.length:Int)],.var_ ((TX.fx hm k1).mono (MH _ _) (λ_ h=>h)) hnew (by simp only;omega) (by rw [(iQ as y).1];simp only [d2];exact k3) .nil,λv hv=>JN _ (hm.s v hv),λ_ h=>absurd h (by decide)⟩
 | @other vs s l as b o1 v1 o2 v2 o3 v3 h1 h2 hb1 hb2 hrest i1 i2 ihR=>
   intro j vsC res lf n sc n' sc' scX htb hv hr hm hb;have hsm:∀ {sc:List Int} v,v ∈ sc->v ∈ sc:=λ_ h=>h;have hns:¬ Iv s:=λh=>by rcases h with h | h;exact h2 h;exact h1 h.1
   cases htb with
   | callv=>exact absurd rfl h1
   | calls=>exact absurd rfl h1
   | do_=>exact absurd rfl h1
   | retc=>exact absurd rfl h1
   | ret=>exact absurd rfl h2
   | let_ k1 k2 k3 k4 k5=>
     obtain ⟨rfl,rfl⟩:=hb1.nil_inv;obtain ⟨rfl,rfl⟩:=hb2.nil_inv;obtain ⟨u',w1,w2,w3⟩:=hm.k _ _ (wE k3);obtain ⟨scX3,q1,q2,q3⟩:=ihR k5 hv hr (hm.snoc _) hb;exact ⟨scX3,.let_ ((TX.fx hm k1).mono hrest.pre hsm) (by rw [(iQ as _).1];exact k2) (kT hrest.pre w1) (by rw [w2];exact k4) q1,q2,λ⟨t,ht1,ht2⟩ hop=>q3 (vE ht1 hns ht2) hop⟩
   | var_ k1 k3 k4 k5=>
     obtain ⟨rfl,rfl⟩:=hb1.nil_inv;obtain ⟨rfl,rfl⟩:=hb2.nil_inv;obtain ⟨u',w1,w2,w3⟩:=hm.k _ _ (wE k3);obtain ⟨scX3,q1,q2,q3⟩:=ihR k5 hv hr (hm.snoc _) hb;have hrg:=k1.range hv;have hk:u'.bK=Hz _:=w2.trans k4;exact ⟨scX3,.var_ ((TX.fx hm k1).mono hrest.pre hsm) (kT hrest.pre w1) (by rw [hk];unfold Hz;split <;> omega) (by rw [(iQ as _).1,hk];unfold Lm Hz;split <;> omega) q1,q2,λ⟨t,ht1,ht2⟩ hop=>q3 (vE ht1 hns ht2) hop⟩
   | arr k3 k4 k5=>
     obtain ⟨rfl,rfl⟩:=hb1.nil_inv;obtain ⟨rfl,rfl⟩:=hb2.nil_inv;obtain ⟨u',w1,w2,w3⟩:=hm.k _ _ (wE k3);obtain ⟨scX3,q1,q2,q3⟩:=ihR k5 hv hr (hm.snoc _) hb;exact ⟨scX3,.arr (kT hrest.pre w1) (by rw [w2];exact k4) q1,q2,λ⟨t,ht1,ht2⟩ hop=>q3 (vE ht1 hns ht2) hop⟩
   | set k1 k2 k3 k4 k5 k6=>
     obtain ⟨rfl,rfl⟩:=hb1.nil_inv;obtain ⟨rfl,rfl⟩:=hb2.nil_inv;obtain ⟨u',w1,w2,w3⟩:=hm.k _ _ k2;obtain ⟨scX3,q1,q2,q3⟩:=ihR k6 hv hr (hm.mono (Sb _) λv hv=>JN _ hv) hb;exact ⟨scX3,.set ((TX.fx hm k4).mono hrest.pre hsm) (kT hrest.pre w1) (by rw [w2];exact k3) (by rw [(iQ as _).1,w2];exact k5) q1,q2,λ⟨t,ht1,ht2⟩ hop=>q3 (vE ht1 hns ht2) hop⟩
   | put k1 k2 k3 k4 k5 k6 k7 k8 k9=>
     obtain ⟨rfl,rfl⟩:=hb1.nil_inv;obtain ⟨rfl,rfl⟩:=hb2.nil_inv;obtain ⟨u',w1,w2,w3⟩:=hm.k _ _ k2;obtain ⟨scX3,q1,q2,q3⟩:=ihR k9 hv hr hm hb;exact ⟨scX3,.put (hm.s _ k1) (kT hrest.pre w1) (by rw [w2];exact k3) ((TX.fx hm k4).mono hrest.pre hsm) (by rw [(iQ as _).1];exact k5) (by rw [(iQ as _).2.1,(iQ as _).2.2,w3 k3];exact k6) ((TX.fx hm k7).mono hrest.pre hsm) (by rw [(iQ as _).1];exact k8) q1,q2,λ⟨t,ht1,ht2⟩ hop=>q3 (vE ht1 hns ht2) hop⟩
   | Jp k1 k2 k3 k4 k5=>
     obtain ⟨sa,p1,p2,p3⟩:=i1 k3 hv hr hm hb;obtain ⟨sb,r1,r2,r3⟩:=i2 k4 hv hr (hm.mono hb1.pre hsm) (hb.mono hb1.pre);obtain ⟨scX3,q1,q2,q3⟩:=ihR k5 hv hr (hm.mono (hb1.pre.trans hb2.pre) hsm) (hb.mono (hb1.pre.trans hb2.pre));rw [Bool.false_and] at p1 r1;have hpre:=(hb1.pre.trans hb2.pre).trans hrest.pre;refine ⟨scX3,?_,q2,λ⟨t,ht1,ht2⟩ hop=>q3 (vE ht1 hns ht2) hop⟩;simp only [Ls,Gv (show (-1:Int)<0 by decide)];exact .Jp ((TX.fx hm k1).mono hpre hsm) (by rw [(iQ as _).1];exact k2) (p1.mono (hb2.pre.trans hrest.pre)) (r1.mono hrest.pre) q1
   | AZ k1 k2 k3 k4 k5 k6 k7 k8=>
     obtain ⟨rfl,rfl⟩:=hb2.nil_inv;obtain ⟨u',w1,w2,w3⟩:=hm.k _ _ (wE k5);obtain ⟨sa,p1,p2,p3⟩:=i1 k7 hv hr (hm.snoc _) hb;obtain ⟨scX3,q1,q2,q3⟩:=ihR k8 hv hr (hm.mono hb1.pre hsm) (hb.mono hb1.pre);rw [Bool.false_and] at p1;have hpre:=hb1.pre.trans hrest.pre;exact ⟨scX3,.AZ ((TX.fx hm k1).mono hpre hsm) (by rw [(iQ as _).1];exact k2) ((TX.fx hm k3).mono hpre hsm) (by rw [(iQ as _).1];exact k4) (kT hpre w1) (by rw [w2];exact k6) (p1.mono hrest.pre) q1,q2,λ⟨t,ht1,ht2⟩ hop=>q3 (vE ht1 hns ht2) hop⟩
theorem Qn (v:Int):mp [] v=v:=by
 unfold mp;rw [if_pos (by simp;omega)]
theorem RY (hp:PO c rk) {n:Nat} {i:Int} {r:aQ × Int} (h:vF n c.p_ i=some r) (he:r.2=0) :
  ∃(k:Nat) (fn:aQ),i=(k:Int)/\c.p_.aV[k]? = some fn/\r.1={ fn with aR:=r.1.aR,bH:=r.1.bH }/\fn.aR <+: r.1.aR ∧
   JL c.p_ fn.aR fn.bH [] ⟨[114,101,116,117,114,110],-1,0,[],[],[],-1⟩ r.1.bH r.1.aR/\∃sc',FB r.1.aR fn.bN true (rB fn.aT.toNat) r.1.bH sc':=by
 unfold vF at h;obtain ⟨y,hy,h⟩:=aF h;cases y with
 | true=>
   rw [if_pos rfl] at h;rw [←aU h] at he;exact absurd he (by decide)
 | false=>
   rw [if_neg (by decide)] at h;obtain ⟨fn,hfn,h⟩:=aF h;obtain ⟨_,h⟩:=bY h;obtain ⟨z,hz,h⟩:=aF h
   obtain ⟨k,hk⟩:∃k:Nat,i=(k:Int):=by
    unfold aZ at hfn
    split at hfn
    ·exact ⟨i.toNat,by omega⟩
    ·exact nomatch hfn
   rw [hk] at hfn;have hfg:=Al hfn
   by_cases hze:z.2.e_=0
   ·rw [if_neg (by simp [hze])] at h;obtain rfl:=aU h;have hB:∀f ∈ c.p_.aV,uN f.bH<=1000000000/\f.aR.length<=1000000000:=λf hf=>⟨by have:=hp.sz f hf;omega,by have:=(hp.co.vl f hf).1;omega⟩;have hfm:=FK hfg;obtain ⟨g1,g2⟩:=(flB_all hB n).1 ⟨c.p_,fn,0,0⟩ fn.bH [] _ z.1 z.2 rfl (hB fn hfm).1 hz hze;have tf:=hp.tf k fn hfg;obtain ⟨sc',htb⟩:=tf.body;obtain ⟨ki1,ki2⟩:=hp.co.ki fn hfm;have hmap:Cs fn.aR fn.aR [] (rB fn.aT.toNat) (rB fn.aT.toNat):=⟨λv u hu=>⟨u,by rw [Qn];exact hu,rfl,λ_=>rfl⟩,λv hv=>by rw [Qn];exact hv⟩;obtain ⟨scX,k1,_,_⟩:=fty (resT:=fn.bN) hp g1 htb ki1 ki2 hmap ⟨rfl,rfl,.inl ⟨rfl,rfl,rfl⟩⟩;have hvs:z.2.f_={ fn with aR:=z.2.f_.aR }:=g2.f;refine ⟨k,fn,hk,hfg,?_,g1.pre,g1,scX,k1⟩;show ({ z.2.f_ with bH:=z.1 }:aQ)=_;rw [hvs]
   ·rw [if_pos (by simpa using hze)] at h;rw [←aU h] at he;exact absurd he hze
end
