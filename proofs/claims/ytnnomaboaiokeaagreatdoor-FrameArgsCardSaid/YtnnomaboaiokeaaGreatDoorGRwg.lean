import Derived.Test.YtnnomaboaiokeaaGreatDoorGTyp
namespace Go.Proofs.YtnnomaboaiokeaaGreatDoor.Abs
open Go.RowKit
set_option linter.all false
inductive MY:aF->Prop
 | mk {x}:x.iD.length<=16->(∀y ∈ x.aP,MY y)->MY x
inductive StB:aC->Prop
 | mk {s}:(∀x ∈ s.aP,MY x)->(∀t ∈ s.bY,StB t)->(∀t ∈ s.gT,StB t)->StB s
theorem MY.nil {o:cJ} {t k v a:Int} (h:o.length<=16):MY ⟨o,t,k,v,[],a⟩:=.mk h λy hy=>nomatch hy
theorem Ip {α:Type} {P:α->Prop} {x:α} (h:P x):∀y ∈ [x],P y:=λy hy=>by obtain rfl:=Ax.1 hy;exact h
theorem Vo {α:Type} {P:α->Prop} {x y:α} (h:P x) (k:P y):∀z ∈ [x,y],P z:=λz hz=>by
 rcases AH.1 hz with rfl | hz
 ·exact h
 ·exact Ip k z hz
theorem all3 {α:Type} {P:α->Prop} {x y z:α} (h:P x) (k:P y) (l:P z):∀u ∈ [x,y,z],P u:=λu hu=>by
 rcases AH.1 hu with rfl | hu
 ·exact h
 ·exact Vo k l u hu
theorem Oy.len {o:cJ} {x y:aF} {t:Int} (h:Oy o x y t):o.length<=16:=by
 rcases h with ⟨h,_⟩ | ⟨h,_⟩ | ⟨h,_⟩ | ⟨h,_⟩ | ⟨h,_⟩
 ·rcases h with rfl | rfl <;> decide
 ·rcases h with rfl | rfl | rfl <;> decide
 ·subst h;decide
 ·rcases h with rfl | rfl <;> decide
 ·rcases h with rfl | rfl | rfl | rfl | rfl <;> decide
section
variable {vs:List aL} {sc:List Int}
theorem TX.opB {x:aF} (h:TX vs sc x):MY x:=by
 induction h with
 | num=>exact .nil (by decide)
 | var _ _ _=>exact .nil (by decide)
 | index _ _ _ _ _ _ ih=>exact .mk (by simp only;decide) (Ip ih)
 | un h _ ih=>exact .mk (by simp only;rcases h with rfl | rfl <;> decide) (Ip ih)
 | bin _ _ h ih1 ih2=>exact .mk h.len (Vo ih1 ih2)
 | sel _ _ _ _ _ ih1 ih2 ih3=>exact .mk (by simp only;decide) (all3 ih1 ih2 ih3)
 | long _ _ ih=>exact .mk (by simp only;decide) (Ip ih)
 | wide _ _ _ _ ih1 ih2=>exact .mk (by simp only;decide) (Vo ih1 ih2)
 | half h _ _ ih=>exact .mk (by simp only;rcases h with rfl | rfl <;> decide) (Ip ih)
theorem GS.opB {p:aL} {x:aF} (h:GS vs sc p x):MY x:=by
 cases h with
 | arr _ _ _ _ _=>exact .nil (by decide)
 | pub _ h _=>exact h.opB
 | val _ _ h _=>exact h.opB
theorem CE.each {ps:List aL} {l:List aF} (h:CE vs sc ps l) {x:aF} (hx:x ∈ l):∃p ∈ ps,GS vs sc p x:=by
 obtain ⟨i,hi⟩:=List.getElem?_of_mem hx;have hlt:=(vQ.1 hi).1;exact ⟨ps[i]'(by rw [←h.1];exact hlt),Nb _,h.2 i _ x (uX _) hi⟩
variable {sg:Sl} {res:Int} {l:Bool} {n n':Nat} {sc':List Int} {ss:List aC}
theorem yB {α:Type} {P:α->Prop} {x:α} {l:List α} (h:P x) (k:∀y ∈ l,P y):∀y ∈ x::l,P y:=λy hy=>by
 rcases AH.1 hy with rfl | hy
 ·exact h
 ·exact k y hy
theorem xU {α:Type} {P:α->Prop}:∀y ∈ ([]:List α),P y:=λy hy=>nomatch hy
end
theorem LW {v:Int} {as:List Int}:bK (xW v as) λr=>as=[]->r=v:=by
 unfold xW;refine bK.bind (P:=λy=>y=true ∨ y=false/\0<=v/\v<as.length) ?_ λy hy=>?_
 ·refine bK.iteb (λ_=>.some (.inl rfl)) λh=>.some ?_;have h:=OB h
  by_cases h2:(as.length:Int)<=v
  ·exact .inl (zU h2)
  ·exact .inr ⟨xek h2,by omega,by omega⟩
 ·refine bK.iteb (λ_=>.some λ_=>rfl) λh=>?_
  rcases hy with e | ⟨_,h0,h1⟩
  ·rw [e] at h;cases h
  ·exact (bK.idx h0 h1 (Q:=λ_=>True) λ_ _=>trivial).bind λx _=>.some λe=>by rw [e] at h1;simp at h1;omega
structure XR (as:List Int) (x y:aF):Prop where
 sz:xz y=xz x
 op:MY x->MY y
 id:as=[]->y=x
structure XLR (as:List Int) (l r:List aF):Prop where
 len:r.length=l.length
 sz:qX r=qX l
 op:(∀x ∈ l,MY x)->∀y ∈ r,MY y
 id:as=[]->r=l
theorem XLR.nil {as:List Int}:XLR as [] []:=⟨rfl,rfl,λh=>h,λ_=>rfl⟩
theorem XLR.cons {as:List Int} {x y:aF} {l r:List aF} (h:XR as x y) (k:XLR as l r):XLR as (x::l) (y::r):=
 ⟨by rw [dY,dY,k.len],by rw [qX,qX,h.sz,k.sz],λho=>yB (h.op (ho x xem)) (k.op λz hz=>ho z (MR _ hz)),λe=>by rw [h.id e,k.id e]⟩
theorem RK {f:aF->List Int->Option aF} {l:List aF} {as:List Int} (hf:∀x ∈ l,bK (f x as) (XR as x)) (hl:l.length<=100000000) :
  ∀(k v:Nat) (acc:List aF),l.length<v+k->v<=l.length->acc.length=v->bK (tW f l as k acc (v:Int)) λr=>∃r',r=acc++r'/\XLR as (l.drop v) r':=by
 intro k
 induction k with
 | zero=>intro v acc h1 h2;omega
 | succ k ih=>
   intro v acc h1 h2 h3;unfold tW
   by_cases hv:v<l.length
   ·have hd:l.drop v=l[v]::l.drop (v+1):=Na hv;have e:bM l (v:Int)=some l[v]:=vU (uX hv);rw [if_pos (zU (by omega)),e,iN];refine (hf _ (Nb hv)).bind λy hy=>bK.need (by simp only [dY,eO];omega) ?_;rw [cP (n:=(v:Int)+1) (by omega) (by omega),show ((v:Int)+1)=((v+1:Nat):Int) by omega];refine (ih (v+1) _ (by omega) (by omega) (by rw [mY,vX,h3])).mono λr hr=>?_;obtain ⟨r',rfl,hr⟩:=hr;exact ⟨y::r',by simp,by rw [hd];exact .cons hy hr⟩
   ·rw [if_neg (by rw [AG];omega),SO (by omega)];exact .some ⟨[],by simp,.nil⟩
theorem LI:∀n:Nat,(∀(x:aF) (as:List Int),2*xz x<n->xz x<=100000000->bK (qZ n x as) (XR as x))/\(∀(l:List aF) (as:List Int),2*qX l+1<n->qX l<=100000000->bK (tI n l as) (XLR as l)):=by
 intro n
 induction n with
 | zero=>exact ⟨λx as h=>by omega,λl as h=>by omega⟩
 | succ n ih=>
   refine ⟨λx as h hb=>?_,λl as h hb=>?_⟩
   ·show bK (uN (tI n) n x as) _;unfold uN;have hz:=Bm x;refine LW.bind λv hv=>(ih.2 _ as (by omega) (by omega)).bind λr hr=>.some ⟨?_,λho=>?_,λe=>?_⟩
    ·rw [Bm,Bm,hr.sz]
    ·obtain ⟨h1,h2⟩:=ho;exact .mk h1 (hr.op h2)
    ·cases x;rw [hv e,hr.id e]
   ·show bK (tH (qZ n) n l as) _;unfold tH;have hl:=zS l
    have:=RK (f:=qZ n) (l:=l) (as:=as) (λx hx=>by
     have h1:=AN hx;exact ih.1 x as (by omega) (by omega)) (by omega) n 0 [] (by omega) (by omega) rfl
    refine bK.bind this λr hr=>.some ?_;obtain ⟨r',rfl,hr⟩:=hr;exact hr
theorem LH {n:Nat} {x:aF} {as:List Int} (h:2*xz x<n) (hb:xz x<=100000000):bK (qZ n x as) (XR as x):=(LI n).1 x as h hb
theorem Ps {n:Nat} {l:List aF} {as:List Int} (h:2*qX l+1<n) (hb:qX l<=100000000):bK (tI n l as) (XLR as l):=(LI n).2 l as h hb
mutual
def SF:aC->Nat
 | ⟨_,_,_,_,b,e,_⟩=>1+uJ b+uJ e
def uJ:List aC->Nat
 | []=>0
 | x::l=>SF x+uJ l
end
theorem Nk (a b:List aC):uJ (a++b)=uJ a+uJ b:=by
 induction a with
 | nil=>rw [gJ,uJ,CJ]
 | cons x a ih=>rw [iJ,uJ,uJ,ih,GT]
inductive NCS:aC->Prop
 | ret {x a}:NCS ⟨[114,101,116,117,114,110],-1,0,[x],[],[],a⟩
 | st {o v f l b e a}:o ≠ [99,97,108,108]->o ≠ [114,101,116,117,114,110]->(∀t ∈ b,NCS t)->(∀t ∈ e,NCS t)->NCS ⟨o,v,f,l,b,e,a⟩
structure Sz (x:aJ):Prop where
 lo:0<=x.eW
 hi:x.eW<=30000
 ok:x.e_=0->x.eW<=16384
 e:x.e_=0 ∨ x.e_=161
structure CtR (x r:aJ):Prop where
 p:r.p_=x.p_
 f:r.f_=x.f_
 s:r.eW=x.eW+1
 e:r.e_=if 16384<x.eW+1 then 161 else x.e_
theorem Gc {x:aJ} (h0:0<=x.eW) (h1:x.eW<=1000000000):bK (dM x) (CtR x):=by
 unfold dM;rw [cP (n:=x.eW+1) (by omega) (by omega)];refine bK.iteb (λh=>.some ⟨rfl,rfl,rfl,?_⟩) (λh=>.some ⟨rfl,rfl,rfl,?_⟩)
 ·rw [if_pos (Bn h)]
 ·rw [if_neg (OB h)]
theorem CtR.sz {x r:aJ} (h:CtR x r) (hs:Sz x) (hx:x.eW<=29999):Sz r:=by
 have h1:=h.s;have h2:=h.e;have h3:=hs.lo;refine ⟨by omega,by omega,λe=>?_,?_⟩
 ·rw [h2] at e;split at e
  ·omega
  ·omega
 ·rw [h2];split
  ·exact .inr rfl
  ·exact hs.e
structure PR (x:aJ) (l:List aC) (r:List aC × aJ):Prop where
 p:r.2.p_=x.p_
 f:r.2.f_=x.f_
 s:Sz r.2
 id:r.2.e_=0->x.e_=0/\r.1=l/\r.2.eW=x.eW+uJ l
 ok:x.e_=0->x.eW+uJ l<=16384->r.2.e_=0
def back0:aC:=⟨[114,101,116,117,114,110],-1,0,[],[],[],-1⟩
inductive FS (p:bL) (rk:Int->Nat) (m:Nat):aC->Prop
 | ret {x a}:MY x->FS p rk m ⟨[114,101,116,117,114,110],-1,0,[x],[],[],a⟩
 | call {v f xs a fn}:bM p.bF f=some fn->rk f<m->xs.length<=fn.aW.length->(∀x ∈ xs,MY x)->FS p rk m ⟨[99,97,108,108],v,f,xs,[],[],a⟩
 | st {o v f l b e a}:o ≠ [99,97,108,108]->o ≠ [114,101,116,117,114,110]->(∀x ∈ l,MY x)->(∀t ∈ b,FS p rk m t)->(∀t ∈ e,FS p rk m t)->FS p rk m ⟨o,v,f,l,b,e,a⟩
structure PG (p:bL) (rk:Int->Nat):Prop where
 fs:∀k fn,bM p.bF k=some fn->∀t ∈ fn.bY,FS p rk (rk k) t
 sz:∀k fn,bM p.bF k=some fn->uV fn.bY<=3001
 vl:∀k fn,bM p.bF k=some fn->fn.aW.length<=250/\0<=fn.bC/\fn.bC<=fn.aW.length
structure Ok (t:aC):Prop where
 nc:NCS t
 st:StB t
 tzb:tz t<=3001*SF t
theorem Ok.all {l:List aC} (h:∀t ∈ l,Ok t):uV l<=3001*uJ l:=by
 induction l with
 | nil=>exact KL _
 | cons x l ih=>
   have h1:=(h x xem).tzb;have h2:=ih λt ht=>h t (MR _ ht);rw [uV,uJ];omega
structure VR (x r:aJ):Prop where
 f:r.f_={ x.f_ with aW:=r.f_.aW }
 l:x.f_.aW.length<=4096->r.f_.aW.length<=4096
theorem VR.refl (x:aJ):VR x x:=⟨rfl,λh=>h⟩
theorem VR.of {x r:aJ} (h:r.f_=x.f_):VR x r:=⟨by rw [h],λk=>by rw [h];exact k⟩
theorem VR.trans {x y z:aJ} (h:VR x y) (k:VR y z):VR x z:=⟨by rw [k.f,h.f],λe=>k.l (h.l e)⟩
structure VE (x r:aJ):Prop where
 p:r.p_=x.p_
 v:VR x r
 s:r.eW=x.eW
 e:r.e_=x.e_ ∨ r.e_=161
theorem VE.sz {x r:aJ} (h:VE x r) (hs:Sz x):Sz r:=by
 have h1:=h.s;refine ⟨by rw [h1];exact hs.lo,by rw [h1];exact hs.hi,λe=>?_,?_⟩
 ·rw [h1]
  rcases h.e with k | k
  ·exact hs.ok (by rw [←k];exact e)
  ·rw [k] at e;cases e
 ·rcases h.e with k | k
  ·rw [k];exact hs.e
  ·exact .inr k
theorem VE.zero {x r:aJ} (h:VE x r) (e:r.e_=0):x.e_=0:=by
 rcases h.e with k | k
 ·rw [←k];exact e
 ·rw [k] at e;cases e
theorem Ij {x:aJ} {v:aL}:bK (dL x v) λr=>VE x r.2:=by
 unfold dL;refine bK.iteb (λh=>.some ⟨rfl,.of rfl,rfl,.inr rfl⟩) (λh=>?_);have h:=OB h;refine bK.need (by simp only [dY,eO];omega) (.some ⟨rfl,⟨rfl,λ_=>?_⟩,rfl,.inl rfl⟩);show (x.f_.aW++[v]).length<=4096;rw [mY,vX];omega
structure FR (x:aJ) (r:List aC × aJ):Prop where
 p:r.2.p_=x.p_
 v:VR x r.2
 s:Sz r.2
 len:(r.1.length:Int)+x.eW<=r.2.eW
 out:r.2.e_=0->x.e_=0/\(∀t ∈ r.1,Ok t)/\x.eW+uJ r.1<=r.2.eW
structure BkS (b:aC):Prop where
 bo:b.bY=[]
 el:b.gT=[]
 op:(b.iD=[114,101,116,117,114,110]/\b.gB=-1) ∨ b.iD=[118,97,114] ∨ b.iD=[115,101,116]
theorem Qd {o:cJ} {v f:Int} {y:aF} {a:Int} (h1:o ≠ [99,97,108,108]) (h2:o ≠ [114,101,116,117,114,110]) (ho:MY y) (hz:xz y<=3000):Ok ⟨o,v,f,[y],[],[],a⟩:=
 ⟨.st h1 h2 xU xU,.mk (Ip ho) xU xU,by rw [tz,qX,qX,uV,SF,uJ];omega⟩
theorem Te:([118,97,114]:cJ) ≠ [99,97,108,108]:=by decide
theorem Td:([118,97,114]:cJ) ≠ [114,101,116,117,114,110]:=by decide
theorem set_nc:([115,101,116]:cJ) ≠ [99,97,108,108]:=by decide
theorem set_nr:([115,101,116]:cJ) ≠ [114,101,116,117,114,110]:=by decide
theorem To {x:aJ} {y:aF} {b:aC} (hb:BkS b) (ho:MY y) (hz:xz y<=3000):bK (eF x y b) λr=>VE x r.2/\Ok r.1/\SF r.1=1:=by
 obtain ⟨h1,h2,h3⟩:=hb;obtain ⟨o,v,f,l,bo,el,a⟩:=b;simp only at h1 h2 h3;subst h1 h2;have hs:∀v f l a,SF ⟨o,v,f,l,[],[],a⟩=1:=λv f l a=>by rw [SF,uJ]
 unfold eF;refine bK.iteb (λh=>?_) (λh=>?_)
 ·have h:o=[118,97,114]:=Bn h;subst h;exact Ij.bind λr hr=>.some ⟨hr,Qd Te Td ho hz,hs _ _ _ _⟩
 ·refine .some ⟨⟨rfl,.refl x,rfl,.inl rfl⟩,?_,hs _ _ _ _⟩
  rcases h3 with ⟨rfl,rfl⟩ | rfl | rfl
  ·exact ⟨.ret,.mk (Ip ho) xU xU,by show tz ⟨_,_,_,[y],[],[],_⟩<=3001*SF ⟨_,_,_,[y],[],[],_⟩;rw [tz,qX,qX,uV,SF,uJ];omega⟩
  ·exact Qd Te Td ho hz
  ·exact Qd set_nc set_nr ho hz
theorem QQ {x:aJ} {s b:aC} {as:List Int} {fn:aR} (h:bM x.p_.bF s.iE=some fn) (hb:BkS b):bK (jL x s as b) BkS:=by
 unfold jL;rw [h,iN];refine bK.iteb (λ_=>bK.iteb (λ_=>.some ⟨hb.bo,hb.el,hb.op⟩) (λ_=>.some hb)) (λ_=>bK.iteb (λ_=>.some ⟨rfl,rfl,.inr (.inl rfl)⟩) (λ_=>LW.bind λv _=>.some ⟨rfl,rfl,.inr (.inr rfl)⟩))
structure AR (x:aJ) (k:Nat) (n:Int) (r:List aC × List Int × aJ):Prop where
 p:r.2.2.p_=x.p_
 v:VR x r.2.2
 s:Sz r.2.2
 hi:r.2.2.eW<=x.eW+n
 own:r.2.1.length=k
 len:(r.1.length:Int)+x.eW<=r.2.2.eW
 out:r.2.2.e_=0->x.e_=0/\(∀t ∈ r.1,Ok t)/\x.eW+uJ r.1<=r.2.2.eW
theorem args_l1 {n:Nat} {s:aC} {as:List Int} {fn:aR} (hl:s.aP.length<=fn.aW.length) (hv:fn.aW.length<=250) (ho:∀y ∈ s.aP,MY y) (hz:qX s.aP<=3000) (hn:6002<n) {x0:aJ} (h0:0<=x0.eW) (h1:x0.eW<=20000) :
  ∀(k v:Nat) (acc:List aC) (own:List Int) (x:aJ),s.aP.length<v+k->v<=s.aP.length->AR x0 v v (acc,own,x)->bK (eI n s as fn k acc own (v:Int) x) (AR x0 s.aP.length s.aP.length):=by
 intro k
 induction k with
 | zero=>intro v acc own x h1 h2;omega
 | succ k ih=>
   intro v acc own x h2 h3 ha;unfold eI
   by_cases hv2:v<s.aP.length
   ·have hg:=uX hv2;have e:bM s.aP (v:Int)=some s.aP[v]:=vU hg;have hm:s.aP[v] ∈ s.aP:=Nb hv2;have hzm:=AN hm;have hi:=ha.hi;have hlo:=ha.len;have how:own.length=v:=ha.own;simp only at hi hlo;rw [if_pos (zU (by omega)),e,iN,cP (n:=(v:Int)+1) (by omega) (by omega),show ((v:Int)+1)=((v+1:Nat):Int) by omega]
    have step:∀(o:cJ) (u:aL),o ≠ [99,97,108,108]->o ≠ [114,101,116,117,114,110]->bK ((dM x).bind λx35=>(dL x35 u).bind λx37=>gL (own.length+[x37.1].length<=1073741824) <| (qZ n s.aP[v] as).bind λx44=>gL (acc.length+[(aC.mk o x37.1 (0:Int) [x44] [] [] s.fB)].length<=1073741824) <| some ((acc++[(aC.mk o x37.1 (0:Int) [x44] [] [] s.fB)]),(own++[x37.1]),x37.2)) (AR x0 (v+1) (v+1:Nat)):=by
     intro o u ho1 ho2;refine (Gc (x:=x) ha.s.lo (by omega)).bind λx1 g1=>Ij.bind λx2 g2=>bK.need (by simp only [dY,eO];omega) ((LH (n:=n) (by omega) (by omega)).bind λy hy=>bK.need (by simp only [dY,eO];omega) ?_);have hs1:Sz x1:=g1.sz ha.s (by show x.eW<=29999;omega);have e1:=g1.s;have e2:=g2.s;refine .some ⟨g2.p.trans (g1.p.trans ha.p),ha.v.trans ((VR.of g1.f).trans g2.v),g2.sz hs1,?_,?_,?_,λe0=>?_⟩
     ·show x2.2.eW<=_;omega
     ·show (own++[x2.1]).length=_;rw [mY,vX,how]
     ·show ((acc++[_]).length:Int)+_<=x2.2.eW;rw [mY,vX];omega
     ·have k1:=g2.zero e0
      have k2:x.e_=0:=by
       have:=g1.e;rw [k1] at this
       split at this
       ·cases this
       ·exact this.symm
      obtain ⟨q1,q2,q3⟩:=ha.out k2;simp only at q2 q3;refine ⟨q1,λt ht=>?_,?_⟩
      ·rcases zC.1 ht with ht | ht
       ·exact q2 t ht
       ·obtain rfl:=Ax.1 ht;exact Qd ho1 ho2 (hy.op (ho _ hm)) (by rw [hy.sz];omega)
      ·show _+(uJ (acc++[_]):Int)<=x2.2.eW;rw [Nk,uJ,SF,uJ];omega
    refine bK.bind (P:=AR x0 (v+1) (v+1:Nat)) ?_ λy hy=>ih (v+1) _ _ _ (by omega) (by omega) hy;refine bK.iteb (λ_=>LW.bind λw _=>bK.need (by simp only [dY,eO];omega) (.some ?_)) (λ_=>?_)
    ·exact ⟨ha.p,ha.v,ha.s,by show x.eW<=_;omega,by show (own++[w]).length=_;rw [mY,vX,how],ha.len,ha.out⟩
    ·have hv3:v<fn.aW.length:=by omega
     rw [vU (uX hv3),iN];exact bK.iteb (λ_=>step _ _ (by decide) (by decide)) (λ_=>step _ _ (by decide) (by decide))
   ·rw [if_neg (by rw [AG];omega)];have:v=s.aP.length:=by omega
    subst this;exact .some ha
theorem VE.trans {x y z:aJ} (h:VE x y) (k:VE y z):VE x z:=⟨k.p.trans h.p,h.v.trans k.v,k.s.trans h.s,by
 rcases k.e with e | e
 ·rw [e];exact h.e
 ·exact .inr e⟩
theorem PC {fn:aR} (hv:fn.aW.length<=250):∀(k v:Nat) (own:List Int) (x:aJ),(fn.aW.drop fn.bC.toNat).length<v+k->v<=(fn.aW.drop fn.bC.toNat).length->own.length<=300+v->bK (eH fn k own (v:Int) x) λr=>VE x r.2:=by
 have hd:(fn.aW.drop fn.bC.toNat).length<=250:=by rw [PP];omega
 intro k
 induction k with
 | zero=>intro v own x h1 h2;omega
 | succ k ih=>
   intro v own x h1 h2 h3;unfold eH
   by_cases hv2:v<(fn.aW.drop fn.bC.toNat).length
   ·rw [if_pos (zU (by omega)),vU (uX hv2),iN];refine Ij.bind λr hr=>bK.need (by simp only [dY,eO];omega) ?_;rw [cP (n:=(v:Int)+1) (by omega) (by omega),show ((v:Int)+1)=((v+1:Nat):Int) by omega];exact (ih (v+1) _ _ (by omega) (by omega) (by rw [mY,vX];omega)).mono λz hz=>hr.trans hz
   ·rw [if_neg (by rw [AG];omega)];exact .some ⟨rfl,.refl x,rfl,.inl rfl⟩
theorem FR.app {x0 x:aJ} {acc:List aC} {r:List aC × aJ} (h:FR x0 (acc,x)) (k:FR x r):FR x0 (acc++r.1,r.2):=by
 have h1:=h.len;have h2:=k.len;simp only at h1;refine ⟨k.p.trans h.p,h.v.trans k.v,k.s,?_,λe=>?_⟩
 ·show ((acc++r.1).length:Int)+_<=r.2.eW;rw [mY];omega
 ·obtain ⟨q1,q2,q3⟩:=k.out e;obtain ⟨p1,p2,p3⟩:=h.out q1;refine ⟨p1,λt ht=>?_,?_⟩
  ·rcases zC.1 ht with ht | ht
   ·exact p2 t ht
   ·exact q2 t ht
  ·show _+(uJ (acc++r.1):Int)<=r.2.eW;simp only at p3;rw [Nk];omega
theorem FR.none {x0 x:aJ} {acc:List aC} (h:FR x0 (acc,x)) (e:x.e_ ≠ 0):FR x0 ([],x):=by
 have h1:=h.len;simp only at h1;exact ⟨h.p,h.v,h.s,by show ((([]:List aC).length:Nat):Int)+_<=x.eW;rw [eO];omega,λk=>absurd k e⟩
theorem FR.start {x:aJ} (hs:Sz x):FR x ([],x):=⟨rfl,.refl x,hs,by show ((([]:List aC).length:Nat):Int)+_<=x.eW;rw [eO];omega,λe=>⟨e,λt ht=>(nomatch ht),by show _+((uJ []:Nat):Int)<=x.eW;rw [uJ];omega⟩⟩
theorem Sc {fs:aJ->aC->List Int->aC->Option (List aC × aJ)} {l:List aC} {as:List Int} {b:aC} {p:bL} (hf:∀s ∈ l,∀x,x.e_=0->Sz x->x.p_=p->bK (fs x s as b) (FR x)) (hl:l.length<=100000000) {x0:aJ} (hp:x0.p_=p) (h0:0<=x0.eW) :
  ∀(k v:Nat) (acc:List aC) (x:aJ),l.length<v+k->v<=l.length->FR x0 (acc,x)->bK (dF fs l as b k acc (v:Int) x) λy=>bK (y.elim (λa=>some (a.1,a.2)) (λa=>some a)) (FR x0):=by
 intro k
 induction k with
 | zero=>intro v acc x h1 h2;omega
 | succ k ih=>
   intro v acc x h1 h2 ha;unfold dF
   by_cases hv:v<l.length
   ·have hg:=uX hv;rw [if_pos (zU (by omega)),vU hg,iN];refine bK.iteb (λh=>.some (.some ?_)) (λh=>?_)
    ·exact ha.none (by simpa using h)
    ·have h:x.e_=0:=by simpa using h
     refine (hf _ (Nb hv) x h ha.s (ha.p.trans hp)).bind λr hr=>?_;have l1:=ha.len;have l2:=hr.len;have l3:=hr.s.hi;have l4:=ha.s.lo;simp only at l1 l4;refine bK.need (by omega) ?_;rw [cP (n:=(v:Int)+1) (by omega) (by omega),show ((v:Int)+1)=((v+1:Nat):Int) by omega];exact ih (v+1) _ _ (by omega) (by omega) (ha.app hr)
   ·rw [if_neg (by rw [AG];omega)];exact .some (.some ha)
section
variable {p:bL} {rk:Int->Nat}
set_option maxRecDepth 20000 in
theorem RI (hp:PG p rk):∀n:Nat,
  (∀(m:Nat) (x:aJ) (l:List aC) (as:List Int) (b:aC),m*20000+4*uV l+2<n->uV l<=3001->(∀t ∈ l,FS p rk m t)->Sz x->x.p_=p->BkS b->bK (dX n x l as b) (FR x)) ∧
  (∀(m:Nat) (x:aJ) (s:aC) (as:List Int) (b:aC),m*20000+4*tz s<n->tz s<=3001->FS p rk m s->x.e_=0->Sz x->x.p_=p->BkS b->bK (fI n x s as b) (FR x)) ∧
  (∀(m:Nat) (x:aJ) (s:aC) (as:List Int) (b:aC) (fn:aR),m*20000<=n->bM p.bF s.iE=some fn->rk s.iE<m->s.aP.length<=fn.aW.length->(∀y ∈ s.aP,MY y)->qX s.aP<=3000->x.e_=0->Sz x->x.p_=p->BkS b->bK (kK n x s as b) (FR x)):=by
 intro n
 induction n with
 | zero=>exact ⟨λm x l as b h=>by omega,λm x s as b h=>by omega,λm x s as b fn h _ h2=>by omega⟩
 | succ n ih=>
   obtain ⟨ihB,ihS,ihC⟩:=ih;refine ⟨λm x l as b h hz hl hs hx hb=>?_,λm x s as b h hz hf he hs hx hb=>?_,λm x s as b fn h hi hr hl ho hz he hs hx hb=>?_⟩
   ·show bK (fD (fI n) n x l as b) _;unfold fD;have hlen:=GW l
    exact bK.bind (Sc (fs:=fI n) (l:=l) (p:=p) (λs hm y hy hz2 hp2=>by
     have h1:=LV hm;exact ihS m y s as b (by generalize m*20000=M at h ⊢;omega) (by omega) (hl s hm) hy hz2 hp2 hb) (by omega) hx hs.lo n 0 [] x (by omega) (by omega) (.start hs)) λy hy=>hy
   ·show bK (dW (kK n) (dX n) n x s as b) _;unfold dW;have hx0:=hs.ok he;cases hf with
    | @ret e a ho=>
      rw [tz,qX,qX] at h hz;rw [if_neg (show ¬ decide (([114,101,116,117,114,110]:cJ)=[99,97,108,108])=true by decide)];refine (Gc hs.lo (by omega)).bind λx1 h1=>?_;rw [if_pos (show decide (([114,101,116,117,114,110]:cJ)=[114,101,116,117,114,110])=true by decide)];refine bK.eqn (v:=e) rfl ((LH (n:=n) (by omega) (by omega)).bind λy hy=>?_)
      have key:∀b',BkS b'->bK ((eF x1 y b').bind λx19=>some ([x19.1],x19.2)) (FR x):=λb' hb'=>(To hb' (hy.op ho) (by rw [hy.sz];omega)).bind λr hr=>by
       obtain ⟨r1,r2,r3⟩:=hr;have e1:=h1.s;have e2:=r1.s;refine .some ⟨r1.p.trans h1.p,(VR.of h1.f).trans r1.v,r1.sz (h1.sz hs (by omega)),?_,λe0=>⟨he,λt ht=>?_,?_⟩⟩
       ·show ((([r.1]:List aC).length:Nat):Int)+_<=r.2.eW;rw [vX];omega
       ·obtain rfl:=Ax.1 ht;exact r2
       ·show _+((uJ [r.1]:Nat):Int)<=r.2.eW;rw [uJ,uJ,r3];omega
      exact bK.iteb (λ_=>key _ ⟨hb.bo,hb.el,hb.op⟩) (λ_=>key _ hb)
    | @call v f xs a fn hi hr hl ho=>
      rw [tz] at h hz;rw [if_pos (show decide (([99,97,108,108]:cJ)=[99,97,108,108])=true by decide)];exact (ihC m x _ as b fn (by omega) hi hr hl ho (by show qX xs<=3000;omega) he hs hx hb).bind λr hr=>.some hr
    | @st o v f l bo el a ho1 ho2 ho hn1 hn2=>
      rw [tz] at h hz;rw [if_neg (by rw [AG];exact ho1)];refine (Gc hs.lo (by omega)).bind λx1 h1=>?_;rw [if_neg (by rw [AG];exact ho2)];have hs1:=h1.sz hs (by omega);refine LW.bind λv' hv'=>(Ps (n:=n) (by show 2*qX l+1<n;omega) (by show qX l<=100000000;omega)).bind λl' hl'=>?_;refine (ihB m x1 bo as b (by generalize m*20000=M at h ⊢;omega) (by omega) hn1 hs1 (h1.p.trans hx) hb).bind λr1 g1=>(ihB m r1.2 el as b (by generalize m*20000=M at h ⊢;omega) (by omega) hn2 g1.s (g1.p.trans (h1.p.trans hx)) hb).bind λr2 g2=>?_;have e1:=h1.s;have e2:=g1.len;have e3:=g2.len;refine .some ⟨g2.p.trans (g1.p.trans h1.p),(VR.of h1.f).trans (g1.v.trans g2.v),g2.s,?_,λe0=>?_⟩
      ·show (((([_]:List aC)).length:Nat):Int)+_<=r2.2.eW;rw [vX];omega
      ·obtain ⟨q1,q2,q3⟩:=g2.out e0;obtain ⟨p1,p2,p3⟩:=g1.out q1;have z1:=Ok.all q2;have z2:=Ok.all p2;have z3:qX l'=qX l:=hl'.sz;refine ⟨he,λt ht=>?_,?_⟩
       ·obtain rfl:=Ax.1 ht;refine ⟨.st ho1 ho2 (λt ht=>(p2 t ht).nc) (λt ht=>(q2 t ht).nc),.mk (hl'.op ho) (λt ht=>(p2 t ht).st) (λt ht=>(q2 t ht).st),?_⟩;show tz ⟨o,v',f,l',r1.1,r2.1,a⟩<=3001*SF ⟨o,v',f,l',r1.1,r2.1,a⟩;rw [tz,SF,z3];omega
       ·show _+((uJ [⟨o,v',f,l',r1.1,r2.1,a⟩]:Nat):Int)<=r2.2.eW;rw [uJ,SF,uJ];omega
   ·show bK (fM (dX n) n x s as b) _;unfold fM;have hx0:=hs.ok he;obtain ⟨hv1,hv2,hv3⟩:=hp.vl _ _ hi;have hm:1<=m:=by omega
    refine (Gc hs.lo (by omega)).bind λx1 h1=>?_;have hs1:=h1.sz hs (by omega);have e1:=h1.s;rw [h1.p,hx,hi,iN];have hlen:=zS s.aP;refine bK.bind (P:=AR x1 s.aP.length s.aP.length) ?_ λy hy=>?_
    ·unfold mH;refine bK.bind (args_l1 (n:=n) (s:=s) (as:=as) (fn:=fn) hl hv1 ho hz (by omega) hs1.lo (by omega) n 0 [] [] x1 (by omega) (by omega) ⟨rfl,.refl x1,hs1,by show x1.eW<=_;omega,rfl,by show ((([]:List aC).length:Nat):Int)+_<=x1.eW;rw [eO];omega,λe=>⟨e,λt ht=>(nomatch ht),by show _+((uJ []:Nat):Int)<=x1.eW;rw [uJ];omega⟩⟩) λy hy=>.some hy
    ·refine bK.need ⟨hv2,hv3⟩ ?_;have d1:(fn.aW.drop fn.bC.toNat).length<=250:=by rw [PP];omega
     have d2:=hy.own;refine (PC hv1 n 0 y.2.1 y.2.2 (by omega) (by omega) (by omega)).bind λz hz2=>?_;have e2:=hy.len;have e3:=hz2.s;have hsz:=hz2.sz hy.s
     have hA:FR x (y.1,z.2):=⟨hz2.p.trans (hy.p.trans h1.p),(VR.of h1.f).trans (hy.v.trans hz2.v),hsz,by show (y.1.length:Int)+_<=z.2.eW;omega,λe0=>by
      obtain ⟨_,q2,q3⟩:=hy.out (hz2.zero e0);exact ⟨he,q2,by show _+(uJ y.1:Int)<=z.2.eW;omega⟩⟩
     refine bK.iteb (λh2=>.some (hA.none (by simpa using h2))) (λh2=>?_);have hzp:z.2.p_=p:=hA.p.trans hx;refine (QQ (x:=z.2) (s:=s) (b:=b) (as:=as) (fn:=fn) (by rw [hzp];exact hi) hb).bind λb' hb'=>?_;have hsz3:=hp.sz _ _ hi;refine (ihB (rk s.iE) z.2 fn.bY z.1 b' (by omega) hsz3 (hp.fs _ _ hi) hsz hzp hb').bind λr hr=>?_;have l1:=hA.len;have l2:=hr.len;have l3:=hr.s.hi;have l4:=hsz.lo;have l5:=hs.lo;simp only at l1;exact bK.need (by omega) (.some (hA.app hr))
structure MK (fn g:aR):Prop where
 f:g={ fn with aW:=g.aW,bY:=g.bY }
 v:g.aW.length<=4096
 ok:∀t ∈ g.bY,Ok t
 sz:uJ g.bY<=16384
theorem VG (hp:PG p rk) {n:Nat} {i:Int} (hm:∀k,rk k<=64) (hn:1400000<=n):bK (wS n p i) λr=>(r.2=0->∃fn,bM p.bF i=some fn/\MK fn r.1)/\(0<=i->i<p.bF.length->r.2=0 ∨ r.2=161):=by
 unfold wS;refine bK.bind (P:=λy=>y=true/\¬ (0<=i/\i<p.bF.length) ∨ y=false/\0<=i/\i<p.bF.length) ?_ λy hy=>?_
 ·refine bK.iteb (λh=>.some (.inl ⟨rfl,?_⟩)) λh=>.some ?_
  ·have h:=Bn h;omega
  ·have h:=OB h
   by_cases h2:(p.bF.length:Int)<=i
   ·exact .inl ⟨zU h2,by omega⟩
   ·exact .inr ⟨xek h2,by omega,by omega⟩
 refine bK.iteb (λh=>.some ?_) (λh=>?_)
 ·rcases hy with ⟨_,h2⟩ | ⟨h2,_⟩
  ·exact ⟨λe=>absurd e (by decide),λh3 h4=>absurd ⟨h3,h4⟩ h2⟩
  ·rw [h2] at h;cases h
 ·rcases hy with ⟨h2,_⟩ | ⟨_,h0,h1⟩
  ·rw [h2] at h;cases h
  obtain ⟨fn,hfn⟩:∃fn,bM p.bF i=some fn:=by
   obtain ⟨r,e,_⟩:=bK.idx (l:=p.bF) h0 h1 (Q:=λ_=>True) λ_ _=>trivial;exact ⟨r,e⟩
  obtain ⟨hv1,_,_⟩:=hp.vl _ _ hfn;have h64:=hm i;have hsz:=hp.sz _ _ hfn;rw [hfn,iN];refine bK.need (by omega) ?_;refine ((RI hp n).1 (rk i) ⟨p,fn,0,0⟩ fn.bY [] back0 (by omega) hsz (hp.fs _ _ hfn) ⟨Sv _,(by decide:(0:Int)<=30000),λ_=>(by decide:(0:Int)<=16384),.inl rfl⟩ rfl ⟨rfl,rfl,.inl ⟨rfl,rfl⟩⟩).bind λr hr=>?_;refine bK.iteb (λh=>.some ⟨λe=>absurd e (by simpa using h),λ_ _=>hr.s.e⟩) (λh=>.some ⟨λ_=>⟨fn,rfl,?_⟩,λ_ _=>.inl rfl⟩);have h:r.2.e_=0:=by simpa using h
  obtain ⟨_,q2,q3⟩:=hr.out h;have q4:=hr.s.ok h;have hvf:=hr.v.f;refine ⟨?_,hr.v.l (by show fn.aW.length<=4096;omega),q2,by show uJ r.1<=16384;simp only at q3;omega⟩;show ({ r.2.f_ with bY:=r.1 }:aR)=_;rw [hvf]
end
end Go.Proofs.YtnnomaboaiokeaaGreatDoor.Abs
namespace Go.Proofs.YtnnomaboaiokeaaGreatDoor.Abs
open Go.RowKit
set_option linter.all false
section
variable {c:aG} {rk:Int->Nat}
theorem TB.fs (hp:PO c rk) {j:Nat} {vs:List aL} {res:Int} {l:Bool} {n n':Nat} {sc sc':List Int} {ss:List aC} (h:TB (Hq c j) vs res l n sc ss n' sc'):∀s ∈ ss,FS c.p_ rk (rk j) s:=by
 have key:∀ {sc:List Int} {v f r:Int} {ps:List aL} {xs:List aF} {a:Int},Hq c j f r ps->CE vs sc ps xs->FS c.p_ rk (rk j) ⟨[99,97,108,108],v,f,xs,[],[],a⟩:=by
  intro sc v f r ps xs a h1 h2;obtain ⟨⟨l,k1,k2⟩,fn,k3,_,k5⟩:=h1;refine .call k3 (hp.rk _ l (vU k1) f k2) ?_ (λx hx=>by obtain ⟨p,_,h⟩:=h2.each hx;exact h.opB);rw [h2.1,k5,Jh];omega
 induction h with
 | nil=>exact xU
 | let_ h1 _ _ _ _ ih=>exact yB (.st (by decide) (by decide) (Ip h1.opB) xU xU) ih
 | var_ h1 _ _ _ ih=>exact yB (.st (by decide) (by decide) (Ip h1.opB) xU xU) ih
 | arr _ _ _ ih=>exact yB (.st (by decide) (by decide) xU xU xU) ih
 | callv h1 h2 _ _ _ _ ih=>exact yB (key h1 h2) ih
 | set _ _ _ h4 _ _ ih=>exact yB (.st (by decide) (by decide) (Ip h4.opB) xU xU) ih
 | calls _ _ _ h4 h5 _ _ ih=>exact yB (key h4 h5) ih
 | put _ _ _ h4 _ _ h7 _ _ ih=>exact yB (.st (by decide) (by decide) (Vo h4.opB h7.opB) xU xU) ih
 | do_ h1 h2 _ ih=>exact yB (key h1 h2) ih
 | if_ h1 _ _ _ _ ih1 ih2 ih3=>exact yB (.st (by decide) (by decide) (Ip h1.opB) ih1 ih2) ih3
 | for_ h1 _ h3 _ _ _ _ _ ih1 ih2=>exact yB (.st (by decide) (by decide) (Vo h1.opB h3.opB) ih1 xU) ih2
 | ret h1 _ _=>exact Ip (.ret h1.opB)
 | retc h1 _ h3=>exact Ip (key h1 h3)
theorem PO.pg (hp:PO c rk):PG c.p_ rk:=by
 have hm:∀ {k:Int} {fn:aR},bM c.p_.bF k=some fn->∃j:Nat,k=j/\c.p_.bF[j]? = some fn:=by
  intro k fn h
  obtain ⟨r,e⟩:∃r:Nat,k=r:=by
   unfold bM at h
   split at h
   ·exact ⟨k.toNat,by omega⟩
   ·cases h
  subst e;refine ⟨r,rfl,?_⟩;unfold bM at h;rw [if_pos (by omega)] at h;simpa using h
 refine ⟨λk fn h=>?_,λk fn h=>?_,λk fn h=>?_⟩
 ·obtain ⟨j,rfl,hj⟩:=hm h;obtain ⟨sc',ht⟩:=(hp.tf j fn hj).body;exact ht.fs hp
 ·obtain ⟨j,rfl,hj⟩:=hm h;exact hp.sz _ (ET hj)
 ·obtain ⟨j,rfl,hj⟩:=hm h;exact hp.co.vl _ (ET hj)
end
theorem MK.tz {fn g:aR} (h:MK fn g):uV g.bY<=50000000:=by
 have h1:=Ok.all h.ok;have h2:=h.sz;omega
def mp (as:List Int) (v:Int):Int:=if v<0 ∨ (as.length:Int)<=v then v else (as[v.toNat]?).getD v
mutual
def fx (as:List Int):aF->aF
 | ⟨o,t,n,v,l,a⟩=>⟨o,t,n,mp as v,Ms as l,a⟩
def Ms (as:List Int):List aF->List aF
 | []=>[]
 | x::l=>fx as x::Ms as l
end
theorem FF (as:List Int) (x:aF):fx as x=⟨x.iD,x.cL,x.N_,mp as x.gB,Ms as x.aP,x.fB⟩:=by cases x;rw [fx]
theorem PU (v:Int) (as:List Int):xW v as=some (mp as v):=by
 unfold xW mp
 by_cases h0:v<0
 ·rw [if_pos (zU h0),iN,if_pos rfl,if_pos (.inl h0)]
 ·rw [if_neg (by simpa using h0),iN]
  by_cases h1:(as.length:Int)<=v
  ·rw [if_pos (zU h1),if_pos (.inr h1)]
  ·rw [if_neg (by simpa using h1),if_neg (by omega)];have hl:v.toNat<as.length:=by omega
   unfold bM;rw [if_pos (by omega),uX hl];rfl
theorem fxL_l1 {f:aF->List Int->Option aF} {l:List aF} {as:List Int} (hf:∀x ∈ l,∀y,f x as=some y->y=fx as x) (hl:l.length<=1000000000) :
  ∀(k v:Nat) (acc r:List aF),v<=l.length->tW f l as k acc (v:Int)=some r->r=acc++Ms as (l.drop v):=by
 intro k
 induction k with
 | zero=>intro v acc r _ h;exact nomatch h
 | succ k ih=>
   intro v acc r hv h;unfold tW at h
   by_cases hv1:v<l.length
   ·have hd:l.drop v=l[v]::l.drop (v+1):=Na hv1;have e:bM l (v:Int)=some l[v]:=by unfold bM;rw [if_pos (by omega),Dv,uX hv1]
    rw [if_pos (zU (by omega)),e,iN] at h;obtain ⟨y,hy,h⟩:=aI h;obtain ⟨_,h⟩:=cH h;rw [cP (n:=(v:Int)+1) (by omega) (by omega),show ((v:Int)+1)=((v+1:Nat):Int) by omega] at h;rw [ih (v+1) _ r (by omega) h,hd,Ms,hf _ (Nb hv1) _ hy];simp
   ·rw [if_neg (by rw [AG];omega)] at h;rw [←bV h,SO (by omega),Ms,iH]
theorem UB:∀n:Nat,(∀(x y:aF) (as:List Int),xz x<=1000000000->qZ n x as=some y->y=fx as x)/\(∀(l r:List aF) (as:List Int),qX l<=1000000000->tI n l as=some r->r=Ms as l):=by
 intro n
 induction n with
 | zero=>exact ⟨λx y as _ h=>(nomatch h),λl r as _ h=>(nomatch h)⟩
 | succ n ih=>
   refine ⟨λx y as hz h=>?_,λl r as hz h=>?_⟩
   ·have h:uN (tI n) n x as=some y:=h;unfold uN at h;rw [PU,iN] at h;obtain ⟨z,hz1,h⟩:=aI h;have:=Bm x;rw [←bV h,FF,ih.2 _ _ _ (by omega) hz1]
   ·have h:tH (qZ n) n l as=some r:=h;unfold tH at h;obtain ⟨z,hz1,h⟩:=aI h;have hl:=zS l;have:=fxL_l1 (λx hx y hy=>ih.1 x y as (Lm (AN hx) hz) hy) (by omega) n 0 [] z (KL _) hz1;rw [←bV h,this];rfl
theorem UA {n:Nat} {x y:aF} {as:List Int} (hz:xz x<=1000000000) (h:qZ n x as=some y):y=fx as x:=(UB n).1 x y as hz h
theorem fxL_of {n:Nat} {l r:List aF} {as:List Int} (hz:qX l<=1000000000) (h:tI n l as=some r):r=Ms as l:=(UB n).2 l r as hz h
inductive QB (as:List Int) (fK:Int) (ps:List aL):List aL->List aF->Nat->List aC->List Int->List aL->Prop
 | nil {vs i}:QB as fK ps vs [] i [] [] vs
 | arr {vs y l i o own vs'}:y.cL=4->QB as fK ps vs l (i+1) o own vs'->QB as fK ps vs (y::l) i o (mp as y.gB::own) vs'
 | val {vs y l i u o own vs'}:y.cL ≠ 4->ps[i]? = some u->QB as fK ps (vs++[u]) l (i+1) o own vs'->QB as fK ps vs (y::l) i (⟨if u.bS=1 then [108,101,116] else [118,97,114],vs.length,0,[fx as y],[],[],fK⟩::o) ((vs.length:Int)::own) vs'
def GF (k n:Nat):List Int:=(List.range n).map λi=>((k+i:Nat):Int)
def tkn (f:aR) (s:aC) (as:List Int) (b:aC):aC:=
 if s.gB=-2 then (if b.fB<0 then { b with fB:=s.fB } else b)
 else if s.gB=-1 then ⟨[118,97,114],-1,f.bU,[],[],[],s.fB⟩ else ⟨[115,101,116],mp as s.gB,0,[],[],[],s.fB⟩
def HP (b:aC) (a:Int):aC:=if b.fB<0 then { b with fB:=a } else b
inductive KD (p:bL):List aL->List aC->List Int->aC->List aC->List aL->Prop
 | nil {vs as b}:KD p vs [] as b [] vs
 | call {vs s l as b f o1 own v1 o2 v2 o3 v3}:s.iD=[99,97,108,108]->bM p.bF s.iE=some f->QB as s.fB f.aW vs s.aP 0 o1 own v1->0<=f.bC->f.bC<=f.aW.length ->
    KD p (v1++f.aW.drop f.bC.toNat) f.bY (own++GF v1.length (f.aW.drop f.bC.toNat).length) (tkn f s as b) o2 v2->KD p v2 l as b o3 v3->KD p vs (s::l) as b ((o1++o2)++o3) v3
 | ret {vs s l as b y r o v}:s.iD=[114,101,116,117,114,110]->s.aP=y::r->b.iD ≠ [118,97,114]->KD p vs l as b o v->KD p vs (s::l) as b ([{ HP b s.fB with iE:=0,aP:=[fx as y] }]++o) v
 | retv {vs s l as b y r o v}:s.iD=[114,101,116,117,114,110]->s.aP=y::r->b.iD=[118,97,114]->KD p (vs++[⟨[],b.iE,0⟩]) l as b o v->KD p vs (s::l) as b ([{ HP b s.fB with gB:=vs.length,iE:=0,aP:=[fx as y] }]++o) v
 | other {vs s l as b o1 v1 o2 v2 o3 v3}:s.iD ≠ [99,97,108,108]->s.iD ≠ [114,101,116,117,114,110]->KD p vs s.bY as b o1 v1->KD p v1 s.gT as b o2 v2->KD p v2 l as b o3 v3 ->
    KD p vs (s::l) as b ([{ s with gB:=mp as s.gB,aP:=Ms as s.aP,bY:=o1,gT:=o2 }]++o3) v3
structure Gt (x r:aJ) (vs:List aL):Prop where
 e:x.e_=0
 p:r.p_=x.p_
 f:r.f_={ x.f_ with aW:=vs }
theorem Gt.vs {x r:aJ} {vs:List aL} (h:Gt x r vs):r.f_.aW=vs:=by rw [h.f]
theorem Gt.trans {x y z:aJ} {vs vs':List aL} (h:Gt x y vs) (k:Gt y z vs'):Gt x z vs':=⟨h.e,k.p.trans h.p,by rw [k.f,h.f]⟩
theorem Gt.refl {x:aJ} (h:x.e_=0):Gt x x x.f_.aW:=⟨h,rfl,rfl⟩
theorem Ge {x r:aJ} (h:dM x=some r) (he:r.e_=0):Gt x r x.f_.aW:=by
 unfold dM at h
 split at h
 ·have:=bV h;rw [←this] at he;cases he
 ·have:=bV h;subst this;exact ⟨he,rfl,rfl⟩
theorem Jn {x:aJ} {v:aL} {r:Int × aJ} (h:dL x v=some r) (he:r.2.e_=0):r.1=(x.f_.aW.length:Int)/\Gt x r.2 (x.f_.aW++[v]):=by
 unfold dL at h
 by_cases hc:(4096:Int)<=x.f_.aW.length
 ·rw [if_pos (zU hc)] at h;have:=bV h;rw [←this] at he;cases he
 ·rw [if_neg (by simpa using hc)] at h;obtain ⟨_,h⟩:=cH h;have:=bV h;subst this;refine ⟨?_,he,rfl,rfl⟩;simp only [mY,dY,eO];rw [cP (by omega) (by omega)];omega
theorem args_s {n:Nat} {s:aC} {as:List Int} {f:aR} (hz:qX s.aP<=1000000000):∀(k v:Nat) (acc:List aC) (own:List Int) (x:aJ) (r:List aC × List Int × aJ),v<=s.aP.length ->
  eI n s as f k acc own (v:Int) x=some r->r.2.2.e_=0->∃o own' vs',r.1=acc++o/\r.2.1=own++own'/\QB as s.fB f.aW x.f_.aW (s.aP.drop v) v o own' vs'/\Gt x r.2.2 vs':=by
 have hl:=zS s.aP;intro k
 induction k with
 | zero=>intro v acc own x r _ h;exact nomatch h
 | succ k ih=>
   intro v acc own x r hv h he;unfold eI at h
   by_cases hv1:v<s.aP.length
   ·have hd:s.aP.drop v=s.aP[v]::s.aP.drop (v+1):=Na hv1;have e:bM s.aP (v:Int)=some s.aP[v]:=by unfold bM;rw [if_pos (by omega),Dv,uX hv1]
    have hn:IntKind.i64.wrap ((v:Int)+1)=((v+1:Nat):Int):=(cP (by omega) (by omega)).trans (by omega);have hxz:xz s.aP[v]<=1000000000:=Lm (AN (Nb hv1)) hz;rw [if_pos (zU (by omega)),e,iN] at h;obtain ⟨y,hy,h⟩:=aI h;rw [hn] at h;obtain ⟨o,own',vs',h1,h2,h3,h4⟩:=ih (v+1) _ _ _ r (by omega) h he
    by_cases h4t:s.aP[v].cL=4
    ·rw [if_pos (by simpa using h4t),PU,iN] at hy;obtain ⟨_,hy⟩:=cH hy;obtain rfl:=bV hy;refine ⟨o,mp as s.aP[v].gB::own',vs',h1,by rw [h2];simp,?_,h4⟩;rw [hd];exact .arr h4t h3
    ·rw [if_neg (by simpa using h4t)] at hy;obtain ⟨u,hu,hy⟩:=aI hy
     have hu':f.aW[v]? = some u:=by
      unfold bM at hu;rw [if_pos (by omega),Dv] at hu;exact hu
     by_cases hk:u.bS=1
     ·rw [if_pos (by simpa using hk)] at hy;obtain ⟨x1,hc,hy⟩:=aI hy;obtain ⟨x2,hf,hy⟩:=aI hy;obtain ⟨_,hy⟩:=cH hy;obtain ⟨x3,hx,hy⟩:=aI hy;obtain ⟨_,hy⟩:=cH hy;obtain rfl:=bV hy;have g4:Gt x2.2 r.2.2 vs':=h4;obtain ⟨f1,f2⟩:=Jn hf g4.e;have c1:=Ge hc f2.e;rw [c1.vs] at f1 f2;refine ⟨_,_,vs',h1.trans (Jv _ _ _),h2.trans (Jv _ _ _),?_,(c1.trans f2).trans g4⟩;rw [hd,UA hxz hx,f1];have:=QB.val (as:=as) (fK:=s.fB) (l:=s.aP.drop (v+1)) (o:=o) (own:=own') (vs':=vs') h4t hu' (by rw [←f2.vs];exact h3);rw [if_pos hk] at this;exact this
     ·rw [if_neg (by simpa using hk)] at hy;obtain ⟨x1,hc,hy⟩:=aI hy;obtain ⟨x2,hf,hy⟩:=aI hy;obtain ⟨_,hy⟩:=cH hy;obtain ⟨x3,hx,hy⟩:=aI hy;obtain ⟨_,hy⟩:=cH hy;obtain rfl:=bV hy;have g4:Gt x2.2 r.2.2 vs':=h4;obtain ⟨f1,f2⟩:=Jn hf g4.e;have c1:=Ge hc f2.e;rw [c1.vs] at f1 f2;refine ⟨_,_,vs',h1.trans (Jv _ _ _),h2.trans (Jv _ _ _),?_,(c1.trans f2).trans g4⟩;rw [hd,UA hxz hx,f1];have:=QB.val (as:=as) (fK:=s.fB) (l:=s.aP.drop (v+1)) (o:=o) (own:=own') (vs':=vs') h4t hu' (by rw [←f2.vs];exact h3);rw [if_neg hk] at this;exact this
   ·rw [if_neg (by rw [AG];omega)] at h;obtain rfl:=bV h;exact ⟨[],[],x.f_.aW,by simp,by simp,by rw [SO (by omega)];exact .nil,.refl he⟩
theorem Rx (k n:Nat):GF k (n+1)=(k:Int)::GF (k+1) n:=by
 unfold GF;rw [List.range_succ_eq_map,gU,xed]
 congr 1
 refine ST λi _=>?_;simp only [Function.comp];omega
theorem call_s {f:aR} (hl:(f.aW.drop f.bC.toNat).length<=1000000000):∀(k v:Nat) (own:List Int) (x:aJ) (r:List Int × aJ),v<=(f.aW.drop f.bC.toNat).length ->
  eH f k own (v:Int) x=some r->r.2.e_=0->r.1=own++GF x.f_.aW.length ((f.aW.drop f.bC.toNat).drop v).length/\Gt x r.2 (x.f_.aW++(f.aW.drop f.bC.toNat).drop v):=by
 intro k
 induction k with
 | zero=>intro v own x r _ h;exact nomatch h
 | succ k ih=>
   intro v own x r hv h he;unfold eH at h
   by_cases hv1:v<(f.aW.drop f.bC.toNat).length
   ·have hd:(f.aW.drop f.bC.toNat).drop v=(f.aW.drop f.bC.toNat)[v]::(f.aW.drop f.bC.toNat).drop (v+1):=Na hv1;have e:bM (f.aW.drop f.bC.toNat) (v:Int)=some (f.aW.drop f.bC.toNat)[v]:=by unfold bM;rw [if_pos (by omega),Dv,uX hv1]
    have hn:IntKind.i64.wrap ((v:Int)+1)=((v+1:Nat):Int):=(cP (by omega) (by omega)).trans (by omega);rw [if_pos (zU (by omega)),e,iN] at h;obtain ⟨y,hy,h⟩:=aI h;obtain ⟨_,h⟩:=cH h;rw [hn] at h;obtain ⟨h1,h2⟩:=ih (v+1) _ _ r (by omega) h he;obtain ⟨f1,f2⟩:=Jn hy h2.e;rw [f2.vs] at h1 h2;rw [hd];refine ⟨?_,?_⟩
    ·rw [h1,f1,dY,Rx,mY,vX,Jv];rfl
    ·have:=f2.trans h2
     rwa [Jv] at this
   ·rw [if_neg (by rw [AG];omega)] at h;obtain rfl:=bV h;rw [SO (by omega)];exact ⟨by simp [GF],by rw [iH];exact .refl he⟩
theorem taken_s {x:aJ} {s b r:aC} {as:List Int} {f:aR} (h:jL x s as b=some r) (hf:bM x.p_.bF s.iE=some f):r=tkn f s as b:=by
 unfold jL at h;rw [hf,iN] at h;unfold tkn
 by_cases h2:s.gB=-2
 ·rw [if_pos (by simpa using h2)] at h;rw [if_pos h2]
  by_cases ha:b.fB<0
  ·rw [if_pos (zU ha)] at h;rw [if_pos ha,←bV h]
  ·rw [if_neg (by simpa using ha)] at h;rw [if_neg ha,←bV h]
 ·rw [if_neg (by simpa using h2)] at h;rw [if_neg h2]
  by_cases h1:s.gB=-1
  ·rw [if_pos (by simpa using h1)] at h;rw [if_pos h1,←bV h]
  ·rw [if_neg (by simpa using h1),PU,iN] at h;rw [if_neg h1,←bV h]
section
variable {p:bL}
theorem Gf {x r:aJ} (h:dM x=some r):r.p_=x.p_:=by
 unfold dM at h
 split at h <;> (rw [←bV h])
theorem Mu {x:aJ} {v:aL} {r:Int × aJ} (h:dL x v=some r):r.2.p_=x.p_:=by
 unfold dL at h
 split at h
 ·rw [←bV h]
 ·obtain ⟨_,h⟩:=cH h;rw [←bV h]
theorem tell_p {x:aJ} {y:aF} {b:aC} {r:aC × aJ} (h:eF x y b=some r):r.2.p_=x.p_:=by
 unfold eF at h
 split at h
 ·obtain ⟨z,hz,h⟩:=aI h;rw [←bV h];exact Mu hz
 ·rw [←bV h]
theorem Vm {n:Nat} {s:aC} {as:List Int} {f:aR}:∀(k:Nat) (v:Int) (acc:List aC) (own:List Int) (x:aJ) (r:List aC × List Int × aJ),eI n s as f k acc own v x=some r->r.2.2.p_=x.p_:=by
 intro k
 induction k with
 | zero=>intro v acc own x r h;exact nomatch h
 | succ k ih=>
   intro v acc own x r h;unfold eI at h
   split at h
   ·obtain ⟨y,hy,h⟩:=aI h;refine (ih _ _ _ _ _ h).trans ?_;obtain ⟨e,_,hy⟩:=aI hy
    split at hy
    ·obtain ⟨_,_,hy⟩:=aI hy;obtain ⟨_,hy⟩:=cH hy;rw [←bV hy]
    ·obtain ⟨_,_,hy⟩:=aI hy
     split at hy
     all_goals
      obtain ⟨x1,h1,hy⟩:=aI hy;obtain ⟨x2,h2,hy⟩:=aI hy;obtain ⟨_,hy⟩:=cH hy;obtain ⟨_,_,hy⟩:=aI hy;obtain ⟨_,hy⟩:=cH hy;rw [←bV hy];exact (Mu h2).trans (Gf h1)
   ·rw [←bV h]
theorem Vb {f:aR}:∀(k:Nat) (v:Int) (own:List Int) (x:aJ) (r:List Int × aJ),eH f k own v x=some r->r.2.p_=x.p_:=by
 intro k
 induction k with
 | zero=>intro v own x r h;exact nomatch h
 | succ k ih=>
   intro v own x r h;unfold eH at h
   split at h
   ·obtain ⟨_,_,h⟩:=aI h;obtain ⟨y,hy,h⟩:=aI h;obtain ⟨_,h⟩:=cH h;exact (ih _ _ _ _ h).trans (Mu hy)
   ·rw [←bV h]
theorem block_p {rec_:aJ->aC->List Int->aC->Option (List aC × aJ)} {l:List aC} {as:List Int} {b:aC} (hr:∀x s out x',rec_ x s as b=some (out,x')->x'.p_=x.p_):∀(k:Nat) (v:Int) (acc:List aC) (x:aJ) (r:(List aC × aJ) ⊕ (List aC × aJ)),
  dF rec_ l as b k acc v x=some r->(r.elim (λz=>z.2.p_) λz=>z.2.p_)=x.p_:=by
 intro k
 induction k with
 | zero=>intro v acc x r h;exact nomatch h
 | succ k ih=>
   intro v acc x r h;unfold dF at h
   split at h
   ·obtain ⟨s,_,h⟩:=aI h
    split at h
    ·rw [←bV h];rfl
    ·obtain ⟨y,hy,h⟩:=aI h;obtain ⟨_,h⟩:=cH h;exact (ih _ _ _ _ h).trans (hr _ _ y.1 y.2 hy)
   ·rw [←bV h];rfl
theorem flP_all:∀n:Nat,
  (∀x l as b out x',dX n x l as b=some (out,x')->x'.p_=x.p_) ∧
  (∀x s as b out x',fI n x s as b=some (out,x')->x'.p_=x.p_) ∧
  (∀x s as b out x',kK n x s as b=some (out,x')->x'.p_=x.p_):=by
 intro n
 induction n with
 | zero=>exact ⟨λ_ _ _ _ _ _ h=>(nomatch h),λ_ _ _ _ _ _ h=>(nomatch h),λ_ _ _ _ _ _ h=>(nomatch h)⟩
 | succ n ih=>
   obtain ⟨ihb,ihs,ihc⟩:=ih;refine ⟨λx l as b out x' h=>?_,λx s as b out x' h=>?_,λx s as b out x' h=>?_⟩
   ·have h:fD (fI n) n x l as b=some (out,x'):=h;unfold fD at h;obtain ⟨y,hy,h⟩:=aI h;have k1:=block_p (λx s out x' h'=>ihs x s as b out x' h') n 0 [] x y hy;cases y with
    | inl z=>obtain ⟨rfl,rfl⟩:=Prod.mk.inj (bV h);exact k1
    | inr z=>obtain rfl:=bV h;exact k1
   ·have h:dW (kK n) (dX n) n x s as b=some (out,x'):=h;unfold dW at h
    split at h
    ·obtain ⟨z,hz1,h⟩:=aI h;obtain ⟨rfl,rfl⟩:=Prod.mk.inj (bV h);exact ihc x s as b z.1 z.2 hz1
    ·obtain ⟨x1,hx1,h⟩:=aI h
     split at h
     ·obtain ⟨y,hy,h⟩:=aI h;obtain ⟨y2,hy2,h⟩:=aI h
      split at h
      all_goals
       obtain ⟨z,hz1,h⟩:=aI h;obtain ⟨rfl,rfl⟩:=Prod.mk.inj (bV h);exact (tell_p hz1).trans (Gf hx1)
     ·obtain ⟨_,_,h⟩:=aI h;obtain ⟨es,hes,h⟩:=aI h;obtain ⟨z1,hz1,h⟩:=aI h;obtain ⟨z2,hz2,h⟩:=aI h;obtain ⟨rfl,rfl⟩:=Prod.mk.inj (bV h);exact (ihb _ _ _ _ z2.1 z2.2 hz2).trans ((ihb _ _ _ _ z1.1 z1.2 hz1).trans (Gf hx1))
   ·have h:fM (dX n) n x s as b=some (out,x'):=h;unfold fM at h;obtain ⟨x1,hx1,h⟩:=aI h;obtain ⟨f,hf,h⟩:=aI h;obtain ⟨z,hz,h⟩:=aI h;obtain ⟨_,h⟩:=cH h;obtain ⟨y,hy,h⟩:=aI h
    have hz2:z.2.2.p_=x1.p_:=by
     unfold mH at hz;obtain ⟨w,hw,hz⟩:=aI hz;rw [←bV hz];exact Vm n 0 [] [] x1 w hw
    have hy2:=(Vb n 0 _ _ y hy).trans (hz2.trans (Gf hx1))
    split at h
    ·obtain ⟨rfl,rfl⟩:=Prod.mk.inj (bV h);exact hy2
    ·obtain ⟨t,ht,h⟩:=aI h;obtain ⟨u,hu,h⟩:=aI h;obtain ⟨_,h⟩:=cH h;obtain ⟨rfl,rfl⟩:=Prod.mk.inj (bV h);exact (ihb _ _ _ _ u.1 u.2 hu).trans hy2
def StF (p:bL) (s:aC) (as:List Int) (b:aC) (x:aJ) (out:List aC) (x':aJ):Prop:=
 (∀l o vs2,KD p x'.f_.aW l as b o vs2->KD p x.f_.aW (s::l) as b (out++o) vs2)/\Gt x x' x'.f_.aW
theorem Sb {rec_:aJ->aC->List Int->aC->Option (List aC × aJ)} {l:List aC} {as:List Int} {b:aC} {C:(List aC × aJ)->Prop} {k:Nat} {v:Int} {acc:List aC} {x:aJ} {r:(List aC × aJ) ⊕ (List aC × aJ)} (he:x.e_ ≠ 0)
  (h:dF rec_ l as b k acc v x=some r):(∀z,r=.inr z->z.2.e_ ≠ 0)/\∀z,r=.inl z->z.2.e_=0->C z:=by
 cases k with
 | zero=>exact nomatch h
 | succ k=>
   unfold dF at h
   split at h
   ·obtain ⟨y,hy,h⟩:=aI h;rw [if_pos (by simpa using he)] at h;obtain rfl:=bV h;refine ⟨λz hz=>?_,λz hz=>(nomatch hz)⟩;cases hz;exact he
   ·obtain rfl:=bV h;refine ⟨λz hz=>(nomatch hz),λz hz hze=>?_⟩;cases hz;exact absurd hze he
theorem block_s {rec_:aJ->aC->List Int->aC->Option (List aC × aJ)} {l:List aC} {as:List Int} {b:aC} (hl:l.length<=1000000000)
  (hr:∀s ∈ l,∀x out x',x.p_=p->rec_ x s as b=some (out,x')->x'.e_=0->StF p s as b x out x'):∀(k v:Nat) (acc:List aC) (x:aJ) (r:(List aC × aJ) ⊕ (List aC × aJ)),v<=l.length->x.p_=p ->
  dF rec_ l as b k acc (v:Int) x=some r->(∀z,r=.inr z->z.2.e_ ≠ 0)/\∀z,r=.inl z->z.2.e_=0->∃o,z.1=acc++o/\KD p x.f_.aW (l.drop v) as b o z.2.f_.aW/\Gt x z.2 z.2.f_.aW:=by
 intro k
 induction k with
 | zero=>intro v acc x r _ _ h;exact nomatch h
 | succ k ih=>
   intro v acc x r hv hp h;unfold dF at h
   by_cases hv1:v<l.length
   ·have hd:l.drop v=l[v]::l.drop (v+1):=Na hv1;have e:bM l (v:Int)=some l[v]:=by unfold bM;rw [if_pos (by omega),Dv,uX hv1]
    have hn:IntKind.i64.wrap ((v:Int)+1)=((v+1:Nat):Int):=(cP (by omega) (by omega)).trans (by omega);rw [if_pos (zU (by omega)),e,iN] at h
    by_cases he:x.e_=0
    ·rw [if_neg (by simp [he])] at h;obtain ⟨y,hy,h⟩:=aI h;obtain ⟨_,h⟩:=cH h;rw [hn] at h;have hy':rec_ x l[v] as b=some (y.1,y.2):=hy
     by_cases hye:y.2.e_=0
     ·obtain ⟨s1,s2⟩:=hr _ (Nb hv1) x y.1 y.2 hp hy' hye;obtain ⟨i1,i2⟩:=ih (v+1) _ _ r (by omega) (s2.p.trans hp) h;refine ⟨i1,λz hz hze=>?_⟩;obtain ⟨o,o1,o2,o3⟩:=i2 z hz hze;exact ⟨y.1++o,by rw [o1,Jv],by rw [hd];exact s1 _ _ _ o2,s2.trans o3⟩
     ·exact Sb hye h
    ·rw [if_pos (by simpa using he)] at h;obtain rfl:=bV h;refine ⟨λz hz=>?_,λz hz=>(nomatch hz)⟩;cases hz;exact he
   ·rw [if_neg (by rw [AG];omega)] at h;obtain rfl:=bV h;refine ⟨λz hz=>(nomatch hz),λz hz hze=>?_⟩;cases hz;exact ⟨[],by simp,by rw [SO (by omega)];exact .nil,.refl hze⟩
theorem bat_op {b:aC} {a:Int}:(HP b a).iD=b.iD/\(HP b a).iE=b.iE:=by unfold HP;split <;> exact ⟨rfl,rfl⟩
theorem tell_s {x:aJ} {y:aF} {b:aC} {r:aC × aJ} (h:eF x y b=some r) (he:r.2.e_=0) :
  (b.iD ≠ [118,97,114]/\r.1={ b with iE:=0,aP:=[y] }/\Gt x r.2 x.f_.aW) ∨ (b.iD=[118,97,114]/\r.1={ b with gB:=x.f_.aW.length,iE:=0,aP:=[y] }/\Gt x r.2 (x.f_.aW++[⟨[],b.iE,0⟩])):=by
 unfold eF at h
 by_cases hv:b.iD=[118,97,114]
 ·rw [if_pos (zU hv)] at h;obtain ⟨z,hz,h⟩:=aI h;obtain rfl:=bV h;obtain ⟨f1,f2⟩:=Jn hz he;exact .inr ⟨hv,by rw [f1],f2⟩
 ·rw [if_neg (by simpa using hv)] at h;obtain rfl:=bV h;exact .inl ⟨hv,rfl,he,rfl,rfl⟩
theorem flB_all (hB:∀f ∈ p.bF,uV f.bY<=1000000000/\f.aW.length<=1000000000):∀n:Nat,
  (∀x l as b out x',x.p_=p->uV l<=1000000000->dX n x l as b=some (out,x')->x'.e_=0->KD p x.f_.aW l as b out x'.f_.aW/\Gt x x' x'.f_.aW) ∧
  (∀x s as b out x',x.p_=p->tz s<=1000000000->fI n x s as b=some (out,x')->x'.e_=0->StF p s as b x out x') ∧
  (∀x s as b out x',s.iD=[99,97,108,108]->x.p_=p->tz s<=1000000000->kK n x s as b=some (out,x')->x'.e_=0->StF p s as b x out x'):=by
 intro n
 induction n with
 | zero=>exact ⟨λ_ _ _ _ _ _ _ _ h=>(nomatch h),λ_ _ _ _ _ _ _ _ h=>(nomatch h),λ_ _ _ _ _ _ _ _ _ h=>(nomatch h)⟩
 | succ n ih=>
   obtain ⟨ihb,ihs,ihc⟩:=ih;refine ⟨λx l as b out x' hp hz h he=>?_,λx s as b out x' hp hz h he=>?_,λx s as b out x' ho hp hz h he=>?_⟩
   ·have h:fD (fI n) n x l as b=some (out,x'):=h;unfold fD at h;obtain ⟨y,hy,h⟩:=aI h;have hlen:=GW l;obtain ⟨k1,k2⟩:=block_s (p:=p) (by omega) (λs hs x out x' hp' h' he'=>ihs x s as b out x' hp' (Lm (LV hs) hz) h' he') n 0 [] x y (KL _) hp hy;cases y with
    | inl z=>
      obtain ⟨rfl,rfl⟩:=Prod.mk.inj (bV h);obtain ⟨o,o1,o2,o3⟩:=k2 z rfl he;rw [o1];exact ⟨o2,o3⟩
    | inr z=>
      obtain rfl:=bV h;exact absurd he (k1 _ rfl)
   ·have h:dW (kK n) (dX n) n x s as b=some (out,x'):=h;unfold dW at h
    by_cases hc:s.iD=[99,97,108,108]
    ·rw [if_pos (zU hc)] at h;obtain ⟨z,hz1,h⟩:=aI h;have h2:=bV h;exact ihc x s as b out x' hc hp hz (by rw [hz1,←h2]) he
    rw [if_neg (by simpa using hc)] at h;obtain ⟨x1,hx1,h⟩:=aI h;have hze:=yP s
    by_cases hr:s.iD=[114,101,116,117,114,110]
    ·rw [if_pos (zU hr)] at h;obtain ⟨y,hy,h⟩:=aI h;obtain ⟨y2,hy2,h⟩:=aI h
     obtain ⟨rs,hrs⟩:∃rs,s.aP=y::rs:=by
      cases hsl:s.aP with
      | nil=>rw [hsl] at hy;exact nomatch hy
      | cons y' rs=>rw [hsl] at hy;exact ⟨rs,by rw [show y'=y from bV hy]⟩
     have hyz:xz y<=1000000000:=by have:=AN (l:=s.aP) (x:=y) (by rw [hrs];exact xem);omega
     have h:(eF x1 y2 (HP b s.fB)).bind (λz=>some ([z.1],z.2))=some (out,x'):=by
      unfold HP
      by_cases ha:b.fB<0
      ·rw [if_pos ha];rw [if_pos (zU ha)] at h;exact h
      ·rw [if_neg ha];rw [if_neg (by simpa using ha)] at h;exact h
     obtain ⟨z,hz1,h⟩:=aI h;obtain ⟨rfl,rfl⟩:=Prod.mk.inj (bV h);have hyx:=UA hyz hy2;obtain ⟨b1,b2⟩:=bat_op (b:=b) (a:=s.fB)
     rcases tell_s hz1 he with ⟨t1,t2,t3⟩ | ⟨t1,t2,t3⟩
     ·have c1:=Ge hx1 t3.e;rw [c1.vs] at t3;refine ⟨λl o vs2 hl=>?_,by rw [t3.vs];exact c1.trans t3⟩;rw [t3.vs] at hl;rw [t2,hyx];exact .ret hr hrs (by rw [←b1];exact t1) hl
     ·have c1:=Ge hx1 t3.e;rw [c1.vs] at t2 t3;refine ⟨λl o vs2 hl=>?_,by rw [t3.vs];exact c1.trans t3⟩;rw [t3.vs,b2] at hl;rw [t2,hyx];exact .retv hr hrs (by rw [←b1];exact t1) hl
    ·rw [if_neg (by simpa using hr),PU,iN] at h;obtain ⟨es,hes,h⟩:=aI h;obtain ⟨z1,hz1,h⟩:=aI h;obtain ⟨z2,hz2,h⟩:=aI h;obtain ⟨rfl,rfl⟩:=Prod.mk.inj (bV h);have hes':=fxL_of (by omega) hes;have p1:=(Gf hx1).trans hp;have p2:=((flP_all n).1 _ _ _ _ z1.1 z1.2 hz1).trans p1;obtain ⟨q3,q4⟩:=ihb z1.2 s.gT as b z2.1 z2.2 p2 (by omega) hz2 he;obtain ⟨q1,q2⟩:=ihb x1 s.bY as b z1.1 z1.2 p1 (by omega) hz1 q4.e;have c1:=Ge hx1 q2.e;refine ⟨λl o vs2 hl=>?_,(c1.trans q2).trans q4⟩;rw [c1.vs] at q1;rw [hes'];exact .other hc hr q1 q3 hl
   ·have h:fM (dX n) n x s as b=some (out,x'):=h;unfold fM at h;have hze:=yP s;obtain ⟨x1,hx1,h⟩:=aI h;obtain ⟨f,hf,h⟩:=aI h;obtain ⟨z,hz1,h⟩:=aI h;obtain ⟨⟨hp0,hp1⟩,h⟩:=cH h;obtain ⟨y,hy,h⟩:=aI h;have p1:=(Gf hx1).trans hp;unfold mH at hz1;obtain ⟨w,hw,hz1⟩:=aI hz1;obtain rfl:=bV hz1;have p2:w.2.2.p_=p:=(Vm n 0 [] [] x1 w hw).trans p1;have p3:y.2.p_=p:=(Vb n 0 _ _ y hy).trans p2
    have hfm:f ∈ p.bF:=by
     rw [p1] at hf;unfold bM at hf
     split at hf
     ·exact ET hf
     ·exact nomatch hf
    have hfb:=hB f hfm
    by_cases hye:y.2.e_=0
    ·rw [if_neg (by simp [hye])] at h;obtain ⟨t,ht,h⟩:=aI h;obtain ⟨u,hu,h⟩:=aI h;obtain ⟨_,h⟩:=cH h;obtain ⟨rfl,rfl⟩:=Prod.mk.inj (bV h);obtain ⟨q1,q2⟩:=ihb y.2 f.bY y.1 t u.1 u.2 p3 hfb.1 hu he;obtain ⟨c1,c2⟩:=call_s (f:=f) (by simp;omega) n 0 _ _ y (KL _) hy hye;obtain ⟨o,own',vs',a1,a2,a3,a4⟩:=args_s (n:=n) (s:=s) (as:=as) (f:=f) (by omega) n 0 [] [] x1 w (KL _) hw c2.e;have k1:=Ge hx1 a4.e;have htk:=taken_s (f:=f) ht (by rw [p3,←p1];exact hf);rw [iF] at c1 c2 a3;rw [gJ] at a1 a2;rw [a4.vs] at c1 c2;rw [k1.vs] at a3;rw [htk,c2.vs,c1,a2] at q1;refine ⟨λl o2 vs2 hl=>?_,((k1.trans a4).trans c2).trans q2⟩;rw [a1];exact .call ho (by rw [←p1];exact hf) a3 hp0 hp1 q1 hl
    ·rw [if_pos (by simpa using hye)] at h;obtain ⟨rfl,rfl⟩:=Prod.mk.inj (bV h);exact absurd he hye
end
end Go.Proofs.YtnnomaboaiokeaaGreatDoor.Abs
namespace Go.Proofs.YtnnomaboaiokeaaGreatDoor.Abs
open Go.RowKit
set_option linter.all false
inductive FB (vs:List aL) (res:Int):Bool->List Int->List aC->List Int->Prop
 | nil {l sc}:FB vs res l sc [] sc
 | let_ {l sc x v u a ss sc'}:TX vs sc x->x.cL=1->bM vs v=some u->u.bS=1->FB vs res l (sc++[v]) ss sc'->FB vs res l sc (⟨[108,101,116],v,0,[x],[],[],a⟩::ss) sc'
 | var_ {l sc x v u a ss sc'}:TX vs sc x->bM vs v=some u->(u.bS=2 ∨ u.bS=3)->KE x.cL u.bS->FB vs res l (sc++[v]) ss sc'->FB vs res l sc (⟨[118,97,114],v,0,[x],[],[],a⟩::ss) sc'
 | arr {l sc v u a ss sc'}:bM vs v=some u->u.bS=4->FB vs res l (sc++[v]) ss sc'->FB vs res l sc (⟨[97,114,114],v,0,[],[],[],a⟩::ss) sc'
 | set {l sc x v u a ss sc'}:TX vs sc x->bM vs v=some u->(u.bS=2 ∨ u.bS=3)->KE x.cL u.bS->FB vs res l (sc++[v]) ss sc'->FB vs res l sc (⟨[115,101,116],v,0,[x],[],[],a⟩::ss) sc'
 | put {l sc v u i x a ss sc'}:v ∈ sc->bM vs v=some u->u.bS=4->TX vs sc i->i.cL=1->(i.iD=[110,117,109]->IntKind.i64.wrap i.N_<u.pI)->TX vs sc x->KE x.cL 2->FB vs res l sc ss sc'->FB vs res l sc (⟨[112,117,116],v,0,[i,x],[],[],a⟩::ss) sc'
 | if_ {l sc c b e a sc1 sc2 ss sc'}:TX vs sc c->c.cL=1->FB vs res false sc b sc1->FB vs res false sc e sc2->FB vs res l sc ss sc'->FB vs res l sc (⟨[105,102],-1,0,[c],b,e,a⟩::ss) sc'
 | for_ {l sc x y v u b a sc1 ss sc'}:TX vs sc x->x.cL=1->TX vs sc y->y.cL=1->bM vs v=some u->u.bS=1->FB vs res false (sc++[v]) b sc1->FB vs res l sc ss sc'->FB vs res l sc (⟨[102,111,114],v,0,[x,y],b,[],a⟩::ss) sc'
 | ret {sc x a}:TX vs sc x->KE x.cL res->FB vs res true sc [⟨[114,101,116,117,114,110],-1,0,[x],[],[],a⟩] sc
section
variable {vs vs':List aL} {res:Int} {l:Bool} {sc sc' sc1:List Int} {ss xs ys:List aC}
theorem FB.mono (hv:vs <+: vs') (h:FB vs res l sc ss sc'):FB vs' res l sc ss sc':=by
 have hs:∀ {sc:List Int} v,v ∈ sc->v ∈ sc:=λ_ h=>h
 induction h with
 | nil=>exact .nil
 | let_ h1 h2 h3 h4 _ ih=>exact .let_ (h1.mono hv hs) h2 (kP hv h3) h4 ih
 | var_ h1 h2 h3 h4 _ ih=>exact .var_ (h1.mono hv hs) (kP hv h2) h3 h4 ih
 | arr h1 h2 _ ih=>exact .arr (kP hv h1) h2 ih
 | set h1 h2 h3 h4 _ ih=>exact .set (h1.mono hv hs) (kP hv h2) h3 h4 ih
 | put h1 h2 h3 h4 h5 h6 h7 h8 _ ih=>exact .put h1 (kP hv h2) h3 (h4.mono hv hs) h5 h6 (h7.mono hv hs) h8 ih
 | if_ h1 h2 _ _ _ i1 i2 i3=>exact .if_ (h1.mono hv hs) h2 i1 i2 i3
 | for_ h1 h2 h3 h4 h5 h6 _ _ i1 i2=>exact .for_ (h1.mono hv hs) h2 (h3.mono hv hs) h4 (kP hv h5) h6 i1 i2
 | ret h1 h2=>exact .ret (h1.mono hv hs) h2
theorem FB.app {l0:Bool} (h:FB vs res l0 sc xs sc1) (h0:l0=false) (k:FB vs res l sc1 ys sc'):FB vs res l sc (xs++ys) sc':=by
 induction h with
 | nil=>exact k
 | let_ h1 h2 h3 h4 _ ih=>exact .let_ h1 h2 h3 h4 (ih h0 k)
 | var_ h1 h2 h3 h4 _ ih=>exact .var_ h1 h2 h3 h4 (ih h0 k)
 | arr h1 h2 _ ih=>exact .arr h1 h2 (ih h0 k)
 | set h1 h2 h3 h4 _ ih=>exact .set h1 h2 h3 h4 (ih h0 k)
 | put h1 h2 h3 h4 h5 h6 h7 h8 _ ih=>exact .put h1 h2 h3 h4 h5 h6 h7 h8 (ih h0 k)
 | if_ h1 h2 h3 h4 _ _ _ ih=>exact .if_ h1 h2 h3 h4 (ih h0 k)
 | for_ h1 h2 h3 h4 h5 h6 h7 _ _ ih=>exact .for_ h1 h2 h3 h4 h5 h6 h7 (ih h0 k)
 | ret=>cases h0
theorem FB.sub (h:FB vs res l sc ss sc'):∀v ∈ sc,v ∈ sc':=by
 induction h with
 | nil=>exact λ_ h=>h
 | let_ _ _ _ _ _ ih=>exact λv hv=>ih v (Ju _ hv)
 | var_ _ _ _ _ _ ih=>exact λv hv=>ih v (Ju _ hv)
 | arr _ _ _ ih=>exact λv hv=>ih v (Ju _ hv)
 | set _ _ _ _ _ ih=>exact λv hv=>ih v (Ju _ hv)
 | put _ _ _ _ _ _ _ _ _ ih=>exact ih
 | if_ _ _ _ _ _ _ _ ih=>exact ih
 | for_ _ _ _ _ _ _ _ _ _ ih=>exact ih
 | ret=>exact λ_ h=>h
end
structure BW (vsC vsX:List aL) (as scC scX:List Int):Prop where
 k:∀v u,bM vsC v=some u->∃u',bM vsX (mp as v)=some u'/\u'.bS=u.bS/\(u.bS=4->u'.pI=u.pI)
 s:∀v ∈ scC,mp as v ∈ scX
section
variable {vsC vsX vsX':List aL} {as scC scX scX':List Int}
theorem BW.mono (h:BW vsC vsX as scC scX) (hv:vsX <+: vsX') (hs:∀v ∈ scX,v ∈ scX'):BW vsC vsX' as scC scX':=
 ⟨λv u hu=>by obtain ⟨u',h1,h2⟩:=h.k v u hu;exact ⟨u',kP hv h1,h2⟩,λv hv=>hs _ (h.s v hv)⟩
theorem BW.snoc (h:BW vsC vsX as scC scX) (n:Int):BW vsC vsX as (scC++[n]) (scX++[mp as n]):=
 ⟨h.k,λv hv=>by
  rcases zC.1 hv with h1 | h1
  ·exact Ju _ (h.s v h1)
  ·rw [Ax.1 h1];exact MP _ (Ax.2 rfl)⟩
theorem FC {as:List Int} {v:Int} (h:v<0):mp as v=v:=if_pos (.inl h)
theorem gQ (as:List Int) (x:aF):(fx as x).cL=x.cL/\(fx as x).iD=x.iD/\(fx as x).N_=x.N_:=by rw [FF];exact ⟨rfl,rfl,rfl⟩
theorem TX.fx (h:BW vsC vsX as scC scX) {x:aF} (hx:TX vsC scC x):TX vsX scX (fx as x):=by
 induction hx with
 | num h1 h2=>rw [FF];simp only [Ms,FC (show (-1:Int)<0 by decide)];exact .num h1 h2
 | var h1 h2 h3=>
   obtain ⟨u',k1,k2,_⟩:=h.k _ _ h2;rw [FF];simp only [Ms];rw [←k2];exact .var (h.s _ h1) k1 (by rw [k2];exact h3)
 | index h1 h2 h3 _ h5 h6 ih=>
   obtain ⟨u',k1,k2,k3⟩:=h.k _ _ h2;rw [FF];simp only [Ms];obtain ⟨p1,p2,p3⟩:=gQ as ‹_›;exact .index (h.s _ h1) k1 (by rw [k2];exact h3) ih (by rw [p1];exact h5) (by rw [p2,p3,k3 h3];exact h6)
 | un h1 _ ih=>
   rw [FF];simp only [Ms,FC (show (-1:Int)<0 by decide)];rw [←(gQ as _).1];exact .un h1 ih
 | bin _ _ hb ih1 ih2=>
   rw [FF];simp only [Ms,FC (show (-1:Int)<0 by decide)];refine .bin ih1 ih2 ?_;unfold Oy at hb ⊢;rw [(gQ as _).1,(gQ as _).1,(gQ as _).2.1,(gQ as _).2.2];exact hb
 | @sel c x y a _ _ _ h1 h2 ih1 ih2 ih3=>
   rw [FF];simp only [Ms,FC (show (-1:Int)<0 by decide)];rw [←(gQ as x).1,←(gQ as y).1];exact .sel ih1 ih2 ih3 (by rw [(gQ as _).1];exact h1) (by rw [(gQ as _).1,(gQ as _).1];exact h2)
 | long _ h1 ih=>
   rw [FF];simp only [Ms,FC (show (-1:Int)<0 by decide)];exact .long ih (by rw [(gQ as _).1];exact h1)
 | wide _ _ h1 h2 ih1 ih2=>
   rw [FF];simp only [Ms,FC (show (-1:Int)<0 by decide)];exact .wide ih1 ih2 (by rw [(gQ as _).1];exact h1) (by rw [(gQ as _).1];exact h2)
 | half h1 _ h2 ih=>
   rw [FF];simp only [Ms,FC (show (-1:Int)<0 by decide)];exact .half h1 ih (by rw [(gQ as _).1];exact h2)
def MM (vsX:List aL) (res resT:Int) (b:aC):Prop:=
 b.bY=[]/\b.gT=[]/\((b.iD=[114,101,116,117,114,110]/\b.gB=-1/\res=resT) ∨ (b.iD=[115,101,116]/\∃u,bM vsX b.gB=some u/\u.bS=res) ∨ (b.iD=[118,97,114]/\b.iE=res))
theorem MM.mono {vsX vsX':List aL} {res resT:Int} {b:aC} (h:MM vsX res resT b) (hv:vsX <+: vsX'):MM vsX' res resT b:=by
 obtain ⟨h1,h2,h3⟩:=h;refine ⟨h1,h2,?_⟩
 rcases h3 with h3 | ⟨h3,u,h4,h5⟩ | h3
 ·exact .inl h3
 ·exact .inr (.inl ⟨h3,u,kP hv h4,h5⟩)
 ·exact .inr (.inr h3)
theorem Ea (b:aC) (a:Int):(HP b a).iD=b.iD/\(HP b a).gB=b.gB/\(HP b a).iE=b.iE/\(HP b a).bY=b.bY/\(HP b a).gT=b.gT:=by unfold HP;split <;> exact ⟨rfl,rfl,rfl,rfl,rfl⟩
theorem MM.bat {vsX:List aL} {res resT:Int} {b:aC} (h:MM vsX res resT b) (a:Int):MM vsX res resT (HP b a):=by
 obtain ⟨b1,b2,b3,b4,b5⟩:=Ea b a;unfold MM;rw [b1,b2,b3,b4,b5];exact h
theorem QB.pre {as:List Int} {fK:Int} {ps vs vs':List aL} {l:List aF} {i:Nat} {o:List aC} {own:List Int} (h:QB as fK ps vs l i o own vs'):vs <+: vs':=by
 induction h with
 | nil=>exact QE _
 | arr _ _ ih=>exact ih
 | val _ _ _ ih=>exact (MZ _ _).trans ih
theorem KD.pre {p:bL} {vs vs':List aL} {l:List aC} {as:List Int} {b:aC} {o:List aC} (h:KD p vs l as b o vs'):vs <+: vs':=by
 induction h with
 | nil=>exact QE _
 | call _ _ h1 _ _ _ _ ih1 ih2=>exact ((h1.pre.trans (MZ _ _)).trans ih1).trans ih2
 | ret _ _ _ _ ih=>exact ih
 | retv _ _ _ _ ih=>exact (MZ _ _).trans ih
 | other _ _ _ _ _ i1 i2 i3=>exact (i1.trans i2).trans i3
theorem QB.ok {resT:Int} {vsC:List aL} {scC:List Int} {as:List Int} {fK:Int} {ps vs vs':List aL} {l:List aF} {i:Nat} {o:List aC} {own:List Int} (h:QB as fK ps vs l i o own vs') (hps:∀u ∈ ps,EW u) (hv:∀u ∈ vsC,EW u) :
  ∀ {scX:List Int},BW vsC vs as scC scX->(∀(k:Nat) p x,ps[i+k]? = some p->l[k]? = some x->GS vsC scC p x)->i+l.length<=ps.length ->
   ∃scX',FB vs' resT false scX o scX'/\own.length=l.length/\∀(k:Nat) p,k<l.length->ps[i+k]? = some p->∃v u,own[k]? = some v/\v ∈ scX'/\bM vs' v=some u/\u.bS=p.bS/\(p.bS=4->u.pI=p.pI):=by
 induction h with
 | nil=>intro scX _ _ _;exact ⟨scX,.nil,rfl,λk p hk=>absurd hk (Nat.not_lt_zero _)⟩
 | @arr vs y l i o own vs' ht h ih=>
   intro scX hm ha hl;simp only [dY] at hl;obtain ⟨scX',g1,g2,g3⟩:=ih hm (λk p x h1 h2=>ha (k+1) p x (by rw [←h1];congr 1;omega) h2) (by omega);refine ⟨scX',g1,by simp only [dY,g2],λk p hk hp=>?_⟩;cases k with
   | zero=>
     have hta:=ha 0 p y hp rfl;cases hta with
     | @arr v u a k1 k2 k3 k4 k5=>
       obtain ⟨u',m1,m2,m3⟩:=hm.k _ _ k3;exact ⟨_,u',rfl,g1.sub _ (hm.s _ k2),kP h.pre m1,by rw [m2,k4,k1],λ_=>by rw [m3 k4,k5]⟩
     | pub k1 k2 k3=>rw [k3] at ht;exact absurd ht (by decide)
     | val k1 k2 k3 k4=>
       have:=hps p (ET hp)
       rcases k4 with k4 | k4
       ·rw [ht] at k4;exact absurd k4.symm k2
       ·rw [k4.1] at ht;exact absurd ht (by decide)
   | succ k=>
     obtain ⟨v,u,q1,q2⟩:=g3 k p (by simpa using hk) (by rw [←hp];congr 1;omega);exact ⟨v,u,q1,q2⟩
 | @val vs y l i u o own vs' ht hu h ih=>
   intro scX hm ha hl;simp only [dY] at hl
   have hnew:bM (vs++[u]) (vs.length:Int)=some u:=by
    unfold bM;rw [if_pos (by omega),Dv,OE (tX _)];simp
   have hm':BW vsC (vs++[u]) as scC (scX++[(vs.length:Int)]):=hm.mono (MZ _ _) λv hv=>Ju _ hv;obtain ⟨scX',g1,g2,g3⟩:=ih hm' (λk p x h1 h2=>ha (k+1) p x (by rw [←h1];congr 1;omega) h2) (by omega);have hpre:=(MZ vs [u]).trans h.pre;have hnew':=kP h.pre hnew;have hta:=ha 0 u y hu rfl;have hsame:∀ {sc:List Int} v,v ∈ sc->v ∈ sc:=λ_ h=>h
   have hpar:∀(k:Nat) p,k<(y::l).length->ps[i+k]? = some p->∃v u',((vs.length:Int)::own)[k]? = some v/\v ∈ scX'/\bM vs' v=some u'/\u'.bS=p.bS/\(p.bS=4->u'.pI=p.pI):=by
    intro k p hk hp;cases k with
    | zero=>
      obtain rfl:u=p:=Option.some.inj (hu.symm.trans hp);exact ⟨_,u,rfl,g1.sub _ (MP _ (Ax.2 rfl)),hnew',rfl,λ_=>rfl⟩
    | succ k=>
      obtain ⟨v,u',q1,q2⟩:=g3 k p (by simpa using hk) (by rw [←hp];congr 1;omega);exact ⟨v,u',q1,q2⟩
   cases hta with
   | arr k1 k2 k3 k4 k5=>exact absurd rfl ht
   | pub k1 k2 k3=>
     rw [if_pos k1];exact ⟨scX',.let_ ((TX.fx hm k2).mono hpre hsame) (by rw [(gQ as y).1];exact k3) hnew' k1 g1,by simp only [dY,g2],hpar⟩
   | val k1 k2 k3 k4=>
     rw [if_neg k1];have:=hps u (ET hu);exact ⟨scX',.var_ ((TX.fx hm k3).mono hpre hsame) hnew' (by have t1:=this.1;have t2:=this.2.1;omega) (by rw [(gQ as y).1];exact k4) g1,by simp only [dY,g2],hpar⟩
end
section
variable {c:aG} {rk:Int->Nat} {resT:Int}
theorem KD.nil_inv {p:bL} {vs v:List aL} {as:List Int} {b:aC} {o:List aC} (h:KD p vs [] as b o v):o=[]/\v=vs:=by cases h;exact ⟨rfl,rfl⟩
def FtyR (c:aG) (resT:Int) (vs:List aL) (l:List aC) (as:List Int) (b:aC) (out:List aC) (vs':List aL):Prop:=
 ∀ {j:Nat} {vsC:List aL} {res:Int} {lf:Bool} {n:Nat} {sc:List Int} {n':Nat} {sc' scX:List Int},TB (Hq c j) vsC res lf n sc l n' sc'->(∀u ∈ vsC,EW u)->(res=0 ∨ res=2 ∨ res=3)->BW vsC vs as sc scX->MM vs res resT b ->
  ∃scX',FB vs' resT (lf && decide (b.iD=[114,101,116,117,114,110])) scX out scX'/\(∀v ∈ sc',mp as v ∈ scX')/\((∃s,l.getLast? = some s/\HI s)->b.iD=[115,101,116]->b.gB ∈ scX')
theorem own_map {fv v1:List aL} {own:List Int} {pn:Nat} {scX1:List Int} (hpn:pn<=fv.length) (hol:own.length=pn) (ho:∀(k:Nat) p,k<pn->fv[0+k]? = some p->∃v u,own[k]? = some v/\v ∈ scX1/\bM v1 v=some u/\u.bS=p.bS/\(p.bS=4->u.pI=p.pI)) :
  BW fv (v1++fv.drop pn) (own++GF v1.length (fv.drop pn).length) (rO pn) scX1:=by
 have hlen:(own++GF v1.length (fv.drop pn).length).length=fv.length:=by
  rw [mY,hol];simp [GF];omega
 have hmp:∀i:Nat,i<fv.length->mp (own++GF v1.length (fv.drop pn).length) (i:Int)=((own++GF v1.length (fv.drop pn).length)[i]?).getD (i:Int):=by
  intro i hi;unfold mp;rw [if_neg (by rw [hlen];omega),Dv]
 refine ⟨λv u hu=>?_,λv hv=>?_⟩
 ·obtain ⟨i,rfl⟩:∃i:Nat,v=(i:Int):=by
   unfold bM at hu
   split at hu
   ·exact ⟨v.toNat,by omega⟩
   ·exact nomatch hu
  have hu':=AW hu;obtain ⟨hil,_⟩:=vQ.1 hu';rw [hmp i hil]
  by_cases hip:i<pn
  ·obtain ⟨v,u',q1,q2,q3,q4,q5⟩:=ho i u hip (by rw [CJ];exact hu');rw [Nc (by omega),q1];exact ⟨u',kP (MZ _ _) q3,q4,q5⟩
  ·have hn:(GF v1.length (fv.drop pn).length)[i - own.length]? = some ((v1.length+(i - pn):Nat):Int):=by
    unfold GF;rw [hY,List.getElem?_range (by rw [PP];omega),hol];rfl
   rw [OE (by omega),hn];refine ⟨u,vU ?_,rfl,λ_=>rfl⟩;rw [OE (by omega),xeh];rw [←hu']
   congr 1
   omega
 ·unfold rO at hv;obtain ⟨i,hi,rfl⟩:=HS.1 hv;have hi:=OD.1 hi;obtain ⟨v,u',q1,q2,_⟩:=ho i fv[i] hi (by rw [CJ];exact uX (by omega));show mp _ (i:Int) ∈ _;rw [hmp i (by omega),Nc (by omega),q1];exact q2
theorem MA (hp:PO c rk) {j:Nat} {vsC vs v1 v2:List aL} {sc scX:List Int} {as own:List Int} {fi r:Int} {ps:List aL} {xs:List aF} {a:Int} {f:aR} {o1 o2:List aC} {b':aC}
  (hsg:Hq c j fi r ps) (hta:CE vsC sc ps xs) (hvC:∀u ∈ vsC,EW u) (hf:bM c.p_.bF fi=some f) (hA:QB as a f.aW vs xs 0 o1 own v1) (hB:KD c.p_ (v1++f.aW.drop f.bC.toNat) f.bY (own++GF v1.length (f.aW.drop f.bC.toNat).length) b' o2 v2)
  (ih:FtyR c resT (v1++f.aW.drop f.bC.toNat) f.bY (own++GF v1.length (f.aW.drop f.bC.toNat).length) b' o2 v2) (hm:BW vsC vs as sc scX) (hbk:MM (v1++f.aW.drop f.bC.toNat) r resT b') :
  ∃scX',FB v2 resT (decide (b'.iD=[114,101,116,117,114,110])) scX (o1++o2) scX'/\(∀v ∈ scX,v ∈ scX')/\(r ≠ 0->b'.iD=[115,101,116]->b'.gB ∈ scX'):=by
 obtain ⟨_,f',hf',hr,hps⟩:=hsg;obtain rfl:f=f':=Option.some.inj (hf.symm.trans hf');subst hr hps
 obtain ⟨fn,rfl⟩:∃k:Nat,fi=(k:Int):=by
  unfold bM at hf
  split at hf
  ·exact ⟨fi.toNat,by omega⟩
  ·exact nomatch hf
 have hfg:=AW hf;have hfm:=ET hfg;have tf:=hp.tf fn f hfg;obtain ⟨vl1,vl2,vl3⟩:=hp.co.vl f hfm;obtain ⟨ki1,ki2⟩:=hp.co.ki f hfm;obtain ⟨sc'',htb⟩:=tf.body;have hpl:(f.aW.take f.bC.toNat).length=f.bC.toNat:=by rw [Jh];omega
 have hxl:xs.length=f.bC.toNat:=hta.1.trans hpl
 obtain ⟨scX1,g1,g2,g3⟩:=hA.ok (resT:=resT) (λu hu=>ki1 u hu) hvC hm (λk p x h1 h2=>by
  have hk:k<xs.length:=(vQ.1 h2).1;refine hta.2 k p x ?_ h2;rw [xee,if_pos (by omega)];rw [←h1];congr 1;omega) (by omega)
 have hmap:=own_map (fv:=f.aW) (v1:=v1) (own:=own) (pn:=f.bC.toNat) (scX1:=scX1) (by omega) (by omega) (λk p hk hpk=>g3 k p (by omega) hpk);obtain ⟨scX2,k1,k2,k3⟩:=ih (j:=fn) htb ki1 ki2 hmap hbk;refine ⟨scX2,?_,λv hv=>k1.sub _ (g1.sub _ hv),λhr0 hop=>k3 (tf.ret hr0) hop⟩;rw [jB] at k1;exact (g1.mono ((MZ _ _).trans hB.pre)).app rfl k1
end
section
variable {c:aG} {rk:Int->Nat} {resT:Int}
theorem uU {s t:aC} {l:List aC} (h:(s::l).getLast? = some t) (hs:¬ HI s) (ht:HI t):∃u,l.getLast? = some u/\HI u:=by
 cases l with
 | nil=>rw [List.getLast?_singleton] at h;rw [Option.some.inj h] at hs;exact absurd ht hs
 | cons x l=>rw [List.getLast?_cons_cons] at h;exact ⟨t,h,ht⟩
theorem fty (hp:PO c rk) {vs vs':List aL} {l:List aC} {as:List Int} {b:aC} {out:List aC} (h:KD c.p_ vs l as b out vs'):FtyR c resT vs l as b out vs':=by
 generalize hcp:c.p_=p at h
 induction h with
 | nil=>
   intro j vsC res lf n sc n' sc' scX htb hv hr hm hb;cases htb;exact ⟨scX,.nil,hm.s,λ⟨s,hs,_⟩=>nomatch hs⟩
 | @call vs s l as b f o1 own v1 o2 v2 o3 v3 ho hf hA hp0 hp1 hB hrest ihB ihR=>
   subst hcp;intro j vsC res lf n sc n' sc' scX htb hv hr hm hb;have hb1:=hb.mono (hA.pre.trans (MZ _ (f.aW.drop f.bC.toNat)));have hpre:=(hA.pre.trans (MZ _ (f.aW.drop f.bC.toNat))).trans hB.pre
   -- a call whose answer goes to a variable
   have toVar:∀ {m:Int} {r:Int} {ps:List aL} {u:aL} {n1:Nat} {sc1:List Int},s.gB=m->m ≠ -1->m ≠ -2->Hq c j s.iE r ps->CE vsC sc ps s.aP->r ≠ 0->bM vsC m=some u->u.bS=r->¬ HI s->TB (Hq c j) vsC res lf n1 sc1 l n' sc'->(∀scX2:List Int,(∀v ∈ scX,v ∈ scX2)->mp as m ∈ scX2->∀v ∈ sc1,mp as v ∈ scX2) ->
     ∃scX',FB v3 resT (lf && decide (b.iD=[114,101,116,117,114,110])) scX ((o1++o2)++o3) scX'/\(∀v ∈ sc',mp as v ∈ scX')/\((∃t,(s::l).getLast? = some t/\HI t)->b.iD=[115,101,116]->b.gB ∈ scX'):=by
    intro m r ps u n1 sc1 e1 e2 e3 hsg hta hr0 hu hk hns htl hsc;obtain ⟨u',w1,w2,w3⟩:=hm.k _ _ hu
    have htk:tkn f s as b=⟨[115,101,116],mp as m,0,[],[],[],s.fB⟩:=by
     unfold tkn;rw [if_neg (by rw [e1];exact e3),if_neg (by rw [e1];exact e2),e1]
    obtain ⟨scX2,g1,g2,g3⟩:=MA (resT:=resT) hp hsg hta hv hf hA hB ihB hm (by
     rw [htk];exact ⟨rfl,rfl,.inr (.inl ⟨rfl,u',kP (hA.pre.trans (MZ _ _)) w1,by rw [w2,hk]⟩)⟩)
    have hin:=g3 hr0 (by rw [htk]);rw [htk] at g1 hin;have hm2:BW vsC v2 as sc1 scX2:=⟨(hm.mono hpre g2).k,hsc scX2 g2 hin⟩;obtain ⟨scX3,q1,q2,q3⟩:=ihR htl hv hr hm2 (hb1.mono hB.pre);refine ⟨scX3,(g1.mono hrest.pre).app (xek (show ¬ ([115,101,116]:cJ)=[114,101,116,117,114,110] by decide)) q1,q2,λ⟨t,ht1,ht2⟩ hop=>q3 (uU ht1 hns ht2) hop⟩
   have tk1:s.gB=-1->tkn f s as b=⟨[118,97,114],-1,f.bU,[],[],[],s.fB⟩:=λh=>by unfold tkn;rw [if_neg (by rw [h];decide),if_pos h]
   have tk2:s.gB=-2->tkn f s as b=HP b s.fB:=λh=>by unfold tkn;rw [if_pos h];rfl
   have e2:∀ {v:Int},0<=v->v ≠ -1/\v ≠ -2:=λh=>⟨by omega,by omega⟩;cases htb with
   | let_=>exact absurd (show ([108,101,116]:cJ)=[99,97,108,108] from ho) (by decide)
   | var_=>exact absurd (show ([118,97,114]:cJ)=[99,97,108,108] from ho) (by decide)
   | arr=>exact absurd (show ([97,114,114]:cJ)=[99,97,108,108] from ho) (by decide)
   | set=>exact absurd (show ([115,101,116]:cJ)=[99,97,108,108] from ho) (by decide)
   | put=>exact absurd (show ([112,117,116]:cJ)=[99,97,108,108] from ho) (by decide)
   | if_=>exact absurd (show ([105,102]:cJ)=[99,97,108,108] from ho) (by decide)
   | for_=>exact absurd (show ([102,111,114]:cJ)=[99,97,108,108] from ho) (by decide)
   | ret=>exact absurd (show ([114,101,116,117,114,110]:cJ)=[99,97,108,108] from ho) (by decide)
   | callv k1 k2 k3 k4 k5 k6=>
     exact toVar rfl (e2 (Int.natCast_nonneg n)).1 (e2 (Int.natCast_nonneg n)).2 k1 k2 k3 (vU k4) k5 (λh=>by rcases h with h | h;exact absurd (show ([99,97,108,108]:cJ)=[114,101,116,117,114,110] from h) (by decide);have:=h.2;simp only at this;omega) k6 (λscX2 h1 h2 v hv=>by
      rcases zC.1 hv with h3 | h3
      ·exact h1 _ (hm.s v h3)
      ·rw [Ax.1 h3];exact h2)
   | calls k1 k2 k3 k4 k5 k6 k7=>
     have hv0:∀ {v:Int} {u:aL},bM vsC v=some u->0<=v:=by
      intro v u h;unfold bM at h
      split at h
      ·assumption
      ·exact nomatch h
     have h0:=hv0 k2;exact toVar rfl (e2 h0).1 (e2 h0).2 k4 k5 (by rcases k3 with k3 | k3 <;> omega) k2 k6.symm (λh=>by rcases h with h | h;exact absurd (show ([99,97,108,108]:cJ)=[114,101,116,117,114,110] from h) (by decide);have:=h.2;simp only at this;omega) k7 (λscX2 h1 h2 v hv=>h1 _ (hm.s v hv))
   | do_ k1 k2 k3=>
     have k1':=k1;obtain ⟨_,f',hf',hr',_⟩:=k1';obtain rfl:f=f':=Option.some.inj (hf.symm.trans hf')
     obtain ⟨scX2,g1,g2,g3⟩:=MA (resT:=resT) hp k1 k2 hv hf hA hB ihB hm (by
      rw [tk1 rfl];exact ⟨rfl,rfl,.inr (.inr ⟨rfl,hr'.symm⟩)⟩)
     rw [tk1 rfl] at g1;have hm2:BW vsC v2 as sc scX2:=hm.mono hpre g2;obtain ⟨scX3,q1,q2,q3⟩:=ihR k3 hv hr hm2 (hb1.mono hB.pre);refine ⟨scX3,(g1.mono hrest.pre).app (xek (show ¬ ([118,97,114]:cJ)=[114,101,116,117,114,110] by decide)) q1,q2,λ⟨t,ht1,ht2⟩ hop=>q3 (uU ht1 (λh=>by rcases h with h | h;exact absurd (show ([99,97,108,108]:cJ)=[114,101,116,117,114,110] from h) (by decide);exact absurd (show (-1:Int)=-2 from h.2) (by decide)) ht2) hop⟩
   | retc k1 k2 k3=>
     obtain ⟨rfl,rfl⟩:=hrest.nil_inv;obtain ⟨scX2,g1,g2,g3⟩:=MA (resT:=resT) hp k1 k3 hv hf hA hB ihB hm (by rw [tk2 rfl];exact hb1.bat _);rw [tk2 rfl] at g1 g3;rw [(Ea b _).1] at g1 g3;rw [(Ea b _).2.1] at g3;rw [iH];exact ⟨scX2,by rw [jB];exact g1,λv hv=>g2 _ (hm.s v hv),λ_ hop=>g3 k2 hop⟩
 | @ret vs s l as b y r o v ho hl hnv hrest ihR=>
   intro j vsC res lf n sc n' sc' scX htb hv hr hm hb;cases htb with
   | let_=>exact absurd (show ([108,101,116]:cJ)=[114,101,116,117,114,110] from ho) (by decide)
   | var_=>exact absurd (show ([118,97,114]:cJ)=[114,101,116,117,114,110] from ho) (by decide)
   | arr=>exact absurd (show ([97,114,114]:cJ)=[114,101,116,117,114,110] from ho) (by decide)
   | set=>exact absurd (show ([115,101,116]:cJ)=[114,101,116,117,114,110] from ho) (by decide)
   | put=>exact absurd (show ([112,117,116]:cJ)=[114,101,116,117,114,110] from ho) (by decide)
   | if_=>exact absurd (show ([105,102]:cJ)=[114,101,116,117,114,110] from ho) (by decide)
   | for_=>exact absurd (show ([102,111,114]:cJ)=[114,101,116,117,114,110] from ho) (by decide)
   | callv=>exact absurd (show ([99,97,108,108]:cJ)=[114,101,116,117,114,110] from ho) (by decide)
   | calls=>exact absurd (show ([99,97,108,108]:cJ)=[114,101,116,117,114,110] from ho) (by decide)
   | do_=>exact absurd (show ([99,97,108,108]:cJ)=[114,101,116,117,114,110] from ho) (by decide)
   | retc=>exact absurd (show ([99,97,108,108]:cJ)=[114,101,116,117,114,110] from ho) (by decide)
   | ret k1 k2 k3=>
     obtain ⟨rfl,rfl⟩:=hrest.nil_inv;have hy:=(List.cons.inj hl).1;rw [hy] at k1 k3;obtain ⟨c1,c2,c3⟩:=hb
     have hst:∀a,({ HP b a with iE:=0,aP:=[fx as y] }:aC)=⟨b.iD,b.gB,0,[fx as y],[],[],(HP b a).fB⟩:=by
      intro a;obtain ⟨b1,b2,b3,b4,b5⟩:=Ea b a;show (⟨(HP b a).iD,(HP b a).gB,0,[fx as y],(HP b a).bY,(HP b a).gT,(HP b a).fB⟩:aC)=_;rw [b1,b2,b4,b5,c1,c2]
     rw [iH,hst]
     rcases c3 with ⟨d1,d2,d3⟩ | ⟨d1,u,d2,d3⟩ | ⟨d1,_⟩
     ·rw [d1,d2];exact ⟨scX,.ret (TX.fx hm k1) (by rw [(gQ as y).1,←d3];exact k3),hm.s,λ_ h=>absurd h (by decide)⟩
     ·rw [d1];exact ⟨scX++[b.gB],.set (TX.fx hm k1) d2 (by omega) (by rw [(gQ as y).1,d3];exact k3) .nil,λv hv=>Ju _ (hm.s v hv),λ_ _=>MP _ (Ax.2 rfl)⟩
     ·exact absurd d1 hnv
 | @retv vs s l as b y r o v ho hl hv0 hrest ihR=>
   intro j vsC res lf n sc n' sc' scX htb hv hr hm hb;cases htb with
   | let_=>exact absurd (show ([108,101,116]:cJ)=[114,101,116,117,114,110] from ho) (by decide)
   | var_=>exact absurd (show ([118,97,114]:cJ)=[114,101,116,117,114,110] from ho) (by decide)
   | arr=>exact absurd (show ([97,114,114]:cJ)=[114,101,116,117,114,110] from ho) (by decide)
   | set=>exact absurd (show ([115,101,116]:cJ)=[114,101,116,117,114,110] from ho) (by decide)
   | put=>exact absurd (show ([112,117,116]:cJ)=[114,101,116,117,114,110] from ho) (by decide)
   | if_=>exact absurd (show ([105,102]:cJ)=[114,101,116,117,114,110] from ho) (by decide)
   | for_=>exact absurd (show ([102,111,114]:cJ)=[114,101,116,117,114,110] from ho) (by decide)
   | callv=>exact absurd (show ([99,97,108,108]:cJ)=[114,101,116,117,114,110] from ho) (by decide)
   | calls=>exact absurd (show ([99,97,108,108]:cJ)=[114,101,116,117,114,110] from ho) (by decide)
   | do_=>exact absurd (show ([99,97,108,108]:cJ)=[114,101,116,117,114,110] from ho) (by decide)
   | retc=>exact absurd (show ([99,97,108,108]:cJ)=[114,101,116,117,114,110] from ho) (by decide)
   | ret k1 k2 k3=>
     obtain ⟨rfl,rfl⟩:=hrest.nil_inv;have hy:=(List.cons.inj hl).1;rw [hy] at k1 k3;obtain ⟨c1,c2,c3⟩:=hb
     have hst:∀a,({ HP b a with gB:=(vs.length:Int),iE:=0,aP:=[fx as y] }:aC)=⟨b.iD,(vs.length:Int),0,[fx as y],[],[],(HP b a).fB⟩:=by
      intro a;obtain ⟨b1,b2,b3,b4,b5⟩:=Ea b a;show (⟨(HP b a).iD,(vs.length:Int),0,[fx as y],(HP b a).bY,(HP b a).gT,(HP b a).fB⟩:aC)=_;rw [b1,b4,b5,c1,c2]
     have hnew:bM (vs++[⟨[],b.iE,0⟩]) (vs.length:Int)=some (⟨[],b.iE,0⟩:aL):=by
      unfold bM;rw [if_pos (by omega),Dv,OE (tX _)];simp
     rw [iH,hst,hv0]
     rcases c3 with ⟨d1,_⟩ | ⟨d1,_⟩ | ⟨_,d2⟩
     ·rw [hv0] at d1;exact absurd d1 (by decide)
     ·rw [hv0] at d1;exact absurd d1 (by decide)
     ·exact ⟨scX++[(vs.length:Int)],.var_ ((TX.fx hm k1).mono (MZ _ _) (λ_ h=>h)) hnew (by simp only;omega) (by rw [(gQ as y).1];simp only [d2];exact k3) .nil,λv hv=>Ju _ (hm.s v hv),λ_ h=>absurd h (by decide)⟩
 | @other vs s l as b o1 v1 o2 v2 o3 v3 h1 h2 hb1 hb2 hrest i1 i2 ihR=>
   intro j vsC res lf n sc n' sc' scX htb hv hr hm hb;have hsm:∀ {sc:List Int} v,v ∈ sc->v ∈ sc:=λ_ h=>h;have hns:¬ HI s:=λh=>by rcases h with h | h;exact h2 h;exact h1 h.1
   cases htb with
   | callv=>exact absurd rfl h1
   | calls=>exact absurd rfl h1
   | do_=>exact absurd rfl h1
   | retc=>exact absurd rfl h1
   | ret=>exact absurd rfl h2
   | let_ k1 k2 k3 k4 k5=>
     obtain ⟨rfl,rfl⟩:=hb1.nil_inv;obtain ⟨rfl,rfl⟩:=hb2.nil_inv;obtain ⟨u',w1,w2,w3⟩:=hm.k _ _ (vU k3);obtain ⟨scX3,q1,q2,q3⟩:=ihR k5 hv hr (hm.snoc _) hb;exact ⟨scX3,.let_ ((TX.fx hm k1).mono hrest.pre hsm) (by rw [(gQ as _).1];exact k2) (kP hrest.pre w1) (by rw [w2];exact k4) q1,q2,λ⟨t,ht1,ht2⟩ hop=>q3 (uU ht1 hns ht2) hop⟩
   | var_ k1 k3 k4 k5=>
     obtain ⟨rfl,rfl⟩:=hb1.nil_inv;obtain ⟨rfl,rfl⟩:=hb2.nil_inv;obtain ⟨u',w1,w2,w3⟩:=hm.k _ _ (vU k3);obtain ⟨scX3,q1,q2,q3⟩:=ihR k5 hv hr (hm.snoc _) hb;have hrg:=k1.range hv;have hk:u'.bS=HZ _:=w2.trans k4;exact ⟨scX3,.var_ ((TX.fx hm k1).mono hrest.pre hsm) (kP hrest.pre w1) (by rw [hk];unfold HZ;split <;> omega) (by rw [(gQ as _).1,hk];unfold KE HZ;split <;> omega) q1,q2,λ⟨t,ht1,ht2⟩ hop=>q3 (uU ht1 hns ht2) hop⟩
   | arr k3 k4 k5=>
     obtain ⟨rfl,rfl⟩:=hb1.nil_inv;obtain ⟨rfl,rfl⟩:=hb2.nil_inv;obtain ⟨u',w1,w2,w3⟩:=hm.k _ _ (vU k3);obtain ⟨scX3,q1,q2,q3⟩:=ihR k5 hv hr (hm.snoc _) hb;exact ⟨scX3,.arr (kP hrest.pre w1) (by rw [w2];exact k4) q1,q2,λ⟨t,ht1,ht2⟩ hop=>q3 (uU ht1 hns ht2) hop⟩
   | set k1 k2 k3 k4 k5 k6=>
     obtain ⟨rfl,rfl⟩:=hb1.nil_inv;obtain ⟨rfl,rfl⟩:=hb2.nil_inv;obtain ⟨u',w1,w2,w3⟩:=hm.k _ _ k2;obtain ⟨scX3,q1,q2,q3⟩:=ihR k6 hv hr (hm.mono (QE _) λv hv=>Ju _ hv) hb;exact ⟨scX3,.set ((TX.fx hm k4).mono hrest.pre hsm) (kP hrest.pre w1) (by rw [w2];exact k3) (by rw [(gQ as _).1,w2];exact k5) q1,q2,λ⟨t,ht1,ht2⟩ hop=>q3 (uU ht1 hns ht2) hop⟩
   | put k1 k2 k3 k4 k5 k6 k7 k8 k9=>
     obtain ⟨rfl,rfl⟩:=hb1.nil_inv;obtain ⟨rfl,rfl⟩:=hb2.nil_inv;obtain ⟨u',w1,w2,w3⟩:=hm.k _ _ k2;obtain ⟨scX3,q1,q2,q3⟩:=ihR k9 hv hr hm hb;exact ⟨scX3,.put (hm.s _ k1) (kP hrest.pre w1) (by rw [w2];exact k3) ((TX.fx hm k4).mono hrest.pre hsm) (by rw [(gQ as _).1];exact k5) (by rw [(gQ as _).2.1,(gQ as _).2.2,w3 k3];exact k6) ((TX.fx hm k7).mono hrest.pre hsm) (by rw [(gQ as _).1];exact k8) q1,q2,λ⟨t,ht1,ht2⟩ hop=>q3 (uU ht1 hns ht2) hop⟩
   | if_ k1 k2 k3 k4 k5=>
     obtain ⟨sa,p1,p2,p3⟩:=i1 k3 hv hr hm hb;obtain ⟨sb,r1,r2,r3⟩:=i2 k4 hv hr (hm.mono hb1.pre hsm) (hb.mono hb1.pre);obtain ⟨scX3,q1,q2,q3⟩:=ihR k5 hv hr (hm.mono (hb1.pre.trans hb2.pre) hsm) (hb.mono (hb1.pre.trans hb2.pre));rw [Bool.false_and] at p1 r1;have hpre:=(hb1.pre.trans hb2.pre).trans hrest.pre;refine ⟨scX3,?_,q2,λ⟨t,ht1,ht2⟩ hop=>q3 (uU ht1 hns ht2) hop⟩;simp only [Ms,FC (show (-1:Int)<0 by decide)];exact .if_ ((TX.fx hm k1).mono hpre hsm) (by rw [(gQ as _).1];exact k2) (p1.mono (hb2.pre.trans hrest.pre)) (r1.mono hrest.pre) q1
   | for_ k1 k2 k3 k4 k5 k6 k7 k8=>
     obtain ⟨rfl,rfl⟩:=hb2.nil_inv;obtain ⟨u',w1,w2,w3⟩:=hm.k _ _ (vU k5);obtain ⟨sa,p1,p2,p3⟩:=i1 k7 hv hr (hm.snoc _) hb;obtain ⟨scX3,q1,q2,q3⟩:=ihR k8 hv hr (hm.mono hb1.pre hsm) (hb.mono hb1.pre);rw [Bool.false_and] at p1;have hpre:=hb1.pre.trans hrest.pre;exact ⟨scX3,.for_ ((TX.fx hm k1).mono hpre hsm) (by rw [(gQ as _).1];exact k2) ((TX.fx hm k3).mono hpre hsm) (by rw [(gQ as _).1];exact k4) (kP hpre w1) (by rw [w2];exact k6) (p1.mono hrest.pre) q1,q2,λ⟨t,ht1,ht2⟩ hop=>q3 (uU ht1 hns ht2) hop⟩
theorem Uc (v:Int):mp [] v=v:=by
 unfold mp;rw [if_pos (by simp;omega)]
theorem Flat_ty (hp:PO c rk) {n:Nat} {i:Int} {r:aR × Int} (h:wS n c.p_ i=some r) (he:r.2=0) :
  ∃(k:Nat) (fn:aR),i=(k:Int)/\c.p_.bF[k]? = some fn/\r.1={ fn with aW:=r.1.aW,bY:=r.1.bY }/\fn.aW <+: r.1.aW ∧
   KD c.p_ fn.aW fn.bY [] ⟨[114,101,116,117,114,110],-1,0,[],[],[],-1⟩ r.1.bY r.1.aW/\∃sc',FB r.1.aW fn.bU true (rO fn.bC.toNat) r.1.bY sc':=by
 unfold wS at h;obtain ⟨y,hy,h⟩:=aI h;cases y with
 | true=>
   rw [if_pos rfl] at h;rw [←bV h] at he;exact absurd he (by decide)
 | false=>
   rw [if_neg (by decide)] at h;obtain ⟨fn,hfn,h⟩:=aI h;obtain ⟨_,h⟩:=cH h;obtain ⟨z,hz,h⟩:=aI h
   obtain ⟨k,hk⟩:∃k:Nat,i=(k:Int):=by
    unfold bM at hfn
    split at hfn
    ·exact ⟨i.toNat,by omega⟩
    ·exact nomatch hfn
   rw [hk] at hfn;have hfg:=AW hfn
   by_cases hze:z.2.e_=0
   ·rw [if_neg (by simp [hze])] at h;obtain rfl:=bV h;have hB:∀f ∈ c.p_.bF,uV f.bY<=1000000000/\f.aW.length<=1000000000:=λf hf=>⟨by have:=hp.sz f hf;omega,by have:=(hp.co.vl f hf).1;omega⟩;have hfm:=ET hfg;obtain ⟨g1,g2⟩:=(flB_all hB n).1 ⟨c.p_,fn,0,0⟩ fn.bY [] _ z.1 z.2 rfl (hB fn hfm).1 hz hze;have tf:=hp.tf k fn hfg;obtain ⟨sc',htb⟩:=tf.body;obtain ⟨ki1,ki2⟩:=hp.co.ki fn hfm;have hmap:BW fn.aW fn.aW [] (rO fn.bC.toNat) (rO fn.bC.toNat):=⟨λv u hu=>⟨u,by rw [Uc];exact hu,rfl,λ_=>rfl⟩,λv hv=>by rw [Uc];exact hv⟩;obtain ⟨scX,k1,_,_⟩:=fty (resT:=fn.bU) hp g1 htb ki1 ki2 hmap ⟨rfl,rfl,.inl ⟨rfl,rfl,rfl⟩⟩;have hvs:z.2.f_={ fn with aW:=z.2.f_.aW }:=g2.f;refine ⟨k,fn,hk,hfg,?_,g1.pre,g1,scX,k1⟩;show ({ z.2.f_ with bY:=z.1 }:aR)=_;rw [hvs]
   ·rw [if_pos (by simpa using hze)] at h;rw [←bV h] at he;exact absurd he hze
end
