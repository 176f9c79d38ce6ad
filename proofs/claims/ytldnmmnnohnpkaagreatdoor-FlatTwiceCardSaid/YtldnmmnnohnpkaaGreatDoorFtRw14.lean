/-
 The rows of expressions and statements, as the statements of layer 14 list them.
-/
import Derived.Test.YtldnmmnnohnpkaaGreatDoorFtGFm
import Derived.Test.YtldnmmnnohnpkaaGreatDoorFtTyp
namespace Go.Proofs.YtldnmmnnohnpkaaGreatDoor.Abs
open Go.RowKit
set_option linter.unusedVariables false
inductive OpB:zaf->Prop
 | mk {x}:x.Op_.length<=16->(∀y ∈ x.zas,OpB y)->OpB x
inductive StB:zac->Prop
 | mk {s}:(∀x ∈ s.zas,OpB x)->(∀t ∈ s.zba,StB t)->(∀t ∈ s.zeO,StB t)->StB s
theorem OpB.nil {o:Str} {t k v a:Int} (h:o.length<=16):OpB ⟨o,t,k,v,[],a⟩:=.mk h fun y hy=>nomatch hy
theorem all1 {α:Type} {P:α->Prop} {x:α} (h:P x):∀y ∈ [x],P y:=fun y hy=>by obtain rfl:=List.mem_singleton.1 hy;exact h
theorem all2 {α:Type} {P:α->Prop} {x y:α} (h:P x) (k:P y):∀z ∈ [x,y],P z:=fun z hz=>by
 rcases List.mem_cons.1 hz with rfl | hz
 ·exact h
 ·exact all1 k z hz
theorem all3 {α:Type} {P:α->Prop} {x y z:α} (h:P x) (k:P y) (l:P z):∀u ∈ [x,y,z],P u:=fun u hu=>by
 rcases List.mem_cons.1 hu with rfl | hu
 ·exact h
 ·exact all2 k l u hu
theorem BinT.len {o:Str} {x y:zaf} {t:Int} (h:BinT o x y t):o.length<=16:=by
 rcases h with ⟨h,_⟩ | ⟨h,_⟩ | ⟨h,_⟩ | ⟨h,_⟩ | ⟨h,_⟩
 ·rcases h with rfl | rfl <;> decide
 ·rcases h with rfl | rfl | rfl <;> decide
 ·subst h;decide
 ·rcases h with rfl | rfl <;> decide
 ·rcases h with rfl | rfl | rfl | rfl | rfl <;> decide
section
variable {vs:List zar} {sc:List Int}
theorem TX.opB {x:zaf} (h:TX vs sc x):OpB x:=by
 induction h with
 | num=>exact .nil (by decide)
 | var _ _ _=>exact .nil (by decide)
 | index _ _ _ _ _ _ ih=>exact .mk (by simp only;decide) (all1 ih)
 | un h _ ih=>exact .mk (by simp only;rcases h with rfl | rfl <;> decide) (all1 ih)
 | bin _ _ h ih1 ih2=>exact .mk h.len (all2 ih1 ih2)
 | sel _ _ _ _ _ ih1 ih2 ih3=>exact .mk (by simp only;decide) (all3 ih1 ih2 ih3)
 | long _ _ ih=>exact .mk (by simp only;decide) (all1 ih)
 | wide _ _ _ _ ih1 ih2=>exact .mk (by simp only;decide) (all2 ih1 ih2)
 | half h _ _ ih=>exact .mk (by simp only;rcases h with rfl | rfl <;> decide) (all1 ih)
theorem TArg.opB {p:zar} {x:zaf} (h:TArg vs sc p x):OpB x:=by
 cases h with
 | arr _ _ _ _ _=>exact .nil (by decide)
 | pub _ h _=>exact h.opB
 | val _ _ h _=>exact h.opB
theorem zla.each {ps:List zar} {l:List zaf} (h:zla vs sc ps l) {x:zaf} (hx:x ∈ l):∃p ∈ ps,TArg vs sc p x:=by
 obtain ⟨i,hi⟩:=List.getElem?_of_mem hx;have hlt:=(List.getElem?_eq_some_iff.1 hi).1;exact ⟨ps[i]'(by rw [←h.1];exact hlt),List.getElem_mem _,h.2 i _ x (List.getElem?_eq_getElem _) hi⟩
variable {sg:SigT} {res:Int} {l:Bool} {n n':Nat} {sc':List Int} {ss:List zac}
theorem zhq {α:Type} {P:α->Prop} {x:α} {l:List α} (h:P x) (k:∀y ∈ l,P y):∀y ∈ x::l,P y:=fun y hy=>by
 rcases List.mem_cons.1 hy with rfl | hy
 ·exact h
 ·exact k y hy
theorem ziR {α:Type} {P:α->Prop}:∀y ∈ ([]:List α),P y:=fun y hy=>nomatch hy
end
def rowX (x:zaf):zal:=⟨[61]++x.Op_,[],x.zbg,IntKind.i64.wrap x.N_,x.Var_,x.zas.length,0,x.At_⟩
def rowS (s:zac):zal:=⟨s.Op_,[],s.Var_,s.zeD,s.zas.length,s.zba.length,s.zeO.length,s.At_⟩
mutual
def zpG:zaf->List zal
 | ⟨o,t,n,v,l,a⟩=>rowX ⟨o,t,n,v,l,a⟩::zh7 l
def zh7:List zaf->List zal
 | []=>[]
 | x::l=>zpG x++zh7 l
end
mutual
def zpI:zac->List zal
 | ⟨o,v,f,l,b,e,a⟩=>rowS ⟨o,v,f,l,b,e,a⟩::(zh7 l++(zhI b++zhI e))
def zhI:List zac->List zal
 | []=>[]
 | x::l=>zpI x++zhI l
end
theorem rowsX_eq (x:zaf):zpG x=rowX x::zh7 x.zas:=by cases x;rw [zpG]
theorem rowsS_eq (s:zac):zpI s=rowS s::(zh7 s.zas++(zhI s.zba++zhI s.zeO)):=by cases s;rw [zpI]
mutual
theorem zpF:∀x:zaf,(zpG x).length=xz x
 | ⟨o,t,n,v,l,a⟩=>by rw [zpG,xz,List.length_cons,zh6 l,Nat.add_comm]
theorem zh6:∀l:List zaf,(zh7 l).length=xzL l
 | []=>by rw [zh7,xzL];rfl
 | x::l=>by rw [zh7,xzL,List.length_append,zpF x,zh6 l]
end
mutual
theorem zpH:∀x:zac,(zpI x).length=tz x
 | ⟨o,v,f,l,b,e,a⟩=>by rw [zpI,tz,List.length_cons,List.length_append,List.length_append,zh6 l,zg7 b,zg7 e];omega
theorem zg7:∀l:List zac,(zhI l).length=tzL l
 | []=>by rw [zhI,tzL];rfl
 | x::l=>by rw [zhI,tzL,List.length_append,zpH x,zg7 l]
end
theorem zoX {f:List zaf->Option (List zal)} {l:List zaf} (hf:∀x ∈ l,f x.zas=some (zh7 x.zas)) (ho:∀x ∈ l,OpB x) :
  ∀(k v:Nat) (acc:List zal),l.length<v+k->v<=l.length->acc.length+xzL (l.drop v)<=1073741824->l.length<=1073741824->zcg f l k acc (v:Int)=some (acc++zh7 (l.drop v)):=by
 intro k
 induction k with
 | zero=>intro v acc h1 h2;omega
 | succ k ih=>
   intro v acc h1 h2 h3 h4;unfold zcg
   by_cases hv:v<l.length
   ·have hd:l.drop v=l[v]::l.drop (v+1):=List.drop_eq_getElem_cons hv;have e:idxL l (v:Int)=some l[v]:=zgq (List.getElem?_eq_getElem hv);have hm:l[v] ∈ l:=List.getElem_mem hv;have hlen:=zh6 (l[v]).zas;have hz:=zke l[v];rw [hd,xzL] at h3;obtain ⟨hop,_⟩:=ho _ hm;rw [if_pos (decide_eq_true (by omega)),e,Option.bind_some,zhk (by simp only [List.length_cons,List.length_nil];omega),zhk (by simp only [List.length_cons,List.length_nil];omega),hf _ hm,Option.bind_some,zhk (by simp only [List.length_append,List.length_singleton];omega)];rw [zcG (n:=(v:Int)+1) (by omega) (by omega),show ((v:Int)+1)=((v+1:Nat):Int) by omega,ih (v+1) _ (by omega) (by omega) (by simp only [List.length_append,List.length_singleton];omega) h4,hd,zh7,rowsX_eq];simp only [List.append_assoc,List.cons_append,List.nil_append,rowX]
   ·rw [if_neg (by rw [decide_eq_true_eq];omega),List.drop_eq_nil_of_le (by omega),zh7,List.append_nil]
theorem zoY:∀(n:Nat) (l:List zaf),xzL l+1<n->xzL l<=100000000->(∀x ∈ l,OpB x)->zc2 n l=some (zh7 l):=by
 intro n
 induction n with
 | zero=>intro l h;omega
 | succ n ih=>
   intro l h hb ho;show zdi (zc2 n) n l=_;unfold zdi;have hl:=zno l
   have:=zoX (f:=zc2 n) (l:=l) (fun x hx=>by
    have h1:=znn hx;have h2:=zke x;obtain ⟨_,h3⟩:=ho x hx;exact ih _ (by omega) (by omega) h3) ho n 0 [] (by omega) (by omega) (by simp only [List.length_nil,List.drop_zero];omega) (by omega)
   rw [show ((0:Nat):Int)=0 from rfl] at this;rw [this,Option.bind_some,List.nil_append,List.drop_zero]
theorem zov {f:List zac->Option (List zal)} {n:Nat} {l:List zac} (hf:∀x ∈ l,f x.zba=some (zhI x.zba)/\f x.zeO=some (zhI x.zeO)) (ho:∀x ∈ l,StB x) (hn:tzL l<n) (hb:tzL l<=100000000) :
  ∀(k v:Nat) (acc:List zal),l.length<v+k->v<=l.length->acc.length+tzL (l.drop v)<=1073741824->zcf f n l k acc (v:Int)=some (acc++zhI (l.drop v)):=by
 intro k
 induction k with
 | zero=>intro v acc h1 h2;omega
 | succ k ih=>
   intro v acc h1 h2 h3;have hll:=zmc l;unfold zcf
   by_cases hv:v<l.length
   ·have hd:l.drop v=l[v]::l.drop (v+1):=List.drop_eq_getElem_cons hv;have e:idxL l (v:Int)=some l[v]:=zgq (List.getElem?_eq_getElem hv);have hm:l[v] ∈ l:=List.getElem_mem hv;have hmz:=zmb hm;have hlen:=zh6 (l[v]).zas;have hlen2:=zg7 (l[v]).zba;have hlen3:=zg7 (l[v]).zeO;have hz:=zj0 l[v];rw [hd,tzL] at h3;obtain ⟨hop,_,_⟩:=ho _ hm;rw [if_pos (decide_eq_true (by omega)),e,Option.bind_some,zhk (by simp only [List.length_cons,List.length_nil];omega),zoY n _ (by omega) (by omega) hop,Option.bind_some,zhk (by simp only [List.length_append,List.length_singleton];omega),(hf _ hm).1,Option.bind_some,zhk (by simp only [List.length_append,List.length_singleton];omega),(hf _ hm).2,Option.bind_some,zhk (by simp only [List.length_append,List.length_singleton];omega)];rw [zcG (n:=(v:Int)+1) (by omega) (by omega),show ((v:Int)+1)=((v+1:Nat):Int) by omega,ih (v+1) _ (by omega) (by omega) (by simp only [List.length_append,List.length_singleton];omega),hd,zhI,rowsS_eq];simp only [List.append_assoc,List.cons_append,List.nil_append,rowS]
   ·rw [if_neg (by rw [decide_eq_true_eq];omega),List.drop_eq_nil_of_le (by omega),zhI,List.append_nil]
theorem zlT:∀(n:Nat) (l:List zac),tzL l+1<n->tzL l<=100000000->(∀x ∈ l,StB x)->zcH n l=some (zhI l):=by
 intro n
 induction n with
 | zero=>intro l h;omega
 | succ n ih=>
   intro l h hb ho;show zdh (zcH n) n l=_;unfold zdh;have hl:=zmc l
   have:=zov (f:=zcH n) (n:=n) (l:=l) (fun x hx=>by
    have h1:=zmb hx;have h2:=zj0 x;obtain ⟨_,h3,h4⟩:=ho x hx;exact ⟨ih _ (by omega) (by omega) h3,ih _ (by omega) (by omega) h4⟩) ho (by omega) hb n 0 [] (by omega) (by omega) (by simp only [List.length_nil,List.drop_zero];omega)
   rw [show ((0:Nat):Int)=0 from rfl] at this;rw [this,Option.bind_some,List.nil_append,List.drop_zero]
end Go.Proofs.YtldnmmnnohnpkaaGreatDoor.Abs
namespace Go.Proofs.YtldnmmnnohnpkaaGreatDoor.Abs
open Go.RowKit
set_option linter.unusedVariables false
theorem zmG {v:Int} {as:List Int}:Tot (zjG v as) fun r=>as=[]->r=v:=by
 unfold zjG;refine Tot.bind (P:=fun y=>y=true ∨ y=false/\0<=v/\v<as.length) ?_ fun y hy=>?_
 ·refine Tot.iteb (fun _=>.some (.inl rfl)) fun h=>.some ?_;have h:=of_decide_eq_false h
  by_cases h2:(as.length:Int)<=v
  ·exact .inl (decide_eq_true h2)
  ·exact .inr ⟨decide_eq_false h2,by omega,by omega⟩
 ·refine Tot.iteb (fun _=>.some fun _=>rfl) fun h=>?_
  rcases hy with e | ⟨_,h0,h1⟩
  ·rw [e] at h;cases h
  ·exact (Tot.idx h0 h1 (Q:=fun _=>True) fun _ _=>trivial).bind fun x _=>.some fun e=>by rw [e] at h1;simp at h1;omega
structure XR (as:List Int) (x y:zaf):Prop where
 sz:xz y=xz x
 op:OpB x->OpB y
 id:as=[]->y=x
structure XLR (as:List Int) (l r:List zaf):Prop where
 len:r.length=l.length
 sz:xzL r=xzL l
 op:(∀x ∈ l,OpB x)->∀y ∈ r,OpB y
 id:as=[]->r=l
theorem XLR.nil {as:List Int}:XLR as [] []:=⟨rfl,rfl,fun h=>h,fun _=>rfl⟩
theorem XLR.cons {as:List Int} {x y:zaf} {l r:List zaf} (h:XR as x y) (k:XLR as l r):XLR as (x::l) (y::r):=
 ⟨by rw [List.length_cons,List.length_cons,k.len],by rw [xzL,xzL,h.sz,k.sz],fun ho=>zhq (h.op (ho x List.mem_cons_self)) (k.op fun z hz=>ho z (List.mem_cons_of_mem _ hz)),fun e=>by rw [h.id e,k.id e]⟩
theorem zqe {f:zaf->List Int->Option zaf} {l:List zaf} {as:List Int} (hf:∀x ∈ l,Tot (f x as) (XR as x)) (hl:l.length<=100000000) :
  ∀(k v:Nat) (acc:List zaf),l.length<v+k->v<=l.length->acc.length=v->Tot (ze9 f l as k acc (v:Int)) fun r=>∃r',r=acc++r'/\XLR as (l.drop v) r':=by
 intro k
 induction k with
 | zero=>intro v acc h1 h2;omega
 | succ k ih=>
   intro v acc h1 h2 h3;unfold ze9
   by_cases hv:v<l.length
   ·have hd:l.drop v=l[v]::l.drop (v+1):=List.drop_eq_getElem_cons hv;have e:idxL l (v:Int)=some l[v]:=zgq (List.getElem?_eq_getElem hv);rw [if_pos (decide_eq_true (by omega)),e,Option.bind_some];refine (hf _ (List.getElem_mem hv)).bind fun y hy=>Tot.need (by simp only [List.length_cons,List.length_nil];omega) ?_;rw [zcG (n:=(v:Int)+1) (by omega) (by omega),show ((v:Int)+1)=((v+1:Nat):Int) by omega];refine (ih (v+1) _ (by omega) (by omega) (by rw [List.length_append,List.length_singleton,h3])).mono fun r hr=>?_;obtain ⟨r',rfl,hr⟩:=hr;exact ⟨y::r',by simp,by rw [hd];exact .cons hy hr⟩
   ·rw [if_neg (by rw [decide_eq_true_eq];omega),List.drop_eq_nil_of_le (by omega)];exact .some ⟨[],by simp,.nil⟩
theorem zm6:∀n:Nat,(∀(x:zaf) (as:List Int),2*xz x<n->xz x<=100000000->Tot (zfF n x as) (XR as x))/\(∀(l:List zaf) (as:List Int),2*xzL l+1<n->xzL l<=100000000->Tot (zha n l as) (XLR as l)):=by
 intro n
 induction n with
 | zero=>exact ⟨fun x as h=>by omega,fun l as h=>by omega⟩
 | succ n ih=>
   refine ⟨fun x as h hb=>?_,fun l as h hb=>?_⟩
   ·show Tot (zhn (zha n) n x as) _;unfold zhn;have hz:=zke x;refine zmG.bind fun v hv=>(ih.2 _ as (by omega) (by omega)).bind fun r hr=>.some ⟨?_,fun ho=>?_,fun e=>?_⟩
    ·rw [zke,zke,hr.sz]
    ·obtain ⟨h1,h2⟩:=ho;exact .mk h1 (hr.op h2)
    ·cases x;rw [hv e,hr.id e]
   ·show Tot (zgI (zfF n) n l as) _;unfold zgI;have hl:=zno l
    have:=zqe (f:=zfF n) (l:=l) (as:=as) (fun x hx=>by
     have h1:=znn hx;exact ih.1 x as (by omega) (by omega)) (by omega) n 0 [] (by omega) (by omega) rfl
    refine Tot.bind this fun r hr=>.some ?_;obtain ⟨r',rfl,hr⟩:=hr;exact hr
theorem zlw {n:Nat} {x:zaf} {as:List Int} (h:2*xz x<n) (hb:xz x<=100000000):Tot (zfF n x as) (XR as x):=(zm6 n).1 x as h hb
theorem zl6 {n:Nat} {l:List zaf} {as:List Int} (h:2*xzL l+1<n) (hb:xzL l<=100000000):Tot (zha n l as) (XLR as l):=(zm6 n).2 l as h hb
mutual
def szS:zac->Nat
 | ⟨_,_,_,_,b,e,_⟩=>1+szSL b+szSL e
def szSL:List zac->Nat
 | []=>0
 | x::l=>szS x+szSL l
end
theorem zpp (x:zac):szS x=1+szSL x.zba+szSL x.zeO:=by cases x;rw [szS]
theorem zmh (a b:List zac):szSL (a++b)=szSL a+szSL b:=by
 induction a with
 | nil=>rw [List.nil_append,szSL,Nat.zero_add]
 | cons x a ih=>rw [List.cons_append,szSL,szSL,ih,Nat.add_assoc]
inductive NCS:zac->Prop
 | ret {x a}:NCS ⟨[114,101,116,117,114,110],-1,0,[x],[],[],a⟩
 | st {o v f l b e a}:o ≠ [99,97,108,108]->o ≠ [114,101,116,117,114,110]->(∀t ∈ b,NCS t)->(∀t ∈ e,NCS t)->NCS ⟨o,v,f,l,b,e,a⟩
structure Sz (x:zaj):Prop where
 lo:0<=x.zcm
 hi:x.zcm<=30000
 ok:x.e_=0->x.zcm<=16384
 e:x.e_=0 ∨ x.e_=161
structure CtR (x r:zaj):Prop where
 p:r.p_=x.p_
 f:r.f_=x.f_
 s:r.zcm=x.zcm+1
 e:r.e_=if 16384<x.zcm+1 then 161 else x.e_
theorem ziw {x:zaj} (h0:0<=x.zcm) (h1:x.zcm<=1000000000):Tot (zbT x) (CtR x):=by
 unfold zbT;rw [zcG (n:=x.zcm+1) (by omega) (by omega)];refine Tot.iteb (fun h=>.some ⟨rfl,rfl,rfl,?_⟩) (fun h=>.some ⟨rfl,rfl,rfl,?_⟩)
 ·rw [if_pos (of_decide_eq_true h)]
 ·rw [if_neg (of_decide_eq_false h)]
theorem CtR.sz {x r:zaj} (h:CtR x r) (hs:Sz x) (hx:x.zcm<=29999):Sz r:=by
 have h1:=h.s;have h2:=h.e;have h3:=hs.lo;refine ⟨by omega,by omega,fun e=>?_,?_⟩
 ·rw [h2] at e;split at e
  ·omega
  ·omega
 ·rw [h2];split
  ·exact .inr rfl
  ·exact hs.e
structure PR (x:zaj) (l:List zac) (r:List zac × zaj):Prop where
 p:r.2.p_=x.p_
 f:r.2.f_=x.f_
 s:Sz r.2
 id:r.2.e_=0->x.e_=0/\r.1=l/\r.2.zcm=x.zcm+szSL l
 ok:x.e_=0->x.zcm+szSL l<=16384->r.2.e_=0
def zne:zac:=⟨[114,101,116,117,114,110],-1,0,[],[],[],-1⟩
theorem zqy {fs:zaj->zac->List Int->zac->Option (List zac × zaj)} {l:List zac} (hf:∀s ∈ l,∀x,x.e_=0->Sz x->Tot (fs x s [] zne) fun r=>PR x [s] r/\r.1.length<=1) (hl:l.length<=100000000) :
  ∀(k v:Nat) (acc:List zac) (x:zaj),l.length<v+k->v<=l.length->acc.length<=v->Sz x->(x.e_=0->acc=l.take v)->Tot (zbE fs l [] zne k acc (v:Int) x) fun y=>Tot (y.elim (fun a=>some (a.1,a.2)) (fun a=>some a)) fun r=>
   r.2.p_=x.p_/\r.2.f_=x.f_/\Sz r.2/\(r.2.e_=0->x.e_=0/\r.1=l/\r.2.zcm=x.zcm+szSL (l.drop v))/\(x.e_=0->x.zcm+szSL (l.drop v)<=16384->r.2.e_=0):=by
 intro k
 induction k with
 | zero=>intro v acc x h1 h2;omega
 | succ k ih=>
   intro v acc x h1 h2 h3 hs ha;unfold zbE
   by_cases hv:v<l.length
   ·have hd:l.drop v=l[v]::l.drop (v+1):=List.drop_eq_getElem_cons hv;have hg:=List.getElem?_eq_getElem hv;have e:idxL l (v:Int)=some l[v]:=zgq hg;rw [if_pos (decide_eq_true (by omega)),e,Option.bind_some];refine Tot.iteb (fun h=>.some (.some ?_)) (fun h=>?_)
    ·have h:x.e_ ≠ 0:=by simpa using h
     exact ⟨rfl,rfl,hs,fun e=>absurd e h,fun e=>absurd e h⟩
    ·have h:x.e_=0:=by simpa using h
     refine (hf _ (List.getElem_mem hv) x h hs).bind fun r hr=>Tot.need (by omega) ?_;obtain ⟨hr,hr1⟩:=hr;rw [zcG (n:=(v:Int)+1) (by omega) (by omega),show ((v:Int)+1)=((v+1:Nat):Int) by omega];refine (ih (v+1) (acc++r.1) r.2 (by omega) (by omega) (by rw [List.length_append];omega) hr.s (fun e=>?_)).mono fun y hy=>hy.mono fun z hz=>?_
     ·rw [ha h,(hr.id e).2.1,take_step' hg]
     ·obtain ⟨z1,z2,z3,z4,z5⟩:=hz;have hc:szSL (l.drop v)=szSL [l[v]]+szSL (l.drop (v+1)):=by rw [hd,szSL,szSL,szSL];omega
      refine ⟨z1.trans hr.p,z2.trans hr.f,z3,fun e=>?_,fun e hb=>?_⟩
      ·obtain ⟨q1,q2,q3⟩:=z4 e;obtain ⟨_,_,q4⟩:=hr.id q1;exact ⟨h,q2,by rw [q3,q4,hc];omega⟩
      ·have q1:=hr.ok h (by omega);have q2:=(hr.id q1).2.2;exact z5 q1 (by omega)
   ·rw [if_neg (by rw [decide_eq_true_eq];omega),List.drop_eq_nil_of_le (by omega)];refine .some (.some ⟨rfl,rfl,hs,fun e=>⟨e,?_,?_⟩,fun e _=>e⟩)
    ·show acc=l;rw [ha e,List.take_of_length_le (by omega)]
    ·show x.zcm=_;rw [szSL];omega
theorem zqb:∀n:Nat,(∀(x:zaj) (l:List zac),4*tzL l+2<n->tzL l<=100000000->(∀t ∈ l,NCS t)->Sz x->Tot (zcc n x l [] zne) (PR x l)) ∧
  (∀(x:zaj) (s:zac),4*tz s<n->tz s<=100000000->NCS s->x.e_=0->Sz x->Tot (zbY n x s [] zne) fun r=>PR x [s] r/\r.1.length<=1):=by
 intro n
 induction n with
 | zero=>exact ⟨fun x l h=>by omega,fun x s h=>by omega⟩
 | succ n ih=>
   refine ⟨fun x l h hb hn hs=>?_,fun x s h hb hn he hs=>?_⟩
   ·show Tot (zci (zbY n) n x l [] zne) _;unfold zci;have hl:=zmc l
    have:=zqy (fs:=zbY n) (l:=l) (fun s hx y hy hz=>by
     have h1:=zmb hx;exact ih.2 y s (by omega) (by omega) (hn s hx) hy hz) (by omega) n 0 [] x (by omega) (by omega) (Nat.le_refl _) hs (fun _=>rfl)
    refine Tot.bind this fun y hy=>hy.mono fun r hr=>?_;obtain ⟨z1,z2,z3,z4,z5⟩:=hr;exact ⟨z1,z2,z3,z4,z5⟩
   ·show Tot (zbM (zeF n) (zcc n) n x s [] zne) _;unfold zbM;have hx0:=hs.ok he;cases hn with
    | @ret e a=>
      rw [tz,xzL,xzL] at h hb;rw [if_neg (show ¬ decide (([114,101,116,117,114,110]:Str)=[99,97,108,108])=true by decide)];refine (ziw hs.lo (by omega)).bind fun x1 h1=>?_;rw [if_pos (show decide (([114,101,116,117,114,110]:Str)=[114,101,116,117,114,110])=true by decide)];refine Tot.eqn (v:=e) rfl ((zlw (n:=n) (by omega) (by omega)).bind fun y hy=>?_);rw [if_pos (by decide)];unfold zcq
      dsimp only
      rw [if_neg (show ¬ decide (zne.Op_=[118,97,114])=true by decide),Option.bind_some];rw [hy.id rfl];refine .some ⟨⟨h1.p,h1.f,h1.sz hs (by omega),fun e0=>⟨he,rfl,?_⟩,fun _ hb2=>?_⟩,Nat.le_refl _⟩
      ·show x1.zcm=_;rw [h1.s,szSL,szS,szSL];rfl
      ·show x1.e_=0;rw [szSL,szS,szSL] at hb2;rw [h1.e,if_neg (by omega),he]
    | @st o v f l b e a ho1 ho2 hn1 hn2=>
      rw [tz] at h hb;rw [if_neg (by rw [decide_eq_true_eq];exact ho1)];refine (ziw hs.lo (by omega)).bind fun x1 h1=>?_;rw [if_neg (by rw [decide_eq_true_eq];exact ho2)];have hs1:=h1.sz hs (by omega);refine zmG.bind fun v' hv'=>(zl6 (n:=n) (by show 2*xzL l+1<n;omega) (by show xzL l<=100000000;omega)).bind fun l' hl'=>?_;refine (ih.1 x1 b (by omega) (by omega) hn1 hs1).bind fun r1 g1=>(ih.1 r1.2 e (by omega) (by omega) hn2 g1.s).bind fun r2 g2=>?_;rw [hv' rfl,hl'.id rfl];have hc:(szSL [(⟨o,v,f,l,b,e,a⟩:zac)]:Int)=1+szSL b+szSL e:=by rw [szSL,szS,szSL];omega
      refine .some ⟨⟨g2.p.trans (g1.p.trans h1.p),g2.f.trans (g1.f.trans h1.f),g2.s,fun e0=>?_,fun _ hb2=>?_⟩,Nat.le_refl _⟩
      ·obtain ⟨q1,q2,q3⟩:=g2.id e0;obtain ⟨p1,p2,p3⟩:=g1.id q1;refine ⟨he,?_,?_⟩
       ·show [_]=[_];rw [p2,q2]
       ·show r2.2.zcm=_;rw [q3,p3,h1.s,hc];omega
      ·rw [hc] at hb2;have k1:x1.e_=0:=by rw [h1.e,if_neg (by omega),he]
       have k2:=g1.ok k1 (by rw [h1.s];omega);have k3:=(g1.id k2).2.2;exact g2.ok k2 (by rw [k3,h1.s];omega)
end Go.Proofs.YtldnmmnnohnpkaaGreatDoor.Abs
namespace Go.Proofs.YtldnmmnnohnpkaaGreatDoor.Abs
open Go.RowKit
set_option linter.unusedVariables false
inductive FS (p:zaz) (rk:Int->Nat) (m:Nat):zac->Prop
 | ret {x a}:OpB x->FS p rk m ⟨[114,101,116,117,114,110],-1,0,[x],[],[],a⟩
 | call {v f xs a fn}:idxL p.zaB f=some fn->rk f<m->xs.length<=fn.zaJ.length->(∀x ∈ xs,OpB x)->FS p rk m ⟨[99,97,108,108],v,f,xs,[],[],a⟩
 | st {o v f l b e a}:o ≠ [99,97,108,108]->o ≠ [114,101,116,117,114,110]->(∀x ∈ l,OpB x)->(∀t ∈ b,FS p rk m t)->(∀t ∈ e,FS p rk m t)->FS p rk m ⟨o,v,f,l,b,e,a⟩
structure PG (p:zaz) (rk:Int->Nat):Prop where
 fs:∀k fn,idxL p.zaB k=some fn->∀t ∈ fn.zba,FS p rk (rk k) t
 sz:∀k fn,idxL p.zaB k=some fn->tzL fn.zba<=3001
 vl:∀k fn,idxL p.zaB k=some fn->fn.zaJ.length<=250/\0<=fn.zaE/\fn.zaE<=fn.zaJ.length
structure Ok (t:zac):Prop where
 nc:NCS t
 st:StB t
 tzb:tz t<=3001*szS t
theorem zn5 (l:List zac):l.length<=szSL l:=by
 induction l with
 | nil=>exact Nat.zero_le _
 | cons x l ih=>have:=zpp x;rw [List.length_cons,szSL];omega
theorem Ok.all {l:List zac} (h:∀t ∈ l,Ok t):tzL l<=3001*szSL l:=by
 induction l with
 | nil=>exact Nat.zero_le _
 | cons x l ih=>
   have h1:=(h x List.mem_cons_self).tzb;have h2:=ih fun t ht=>h t (List.mem_cons_of_mem _ ht);rw [tzL,szSL];omega
structure VR (x r:zaj):Prop where
 f:r.f_={ x.f_ with zaJ:=r.f_.zaJ }
 l:x.f_.zaJ.length<=4096->r.f_.zaJ.length<=4096
theorem VR.refl (x:zaj):VR x x:=⟨rfl,fun h=>h⟩
theorem VR.of {x r:zaj} (h:r.f_=x.f_):VR x r:=⟨by rw [h],fun k=>by rw [h];exact k⟩
theorem VR.trans {x y z:zaj} (h:VR x y) (k:VR y z):VR x z:=⟨by rw [k.f,h.f],fun e=>k.l (h.l e)⟩
structure FrR (x r:zaj):Prop where
 p:r.p_=x.p_
 v:VR x r
 s:r.zcm=x.zcm
 e:r.e_=x.e_ ∨ r.e_=161
theorem FrR.sz {x r:zaj} (h:FrR x r) (hs:Sz x):Sz r:=by
 have h1:=h.s;refine ⟨by rw [h1];exact hs.lo,by rw [h1];exact hs.hi,fun e=>?_,?_⟩
 ·rw [h1]
  rcases h.e with k | k
  ·exact hs.ok (by rw [←k];exact e)
  ·rw [k] at e;cases e
 ·rcases h.e with k | k
  ·rw [k];exact hs.e
  ·exact .inr k
theorem FrR.zero {x r:zaj} (h:FrR x r) (e:r.e_=0):x.e_=0:=by
 rcases h.e with k | k
 ·rw [←k];exact e
 ·rw [k] at e;cases e
theorem zlt {x:zaj} {v:zar}:Tot (zbS x v) fun r=>FrR x r.2:=by
 unfold zbS;refine Tot.iteb (fun h=>.some ⟨rfl,.of rfl,rfl,.inr rfl⟩) (fun h=>?_);have h:=of_decide_eq_false h;refine Tot.need (by simp only [List.length_cons,List.length_nil];omega) (.some ⟨rfl,⟨rfl,fun _=>?_⟩,rfl,.inl rfl⟩);show (x.f_.zaJ++[v]).length<=4096;rw [List.length_append,List.length_singleton];omega
structure FR (x:zaj) (r:List zac × zaj):Prop where
 p:r.2.p_=x.p_
 v:VR x r.2
 s:Sz r.2
 len:(r.1.length:Int)+x.zcm<=r.2.zcm
 out:r.2.e_=0->x.e_=0/\(∀t ∈ r.1,Ok t)/\x.zcm+szSL r.1<=r.2.zcm
structure BkS (b:zac):Prop where
 bo:b.zba=[]
 el:b.zeO=[]
 op:(b.Op_=[114,101,116,117,114,110]/\b.Var_=-1) ∨ b.Op_=[118,97,114] ∨ b.Op_=[115,101,116]
theorem okOne {o:Str} {v f:Int} {y:zaf} {a:Int} (h1:o ≠ [99,97,108,108]) (h2:o ≠ [114,101,116,117,114,110]) (ho:OpB y) (hz:xz y<=3000):Ok ⟨o,v,f,[y],[],[],a⟩:=
 ⟨.st h1 h2 ziR ziR,.mk (all1 ho) ziR ziR,by rw [tz,xzL,xzL,tzL,szS,szSL];omega⟩
theorem var_nc:([118,97,114]:Str) ≠ [99,97,108,108]:=by decide
theorem var_nr:([118,97,114]:Str) ≠ [114,101,116,117,114,110]:=by decide
theorem set_nc:([115,101,116]:Str) ≠ [99,97,108,108]:=by decide
theorem set_nr:([115,101,116]:Str) ≠ [114,101,116,117,114,110]:=by decide
theorem tell_tot {x:zaj} {y:zaf} {b:zac} (hb:BkS b) (ho:OpB y) (hz:xz y<=3000):Tot (zcq x y b) fun r=>FrR x r.2/\Ok r.1/\szS r.1=1:=by
 obtain ⟨h1,h2,h3⟩:=hb;obtain ⟨o,v,f,l,bo,el,a⟩:=b;simp only at h1 h2 h3;subst h1 h2;have hs:∀v f l a,szS ⟨o,v,f,l,[],[],a⟩=1:=fun v f l a=>by rw [szS,szSL]
 unfold zcq;refine Tot.iteb (fun h=>?_) (fun h=>?_)
 ·have h:o=[118,97,114]:=of_decide_eq_true h;subst h;exact zlt.bind fun r hr=>.some ⟨hr,okOne var_nc var_nr ho hz,hs _ _ _ _⟩
 ·refine .some ⟨⟨rfl,.refl x,rfl,.inl rfl⟩,?_,hs _ _ _ _⟩
  rcases h3 with ⟨rfl,rfl⟩ | rfl | rfl
  ·exact ⟨.ret,.mk (all1 ho) ziR ziR,by show tz ⟨_,_,_,[y],[],[],_⟩<=3001*szS ⟨_,_,_,[y],[],[],_⟩;rw [tz,xzL,xzL,tzL,szS,szSL];omega⟩
  ·exact okOne var_nc var_nr ho hz
  ·exact okOne set_nc set_nr ho hz
theorem zpm {x:zaj} {s b:zac} {as:List Int} {fn:zao} (h:idxL x.p_.zaB s.zeD=some fn) (hb:BkS b):Tot (zdG x s as b) BkS:=by
 unfold zdG;rw [h,Option.bind_some];refine Tot.iteb (fun _=>Tot.iteb (fun _=>.some ⟨hb.bo,hb.el,hb.op⟩) (fun _=>.some hb)) (fun _=>Tot.iteb (fun _=>.some ⟨rfl,rfl,.inr (.inl rfl)⟩) (fun _=>zmG.bind fun v _=>.some ⟨rfl,rfl,.inr (.inr rfl)⟩))
structure AR (x:zaj) (k:Nat) (n:Int) (r:List zac × List Int × zaj):Prop where
 p:r.2.2.p_=x.p_
 v:VR x r.2.2
 s:Sz r.2.2
 hi:r.2.2.zcm<=x.zcm+n
 own:r.2.1.length=k
 len:(r.1.length:Int)+x.zcm<=r.2.2.zcm
 out:r.2.2.e_=0->x.e_=0/\(∀t ∈ r.1,Ok t)/\x.zcm+szSL r.1<=r.2.2.zcm
theorem args_l1 {n:Nat} {s:zac} {as:List Int} {fn:zao} (hl:s.zas.length<=fn.zaJ.length) (hv:fn.zaJ.length<=250) (ho:∀y ∈ s.zas,OpB y) (hz:xzL s.zas<=3000) (hn:6002<n) {x0:zaj} (h0:0<=x0.zcm) (h1:x0.zcm<=20000) :
  ∀(k v:Nat) (acc:List zac) (own:List Int) (x:zaj),s.zas.length<v+k->v<=s.zas.length->AR x0 v v (acc,own,x)->Tot (zcj n s as fn k acc own (v:Int) x) (AR x0 s.zas.length s.zas.length):=by
 intro k
 induction k with
 | zero=>intro v acc own x h1 h2;omega
 | succ k ih=>
   intro v acc own x h2 h3 ha;unfold zcj
   by_cases hv2:v<s.zas.length
   ·have hg:=List.getElem?_eq_getElem hv2;have e:idxL s.zas (v:Int)=some s.zas[v]:=zgq hg;have hm:s.zas[v] ∈ s.zas:=List.getElem_mem hv2;have hzm:=znn hm;have hi:=ha.hi;have hlo:=ha.len;have how:own.length=v:=ha.own;simp only at hi hlo;rw [if_pos (decide_eq_true (by omega)),e,Option.bind_some,zcG (n:=(v:Int)+1) (by omega) (by omega),show ((v:Int)+1)=((v+1:Nat):Int) by omega]
    have step:∀(o:Str) (u:zar),o ≠ [99,97,108,108]->o ≠ [114,101,116,117,114,110]->Tot ((zbT x).bind fun x35=>(zbS x35 u).bind fun x37=>need (own.length+[x37.1].length<=1073741824) <| (zfF n s.zas[v] as).bind fun x44=>need (acc.length+[(zac.mk o x37.1 (0:Int) [x44] [] [] s.At_)].length<=1073741824) <| some ((acc++[(zac.mk o x37.1 (0:Int) [x44] [] [] s.At_)]),(own++[x37.1]),x37.2)) (AR x0 (v+1) (v+1:Nat)):=by
     intro o u ho1 ho2;refine (ziw (x:=x) ha.s.lo (by omega)).bind fun x1 g1=>zlt.bind fun x2 g2=>Tot.need (by simp only [List.length_cons,List.length_nil];omega) ((zlw (n:=n) (by omega) (by omega)).bind fun y hy=>Tot.need (by simp only [List.length_cons,List.length_nil];omega) ?_);have hs1:Sz x1:=g1.sz ha.s (by show x.zcm<=29999;omega);have e1:=g1.s;have e2:=g2.s;refine .some ⟨g2.p.trans (g1.p.trans ha.p),ha.v.trans ((VR.of g1.f).trans g2.v),g2.sz hs1,?_,?_,?_,fun e0=>?_⟩
     ·show x2.2.zcm<=_;omega
     ·show (own++[x2.1]).length=_;rw [List.length_append,List.length_singleton,how]
     ·show ((acc++[_]).length:Int)+_<=x2.2.zcm;rw [List.length_append,List.length_singleton];omega
     ·have k1:=g2.zero e0
      have k2:x.e_=0:=by
       have:=g1.e;rw [k1] at this
       split at this
       ·cases this
       ·exact this.symm
      obtain ⟨q1,q2,q3⟩:=ha.out k2;simp only at q2 q3;refine ⟨q1,fun t ht=>?_,?_⟩
      ·rcases List.mem_append.1 ht with ht | ht
       ·exact q2 t ht
       ·obtain rfl:=List.mem_singleton.1 ht;exact okOne ho1 ho2 (hy.op (ho _ hm)) (by rw [hy.sz];omega)
      ·show _+(szSL (acc++[_]):Int)<=x2.2.zcm;rw [zmh,szSL,szS,szSL];omega
    refine Tot.bind (P:=AR x0 (v+1) (v+1:Nat)) ?_ fun y hy=>ih (v+1) _ _ _ (by omega) (by omega) hy;refine Tot.iteb (fun _=>zmG.bind fun w _=>Tot.need (by simp only [List.length_cons,List.length_nil];omega) (.some ?_)) (fun _=>?_)
    ·exact ⟨ha.p,ha.v,ha.s,by show x.zcm<=_;omega,by show (own++[w]).length=_;rw [List.length_append,List.length_singleton,how],ha.len,ha.out⟩
    ·have hv3:v<fn.zaJ.length:=by omega
     rw [zgq (List.getElem?_eq_getElem hv3),Option.bind_some];exact Tot.iteb (fun _=>step _ _ (by decide) (by decide)) (fun _=>step _ _ (by decide) (by decide))
   ·rw [if_neg (by rw [decide_eq_true_eq];omega)];have:v=s.zas.length:=by omega
    subst this;exact .some ha
end Go.Proofs.YtldnmmnnohnpkaaGreatDoor.Abs
namespace Go.Proofs.YtldnmmnnohnpkaaGreatDoor.Abs
open Go.RowKit
set_option linter.unusedVariables false
theorem FrR.trans {x y z:zaj} (h:FrR x y) (k:FrR y z):FrR x z:=⟨k.p.trans h.p,h.v.trans k.v,k.s.trans h.s,by
 rcases k.e with e | e
 ·rw [e];exact h.e
 ·exact .inr e⟩
theorem zo6 {fn:zao} (hv:fn.zaJ.length<=250):∀(k v:Nat) (own:List Int) (x:zaj),(fn.zaJ.drop fn.zaE.toNat).length<v+k->v<=(fn.zaJ.drop fn.zaE.toNat).length->own.length<=300+v->Tot (zch fn k own (v:Int) x) fun r=>FrR x r.2:=by
 have hd:(fn.zaJ.drop fn.zaE.toNat).length<=250:=by rw [List.length_drop];omega
 intro k
 induction k with
 | zero=>intro v own x h1 h2;omega
 | succ k ih=>
   intro v own x h1 h2 h3;unfold zch
   by_cases hv2:v<(fn.zaJ.drop fn.zaE.toNat).length
   ·rw [if_pos (decide_eq_true (by omega)),zgq (List.getElem?_eq_getElem hv2),Option.bind_some];refine zlt.bind fun r hr=>Tot.need (by simp only [List.length_cons,List.length_nil];omega) ?_;rw [zcG (n:=(v:Int)+1) (by omega) (by omega),show ((v:Int)+1)=((v+1:Nat):Int) by omega];exact (ih (v+1) _ _ (by omega) (by omega) (by rw [List.length_append,List.length_singleton];omega)).mono fun z hz=>hr.trans hz
   ·rw [if_neg (by rw [decide_eq_true_eq];omega)];exact .some ⟨rfl,.refl x,rfl,.inl rfl⟩
theorem FR.app {x0 x:zaj} {acc:List zac} {r:List zac × zaj} (h:FR x0 (acc,x)) (k:FR x r):FR x0 (acc++r.1,r.2):=by
 have h1:=h.len;have h2:=k.len;simp only at h1;refine ⟨k.p.trans h.p,h.v.trans k.v,k.s,?_,fun e=>?_⟩
 ·show ((acc++r.1).length:Int)+_<=r.2.zcm;rw [List.length_append];omega
 ·obtain ⟨q1,q2,q3⟩:=k.out e;obtain ⟨p1,p2,p3⟩:=h.out q1;refine ⟨p1,fun t ht=>?_,?_⟩
  ·rcases List.mem_append.1 ht with ht | ht
   ·exact p2 t ht
   ·exact q2 t ht
  ·show _+(szSL (acc++r.1):Int)<=r.2.zcm;simp only at p3;rw [zmh];omega
theorem FR.none {x0 x:zaj} {acc:List zac} (h:FR x0 (acc,x)) (e:x.e_ ≠ 0):FR x0 ([],x):=by
 have h1:=h.len;simp only at h1;exact ⟨h.p,h.v,h.s,by show ((([]:List zac).length:Nat):Int)+_<=x.zcm;rw [List.length_nil];omega,fun k=>absurd k e⟩
theorem FR.start {x:zaj} (hs:Sz x):FR x ([],x):=⟨rfl,.refl x,hs,by show ((([]:List zac).length:Nat):Int)+_<=x.zcm;rw [List.length_nil];omega,fun e=>⟨e,fun t ht=>(nomatch ht),by show _+((szSL []:Nat):Int)<=x.zcm;rw [szSL];omega⟩⟩
theorem zqz {fs:zaj->zac->List Int->zac->Option (List zac × zaj)} {l:List zac} {as:List Int} {b:zac} {p:zaz} (hf:∀s ∈ l,∀x,x.e_=0->Sz x->x.p_=p->Tot (fs x s as b) (FR x)) (hl:l.length<=100000000) {x0:zaj} (hp:x0.p_=p) (h0:0<=x0.zcm) :
  ∀(k v:Nat) (acc:List zac) (x:zaj),l.length<v+k->v<=l.length->FR x0 (acc,x)->Tot (zbE fs l as b k acc (v:Int) x) fun y=>Tot (y.elim (fun a=>some (a.1,a.2)) (fun a=>some a)) (FR x0):=by
 intro k
 induction k with
 | zero=>intro v acc x h1 h2;omega
 | succ k ih=>
   intro v acc x h1 h2 ha;unfold zbE
   by_cases hv:v<l.length
   ·have hg:=List.getElem?_eq_getElem hv;rw [if_pos (decide_eq_true (by omega)),zgq hg,Option.bind_some];refine Tot.iteb (fun h=>.some (.some ?_)) (fun h=>?_)
    ·exact ha.none (by simpa using h)
    ·have h:x.e_=0:=by simpa using h
     refine (hf _ (List.getElem_mem hv) x h ha.s (ha.p.trans hp)).bind fun r hr=>?_;have l1:=ha.len;have l2:=hr.len;have l3:=hr.s.hi;have l4:=ha.s.lo;simp only at l1 l4;refine Tot.need (by omega) ?_;rw [zcG (n:=(v:Int)+1) (by omega) (by omega),show ((v:Int)+1)=((v+1:Nat):Int) by omega];exact ih (v+1) _ _ (by omega) (by omega) (ha.app hr)
   ·rw [if_neg (by rw [decide_eq_true_eq];omega)];exact .some (.some ha)
section
variable {p:zaz} {rk:Int->Nat}
set_option maxRecDepth 20000 in
theorem zqc (hp:PG p rk):∀n:Nat,
  (∀(m:Nat) (x:zaj) (l:List zac) (as:List Int) (b:zac),m*20000+4*tzL l+2<n->tzL l<=3001->(∀t ∈ l,FS p rk m t)->Sz x->x.p_=p->BkS b->Tot (zcc n x l as b) (FR x)) ∧
  (∀(m:Nat) (x:zaj) (s:zac) (as:List Int) (b:zac),m*20000+4*tz s<n->tz s<=3001->FS p rk m s->x.e_=0->Sz x->x.p_=p->BkS b->Tot (zbY n x s as b) (FR x)) ∧
  (∀(m:Nat) (x:zaj) (s:zac) (as:List Int) (b:zac) (fn:zao),m*20000<=n->idxL p.zaB s.zeD=some fn->rk s.zeD<m->s.zas.length<=fn.zaJ.length->(∀y ∈ s.zas,OpB y)->xzL s.zas<=3000->x.e_=0->Sz x->x.p_=p->BkS b->Tot (zeF n x s as b) (FR x)):=by
 intro n
 induction n with
 | zero=>exact ⟨fun m x l as b h=>by omega,fun m x s as b h=>by omega,fun m x s as b fn h _ h2=>by omega⟩
 | succ n ih=>
   obtain ⟨ihB,ihS,ihC⟩:=ih;refine ⟨fun m x l as b h hz hl hs hx hb=>?_,fun m x s as b h hz hf he hs hx hb=>?_,fun m x s as b fn h hi hr hl ho hz he hs hx hb=>?_⟩
   ·show Tot (zci (zbY n) n x l as b) _;unfold zci;have hlen:=zmc l
    exact Tot.bind (zqz (fs:=zbY n) (l:=l) (p:=p) (fun s hm y hy hz2 hp2=>by
     have h1:=zmb hm;exact ihS m y s as b (by generalize m*20000=M at h ⊢;omega) (by omega) (hl s hm) hy hz2 hp2 hb) (by omega) hx hs.lo n 0 [] x (by omega) (by omega) (.start hs)) fun y hy=>hy
   ·show Tot (zbM (zeF n) (zcc n) n x s as b) _;unfold zbM;have hx0:=hs.ok he;cases hf with
    | @ret e a ho=>
      rw [tz,xzL,xzL] at h hz;rw [if_neg (show ¬ decide (([114,101,116,117,114,110]:Str)=[99,97,108,108])=true by decide)];refine (ziw hs.lo (by omega)).bind fun x1 h1=>?_;rw [if_pos (show decide (([114,101,116,117,114,110]:Str)=[114,101,116,117,114,110])=true by decide)];refine Tot.eqn (v:=e) rfl ((zlw (n:=n) (by omega) (by omega)).bind fun y hy=>?_)
      have key:∀b',BkS b'->Tot ((zcq x1 y b').bind fun x19=>some ([x19.1],x19.2)) (FR x):=fun b' hb'=>(tell_tot hb' (hy.op ho) (by rw [hy.sz];omega)).bind fun r hr=>by
       obtain ⟨r1,r2,r3⟩:=hr;have e1:=h1.s;have e2:=r1.s;refine .some ⟨r1.p.trans h1.p,(VR.of h1.f).trans r1.v,r1.sz (h1.sz hs (by omega)),?_,fun e0=>⟨he,fun t ht=>?_,?_⟩⟩
       ·show ((([r.1]:List zac).length:Nat):Int)+_<=r.2.zcm;rw [List.length_singleton];omega
       ·obtain rfl:=List.mem_singleton.1 ht;exact r2
       ·show _+((szSL [r.1]:Nat):Int)<=r.2.zcm;rw [szSL,szSL,r3];omega
      exact Tot.iteb (fun _=>key _ ⟨hb.bo,hb.el,hb.op⟩) (fun _=>key _ hb)
    | @call v f xs a fn hi hr hl ho=>
      rw [tz] at h hz;rw [if_pos (show decide (([99,97,108,108]:Str)=[99,97,108,108])=true by decide)];exact (ihC m x _ as b fn (by omega) hi hr hl ho (by show xzL xs<=3000;omega) he hs hx hb).bind fun r hr=>.some hr
    | @st o v f l bo el a ho1 ho2 ho hn1 hn2=>
      rw [tz] at h hz;rw [if_neg (by rw [decide_eq_true_eq];exact ho1)];refine (ziw hs.lo (by omega)).bind fun x1 h1=>?_;rw [if_neg (by rw [decide_eq_true_eq];exact ho2)];have hs1:=h1.sz hs (by omega);refine zmG.bind fun v' hv'=>(zl6 (n:=n) (by show 2*xzL l+1<n;omega) (by show xzL l<=100000000;omega)).bind fun l' hl'=>?_;refine (ihB m x1 bo as b (by generalize m*20000=M at h ⊢;omega) (by omega) hn1 hs1 (h1.p.trans hx) hb).bind fun r1 g1=>(ihB m r1.2 el as b (by generalize m*20000=M at h ⊢;omega) (by omega) hn2 g1.s (g1.p.trans (h1.p.trans hx)) hb).bind fun r2 g2=>?_;have e1:=h1.s;have e2:=g1.len;have e3:=g2.len;refine .some ⟨g2.p.trans (g1.p.trans h1.p),(VR.of h1.f).trans (g1.v.trans g2.v),g2.s,?_,fun e0=>?_⟩
      ·show (((([_]:List zac)).length:Nat):Int)+_<=r2.2.zcm;rw [List.length_singleton];omega
      ·obtain ⟨q1,q2,q3⟩:=g2.out e0;obtain ⟨p1,p2,p3⟩:=g1.out q1;have z1:=Ok.all q2;have z2:=Ok.all p2;have z3:xzL l'=xzL l:=hl'.sz;refine ⟨he,fun t ht=>?_,?_⟩
       ·obtain rfl:=List.mem_singleton.1 ht;refine ⟨.st ho1 ho2 (fun t ht=>(p2 t ht).nc) (fun t ht=>(q2 t ht).nc),.mk (hl'.op ho) (fun t ht=>(p2 t ht).st) (fun t ht=>(q2 t ht).st),?_⟩;show tz ⟨o,v',f,l',r1.1,r2.1,a⟩<=3001*szS ⟨o,v',f,l',r1.1,r2.1,a⟩;rw [tz,szS,z3];omega
       ·show _+((szSL [⟨o,v',f,l',r1.1,r2.1,a⟩]:Nat):Int)<=r2.2.zcm;rw [szSL,szS,szSL];omega
   ·show Tot (zdm (zcc n) n x s as b) _;unfold zdm;have hx0:=hs.ok he;obtain ⟨hv1,hv2,hv3⟩:=hp.vl _ _ hi;have hm:1<=m:=by omega
    refine (ziw hs.lo (by omega)).bind fun x1 h1=>?_;have hs1:=h1.sz hs (by omega);have e1:=h1.s;rw [h1.p,hx,hi,Option.bind_some];have hlen:=zno s.zas;refine Tot.bind (P:=AR x1 s.zas.length s.zas.length) ?_ fun y hy=>?_
    ·unfold zeG;refine Tot.bind (args_l1 (n:=n) (s:=s) (as:=as) (fn:=fn) hl hv1 ho hz (by omega) hs1.lo (by omega) n 0 [] [] x1 (by omega) (by omega) ⟨rfl,.refl x1,hs1,by show x1.zcm<=_;omega,rfl,by show ((([]:List zac).length:Nat):Int)+_<=x1.zcm;rw [List.length_nil];omega,fun e=>⟨e,fun t ht=>(nomatch ht),by show _+((szSL []:Nat):Int)<=x1.zcm;rw [szSL];omega⟩⟩) fun y hy=>.some hy
    ·refine Tot.need ⟨hv2,hv3⟩ ?_;have d1:(fn.zaJ.drop fn.zaE.toNat).length<=250:=by rw [List.length_drop];omega
     have d2:=hy.own;refine (zo6 hv1 n 0 y.2.1 y.2.2 (by omega) (by omega) (by omega)).bind fun z hz2=>?_;have e2:=hy.len;have e3:=hz2.s;have hsz:=hz2.sz hy.s
     have hA:FR x (y.1,z.2):=⟨hz2.p.trans (hy.p.trans h1.p),(VR.of h1.f).trans (hy.v.trans hz2.v),hsz,by show (y.1.length:Int)+_<=z.2.zcm;omega,fun e0=>by
      obtain ⟨_,q2,q3⟩:=hy.out (hz2.zero e0);exact ⟨he,q2,by show _+(szSL y.1:Int)<=z.2.zcm;omega⟩⟩
     refine Tot.iteb (fun h2=>.some (hA.none (by simpa using h2))) (fun h2=>?_);have hzp:z.2.p_=p:=hA.p.trans hx;refine (zpm (x:=z.2) (s:=s) (b:=b) (as:=as) (fn:=fn) (by rw [hzp];exact hi) hb).bind fun b' hb'=>?_;have hsz3:=hp.sz _ _ hi;refine (ihB (rk s.zeD) z.2 fn.zba z.1 b' (by omega) hsz3 (hp.fs _ _ hi) hsz hzp hb').bind fun r hr=>?_;have l1:=hA.len;have l2:=hr.len;have l3:=hr.s.hi;have l4:=hsz.lo;have l5:=hs.lo;simp only at l1;exact Tot.need (by omega) (.some (hA.app hr))
structure zqL (fn g:zao):Prop where
 f:g={ fn with zaJ:=g.zaJ,zba:=g.zba }
 v:g.zaJ.length<=4096
 ok:∀t ∈ g.zba,Ok t
 sz:szSL g.zba<=16384
theorem Flat_tot (hp:PG p rk) {n:Nat} {i:Int} (hm:∀k,rk k<=64) (hn:1400000<=n):Tot (zfG n p i) fun r=>(r.2=0->∃fn,idxL p.zaB i=some fn/\zqL fn r.1)/\(0<=i->i<p.zaB.length->r.2=0 ∨ r.2=161):=by
 unfold zfG;refine Tot.bind (P:=fun y=>y=true/\¬ (0<=i/\i<p.zaB.length) ∨ y=false/\0<=i/\i<p.zaB.length) ?_ fun y hy=>?_
 ·refine Tot.iteb (fun h=>.some (.inl ⟨rfl,?_⟩)) fun h=>.some ?_
  ·have h:=of_decide_eq_true h;omega
  ·have h:=of_decide_eq_false h
   by_cases h2:(p.zaB.length:Int)<=i
   ·exact .inl ⟨decide_eq_true h2,by omega⟩
   ·exact .inr ⟨decide_eq_false h2,by omega,by omega⟩
 refine Tot.iteb (fun h=>.some ?_) (fun h=>?_)
 ·rcases hy with ⟨_,h2⟩ | ⟨h2,_⟩
  ·exact ⟨fun e=>absurd e (by decide),fun h3 h4=>absurd ⟨h3,h4⟩ h2⟩
  ·rw [h2] at h;cases h
 ·rcases hy with ⟨h2,_⟩ | ⟨_,h0,h1⟩
  ·rw [h2] at h;cases h
  obtain ⟨fn,hfn⟩:∃fn,idxL p.zaB i=some fn:=by
   obtain ⟨r,e,_⟩:=Tot.idx (l:=p.zaB) h0 h1 (Q:=fun _=>True) fun _ _=>trivial;exact ⟨r,e⟩
  obtain ⟨hv1,_,_⟩:=hp.vl _ _ hfn;have h64:=hm i;have hsz:=hp.sz _ _ hfn;rw [hfn,Option.bind_some];refine Tot.need (by omega) ?_;refine ((zqc hp n).1 (rk i) ⟨p,fn,0,0⟩ fn.zba [] zne (by omega) hsz (hp.fs _ _ hfn) ⟨Int.le_refl _,(by decide:(0:Int)<=30000),fun _=>(by decide:(0:Int)<=16384),.inl rfl⟩ rfl ⟨rfl,rfl,.inl ⟨rfl,rfl⟩⟩).bind fun r hr=>?_;refine Tot.iteb (fun h=>.some ⟨fun e=>absurd e (by simpa using h),fun _ _=>hr.s.e⟩) (fun h=>.some ⟨fun _=>⟨fn,rfl,?_⟩,fun _ _=>.inl rfl⟩);have h:r.2.e_=0:=by simpa using h
  obtain ⟨_,q2,q3⟩:=hr.out h;have q4:=hr.s.ok h;have hvf:=hr.v.f;refine ⟨?_,hr.v.l (by show fn.zaJ.length<=4096;omega),q2,by show szSL r.1<=16384;simp only at q3;omega⟩;show ({ r.2.f_ with zba:=r.1 }:zao)=_;rw [hvf]
end
end Go.Proofs.YtldnmmnnohnpkaaGreatDoor.Abs
namespace Go.Proofs.YtldnmmnnohnpkaaGreatDoor.Abs
open Go.RowKit
set_option linter.unusedVariables false
section
variable {c:zae} {rk:Int->Nat}
theorem TB.fs (hp:PO c rk) {j:Nat} {vs:List zar} {res:Int} {l:Bool} {n n':Nat} {sc sc':List Int} {ss:List zac} (h:TB (sgAt c j) vs res l n sc ss n' sc'):∀s ∈ ss,FS c.p_ rk (rk j) s:=by
 have key:∀ {sc:List Int} {v f r:Int} {ps:List zar} {xs:List zaf} {a:Int},sgAt c j f r ps->zla vs sc ps xs->FS c.p_ rk (rk j) ⟨[99,97,108,108],v,f,xs,[],[],a⟩:=by
  intro sc v f r ps xs a h1 h2;obtain ⟨⟨l,k1,k2⟩,fn,k3,_,k5⟩:=h1;refine .call k3 (hp.rk _ l (zgq k1) f k2) ?_ (fun x hx=>by obtain ⟨p,_,h⟩:=h2.each hx;exact h.opB);rw [h2.1,k5,List.length_take];omega
 induction h with
 | nil=>exact ziR
 | let_ h1 _ _ _ _ ih=>exact zhq (.st (by decide) (by decide) (all1 h1.opB) ziR ziR) ih
 | var_ h1 _ _ _ ih=>exact zhq (.st (by decide) (by decide) (all1 h1.opB) ziR ziR) ih
 | arr _ _ _ ih=>exact zhq (.st (by decide) (by decide) ziR ziR ziR) ih
 | callv h1 h2 _ _ _ _ ih=>exact zhq (key h1 h2) ih
 | set _ _ _ h4 _ _ ih=>exact zhq (.st (by decide) (by decide) (all1 h4.opB) ziR ziR) ih
 | calls _ _ _ h4 h5 _ _ ih=>exact zhq (key h4 h5) ih
 | put _ _ _ h4 _ _ h7 _ _ ih=>exact zhq (.st (by decide) (by decide) (all2 h4.opB h7.opB) ziR ziR) ih
 | do_ h1 h2 _ ih=>exact zhq (key h1 h2) ih
 | if_ h1 _ _ _ _ ih1 ih2 ih3=>exact zhq (.st (by decide) (by decide) (all1 h1.opB) ih1 ih2) ih3
 | for_ h1 _ h3 _ _ _ _ _ ih1 ih2=>exact zhq (.st (by decide) (by decide) (all2 h1.opB h3.opB) ih1 ziR) ih2
 | ret h1 _ _=>exact all1 (.ret h1.opB)
 | retc h1 _ h3=>exact all1 (key h1 h3)
theorem PO.pg (hp:PO c rk):PG c.p_ rk:=by
 have hm:∀ {k:Int} {fn:zao},idxL c.p_.zaB k=some fn->∃j:Nat,k=j/\c.p_.zaB[j]? = some fn:=by
  intro k fn h
  obtain ⟨r,e⟩:∃r:Nat,k=r:=by
   unfold idxL at h
   split at h
   ·exact ⟨k.toNat,by omega⟩
   ·cases h
  subst e;refine ⟨r,rfl,?_⟩;unfold idxL at h;rw [if_pos (by omega)] at h;simpa using h
 refine ⟨fun k fn h=>?_,fun k fn h=>?_,fun k fn h=>?_⟩
 ·obtain ⟨j,rfl,hj⟩:=hm h;obtain ⟨sc',ht⟩:=(hp.tf j fn hj).body;exact ht.fs hp
 ·obtain ⟨j,rfl,hj⟩:=hm h;exact hp.sz _ (List.mem_of_getElem? hj)
 ·obtain ⟨j,rfl,hj⟩:=hm h;exact hp.co.vl _ (List.mem_of_getElem? hj)
end
mutual
def clS:zac->Nat
 | ⟨o,_,_,_,b,e,_⟩=>(if o=[99,97,108,108] then 1 else 0)+clSL b+clSL e
def clSL:List zac->Nat
 | []=>0
 | x::l=>clS x+clSL l
end
mutual
theorem clS_le:∀x:zac,clS x<=szS x
 | ⟨o,v,f,l,b,e,a⟩=>by
   have h1:=znZ b;have h2:=znZ e;rw [clS,szS];split <;> omega
theorem znZ:∀l:List zac,clSL l<=szSL l
 | []=>by rw [clSL,szSL];exact Nat.le_refl _
 | x::l=>by
   have h1:=clS_le x;have h2:=znZ l;rw [clSL,szSL];omega
end
mutual
theorem szS_tz:∀x:zac,szS x<=tz x
 | ⟨o,v,f,l,b,e,a⟩=>by
   have h1:=zns b;have h2:=zns e;rw [szS,tz];omega
theorem zns:∀l:List zac,szSL l<=tzL l
 | []=>by rw [szSL,tzL];exact Nat.le_refl _
 | x::l=>by
   have h1:=szS_tz x;have h2:=zns l;rw [szSL,tzL];omega
end
theorem szSL_mem {x:zac} {l:List zac} (h:x ∈ l):szS x<=szSL l:=by
 obtain ⟨a,b,rfl⟩:=List.append_of_mem h;rw [zmh,szSL];omega
theorem Size_l1 {f:List zac->Option Int} {l:List zac} (hf:∀x ∈ l,f x.zba=some (szSL x.zba:Int)/\f x.zeO=some (szSL x.zeO:Int)) (hb:szSL l<=100000000) :
  ∀(k v:Nat) (acc:Int),l.length<v+k->v<=l.length->0<=acc->acc+szSL (l.drop v)<=100000000->zfw f l k acc (v:Int)=some (acc+szSL (l.drop v)):=by
 have hlen:=zn5 l;intro k
 induction k with
 | zero=>intro v acc h1 h2;omega
 | succ k ih=>
   intro v acc h1 h2 h3 h4;unfold zfw
   by_cases hv:v<l.length
   ·have hd:l.drop v=l[v]::l.drop (v+1):=List.drop_eq_getElem_cons hv;obtain ⟨f1,f2⟩:=hf _ (List.getElem_mem hv);have hz:=zpp l[v];rw [hd,szSL] at h4;rw [if_pos (decide_eq_true (by omega)),zgq (List.getElem?_eq_getElem hv),Option.bind_some,f1,Option.bind_some,f2,Option.bind_some,zcG (n:=(1:Int)+_) (by omega) (by omega),zcG (n:=(1:Int)+_+_) (by omega) (by omega),zcG (n:=acc+_) (by omega) (by omega),zcG (n:=(v:Int)+1) (by omega) (by omega),show ((v:Int)+1)=((v+1:Nat):Int) by omega,ih (v+1) _ (by omega) (by omega) (by omega) (by omega),hd,szSL]
    congr 1;omega
   ·rw [if_neg (by rw [decide_eq_true_eq];omega),List.drop_eq_nil_of_le (by omega),szSL]
    congr 1;omega
theorem Size_eq:∀(n:Nat) (l:List zac),szSL l+1<n->szSL l<=100000000->zhp n l=some (szSL l:Int):=by
 intro n
 induction n with
 | zero=>intro l h;omega
 | succ n ih=>
   intro l h hb;show zho (zhp n) n l=_;unfold zho;have hl:=zn5 l
   have:=Size_l1 (f:=zhp n) (l:=l) (fun x hx=>by
    have h1:=szSL_mem hx;have h2:=zpp x;exact ⟨ih _ (by omega) (by omega),ih _ (by omega) (by omega)⟩) hb n 0 0 (by omega) (by omega) (Int.le_refl _) (by rw [List.drop_zero];omega)
   rw [show ((0:Nat):Int)=0 from rfl] at this;rw [this,Option.bind_some,List.drop_zero,Int.zero_add]
end Go.Proofs.YtldnmmnnohnpkaaGreatDoor.Abs
namespace Go.Proofs.YtldnmmnnohnpkaaGreatDoor.Abs
open Go.RowKit
set_option linter.unusedVariables false
theorem zpf {n:Nat} {p:zaz} {i:Int} {fn:zao} (h:idxL p.zaB i=some fn) (hn:∀t ∈ fn.zba,NCS t) (hz:tzL fn.zba<=100000000) (hv:fn.zaJ.length<=5000) (hf:500000000<=n):Tot (zfG n p i) fun r=>(r.2=0->r.1=fn)/\(szSL fn.zba<=16384->r.2=0):=by
 have hi:0<=i/\i<p.zaB.length:=by
  unfold idxL at h
  split at h
  ·rename_i h0;have:=(List.getElem?_eq_some_iff.1 h).1;omega
  ·cases h
 unfold zfG;rw [if_neg (by rw [decide_eq_true_eq];omega),Option.bind_some,if_neg (by rw [decide_eq_true_eq];omega),h,Option.bind_some];refine Tot.need (by omega) ?_;refine ((zqb n).1 ⟨p,fn,0,0⟩ fn.zba (by omega) hz hn ⟨Int.le_refl _,(by decide:(0:Int)<=30000),fun _=>(by decide:(0:Int)<=16384),.inl rfl⟩).bind fun r hr=>?_;refine Tot.iteb (fun h=>.some ⟨fun e=>absurd e (by simpa using h),fun e=>absurd (hr.ok rfl (by show (0:Int)+_<=_;omega)) (by simpa using h)⟩) (fun h=>.some ⟨fun _=>?_,fun _=>rfl⟩);have h:r.2.e_=0:=by simpa using h
 obtain ⟨_,q2,_⟩:=hr.id h;show ({ r.2.f_ with zba:=r.1 }:zao)=fn;rw [hr.f,q2]
theorem rows_l1 {f:zao} (hv:f.zaJ.length<=5000):∀(k v:Nat) (acc:List zal),f.zaJ.length<v+k->v<=f.zaJ.length->acc.length<=v+1->Tot (zct f k acc (v:Int)) fun r=>r.length<=5001:=by
 intro k
 induction k with
 | zero=>intro v acc h1 h2;omega
 | succ k ih=>
   intro v acc h1 h2 h3;unfold zct
   by_cases hv2:v<f.zaJ.length
   ·rw [if_pos (decide_eq_true (by omega)),zgq (List.getElem?_eq_getElem hv2),Option.bind_some,zcG (n:=(v:Int)+1) (by omega) (by omega),show ((v:Int)+1)=((v+1:Nat):Int) by omega];exact Tot.need (by simp only [List.length_cons,List.length_nil];omega) (ih (v+1) _ (by omega) (by omega) (by rw [List.length_append,List.length_singleton];omega))
   ·rw [if_neg (by rw [decide_eq_true_eq];omega)];exact .some (by omega)
theorem rows_l2 {f:zao} (hv:f.zaJ.length<=5000):∀(k v:Nat) (acc:List zal),f.zaJ.length<v+k->v<=f.zaJ.length->acc.length<=v+1->Tot (zcs f k acc (v:Int)) fun r=>r.length<=5001:=by
 intro k
 induction k with
 | zero=>intro v acc h1 h2;omega
 | succ k ih=>
   intro v acc h1 h2 h3;unfold zcs
   by_cases hv2:v<f.zaJ.length
   ·rw [if_pos (decide_eq_true (by omega)),zgq (List.getElem?_eq_getElem hv2),Option.bind_some,zcG (n:=(v:Int)+1) (by omega) (by omega),show ((v:Int)+1)=((v+1:Nat):Int) by omega];exact Tot.need (by simp only [List.length_cons,List.length_nil];omega) (ih (v+1) _ (by omega) (by omega) (by rw [List.length_append,List.length_singleton];omega))
   ·rw [if_neg (by rw [decide_eq_true_eq];omega)];exact .some (by omega)
theorem rows_tot {n:Nat} {f:zao} (hv:f.zaJ.length<=5000) (hs:∀s ∈ f.zba,StB s) (hz:tzL f.zba<=50000000) (hn:60000000<=n):Tot (zdt n f) fun r=>r.length<=51000000:=by
 have hl:=zg7 f.zba;unfold zdt;refine Tot.iteb (fun _=>?_) (fun _=>?_)
 ·refine (rows_l1 hv n 0 _ (by omega) (by omega) (by simp)).bind fun y hy=>?_;rw [zlT n f.zba (by omega) (by omega) hs,Option.bind_some];exact Tot.need (by omega) (.some (by rw [List.length_append];omega))
 ·refine (rows_l2 hv n 0 _ (by omega) (by omega) (by simp)).bind fun y hy=>?_;rw [zlT n f.zba (by omega) (by omega) hs,Option.bind_some];exact Tot.need (by omega) (.some (by rw [List.length_append];omega))
theorem row_eq (x:zal):((decide (x.Tag_=x.Tag_)) && ((decide (x.za5=x.za5)) && ((x.A_ == x.A_) && ((x.B_ == x.B_) && ((x.C_ == x.C_) && ((x.D_ == x.D_) && ((x.E_ == x.E_) && (x.At_ == x.At_))))))))=true:=by simp
theorem twice_l1 {l:List zal} (hl:l.length<=51000000):∀(k v:Nat),l.length<v+k->v<=l.length->zbL l l k (v:Int)=some (.inl ()):=by
 intro k
 induction k with
 | zero=>intro v h1 h2;omega
 | succ k ih=>
   intro v h1 h2;unfold zbL
   by_cases hv:v<l.length
   ·rw [if_pos (decide_eq_true (by omega)),zgq (List.getElem?_eq_getElem hv),Option.bind_some,Option.bind_some,row_eq,if_neg (by decide),zcG (n:=(v:Int)+1) (by omega) (by omega),show ((v:Int)+1)=((v+1:Nat):Int) by omega];exact ih (v+1) (by omega) (by omega)
   ·rw [if_neg (by rw [decide_eq_true_eq];omega)]
end Go.Proofs.YtldnmmnnohnpkaaGreatDoor.Abs
namespace Go.Proofs.YtldnmmnnohnpkaaGreatDoor.Abs
open Go.RowKit
set_option linter.unusedVariables false
theorem zqL.tz {fn g:zao} (h:zqL fn g):tzL g.zba<=50000000:=by
 have h1:=Ok.all h.ok;have h2:=h.sz;omega
theorem zot {n:Nat} (hn:500000000<=n) (ha:zdA n=some true) (s:Str) (i:Int):zcV n s i=some true:=by
 unfold zcV;rw [ha,Option.bind_some,if_neg (by decide)]
 by_cases hs:(2000:Int)<(s.length:Int)
 ·rw [if_pos (decide_eq_true hs)]
 rw [if_neg (by rw [decide_eq_true_eq];exact hs)];obtain ⟨r,e,hr⟩:=zqM (n:=n) (s:=s) (by omega) (by omega);rw [e,Option.bind_some]
 by_cases he:r.2.1=0
 ·rw [if_neg (by simpa using he)];obtain ⟨c,rk,hc,hp⟩:=hr he;obtain ⟨r2,e2,h2,_⟩:=Flat_tot hp.pg (n:=n) (i:=i) hp.rkN (by omega);rw [hc] at e2;rw [e2,Option.bind_some]
  by_cases h3:r2.2=0
  ·rw [if_neg (by simpa using h3)];obtain ⟨fn,_,hf⟩:=h2 h3;have hz:=hf.tz;have hnc:∀t ∈ r2.1.zba,NCS t:=fun t ht=>(hf.ok t ht).nc;obtain ⟨r4,e4,h4⟩:=rows_tot (n:=n) (f:=r2.1) (by have:=hf.v;omega) (fun t ht=>(hf.ok t ht).st) hz (by omega);have hv:=hf.v;have hsz:=hf.sz
   obtain ⟨r3,e3,h5,h6⟩:Tot (zfG n ⟨[r2.1]⟩ 0) fun r=>(r.2=0->r.1=r2.1)/\(szSL r2.1.zba<=16384->r.2=0):=by
    refine zpf (p:=⟨[r2.1]⟩) (i:=0) rfl hnc (by omega) (by omega) hn
   rw [e3,Option.bind_some,e4,Option.bind_some,h5 (h6 hsz),e4,Option.bind_some,h6 hsz,if_neg (by decide),Option.bind_some,if_neg (by simp)];have hl:=twice_l1 h4 n 0 (by omega) (by omega);rw [show ((0:Nat):Int)=0 from rfl] at hl;rw [hl,Option.bind_some];show Option.bind (Option.bind (zhp n r2.1.zba) _) _=_;rw [Size_eq n _ (by omega) (by omega),Option.bind_some,if_pos (decide_eq_true (by omega)),Option.bind_some,decide_eq_true (show (r2.1.zaJ.length:Int)<=4096 by omega)]
  ·rw [if_pos (by simpa using h3)]
 ·rw [if_pos (by simpa using he)]
theorem anchor14:zdA 500000000=some true:=by kernel_rfl
theorem zm5:∃n,∀(s:Str) (i:Int),zcV n s i=some true:=⟨_,zot (Nat.le_refl _) anchor14⟩
end Go.Proofs.YtldnmmnnohnpkaaGreatDoor.Abs
