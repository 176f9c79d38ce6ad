import Derived.Test.YtljbbjpbefjpiaaGreatDoorPJnPar1
import Derived.KernelRfl
namespace Go.Proofs.YtljbbjpbefjpiaaGreatDoor.Abs
open Go.RowKit
set_option linter.all false
inductive OpB:aI->Prop
 | mk {x}:x.sT.length<=16->(∀y ∈ x.aL,OpB y)->OpB x
inductive StB:aG->Prop
 | mk {s}:(∀x ∈ s.aL,OpB x)->(∀t ∈ s.eG,StB t)->(∀t ∈ s.pZ,StB t)->StB s
theorem OpB.nil {o:cB} {t k v a:Int} (h:o.length<=16):OpB ⟨o,t,k,v,[],a⟩:=.mk h λy hy=>nomatch hy
theorem FV {α:Type} {P:α->Prop} {x:α} (h:P x):∀y ∈ [x],P y:=λy hy=>by obtain rfl:=DX.1 hy;exact h
theorem PP {α:Type} {P:α->Prop} {x y:α} (h:P x) (k:P y):∀z ∈ [x,y],P z:=λz hz=>by
 rcases BP.1 hz with rfl | hz
 ·exact h
 ·exact FV k z hz
theorem all3 {α:Type} {P:α->Prop} {x y z:α} (h:P x) (k:P y) (l:P z):∀u ∈ [x,y,z],P u:=λu hu=>by
 rcases BP.1 hu with rfl | hu
 ·exact h
 ·exact PP k l u hu
theorem SJ.len {o:cB} {x y:aI} {t:Int} (h:SJ o x y t):o.length<=16:=by
 rcases h with ⟨h,_⟩ | ⟨h,_⟩ | ⟨h,_⟩ | ⟨h,_⟩ | ⟨h,_⟩
 ·rcases h with rfl | rfl <;> decide
 ·rcases h with rfl | rfl | rfl <;> decide
 ·subst h;decide
 ·rcases h with rfl | rfl <;> decide
 ·rcases h with rfl | rfl | rfl | rfl | rfl <;> decide
section
variable {vs:List bB} {sc:List Int}
theorem TX.opB {x:aI} (h:TX vs sc x):OpB x:=by
 induction h with
 | num=>exact .nil (by decide)
 | var _ _ _=>exact .nil (by decide)
 | index _ _ _ _ _ _ ih=>exact .mk (by simp only;decide) (FV ih)
 | un h _ ih=>exact .mk (by simp only;rcases h with rfl | rfl <;> decide) (FV ih)
 | bin _ _ h ih1 ih2=>exact .mk h.len (PP ih1 ih2)
 | sel _ _ _ _ _ ih1 ih2 ih3=>exact .mk (by simp only;decide) (all3 ih1 ih2 ih3)
 | long _ _ ih=>exact .mk (by simp only;decide) (FV ih)
 | wide _ _ _ _ ih1 ih2=>exact .mk (by simp only;decide) (PP ih1 ih2)
 | half h _ _ ih=>exact .mk (by simp only;rcases h with rfl | rfl <;> decide) (FV ih)
theorem Fl.opB {p:bB} {x:aI} (h:Fl vs sc p x):OpB x:=by
 cases h with
 | arr _ _ _ _ _=>exact .nil (by decide)
 | pub _ h _=>exact h.opB
 | val _ _ h _=>exact h.opB
theorem DA.each {ps:List bB} {l:List aI} (h:DA vs sc ps l) {x:aI} (hx:x ∈ l):∃p ∈ ps,Fl vs sc p x:=by
 obtain ⟨i,hi⟩:=List.getElem?_of_mem hx;have hlt:=(uD.1 hi).1;exact ⟨ps[i]'(by rw [←h.1];exact hlt),xdr _,h.2 i _ x (yP _) hi⟩
variable {sg:PQ} {res:Int} {l:Bool} {n n':Nat} {sc':List Int} {ss:List aG}
theorem wZ {α:Type} {P:α->Prop} {x:α} {l:List α} (h:P x) (k:∀y ∈ l,P y):∀y ∈ x::l,P y:=λy hy=>by
 rcases BP.1 hy with rfl | hy
 ·exact h
 ·exact k y hy
theorem sH {α:Type} {P:α->Prop}:∀y ∈ ([]:List α),P y:=λy hy=>nomatch hy
theorem TB.stB (h:TB sg vs res l n sc ss n' sc'):∀s ∈ ss,StB s:=by
 induction h with
 | nil=>exact sH
 | let_ h1 _ _ _ _ ih=>exact wZ (.mk (FV h1.opB) sH sH) ih
 | var_ h1 _ _ _ ih=>exact wZ (.mk (FV h1.opB) sH sH) ih
 | arr _ _ _ ih=>exact wZ (.mk sH sH sH) ih
 | callv _ h2 _ _ _ _ ih=>exact wZ (.mk (λx hx=>by obtain ⟨p,_,h⟩:=h2.each hx;exact h.opB) sH sH) ih
 | set _ _ _ h4 _ _ ih=>exact wZ (.mk (FV h4.opB) sH sH) ih
 | calls _ _ _ _ h5 _ _ ih=>exact wZ (.mk (λx hx=>by obtain ⟨p,_,h⟩:=h5.each hx;exact h.opB) sH sH) ih
 | put _ _ _ h4 _ _ h7 _ _ ih=>exact wZ (.mk (PP h4.opB h7.opB) sH sH) ih
 | do_ _ h2 _ ih=>exact wZ (.mk (λx hx=>by obtain ⟨p,_,h⟩:=h2.each hx;exact h.opB) sH sH) ih
 | if_ h1 _ _ _ _ ih1 ih2 ih3=>exact wZ (.mk (FV h1.opB) ih1 ih2) ih3
 | for_ h1 _ h3 _ _ _ _ _ ih1 ih2=>exact wZ (.mk (PP h1.opB h3.opB) ih1 sH) ih2
 | ret h1 _ _=>exact FV (.mk (FV h1.opB) sH sH)
 | retc _ _ h3=>exact FV (.mk (λx hx=>by obtain ⟨p,_,h⟩:=h3.each hx;exact h.opB) sH sH)
end
def rowX (x:aI):aM:=⟨[61]++x.sT,[],x.dQ,IntKind.i64.wrap x.N_,x.rQ,x.aL.length,0,x.eO⟩
def rowS (s:aG):aM:=⟨s.sT,[],s.rQ,s.oL,s.aL.length,s.eG.length,s.pZ.length,s.eO⟩
mutual
def KF:aI->List aM
 | ⟨o,t,n,v,l,a⟩=>rowX ⟨o,t,n,v,l,a⟩::wO l
def wO:List aI->List aM
 | []=>[]
 | x::l=>KF x++wO l
end
mutual
def KG:aG->List aM
 | ⟨o,v,f,l,b,e,a⟩=>rowS ⟨o,v,f,l,b,e,a⟩::(wO l++(tI b++tI e))
def tI:List aG->List aM
 | []=>[]
 | x::l=>KG x++tI l
end
theorem QW (x:aI):KF x=rowX x::wO x.aL:=by cases x;rw [KF]
theorem QX (s:aG):KG s=rowS s::(wO s.aL++(tI s.eG++tI s.pZ)):=by cases s;rw [KG]
mutual
theorem OJ:∀x:aI,(KF x).length=xz x
 | ⟨o,t,n,v,l,a⟩=>by rw [KF,xz,gK,zC l,Nat.add_comm]
theorem zC:∀l:List aI,(wO l).length=xO l
 | []=>by rw [wO,xO];rfl
 | x::l=>by rw [wO,xO,mK,OJ x,zC l]
end
mutual
theorem OK:∀x:aG,(KG x).length=tz x
 | ⟨o,v,f,l,b,e,a⟩=>by rw [KG,tz,gK,mK,mK,zC l,wP b,wP e];omega
theorem wP:∀l:List aG,(tI l).length=xX l
 | []=>by rw [tI,xX];rfl
 | x::l=>by rw [tI,xX,mK,OK x,wP l]
end
theorem Mv {f:List aI->Option (List aM)} {l:List aI} (hf:∀x ∈ l,f x.aL=some (wO x.aL)) (ho:∀x ∈ l,OpB x) :
  ∀(k v:Nat) (acc:List aM),l.length<v+k->v<=l.length->acc.length+xO (l.drop v)<=1073741824->l.length<=1073741824->oQ f l k acc (v:Int)=some (acc++wO (l.drop v)):=by
 intro k
 induction k with
 | zero=>intro v acc h1 h2;omega
 | succ k ih=>
   intro v acc h1 h2 h3 h4;unfold oQ
   by_cases hv:v<l.length
   ·have hd:l.drop v=l[v]::l.drop (v+1):=NP hv;have e:bY l (v:Int)=some l[v]:=Nu (yP hv);have hm:l[v] ∈ l:=xdr hv;have hlen:=zC (l[v]).aL;have hz:=CH l[v];rw [hd,xO] at h3;obtain ⟨hop,_⟩:=ho _ hm;rw [if_pos (DD (by omega)),e,bU,dN (by simp only [gK,iT];omega),dN (by simp only [gK,iT];omega),hf _ hm,bU,dN (by simp only [mK,mQ];omega)];rw [cZ (n:=(v:Int)+1) (by omega) (by omega),show ((v:Int)+1)=((v+1:Nat):Int) by omega,ih (v+1) _ (by omega) (by omega) (by simp only [mK,mQ];omega) h4,hd,wO,QW];simp only [xM,iC,iV,rowX]
   ·rw [if_neg (by rw [uH];omega),xei (by omega),wO,jR]
theorem Mw:∀(n:Nat) (l:List aI),xO l+1<n->xO l<=1000000->(∀x ∈ l,OpB x)->lS n l=some (wO l):=by
 intro n
 induction n with
 | zero=>intro l h;omega
 | succ n ih=>
   intro l h hb ho;show nM (lS n) n l=_;unfold nM;have hl:=xzL_len l
   have:=Mv (f:=lS n) (l:=l) (λx hx=>by
    have h1:=xzL_mem hx;have h2:=CH x;obtain ⟨_,h3⟩:=ho x hx;exact ih _ (by omega) (by omega) h3) ho n 0 [] (by omega) (by omega) (by simp only [iT,jU];omega) (by omega)
   rw [show ((0:Nat):Int)=0 from rfl] at this;rw [this,bU,iV,jU]
theorem LK {f:List aG->Option (List aM)} {n:Nat} {l:List aG} (hf:∀x ∈ l,f x.eG=some (tI x.eG)/\f x.pZ=some (tI x.pZ)) (ho:∀x ∈ l,StB x) (hn:xX l<n) (hb:xX l<=1000000) :
  ∀(k v:Nat) (acc:List aM),l.length<v+k->v<=l.length->acc.length+xX (l.drop v)<=1073741824->oP f n l k acc (v:Int)=some (acc++tI (l.drop v)):=by
 intro k
 induction k with
 | zero=>intro v acc h1 h2;omega
 | succ k ih=>
   intro v acc h1 h2 h3;have hll:=MZ l;unfold oP
   by_cases hv:v<l.length
   ·have hd:l.drop v=l[v]::l.drop (v+1):=NP hv;have e:bY l (v:Int)=some l[v]:=Nu (yP hv);have hm:l[v] ∈ l:=xdr hv;have hmz:=MY hm;have hlen:=zC (l[v]).aL;have hlen2:=wP (l[v]).eG;have hlen3:=wP (l[v]).pZ;have hz:=xW l[v];rw [hd,xX] at h3;obtain ⟨hop,_,_⟩:=ho _ hm;rw [if_pos (DD (by omega)),e,bU,dN (by simp only [gK,iT];omega),Mw n _ (by omega) (by omega) hop,bU,dN (by simp only [mK,mQ];omega),(hf _ hm).1,bU,dN (by simp only [mK,mQ];omega),(hf _ hm).2,bU,dN (by simp only [mK,mQ];omega)];rw [cZ (n:=(v:Int)+1) (by omega) (by omega),show ((v:Int)+1)=((v+1:Nat):Int) by omega,ih (v+1) _ (by omega) (by omega) (by simp only [mK,mQ];omega),hd,tI,QX];simp only [xM,iC,iV,rowS]
   ·rw [if_neg (by rw [uH];omega),xei (by omega),tI,jR]
theorem LL:∀(n:Nat) (l:List aG),xX l+1<n->xX l<=1000000->(∀x ∈ l,StB x)->gF n l=some (tI l):=by
 intro n
 induction n with
 | zero=>intro l h;omega
 | succ n ih=>
   intro l h hb ho;show nJ (gF n) n l=_;unfold nJ;have hl:=MZ l
   have:=LK (f:=gF n) (n:=n) (l:=l) (λx hx=>by
    have h1:=MY hx;have h2:=xW x;obtain ⟨_,h3,h4⟩:=ho x hx;exact ⟨ih _ (by omega) (by omega) h3,ih _ (by omega) (by omega) h4⟩) ho (by omega) hb n 0 [] (by omega) (by omega) (by simp only [iT,jU];omega)
   rw [show ((0:Nat):Int)=0 from rfl] at this;rw [this,bU,iV,jU]
open Jn (LD Ko JQ)
set_option linter.all false
theorem RT {u:Nat} (h:u<10):RU (IntKind.i32.wrap (IntKind.u32.wrap ((48:Int)+(u:Int))))=[UInt8.ofNat (48+u)]:=by
 have:u=0 ∨ u=1 ∨ u=2 ∨ u=3 ∨ u=4 ∨ u=5 ∨ u=6 ∨ u=7 ∨ u=8 ∨ u=9:=by omega
 rcases this with rfl | rfl | rfl | rfl | rfl | rfl | rfl | rfl | rfl | rfl <;> rfl
theorem Pp:∀(k u:Nat) (acc:cB),u<10 ^ k->u<=4294967295->acc.length+k<=100->1<=k->gD k (u:Int) acc=some (Lib.decDigits u++acc):=by
 intro k
 induction k with
 | zero=>intro u acc h _ _ h2;omega
 | succ k ih=>
   intro u acc h hb hl _;have hm:u % 10<10:=Nat.mod_lt _ (by decide);have e1:(u:Int).tmod 10=((u % 10:Nat):Int):=by rw [Int.tmod_eq_emod_of_nonneg (by omega)];omega
   have e2:IntKind.u32.wrap ((u:Int).tdiv 10)=((u / 10:Nat):Int):=by
    rw [Int.tdiv_eq_ediv_of_nonneg (by omega)];unfold IntKind.wrap;simp [IntKind.bits,IntKind.signed];omega
   unfold gD;rw [e1,e2,RT hm,dN (by simp only [mQ];omega),Lib.decDigits]
   by_cases h10:u<10
   ·rw [dif_pos h10,if_pos (by rw [beq_iff_eq];omega),show u % 10=u by omega]
   ·rw [dif_neg h10,if_neg (by rw [beq_iff_eq];omega)]
    have hk:1<=k:=by
     cases k with
     | zero=>simp at h;omega
     | succ k=>omega
    rw [ih (u / 10) _ (by rw [Nat.pow_succ] at h;omega) (by omega) (by simp only [mK,mQ];omega) hk,xM]
theorem Pq {u:Nat} (hu:u<=4294967295):∀n,11<=n->mN n (u:Int)=some (Lib.decDigits u):=by
 have mono:∀(k:Nat) (u:Int) (acc r:cB),gD k u acc=some r->gD (k+1) u acc=some r:=by
  intro k
  induction k with
  | zero=>intro u acc r h;cases h
  | succ k ih=>
    intro u acc r h;unfold gD at h ⊢;obtain ⟨h1,h2⟩:=dK h;rw [dN h1]
    split
    ·rename_i hc;rw [if_pos hc] at h2;exact h2
    ·rename_i hc;rw [if_neg hc] at h2;exact ih _ _ _ h2
 have base:gD 11 (u:Int) []=some (Lib.decDigits u):=by
  have:=Pp 11 u [] (by omega) hu (by decide) (by decide)
  rwa [jR] at this
 intro n hn;obtain ⟨m,rfl⟩:∃m,n=11+m:=⟨n - 11,by omega⟩;unfold mN
 have:gD (11+m) (u:Int) []=some (Lib.decDigits u):=by
  induction m with
  | zero=>exact base
  | succ m ih=>exact mono _ _ _ _ (ih (by omega))
 rw [this];rfl
def rowV (v:bB):aM:=⟨[118],v.iS,v.bT,v.rR,0,0,0,0⟩
def QY (f:aQ):aM:=⟨[102,110],f.iS,if f.jT=true then 1 else 0,f.cW,f.bS,f.bW.length,f.eG.length,0⟩
def Gj (f:aQ):List aM:=(QY f::f.bW.map rowV)++tI f.eG
def CK:List aQ->List aM
 | []=>[]
 | f::l=>Gj f++CK l
theorem OM (l r:List aQ):CK (l++r)=CK l++CK r:=by
 induction l with
 | nil=>rfl
 | cons f l ih=>rw [iC,CK,CK,ih,xM]
structure FnB (f:aQ):Prop where
 v:f.bW.length<=250
 b:xX f.eG<=3001
 s:∀s ∈ f.eG,StB s
theorem IJ {f:aQ} (h:FnB f):(Gj f).length<=4000:=by
 unfold Gj;rw [mK,gK,jI,wP];have:=h.v;have:=h.b;omega
theorem Ma {f:aQ} (hv:f.bW.length<=250):∀(k v:Nat) (acc:List aM),f.bW.length<v+k->v<=f.bW.length->acc.length<=1000000+v->gY f k acc (v:Int)=some (acc++(f.bW.drop v).map rowV):=by
 intro k
 induction k with
 | zero=>intro v acc h1 h2;omega
 | succ k ih=>
   intro v acc h1 h2 h3;unfold gY
   by_cases hlt:v<f.bW.length
   ·have hg:bY f.bW (v:Int)=some f.bW[v]:=by rw [Fd];exact yP hlt
    rw [if_pos (DD (by omega)),hg,bU,dN (by simp only [mQ];omega),cZ (n:=(v:Int)+1) (by omega) (by omega),show ((v:Int)+1)=((v+1:Nat):Int) by omega,ih (v+1) _ (by omega) (by omega) (by simp only [mK,mQ];omega),xM]
    congr 2
    rw [NP hlt];rfl
   ·rw [if_neg (by rw [uH];omega),xei (by omega),jA,jR]
theorem Mb {n:Nat} (hn:90000<=n) {l:List aQ} (hl:l.length<=65) (hf:∀f ∈ l,FnB f):∀(k v:Nat) (acc:List aM),l.length<v+k->v<=l.length->acc.length<=4000*v->nL n ⟨l⟩ k acc (v:Int)=some (acc++CK (l.drop v)):=by
 intro k
 induction k with
 | zero=>intro v acc h1 h2;omega
 | succ k ih=>
   intro v acc h1 h2 h3;unfold nL
   by_cases hlt:v<l.length
   ·have hg:bY l (v:Int)=some l[v]:=by rw [Fd];exact yP hlt
    have hb:=hf l[v] (xdr hlt);have hF:=IJ hb;have hs:=LL n l[v].eG (by have:=hb.b;omega) (by have:=hb.b;omega) hb.s
    have hV:∀acc:List aM,acc.length<=1000000->gY l[v] n acc (0:Int)=some (acc++l[v].bW.map rowV):=λacc ha=>by
     have:=Ma hb.v n 0 acc (by have:=hb.v;omega) (NS _) (by omega);rw [jU] at this;exact this
    have hlen:(Gj l[v]).length=(QY l[v]::l[v].bW.map rowV).length+(tI l[v].eG).length:=by unfold Gj;rw [mK]
    rw [gK,jI] at hlen
    have key:∀e,QY l[v]=e->(iU (acc.length+[e].length<=1073741824) <|
      (gY l[v] n (acc++[e]) (0:Int)).bind λy26=>
      (gF n l[v].eG).bind λx45=>
      iU (y26.length+x45.length<=1073741824) <|
      some (y26++x45))=some (acc++Gj l[v]):=by
     intro e he;subst he;rw [dN (by simp only [mQ];omega),hV _ (by simp only [mK,mQ];omega),bU,hs,bU,dN (by simp only [mK,mQ,jI];omega)];unfold Gj;simp only [xM,iC,iV]
    have step:((bY l (v:Int)).bind λx12=>
     if x12.jT=true then
      iU (acc.length+[(aM.mk ([102,110]:cB) x12.iS (1:Int) x12.cW x12.bS (x12.bW.length:Int) (x12.eG.length:Int) (0:Int))].length<=1073741824) <|
      (gY x12 n (acc++[(aM.mk ([102,110]:cB) x12.iS (1:Int) x12.cW x12.bS (x12.bW.length:Int) (x12.eG.length:Int) (0:Int))]) (0:Int)).bind λy26=>
      (gF n x12.eG).bind λx45=>
      iU (y26.length+x45.length<=1073741824) <|
      some (y26++x45)
     else
      iU (acc.length+[(aM.mk ([102,110]:cB) x12.iS (0:Int) x12.cW x12.bS (x12.bW.length:Int) (x12.eG.length:Int) (0:Int))].length<=1073741824) <|
      (gY x12 n (acc++[(aM.mk ([102,110]:cB) x12.iS (0:Int) x12.cW x12.bS (x12.bW.length:Int) (x12.eG.length:Int) (0:Int))]) (0:Int)).bind λy55=>
      (gF n x12.eG).bind λx74=>
      iU (y55.length+x74.length<=1073741824) <|
      some (y55++x74))=some (acc++Gj l[v]):=by
     rw [hg,bU]
     by_cases hx:l[v].jT=true
     ·rw [if_pos hx];exact key _ (by unfold QY;rw [if_pos hx])
     ·rw [if_neg hx];exact key _ (by unfold QY;rw [if_neg hx])
    rw [if_pos (DD (by show (v:Int)<(l.length:Int);omega))];show ((_:Option (List aM)).bind λy11=>nL n ⟨l⟩ k y11 (IntKind.i64.wrap ((v:Int)+1)))=_;rw [step,bU,cZ (n:=(v:Int)+1) (by omega) (by omega),show ((v:Int)+1)=((v+1:Nat):Int) by omega,ih (v+1) _ (by omega) (by omega) (by rw [mK];omega),xM]
    congr 2
    rw [NP hlt,CK]
   ·rw [if_neg (by rw [uH];show ¬ (v:Int)<(l.length:Int);omega),xei (by omega),CK,jR]
theorem Nj {n:Nat} (hn:90000<=n) {l:List aQ} (hl:l.length<=65) (hf:∀f ∈ l,FnB f):jM n ⟨l⟩=some (CK l):=by
 unfold jM;have:=Mb hn hl hf n 0 [] (by omega) (NS _) (NS _);rw [jU,iV] at this;rw [show (0:Int)=((0:Nat):Int) from rfl,this];rfl
theorem OL {l:List aQ} (hf:∀f ∈ l,FnB f):(CK l).length<=4000*l.length:=by
 induction l with
 | nil=>exact NS _
 | cons f l ih=>
   have:=IJ (hf f NQ);have:=ih λg hg=>hf g (Jk _ hg);rw [CK,mK,gK];omega
theorem same_l1 {a r:List aM} (ha:a.length<=1000000):∀(k v:Nat),a.length<v+k->v<=a.length->kG a (a++r) k (v:Int)=some (.inl ()):=by
 intro k
 induction k with
 | zero=>intro v h1 h2;omega
 | succ k ih=>
   intro v h1 h2;unfold kG
   by_cases hlt:v<a.length
   ·have hg:bY a (v:Int)=some a[v]:=by rw [Fd];exact yP hlt
    rw [if_pos (DD (by omega)),hg,bU,oN hg,bU,if_neg (by simp),cZ (n:=(v:Int)+1) (by omega) (by omega),show ((v:Int)+1)=((v+1:Nat):Int) by omega];exact ih (v+1) (by omega) (by omega)
   ·rw [if_neg (by rw [uH];omega)]
theorem PO.fnB {c:aD} {rk:Int->Nat} (h:PO c rk):∀f ∈ c.p_.aS,FnB f:=λf hf=>by
 obtain ⟨j,hj,rfl⟩:=List.getElem_of_mem hf;obtain ⟨sc',hb⟩:=(h.tf j _ (yP hj)).body;exact ⟨(h.co.vl _ hf).1,h.sz _ hf,hb.stB⟩
theorem zz_fnB (d e f g x:Int):FnB (zF 1 [Fv] [zzR d e f g x]):=by
 refine ⟨by show (1:Nat)<=250;omega,?_,?_⟩
 ·show xX [zzR d e f g x]<=3001;unfold zzR;simp only [xX,tz,xO,xz];omega
 ·intro s hs;obtain rfl:=DX.1 hs;exact .mk (FV (.mk (show ([43]:cB).length<=16 by decide) (PP (.nil (by decide)) (.nil (by decide))))) sH sH
theorem Su:nY 300000=some true:=by kernel_rfl
theorem Lo {n:Nat} (hn:90000<=n) {s:cB} (hs:s.length<=3000) {r:cY × Int × Int} (h:kD n s=some r) (h0:r.2.1=0):∃x w,mG n s=some (x,0,w):=by
 obtain ⟨⟨x,e,w⟩,ep,_⟩:=Dl (n:=n) (s:=s) (by omega)
 by_cases he:e=0
 ·exact ⟨x,w,by rw [ep,he]⟩
 ·unfold kD at h;rw [ep,bU] at h
  dsimp only at h
  rw [ne_bne' he,if_pos rfl] at h;rw [←bX h] at h0;exact absurd h0 he
theorem MM (s:cB) (u:Nat) (hu:u<=4294967295):lV 300000 s (u:Int)=some true:=by
 unfold lV;rw [Su,bU,if_neg (by decide)]
 by_cases hl:(2000:Int)<s.length
 ·rw [if_pos (by simpa using hl)]
 rw [if_neg (by simpa using hl)];have hd:=JQ 11 u (by omega) (by decide);obtain ⟨⟨p,e,t⟩,e1,p1⟩:=Jh (n:=300000) (s:=s) (by omega) (by omega)
 have hsrc:(([]:cB)++s)++((([10,102,110,32,122,122,57,40,120,58,32,117,51,50,41,32,45,62,32,117,51,50,32,123,32,114,101,116,117,114,110,32,120,32,43,32]:cB)++Lib.decDigits u)++([59,32,125]:cB))=s++10::LD (Lib.decDigits u):=by
  unfold LD;simp only [xM,iC,iV]
 have hL:(s++10::LD (Lib.decDigits u)).length<=2100:=by
  unfold LD;simp only [mK,gK,iT];omega
 obtain ⟨⟨p2,f2,t2⟩,e2,_⟩:=Jh (n:=300000) (s:=s++10::LD (Lib.decDigits u)) (by omega) (by omega);rw [e1,bU,dN (by simp only [iT];omega),Pq hu 300000 (by omega),bU,dN (by simp only [gK,iT];omega),dN (by simp only [mK,gK,iT];omega),dN (by simp only [mK,gK,iT];omega),hsrc,e2,bU]
 dsimp only
 by_cases he:e=0
 rotate_left
 ·rw [ne_bne' he,if_pos rfl]
 subst he;rw [if_neg (by decide)];obtain ⟨c,rk,hc,hP⟩:=p1 rfl;have hc:c.p_=p:=hc;subst hc;obtain ⟨x,w,hp⟩:=Lo (by omega) (by omega) e1 rfl;obtain ⟨⟨i,ok⟩,eF,_⟩:=Fq (n:=300000) (p:=c.p_) (s:=MU) (by have:=hP.n64;omega) (by omega);have eF':dS 300000 c.p_ ([122,122,57]:cB)=some (i,ok):=eF
 have bad:f2 ≠ 0->(ok=true ∨ 64<=c.p_.aS.length ∨ f2=136)->(if (f2 != (0:Int))=true then
     (dS 300000 c.p_ ([122,122,57]:cB)).bind λx24=>
     (if x24.2=true then
        some true
       else
        if (decide ((64:Int)<=(c.p_.aS.length:Int)))=true then
         some true
        else
         some (f2 == (136:Int))).bind λy26=>
     some y26
    else
     (jM 300000 c.p_).bind λx32=>
     (jM 300000 p2).bind λx33=>
     (if ((p2.aS.length:Int) != (IntKind.i64.wrap ((c.p_.aS.length:Int)+(1:Int))))=true then
        some true
       else
        some (decide ((x33.length:Int)<(x32.length:Int)))).bind λy36=>
     if y36=true then
      some false
     else
      (kG x32 x33 300000 (0:Int)).bind λy44=>
      y44.elim (λy44a=>
       some true) (λy44a=>
       some y44a))=some true:=by
  intro h1 h2;rw [if_pos (ne_bne' h1),eF',bU]
  dsimp only
  by_cases hk:ok=true
  ·rw [if_pos hk];rfl
  ·rw [if_neg hk]
   by_cases hm:(64:Int)<=(c.p_.aS.length:Int)
   ·rw [if_pos (DD hm)];rfl
   ·rw [if_neg (by rw [uH];exact hm),show f2=136 from (h2.resolve_left hk).resolve_left (by omega)];rfl
 obtain ⟨_,r,er,hr⟩:=Ko (n:=300000) (by omega) (a:=s) (by omega) hu hp;obtain ⟨x',e',w'⟩:=r
 rcases hr with hr | ⟨hr,a,b,c',d,e,f,g,hx⟩
 ·have hr:e'=136:=hr;subst hr
  have:f2=136:=by
   unfold kD at e2;rw [er,bU] at e2
   dsimp only at e2
   rw [if_pos (by decide)] at e2;exact (congrArg (λr:cY × Int × Int=>r.2.1) (bX e2)).symm
  exact bad (by omega) (.inr (.inr this))
 ·have hr:e'=0:=hr;subst hr
  rcases JS (n:=300000) (by omega) (by omega) hp er hx e1 with ⟨h1,r',h2,h3⟩ | h1
  ·rw [e2] at h2;have h2:=bX h2;subst h2;refine bad h3 ?_
   rcases h1 with h1 | ⟨i',h1⟩
   ·exact .inr (.inl h1)
   ·rw [eF] at h1;exact .inl (congrArg Prod.snd (bX h1))
  ·rw [e2] at h1;have h1:=bX h1;have hf2:f2=0:=congrArg (λr:cY × Int × Int=>r.2.1) h1;have hp2:p2=_:=congrArg (λr:cY × Int × Int=>r.1) h1;subst hf2;subst hp2;have n64:=hP.n64;have hB:=hP.fnB;have hR:=OL hB
   rw [if_neg (by decide),Nj (n:=300000) (by omega) (l:=c.p_.aS) (by omega) hB,bU,Nj (n:=300000) (by omega) (by rw [mK,mQ];omega) (λf hf=>by
    rcases BQ.1 hf with hf | hf
    ·exact hB f hf
    ·obtain rfl:=DX.1 hf;exact zz_fnB _ _ _ _ _),bU,OM]
   rw [if_neg (by rw [cZ (by omega) (by omega)];simp only [mK,mQ];simp),bU,if_neg (by rw [uH,mK];omega)];rw [show (0:Int)=((0:Nat):Int) from rfl,same_l1 (by omega) 300000 0 (by omega) (NS _)];rfl
theorem u32_le {x:Int} (h:(Lit.int .u32 x).wf=true):0<=x/\x<=4294967295:=by
 simp [Lit.wf,IntKind.min,IntKind.max,IntKind.signed,IntKind.bits] at h
 omega
theorem PJ:∃n,∀(s:cB) (x:Int),(Lit.int .u32 x).wf=true->lV n s x=some true:=
 ⟨300000,λs x hx=>by
  obtain ⟨h0,h1⟩:=u32_le hx;obtain ⟨u,rfl⟩:=Int.eq_ofNat_of_zero_le h0;exact MM s u (by omega)⟩
