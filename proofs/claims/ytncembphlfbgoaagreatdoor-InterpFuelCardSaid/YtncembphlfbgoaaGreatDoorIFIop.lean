/- Lemmas of ours. -/
import Derived.Test.YtncembphlfbgoaaGreatDoorIFFacts
import Derived.Test.YtncembphlfbgoaaGreatDoorIFH9
import Derived.Test.YtncembphlfbgoaaGreatDoorIFTot
namespace Go.Proofs.YtncembphlfbgoaaGreatDoor.Abs
open Go.RowKit Tryz
open IntKind (i64 u32 u64 u8)
set_option linter.unusedVariables false
set_option maxRecDepth 10000
theorem On {m:M} {a b:Pa} {x y:List V} (h:(a=b)=False):(m.hset a x).hset b y=(m.hset b y).hset a x:=by
 refine M.ext_hp rfl rfl rfl rfl (funext fun i=>?_);show (if i=b then some y else if i=a then some x else m.hp i)=if i=a then some x else if i=b then some y else m.hp i
 by_cases e:i=b
 ·rw [if_pos e,if_neg (fun e2=>of_eq_true (by rw [←h,←e2,←e];exact eq_self i)),if_pos e]
 ·rw [if_neg e,if_neg e]
theorem PJ {E:eA} {a b:Nat} {x y:V} (h:(a=b)=False):Pn (Pn E a x) b y=Pn (Pn E b y) a x:=by
 funext t
 show (if t=b then y else if t=a then x else E t)=if t=a then x else if t=b then y else E t
 by_cases e:t=b
 ·rw [if_pos e,if_neg (fun e2=>of_eq_true (by rw [←h,←e2,←e];exact eq_self t)),if_pos e]
 ·rw [if_neg e,if_neg e]
theorem KQ {X:List Pa} {Y:List Nat} {a:Pa} {n:Nat} {k:Int} (h:k<(X.length:Int)) (hy:Y.length=X.length):xB (X++[a]) (Y++[n]) k=xB X Y k:=by
 unfold xB
 split
 ·rfl
 ·rw [JA,JA,JA,JA,FX (by omega),FX (by omega)]
theorem Il {X:List Pa} {Y:List Nat} {a:Pa} {n:Nat} (hy:Y.length=X.length):xB (X++[a]) (Y++[n]) ((X.length:Nat):Int)=.vec a 1 n:=by
 unfold xB;rw [if_neg (by omega),AP,JA,JA,Hr (sU _),←hy,Hr (sU _)];simp [hy]
structure Hm (q:Pa) (h h':Hp) (AS:List Pa) (LS:List Nat) (AS2:List Pa) (fr:aK) (h2:List (List Int)):Prop where
 w:h' (6::q)=some (fr.cC.map Hi)
 a:h' (10::q)=some (fr.cK.map (xB (AS++AS2) (LS++h2.map List.length)))
 nd:AS2.Nodup
 un:∀a ∈ AS2,∃j i,a=j::i::21::q
 len:AS2.length=h2.length
 gC:∀(k:Nat) (a:Pa) (l:List Int),AS2[k]? = some a->h2[k]? = some l->h' a=some (l.map By)
 out:∀i,¬ q <:+ i->h' i=h i
theorem MI {f:aY} {b:Nat} {r:aK × List (List Int)} (h:Cg f b=some r) (q:Pa) (m:M) (vs:List V) (AS:List Pa) (LS:List Nat) (hAS:AS.length=b) (hLS:LS.length=b) (hv:vs.map V.weak1=[.agg (aY.C f)]) :
  SC prog 45 vs q m (fun v m'=>∃AS2 h',v=.ptr (12::q) 0/\m'=(m.set (12::q) (Cj (6::q) (10::q) r.1)).seth h'/\Hm q m.hp h' AS LS AS2 r.1 r.2):=by
 refine SC.wv hv ?_;refine SC.freshH fun hfr=>?_;refine SC_ofK (12::q) (MA _ _) func45 rfl (fun xs w=>call45 xs w) ntmps45 (by kernel_rfl) (congrArg Array.toList results45) ?_;unfold Cg at h;obtain ⟨⟨hp0,hp1,hvl⟩,h⟩:=bS h;obtain ⟨o,ho,h⟩:=aA h;obtain rfl:=bV h;refine aM ?_;simp only [go_sem,Nat.reduceAdd,mK,oL,true_and];refine aF ?_;have f0:(0:Int)<=(f.bB.length:Int):=xds _;have f1:(f.bB.length:Int)<=1073741824:=by omega
 refine SW_px2 [0,0,2,6,14,0,32,96,224,511,1023,2047] [0,1,2,3,5,6,7] 4 8 [9,10,11] rfl (by kernel_rfl) fun K hK=>?_;have g1:List.filter (fun j=>!qG [0,0,2,6,14,0,32,96,224,511,1023,2047] j 4) [0,1,2,3,5,6,7].reverse=[7,6,5,0]:=by decide
 have g2:List.filter (fun j=>!qG [0,0,2,6,14,0,32,96,224,511,1023,2047] j 8) [7,6,5,0]=[0]:=by decide
 have g3:List.filter (fun j=>!qG [0,0,2,6,14,0,32,96,224,511,1023,2047] j 8) [0,1,2,3,5,6,7].reverse=[3,2,1,0]:=by decide
 have g4:List.filter (fun j=>!qG [0,0,2,6,14,0,32,96,224,511,1023,2047] j 4) [3,2,1,0]=[0]:=by decide
 have g5:List.filter (fun j=>!qG [0,0,2,6,14,0,32,96,224,511,1023,2047] j 10) [9,0]=[]:=by decide
 have hne:(10::q=6::q)=False:=by simp
 simp only [go_sem,seval,mK,oL,tS,BB,true_and,zB,qU,CY,AQ,jK,lD,uQ,Pu,Lh,f0,f1,g1,g2,g3,g4,g5,On hne,PJ (show (14=10)=False by simp),AP,and_self];apply hK;refine aF (aM ?_);simp only [go_sem,seval,Ee,xeg,true_and,and_true,zB,qU,jK,lD,uQ,implies_true,hp0,hp1];refine bN ?_;obtain ⟨p,hp⟩:∃p:Nat,f.bD.toNat=p:=⟨_,rfl⟩;rw [hp] at ho;simp only [hp];have hpl:p<=f.bB.length:=by omega
 refine DF (fun c E' m'=>∃(l:List aZ) (v:Nat) (rs:List Int) (hs2:List (List Int)) (AS2:List Pa),c=l.length/\(f.bB.drop p).drop v=l/\v<=(f.bB.drop p).length/\Eh p l v b rs hs2=some o/\rs.length=f.bB.length/\(∀k ∈ rs,k<((b+hs2.length:Nat):Int)) ∧
  E' 1=.ptr (0::q) 0/\E' 3=.ptr (12::q) 0/\E' 21=.list .none ((f.bB.drop p).map aZ.C)/\E' 22=.lit (.int .i64 ((f.bB.drop p).length:Int))/\E' 23=.lit (.int .i64 (v:Int))/\m'.blk (0::q)=some (aY.C f)/\m'.blk (12::q)=some (Cj (6::q) (10::q) ⟨f,List.replicate f.bB.length 0,List.replicate f.bB.length (-1),0⟩)/\m'.ver (12::q)=m.ver (12::q)/\m'.gl=m.gl/\m.back q m'=m.seth m'.hp ∧
  Hm q m.hp m'.hp AS LS AS2 ⟨f,List.replicate f.bB.length 0,rs,0⟩ hs2) (f.bB.drop p).length ?_ ?_
 ·refine ⟨f.bB.drop p,0,List.replicate f.bB.length (-1),[],[],rfl,rfl,La _,ho,by simp,fun k hk=>by rw [(Pe.1 hk).2];omega,?_⟩;refine ⟨?_,?_,?_,?_,?_,?_,?_,?_,?_,?_,?_⟩
  all_goals try simp only [go_sem,seval,and_true,aY.C_eq,Ho,xdm,rG,aO,iH,aJ]
  refine ⟨?_,?_,List.nodup_nil,fun a ha=>(nomatch ha),rfl,fun k a l ha=>(nomatch ha),fun i hi=>?_⟩
  ·show (if (6::q)=10::q then _ else if 6::q=6::q then _ else _)=_;rw [if_neg (by simp),if_pos rfl,EY,xen];rfl
  ·show (if (10::q)=10::q then _ else _)=_;rw [if_pos rfl,EY,xen];rfl
  ·show (if i=10::q then _ else if i=6::q then _ else m.hp i)=_;rw [if_neg (fun e=>hi (by rw [e];exact MA _ _)),if_neg (fun e=>hi (by rw [e];exact MA _ _))]
 ·rintro i c E1 m1 ⟨l,v,rs,hs2,AS2,rfl,hl,hvl1,hop,hrs,hrk,e1,e3,e21,e22,e23,b0,b12,v12,hgl,hbk,hO⟩ _;have hwb:prog.info? 0=prog.info? 0:=rfl;refine aM ?_;simp only [go_sem,e22,e23];refine aF ?_;cases l with
  | nil=>
    have hvv:(f.bB.drop p).length<=v:=by
     have:=congrArg List.length hl;simp only [Ho,lD] at this ⊢;omega
    refine iB false (by simp only [go_sem,↓reduceIte];exact congrArg (fun b=>V.lit (.bool b)) (xdn (by simp only [Ho] at hvv ⊢;omega))) ?_;simp only [↓reduceIte,xX];refine dQ ?_
    try simp only [bZ,bR,↓reduceIte,aL]
    refine aM ?_;simp only [go_sem,seval,e3];refine aQ ?_;refine ⟨by first | exact .inl rfl | exact .inl trivial,?_⟩;simp only [go_sem,↓reduceIte,true_and]
    injection hop with hop
    subst hop;refine ⟨AS2,m1.hp,?_,hO⟩;show _=(m.set (12::q) (Cj (6::q) (10::q) (⟨f,List.replicate f.bB.length 0,rs,0⟩:aK))).seth m1.hp
    have hc:Cj (6::q) (10::q) (⟨f,List.replicate f.bB.length 0,List.replicate f.bB.length (-1),0⟩:aK)=Cj (6::q) (10::q) ⟨f,List.replicate f.bB.length 0,rs,0⟩:=by
     simp only [frC_eq,xdm,hrs]
    rcases Rq (q:=q) (m:=m) b12 v12 with h1 | h1
    ·rw [h1,hbk,hc];rfl
    ·exact absurd (MA _ _) h1
  | cons x l=>
    have hvb:v<(f.bB.drop p).length:=by
     have:=congrArg List.length hl;simp only [Ho,jK] at this ⊢;omega
    have hx:(f.bB.drop p)[v]? = some x:=by
     have:=congrArg List.head? hl;simpa [Pv] using this
    have hl2:(f.bB.drop p).drop (v+1)=l:=by
     have:=congrArg List.tail hl;simpa [Nat.add_assoc] using this
    have g1:(0:Int)<=(v:Int):=xds _;have g2:(v:Int)<((f.bB.drop p).length:Int):=by omega
    have g3:(f.bB.drop p)[((v:Nat):Int).toNat]? = some x:=hx;have hvd:p+v<f.bB.length:=by rw [Ho] at hvb;omega
    have hw:i64.wrap ((v:Int)+1)=((v+1:Nat):Int):=by rw [fR (by omega) (by omega)];omega
    refine iB true (by simp only [go_sem,↓reduceIte];exact congrArg (fun b=>V.lit (.bool b)) (Fh g2)) ?_;simp only [↓reduceIte];refine aV ?_
    refine aF (bN (aM ?_));simp only [go_sem,seval,mK,oL,Ee,true_and,qU,CY,AQ,En,FI,jK,lD,uQ,zC,implies_true,e21,e23,g1,g2,AP,hx];refine aM ?_;simp only [go_sem,seval,zB,qU];rw [Eh] at hop;refine Fd (x.cF == 4) (fun c1=>?_) (fun c1=>?_)
    ·rw [if_pos (by simpa using c1)] at hop;obtain ⟨⟨s1,s2⟩,hop⟩:=bS hop;refine uK fun hfr2=>?_;have q0:m1.hp (20::i::21::q)=none:=by have:=hfr2 20 (by omega);simpa only [go_sem,↓reduceIte,Nat.reduceEqDiff,Nat.reduceAdd,Nat.reduceSub,Nat.reduceMul,Nat.reduceLT,Nat.reduceLeDiff,Nat.reduceBEq,Nat.reduceBNe,reduceCtorEq,xdt,Nat.one_ne_zero,mK,oL,xef,Ee,xeg,tS,Ef,BB,true_and,and_true,zB,qU,CY,AQ,En,FI,jK,lD,uQ,Pu,Lh,zC,xeb,Ix,false_implies,implies_true,Bool.not_true,Bool.not_false,beq_self_eq_true,Bool.or_true,Bool.true_or,Bool.and_true,Bool.true_and] using this
     have s3:(0:Int)<=x.iV:=by omega
     have s4:i64.wrap (f.bD+(v:Int))=((p+v:Nat):Int):=by rw [fR (by omega) (by omega)];omega
     have s5:(0:Int)<=((p+v:Nat):Int):=xds _;have s6:((p+v:Nat):Int)<(f.bB.length:Int):=by omega
     refine SW_px [0,1,3,7,0,16,0,112,0,256,768,2047,4095] [0,1,2,3,4,5,6,7,8,9,10,11,12] rfl (by kernel_rfl) fun K hK=>?_;have fl10:List.filter (fun j=>!(qG [0,1,3,7,0,16,0,112,0,256,768,2047,4095] j 10)) [9,8,7,6,5,4,3,2,1,0]=[7,6,5,4,3,2,1,0]:=by decide
     have fl12:List.filter (fun j=>!(qG [0,1,3,7,0,16,0,112,0,256,768,2047,4095] j 12)) [11,7,6,5,4,3,2,1,0]=[]:=by decide
     simp only [go_sem,seval,mK,oL,true_and,and_true,zB,qU,jK,lD,uQ,e1,e3,b0,b12,s3,s2,s4,s5,s6,fl10,fl12,xdm,hO.a];refine ⟨by omega,?_⟩;apply hK;simp only [aL,aS];refine aN fun K hK=>?_;simp only [go_sem,seval,e23];apply hK;refine ⟨l.length,xH _,l,v+1,rs.set (p+v) ((b+hs2.length:Nat):Int),hs2++[List.replicate x.iV.toNat 0],AS2++[20::i::21::q],rfl,hl2,by omega,hop,by rw [HL];exact hrs,fun k hk=>?_,?_⟩
     ·have hlen:(hs2++[List.replicate x.iV.toNat (0:Int)]).length=hs2.length+1:=by simp
      rcases HN hk with hk | hk
      ·have:=hrk k hk;omega
      ·omega
     refine ⟨?_,?_,?_,?_,?_,?_,?_,?_,?_,?_,?_⟩
     all_goals try simp only [go_sem,seval,e1,e3,e21,e22,b0,b12,v12,hgl,hbk,hw,aO,rG,iH]
     have hal:(AS++AS2).length=b+hs2.length:=by rw [nL,hAS,hO.len]
     have hll:(LS++hs2.map List.length).length=(AS++AS2).length:=by rw [nL,hLS,hal,uQ]
     have hna:20::i::21::q ∉ AS2:=fun hm=>by
      obtain ⟨j,hj⟩:=Io hm;have hjl:j<hs2.length:=by rw [←hO.len];exact (qS.1 hj).1
      have:=hO.gC j _ _ hj (tH hjl);rw [q0] at this;cases this
     have e1:(AS++(AS2++[20::i::21::q]))=(AS++AS2)++[20::i::21::q]:=by simp
     have e2:(LS++(hs2++[List.replicate x.iV.toNat (0:Int)]).map List.length)=(LS++hs2.map List.length)++[x.iV.toNat]:=by simp
     refine ⟨?_,?_,?_,?_,by simp [hO.len],fun k a l hk hl=>?_,fun j hj=>?_⟩
     ·show (if (6::q)=10::q then _ else if 6::q=20::i::21::q then _ else m1.hp (6::q))=_;rw [if_neg (by simp),if_neg (by simp),hO.w]
     ·show (if (10::q)=10::q then _ else _)=_;rw [if_pos rfl,e1,e2]
      congr 1
      rw [xdw,←hal,Il hll]
      congr 1
      refine Pk fun k hk=>(KQ (by have:=hrk k hk;omega) hll).symm
     ·refine List.nodup_append.2 ⟨hO.nd,by simp,fun a ha b hb e=>?_⟩;rw [AU] at hb;subst hb;subst e;exact hna ha
     ·intro a ha
      rcases Ah.1 ha with ha | ha
      ·exact hO.un a ha
      ·exact ⟨20,i,AU.1 ha⟩
     ·have hkl:k<(AS2++[20::i::21::q]).length:=(qS.1 hk).1;rw [nL,uP] at hkl
      by_cases e:k<AS2.length
      ·rw [FX e] at hk;rw [FX (by rw [←hO.len];exact e)] at hl;obtain ⟨j1,j2,ea⟩:=hO.un a (AT hk);show (if a=10::q then _ else if a=20::i::21::q then _ else m1.hp a)=_;rw [if_neg (by rw [ea];intro e;have:=congrArg List.length e;simp only [jK] at this;omega),if_neg (fun e=>hna (by rw [←e];exact AT hk))];exact hO.gC k a l hk hl
      ·have ek:k=AS2.length:=by omega
       subst ek;rw [Hr (sU _),xdx] at hk;rw [hO.len,Hr (sU _),xdx] at hl;obtain rfl:20::i::21::q=a:=by simpa using hk
       obtain rfl:List.replicate x.iV.toNat 0=l:=by simpa using hl
       show (if (20::i::21::q)=10::q then _ else if 20::i::21::q=20::i::21::q then _ else _)=_;rw [if_neg (by simp),if_pos rfl,EY,xen];rfl
     ·show (if j=10::q then _ else if j=20::i::21::q then _ else m1.hp j)=_;rw [if_neg (fun e=>hj (by rw [e];exact MA _ _)),if_neg (fun e=>hj (by rw [e];exact ⟨[20,i,21],rfl⟩))];exact hO.out j hj
    ·rw [if_neg (by simpa using c1)] at hop;refine aV ?_
     try simp only [aL,aS]
     refine aN fun K hK=>?_;simp only [go_sem,seval,e23];apply hK;refine ⟨l.length,xH _,l,v+1,rs,hs2,AS2,rfl,hl2,by omega,hop,hrs,hrk,?_⟩;refine ⟨?_,?_,?_,?_,?_,?_,?_,?_,?_,?_,?_⟩
     all_goals try simp only [go_sem,seval,e1,e3,e21,e22,b0,b12,v12,hgl,hbk,hw,aO]
     exact hO
theorem NM {m:M} {h:Hp} {p:Pa} {o n:Nat} {c:List V}:(m.seth h).setv p o c n=(m.setv p o c n).seth h:=rI rfl
theorem vP {m:M} {h h':Hp}:(m.seth h).seth h'=m.seth h':=rI rfl
theorem EC {m m2:M} {q p0 p1:Pa} {c0 c1:List V} {z:Nat} {h:Hp} (h0:¬ q <:+ p0) (h1:q <:+ p1):m.back q (m2.fr p0 p1 c0 z c1 h)=((m.back q m2).setv p0 4 c0 z).seth h:=by
 have s0:¬ q.isSuffixOf p0=true:=fun e=>h0 (Fk.1 e);have s1:q.isSuffixOf p1=true:=Fk.2 h1
 have e:m.back q (m2.fr p0 p1 c0 z c1 h)=(m.back q (m2.setv p0 4 c0 z)).seth h:=by
  refine M.ext_hp (funext fun i=>?_) (funext fun i=>?_) rfl rfl rfl
  ·show (if q.isSuffixOf i then m.blk i else if i=p0 then some c0 else if i=p1 then some c1 else m2.blk i)=if q.isSuffixOf i then m.blk i else if i=p0 then some c0 else m2.blk i
   by_cases e:q.isSuffixOf i=true
   ·rw [if_pos e,if_pos e]
   ·rw [if_neg e,if_neg e]
    by_cases e0:i=p0
    ·rw [if_pos e0,if_pos e0]
    ·rw [if_neg e0,if_neg e0,if_neg (fun e1=>e (by rw [e1];exact s1))]
  ·rfl
 rw [e,eU h0]
section
variable {h h':Hp} {W A:Pa} {AS AS2:List Pa} {LS:List Nat} {ws rs ws' rs':List Int} {hs hs':List (List Int)} {q:Pa}
theorem nK.frame (k:nK h W A AS LS ws rs hs) (hW:h' W=h W) (hA:h' A=h A) (hAS:∀a ∈ AS,h' a=h a):nK h' W A AS LS ws rs hs:=
 ⟨hW.trans k.w,hA.trans k.a,k.wa,k.was,k.aas,k.nd,k.ls,k.len,fun i a l h1 h2=>(hAS a (AT h1)).trans (k.gC i a l h1 h2)⟩
theorem nK.setRefs (k:nK h W A AS LS ws rs hs) (rs':List Int):nK (rR h A (rs'.map (xB AS LS))) W A AS LS ws rs' hs:=by
 refine ⟨?_,?_,k.wa,k.was,k.aas,k.nd,k.ls,k.len,fun i a l h1 h2=>?_⟩
 ·show (if W=A then _ else h W)=_;rw [if_neg k.wa];exact k.w
 ·show (if A=A then _ else _)=_;rw [if_pos rfl]
 ·show (if a=A then _ else h a)=_;rw [if_neg (fun e=>k.aas (by rw [←e];exact AT h1))];exact k.gC i a l h1 h2
theorem OO {X Z:List Pa} {Y T:List Nat} {k:Int} (h:k<(X.length:Int)) (hy:Y.length=X.length):xB (X++Z) (Y++T) k=xB X Y k:=by
 unfold xB
 split
 ·rfl
 ·rw [JA,JA,JA,JA,FX (by omega),FX (by omega)]
variable {fr:aK} {h2:List (List Int)}
theorem Hm.hB (k:nK h W A AS LS ws rs hs) (hnAS:∀a ∈ AS,¬ q <:+ a) (o:Hm q h h' AS LS AS2 fr h2):nK h' (6::q) (10::q) (AS++AS2) (LS++h2.map List.length) fr.cC fr.cK (hs++h2):=by
 have hu:∀a ∈ AS2,q <:+ a:=fun a ha=>by
  obtain ⟨j,i,rfl⟩:=o.un a ha;exact ⟨[j,i,21],rfl⟩
 have hl:LS.length=AS.length:=by rw [k.ls,uQ,k.len]
 refine ⟨o.w,o.a,by simp,fun hm=>?_,fun hm=>?_,List.nodup_append.2 ⟨k.nd,o.nd,fun a ha b hb e=>hnAS a ha (by rw [e];exact hu b hb)⟩,by rw [JC,k.ls],by rw [nL,nL,k.len,o.len],fun i a l h1 h3=>?_⟩
 ·rcases Ah.1 hm with hm | hm
  ·exact hnAS _ hm (MA _ _)
  ·obtain ⟨j,i,e⟩:=o.un _ hm;have:=congrArg List.length e;simp only [jK] at this;omega
 ·rcases Ah.1 hm with hm | hm
  ·exact hnAS _ hm (MA _ _)
  ·obtain ⟨j,i,e⟩:=o.un _ hm;have:=congrArg List.length e;simp only [jK] at this;omega
 ·by_cases e:i<AS.length
  ·rw [FX e] at h1;rw [FX (by rw [←k.len];exact e)] at h3;rw [o.out a (hnAS a (AT h1))];exact k.gC i a l h1 h3
  ·rw [Hr (by omega)] at h1;rw [Hr (by rw [←k.len];omega),←k.len] at h3;exact o.gC _ a l h1 h3
theorem DQ {m0 hF:Hp} (hfr:∀i,q <:+ i->m0 i=none) (hW:¬ q <:+ W) (hAS:∀a ∈ AS,¬ q <:+ a) (ho:∀i,¬ q <:+ i->hF i=sN m0 W ws AS hs i):xA q m0 hF=sN m0 W ws AS hs:=by
 funext i
 unfold xA
 by_cases e:q <:+ i
 ·rw [if_pos (Fk.2 e)];unfold sN;rw [if_neg (fun e2=>hW (by rw [←e2];exact e)),if_neg (fun e2=>hAS i e2 e),hfr i e]
 ·rw [if_neg (fun e2=>e (Fk.1 e2)),ho i e]
theorem GN:∀ {AS AS2:List Pa} {hs:List (List Int)} {i:Pa},i ∈ AS->ET (AS++AS2) hs i=ET AS (hs.take AS.length) i
 | [],_,_,_,hi=>nomatch hi
 | a::AS,AS2,[],i,hi=>by rw [List.take_nil];rfl
 | a::AS,AS2,x::hs,i,hi=>by
   show (if i=a then some (x.map By) else ET (AS++AS2) hs i)=if i=a then some (x.map By) else ET AS (hs.take AS.length) i
   by_cases e:i=a
   ·rw [if_pos e,if_pos e]
   ·rw [if_neg e,if_neg e];exact GN ((vI.1 hi).resolve_left e)
theorem MR {m0 h1:Hp} {W':Pa} (k:nK m0 W A AS LS ws rs hs) (hnW:¬ q <:+ W) (hnAS:∀a ∈ AS,¬ q <:+ a) (hW':q <:+ W') (hu:∀a ∈ AS2,q <:+ a) (ho:∀i,¬ q <:+ i->h1 i=m0 i) {i:Pa} (hi:¬ q <:+ i) :
  sN h1 W' ws' (AS++AS2) hs' i=sN m0 W ws AS (hs'.take AS.length) i:=by
 unfold sN;rw [if_neg (fun e=>hi (by rw [e];exact hW'))]
 by_cases e:i ∈ AS
 ·rw [if_pos (List.mem_append_left _ e),if_neg (fun e2=>k.was (by rw [←e2];exact e)),if_pos e];exact GN e
 ·have h3:i ∉ AS++AS2:=fun hm=>(Ah.1 hm).elim e fun hm=>hi (hu i hm);rw [if_neg h3,if_neg e,ho i hi]
  by_cases e2:i=W
  ·rw [if_pos e2,e2,k.w]
  ·rw [if_neg e2]
end
end Go.Proofs.YtncembphlfbgoaaGreatDoor.Abs
