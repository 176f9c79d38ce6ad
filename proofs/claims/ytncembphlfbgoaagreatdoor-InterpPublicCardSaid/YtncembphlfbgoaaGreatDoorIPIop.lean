/- Lemmas of ours. -/
import Derived.Test.YtncembphlfbgoaaGreatDoorIPFacts
import Derived.Test.YtncembphlfbgoaaGreatDoorIPH9
import Derived.Test.YtncembphlfbgoaaGreatDoorIPTot
namespace Go.Proofs.YtncembphlfbgoaaGreatDoor.Abs
open Go.RowKit Tryz
open IntKind (i64 u32 u64 u8)
set_option linter.unusedVariables false
set_option maxRecDepth 10000
theorem OW {m:M} {a b:Pa} {x y:List V} (h:(a=b)=False):(m.hset a x).hset b y=(m.hset b y).hset a x:=by
 refine M.ext_hp rfl rfl rfl rfl (funext fun i=>?_);show (if i=b then some y else if i=a then some x else m.hp i)=if i=a then some x else if i=b then some y else m.hp i
 by_cases e:i=b
 ·rw [if_pos e,if_neg (fun e2=>of_eq_true (by rw [←h,←e2,←e];exact eq_self i)),if_pos e]
 ·rw [if_neg e,if_neg e]
theorem Qu {E:dU} {a b:Nat} {x y:V} (h:(a=b)=False):PZ (PZ E a x) b y=PZ (PZ E b y) a x:=by
 funext t
 show (if t=b then y else if t=a then x else E t)=if t=a then x else if t=b then y else E t
 by_cases e:t=b
 ·rw [if_pos e,if_neg (fun e2=>of_eq_true (by rw [←h,←e2,←e];exact eq_self t)),if_pos e]
 ·rw [if_neg e,if_neg e]
theorem Lz {X:List Pa} {Y:List Nat} {a:Pa} {n:Nat} {k:Int} (h:k<(X.length:Int)) (hy:Y.length=X.length):xL (X++[a]) (Y++[n]) k=xL X Y k:=by
 unfold xL
 split
 ·rfl
 ·rw [Kj,Kj,Kj,Kj,FB (by omega),FB (by omega)]
theorem IN {X:List Pa} {Y:List Nat} {a:Pa} {n:Nat} (hy:Y.length=X.length):xL (X++[a]) (Y++[n]) ((X.length:Nat):Int)=.vec a 1 n:=by
 unfold xL;rw [if_neg (by omega),yG,Kj,Kj,GP (tJ _),←hy,GP (tJ _)];simp [hy]
structure HP (q:Pa) (h h':Hp) (AS:List Pa) (LS:List Nat) (AS2:List Pa) (fr:aJ) (h2:List (List Int)):Prop where
 w:h' (6::q)=some (fr.cC.map HJ)
 a:h' (10::q)=some (fr.cE.map (xL (AS++AS2) (LS++h2.map List.length)))
 nd:AS2.Nodup
 un:∀a ∈ AS2,∃j i,a=j::i::21::q
 len:AS2.length=h2.length
 gB:∀(k:Nat) (a:Pa) (l:List Int),AS2[k]? = some a->h2[k]? = some l->h' a=some (l.map BK)
 out:∀i,¬ q <:+ i->h' i=h i
theorem Nm {f:aR} {b:Nat} {r:aJ × List (List Int)} (h:zC f b=some r) (q:Pa) (m:M) (vs:List V) (AS:List Pa) (LS:List Nat) (hAS:AS.length=b) (hLS:LS.length=b) (hv:vs.map V.weak1=[.agg (aR.C f)]) :
  SC prog 45 vs q m (fun v m'=>∃AS2 h',v=.ptr (12::q) 0/\m'=(m.set (12::q) (Cx (6::q) (10::q) r.1)).seth h'/\HP q m.hp h' AS LS AS2 r.1 r.2):=by
 refine SC.wv hv ?_;refine SC.freshH fun hfr=>?_;refine SC_ofK (12::q) (Nf _ _) func45 rfl (fun xs w=>call45 xs w) ntmps45 (by kernel_rfl) (congrArg Array.toList results45) ?_;unfold zC at h;obtain ⟨⟨hp0,hp1,hvl⟩,h⟩:=bP h;obtain ⟨o,ho,h⟩:=aA h;obtain rfl:=bO h;refine pO fun K hK=>?_;simp only [go_sem,Nat.reduceAdd,lQ,oU,true_and];apply hK;refine aF ?_;have f0:(0:Int)<=(f.aV.length:Int):=xdt _;have f1:(f.aV.length:Int)<=1073741824:=by omega
 refine SW_px2 [0,0,2,6,14,0,32,96,224,511,1023,2047] [0,1,2,3,5,6,7] 4 8 [9,10,11] rfl (by kernel_rfl) fun K hK=>?_;have g1:List.filter (fun j=>!qS [0,0,2,6,14,0,32,96,224,511,1023,2047] j 4) [0,1,2,3,5,6,7].reverse=[7,6,5,0]:=by decide
 have g2:List.filter (fun j=>!qS [0,0,2,6,14,0,32,96,224,511,1023,2047] j 8) [7,6,5,0]=[0]:=by decide
 have g3:List.filter (fun j=>!qS [0,0,2,6,14,0,32,96,224,511,1023,2047] j 8) [0,1,2,3,5,6,7].reverse=[3,2,1,0]:=by decide
 have g4:List.filter (fun j=>!qS [0,0,2,6,14,0,32,96,224,511,1023,2047] j 4) [3,2,1,0]=[0]:=by decide
 have g5:List.filter (fun j=>!qS [0,0,2,6,14,0,32,96,224,511,1023,2047] j 10) [9,0]=[]:=by decide
 have hne:(10::q=6::q)=False:=by simp
 simp only [go_sem,seval,lQ,oU,uG,BO,true_and,zM,qU,Dm,Bd,jC,lA,sY,Qg,Ki,f0,f1,g1,g2,g3,g4,g5,OW hne,Qu (show (14=10)=False by simp),yG,and_self];apply hK;refine aF (pO fun K hK=>?_);simp only [go_sem,seval,Ej,xeh,true_and,and_true,zM,qU,jC,lA,sY,implies_true,hp0,hp1];apply hK;refine bM ?_;obtain ⟨p,hp⟩:∃p:Nat,f.aW.toNat=p:=⟨_,rfl⟩;rw [hp] at ho;simp only [hp];have hpl:p<=f.aV.length:=by omega
 refine DT (fun c E' m'=>∃(l:List bB) (v:Nat) (rs:List Int) (hs2:List (List Int)) (AS2:List Pa),c=l.length/\(f.aV.drop p).drop v=l/\v<=(f.aV.drop p).length/\Ew p l v b rs hs2=some o/\rs.length=f.aV.length/\(∀k ∈ rs,k<((b+hs2.length:Nat):Int)) ∧
  E' 1=.ptr (0::q) 0/\E' 3=.ptr (12::q) 0/\E' 21=.list .none ((f.aV.drop p).map bB.C)/\E' 22=.lit (.int .i64 ((f.aV.drop p).length:Int))/\E' 23=.lit (.int .i64 (v:Int))/\m'.blk (0::q)=some (aR.C f)/\m'.blk (12::q)=some (Cx (6::q) (10::q) ⟨f,List.replicate f.aV.length 0,List.replicate f.aV.length (-1),0⟩)/\m'.ver (12::q)=m.ver (12::q)/\m'.gl=m.gl/\m.back q m'=m.seth m'.hp ∧
  HP q m.hp m'.hp AS LS AS2 ⟨f,List.replicate f.aV.length 0,rs,0⟩ hs2) (f.aV.drop p).length ?_ ?_
 ·refine ⟨f.aV.drop p,0,List.replicate f.aV.length (-1),[],[],rfl,rfl,Kh _,ho,by simp,fun k hk=>by rw [(PR.1 hk).2];omega,?_⟩;refine ⟨?_,?_,?_,?_,?_,?_,?_,?_,?_,?_,?_⟩
  all_goals try simp only [go_sem,seval,and_true,aR.C_eq,HR,PQ,qH,bF,gQ,bK]
  refine ⟨?_,?_,List.nodup_nil,fun a ha=>(nomatch ha),rfl,fun k a l ha=>(nomatch ha),fun i hi=>?_⟩
  ·show (if (6::q)=10::q then _ else if 6::q=6::q then _ else _)=_;rw [if_neg (by simp),if_pos rfl,Fk,xeo];rfl
  ·show (if (10::q)=10::q then _ else _)=_;rw [if_pos rfl,Fk,xeo];rfl
  ·show (if i=10::q then _ else if i=6::q then _ else m.hp i)=_;rw [if_neg (fun e=>hi (by rw [e];exact Nf _ _)),if_neg (fun e=>hi (by rw [e];exact Nf _ _))]
 ·rintro i c E1 m1 ⟨l,v,rs,hs2,AS2,rfl,hl,hvl1,hop,hrs,hrk,e1,e3,e21,e22,e23,b0,b12,v12,hgl,hbk,hO⟩ _;have hwb:prog.info? 0=prog.info? 0:=rfl;refine pO fun K hK=>?_;simp only [go_sem,e22,e23];apply hK;refine aF ?_;cases l with
  | nil=>
    have hvv:(f.aV.drop p).length<=v:=by
     have:=congrArg List.length hl;simp only [HR,lA] at this ⊢;omega
    refine iF false (by simp only [go_sem,↓reduceIte];exact congrArg (fun b=>V.lit (.bool b)) (xdo (by simp only [HR] at hvv ⊢;omega))) ?_;simp only [↓reduceIte,yI];refine dQ ?_
    try simp only [bZ,bR,↓reduceIte,aK]
    refine pO fun K hK=>?_;simp only [go_sem,seval,e3];apply hK;refine aO ?_;refine ⟨by first | exact .inl rfl | exact .inl trivial,?_⟩;simp only [go_sem,↓reduceIte,true_and]
    injection hop with hop
    subst hop;refine ⟨AS2,m1.hp,?_,hO⟩;show _=(m.set (12::q) (Cx (6::q) (10::q) (⟨f,List.replicate f.aV.length 0,rs,0⟩:aJ))).seth m1.hp
    have hc:Cx (6::q) (10::q) (⟨f,List.replicate f.aV.length 0,List.replicate f.aV.length (-1),0⟩:aJ)=Cx (6::q) (10::q) ⟨f,List.replicate f.aV.length 0,rs,0⟩:=by
     simp only [frC_eq,PQ,hrs]
    rcases Sg (q:=q) (m:=m) b12 v12 with h1 | h1
    ·rw [h1,hbk,hc];rfl
    ·exact absurd (Nf _ _) h1
  | cons x l=>
    have hvb:v<(f.aV.drop p).length:=by
     have:=congrArg List.length hl;simp only [HR,jC] at this ⊢;omega
    have hx:(f.aV.drop p)[v]? = some x:=by
     have:=congrArg List.head? hl;simpa [Qh] using this
    have hl2:(f.aV.drop p).drop (v+1)=l:=by
     have:=congrArg List.tail hl;simpa [Nat.add_assoc] using this
    have g1:(0:Int)<=(v:Int):=xdt _;have g2:(v:Int)<((f.aV.drop p).length:Int):=by omega
    have g3:(f.aV.drop p)[((v:Nat):Int).toNat]? = some x:=hx;have hvd:p+v<f.aV.length:=by rw [HR] at hvb;omega
    have hw:i64.wrap ((v:Int)+1)=((v+1:Nat):Int):=by rw [fG (by omega) (by omega)];omega
    refine iF true (by simp only [go_sem,↓reduceIte];exact congrArg (fun b=>V.lit (.bool b)) (DU g2)) ?_;simp only [↓reduceIte];refine aU ?_
    refine aF (bM (pO fun K hK=>?_));simp only [go_sem,seval,lQ,oU,Ej,true_and,qU,Dm,Bd,EB,FZ,jC,lA,sY,yH,implies_true,e21,e23,g1,g2,yG,hx];apply hK;refine pO fun K hK=>?_;simp only [go_sem,seval,zM,qU];apply hK;rw [Ew] at hop;refine Fq (x.bX == 4) (fun c1=>?_) (fun c1=>?_)
    ·rw [if_pos (by simpa using c1)] at hop;obtain ⟨⟨s1,s2⟩,hop⟩:=bP hop;refine uU fun hfr2=>?_;have q0:m1.hp (20::i::21::q)=none:=by have:=hfr2 20 (by omega);simpa only [go_sem,↓reduceIte,Nat.reduceEqDiff,Nat.reduceAdd,Nat.reduceSub,Nat.reduceMul,Nat.reduceLT,Nat.reduceLeDiff,Nat.reduceBEq,Nat.reduceBNe,reduceCtorEq,xdu,Nat.one_ne_zero,lQ,oU,xeg,Ej,xeh,uG,Et,BO,true_and,and_true,zM,qU,Dm,Bd,EB,FZ,jC,lA,sY,Qg,Ki,yH,xeb,HT,false_implies,implies_true,Bool.not_true,Bool.not_false,beq_self_eq_true,Bool.or_true,Bool.true_or,Bool.and_true,Bool.true_and] using this
     have s3:(0:Int)<=x.jB:=by omega
     have s4:i64.wrap (f.aW+(v:Int))=((p+v:Nat):Int):=by rw [fG (by omega) (by omega)];omega
     have s5:(0:Int)<=((p+v:Nat):Int):=xdt _;have s6:((p+v:Nat):Int)<(f.aV.length:Int):=by omega
     refine SW_px [0,1,3,7,0,16,0,112,0,256,768,2047,4095] [0,1,2,3,4,5,6,7,8,9,10,11,12] rfl (by kernel_rfl) fun K hK=>?_;have fl10:List.filter (fun j=>!(qS [0,1,3,7,0,16,0,112,0,256,768,2047,4095] j 10)) [9,8,7,6,5,4,3,2,1,0]=[7,6,5,4,3,2,1,0]:=by decide
     have fl12:List.filter (fun j=>!(qS [0,1,3,7,0,16,0,112,0,256,768,2047,4095] j 12)) [11,7,6,5,4,3,2,1,0]=[]:=by decide
     simp only [go_sem,seval,lQ,oU,true_and,and_true,zM,qU,jC,lA,sY,e1,e3,b0,b12,s3,s2,s4,s5,s6,fl10,fl12,PQ,hO.a];refine ⟨by omega,?_⟩;apply hK;simp only [aK,aQ];refine aP fun K hK=>?_;simp only [go_sem,seval,e23];apply hK;refine ⟨l.length,xQ _,l,v+1,rs.set (p+v) ((b+hs2.length:Nat):Int),hs2++[List.replicate x.jB.toNat 0],AS2++[20::i::21::q],rfl,hl2,by omega,hop,by rw [GI];exact hrs,fun k hk=>?_,?_⟩
     ·have hlen:(hs2++[List.replicate x.jB.toNat (0:Int)]).length=hs2.length+1:=by simp
      rcases HW hk with hk | hk
      ·have:=hrk k hk;omega
      ·omega
     refine ⟨?_,?_,?_,?_,?_,?_,?_,?_,?_,?_,?_⟩
     all_goals try simp only [go_sem,seval,e1,e3,e21,e22,b0,b12,v12,hgl,hbk,hw,bF,qH,gQ]
     have hal:(AS++AS2).length=b+hs2.length:=by rw [nC,hAS,hO.len]
     have hll:(LS++hs2.map List.length).length=(AS++AS2).length:=by rw [nC,hLS,hal,sY]
     have hna:20::i::21::q ∉ AS2:=fun hm=>by
      obtain ⟨j,hj⟩:=IR hm;have hjl:j<hs2.length:=by rw [←hO.len];exact (qJ.1 hj).1
      have:=hO.gB j _ _ hj (tA hjl);rw [q0] at this;cases this
     have e1:(AS++(AS2++[20::i::21::q]))=(AS++AS2)++[20::i::21::q]:=by simp
     have e2:(LS++(hs2++[List.replicate x.jB.toNat (0:Int)]).map List.length)=(LS++hs2.map List.length)++[x.jB.toNat]:=by simp
     refine ⟨?_,?_,?_,?_,by simp [hO.len],fun k a l hk hl=>?_,fun j hj=>?_⟩
     ·show (if (6::q)=10::q then _ else if 6::q=20::i::21::q then _ else m1.hp (6::q))=_;rw [if_neg (by simp),if_neg (by simp),hO.w]
     ·show (if (10::q)=10::q then _ else _)=_;rw [if_pos rfl,e1,e2]
      congr 1
      rw [PP,←hal,IN hll]
      congr 1
      refine PW fun k hk=>(Lz (by have:=hrk k hk;omega) hll).symm
     ·refine List.nodup_append.2 ⟨hO.nd,by simp,fun a ha b hb e=>?_⟩;rw [zN] at hb;subst hb;subst e;exact hna ha
     ·intro a ha
      rcases At.1 ha with ha | ha
      ·exact hO.un a ha
      ·exact ⟨20,i,zN.1 ha⟩
     ·have hkl:k<(AS2++[20::i::21::q]).length:=(qJ.1 hk).1;rw [nC,uW] at hkl
      by_cases e:k<AS2.length
      ·rw [FB e] at hk;rw [FB (by rw [←hO.len];exact e)] at hl;obtain ⟨j1,j2,ea⟩:=hO.un a (Al hk);show (if a=10::q then _ else if a=20::i::21::q then _ else m1.hp a)=_;rw [if_neg (by rw [ea];intro e;have:=congrArg List.length e;simp only [jC] at this;omega),if_neg (fun e=>hna (by rw [←e];exact Al hk))];exact hO.gB k a l hk hl
      ·have ek:k=AS2.length:=by omega
       subst ek;rw [GP (tJ _),xdx] at hk;rw [hO.len,GP (tJ _),xdx] at hl;obtain rfl:20::i::21::q=a:=by simpa using hk
       obtain rfl:List.replicate x.jB.toNat 0=l:=by simpa using hl
       show (if (20::i::21::q)=10::q then _ else if 20::i::21::q=20::i::21::q then _ else _)=_;rw [if_neg (by simp),if_pos rfl,Fk,xeo];rfl
     ·show (if j=10::q then _ else if j=20::i::21::q then _ else m1.hp j)=_;rw [if_neg (fun e=>hj (by rw [e];exact Nf _ _)),if_neg (fun e=>hj (by rw [e];exact ⟨[20,i,21],rfl⟩))];exact hO.out j hj
    ·rw [if_neg (by simpa using c1)] at hop;refine aU ?_
     try simp only [aK,aQ]
     refine aP fun K hK=>?_;simp only [go_sem,seval,e23];apply hK;refine ⟨l.length,xQ _,l,v+1,rs,hs2,AS2,rfl,hl2,by omega,hop,hrs,hrk,?_⟩;refine ⟨?_,?_,?_,?_,?_,?_,?_,?_,?_,?_,?_⟩
     all_goals try simp only [go_sem,seval,e1,e3,e21,e22,b0,b12,v12,hgl,hbk,hw,bF]
     exact hO
theorem Ou {m:M} {h:Hp} {p:Pa} {o n:Nat} {c:List V}:(m.seth h).setv p o c n=(m.setv p o c n).seth h:=rI rfl
theorem wB {m:M} {h h':Hp}:(m.seth h).seth h'=m.seth h':=rI rfl
theorem EO {m m2:M} {q p0 p1:Pa} {c0 c1:List V} {z:Nat} {h:Hp} (h0:¬ q <:+ p0) (h1:q <:+ p1):m.back q (m2.fr p0 p1 c0 z c1 h)=((m.back q m2).setv p0 4 c0 z).seth h:=by
 have s0:¬ q.isSuffixOf p0=true:=fun e=>h0 (Fz.1 e);have s1:q.isSuffixOf p1=true:=Fz.2 h1
 have e:m.back q (m2.fr p0 p1 c0 z c1 h)=(m.back q (m2.setv p0 4 c0 z)).seth h:=by
  refine M.ext_hp (funext fun i=>?_) (funext fun i=>?_) rfl rfl rfl
  ·show (if q.isSuffixOf i then m.blk i else if i=p0 then some c0 else if i=p1 then some c1 else m2.blk i)=if q.isSuffixOf i then m.blk i else if i=p0 then some c0 else m2.blk i
   by_cases e:q.isSuffixOf i=true
   ·rw [if_pos e,if_pos e]
   ·rw [if_neg e,if_neg e]
    by_cases e0:i=p0
    ·rw [if_pos e0,if_pos e0]
    ·rw [if_neg e0,if_neg e0,if_neg (fun e1=>e (by rw [e1];exact s1))]
  ·rfl
 rw [e,eX h0]
section
variable {h h':Hp} {W A:Pa} {AS AS2:List Pa} {LS:List Nat} {ws rs ws' rs':List Int} {hs hs':List (List Int)} {q:Pa}
theorem nV.frame (k:nV h W A AS LS ws rs hs) (hW:h' W=h W) (hA:h' A=h A) (hAS:∀a ∈ AS,h' a=h a):nV h' W A AS LS ws rs hs:=
 ⟨hW.trans k.w,hA.trans k.a,k.wa,k.was,k.aas,k.nd,k.ls,k.len,fun i a l h1 h2=>(hAS a (Al h1)).trans (k.gB i a l h1 h2)⟩
theorem nV.setRefs (k:nV h W A AS LS ws rs hs) (rs':List Int):nV (sH h A (rs'.map (xL AS LS))) W A AS LS ws rs' hs:=by
 refine ⟨?_,?_,k.wa,k.was,k.aas,k.nd,k.ls,k.len,fun i a l h1 h2=>?_⟩
 ·show (if W=A then _ else h W)=_;rw [if_neg k.wa];exact k.w
 ·show (if A=A then _ else _)=_;rw [if_pos rfl]
 ·show (if a=A then _ else h a)=_;rw [if_neg (fun e=>k.aas (by rw [←e];exact Al h1))];exact k.gB i a l h1 h2
theorem Pw {X Z:List Pa} {Y T:List Nat} {k:Int} (h:k<(X.length:Int)) (hy:Y.length=X.length):xL (X++Z) (Y++T) k=xL X Y k:=by
 unfold xL
 split
 ·rfl
 ·rw [Kj,Kj,Kj,Kj,FB (by omega),FB (by omega)]
variable {fr:aJ} {h2:List (List Int)}
theorem HP.hB (k:nV h W A AS LS ws rs hs) (hnAS:∀a ∈ AS,¬ q <:+ a) (o:HP q h h' AS LS AS2 fr h2):nV h' (6::q) (10::q) (AS++AS2) (LS++h2.map List.length) fr.cC fr.cE (hs++h2):=by
 have hu:∀a ∈ AS2,q <:+ a:=fun a ha=>by
  obtain ⟨j,i,rfl⟩:=o.un a ha;exact ⟨[j,i,21],rfl⟩
 have hl:LS.length=AS.length:=by rw [k.ls,sY,k.len]
 refine ⟨o.w,o.a,by simp,fun hm=>?_,fun hm=>?_,List.nodup_append.2 ⟨k.nd,o.nd,fun a ha b hb e=>hnAS a ha (by rw [e];exact hu b hb)⟩,by rw [HS,k.ls],by rw [nC,nC,k.len,o.len],fun i a l h1 h3=>?_⟩
 ·rcases At.1 hm with hm | hm
  ·exact hnAS _ hm (Nf _ _)
  ·obtain ⟨j,i,e⟩:=o.un _ hm;have:=congrArg List.length e;simp only [jC] at this;omega
 ·rcases At.1 hm with hm | hm
  ·exact hnAS _ hm (Nf _ _)
  ·obtain ⟨j,i,e⟩:=o.un _ hm;have:=congrArg List.length e;simp only [jC] at this;omega
 ·by_cases e:i<AS.length
  ·rw [FB e] at h1;rw [FB (by rw [←k.len];exact e)] at h3;rw [o.out a (hnAS a (Al h1))];exact k.gB i a l h1 h3
  ·rw [GP (by omega)] at h1;rw [GP (by rw [←k.len];omega),←k.len] at h3;exact o.gB _ a l h1 h3
theorem Ec {m0 hF:Hp} (hfr:∀i,q <:+ i->m0 i=none) (hW:¬ q <:+ W) (hAS:∀a ∈ AS,¬ q <:+ a) (ho:∀i,¬ q <:+ i->hF i=tF m0 W ws AS hs i):xK q m0 hF=tF m0 W ws AS hs:=by
 funext i
 unfold xK
 by_cases e:q <:+ i
 ·rw [if_pos (Fz.2 e)];unfold tF;rw [if_neg (fun e2=>hW (by rw [←e2];exact e)),if_neg (fun e2=>hAS i e2 e),hfr i e]
 ·rw [if_neg (fun e2=>e (Fz.1 e2)),ho i e]
theorem Hl:∀ {AS AS2:List Pa} {hs:List (List Int)} {i:Pa},i ∈ AS->Ff (AS++AS2) hs i=Ff AS (hs.take AS.length) i
 | [],_,_,_,hi=>nomatch hi
 | a::AS,AS2,[],i,hi=>by rw [List.take_nil];rfl
 | a::AS,AS2,x::hs,i,hi=>by
   show (if i=a then some (x.map BK) else Ff (AS++AS2) hs i)=if i=a then some (x.map BK) else Ff AS (hs.take AS.length) i
   by_cases e:i=a
   ·rw [if_pos e,if_pos e]
   ·rw [if_neg e,if_neg e];exact Hl ((vA.1 hi).resolve_left e)
theorem Nv {m0 h1:Hp} {W':Pa} (k:nV m0 W A AS LS ws rs hs) (hnW:¬ q <:+ W) (hnAS:∀a ∈ AS,¬ q <:+ a) (hW':q <:+ W') (hu:∀a ∈ AS2,q <:+ a) (ho:∀i,¬ q <:+ i->h1 i=m0 i) {i:Pa} (hi:¬ q <:+ i) :
  tF h1 W' ws' (AS++AS2) hs' i=tF m0 W ws AS (hs'.take AS.length) i:=by
 unfold tF;rw [if_neg (fun e=>hi (by rw [e];exact hW'))]
 by_cases e:i ∈ AS
 ·rw [if_pos (List.mem_append_left _ e),if_neg (fun e2=>k.was (by rw [←e2];exact e)),if_pos e];exact Hl e
 ·have h3:i ∉ AS++AS2:=fun hm=>(At.1 hm).elim e fun hm=>hi (hu i hm);rw [if_neg h3,if_neg e,ho i hi]
  by_cases e2:i=W
  ·rw [if_pos e2,e2,k.w]
  ·rw [if_neg e2]
end
end Go.Proofs.YtncembphlfbgoaaGreatDoor.Abs
