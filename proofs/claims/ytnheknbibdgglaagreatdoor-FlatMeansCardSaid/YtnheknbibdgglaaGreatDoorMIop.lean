import Derived.Test.YtnheknbibdgglaaGreatDoorMFacts
import Derived.Test.YtnheknbibdgglaaGreatDoorMHp
import Derived.Test.YtnheknbibdgglaaGreatDoorMTot
namespace Go.Proofs.YtnheknbibdgglaaGreatDoor.Abs
open Go.RowKit Tryz
open IntKind (i64 u32 u64 u8)
set_option linter.all false
set_option maxRecDepth 10000
theorem NW {X:List Pa} {Y:List Nat} {a:Pa} {n:Nat} {k:Int} (h:k<(X.length:Int)) (hy:Y.length=X.length):Ac (X++[a]) (Y++[n]) k=Ac X Y k:=by
 unfold Ac
 split
 ·rfl
 ·rw [Oq,Oq,Oq,Oq,HH za,HH za]
theorem Ls {X:List Pa} {Y:List Nat} {a:Pa} {n:Nat} (hy:Y.length=X.length):Ac (X++[a]) (Y++[n]) ((X.length:Nat):Int)=.vec a 1 n:=by
 unfold Ac;rw [bU za,wR,Oq,Oq,GT (tW _),←hy,GT (tW _)];simp [hy]
structure Ke (q:Pa) (h h':Hp) (AS:List Pa) (LS:List Nat) (AS2:List Pa) (fr:aI) (h2:List (List Int)):Prop where
 w:h' (6::q)=some (fr.bP.map JX)
 a:h' (10::q)=some (fr.aX.map (Ac (AS++AS2) (LS++h2.map List.length)))
 nd:AS2.Nodup
 un:∀a ∈ AS2,∃j i,a=j::i::21::q
 len:AS2.length=h2.length
 fU:∀(k:Nat) (a:Pa) (l:List Int),AS2[k]? = some a->h2[k]? = some l->h' a=some (l.map DC)
 out:∀i,¬ q <:+ i->h' i=h i
theorem Qf {f:aP} {b:Nat} {r:aI × List (List Int)} (h:uF f b=some r) (q:Pa) (m:M) (vs:List V) (AS:List Pa) (LS:List Nat) (hAS:AS.length=b) (hLS:LS.length=b) (hv:vs.map V.weak1=[.agg (aP.C f)]) :
  SC prog 32 vs q m (λv m'=>∃AS2 h',v=.ptr (12::q) 0/\m'=(m.set (12::q) (Eo (6::q) (10::q) r.1)).seth h'/\Ke q m.hp h' AS LS AS2 r.1 r.2):=by
 refine SC.wv hv ?_;refine SC.freshH λhfr=>?_;refine SC_ofK (12::q) (QU _ _) func32 rfl (λxs w=>call32 xs w) ntmps32 zd (vJ Array.toList results32) ?_;unfold uF at h;obtain ⟨⟨hp0,hp1,hvl⟩,h⟩:=bN h;obtain ⟨o,ho,h⟩:=aD h;obtain rfl:=aZ h;refine qT λK hK=>?_;simp only [go_sem,Nat.reduceAdd,oC,qA,true_and];apply hK;refine aN ?_;have f0:(0:Int)<=(f.aO.length:Int):=SR _;have f1:(f.aO.length:Int)<=1073741824:=za
 refine eV λK hK=>?_;have hne:(10::q=6::q)=False:=zc
 simp only [go_sem,seval,oC,qA,wN,EP,true_and,Bu,sR,Gq,Gp,jJ,mO,wM,KJ,ED,f0,f1,wR,and_self];apply hK;refine aN (qT λK hK=>?_);simp only [go_sem,seval,FI,xej,true_and,and_true,Bu,sR,jJ,mO,wM,implies_true,hp0,hp1];apply hK;refine cK ?_;obtain ⟨p,hp⟩:∃p:Nat,f.aQ.toNat=p:=⟨_,rfl⟩;rw [hp] at ho;simp only [hp];have hpl:p<=f.aO.length:=za
 refine FE (λc E' m'=>∃(l:List aJ) (v:Nat) (rs:List Int) (hs2:List (List Int)) (AS2:List Pa),c=l.length/\(f.aO.drop p).drop v=l/\v<=(f.aO.drop p).length/\BZ p l v b rs hs2=some o/\rs.length=f.aO.length/\(∀k ∈ rs,k<((b+hs2.length:Nat):Int)) ∧
  E' 1=.ptr (0::q) 0/\E' 3=.ptr (12::q) 0/\E' 21=.list .none ((f.aO.drop p).map aJ.C)/\E' 22=.lit (.int .i64 ((f.aO.drop p).length:Int))/\E' 23=.lit (.int .i64 (v:Int))/\m'.blk (0::q)=some (aP.C f)/\m'.blk (12::q)=some (Eo (6::q) (10::q) ⟨f,List.replicate f.aO.length 0,List.replicate f.aO.length (-1),0⟩)/\m'.ver (12::q)=m.ver (12::q)/\m'.gl=m.gl/\m.back q m'=m.seth m'.hp ∧
  Ke q m.hp m'.hp AS LS AS2 ⟨f,List.replicate f.aO.length 0,rs,0⟩ hs2) (f.aO.drop p).length ?_ ?_
 ·refine ⟨f.aO.drop p,0,List.replicate f.aO.length (-1),[],[],rfl,rfl,HI _,ho,zc,λk hk=>by rw [(PR.1 hk).2];omega,?_⟩;refine ⟨?_,?_,?_,?_,?_,?_,?_,?_,?_,?_,?_⟩
  all_goals try simp only [go_sem,seval,and_true,aP.C_eq,HG,Oy,gR,bB,jQ,bG]
  refine ⟨?_,?_,List.nodup_nil,λa ha=>(nomatch ha),rfl,λk a l ha=>(nomatch ha),λi hi=>?_⟩
  ·show (if (6::q)=10::q then _ else if 6::q=6::q then _ else _)=_;rw [bU zc,cG rfl,Ho,xem];rfl
  ·show (if (10::q)=10::q then _ else _)=_;rw [cG rfl,Ho,xem];rfl
  ·show (if i=10::q then _ else if i=6::q then _ else m.hp i)=_;rw [bU (λe=>hi (by rw [e];exact QU _ _)),bU (λe=>hi (by rw [e];exact QU _ _))]
 ·rintro i c E1 m1 ⟨l,v,rs,hs2,AS2,rfl,hl,hvl1,hop,hrs,hrk,e1,e3,e21,e22,e23,b0,b12,v12,hgl,Da,hO⟩ _;have hwb:prog.info? 0=prog.info? 0:=rfl;refine qT λK hK=>?_;simp only [go_sem,e22,e23];apply hK;refine aN ?_;cases l with
  | nil=>
    have hvv:(f.aO.drop p).length<=v:=by
     have:=vJ List.length hl;simp only [HG,mO] at this ⊢;omega
    refine mA false (by simp only [go_sem,↓reduceIte];exact vJ (λb=>V.lit (.bool b)) (Om (by simp only [HG] at hvv ⊢;omega))) ?_;simp only [↓reduceIte,Bt];refine gE ?_
    try simp only [cV,cM,↓reduceIte,aR]
    refine qT λK hK=>?_;simp only [go_sem,seval,e3];apply hK;refine cB ?_;refine ⟨by first | exact .inl rfl | exact .inl trivial,?_⟩;simp only [go_sem,↓reduceIte,true_and]
    injection hop with hop
    subst hop;refine ⟨AS2,m1.hp,?_,hO⟩;show _=(m.set (12::q) (Eo (6::q) (10::q) (⟨f,List.replicate f.aO.length 0,rs,0⟩:aI))).seth m1.hp
    have hc:Eo (6::q) (10::q) (⟨f,List.replicate f.aO.length 0,List.replicate f.aO.length (-1),0⟩:aI)=Eo (6::q) (10::q) ⟨f,List.replicate f.aO.length 0,rs,0⟩:=by
     simp only [frC_eq,Oy,hrs]
    rcases Vr (q:=q) (m:=m) b12 v12 with h1 | h1
    ·rw [h1,Da,hc];rfl
    ·exact dE (QU _ _) h1
  | cons x l=>
    have hvb:v<(f.aO.drop p).length:=by
     have:=vJ List.length hl;simp only [HG,jJ] at this ⊢;omega
    have hx:(f.aO.drop p)[v]? = some x:=by
     have:=vJ List.head? hl;simpa [Td] using this
    have hl2:(f.aO.drop p).drop (v+1)=l:=by
     have:=vJ List.tail hl;simpa [xee] using this
    have g1:(0:Int)<=(v:Int):=SR _;have g2:(v:Int)<((f.aO.drop p).length:Int):=za
    have g3:(f.aO.drop p)[((v:Nat):Int).toNat]? = some x:=hx;have hvd:p+v<f.aO.length:=by rw [HG] at hvb;omega
    have hw:i64.wrap ((v:Int)+1)=((v+1:Nat):Int):=by rw [fD za za];omega
    refine mA true (by simp only [go_sem,↓reduceIte];exact vJ (λb=>V.lit (.bool b)) (vO g2)) ?_;simp only [↓reduceIte];refine bL ?_
    refine aN (cK (qT λK hK=>?_));simp only [go_sem,seval,oC,qA,FI,true_and,sR,Gq,Gp,GD,Ii,jJ,mO,wM,AJ,implies_true,e21,e23,g1,g2,wR,hx];apply hK;refine qT λK hK=>?_;simp only [go_sem,seval,Bu,sR];apply hK;rw [BZ] at hop;refine HA (x.bF == 4) (λc1=>?_) (λc1=>?_)
    ·rw [cG (by simpa using c1)] at hop;obtain ⟨⟨s1,s2⟩,hop⟩:=bN hop;refine wL λhfr2=>?_;have q0:m1.hp (20::i::21::q)=none:=by have:=hfr2 20 za;simpa only [go_sem,↓reduceIte,Nat.reduceEqDiff,Nat.reduceAdd,Nat.reduceSub,Nat.reduceMul,Nat.reduceLT,Nat.reduceLeDiff,Nat.reduceBEq,Nat.reduceBNe,reduceCtorEq,xdw,Nat.one_ne_zero,oC,qA,xep,FI,xej,wN,ER,EP,true_and,and_true,Bu,sR,Gq,Gp,GD,Ii,jJ,mO,wM,KJ,ED,AJ,xed,MR,false_implies,implies_true,Bool.not_true,Bool.not_false,beq_self_eq_true,Bool.or_true,Bool.true_or,Bool.and_true,Bool.true_and] using this
     have s3:(0:Int)<=x.gA:=za
     have s4:i64.wrap (f.aQ+(v:Int))=((p+v:Nat):Int):=by rw [fD za za];omega
     have s5:(0:Int)<=((p+v:Nat):Int):=SR _;have s6:((p+v:Nat):Int)<(f.aO.length:Int):=za
     refine eV λK hK=>?_;simp only [go_sem,seval,oC,qA,true_and,and_true,Bu,sR,jJ,mO,wM,e1,e3,b0,b12,s3,s2,s4,s5,s6,Oy,hO.a];refine ⟨za,?_⟩;apply hK;simp only [aR,bJ];refine bX λK hK=>?_;simp only [go_sem,seval,e23];apply hK;refine ⟨l.length,EO _,l,v+1,rs.set (p+v) ((b+hs2.length:Nat):Int),hs2++[List.replicate x.gA.toNat 0],AS2++[20::i::21::q],rfl,hl2,za,hop,by rw [yS];exact hrs,λk hk=>?_,?_⟩
     ·have hlen:(hs2++[List.replicate x.gA.toNat (0:Int)]).length=hs2.length+1:=zc
      rcases KM hk with hk | hk
      ·have:=hrk k hk;omega
      ·omega
     refine ⟨?_,?_,?_,?_,?_,?_,?_,?_,?_,?_,?_⟩
     all_goals try simp only [go_sem,seval,e1,e3,e21,e22,b0,b12,v12,hgl,Da,hw,bB,gR,jQ]
     have hal:(AS++AS2).length=b+hs2.length:=by rw [nB,hAS,hO.len]
     have hll:(LS++hs2.map List.length).length=(AS++AS2).length:=by rw [nB,hLS,hal,wM]
     have hna:20::i::21::q ∉ AS2:=λhm=>by
      obtain ⟨j,hj⟩:=Lv hm;have hjl:j<hs2.length:=by rw [←hO.len];exact (sG.1 hj).1
      have:=hO.fU j _ _ hj (tS hjl);rw [q0] at this;cases this
     have e1:(AS++(AS2++[20::i::21::q]))=(AS++AS2)++[20::i::21::q]:=zc
     have e2:(LS++(hs2++[List.replicate x.gA.toNat (0:Int)]).map List.length)=(LS++hs2.map List.length)++[x.gA.toNat]:=zc
     refine ⟨?_,?_,?_,?_,by simp [hO.len],λk a l hk hl=>?_,λj hj=>?_⟩
     ·show (if (6::q)=10::q then _ else if 6::q=20::i::21::q then _ else m1.hp (6::q))=_;rw [bU zc,bU zc,hO.w]
     ·show (if (10::q)=10::q then _ else _)=_;rw [cG rfl,e1,e2]
      congr 1
      rw [xdz,←hal,Ls hll]
      congr 1
      refine xdr λk hk=>(NW (by have:=hrk k hk;omega) hll).symm
     ·refine List.nodup_append.2 ⟨hO.nd,zc,λa ha b hb e=>?_⟩;rw [zA] at hb;subst hb;subst e;exact hna ha
     ·intro a ha
      rcases BV.1 ha with ha | ha
      ·exact hO.un a ha
      ·exact ⟨20,i,zA.1 ha⟩
     ·have hkl:k<(AS2++[20::i::21::q]).length:=(sG.1 hk).1;rw [nB,tF] at hkl
      by_cases e:k<AS2.length
      ·rw [HH e] at hk;rw [HH (by rw [←hO.len];exact e)] at hl;obtain ⟨j1,j2,ea⟩:=hO.un a (zX hk);show (if a=10::q then _ else if a=20::i::21::q then _ else m1.hp a)=_;rw [bU (by rw [ea];intro e;have:=vJ List.length e;simp only [jJ] at this;omega),bU (λe=>hna (by rw [←e];exact zX hk))];exact hO.fU k a l hk hl
      ·have ek:k=AS2.length:=za
       subst ek;rw [GT (tW _),Tc] at hk;rw [hO.len,GT (tW _),Tc] at hl;obtain rfl:20::i::21::q=a:=by simpa using hk
       obtain rfl:List.replicate x.gA.toNat 0=l:=by simpa using hl
       show (if (20::i::21::q)=10::q then _ else if 20::i::21::q=20::i::21::q then _ else _)=_;rw [bU zc,cG rfl,Ho,xem];rfl
     ·show (if j=10::q then _ else if j=20::i::21::q then _ else m1.hp j)=_;rw [bU (λe=>hj (by rw [e];exact QU _ _)),bU (λe=>hj (by rw [e];exact ⟨[20,i,21],rfl⟩))];exact hO.out j hj
    ·rw [bU (by simpa using c1)] at hop;refine bL ?_
     try simp only [aR,bJ]
     refine bX λK hK=>?_;simp only [go_sem,seval,e23];apply hK;refine ⟨l.length,EO _,l,v+1,rs,hs2,AS2,rfl,hl2,za,hop,hrs,hrk,?_⟩;refine ⟨?_,?_,?_,?_,?_,?_,?_,?_,?_,?_,?_⟩
     all_goals try simp only [go_sem,seval,e1,e3,e21,e22,b0,b12,v12,hgl,Da,hw,bB]
     exact hO
theorem Rs {m:M} {h:Hp} {p:Pa} {o n:Nat} {c:List V}:(m.seth h).setv p o c n=(m.setv p o c n).seth h:=rI rfl
theorem yE {m:M} {h h':Hp}:(m.seth h).seth h'=m.seth h':=rI rfl
theorem GM {m m2:M} {q p0 p1:Pa} {c0 c1:List V} {z:Nat} {h:Hp} (h0:¬ q <:+ p0) (h1:q <:+ p1):m.back q (m2.fr p0 p1 c0 z c1 h)=((m.back q m2).setv p0 4 c0 z).seth h:=by
 have s0:¬ q.isSuffixOf p0=true:=λe=>h0 (GS.1 e);have s1:q.isSuffixOf p1=true:=GS.2 h1
 have e:m.back q (m2.fr p0 p1 c0 z c1 h)=(m.back q (m2.setv p0 4 c0 z)).seth h:=by
  refine M.ext_hp (funext λi=>?_) (funext λi=>?_) rfl rfl rfl
  ·show (if q.isSuffixOf i then m.blk i else if i=p0 then some c0 else if i=p1 then some c1 else m2.blk i)=if q.isSuffixOf i then m.blk i else if i=p0 then some c0 else m2.blk i
   by_cases e:q.isSuffixOf i=true
   ·rw [cG e,cG e]
   ·rw [bU e,bU e]
    by_cases e0:i=p0
    ·rw [cG e0,cG e0]
    ·rw [bU e0,bU e0,bU (λe1=>e (by rw [e1];exact s1))]
  ·rfl
 rw [e,dR h0]
section
variable {h h':Hp} {W A:Pa} {AS AS2:List Pa} {LS:List Nat} {ws rs ws' rs':List Int} {hs hs':List (List Int)} {q:Pa}
theorem oV.frame (k:oV h W A AS LS ws rs hs) (hW:h' W=h W) (hA:h' A=h A) (hAS:∀a ∈ AS,h' a=h a):oV h' W A AS LS ws rs hs:=
 ⟨hW.trans k.w,hA.trans k.a,k.wa,k.was,k.aas,k.nd,k.ls,k.len,λi a l h1 h2=>(hAS a (zX h1)).trans (k.fU i a l h1 h2)⟩
theorem oV.setRefs (k:oV h W A AS LS ws rs hs) (rs':List Int):oV (tH h A (rs'.map (Ac AS LS))) W A AS LS ws rs' hs:=by
 refine ⟨?_,?_,k.wa,k.was,k.aas,k.nd,k.ls,k.len,λi a l h1 h2=>?_⟩
 ·show (if W=A then _ else h W)=_;rw [bU k.wa];exact k.w
 ·show (if A=A then _ else _)=_;rw [cG rfl]
 ·show (if a=A then _ else h a)=_;rw [bU (λe=>k.aas (by rw [←e];exact zX h1))];exact k.fU i a l h1 h2
theorem Sr {X Z:List Pa} {Y T:List Nat} {k:Int} (h:k<(X.length:Int)) (hy:Y.length=X.length):Ac (X++Z) (Y++T) k=Ac X Y k:=by
 unfold Ac
 split
 ·rfl
 ·rw [Oq,Oq,Oq,Oq,HH za,HH za]
variable {fr:aI} {h2:List (List Int)}
theorem Ke.hB (k:oV h W A AS LS ws rs hs) (hnAS:∀a ∈ AS,¬ q <:+ a) (o:Ke q h h' AS LS AS2 fr h2):oV h' (6::q) (10::q) (AS++AS2) (LS++h2.map List.length) fr.bP fr.aX (hs++h2):=by
 have hu:∀a ∈ AS2,q <:+ a:=λa ha=>by
  obtain ⟨j,i,rfl⟩:=o.un a ha;exact ⟨[j,i,21],rfl⟩
 have hl:LS.length=AS.length:=by rw [k.ls,wM,k.len]
 refine ⟨o.w,o.a,zc,λhm=>?_,λhm=>?_,List.nodup_append.2 ⟨k.nd,o.nd,λa ha b hb e=>hnAS a ha (by rw [e];exact hu b hb)⟩,by rw [xds,k.ls],by rw [nB,nB,k.len,o.len],λi a l h1 h3=>?_⟩
 ·rcases BV.1 hm with hm | hm
  ·exact hnAS _ hm (QU _ _)
  ·obtain ⟨j,i,e⟩:=o.un _ hm;have:=vJ List.length e;simp only [jJ] at this;omega
 ·rcases BV.1 hm with hm | hm
  ·exact hnAS _ hm (QU _ _)
  ·obtain ⟨j,i,e⟩:=o.un _ hm;have:=vJ List.length e;simp only [jJ] at this;omega
 ·by_cases e:i<AS.length
  ·rw [HH e] at h1;rw [HH (by rw [←k.len];exact e)] at h3;rw [o.out a (hnAS a (zX h1))];exact k.fU i a l h1 h3
  ·rw [GT za] at h1;rw [GT (by rw [←k.len];omega),←k.len] at h3;exact o.fU _ a l h1 h3
theorem FZ {m0 hF:Hp} (hfr:∀i,q <:+ i->m0 i=none) (hW:¬ q <:+ W) (hAS:∀a ∈ AS,¬ q <:+ a) (ho:∀i,¬ q <:+ i->hF i=uP m0 W ws AS hs i):Ab q m0 hF=uP m0 W ws AS hs:=by
 funext i
 unfold Ab
 by_cases e:q <:+ i
 ·rw [cG (GS.2 e)];unfold uP;rw [bU (λe2=>hW (by rw [←e2];exact e)),bU (λe2=>hAS i e2 e),hfr i e]
 ·rw [bU (λe2=>e (GS.1 e2)),ho i e]
theorem Jz:∀ {AS AS2:List Pa} {hs:List (List Int)} {i:Pa},i ∈ AS->Hj (AS++AS2) hs i=Hj AS (hs.take AS.length) i
 | [],_,_,_,hi=>nomatch hi
 | a::AS,AS2,[],i,hi=>by rw [List.take_nil];rfl
 | a::AS,AS2,x::hs,i,hi=>by
   show (if i=a then some (x.map DC) else Hj (AS++AS2) hs i)=if i=a then some (x.map DC) else Hj AS (hs.take AS.length) i
   by_cases e:i=a
   ·rw [cG e,cG e]
   ·rw [bU e,bU e];exact Jz ((Cj.1 hi).resolve_left e)
theorem Qv {m0 h1:Hp} {W':Pa} (k:oV m0 W A AS LS ws rs hs) (hnW:¬ q <:+ W) (hnAS:∀a ∈ AS,¬ q <:+ a) (hW':q <:+ W') (hu:∀a ∈ AS2,q <:+ a) (ho:∀i,¬ q <:+ i->h1 i=m0 i) {i:Pa} (hi:¬ q <:+ i) :
  uP h1 W' ws' (AS++AS2) hs' i=uP m0 W ws AS (hs'.take AS.length) i:=by
 unfold uP;rw [bU (λe=>hi (by rw [e];exact hW'))]
 by_cases e:i ∈ AS
 ·rw [cG (MI _ e),bU (λe2=>k.was (by rw [←e2];exact e)),cG e];exact Jz e
 ·have h3:i ∉ AS++AS2:=λhm=>(BV.1 hm).elim e λhm=>hi (hu i hm);rw [bU h3,bU e,ho i hi]
  by_cases e2:i=W
  ·rw [cG e2,e2,k.w]
  ·rw [bU e2]
end
