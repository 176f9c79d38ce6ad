import Derived.Test.YtljbbjpbefjpiaaGreatDoorPGMx
import Derived.Test.YtljbbjpbefjpiaaGreatDoorPH7
namespace Go.Proofs.YtljbbjpbefjpiaaGreatDoor.Abs
open Go.RowKit Tryz
open IntKind (i64 u32 u64 u8)
set_option linter.all false
set_option maxRecDepth 10000
def MR (P0:Pa) (m:M) (g:FuncId) (look:Ii):Prop:=
 ∀(i:Int) (f:aB) (c:aD) (w:aF) (r:aD × aF),look i f c w=some r->∀(q:Pa) (m1:M) (F fp S C:V),m1.blk P0=some (pN F fp S C c w)->dL F fp S C m1.hp c->m1.gl=m.gl ->
  SC prog g [.ptr P0 0,.li i,.agg (aB.C f)] q m1 (λv m'=>∃(F fp S C:V) (h:Hp) (vr:Nat->Nat),v=.tup []/\m'=m1.ck P0 (pN F fp S C r.1 r.2) h vr/\dL F fp S C h r.1)
theorem Jb {q p:Pa} {m m2:M} {cs:List V} {h:Hp} {vr:Nat->Nat} (hq:(q <:+ p)=True):m.back q (m2.ck p cs h vr)=(m.back q m2).seth h:=by
 have hs:q.isSuffixOf p=true:=NT.2 (of_eq_true hq);refine M.ext_hp (funext λi=>?_) (funext λi=>?_) rfl rfl rfl
 ·show (if q.isSuffixOf i then m.blk i else if i=p then some cs else m2.blk i)=if q.isSuffixOf i then m.blk i else m2.blk i
  by_cases e:q.isSuffixOf i=true
  ·rw [if_pos e,if_pos e]
  ·rw [if_neg e,if_neg e,if_neg (by rintro rfl;exact e hs)]
 ·show (if q.isSuffixOf i then m.ver i else if i=p then vr else m2.ver i)=if q.isSuffixOf i then m.ver i else m2.ver i
  by_cases e:q.isSuffixOf i=true
  ·rw [if_pos e,if_pos e]
  ·rw [if_neg e,if_neg e,if_neg (by rintro rfl;exact e hs)]
theorem Se {h:Hp}:dL .nilv (.lit (.pointer none)) .nilv .nilv h aD.Z:=by
 refine ⟨[],[],rfl,fQ.nil h 6,λi f v hf=>(by cases hf),fQ.nil h 1,rfl,fQ.nil h 1,λi l v hl=>(by cases hl),λi hi=>?_,?_⟩
 ·have:(-1:Int)=i:=hi;omega
 ·intro a b a' b' id hi;unfold oW at hi
  split at hi <;> first | (cases hi;done) | (simp at hi;cases hi)
def Ee (f:cB->Option (cY × Int × Int)):Prop:=∀a0 r,f a0=some r->∀(q:Pa) (m:M) (vs:List V),vs.map V.weak1=[.list .none (mT a0)]/\(m.hp=λ_=>none)/\m.gl 2=.eptr [(cA cS cE)] 0 0/\m.gl 0=.eptr [(cA bI.C cV)] 0 0/\m.gl 1=.eptr [(cA cS eY)] 0 0/\m.gl 4=.eptr [(cA (cA cS) cQ)] 0 0->SC prog 5 vs q m (λv m'=>v=.tup [.agg (cY.C r.1),.li r.2.1,.li r.2.2]/\m'=m)
theorem Ia (n:Nat):Ee (kD n):=by
 rintro a0 r h q m vs ⟨hv,hhp,hg0,hg2,hg3,hg6⟩;refine SC.wv hv ?_;refine SC.noheap ?_;refine vC func5 call5 ntmps5 results5 ?_;unfold kD at h;have hm0':m=m.seth m.hp:=rfl;have hm0:m.seth (λ_=>none)=m:=M.ext_hp rfl rfl rfl rfl hhp.symm;refine aN (aR λ_ z=>?_);simp only [go_sem,seval];apply z;simp only [seval,aE,aW,aT,aC,aU,aP];refine aN ?_;obtain ⟨p,hp,h⟩:=aH h;refine aR λ_ z=>?_;simp only [go_sem,seval];refine SC.by_ (Hu n a0 _ hp _ _ _ (by simp only [go_sem,seval,hg0,hg3,hg6])) ?_;simp only [go_sem,seval];apply z;simp only [seval,aE,aW,aT,aC,aU,aP];refine aN (aN (aR λ_ z=>?_));simp only [go_sem,seval];apply z;simp only [seval,aE,aW,aT,aC,aU,aP];refine lL h (λc1 h=>?_) (λc1 h=>?_)
 ·obtain rfl:=bX h;refine aN (aR λ_ z=>?_);simp only [go_sem,seval];apply z;simp only [seval,aE,aW,aT,aC,aU,aP];refine gB ?_
  try simp only [aT,aP]
  refine ⟨by simp,?_⟩;simp only [go_sem,seval,bJ,bG,aV,bC,hm0]
 ·obtain ⟨a,ha,h⟩:=aH h;obtain ⟨hlen,h⟩:=dK h;obtain ⟨b,hb,h⟩:=aH h;obtain ⟨w,hw,h⟩:=aH h;refine fO ?_
  try simp only [seval,aE,aW,aT,aC,aU,aP]
  refine aN (aR λ_ z=>?_);simp only [go_sem,seval];apply z;simp only [seval,aE,aW,aT,aC,aU,aP];refine uG (id:=16::q) (off:=0) (cs:=[.list .self [],.lit (.pointer none),.list .self [],.list .self [],.li 0,.li 0,.li 0]) (by simp only [go_sem,seval]) rfl ?_;simp only [go_sem,seval];refine uG (id:=16::q) (off:=2) (cs:=[.nilv,.lit (.pointer none),.list .self [],.list .self [],.li 0,.li 0,.li 0]) (by simp only [go_sem,seval]) rfl ?_;simp only [go_sem,seval];refine uG (id:=16::q) (off:=3) (cs:=[.nilv,.lit (.pointer none),.nilv,.list .self [],.li 0,.li 0,.li 0]) (by simp only [go_sem,seval]) rfl ?_;simp only [go_sem,seval];refine Sz (λE' m'=>∃F fp S C:V,E' 2=.ptr (0::q) 0/\E' 5=.ptr (9::q) 0/\E' 8=.ptr (16::q) 0/\m'.blk (0::q)=some [.list .self []]/\m'.blk (9::q)=some (aB.C p.1)/\m'.blk (16::q)=some (pN F fp S C aD.Z ⟨0,0⟩)/\dL F fp S C m'.hp aD.Z/\m'.gl=m.gl/\m.back q m'=m.seth m'.hp) ⟨.nilv,.lit (.pointer none),.nilv,.nilv,by simp only [go_sem,seval],by simp only [go_sem,seval],by simp only [go_sem,seval],by simp only [go_sem,seval,List.cons.injEq,IB,false_and,and_false,if_false,if_true,Hb],by simp only [go_sem,seval,List.cons.injEq,IB,false_and,and_false,if_false,if_true,Hb],by simp only [go_sem,seval,aD.Z],Se,by simp only [go_sem,seval],?_⟩ ?_
  ·simp only [go_sem,seval,bJ,bC];exact hm0' 
  rintro E1 m1 ⟨F1,fp1,S1,C1,e2,e5,e8,b0,b9,b16,ck,gg,bb⟩;refine aN (aR λ_ z=>?_);simp only [go_sem,seval,e8,e5,b9];refine SC.mono (AS n aD.Z ⟨0,0⟩ p.1 a ha _ _ _ (16::q) F1 fp1 S1 C1 ⟨by simp only [go_sem,seval],b16,ck,by rw [gg];exact hg2⟩) ?_;rintro _ _ ⟨F2,C2,h2,vr2,rfl,rfl,ck2⟩;simp only [go_sem,seval];apply z;simp only [seval,aE,aW,aT,aC,aU,aP];refine Sz (λE' m'=>∃F fp S C:V,E' 2=.ptr (0::q) 0/\E' 5=.ptr (9::q) 0/\E' 8=.ptr (16::q) 0/\m'.blk (0::q)=some [.list .self []]/\m'.blk (9::q)=some (aB.C p.1)/\m'.blk (16::q)=some (pN F fp S C a.1 a.2)/\dL F fp S C m'.hp a.1/\m'.gl=m.gl/\m.back q m'=m.seth m'.hp) ⟨F2,fp1,S1,C2,by simp only [go_sem,seval,e2],by simp only [go_sem,seval,e5],by simp only [go_sem,seval,e8],by simp only [go_sem,seval,List.cons.injEq,IB,false_and,and_false,if_false,if_true,Hb,b0],by simp only [go_sem,seval,List.cons.injEq,IB,false_and,and_false,if_false,if_true,Hb,b9],by simp only [go_sem,seval,List.cons.injEq,IB,false_and,and_false,if_false,if_true,Hb],ck2,by simp only [go_sem,seval,gg],?_⟩ ?_
  ·rw [Jb (by simp only [go_sem,seval]),bb];rfl
  clear ck ck2 e2 e5 e8 b0 b9 b16 gg bb;rintro E1 m1 ⟨F1,fp1,S1,C1,e2,e5,e8,b0,b9,b16,ck,gg,bb⟩;refine aN (aN (aR λ_ z=>?_));simp only [go_sem,seval,e8];apply z;simp only [seval,aE,aW,aT,aC,aU,aP]
  have hH:MR (16::q) m 11 (λi f c w=>dV n c w i f):=λi f c w r hr q' m1 F fp S C hb hk hg=>
   SC.mono (Bt n c w i f r hr q' m1 _ (16::q) F fp S C ⟨by simp only [go_sem,seval],hb,hk⟩) λv m' ⟨fp',S',h',vr,e1,e2,e3⟩=>⟨F,fp',S',C,h',vr,e1,e2,e3⟩
  have hB:MR (16::q) m 12 (λi f c w=>dW n c w i f):=λi f c w r hr q' m1 F fp S C hb hk hg=>
   SC.mono (By n c w i f r hr q' m1 _ (16::q) F fp S C ⟨by simp only [go_sem,seval],hb,hk,by rw [hg];exact hg2⟩) λv m' ⟨fp',S',h',vr,e1,e2,e3⟩=>⟨F,fp',S',C,h',vr,e1,e2,e3⟩
  refine gN ?_
  refine yE (λk E' m'=>∃(i:Nat) (ls:List Ii) (c:aD) (w:aF) (F fp S C:V),k=ls.length/\i+ls.length=2/\(∀(j:Nat) look,ls[j]? = some look->∃g,([[V.fn (.func 11) [.ptr (16::q) 0] []],[V.fn (.func 12) [.ptr (16::q) 0] []]]:List (List V))[i+j]? = some [.fn (.func g) [.ptr (16::q) 0] []]/\MR (16::q) m g look)/\pY p.1.aL ls c w=some b ∧
   E' 35=.list .exact [[V.fn (.func 11) [.ptr (16::q) 0] []],[V.fn (.func 12) [.ptr (16::q) 0] []]]/\E' 36=.li 2/\E' 37=.li (i:Int)/\E' 2=.ptr (0::q) 0/\E' 5=.ptr (9::q) 0/\E' 8=.ptr (16::q) 0/\m'.blk (0::q)=some [.list .self []]/\m'.blk (9::q)=some (aB.C p.1)/\m'.blk (16::q)=some (pN F fp S C c w)/\dL F fp S C m'.hp c/\m'.gl=m.gl/\m.back q m'=m.seth m'.hp) 2 ⟨0,[_,_],a.1,a.2,F1,fp1,S1,C1,rfl,rfl,?_,hb,?_⟩ ?_
  ·intro j look hj
   match j,hj with
   | 0,hj=>exact ⟨_,rfl,by have:_=look:=Option.some.inj hj;rw [←this];exact hH⟩
   | 1,hj=>exact ⟨_,rfl,by have:_=look:=Option.some.inj hj;rw [←this];exact hB⟩
   | j+2,hj=>cases hj
  ·refine ⟨?_,?_,?_,?_,?_,?_,b0,b9,b16,ck,gg,bb⟩ <;> simp only [go_sem,seval,e2,e5,e8]
  clear ck e2 e5 e8 b0 b9 b16 gg bb;rintro i1 k1 E1 m1 ⟨i,ls,c,w0,F1,fp1,S1,C1,rfl,hil,hls,hlk,e35,e36,e37,e2,e5,e8,b0,b9,b16,ck,gg,bb⟩ _;refine aN (aR λ_ z=>?_);simp only [go_sem,seval,e36,e37];apply z;simp only [seval,aE,aW,aT,aC,aU,aP];refine aN ?_;cases ls with
  | nil=>
    have hi2:i=2:=by simpa using hil
    subst hi2;refine vV false (by simp only [go_sem,seval];try rfl) ?_;simp only [↓reduceIte,BN];refine oK ?_
    try simp only [seval,aW,aU,aE,aW,aT,aC,aU,aP]
    obtain rfl:=bX hlk;clear hil hls;refine aN (aN (aR λ_ z=>?_));simp only [go_sem,seval,e5,b9];apply z;simp only [seval,aE,aW,aT,aC,aU,aP];refine gN ?_
    refine yE (λk E' m'=>∃(v:Nat) (bO:List aB) (w1:aF) (F fp S C:V),k=bO.length/\p.1.aL.drop v=bO/\v+bO.length=p.1.aL.length/\pK n p.1.aL.length c bO v w1=some w/\E' 61=.list .none (p.1.aL.map aB.C)/\E' 62=.li (p.1.aL.length:Int)/\E' 63=.li (v:Int) ∧
     E' 2=.ptr (0::q) 0/\E' 5=.ptr (9::q) 0/\E' 8=.ptr (16::q) 0/\m'.blk (0::q)=some [.list .self []]/\m'.blk (9::q)=some (aB.C p.1)/\m'.blk (16::q)=some (pN F fp S C c w1)/\dL F fp S C m'.hp c/\m'.gl=m.gl/\m.back q m'=m.seth m'.hp) p.1.aL.length ⟨0,p.1.aL,w0,F1,fp1,S1,C1,rfl,rfl,by simp,hw,?_⟩ ?_
    ·refine ⟨?_,?_,?_,?_,?_,?_,b0,?_,b16,ck,gg,bb⟩ <;> simp only [go_sem,seval,e2,e5,e8,b9]
    clear ck e2 e5 e8 b0 b9 b16 gg bb hw;rintro i2 k2 E1 m1 ⟨v,bO,w1,F1,fp1,S1,C1,rfl,hdr,hvl,hcl,e61,e62,e63,e2,e5,e8,b0,b9,b16,ck,gg,bb⟩ _;refine aN (aR λ_ z=>?_);simp only [go_sem,seval,e62,e63];apply z;simp only [seval,aE,aW,aT,aC,aU,aP];refine aN ?_;cases bO with
    | nil=>
      have hv0:decide ((v:Int)<(p.1.aL.length:Int))=false:=by simp at hvl;simp;omega
      refine vV false (by simp only [go_sem,seval,hv0]) ?_;simp only [↓reduceIte,BN];refine oK ?_
      try simp only [seval,aW,aU,aE,aW,aT,aC,aU,aP]
      obtain rfl:=bX hcl;refine aN (aN (aR λ_ z=>?_));simp only [go_sem,seval,e8,b16,List.cons.injEq,IB,false_and,and_false,if_false,if_true,Hb];apply z;simp only [seval,aE,aW,aT,aC,aU,aP];refine lL h (λc3 h=>?_) (λc3 h=>?_)
      ·obtain rfl:=bX h;refine aN (pB [(0,0),(9,0),(1,0),(2,0),(3,0),(4,1),(5,0),(6,0),(7,0),(8,1),(10,0),(11,0)] 51 λ_ z=>?_);simp only [go_sem,seval,e8,e2,b0,b16,List.cons.injEq,IB,false_and,and_false,if_false,if_true,Hb];apply z;simp only [seval,aE,aW,aT,aC,aU,aP];refine gB ?_
       try simp only [aT,aP]
       refine ⟨by simp,?_⟩;simp only [go_sem,seval,bJ,bG,aV,bC,e2];show (M.back q m m1).seth (λ_=>none)=m;rw [bb];exact hm0
      ·obtain rfl:=bX h;refine fO ?_
       try simp only [seval,aE,aW,aT,aC,aU,aP]
       refine aN (PT (p:=16::q) b16 ck λh3=>?_);refine aR λ_ z=>?_;simp only [go_sem,seval,e8,e2,b0,b16,List.cons.injEq,IB,false_and,and_false,if_false,if_true,Hb];apply z;simp only [seval,aE,aW,aT,aC,aU,aP];refine gB ?_
       try simp only [aT,aP]
       refine ⟨by simp,?_⟩;simp only [go_sem,seval,bJ,bG,aV,bC,e2];show (M.back q m m1).seth (λ_=>none)=m;rw [bb];exact hm0
    | cons f bO=>
      have hvb:(v:Int)<(p.1.aL.length:Int):=by simp at hvl;omega
      have hv1:decide ((v:Int)<(p.1.aL.length:Int))=true:=DD hvb
      have hlf:p.1.aL[v]? = some f:=by
       have:=congrArg List.head? hdr;simpa [xel] using this
      have hdr2:p.1.aL.drop (v+1)=bO:=by
       have:=congrArg List.tail hdr;simpa using this
      refine vV true (by simp only [go_sem,seval,hv1]) ?_;simp only [↓reduceIte,BN];refine fO ?_
      try simp only [seval,aE,aW,aT,aC,aU,aP]
      refine aN (gN (aN (aR λ_ z=>?_)));simp only [go_sem,seval,e61,e63,hvb,hlf];apply z;simp only [seval,aE,aW,aT,aC,aU,aP];refine aN (aR λ_ z=>?_);simp only [go_sem,seval,e8,b16,List.cons.injEq,IB,false_and,and_false,if_false,if_true,Hb];apply z;simp only [seval,aE,aW,aT,aC,aU,aP];simp only [pK] at hcl;refine lL hcl (λc3 hcl=>?_) (λc3 hcl=>?_)
      ·obtain ⟨r1,hr1,hcl⟩:=aH hcl;obtain ⟨w2,hw2,hcl⟩:=aH hcl;refine wX λhfr=>?_;refine SW_px [0,0,0,0,0,16,48,112,254,510,0,1024,4095] [0,1,2,3,4,5,6,10,11,7,8,9,12] rfl (by kernel_rfl) λ_ z=>?_;have fl7:List.filter (λj=>!(wI [0,0,0,0,0,16,48,112,254,510,0,1024,4095] j 7)) [11,10,6,5,4,3,2,1,0]=[11,10,3,2,1,0]:=by decide
       have fl8:List.filter (λj=>!(wI [0,0,0,0,0,16,48,112,254,510,0,1024,4095] j 8)) [11,10,3,2,1,0]=[11,10,0]:=by decide
       have fl12:List.filter (λj=>!(wI [0,0,0,0,0,16,48,112,254,510,0,1024,4095] j 12)) [9,11,10,0]=[]:=by decide
       simp only [go_sem,seval,e5,e8,b9,fl7,fl8,fl12,List.cons.injEq,IB,false_and,and_false,if_false,if_true,Hb];refine ⟨by omega,?_⟩;obtain ⟨fs,cs,kk⟩:=ck;have hq0:m1.hp (19::i2::33::q)=none:=hfr _ (by omega);refine SC.mono (Hr n c v v (List.replicate p.1.aL.length 0) r1 hr1 _ _ (16::q) F1 fp1 S1 C1 fs cs w1 (19::i2::33::q) p.1.aL.length ?_ ?_ ?_ (by simp) ?_) ?_
       ·simp only [go_sem,seval,List.cons.injEq,IB,false_and,and_false,if_false,if_true,Hb,b16]
       ·exact kk.other (λa b=>kk.fresh hq0 a b) λid hne=>if_neg hne
       ·exact λa b=>kk.fresh hq0 a b
       ·rw [List.map_replicate];refine ⟨λr hr=>by rw [(xds.1 hr).2];rfl,.inr ⟨_,_,by rw [xes],if_pos rfl,?_⟩⟩;rw [xdq (by simp)];rfl
       ·rintro _ _ ⟨h3,rfl,rfl,kk2,hv2,hl2⟩;simp only [go_sem,seval,List.cons.injEq,IB,false_and,and_false,if_false,if_true,Hb,fl8,b9];refine ⟨e8,?_⟩;refine SC.mono (bL c w1 (!r1.1) 134 f.eO w2 hw2 _ _ _ (16::q) F1 fp1 S1 C1 ⟨by simp only [go_sem,seval],?_,⟨fs,cs,kk2⟩⟩) ?_
        ·simp only [go_sem,seval,List.cons.injEq,IB,false_and,and_false,if_false,if_true,Hb,b16]
        rintro _ _ ⟨rfl,rfl⟩;simp only [go_sem,seval,List.cons.injEq,IB,false_and,and_false,if_false,if_true,Hb,fl8,fl12];apply z;simp only [seval,aE,aW,aT,aC,aU,aP];refine aR λ_ z=>?_;simp only [go_sem,seval,e63];apply z;simp only [seval,aE,aW,aT,aC,aU,aP];refine ⟨bO.length,by simp,v+1,bO,w2,F1,fp1,S1,C1,rfl,hdr2,by simp at hvl;omega,hcl,?_⟩;refine ⟨?_,?_,?_,?_,?_,?_,?_,?_,?_,⟨fs,cs,kk2⟩,?_,?_⟩ <;> simp only [go_sem,seval,List.cons.injEq,IB,false_and,and_false,if_false,if_true,Hb,e61,e62,e2,e5,e8,b0,b9,b16,gg]
        ·rw [wL (by simp at hvl;omega)]
        ·rw [bJ (by simp only [go_sem,seval])];show (M.back q m (m1.set (4::i2::33::q) _)).seth h3=_;rw [bJ (by simp only [go_sem,seval]),bb];rfl
      ·refine fO ?_
       try simp only [seval,aE,aW,aT,aC,aU,aP]
       refine aR λ_ z=>?_;simp only [go_sem,seval,e63];apply z;simp only [seval,aE,aW,aT,aC,aU,aP];refine ⟨bO.length,by simp,v+1,bO,w1,F1,fp1,S1,C1,rfl,hdr2,by simp at hvl;omega,hcl,?_⟩;refine ⟨?_,?_,?_,?_,?_,?_,?_,?_,?_,ck,?_,?_⟩ <;> simp only [go_sem,seval,List.cons.injEq,IB,false_and,and_false,if_false,if_true,Hb,e61,e62,e2,e5,e8,b0,b9,b16,gg]
       ·rw [wL (by simp at hvl;omega)]
       ·rw [bJ (by simp only [go_sem,seval]),bb]
  | cons look ls=>
    obtain ⟨y,hy,hlk⟩:=aH hlk;obtain ⟨g,hrow,hlook⟩:=hls 0 look rfl;rw [xdv] at hrow;have hi2:(i:Int)<2:=by simp at hil;omega
    have hd2:decide ((i:Int)<2)=true:=DD hi2;refine vV true (by simp only [go_sem,seval,hd2]) ?_;simp only [↓reduceIte,BN];refine fO ?_
    try simp only [seval,aE,aW,aT,aC,aU,aP]
    refine aN (gN (aN (aR λ_ z=>?_)));simp only [go_sem,seval,e35,e37,hi2,hrow];apply z;simp only [seval,aE,aW,aT,aC,aU,aP];refine aN (aR λ_ z=>?_);simp only [go_sem,seval,e5,b9];apply z;simp only [seval,aE,aW,aT,aC,aU,aP];refine gN ?_
    refine yE (λk E' m'=>∃(v:Nat) (bO:List aB) (c:aD) (w:aF) (F fp S C:V),k=bO.length/\p.1.aL.drop v=bO/\v+bO.length=p.1.aL.length/\fY look bO v c w=some y/\E' 10=.fn (.func g) [.ptr (16::q) 0] []/\E' 42=.list .none (p.1.aL.map aB.C)/\E' 43=.li (p.1.aL.length:Int)/\E' 44=.li (v:Int) ∧
     E' 35=.list .exact [[V.fn (.func 11) [.ptr (16::q) 0] []],[V.fn (.func 12) [.ptr (16::q) 0] []]]/\E' 36=.li 2/\E' 37=.li (i:Int)/\E' 2=.ptr (0::q) 0/\E' 5=.ptr (9::q) 0/\E' 8=.ptr (16::q) 0/\m'.blk (0::q)=some [.list .self []]/\m'.blk (9::q)=some (aB.C p.1)/\m'.blk (16::q)=some (pN F fp S C c w)/\dL F fp S C m'.hp c/\m'.gl=m.gl/\m.back q m'=m.seth m'.hp) p.1.aL.length ⟨0,p.1.aL,c,w0,F1,fp1,S1,C1,rfl,rfl,by simp,hy,?_⟩ ?_
    ·refine ⟨?_,?_,?_,?_,?_,?_,?_,?_,?_,?_,b0,?_,b16,ck,gg,bb⟩ <;> simp only [go_sem,seval,e2,e5,e8,e35,e36,e37,b9]
    clear ck e2 e5 e8 b0 b9 b16 gg bb;rintro i2 k2 E1 m1 ⟨v,bO,c,w0,F1,fp1,S1,C1,rfl,hdr,hvl,hcl,e10,e42,e43,e44,e35,e36,e37,e2,e5,e8,b0,b9,b16,ck,gg,bb⟩ _;refine aN (aR λ_ z=>?_);simp only [go_sem,seval,e43,e44];apply z;simp only [seval,aE,aW,aT,aC,aU,aP];refine aN ?_;cases bO with
    | nil=>
      have hv0:decide ((v:Int)<(p.1.aL.length:Int))=false:=by simp at hvl;simp;omega
      refine vV false (by simp only [go_sem,seval,hv0]) ?_;simp only [↓reduceIte,BN];refine oK ?_
      try simp only [seval,aW,aU,aE,aW,aT,aC,aU,aP]
      obtain rfl:=bX hcl;refine aR λ_ z=>?_;simp only [go_sem,seval,e37];apply z;simp only [seval,aE,aW,aT,aC,aU,aP];refine ⟨ls.length,by simp,i+1,ls,c,w0,F1,fp1,S1,C1,rfl,by simp at hil;omega,?_,hlk,?_⟩
      ·intro j look2 hj;have:=hls (j+1) look2 hj
       rwa [←Nat.add_assoc,Nat.add_right_comm] at this
      ·refine ⟨?_,?_,?_,?_,?_,?_,b0,b9,b16,ck,gg,bb⟩ <;> simp only [go_sem,seval,e2,e5,e8,e35,e36]
       rw [wL (by omega)]
    | cons f bO=>
      have hvb:(v:Int)<(p.1.aL.length:Int):=by simp at hvl;omega
      have hv1:decide ((v:Int)<(p.1.aL.length:Int))=true:=DD hvb
      have hlf:p.1.aL[v]? = some f:=by
       have:=congrArg List.head? hdr;simpa [xel] using this
      have hdr2:p.1.aL.drop (v+1)=bO:=by
       have:=congrArg List.tail hdr;simpa using this
      refine vV true (by simp only [go_sem,seval,hv1]) ?_;simp only [↓reduceIte,BN];refine fO ?_
      try simp only [seval,aE,aW,aT,aC,aU,aP]
      refine aN (gN (aN (aR λ_ z=>?_)));simp only [go_sem,seval,e42,e44,hvb,hlf];apply z;simp only [seval,aE,aW,aT,aC,aU,aP];refine aN (aR λ_ z=>?_);simp only [go_sem,seval,e8,b16,List.cons.injEq,IB,false_and,and_false,if_false,if_true,Hb];apply z;simp only [seval,aE,aW,aT,aC,aU,aP];simp only [fY] at hcl;refine lL hcl (λc3 hcl=>?_) (λc3 hcl=>?_)
      ·obtain ⟨r1,hr1,hcl⟩:=aH hcl;refine aR λ_ z=>?_;simp only [go_sem,seval,e10];have hc:=λm1 hb=>hlook v f c w0 r1 hr1 (15::i2::8::i1::28::q) m1 F1 fp1 S1 C1 hb;simp only [aB.C_eq] at hc;refine SC.mono (hc _ (by simp only [go_sem,seval,List.cons.injEq,IB,false_and,and_false,if_false,if_true,Hb,b16]) (by exact ck) (by exact gg)) ?_;rintro _ _ ⟨F2,fp2,S2,C2,h2,vr2,rfl,rfl,ck2⟩;simp only [go_sem,seval];apply z;simp only [seval,aE,aW,aT,aC,aU,aP];refine aR λ_ z=>?_;simp only [go_sem,seval,e44];apply z;simp only [seval,aE,aW,aT,aC,aU,aP];refine ⟨bO.length,by simp,v+1,bO,r1.1,r1.2,F2,fp2,S2,C2,rfl,hdr2,by simp at hvl;omega,hcl,?_⟩;refine ⟨?_,?_,?_,?_,?_,?_,?_,?_,?_,?_,?_,?_,?_,ck2,?_,?_⟩ <;> simp only [go_sem,seval,List.cons.injEq,IB,false_and,and_false,if_false,if_true,Hb,e10,e42,e43,e35,e36,e37,e2,e5,e8,b0,b9,b16,gg]
       ·rw [wL (by simp at hvl;omega)]
       ·rw [Jb (by simp only [go_sem,seval]),bJ (by simp only [go_sem,seval]),bb];rfl
      ·refine fO ?_
       try simp only [seval,aE,aW,aT,aC,aU,aP]
       refine aR λ_ z=>?_;simp only [go_sem,seval,e44];apply z;simp only [seval,aE,aW,aT,aC,aU,aP];refine ⟨bO.length,by simp,v+1,bO,c,w0,F1,fp1,S1,C1,rfl,hdr2,by simp at hvl;omega,hcl,?_⟩;refine ⟨?_,?_,?_,?_,?_,?_,?_,?_,?_,?_,?_,?_,?_,ck,?_,?_⟩ <;> simp only [go_sem,seval,List.cons.injEq,IB,false_and,and_false,if_false,if_true,Hb,e10,e42,e43,e35,e36,e37,e2,e5,e8,b0,b9,b16,gg]
       ·rw [wL (by simp at hvl;omega)]
       ·rw [bJ (by simp only [go_sem,seval]),bb]
