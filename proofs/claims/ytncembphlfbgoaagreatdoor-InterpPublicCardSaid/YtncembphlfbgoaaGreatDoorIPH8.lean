/-
 A walk by hand: Check.
-/
import Derived.Test.YtncembphlfbgoaaGreatDoorIPGMx
import Derived.Test.YtncembphlfbgoaaGreatDoorIPH7
namespace Go.Proofs.YtncembphlfbgoaaGreatDoor.Abs
open Go.RowKit Tryz
open IntKind (i64 u32 u64 u8)
set_option linter.unusedVariables false
set_option maxRecDepth 10000
def MY (P0:Pa) (m:M) (g:FuncId) (look:Look):Prop:=
 ∀(i:Int) (f:aB) (c:aD) (w:aI) (r:aD × aI),look i f c w=some r->∀(q:Pa) (m1:M) (F fp S C:V),m1.blk P0=some (oD F fp S C c w)->eL F fp S C m1.hp c->m1.gl=m.gl ->
  SC prog g [.ptr P0 0,.lit (.int .i64 i),.agg (aB.C f)] q m1 (fun v m'=>∃(F fp S C:V) (h:Hp) (vr:Nat->Nat),v=.tup []/\m'=m1.ck P0 (oD F fp S C r.1 r.2) h vr/\eL F fp S C h r.1)
theorem IQ {q p:Pa} {m m2:M} {cs:List V} {h:Hp} {vr:Nat->Nat} (hq:(q <:+ p)=True):m.back q (m2.ck p cs h vr)=(m.back q m2).seth h:=by
 have hs:q.isSuffixOf p=true:=Fz.2 (of_eq_true hq);refine M.ext_hp (funext fun i=>?_) (funext fun i=>?_) rfl rfl rfl
 ·show (if q.isSuffixOf i then m.blk i else if i=p then some cs else m2.blk i)=if q.isSuffixOf i then m.blk i else m2.blk i
  by_cases e:q.isSuffixOf i=true
  ·rw [if_pos e,if_pos e]
  ·rw [if_neg e,if_neg e,if_neg (by rintro rfl;exact e hs)]
 ·show (if q.isSuffixOf i then m.ver i else if i=p then vr else m2.ver i)=if q.isSuffixOf i then m.ver i else m2.ver i
  by_cases e:q.isSuffixOf i=true
  ·rw [if_pos e,if_pos e]
  ·rw [if_neg e,if_neg e,if_neg (by rintro rfl;exact e hs)]
theorem RQ {h:Hp}:eL .nilv (.lit (.pointer none)) .nilv .nilv h aD.Z:=by
 refine ⟨[],[],rfl,fD.nil h 6,fun i f v hf=>(by cases hf),fD.nil h 1,rfl,fD.nil h 1,fun i l v hl=>(by cases hl),fun i hi=>?_,?_⟩
 ·have:(-1:Int)=i:=hi;omega
 ·intro a b a' b' id hi;unfold oF at hi
  split at hi <;> first | (cases hi;done) | (simp at hi;cases hi)
def Ij (f:cQ->Option (aN × Int × Int)):Prop:=∀a0 r,f a0=some r->∀(q:Pa) (m:M) (vs:List V),vs.map V.weak1=[.list .none (nQ a0)]/\(m.hp=fun _=>none)/\m.gl 2=.eptr [(cA cS cN)] 0 0/\m.gl 0=.eptr [(cA bL.C cX)] 0 0/\m.gl 1=.eptr [(cA cS fO)] 0 0/\m.gl 5=.eptr [(cA (cA cS) dH)] 0 0->SC prog 9 vs q m (fun v m'=>v=.tup [.agg (aN.C r.1),.lit (.int .i64 r.2.1),.lit (.int .i64 r.2.2)]/\m'=m)
theorem DP (n:Nat):Ij (uT n):=by
 rintro a0 r h q m vs ⟨hv,hhp,hg0,hg2,hg3,hg6⟩;refine SC.wv hv ?_;refine SC.noheap ?_;refine eD func9 call9 ntmps9 results9 ?_;unfold uT at h;have hm0':m=m.seth m.hp:=rfl;have hm0:m.seth (fun _=>none)=m:=M.ext_hp rfl rfl rfl rfl hhp.symm;refine pO fun _ z=>?_;simp only [go_sem,Nat.reduceAdd,lQ,oU];apply z;refine aF ?_;obtain ⟨p,hp,h⟩:=aA h;refine aP fun _ z=>?_;simp only [go_sem,seval,lQ,oU,uG,Et];refine SC.by_ (Hg n a0 _ hp _ _ _ (by simp only [go_sem,lQ,oU,and_true,hg0,hg3,hg6])) ?_;simp only [go_sem,seval,lQ,oU,true_and,EB,FZ,jC,lA];apply z;refine aF (pO fun _ z=>?_);simp only [go_sem,seval];apply z;refine bH h (fun c1 h=>?_) (fun c1 h=>?_)
 ·obtain rfl:=bO h;refine pO fun _ z=>?_;simp only [go_sem,seval,oU,true_and,and_true,EB,jC,lA];apply z;refine aO ?_
  try simp only [aT]
  refine ⟨by simp,?_⟩;simp only [go_sem,seval,lQ,oU,and_true,qU,Dm,Bd,jC,lA,bF,dB,bK,hm0]
 ·obtain ⟨a,ha,h⟩:=aA h;obtain ⟨hlen,h⟩:=bP h;obtain ⟨b,hb,h⟩:=aA h;obtain ⟨w,hw,h⟩:=aA h;refine aU ?_
  refine pO fun _ z=>?_;simp only [go_sem,seval,lQ,oU,true_and];apply z;refine tI (id:=16::q) (off:=0) (cs:=[.list .self [],.lit (.pointer none),.list .self [],.list .self [],.lit (.int .i64 0),.lit (.int .i64 0),.lit (.int .i64 0)]) (by simp only [go_sem,↓reduceIte]) rfl ?_;simp only [go_sem,lQ,oU,EB];refine tI (id:=16::q) (off:=2) (cs:=[.nilv,.lit (.pointer none),.list .self [],.list .self [],.lit (.int .i64 0),.lit (.int .i64 0),.lit (.int .i64 0)]) (by simp only [go_sem,↓reduceIte]) rfl ?_;simp only [go_sem,EB,FZ];refine tI (id:=16::q) (off:=3) (cs:=[.nilv,.lit (.pointer none),.nilv,.list .self [],.lit (.int .i64 0),.lit (.int .i64 0),.lit (.int .i64 0)]) (by simp only [go_sem,↓reduceIte]) rfl ?_;simp only [go_sem,EB,FZ];refine Sm (fun E' m'=>∃F fp S C:V,E' 2=.ptr (0::q) 0/\E' 5=.ptr (9::q) 0/\E' 8=.ptr (16::q) 0/\m'.blk (0::q)=some [.list .self []]/\m'.blk (9::q)=some (aB.C p.1)/\m'.blk (16::q)=some (oD F fp S C aD.Z ⟨0,0⟩)/\eL F fp S C m'.hp aD.Z/\m'.gl=m.gl/\m.back q m'=m.seth m'.hp) ⟨.nilv,.lit (.pointer none),.nilv,.nilv,by simp only [go_sem,seval],by simp only [go_sem,seval],by simp only [go_sem,↓reduceIte],by simp only [go_sem,seval,and_true,List.cons.injEq],by simp only [go_sem,seval,and_true,List.cons.injEq],by simp only [go_sem,↓reduceIte,aD.Z],RQ,by simp only [go_sem],?_⟩ ?_
  ·simp only [go_sem,bF,bK];exact hm0' 
  rintro E1 m1 ⟨F1,fp1,S1,C1,e2,e5,e8,b0,b9,b16,ck,gg,bb⟩;refine pO fun _ z=>?_;simp only [go_sem,seval,lQ,oU,uG,Et,true_and,qU,Dm,Bd,jC,lA,e8,e5,b9];refine SC.mono (AO n aD.Z ⟨0,0⟩ p.1 a ha _ _ _ (16::q) F1 fp1 S1 C1 ⟨by simp only [go_sem,lQ,oU],b16,ck,by rw [gg];exact hg2⟩) ?_;rintro _ _ ⟨F2,C2,h2,vr2,rfl,rfl,ck2⟩;simp only [go_sem,Nat.reduceAdd];apply z;refine Sm (fun E' m'=>∃F fp S C:V,E' 2=.ptr (0::q) 0/\E' 5=.ptr (9::q) 0/\E' 8=.ptr (16::q) 0/\m'.blk (0::q)=some [.list .self []]/\m'.blk (9::q)=some (aB.C p.1)/\m'.blk (16::q)=some (oD F fp S C a.1 a.2)/\eL F fp S C m'.hp a.1/\m'.gl=m.gl/\m.back q m'=m.seth m'.hp) ⟨F2,fp1,S1,C2,by simp only [go_sem,seval,e2],by simp only [go_sem,seval,e5],by simp only [go_sem,seval,e8],by simp only [go_sem,seval,and_true,List.cons.injEq,b0],by simp only [go_sem,seval,and_true,List.cons.injEq,b9],by simp only [go_sem,↓reduceIte],ck2,by simp only [go_sem,gg],?_⟩ ?_
  ·rw [IQ (by simp only [go_sem]),bb];rfl
  clear ck ck2 e2 e5 e8 b0 b9 b16 gg bb;rintro E1 m1 ⟨F1,fp1,S1,C1,e2,e5,e8,b0,b9,b16,ck,gg,bb⟩;refine aF (pO fun _ z=>?_);simp only [go_sem,seval,lQ,oU,true_and,and_true,jC,lA,e8];apply z
  have hH:MY (16::q) m 27 (fun i f c w=>jV n c w i f):=fun i f c w r hr q' m1 F fp S C hb hk hg=>
   SC.mono (Bu n c w i f r hr q' m1 _ (16::q) F fp S C ⟨by simp only [go_sem,lQ,oU],hb,hk⟩) fun v m' ⟨fp',S',h',vr,e1,e2,e3⟩=>⟨F,fp',S',C,h',vr,e1,e2,e3⟩
  have hB:MY (16::q) m 28 (fun i f c w=>jW n c w i f):=fun i f c w r hr q' m1 F fp S C hb hk hg=>
   SC.mono (Bz n c w i f r hr q' m1 _ (16::q) F fp S C ⟨by simp only [go_sem,lQ,oU],hb,hk,by rw [hg];exact hg2⟩) fun v m' ⟨fp',S',h',vr,e1,e2,e3⟩=>⟨F,fp',S',C,h',vr,e1,e2,e3⟩
  refine bM ?_
  refine kX (fun k E' m'=>∃(i:Nat) (ls:List Look) (c:aD) (w:aI) (F fp S C:V),k=ls.length/\i+ls.length=2/\(∀(j:Nat) look,ls[j]? = some look->∃g,([[V.fn (.func 27) [.ptr (16::q) 0] []],[V.fn (.func 28) [.ptr (16::q) 0] []]]:List (List V))[i+j]? = some [.fn (.func g) [.ptr (16::q) 0] []]/\MY (16::q) m g look)/\uS p.1.aM ls c w=some b ∧
   E' 35=.list .exact [[V.fn (.func 27) [.ptr (16::q) 0] []],[V.fn (.func 28) [.ptr (16::q) 0] []]]/\E' 36=.lit (.int .i64 2)/\E' 37=.lit (.int .i64 (i:Int))/\E' 2=.ptr (0::q) 0/\E' 5=.ptr (9::q) 0/\E' 8=.ptr (16::q) 0/\m'.blk (0::q)=some [.list .self []]/\m'.blk (9::q)=some (aB.C p.1)/\m'.blk (16::q)=some (oD F fp S C c w)/\eL F fp S C m'.hp c/\m'.gl=m.gl/\m.back q m'=m.seth m'.hp) 2 ⟨0,[_,_],a.1,a.2,F1,fp1,S1,C1,rfl,rfl,?_,hb,?_⟩ ?_
  ·intro j look hj
   match j,hj with
   | 0,hj=>exact ⟨_,rfl,by have:_=look:=Option.some.inj hj;rw [←this];exact hH⟩
   | 1,hj=>exact ⟨_,rfl,by have:_=look:=Option.some.inj hj;rw [←this];exact hB⟩
   | j+2,hj=>cases hj
  ·refine ⟨?_,?_,?_,?_,?_,?_,b0,b9,b16,ck,gg,bb⟩ <;> simp only [go_sem,seval,e2,e5,e8]
  clear ck e2 e5 e8 b0 b9 b16 gg bb;rintro i1 k1 E1 m1 ⟨i,ls,c,w0,F1,fp1,S1,C1,rfl,hil,hls,hlk,e35,e36,e37,e2,e5,e8,b0,b9,b16,ck,gg,bb⟩ _;refine pO fun _ z=>?_;simp only [go_sem,e36,e37];apply z;refine aF ?_;cases ls with
  | nil=>
    have hi2:i=2:=by simpa using hil
    subst hi2;refine iF false (by simp only [go_sem,↓reduceIte];rfl) ?_;simp only [↓reduceIte,yI];refine dQ ?_
    try simp only [seval,bZ,bR,aK,bZ,bR]
    obtain rfl:=bO hlk;clear hil hls;refine aF (pO fun _ z=>?_);simp only [go_sem,seval,zM,qU,sY,e5,b9];apply z;refine bM ?_
    refine kX (fun k E' m'=>∃(v:Nat) (rest:List aB) (w1:aI) (F fp S C:V),k=rest.length/\p.1.aM.drop v=rest/\v+rest.length=p.1.aM.length/\wL n p.1.aM.length c rest v w1=some w/\E' 61=.list .none (p.1.aM.map aB.C)/\E' 62=.lit (.int .i64 (p.1.aM.length:Int))/\E' 63=.lit (.int .i64 (v:Int)) ∧
     E' 2=.ptr (0::q) 0/\E' 5=.ptr (9::q) 0/\E' 8=.ptr (16::q) 0/\m'.blk (0::q)=some [.list .self []]/\m'.blk (9::q)=some (aB.C p.1)/\m'.blk (16::q)=some (oD F fp S C c w1)/\eL F fp S C m'.hp c/\m'.gl=m.gl/\m.back q m'=m.seth m'.hp) p.1.aM.length ⟨0,p.1.aM,w0,F1,fp1,S1,C1,rfl,rfl,by simp,hw,?_⟩ ?_
    ·refine ⟨?_,?_,?_,?_,?_,?_,b0,?_,b16,ck,gg,bb⟩ <;> simp only [go_sem,seval,e2,e5,e8,b9]
    clear ck e2 e5 e8 b0 b9 b16 gg bb hw;rintro i2 k2 E1 m1 ⟨v,rest,w1,F1,fp1,S1,C1,rfl,hdr,hvl,hcl,e61,e62,e63,e2,e5,e8,b0,b9,b16,ck,gg,bb⟩ _;refine pO fun _ z=>?_;simp only [go_sem,e62,e63];apply z;refine aF ?_;cases rest with
    | nil=>
      have hv0:decide ((v:Int)<(p.1.aM.length:Int))=false:=by simp at hvl;simp;omega
      refine iF false (by simp only [go_sem,↓reduceIte,hv0]) ?_;simp only [↓reduceIte,yI];refine dQ ?_
      try simp only [seval,bZ,bR,aK,bZ,bR]
      obtain rfl:=bO hcl;refine aF (pO fun _ z=>?_);simp only [go_sem,seval,zM,qU,e8,b16];apply z;refine bH h (fun c3 h=>?_) (fun c3 h=>?_)
      ·obtain rfl:=bO h;refine aF (eC [(0,0),(9,0),(1,0),(2,0),(3,0),(4,1),(5,0),(6,0),(7,0),(8,1),(10,0),(11,0)] 51 fun _ z=>?_);simp only [go_sem,seval,oU,true_and,and_true,zM,qU,Dm,Bd,EB,jC,lA,e8,e2,b0,b16,List.cons.injEq,and_false];apply z;refine aO ?_
       try simp only [aT]
       refine ⟨by simp,?_⟩;simp only [go_sem,seval,lQ,oU,true_and,qU,Dm,Bd,jC,lA,bF,dB,e2];show (M.back q m m1).seth (fun _=>none)=m;rw [bb];exact hm0
      ·obtain rfl:=bO h;refine aU ?_
       refine aF (PH (p:=16::q) b16 ck fun h3=>?_);refine aP fun _ z=>?_;simp only [go_sem,seval,lQ,oU,true_and,and_true,qU,Dm,Bd,EB,jC,lA,e8,e2,b0,List.cons.injEq];apply z;refine aO ?_;refine ⟨by simp,?_⟩;simp only [go_sem,seval,lQ,oU,true_and,qU,Dm,Bd,jC,lA,bF,e2];show (M.back q m m1).seth (fun _=>none)=m;rw [bb];exact hm0
    | cons f rest=>
      have hvb:(v:Int)<(p.1.aM.length:Int):=by simp at hvl;omega
      have hv1:decide ((v:Int)<(p.1.aM.length:Int))=true:=DU hvb
      have hlf:p.1.aM[v]? = some f:=by
       have:=congrArg List.head? hdr;simpa [Qh] using this
      have hdr2:p.1.aM.drop (v+1)=rest:=by
       have:=congrArg List.tail hdr;simpa using this
      refine iF true (by simp only [go_sem,↓reduceIte,hv1]) ?_;simp only [↓reduceIte];refine aU ?_
      refine aF (bM (pO fun _ z=>?_));simp only [go_sem,seval,lQ,oU,Ej,true_and,qU,Dm,Bd,EB,FZ,jC,lA,sY,yH,implies_true,e61,e63,hvb,hlf];apply z;refine pO fun _ z=>?_;simp only [go_sem,seval,zM,qU,e8,b16,List.cons.injEq,and_false];apply z;simp only [wL] at hcl;refine bH hcl (fun c3 hcl=>?_) (fun c3 hcl=>?_)
      ·obtain ⟨r1,hr1,hcl⟩:=aA hcl;obtain ⟨w2,hw2,hcl⟩:=aA hcl;refine uU fun hfr=>?_;refine SW_px [0,0,0,0,0,16,48,112,254,510,0,1024,4095] [0,1,2,3,4,5,6,10,11,7,8,9,12] rfl (by kernel_rfl) fun _ z=>?_;have fl7:List.filter (fun j=>!(qS [0,0,0,0,0,16,48,112,254,510,0,1024,4095] j 7)) [11,10,6,5,4,3,2,1,0]=[11,10,3,2,1,0]:=by decide
       have fl8:List.filter (fun j=>!(qS [0,0,0,0,0,16,48,112,254,510,0,1024,4095] j 8)) [11,10,3,2,1,0]=[11,10,0]:=by decide
       have fl12:List.filter (fun j=>!(qS [0,0,0,0,0,16,48,112,254,510,0,1024,4095] j 12)) [9,11,10,0]=[]:=by decide
       simp only [go_sem,seval,lQ,oU,uG,Et,true_and,and_true,zM,qU,jC,lA,sY,e5,e8,b9,fl7,List.cons.injEq,and_false,Nat.succ_ne_self];refine ⟨by omega,?_⟩;obtain ⟨fs,cs,kk⟩:=ck;have hq0:m1.hp (19::i2::33::q)=none:=hfr _ (by omega);refine SC.mono (He n c v v (List.replicate p.1.aM.length 0) r1 hr1 _ _ (16::q) F1 fp1 S1 C1 fs cs w1 (19::i2::33::q) p.1.aM.length ?_ ?_ ?_ (by simp) ?_) ?_
       ·simp only [go_sem,seval,List.cons.injEq,and_false,b16]
       ·exact kk.other (fun a b=>kk.fresh hq0 a b) fun id hne=>if_neg hne
       ·exact fun a b=>kk.fresh hq0 a b
       ·rw [xeo];refine ⟨fun r hr=>by rw [(PR.1 hr).2];rfl,.inr ⟨_,_,by rw [PQ],if_pos rfl,?_⟩⟩;rw [xed (by simp)];rfl
       ·rintro _ _ ⟨h3,rfl,rfl,kk2,hv2,hl2⟩;simp only [go_sem,seval,lQ,oU,uG,Et,true_and,and_true,zM,qU,Nat.succ_ne_self,fl8];refine ⟨e8,?_⟩;refine SC.mono (aS c w1 (!r1.1) 134 f.fR w2 hw2 _ _ _ (16::q) F1 fp1 S1 C1 ⟨by simp only [go_sem,lQ,oU],?_,⟨fs,cs,kk2⟩⟩) ?_
        ·simp only [go_sem,seval,List.cons.injEq,and_false,b16]
        rintro _ _ ⟨rfl,rfl⟩;simp only [go_sem,Nat.reduceAdd,true_and,jC,lA,fl12];apply z;simp only [aK,aQ];refine aP fun _ z=>?_;simp only [go_sem,seval,e63];apply z;refine ⟨rest.length,by simp,v+1,rest,w2,F1,fp1,S1,C1,rfl,hdr2,by simp at hvl;omega,hcl,?_⟩;refine ⟨?_,?_,?_,?_,?_,?_,?_,?_,?_,⟨fs,cs,kk2⟩,?_,?_⟩ <;> simp only [go_sem,seval,and_true,List.cons.injEq,and_false,e61,e62,e2,e5,e8,b0,b9,gg]
        ·rw [vX (by simp at hvl;omega)]
        ·rw [bF (by simp only [go_sem])];show (M.back q m (m1.set (4::i2::33::q) _)).seth h3=_;rw [bF (by simp only [go_sem]),bb];rfl
      ·refine aU ?_
       try simp only [aK,aQ]
       refine aP fun _ z=>?_;simp only [go_sem,seval,e63];apply z;refine ⟨rest.length,by simp,v+1,rest,w1,F1,fp1,S1,C1,rfl,hdr2,by simp at hvl;omega,hcl,?_⟩;refine ⟨?_,?_,?_,?_,?_,?_,?_,?_,?_,ck,?_,?_⟩ <;> simp only [go_sem,seval,List.cons.injEq,and_false,e61,e62,e2,e5,e8,b0,b9,b16,gg]
       ·rw [vX (by simp at hvl;omega)]
       ·rw [bF (by simp only [go_sem]),bb]
  | cons look ls=>
    obtain ⟨y,hy,hlk⟩:=aA hlk;obtain ⟨g,hrow,hlook⟩:=hls 0 look rfl;rw [Qk] at hrow;have hi2:(i:Int)<2:=by simp at hil;omega
    have hd2:decide ((i:Int)<2)=true:=DU hi2;refine iF true (by simp only [go_sem,↓reduceIte,hd2]) ?_;simp only [↓reduceIte];refine aU ?_
    refine aF (bM (pO fun _ z=>?_));simp only [go_sem,seval,true_and,and_true,qU,jC,lA,xeb,HT,false_implies,implies_true,e35,e37,hi2,hrow];apply z;refine pO fun _ z=>?_;simp only [go_sem,seval,zM,qU,sY,e5,b9];apply z;refine bM ?_
    refine kX (fun k E' m'=>∃(v:Nat) (rest:List aB) (c:aD) (w:aI) (F fp S C:V),k=rest.length/\p.1.aM.drop v=rest/\v+rest.length=p.1.aM.length/\rX look rest v c w=some y/\E' 10=.fn (.func g) [.ptr (16::q) 0] []/\E' 42=.list .none (p.1.aM.map aB.C)/\E' 43=.lit (.int .i64 (p.1.aM.length:Int))/\E' 44=.lit (.int .i64 (v:Int)) ∧
     E' 35=.list .exact [[V.fn (.func 27) [.ptr (16::q) 0] []],[V.fn (.func 28) [.ptr (16::q) 0] []]]/\E' 36=.lit (.int .i64 2)/\E' 37=.lit (.int .i64 (i:Int))/\E' 2=.ptr (0::q) 0/\E' 5=.ptr (9::q) 0/\E' 8=.ptr (16::q) 0/\m'.blk (0::q)=some [.list .self []]/\m'.blk (9::q)=some (aB.C p.1)/\m'.blk (16::q)=some (oD F fp S C c w)/\eL F fp S C m'.hp c/\m'.gl=m.gl/\m.back q m'=m.seth m'.hp) p.1.aM.length ⟨0,p.1.aM,c,w0,F1,fp1,S1,C1,rfl,rfl,by simp,hy,?_⟩ ?_
    ·refine ⟨?_,?_,?_,?_,?_,?_,?_,?_,?_,?_,b0,?_,b16,ck,gg,bb⟩ <;> simp only [go_sem,seval,e2,e5,e8,e35,e36,e37,b9]
    clear ck e2 e5 e8 b0 b9 b16 gg bb;rintro i2 k2 E1 m1 ⟨v,rest,c,w0,F1,fp1,S1,C1,rfl,hdr,hvl,hcl,e10,e42,e43,e44,e35,e36,e37,e2,e5,e8,b0,b9,b16,ck,gg,bb⟩ _;refine pO fun _ z=>?_;simp only [go_sem,e43,e44];apply z;refine aF ?_;cases rest with
    | nil=>
      have hv0:decide ((v:Int)<(p.1.aM.length:Int))=false:=by simp at hvl;simp;omega
      refine iF false (by simp only [go_sem,↓reduceIte,hv0]) ?_;simp only [↓reduceIte,yI];refine dQ ?_
      try simp only [seval,bZ,bR,aK,bZ,aQ,bR]
      obtain rfl:=bO hcl;refine aP fun _ z=>?_;simp only [go_sem,seval,e37];apply z;refine ⟨ls.length,by simp,i+1,ls,c,w0,F1,fp1,S1,C1,rfl,by simp at hil;omega,?_,hlk,?_⟩
      ·intro j look2 hj;have:=hls (j+1) look2 hj
       rwa [←Nat.add_assoc,Nat.add_right_comm] at this
      ·refine ⟨?_,?_,?_,?_,?_,?_,b0,b9,b16,ck,gg,bb⟩ <;> simp only [go_sem,seval,e2,e5,e8,e35,e36]
       rw [vX (by omega)]
    | cons f rest=>
      have hvb:(v:Int)<(p.1.aM.length:Int):=by simp at hvl;omega
      have hv1:decide ((v:Int)<(p.1.aM.length:Int))=true:=DU hvb
      have hlf:p.1.aM[v]? = some f:=by
       have:=congrArg List.head? hdr;simpa [Qh] using this
      have hdr2:p.1.aM.drop (v+1)=rest:=by
       have:=congrArg List.tail hdr;simpa using this
      refine iF true (by simp only [go_sem,↓reduceIte,hv1]) ?_;simp only [↓reduceIte];refine aU ?_
      refine aF (bM (pO fun _ z=>?_));simp only [go_sem,seval,lQ,oU,Ej,true_and,qU,Dm,Bd,EB,FZ,jC,lA,sY,yH,implies_true,e42,e44,hvb,hlf];apply z;refine pO fun _ z=>?_;simp only [go_sem,seval,zM,qU,e8,b16,List.cons.injEq,and_false];apply z;simp only [rX] at hcl;refine bH hcl (fun c3 hcl=>?_) (fun c3 hcl=>?_)
      ·obtain ⟨r1,hr1,hcl⟩:=aA hcl;refine eR fun _ z=>?_;simp only [go_sem,seval,lQ,oU,uG,Et,BO,true_and,qU,Dm,Bd,jC,lA,e10];have hc:=fun m1 hb=>hlook v f c w0 r1 hr1 (15::i2::8::i1::28::q) m1 F1 fp1 S1 C1 hb;simp only [aB.C_eq] at hc;refine SC.mono (hc _ (by simp only [go_sem,seval,List.cons.injEq,and_false,b16]) (by exact ck) (by exact gg)) ?_;rintro _ _ ⟨F2,fp2,S2,C2,h2,vr2,rfl,rfl,ck2⟩;simp only [go_sem,Nat.reduceAdd];apply z;simp only [aK,aQ];refine aP fun _ z=>?_;simp only [go_sem,seval,e44];apply z;refine ⟨rest.length,by simp,v+1,rest,r1.1,r1.2,F2,fp2,S2,C2,rfl,hdr2,by simp at hvl;omega,hcl,?_⟩;refine ⟨?_,?_,?_,?_,?_,?_,?_,?_,?_,?_,?_,?_,?_,ck2,?_,?_⟩ <;> simp only [go_sem,seval,and_true,List.cons.injEq,and_false,e10,e42,e43,e35,e36,e37,e2,e5,e8,b0,b9,gg]
       ·rw [vX (by simp at hvl;omega)]
       ·rw [IQ (by simp only [go_sem]),bF (by simp only [go_sem]),bb];rfl
      ·refine aU ?_
       try simp only [aK,aQ]
       refine aP fun _ z=>?_;simp only [go_sem,seval,e44];apply z;refine ⟨rest.length,by simp,v+1,rest,c,w0,F1,fp1,S1,C1,rfl,hdr2,by simp at hvl;omega,hcl,?_⟩;refine ⟨?_,?_,?_,?_,?_,?_,?_,?_,?_,?_,?_,?_,?_,ck,?_,?_⟩ <;> simp only [go_sem,seval,List.cons.injEq,and_false,e10,e42,e43,e35,e36,e37,e2,e5,e8,b0,b9,b16,gg]
       ·rw [vX (by simp at hvl;omega)]
       ·rw [bF (by simp only [go_sem]),bb]
end Go.Proofs.YtncembphlfbgoaaGreatDoor.Abs
