import Derived.Test.YtknbgnpeiohifaaGreatDoorGGMx
import Derived.Test.YtknbgnpeiohifaaGreatDoorGH7
namespace Go.Proofs.YtknbgnpeiohifaaGreatDoor.Abs
open Go.RowKit Tryz
open IntKind (i64 u32 u64 u8)
set_option linter.all false
set_option maxRecDepth 10000
def VB (P0:Pa) (m:M) (g:FuncId) (look:Look):Prop:=
 ∀(i:Int) (f:aC) (c:aE) (w:aG) (r:aE × aG),look i f c w=some r->∀(q:Pa) (m1:M) (F fp S C:V),m1.blk P0=some (sZ F fp S C c w)->fC F fp S C m1.hp c->m1.gl=m.gl ->
  SC prog g [.ptr P0 0,.li i,.agg (aC.C f)] q m1 (λv m'=>∃(F fp S C:V) (h:Hp) (vr:Nat->Nat),v=.tup []/\m'=m1.ck P0 (sZ F fp S C r.1 r.2) h vr/\fC F fp S C h r.1)
theorem QS {q p:Pa} {m m2:M} {cs:List V} {h:Hp} {vr:Nat->Nat} (hq:(q <:+ p)=True):m.back q (m2.ck p cs h vr)=(m.back q m2).seth h:=by
 have hs:q.isSuffixOf p=true:=Px.2 (of_eq_true hq);refine M.ext_hp (funext λi=>?_) (funext λi=>?_) rfl rfl rfl
 ·show (if q.isSuffixOf i then m.blk i else if i=p then some cs else m2.blk i)=if q.isSuffixOf i then m.blk i else m2.blk i
  by_cases e:q.isSuffixOf i=true
  ·rw [cX e,cX e]
  ·rw [cE e,cE e,cE (by rintro rfl;exact e hs)]
 ·show (if q.isSuffixOf i then m.ver i else if i=p then vr else m2.ver i)=if q.isSuffixOf i then m.ver i else m2.ver i
  by_cases e:q.isSuffixOf i=true
  ·rw [cX e,cX e]
  ·rw [cE e,cE e,cE (by rintro rfl;exact e hs)]
theorem zaQ {h:Hp}:fC .nilv (.lit (.pointer none)) .nilv .nilv h aE.Z:=by
 refine ⟨[],[],rfl,iP.nil h 6,λi f v hf=>(by cases hf),iP.nil h 1,rfl,iP.nil h 1,λi l v hl=>(by cases hl),λi hi=>?_,?_⟩
 ·have:(-1:Int)=i:=hi;omega
 ·intro a b a' b' id hi;unfold rO at hi
  split at hi <;> first | (cases hi;done) | (simp at hi;cases hi)
def KJ (f:cB->Option (bM × Int × Int)):Prop:=∀a0 r,f a0=some r->∀(q:Pa) (m:M) (vs:List V),vs.map V.weak1=[.list .none (sH a0)]/\(m.hp=λ_=>none)/\m.gl 3=.eptr [(cA cS cL)] 0 0/\m.gl 0=.eptr [(cA bK.C cV)] 0 0/\m.gl 2=.eptr [(cA cS gL)] 0 0/\m.gl 8=.eptr [(cA (cA cS) dH)] 0 0->SC prog 9 vs q m (λv m'=>v=.tup [.agg (bM.C r.1),.li r.2.1,.li r.2.2]/\m'=m)
theorem Pm (n:Nat):KJ (Ay n):=by
 rintro a0 r h q m vs ⟨hv,hhp,hg0,hg2,hg3,hg6⟩;refine SC.wv hv ?_;refine SC.noheap ?_;refine wG func9 call9 ntmps9 results9 ?_;unfold Ay at h;have hm0':m=m.seth m.hp:=rfl;have hm0:m.seth (λ_=>none)=m:=M.ext_hp rfl rfl rfl rfl hhp.symm;refine Bp λ_ z=>?_;simp only [go_sem,Nat.reduceAdd,yV,Dh];apply z;refine aR ?_;obtain ⟨p,hp,h⟩:=aH h;refine dL λ_ z=>?_;simp only [go_sem,seval,yV,Dh,AE,Fu];refine SC.by_ (Oz n a0 _ hp _ _ _ (by simp only [go_sem,yV,Dh,and_true,hg0,hg3,hg6])) ?_;simp only [go_sem,seval,yV,Dh,true_and,Pw,SD,qB,sY];apply z;refine aR (Bp λ_ z=>?_);simp only [go_sem,seval];apply z;refine gD h (λc1 h=>?_) (λc1 h=>?_)
 ·obtain rfl:=bS h;refine Bp λ_ z=>?_;simp only [go_sem,seval,Dh,true_and,and_true,Pw,qB,sY];apply z;refine dI ?_
  try simp only [eN]
  refine ⟨zd,?_⟩;simp only [go_sem,seval,yV,Dh,and_true,DH,SE,Uk,qB,sY,cJ,eR,cN,hm0]
 ·obtain ⟨a,ha,h⟩:=aH h;obtain ⟨hlen,h⟩:=cQ h;obtain ⟨b,hb,h⟩:=aH h;obtain ⟨w,hw,h⟩:=aH h;refine dA ?_
  refine Bp λ_ z=>?_;simp only [go_sem,seval,yV,Dh,true_and];apply z;refine zZ (id:=16::q) (off:=0) (cs:=[.list .self [],.lit (.pointer none),.list .self [],.list .self [],.li 0,.li 0,.li 0]) (by simp only [go_sem,↓reduceIte]) rfl ?_;simp only [go_sem,yV,Dh,Pw];refine zZ (id:=16::q) (off:=2) (cs:=[.nilv,.lit (.pointer none),.list .self [],.list .self [],.li 0,.li 0,.li 0]) (by simp only [go_sem,↓reduceIte]) rfl ?_;simp only [go_sem,Pw,SD];refine zZ (id:=16::q) (off:=3) (cs:=[.nilv,.lit (.pointer none),.nilv,.list .self [],.li 0,.li 0,.li 0]) (by simp only [go_sem,↓reduceIte]) rfl ?_;simp only [go_sem,Pw,SD];refine zbe (λE' m'=>∃F fp S C:V,E' 2=.ptr (0::q) 0/\E' 5=.ptr (9::q) 0/\E' 8=.ptr (16::q) 0/\m'.blk (0::q)=some [.list .self []]/\m'.blk (9::q)=some (aC.C p.1)/\m'.blk (16::q)=some (sZ F fp S C aE.Z ⟨0,0⟩)/\fC F fp S C m'.hp aE.Z/\m'.gl=m.gl/\m.back q m'=m.seth m'.hp) ⟨.nilv,.lit (.pointer none),.nilv,.nilv,by simp only [go_sem,seval],by simp only [go_sem,seval],by simp only [go_sem,↓reduceIte],by simp only [go_sem,seval,and_true,List.cons.injEq],by simp only [go_sem,seval,and_true,List.cons.injEq],by simp only [go_sem,↓reduceIte,aE.Z],zaQ,by simp only [go_sem],?_⟩ ?_
  ·simp only [go_sem,cJ,cN];exact hm0' 
  rintro E1 m1 ⟨F1,fp1,S1,C1,e2,e5,e8,b0,b9,b16,ck,gg,bb⟩;refine Bp λ_ z=>?_;simp only [go_sem,seval,yV,Dh,AE,Fu,true_and,DH,SE,Uk,qB,sY,e8,e5,b9];refine SC.mono (Gh n aE.Z ⟨0,0⟩ p.1 a ha _ _ _ (16::q) F1 fp1 S1 C1 ⟨by simp only [go_sem,yV,Dh],b16,ck,by rw [gg];exact hg2⟩) ?_;rintro _ _ ⟨F2,C2,h2,vr2,rfl,rfl,ck2⟩;simp only [go_sem,Nat.reduceAdd];apply z;refine zbe (λE' m'=>∃F fp S C:V,E' 2=.ptr (0::q) 0/\E' 5=.ptr (9::q) 0/\E' 8=.ptr (16::q) 0/\m'.blk (0::q)=some [.list .self []]/\m'.blk (9::q)=some (aC.C p.1)/\m'.blk (16::q)=some (sZ F fp S C a.1 a.2)/\fC F fp S C m'.hp a.1/\m'.gl=m.gl/\m.back q m'=m.seth m'.hp) ⟨F2,fp1,S1,C2,by simp only [go_sem,seval,e2],by simp only [go_sem,seval,e5],by simp only [go_sem,seval,e8],by simp only [go_sem,seval,and_true,List.cons.injEq,b0],by simp only [go_sem,seval,and_true,List.cons.injEq,b9],by simp only [go_sem,↓reduceIte],ck2,by simp only [go_sem,gg],?_⟩ ?_
  ·rw [QS (by simp only [go_sem]),bb];rfl
  clear ck ck2 e2 e5 e8 b0 b9 b16 gg bb;rintro E1 m1 ⟨F1,fp1,S1,C1,e2,e5,e8,b0,b9,b16,ck,gg,bb⟩;refine aR (Bp λ_ z=>?_);simp only [go_sem,seval,yV,Dh,true_and,and_true,qB,sY,e8];apply z
  have hH:VB (16::q) m 32 (λi f c w=>mH n c w i f):=λi f c w r hr q' m1 F fp S C hb hk hg=>
   SC.mono (Ha n c w i f r hr q' m1 _ (16::q) F fp S C ⟨by simp only [go_sem,yV,Dh],hb,hk⟩) λv m' ⟨fp',S',h',vr,e1,e2,e3⟩=>⟨F,fp',S',C,h',vr,e1,e2,e3⟩
  have hB:VB (16::q) m 33 (λi f c w=>mJ n c w i f):=λi f c w r hr q' m1 F fp S C hb hk hg=>
   SC.mono (Hg n c w i f r hr q' m1 _ (16::q) F fp S C ⟨by simp only [go_sem,yV,Dh],hb,hk,by rw [hg];exact hg2⟩) λv m' ⟨fp',S',h',vr,e1,e2,e3⟩=>⟨F,fp',S',C,h',vr,e1,e2,e3⟩
  refine dY ?_
  refine zR (λk E' m'=>∃(i:Nat) (ls:List Look) (c:aE) (w:aG) (F fp S C:V),k=ls.length/\i+ls.length=2/\(∀(j:Nat) look,ls[j]? = some look->∃g,([[V.fn (.func 32) [.ptr (16::q) 0] []],[V.fn (.func 33) [.ptr (16::q) 0] []]]:List (List V))[i+j]? = some [.fn (.func g) [.ptr (16::q) 0] []]/\VB (16::q) m g look)/\Ax p.1.aN ls c w=some b ∧
   E' 35=.list .exact [[V.fn (.func 32) [.ptr (16::q) 0] []],[V.fn (.func 33) [.ptr (16::q) 0] []]]/\E' 36=.li 2/\E' 37=.li (i:Int)/\E' 2=.ptr (0::q) 0/\E' 5=.ptr (9::q) 0/\E' 8=.ptr (16::q) 0/\m'.blk (0::q)=some [.list .self []]/\m'.blk (9::q)=some (aC.C p.1)/\m'.blk (16::q)=some (sZ F fp S C c w)/\fC F fp S C m'.hp c/\m'.gl=m.gl/\m.back q m'=m.seth m'.hp) 2 ⟨0,[_,_],a.1,a.2,F1,fp1,S1,C1,rfl,rfl,?_,hb,?_⟩ ?_
  ·intro j look hj
   match j,hj with
   | 0,hj=>exact ⟨_,rfl,by have:_=look:=Li hj;rw [←this];exact hH⟩
   | 1,hj=>exact ⟨_,rfl,by have:_=look:=Li hj;rw [←this];exact hB⟩
   | j+2,hj=>cases hj
  ·refine ⟨?_,?_,?_,?_,?_,?_,b0,b9,b16,ck,gg,bb⟩ <;> simp only [go_sem,seval,e2,e5,e8]
  clear ck e2 e5 e8 b0 b9 b16 gg bb;rintro i1 k1 E1 m1 ⟨i,ls,c,w0,F1,fp1,S1,C1,rfl,hil,hls,hlk,e35,e36,e37,e2,e5,e8,b0,b9,b16,ck,gg,bb⟩ _;refine Bp λ_ z=>?_;simp only [go_sem,e36,e37];apply z;refine aR ?_;cases ls with
  | nil=>
    have hi2:i=2:=by simpa using hil
    subst hi2;refine Br false (by simp only [go_sem,↓reduceIte];try rfl) ?_;simp only [↓reduceIte,JR];refine lM ?_
    try simp only [seval,eH,dN,aV,eH,dN]
    obtain rfl:=bS hlk;clear hil hls;refine aR (Bp λ_ z=>?_);simp only [go_sem,seval,Sr,DH,Kn,e5,b9];apply z;refine dY ?_
    refine zR (λk E' m'=>∃(v:Nat) (rest:List aC) (w1:aG) (F fp S C:V),k=rest.length/\p.1.aN.drop v=rest/\v+rest.length=p.1.aN.length/\BY n p.1.aN.length c rest v w1=some w/\E' 61=.list .none (p.1.aN.map aC.C)/\E' 62=.li (p.1.aN.length:Int)/\E' 63=.li (v:Int) ∧
     E' 2=.ptr (0::q) 0/\E' 5=.ptr (9::q) 0/\E' 8=.ptr (16::q) 0/\m'.blk (0::q)=some [.list .self []]/\m'.blk (9::q)=some (aC.C p.1)/\m'.blk (16::q)=some (sZ F fp S C c w1)/\fC F fp S C m'.hp c/\m'.gl=m.gl/\m.back q m'=m.seth m'.hp) p.1.aN.length ⟨0,p.1.aN,w0,F1,fp1,S1,C1,rfl,rfl,zd,hw,?_⟩ ?_
    ·refine ⟨?_,?_,?_,?_,?_,?_,b0,?_,b16,ck,gg,bb⟩ <;> simp only [go_sem,seval,e2,e5,e8,b9]
    clear ck e2 e5 e8 b0 b9 b16 gg bb hw;rintro i2 k2 E1 m1 ⟨v,rest,w1,F1,fp1,S1,C1,rfl,hdr,hvl,hcl,e61,e62,e63,e2,e5,e8,b0,b9,b16,ck,gg,bb⟩ _;refine Bp λ_ z=>?_;simp only [go_sem,e62,e63];apply z;refine aR ?_;cases rest with
    | nil=>
      have hv0:decide ((v:Int)<(p.1.aN.length:Int))=false:=by simp at hvl;simp;omega
      refine Br false (by simp only [go_sem,↓reduceIte,hv0]) ?_;simp only [↓reduceIte,JR];refine lM ?_
      try simp only [seval,eH,dN,aV,eH,dN]
      obtain rfl:=bS hcl;refine aR (Bp λ_ z=>?_);simp only [go_sem,seval,Sr,DH,e8,b16];apply z;refine gD h (λc3 h=>?_) (λc3 h=>?_)
      ·obtain rfl:=bS h;refine aR (jM λ_ z=>?_);simp only [go_sem,seval,Dh,true_and,and_true,Sr,DH,Pw,qB,sY,e8,e2,b0,b16,List.cons.injEq,and_false];apply z;refine dI ?_
       try simp only [eN]
       refine ⟨zd,?_⟩;simp only [go_sem,seval,yV,Dh,true_and,DH,SE,Uk,qB,sY,cJ,eR,e2];show (M.back q m m1).seth (λ_=>none)=m;rw [bb];exact hm0
      ·obtain rfl:=bS h;refine dA ?_
       refine aR (Yp (p:=16::q) b16 ck λh3=>?_);refine dL λ_ z=>?_;simp only [go_sem,seval,yV,Dh,true_and,and_true,DH,SE,Uk,Pw,qB,sY,e8,e2,b0,List.cons.injEq];apply z;refine dI ?_;refine ⟨zd,?_⟩;simp only [go_sem,seval,yV,Dh,true_and,DH,SE,Uk,qB,sY,cJ,e2];show (M.back q m m1).seth (λ_=>none)=m;rw [bb];exact hm0
    | cons f rest=>
      have hvb:(v:Int)<(p.1.aN.length:Int):=by simp at hvl;omega
      have hv1:decide ((v:Int)<(p.1.aN.length:Int))=true:=Ah hvb
      have hlf:p.1.aN[v]? = some f:=by
       have:=DI List.head? hdr;simpa [xdx] using this
      have hdr2:p.1.aN.drop (v+1)=rest:=by
       have:=DI List.tail hdr;simpa using this
      refine Br true (by simp only [go_sem,↓reduceIte,hv1]) ?_;simp only [↓reduceIte];refine dA ?_
      refine aR (dY (Bp λ_ z=>?_));simp only [go_sem,seval,yV,Dh,PJ,true_and,DH,SE,Uk,Pw,SD,qB,sY,Kn,KM,implies_true,e61,e63,hvb,hlf];apply z;refine Bp λ_ z=>?_;simp only [go_sem,seval,Sr,DH,e8,b16,List.cons.injEq,and_false];apply z;simp only [BY] at hcl;refine gD hcl (λc3 hcl=>?_) (λc3 hcl=>?_)
      ·obtain ⟨r1,hr1,hcl⟩:=aH hcl;obtain ⟨w2,hw2,hcl⟩:=aH hcl;refine Az λhfr=>?_;refine jM λ_ z=>?_;simp only [go_sem,seval,yV,Dh,AE,Fu,true_and,and_true,Sr,DH,qB,sY,Kn,e5,e8,b9,List.cons.injEq,and_false,Nat.succ_ne_self];refine ⟨zb,zb,?_⟩;obtain ⟨fs,cs,kk⟩:=ck;have hq0:m1.hp (19::i2::33::q)=none:=hfr _ zb;refine SC.mono (Ox n c v v (List.replicate p.1.aN.length 0) r1 hr1 _ _ (16::q) F1 fp1 S1 C1 fs cs w1 (19::i2::33::q) p.1.aN.length ?_ ?_ ?_ zd ?_) ?_
       ·simp only [go_sem,seval,List.cons.injEq,and_false,b16]
       ·exact kk.other (λa b=>kk.fresh hq0 a b) λid hne=>cE hne
       ·exact λa b=>kk.fresh hq0 a b
       ·rw [List.map_replicate];refine ⟨λr hr=>by rw [(xdn.1 hr).2];rfl,.inr ⟨_,_,by rw [xeb],cX rfl,?_⟩⟩;rw [xdq zd];rfl
       ·rintro _ _ ⟨h3,rfl,rfl,kk2,hv2,hl2⟩;simp only [go_sem,seval,yV,Dh,AE,Fu,true_and,and_true,Sr,DH];refine SC.mono (bN c w1 (!r1.1) 134 f.gI w2 hw2 _ _ _ (16::q) F1 fp1 S1 C1 ⟨by simp only [go_sem,yV,Dh],?_,⟨fs,cs,kk2⟩⟩) ?_
        ·simp only [go_sem,seval,List.cons.injEq,and_false,b16]
        rintro _ _ ⟨rfl,rfl⟩;simp only [go_sem,Nat.reduceAdd,true_and,qB,sY];apply z;simp only [aV,cR];refine dL λ_ z=>?_;simp only [go_sem,seval,e63];apply z;refine ⟨rest.length,zd,v+1,rest,w2,F1,fp1,S1,C1,rfl,hdr2,by simp at hvl;omega,hcl,?_⟩;refine ⟨?_,?_,?_,?_,?_,?_,?_,?_,?_,⟨fs,cs,kk2⟩,?_,?_⟩ <;> simp only [go_sem,seval,and_true,List.cons.injEq,and_false,e61,e62,e2,e5,e8,b0,b9,gg]
        ·rw [BL (by simp at hvl;omega)]
        ·rw [cJ (by simp only [go_sem])];show (M.back q m (m1.set (4::i2::33::q) _)).seth h3=_;rw [cJ (by simp only [go_sem]),bb];rfl
      ·refine dA ?_
       try simp only [aV,cR]
       refine dL λ_ z=>?_;simp only [go_sem,seval,e63];apply z;refine ⟨rest.length,zd,v+1,rest,w1,F1,fp1,S1,C1,rfl,hdr2,by simp at hvl;omega,hcl,?_⟩;refine ⟨?_,?_,?_,?_,?_,?_,?_,?_,?_,ck,?_,?_⟩ <;> simp only [go_sem,seval,List.cons.injEq,and_false,e61,e62,e2,e5,e8,b0,b9,b16,gg]
       ·rw [BL (by simp at hvl;omega)]
       ·rw [cJ (by simp only [go_sem]),bb]
  | cons look ls=>
    obtain ⟨y,hy,hlk⟩:=aH hlk;obtain ⟨g,hrow,hlook⟩:=hls 0 look rfl;rw [Qp] at hrow;have hi2:(i:Int)<2:=by simp at hil;omega
    have hd2:decide ((i:Int)<2)=true:=Ah hi2;refine Br true (by simp only [go_sem,↓reduceIte,hd2]) ?_;simp only [↓reduceIte];refine dA ?_
    refine aR (dY (Bp λ_ z=>?_));simp only [go_sem,seval,true_and,and_true,DH,qB,sY,List.forall_mem_cons,St,false_implies,implies_true,e35,e37,hi2,hrow];apply z;refine Bp λ_ z=>?_;simp only [go_sem,seval,Sr,DH,Kn,e5,b9];apply z;refine dY ?_
    refine zR (λk E' m'=>∃(v:Nat) (rest:List aC) (c:aE) (w:aG) (F fp S C:V),k=rest.length/\p.1.aN.drop v=rest/\v+rest.length=p.1.aN.length/\wV look rest v c w=some y/\E' 10=.fn (.func g) [.ptr (16::q) 0] []/\E' 42=.list .none (p.1.aN.map aC.C)/\E' 43=.li (p.1.aN.length:Int)/\E' 44=.li (v:Int) ∧
     E' 35=.list .exact [[V.fn (.func 32) [.ptr (16::q) 0] []],[V.fn (.func 33) [.ptr (16::q) 0] []]]/\E' 36=.li 2/\E' 37=.li (i:Int)/\E' 2=.ptr (0::q) 0/\E' 5=.ptr (9::q) 0/\E' 8=.ptr (16::q) 0/\m'.blk (0::q)=some [.list .self []]/\m'.blk (9::q)=some (aC.C p.1)/\m'.blk (16::q)=some (sZ F fp S C c w)/\fC F fp S C m'.hp c/\m'.gl=m.gl/\m.back q m'=m.seth m'.hp) p.1.aN.length ⟨0,p.1.aN,c,w0,F1,fp1,S1,C1,rfl,rfl,zd,hy,?_⟩ ?_
    ·refine ⟨?_,?_,?_,?_,?_,?_,?_,?_,?_,?_,b0,?_,b16,ck,gg,bb⟩ <;> simp only [go_sem,seval,e2,e5,e8,e35,e36,e37,b9]
    clear ck e2 e5 e8 b0 b9 b16 gg bb;rintro i2 k2 E1 m1 ⟨v,rest,c,w0,F1,fp1,S1,C1,rfl,hdr,hvl,hcl,e10,e42,e43,e44,e35,e36,e37,e2,e5,e8,b0,b9,b16,ck,gg,bb⟩ _;refine Bp λ_ z=>?_;simp only [go_sem,e43,e44];apply z;refine aR ?_;cases rest with
    | nil=>
      have hv0:decide ((v:Int)<(p.1.aN.length:Int))=false:=by simp at hvl;simp;omega
      refine Br false (by simp only [go_sem,↓reduceIte,hv0]) ?_;simp only [↓reduceIte,JR];refine lM ?_
      try simp only [seval,eH,dN,aV,eH,cR,dN]
      obtain rfl:=bS hcl;refine dL λ_ z=>?_;simp only [go_sem,seval,e37];apply z;refine ⟨ls.length,zd,i+1,ls,c,w0,F1,fp1,S1,C1,rfl,by simp at hil;omega,?_,hlk,?_⟩
      ·intro j look2 hj;have:=hls (j+1) look2 hj
       rwa [←xdr,Nat.add_right_comm] at this
      ·refine ⟨?_,?_,?_,?_,?_,?_,b0,b9,b16,ck,gg,bb⟩ <;> simp only [go_sem,seval,e2,e5,e8,e35,e36]
       rw [BL zb]
    | cons f rest=>
      have hvb:(v:Int)<(p.1.aN.length:Int):=by simp at hvl;omega
      have hv1:decide ((v:Int)<(p.1.aN.length:Int))=true:=Ah hvb
      have hlf:p.1.aN[v]? = some f:=by
       have:=DI List.head? hdr;simpa [xdx] using this
      have hdr2:p.1.aN.drop (v+1)=rest:=by
       have:=DI List.tail hdr;simpa using this
      refine Br true (by simp only [go_sem,↓reduceIte,hv1]) ?_;simp only [↓reduceIte];refine dA ?_
      refine aR (dY (Bp λ_ z=>?_));simp only [go_sem,seval,yV,Dh,PJ,true_and,DH,SE,Uk,Pw,SD,qB,sY,Kn,KM,implies_true,e42,e44,hvb,hlf];apply z;refine Bp λ_ z=>?_;simp only [go_sem,seval,Sr,DH,e8,b16,List.cons.injEq,and_false];apply z;simp only [wV] at hcl;refine gD hcl (λc3 hcl=>?_) (λc3 hcl=>?_)
      ·obtain ⟨r1,hr1,hcl⟩:=aH hcl;refine qC λ_ z=>?_;simp only [go_sem,seval,yV,Dh,AE,Fu,Ri,true_and,DH,SE,Uk,qB,sY,e10];have hc:=λm1 hb=>hlook v f c w0 r1 hr1 (15::i2::8::i1::28::q) m1 F1 fp1 S1 C1 hb;simp only [aC.C_eq] at hc;refine SC.mono (hc _ (by simp only [go_sem,seval,List.cons.injEq,and_false,b16]) (by exact ck) (by exact gg)) ?_;rintro _ _ ⟨F2,fp2,S2,C2,h2,vr2,rfl,rfl,ck2⟩;simp only [go_sem,Nat.reduceAdd];apply z;simp only [aV,cR];refine dL λ_ z=>?_;simp only [go_sem,seval,e44];apply z;refine ⟨rest.length,zd,v+1,rest,r1.1,r1.2,F2,fp2,S2,C2,rfl,hdr2,by simp at hvl;omega,hcl,?_⟩;refine ⟨?_,?_,?_,?_,?_,?_,?_,?_,?_,?_,?_,?_,?_,ck2,?_,?_⟩ <;> simp only [go_sem,seval,and_true,List.cons.injEq,and_false,e10,e42,e43,e35,e36,e37,e2,e5,e8,b0,b9,gg]
       ·rw [BL (by simp at hvl;omega)]
       ·rw [QS (by simp only [go_sem]),cJ (by simp only [go_sem]),bb];rfl
      ·refine dA ?_
       try simp only [aV,cR]
       refine dL λ_ z=>?_;simp only [go_sem,seval,e44];apply z;refine ⟨rest.length,zd,v+1,rest,c,w0,F1,fp1,S1,C1,rfl,hdr2,by simp at hvl;omega,hcl,?_⟩;refine ⟨?_,?_,?_,?_,?_,?_,?_,?_,?_,?_,?_,?_,?_,ck,?_,?_⟩ <;> simp only [go_sem,seval,List.cons.injEq,and_false,e10,e42,e43,e35,e36,e37,e2,e5,e8,b0,b9,b16,gg]
       ·rw [BL (by simp at hvl;omega)]
       ·rw [cJ (by simp only [go_sem]),bb]
