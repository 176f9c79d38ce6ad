import Derived.Test.YtnheknbibdgglaaGreatDoorMGMx
import Derived.Test.YtnheknbibdgglaaGreatDoorMH7
namespace Go.Proofs.YtnheknbibdgglaaGreatDoor.Abs
open Go.RowKit Tryz
open IntKind (i64 u32 u64 u8)
set_option linter.all false
set_option maxRecDepth 10000
def PL (P0:Pa) (m:M) (g:FuncId) (look:Look):Prop:=
 ∀(i:Int) (f:aB) (c:aG) (w:aH) (r:aG × aH),look i f c w=some r->∀(q:Pa) (m1:M) (F fp S C:V),m1.blk P0=some (pZ F fp S C c w)->fA F fp S C m1.hp c->m1.gl=m.gl ->
  SC prog g [.ptr P0 0,.li i,.agg (aB.C f)] q m1 (λv m'=>∃(F fp S C:V) (h:Hp) (vr:Nat->Nat),v=.tup []/\m'=m1.ck P0 (pZ F fp S C r.1 r.2) h vr/\fA F fp S C h r.1)
theorem Lu {q p:Pa} {m m2:M} {cs:List V} {h:Hp} {vr:Nat->Nat} (hq:(q <:+ p)=True):m.back q (m2.ck p cs h vr)=(m.back q m2).seth h:=by
 have hs:q.isSuffixOf p=true:=GS.2 (of_eq_true hq);refine M.ext_hp (funext λi=>?_) (funext λi=>?_) rfl rfl rfl
 ·show (if q.isSuffixOf i then m.blk i else if i=p then some cs else m2.blk i)=if q.isSuffixOf i then m.blk i else m2.blk i
  by_cases e:q.isSuffixOf i=true
  ·rw [cG e,cG e]
  ·rw [bU e,bU e,bU (by rintro rfl;exact e hs)]
 ·show (if q.isSuffixOf i then m.ver i else if i=p then vr else m2.ver i)=if q.isSuffixOf i then m.ver i else m2.ver i
  by_cases e:q.isSuffixOf i=true
  ·rw [cG e,cG e]
  ·rw [bU e,bU e,bU (by rintro rfl;exact e hs)]
theorem UZ {h:Hp}:fA .nilv (.lit (.pointer none)) .nilv .nilv h aG.Z:=by
 refine ⟨[],[],rfl,iF.nil h 6,λi f v hf=>(by cases hf),iF.nil h 1,rfl,iF.nil h 1,λi l v hl=>(by cases hl),λi hi=>?_,?_⟩
 ·have:(-1:Int)=i:=hi;omega
 ·intro a b a' b' id hi;unfold pE at hi
  split at hi <;> first | (cases hi;done) | (simp at hi;cases hi)
def KE (f:cQ->Option (aK × Int × Int)):Prop:=∀a0 r,f a0=some r->∀(q:Pa) (m:M) (vs:List V),vs.map V.weak1=[.list .none (pK a0)]/\(m.hp=λ_=>none)/\m.gl 2=.eptr [(cA cS cT)] 0 0/\m.gl 0=.eptr [(cA bK.C dD)] 0 0/\m.gl 1=.eptr [(cA cS gO)] 0 0/\m.gl 6=.eptr [(cA (cA cS) dM)] 0 0->SC prog 12 vs q m (λv m'=>v=.tup [.agg (aK.C r.1),.li r.2.1,.li r.2.2]/\m'=m)
theorem FA (n:Nat):KE (wJ n):=by
 rintro a0 r h q m vs ⟨hv,hhp,hg0,hg2,hg3,hg6⟩;refine SC.wv hv ?_;refine SC.noheap ?_;refine oE func12 call12 ntmps12 results12 ?_;unfold wJ at h;have hm0':m=m.seth m.hp:=rfl;have hm0:m.seth (λ_=>none)=m:=M.ext_hp rfl rfl rfl rfl hhp.symm;refine qT λ_ z=>?_;simp only [go_sem,Nat.reduceAdd,oC,qA];apply z;refine aN ?_;obtain ⟨p,hp,h⟩:=aD h;refine bX λ_ z=>?_;simp only [go_sem,seval,oC,qA,wN,ER];refine SC.by_ (Js n a0 _ hp _ _ _ (by simp only [go_sem,oC,qA,and_true,hg0,hg3,hg6])) ?_;simp only [go_sem,seval,oC,qA,true_and,GD,Ii,jJ,mO];apply z;refine aN (qT λ_ z=>?_);simp only [go_sem,seval];apply z;refine cY h (λc1 h=>?_) (λc1 h=>?_)
 ·obtain rfl:=aZ h;refine qT λ_ z=>?_;simp only [go_sem,seval,qA,true_and,and_true,GD,jJ,mO];apply z;refine cB ?_
  try simp only [cE]
  refine ⟨zc,?_⟩;simp only [go_sem,seval,oC,qA,and_true,sR,Gq,Gp,jJ,mO,bB,dI,bG,hm0]
 ·obtain ⟨a,ha,h⟩:=aD h;obtain ⟨hlen,h⟩:=bN h;obtain ⟨b,hb,h⟩:=aD h;obtain ⟨w,hw,h⟩:=aD h;refine bL ?_
  refine qT λ_ z=>?_;simp only [go_sem,seval,oC,qA,true_and];apply z;refine vN (id:=16::q) (off:=0) (cs:=[.list .self [],.lit (.pointer none),.list .self [],.list .self [],.li 0,.li 0,.li 0]) (by simp only [go_sem,↓reduceIte]) rfl ?_;simp only [go_sem,oC,qA,GD];refine vN (id:=16::q) (off:=2) (cs:=[.nilv,.lit (.pointer none),.list .self [],.list .self [],.li 0,.li 0,.li 0]) (by simp only [go_sem,↓reduceIte]) rfl ?_;simp only [go_sem,GD,Ii];refine vN (id:=16::q) (off:=3) (cs:=[.nilv,.lit (.pointer none),.nilv,.list .self [],.li 0,.li 0,.li 0]) (by simp only [go_sem,↓reduceIte]) rfl ?_;simp only [go_sem,GD,Ii];refine Vz (λE' m'=>∃F fp S C:V,E' 2=.ptr (0::q) 0/\E' 5=.ptr (9::q) 0/\E' 8=.ptr (16::q) 0/\m'.blk (0::q)=some [.list .self []]/\m'.blk (9::q)=some (aB.C p.1)/\m'.blk (16::q)=some (pZ F fp S C aG.Z ⟨0,0⟩)/\fA F fp S C m'.hp aG.Z/\m'.gl=m.gl/\m.back q m'=m.seth m'.hp) ⟨.nilv,.lit (.pointer none),.nilv,.nilv,by simp only [go_sem,seval],by simp only [go_sem,seval],by simp only [go_sem,↓reduceIte],by simp only [go_sem,seval,and_true,List.cons.injEq],by simp only [go_sem,seval,and_true,List.cons.injEq],by simp only [go_sem,↓reduceIte,aG.Z],UZ,by simp only [go_sem],?_⟩ ?_
  ·simp only [go_sem,bB,bG];exact hm0' 
  rintro E1 m1 ⟨F1,fp1,S1,C1,e2,e5,e8,b0,b9,b16,ck,gg,bb⟩;refine qT λ_ z=>?_;simp only [go_sem,seval,oC,qA,wN,ER,true_and,sR,Gq,Gp,jJ,mO,e8,e5,b9];refine SC.mono (CN n aG.Z ⟨0,0⟩ p.1 a ha _ _ _ (16::q) F1 fp1 S1 C1 ⟨by simp only [go_sem,oC,qA],b16,ck,by rw [gg];exact hg2⟩) ?_;rintro _ _ ⟨F2,C2,h2,vr2,rfl,rfl,ck2⟩;simp only [go_sem,Nat.reduceAdd];apply z;refine Vz (λE' m'=>∃F fp S C:V,E' 2=.ptr (0::q) 0/\E' 5=.ptr (9::q) 0/\E' 8=.ptr (16::q) 0/\m'.blk (0::q)=some [.list .self []]/\m'.blk (9::q)=some (aB.C p.1)/\m'.blk (16::q)=some (pZ F fp S C a.1 a.2)/\fA F fp S C m'.hp a.1/\m'.gl=m.gl/\m.back q m'=m.seth m'.hp) ⟨F2,fp1,S1,C2,by simp only [go_sem,seval,e2],by simp only [go_sem,seval,e5],by simp only [go_sem,seval,e8],by simp only [go_sem,seval,and_true,List.cons.injEq,b0],by simp only [go_sem,seval,and_true,List.cons.injEq,b9],by simp only [go_sem,↓reduceIte],ck2,by simp only [go_sem,gg],?_⟩ ?_
  ·rw [Lu (by simp only [go_sem]),bb];rfl
  clear ck ck2 e2 e5 e8 b0 b9 b16 gg bb;rintro E1 m1 ⟨F1,fp1,S1,C1,e2,e5,e8,b0,b9,b16,ck,gg,bb⟩;refine aN (qT λ_ z=>?_);simp only [go_sem,seval,oC,qA,true_and,and_true,jJ,mO,e8];apply z
  have hH:PL (16::q) m 27 (λi f c w=>lB n c w i f):=λi f c w r hr q' m1 F fp S C hb hk hg=>
   SC.mono (Do n c w i f r hr q' m1 _ (16::q) F fp S C ⟨by simp only [go_sem,oC,qA],hb,hk⟩) λv m' ⟨fp',S',h',vr,e1,e2,e3⟩=>⟨F,fp',S',C,h',vr,e1,e2,e3⟩
  have hB:PL (16::q) m 28 (λi f c w=>lD n c w i f):=λi f c w r hr q' m1 F fp S C hb hk hg=>
   SC.mono (Dt n c w i f r hr q' m1 _ (16::q) F fp S C ⟨by simp only [go_sem,oC,qA],hb,hk,by rw [hg];exact hg2⟩) λv m' ⟨fp',S',h',vr,e1,e2,e3⟩=>⟨F,fp',S',C,h',vr,e1,e2,e3⟩
  refine cK ?_
  refine rG (λk E' m'=>∃(i:Nat) (ls:List Look) (c:aG) (w:aH) (F fp S C:V),k=ls.length/\i+ls.length=2/\(∀(j:Nat) look,ls[j]? = some look->∃g,([[V.fn (.func 27) [.ptr (16::q) 0] []],[V.fn (.func 28) [.ptr (16::q) 0] []]]:List (List V))[i+j]? = some [.fn (.func g) [.ptr (16::q) 0] []]/\PL (16::q) m g look)/\wI p.1.aM ls c w=some b ∧
   E' 35=.list .exact [[V.fn (.func 27) [.ptr (16::q) 0] []],[V.fn (.func 28) [.ptr (16::q) 0] []]]/\E' 36=.li 2/\E' 37=.li (i:Int)/\E' 2=.ptr (0::q) 0/\E' 5=.ptr (9::q) 0/\E' 8=.ptr (16::q) 0/\m'.blk (0::q)=some [.list .self []]/\m'.blk (9::q)=some (aB.C p.1)/\m'.blk (16::q)=some (pZ F fp S C c w)/\fA F fp S C m'.hp c/\m'.gl=m.gl/\m.back q m'=m.seth m'.hp) 2 ⟨0,[_,_],a.1,a.2,F1,fp1,S1,C1,rfl,rfl,?_,hb,?_⟩ ?_
  ·intro j look hj
   match j,hj with
   | 0,hj=>exact ⟨_,rfl,by have:_=look:=jN hj;rw [←this];exact hH⟩
   | 1,hj=>exact ⟨_,rfl,by have:_=look:=jN hj;rw [←this];exact hB⟩
   | j+2,hj=>cases hj
  ·refine ⟨?_,?_,?_,?_,?_,?_,b0,b9,b16,ck,gg,bb⟩ <;> simp only [go_sem,seval,e2,e5,e8]
  clear ck e2 e5 e8 b0 b9 b16 gg bb;rintro i1 k1 E1 m1 ⟨i,ls,c,w0,F1,fp1,S1,C1,rfl,hil,hls,hlk,e35,e36,e37,e2,e5,e8,b0,b9,b16,ck,gg,bb⟩ _;refine qT λ_ z=>?_;simp only [go_sem,e36,e37];apply z;refine aN ?_;cases ls with
  | nil=>
    have hi2:i=2:=by simpa using hil
    subst hi2;refine mA false (by simp only [go_sem,↓reduceIte];try rfl) ?_;simp only [↓reduceIte,Bt];refine gE ?_
    try simp only [seval,cV,cM,aR,cV,cM]
    obtain rfl:=aZ hlk;clear hil hls;refine aN (qT λ_ z=>?_);simp only [go_sem,seval,Bu,sR,wM,e5,b9];apply z;refine cK ?_
    refine rG (λk E' m'=>∃(v:Nat) (rest:List aB) (w1:aH) (F fp S C:V),k=rest.length/\p.1.aM.drop v=rest/\v+rest.length=p.1.aM.length/\yP n p.1.aM.length c rest v w1=some w/\E' 61=.list .none (p.1.aM.map aB.C)/\E' 62=.li (p.1.aM.length:Int)/\E' 63=.li (v:Int) ∧
     E' 2=.ptr (0::q) 0/\E' 5=.ptr (9::q) 0/\E' 8=.ptr (16::q) 0/\m'.blk (0::q)=some [.list .self []]/\m'.blk (9::q)=some (aB.C p.1)/\m'.blk (16::q)=some (pZ F fp S C c w1)/\fA F fp S C m'.hp c/\m'.gl=m.gl/\m.back q m'=m.seth m'.hp) p.1.aM.length ⟨0,p.1.aM,w0,F1,fp1,S1,C1,rfl,rfl,zc,hw,?_⟩ ?_
    ·refine ⟨?_,?_,?_,?_,?_,?_,b0,?_,b16,ck,gg,bb⟩ <;> simp only [go_sem,seval,e2,e5,e8,b9]
    clear ck e2 e5 e8 b0 b9 b16 gg bb hw;rintro i2 k2 E1 m1 ⟨v,rest,w1,F1,fp1,S1,C1,rfl,hdr,hvl,hcl,e61,e62,e63,e2,e5,e8,b0,b9,b16,ck,gg,bb⟩ _;refine qT λ_ z=>?_;simp only [go_sem,e62,e63];apply z;refine aN ?_;cases rest with
    | nil=>
      have hv0:decide ((v:Int)<(p.1.aM.length:Int))=false:=by simp at hvl;simp;omega
      refine mA false (by simp only [go_sem,↓reduceIte,hv0]) ?_;simp only [↓reduceIte,Bt];refine gE ?_
      try simp only [seval,cV,cM,aR,cV,cM]
      obtain rfl:=aZ hcl;refine aN (qT λ_ z=>?_);simp only [go_sem,seval,Bu,sR,e8,b16];apply z;refine cY h (λc3 h=>?_) (λc3 h=>?_)
      ·obtain rfl:=aZ h;refine aN (eV λ_ z=>?_);simp only [go_sem,seval,qA,true_and,and_true,Bu,sR,GD,jJ,mO,e8,e2,b0,b16,List.cons.injEq,and_false];apply z;refine cB ?_
       try simp only [cE]
       refine ⟨zc,?_⟩;simp only [go_sem,seval,oC,qA,true_and,sR,Gq,Gp,jJ,mO,bB,dI,e2];show (M.back q m m1).seth (λ_=>none)=m;rw [bb];exact hm0
      ·obtain rfl:=aZ h;refine bL ?_
       refine aN (SJ (p:=16::q) b16 ck λh3=>?_);refine bX λ_ z=>?_;simp only [go_sem,seval,oC,qA,true_and,and_true,sR,Gq,Gp,GD,jJ,mO,e8,e2,b0,List.cons.injEq];apply z;refine cB ?_;refine ⟨zc,?_⟩;simp only [go_sem,seval,oC,qA,true_and,sR,Gq,Gp,jJ,mO,bB,e2];show (M.back q m m1).seth (λ_=>none)=m;rw [bb];exact hm0
    | cons f rest=>
      have hvb:(v:Int)<(p.1.aM.length:Int):=by simp at hvl;omega
      have hv1:decide ((v:Int)<(p.1.aM.length:Int))=true:=vO hvb
      have hlf:p.1.aM[v]? = some f:=by
       have:=vJ List.head? hdr;simpa [Td] using this
      have hdr2:p.1.aM.drop (v+1)=rest:=by
       have:=vJ List.tail hdr;simpa using this
      refine mA true (by simp only [go_sem,↓reduceIte,hv1]) ?_;simp only [↓reduceIte];refine bL ?_
      refine aN (cK (qT λ_ z=>?_));simp only [go_sem,seval,oC,qA,FI,true_and,sR,Gq,Gp,GD,Ii,jJ,mO,wM,AJ,implies_true,e61,e63,hvb,hlf];apply z;refine qT λ_ z=>?_;simp only [go_sem,seval,Bu,sR,e8,b16,List.cons.injEq,and_false];apply z;simp only [yP] at hcl;refine cY hcl (λc3 hcl=>?_) (λc3 hcl=>?_)
      ·obtain ⟨r1,hr1,hcl⟩:=aD hcl;obtain ⟨w2,hw2,hcl⟩:=aD hcl;refine wL λhfr=>?_;refine eV λ_ z=>?_;simp only [go_sem,seval,oC,qA,wN,ER,true_and,and_true,Bu,sR,jJ,mO,wM,e5,e8,b9,List.cons.injEq,and_false,Nat.succ_ne_self];refine ⟨za,za,?_⟩;obtain ⟨fs,cs,kk⟩:=ck;have hq0:m1.hp (19::i2::33::q)=none:=hfr _ za;refine SC.mono (Jq n c v v (List.replicate p.1.aM.length 0) r1 hr1 _ _ (16::q) F1 fp1 S1 C1 fs cs w1 (19::i2::33::q) p.1.aM.length ?_ ?_ ?_ zc ?_) ?_
       ·simp only [go_sem,seval,List.cons.injEq,and_false,b16]
       ·exact kk.other (λa b=>kk.fresh hq0 a b) λid hne=>bU hne
       ·exact λa b=>kk.fresh hq0 a b
       ·rw [xem];refine ⟨λr hr=>by rw [(PR.1 hr).2];rfl,.inr ⟨_,_,by rw [Oy],cG rfl,?_⟩⟩;rw [xdx zc];rfl
       ·rintro _ _ ⟨h3,rfl,rfl,kk2,hv2,hl2⟩;simp only [go_sem,seval,oC,qA,wN,ER,true_and,and_true,Bu,sR];refine SC.mono (bM c w1 (!r1.1) 134 f.fV w2 hw2 _ _ _ (16::q) F1 fp1 S1 C1 ⟨by simp only [go_sem,oC,qA],?_,⟨fs,cs,kk2⟩⟩) ?_
        ·simp only [go_sem,seval,List.cons.injEq,and_false,b16]
        rintro _ _ ⟨rfl,rfl⟩;simp only [go_sem,Nat.reduceAdd,true_and,jJ,mO];apply z;simp only [aR,bJ];refine bX λ_ z=>?_;simp only [go_sem,seval,e63];apply z;refine ⟨rest.length,zc,v+1,rest,w2,F1,fp1,S1,C1,rfl,hdr2,by simp at hvl;omega,hcl,?_⟩;refine ⟨?_,?_,?_,?_,?_,?_,?_,?_,?_,⟨fs,cs,kk2⟩,?_,?_⟩ <;> simp only [go_sem,seval,and_true,List.cons.injEq,and_false,e61,e62,e2,e5,e8,b0,b9,gg]
        ·rw [yC (by simp at hvl;omega)]
        ·rw [bB (by simp only [go_sem])];show (M.back q m (m1.set (4::i2::33::q) _)).seth h3=_;rw [bB (by simp only [go_sem]),bb];rfl
      ·refine bL ?_
       try simp only [aR,bJ]
       refine bX λ_ z=>?_;simp only [go_sem,seval,e63];apply z;refine ⟨rest.length,zc,v+1,rest,w1,F1,fp1,S1,C1,rfl,hdr2,by simp at hvl;omega,hcl,?_⟩;refine ⟨?_,?_,?_,?_,?_,?_,?_,?_,?_,ck,?_,?_⟩ <;> simp only [go_sem,seval,List.cons.injEq,and_false,e61,e62,e2,e5,e8,b0,b9,b16,gg]
       ·rw [yC (by simp at hvl;omega)]
       ·rw [bB (by simp only [go_sem]),bb]
  | cons look ls=>
    obtain ⟨y,hy,hlk⟩:=aD hlk;obtain ⟨g,hrow,hlook⟩:=hls 0 look rfl;rw [SU] at hrow;have hi2:(i:Int)<2:=by simp at hil;omega
    have hd2:decide ((i:Int)<2)=true:=vO hi2;refine mA true (by simp only [go_sem,↓reduceIte,hd2]) ?_;simp only [↓reduceIte];refine bL ?_
    refine aN (cK (qT λ_ z=>?_));simp only [go_sem,seval,true_and,and_true,sR,jJ,mO,xed,MR,false_implies,implies_true,e35,e37,hi2,hrow];apply z;refine qT λ_ z=>?_;simp only [go_sem,seval,Bu,sR,wM,e5,b9];apply z;refine cK ?_
    refine rG (λk E' m'=>∃(v:Nat) (rest:List aB) (c:aG) (w:aH) (F fp S C:V),k=rest.length/\p.1.aM.drop v=rest/\v+rest.length=p.1.aM.length/\tB look rest v c w=some y/\E' 10=.fn (.func g) [.ptr (16::q) 0] []/\E' 42=.list .none (p.1.aM.map aB.C)/\E' 43=.li (p.1.aM.length:Int)/\E' 44=.li (v:Int) ∧
     E' 35=.list .exact [[V.fn (.func 27) [.ptr (16::q) 0] []],[V.fn (.func 28) [.ptr (16::q) 0] []]]/\E' 36=.li 2/\E' 37=.li (i:Int)/\E' 2=.ptr (0::q) 0/\E' 5=.ptr (9::q) 0/\E' 8=.ptr (16::q) 0/\m'.blk (0::q)=some [.list .self []]/\m'.blk (9::q)=some (aB.C p.1)/\m'.blk (16::q)=some (pZ F fp S C c w)/\fA F fp S C m'.hp c/\m'.gl=m.gl/\m.back q m'=m.seth m'.hp) p.1.aM.length ⟨0,p.1.aM,c,w0,F1,fp1,S1,C1,rfl,rfl,zc,hy,?_⟩ ?_
    ·refine ⟨?_,?_,?_,?_,?_,?_,?_,?_,?_,?_,b0,?_,b16,ck,gg,bb⟩ <;> simp only [go_sem,seval,e2,e5,e8,e35,e36,e37,b9]
    clear ck e2 e5 e8 b0 b9 b16 gg bb;rintro i2 k2 E1 m1 ⟨v,rest,c,w0,F1,fp1,S1,C1,rfl,hdr,hvl,hcl,e10,e42,e43,e44,e35,e36,e37,e2,e5,e8,b0,b9,b16,ck,gg,bb⟩ _;refine qT λ_ z=>?_;simp only [go_sem,e43,e44];apply z;refine aN ?_;cases rest with
    | nil=>
      have hv0:decide ((v:Int)<(p.1.aM.length:Int))=false:=by simp at hvl;simp;omega
      refine mA false (by simp only [go_sem,↓reduceIte,hv0]) ?_;simp only [↓reduceIte,Bt];refine gE ?_
      try simp only [seval,cV,cM,aR,cV,bJ,cM]
      obtain rfl:=aZ hcl;refine bX λ_ z=>?_;simp only [go_sem,seval,e37];apply z;refine ⟨ls.length,zc,i+1,ls,c,w0,F1,fp1,S1,C1,rfl,by simp at hil;omega,?_,hlk,?_⟩
      ·intro j look2 hj;have:=hls (j+1) look2 hj
       rwa [←xee,Nat.add_right_comm] at this
      ·refine ⟨?_,?_,?_,?_,?_,?_,b0,b9,b16,ck,gg,bb⟩ <;> simp only [go_sem,seval,e2,e5,e8,e35,e36]
       rw [yC za]
    | cons f rest=>
      have hvb:(v:Int)<(p.1.aM.length:Int):=by simp at hvl;omega
      have hv1:decide ((v:Int)<(p.1.aM.length:Int))=true:=vO hvb
      have hlf:p.1.aM[v]? = some f:=by
       have:=vJ List.head? hdr;simpa [Td] using this
      have hdr2:p.1.aM.drop (v+1)=rest:=by
       have:=vJ List.tail hdr;simpa using this
      refine mA true (by simp only [go_sem,↓reduceIte,hv1]) ?_;simp only [↓reduceIte];refine bL ?_
      refine aN (cK (qT λ_ z=>?_));simp only [go_sem,seval,oC,qA,FI,true_and,sR,Gq,Gp,GD,Ii,jJ,mO,wM,AJ,implies_true,e42,e44,hvb,hlf];apply z;refine qT λ_ z=>?_;simp only [go_sem,seval,Bu,sR,e8,b16,List.cons.injEq,and_false];apply z;simp only [tB] at hcl;refine cY hcl (λc3 hcl=>?_) (λc3 hcl=>?_)
      ·obtain ⟨r1,hr1,hcl⟩:=aD hcl;refine kM λ_ z=>?_;simp only [go_sem,seval,oC,qA,wN,ER,EP,true_and,sR,Gq,Gp,jJ,mO,e10];have hc:=λm1 hb=>hlook v f c w0 r1 hr1 (15::i2::8::i1::28::q) m1 F1 fp1 S1 C1 hb;simp only [aB.C_eq] at hc;refine SC.mono (hc _ (by simp only [go_sem,seval,List.cons.injEq,and_false,b16]) (by exact ck) (by exact gg)) ?_;rintro _ _ ⟨F2,fp2,S2,C2,h2,vr2,rfl,rfl,ck2⟩;simp only [go_sem,Nat.reduceAdd];apply z;simp only [aR,bJ];refine bX λ_ z=>?_;simp only [go_sem,seval,e44];apply z;refine ⟨rest.length,zc,v+1,rest,r1.1,r1.2,F2,fp2,S2,C2,rfl,hdr2,by simp at hvl;omega,hcl,?_⟩;refine ⟨?_,?_,?_,?_,?_,?_,?_,?_,?_,?_,?_,?_,?_,ck2,?_,?_⟩ <;> simp only [go_sem,seval,and_true,List.cons.injEq,and_false,e10,e42,e43,e35,e36,e37,e2,e5,e8,b0,b9,gg]
       ·rw [yC (by simp at hvl;omega)]
       ·rw [Lu (by simp only [go_sem]),bB (by simp only [go_sem]),bb];rfl
      ·refine bL ?_
       try simp only [aR,bJ]
       refine bX λ_ z=>?_;simp only [go_sem,seval,e44];apply z;refine ⟨rest.length,zc,v+1,rest,c,w0,F1,fp1,S1,C1,rfl,hdr2,by simp at hvl;omega,hcl,?_⟩;refine ⟨?_,?_,?_,?_,?_,?_,?_,?_,?_,?_,?_,?_,?_,ck,?_,?_⟩ <;> simp only [go_sem,seval,List.cons.injEq,and_false,e10,e42,e43,e35,e36,e37,e2,e5,e8,b0,b9,b16,gg]
       ·rw [yC (by simp at hvl;omega)]
       ·rw [bB (by simp only [go_sem]),bb]
