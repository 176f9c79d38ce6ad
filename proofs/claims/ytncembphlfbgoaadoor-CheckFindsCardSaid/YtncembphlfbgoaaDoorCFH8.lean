/-
 A walk by hand: Check.
-/
import Derived.Test.YtncembphlfbgoaaDoorCFGMw0
import Derived.Test.YtncembphlfbgoaaDoorCFGMx
import Derived.Test.YtncembphlfbgoaaDoorCFH5
import Derived.Test.YtncembphlfbgoaaDoorCFH7
namespace Go.Proofs.YtncembphlfbgoaaDoor.Abs
open Go.RowKit
set_option linter.unusedVariables false
set_option maxRecDepth 10000
def Ga (P0:Pa) (m:M) (g:FuncId) (look:Look):Prop:=
 ∀(i:Int) (f:aA) (c:aD) (w:aF) (r:aD × aF),look i f c w=some r->∀(q:Pa) (m1:M) (F fp S C:V),m1.blk P0=some (kT F fp S C c w)->dJ F fp S C m1.hp c->m1.gl=m.gl ->
  SC Tryd.prog g [.ptr P0 0,.lit (.int .i64 i),.agg (aA.C f)] q m1 (fun v m'=>∃(F fp S C:V) (h:Hp) (vr:Nat->Nat),v=.tup []/\m'=m1.ck P0 (kT F fp S C r.1 r.2) h vr/\dJ F fp S C h r.1)
theorem CS {q p:Pa} {m m2:M} {cs:List V} {h:Hp} {vr:Nat->Nat} (hq:(q <:+ p)=True):m.back q (m2.ck p cs h vr)=(m.back q m2).seth h:=by
 have hs:q.isSuffixOf p=true:=List.isSuffixOf_iff_suffix.2 (of_eq_true hq);refine M.ext_hp (funext fun i=>?_) (funext fun i=>?_) rfl rfl rfl
 ·show (if q.isSuffixOf i then m.blk i else if i=p then some cs else m2.blk i)=if q.isSuffixOf i then m.blk i else m2.blk i
  by_cases e:q.isSuffixOf i=true
  ·rw [if_pos e,if_pos e]
  ·rw [if_neg e,if_neg e,if_neg (by rintro rfl;exact e hs)]
 ·show (if q.isSuffixOf i then m.ver i else if i=p then vr else m2.ver i)=if q.isSuffixOf i then m.ver i else m2.ver i
  by_cases e:q.isSuffixOf i=true
  ·rw [if_pos e,if_pos e]
  ·rw [if_neg e,if_neg e,if_neg (by rintro rfl;exact e hs)]
theorem Js {h:Hp}:dJ .nilv (.lit (.pointer none)) .nilv .nilv h aD.Z:=by
 refine ⟨[],[],rfl,eP.nil h 6,fun i f v hf=>(by cases hf),eP.nil h 1,rfl,eP.nil h 1,fun i l v hl=>(by cases hl),fun i hi=>?_,?_⟩
 ·have:(-1:Int)=i:=hi;omega
 ·intro a b a' b' id hi;unfold kV at hi
  split at hi <;> first | (cases hi;done) | (simp at hi;cases hi)
def Ct (f:cD->Option (bV × Int × Int)):Prop:=∀a0 r,f a0=some r->∀(q:Pa) (m:M) (vs:List V),vs.map V.weak1=[.list .none (lN a0)]/\(m.hp=fun _=>none)/\m.gl 2=.eptr [(cA cS bT)] 0 0/\m.gl 0=.eptr [(cA aZ.C cG)] 0 0/\m.gl 1=.eptr [(cA cS eF)] 0 0/\m.gl 4=.eptr [(cA (cA cS) cT)] 0 0->SC Tryd.prog 5 vs q m (fun v m'=>v=.tup [.agg (bV.C r.1),.lit (.int .i64 r.2.1),.lit (.int .i64 r.2.2)]/\m'=m)
theorem yV (n:Nat):Ct (pS n):=by
 rintro a0 r h q m vs ⟨hv,hhp,hg0,hg2,hg3,hg6⟩;refine SC.weak ?_;rw [hv];refine SC.noheap ?_;refine eN Tryd.func5 rfl (fun xs w=>Tryd.call5 xs w) Tryd.ntmps5 (by kernel_rfl) Tryd.results5 ?_;unfold pS at h;have hm0':m=m.seth m.hp:=rfl;have hm0:m.seth (fun _=>none)=m:=M.ext_hp rfl rfl rfl rfl hhp.symm;refine aL fun _ z=>?_;simp only [go_sem,Nat.reduceAdd,List.map_cons,List.map_nil];apply z;refine aI ?_;obtain ⟨p,hp,h⟩:=aC h;refine aM fun _ z=>?_;simp only [go_sem,seval,List.map_cons,List.map_nil,List.nil_append,List.append_nil];refine SC.by_ (BJ n a0 _ hp _ _ _ (by simp only [go_sem,List.map_cons,List.map_nil,and_true,hg0,hg3,hg6])) ?_;simp only [go_sem,seval,List.map_cons,List.map_nil,true_and,List.set_cons_zero,List.set_cons_succ,List.length_cons,List.length_nil];apply z;refine aI ?_;refine aL fun _ z=>?_;simp only [go_sem,seval];apply z;refine dA (p.2.1 != (0:Int)) (fun c1=>?_) (fun c1=>?_)
 ·replace h:=bC c1 h;obtain rfl:=aJ h;refine aL fun _ z=>?_;simp only [go_sem,seval,List.map_nil,true_and,and_true,List.set_cons_zero,List.length_cons,List.length_nil];apply z;refine aU ?_
  try simp only [bE]
  refine ⟨by simp,?_⟩;simp only [go_sem,seval,List.map_cons,List.map_nil,and_true,List.drop_zero,List.take_succ_cons,List.take_zero,List.length_cons,List.length_nil,aQ,cQ,aK,hm0]
 ·replace h:=bD c1 h;obtain ⟨a,ha,h⟩:=aC h;obtain ⟨hlen,h⟩:=cK h;obtain ⟨b,hb,h⟩:=aC h;obtain ⟨w,hw,h⟩:=aC h;refine bB ?_
  try simp only [aE]
  refine aL fun _ z=>?_;simp only [go_sem,seval,List.map_cons,List.map_nil,true_and];apply z;refine pD (id:=16::q) (off:=0) (cs:=[.list .self [],.lit (.pointer none),.list .self [],.list .self [],.lit (.int .i64 0),.lit (.int .i64 0),.lit (.int .i64 0)]) (by simp only [go_sem,↓reduceIte]) rfl ?_;simp only [go_sem,List.map_cons,List.map_nil,List.set_cons_zero];refine pD (id:=16::q) (off:=2) (cs:=[.nilv,.lit (.pointer none),.list .self [],.list .self [],.lit (.int .i64 0),.lit (.int .i64 0),.lit (.int .i64 0)]) (by simp only [go_sem,↓reduceIte]) rfl ?_;simp only [go_sem,List.set_cons_zero,List.set_cons_succ];refine pD (id:=16::q) (off:=3) (cs:=[.nilv,.lit (.pointer none),.nilv,.list .self [],.lit (.int .i64 0),.lit (.int .i64 0),.lit (.int .i64 0)]) (by simp only [go_sem,↓reduceIte]) rfl ?_;simp only [go_sem,List.set_cons_zero,List.set_cons_succ];refine JK (fun E' m'=>∃F fp S C:V,E' 2=.ptr (0::q) 0/\E' 5=.ptr (9::q) 0/\E' 8=.ptr (16::q) 0/\m'.blk (0::q)=some [.list .self []]/\m'.blk (9::q)=some (aA.C p.1)/\m'.blk (16::q)=some (kT F fp S C aD.Z ⟨0,0⟩)/\dJ F fp S C m'.hp aD.Z/\m'.gl=m.gl/\m.back q m'=m.seth m'.hp) ⟨.nilv,.lit (.pointer none),.nilv,.nilv,by simp only [go_sem,seval],by simp only [go_sem,seval],by simp only [go_sem,↓reduceIte],by simp only [go_sem,seval,and_true,List.cons.injEq],by simp only [go_sem,seval,and_true,List.cons.injEq],by simp only [go_sem,↓reduceIte,aD.Z],Js,by simp only [go_sem],?_⟩ ?_
  ·simp only [go_sem,aQ,aK];exact hm0' 
  rintro E1 m1 ⟨F1,fp1,S1,C1,e2,e5,e8,b0,b9,b16,ck,gg,bb⟩;refine aL fun _ z=>?_;simp only [go_sem,seval,List.map_cons,List.map_nil,List.nil_append,List.append_nil,true_and,List.drop_zero,List.take_succ_cons,List.take_zero,List.length_cons,List.length_nil,e8,e5,b9];refine SC.mono (uQ n aD.Z ⟨0,0⟩ p.1 a ha _ _ _ (16::q) F1 fp1 S1 C1 ⟨by simp only [go_sem,List.map_cons,List.map_nil],b16,ck,by rw [gg];exact hg2⟩) ?_;rintro _ _ ⟨F2,C2,h2,vr2,rfl,rfl,ck2⟩;simp only [go_sem,Nat.reduceAdd];apply z;refine JK (fun E' m'=>∃F fp S C:V,E' 2=.ptr (0::q) 0/\E' 5=.ptr (9::q) 0/\E' 8=.ptr (16::q) 0/\m'.blk (0::q)=some [.list .self []]/\m'.blk (9::q)=some (aA.C p.1)/\m'.blk (16::q)=some (kT F fp S C a.1 a.2)/\dJ F fp S C m'.hp a.1/\m'.gl=m.gl/\m.back q m'=m.seth m'.hp) ⟨F2,fp1,S1,C2,by simp only [go_sem,seval,e2],by simp only [go_sem,seval,e5],by simp only [go_sem,seval,e8],by simp only [go_sem,seval,and_true,List.cons.injEq,b0],by simp only [go_sem,seval,and_true,List.cons.injEq,b9],by simp only [go_sem,↓reduceIte],ck2,by simp only [go_sem,gg],?_⟩ ?_
  ·rw [CS (by simp only [go_sem]),bb];rfl
  clear ck ck2 e2 e5 e8 b0 b9 b16 gg bb;rintro E1 m1 ⟨F1,fp1,S1,C1,e2,e5,e8,b0,b9,b16,ck,gg,bb⟩;refine aI ?_;refine aL fun _ z=>?_;simp only [go_sem,seval,List.map_cons,List.map_nil,true_and,and_true,List.length_cons,List.length_nil,e8];apply z
  have hH:Ga (16::q) m 11 (fun i f c w=>gY n c w i f):=fun i f c w r hr q' m1 F fp S C hb hk hg=>
   SC.mono (vO n c w i f r hr q' m1 _ (16::q) F fp S C ⟨by simp only [go_sem,List.map_cons,List.map_nil],hb,hk⟩) fun v m' ⟨fp',S',h',vr,e1,e2,e3⟩=>⟨F,fp',S',C,h',vr,e1,e2,e3⟩
  have hB:Ga (16::q) m 12 (fun i f c w=>gZ n c w i f):=fun i f c w r hr q' m1 F fp S C hb hk hg=>
   SC.mono (vT n c w i f r hr q' m1 _ (16::q) F fp S C ⟨by simp only [go_sem,List.map_cons,List.map_nil],hb,hk,by rw [hg];exact hg2⟩) fun v m' ⟨fp',S',h',vr,e1,e2,e3⟩=>⟨F,fp',S',C,h',vr,e1,e2,e3⟩
  refine bK ?_
  refine dE [] [] rfl (fun k E' m'=>∃(i:Nat) (ls:List Look) (c:aD) (w:aF) (F fp S C:V),k=ls.length/\i+ls.length=2/\(∀(j:Nat) look,ls[j]? = some look->∃g,([[V.fn (.func 11) [.ptr (16::q) 0] []],[V.fn (.func 12) [.ptr (16::q) 0] []]]:List (List V))[i+j]? = some [.fn (.func g) [.ptr (16::q) 0] []]/\Ga (16::q) m g look)/\pR p.1.aN ls c w=some b ∧
   E' 35=.list .exact [[V.fn (.func 11) [.ptr (16::q) 0] []],[V.fn (.func 12) [.ptr (16::q) 0] []]]/\E' 36=.lit (.int .i64 2)/\E' 37=.lit (.int .i64 (i:Int))/\E' 2=.ptr (0::q) 0/\E' 5=.ptr (9::q) 0/\E' 8=.ptr (16::q) 0/\m'.blk (0::q)=some [.list .self []]/\m'.blk (9::q)=some (aA.C p.1)/\m'.blk (16::q)=some (kT F fp S C c w)/\dJ F fp S C m'.hp c/\m'.gl=m.gl/\m.back q m'=m.seth m'.hp) 2 ⟨0,[_,_],a.1,a.2,F1,fp1,S1,C1,rfl,rfl,?_,hb,?_⟩ ?_
  ·intro j look hj
   match j,hj with
   | 0,hj=>exact ⟨_,rfl,by have:_=look:=Option.some.inj hj;rw [←this];exact hH⟩
   | 1,hj=>exact ⟨_,rfl,by have:_=look:=Option.some.inj hj;rw [←this];exact hB⟩
   | j+2,hj=>cases hj
  ·refine ⟨?_,?_,?_,?_,?_,?_,b0,b9,b16,ck,gg,bb⟩ <;> simp only [go_sem,seval,e2,e5,e8]
  clear ck e2 e5 e8 b0 b9 b16 gg bb;rintro i1 k1 E1 m1 ⟨i,ls,c,w0,F1,fp1,S1,C1,rfl,hil,hls,hlk,e35,e36,e37,e2,e5,e8,b0,b9,b16,ck,gg,bb⟩ _;refine aL fun _ z=>?_;simp only [go_sem,e36,e37];apply z;refine aI ?_;cases ls with
  | nil=>
    have hi2:i=2:=by simpa using hil
    subst hi2;refine oA false (by simp only [go_sem,↓reduceIte];rfl) ?_;simp only [↓reduceIte,Bool.false_eq_true];refine eG ?_
    try simp only [seval,bZ,bQ,aE,bZ,bQ]
    obtain rfl:=aJ hlk;clear hil hls;refine aI ?_;refine aL fun _ z=>?_;simp only [go_sem,seval,List.drop_succ_cons,List.drop_zero,List.length_map,e5,b9];apply z;refine bK ?_
    refine dE [] [] rfl (fun k E' m'=>∃(v:Nat) (rest:List aA) (w1:aF) (F fp S C:V),k=rest.length/\p.1.aN.drop v=rest/\v+rest.length=p.1.aN.length/\rB n p.1.aN.length c rest v w1=some w/\E' 61=.list .none (p.1.aN.map aA.C)/\E' 62=.lit (.int .i64 (p.1.aN.length:Int))/\E' 63=.lit (.int .i64 (v:Int)) ∧
     E' 2=.ptr (0::q) 0/\E' 5=.ptr (9::q) 0/\E' 8=.ptr (16::q) 0/\m'.blk (0::q)=some [.list .self []]/\m'.blk (9::q)=some (aA.C p.1)/\m'.blk (16::q)=some (kT F fp S C c w1)/\dJ F fp S C m'.hp c/\m'.gl=m.gl/\m.back q m'=m.seth m'.hp) p.1.aN.length ⟨0,p.1.aN,w0,F1,fp1,S1,C1,rfl,rfl,by simp,hw,?_⟩ ?_
    ·refine ⟨?_,?_,?_,?_,?_,?_,b0,?_,b16,ck,gg,bb⟩ <;> simp only [go_sem,seval,e2,e5,e8,b9]
    clear ck e2 e5 e8 b0 b9 b16 gg bb hw;rintro i2 k2 E1 m1 ⟨v,rest,w1,F1,fp1,S1,C1,rfl,hdr,hvl,hcl,e61,e62,e63,e2,e5,e8,b0,b9,b16,ck,gg,bb⟩ _;refine aL fun _ z=>?_;simp only [go_sem,e62,e63];apply z;refine aI ?_;cases rest with
    | nil=>
      have hv0:decide ((v:Int)<(p.1.aN.length:Int))=false:=by simp at hvl;simp;omega
      refine oA false (by simp only [go_sem,↓reduceIte,hv0]) ?_;simp only [↓reduceIte,Bool.false_eq_true];refine eG ?_
      try simp only [seval,bZ,bQ,aE,bZ,bQ]
      obtain rfl:=aJ hcl;refine aI ?_;refine aL fun _ z=>?_;simp only [go_sem,seval,List.drop_succ_cons,List.drop_zero,e8,b16];apply z;refine dA (w1.e_ != (0:Int)) (fun c3=>?_) (fun c3=>?_)
      ·replace h:=bC c3 h;obtain rfl:=aJ h;refine aI ?_;refine bW (tbl:=[0,0,2,6,14,0,32,96,224,1,543,2047]) (ord:=[(0,0),(9,0),(1,0),(2,0),(3,0),(4,1),(5,0),(6,0),(7,0),(8,1),(10,0),(11,0)]) 51 rfl (by kernel_rfl) (by kernel_rfl) fun _ z=>?_;simp only [go_sem,seval,List.map_nil,true_and,and_true,List.drop_succ_cons,List.drop_zero,List.take_succ_cons,List.take_zero,List.set_cons_zero,List.length_cons,List.length_nil,e8,e2,b0,b16,List.cons.injEq,and_false];apply z;simp only [aE];refine aU ?_
       try simp only [bE]
       refine ⟨by simp,?_⟩;simp only [go_sem,seval,List.map_cons,List.map_nil,true_and,List.drop_zero,List.take_succ_cons,List.take_zero,List.length_cons,List.length_nil,aQ,cQ,e2];show (M.back q m m1).seth (fun _=>none)=m;rw [bb];exact hm0
      ·replace h:=bD c3 h;obtain rfl:=aJ h;refine bB ?_
       try simp only [aE]
       refine aI ?_;refine HT (p:=16::q) b16 ck fun h3=>?_;refine aM fun _ z=>?_;simp only [go_sem,seval,List.map_cons,List.map_nil,true_and,and_true,List.drop_zero,List.take_succ_cons,List.take_zero,List.set_cons_zero,List.length_cons,List.length_nil,e8,e2,b0,List.cons.injEq];apply z;refine aU ?_;refine ⟨by simp,?_⟩;simp only [go_sem,seval,List.map_cons,List.map_nil,true_and,List.drop_zero,List.take_succ_cons,List.take_zero,List.length_cons,List.length_nil,aQ,e2];show (M.back q m m1).seth (fun _=>none)=m;rw [bb];exact hm0
    | cons f rest=>
      have hvb:(v:Int)<(p.1.aN.length:Int):=by simp at hvl;omega
      have hv1:decide ((v:Int)<(p.1.aN.length:Int))=true:=decide_eq_true hvb
      have hlf:p.1.aN[v]? = some f:=by
       have:=congrArg List.head? hdr;simpa [List.head?_drop] using this
      have hdr2:p.1.aN.drop (v+1)=rest:=by
       have:=congrArg List.tail hdr;simpa using this
      refine oA true (by simp only [go_sem,↓reduceIte,hv1]) ?_;simp only [↓reduceIte];refine bB ?_
      try simp only [aE]
      refine aI ?_;refine bK ?_;refine aL fun _ z=>?_;simp only [go_sem,seval,List.map_cons,List.map_nil,Option.map_some,true_and,List.drop_zero,List.take_succ_cons,List.take_zero,List.set_cons_zero,List.set_cons_succ,List.length_cons,List.length_nil,List.length_map,List.getElem?_map,implies_true,e61,e63,hvb,hlf];apply z;refine aL fun _ z=>?_;simp only [go_sem,seval,List.drop_succ_cons,List.drop_zero,e8,b16,List.cons.injEq,and_false];apply z;simp only [rB] at hcl;refine dA (w1.e_ == (0:Int)) (fun c3=>?_) (fun c3=>?_)
      ·replace hcl:=bC c3 hcl;obtain ⟨r1,hr1,hcl⟩:=aC hcl;obtain ⟨w2,hw2,hcl⟩:=aC hcl;refine rD fun hfr=>?_;refine SW_px [0,0,0,0,0,16,48,112,254,510,0,1024,4095] [0,1,2,3,4,5,6,10,11,7,8,9,12] rfl (by kernel_rfl) fun _ z=>?_;have fl7:List.filter (fun j=>!(qO [0,0,0,0,0,16,48,112,254,510,0,1024,4095] j 7)) [11,10,6,5,4,3,2,1,0]=[11,10,3,2,1,0]:=by decide
       have fl8:List.filter (fun j=>!(qO [0,0,0,0,0,16,48,112,254,510,0,1024,4095] j 8)) [11,10,3,2,1,0]=[11,10,0]:=by decide
       have fl12:List.filter (fun j=>!(qO [0,0,0,0,0,16,48,112,254,510,0,1024,4095] j 12)) [9,11,10,0]=[]:=by decide
       simp only [go_sem,seval,List.map_cons,List.map_nil,List.nil_append,List.append_nil,true_and,and_true,List.drop_succ_cons,List.drop_zero,List.length_cons,List.length_nil,List.length_map,e5,e8,b9,fl7,List.cons.injEq,and_false,Nat.succ_ne_self];refine ⟨by omega,?_⟩;obtain ⟨fs,cs,kk⟩:=ck;have hq0:m1.hp (19::i2::33::q)=none:=hfr _ (by omega);refine SC.mono (BH n c v v (List.replicate p.1.aN.length 0) r1 hr1 _ _ (16::q) F1 fp1 S1 C1 fs cs w1 (19::i2::33::q) p.1.aN.length ?_ ?_ ?_ (by simp) ?_) ?_
       ·simp only [go_sem,seval,List.cons.injEq,and_false,b16]
       ·exact kk.other (fun a b=>kk.fresh hq0 a b) fun id hne=>if_neg hne
       ·exact fun a b=>kk.fresh hq0 a b
       ·rw [List.map_replicate];refine ⟨fun r hr=>by rw [(List.mem_replicate.1 hr).2];rfl,.inr ⟨_,_,by rw [List.length_replicate],if_pos rfl,?_⟩⟩;rw [List.take_of_length_le (by simp)];rfl
       ·rintro _ _ ⟨h3,rfl,rfl,kk2,hv2,hl2⟩;simp only [go_sem,seval,List.map_cons,List.map_nil,List.nil_append,List.append_nil,true_and,and_true,List.drop_succ_cons,List.drop_zero,Nat.succ_ne_self,fl8];refine ⟨e8,?_⟩;refine SC.mono (aP c w1 (!r1.1) 134 f.eH w2 hw2 _ _ _ (16::q) F1 fp1 S1 C1 ⟨by simp only [go_sem,List.map_cons,List.map_nil],?_,⟨fs,cs,kk2⟩⟩) ?_
        ·simp only [go_sem,seval,List.cons.injEq,and_false,b16]
        rintro _ _ ⟨rfl,rfl⟩;simp only [go_sem,Nat.reduceAdd,true_and,List.length_cons,List.length_nil,fl12];apply z;simp only [aE,aT];refine aM fun _ z=>?_;simp only [go_sem,seval,e63];apply z;refine ⟨rest.length,by simp,v+1,rest,w2,F1,fp1,S1,C1,rfl,hdr2,by simp at hvl;omega,hcl,?_⟩;refine ⟨?_,?_,?_,?_,?_,?_,?_,?_,?_,⟨fs,cs,kk2⟩,?_,?_⟩ <;> simp only [go_sem,seval,and_true,List.cons.injEq,and_false,e61,e62,e2,e5,e8,b0,b9,gg]
        ·rw [qR (by simp at hvl;omega)]
        ·rw [aQ (by simp only [go_sem])];show (M.back q m (m1.set (4::i2::33::q) _)).seth h3=_;rw [aQ (by simp only [go_sem]),bb];rfl
      ·replace hcl:=bD c3 hcl;refine bB ?_
       try simp only [aE,aT]
       refine aM fun _ z=>?_;simp only [go_sem,seval,e63];apply z;refine ⟨rest.length,by simp,v+1,rest,w1,F1,fp1,S1,C1,rfl,hdr2,by simp at hvl;omega,hcl,?_⟩;refine ⟨?_,?_,?_,?_,?_,?_,?_,?_,?_,ck,?_,?_⟩ <;> simp only [go_sem,seval,List.cons.injEq,and_false,e61,e62,e2,e5,e8,b0,b9,b16,gg]
       ·rw [qR (by simp at hvl;omega)]
       ·rw [aQ (by simp only [go_sem]),bb]
  | cons look ls=>
    obtain ⟨y,hy,hlk⟩:=aC hlk;obtain ⟨g,hrow,hlook⟩:=hls 0 look rfl;rw [Nat.add_zero] at hrow;have hi2:(i:Int)<2:=by simp at hil;omega
    have hd2:decide ((i:Int)<2)=true:=decide_eq_true hi2;refine oA true (by simp only [go_sem,↓reduceIte,hd2]) ?_;simp only [↓reduceIte];refine bB ?_
    try simp only [aE]
    refine aI ?_;refine bK ?_;refine aL fun _ z=>?_;simp only [go_sem,seval,true_and,and_true,List.drop_zero,List.length_cons,List.length_nil,List.forall_mem_cons,List.not_mem_nil,false_implies,implies_true,e35,e37,hi2,hrow];apply z;refine aL fun _ z=>?_;simp only [go_sem,seval,List.drop_succ_cons,List.drop_zero,List.length_map,e5,b9];apply z;refine bK ?_
    refine dE [] [] rfl (fun k E' m'=>∃(v:Nat) (rest:List aA) (c:aD) (w:aF) (F fp S C:V),k=rest.length/\p.1.aN.drop v=rest/\v+rest.length=p.1.aN.length/\nI look rest v c w=some y/\E' 10=.fn (.func g) [.ptr (16::q) 0] []/\E' 42=.list .none (p.1.aN.map aA.C)/\E' 43=.lit (.int .i64 (p.1.aN.length:Int))/\E' 44=.lit (.int .i64 (v:Int)) ∧
     E' 35=.list .exact [[V.fn (.func 11) [.ptr (16::q) 0] []],[V.fn (.func 12) [.ptr (16::q) 0] []]]/\E' 36=.lit (.int .i64 2)/\E' 37=.lit (.int .i64 (i:Int))/\E' 2=.ptr (0::q) 0/\E' 5=.ptr (9::q) 0/\E' 8=.ptr (16::q) 0/\m'.blk (0::q)=some [.list .self []]/\m'.blk (9::q)=some (aA.C p.1)/\m'.blk (16::q)=some (kT F fp S C c w)/\dJ F fp S C m'.hp c/\m'.gl=m.gl/\m.back q m'=m.seth m'.hp) p.1.aN.length ⟨0,p.1.aN,c,w0,F1,fp1,S1,C1,rfl,rfl,by simp,hy,?_⟩ ?_
    ·refine ⟨?_,?_,?_,?_,?_,?_,?_,?_,?_,?_,b0,?_,b16,ck,gg,bb⟩ <;> simp only [go_sem,seval,e2,e5,e8,e35,e36,e37,b9]
    clear ck e2 e5 e8 b0 b9 b16 gg bb;rintro i2 k2 E1 m1 ⟨v,rest,c,w0,F1,fp1,S1,C1,rfl,hdr,hvl,hcl,e10,e42,e43,e44,e35,e36,e37,e2,e5,e8,b0,b9,b16,ck,gg,bb⟩ _;refine aL fun _ z=>?_;simp only [go_sem,e43,e44];apply z;refine aI ?_;cases rest with
    | nil=>
      have hv0:decide ((v:Int)<(p.1.aN.length:Int))=false:=by simp at hvl;simp;omega
      refine oA false (by simp only [go_sem,↓reduceIte,hv0]) ?_;simp only [↓reduceIte,Bool.false_eq_true];refine eG ?_
      try simp only [seval,bZ,bQ,aE,bZ,aT,bQ]
      obtain rfl:=aJ hcl;refine aM fun _ z=>?_;simp only [go_sem,seval,e37];apply z;refine ⟨ls.length,by simp,i+1,ls,c,w0,F1,fp1,S1,C1,rfl,by simp at hil;omega,?_,hlk,?_⟩
      ·intro j look2 hj;have:=hls (j+1) look2 hj
       rwa [←Nat.add_assoc,Nat.add_right_comm] at this
      ·refine ⟨?_,?_,?_,?_,?_,?_,b0,b9,b16,ck,gg,bb⟩ <;> simp only [go_sem,seval,e2,e5,e8,e35,e36]
       rw [qR (by omega)]
    | cons f rest=>
      have hvb:(v:Int)<(p.1.aN.length:Int):=by simp at hvl;omega
      have hv1:decide ((v:Int)<(p.1.aN.length:Int))=true:=decide_eq_true hvb
      have hlf:p.1.aN[v]? = some f:=by
       have:=congrArg List.head? hdr;simpa [List.head?_drop] using this
      have hdr2:p.1.aN.drop (v+1)=rest:=by
       have:=congrArg List.tail hdr;simpa using this
      refine oA true (by simp only [go_sem,↓reduceIte,hv1]) ?_;simp only [↓reduceIte];refine bB ?_
      try simp only [aE]
      refine aI ?_;refine bK ?_;refine aL fun _ z=>?_;simp only [go_sem,seval,List.map_cons,List.map_nil,Option.map_some,true_and,List.drop_zero,List.take_succ_cons,List.take_zero,List.set_cons_zero,List.set_cons_succ,List.length_cons,List.length_nil,List.length_map,List.getElem?_map,implies_true,e42,e44,hvb,hlf];apply z;refine aL fun _ z=>?_;simp only [go_sem,seval,List.drop_succ_cons,List.drop_zero,e8,b16,List.cons.injEq,and_false];apply z;simp only [nI] at hcl;refine dA (w0.e_ == (0:Int)) (fun c3=>?_) (fun c3=>?_)
      ·replace hcl:=bC c3 hcl;obtain ⟨r1,hr1,hcl⟩:=aC hcl;refine gF fun _ z=>?_;simp only [go_sem,seval,List.map_cons,List.map_nil,List.nil_append,List.append_nil,List.cons_append,true_and,List.drop_zero,List.take_succ_cons,List.take_zero,List.length_cons,List.length_nil,e10];have hc:=fun m1 hb=>hlook v f c w0 r1 hr1 (15::i2::8::i1::28::q) m1 F1 fp1 S1 C1 hb;simp only [aA.C_eq] at hc;refine SC.mono (hc _ (by simp only [go_sem,seval,List.cons.injEq,and_false,b16]) (by exact ck) (by exact gg)) ?_;rintro _ _ ⟨F2,fp2,S2,C2,h2,vr2,rfl,rfl,ck2⟩;simp only [go_sem,Nat.reduceAdd];apply z;simp only [aE,aT];refine aM fun _ z=>?_;simp only [go_sem,seval,e44];apply z;refine ⟨rest.length,by simp,v+1,rest,r1.1,r1.2,F2,fp2,S2,C2,rfl,hdr2,by simp at hvl;omega,hcl,?_⟩;refine ⟨?_,?_,?_,?_,?_,?_,?_,?_,?_,?_,?_,?_,?_,ck2,?_,?_⟩ <;> simp only [go_sem,seval,and_true,List.cons.injEq,and_false,e10,e42,e43,e35,e36,e37,e2,e5,e8,b0,b9,gg]
       ·rw [qR (by simp at hvl;omega)]
       ·rw [CS (by simp only [go_sem]),aQ (by simp only [go_sem]),bb];rfl
      ·replace hcl:=bD c3 hcl;refine bB ?_
       try simp only [aE,aT]
       refine aM fun _ z=>?_;simp only [go_sem,seval,e44];apply z;refine ⟨rest.length,by simp,v+1,rest,c,w0,F1,fp1,S1,C1,rfl,hdr2,by simp at hvl;omega,hcl,?_⟩;refine ⟨?_,?_,?_,?_,?_,?_,?_,?_,?_,?_,?_,?_,?_,ck,?_,?_⟩ <;> simp only [go_sem,seval,List.cons.injEq,and_false,e10,e42,e43,e35,e36,e37,e2,e5,e8,b0,b9,b16,gg]
       ·rw [qR (by simp at hvl;omega)]
       ·rw [aQ (by simp only [go_sem]),bb]
end Go.Proofs.YtncembphlfbgoaaDoor.Abs
