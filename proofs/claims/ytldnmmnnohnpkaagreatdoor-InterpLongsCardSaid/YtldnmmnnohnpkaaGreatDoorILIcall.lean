/-
 A walk by hand: a call of a function, by the runner.
-/
import Derived.Test.YtldnmmnnohnpkaaGreatDoorILGIw0
import Derived.Test.YtldnmmnnohnpkaaGreatDoorILIop
namespace Go.Proofs.YtldnmmnnohnpkaaGreatDoor.Abs
set_option linter.unusedVariables false
open Go.RowKit
set_option maxRecDepth 10000
def rnC (x:zai):List V:=(zas.C x.p_)++[.lit (.int .i64 x.zdA),.lit (.int .i64 x.zcI),.lit (.int .i64 x.e_),.list .self (x.za4.map zay.C)]
def blockC (f:zai->zal->(List (List Int))->(List zaf)->Option (zai × zal × (List (List Int)))):Prop:=∀a0 a1 a2 a3 r,f a0 a1 a2 a3=some r->∀(q:Pa) (m:M) (vs:List V) (P0 P1:Pa) (z:Nat) (W A:Pa) (AS:List Pa) (LS:List Nat),vs.map V.weak1=[.ptr P0 0,.ptr P1 0,.list .none (a3.map zaf.C)]/\m.blk P0=some (rnC a0)/\m.blk P1=some (frC W A a1)/\m.ver P0 4=z+a0.za4.length/\HOk m.hp W A AS LS a1.za2 a1.zbm a2/\(P0=P1)=False/\(P1=P0)=False/\m.gl 0=.eptr [(cA zaJ.C zbx)] 0 0->SC Tryz.prog 60 vs q m (fun v m'=>v=.tup []/\m'=(m.fr P0 P1 (rnC r.1) (z+r.1.za4.length) (frC W A r.2.1) (hpU m.hp W r.2.1.za2 AS r.2.2))/\zcb a1 a2 r.2.1 r.2.2)
def callC (f:zai->zal->(List (List Int))->zaf->Option (zai × zal × (List (List Int)))):Prop:=∀a0 a1 a2 a3 r,f a0 a1 a2 a3=some r->∀(q:Pa) (m:M) (vs:List V) (P0 P1:Pa) (z:Nat) (W A:Pa) (AS:List Pa) (LS:List Nat),vs.map V.weak1=[.ptr P0 0,.ptr P1 0,.agg ((zaf.C a3))]/\m.blk P0=some (rnC a0)/\m.blk P1=some (frC W A a1)/\m.ver P0 4=z+a0.za4.length/\HOk m.hp W A AS LS a1.za2 a1.zbm a2/\(P0=P1)=False/\(P1=P0)=False/\m.gl 0=.eptr [(cA zaJ.C zbx)] 0 0->SC Tryz.prog 135 vs q m (fun v m'=>v=.tup []/\m'=(m.fr P0 P1 (rnC r.1) (z+r.1.za4.length) (frC W A r.2.1) (hpU m.hp W r.2.1.za2 AS r.2.2))/\zcb a1 a2 r.2.1 r.2.2)
theorem zpd {zmu:zai->zal->(List (List Int))->(List zaf)->Option (zai × zal × (List (List Int)))} (hrec:blockC zmu) (n:Nat):callC (zd0 zmu n):=by
 rintro a0 a1 a2 a3 r h q m vs P0 P1 z W A AS LS ⟨hv,hmP0,hmP1,hvrP0,hkF,hn01,hn10,hg⟩;refine SC.weak ?_;rw [hv];refine SC.apart hmP0 fun hpP0=>?_;refine SC.apart hmP1 fun hpP1=>?_;refine SC.freshH fun hfr=>?_;refine SC.hpq ?_;refine SC_w Tryz.func135 rfl (fun xs w=>Tryz.call135 xs w) Tryz.ntmps135 (by kernel_rfl) Tryz.results135 ?_;have hnW:¬ q <:+ W:=fun e=>by have:=hfr W e;rw [hkF.w] at this;cases this
 have hnA:¬ q <:+ A:=fun e=>by have:=hfr A e;rw [hkF.a] at this;cases this
 have hnAS:∀a ∈ AS,¬ q <:+ a:=fun a ha e=>by
  obtain ⟨i,l,h1,h2⟩:=hkF.find ha;have:=hfr a e;rw [hkF.at_ i a l h1 h2] at this;cases this
 have np0:(P0=12::10::q)=False:=eq_false fun e=>hpP0 (by rw [e];exact ⟨[12,10],rfl⟩);have np0':(12::10::q=P0)=False:=eq_false fun e=>hpP0 (by rw [←e];exact ⟨[12,10],rfl⟩);have np1:(P1=12::10::q)=False:=eq_false fun e=>hpP1 (by rw [e];exact ⟨[12,10],rfl⟩);have np1':(12::10::q=P1)=False:=eq_false fun e=>hpP1 (by rw [←e];exact ⟨[12,10],rfl⟩);have hb0:=hmP0;have hb1:=hmP1;simp only [go_sem,List.nil_append,List.cons_append,rnC] at hb0 hb1;unfold zd0 at h;obtain ⟨hlm,h⟩:=zaM h;obtain ⟨f,hf,h⟩:=bind_some h;obtain ⟨i0,i1,i2⟩:=zaw hf;obtain ⟨o,ho,h⟩:=bind_some h;obtain ⟨cr,hcr,h⟩:=bind_some h;refine zan fun K hK=>?_;simp only [go_sem,List.map_cons,List.map_nil,true_and];apply hK;refine zah ?_;refine zjQ [0,1,3,7,15,0,32,127,255,511,1023] 9 [] rfl (by kernel_rfl) fun K hK=>?_;rw [show List.range 9=[0,1,2,3,4,5,6,7,8] from rfl];simp only [go_sem,seval,List.map_cons,List.map_nil,Option.map_some,List.nil_append,List.append_nil,true_and,List.drop_succ_cons,List.drop_zero,List.take_succ_cons,List.take_zero,List.length_cons,List.length_nil,List.length_map,List.getElem?_map,implies_true,pz2 hpP0,hb0,i0,i1,i2];refine SC.mono (zoO ho _ _ _ AS LS (by rw [hkF.len]) (by rw [hkF.ls,List.length_map]) (by simp only [go_sem,List.map_cons,List.map_nil,zaI.C_eq])) ?_;rintro _ _ ⟨AS2,h',rfl,rfl,hO⟩;simp only [go_sem,seval,true_and,List.drop_succ_cons,List.drop_zero];apply hK;simp only [zaa];have hnq:∀ {i:Pa},¬ q <:+ i->¬ (10::q) <:+ i:=fun hi e=>hi ((List.suffix_cons _ _).trans e);have kB:=zmQ.hB (ws:=a1.za2) (rs:=a1.zbm) (hs:=a2) hkF (fun a ha=>hnq (hnAS a ha)) hO;have kA:HOk h' W A AS LS a1.za2 a1.zbm a2:=hkF.frame (hO.out _ (hnq hnW)) (hO.out _ (hnq hnA)) fun a ha=>hO.out _ (hnq (hnAS a ha))
 have hu2:∀a ∈ AS2,q <:+ a:=fun a ha=>by
  obtain ⟨j,i,rfl⟩:=hO.un a ha;exact ⟨[j,i,21,10],rfl⟩
 have hfo:o.1.f_=f:=by
  unfold zkB at ho;obtain ⟨_,ho⟩:=zaM ho;obtain ⟨_,_,ho⟩:=bind_some ho;obtain rfl:=zag ho;rfl
 refine zah ?_;refine zan fun K hK=>?_;simp only [go_sem,seval,List.drop_succ_cons,List.drop_zero,List.length_map];apply hK;refine zaG ?_
 refine zkL (fun c E' m'=>∃(l:List zae) (v:Nat) (rn:zai) (to:zal),c=l.length/\a3.zax.drop v=l/\v<=a3.zax.length/\zjP n a1 a2 o.2 l v rn to=some cr/\to.f_=f /\ 
  E' 0=.ptr P0 0/\E' 1=.ptr P1 0/\E' 5=.ptr (0::q) 0/\E' 6=.ptr (12::10::q) 0/\E' 21=.list .none (a3.zax.map zae.C)/\E' 22=.lit (.int .i64 (a3.zax.length:Int))/\E' 23=.lit (.int .i64 (v:Int)) /\ 
  m'.blk P0=some (rnC rn)/\m'.ver P0 4=z+rn.za4.length/\m'.blk P1=some (frC W A a1)/\m'.blk (0::q)=some (zaf.C a3)/\m'.blk (12::10::q)=some (frC (6::10::q) (10::10::q) to)/\m'.gl=m.gl/\m.back q m'=(m.setv P0 4 (rnC rn) (z+rn.za4.length)).seth m'.hp ∧
  HOk m'.hp W A AS LS a1.za2 a1.zbm a2/\HOk m'.hp (6::10::q) (10::10::q) (AS++AS2) (LS++o.2.map List.length) to.za2 to.zbm (a2++o.2)/\∀i,¬ q <:+ i->m'.hp i=m.hp i) a3.zax.length ?_ ?_
 ·refine ⟨a3.zax,0,a0,o.1,rfl,rfl,Nat.zero_le _,hcr,hfo,?_⟩;refine ⟨?_,?_,?_,?_,?_,?_,?_,?_,?_,?_,?_,?_,?_,?_,?_,?_,fun i hi=>?_⟩
  all_goals try simp only [go_sem,seval,List.nil_append,List.cons_append,rnC,zaf.C_eq,pz2 hpP0,pz2 hpP1,np0,np1,hb0,hb1,hvrP0,zam,zcx,zak,zdN hvrP0,za0 hb0,kA,kB]
  exact hO.out i (hnq hi)
 ·rintro i c E1 m1 ⟨l,v,rn,to,rfl,hl,hvl,hca,htf,e0,e1,e5,e6,e21,e22,e23,b0,v0,b1,bs,bt,gl1,bk,kA1,kB1,ho1⟩ _;have hc0:=b0;have hc1:=b1;have hcs:=bs;have hct:=bt;simp only [go_sem,List.nil_append,List.cons_append,rnC,zaf.C_eq] at hc0 hc1 hcs hct;have gl2:m1.gl 0=_:=(congrFun gl1 _).trans hg;refine zan fun K hK=>?_;simp only [go_sem,e22,e23];apply hK;refine zah ?_;cases l with
  | nil=>
    have hvv:¬ v<a3.zax.length:=by
     have:=congrArg List.length hl;simp only [List.length_drop,List.length_nil] at this;omega
    refine zcH false (by simp only [go_sem,↓reduceIte];exact congrArg (fun b=>V.lit (.bool b)) (decide_eq_false (by omega))) ?_;simp only [↓reduceIte,Bool.false_eq_true];refine zbG ?_
    try simp only [zaS,zaK,↓reduceIte,zaa]
    rw [zjP] at hca;obtain rfl:=zag hca;simp only [Sum.elim_inr] at h;obtain ⟨b,hb,h⟩:=bind_some h;obtain ⟨e,he,h⟩:=bind_some h
    repeat refine zah ?_
    refine zao fun K hK=>?_;simp only [go_sem,seval,List.map_cons,List.map_nil,List.nil_append,List.append_nil,List.drop_succ_cons,List.drop_zero,e0,e6,hct];refine SC.mono (hrec rn to (a2++o.2) to.f_.zdB _ hb _ _ _ P0 (12::10::q) z (6::10::q) (10::10::q) (AS++AS2) (LS++o.2.map List.length) (by simp only [go_sem,List.map_cons,List.map_nil,List.nil_append,List.cons_append,and_true,rnC,np0,np0',hc0,hct,v0,kB1,gl2])) ?_;rintro _ _ ⟨rfl,rfl,kp⟩;simp only [go_sem,Nat.reduceAdd];apply hK
    repeat refine zah ?_
    refine zao fun K hK=>?_;simp only [go_sem,seval,List.map_cons,List.map_nil,List.nil_append,List.append_nil,e0];refine SC.by_ (za1 b.1 _ he _ _ _ P0 z (by simp only [go_sem,↓reduceIte,List.map_cons,List.map_nil,List.nil_append,List.cons_append,and_true,rnC])) ?_;simp only [go_sem,Nat.reduceAdd];apply hK
    have hout:∀i,¬ q <:+ i->hpU m1.hp (6::10::q) b.2.1.za2 (AS++AS2) b.2.2 i=hpU m.hp W a1.za2 AS (b.2.2.take a2.length) i:=fun i hi=>by
     rw [zoV hkF hnW hnAS (show q <:+ 6::10::q from ⟨[6,10],rfl⟩) hu2 ho1 hi,hkF.len]
    have hqP:q <:+ 12::10::q:=⟨[12,10],rfl⟩;have hkeep:zcb a1 a2 a1 (b.2.2.take a2.length):=⟨rfl,rfl,rfl,by rw [List.map_take,kp.2.2.2,List.map_append,List.take_left' (by rw [List.length_map])]⟩;have hh:ziY q m.hp (hpU m1.hp (6::10::q) b.2.1.za2 (AS++AS2) b.2.2)=hpU m.hp W a1.za2 AS (b.2.2.take a2.length):=zkG hfr hnW hnAS hout;refine zbn e (fun c2=>?_) (fun c2=>?_)
    ·rw [if_pos c2] at h;obtain rfl:=zag h;refine zau ?_
     try simp only [zat]
     refine ⟨by first | exact .inl rfl | exact .inl trivial,?_⟩;have hh:ziY q m.hp (hpU m1.hp (6::10::q) b.2.1.za2 (AS++AS2) b.2.2)=hpU m.hp W a1.za2 AS (b.2.2.take a2.length):=zkG hfr hnW hnAS hout;simp only [go_sem,List.map_nil,List.nil_append,List.cons_append,true_and,zkV hpP0 hqP,bk,hh,zeo hb1,rnC];exact hkeep
    ·rw [if_neg (by simpa using c2)] at h;refine zav ?_
     try simp only [zaa]
     repeat refine zah ?_
     refine zao fun K hK=>?_;simp only [go_sem,seval,List.drop_succ_cons,List.drop_zero,e5,pz2 hpP0,hcs];apply hK;refine zbn (a3.Var_ == -2) (fun c3=>?_) (fun c3=>?_)
     ·rw [if_pos (by simpa using c3)] at h;obtain rfl:=zag h
      repeat refine zah ?_
      refine zao fun K hK=>?_;simp only [go_sem,seval,true_and,List.drop_succ_cons,List.drop_zero,List.set_cons_zero,List.set_cons_succ,List.length_cons,List.length_nil,e1,e6,np1,np0',hn10,hc1];apply hK;refine zau ?_
      try simp only [zat]
      refine ⟨by first | exact .inl rfl | exact .inl trivial,?_⟩;simp only [go_sem,List.map_nil,List.nil_append,List.cons_append,true_and,zaz hpP1,zkV hpP0 hqP,bk,hh,zeo hb1,rnC,zkp hn10];exact zcb.res hkeep
     ·rw [if_neg (by simpa using c3)] at h;obtain ⟨p,hp,h⟩:=bind_some h;obtain rfl:=zag h;refine zav ?_
      try simp only [zaa]
      refine zaO (tbl:=[0,0,2,0,8,24,56,127]) (ord:=[(0,0),(1,0),(2,0),(3,0),(4,0),(5,0),(6,0),(7,0)]) 38 rfl (by kernel_rfl) (by kernel_rfl) fun K hK=>?_;simp only [go_sem,seval,List.map_cons,List.map_nil,List.drop_succ_cons,List.drop_zero,List.take_zero,e1,e5,e6,pz2 hpP0,np0',hcs]
      have hAS3:∀i ∈ W::A::AS,¬ q <:+ i:=fun i hi=>by
       rcases List.mem_cons.1 hi with rfl | hi
       ·exact hnW
       ·rcases List.mem_cons.1 hi with rfl | hi
        ·exact hnA
        ·exact hnAS i hi
      have k3:HOk (hpU m1.hp (6::10::q) b.2.1.za2 (AS++AS2) b.2.2) W A AS LS a1.za2 a1.zbm (b.2.2.take a2.length):=by
       have:=HOk.up (ws':=a1.za2) (hs':=b.2.2.take a2.length) hkF hkeep.2.2.2;exact this.frame (hout W hnW) (hout A hnA) fun a ha=>hout a (hnAS a ha)
      refine zaT ((zcN a1 (b.2.2.take a2.length) a3.Var_ b.2.1.zgF _ hp _ _ _ P1 W A AS LS (by simp only [go_sem,↓reduceIte,List.map_cons,List.map_nil,List.nil_append,List.append_nil,and_true,np1,hn10,hc1,k3])).mono fun _ _ h=>⟨h.1,h.2.1⟩) rfl ?_;simp only [go_sem];apply hK;simp only [reduceCtorEq];refine ⟨by first | exact .inr rfl | exact .inr trivial,?_⟩
      have kp2:zcb a1 (b.2.2.take a2.length) p.1 p.2:=by
       unfold zcc at hp
       split at hp
       ·obtain ⟨_,_,hp⟩:=bind_some hp;obtain rfl:=zag hp;exact zcb.setW zcb.refl
       ·obtain rfl:=zag hp;exact zcb.refl
      have hh2:ziY q m.hp (hpU (hpU m1.hp (6::10::q) b.2.1.za2 (AS++AS2) b.2.2) W p.1.za2 AS p.2)=hpU m.hp W p.1.za2 AS p.2:=zkG hfr hnW hnAS fun i hi=>by
       show (if i=W then _ else if i ∈ AS then _ else hpU m1.hp _ _ _ _ i)=if i=W then _ else if i ∈ AS then _ else m.hp i
       by_cases e1:i=W
       ·rw [if_pos e1,if_pos e1]
       ·rw [if_neg e1,if_neg e1]
        by_cases e2:i ∈ AS
        ·rw [if_pos e2,if_pos e2]
        ·rw [if_neg e2,if_neg e2,hout i hi];show (if i=W then _ else if i ∈ AS then _ else m.hp i)=_;rw [if_neg e1,if_neg e2]
      simp only [go_sem,List.map_nil,List.nil_append,List.cons_append,true_and,zaz hpP1,zcx,zkV hpP0 hqP,bk,hh2,zeo hb1,rnC,zkp hn10];exact hkeep.trans kp2
  | cons x l=>
    have hvb:v<a3.zax.length:=by
     have:=congrArg List.length hl;simp only [List.length_drop,List.length_cons] at this;omega
    have hx:a3.zax[v]? = some x:=by
     have:=congrArg List.head? hl;simpa [List.head?_drop] using this
    have hl2:a3.zax.drop (v+1)=l:=by
     have:=congrArg List.tail hl;simpa using this
    have g1:(0:Int)<=(v:Int):=Int.natCast_nonneg _;have g2:(v:Int)<(a3.zax.length:Int):=by omega
    have hw:IntKind.i64.wrap ((v:Int)+1)=((v+1:Nat):Int):=by rw [zkW (by omega) (by omega)];omega
    refine zcH true (by simp only [go_sem,↓reduceIte];exact congrArg (fun b=>V.lit (.bool b)) (decide_eq_true g2)) ?_;simp only [↓reduceIte];refine zav ?_
    try simp only [zaa]
    refine zah ?_;refine zaG ?_;refine zan fun K hK=>?_;simp only [go_sem,seval,List.map_cons,List.map_nil,Option.map_some,true_and,List.drop_zero,List.take_succ_cons,List.take_zero,List.set_cons_zero,List.set_cons_succ,List.length_cons,List.length_nil,List.length_map,List.getElem?_map,implies_true,e21,e23,g1,g2,Int.toNat_natCast,hx];apply hK;refine zah ?_;refine zan fun K hK=>?_;simp only [go_sem,seval,List.drop_succ_cons,List.drop_zero];apply hK;rw [zjP] at hca;refine zbn (x.zcK == 4) (fun c1=>?_) (fun c1=>?_)
    ·rw [if_pos (by simpa using c1)] at hca;obtain ⟨k,hk,hca⟩:=bind_some hca;obtain ⟨⟨s1,s2,s3⟩,hca⟩:=zaM hca;obtain ⟨j0,j1,j2⟩:=zaw hk;have hkl:k.toNat<a2.length:=by omega
     obtain ⟨a,d1,d2,d3,_,_⟩:=HOk.get kA1 s1 (List.getElem?_eq_getElem hkl);obtain ⟨w1,d4⟩:=zfD (f:=cRef AS LS) j2;have s4:(v:Int)<(to.zbm.length:Int):=by omega
     have s5:v+1<=to.zbm.length:=by omega
     have hal:LS.length=AS.length:=by rw [kA1.ls,List.length_map,kA1.len]
     have hset:((to.zbm.map (cRef (AS++AS2) (LS++o.2.map List.length))).set v (.vec a 1 a2[k.toNat].length))=(to.zbm.set v k).map (cRef (AS++AS2) (LS++o.2.map List.length)):=by
      rw [List.map_set,zpe (by rw [kA1.len];exact s2) hal,d1]
     refine zah ?_;refine zaO (tbl:=[0,1,3,7,0,0,32,96,224,0,512,2016,4064,8191,16383]) (ord:=[(0,0),(1,0),(2,0),(3,0),(4,0),(5,0),(6,0),(7,0),(8,0),(9,0),(10,0),(11,0),(12,0),(13,0),(14,0)]) 25 rfl (by kernel_rfl) (by kernel_rfl) fun K hK=>?_;simp only [go_sem,seval,List.map_cons,List.map_nil,true_and,List.drop_succ_cons,List.drop_zero,List.take_zero,List.length_cons,List.length_nil,List.length_map,pz2 hpP1,e1,e6,hc1,hct,kA1.a,kB1.a,j0,j1,d1,d4,g1,s4,s5,Int.toNat_natCast,hset];apply hK;simp only [zaa];refine zbG ?_
     try simp only [zaS,zaK,↓reduceIte,zaa]
     refine zao fun K hK=>?_;simp only [go_sem,seval,e23];apply hK;refine ⟨l.length,Nat.lt_succ_self _,l,v+1,rn,{ to with zbm:=to.zbm.set v k },rfl,hl2,by omega,hca,htf,?_⟩;refine ⟨?_,?_,?_,?_,?_,?_,?_,?_,?_,?_,?_,?_,?_,?_,?_,?_,fun j hj=>?_⟩
     all_goals try simp only [go_sem,seval,List.nil_append,List.cons_append,e0,e1,e5,e6,e21,e22,hw,rnC,zaf.C_eq,pz2 hpP0,pz2 hpP1,hc0,hc1,hcs,hct,v0,gl1,bk,List.length_set,zam,zcx,zfK]
     ·exact kA1.frame (if_neg fun e=>hnW (by rw [e];exact ⟨[10,10],rfl⟩)) (if_neg fun e=>hnA (by rw [e];exact ⟨[10,10],rfl⟩)) fun a ha=>if_neg fun e=>hnAS a ha (by rw [e];exact ⟨[10,10],rfl⟩)
     ·exact kB1.setRefs _
     ·show (if j=10::10::q then _ else m1.hp j)=_;rw [if_neg (fun e=>hj (by rw [e];exact ⟨[10,10],rfl⟩))];exact ho1 j hj
    ·rw [if_neg (by simpa using c1)] at hca;obtain ⟨y,hy,hca⟩:=bind_some hca;obtain ⟨e,he,hca⟩:=bind_some hca;refine zav ?_
     try simp only [zaa]
     repeat refine zah ?_
     refine zao fun K hK=>?_;simp only [go_sem,seval,List.map_cons,List.map_nil,List.nil_append,List.append_nil,true_and,List.drop_zero,List.take_succ_cons,List.take_zero,List.length_cons,List.length_nil,e0,e1];refine SC.by_ (zbI n rn a1 a2 x _ hy _ _ _ P0 P1 z W A AS LS (by simp only [go_sem,↓reduceIte,List.map_cons,List.map_nil,List.nil_append,List.cons_append,and_true,pz2 hpP0,pz2 hpP1,hc0,hc1,v0,kA1,hn01,hn10,gl2])) ?_;simp only [go_sem,seval,List.nil_append,List.cons_append];apply hK
     repeat refine zah ?_
     refine zao fun K hK=>?_;simp only [go_sem,seval,List.map_cons,List.map_nil,List.nil_append,List.append_nil,e0];refine SC.by_ (za1 y.2 _ he _ _ _ P0 z (by simp only [go_sem,↓reduceIte,List.map_cons,List.map_nil,List.nil_append,List.cons_append,and_true])) ?_;simp only [go_sem,Nat.reduceAdd];apply hK;refine zbn e (fun c2=>?_) (fun c2=>?_)
     ·rw [if_pos c2] at hca;obtain rfl:=zag hca;simp only [Sum.elim_inl] at h;obtain rfl:=zag h;refine zau ?_
      try simp only [zat,zaC]
      refine ⟨by first | exact .inl rfl | exact .inl trivial,?_⟩;simp only [go_sem,List.map_nil,true_and,and_true];have hh:ziY q m.hp m1.hp=hpU m.hp W a1.za2 AS a2:=zkG hfr hnW hnAS fun j hj=>by rw [hkF.same];exact ho1 j hj
      simp only [go_sem,List.nil_append,List.cons_append,zbK hpP0,zam,bk,hh,zeo hb1,rnC]
     ·rw [if_neg (by simpa using c2)] at hca;obtain ⟨t,ht,hca⟩:=bind_some hca;refine zav ?_
      try simp only [zaa]
      repeat refine zah ?_
      refine zca fun K hK=>?_;simp only [go_sem,seval,List.map_cons,List.map_nil,List.nil_append,List.append_nil,e6];refine SC.mono (zcN to (a2++o.2) (v:Int) y.1 _ ht _ _ _ (12::10::q) (6::10::q) (10::10::q) (AS++AS2) (LS++o.2.map List.length) (by simp only [go_sem,seval,List.map_cons,List.map_nil,and_true,np0',hct,kB1])) ?_;rintro _ _ ⟨rfl,rfl,kp⟩;simp only [go_sem,Nat.reduceAdd];apply hK;simp only [zaa,zaq];refine zao fun K hK=>?_;simp only [go_sem,seval,e23];apply hK
      have te:t.2=a2++o.2:=by
       unfold zcc at ht
       split at ht
       ·obtain ⟨_,_,ht⟩:=bind_some ht;obtain rfl:=zag ht;rfl
       ·obtain rfl:=zag ht;rfl
      rw [te] at kp;refine ⟨l.length,Nat.lt_succ_self _,l,v+1,y.2,t.1,rfl,hl2,by omega,hca,kp.1.trans htf,?_⟩
      have ho2:∀j,¬ q <:+ j->hpU m1.hp (6::10::q) t.1.za2 (AS++AS2) (a2++o.2) j=m1.hp j:=fun j hj=>by
       have:=zoV (ws:=a1.za2) (ws':=t.1.za2) (hs:=a2) (hs':=a2++o.2) (m0:=m1.hp) (h1:=m1.hp) (AS2:=AS2) (W':=6::10::q) kA1 hnW hnAS ⟨[6,10],rfl⟩ hu2 (fun _ _=>rfl) hj;rw [this,List.take_left' kA1.len.symm,kA1.same]
      refine ⟨?_,?_,?_,?_,?_,?_,?_,?_,?_,?_,?_,?_,?_,?_,?_,?_,fun j hj=>?_⟩
      all_goals try simp only [go_sem,seval,List.nil_append,List.cons_append,and_true,e0,e1,e5,e6,e21,e22,hw,rnC,zaf.C_eq,pz2 hpP0,pz2 hpP1,np0,np1,hc1,hcs,gl1,bk,hn10,zam,zcx,zbK hpP0,zox,zgW,te]
      ·exact kA1.frame (ho2 W hnW) (ho2 A hnA) fun a ha=>ho2 a (hnAS a ha)
      ·exact HOk.upk kB1 kp
      ·exact (ho2 j hj).trans (ho1 j hj)
end Go.Proofs.YtldnmmnnohnpkaaGreatDoor.Abs
