/-
 A walk by hand: a new frame (interp.open).
-/
import Derived.Test.YtldnmmnnohnpkaaGreatDoorILGMm
import Derived.Test.YtldnmmnnohnpkaaGreatDoorILFacts
import Derived.Test.YtldnmmnnohnpkaaGreatDoorILH9
import Derived.Test.YtldnmmnnohnpkaaGreatDoorILTot
namespace Go.Proofs.YtldnmmnnohnpkaaGreatDoor.Abs
set_option linter.unusedVariables false
open Go.RowKit
set_option maxRecDepth 10000
theorem zoU {m:M} {a b:Pa} {x y:List V} (h:(a=b)=False):(m.hset a x).hset b y=(m.hset b y).hset a x:=by
 refine M.ext_hp rfl rfl rfl rfl (funext fun i=>?_);show (if i=b then some y else if i=a then some x else m.hp i)=if i=a then some x else if i=b then some y else m.hp i
 by_cases e:i=b
 ·rw [if_pos e,if_neg (fun e2=>of_eq_true (by rw [←h,←e2,←e];exact eq_self i)),if_pos e]
 ·rw [if_neg e,if_neg e]
theorem upd_comm {E:Env} {a b:Nat} {x y:V} (h:(a=b)=False):upd (upd E a x) b y=upd (upd E b y) a x:=by
 funext t
 show (if t=b then y else if t=a then x else E t)=if t=a then x else if t=b then y else E t
 by_cases e:t=b
 ·rw [if_pos e,if_neg (fun e2=>of_eq_true (by rw [←h,←e2,←e];exact eq_self t)),if_pos e]
 ·rw [if_neg e,if_neg e]
theorem znG {X:List Pa} {Y:List Nat} {a:Pa} {n:Nat} {k:Int} (h:k<(X.length:Int)) (hy:Y.length=X.length):cRef (X++[a]) (Y++[n]) k=cRef X Y k:=by
 unfold cRef
 split
 ·rfl
 ·rw [List.getD_eq_getElem?_getD,List.getD_eq_getElem?_getD,List.getD_eq_getElem?_getD,List.getD_eq_getElem?_getD,List.getElem?_append_left (by omega),List.getElem?_append_left (by omega)]
theorem zmK {X:List Pa} {Y:List Nat} {a:Pa} {n:Nat} (hy:Y.length=X.length):cRef (X++[a]) (Y++[n]) ((X.length:Nat):Int)=.vec a 1 n:=by
 unfold cRef;rw [if_neg (by omega),Int.toNat_natCast,List.getD_eq_getElem?_getD,List.getD_eq_getElem?_getD,List.getElem?_append_right (Nat.le_refl _),←hy,List.getElem?_append_right (Nat.le_refl _)];simp [hy]
structure zmQ (q:Pa) (h h':Hp) (AS:List Pa) (LS:List Nat) (AS2:List Pa) (fr:zal) (h2:List (List Int)):Prop where
 w:h' (6::q)=some (fr.za2.map cU64)
 a:h' (10::q)=some (fr.zbm.map (cRef (AS++AS2) (LS++h2.map List.length)))
 nd:AS2.Nodup
 un:∀a ∈ AS2,∃j i,a=j::i::21::q
 len:AS2.length=h2.length
 at_:∀(k:Nat) (a:Pa) (l:List Int),AS2[k]? = some a->h2[k]? = some l->h' a=some (l.map cU32)
 out:∀i,¬ q <:+ i->h' i=h i
theorem zoO {f:zaI} {b:Nat} {r:zal × List (List Int)} (h:zkB f b=some r) (q:Pa) (m:M) (vs:List V) (AS:List Pa) (LS:List Nat) (hAS:AS.length=b) (hLS:LS.length=b) (hv:vs.map V.weak1=[.agg (zaI.C f)]) :
  SC Tryz.prog 58 vs q m (fun v m'=>∃AS2 h',v=.ptr (12::q) 0/\m'=(m.set (12::q) (frC (6::q) (10::q) r.1)).seth h'/\zmQ q m.hp h' AS LS AS2 r.1 r.2):=by
 refine SC.weak ?_;rw [hv];refine SC.freshH fun hfr=>?_;refine SC_ofK (12::q) (List.suffix_cons _ _) Tryz.func58 rfl (fun xs w=>Tryz.call58 xs w) Tryz.ntmps58 (by kernel_rfl) (congrArg Array.toList Tryz.results58) ?_;unfold zkB at h;obtain ⟨⟨hp0,hp1,hvl⟩,h⟩:=zaM h;obtain ⟨o,ho,h⟩:=bind_some h;obtain rfl:=zag h;refine zan fun K hK=>?_;simp only [go_sem,Nat.reduceAdd,List.map_cons,List.map_nil,true_and];apply hK;refine zah ?_;have f0:(0:Int)<=(f.zbg.length:Int):=Int.natCast_nonneg _;have f1:(f.zbg.length:Int)<=1073741824:=by omega
 refine SW_px2 [0,0,2,6,14,0,32,96,224,511,1023,2047] [0,1,2,3,5,6,7] 4 8 [9,10,11] rfl (by kernel_rfl) fun K hK=>?_;have g1:List.filter (fun j=>!bef [0,0,2,6,14,0,32,96,224,511,1023,2047] j 4) [0,1,2,3,5,6,7].reverse=[7,6,5,0]:=by decide
 have g2:List.filter (fun j=>!bef [0,0,2,6,14,0,32,96,224,511,1023,2047] j 8) [7,6,5,0]=[0]:=by decide
 have g3:List.filter (fun j=>!bef [0,0,2,6,14,0,32,96,224,511,1023,2047] j 8) [0,1,2,3,5,6,7].reverse=[3,2,1,0]:=by decide
 have g4:List.filter (fun j=>!bef [0,0,2,6,14,0,32,96,224,511,1023,2047] j 4) [3,2,1,0]=[0]:=by decide
 have g5:List.filter (fun j=>!bef [0,0,2,6,14,0,32,96,224,511,1023,2047] j 10) [9,0]=[]:=by decide
 have hne:(10::q=6::q)=False:=by simp
 simp only [go_sem,seval,List.map_cons,List.map_nil,List.nil_append,List.cons_append,true_and,List.drop_succ_cons,List.drop_zero,List.take_succ_cons,List.take_zero,List.length_cons,List.length_nil,List.length_map,List.getElem?_cons_zero,List.getElem?_cons_succ,f0,f1,g1,g2,g3,g4,g5,zoU hne,upd_comm (show (14=10)=False by simp),Int.toNat_natCast,and_self];apply hK;simp only [zaa];refine zah ?_;refine zan fun K hK=>?_;simp only [go_sem,seval,Option.map_some,Option.map_none,true_and,and_true,List.drop_succ_cons,List.drop_zero,List.length_cons,List.length_nil,List.length_map,implies_true,hp0,hp1];apply hK;refine zaG ?_;obtain ⟨p,hp⟩:∃p:Nat,f.zbd.toNat=p:=⟨_,rfl⟩;rw [hp] at ho;simp only [hp];have hpl:p<=f.zbg.length:=by omega
 refine zkL (fun c E' m'=>∃(l:List zaD) (v:Nat) (rs:List Int) (hs2:List (List Int)) (AS2:List Pa),c=l.length/\(f.zbg.drop p).drop v=l/\v<=(f.zbg.drop p).length/\zmy p l v b rs hs2=some o/\rs.length=f.zbg.length/\(∀k ∈ rs,k<((b+hs2.length:Nat):Int)) ∧
  E' 1=.ptr (0::q) 0/\E' 3=.ptr (12::q) 0/\E' 21=.list .none ((f.zbg.drop p).map zaD.C)/\E' 22=.lit (.int .i64 ((f.zbg.drop p).length:Int))/\E' 23=.lit (.int .i64 (v:Int))/\m'.blk (0::q)=some (zaI.C f)/\m'.blk (12::q)=some (frC (6::q) (10::q) ⟨f,List.replicate f.zbg.length 0,List.replicate f.zbg.length (-1),0⟩)/\m'.ver (12::q)=m.ver (12::q)/\m'.gl=m.gl/\m.back q m'=m.seth m'.hp ∧
  zmQ q m.hp m'.hp AS LS AS2 ⟨f,List.replicate f.zbg.length 0,rs,0⟩ hs2) (f.zbg.drop p).length ?_ ?_
 ·refine ⟨f.zbg.drop p,0,List.replicate f.zbg.length (-1),[],[],rfl,rfl,Nat.zero_le _,ho,by simp,fun k hk=>by rw [(List.mem_replicate.1 hk).2];omega,?_⟩;refine ⟨?_,?_,?_,?_,?_,?_,?_,?_,?_,?_,?_⟩
  all_goals try simp only [go_sem,seval,and_true,zaI.C_eq,List.length_drop,List.length_replicate,zfK,zam,zcx,zak]
  refine ⟨?_,?_,List.nodup_nil,fun a ha=>(nomatch ha),rfl,fun k a l ha=>(nomatch ha),fun i hi=>?_⟩
  ·show (if (6::q)=10::q then _ else if 6::q=6::q then _ else _)=_;rw [if_neg (by simp),if_pos rfl,zk7,List.map_replicate];rfl
  ·show (if (10::q)=10::q then _ else _)=_;rw [if_pos rfl,zk7,List.map_replicate];rfl
  ·show (if i=10::q then _ else if i=6::q then _ else m.hp i)=_;rw [if_neg (fun e=>hi (by rw [e];exact List.suffix_cons _ _)),if_neg (fun e=>hi (by rw [e];exact List.suffix_cons _ _))]
 ·rintro i c E1 m1 ⟨l,v,rs,hs2,AS2,rfl,hl,hvl1,hop,hrs,hrk,e1,e3,e21,e22,e23,b0,b12,v12,hgl,hbk,hO⟩ _;have hwb:Tryz.prog.info? 0=Tryz.prog.info? 0:=rfl;refine zan fun K hK=>?_;simp only [go_sem,e22,e23];apply hK;refine zah ?_;cases l with
  | nil=>
    have hvv:(f.zbg.drop p).length<=v:=by
     have:=congrArg List.length hl;simp only [List.length_drop,List.length_nil] at this ⊢;omega
    refine zcH false (by simp only [go_sem,↓reduceIte];exact congrArg (fun b=>V.lit (.bool b)) (decide_eq_false (by simp only [List.length_drop] at hvv ⊢;omega))) ?_;simp only [↓reduceIte,Bool.false_eq_true];refine zbG ?_
    try simp only [zaS,zaK,↓reduceIte,zaa]
    refine zan fun K hK=>?_;simp only [go_sem,seval,e3];apply hK;refine zau ?_;refine ⟨by first | exact .inl rfl | exact .inl trivial,?_⟩;simp only [go_sem,↓reduceIte,true_and]
    injection hop with hop
    subst hop;refine ⟨AS2,m1.hp,?_,hO⟩;show _=(m.set (12::q) (frC (6::q) (10::q) (⟨f,List.replicate f.zbg.length 0,rs,0⟩:zal))).seth m1.hp
    have hc:frC (6::q) (10::q) (⟨f,List.replicate f.zbg.length 0,List.replicate f.zbg.length (-1),0⟩:zal)=frC (6::q) (10::q) ⟨f,List.replicate f.zbg.length 0,rs,0⟩:=by
     simp only [frC_eq,List.length_replicate,hrs]
    rcases backK_to (q:=q) (m:=m) b12 v12 with h1 | h1
    ·rw [h1,hbk,hc];rfl
    ·exact absurd (List.suffix_cons _ _) h1
  | cons x l=>
    have hvb:v<(f.zbg.drop p).length:=by
     have:=congrArg List.length hl;simp only [List.length_drop,List.length_cons] at this ⊢;omega
    have hx:(f.zbg.drop p)[v]? = some x:=by
     have:=congrArg List.head? hl;simpa [List.head?_drop] using this
    have hl2:(f.zbg.drop p).drop (v+1)=l:=by
     have:=congrArg List.tail hl;simpa [Nat.add_assoc] using this
    have g1:(0:Int)<=(v:Int):=Int.natCast_nonneg _;have g2:(v:Int)<((f.zbg.drop p).length:Int):=by omega
    have g3:(f.zbg.drop p)[((v:Nat):Int).toNat]? = some x:=hx;have hvd:p+v<f.zbg.length:=by rw [List.length_drop] at hvb;omega
    have hw:IntKind.i64.wrap ((v:Int)+1)=((v+1:Nat):Int):=by rw [zkW (by omega) (by omega)];omega
    refine zcH true (by simp only [go_sem,↓reduceIte];exact congrArg (fun b=>V.lit (.bool b)) (decide_eq_true g2)) ?_;simp only [↓reduceIte];refine zav ?_
    try simp only [zaa]
    refine zah ?_;refine zaG ?_;refine zan fun K hK=>?_;simp only [go_sem,seval,List.map_cons,List.map_nil,Option.map_some,true_and,List.drop_zero,List.take_succ_cons,List.take_zero,List.set_cons_zero,List.set_cons_succ,List.length_cons,List.length_nil,List.length_map,List.getElem?_map,implies_true,e21,e23,g1,g2,Int.toNat_natCast,hx];apply hK;refine zan fun K hK=>?_;simp only [go_sem,seval,List.drop_succ_cons,List.drop_zero];apply hK;rw [zmy] at hop;refine zbn (x.zbA == 4) (fun c1=>?_) (fun c1=>?_)
    ·rw [if_pos (by simpa using c1)] at hop;obtain ⟨⟨s1,s2⟩,hop⟩:=zaM hop;refine zgB fun hfr2=>?_;have q0:m1.hp (20::i::21::q)=none:=by have:=hfr2 20 (by omega);simpa only [go_sem,↓reduceIte,Nat.reduceEqDiff,Nat.reduceAdd,Nat.reduceSub,Nat.reduceMul,Nat.reduceLT,Nat.reduceLeDiff,Nat.reduceBEq,Nat.reduceBNe,reduceCtorEq,Nat.zero_ne_one,Nat.one_ne_zero,List.map_cons,List.map_nil,List.toList_toArray,Option.map_some,Option.map_none,List.nil_append,List.append_nil,List.cons_append,true_and,and_true,List.drop_succ_cons,List.drop_zero,List.take_succ_cons,List.take_zero,List.set_cons_zero,List.set_cons_succ,List.length_cons,List.length_nil,List.length_map,List.getElem?_cons_zero,List.getElem?_cons_succ,List.getElem?_map,List.forall_mem_cons,List.not_mem_nil,false_implies,implies_true,Bool.not_true,Bool.not_false,beq_self_eq_true,Bool.or_true,Bool.true_or,Bool.and_true,Bool.true_and] using this
     have s3:(0:Int)<=x.zf8:=by omega
     have s4:IntKind.i64.wrap (f.zbd+(v:Int))=((p+v:Nat):Int):=by rw [zkW (by omega) (by omega)];omega
     have s5:(0:Int)<=((p+v:Nat):Int):=Int.natCast_nonneg _;have s6:((p+v:Nat):Int)<(f.zbg.length:Int):=by omega
     refine SW_px [0,1,3,7,0,16,0,112,0,256,768,2047,4095] [0,1,2,3,4,5,6,7,8,9,10,11,12] rfl (by kernel_rfl) fun K hK=>?_;have fl10:List.filter (fun j=>!(bef [0,1,3,7,0,16,0,112,0,256,768,2047,4095] j 10)) [9,8,7,6,5,4,3,2,1,0]=[7,6,5,4,3,2,1,0]:=by decide
     have fl12:List.filter (fun j=>!(bef [0,1,3,7,0,16,0,112,0,256,768,2047,4095] j 12)) [11,7,6,5,4,3,2,1,0]=[]:=by decide
     simp only [go_sem,seval,List.map_cons,List.map_nil,true_and,and_true,List.drop_succ_cons,List.drop_zero,List.length_cons,List.length_nil,List.length_map,e1,e3,b0,b12,s3,s2,s4,s5,s6,fl10,fl12,List.length_replicate,hO.a];refine ⟨by omega,?_⟩;apply hK;simp only [zaa,zaq];refine zao fun K hK=>?_;simp only [go_sem,seval,e23];apply hK;refine ⟨l.length,Nat.lt_succ_self _,l,v+1,rs.set (p+v) ((b+hs2.length:Nat):Int),hs2++[List.replicate x.zf8.toNat 0],AS2++[20::i::21::q],rfl,hl2,by omega,hop,by rw [List.length_set];exact hrs,fun k hk=>?_,?_⟩
     ·have hlen:(hs2++[List.replicate x.zf8.toNat (0:Int)]).length=hs2.length+1:=by simp
      rcases List.mem_or_eq_of_mem_set hk with hk | hk
      ·have:=hrk k hk;omega
      ·omega
     refine ⟨?_,?_,?_,?_,?_,?_,?_,?_,?_,?_,?_⟩
     all_goals try simp only [go_sem,seval,e1,e3,e21,e22,b0,b12,v12,hgl,hbk,hw,zam,zfK,zcx]
     have hal:(AS++AS2).length=b+hs2.length:=by rw [List.length_append,hAS,hO.len]
     have hll:(LS++hs2.map List.length).length=(AS++AS2).length:=by rw [List.length_append,hLS,hal,List.length_map]
     have hna:20::i::21::q ∉ AS2:=fun hm=>by
      obtain ⟨j,hj⟩:=zmN hm;have hjl:j<hs2.length:=by rw [←hO.len];exact (List.getElem?_eq_some_iff.1 hj).1
      have:=hO.at_ j _ _ hj (List.getElem?_eq_getElem hjl);rw [q0] at this;cases this
     have e1:(AS++(AS2++[20::i::21::q]))=(AS++AS2)++[20::i::21::q]:=by simp
     have e2:(LS++(hs2++[List.replicate x.zf8.toNat (0:Int)]).map List.length)=(LS++hs2.map List.length)++[x.zf8.toNat]:=by simp
     refine ⟨?_,?_,?_,?_,by simp [hO.len],fun k a l hk hl=>?_,fun j hj=>?_⟩
     ·show (if (6::q)=10::q then _ else if 6::q=20::i::21::q then _ else m1.hp (6::q))=_;rw [if_neg (by simp),if_neg (by simp),hO.w]
     ·show (if (10::q)=10::q then _ else _)=_;rw [if_pos rfl,e1,e2]
      congr 1
      rw [List.map_set,←hal,zmK hll]
      congr 1
      refine List.map_congr_left fun k hk=>(znG (by have:=hrk k hk;omega) hll).symm
     ·refine List.nodup_append.2 ⟨hO.nd,by simp,fun a ha b hb e=>?_⟩;rw [List.mem_singleton] at hb;subst hb;subst e;exact hna ha
     ·intro a ha
      rcases List.mem_append.1 ha with ha | ha
      ·exact hO.un a ha
      ·exact ⟨20,i,List.mem_singleton.1 ha⟩
     ·have hkl:k<(AS2++[20::i::21::q]).length:=(List.getElem?_eq_some_iff.1 hk).1;rw [List.length_append,List.length_singleton] at hkl
      by_cases e:k<AS2.length
      ·rw [List.getElem?_append_left e] at hk;rw [List.getElem?_append_left (by rw [←hO.len];exact e)] at hl;obtain ⟨j1,j2,ea⟩:=hO.un a (List.mem_of_getElem? hk);show (if a=10::q then _ else if a=20::i::21::q then _ else m1.hp a)=_;rw [if_neg (by rw [ea];intro e;have:=congrArg List.length e;simp only [List.length_cons] at this;omega),if_neg (fun e=>hna (by rw [←e];exact List.mem_of_getElem? hk))];exact hO.at_ k a l hk hl
      ·have ek:k=AS2.length:=by omega
       subst ek;rw [List.getElem?_append_right (Nat.le_refl _),Nat.sub_self] at hk;rw [hO.len,List.getElem?_append_right (Nat.le_refl _),Nat.sub_self] at hl;obtain rfl:20::i::21::q=a:=by simpa using hk
       obtain rfl:List.replicate x.zf8.toNat 0=l:=by simpa using hl
       show (if (20::i::21::q)=10::q then _ else if 20::i::21::q=20::i::21::q then _ else _)=_;rw [if_neg (by simp),if_pos rfl,zk7,List.map_replicate];rfl
     ·show (if j=10::q then _ else if j=20::i::21::q then _ else m1.hp j)=_;rw [if_neg (fun e=>hj (by rw [e];exact List.suffix_cons _ _)),if_neg (fun e=>hj (by rw [e];exact ⟨[20,i,21],rfl⟩))];exact hO.out j hj
    ·rw [if_neg (by simpa using c1)] at hop;refine zav ?_
     try simp only [zaa,zaq]
     refine zao fun K hK=>?_;simp only [go_sem,seval,e23];apply hK;refine ⟨l.length,Nat.lt_succ_self _,l,v+1,rs,hs2,AS2,rfl,hl2,by omega,hop,hrs,hrk,?_⟩;refine ⟨?_,?_,?_,?_,?_,?_,?_,?_,?_,?_,?_⟩
     all_goals try simp only [go_sem,seval,e1,e3,e21,e22,b0,b12,v12,hgl,hbk,hw,zam]
     exact hO
end Go.Proofs.YtldnmmnnohnpkaaGreatDoor.Abs
namespace Go.Proofs.YtldnmmnnohnpkaaGreatDoor.Abs
set_option linter.unusedVariables false
open Go.RowKit
theorem zox {m:M} {h:Hp} {p:Pa} {o n:Nat} {c:List V}:(m.seth h).setv p o c n=(m.setv p o c n).seth h:=_root_.id rfl
theorem zgW {m:M} {h h':Hp}:(m.seth h).seth h'=m.seth h':=_root_.id rfl
theorem zkV {m m2:M} {q p0 p1:Pa} {c0 c1:List V} {z:Nat} {h:Hp} (h0:¬ q <:+ p0) (h1:q <:+ p1):m.back q (m2.fr p0 p1 c0 z c1 h)=((m.back q m2).setv p0 4 c0 z).seth h:=by
 have s0:¬ q.isSuffixOf p0=true:=fun e=>h0 (List.isSuffixOf_iff_suffix.1 e);have s1:q.isSuffixOf p1=true:=List.isSuffixOf_iff_suffix.2 h1
 have e:m.back q (m2.fr p0 p1 c0 z c1 h)=(m.back q (m2.setv p0 4 c0 z)).seth h:=by
  refine M.ext_hp (funext fun i=>?_) (funext fun i=>?_) rfl rfl rfl
  ·show (if q.isSuffixOf i then m.blk i else if i=p0 then some c0 else if i=p1 then some c1 else m2.blk i)=if q.isSuffixOf i then m.blk i else if i=p0 then some c0 else m2.blk i
   by_cases e:q.isSuffixOf i=true
   ·rw [if_pos e,if_pos e]
   ·rw [if_neg e,if_neg e]
    by_cases e0:i=p0
    ·rw [if_pos e0,if_pos e0]
    ·rw [if_neg e0,if_neg e0,if_neg (fun e1=>e (by rw [e1];exact s1))]
  ·rfl
 rw [e,zbK h0]
section
variable {h h':Hp} {W A:Pa} {AS AS2:List Pa} {LS:List Nat} {ws rs ws' rs':List Int} {hs hs':List (List Int)} {q:Pa}
theorem HOk.frame (k:HOk h W A AS LS ws rs hs) (hW:h' W=h W) (hA:h' A=h A) (hAS:∀a ∈ AS,h' a=h a):HOk h' W A AS LS ws rs hs:=
 ⟨hW.trans k.w,hA.trans k.a,k.wa,k.was,k.aas,k.nd,k.ls,k.len,fun i a l h1 h2=>(hAS a (List.mem_of_getElem? h1)).trans (k.at_ i a l h1 h2)⟩
theorem HOk.setRefs (k:HOk h W A AS LS ws rs hs) (rs':List Int):HOk (putH h A (rs'.map (cRef AS LS))) W A AS LS ws rs' hs:=by
 refine ⟨?_,?_,k.wa,k.was,k.aas,k.nd,k.ls,k.len,fun i a l h1 h2=>?_⟩
 ·show (if W=A then _ else h W)=_;rw [if_neg k.wa];exact k.w
 ·show (if A=A then _ else _)=_;rw [if_pos rfl]
 ·show (if a=A then _ else h a)=_;rw [if_neg (fun e=>k.aas (by rw [←e];exact List.mem_of_getElem? h1))];exact k.at_ i a l h1 h2
theorem zpe {X Z:List Pa} {Y T:List Nat} {k:Int} (h:k<(X.length:Int)) (hy:Y.length=X.length):cRef (X++Z) (Y++T) k=cRef X Y k:=by
 unfold cRef
 split
 ·rfl
 ·rw [List.getD_eq_getElem?_getD,List.getD_eq_getElem?_getD,List.getD_eq_getElem?_getD,List.getD_eq_getElem?_getD,List.getElem?_append_left (by omega),List.getElem?_append_left (by omega)]
variable {fr:zal} {h2:List (List Int)}
theorem zmQ.hB (k:HOk h W A AS LS ws rs hs) (hnAS:∀a ∈ AS,¬ q <:+ a) (o:zmQ q h h' AS LS AS2 fr h2):HOk h' (6::q) (10::q) (AS++AS2) (LS++h2.map List.length) fr.za2 fr.zbm (hs++h2):=by
 have hu:∀a ∈ AS2,q <:+ a:=fun a ha=>by
  obtain ⟨j,i,rfl⟩:=o.un a ha;exact ⟨[j,i,21],rfl⟩
 have hl:LS.length=AS.length:=by rw [k.ls,List.length_map,k.len]
 refine ⟨o.w,o.a,by simp,fun hm=>?_,fun hm=>?_,List.nodup_append.2 ⟨k.nd,o.nd,fun a ha b hb e=>hnAS a ha (by rw [e];exact hu b hb)⟩,by rw [List.map_append,k.ls],by rw [List.length_append,List.length_append,k.len,o.len],fun i a l h1 h3=>?_⟩
 ·rcases List.mem_append.1 hm with hm | hm
  ·exact hnAS _ hm (List.suffix_cons _ _)
  ·obtain ⟨j,i,e⟩:=o.un _ hm;have:=congrArg List.length e;simp only [List.length_cons] at this;omega
 ·rcases List.mem_append.1 hm with hm | hm
  ·exact hnAS _ hm (List.suffix_cons _ _)
  ·obtain ⟨j,i,e⟩:=o.un _ hm;have:=congrArg List.length e;simp only [List.length_cons] at this;omega
 ·by_cases e:i<AS.length
  ·rw [List.getElem?_append_left e] at h1;rw [List.getElem?_append_left (by rw [←k.len];exact e)] at h3;rw [o.out a (hnAS a (List.mem_of_getElem? h1))];exact k.at_ i a l h1 h3
  ·rw [List.getElem?_append_right (by omega)] at h1;rw [List.getElem?_append_right (by rw [←k.len];omega),←k.len] at h3;exact o.at_ _ a l h1 h3
theorem zkG {m0 hF:Hp} (hfr:∀i,q <:+ i->m0 i=none) (hW:¬ q <:+ W) (hAS:∀a ∈ AS,¬ q <:+ a) (ho:∀i,¬ q <:+ i->hF i=hpU m0 W ws AS hs i):ziY q m0 hF=hpU m0 W ws AS hs:=by
 funext i
 unfold ziY
 by_cases e:q <:+ i
 ·rw [if_pos (List.isSuffixOf_iff_suffix.2 e)];unfold hpU;rw [if_neg (fun e2=>hW (by rw [←e2];exact e)),if_neg (fun e2=>hAS i e2 e),hfr i e]
 ·rw [if_neg (fun e2=>e (List.isSuffixOf_iff_suffix.1 e2)),ho i e]
theorem zlJ:∀ {AS AS2:List Pa} {hs:List (List Int)} {i:Pa},i ∈ AS->zl1 (AS++AS2) hs i=zl1 AS (hs.take AS.length) i
 | [],_,_,_,hi=>nomatch hi
 | a::AS,AS2,[],i,hi=>by rw [List.take_nil];rfl
 | a::AS,AS2,x::hs,i,hi=>by
   show (if i=a then some (x.map cU32) else zl1 (AS++AS2) hs i)=if i=a then some (x.map cU32) else zl1 AS (hs.take AS.length) i
   by_cases e:i=a
   ·rw [if_pos e,if_pos e]
   ·rw [if_neg e,if_neg e];exact zlJ ((List.mem_cons.1 hi).resolve_left e)
theorem zoV {m0 h1:Hp} {W':Pa} (k:HOk m0 W A AS LS ws rs hs) (hnW:¬ q <:+ W) (hnAS:∀a ∈ AS,¬ q <:+ a) (hW':q <:+ W') (hu:∀a ∈ AS2,q <:+ a) (ho:∀i,¬ q <:+ i->h1 i=m0 i) {i:Pa} (hi:¬ q <:+ i) :
  hpU h1 W' ws' (AS++AS2) hs' i=hpU m0 W ws AS (hs'.take AS.length) i:=by
 unfold hpU;rw [if_neg (fun e=>hi (by rw [e];exact hW'))]
 by_cases e:i ∈ AS
 ·rw [if_pos (List.mem_append_left _ e),if_neg (fun e2=>k.was (by rw [←e2];exact e)),if_pos e];exact zlJ e
 ·have h3:i ∉ AS++AS2:=fun hm=>(List.mem_append.1 hm).elim e fun hm=>hi (hu i hm);rw [if_neg h3,if_neg e,ho i hi]
  by_cases e2:i=W
  ·rw [if_pos e2,e2,k.w]
  ·rw [if_neg e2]
end
end Go.Proofs.YtldnmmnnohnpkaaGreatDoor.Abs
