/-
 Walks: each function does what its model says. Written by a program of mine (gen.py) for this claim.
-/
import Derived.Test.YtldnmmnnohnpkaaGreatDoorIOH8
import Derived.Test.YtldnmmnnohnpkaaGreatDoorIOIrun
import Derived.Test.YtldnmmnnohnpkaaGreatDoorIOGMm
namespace Go.Proofs.YtldnmmnnohnpkaaGreatDoor.Abs
set_option linter.unusedVariables false
open Go.RowKit
set_option maxRecDepth 10000
def zhX (f:Option Bool):Prop:=∀r,f=some r->∀(q:Pa) (m:M) (vs:List V),vs.map V.weak1=[]/\(m.hp=fun _=>none)/\m.gl 0=.eptr [(cA zaK.C zbq)] 0 0/\m.gl 1=.eptr [(cA zaE.C za6)] 0 0/\m.gl 2=.eptr [(cA cS zcI)] 0 0/\m.gl 3=.eptr [(cA cS zaZ)] 0 0/\m.gl 5=.eptr [(cA (cA cS) zbr)] 0 0->SC Tryz.prog 27 vs q m (fun v m'=>v=.lit (.bool r)/\m'=m)
theorem zhw (n:Nat):zhX (zdU n):=by
 rintro r h q m vs ⟨hv,hgh,hg0,hg1,hg2,hg3,hg5⟩;refine SC.weak ?_;rw [hv];refine SC_w Tryz.func27 rfl (fun xs w=>Tryz.call27 xs w) Tryz.ntmps27 (by kernel_rfl) Tryz.results27 ?_;unfold zdU at h;refine zan fun K hK=>?_;simp only [go_sem];apply hK;refine zah ?_;obtain ⟨x1,h3,h⟩:=bind_some h;refine zap fun K hK=>?_;simp only [go_sem,seval];refine SC.by_ (zlB n ([101,120,112,111,114,116,32,102,110,32,102,40,112,58,32,112,117,98,44,32,120,58,32,117,51,50,41,32,45,62,32,117,51,50,32,123,32,114,101,116,117,114,110,32,120,32,43,32,49,48,32,47,32,112,59,32,125]:Str) _ h3 _ _ _ (by simp only [go_sem,UInt8.reduceToNat,hgh,hg1,hg2,hg3,hg5])) ?_;simp only [go_sem,seval];apply hK;refine zah ?_;refine zah ?_;obtain ⟨y4,hy4,h⟩:=bind_some h;refine zbd 20 [] [] rfl (fun E' m'=>E' 1=.ptr (8::q) 0/\E' 22=.lit (.bool y4)/\m'.blk (8::q)=some ((zat.C x1.1))/\m'.gl=m.gl/\m'.hp=m.hp/\m.back q m'=m) ?_ ?_
 ·rcases zbn (x1.2.1 != (0:Int)) with c5 | c5
  ·replace hy4:=zaB c5 hy4;refine zap fun K hK=>?_;simp only [go_sem,seval,c5];apply hK;obtain rfl:=zaf hy4;refine ⟨by decide,?_⟩;simp only [go_sem,seval,zam,zak,hgh]
  ·replace hy4:=zaC c5 hy4;refine zap fun K hK=>?_;simp only [go_sem,seval,c5];apply hK;obtain rfl:=zaf hy4;refine ⟨by decide,?_⟩;simp only [go_sem,seval,zam,zak,hgh]
 ·intro E6 m7 e8 _;simp only [zaa];refine zbB y4 (by simp only [go_sem,e8]) (fun c9=>?_) (fun c9=>?_)
  ·replace h:=zaB c9 h;refine zan fun K hK=>?_;simp only [go_sem,Nat.reduceAdd];apply hK;refine zau ?_
   try simp only [zas]
   obtain rfl:=zaf h;refine ⟨by simp,?_⟩;simp only [go_sem,↓reduceIte,e8]
  ·replace h:=zaC c9 h;refine zaw ?_
   try simp only [zaa]
   refine zah ?_;obtain ⟨x10,h12,h⟩:=bind_some h;refine zap fun K hK=>?_;simp only [go_sem,seval,e8];refine SC.by_ (zkB n x1.1 (0:Int) (zbm.mk [(0:Int),(1:Int)] []) (9:Int) _ h12 _ _ _ (by simp only [go_sem,e8,hgh,hg0])) ?_;simp only [go_sem,seval];apply hK;refine zah ?_;obtain ⟨x13,h15,h⟩:=bind_some h;refine zap fun K hK=>?_;simp only [go_sem,seval,e8];refine SC.by_ (zkB n x1.1 (0:Int) (zbm.mk [(3:Int),(1:Int)] []) (9:Int) _ h15 _ _ _ (by simp only [go_sem,e8,hgh,hg0])) ?_;simp only [go_sem,seval];apply hK;refine zah ?_;obtain ⟨y16,hy16,h⟩:=bind_some h;refine zbd 62 [] [] rfl (fun E' m'=>E' 0=.lit (.bool y16)/\m'.gl=m.gl/\m'.hp=m.hp/\m.back q m'=m) ?_ ?_
   ·rcases zbn (x10.2 == (0:Int)) with c17 | c17
    ·replace hy16:=zaB c17 hy16
     rcases zbn (x13.2 == (0:Int)) with c18 | c18
     ·replace hy16:=zaB c18 hy16
      rcases zbn (x10.1.zn9 == (2:Int)) with c19 | c19
      ·replace hy16:=zaB c19 hy16
       rcases zbn (x13.1.zn9 == (0:Int)) with c20 | c20
       ·replace hy16:=zaB c20 hy16;refine zap fun K hK=>?_;simp only [go_sem,seval,c17,c18,c19,c20];apply hK;obtain rfl:=zaf hy16;refine ⟨by decide,?_⟩;simp only [go_sem,↓reduceIte,zam,e8,hgh]
       ·replace hy16:=zaC c20 hy16;refine zap fun K hK=>?_;simp only [go_sem,seval,c17,c18,c19,c20];apply hK;obtain rfl:=zaf hy16;refine ⟨by decide,?_⟩;simp only [go_sem,↓reduceIte,zam,e8,hgh]
      ·replace hy16:=zaC c19 hy16;refine zap fun K hK=>?_;simp only [go_sem,seval,c17,c18,c19];apply hK;obtain rfl:=zaf hy16;refine ⟨by decide,?_⟩;simp only [go_sem,↓reduceIte,zam,e8,hgh]
     ·replace hy16:=zaC c18 hy16;refine zap fun K hK=>?_;simp only [go_sem,seval,c17,c18];apply hK;obtain rfl:=zaf hy16;refine ⟨by decide,?_⟩;simp only [go_sem,↓reduceIte,zam,e8,hgh]
    ·replace hy16:=zaC c17 hy16;refine zap fun K hK=>?_;simp only [go_sem,seval,c17];apply hK;obtain rfl:=zaf hy16;refine ⟨by decide,?_⟩;simp only [go_sem,↓reduceIte,zam,e8,hgh]
   ·intro E21 m22 e23 _;simp only [zaa];refine zau ?_;obtain rfl:=zaf h;refine ⟨by simp,?_⟩;simp only [go_sem,e23]
def zg0 (f:Str->Option Bool):Prop:=∀a0 r,f a0=some r->∀(q:Pa) (m:M) (vs:List V),vs.map V.weak1=[.lit (.string (bs a0))]/\(m.hp=fun _=>none)/\m.gl 0=.eptr [(cA zaK.C zbq)] 0 0/\m.gl 1=.eptr [(cA zaE.C za6)] 0 0/\m.gl 2=.eptr [(cA cS zcI)] 0 0/\m.gl 3=.eptr [(cA cS zaZ)] 0 0/\m.gl 5=.eptr [(cA (cA cS) zbr)] 0 0->SC Tryz.prog 10 vs q m (fun v m'=>v=.lit (.bool r)/\m'=m)
theorem zgP (n:Nat):zg0 (zce n):=by
 rintro a0 r h q m vs ⟨hv,hgh,hg0,hg1,hg2,hg3,hg5⟩;refine SC.weak ?_;rw [hv];refine SC_w Tryz.func10 rfl (fun xs w=>Tryz.call10 xs w) Tryz.ntmps10 (by kernel_rfl) Tryz.results10 ?_;unfold zce at h;refine zan fun K hK=>?_;simp only [go_sem];apply hK;refine zah ?_;refine zah ?_;obtain ⟨x1,h2,h⟩:=bind_some h;refine zap fun K hK=>?_;simp only [go_sem];refine SC.by_ (zhw n _ h2 _ _ _ (by simp only [go_sem,hgh,hg0,hg1,hg2,hg3,hg5])) ?_;simp only [go_sem,seval];apply hK;refine zbh (!x1) (fun c3=>?_) (fun c3=>?_)
 ·replace h:=zaB c3 h;refine zan fun K hK=>?_;simp only [go_sem,Nat.reduceAdd,c3];apply hK;refine zau ?_
  try simp only [zas]
  obtain rfl:=zaf h;refine ⟨by simp,?_⟩;simp only [go_sem,↓reduceIte,zak]
 ·replace h:=zaC c3 h;refine zaw ?_
  try simp only [zaa]
  refine zan fun K hK=>?_;simp only [go_sem,seval,c3];apply hK;refine zan fun K hK=>?_;simp only [go_sem,seval];apply hK;refine zan fun K hK=>?_;simp only [go_sem,Nat.reduceAdd];apply hK;refine zah ?_;refine zan fun K hK=>?_;simp only [go_sem,seval];apply hK;refine zaF ?_;obtain ⟨y9,hy9,h⟩:=bind_some h;refine zbu [] [] rfl (fun c E' m'=>∃v7 v8,zbI n a0 c v7 v8=some y9/\E' 0=.lit (.string (bs a0))/\E' 4=.ptr (7::q) 0/\E' 5=.lit (.int .i64 v7)/\E' 12=.agg ((cA cS zaV))/\E' 13=.lit (.int .i64 v8)/\m'.blk (7::q)=some ((cA (cI .i64) zbZ))/\m'.gl=m.gl/\m'.hp=m.hp/\m.back q m'=m) n ⟨(0:Int),(0:Int),hy9,?_⟩ ?_
  ·(simp only [go_sem,seval,zam,zak,hgh]) <;> (try and_intros) <;> rfl
  rintro i6 c10 E11 m12 ⟨v7,v8,hy9,e13⟩ _
  rcases c10 with _ | c10
  ·exact absurd hy9 (by rw [zbI];exact fun e=>nomatch e)
  rw [zbI] at hy9;refine zan fun K hK=>?_;simp only [go_sem,e13];apply hK;refine zah ?_;refine zbB (decide (v8<(15:Int))) (by simp only [go_sem,↓reduceIte]) (fun c14=>?_) (fun c14=>?_)
  ·replace hy9:=zaB c14 hy9;refine zaw ?_
   try simp only [zaa]
   refine zah ?_;obtain ⟨y15,hy15,hy9⟩:=bind_some hy9;refine zbd 18 [] [] rfl (fun E' m'=>∃(y15a:Int),y15=.inl y15a/\E' 0=.lit (.string (bs a0))/\E' 4=.ptr (7::q) 0/\E' 5=.lit (.int .i64 y15a)/\E' 12=.agg ((cA cS zaV))/\E' 13=.lit (.int .i64 v8)/\m'.blk (7::q)=some ((cA (cI .i64) zbZ))/\m'.gl=m.gl/\m'.hp=m.hp/\m.back q m'=m) ?_ ?_
   ·refine zaF ?_;refine zah ?_;obtain ⟨x16,h20,hy15⟩:=bind_some hy15;obtain ⟨f17,f18,f19⟩:=zav h20;have f21:v8<(15:Int):=f18;obtain ⟨w22,d23⟩:=zhT (f:=cS) (s:=1) (fun _ _=>rfl) f19;simp only [go_sem] at d23;have d24:List.drop (v8.toNat) [V.lit (.string (bs ([124]:Str))),V.lit (.string (bs ([94]:Str))),V.lit (.string (bs ([38]:Str))),V.lit (.string (bs ([61,61]:Str))),V.lit (.string (bs ([60]:Str))),V.lit (.string (bs ([60,60]:Str))),V.lit (.string (bs ([62,62]:Str))),V.lit (.string (bs ([60,60,60]:Str))),V.lit (.string (bs ([43]:Str))),V.lit (.string (bs ([45]:Str))),V.lit (.string (bs ([42]:Str))),V.lit (.string (bs ([47]:Str))),V.lit (.string (bs ([37]:Str))),V.lit (.string (bs ([110,111,116]:Str))),V.lit (.string (bs ([110,101,103]:Str)))]=_:=d23;refine zap fun K hK=>?_;simp only [go_sem,seval,f17,f21,d23,e13];apply hK;refine zah ?_;refine zan fun K hK=>?_;simp only [go_sem,seval,e13];apply hK;refine zbh (decide (x16=a0)) (fun c25=>?_) (fun c25=>?_)
    ·replace hy15:=zaB c25 hy15;obtain ⟨x26,h30,hy15⟩:=bind_some hy15;obtain ⟨f27,f28,f29⟩:=zav h30;have f31:v8<(15:Int):=f28;obtain ⟨w32,d33⟩:=zhT (f:=(cI .i64)) (s:=1) (fun _ _=>rfl) f29;simp only [go_sem] at d33;have d34:List.drop (v8.toNat) [V.lit (.int .i64 (5:Int)),V.lit (.int .i64 (6:Int)),V.lit (.int .i64 (7:Int)),V.lit (.int .i64 (8:Int)),V.lit (.int .i64 (9:Int)),V.lit (.int .i64 (10:Int)),V.lit (.int .i64 (11:Int)),V.lit (.int .i64 (12:Int)),V.lit (.int .i64 (13:Int)),V.lit (.int .i64 (14:Int)),V.lit (.int .i64 (15:Int)),V.lit (.int .i64 (16:Int)),V.lit (.int .i64 (17:Int)),V.lit (.int .i64 (3:Int)),V.lit (.int .i64 (4:Int))]=_:=d33;refine zap fun K hK=>?_;simp only [go_sem,seval,f17,f21,c25,d33,e13];apply hK;refine zah ?_;obtain ⟨x35,h36,hy15⟩:=bind_some hy15;refine zaN (tbl:=[0,1,0,4,12,31]) (ord:=[(0,0),(1,0),(2,0),(3,0),(4,1),(5,0)]) 18 rfl (by kernel_rfl) (by kernel_rfl) fun K hK=>?_;simp only [go_sem,seval];refine zaQ (zfq n x16 _ h36 _ _ _ (by simp only [go_sem,e13,hg0])) rfl ?_;simp only [go_sem,seval,f17,f21,d33,e13];apply hK;simp only [zaa];refine zbh (x35 != x26) (fun c37=>?_) (fun c37=>?_)
     ·replace hy15:=zaB c37 hy15;refine zan fun K hK=>?_;simp only [go_sem,Nat.reduceAdd,c37];apply hK;refine zau ?_
      try simp only [zas,zaA]
      obtain rfl:=zaf hy15;simp only [Sum.elim_inr] at hy9;obtain rfl:=zaf hy9;simp only [Sum.elim_inr] at h;obtain rfl:=zaf h;refine ⟨by simp,?_⟩;simp only [go_sem,↓reduceIte,e13]
     ·replace hy15:=zaC c37 hy15;refine zaw ?_
      try simp only [zaa,zaq]
      obtain rfl:=zaf hy15;refine ⟨by decide,x26,rfl,?_⟩
      (simp only [go_sem,seval,c37,e13,hgh]) <;> (try and_intros) <;> rfl
    ·replace hy15:=zaC c25 hy15;refine zaw ?_
     try simp only [zaa]
     refine zah ?_;obtain ⟨x38,h40,hy15⟩:=bind_some hy15;obtain ⟨x39,h44,hy15⟩:=bind_some hy15;obtain ⟨f41,f42,f43⟩:=zav h44;have f45:v8<(15:Int):=f42;obtain ⟨w46,d47⟩:=zhT (f:=(cI .i64)) (s:=1) (fun _ _=>rfl) f43;simp only [go_sem] at d47;have d48:List.drop (v8.toNat) [V.lit (.int .i64 (5:Int)),V.lit (.int .i64 (6:Int)),V.lit (.int .i64 (7:Int)),V.lit (.int .i64 (8:Int)),V.lit (.int .i64 (9:Int)),V.lit (.int .i64 (10:Int)),V.lit (.int .i64 (11:Int)),V.lit (.int .i64 (12:Int)),V.lit (.int .i64 (13:Int)),V.lit (.int .i64 (14:Int)),V.lit (.int .i64 (15:Int)),V.lit (.int .i64 (16:Int)),V.lit (.int .i64 (17:Int)),V.lit (.int .i64 (3:Int)),V.lit (.int .i64 (4:Int))]=_:=d47;refine zaN (tbl:=[0,1,0,4,12,31]) (ord:=[(0,0),(1,0),(2,0),(3,0),(4,1),(5,0)]) 14 rfl (by kernel_rfl) (by kernel_rfl) fun K hK=>?_;simp only [go_sem,seval,c25];refine zaQ (zfq n x16 _ h40 _ _ _ (by simp only [go_sem,e13,hg0])) rfl ?_;simp only [go_sem,seval,f17,f21,d47,e13];apply hK;simp only [zaa];refine zbh (x38 != x39) (fun c49=>?_) (fun c49=>?_)
     ·replace hy15:=zaB c49 hy15;refine zan fun K hK=>?_;simp only [go_sem,Nat.reduceAdd,c49];apply hK;refine zau ?_
      try simp only [zas,zaA]
      obtain rfl:=zaf hy15;simp only [Sum.elim_inr] at hy9;obtain rfl:=zaf hy9;simp only [Sum.elim_inr] at h;obtain rfl:=zaf h;refine ⟨by simp,?_⟩;simp only [go_sem,↓reduceIte,e13]
     ·replace hy15:=zaC c49 hy15;refine zaw ?_
      try simp only [zaa,zaq]
      obtain rfl:=zaf hy15;refine ⟨by decide,v7,rfl,?_⟩
      (simp only [go_sem,seval,c49,e13,hgh]) <;> (try and_intros) <;> rfl
   ·rintro E50 m51 ⟨y15a,rfl,e52⟩ _;simp only [Sum.elim_inl] at hy9;simp only [zaa];refine zap fun K hK=>?_;simp only [go_sem,seval,e52];apply hK;refine ⟨c10,Nat.lt_succ_self _,y15a,(IntKind.i64.wrap (v8+(1:Int))),hy9,?_⟩
    (simp only [go_sem,seval,e52,hgh]) <;> (try and_intros) <;> rfl
  ·replace hy9:=zaC c14 hy9;refine zbA ?_
   try simp only [zaR,zaI,↓reduceIte,zaa]
   obtain rfl:=zaf hy9;simp only [Sum.elim_inl] at h;refine zah ?_;obtain ⟨x53,h54,h⟩:=bind_some h;refine zap fun K hK=>?_;simp only [go_sem,seval,c14,e13];refine SC.by_ (zfq n a0 _ h54 _ _ _ (by simp only [go_sem,e13,hg0])) ?_;simp only [go_sem,seval,e13];apply hK;refine zau ?_;obtain rfl:=zaf h;refine ⟨by simp,?_⟩;simp only [go_sem,↓reduceIte,e13]
end Go.Proofs.YtldnmmnnohnpkaaGreatDoor.Abs
