import Derived.Test.YtnnomaboaiokeaaGreatDoorLH8
namespace Go.Proofs.YtnnomaboaiokeaaGreatDoor.Abs
open Go.RowKit Tryz
open IntKind (i64 u32 u64 u8)
set_option linter.all false
set_option maxRecDepth 10000
set_option maxHeartbeats 2000000
open Tryz
def CQ (f:aJ->Option aJ):Prop:=∀a0 r,f a0=some r->∀(q:Pa) (m:M) (vs:List V) (P0:Pa) (zP0:Nat),vs.map V.weak1=[.ptr P0 0]/\m.blk P0=some ((bL.C a0.p_)++[.ls a0.f_.fO,.lb a0.f_.dG,.li a0.f_.bR,.li a0.f_.bC,.list .self (a0.f_.aX.map aL.C),.list .none (a0.f_.bV.map aC.C),.li a0.eX,.li a0.e_])/\m.ver P0 5=zP0+a0.f_.aX.length->SC prog 130 vs q m (λv Y=>v=.tup []/\Y=(m.setv P0 5 ((bL.C r.p_)++[.ls r.f_.fO,.lb r.f_.dG,.li r.f_.bR,.li r.f_.bC,.list .self (r.f_.aX.map aL.C),.list .none (r.f_.bV.map aC.C),.li r.eX,.li r.e_]) (zP0+r.f_.aX.length)))
theorem oM:CQ (dK):=by
 rintro a0 r h q m vs P0 zP0 ⟨hv,w0,hvrP0⟩;refine SC.wv hv ?_;refine SC.ap w0 λu0 l0=>?_
 try simp only [go_sem,seval] at w0 l0
 refine sL func130 call130 ntmps130 results130 ?_;unfold dK at h;refine aK (aQ λK hK=>?_);simp only [go_sem,seval,cU u0,w0,hvrP0];apply hK;simp only [aB,aA];refine aK (aQ λK hK=>?_);simp only [go_sem,seval,cU u0,w0,hvrP0];apply hK;simp only [aB,aA];refine eV h (λc1 h=>?_) (λc1 h=>?_)
 ·refine aQ λK hK=>?_;simp only [go_sem,seval,cU u0,c1,w0,hvrP0];apply hK;simp only [aB,aA];cases h;refine ⟨by simp,?_⟩;simp only [go_sem,seval,aW,aV,aO,aZ,bE u0,l0,iG u0,fW u0,kI hvrP0,nI hvrP0,hvrP0,mS,dW,eN,Cv,←GB,cU u0,c1,w0]
 ·refine cN ?_
  try simp only [aB,aA]
  cases h;refine ⟨by simp,?_⟩;simp only [go_sem,seval,aW,aV,aO,aZ,bE u0,l0,iG u0,fW u0,kI hvrP0,nI hvrP0,hvrP0,mS,dW,eN,Cv,←GB,cU u0,c1,w0]
def Lo (f:Int->(List Int)->Option Int):Prop:=∀a0 a1 r,f a0 a1=some r->BH prog 133 [.li a0,.list .none (a1.map (cI .i64))] (.li r)
theorem Es:Lo (xJ):=λa0 a1 r h q m vs hv=>SC.wva hv (cY func133 call133 ntmps133 results133 rfl (wk (.j 2 1 9 [.v 12 Bool λy=>.lb y] [0,1] [] [] none .z .z) q m (xJ.eq_1 _ _) h))
instance:nK 133 (Lo xJ):=⟨Es⟩
def Ac (f:aF->(List Int)->Option aF):Prop:=∀a0 a1 r,f a0 a1=some r->BH prog 131 [.agg ((aF.C a0)),.list .none (a1.map (cI .i64))] (.agg ((aF.C r)))
def xL (f:(List aF)->(List Int)->Option (List aF)):Prop:=∀a0 a1 r,f a0 a1=some r->BH prog 134 [.list .none (a0.map aF.C),.list .none (a1.map (cI .i64))] (.list .none (r.map aF.C))
theorem JV {tX} (IG:xL tX) (n:Nat):Ac (tZ tX n):=haveI:nK 134 (xL tX):=⟨IG⟩;λa0 a1 r h q m vs hv=>SC.wva hv (cY func131 call131 ntmps131 results131 rfl (wk .z q m (tZ.eq_1 _ _ _ _) h))
theorem IH {qO} (JQ:Ac qO) (n:Nat):xL (sT qO n):=haveI:nK 131 (Ac qO):=⟨JQ⟩;λa0 a1 r h q m vs hv=>SC.wva hv (cY func134 call134 ntmps134 results134 rfl (wk (.s 5 (.l [.o 5 (List aF) λy=>(y.map aF.C),.v 10 Int λy=>.li y] [1,8,9] [] [] none .z .z)) q m (sT.eq_1 _ _ _ _) h))
theorem zB:∀n,Ac (qQ n)/\xL (sU n)
 | 0=>⟨λ_ _ _ h=>dS h,λ_ _ _ h=>dS h⟩
 | n+1=>
   have ih:=zB n
   ⟨JV ih.2 n,IH ih.1 n⟩
theorem Et (n:Nat):Ac (qQ n):=(zB n).1
theorem KH (n:Nat):xL (sU n):=(zB n).2
def CN (f:aJ->aL->Option (Int × aJ)):Prop:=∀a0 a1 r,f a0 a1=some r->∀(q:Pa) (m:M) (vs:List V) (P0:Pa) (zP0:Nat),vs.map V.weak1=[.ptr P0 0,.agg ((aL.C a1))]/\m.blk P0=some ((bL.C a0.p_)++[.ls a0.f_.fO,.lb a0.f_.dG,.li a0.f_.bR,.li a0.f_.bC,.list .self (a0.f_.aX.map aL.C),.list .none (a0.f_.bV.map aC.C),.li a0.eX,.li a0.e_])/\m.ver P0 5=zP0+a0.f_.aX.length->SC prog 168 vs q m (λv Y=>v=.li r.1/\Y=(m.setv P0 5 ((bL.C r.2.p_)++[.ls r.2.f_.fO,.lb r.2.f_.dG,.li r.2.f_.bR,.li r.2.f_.bC,.list .self (r.2.f_.aX.map aL.C),.list .none (r.2.f_.bV.map aC.C),.li r.2.eX,.li r.2.e_]) (zP0+r.2.f_.aX.length)))
theorem oL:CN (dJ):=by
 rintro a0 a1 r h q m vs P0 zP0 ⟨hv,w0,hvrP0⟩;refine SC.wv hv ?_;refine SC.ap w0 λu0 l0=>?_
 try simp only [go_sem,seval] at w0 l0
 refine sL func168 call168 ntmps168 results168 ?_;unfold dJ at h;refine aK (aQ λK hK=>?_);simp only [go_sem,seval,cU u0,w0,hvrP0];apply hK;simp only [aB,aA];refine aK (aK (aQ λK hK=>?_));simp only [go_sem,seval,cU u0,w0,hvrP0];apply hK;simp only [aB,aA];refine eV h (λc2 h=>?_) (λc2 h=>?_)
 ·refine aK (aQ λK hK=>?_);simp only [go_sem,seval,cU u0,c2,w0,hvrP0];apply hK;simp only [aB,aA];refine aK (aQ λK hK=>?_);simp only [go_sem,seval,cU u0,c2,w0,hvrP0];apply hK;simp only [aB,aA];refine cR ?_
  try simp only [aU,aR]
  cases h;refine ⟨by simp,?_⟩;simp only [go_sem,seval,aW,aV,aO,aZ,bE u0,l0,iG u0,fW u0,kI hvrP0,nI hvrP0,hvrP0,mS,dW,eN,Cv,←GB,cU u0,c2,w0]
 ·refine cN ?_
  try simp only [aB,aA]
  refine aK ?_;obtain ⟨f3,h⟩:=cG h;have f4:a0.f_.aX.length+1<=1073741824:=by first | omega | (simp only [mS,dW,eN] at f3 ⊢;omega)
  have f5:a0.f_.aX.length<=1073741823:=by first | omega | (simp only [mS,dW,eN] at f3 ⊢;omega)
  refine Gg (o0 [1,2,3,4,5,6,7,8,0,9,10,11,12]) 22 ?_;simp only [aB,aA];refine aK (aQ λK hK=>?_);simp only [go_sem,seval,cU u0,c2,f3,f4,f5,w0,hvrP0];apply hK;simp only [aB,aA];refine cR ?_
  try simp only [aU,aR]
  cases h;refine ⟨by simp,?_⟩;simp only [go_sem,seval,aW,aV,aO,aZ,bE u0,l0,iG u0,fW u0,kI hvrP0,nI hvrP0,hvrP0,mS,dW,eN,Cv,←GB,cU u0,c2,f3,f4,f5,w0]
def Dt (f:aJ->aC->aS->(List Int)->Option ((List aC) × (List Int) × aJ)):Prop:=∀a0 a1 a2 a3 r,f a0 a1 a2 a3=some r->∀(q:Pa) (m:M) (vs:List V) (P0:Pa) (zP0:Nat),vs.map V.weak1=[.ptr P0 0,.agg ((aC.C a1)),.agg ((aS.C a2)),.list .none (a3.map (cI .i64))]/\m.blk P0=some ((bL.C a0.p_)++[.ls a0.f_.fO,.lb a0.f_.dG,.li a0.f_.bR,.li a0.f_.bC,.list .self (a0.f_.aX.map aL.C),.list .none (a0.f_.bV.map aC.C),.li a0.eX,.li a0.e_])/\m.ver P0 5=zP0+a0.f_.aX.length->SC prog 167 vs q m (λv Y=>∃(id:Pa) (j:Nat) (id2:Pa) (j2:Nat),q <:+ id/\q <:+ id2/\(id=id2)=False/\(id2=id)=False/\v=.tup [.list (.st (.anon id j)) (r.1.map aC.C),.list (.st (.anon id2 j2)) (r.2.1.map (cI .i64))]/\Y=((m.setv P0 5 ((bL.C r.2.2.p_)++[.ls r.2.2.f_.fO,.lb r.2.2.f_.dG,.li r.2.2.f_.bR,.li r.2.2.f_.bC,.list .self (r.2.2.f_.aX.map aL.C),.list .none (r.2.2.f_.bV.map aC.C),.li r.2.2.eX,.li r.2.2.e_]) (zP0+r.2.2.f_.aX.length)).tokset id j true).tokset id2 j2 true)
theorem CS (n:Nat):Dt (mC n):=by
 rintro a0 a1 a2 a3 r h q m vs P0 zP0 ⟨hv,w0,hvrP0⟩;refine SC.wv hv ?_;refine SC.ap w0 λu0 l0=>?_
 try simp only [go_sem,seval] at w0 l0
 refine SC_of2 func167 rfl (λxs w=>call167 xs w) ntmps167 (by kernel_rfl) (congrArg Array.toList results167) (λo1 o2=>.tup [.list o1 (r.1.map aC.C),.list o2 (r.2.1.map (cI .i64))]) ?_;unfold mC at h;refine aK (aQ λK hK=>?_);simp only [go_sem,seval,bS u0,w0,hvrP0];apply hK;simp only [aB,aA];refine aK (aQ λK hK=>?_);simp only [go_sem,seval,bS u0,w0,hvrP0];apply hK;simp only [aB,aA];refine aK (aQ λK hK=>?_);simp only [go_sem,seval,bS u0,w0,hvrP0];apply hK;simp only [aB,aA];refine aK (aK (aQ λK hK=>?_));simp only [go_sem,seval,bS u0,w0,hvrP0];apply hK;simp only [aB,aA];refine dM ?_;obtain ⟨y8,b8,h⟩:=aI h;refine BF 10 ([].map aC.C) rfl (by simp only [go_sem,seval,bS u0,w0,hvrP0]) ?_;refine BF 11 ([].map (cI .i64)) rfl (by simp only [go_sem,seval,bS u0,w0,hvrP0]) ?_;refine wM (λc X Y=>∃v4 v5 v6 v7 o_v4 j_v4 o_v5 j_v5,eH n a1 a3 a2 c v4 v5 v6 v7=some y8/\X 0=.ptr P0 0/\X 3=.list .none (a3.map (cI .i64))/\X 5=.ptr (0::q) 0/\X 6=.ptr (1::q) 0/\X 10=.list (.st (.anon o_v4 j_v4)) (v4.map aC.C)/\Y.tok o_v4 j_v4=true/\q <:+ o_v4/\X 11=.list (.st (.anon o_v5 j_v5)) (v5.map (cI .i64))/\Y.tok o_v5 j_v5=true/\q <:+ o_v5/\X 17=.list .none (a1.aP.map aF.C)/\X 18=.li (a1.aP.length:Int)/\X 19=.li v6/\(o_v4=o_v5)=False/\(o_v5=o_v4)=False/\Y.blk P0=some ((bL.C v7.p_)++[.ls v7.f_.fO,.lb v7.f_.dG,.li v7.f_.bR,.li v7.f_.bC,.list .self (v7.f_.aX.map aL.C),.list .none (v7.f_.bV.map aC.C),.li v7.eX,.li v7.e_])/\Y.blk (0::q)=some ((aC.C a1))/\Y.blk (1::q)=some ((aS.C a2))/\Y.ver P0 5=zP0+v7.f_.aX.length/\Y.gl=m.gl/\m.back q Y=(m.setv P0 5 ((bL.C v7.p_)++[.ls v7.f_.fO,.lb v7.f_.dG,.li v7.f_.bR,.li v7.f_.bC,.list .self (v7.f_.aX.map aL.C),.list .none (v7.f_.bV.map aC.C),.li v7.eX,.li v7.e_]) (zP0+v7.f_.aX.length))) n ⟨[],[],(0:Int),a0,(10::q),0,(11::q),0,b8,?_⟩ ?_
 ·simp only [go_sem,seval,aW,aV,aO,aZ,bE u0,l0,iG u0,fW u0,kI hvrP0,nI hvrP0,hvrP0,mS,dW,eN,Cv,←GB,bS u0,w0]
 rintro i3 c9 E10 m11 ⟨v4,v5,v6,v7,o_v4,j_v4,o_v5,j_v5,b8,e12⟩ _
 rcases c9 with _ | c9
 ·cases b8
 rw [eH] at b8;refine aK (aQ λK hK=>?_);simp only [go_sem,seval,bS u0,e12];apply hK;simp only [aB,aA];refine aK (eV b8 (λc13 b8=>?_) (λc13 b8=>?_))
 ·refine cN ?_
  try simp only [aB,aA]
  refine aK ?_;obtain ⟨y14,b14,b8⟩:=aI b8;refine xV 47 (λX Y=>∃(oy14_10:Pa) (jy14_10:Nat),∃(oy14_11:Pa) (jy14_11:Nat),X 0=.ptr P0 0/\X 3=.list .none (a3.map (cI .i64))/\X 5=.ptr (0::q) 0/\X 6=.ptr (1::q) 0/\X 10=.list (.st (.anon oy14_10 jy14_10)) (y14.1.map aC.C)/\Y.tok oy14_10 jy14_10=true/\q <:+ oy14_10/\X 11=.list (.st (.anon oy14_11 jy14_11)) (y14.2.1.map (cI .i64))/\Y.tok oy14_11 jy14_11=true/\q <:+ oy14_11/\X 17=.list .none (a1.aP.map aF.C)/\X 18=.li (a1.aP.length:Int)/\X 19=.li v6/\(oy14_10=oy14_11)=False/\(oy14_11=oy14_10)=False/\Y.blk P0=some ((bL.C y14.2.2.p_)++[.ls y14.2.2.f_.fO,.lb y14.2.2.f_.dG,.li y14.2.2.f_.bR,.li y14.2.2.f_.bC,.list .self (y14.2.2.f_.aX.map aL.C),.list .none (y14.2.2.f_.bV.map aC.C),.li y14.2.2.eX,.li y14.2.2.e_])/\Y.blk (0::q)=some ((aC.C a1))/\Y.blk (1::q)=some ((aS.C a2))/\Y.ver P0 5=zP0+y14.2.2.f_.aX.length/\Y.gl=m.gl/\m.back q Y=(m.setv P0 5 ((bL.C y14.2.2.p_)++[.ls y14.2.2.f_.fO,.lb y14.2.2.f_.dG,.li y14.2.2.f_.bR,.li y14.2.2.f_.bC,.list .self (y14.2.2.f_.aX.map aL.C),.list .none (y14.2.2.f_.bV.map aC.C),.li y14.2.2.eX,.li y14.2.2.e_]) (zP0+y14.2.2.f_.aX.length))) ?_ ?_
  ·refine dM (aK ?_);obtain ⟨x15,h20,b14⟩:=aI b14;obtain ⟨f17,f18,f19⟩:=bZ h20;refine aQ λK hK=>?_;simp only [go_sem,seval,bS u0,c13,f17,f18,f19,e12];apply hK;simp only [aB,aA];refine aK (aK (aQ λK hK=>?_));simp only [go_sem,seval,bS u0,c13,f17,f18,f19,e12];apply hK;simp only [aB,aA];refine eV b14 (λc21 b14=>?_) (λc21 b14=>?_)
   ·refine aK ?_;obtain ⟨x22,h23,b14⟩:=aI b14;obtain ⟨f24,b14⟩:=cG b14;have f25:v5.length+1<=1073741824:=by first | omega | (simp only [mS,dW,eN] at f24 ⊢;omega)
    have f26:v5.length<=1073741823:=by first | omega | (simp only [mS,dW,eN] at f24 ⊢;omega)
    refine DP (o:=o_v4) (j:=j_v4) (by simp only [go_sem,seval,bS u0,c13,f17,f18,f19,c21,f24,f25,f26,e12]) λf27=>?_;have f28:=f27 16 (by omega);refine aQ λK hK=>?_;simp only [go_sem,seval,bS u0,c13,f17,f18,f19,c21,f24,f25,f26,f28.1,f28.2,e12];refine SC.by_ (Es x15.gC a3 _ h23 _ _ _ (by simp only [go_sem,seval,bS u0,c13,f17,f18,f19,c21,f24,f25,f26,f28.1,f28.2,e12])) ?_;simp only [go_sem,seval,bS u0,c13,f17,f18,f19,c21,f24,f25,f26,f28.1,f28.2,e12];apply hK;simp only [aB,aA];refine lO ?_
    try simp only [seval,bD,aY,aB,aA]
    obtain rfl:=cC b14;refine ⟨by decide,o_v4,j_v4,(16::i3::12::q),0,?_⟩;simp only [go_sem,seval,aW,aV,aO,aZ,bE u0,l0,iG u0,fW u0,kI hvrP0,nI hvrP0,hvrP0,mS,dW,eN,Cv,←GB,bS u0,c13,f17,f18,f19,c21,f24,f25,f26,f28.1,f28.2,e12]
   ·refine cN ?_
    try simp only [aB,aA]
    refine aK (aQ λK hK=>?_);simp only [go_sem,seval,bS u0,c13,f17,f18,f19,c21,e12];apply hK;simp only [aB,aA];refine aK (aK ?_);obtain ⟨x29,h33,b14⟩:=aI b14;obtain ⟨f30,f31,f32⟩:=bZ h33;refine aQ λK hK=>?_;simp only [go_sem,seval,bS u0,c13,f17,f18,f19,c21,f30,f31,f32,e12];apply hK;simp only [aB,aA];refine eV b14 (λc34 b14=>?_) (λc34 b14=>?_)
    ·refine aQ λK hK=>?_;simp only [go_sem,seval,bS u0,c13,f17,f18,f19,c21,f30,f31,f32,c34,e12];apply hK;simp only [aB,aA];refine aK ?_;obtain ⟨x35,h36,b14⟩:=aI b14;refine aQ λK hK=>?_;simp only [go_sem,seval,bS u0,c13,f17,f18,f19,c21,f30,f31,f32,c34,e12];refine SC.bA (oM v7 _ h36 _ _ _ P0 zP0) ?_;simp only [go_sem,seval,bS u0,c13,f17,f18,f19,c21,f30,f31,f32,c34,e12];apply hK;simp only [aB,aA];refine aK ?_;obtain ⟨x37,h38,b14⟩:=aI b14;refine aQ λK hK=>?_;simp only [go_sem,seval,bS u0,c13,f17,f18,f19,c21,f30,f31,f32,c34,e12];refine SC.bA (oL x35 x29 _ h38 _ _ _ P0 zP0) ?_;simp only [go_sem,seval,bS u0,c13,f17,f18,f19,c21,f30,f31,f32,c34,e12];apply hK;simp only [aB,aA];refine aK ?_;obtain ⟨f39,b14⟩:=cG b14;have f40:v5.length+1<=1073741824:=by first | omega | (simp only [mS,dW,eN] at f39 ⊢;omega)
     have f41:v5.length<=1073741823:=by first | omega | (simp only [mS,dW,eN] at f39 ⊢;omega)
     refine DP (o:=o_v4) (j:=j_v4) (by simp only [go_sem,seval,bS u0,c13,f17,f18,f19,c21,f30,f31,f32,c34,f39,f40,f41,e12]) λf42=>?_;have f43:=f42 32 (by omega);refine aQ λK hK=>?_;simp only [go_sem,seval,bS u0,c13,f17,f18,f19,c21,f30,f31,f32,c34,f39,f40,f41,f43.1,f43.2,e12];apply hK;simp only [aB,aA];obtain ⟨x44,h45,b14⟩:=aI b14;obtain ⟨f46,b14⟩:=cG b14;have f47:v4.length+1<=1073741824:=by first | omega | (simp only [mS,dW,eN] at f46 ⊢;omega)
     have f48:v4.length<=1073741823:=by first | omega | (simp only [mS,dW,eN] at f46 ⊢;omega)
     refine mO [(3,0),(4,0),(5,0),(0,0),(1,0),(2,0),(6,0),(7,0),(8,1),(9,0),(10,0),(11,0),(12,0)] 47 λK hK=>?_;simp only [go_sem,seval,bS u0,c13,f17,f18,f19,c21,f30,f31,f32,c34,f39,f40,f41,f43.1,f43.2,f46,f47,f48,e12];refine gR (Et n x15 a3 _ h45 _ _ _ (by simp only [go_sem,seval,bS u0,c13,f17,f18,f19,c21,f30,f31,f32,c34,f39,f40,f41,f43.1,f43.2,f46,f47,f48,e12])) rfl ?_;simp only [go_sem,seval,bS u0,c13,f17,f18,f19,c21,f30,f31,f32,c34,f39,f40,f41,f43.1,f43.2,f46,f47,f48,e12];apply hK;simp only [aB,aA];obtain rfl:=cC b14;refine ⟨by decide,(45::i3::12::q),0,(32::i3::12::q),0,?_⟩;simp only [go_sem,seval,aW,aV,aO,aZ,bE u0,l0,iG u0,fW u0,kI hvrP0,nI hvrP0,hvrP0,mS,dW,eN,Cv,←GB,bS u0,c13,f17,f18,f19,c21,f30,f31,f32,c34,f39,f40,f41,f43.1,f43.2,f46,f47,f48,e12]
    ·refine cN ?_
     try simp only [aB,aA]
     refine aK ?_;obtain ⟨x49,h50,b14⟩:=aI b14;refine aQ λK hK=>?_;simp only [go_sem,seval,bS u0,c13,f17,f18,f19,c21,f30,f31,f32,c34,e12];refine SC.bA (oM v7 _ h50 _ _ _ P0 zP0) ?_;simp only [go_sem,seval,bS u0,c13,f17,f18,f19,c21,f30,f31,f32,c34,e12];apply hK;simp only [aB,aA];refine aK ?_;obtain ⟨x51,h52,b14⟩:=aI b14;refine aQ λK hK=>?_;simp only [go_sem,seval,bS u0,c13,f17,f18,f19,c21,f30,f31,f32,c34,e12];refine SC.bA (oL x49 x29 _ h52 _ _ _ P0 zP0) ?_;simp only [go_sem,seval,bS u0,c13,f17,f18,f19,c21,f30,f31,f32,c34,e12];apply hK;simp only [aB,aA];refine aK ?_;obtain ⟨f53,b14⟩:=cG b14;have f54:v5.length+1<=1073741824:=by first | omega | (simp only [mS,dW,eN] at f53 ⊢;omega)
     have f55:v5.length<=1073741823:=by first | omega | (simp only [mS,dW,eN] at f53 ⊢;omega)
     refine DP (o:=o_v4) (j:=j_v4) (by simp only [go_sem,seval,bS u0,c13,f17,f18,f19,c21,f30,f31,f32,c34,f53,f54,f55,e12]) λf56=>?_;have f57:=f56 31 (by omega);refine aQ λK hK=>?_;simp only [go_sem,seval,bS u0,c13,f17,f18,f19,c21,f30,f31,f32,c34,f53,f54,f55,f57.1,f57.2,e12];apply hK;simp only [aB,aA];obtain ⟨x58,h59,b14⟩:=aI b14;obtain ⟨f60,b14⟩:=cG b14;have f61:v4.length+1<=1073741824:=by first | omega | (simp only [mS,dW,eN] at f60 ⊢;omega)
     have f62:v4.length<=1073741823:=by first | omega | (simp only [mS,dW,eN] at f60 ⊢;omega)
     refine mO [(3,0),(4,0),(5,0),(0,0),(1,0),(2,0),(6,0),(7,0),(8,1),(9,0),(10,0),(11,0),(12,0)] 46 λK hK=>?_;simp only [go_sem,seval,bS u0,c13,f17,f18,f19,c21,f30,f31,f32,c34,f53,f54,f55,f57.1,f57.2,f60,f61,f62,e12];refine gR (Et n x15 a3 _ h59 _ _ _ (by simp only [go_sem,seval,bS u0,c13,f17,f18,f19,c21,f30,f31,f32,c34,f53,f54,f55,f57.1,f57.2,f60,f61,f62,e12])) rfl ?_;simp only [go_sem,seval,bS u0,c13,f17,f18,f19,c21,f30,f31,f32,c34,f53,f54,f55,f57.1,f57.2,f60,f61,f62,e12];apply hK;simp only [aB,aA];obtain rfl:=cC b14;refine ⟨by decide,(44::i3::12::q),0,(31::i3::12::q),0,?_⟩;simp only [go_sem,seval,aW,aV,aO,aZ,bE u0,l0,iG u0,fW u0,kI hvrP0,nI hvrP0,hvrP0,mS,dW,eN,Cv,←GB,bS u0,c13,f17,f18,f19,c21,f30,f31,f32,c34,f53,f54,f55,f57.1,f57.2,f60,f61,f62,e12]
  ·rintro E63 m64 ⟨oy14_10,jy14_10,oy14_11,jy14_11,e65⟩ _;simp only [aB,aA];refine aQ λK hK=>?_;simp only [go_sem,seval,bS u0,c13,e65];apply hK;simp only [aB,aA];refine ⟨c9,Mt _,y14.1,y14.2.1,(i64.wrap (v6+(1:Int))),y14.2.2,oy14_10,jy14_10,oy14_11,jy14_11,b8,?_⟩;simp only [go_sem,seval,aW,aV,aO,aZ,bE u0,l0,iG u0,fW u0,kI hvrP0,nI hvrP0,hvrP0,mS,dW,eN,Cv,←GB,bS u0,c13,e65]
 ·refine lO ?_
  try simp only [seval,bD,aY,aB,aA]
  obtain rfl:=cC b8;refine aK (aQ λK hK=>?_);simp only [go_sem,seval,bS u0,c13,e12];apply hK;simp only [aB,aA];refine cR ?_
  try simp only [aU,aR]
  cases h;refine ⟨by simp,?_⟩;refine ⟨o_v4,j_v4,o_v5,j_v5,?_,?_,?_,?_,?_,?_,?_,?_⟩ <;> simp only [go_sem,seval,aW,aV,aO,aZ,bE u0,l0,iG u0,fW u0,kI hvrP0,nI hvrP0,hvrP0,mS,dW,eN,Cv,←GB,bS u0,c13,e12]
def CK (f:aJ->aC->(List Int)->aC->Option aC):Prop:=∀a0 a1 a2 a3 r,f a0 a1 a2 a3=some r->∀(q:Pa) (m:M) (vs:List V) (P0:Pa) (zP0:Nat),vs.map V.weak1=[.ptr P0 0,.agg ((aC.C a1)),.list .none (a2.map (cI .i64)),.agg ((aC.C a3))]/\m.blk P0=some ((bL.C a0.p_)++[.ls a0.f_.fO,.lb a0.f_.dG,.li a0.f_.bR,.li a0.f_.bC,.list .self (a0.f_.aX.map aL.C),.list .none (a0.f_.bV.map aC.C),.li a0.eX,.li a0.e_])/\m.ver P0 5=zP0+a0.f_.aX.length->SC prog 169 vs q m (λv Y=>v=.agg ((aC.C r))/\Y=m)
theorem BO:CK (jJ):=by
 rintro a0 a1 a2 a3 r h q m vs P0 zP0 ⟨hv,w0,hvrP0⟩;refine SC.wv hv ?_;refine SC.apart w0 λu0=>?_
 try simp only [go_sem,seval] at w0
 refine sL func169 call169 ntmps169 results169 ?_;unfold jJ at h;refine aK (aQ λK hK=>?_);simp only [go_sem,seval,cU u0,w0,hvrP0];apply hK;simp only [aB,aA];refine aK ?_;obtain ⟨x4,h8,h⟩:=aI h;obtain ⟨f5,f6,f7⟩:=bZ h8;refine Gg (o0 [0,1,2,3,4,5,6,7,8,9,10]) 14 ?_;simp only [aB,aA];refine aK (aK (aQ λK hK=>?_));simp only [go_sem,seval,cU u0,f5,f6,f7,w0,hvrP0];apply hK;simp only [aB,aA];refine dM (aK (aQ λK hK=>?_));simp only [go_sem,seval,cU u0,f5,f6,f7,w0,hvrP0];apply hK;simp only [aB,aA];refine eV h (λc9 h=>?_) (λc9 h=>?_)
 ·refine aK (aK (aQ λK hK=>?_));simp only [go_sem,seval,cU u0,f5,f6,f7,c9,w0,hvrP0];apply hK;simp only [aB,aA];refine eV h (λc10 h=>?_) (λc10 h=>?_)
  ·refine aQ λK hK=>?_;simp only [go_sem,seval,cU u0,f5,f6,f7,c9,c10,w0,hvrP0];apply hK;simp only [aB,aA];refine aK (aQ λK hK=>?_);simp only [go_sem,seval,cU u0,f5,f6,f7,c9,c10,w0,hvrP0];apply hK;simp only [aB,aA];refine cR ?_
   try simp only [aU,aR]
   cases h;exact jS
  ·refine cN ?_
   try simp only [aB,aA]
   refine aK (aQ λK hK=>?_);simp only [go_sem,seval,cU u0,f5,f6,f7,c9,c10,w0,hvrP0];apply hK;simp only [aB,aA];refine cR ?_
   try simp only [aU,aR]
   cases h;exact jS
 ·refine aK (aQ λK hK=>?_);simp only [go_sem,seval,cU u0,f5,f6,f7,c9,w0,hvrP0];apply hK;simp only [aB,aA];refine eV h (λc11 h=>?_) (λc11 h=>?_)
  ·refine aK (aQ λK hK=>?_);simp only [go_sem,seval,cU u0,f5,f6,f7,c9,c11,w0,hvrP0];apply hK;simp only [aB,aA];refine cR ?_
   try simp only [aU,aR]
   cases h;exact jS
  ·refine cN ?_
   try simp only [aB,aA]
   refine aK ?_;obtain ⟨x12,h13,h⟩:=aI h;refine mO [(0,0),(1,0),(2,0),(3,0),(4,0),(5,1),(6,0),(7,0)] 28 λK hK=>?_;simp only [go_sem,seval,cU u0,f5,f6,f7,c9,c11,w0,hvrP0];refine Ka (Es a1.gC a2 _ h13 _ _ _) ?_;simp only [go_sem,seval,cU u0,f5,f6,f7,c9,c11,w0,hvrP0];apply hK;simp only [aB,aA];refine cR ?_
   try simp only [aU,aR]
   cases h;exact jS
def Ds (f:aJ->aF->aC->Option (aC × aJ)):Prop:=∀a0 a1 a2 r,f a0 a1 a2=some r->∀(q:Pa) (m:M) (vs:List V) (P0:Pa) (zP0:Nat),vs.map V.weak1=[.ptr P0 0,.agg ((aF.C a1)),.agg ((aC.C a2))]/\m.blk P0=some ((bL.C a0.p_)++[.ls a0.f_.fO,.lb a0.f_.dG,.li a0.f_.bR,.li a0.f_.bC,.list .self (a0.f_.aX.map aL.C),.list .none (a0.f_.bV.map aC.C),.li a0.eX,.li a0.e_])/\m.ver P0 5=zP0+a0.f_.aX.length->SC prog 132 vs q m (λv Y=>v=.agg ((aC.C r.1))/\Y=(m.setv P0 5 ((bL.C r.2.p_)++[.ls r.2.f_.fO,.lb r.2.f_.dG,.li r.2.f_.bR,.li r.2.f_.bC,.list .self (r.2.f_.aX.map aL.C),.list .none (r.2.f_.bV.map aC.C),.li r.2.eX,.li r.2.e_]) (zP0+r.2.f_.aX.length)))
theorem uS:Ds (eE):=by
 rintro a0 a1 a2 r h q m vs P0 zP0 ⟨hv,w0,hvrP0⟩;refine SC.wv hv ?_;refine SC.ap w0 λu0 l0=>?_
 try simp only [go_sem,seval] at w0 l0
 refine sL func132 call132 ntmps132 results132 ?_;unfold eE at h;refine aK (aQ λK hK=>?_);simp only [go_sem,seval,cU u0,w0,hvrP0];apply hK;simp only [aB,aA];refine aK (aQ λK hK=>?_);simp only [go_sem,seval,cU u0,w0,hvrP0];apply hK;simp only [aB,aA];refine aK (aK (aQ λK hK=>?_));simp only [go_sem,seval,cU u0,w0,hvrP0];apply hK;simp only [aB,aA];refine eV h (λc4 h=>?_) (λc4 h=>?_)
 ·obtain ⟨x5,h6,h⟩:=aI h;refine aQ λK hK=>?_;simp only [go_sem,seval,cU u0,c4,w0,hvrP0];refine SC.bA (oL a0 (aL.mk [] a2.iC (0:Int)) _ h6 _ _ _ P0 zP0) ?_;simp only [go_sem,seval,cU u0,c4,w0,hvrP0];apply hK;simp only [aB,aA];refine aK (aQ λK hK=>?_);simp only [go_sem,seval,cU u0,c4,w0,hvrP0];apply hK;simp only [aB,aA];refine aK (aQ λK hK=>?_);simp only [go_sem,seval,cU u0,c4,w0,hvrP0];apply hK;simp only [aB,aA];refine cR ?_
  try simp only [aU,aR]
  cases h;refine ⟨by simp,?_⟩;simp only [go_sem,seval,aW,aV,aO,aZ,bE u0,l0,iG u0,fW u0,kI hvrP0,nI hvrP0,hvrP0,mS,dW,eN,Cv,←GB,cU u0,c4,w0]
 ·refine cN ?_
  try simp only [aB,aA]
  refine aK (aQ λK hK=>?_);simp only [go_sem,seval,cU u0,c4,w0,hvrP0];apply hK;simp only [aB,aA];refine aK (aQ λK hK=>?_);simp only [go_sem,seval,cU u0,c4,w0,hvrP0];apply hK;simp only [aB,aA];refine cR ?_
  try simp only [aU,aR]
  cases h;refine ⟨by simp,?_⟩;simp only [go_sem,seval,aW,aV,aO,aZ,bE u0,l0,iG u0,fW u0,kI hvrP0,nI hvrP0,hvrP0,mS,dW,eN,Cv,←GB,cU u0,c4,w0]
def mH (f:aJ->(List aC)->(List Int)->aC->Option ((List aC) × aJ)):Prop:=∀a0 a1 a2 a3 r,f a0 a1 a2 a3=some r->∀(q:Pa) (m:M) (vs:List V) (P0:Pa) (zP0:Nat),vs.map V.weak1=[.ptr P0 0,.list .none (a1.map aC.C),.list .none (a2.map (cI .i64)),.agg ((aC.C a3))]/\m.blk P0=some ((bL.C a0.p_)++[.ls a0.f_.fO,.lb a0.f_.dG,.li a0.f_.bR,.li a0.f_.bC,.list .self (a0.f_.aX.map aL.C),.list .none (a0.f_.bV.map aC.C),.li a0.eX,.li a0.e_])/\m.ver P0 5=zP0+a0.f_.aX.length->SC prog 62 vs q m (λv Y=>v=.list .none (r.1.map aC.C)/\Y=(m.setv P0 5 ((bL.C r.2.p_)++[.ls r.2.f_.fO,.lb r.2.f_.dG,.li r.2.f_.bR,.li r.2.f_.bC,.list .self (r.2.f_.aX.map aL.C),.list .none (r.2.f_.bV.map aC.C),.li r.2.eX,.li r.2.e_]) (zP0+r.2.f_.aX.length)))
def qA (f:aJ->aC->(List Int)->aC->Option ((List aC) × aJ)):Prop:=∀a0 a1 a2 a3 r,f a0 a1 a2 a3=some r->∀(q:Pa) (m:M) (vs:List V) (P0:Pa) (zP0:Nat),vs.map V.weak1=[.ptr P0 0,.agg ((aC.C a1)),.list .none (a2.map (cI .i64)),.agg ((aC.C a3))]/\m.blk P0=some ((bL.C a0.p_)++[.ls a0.f_.fO,.lb a0.f_.dG,.li a0.f_.bR,.li a0.f_.bC,.list .self (a0.f_.aX.map aL.C),.list .none (a0.f_.bV.map aC.C),.li a0.eX,.li a0.e_])/\m.ver P0 5=zP0+a0.f_.aX.length->SC prog 96 vs q m (λv Y=>v=.list .none (r.1.map aC.C)/\Y=(m.setv P0 5 ((bL.C r.2.p_)++[.ls r.2.f_.fO,.lb r.2.f_.dG,.li r.2.f_.bR,.li r.2.f_.bC,.list .self (r.2.f_.aX.map aL.C),.list .none (r.2.f_.bV.map aC.C),.li r.2.eX,.li r.2.e_]) (zP0+r.2.f_.aX.length)))
def sG (f:aJ->aC->(List Int)->aC->Option ((List aC) × aJ)):Prop:=∀a0 a1 a2 a3 r,f a0 a1 a2 a3=some r->∀(q:Pa) (m:M) (vs:List V) (P0:Pa) (zP0:Nat),vs.map V.weak1=[.ptr P0 0,.agg ((aC.C a1)),.list .none (a2.map (cI .i64)),.agg ((aC.C a3))]/\m.blk P0=some ((bL.C a0.p_)++[.ls a0.f_.fO,.lb a0.f_.dG,.li a0.f_.bR,.li a0.f_.bC,.list .self (a0.f_.aX.map aL.C),.list .none (a0.f_.bV.map aC.C),.li a0.eX,.li a0.e_])/\m.ver P0 5=zP0+a0.f_.aX.length->SC prog 129 vs q m (λv Y=>v=.list .none (r.1.map aC.C)/\Y=(m.setv P0 5 ((bL.C r.2.p_)++[.ls r.2.f_.fO,.lb r.2.f_.dG,.li r.2.f_.bR,.li r.2.f_.bC,.list .self (r.2.f_.aX.map aL.C),.list .none (r.2.f_.bV.map aC.C),.li r.2.eX,.li r.2.e_]) (zP0+r.2.f_.aX.length)))
theorem AB {eA} (yB:qA eA) (n:Nat):mH (fE eA n):=by
 rintro a0 a1 a2 a3 r h q m vs P0 zP0 ⟨hv,w0,hvrP0⟩;refine SC.wv hv ?_;refine SC.ap w0 λu0 l0=>?_
 try simp only [go_sem,seval] at w0 l0
 refine sL func62 call62 ntmps62 results62 ?_;unfold fE at h;refine aK (aQ λK hK=>?_);simp only [go_sem,seval,bS u0,w0,hvrP0];apply hK;simp only [aB,aA];refine aK (aQ λK hK=>?_);simp only [go_sem,seval,bS u0,w0,hvrP0];apply hK;simp only [aB,aA];refine aK (aK (aQ λK hK=>?_));simp only [go_sem,seval,bS u0,w0,hvrP0];apply hK;simp only [aB,aA];refine dM ?_;obtain ⟨y6,b6,h⟩:=aI h;refine BF 9 ([].map aC.C) rfl (by simp only [go_sem,seval,bS u0,w0,hvrP0]) ?_;refine wM (λc X Y=>∃v3 v4 v5 o_v3 j_v3,dC eA a1 a2 a3 c v3 v4 v5=some y6/\X 0=.ptr P0 0/\X 2=.list .none (a2.map (cI .i64))/\X 7=.ptr (0::q) 0/\X 9=.list (.st (.anon o_v3 j_v3)) (v3.map aC.C)/\Y.tok o_v3 j_v3=true/\q <:+ o_v3/\X 12=.list .none (a1.map aC.C)/\X 13=.li (a1.length:Int)/\X 14=.li v4/\Y.blk P0=some ((bL.C v5.p_)++[.ls v5.f_.fO,.lb v5.f_.dG,.li v5.f_.bR,.li v5.f_.bC,.list .self (v5.f_.aX.map aL.C),.list .none (v5.f_.bV.map aC.C),.li v5.eX,.li v5.e_])/\Y.blk (0::q)=some ((aC.C a3))/\Y.ver P0 5=zP0+v5.f_.aX.length/\Y.gl=m.gl/\m.back q Y=(m.setv P0 5 ((bL.C v5.p_)++[.ls v5.f_.fO,.lb v5.f_.dG,.li v5.f_.bR,.li v5.f_.bC,.list .self (v5.f_.aX.map aL.C),.list .none (v5.f_.bV.map aC.C),.li v5.eX,.li v5.e_]) (zP0+v5.f_.aX.length))) n ⟨[],(0:Int),a0,(6::q),0,b6,?_⟩ ?_
 ·simp only [go_sem,seval,aW,aV,aO,aZ,bE u0,l0,iG u0,fW u0,kI hvrP0,nI hvrP0,hvrP0,mS,dW,eN,Cv,←GB,bS u0,w0]
 rintro i2 c7 E8 m9 ⟨v3,v4,v5,o_v3,j_v3,b6,e10⟩ _
 rcases c7 with _ | c7
 ·cases b6
 rw [dC] at b6;refine aK (aQ λK hK=>?_);simp only [go_sem,seval,bS u0,e10];apply hK;simp only [aB,aA];refine aK (eV b6 (λc11 b6=>?_) (λc11 b6=>?_))
 ·refine cN ?_
  try simp only [aB,aA]
  refine aK (dM (aK ?_));obtain ⟨x12,h17,b6⟩:=aI b6;obtain ⟨f14,f15,f16⟩:=bZ h17;refine aQ λK hK=>?_;simp only [go_sem,seval,bS u0,c11,f14,f15,f16,e10];apply hK;simp only [aB,aA];refine aK (aK (aQ λK hK=>?_));simp only [go_sem,seval,bS u0,c11,f14,f15,f16,e10];apply hK;simp only [aB,aA];refine eV b6 (λc18 b6=>?_) (λc18 b6=>?_)
  ·refine aK (aQ λK hK=>?_);simp only [go_sem,seval,bS u0,c11,f14,f15,f16,c18,e10];apply hK;simp only [aB,aA];refine cR ?_
   try simp only [aU,aR]
   obtain rfl:=cC b6;simp only [xeq,xei] at h;cases h;refine ⟨by simp,?_⟩;simp only [go_sem,seval,aW,aV,aO,aZ,bE u0,l0,iG u0,fW u0,kI hvrP0,nI hvrP0,hvrP0,mS,dW,eN,Cv,←GB,bS u0,c11,f14,f15,f16,c18,e10]
  ·refine cN ?_
   try simp only [aB,aA]
   obtain ⟨x19,h20,b6⟩:=aI b6;obtain ⟨f21,b6⟩:=cG b6;have f22:v3.length+x19.1.length<=1073741824:=by first | omega | (simp only [mS,dW,eN] at f21 ⊢;omega)
   refine aQ λK hK=>?_;simp only [go_sem,seval,bS u0,c11,f14,f15,f16,c18,f21,f22,e10];refine SC.bA (yB v5 x12 a2 a3 _ h20 _ _ _ P0 zP0) ?_;simp only [go_sem,seval,bS u0,c11,f14,f15,f16,c18,f21,f22,e10];apply hK;simp only [aB,aA];refine aQ λK hK=>?_;simp only [go_sem,seval,bS u0,c11,f14,f15,f16,c18,f21,f22,e10];apply hK;simp only [aB,aA];refine ⟨c7,Mt _,(v3++x19.1),(i64.wrap (v4+(1:Int))),x19.2,(16::i2::7::q),0,b6,?_⟩;simp only [go_sem,seval,aW,aV,aO,aZ,bE u0,l0,iG u0,fW u0,kI hvrP0,nI hvrP0,hvrP0,mS,dW,eN,Cv,←GB,bS u0,c11,f14,f15,f16,c18,f21,f22,e10]
 ·refine lO ?_
  try simp only [seval,bD,aY,aB,aA]
  obtain rfl:=cC b6;simp only [xeq,xei] at h;refine aK (aQ λK hK=>?_);simp only [go_sem,seval,bS u0,c11,e10];apply hK;simp only [aB,aA];refine cR ?_
  try simp only [aU,aR]
  cases h;refine ⟨by simp,?_⟩;simp only [go_sem,seval,aW,aV,aO,aZ,bE u0,l0,iG u0,fW u0,kI hvrP0,nI hvrP0,hvrP0,mS,dW,eN,Cv,←GB,bS u0,c11,e10]
theorem yA {oJ} (Bx:sG oJ) {dR} (nJ:mH dR) (n:Nat):qA (dU oJ dR n):=by
 rintro a0 a1 a2 a3 r h q m vs P0 zP0 ⟨hv,w0,hvrP0⟩;refine SC.wv hv ?_;refine SC.ap w0 λu0 l0=>?_
 try simp only [go_sem,seval] at w0 l0
 refine sL func96 call96 ntmps96 results96 ?_;unfold dU at h;refine aK (aQ λK hK=>?_);simp only [go_sem,seval,cU u0,w0,hvrP0];apply hK;simp only [aB,aA];refine aK (aK (aQ λK hK=>?_));simp only [go_sem,seval,cU u0,w0,hvrP0];apply hK;simp only [aB,aA];refine eV h (λc3 h=>?_) (λc3 h=>?_)
 ·refine aK ?_;obtain ⟨x4,h5,h⟩:=aI h;refine aQ λK hK=>?_;simp only [go_sem,seval,cU u0,c3,w0,hvrP0];refine SC.bA (Bx a0 a1 a2 a3 _ h5 _ _ _ P0 zP0) ?_;simp only [go_sem,seval,cU u0,c3,w0,hvrP0];apply hK;simp only [aB,aA];refine cR ?_
  try simp only [aU,aR]
  cases h;refine ⟨by simp,?_⟩;simp only [go_sem,seval,aW,aV,aO,aZ,bE u0,l0,iG u0,fW u0,kI hvrP0,nI hvrP0,hvrP0,mS,dW,eN,Cv,←GB,cU u0,c3,w0]
 ·refine cN ?_
  try simp only [aB,aA]
  refine aK ?_;obtain ⟨x6,h7,h⟩:=aI h;refine aQ λK hK=>?_;simp only [go_sem,seval,cU u0,c3,w0,hvrP0];refine SC.bA (oM a0 _ h7 _ _ _ P0 zP0) ?_;simp only [go_sem,seval,cU u0,c3,w0,hvrP0];apply hK;simp only [aB,aA];refine aK (aK (aQ λK hK=>?_));simp only [go_sem,seval,cU u0,c3,w0,hvrP0];apply hK;simp only [aB,aA];refine eV h (λc8 h=>?_) (λc8 h=>?_)
  ·refine aK ?_;obtain ⟨x9,h15,h⟩:=aI h;obtain ⟨f12,f13,f14⟩:=bZ h15;have f16:a1.aP[0]? = some x9:=f14;obtain ⟨x10,h17,h⟩:=aI h;refine aQ λK hK=>?_;simp only [go_sem,seval,cU u0,c3,c8,f12,f13,f14,f16,w0,hvrP0];refine SC.bA (Et n x9 a2 _ h17 _ _ _) ?_;simp only [go_sem,seval,cU u0,c3,c8,f12,f13,f14,f16,w0,hvrP0];apply hK;simp only [aB,aA];refine aK (aK (aQ λK hK=>?_));simp only [go_sem,seval,cU u0,c3,c8,f12,f13,f14,f16,w0,hvrP0];apply hK;simp only [aB,aA];refine eV h (λc18 h=>?_) (λc18 h=>?_)
   ·refine aQ λK hK=>?_;simp only [go_sem,seval,cU u0,c3,c8,f12,f13,f14,f16,c18,w0,hvrP0];apply hK;simp only [aB,aA];refine aK ?_;obtain ⟨x19,h20,h⟩:=aI h;refine aQ λK hK=>?_;simp only [go_sem,seval,cU u0,c3,c8,f12,f13,f14,f16,c18,w0,hvrP0];refine SC.bA (uS x6 x10 ({ a3 with fC:=a1.fC }:aC) _ h20 _ _ _ P0 zP0) ?_;simp only [go_sem,seval,cU u0,c3,c8,f12,f13,f14,f16,c18,w0,hvrP0];apply hK;simp only [aB,aA];refine cR ?_
    try simp only [aU,aR]
    cases h;refine ⟨by simp,?_⟩;simp only [go_sem,seval,aW,aV,aO,aZ,bE u0,l0,iG u0,fW u0,kI hvrP0,nI hvrP0,hvrP0,mS,dW,eN,Cv,←GB,cU u0,c3,c8,f12,f13,f14,f16,c18,w0]
   ·refine cN ?_
    try simp only [aB,aA]
    refine aK ?_;obtain ⟨x21,h22,h⟩:=aI h;refine aQ λK hK=>?_;simp only [go_sem,seval,cU u0,c3,c8,f12,f13,f14,f16,c18,w0,hvrP0];refine SC.bA (uS x6 x10 a3 _ h22 _ _ _ P0 zP0) ?_;simp only [go_sem,seval,cU u0,c3,c8,f12,f13,f14,f16,c18,w0,hvrP0];apply hK;simp only [aB,aA];refine cR ?_
    try simp only [aU,aR]
    cases h;refine ⟨by simp,?_⟩;simp only [go_sem,seval,aW,aV,aO,aZ,bE u0,l0,iG u0,fW u0,kI hvrP0,nI hvrP0,hvrP0,mS,dW,eN,Cv,←GB,cU u0,c3,c8,f12,f13,f14,f16,c18,w0]
  ·refine cN ?_
   try simp only [aB,aA]
   refine aK ?_;obtain ⟨x23,h25,h⟩:=aI h;obtain ⟨x24,h26,h⟩:=aI h;refine mO [(0,0),(1,0),(2,0),(3,0),(4,0),(5,1),(6,0),(7,0),(8,0),(9,0),(10,0),(11,0)] 23 λK hK=>?_;simp only [go_sem,seval,cU u0,c3,c8,w0,hvrP0];refine Ka (Es a1.gC a2 _ h25 _ _ _) ?_;simp only [go_sem,seval,cU u0,c3,c8,w0,hvrP0];refine Ka (KH n a1.aP a2 _ h26 _ _ _) ?_;simp only [go_sem,seval,cU u0,c3,c8,w0,hvrP0];apply hK;simp only [aB,aA];refine aK ?_;obtain ⟨x27,h29,h⟩:=aI h;obtain ⟨x28,h30,h⟩:=aI h;refine mO [(0,0),(1,0),(2,0),(3,0),(4,0),(5,0),(6,0),(7,0),(8,1),(9,0),(10,1),(11,0),(12,0),(13,0),(14,0),(15,0)] 39 λK hK=>?_;simp only [go_sem,seval,cU u0,c3,c8,w0,hvrP0];refine Ka (nJ x6 a1.bV a2 a3 _ h29 _ _ _ P0 zP0) ?_;simp only [go_sem,seval,cU u0,c3,c8,w0,hvrP0];refine Ka (nJ x27.2 a1.gT a2 a3 _ h30 _ _ _ P0 zP0) ?_;simp only [go_sem,seval,cU u0,c3,c8,w0,hvrP0];apply hK;simp only [aB,aA];refine aK (aQ λK hK=>?_);simp only [go_sem,seval,cU u0,c3,c8,w0,hvrP0];apply hK;simp only [aB,aA];refine cR ?_
   try simp only [aU,aR]
   cases h;refine ⟨by simp,?_⟩;simp only [go_sem,seval,aW,aV,aO,aZ,bE u0,l0,iG u0,fW u0,kI hvrP0,nI hvrP0,hvrP0,mS,dW,eN,Cv,←GB,cU u0,c3,c8,w0]
theorem Bj {dR} (nJ:mH dR) (n:Nat):sG (fN dR n):=by
 rintro a0 a1 a2 a3 r h q m vs P0 zP0 ⟨hv,w0,hvrP0⟩;refine SC.wv hv ?_;refine SC.ap w0 λu0 l0=>?_
 try simp only [go_sem,seval] at w0 l0
 refine sL func129 call129 ntmps129 results129 ?_;unfold fN at h;refine aK (aQ λK hK=>?_);simp only [go_sem,seval,bS u0,w0,hvrP0];apply hK;simp only [aB,aA];refine aK ?_;obtain ⟨x3,h4,h⟩:=aI h;refine aQ λK hK=>?_;simp only [go_sem,seval,bS u0,w0,hvrP0];refine SC.bA (oM a0 _ h4 _ _ _ P0 zP0) ?_;simp only [go_sem,seval,bS u0,w0,hvrP0];apply hK;simp only [aB,aA];refine aK ?_;obtain ⟨x5,h10,h⟩:=aI h;obtain ⟨f7,f8,f9⟩:=bZ h10;refine Gg (o0 [0,1,2,3,4,5,6,7,8,9,10]) 16 ?_;simp only [aB,aA];refine aK ?_;obtain ⟨x11,h12,h⟩:=aI h;refine aQ λK hK=>?_;simp only [go_sem,seval,bS u0,f7,f8,f9,w0,hvrP0];refine SC.mono (CS n x3 a1 x5 a2 _ h12 _ _ _ P0 zP0 (by simp only [go_sem,seval,bS u0,f7,f8,f9,w0,hvrP0])) ?_;rintro _ _ ⟨o_x11,j_x11,o2_x11,j2_x11,s_x11,s2_x11,d_x11,d2_x11,rfl,rfl⟩;replace s_x11:q <:+ o_x11:=List.IsSuffix.trans (by simp only [go_sem]) s_x11;replace s2_x11:q <:+ o2_x11:=List.IsSuffix.trans (by simp only [go_sem]) s2_x11;simp only [go_sem,seval,bS u0,f7,f8,f9,s_x11,s2_x11,d_x11,d2_x11,w0,hvrP0];apply hK;simp only [aB,aA];refine aK (aK ?_);obtain ⟨⟨f13,f14⟩,h⟩:=cG h;refine aQ λK hK=>?_;simp only [go_sem,seval,bS u0,f7,f8,f9,s_x11,s2_x11,d_x11,d2_x11,f13,f14,w0,hvrP0];apply hK;simp only [aB,aA];refine dM ?_;obtain ⟨y19,b19,h⟩:=aI h;refine wM (λc X Y=>∃v16 v17 v18 o_v16 j_v16,eG x5 c v16 v17 v18=some y19/\X 0=.ptr P0 0/\X 2=.list .none (a2.map (cI .i64))/\X 5=.ptr (0::q) 0/\X 7=.ptr (1::q) 0/\X 9=.ptr (14::q) 0/\X 10=.list (.st (.anon o_x11 j_x11)) (x11.1.map aC.C)/\Y.tok o_x11 j_x11=true/\q <:+ o_x11/\X 11=.list (.st (.anon o_v16 j_v16)) (v16.map (cI .i64))/\Y.tok o_v16 j_v16=true/\q <:+ o_v16/\X 37=.list .none ((x5.aX.drop x5.bC.toNat).map aL.C)/\X 38=.li ((x5.aX.drop x5.bC.toNat).length:Int)/\X 39=.li v17/\(o_x11=o_v16)=False/\(o_v16=o_x11)=False/\Y.blk P0=some ((bL.C v18.p_)++[.ls v18.f_.fO,.lb v18.f_.dG,.li v18.f_.bR,.li v18.f_.bC,.list .self (v18.f_.aX.map aL.C),.list .none (v18.f_.bV.map aC.C),.li v18.eX,.li v18.e_])/\Y.blk (0::q)=some ((aC.C a1))/\Y.blk (1::q)=some ((aC.C a3))/\Y.blk (14::q)=some ((aS.C x5))/\Y.ver P0 5=zP0+v18.f_.aX.length/\Y.gl=m.gl/\m.back q Y=(m.setv P0 5 ((bL.C v18.p_)++[.ls v18.f_.fO,.lb v18.f_.dG,.li v18.f_.bR,.li v18.f_.bC,.list .self (v18.f_.aX.map aL.C),.list .none (v18.f_.bV.map aC.C),.li v18.eX,.li v18.e_]) (zP0+v18.f_.aX.length))) n ⟨x11.2.1,(0:Int),x11.2.2,o2_x11,j2_x11,b19,?_⟩ ?_
 ·simp only [go_sem,seval,aW,aV,aO,aZ,bE u0,l0,iG u0,fW u0,kI hvrP0,nI hvrP0,hvrP0,mS,dW,eN,Cv,←GB,bS u0,f7,f8,f9,s_x11,s2_x11,d_x11,d2_x11,f13,f14,w0]
 rintro i15 c20 E21 m22 ⟨v16,v17,v18,o_v16,j_v16,b19,e23⟩ _
 rcases c20 with _ | c20
 ·cases b19
 rw [eG] at b19;refine aK (aQ λK hK=>?_);simp only [go_sem,seval,bS u0,f7,f8,f9,s_x11,s2_x11,d_x11,d2_x11,f13,f14,e23];apply hK;simp only [aB,aA];refine aK (eV b19 (λc24 b19=>?_) (λc24 b19=>?_))
 ·refine cN ?_
  try simp only [aB,aA]
  refine aK (dM (aK ?_));obtain ⟨x25,h30,b19⟩:=aI b19;obtain ⟨f27,f28,f29⟩:=bZ h30;refine aQ λK hK=>?_;simp only [go_sem,seval,bS u0,f7,f8,f9,s_x11,s2_x11,d_x11,d2_x11,f13,f14,c24,f27,f28,f29,e23];apply hK;simp only [aB,aA];obtain ⟨x31,h32,b19⟩:=aI b19;obtain ⟨f33,b19⟩:=cG b19;have f34:v16.length+1<=1073741824:=by first | omega | (simp only [mS,dW,eN] at f33 ⊢;omega)
  have f35:v16.length<=1073741823:=by first | omega | (simp only [mS,dW,eN] at f33 ⊢;omega)
  refine DP (o:=o_x11) (j:=j_x11) (by simp only [go_sem,seval,bS u0,f7,f8,f9,s_x11,s2_x11,d_x11,d2_x11,f13,f14,c24,f27,f28,f29,f33,f34,f35,e23]) λf36=>?_;have f37:=f36 10 (by omega);refine aQ λK hK=>?_;simp only [go_sem,seval,bS u0,f7,f8,f9,s_x11,s2_x11,d_x11,d2_x11,f13,f14,c24,f27,f28,f29,f33,f34,f35,f37.1,f37.2,e23];refine SC.by_ (oL v18 x25 _ h32 _ _ _ P0 zP0 (by simp only [go_sem,seval,bS u0,f7,f8,f9,s_x11,s2_x11,d_x11,d2_x11,f13,f14,c24,f27,f28,f29,f33,f34,f35,f37.1,f37.2,e23])) ?_;simp only [go_sem,seval,bS u0,f7,f8,f9,s_x11,s2_x11,d_x11,d2_x11,f13,f14,c24,f27,f28,f29,f33,f34,f35,f37.1,f37.2,e23];apply hK;simp only [aB,aA];refine aQ λK hK=>?_;simp only [go_sem,seval,bS u0,f7,f8,f9,s_x11,s2_x11,d_x11,d2_x11,f13,f14,c24,f27,f28,f29,f33,f34,f35,f37.1,f37.2,e23];apply hK;simp only [aB,aA];refine ⟨c20,Mt _,(v16++[x31.1]),(i64.wrap (v17+(1:Int))),x31.2,(10::i15::33::q),0,b19,?_⟩;simp only [go_sem,seval,aW,aV,aO,aZ,bE u0,l0,iG u0,fW u0,kI hvrP0,nI hvrP0,hvrP0,mS,dW,eN,Cv,←GB,bS u0,f7,f8,f9,s_x11,s2_x11,d_x11,d2_x11,f13,f14,c24,f27,f28,f29,f33,f34,f35,f37.1,f37.2,e23]
 ·refine lO ?_
  try simp only [seval,bD,aY,aB,aA]
  obtain rfl:=cC b19;refine aK (aK (aQ λK hK=>?_));simp only [go_sem,seval,bS u0,f7,f8,f9,s_x11,s2_x11,d_x11,d2_x11,f13,f14,c24,e23];apply hK;simp only [aB,aA];refine eV h (λc38 h=>?_) (λc38 h=>?_)
  ·refine aK (aQ λK hK=>?_);simp only [go_sem,seval,bS u0,f7,f8,f9,s_x11,s2_x11,d_x11,d2_x11,f13,f14,c24,c38,e23];apply hK;simp only [aB,aA];refine cR ?_
   try simp only [aU,aR]
   cases h;refine ⟨by simp,?_⟩;simp only [go_sem,seval,aW,aV,aO,aZ,bE u0,l0,iG u0,fW u0,kI hvrP0,nI hvrP0,hvrP0,mS,dW,eN,Cv,←GB,bS u0,f7,f8,f9,s_x11,s2_x11,d_x11,d2_x11,f13,f14,c24,c38,e23]
  ·refine cN ?_
   try simp only [aB,aA]
   refine aK ?_;obtain ⟨x39,h41,h⟩:=aI h;obtain ⟨x40,h42,h⟩:=aI h;obtain ⟨f43,h⟩:=cG h;have f44:x11.1.length+x40.1.length<=1073741824:=by first | omega | (simp only [mS,dW,eN] at f43 ⊢;omega)
   refine DP (o:=o_v16) (j:=j_v16) (by simp only [go_sem,seval,bS u0,f7,f8,f9,s_x11,s2_x11,d_x11,d2_x11,f13,f14,c24,c38,f43,f44,e23]) λf45=>?_;have f46:=f45 50 (by omega);refine mO [(5,0),(6,0),(7,0),(8,0),(9,0),(1,0),(2,0),(3,1),(4,0),(10,0),(0,0),(11,0),(12,0)] 52 λK hK=>?_;simp only [go_sem,seval,bS u0,f7,f8,f9,s_x11,s2_x11,d_x11,d2_x11,f13,f14,c24,c38,f43,f44,f46.1,f46.2,e23];refine gR (BO v18 a1 a2 a3 _ h41 _ _ _ P0 zP0 (by simp only [go_sem,seval,bS u0,f7,f8,f9,s_x11,s2_x11,d_x11,d2_x11,f13,f14,c24,c38,f43,f44,f46.1,f46.2,e23])) rfl ?_;simp only [go_sem,seval,bS u0,f7,f8,f9,s_x11,s2_x11,d_x11,d2_x11,f13,f14,c24,c38,f43,f44,f46.1,f46.2,e23];refine gR (nJ v18 x5.bV v16 x39 _ h42 _ _ _ P0 zP0 (by simp only [go_sem,seval,bS u0,f7,f8,f9,s_x11,s2_x11,d_x11,d2_x11,f13,f14,c24,c38,f43,f44,f46.1,f46.2,e23])) rfl ?_;simp only [go_sem,seval,bS u0,f7,f8,f9,s_x11,s2_x11,d_x11,d2_x11,f13,f14,c24,c38,f43,f44,f46.1,f46.2,e23];apply hK;simp only [aB,aA];refine cR ?_
   try simp only [aU,aR]
   cases h;refine ⟨by simp,?_⟩;simp only [go_sem,seval,aW,aV,aO,aZ,bE u0,l0,iG u0,fW u0,kI hvrP0,nI hvrP0,hvrP0,mS,dW,eN,Cv,←GB,bS u0,f7,f8,f9,s_x11,s2_x11,d_x11,d2_x11,f13,f14,c24,c38,f43,f44,f46.1,f46.2,e23]
theorem sO:∀n,mH (dV n)/\qA (fJ n)/\sG (kH n)
 | 0=>⟨λ_ _ _ _ _ h=>dS h,λ_ _ _ _ _ h=>dS h,λ_ _ _ _ _ h=>dS h⟩
 | n+1=>
   have ih:=sO n
   ⟨AB ih.2.1 n,yA ih.2.2 ih.1 n,Bj ih.1 n⟩
theorem BP (n:Nat):mH (dV n):=(sO n).1
def Nz (f:bL->Int->Option (aS × Int)):Prop:=∀a0 a1 r,f a0 a1=some r->BH prog 32 [.agg ((bL.C a0)),.li a1] (.tup [.agg ((aS.C r.1)),.li r.2])
theorem Mb (n:Nat):Nz (wG n):=by
 intro a0 a1 r h q m vs hv;refine SC.wv hv (sL func32 call32 ntmps32 results32 ?_);unfold wG at h;refine aK (aQ λK hK=>?_);simp only [go_sem,seval];apply hK;simp only [aB,aA];refine aK (aK ?_);obtain ⟨y3,b3,h⟩:=aI h;refine xV 12 (λX Y=>X 1=.li a1/\X 2=.ptr (0::q) 0/\X 4=.ptr (1::q) 0/\X 15=.lb y3/\Y.blk (0::q)=some ((bL.C a0))/\Y.blk (1::q)=some ([.ls [],.lb false,.li (0:Int),.li (0:Int),.list .self ([].map aL.C),.list .self ([].map aC.C)])/\Y.gl=m.gl/\m.back q Y=m) ?_ ?_
 ·rcases xI b3 with ⟨c4,b3⟩ | ⟨c4,b3⟩
  ·refine aQ λK hK=>?_;simp only [go_sem,seval,c4];apply hK;simp only [aB,aA];obtain rfl:=cC b3;refine ⟨by decide,?_⟩;simp only [go_sem,seval,aW,BE,aV,aO,aZ,c4]
  ·refine aQ λK hK=>?_;simp only [go_sem,seval,c4];apply hK;simp only [aB,aA];obtain rfl:=cC b3;refine ⟨by decide,?_⟩;simp only [go_sem,seval,aW,BE,aV,aO,aZ,c4]
 ·intro E5 m6 e7 _;simp only [aB,aA];refine eV h (λc8 h=>?_) (λc8 h=>?_)
  ·refine aK (aQ λK hK=>?_);simp only [go_sem,seval,c8,e7];apply hK;simp only [aB,aA];refine vK (id:=(1::q)) (off:=4) (cs:=[.ls [],.lb false,.li (0:Int),.li (0:Int),.nilv,.nilv]) (by simp only [go_sem,seval,c8,e7]) rfl ?_;refine vK (id:=(1::q)) (off:=5) (cs:=[.ls [],.lb false,.li (0:Int),.li (0:Int),.list .none [],.nilv]) (by simp only [go_sem,seval,c8,e7]) rfl ?_;refine cR ?_
   try simp only [aU,aR]
   cases h;refine ⟨by simp,?_⟩;simp only [go_sem,seval,aW,BE,aV,aO,aZ,c8,e7]
  ·refine cN ?_
   try simp only [aB,aA]
   refine aK ?_;obtain ⟨x9,h14,h⟩:=aI h;obtain ⟨f11,f12,f13⟩:=bZ h14;refine Gg (o0 [0,1,2,3,4,5,6,7,8]) 21 ?_;simp only [aB,aA];refine aK (SW_setv (id:=(19::q)) (off:=5) (n:=m6.ver (19::q) 5+x9.aX.length) (cs:=[.list .none (a0.bF.map aS.C),.ls x9.fO,.lb x9.dG,.li x9.bR,.li x9.bC,.list .none (x9.aX.map aL.C),.list .none (x9.bV.map aC.C),.li (0:Int),.li (0:Int)]) (v0:=.list .none (x9.aX.map aL.C)) (by simp only [go_sem,seval,c8,f11,f12,f13,e7]) rfl (λ_=>rfl) (λ_ h=>by cases h) (by simp only [go_sem,seval,c8,f11,f12,f13,e7];exact Nat.le_add_right _ _) ?_);obtain ⟨f15,h⟩:=cG h;have f16:x9.aX.length<=1073741824:=by first | omega | (simp only [mS,dW,eN] at f15 ⊢;omega)
   refine aQ λK hK=>?_;simp only [go_sem,seval,c8,f11,f12,f13,f15,f16,e7];apply hK;simp only [aB,aA];refine aK ?_;obtain ⟨x17,h18,h⟩:=aI h;refine aQ λK hK=>?_;simp only [go_sem,seval,c8,f11,f12,f13,f15,f16,e7];refine SC.by_ (BP n (aJ.mk a0 x9 (0:Int) (0:Int)) x9.bV [] (aC.mk ([114,101,116,117,114,110]:cJ) (-1:Int) (0:Int) [] [] [] (-1:Int)) _ h18 _ _ _ (19::q) (m6.ver (19::q) 5+1) (by simp only [go_sem,seval,Nat.add_right_comm,c8,f11,f12,f13,f15,f16,e7])) ?_;simp only [go_sem,seval,c8,f11,f12,f13,f15,f16,e7];apply hK;simp only [aB,aA];refine aK (aK (aQ λK hK=>?_));simp only [go_sem,seval,c8,f11,f12,f13,f15,f16,e7];apply hK;simp only [aB,aA];refine eV h (λc19 h=>?_) (λc19 h=>?_)
   ·refine aK (Gg [(0,0),(5,0),(1,0),(2,0),(3,0),(4,1),(6,0)] 58 ?_);simp only [aB,aA];refine vK (id:=(1::q)) (off:=4) (cs:=[.ls [],.lb false,.li (0:Int),.li (0:Int),.nilv,.nilv]) (by simp only [go_sem,seval,c8,f11,f12,f13,f15,f16,c19,e7]) rfl ?_;refine vK (id:=(1::q)) (off:=5) (cs:=[.ls [],.lb false,.li (0:Int),.li (0:Int),.list .none [],.nilv]) (by simp only [go_sem,seval,c8,f11,f12,f13,f15,f16,c19,e7]) rfl ?_;refine cR ?_
    try simp only [aU,aR]
    cases h;refine ⟨by simp,?_⟩;simp only [go_sem,seval,aW,BE,aV,aO,aZ,c8,f11,f12,f13,f15,f16,c19,e7]
   ·refine cN ?_
    try simp only [aB,aA]
    refine aK (aQ λK hK=>?_);simp only [go_sem,seval,c8,f11,f12,f13,f15,f16,c19,e7];apply hK;simp only [aB,aA];refine cR ?_
    try simp only [aU,aR]
    cases h;refine ⟨by simp,?_⟩;simp only [go_sem,seval,aW,BE,aV,aO,aZ,c8,f11,f12,f13,f15,f16,c19,e7]
