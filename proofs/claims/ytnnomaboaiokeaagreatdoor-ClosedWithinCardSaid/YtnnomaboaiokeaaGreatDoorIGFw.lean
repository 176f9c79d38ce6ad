import Derived.Test.YtnnomaboaiokeaaGreatDoorIH8
namespace Go.Proofs.YtnnomaboaiokeaaGreatDoor.Abs
open Go.RowKit Tryz
open IntKind (i64 u32 u64 u8)
set_option linter.all false
set_option maxRecDepth 10000
set_option maxHeartbeats 2000000
open Tryz
def Dj (f:aJ->Option aJ):Prop:=∀a0 r,f a0=some r->∀(q:Pa) (m:M) (vs:List V) (P0:Pa) (zP0:Nat),vs.map V.weak1=[.ptr P0 0]/\m.blk P0=some ((bH.C a0.p_)++[.ls a0.f_.fM,.lb a0.f_.dF,.li a0.f_.bX,.li a0.f_.bC,.list .self (a0.f_.aX.map aL.C),.list .none (a0.f_.bQ.map aB.C),.li a0.eR,.li a0.e_])/\m.ver P0 5=zP0+a0.f_.aX.length->SC prog 130 vs q m (λv Y=>v=.tup []/\Y=(m.setv P0 5 ((bH.C r.p_)++[.ls r.f_.fM,.lb r.f_.dF,.li r.f_.bX,.li r.f_.bC,.list .self (r.f_.aX.map aL.C),.list .none (r.f_.bQ.map aB.C),.li r.eR,.li r.e_]) (zP0+r.f_.aX.length)))
theorem oV:Dj (dK):=by
 rintro a0 r h q m vs P0 zP0 ⟨hv,w0,hvrP0⟩;refine SC.wv hv ?_;refine SC.ap w0 λu0 l0=>?_
 try simp only [go_sem,seval] at w0 l0
 refine sY func130 call130 ntmps130 results130 ?_;unfold dK at h;refine aK (aQ λK hK=>?_);simp only [go_sem,seval,cV u0,w0,hvrP0];apply hK;simp only [aC,aA];refine aK (aQ λK hK=>?_);simp only [go_sem,seval,cV u0,w0,hvrP0];apply hK;simp only [aC,aA];refine eT h (λc1 h=>?_) (λc1 h=>?_)
 ·refine aQ λK hK=>?_;simp only [go_sem,seval,cV u0,c1,w0,hvrP0];apply hK;simp only [aC,aA];cases h;refine ⟨by simp,?_⟩;simp only [go_sem,seval,aW,aV,aP,aZ,bE u0,l0,iE u0,fT u0,kK hvrP0,nO hvrP0,hvrP0,mB,dT,eI,CU,←GW,cV u0,c1,w0]
 ·refine cN ?_
  try simp only [aC,aA]
  cases h;refine ⟨by simp,?_⟩;simp only [go_sem,seval,aW,aV,aP,aZ,bE u0,l0,iE u0,fT u0,kK hvrP0,nO hvrP0,hvrP0,mB,dT,eI,CU,←GW,cV u0,c1,w0]
def LJ (f:Int->(List Int)->Option Int):Prop:=∀a0 a1 r,f a0 a1=some r->CJ prog 133 [.li a0,.list .none (a1.map (cI .i64))] (.li r)
theorem EP:LJ (xY):=λa0 a1 r h q m vs hv=>SC.wva hv (dB func133 call133 ntmps133 results133 rfl (wk (.j 2 1 9 [.v 12 Bool λy=>.lb y] [0,1] [] [] none .z .z) q m (xY.eq_1 _ _) h))
instance:nQ 133 (LJ xY):=⟨EP⟩
def At (f:aF->(List Int)->Option aF):Prop:=∀a0 a1 r,f a0 a1=some r->CJ prog 131 [.agg ((aF.C a0)),.list .none (a1.map (cI .i64))] (.agg ((aF.C r)))
def yA (f:(List aF)->(List Int)->Option (List aF)):Prop:=∀a0 a1 r,f a0 a1=some r->CJ prog 134 [.list .none (a0.map aF.C),.list .none (a1.map (cI .i64))] (.list .none (r.map aF.C))
theorem Kq {uK} (IX:yA uK) (n:Nat):At (uM uK n):=haveI:nQ 134 (yA uK):=⟨IX⟩;λa0 a1 r h q m vs hv=>SC.wva hv (dB func131 call131 ntmps131 results131 rfl (wk .z q m (uM.eq_1 _ _ _ _) h))
theorem IY {rA} (Kk:At rA) (n:Nat):yA (tH rA n):=haveI:nQ 131 (At rA):=⟨Kk⟩;λa0 a1 r h q m vs hv=>SC.wva hv (dB func134 call134 ntmps134 results134 rfl (wk (.s 5 (.l [.o 5 (List aF) λy=>(y.map aF.C),.v 10 Int λy=>.li y] [1,8,9] [] [] none .z .z)) q m (tH.eq_1 _ _ _ _) h))
theorem zS:∀n,At (rD n)/\yA (tI n)
 | 0=>⟨λ_ _ _ h=>dO h,λ_ _ _ h=>dO h⟩
 | n+1=>
   have ih:=zS n
   ⟨Kq ih.2 n,IY ih.1 n⟩
theorem EQ (n:Nat):At (rD n):=(zS n).1
theorem Lb (n:Nat):yA (tI n):=(zS n).2
def Di (f:aJ->aL->Option (Int × aJ)):Prop:=∀a0 a1 r,f a0 a1=some r->∀(q:Pa) (m:M) (vs:List V) (P0:Pa) (zP0:Nat),vs.map V.weak1=[.ptr P0 0,.agg ((aL.C a1))]/\m.blk P0=some ((bH.C a0.p_)++[.ls a0.f_.fM,.lb a0.f_.dF,.li a0.f_.bX,.li a0.f_.bC,.list .self (a0.f_.aX.map aL.C),.list .none (a0.f_.bQ.map aB.C),.li a0.eR,.li a0.e_])/\m.ver P0 5=zP0+a0.f_.aX.length->SC prog 168 vs q m (λv Y=>v=.li r.1/\Y=(m.setv P0 5 ((bH.C r.2.p_)++[.ls r.2.f_.fM,.lb r.2.f_.dF,.li r.2.f_.bX,.li r.2.f_.bC,.list .self (r.2.f_.aX.map aL.C),.list .none (r.2.f_.bQ.map aB.C),.li r.2.eR,.li r.2.e_]) (zP0+r.2.f_.aX.length)))
theorem oU:Di (dJ):=by
 rintro a0 a1 r h q m vs P0 zP0 ⟨hv,w0,hvrP0⟩;refine SC.wv hv ?_;refine SC.ap w0 λu0 l0=>?_
 try simp only [go_sem,seval] at w0 l0
 refine sY func168 call168 ntmps168 results168 ?_;unfold dJ at h;refine aK (aQ λK hK=>?_);simp only [go_sem,seval,cV u0,w0,hvrP0];apply hK;simp only [aC,aA];refine aK (aK (aQ λK hK=>?_));simp only [go_sem,seval,cV u0,w0,hvrP0];apply hK;simp only [aC,aA];refine eT h (λc2 h=>?_) (λc2 h=>?_)
 ·refine aK (aQ λK hK=>?_);simp only [go_sem,seval,cV u0,c2,w0,hvrP0];apply hK;simp only [aC,aA];refine aK (aQ λK hK=>?_);simp only [go_sem,seval,cV u0,c2,w0,hvrP0];apply hK;simp only [aC,aA];refine cU ?_
  try simp only [aU,aR]
  cases h;refine ⟨by simp,?_⟩;simp only [go_sem,seval,aW,aV,aP,aZ,bE u0,l0,iE u0,fT u0,kK hvrP0,nO hvrP0,hvrP0,mB,dT,eI,CU,←GW,cV u0,c2,w0]
 ·refine cN ?_
  try simp only [aC,aA]
  refine aK ?_;obtain ⟨f3,h⟩:=cH h;have f4:a0.f_.aX.length+1<=1073741824:=by first | omega | (simp only [mB,dT,eI] at f3 ⊢;omega)
  have f5:a0.f_.aX.length<=1073741823:=by first | omega | (simp only [mB,dT,eI] at f3 ⊢;omega)
  refine GC (o0 [1,2,3,4,5,6,7,8,0,9,10,11,12]) 22 ?_;simp only [aC,aA];refine aK (aQ λK hK=>?_);simp only [go_sem,seval,cV u0,c2,f3,f4,f5,w0,hvrP0];apply hK;simp only [aC,aA];refine cU ?_
  try simp only [aU,aR]
  cases h;refine ⟨by simp,?_⟩;simp only [go_sem,seval,aW,aV,aP,aZ,bE u0,l0,iE u0,fT u0,kK hvrP0,nO hvrP0,hvrP0,mB,dT,eI,CU,←GW,cV u0,c2,f3,f4,f5,w0]
def DK (f:aJ->aB->aT->(List Int)->Option ((List aB) × (List Int) × aJ)):Prop:=∀a0 a1 a2 a3 r,f a0 a1 a2 a3=some r->∀(q:Pa) (m:M) (vs:List V) (P0:Pa) (zP0:Nat),vs.map V.weak1=[.ptr P0 0,.agg ((aB.C a1)),.agg ((aT.C a2)),.list .none (a3.map (cI .i64))]/\m.blk P0=some ((bH.C a0.p_)++[.ls a0.f_.fM,.lb a0.f_.dF,.li a0.f_.bX,.li a0.f_.bC,.list .self (a0.f_.aX.map aL.C),.list .none (a0.f_.bQ.map aB.C),.li a0.eR,.li a0.e_])/\m.ver P0 5=zP0+a0.f_.aX.length->SC prog 167 vs q m (λv Y=>∃(id:Pa) (j:Nat) (id2:Pa) (j2:Nat),q <:+ id/\q <:+ id2/\(id=id2)=False/\(id2=id)=False/\v=.tup [.list (.st (.anon id j)) (r.1.map aB.C),.list (.st (.anon id2 j2)) (r.2.1.map (cI .i64))]/\Y=((m.setv P0 5 ((bH.C r.2.2.p_)++[.ls r.2.2.f_.fM,.lb r.2.2.f_.dF,.li r.2.2.f_.bX,.li r.2.2.f_.bC,.list .self (r.2.2.f_.aX.map aL.C),.list .none (r.2.2.f_.bQ.map aB.C),.li r.2.2.eR,.li r.2.2.e_]) (zP0+r.2.2.f_.aX.length)).tokset id j true).tokset id2 j2 true)
theorem Dk (n:Nat):DK (mK n):=by
 rintro a0 a1 a2 a3 r h q m vs P0 zP0 ⟨hv,w0,hvrP0⟩;refine SC.wv hv ?_;refine SC.ap w0 λu0 l0=>?_
 try simp only [go_sem,seval] at w0 l0
 refine SC_of2 func167 rfl (λxs w=>call167 xs w) ntmps167 (by kernel_rfl) (congrArg Array.toList results167) (λo1 o2=>.tup [.list o1 (r.1.map aB.C),.list o2 (r.2.1.map (cI .i64))]) ?_;unfold mK at h;refine aK (aQ λK hK=>?_);simp only [go_sem,seval,bT u0,w0,hvrP0];apply hK;simp only [aC,aA];refine aK (aQ λK hK=>?_);simp only [go_sem,seval,bT u0,w0,hvrP0];apply hK;simp only [aC,aA];refine aK (aQ λK hK=>?_);simp only [go_sem,seval,bT u0,w0,hvrP0];apply hK;simp only [aC,aA];refine aK (aK (aQ λK hK=>?_));simp only [go_sem,seval,bT u0,w0,hvrP0];apply hK;simp only [aC,aA];refine dM ?_;obtain ⟨y8,b8,h⟩:=aI h;refine BV 10 ([].map aB.C) rfl (by simp only [go_sem,seval,bT u0,w0,hvrP0]) ?_;refine BV 11 ([].map (cI .i64)) rfl (by simp only [go_sem,seval,bT u0,w0,hvrP0]) ?_;refine wZ (λc X Y=>∃v4 v5 v6 v7 o_v4 j_v4 o_v5 j_v5,eF n a1 a3 a2 c v4 v5 v6 v7=some y8/\X 0=.ptr P0 0/\X 3=.list .none (a3.map (cI .i64))/\X 5=.ptr (0::q) 0/\X 6=.ptr (1::q) 0/\X 10=.list (.st (.anon o_v4 j_v4)) (v4.map aB.C)/\Y.tok o_v4 j_v4=true/\q <:+ o_v4/\X 11=.list (.st (.anon o_v5 j_v5)) (v5.map (cI .i64))/\Y.tok o_v5 j_v5=true/\q <:+ o_v5/\X 17=.list .none (a1.aO.map aF.C)/\X 18=.li (a1.aO.length:Int)/\X 19=.li v6/\(o_v4=o_v5)=False/\(o_v5=o_v4)=False/\Y.blk P0=some ((bH.C v7.p_)++[.ls v7.f_.fM,.lb v7.f_.dF,.li v7.f_.bX,.li v7.f_.bC,.list .self (v7.f_.aX.map aL.C),.list .none (v7.f_.bQ.map aB.C),.li v7.eR,.li v7.e_])/\Y.blk (0::q)=some ((aB.C a1))/\Y.blk (1::q)=some ((aT.C a2))/\Y.ver P0 5=zP0+v7.f_.aX.length/\Y.gl=m.gl/\m.back q Y=(m.setv P0 5 ((bH.C v7.p_)++[.ls v7.f_.fM,.lb v7.f_.dF,.li v7.f_.bX,.li v7.f_.bC,.list .self (v7.f_.aX.map aL.C),.list .none (v7.f_.bQ.map aB.C),.li v7.eR,.li v7.e_]) (zP0+v7.f_.aX.length))) n ⟨[],[],(0:Int),a0,(10::q),0,(11::q),0,b8,?_⟩ ?_
 ·simp only [go_sem,seval,aW,aV,aP,aZ,bE u0,l0,iE u0,fT u0,kK hvrP0,nO hvrP0,hvrP0,mB,dT,eI,CU,←GW,bT u0,w0]
 rintro i3 c9 E10 m11 ⟨v4,v5,v6,v7,o_v4,j_v4,o_v5,j_v5,b8,e12⟩ _
 rcases c9 with _ | c9
 ·cases b8
 rw [eF] at b8;refine aK (aQ λK hK=>?_);simp only [go_sem,seval,bT u0,e12];apply hK;simp only [aC,aA];refine aK (eT b8 (λc13 b8=>?_) (λc13 b8=>?_))
 ·refine cN ?_
  try simp only [aC,aA]
  refine aK ?_;obtain ⟨y14,b14,b8⟩:=aI b8;refine yL 47 (λX Y=>∃(oy14_10:Pa) (jy14_10:Nat),∃(oy14_11:Pa) (jy14_11:Nat),X 0=.ptr P0 0/\X 3=.list .none (a3.map (cI .i64))/\X 5=.ptr (0::q) 0/\X 6=.ptr (1::q) 0/\X 10=.list (.st (.anon oy14_10 jy14_10)) (y14.1.map aB.C)/\Y.tok oy14_10 jy14_10=true/\q <:+ oy14_10/\X 11=.list (.st (.anon oy14_11 jy14_11)) (y14.2.1.map (cI .i64))/\Y.tok oy14_11 jy14_11=true/\q <:+ oy14_11/\X 17=.list .none (a1.aO.map aF.C)/\X 18=.li (a1.aO.length:Int)/\X 19=.li v6/\(oy14_10=oy14_11)=False/\(oy14_11=oy14_10)=False/\Y.blk P0=some ((bH.C y14.2.2.p_)++[.ls y14.2.2.f_.fM,.lb y14.2.2.f_.dF,.li y14.2.2.f_.bX,.li y14.2.2.f_.bC,.list .self (y14.2.2.f_.aX.map aL.C),.list .none (y14.2.2.f_.bQ.map aB.C),.li y14.2.2.eR,.li y14.2.2.e_])/\Y.blk (0::q)=some ((aB.C a1))/\Y.blk (1::q)=some ((aT.C a2))/\Y.ver P0 5=zP0+y14.2.2.f_.aX.length/\Y.gl=m.gl/\m.back q Y=(m.setv P0 5 ((bH.C y14.2.2.p_)++[.ls y14.2.2.f_.fM,.lb y14.2.2.f_.dF,.li y14.2.2.f_.bX,.li y14.2.2.f_.bC,.list .self (y14.2.2.f_.aX.map aL.C),.list .none (y14.2.2.f_.bQ.map aB.C),.li y14.2.2.eR,.li y14.2.2.e_]) (zP0+y14.2.2.f_.aX.length))) ?_ ?_
  ·refine dM (aK ?_);obtain ⟨x15,h20,b14⟩:=aI b14;obtain ⟨f17,f18,f19⟩:=bZ h20;refine aQ λK hK=>?_;have K1:=qJ5 c13 f17 f18 f19 e12;simp only [go_sem,seval,bT u0,K1];apply hK;simp only [aC,aA];refine aK (aK (aQ λK hK=>?_));simp only [go_sem,seval,bT u0,K1];apply hK;simp only [aC,aA];refine eT b14 (λc21 b14=>?_) (λc21 b14=>?_)
   ·refine aK ?_;obtain ⟨x22,h23,b14⟩:=aI b14;obtain ⟨f24,b14⟩:=cH b14;have f25:v5.length+1<=1073741824:=by first | omega | (simp only [mB,dT,eI] at f24 ⊢;omega)
    have f26:v5.length<=1073741823:=by first | omega | (simp only [mB,dT,eI] at f24 ⊢;omega)
    refine Eg (o:=o_v4) (j:=j_v4) (by simp only [go_sem,seval,bT u0,c21,f24,f25,f26,K1]) λf27=>?_;have f28:=f27 16 (by omega);refine aQ λK hK=>?_;have K2:=qJ5 K1 c21 f24 f25 f26;simp only [go_sem,seval,bT u0,f28.1,f28.2,K2];refine SC.by_ (EP x15.fI a3 _ h23 _ _ _ (by simp only [go_sem,seval,bT u0,f28.1,f28.2,K2])) ?_;simp only [go_sem,seval,bT u0,f28.1,f28.2,K2];apply hK;simp only [aC,aA];refine lV ?_
    try simp only [seval,bD,aY,aC,aA]
    obtain rfl:=bU b14;refine ⟨by decide,o_v4,j_v4,(16::i3::12::q),0,?_⟩;simp only [go_sem,seval,aW,aV,aP,aZ,bE u0,l0,iE u0,fT u0,kK hvrP0,nO hvrP0,hvrP0,mB,dT,eI,CU,←GW,bT u0,f28.1,f28.2,K2]
   ·refine cN ?_
    try simp only [aC,aA]
    refine aK (aQ λK hK=>?_);simp only [go_sem,seval,bT u0,c21,K1];apply hK;simp only [aC,aA];refine aK (aK ?_);obtain ⟨x29,h33,b14⟩:=aI b14;obtain ⟨f30,f31,f32⟩:=bZ h33;refine aQ λK hK=>?_;have K3:=qJ5 K1 c21 f30 f31 f32;simp only [go_sem,seval,bT u0,K3];apply hK;simp only [aC,aA];refine eT b14 (λc34 b14=>?_) (λc34 b14=>?_)
    ·refine aQ λK hK=>?_;simp only [go_sem,seval,bT u0,c34,K3];apply hK;simp only [aC,aA];refine aK ?_;obtain ⟨x35,h36,b14⟩:=aI b14;refine aQ λK hK=>?_;simp only [go_sem,seval,bT u0,c34,K3];refine SC.bA (oV v7 _ h36 _ _ _ P0 zP0) ?_;simp only [go_sem,seval,bT u0,c34,K3];apply hK;simp only [aC,aA];refine aK ?_;obtain ⟨x37,h38,b14⟩:=aI b14;refine aQ λK hK=>?_;simp only [go_sem,seval,bT u0,c34,K3];refine SC.bA (oU x35 x29 _ h38 _ _ _ P0 zP0) ?_;simp only [go_sem,seval,bT u0,c34,K3];apply hK;simp only [aC,aA];refine aK ?_;obtain ⟨f39,b14⟩:=cH b14;have f40:v5.length+1<=1073741824:=by first | omega | (simp only [mB,dT,eI] at f39 ⊢;omega)
     have f41:v5.length<=1073741823:=by first | omega | (simp only [mB,dT,eI] at f39 ⊢;omega)
     refine Eg (o:=o_v4) (j:=j_v4) (by simp only [go_sem,seval,bT u0,c34,f39,f40,f41,K3]) λf42=>?_;have f43:=f42 32 (by omega);refine aQ λK hK=>?_;have K4:=qJ5 K3 c34 f39 f40 f41;simp only [go_sem,seval,bT u0,f43.1,f43.2,K4];apply hK;simp only [aC,aA];obtain ⟨x44,h45,b14⟩:=aI b14;obtain ⟨f46,b14⟩:=cH b14;have f47:v4.length+1<=1073741824:=by first | omega | (simp only [mB,dT,eI] at f46 ⊢;omega)
     have f48:v4.length<=1073741823:=by first | omega | (simp only [mB,dT,eI] at f46 ⊢;omega)
     refine mW [(3,0),(4,0),(5,0),(0,0),(1,0),(2,0),(6,0),(7,0),(8,1),(9,0),(10,0),(11,0),(12,0)] 47 λK hK=>?_;have K5:=qJ4 K4 f46 f47 f48;simp only [go_sem,seval,bT u0,f43.1,f43.2,K5];refine gQ (EQ n x15 a3 _ h45 _ _ _ (by simp only [go_sem,seval,bT u0,f43.1,f43.2,K5])) rfl ?_;simp only [go_sem,seval,bT u0,f43.1,f43.2,K5];apply hK;simp only [aC,aA];obtain rfl:=bU b14;refine ⟨by decide,(45::i3::12::q),0,(32::i3::12::q),0,?_⟩;simp only [go_sem,seval,aW,aV,aP,aZ,bE u0,l0,iE u0,fT u0,kK hvrP0,nO hvrP0,hvrP0,mB,dT,eI,CU,←GW,bT u0,f43.1,f43.2,K5]
    ·refine cN ?_
     try simp only [aC,aA]
     refine aK ?_;obtain ⟨x49,h50,b14⟩:=aI b14;refine aQ λK hK=>?_;simp only [go_sem,seval,bT u0,c34,K3];refine SC.bA (oV v7 _ h50 _ _ _ P0 zP0) ?_;simp only [go_sem,seval,bT u0,c34,K3];apply hK;simp only [aC,aA];refine aK ?_;obtain ⟨x51,h52,b14⟩:=aI b14;refine aQ λK hK=>?_;simp only [go_sem,seval,bT u0,c34,K3];refine SC.bA (oU x49 x29 _ h52 _ _ _ P0 zP0) ?_;simp only [go_sem,seval,bT u0,c34,K3];apply hK;simp only [aC,aA];refine aK ?_;obtain ⟨f53,b14⟩:=cH b14;have f54:v5.length+1<=1073741824:=by first | omega | (simp only [mB,dT,eI] at f53 ⊢;omega)
     have f55:v5.length<=1073741823:=by first | omega | (simp only [mB,dT,eI] at f53 ⊢;omega)
     refine Eg (o:=o_v4) (j:=j_v4) (by simp only [go_sem,seval,bT u0,c34,f53,f54,f55,K3]) λf56=>?_;have f57:=f56 31 (by omega);refine aQ λK hK=>?_;have K6:=qJ5 K3 c34 f53 f54 f55;simp only [go_sem,seval,bT u0,f57.1,f57.2,K6];apply hK;simp only [aC,aA];obtain ⟨x58,h59,b14⟩:=aI b14;obtain ⟨f60,b14⟩:=cH b14;have f61:v4.length+1<=1073741824:=by first | omega | (simp only [mB,dT,eI] at f60 ⊢;omega)
     have f62:v4.length<=1073741823:=by first | omega | (simp only [mB,dT,eI] at f60 ⊢;omega)
     refine mW [(3,0),(4,0),(5,0),(0,0),(1,0),(2,0),(6,0),(7,0),(8,1),(9,0),(10,0),(11,0),(12,0)] 46 λK hK=>?_;have K7:=qJ4 K6 f60 f61 f62;simp only [go_sem,seval,bT u0,f57.1,f57.2,K7];refine gQ (EQ n x15 a3 _ h59 _ _ _ (by simp only [go_sem,seval,bT u0,f57.1,f57.2,K7])) rfl ?_;simp only [go_sem,seval,bT u0,f57.1,f57.2,K7];apply hK;simp only [aC,aA];obtain rfl:=bU b14;refine ⟨by decide,(44::i3::12::q),0,(31::i3::12::q),0,?_⟩;simp only [go_sem,seval,aW,aV,aP,aZ,bE u0,l0,iE u0,fT u0,kK hvrP0,nO hvrP0,hvrP0,mB,dT,eI,CU,←GW,bT u0,f57.1,f57.2,K7]
  ·rintro E63 m64 ⟨oy14_10,jy14_10,oy14_11,jy14_11,e65⟩ _;simp only [aC,aA];refine aQ λK hK=>?_;simp only [go_sem,seval,bT u0,c13,e65];apply hK;simp only [aC,aA];refine ⟨c9,MU _,y14.1,y14.2.1,(i64.wrap (v6+(1:Int))),y14.2.2,oy14_10,jy14_10,oy14_11,jy14_11,b8,?_⟩;simp only [go_sem,seval,aW,aV,aP,aZ,bE u0,l0,iE u0,fT u0,kK hvrP0,nO hvrP0,hvrP0,mB,dT,eI,CU,←GW,bT u0,c13,e65]
 ·refine lV ?_
  try simp only [seval,bD,aY,aC,aA]
  obtain rfl:=bU b8;refine aK (aQ λK hK=>?_);simp only [go_sem,seval,bT u0,c13,e12];apply hK;simp only [aC,aA];refine cU ?_
  try simp only [aU,aR]
  cases h;refine ⟨by simp,?_⟩;refine ⟨o_v4,j_v4,o_v5,j_v5,?_,?_,?_,?_,?_,?_,?_,?_⟩ <;> simp only [go_sem,seval,aW,aV,aP,aZ,bE u0,l0,iE u0,fT u0,kK hvrP0,nO hvrP0,hvrP0,mB,dT,eI,CU,←GW,bT u0,c13,e12]
def Dh (f:aJ->aB->(List Int)->aB->Option aB):Prop:=∀a0 a1 a2 a3 r,f a0 a1 a2 a3=some r->∀(q:Pa) (m:M) (vs:List V) (P0:Pa) (zP0:Nat),vs.map V.weak1=[.ptr P0 0,.agg ((aB.C a1)),.list .none (a2.map (cI .i64)),.agg ((aB.C a3))]/\m.blk P0=some ((bH.C a0.p_)++[.ls a0.f_.fM,.lb a0.f_.dF,.li a0.f_.bX,.li a0.f_.bC,.list .self (a0.f_.aX.map aL.C),.list .none (a0.f_.bQ.map aB.C),.li a0.eR,.li a0.e_])/\m.ver P0 5=zP0+a0.f_.aX.length->SC prog 169 vs q m (λv Y=>v=.agg ((aB.C r))/\Y=m)
theorem Cd:Dh (jI):=by
 rintro a0 a1 a2 a3 r h q m vs P0 zP0 ⟨hv,w0,hvrP0⟩;refine SC.wv hv ?_;refine SC.apart w0 λu0=>?_
 try simp only [go_sem,seval] at w0
 refine sY func169 call169 ntmps169 results169 ?_;unfold jI at h;refine aK (aQ λK hK=>?_);simp only [go_sem,seval,cV u0,w0,hvrP0];apply hK;simp only [aC,aA];refine aK ?_;obtain ⟨x4,h8,h⟩:=aI h;obtain ⟨f5,f6,f7⟩:=bZ h8;refine GC (o0 [0,1,2,3,4,5,6,7,8,9,10]) 14 ?_;simp only [aC,aA];refine aK (aK (aQ λK hK=>?_));have K1:=qJ4 f5 f6 f7 w0;simp only [go_sem,seval,cV u0,hvrP0,K1];apply hK;simp only [aC,aA];refine dM (aK (aQ λK hK=>?_));simp only [go_sem,seval,cV u0,hvrP0,K1];apply hK;simp only [aC,aA];refine eT h (λc9 h=>?_) (λc9 h=>?_)
 ·refine aK (aK (aQ λK hK=>?_));simp only [go_sem,seval,cV u0,c9,hvrP0,K1];apply hK;simp only [aC,aA];refine eT h (λc10 h=>?_) (λc10 h=>?_)
  ·refine aQ λK hK=>?_;simp only [go_sem,seval,cV u0,c9,c10,hvrP0,K1];apply hK;simp only [aC,aA];refine aK (aQ λK hK=>?_);simp only [go_sem,seval,cV u0,c9,c10,hvrP0,K1];apply hK;simp only [aC,aA];refine cU ?_
   try simp only [aU,aR]
   cases h;exact jS
  ·refine cN ?_
   try simp only [aC,aA]
   refine aK (aQ λK hK=>?_);simp only [go_sem,seval,cV u0,c9,c10,hvrP0,K1];apply hK;simp only [aC,aA];refine cU ?_
   try simp only [aU,aR]
   cases h;exact jS
 ·refine aK (aQ λK hK=>?_);simp only [go_sem,seval,cV u0,c9,hvrP0,K1];apply hK;simp only [aC,aA];refine eT h (λc11 h=>?_) (λc11 h=>?_)
  ·refine aK (aQ λK hK=>?_);simp only [go_sem,seval,cV u0,c9,c11,hvrP0,K1];apply hK;simp only [aC,aA];refine cU ?_
   try simp only [aU,aR]
   cases h;exact jS
  ·refine cN ?_
   try simp only [aC,aA]
   refine aK ?_;obtain ⟨x12,h13,h⟩:=aI h;refine mW [(0,0),(1,0),(2,0),(3,0),(4,0),(5,1),(6,0),(7,0)] 28 λK hK=>?_;simp only [go_sem,seval,cV u0,c9,c11,hvrP0,K1];refine Kv (EP a1.fI a2 _ h13 _ _ _) ?_;simp only [go_sem,seval,cV u0,c9,c11,hvrP0,K1];apply hK;simp only [aC,aA];refine cU ?_
   try simp only [aU,aR]
   cases h;exact jS
def DJ (f:aJ->aF->aB->Option (aB × aJ)):Prop:=∀a0 a1 a2 r,f a0 a1 a2=some r->∀(q:Pa) (m:M) (vs:List V) (P0:Pa) (zP0:Nat),vs.map V.weak1=[.ptr P0 0,.agg ((aF.C a1)),.agg ((aB.C a2))]/\m.blk P0=some ((bH.C a0.p_)++[.ls a0.f_.fM,.lb a0.f_.dF,.li a0.f_.bX,.li a0.f_.bC,.list .self (a0.f_.aX.map aL.C),.list .none (a0.f_.bQ.map aB.C),.li a0.eR,.li a0.e_])/\m.ver P0 5=zP0+a0.f_.aX.length->SC prog 132 vs q m (λv Y=>v=.agg ((aB.C r.1))/\Y=(m.setv P0 5 ((bH.C r.2.p_)++[.ls r.2.f_.fM,.lb r.2.f_.dF,.li r.2.f_.bX,.li r.2.f_.bC,.list .self (r.2.f_.aX.map aL.C),.list .none (r.2.f_.bQ.map aB.C),.li r.2.eR,.li r.2.e_]) (zP0+r.2.f_.aX.length)))
theorem vG:DJ (eC):=by
 rintro a0 a1 a2 r h q m vs P0 zP0 ⟨hv,w0,hvrP0⟩;refine SC.wv hv ?_;refine SC.ap w0 λu0 l0=>?_
 try simp only [go_sem,seval] at w0 l0
 refine sY func132 call132 ntmps132 results132 ?_;unfold eC at h;refine aK (aQ λK hK=>?_);simp only [go_sem,seval,cV u0,w0,hvrP0];apply hK;simp only [aC,aA];refine aK (aQ λK hK=>?_);simp only [go_sem,seval,cV u0,w0,hvrP0];apply hK;simp only [aC,aA];refine aK (aK (aQ λK hK=>?_));simp only [go_sem,seval,cV u0,w0,hvrP0];apply hK;simp only [aC,aA];refine eT h (λc4 h=>?_) (λc4 h=>?_)
 ·obtain ⟨x5,h6,h⟩:=aI h;refine aQ λK hK=>?_;simp only [go_sem,seval,cV u0,c4,w0,hvrP0];refine SC.bA (oU a0 (aL.mk [] a2.gJ (0:Int)) _ h6 _ _ _ P0 zP0) ?_;simp only [go_sem,seval,cV u0,c4,w0,hvrP0];apply hK;simp only [aC,aA];refine aK (aQ λK hK=>?_);simp only [go_sem,seval,cV u0,c4,w0,hvrP0];apply hK;simp only [aC,aA];refine aK (aQ λK hK=>?_);simp only [go_sem,seval,cV u0,c4,w0,hvrP0];apply hK;simp only [aC,aA];refine cU ?_
  try simp only [aU,aR]
  cases h;refine ⟨by simp,?_⟩;simp only [go_sem,seval,aW,aV,aP,aZ,bE u0,l0,iE u0,fT u0,kK hvrP0,nO hvrP0,hvrP0,mB,dT,eI,CU,←GW,cV u0,c4,w0]
 ·refine cN ?_
  try simp only [aC,aA]
  refine aK (aQ λK hK=>?_);simp only [go_sem,seval,cV u0,c4,w0,hvrP0];apply hK;simp only [aC,aA];refine aK (aQ λK hK=>?_);simp only [go_sem,seval,cV u0,c4,w0,hvrP0];apply hK;simp only [aC,aA];refine cU ?_
  try simp only [aU,aR]
  cases h;refine ⟨by simp,?_⟩;simp only [go_sem,seval,aW,aV,aP,aZ,bE u0,l0,iE u0,fT u0,kK hvrP0,nO hvrP0,hvrP0,mB,dT,eI,CU,←GW,cV u0,c4,w0]
def mP (f:aJ->(List aB)->(List Int)->aB->Option ((List aB) × aJ)):Prop:=∀a0 a1 a2 a3 r,f a0 a1 a2 a3=some r->∀(q:Pa) (m:M) (vs:List V) (P0:Pa) (zP0:Nat),vs.map V.weak1=[.ptr P0 0,.list .none (a1.map aB.C),.list .none (a2.map (cI .i64)),.agg ((aB.C a3))]/\m.blk P0=some ((bH.C a0.p_)++[.ls a0.f_.fM,.lb a0.f_.dF,.li a0.f_.bX,.li a0.f_.bC,.list .self (a0.f_.aX.map aL.C),.list .none (a0.f_.bQ.map aB.C),.li a0.eR,.li a0.e_])/\m.ver P0 5=zP0+a0.f_.aX.length->SC prog 62 vs q m (λv Y=>v=.list .none (r.1.map aB.C)/\Y=(m.setv P0 5 ((bH.C r.2.p_)++[.ls r.2.f_.fM,.lb r.2.f_.dF,.li r.2.f_.bX,.li r.2.f_.bC,.list .self (r.2.f_.aX.map aL.C),.list .none (r.2.f_.bQ.map aB.C),.li r.2.eR,.li r.2.e_]) (zP0+r.2.f_.aX.length)))
def qI (f:aJ->aB->(List Int)->aB->Option ((List aB) × aJ)):Prop:=∀a0 a1 a2 a3 r,f a0 a1 a2 a3=some r->∀(q:Pa) (m:M) (vs:List V) (P0:Pa) (zP0:Nat),vs.map V.weak1=[.ptr P0 0,.agg ((aB.C a1)),.list .none (a2.map (cI .i64)),.agg ((aB.C a3))]/\m.blk P0=some ((bH.C a0.p_)++[.ls a0.f_.fM,.lb a0.f_.dF,.li a0.f_.bX,.li a0.f_.bC,.list .self (a0.f_.aX.map aL.C),.list .none (a0.f_.bQ.map aB.C),.li a0.eR,.li a0.e_])/\m.ver P0 5=zP0+a0.f_.aX.length->SC prog 96 vs q m (λv Y=>v=.list .none (r.1.map aB.C)/\Y=(m.setv P0 5 ((bH.C r.2.p_)++[.ls r.2.f_.fM,.lb r.2.f_.dF,.li r.2.f_.bX,.li r.2.f_.bC,.list .self (r.2.f_.aX.map aL.C),.list .none (r.2.f_.bQ.map aB.C),.li r.2.eR,.li r.2.e_]) (zP0+r.2.f_.aX.length)))
def sS (f:aJ->aB->(List Int)->aB->Option ((List aB) × aJ)):Prop:=∀a0 a1 a2 a3 r,f a0 a1 a2 a3=some r->∀(q:Pa) (m:M) (vs:List V) (P0:Pa) (zP0:Nat),vs.map V.weak1=[.ptr P0 0,.agg ((aB.C a1)),.list .none (a2.map (cI .i64)),.agg ((aB.C a3))]/\m.blk P0=some ((bH.C a0.p_)++[.ls a0.f_.fM,.lb a0.f_.dF,.li a0.f_.bX,.li a0.f_.bC,.list .self (a0.f_.aX.map aL.C),.list .none (a0.f_.bQ.map aB.C),.li a0.eR,.li a0.e_])/\m.ver P0 5=zP0+a0.f_.aX.length->SC prog 129 vs q m (λv Y=>v=.list .none (r.1.map aB.C)/\Y=(m.setv P0 5 ((bH.C r.2.p_)++[.ls r.2.f_.fM,.lb r.2.f_.dF,.li r.2.f_.bX,.li r.2.f_.bC,.list .self (r.2.f_.aX.map aL.C),.list .none (r.2.f_.bQ.map aB.C),.li r.2.eR,.li r.2.e_]) (zP0+r.2.f_.aX.length)))
theorem AY {dZ} (yU:qI dZ) (n:Nat):mP (fC dZ n):=by
 rintro a0 a1 a2 a3 r h q m vs P0 zP0 ⟨hv,w0,hvrP0⟩;refine SC.wv hv ?_;refine SC.ap w0 λu0 l0=>?_
 try simp only [go_sem,seval] at w0 l0
 refine sY func62 call62 ntmps62 results62 ?_;unfold fC at h;refine aK (aQ λK hK=>?_);simp only [go_sem,seval,bT u0,w0,hvrP0];apply hK;simp only [aC,aA];refine aK (aQ λK hK=>?_);simp only [go_sem,seval,bT u0,w0,hvrP0];apply hK;simp only [aC,aA];refine aK (aK (aQ λK hK=>?_));simp only [go_sem,seval,bT u0,w0,hvrP0];apply hK;simp only [aC,aA];refine dM ?_;obtain ⟨y6,b6,h⟩:=aI h;refine BV 9 ([].map aB.C) rfl (by simp only [go_sem,seval,bT u0,w0,hvrP0]) ?_;refine wZ (λc X Y=>∃v3 v4 v5 o_v3 j_v3,dC dZ a1 a2 a3 c v3 v4 v5=some y6/\X 0=.ptr P0 0/\X 2=.list .none (a2.map (cI .i64))/\X 7=.ptr (0::q) 0/\X 9=.list (.st (.anon o_v3 j_v3)) (v3.map aB.C)/\Y.tok o_v3 j_v3=true/\q <:+ o_v3/\X 12=.list .none (a1.map aB.C)/\X 13=.li (a1.length:Int)/\X 14=.li v4/\Y.blk P0=some ((bH.C v5.p_)++[.ls v5.f_.fM,.lb v5.f_.dF,.li v5.f_.bX,.li v5.f_.bC,.list .self (v5.f_.aX.map aL.C),.list .none (v5.f_.bQ.map aB.C),.li v5.eR,.li v5.e_])/\Y.blk (0::q)=some ((aB.C a3))/\Y.ver P0 5=zP0+v5.f_.aX.length/\Y.gl=m.gl/\m.back q Y=(m.setv P0 5 ((bH.C v5.p_)++[.ls v5.f_.fM,.lb v5.f_.dF,.li v5.f_.bX,.li v5.f_.bC,.list .self (v5.f_.aX.map aL.C),.list .none (v5.f_.bQ.map aB.C),.li v5.eR,.li v5.e_]) (zP0+v5.f_.aX.length))) n ⟨[],(0:Int),a0,(6::q),0,b6,?_⟩ ?_
 ·simp only [go_sem,seval,aW,aV,aP,aZ,bE u0,l0,iE u0,fT u0,kK hvrP0,nO hvrP0,hvrP0,mB,dT,eI,CU,←GW,bT u0,w0]
 rintro i2 c7 E8 m9 ⟨v3,v4,v5,o_v3,j_v3,b6,e10⟩ _
 rcases c7 with _ | c7
 ·cases b6
 rw [dC] at b6;refine aK (aQ λK hK=>?_);simp only [go_sem,seval,bT u0,e10];apply hK;simp only [aC,aA];refine aK (eT b6 (λc11 b6=>?_) (λc11 b6=>?_))
 ·refine cN ?_
  try simp only [aC,aA]
  refine aK (dM (aK ?_));obtain ⟨x12,h17,b6⟩:=aI b6;obtain ⟨f14,f15,f16⟩:=bZ h17;refine aQ λK hK=>?_;have K1:=qJ5 c11 f14 f15 f16 e10;simp only [go_sem,seval,bT u0,K1];apply hK;simp only [aC,aA];refine aK (aK (aQ λK hK=>?_));simp only [go_sem,seval,bT u0,K1];apply hK;simp only [aC,aA];refine eT b6 (λc18 b6=>?_) (λc18 b6=>?_)
  ·refine aK (aQ λK hK=>?_);simp only [go_sem,seval,bT u0,c18,K1];apply hK;simp only [aC,aA];refine cU ?_
   try simp only [aU,aR]
   obtain rfl:=bU b6;simp only [xet,xep] at h;cases h;refine ⟨by simp,?_⟩;simp only [go_sem,seval,aW,aV,aP,aZ,bE u0,l0,iE u0,fT u0,kK hvrP0,nO hvrP0,hvrP0,mB,dT,eI,CU,←GW,bT u0,c18,K1]
  ·refine cN ?_
   try simp only [aC,aA]
   obtain ⟨x19,h20,b6⟩:=aI b6;obtain ⟨f21,b6⟩:=cH b6;have f22:v3.length+x19.1.length<=1073741824:=by first | omega | (simp only [mB,dT,eI] at f21 ⊢;omega)
   refine aQ λK hK=>?_;have K2:=qJ4 K1 c18 f21 f22;simp only [go_sem,seval,bT u0,K2];refine SC.bA (yU v5 x12 a2 a3 _ h20 _ _ _ P0 zP0) ?_;simp only [go_sem,seval,bT u0,K2];apply hK;simp only [aC,aA];refine aQ λK hK=>?_;simp only [go_sem,seval,bT u0,K2];apply hK;simp only [aC,aA];refine ⟨c7,MU _,(v3++x19.1),(i64.wrap (v4+(1:Int))),x19.2,(16::i2::7::q),0,b6,?_⟩;simp only [go_sem,seval,aW,aV,aP,aZ,bE u0,l0,iE u0,fT u0,kK hvrP0,nO hvrP0,hvrP0,mB,dT,eI,CU,←GW,bT u0,K2]
 ·refine lV ?_
  try simp only [seval,bD,aY,aC,aA]
  obtain rfl:=bU b6;simp only [xet,xep] at h;refine aK (aQ λK hK=>?_);simp only [go_sem,seval,bT u0,c11,e10];apply hK;simp only [aC,aA];refine cU ?_
  try simp only [aU,aR]
  cases h;refine ⟨by simp,?_⟩;simp only [go_sem,seval,aW,aV,aP,aZ,bE u0,l0,iE u0,fT u0,kK hvrP0,nO hvrP0,hvrP0,mB,dT,eI,CU,←GW,bT u0,c11,e10]
theorem yS {oS} (BN:sS oS) {dS} (nP:mP dS) (n:Nat):qI (dU oS dS n):=by
 rintro a0 a1 a2 a3 r h q m vs P0 zP0 ⟨hv,w0,hvrP0⟩;refine SC.wv hv ?_;refine SC.ap w0 λu0 l0=>?_
 try simp only [go_sem,seval] at w0 l0
 refine sY func96 call96 ntmps96 results96 ?_;unfold dU at h;refine aK (aQ λK hK=>?_);simp only [go_sem,seval,cV u0,w0,hvrP0];apply hK;simp only [aC,aA];refine aK (aK (aQ λK hK=>?_));simp only [go_sem,seval,cV u0,w0,hvrP0];apply hK;simp only [aC,aA];refine eT h (λc3 h=>?_) (λc3 h=>?_)
 ·refine aK ?_;obtain ⟨x4,h5,h⟩:=aI h;refine aQ λK hK=>?_;simp only [go_sem,seval,cV u0,c3,w0,hvrP0];refine SC.bA (BN a0 a1 a2 a3 _ h5 _ _ _ P0 zP0) ?_;simp only [go_sem,seval,cV u0,c3,w0,hvrP0];apply hK;simp only [aC,aA];refine cU ?_
  try simp only [aU,aR]
  cases h;refine ⟨by simp,?_⟩;simp only [go_sem,seval,aW,aV,aP,aZ,bE u0,l0,iE u0,fT u0,kK hvrP0,nO hvrP0,hvrP0,mB,dT,eI,CU,←GW,cV u0,c3,w0]
 ·refine cN ?_
  try simp only [aC,aA]
  refine aK ?_;obtain ⟨x6,h7,h⟩:=aI h;refine aQ λK hK=>?_;have K1:=qJ2 c3 w0;simp only [go_sem,seval,cV u0,hvrP0,K1];refine SC.bA (oV a0 _ h7 _ _ _ P0 zP0) ?_;simp only [go_sem,seval,cV u0,hvrP0,K1];apply hK;simp only [aC,aA];refine aK (aK (aQ λK hK=>?_));simp only [go_sem,seval,cV u0,hvrP0,K1];apply hK;simp only [aC,aA];refine eT h (λc8 h=>?_) (λc8 h=>?_)
  ·refine aK ?_;obtain ⟨x9,h15,h⟩:=aI h;obtain ⟨f12,f13,f14⟩:=bZ h15;have f16:a1.aO[0]? = some x9:=f14;obtain ⟨x10,h17,h⟩:=aI h;refine aQ λK hK=>?_;have K2:=qJ6 K1 c8 f12 f13 f14 f16;simp only [go_sem,seval,cV u0,hvrP0,K2];refine SC.bA (EQ n x9 a2 _ h17 _ _ _) ?_;simp only [go_sem,seval,cV u0,hvrP0,K2];apply hK;simp only [aC,aA];refine aK (aK (aQ λK hK=>?_));simp only [go_sem,seval,cV u0,hvrP0,K2];apply hK;simp only [aC,aA];refine eT h (λc18 h=>?_) (λc18 h=>?_)
   ·refine aQ λK hK=>?_;simp only [go_sem,seval,cV u0,c18,hvrP0,K2];apply hK;simp only [aC,aA];refine aK ?_;obtain ⟨x19,h20,h⟩:=aI h;refine aQ λK hK=>?_;simp only [go_sem,seval,cV u0,c18,hvrP0,K2];refine SC.bA (vG x6 x10 ({ a3 with eU:=a1.eU }:aB) _ h20 _ _ _ P0 zP0) ?_;simp only [go_sem,seval,cV u0,c18,hvrP0,K2];apply hK;simp only [aC,aA];refine cU ?_
    try simp only [aU,aR]
    cases h;refine ⟨by simp,?_⟩;simp only [go_sem,seval,aW,aV,aP,aZ,bE u0,l0,iE u0,fT u0,kK hvrP0,nO hvrP0,hvrP0,mB,dT,eI,CU,←GW,cV u0,c18,K2]
   ·refine cN ?_
    try simp only [aC,aA]
    refine aK ?_;obtain ⟨x21,h22,h⟩:=aI h;refine aQ λK hK=>?_;simp only [go_sem,seval,cV u0,c18,hvrP0,K2];refine SC.bA (vG x6 x10 a3 _ h22 _ _ _ P0 zP0) ?_;simp only [go_sem,seval,cV u0,c18,hvrP0,K2];apply hK;simp only [aC,aA];refine cU ?_
    try simp only [aU,aR]
    cases h;refine ⟨by simp,?_⟩;simp only [go_sem,seval,aW,aV,aP,aZ,bE u0,l0,iE u0,fT u0,kK hvrP0,nO hvrP0,hvrP0,mB,dT,eI,CU,←GW,cV u0,c18,K2]
  ·refine cN ?_
   try simp only [aC,aA]
   refine aK ?_;obtain ⟨x23,h25,h⟩:=aI h;obtain ⟨x24,h26,h⟩:=aI h;refine mW [(0,0),(1,0),(2,0),(3,0),(4,0),(5,1),(6,0),(7,0),(8,0),(9,0),(10,0),(11,0)] 23 λK hK=>?_;simp only [go_sem,seval,cV u0,c8,hvrP0,K1];refine Kv (EP a1.fI a2 _ h25 _ _ _) ?_;simp only [go_sem,seval,cV u0,c8,hvrP0,K1];refine Kv (Lb n a1.aO a2 _ h26 _ _ _) ?_;simp only [go_sem,seval,cV u0,c8,hvrP0,K1];apply hK;simp only [aC,aA];refine aK ?_;obtain ⟨x27,h29,h⟩:=aI h;obtain ⟨x28,h30,h⟩:=aI h;refine mW [(0,0),(1,0),(2,0),(3,0),(4,0),(5,0),(6,0),(7,0),(8,1),(9,0),(10,1),(11,0),(12,0),(13,0),(14,0),(15,0)] 39 λK hK=>?_;simp only [go_sem,seval,cV u0,c8,hvrP0,K1];refine Kv (nP x6 a1.bQ a2 a3 _ h29 _ _ _ P0 zP0) ?_;simp only [go_sem,seval,cV u0,c8,hvrP0,K1];refine Kv (nP x27.2 a1.eW a2 a3 _ h30 _ _ _ P0 zP0) ?_;simp only [go_sem,seval,cV u0,c8,hvrP0,K1];apply hK;simp only [aC,aA];refine aK (aQ λK hK=>?_);simp only [go_sem,seval,cV u0,c8,hvrP0,K1];apply hK;simp only [aC,aA];refine cU ?_
   try simp only [aU,aR]
   cases h;refine ⟨by simp,?_⟩;simp only [go_sem,seval,aW,aV,aP,aZ,bE u0,l0,iE u0,fT u0,kK hvrP0,nO hvrP0,hvrP0,mB,dT,eI,CU,←GW,cV u0,c8,K1]
theorem Bz {dS} (nP:mP dS) (n:Nat):sS (fL dS n):=by
 rintro a0 a1 a2 a3 r h q m vs P0 zP0 ⟨hv,w0,hvrP0⟩;refine SC.wv hv ?_;refine SC.ap w0 λu0 l0=>?_
 try simp only [go_sem,seval] at w0 l0
 refine sY func129 call129 ntmps129 results129 ?_;unfold fL at h;refine aK (aQ λK hK=>?_);simp only [go_sem,seval,bT u0,w0,hvrP0];apply hK;simp only [aC,aA];refine aK ?_;obtain ⟨x3,h4,h⟩:=aI h;refine aQ λK hK=>?_;simp only [go_sem,seval,bT u0,w0,hvrP0];refine SC.bA (oV a0 _ h4 _ _ _ P0 zP0) ?_;simp only [go_sem,seval,bT u0,w0,hvrP0];apply hK;simp only [aC,aA];refine aK ?_;obtain ⟨x5,h10,h⟩:=aI h;obtain ⟨f7,f8,f9⟩:=bZ h10;refine GC (o0 [0,1,2,3,4,5,6,7,8,9,10]) 16 ?_;simp only [aC,aA];refine aK ?_;obtain ⟨x11,h12,h⟩:=aI h;refine aQ λK hK=>?_;have K1:=qJ4 f7 f8 f9 w0;simp only [go_sem,seval,bT u0,hvrP0,K1];refine SC.mono (Dk n x3 a1 x5 a2 _ h12 _ _ _ P0 zP0 (by simp only [go_sem,seval,bT u0,hvrP0,K1])) ?_;rintro _ _ ⟨o_x11,j_x11,o2_x11,j2_x11,s_x11,s2_x11,d_x11,d2_x11,rfl,rfl⟩;replace s_x11:q <:+ o_x11:=List.IsSuffix.trans (by simp only [go_sem]) s_x11;replace s2_x11:q <:+ o2_x11:=List.IsSuffix.trans (by simp only [go_sem]) s2_x11;have K2:=qJ3 K1 s_x11 d_x11;simp only [go_sem,seval,bT u0,s2_x11,d2_x11,hvrP0,K2];apply hK;simp only [aC,aA];refine aK (aK ?_);obtain ⟨⟨f13,f14⟩,h⟩:=cH h;refine aQ λK hK=>?_;simp only [go_sem,seval,bT u0,s2_x11,d2_x11,f13,f14,hvrP0,K2];apply hK;simp only [aC,aA];refine dM ?_;obtain ⟨y19,b19,h⟩:=aI h;refine wZ (λc X Y=>∃v16 v17 v18 o_v16 j_v16,eE x5 c v16 v17 v18=some y19/\X 0=.ptr P0 0/\X 2=.list .none (a2.map (cI .i64))/\X 5=.ptr (0::q) 0/\X 7=.ptr (1::q) 0/\X 9=.ptr (14::q) 0/\X 10=.list (.st (.anon o_x11 j_x11)) (x11.1.map aB.C)/\Y.tok o_x11 j_x11=true/\q <:+ o_x11/\X 11=.list (.st (.anon o_v16 j_v16)) (v16.map (cI .i64))/\Y.tok o_v16 j_v16=true/\q <:+ o_v16/\X 37=.list .none ((x5.aX.drop x5.bC.toNat).map aL.C)/\X 38=.li ((x5.aX.drop x5.bC.toNat).length:Int)/\X 39=.li v17/\(o_x11=o_v16)=False/\(o_v16=o_x11)=False/\Y.blk P0=some ((bH.C v18.p_)++[.ls v18.f_.fM,.lb v18.f_.dF,.li v18.f_.bX,.li v18.f_.bC,.list .self (v18.f_.aX.map aL.C),.list .none (v18.f_.bQ.map aB.C),.li v18.eR,.li v18.e_])/\Y.blk (0::q)=some ((aB.C a1))/\Y.blk (1::q)=some ((aB.C a3))/\Y.blk (14::q)=some ((aT.C x5))/\Y.ver P0 5=zP0+v18.f_.aX.length/\Y.gl=m.gl/\m.back q Y=(m.setv P0 5 ((bH.C v18.p_)++[.ls v18.f_.fM,.lb v18.f_.dF,.li v18.f_.bX,.li v18.f_.bC,.list .self (v18.f_.aX.map aL.C),.list .none (v18.f_.bQ.map aB.C),.li v18.eR,.li v18.e_]) (zP0+v18.f_.aX.length))) n ⟨x11.2.1,(0:Int),x11.2.2,o2_x11,j2_x11,b19,?_⟩ ?_
 ·simp only [go_sem,seval,aW,aV,aP,aZ,bE u0,l0,iE u0,fT u0,kK hvrP0,nO hvrP0,hvrP0,mB,dT,eI,CU,←GW,bT u0,s2_x11,d2_x11,f13,f14,K2]
 rintro i15 c20 E21 m22 ⟨v16,v17,v18,o_v16,j_v16,b19,e23⟩ _
 rcases c20 with _ | c20
 ·cases b19
 rw [eE] at b19;refine aK (aQ λK hK=>?_);have K3:=qJ8 f7 f8 f9 s_x11 d_x11 f13 f14 e23;simp only [go_sem,seval,bT u0,s2_x11,d2_x11,K3];apply hK;simp only [aC,aA];refine aK (eT b19 (λc24 b19=>?_) (λc24 b19=>?_))
 ·refine cN ?_
  try simp only [aC,aA]
  refine aK (dM (aK ?_));obtain ⟨x25,h30,b19⟩:=aI b19;obtain ⟨f27,f28,f29⟩:=bZ h30;refine aQ λK hK=>?_;have K4:=qJ5 K3 c24 f27 f28 f29;simp only [go_sem,seval,bT u0,s2_x11,d2_x11,K4];apply hK;simp only [aC,aA];obtain ⟨x31,h32,b19⟩:=aI b19;obtain ⟨f33,b19⟩:=cH b19;have f34:v16.length+1<=1073741824:=by first | omega | (simp only [mB,dT,eI] at f33 ⊢;omega)
  have f35:v16.length<=1073741823:=by first | omega | (simp only [mB,dT,eI] at f33 ⊢;omega)
  refine Eg (o:=o_x11) (j:=j_x11) (by simp only [go_sem,seval,bT u0,s2_x11,d2_x11,f33,f34,f35,K4]) λf36=>?_;have f37:=f36 10 (by omega);refine aQ λK hK=>?_;have K5:=qJ4 K4 f33 f34 f35;simp only [go_sem,seval,bT u0,s2_x11,d2_x11,f37.1,f37.2,K5];refine SC.by_ (oU v18 x25 _ h32 _ _ _ P0 zP0 (by simp only [go_sem,seval,bT u0,s2_x11,d2_x11,f37.1,f37.2,K5])) ?_;simp only [go_sem,seval,bT u0,s2_x11,d2_x11,f37.1,f37.2,K5];apply hK;simp only [aC,aA];refine aQ λK hK=>?_;simp only [go_sem,seval,bT u0,s2_x11,d2_x11,f37.1,f37.2,K5];apply hK;simp only [aC,aA];refine ⟨c20,MU _,(v16++[x31.1]),(i64.wrap (v17+(1:Int))),x31.2,(10::i15::33::q),0,b19,?_⟩;simp only [go_sem,seval,aW,aV,aP,aZ,bE u0,l0,iE u0,fT u0,kK hvrP0,nO hvrP0,hvrP0,mB,dT,eI,CU,←GW,bT u0,s2_x11,d2_x11,f37.1,f37.2,K5]
 ·refine lV ?_
  try simp only [seval,bD,aY,aC,aA]
  obtain rfl:=bU b19;refine aK (aK (aQ λK hK=>?_));simp only [go_sem,seval,bT u0,s2_x11,d2_x11,c24,K3];apply hK;simp only [aC,aA];refine eT h (λc38 h=>?_) (λc38 h=>?_)
  ·refine aK (aQ λK hK=>?_);simp only [go_sem,seval,bT u0,s2_x11,d2_x11,c24,c38,K3];apply hK;simp only [aC,aA];refine cU ?_
   try simp only [aU,aR]
   cases h;refine ⟨by simp,?_⟩;simp only [go_sem,seval,aW,aV,aP,aZ,bE u0,l0,iE u0,fT u0,kK hvrP0,nO hvrP0,hvrP0,mB,dT,eI,CU,←GW,bT u0,s2_x11,d2_x11,c24,c38,K3]
  ·refine cN ?_
   try simp only [aC,aA]
   refine aK ?_;obtain ⟨x39,h41,h⟩:=aI h;obtain ⟨x40,h42,h⟩:=aI h;obtain ⟨f43,h⟩:=cH h;have f44:x11.1.length+x40.1.length<=1073741824:=by first | omega | (simp only [mB,dT,eI] at f43 ⊢;omega)
   refine Eg (o:=o_v16) (j:=j_v16) (by simp only [go_sem,seval,bT u0,s2_x11,d2_x11,c24,c38,f43,f44,K3]) λf45=>?_;have f46:=f45 50 (by omega);refine mW [(5,0),(6,0),(7,0),(8,0),(9,0),(1,0),(2,0),(3,1),(4,0),(10,0),(0,0),(11,0),(12,0)] 52 λK hK=>?_;have K6:=qJ5 K3 c24 c38 f43 f44;simp only [go_sem,seval,bT u0,s2_x11,d2_x11,f46.1,f46.2,K6];refine gQ (Cd v18 a1 a2 a3 _ h41 _ _ _ P0 zP0 (by simp only [go_sem,seval,bT u0,s2_x11,d2_x11,f46.1,f46.2,K6])) rfl ?_;simp only [go_sem,seval,bT u0,s2_x11,d2_x11,f46.1,f46.2,K6];refine gQ (nP v18 x5.bQ v16 x39 _ h42 _ _ _ P0 zP0 (by simp only [go_sem,seval,bT u0,s2_x11,d2_x11,f46.1,f46.2,K6])) rfl ?_;simp only [go_sem,seval,bT u0,s2_x11,d2_x11,f46.1,f46.2,K6];apply hK;simp only [aC,aA];refine cU ?_
   try simp only [aU,aR]
   cases h;refine ⟨by simp,?_⟩;simp only [go_sem,seval,aW,aV,aP,aZ,bE u0,l0,iE u0,fT u0,kK hvrP0,nO hvrP0,hvrP0,mB,dT,eI,CU,←GW,bT u0,s2_x11,d2_x11,f46.1,f46.2,K6]
theorem tB:∀n,mP (dV n)/\qI (fH n)/\sS (kJ n)
 | 0=>⟨λ_ _ _ _ _ h=>dO h,λ_ _ _ _ _ h=>dO h,λ_ _ _ _ _ h=>dO h⟩
 | n+1=>
   have ih:=tB n
   ⟨AY ih.2.1 n,yS ih.2.2 ih.1 n,Bz ih.1 n⟩
theorem Ce (n:Nat):mP (dV n):=(tB n).1
def Oc (f:bH->Int->Option (aT × Int)):Prop:=∀a0 a1 r,f a0 a1=some r->CJ prog 32 [.agg ((bH.C a0)),.li a1] (.tup [.agg ((aT.C r.1)),.li r.2])
theorem Mz (n:Nat):Oc (uX n):=by
 intro a0 a1 r h q m vs hv;refine SC.wv hv (sY func32 call32 ntmps32 results32 ?_);unfold uX at h;refine aK (aQ λK hK=>?_);simp only [go_sem,seval];apply hK;simp only [aC,aA];refine aK (aK ?_);obtain ⟨y3,b3,h⟩:=aI h;refine yL 12 (λX Y=>X 1=.li a1/\X 2=.ptr (0::q) 0/\X 4=.ptr (1::q) 0/\X 15=.lb y3/\Y.blk (0::q)=some ((bH.C a0))/\Y.blk (1::q)=some ([.ls [],.lb false,.li (0:Int),.li (0:Int),.list .self ([].map aL.C),.list .self ([].map aB.C)])/\Y.gl=m.gl/\m.back q Y=m) ?_ ?_
 ·rcases xW b3 with ⟨c4,b3⟩ | ⟨c4,b3⟩
  ·refine aQ λK hK=>?_;simp only [go_sem,seval,c4];apply hK;simp only [aC,aA];obtain rfl:=bU b3;refine ⟨by decide,?_⟩;simp only [go_sem,seval,aW,BU,aV,aP,aZ,c4]
  ·refine aQ λK hK=>?_;simp only [go_sem,seval,c4];apply hK;simp only [aC,aA];obtain rfl:=bU b3;refine ⟨by decide,?_⟩;simp only [go_sem,seval,aW,BU,aV,aP,aZ,c4]
 ·intro E5 m6 e7 _;simp only [aC,aA];refine eT h (λc8 h=>?_) (λc8 h=>?_)
  ·refine aK (aQ λK hK=>?_);simp only [go_sem,seval,c8,e7];apply hK;simp only [aC,aA];refine Ac (id:=(1::q)) (off:=4) (cs:=[.ls [],.lb false,.li (0:Int),.li (0:Int),.nilv,.nilv]) (by simp only [go_sem,seval,c8,e7]) rfl ?_;refine Ac (id:=(1::q)) (off:=5) (cs:=[.ls [],.lb false,.li (0:Int),.li (0:Int),.list .none [],.nilv]) (by simp only [go_sem,seval,c8,e7]) rfl ?_;refine cU ?_
   try simp only [aU,aR]
   cases h;refine ⟨by simp,?_⟩;simp only [go_sem,seval,aW,BU,aV,aP,aZ,c8,e7]
  ·refine cN ?_
   try simp only [aC,aA]
   refine aK ?_;obtain ⟨x9,h14,h⟩:=aI h;obtain ⟨f11,f12,f13⟩:=bZ h14;refine GC (o0 [0,1,2,3,4,5,6,7,8]) 21 ?_;simp only [aC,aA];refine aK (SW_setv (id:=(19::q)) (off:=5) (n:=m6.ver (19::q) 5+x9.aX.length) (cs:=[.list .none (a0.bF.map aT.C),.ls x9.fM,.lb x9.dF,.li x9.bX,.li x9.bC,.list .none (x9.aX.map aL.C),.list .none (x9.bQ.map aB.C),.li (0:Int),.li (0:Int)]) (v0:=.list .none (x9.aX.map aL.C)) (by simp only [go_sem,seval,c8,f11,f12,f13,e7]) rfl (λ_=>rfl) (λ_ h=>by cases h) (by simp only [go_sem,seval,c8,f11,f12,f13,e7];exact Nat.le_add_right _ _) ?_);obtain ⟨f15,h⟩:=cH h;have f16:x9.aX.length<=1073741824:=by first | omega | (simp only [mB,dT,eI] at f15 ⊢;omega)
   refine aQ λK hK=>?_;have K1:=qJ7 c8 f11 f12 f13 f15 f16 e7;simp only [go_sem,seval,K1];apply hK;simp only [aC,aA];refine aK ?_;obtain ⟨x17,h18,h⟩:=aI h;refine aQ λK hK=>?_;simp only [go_sem,seval,K1];refine SC.by_ (Ce n (aJ.mk a0 x9 (0:Int) (0:Int)) x9.bQ [] (aB.mk ([114,101,116,117,114,110]:cF) (-1:Int) (0:Int) [] [] [] (-1:Int)) _ h18 _ _ _ (19::q) (m6.ver (19::q) 5+1) (by simp only [go_sem,seval,Nat.add_right_comm,K1])) ?_;simp only [go_sem,seval,K1];apply hK;simp only [aC,aA];refine aK (aK (aQ λK hK=>?_));simp only [go_sem,seval,K1];apply hK;simp only [aC,aA];refine eT h (λc19 h=>?_) (λc19 h=>?_)
   ·refine aK (GC [(0,0),(5,0),(1,0),(2,0),(3,0),(4,1),(6,0)] 58 ?_);simp only [aC,aA];refine Ac (id:=(1::q)) (off:=4) (cs:=[.ls [],.lb false,.li (0:Int),.li (0:Int),.nilv,.nilv]) (by simp only [go_sem,seval,c19,K1]) rfl ?_;refine Ac (id:=(1::q)) (off:=5) (cs:=[.ls [],.lb false,.li (0:Int),.li (0:Int),.list .none [],.nilv]) (by simp only [go_sem,seval,c19,K1]) rfl ?_;refine cU ?_
    try simp only [aU,aR]
    cases h;refine ⟨by simp,?_⟩;simp only [go_sem,seval,aW,BU,aV,aP,aZ,c19,K1]
   ·refine cN ?_
    try simp only [aC,aA]
    refine aK (aQ λK hK=>?_);simp only [go_sem,seval,c19,K1];apply hK;simp only [aC,aA];refine cU ?_
    try simp only [aU,aR]
    cases h;refine ⟨by simp,?_⟩;simp only [go_sem,seval,aW,BU,aV,aP,aZ,c19,K1]
