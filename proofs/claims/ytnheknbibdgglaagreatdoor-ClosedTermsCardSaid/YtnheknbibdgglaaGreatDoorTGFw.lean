import Derived.Test.YtnheknbibdgglaaGreatDoorTH8
namespace Go.Proofs.YtnheknbibdgglaaGreatDoor.Abs
open Go.RowKit Tryz
open IntKind (i64 u32 u64 u8)
set_option linter.all false
set_option maxRecDepth 10000
set_option maxHeartbeats 2000000
open Tryz
def DJ (f:aI->Option aI):Prop:=∀a0 r,f a0=some r->∀(q:Pa) (m:M) (vs:List V) (P0:Pa) (zP0:Nat),vs.map V.weak1=[.ptr P0 0]/\m.blk P0=some ((aW.C a0.p_)++[.ls a0.f_.gP,.lb a0.f_.dU,.li a0.f_.bN,.li a0.f_.aT,.list .self (a0.f_.aR.map aJ.C),.list .none (a0.f_.bH.map aA.C),.li a0.fW,.li a0.e_])/\m.ver P0 5=zP0+a0.f_.aR.length->SC prog 92 vs q m (λv Y=>v=.tup []/\Y=(m.setv P0 5 ((aW.C r.p_)++[.ls r.f_.gP,.lb r.f_.dU,.li r.f_.bN,.li r.f_.aT,.list .self (r.f_.aR.map aJ.C),.list .none (r.f_.bH.map aA.C),.li r.fW,.li r.e_]) (zP0+r.f_.aR.length)))
theorem oW:DJ (dT):=by
 rintro a0 r h q m vs P0 zP0 ⟨hv,w0,hvrP0⟩;refine SC.wv hv ?_;refine SC.ap w0 λu0 l0=>?_
 try simp only [go_sem] at w0 l0
 refine sS func92 call92 ntmps92 results92 ?_;unfold dT at h;refine bL ?_;refine bL ?_;refine dI h (λc1 h=>?_) (λc1 h=>?_)
 ·refine cX λK hK=>?_;simp only [go_sem,seval,c1];apply hK;simp only [];cases h;refine ⟨by simp,?_⟩;simp only [go_sem,bV,eX u0,GP hvrP0]
 ·refine bP ?_;cases h;refine ⟨by simp,?_⟩;simp only [go_sem,bV,eX u0,GP hvrP0,c1]
def Mv (f:Int->(List Int)->Option Int):Prop:=∀a0 a1 r,f a0 a1=some r->AQ prog 95 [.li a0,.list .none (a1.map (cI .i64))] (.li r)
theorem FC:Mv (yI):=λa0 a1 r h q m vs hv=>SC.wva hv (cY func95 call95 ntmps95 results95 rfl (wk (.j 2 1 9 [.v 12 Bool λy=>.lb y] [0,1] [] [] none .z .z) q m (yI.eq_1 _ _) h))
instance:mN 95 (Mv yI):=⟨FC⟩
def AI (f:aD->(List Int)->Option aD):Prop:=∀a0 a1 r,f a0 a1=some r->AQ prog 93 [.agg ((aD.C a0)),.list .none (a1.map (cI .i64))] (.agg ((aD.C r)))
def yK (f:(List aD)->(List Int)->Option (List aD)):Prop:=∀a0 a1 r,f a0 a1=some r->AQ prog 96 [.list .none (a0.map aD.C),.list .none (a1.map (cI .i64))] (.list .none (r.map aD.C))
theorem La {uW} (JC:yK uW) (n:Nat):AI (uY uW n):=haveI:mN 96 (yK uW):=⟨JC⟩;λa0 a1 r h q m vs hv=>SC.wva hv (cY func93 call93 ntmps93 results93 rfl (wk .z q m (uY.eq_1 _ _ _ _) h))
theorem JD {rO} (KW:AI rO) (n:Nat):yK (tT rO n):=haveI:mN 93 (AI rO):=⟨KW⟩;λa0 a1 r h q m vs hv=>SC.wva hv (cY func96 call96 ntmps96 results96 rfl (wk (.s 5 (.l [.o 5 (List aD) λy=>(y.map aD.C),.v 10 Int λy=>.li y] [1,8,9] [] [] none .z .z)) q m (tT.eq_1 _ _ _ _) h))
theorem Ad:∀n,AI (rT n)/\yK (tU n)
 | 0=>⟨λ_ _ _ h=>dH h,λ_ _ _ h=>dH h⟩
 | n+1=>
   have ih:=Ad n
   ⟨La ih.2 n,JD ih.1 n⟩
theorem FD (n:Nat):AI (rT n):=(Ad n).1
theorem LO (n:Nat):yK (tU n):=(Ad n).2
def DI (f:aI->aJ->Option (Int × aI)):Prop:=∀a0 a1 r,f a0 a1=some r->∀(q:Pa) (m:M) (vs:List V) (P0:Pa) (zP0:Nat),vs.map V.weak1=[.ptr P0 0,.agg ((aJ.C a1))]/\m.blk P0=some ((aW.C a0.p_)++[.ls a0.f_.gP,.lb a0.f_.dU,.li a0.f_.bN,.li a0.f_.aT,.list .self (a0.f_.aR.map aJ.C),.list .none (a0.f_.bH.map aA.C),.li a0.fW,.li a0.e_])/\m.ver P0 5=zP0+a0.f_.aR.length->SC prog 137 vs q m (λv Y=>v=.li r.1/\Y=(m.setv P0 5 ((aW.C r.2.p_)++[.ls r.2.f_.gP,.lb r.2.f_.dU,.li r.2.f_.bN,.li r.2.f_.aT,.list .self (r.2.f_.aR.map aJ.C),.list .none (r.2.f_.bH.map aA.C),.li r.2.fW,.li r.2.e_]) (zP0+r.2.f_.aR.length)))
theorem oV:DI (dS):=by
 rintro a0 a1 r h q m vs P0 zP0 ⟨hv,w0,hvrP0⟩;refine SC.wv hv ?_;refine SC.ap w0 λu0 l0=>?_
 try simp only [go_sem] at w0 l0
 refine sS func137 call137 ntmps137 results137 ?_;unfold dS at h;refine bL ?_;refine aO (bL ?_);refine dI h (λc2 h=>?_) (λc2 h=>?_)
 ·refine bL ?_;refine bL ?_;refine cD ?_
  try simp only [cM]
  cases h;refine ⟨by simp,?_⟩;simp only [go_sem,seval,bT,bV,eX u0,GP hvrP0]
 ·refine bP ?_
  refine aO ?_;obtain ⟨f3,h⟩:=bY h;have f4:a0.f_.aR.length+1<=1073741824:=by first | omega | (simp only [mX,pX,sY] at f3 ⊢;omega)
  have f5:a0.f_.aR.length<=1073741823:=by first | omega | (simp only [mX,pX,sY] at f3 ⊢;omega)
  refine dZ λK hK=>?_;simp only [go_sem,seval,rP u0,c2,f4,w0,hvrP0];apply hK;refine bL ?_;refine cD ?_;cases h;refine ⟨by simp,?_⟩;simp only [go_sem,seval,bT,bQ,bV,eX u0,QQ u0,UQ hvrP0,mX,pX,sY,Lo,←Nat.add_assoc]
def En (f:aI->aA->aQ->(List Int)->Option ((List aA) × (List Int) × aI)):Prop:=∀a0 a1 a2 a3 r,f a0 a1 a2 a3=some r->∀(q:Pa) (m:M) (vs:List V) (P0:Pa) (zP0:Nat),vs.map V.weak1=[.ptr P0 0,.agg ((aA.C a1)),.agg ((aQ.C a2)),.list .none (a3.map (cI .i64))]/\m.blk P0=some ((aW.C a0.p_)++[.ls a0.f_.gP,.lb a0.f_.dU,.li a0.f_.bN,.li a0.f_.aT,.list .self (a0.f_.aR.map aJ.C),.list .none (a0.f_.bH.map aA.C),.li a0.fW,.li a0.e_])/\m.ver P0 5=zP0+a0.f_.aR.length->SC prog 136 vs q m (λv Y=>∃(id:Pa) (j:Nat) (id2:Pa) (j2:Nat),q <:+ id/\q <:+ id2/\(id=id2)=False/\(id2=id)=False/\v=.tup [.list (.st (.anon id j)) (r.1.map aA.C),.list (.st (.anon id2 j2)) (r.2.1.map (cI .i64))]/\Y=((m.setv P0 5 ((aW.C r.2.2.p_)++[.ls r.2.2.f_.gP,.lb r.2.2.f_.dU,.li r.2.2.f_.bN,.li r.2.2.f_.aT,.list .self (r.2.2.f_.aR.map aJ.C),.list .none (r.2.2.f_.bH.map aA.C),.li r.2.2.fW,.li r.2.2.e_]) (zP0+r.2.2.f_.aR.length)).tokset id j true).tokset id2 j2 true)
theorem DK (n:Nat):En (mK n):=by
 rintro a0 a1 a2 a3 r h q m vs P0 zP0 ⟨hv,w0,hvrP0⟩;refine SC.wv hv ?_;refine SC.ap w0 λu0 l0=>?_
 try simp only [go_sem] at w0 l0
 refine SC_of2 func136 rfl (λxs w=>call136 xs w) ntmps136 (by kernel_rfl) (congrArg Array.toList results136) (λo1 o2=>.tup [.list o1 (r.1.map aA.C),.list o2 (r.2.1.map (cI .i64))]) ?_;unfold mK at h;refine bL ?_;refine bL ?_;refine bL ?_;refine aO (bL ?_);refine cU ?_;obtain ⟨y8,b8,h⟩:=aF h;refine Cq 10 ([].map aA.C) rfl (by simp only [go_sem,seval]) ?_;refine Cq 11 ([].map (cI .i64)) rfl (by simp only [go_sem,seval]) ?_;refine tQ (λc X Y=>∃v4 v5 v6 v7 o_v4 j_v4 o_v5 j_v5,eS n a1 a3 a2 c v4 v5 v6 v7=some y8/\X 0=.ptr P0 0/\X 3=.list .none (a3.map (cI .i64))/\X 5=.ptr (0::q) 0/\X 6=.ptr (1::q) 0/\X 10=.list (.st (.anon o_v4 j_v4)) (v4.map aA.C)/\Y.tok o_v4 j_v4=true/\q <:+ o_v4/\X 11=.list (.st (.anon o_v5 j_v5)) (v5.map (cI .i64))/\Y.tok o_v5 j_v5=true/\q <:+ o_v5/\X 17=.list .none (a1.aL.map aD.C)/\X 18=.li (a1.aL.length:Int)/\X 19=.li v6/\(o_v4=o_v5)=False/\(o_v5=o_v4)=False/\Y.blk P0=some ((aW.C v7.p_)++[.ls v7.f_.gP,.lb v7.f_.dU,.li v7.f_.bN,.li v7.f_.aT,.list .self (v7.f_.aR.map aJ.C),.list .none (v7.f_.bH.map aA.C),.li v7.fW,.li v7.e_])/\Y.blk (0::q)=some ((aA.C a1))/\Y.blk (1::q)=some ((aQ.C a2))/\Y.ver P0 5=zP0+v7.f_.aR.length/\Y.gl=m.gl/\m.back q Y=(m.setv P0 5 ((aW.C v7.p_)++[.ls v7.f_.gP,.lb v7.f_.dU,.li v7.f_.bN,.li v7.f_.aT,.list .self (v7.f_.aR.map aJ.C),.list .none (v7.f_.bH.map aA.C),.li v7.fW,.li v7.e_]) (zP0+v7.f_.aR.length))) n ⟨[],[],(0:Int),a0,(10::q),0,(11::q),0,b8,?_⟩ ?_
 ·simp only [go_sem,seval,bT,bQ,bV,l0,GP hvrP0,hvrP0,pU u0,w0]
 rintro i3 c9 E10 m11 ⟨v4,v5,v6,v7,o_v4,j_v4,o_v5,j_v5,b8,e12⟩ _
 rcases c9 with _ | c9
 ·cases b8
 rw [eS] at b8;refine bL ?_;refine aO (dI b8 (λc13 b8=>?_) (λc13 b8=>?_))
 ·refine bP ?_
  refine aO ?_;obtain ⟨y14,b14,b8⟩:=aF b8;refine tK 47 (λX Y=>∃(oy14_10:Pa) (jy14_10:Nat),∃(oy14_11:Pa) (jy14_11:Nat),X 0=.ptr P0 0/\X 3=.list .none (a3.map (cI .i64))/\X 5=.ptr (0::q) 0/\X 6=.ptr (1::q) 0/\X 10=.list (.st (.anon oy14_10 jy14_10)) (y14.1.map aA.C)/\Y.tok oy14_10 jy14_10=true/\q <:+ oy14_10/\X 11=.list (.st (.anon oy14_11 jy14_11)) (y14.2.1.map (cI .i64))/\Y.tok oy14_11 jy14_11=true/\q <:+ oy14_11/\X 17=.list .none (a1.aL.map aD.C)/\X 18=.li (a1.aL.length:Int)/\X 19=.li v6/\(oy14_10=oy14_11)=False/\(oy14_11=oy14_10)=False/\Y.blk P0=some ((aW.C y14.2.2.p_)++[.ls y14.2.2.f_.gP,.lb y14.2.2.f_.dU,.li y14.2.2.f_.bN,.li y14.2.2.f_.aT,.list .self (y14.2.2.f_.aR.map aJ.C),.list .none (y14.2.2.f_.bH.map aA.C),.li y14.2.2.fW,.li y14.2.2.e_])/\Y.blk (0::q)=some ((aA.C a1))/\Y.blk (1::q)=some ((aQ.C a2))/\Y.ver P0 5=zP0+y14.2.2.f_.aR.length/\Y.gl=m.gl/\m.back q Y=(m.setv P0 5 ((aW.C y14.2.2.p_)++[.ls y14.2.2.f_.gP,.lb y14.2.2.f_.dU,.li y14.2.2.f_.bN,.li y14.2.2.f_.aT,.list .self (y14.2.2.f_.aR.map aJ.C),.list .none (y14.2.2.f_.bH.map aA.C),.li y14.2.2.fW,.li y14.2.2.e_]) (zP0+y14.2.2.f_.aR.length))) ?_ ?_
  ·refine cU (aO ?_);obtain ⟨x15,h20,b14⟩:=aF b14;obtain ⟨f17,f18,f19⟩:=bI h20;refine lP ?_;refine aO (bL ?_);refine dI b14 (λc21 b14=>?_) (λc21 b14=>?_)
   ·refine aO ?_;obtain ⟨x22,h23,b14⟩:=aF b14;obtain ⟨f24,b14⟩:=bY b14;have f25:v5.length+1<=1073741824:=by first | omega | (simp only [mX,pX,sY] at f24 ⊢;omega)
    have f26:v5.length<=1073741823:=by first | omega | (simp only [mX,pX,sY] at f24 ⊢;omega)
    refine EQ (o:=o_v4) (j:=j_v4) (by simp only [go_sem,e12]) λf27=>?_;have f28:=f27 16 (by omega);refine dD λK hK=>?_;simp only [go_sem,seval,c21,e12];refine SC.bA (FC x15.eB a3 _ h23 _ _ _) ?_;simp only [go_sem,seval,f25,e12];apply hK;refine jJ ?_
    try simp only [dB,cP,↓reduceIte,aK]
    obtain rfl:=aU b14;refine ⟨by decide,o_v4,j_v4,(16::i3::12::q),0,?_⟩;simp only [go_sem,seval,bT,bQ,pU u0,f28.1,f28.2,e12]
   ·refine bP ?_
    refine bL ?_;refine aO (aO ?_);obtain ⟨x29,h33,b14⟩:=aF b14;obtain ⟨f30,f31,f32⟩:=bI h33;refine lP ?_;refine dI b14 (λc34 b14=>?_) (λc34 b14=>?_)
    ·refine lP ?_;refine aO ?_;obtain ⟨x35,h36,b14⟩:=aF b14;refine dD λK hK=>?_;simp only [go_sem,seval,e12];refine SC.bA (oW v7 _ h36 _ _ _ P0 zP0) ?_;simp only [go_sem,seval];apply hK;refine aO ?_;obtain ⟨x37,h38,b14⟩:=aF b14;refine dD λK hK=>?_;simp only [go_sem,seval,pU u0,f17,f31,f32,e12];refine SC.bA (oV x35 x29 _ h38 _ _ _ P0 zP0) ?_;simp only [go_sem,seval];apply hK;refine aO ?_;obtain ⟨f39,b14⟩:=bY b14;have f40:v5.length+1<=1073741824:=by first | omega | (simp only [mX,pX,sY] at f39 ⊢;omega)
     have f41:v5.length<=1073741823:=by first | omega | (simp only [mX,pX,sY] at f39 ⊢;omega)
     refine EQ (o:=o_v4) (j:=j_v4) (by simp only [go_sem,e12]) λf42=>?_;have f43:=f42 32 (by omega);refine lP ?_;obtain ⟨x44,h45,b14⟩:=aF b14;obtain ⟨f46,b14⟩:=bY b14;have f47:v4.length+1<=1073741824:=by first | omega | (simp only [mX,pX,sY] at f46 ⊢;omega)
     have f48:v4.length<=1073741823:=by first | omega | (simp only [mX,pX,sY] at f46 ⊢;omega)
     refine dZ λK hK=>?_;simp only [go_sem,seval,pU u0,e12];refine SC.bA (FD n x15 a3 _ h45 _ _ _) ?_;simp only [go_sem,seval,pU u0,f43.1,f47,e12];apply hK;simp only [aK,bU];obtain rfl:=aU b14;refine ⟨by decide,(45::i3::12::q),0,(32::i3::12::q),0,?_⟩;simp only [go_sem,seval,bT,bQ,tI u0,pU u0,f43.2,e12]
    ·refine bP ?_
     refine aO ?_;obtain ⟨x49,h50,b14⟩:=aF b14;refine dD λK hK=>?_;simp only [go_sem,seval,c34,e12];refine SC.bA (oW v7 _ h50 _ _ _ P0 zP0) ?_;simp only [go_sem,seval];apply hK;refine aO ?_;obtain ⟨x51,h52,b14⟩:=aF b14;refine dD λK hK=>?_;simp only [go_sem,seval,pU u0,f17,f31,f32,e12];refine SC.bA (oV x49 x29 _ h52 _ _ _ P0 zP0) ?_;simp only [go_sem,seval];apply hK;refine aO ?_;obtain ⟨f53,b14⟩:=bY b14;have f54:v5.length+1<=1073741824:=by first | omega | (simp only [mX,pX,sY] at f53 ⊢;omega)
     have f55:v5.length<=1073741823:=by first | omega | (simp only [mX,pX,sY] at f53 ⊢;omega)
     refine EQ (o:=o_v4) (j:=j_v4) (by simp only [go_sem,e12]) λf56=>?_;have f57:=f56 31 (by omega);refine lP ?_;obtain ⟨x58,h59,b14⟩:=aF b14;obtain ⟨f60,b14⟩:=bY b14;have f61:v4.length+1<=1073741824:=by first | omega | (simp only [mX,pX,sY] at f60 ⊢;omega)
     have f62:v4.length<=1073741823:=by first | omega | (simp only [mX,pX,sY] at f60 ⊢;omega)
     refine dZ λK hK=>?_;simp only [go_sem,seval,pU u0,e12];refine SC.bA (FD n x15 a3 _ h59 _ _ _) ?_;simp only [go_sem,seval,pU u0,f57.1,f61,e12];apply hK;simp only [aK,bU];obtain rfl:=aU b14;refine ⟨by decide,(44::i3::12::q),0,(31::i3::12::q),0,?_⟩;simp only [go_sem,seval,bT,bQ,tI u0,pU u0,f57.2,e12]
  ·rintro E63 m64 ⟨oy14_10,jy14_10,oy14_11,jy14_11,e65⟩ _;refine lP ?_;refine ⟨c9,JO _,y14.1,y14.2.1,(i64.wrap (v6+(1:Int))),y14.2.2,oy14_10,jy14_10,oy14_11,jy14_11,b8,?_⟩;simp only [go_sem,seval,e65]
 ·refine jJ ?_
  try simp only [dB,cP,↓reduceIte,aK]
  obtain rfl:=aU b8;refine bL ?_;refine cD ?_;cases h;refine ⟨by simp,?_⟩;refine ⟨o_v4,j_v4,o_v5,j_v5,?_,?_,?_,?_,?_,?_,?_,?_⟩ <;> simp only [go_sem,seval,e12]
def DH (f:aI->aA->(List Int)->aA->Option aA):Prop:=∀a0 a1 a2 a3 r,f a0 a1 a2 a3=some r->∀(q:Pa) (m:M) (vs:List V) (P0:Pa) (zP0:Nat),vs.map V.weak1=[.ptr P0 0,.agg ((aA.C a1)),.list .none (a2.map (cI .i64)),.agg ((aA.C a3))]/\m.blk P0=some ((aW.C a0.p_)++[.ls a0.f_.gP,.lb a0.f_.dU,.li a0.f_.bN,.li a0.f_.aT,.list .self (a0.f_.aR.map aJ.C),.list .none (a0.f_.bH.map aA.C),.li a0.fW,.li a0.e_])/\m.ver P0 5=zP0+a0.f_.aR.length->SC prog 138 vs q m (λv Y=>v=.agg ((aA.C r))/\Y=m)
theorem CD:DH (jX):=by
 rintro a0 a1 a2 a3 r h q m vs P0 zP0 ⟨hv,w0,hvrP0⟩;refine SC.wv hv ?_;refine SC.apart w0 λu0=>?_
 try simp only [go_sem] at w0
 refine sS func138 call138 ntmps138 results138 ?_;unfold jX at h;refine bL ?_;refine aO ?_;obtain ⟨x4,h8,h⟩:=aF h;obtain ⟨f5,f6,f7⟩:=bI h8;refine dZ λK hK=>?_;simp only [go_sem,seval,rP u0,f5,f6,f7,w0];apply hK;refine aO (bL ?_);refine cU (bL ?_);refine dI h (λc9 h=>?_) (λc9 h=>?_)
 ·refine aO (bL ?_);refine dI h (λc10 h=>?_) (λc10 h=>?_)
  ·refine lP ?_;refine bL ?_;refine cD ?_
   try simp only [cM,iT]
   cases h;exact jS
  ·refine bP ?_
   refine bL ?_;refine cD ?_
   try simp only [cM,iT]
   cases h;exact jS
 ·refine bL ?_;refine dI h (λc11 h=>?_) (λc11 h=>?_)
  ·refine bL ?_;refine cD ?_
   try simp only [cM,iT]
   cases h;exact jS
  ·refine bP ?_
   try simp only [aK,bU]
   refine aO ?_;obtain ⟨x12,h13,h⟩:=aF h;refine dZ λK hK=>?_;simp only [go_sem,seval,c11];refine SC.bA (FC a1.eB a2 _ h13 _ _ _) ?_;simp only [go_sem,seval];apply hK;refine cD ?_;cases h;exact jS
def Em (f:aI->aD->aA->Option (aA × aI)):Prop:=∀a0 a1 a2 r,f a0 a1 a2=some r->∀(q:Pa) (m:M) (vs:List V) (P0:Pa) (zP0:Nat),vs.map V.weak1=[.ptr P0 0,.agg ((aD.C a1)),.agg ((aA.C a2))]/\m.blk P0=some ((aW.C a0.p_)++[.ls a0.f_.gP,.lb a0.f_.dU,.li a0.f_.bN,.li a0.f_.aT,.list .self (a0.f_.aR.map aJ.C),.list .none (a0.f_.bH.map aA.C),.li a0.fW,.li a0.e_])/\m.ver P0 5=zP0+a0.f_.aR.length->SC prog 94 vs q m (λv Y=>v=.agg ((aA.C r.1))/\Y=(m.setv P0 5 ((aW.C r.2.p_)++[.ls r.2.f_.gP,.lb r.2.f_.dU,.li r.2.f_.bN,.li r.2.f_.aT,.list .self (r.2.f_.aR.map aJ.C),.list .none (r.2.f_.bH.map aA.C),.li r.2.fW,.li r.2.e_]) (zP0+r.2.f_.aR.length)))
theorem vQ:Em (eQ):=by
 rintro a0 a1 a2 r h q m vs P0 zP0 ⟨hv,w0,hvrP0⟩;refine SC.wv hv ?_;refine SC.ap w0 λu0 l0=>?_
 try simp only [go_sem] at w0 l0
 refine sS func94 call94 ntmps94 results94 ?_;unfold eQ at h;refine bL ?_;refine bL ?_;refine aO (bL ?_);refine dI h (λc4 h=>?_) (λc4 h=>?_)
 ·obtain ⟨x5,h6,h⟩:=aF h;refine dD λK hK=>?_;simp only [go_sem,seval,c4];refine SC.bA (oV a0 (aJ.mk [] a2.iH (0:Int)) _ h6 _ _ _ P0 zP0) ?_;simp only [go_sem,seval,rP u0];apply hK;refine bL ?_;refine bL ?_;refine cD ?_;cases h;refine ⟨by simp,?_⟩;simp only [go_sem,seval,bT,dL,bV,tI u0,pX,sY,Lo]
 ·refine bP ?_
  refine bL ?_;refine bL ?_;refine cD ?_;cases h;refine ⟨by simp,?_⟩;simp only [go_sem,seval,bT,dL,bV,l0,GP hvrP0,pX,sY,Lo]
def mQ (f:aI->(List aA)->(List Int)->aA->Option ((List aA) × aI)):Prop:=∀a0 a1 a2 a3 r,f a0 a1 a2 a3=some r->∀(q:Pa) (m:M) (vs:List V) (P0:Pa) (zP0:Nat),vs.map V.weak1=[.ptr P0 0,.list .none (a1.map aA.C),.list .none (a2.map (cI .i64)),.agg ((aA.C a3))]/\m.blk P0=some ((aW.C a0.p_)++[.ls a0.f_.gP,.lb a0.f_.dU,.li a0.f_.bN,.li a0.f_.aT,.list .self (a0.f_.aR.map aJ.C),.list .none (a0.f_.bH.map aA.C),.li a0.fW,.li a0.e_])/\m.ver P0 5=zP0+a0.f_.aR.length->SC prog 31 vs q m (λv Y=>v=.list .none (r.1.map aA.C)/\Y=(m.setv P0 5 ((aW.C r.2.p_)++[.ls r.2.f_.gP,.lb r.2.f_.dU,.li r.2.f_.bN,.li r.2.f_.aT,.list .self (r.2.f_.aR.map aJ.C),.list .none (r.2.f_.bH.map aA.C),.li r.2.fW,.li r.2.e_]) (zP0+r.2.f_.aR.length)))
def qS (f:aI->aA->(List Int)->aA->Option ((List aA) × aI)):Prop:=∀a0 a1 a2 a3 r,f a0 a1 a2 a3=some r->∀(q:Pa) (m:M) (vs:List V) (P0:Pa) (zP0:Nat),vs.map V.weak1=[.ptr P0 0,.agg ((aA.C a1)),.list .none (a2.map (cI .i64)),.agg ((aA.C a3))]/\m.blk P0=some ((aW.C a0.p_)++[.ls a0.f_.gP,.lb a0.f_.dU,.li a0.f_.bN,.li a0.f_.aT,.list .self (a0.f_.aR.map aJ.C),.list .none (a0.f_.bH.map aA.C),.li a0.fW,.li a0.e_])/\m.ver P0 5=zP0+a0.f_.aR.length->SC prog 62 vs q m (λv Y=>v=.list .none (r.1.map aA.C)/\Y=(m.setv P0 5 ((aW.C r.2.p_)++[.ls r.2.f_.gP,.lb r.2.f_.dU,.li r.2.f_.bN,.li r.2.f_.aT,.list .self (r.2.f_.aR.map aJ.C),.list .none (r.2.f_.bH.map aA.C),.li r.2.fW,.li r.2.e_]) (zP0+r.2.f_.aR.length)))
def tF (f:aI->aA->(List Int)->aA->Option ((List aA) × aI)):Prop:=∀a0 a1 a2 a3 r,f a0 a1 a2 a3=some r->∀(q:Pa) (m:M) (vs:List V) (P0:Pa) (zP0:Nat),vs.map V.weak1=[.ptr P0 0,.agg ((aA.C a1)),.list .none (a2.map (cI .i64)),.agg ((aA.C a3))]/\m.blk P0=some ((aW.C a0.p_)++[.ls a0.f_.gP,.lb a0.f_.dU,.li a0.f_.bN,.li a0.f_.aT,.list .self (a0.f_.aR.map aJ.C),.list .none (a0.f_.bH.map aA.C),.li a0.fW,.li a0.e_])/\m.ver P0 5=zP0+a0.f_.aR.length->SC prog 91 vs q m (λv Y=>v=.list .none (r.1.map aA.C)/\Y=(m.setv P0 5 ((aW.C r.2.p_)++[.ls r.2.f_.gP,.lb r.2.f_.dU,.li r.2.f_.bN,.li r.2.f_.aT,.list .self (r.2.f_.aR.map aJ.C),.list .none (r.2.f_.bH.map aA.C),.li r.2.fW,.li r.2.e_]) (zP0+r.2.f_.aR.length)))
theorem Bn {eK} (zE:qS eK) (n:Nat):mQ (fU eK n):=by
 rintro a0 a1 a2 a3 r h q m vs P0 zP0 ⟨hv,w0,hvrP0⟩;refine SC.wv hv ?_;refine SC.ap w0 λu0 l0=>?_
 try simp only [go_sem] at w0 l0
 refine sS func31 call31 ntmps31 results31 ?_;unfold fU at h;refine bL ?_;refine bL ?_;refine aO (bL ?_);refine cU ?_;obtain ⟨y6,b6,h⟩:=aF h;refine Cq 9 ([].map aA.C) rfl (by simp only [go_sem,seval]) ?_;refine tQ (λc X Y=>∃v3 v4 v5 o_v3 j_v3,dJ eK a1 a2 a3 c v3 v4 v5=some y6/\X 0=.ptr P0 0/\X 2=.list .none (a2.map (cI .i64))/\X 7=.ptr (0::q) 0/\X 9=.list (.st (.anon o_v3 j_v3)) (v3.map aA.C)/\Y.tok o_v3 j_v3=true/\q <:+ o_v3/\X 12=.list .none (a1.map aA.C)/\X 13=.li (a1.length:Int)/\X 14=.li v4/\Y.blk P0=some ((aW.C v5.p_)++[.ls v5.f_.gP,.lb v5.f_.dU,.li v5.f_.bN,.li v5.f_.aT,.list .self (v5.f_.aR.map aJ.C),.list .none (v5.f_.bH.map aA.C),.li v5.fW,.li v5.e_])/\Y.blk (0::q)=some ((aA.C a3))/\Y.ver P0 5=zP0+v5.f_.aR.length/\Y.gl=m.gl/\m.back q Y=(m.setv P0 5 ((aW.C v5.p_)++[.ls v5.f_.gP,.lb v5.f_.dU,.li v5.f_.bN,.li v5.f_.aT,.list .self (v5.f_.aR.map aJ.C),.list .none (v5.f_.bH.map aA.C),.li v5.fW,.li v5.e_]) (zP0+v5.f_.aR.length))) n ⟨[],(0:Int),a0,(6::q),0,b6,?_⟩ ?_
 ·simp only [go_sem,seval,bT,bQ,bV,l0,GP hvrP0,hvrP0,pU u0,w0]
 rintro i2 c7 E8 m9 ⟨v3,v4,v5,o_v3,j_v3,b6,e10⟩ _
 rcases c7 with _ | c7
 ·cases b6
 rw [dJ] at b6;refine bL ?_;refine aO (dI b6 (λc11 b6=>?_) (λc11 b6=>?_))
 ·refine bP ?_
  refine aO (cU (aO ?_));obtain ⟨x12,h17,b6⟩:=aF b6;obtain ⟨f14,f15,f16⟩:=bI h17;refine lP ?_;refine aO (bL ?_);refine dI b6 (λc18 b6=>?_) (λc18 b6=>?_)
  ·refine bL ?_;refine cD ?_
   try simp only [cM,iT]
   obtain rfl:=aU b6;simp only [Pu] at h;cases h;exact jS
  ·refine bP ?_
   try simp only [aK]
   obtain ⟨x19,h20,b6⟩:=aF b6;obtain ⟨f21,b6⟩:=bY b6;have f22:v3.length+x19.1.length<=1073741824:=by first | omega | (simp only [mX,pX,sY] at f21 ⊢;omega)
   refine cX λK hK=>?_;simp only [go_sem,seval,c18,e10];refine SC.bA (zE v5 x12 a2 a3 _ h20 _ _ _ P0 zP0) ?_;simp only [go_sem,seval,f21,e10];apply hK;simp only [aK,bU];refine lP ?_;refine ⟨c7,JO _,(v3++x19.1),(i64.wrap (v4+(1:Int))),x19.2,(16::i2::7::q),0,b6,?_⟩;simp only [go_sem,seval,bT,bQ,tI u0,pU u0,e10]
 ·refine jJ ?_
  try simp only [dB,cP,↓reduceIte,aK]
  obtain rfl:=aU b6;simp only [xdn] at h;refine bL ?_;refine cD ?_;cases h;exact jS
theorem zC {oT} (Ch:tF oT) {eC} (nP:mQ eC) (n:Nat):qS (eD oT eC n):=by
 rintro a0 a1 a2 a3 r h q m vs P0 zP0 ⟨hv,w0,hvrP0⟩;refine SC.wv hv ?_;refine SC.ap w0 λu0 l0=>?_
 try simp only [go_sem] at w0 l0
 refine sS func62 call62 ntmps62 results62 ?_;unfold eD at h;refine bL ?_;refine aO (bL ?_);refine dI h (λc3 h=>?_) (λc3 h=>?_)
 ·refine aO ?_;obtain ⟨x4,h5,h⟩:=aF h;refine dD λK hK=>?_;simp only [go_sem,seval,c3];refine SC.bA (Ch a0 a1 a2 a3 _ h5 _ _ _ P0 zP0) ?_;simp only [go_sem,seval];apply hK;refine cD ?_
  try simp only [cM]
  cases h;refine ⟨by simp,?_⟩;simp only [go_sem,seval,bT,bV,tI u0]
 ·refine bP ?_
  refine aO ?_;obtain ⟨x6,h7,h⟩:=aF h;refine dD λK hK=>?_;simp only [go_sem,seval,c3];refine SC.bA (oW a0 _ h7 _ _ _ P0 zP0) ?_;simp only [go_sem,seval];apply hK;refine aO (bL ?_);refine dI h (λc8 h=>?_) (λc8 h=>?_)
  ·refine aO ?_;obtain ⟨x9,h15,h⟩:=aF h;obtain ⟨f12,f13,f14⟩:=bI h15;have f16:a1.aL[0]? = some x9:=f14;obtain ⟨x10,h17,h⟩:=aF h;refine dD λK hK=>?_;simp only [go_sem,seval,rP u0,c8,f12,f13,f16];refine SC.bA (FD n x9 a2 _ h17 _ _ _) ?_;simp only [go_sem,seval];apply hK;refine aO (bL ?_);refine dI h (λc18 h=>?_) (λc18 h=>?_)
   ·refine lP ?_;refine aO ?_;obtain ⟨x19,h20,h⟩:=aF h;refine dD λK hK=>?_;simp only [go_sem,seval];refine SC.bA (vQ x6 x10 ({ a3 with fM:=a1.fM }:aA) _ h20 _ _ _ P0 zP0) ?_;simp only [go_sem,seval];apply hK;refine cD ?_
    try simp only [cM]
    cases h;refine ⟨by simp,?_⟩;simp only [go_sem,seval,bT,bV,tI u0]
   ·refine bP ?_
    refine aO ?_;obtain ⟨x21,h22,h⟩:=aF h;refine dD λK hK=>?_;simp only [go_sem,seval,rP u0,c18];refine SC.bA (vQ x6 x10 a3 _ h22 _ _ _ P0 zP0) ?_;simp only [go_sem,seval];apply hK;refine cD ?_
    try simp only [cM]
    cases h;refine ⟨by simp,?_⟩;simp only [go_sem,seval,bT,bV,tI u0]
  ·refine bP ?_
   refine aO ?_;obtain ⟨x23,h25,h⟩:=aF h;obtain ⟨x24,h26,h⟩:=aF h;refine dZ λK hK=>?_;simp only [go_sem,seval,rP u0,c8];refine SC.bA (FC a1.eB a2 _ h25 _ _ _) ?_;simp only [go_sem,seval,rP u0];refine SC.bA (LO n a1.aL a2 _ h26 _ _ _) ?_;simp only [go_sem,seval,rP u0];apply hK;refine aO ?_;obtain ⟨x27,h29,h⟩:=aF h;obtain ⟨x28,h30,h⟩:=aF h;refine dZ λK hK=>?_;simp only [go_sem,seval,rP u0];refine SC.bA (nP x6 a1.bH a2 a3 _ h29 _ _ _ P0 zP0) ?_;simp only [go_sem,seval,rP u0];refine SC.bA (nP x27.2 a1.eN a2 a3 _ h30 _ _ _ P0 zP0) ?_;simp only [go_sem,seval,rP u0];apply hK;refine bL ?_;refine cD ?_;cases h;refine ⟨by simp,?_⟩;simp only [go_sem,seval,bT,bV,tI u0]
theorem BS {eC} (nP:mQ eC) (n:Nat):tF (gE eC n):=by
 rintro a0 a1 a2 a3 r h q m vs P0 zP0 ⟨hv,w0,hvrP0⟩;refine SC.wv hv ?_;refine SC.ap w0 λu0 l0=>?_
 try simp only [go_sem] at w0 l0
 refine sS func91 call91 ntmps91 results91 ?_;unfold gE at h;refine bL ?_;refine aO ?_;obtain ⟨x3,h4,h⟩:=aF h;refine dD λK hK=>?_;simp only [go_sem,seval];refine SC.bA (oW a0 _ h4 _ _ _ P0 zP0) ?_;simp only [go_sem,seval];apply hK;refine aO ?_;obtain ⟨x5,h10,h⟩:=aF h;obtain ⟨f7,f8,f9⟩:=bI h10;refine dZ λK hK=>?_;simp only [go_sem,seval,pU u0,f7,f8,f9];apply hK;refine aO ?_;obtain ⟨x11,h12,h⟩:=aF h;refine dD λK hK=>?_;simp only [go_sem,seval,pU u0];refine SC.mono (DK n x3 a1 x5 a2 _ h12 _ _ _ P0 zP0 (by simp only [go_sem,seval,pU u0])) ?_;rintro _ _ ⟨o_x11,j_x11,o2_x11,j2_x11,s_x11,s2_x11,d_x11,d2_x11,rfl,rfl⟩;replace s_x11:q <:+ o_x11:=List.IsSuffix.trans (by simp only [go_sem]) s_x11;replace s2_x11:q <:+ o2_x11:=List.IsSuffix.trans (by simp only [go_sem]) s2_x11;simp only [go_sem,seval];apply hK;refine aO (aO ?_);obtain ⟨⟨f13,f14⟩,h⟩:=bY h;refine lP ?_;refine cU ?_;obtain ⟨y19,b19,h⟩:=aF h;refine tQ (λc X Y=>∃v16 v17 v18 o_v16 j_v16,eR x5 c v16 v17 v18=some y19/\X 0=.ptr P0 0/\X 2=.list .none (a2.map (cI .i64))/\X 5=.ptr (0::q) 0/\X 7=.ptr (1::q) 0/\X 9=.ptr (14::q) 0/\X 10=.list (.st (.anon o_x11 j_x11)) (x11.1.map aA.C)/\Y.tok o_x11 j_x11=true/\q <:+ o_x11/\X 11=.list (.st (.anon o_v16 j_v16)) (v16.map (cI .i64))/\Y.tok o_v16 j_v16=true/\q <:+ o_v16/\X 37=.list .none ((x5.aR.drop x5.aT.toNat).map aJ.C)/\X 38=.li ((x5.aR.drop x5.aT.toNat).length:Int)/\X 39=.li v17/\(o_x11=o_v16)=False/\(o_v16=o_x11)=False/\Y.blk P0=some ((aW.C v18.p_)++[.ls v18.f_.gP,.lb v18.f_.dU,.li v18.f_.bN,.li v18.f_.aT,.list .self (v18.f_.aR.map aJ.C),.list .none (v18.f_.bH.map aA.C),.li v18.fW,.li v18.e_])/\Y.blk (0::q)=some ((aA.C a1))/\Y.blk (1::q)=some ((aA.C a3))/\Y.blk (14::q)=some ((aQ.C x5))/\Y.ver P0 5=zP0+v18.f_.aR.length/\Y.gl=m.gl/\m.back q Y=(m.setv P0 5 ((aW.C v18.p_)++[.ls v18.f_.gP,.lb v18.f_.dU,.li v18.f_.bN,.li v18.f_.aT,.list .self (v18.f_.aR.map aJ.C),.list .none (v18.f_.bH.map aA.C),.li v18.fW,.li v18.e_]) (zP0+v18.f_.aR.length))) n ⟨x11.2.1,(0:Int),x11.2.2,o2_x11,j2_x11,b19,?_⟩ ?_
 ·simp only [go_sem,seval,bT,bQ,bV,tI u0,pU u0,s_x11,s2_x11,d_x11,d2_x11]
 rintro i15 c20 E21 m22 ⟨v16,v17,v18,o_v16,j_v16,b19,e23⟩ _
 rcases c20 with _ | c20
 ·cases b19
 rw [eR] at b19;refine bL ?_;refine aO (dI b19 (λc24 b19=>?_) (λc24 b19=>?_))
 ·refine bP ?_
  refine aO (cU (aO ?_));obtain ⟨x25,h30,b19⟩:=aF b19;obtain ⟨f27,f28,f29⟩:=bI h30;refine lP ?_;obtain ⟨x31,h32,b19⟩:=aF b19;obtain ⟨f33,b19⟩:=bY b19;have f34:v16.length+1<=1073741824:=by first | omega | (simp only [mX,pX,sY] at f33 ⊢;omega)
  have f35:v16.length<=1073741823:=by first | omega | (simp only [mX,pX,sY] at f33 ⊢;omega)
  refine EQ (o:=o_x11) (j:=j_x11) (by simp only [go_sem,e23]) λf36=>?_;have f37:=f36 10 (by omega);refine cX λK hK=>?_;simp only [go_sem,seval,e23];refine SC.bA (oV v18 x25 _ h32 _ _ _ P0 zP0) ?_;simp only [go_sem,seval,f34,e23];apply hK;simp only [aK,bU];refine lP ?_;refine ⟨c20,JO _,(v16++[x31.1]),(i64.wrap (v17+(1:Int))),x31.2,(10::i15::33::q),0,b19,?_⟩;simp only [go_sem,seval,bT,bQ,tI u0,pU u0,s_x11,f37.1,f37.2,e23]
 ·refine jJ ?_
  try simp only [dB,cP,↓reduceIte,aK]
  obtain rfl:=aU b19;refine aO (bL ?_);refine dI h (λc38 h=>?_) (λc38 h=>?_)
  ·refine bL ?_;refine cD ?_
   try simp only [cM]
   cases h;exact jS
  ·refine bP ?_
   refine aO ?_;obtain ⟨x39,h41,h⟩:=aF h;obtain ⟨x40,h42,h⟩:=aF h;obtain ⟨f43,h⟩:=bY h;have f44:x11.1.length+x40.1.length<=1073741824:=by first | omega | (simp only [mX,pX,sY] at f43 ⊢;omega)
   refine EQ (o:=o_v16) (j:=j_v16) (by simp only [go_sem,e23]) λf45=>?_;have f46:=f45 50 (by omega);refine dZ λK hK=>?_;simp only [go_sem,seval,c38,e23];refine SC.bA (CD v18 a1 a2 a3 _ h41 _ _ _ P0 zP0) ?_;simp only [go_sem,seval,e23];refine SC.bA (nP v18 x5.bH v16 x39 _ h42 _ _ _ P0 zP0) ?_;simp only [go_sem,seval,f43,e23];apply hK;refine cD ?_;cases h;refine ⟨by simp,?_⟩;simp only [go_sem,seval,bQ,tI u0,s_x11,e23]
theorem tP:∀n,mQ (eE n)/\qS (gB n)/\tF (kO n)
 | 0=>⟨λ_ _ _ _ _ h=>dH h,λ_ _ _ _ _ h=>dH h,λ_ _ _ _ _ h=>dH h⟩
 | n+1=>
   have ih:=tP n
   ⟨Bn ih.2.1 n,zC ih.2.2 ih.1 n,BS ih.1 n⟩
theorem CE (n:Nat):mQ (eE n):=(tP n).1
def OV (f:aW->Int->Option (aQ × Int)):Prop:=∀a0 a1 r,f a0 a1=some r->AQ prog 13 [.agg ((aW.C a0)),.li a1] (.tup [.agg ((aQ.C r.1)),.li r.2])
theorem Nn (n:Nat):OV (vF n):=by
 intro a0 a1 r h q m vs hv;refine SC.wv hv (sS func13 call13 ntmps13 results13 ?_);unfold vF at h;refine bL ?_;refine aO (aO ?_);obtain ⟨y3,b3,h⟩:=aF h;refine tK 12 (λX Y=>X 1=.li a1/\X 2=.ptr (0::q) 0/\X 4=.ptr (1::q) 0/\X 15=.lb y3/\Y.blk (0::q)=some ((aW.C a0))/\Y.blk (1::q)=some ([.ls [],.lb false,.li (0:Int),.li (0:Int),.list .self ([].map aJ.C),.list .self ([].map aA.C)])/\Y.gl=m.gl/\m.back q Y=m) ?_ ?_
 ·rcases jR b3 with ⟨c4,b3⟩ | ⟨c4,b3⟩
  ·refine lP ?_;obtain rfl:=aU b3;exact jD
  ·refine lP ?_;obtain rfl:=aU b3;exact jD
 ·intro E5 m6 e7 _;refine dI h (λc8 h=>?_) (λc8 h=>?_)
  ·refine bL ?_;refine Ar (id:=(1::q)) (off:=4) (cs:=[.ls [],.lb false,.li (0:Int),.li (0:Int),.nilv,.nilv]) (by simp only [go_sem,seval]) rfl ?_;refine Ar (id:=(1::q)) (off:=5) (cs:=[.ls [],.lb false,.li (0:Int),.li (0:Int),.list .none [],.nilv]) (by simp only [go_sem,seval]) rfl ?_;refine cD ?_
   try simp only [cM]
   cases h;exact jS
  ·refine bP ?_
   refine aO ?_;obtain ⟨x9,h14,h⟩:=aF h;obtain ⟨f11,f12,f13⟩:=bI h14;refine dZ λK hK=>?_;simp only [go_sem,seval,f11,f12,f13,e7];apply hK;refine aO (SW_setv (id:=(19::q)) (off:=5) (n:=m6.ver (19::q) 5+x9.aR.length) (cs:=[.list .none (a0.aV.map aQ.C),.ls x9.gP,.lb x9.dU,.li x9.bN,.li x9.aT,.list .none (x9.aR.map aJ.C),.list .none (x9.bH.map aA.C),.li (0:Int),.li (0:Int)]) (v0:=.list .none (x9.aR.map aJ.C)) (by simp only [go_sem,seval]) rfl (λ_=>rfl) (λ_ h=>by cases h) (by simp only [go_sem];exact Nat.le_add_right _ _) ?_);obtain ⟨f15,h⟩:=bY h;have f16:x9.aR.length<=1073741824:=by first | omega | (simp only [mX,pX,sY] at f15 ⊢;omega)
   refine lP ?_;refine aO ?_;obtain ⟨x17,h18,h⟩:=aF h;refine dD λK hK=>?_;simp only [go_sem,seval];refine SC.by_ (CE n (aI.mk a0 x9 (0:Int) (0:Int)) x9.bH [] (aA.mk ([114,101,116,117,114,110]:bW) (-1:Int) (0:Int) [] [] [] (-1:Int)) _ h18 _ _ _ (19::q) (m6.ver (19::q) 5+1) (by simp only [go_sem,seval,Nat.add_right_comm])) ?_;simp only [go_sem,seval];apply hK;refine aO (bL ?_);refine dI h (λc19 h=>?_) (λc19 h=>?_)
   ·refine aO (dZ λK hK=>?_);simp only [go_sem,seval,c19,e7];apply hK;refine Ar (id:=(1::q)) (off:=4) (cs:=[.ls [],.lb false,.li (0:Int),.li (0:Int),.nilv,.nilv]) (by simp only [go_sem,seval]) rfl ?_;refine Ar (id:=(1::q)) (off:=5) (cs:=[.ls [],.lb false,.li (0:Int),.li (0:Int),.list .none [],.nilv]) (by simp only [go_sem,seval]) rfl ?_;refine cD ?_
    try simp only [cM]
    cases h;refine ⟨by simp,?_⟩;simp only [go_sem,seval,bT,Lh,dL,bQ,e7]
   ·refine bP ?_
    refine bL ?_;refine cD ?_;cases h;refine ⟨by simp,?_⟩;simp only [go_sem,seval,bT,Lh,dL,bQ,e7]
