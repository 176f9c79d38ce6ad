import Derived.Test.YtnnomaboaiokeaaGreatDoorGH8
namespace Go.Proofs.YtnnomaboaiokeaaGreatDoor.Abs
open Go.RowKit Tryz
open IntKind (i64 u32 u64 u8)
set_option linter.all false
set_option maxRecDepth 10000
set_option maxHeartbeats 2000000
open Tryz
def Dd (f:aJ->Option aJ):Prop:=∀a0 r,f a0=some r->∀(q:Pa) (m:M) (vs:List V) (P0:Pa) (zP0:Nat),vs.map V.weak1=[.ptr P0 0]/\m.blk P0=some ((bL.C a0.p_)++[.ls a0.f_.fN,.lb a0.f_.dC,.li a0.f_.bU,.li a0.f_.bC,.list .self (a0.f_.aW.map aL.C),.list .none (a0.f_.bY.map aC.C),.li a0.eW,.li a0.e_])/\m.ver P0 5=zP0+a0.f_.aW.length->SC prog 130 vs q m (λv Y=>v=.tup []/\Y=(m.setv P0 5 ((bL.C r.p_)++[.ls r.f_.fN,.lb r.f_.dC,.li r.f_.bU,.li r.f_.bC,.list .self (r.f_.aW.map aL.C),.list .none (r.f_.bY.map aC.C),.li r.eW,.li r.e_]) (zP0+r.f_.aW.length)))
theorem oT:Dd (dM):=by
 rintro a0 r h q m vs P0 zP0 ⟨hv,w0,hvrP0⟩;refine SC.wv hv ?_;refine SC.ap w0 λu0 l0=>?_
 try simp only [go_sem,seval] at w0 l0
 refine sY func130 call130 ntmps130 results130 ?_;unfold dM at h;refine aK (aQ λK hK=>?_);simp only [go_sem,seval,cX u0,w0,hvrP0];apply hK;simp only [aB,aA];refine aK (aQ λK hK=>?_);simp only [go_sem,seval,cX u0,w0,hvrP0];apply hK;simp only [aB,aA];refine eU h (λc1 h=>?_) (λc1 h=>?_)
 ·refine aQ λK hK=>?_;simp only [go_sem,seval,cX u0,c1,w0,hvrP0];apply hK;simp only [aB,aA];cases h;refine ⟨by simp,?_⟩;simp only [go_sem,seval,aX,aV,aO,aZ,bE u0,l0,iI u0,fT u0,kL hvrP0,nP hvrP0,hvrP0,mY,dY,eO,CJ,←GT,cX u0,c1,w0]
 ·refine cO ?_
  try simp only [aB,aA]
  cases h;refine ⟨by simp,?_⟩;simp only [go_sem,seval,aX,aV,aO,aZ,bE u0,l0,iI u0,fT u0,kL hvrP0,nP hvrP0,hvrP0,mY,dY,eO,CJ,←GT,cX u0,c1,w0]
def LG (f:Int->(List Int)->Option Int):Prop:=∀a0 a1 r,f a0 a1=some r->BV prog 133 [.li a0,.list .none (a1.map (cI .i64))] (.li r)
theorem EI:LG (xW):=λa0 a1 r h q m vs hv=>SC.wva hv (dB func133 call133 ntmps133 results133 rfl (wk (.j 2 1 9 [.v 12 Bool λy=>.lb y] [0,1] [] [] none .z .z) q m (xW.eq_1 _ _) h))
instance:nO 133 (LG xW):=⟨EI⟩
def Aq (f:aF->(List Int)->Option aF):Prop:=∀a0 a1 r,f a0 a1=some r->BV prog 131 [.agg ((aF.C a0)),.list .none (a1.map (cI .i64))] (.agg ((aF.C r)))
def xY (f:(List aF)->(List Int)->Option (List aF)):Prop:=∀a0 a1 r,f a0 a1=some r->BV prog 134 [.list .none (a0.map aF.C),.list .none (a1.map (cI .i64))] (.list .none (r.map aF.C))
theorem Kq {uL} (IX:xY uL) (n:Nat):Aq (uN uL n):=haveI:nO 134 (xY uL):=⟨IX⟩;λa0 a1 r h q m vs hv=>SC.wva hv (dB func131 call131 ntmps131 results131 rfl (wk .z q m (uN.eq_1 _ _ _ _) h))
theorem IY {qW} (Kk:Aq qW) (n:Nat):xY (tH qW n):=haveI:nO 131 (Aq qW):=⟨Kk⟩;λa0 a1 r h q m vs hv=>SC.wva hv (dB func134 call134 ntmps134 results134 rfl (wk (.s 5 (.l [.o 5 (List aF) λy=>(y.map aF.C),.v 10 Int λy=>.li y] [1,8,9] [] [] none .z .z)) q m (tH.eq_1 _ _ _ _) h))
theorem zP:∀n,Aq (qZ n)/\xY (tI n)
 | 0=>⟨λ_ _ _ h=>dU h,λ_ _ _ h=>dU h⟩
 | n+1=>
   have ih:=zP n
   ⟨Kq ih.2 n,IY ih.1 n⟩
theorem EJ (n:Nat):Aq (qZ n):=(zP n).1
theorem KZ (n:Nat):xY (tI n):=(zP n).2
def Dc (f:aJ->aL->Option (Int × aJ)):Prop:=∀a0 a1 r,f a0 a1=some r->∀(q:Pa) (m:M) (vs:List V) (P0:Pa) (zP0:Nat),vs.map V.weak1=[.ptr P0 0,.agg ((aL.C a1))]/\m.blk P0=some ((bL.C a0.p_)++[.ls a0.f_.fN,.lb a0.f_.dC,.li a0.f_.bU,.li a0.f_.bC,.list .self (a0.f_.aW.map aL.C),.list .none (a0.f_.bY.map aC.C),.li a0.eW,.li a0.e_])/\m.ver P0 5=zP0+a0.f_.aW.length->SC prog 168 vs q m (λv Y=>v=.li r.1/\Y=(m.setv P0 5 ((bL.C r.2.p_)++[.ls r.2.f_.fN,.lb r.2.f_.dC,.li r.2.f_.bU,.li r.2.f_.bC,.list .self (r.2.f_.aW.map aL.C),.list .none (r.2.f_.bY.map aC.C),.li r.2.eW,.li r.2.e_]) (zP0+r.2.f_.aW.length)))
theorem oS:Dc (dL):=by
 rintro a0 a1 r h q m vs P0 zP0 ⟨hv,w0,hvrP0⟩;refine SC.wv hv ?_;refine SC.ap w0 λu0 l0=>?_
 try simp only [go_sem,seval] at w0 l0
 refine sY func168 call168 ntmps168 results168 ?_;unfold dL at h;refine aK (aQ λK hK=>?_);simp only [go_sem,seval,cX u0,w0,hvrP0];apply hK;simp only [aB,aA];refine aK (aK (aQ λK hK=>?_));simp only [go_sem,seval,cX u0,w0,hvrP0];apply hK;simp only [aB,aA];refine eU h (λc2 h=>?_) (λc2 h=>?_)
 ·refine aK (aQ λK hK=>?_);simp only [go_sem,seval,cX u0,c2,w0,hvrP0];apply hK;simp only [aB,aA];refine aK (aQ λK hK=>?_);simp only [go_sem,seval,cX u0,c2,w0,hvrP0];apply hK;simp only [aB,aA];refine cV ?_
  try simp only [aU,aS]
  cases h;refine ⟨by simp,?_⟩;simp only [go_sem,seval,aX,aV,aO,aZ,bE u0,l0,iI u0,fT u0,kL hvrP0,nP hvrP0,hvrP0,mY,dY,eO,CJ,←GT,cX u0,c2,w0]
 ·refine cO ?_
  try simp only [aB,aA]
  refine aK ?_;obtain ⟨f3,h⟩:=cH h;have f4:a0.f_.aW.length+1<=1073741824:=by first | omega | (simp only [mY,dY,eO] at f3 ⊢;omega)
  have f5:a0.f_.aW.length<=1073741823:=by first | omega | (simp only [mY,dY,eO] at f3 ⊢;omega)
  refine Gy (o0 [1,2,3,4,5,6,7,8,0,9,10,11,12]) 22 ?_;simp only [aB,aA];refine aK (aQ λK hK=>?_);simp only [go_sem,seval,cX u0,c2,f3,f4,f5,w0,hvrP0];apply hK;simp only [aB,aA];refine cV ?_
  try simp only [aU,aS]
  cases h;refine ⟨by simp,?_⟩;simp only [go_sem,seval,aX,aV,aO,aZ,bE u0,l0,iI u0,fT u0,kL hvrP0,nP hvrP0,hvrP0,mY,dY,eO,CJ,←GT,cX u0,c2,f3,f4,f5,w0]
def DF (f:aJ->aC->aR->(List Int)->Option ((List aC) × (List Int) × aJ)):Prop:=∀a0 a1 a2 a3 r,f a0 a1 a2 a3=some r->∀(q:Pa) (m:M) (vs:List V) (P0:Pa) (zP0:Nat),vs.map V.weak1=[.ptr P0 0,.agg ((aC.C a1)),.agg ((aR.C a2)),.list .none (a3.map (cI .i64))]/\m.blk P0=some ((bL.C a0.p_)++[.ls a0.f_.fN,.lb a0.f_.dC,.li a0.f_.bU,.li a0.f_.bC,.list .self (a0.f_.aW.map aL.C),.list .none (a0.f_.bY.map aC.C),.li a0.eW,.li a0.e_])/\m.ver P0 5=zP0+a0.f_.aW.length->SC prog 167 vs q m (λv Y=>∃(id:Pa) (j:Nat) (id2:Pa) (j2:Nat),q <:+ id/\q <:+ id2/\(id=id2)=False/\(id2=id)=False/\v=.tup [.list (.st (.anon id j)) (r.1.map aC.C),.list (.st (.anon id2 j2)) (r.2.1.map (cI .i64))]/\Y=((m.setv P0 5 ((bL.C r.2.2.p_)++[.ls r.2.2.f_.fN,.lb r.2.2.f_.dC,.li r.2.2.f_.bU,.li r.2.2.f_.bC,.list .self (r.2.2.f_.aW.map aL.C),.list .none (r.2.2.f_.bY.map aC.C),.li r.2.2.eW,.li r.2.2.e_]) (zP0+r.2.2.f_.aW.length)).tokset id j true).tokset id2 j2 true)
theorem De (n:Nat):DF (mH n):=by
 rintro a0 a1 a2 a3 r h q m vs P0 zP0 ⟨hv,w0,hvrP0⟩;refine SC.wv hv ?_;refine SC.ap w0 λu0 l0=>?_
 try simp only [go_sem,seval] at w0 l0
 refine SC_of2 func167 rfl (λxs w=>call167 xs w) ntmps167 (by kernel_rfl) (congrArg Array.toList results167) (λo1 o2=>.tup [.list o1 (r.1.map aC.C),.list o2 (r.2.1.map (cI .i64))]) ?_;unfold mH at h;refine aK (aQ λK hK=>?_);simp only [go_sem,seval,bT u0,w0,hvrP0];apply hK;simp only [aB,aA];refine aK (aQ λK hK=>?_);simp only [go_sem,seval,bT u0,w0,hvrP0];apply hK;simp only [aB,aA];refine aK (aQ λK hK=>?_);simp only [go_sem,seval,bT u0,w0,hvrP0];apply hK;simp only [aB,aA];refine aK (aK (aQ λK hK=>?_));simp only [go_sem,seval,bT u0,w0,hvrP0];apply hK;simp only [aB,aA];refine dO ?_;obtain ⟨y8,b8,h⟩:=aI h;refine BU 10 ([].map aC.C) rfl (by simp only [go_sem,seval,bT u0,w0,hvrP0]) ?_;refine BU 11 ([].map (cI .i64)) rfl (by simp only [go_sem,seval,bT u0,w0,hvrP0]) ?_;refine wY (λc X Y=>∃v4 v5 v6 v7 o_v4 j_v4 o_v5 j_v5,eI n a1 a3 a2 c v4 v5 v6 v7=some y8/\X 0=.ptr P0 0/\X 3=.list .none (a3.map (cI .i64))/\X 5=.ptr (0::q) 0/\X 6=.ptr (1::q) 0/\X 10=.list (.st (.anon o_v4 j_v4)) (v4.map aC.C)/\Y.tok o_v4 j_v4=true/\q <:+ o_v4/\X 11=.list (.st (.anon o_v5 j_v5)) (v5.map (cI .i64))/\Y.tok o_v5 j_v5=true/\q <:+ o_v5/\X 17=.list .none (a1.aP.map aF.C)/\X 18=.li (a1.aP.length:Int)/\X 19=.li v6/\(o_v4=o_v5)=False/\(o_v5=o_v4)=False/\Y.blk P0=some ((bL.C v7.p_)++[.ls v7.f_.fN,.lb v7.f_.dC,.li v7.f_.bU,.li v7.f_.bC,.list .self (v7.f_.aW.map aL.C),.list .none (v7.f_.bY.map aC.C),.li v7.eW,.li v7.e_])/\Y.blk (0::q)=some ((aC.C a1))/\Y.blk (1::q)=some ((aR.C a2))/\Y.ver P0 5=zP0+v7.f_.aW.length/\Y.gl=m.gl/\m.back q Y=(m.setv P0 5 ((bL.C v7.p_)++[.ls v7.f_.fN,.lb v7.f_.dC,.li v7.f_.bU,.li v7.f_.bC,.list .self (v7.f_.aW.map aL.C),.list .none (v7.f_.bY.map aC.C),.li v7.eW,.li v7.e_]) (zP0+v7.f_.aW.length))) n ⟨[],[],(0:Int),a0,(10::q),0,(11::q),0,b8,?_⟩ ?_
 ·simp only [go_sem,seval,aX,aV,aO,aZ,bE u0,l0,iI u0,fT u0,kL hvrP0,nP hvrP0,hvrP0,mY,dY,eO,CJ,←GT,bT u0,w0]
 rintro i3 c9 E10 m11 ⟨v4,v5,v6,v7,o_v4,j_v4,o_v5,j_v5,b8,e12⟩ _
 rcases c9 with _ | c9
 ·cases b8
 rw [eI] at b8;refine aK (aQ λK hK=>?_);simp only [go_sem,seval,bT u0,e12];apply hK;simp only [aB,aA];refine aK (eU b8 (λc13 b8=>?_) (λc13 b8=>?_))
 ·refine cO ?_
  try simp only [aB,aA]
  refine aK ?_;obtain ⟨y14,b14,b8⟩:=aI b8;refine yI 47 (λX Y=>∃(oy14_10:Pa) (jy14_10:Nat),∃(oy14_11:Pa) (jy14_11:Nat),X 0=.ptr P0 0/\X 3=.list .none (a3.map (cI .i64))/\X 5=.ptr (0::q) 0/\X 6=.ptr (1::q) 0/\X 10=.list (.st (.anon oy14_10 jy14_10)) (y14.1.map aC.C)/\Y.tok oy14_10 jy14_10=true/\q <:+ oy14_10/\X 11=.list (.st (.anon oy14_11 jy14_11)) (y14.2.1.map (cI .i64))/\Y.tok oy14_11 jy14_11=true/\q <:+ oy14_11/\X 17=.list .none (a1.aP.map aF.C)/\X 18=.li (a1.aP.length:Int)/\X 19=.li v6/\(oy14_10=oy14_11)=False/\(oy14_11=oy14_10)=False/\Y.blk P0=some ((bL.C y14.2.2.p_)++[.ls y14.2.2.f_.fN,.lb y14.2.2.f_.dC,.li y14.2.2.f_.bU,.li y14.2.2.f_.bC,.list .self (y14.2.2.f_.aW.map aL.C),.list .none (y14.2.2.f_.bY.map aC.C),.li y14.2.2.eW,.li y14.2.2.e_])/\Y.blk (0::q)=some ((aC.C a1))/\Y.blk (1::q)=some ((aR.C a2))/\Y.ver P0 5=zP0+y14.2.2.f_.aW.length/\Y.gl=m.gl/\m.back q Y=(m.setv P0 5 ((bL.C y14.2.2.p_)++[.ls y14.2.2.f_.fN,.lb y14.2.2.f_.dC,.li y14.2.2.f_.bU,.li y14.2.2.f_.bC,.list .self (y14.2.2.f_.aW.map aL.C),.list .none (y14.2.2.f_.bY.map aC.C),.li y14.2.2.eW,.li y14.2.2.e_]) (zP0+y14.2.2.f_.aW.length))) ?_ ?_
  ·refine dO (aK ?_);obtain ⟨x15,h20,b14⟩:=aI b14;obtain ⟨f17,f18,f19⟩:=cB h20;refine aQ λK hK=>?_;have K1:=qJ5 c13 f17 f18 f19 e12;simp only [go_sem,seval,bT u0,K1];apply hK;simp only [aB,aA];refine aK (aK (aQ λK hK=>?_));simp only [go_sem,seval,bT u0,K1];apply hK;simp only [aB,aA];refine eU b14 (λc21 b14=>?_) (λc21 b14=>?_)
   ·refine aK ?_;obtain ⟨x22,h23,b14⟩:=aI b14;obtain ⟨f24,b14⟩:=cH b14;have f25:v5.length+1<=1073741824:=by first | omega | (simp only [mY,dY,eO] at f24 ⊢;omega)
    have f26:v5.length<=1073741823:=by first | omega | (simp only [mY,dY,eO] at f24 ⊢;omega)
    refine Ec (o:=o_v4) (j:=j_v4) (by simp only [go_sem,seval,bT u0,c21,f24,f25,f26,K1]) λf27=>?_;have f28:=f27 16 (by omega);refine aQ λK hK=>?_;have K2:=qJ5 K1 c21 f24 f25 f26;simp only [go_sem,seval,bT u0,f28.1,f28.2,K2];refine SC.by_ (EI x15.gB a3 _ h23 _ _ _ (by simp only [go_sem,seval,bT u0,f28.1,f28.2,K2])) ?_;simp only [go_sem,seval,bT u0,f28.1,f28.2,K2];apply hK;simp only [aB,aA];refine lT ?_
    try simp only [seval,bD,aY,aB,aA]
    obtain rfl:=bV b14;refine ⟨by decide,o_v4,j_v4,(16::i3::12::q),0,?_⟩;simp only [go_sem,seval,aX,aV,aO,aZ,bE u0,l0,iI u0,fT u0,kL hvrP0,nP hvrP0,hvrP0,mY,dY,eO,CJ,←GT,bT u0,f28.1,f28.2,K2]
   ·refine cO ?_
    try simp only [aB,aA]
    refine aK (aQ λK hK=>?_);simp only [go_sem,seval,bT u0,c21,K1];apply hK;simp only [aB,aA];refine aK (aK ?_);obtain ⟨x29,h33,b14⟩:=aI b14;obtain ⟨f30,f31,f32⟩:=cB h33;refine aQ λK hK=>?_;have K3:=qJ5 K1 c21 f30 f31 f32;simp only [go_sem,seval,bT u0,K3];apply hK;simp only [aB,aA];refine eU b14 (λc34 b14=>?_) (λc34 b14=>?_)
    ·refine aQ λK hK=>?_;simp only [go_sem,seval,bT u0,c34,K3];apply hK;simp only [aB,aA];refine aK ?_;obtain ⟨x35,h36,b14⟩:=aI b14;refine aQ λK hK=>?_;simp only [go_sem,seval,bT u0,c34,K3];refine SC.bA (oT v7 _ h36 _ _ _ P0 zP0) ?_;simp only [go_sem,seval,bT u0,c34,K3];apply hK;simp only [aB,aA];refine aK ?_;obtain ⟨x37,h38,b14⟩:=aI b14;refine aQ λK hK=>?_;simp only [go_sem,seval,bT u0,c34,K3];refine SC.bA (oS x35 x29 _ h38 _ _ _ P0 zP0) ?_;simp only [go_sem,seval,bT u0,c34,K3];apply hK;simp only [aB,aA];refine aK ?_;obtain ⟨f39,b14⟩:=cH b14;have f40:v5.length+1<=1073741824:=by first | omega | (simp only [mY,dY,eO] at f39 ⊢;omega)
     have f41:v5.length<=1073741823:=by first | omega | (simp only [mY,dY,eO] at f39 ⊢;omega)
     refine Ec (o:=o_v4) (j:=j_v4) (by simp only [go_sem,seval,bT u0,c34,f39,f40,f41,K3]) λf42=>?_;have f43:=f42 32 (by omega);refine aQ λK hK=>?_;have K4:=qJ5 K3 c34 f39 f40 f41;simp only [go_sem,seval,bT u0,f43.1,f43.2,K4];apply hK;simp only [aB,aA];obtain ⟨x44,h45,b14⟩:=aI b14;obtain ⟨f46,b14⟩:=cH b14;have f47:v4.length+1<=1073741824:=by first | omega | (simp only [mY,dY,eO] at f46 ⊢;omega)
     have f48:v4.length<=1073741823:=by first | omega | (simp only [mY,dY,eO] at f46 ⊢;omega)
     refine mT [(3,0),(4,0),(5,0),(0,0),(1,0),(2,0),(6,0),(7,0),(8,1),(9,0),(10,0),(11,0),(12,0)] 47 λK hK=>?_;have K5:=qJ4 K4 f46 f47 f48;simp only [go_sem,seval,bT u0,f43.1,f43.2,K5];refine gR (EJ n x15 a3 _ h45 _ _ _ (by simp only [go_sem,seval,bT u0,f43.1,f43.2,K5])) rfl ?_;simp only [go_sem,seval,bT u0,f43.1,f43.2,K5];apply hK;simp only [aB,aA];obtain rfl:=bV b14;refine ⟨by decide,(45::i3::12::q),0,(32::i3::12::q),0,?_⟩;simp only [go_sem,seval,aX,aV,aO,aZ,bE u0,l0,iI u0,fT u0,kL hvrP0,nP hvrP0,hvrP0,mY,dY,eO,CJ,←GT,bT u0,f43.1,f43.2,K5]
    ·refine cO ?_
     try simp only [aB,aA]
     refine aK ?_;obtain ⟨x49,h50,b14⟩:=aI b14;refine aQ λK hK=>?_;simp only [go_sem,seval,bT u0,c34,K3];refine SC.bA (oT v7 _ h50 _ _ _ P0 zP0) ?_;simp only [go_sem,seval,bT u0,c34,K3];apply hK;simp only [aB,aA];refine aK ?_;obtain ⟨x51,h52,b14⟩:=aI b14;refine aQ λK hK=>?_;simp only [go_sem,seval,bT u0,c34,K3];refine SC.bA (oS x49 x29 _ h52 _ _ _ P0 zP0) ?_;simp only [go_sem,seval,bT u0,c34,K3];apply hK;simp only [aB,aA];refine aK ?_;obtain ⟨f53,b14⟩:=cH b14;have f54:v5.length+1<=1073741824:=by first | omega | (simp only [mY,dY,eO] at f53 ⊢;omega)
     have f55:v5.length<=1073741823:=by first | omega | (simp only [mY,dY,eO] at f53 ⊢;omega)
     refine Ec (o:=o_v4) (j:=j_v4) (by simp only [go_sem,seval,bT u0,c34,f53,f54,f55,K3]) λf56=>?_;have f57:=f56 31 (by omega);refine aQ λK hK=>?_;have K6:=qJ5 K3 c34 f53 f54 f55;simp only [go_sem,seval,bT u0,f57.1,f57.2,K6];apply hK;simp only [aB,aA];obtain ⟨x58,h59,b14⟩:=aI b14;obtain ⟨f60,b14⟩:=cH b14;have f61:v4.length+1<=1073741824:=by first | omega | (simp only [mY,dY,eO] at f60 ⊢;omega)
     have f62:v4.length<=1073741823:=by first | omega | (simp only [mY,dY,eO] at f60 ⊢;omega)
     refine mT [(3,0),(4,0),(5,0),(0,0),(1,0),(2,0),(6,0),(7,0),(8,1),(9,0),(10,0),(11,0),(12,0)] 46 λK hK=>?_;have K7:=qJ4 K6 f60 f61 f62;simp only [go_sem,seval,bT u0,f57.1,f57.2,K7];refine gR (EJ n x15 a3 _ h59 _ _ _ (by simp only [go_sem,seval,bT u0,f57.1,f57.2,K7])) rfl ?_;simp only [go_sem,seval,bT u0,f57.1,f57.2,K7];apply hK;simp only [aB,aA];obtain rfl:=bV b14;refine ⟨by decide,(44::i3::12::q),0,(31::i3::12::q),0,?_⟩;simp only [go_sem,seval,aX,aV,aO,aZ,bE u0,l0,iI u0,fT u0,kL hvrP0,nP hvrP0,hvrP0,mY,dY,eO,CJ,←GT,bT u0,f57.1,f57.2,K7]
  ·rintro E63 m64 ⟨oy14_10,jy14_10,oy14_11,jy14_11,e65⟩ _;simp only [aB,aA];refine aQ λK hK=>?_;simp only [go_sem,seval,bT u0,c13,e65];apply hK;simp only [aB,aA];refine ⟨c9,MQ _,y14.1,y14.2.1,(i64.wrap (v6+(1:Int))),y14.2.2,oy14_10,jy14_10,oy14_11,jy14_11,b8,?_⟩;simp only [go_sem,seval,aX,aV,aO,aZ,bE u0,l0,iI u0,fT u0,kL hvrP0,nP hvrP0,hvrP0,mY,dY,eO,CJ,←GT,bT u0,c13,e65]
 ·refine lT ?_
  try simp only [seval,bD,aY,aB,aA]
  obtain rfl:=bV b8;refine aK (aQ λK hK=>?_);simp only [go_sem,seval,bT u0,c13,e12];apply hK;simp only [aB,aA];refine cV ?_
  try simp only [aU,aS]
  cases h;refine ⟨by simp,?_⟩;refine ⟨o_v4,j_v4,o_v5,j_v5,?_,?_,?_,?_,?_,?_,?_,?_⟩ <;> simp only [go_sem,seval,aX,aV,aO,aZ,bE u0,l0,iI u0,fT u0,kL hvrP0,nP hvrP0,hvrP0,mY,dY,eO,CJ,←GT,bT u0,c13,e12]
def Db (f:aJ->aC->(List Int)->aC->Option aC):Prop:=∀a0 a1 a2 a3 r,f a0 a1 a2 a3=some r->∀(q:Pa) (m:M) (vs:List V) (P0:Pa) (zP0:Nat),vs.map V.weak1=[.ptr P0 0,.agg ((aC.C a1)),.list .none (a2.map (cI .i64)),.agg ((aC.C a3))]/\m.blk P0=some ((bL.C a0.p_)++[.ls a0.f_.fN,.lb a0.f_.dC,.li a0.f_.bU,.li a0.f_.bC,.list .self (a0.f_.aW.map aL.C),.list .none (a0.f_.bY.map aC.C),.li a0.eW,.li a0.e_])/\m.ver P0 5=zP0+a0.f_.aW.length->SC prog 169 vs q m (λv Y=>v=.agg ((aC.C r))/\Y=m)
theorem Cb:Db (jL):=by
 rintro a0 a1 a2 a3 r h q m vs P0 zP0 ⟨hv,w0,hvrP0⟩;refine SC.wv hv ?_;refine SC.apart w0 λu0=>?_
 try simp only [go_sem,seval] at w0
 refine sY func169 call169 ntmps169 results169 ?_;unfold jL at h;refine aK (aQ λK hK=>?_);simp only [go_sem,seval,cX u0,w0,hvrP0];apply hK;simp only [aB,aA];refine aK ?_;obtain ⟨x4,h8,h⟩:=aI h;obtain ⟨f5,f6,f7⟩:=cB h8;refine Gy (o0 [0,1,2,3,4,5,6,7,8,9,10]) 14 ?_;simp only [aB,aA];refine aK (aK (aQ λK hK=>?_));have K1:=qJ4 f5 f6 f7 w0;simp only [go_sem,seval,cX u0,hvrP0,K1];apply hK;simp only [aB,aA];refine dO (aK (aQ λK hK=>?_));simp only [go_sem,seval,cX u0,hvrP0,K1];apply hK;simp only [aB,aA];refine eU h (λc9 h=>?_) (λc9 h=>?_)
 ·refine aK (aK (aQ λK hK=>?_));simp only [go_sem,seval,cX u0,c9,hvrP0,K1];apply hK;simp only [aB,aA];refine eU h (λc10 h=>?_) (λc10 h=>?_)
  ·refine aQ λK hK=>?_;simp only [go_sem,seval,cX u0,c9,c10,hvrP0,K1];apply hK;simp only [aB,aA];refine aK (aQ λK hK=>?_);simp only [go_sem,seval,cX u0,c9,c10,hvrP0,K1];apply hK;simp only [aB,aA];refine cV ?_
   try simp only [aU,aS]
   cases h;exact jS
  ·refine cO ?_
   try simp only [aB,aA]
   refine aK (aQ λK hK=>?_);simp only [go_sem,seval,cX u0,c9,c10,hvrP0,K1];apply hK;simp only [aB,aA];refine cV ?_
   try simp only [aU,aS]
   cases h;exact jS
 ·refine aK (aQ λK hK=>?_);simp only [go_sem,seval,cX u0,c9,hvrP0,K1];apply hK;simp only [aB,aA];refine eU h (λc11 h=>?_) (λc11 h=>?_)
  ·refine aK (aQ λK hK=>?_);simp only [go_sem,seval,cX u0,c9,c11,hvrP0,K1];apply hK;simp only [aB,aA];refine cV ?_
   try simp only [aU,aS]
   cases h;exact jS
  ·refine cO ?_
   try simp only [aB,aA]
   refine aK ?_;obtain ⟨x12,h13,h⟩:=aI h;refine mT [(0,0),(1,0),(2,0),(3,0),(4,0),(5,1),(6,0),(7,0)] 28 λK hK=>?_;simp only [go_sem,seval,cX u0,c9,c11,hvrP0,K1];refine Ku (EI a1.gB a2 _ h13 _ _ _) ?_;simp only [go_sem,seval,cX u0,c9,c11,hvrP0,K1];apply hK;simp only [aB,aA];refine cV ?_
   try simp only [aU,aS]
   cases h;exact jS
def DE (f:aJ->aF->aC->Option (aC × aJ)):Prop:=∀a0 a1 a2 r,f a0 a1 a2=some r->∀(q:Pa) (m:M) (vs:List V) (P0:Pa) (zP0:Nat),vs.map V.weak1=[.ptr P0 0,.agg ((aF.C a1)),.agg ((aC.C a2))]/\m.blk P0=some ((bL.C a0.p_)++[.ls a0.f_.fN,.lb a0.f_.dC,.li a0.f_.bU,.li a0.f_.bC,.list .self (a0.f_.aW.map aL.C),.list .none (a0.f_.bY.map aC.C),.li a0.eW,.li a0.e_])/\m.ver P0 5=zP0+a0.f_.aW.length->SC prog 132 vs q m (λv Y=>v=.agg ((aC.C r.1))/\Y=(m.setv P0 5 ((bL.C r.2.p_)++[.ls r.2.f_.fN,.lb r.2.f_.dC,.li r.2.f_.bU,.li r.2.f_.bC,.list .self (r.2.f_.aW.map aL.C),.list .none (r.2.f_.bY.map aC.C),.li r.2.eW,.li r.2.e_]) (zP0+r.2.f_.aW.length)))
theorem vF:DE (eF):=by
 rintro a0 a1 a2 r h q m vs P0 zP0 ⟨hv,w0,hvrP0⟩;refine SC.wv hv ?_;refine SC.ap w0 λu0 l0=>?_
 try simp only [go_sem,seval] at w0 l0
 refine sY func132 call132 ntmps132 results132 ?_;unfold eF at h;refine aK (aQ λK hK=>?_);simp only [go_sem,seval,cX u0,w0,hvrP0];apply hK;simp only [aB,aA];refine aK (aQ λK hK=>?_);simp only [go_sem,seval,cX u0,w0,hvrP0];apply hK;simp only [aB,aA];refine aK (aK (aQ λK hK=>?_));simp only [go_sem,seval,cX u0,w0,hvrP0];apply hK;simp only [aB,aA];refine eU h (λc4 h=>?_) (λc4 h=>?_)
 ·obtain ⟨x5,h6,h⟩:=aI h;refine aQ λK hK=>?_;simp only [go_sem,seval,cX u0,c4,w0,hvrP0];refine SC.bA (oS a0 (aL.mk [] a2.iE (0:Int)) _ h6 _ _ _ P0 zP0) ?_;simp only [go_sem,seval,cX u0,c4,w0,hvrP0];apply hK;simp only [aB,aA];refine aK (aQ λK hK=>?_);simp only [go_sem,seval,cX u0,c4,w0,hvrP0];apply hK;simp only [aB,aA];refine aK (aQ λK hK=>?_);simp only [go_sem,seval,cX u0,c4,w0,hvrP0];apply hK;simp only [aB,aA];refine cV ?_
  try simp only [aU,aS]
  cases h;refine ⟨by simp,?_⟩;simp only [go_sem,seval,aX,aV,aO,aZ,bE u0,l0,iI u0,fT u0,kL hvrP0,nP hvrP0,hvrP0,mY,dY,eO,CJ,←GT,cX u0,c4,w0]
 ·refine cO ?_
  try simp only [aB,aA]
  refine aK (aQ λK hK=>?_);simp only [go_sem,seval,cX u0,c4,w0,hvrP0];apply hK;simp only [aB,aA];refine aK (aQ λK hK=>?_);simp only [go_sem,seval,cX u0,c4,w0,hvrP0];apply hK;simp only [aB,aA];refine cV ?_
  try simp only [aU,aS]
  cases h;refine ⟨by simp,?_⟩;simp only [go_sem,seval,aX,aV,aO,aZ,bE u0,l0,iI u0,fT u0,kL hvrP0,nP hvrP0,hvrP0,mY,dY,eO,CJ,←GT,cX u0,c4,w0]
def mM (f:aJ->(List aC)->(List Int)->aC->Option ((List aC) × aJ)):Prop:=∀a0 a1 a2 a3 r,f a0 a1 a2 a3=some r->∀(q:Pa) (m:M) (vs:List V) (P0:Pa) (zP0:Nat),vs.map V.weak1=[.ptr P0 0,.list .none (a1.map aC.C),.list .none (a2.map (cI .i64)),.agg ((aC.C a3))]/\m.blk P0=some ((bL.C a0.p_)++[.ls a0.f_.fN,.lb a0.f_.dC,.li a0.f_.bU,.li a0.f_.bC,.list .self (a0.f_.aW.map aL.C),.list .none (a0.f_.bY.map aC.C),.li a0.eW,.li a0.e_])/\m.ver P0 5=zP0+a0.f_.aW.length->SC prog 62 vs q m (λv Y=>v=.list .none (r.1.map aC.C)/\Y=(m.setv P0 5 ((bL.C r.2.p_)++[.ls r.2.f_.fN,.lb r.2.f_.dC,.li r.2.f_.bU,.li r.2.f_.bC,.list .self (r.2.f_.aW.map aL.C),.list .none (r.2.f_.bY.map aC.C),.li r.2.eW,.li r.2.e_]) (zP0+r.2.f_.aW.length)))
def qG (f:aJ->aC->(List Int)->aC->Option ((List aC) × aJ)):Prop:=∀a0 a1 a2 a3 r,f a0 a1 a2 a3=some r->∀(q:Pa) (m:M) (vs:List V) (P0:Pa) (zP0:Nat),vs.map V.weak1=[.ptr P0 0,.agg ((aC.C a1)),.list .none (a2.map (cI .i64)),.agg ((aC.C a3))]/\m.blk P0=some ((bL.C a0.p_)++[.ls a0.f_.fN,.lb a0.f_.dC,.li a0.f_.bU,.li a0.f_.bC,.list .self (a0.f_.aW.map aL.C),.list .none (a0.f_.bY.map aC.C),.li a0.eW,.li a0.e_])/\m.ver P0 5=zP0+a0.f_.aW.length->SC prog 96 vs q m (λv Y=>v=.list .none (r.1.map aC.C)/\Y=(m.setv P0 5 ((bL.C r.2.p_)++[.ls r.2.f_.fN,.lb r.2.f_.dC,.li r.2.f_.bU,.li r.2.f_.bC,.list .self (r.2.f_.aW.map aL.C),.list .none (r.2.f_.bY.map aC.C),.li r.2.eW,.li r.2.e_]) (zP0+r.2.f_.aW.length)))
def sU (f:aJ->aC->(List Int)->aC->Option ((List aC) × aJ)):Prop:=∀a0 a1 a2 a3 r,f a0 a1 a2 a3=some r->∀(q:Pa) (m:M) (vs:List V) (P0:Pa) (zP0:Nat),vs.map V.weak1=[.ptr P0 0,.agg ((aC.C a1)),.list .none (a2.map (cI .i64)),.agg ((aC.C a3))]/\m.blk P0=some ((bL.C a0.p_)++[.ls a0.f_.fN,.lb a0.f_.dC,.li a0.f_.bU,.li a0.f_.bC,.list .self (a0.f_.aW.map aL.C),.list .none (a0.f_.bY.map aC.C),.li a0.eW,.li a0.e_])/\m.ver P0 5=zP0+a0.f_.aW.length->SC prog 129 vs q m (λv Y=>v=.list .none (r.1.map aC.C)/\Y=(m.setv P0 5 ((bL.C r.2.p_)++[.ls r.2.f_.fN,.lb r.2.f_.dC,.li r.2.f_.bU,.li r.2.f_.bC,.list .self (r.2.f_.aW.map aL.C),.list .none (r.2.f_.bY.map aC.C),.li r.2.eW,.li r.2.e_]) (zP0+r.2.f_.aW.length)))
theorem AQ {eC} (yO:qG eC) (n:Nat):mM (fD eC n):=by
 rintro a0 a1 a2 a3 r h q m vs P0 zP0 ⟨hv,w0,hvrP0⟩;refine SC.wv hv ?_;refine SC.ap w0 λu0 l0=>?_
 try simp only [go_sem,seval] at w0 l0
 refine sY func62 call62 ntmps62 results62 ?_;unfold fD at h;refine aK (aQ λK hK=>?_);simp only [go_sem,seval,bT u0,w0,hvrP0];apply hK;simp only [aB,aA];refine aK (aQ λK hK=>?_);simp only [go_sem,seval,bT u0,w0,hvrP0];apply hK;simp only [aB,aA];refine aK (aK (aQ λK hK=>?_));simp only [go_sem,seval,bT u0,w0,hvrP0];apply hK;simp only [aB,aA];refine dO ?_;obtain ⟨y6,b6,h⟩:=aI h;refine BU 9 ([].map aC.C) rfl (by simp only [go_sem,seval,bT u0,w0,hvrP0]) ?_;refine wY (λc X Y=>∃v3 v4 v5 o_v3 j_v3,dF eC a1 a2 a3 c v3 v4 v5=some y6/\X 0=.ptr P0 0/\X 2=.list .none (a2.map (cI .i64))/\X 7=.ptr (0::q) 0/\X 9=.list (.st (.anon o_v3 j_v3)) (v3.map aC.C)/\Y.tok o_v3 j_v3=true/\q <:+ o_v3/\X 12=.list .none (a1.map aC.C)/\X 13=.li (a1.length:Int)/\X 14=.li v4/\Y.blk P0=some ((bL.C v5.p_)++[.ls v5.f_.fN,.lb v5.f_.dC,.li v5.f_.bU,.li v5.f_.bC,.list .self (v5.f_.aW.map aL.C),.list .none (v5.f_.bY.map aC.C),.li v5.eW,.li v5.e_])/\Y.blk (0::q)=some ((aC.C a3))/\Y.ver P0 5=zP0+v5.f_.aW.length/\Y.gl=m.gl/\m.back q Y=(m.setv P0 5 ((bL.C v5.p_)++[.ls v5.f_.fN,.lb v5.f_.dC,.li v5.f_.bU,.li v5.f_.bC,.list .self (v5.f_.aW.map aL.C),.list .none (v5.f_.bY.map aC.C),.li v5.eW,.li v5.e_]) (zP0+v5.f_.aW.length))) n ⟨[],(0:Int),a0,(6::q),0,b6,?_⟩ ?_
 ·simp only [go_sem,seval,aX,aV,aO,aZ,bE u0,l0,iI u0,fT u0,kL hvrP0,nP hvrP0,hvrP0,mY,dY,eO,CJ,←GT,bT u0,w0]
 rintro i2 c7 E8 m9 ⟨v3,v4,v5,o_v3,j_v3,b6,e10⟩ _
 rcases c7 with _ | c7
 ·cases b6
 rw [dF] at b6;refine aK (aQ λK hK=>?_);simp only [go_sem,seval,bT u0,e10];apply hK;simp only [aB,aA];refine aK (eU b6 (λc11 b6=>?_) (λc11 b6=>?_))
 ·refine cO ?_
  try simp only [aB,aA]
  refine aK (dO (aK ?_));obtain ⟨x12,h17,b6⟩:=aI b6;obtain ⟨f14,f15,f16⟩:=cB h17;refine aQ λK hK=>?_;have K1:=qJ5 c11 f14 f15 f16 e10;simp only [go_sem,seval,bT u0,K1];apply hK;simp only [aB,aA];refine aK (aK (aQ λK hK=>?_));simp only [go_sem,seval,bT u0,K1];apply hK;simp only [aB,aA];refine eU b6 (λc18 b6=>?_) (λc18 b6=>?_)
  ·refine aK (aQ λK hK=>?_);simp only [go_sem,seval,bT u0,c18,K1];apply hK;simp only [aB,aA];refine cV ?_
   try simp only [aU,aS]
   obtain rfl:=bV b6;simp only [xer,xel] at h;cases h;refine ⟨by simp,?_⟩;simp only [go_sem,seval,aX,aV,aO,aZ,bE u0,l0,iI u0,fT u0,kL hvrP0,nP hvrP0,hvrP0,mY,dY,eO,CJ,←GT,bT u0,c18,K1]
  ·refine cO ?_
   try simp only [aB,aA]
   obtain ⟨x19,h20,b6⟩:=aI b6;obtain ⟨f21,b6⟩:=cH b6;have f22:v3.length+x19.1.length<=1073741824:=by first | omega | (simp only [mY,dY,eO] at f21 ⊢;omega)
   refine aQ λK hK=>?_;have K2:=qJ4 K1 c18 f21 f22;simp only [go_sem,seval,bT u0,K2];refine SC.bA (yO v5 x12 a2 a3 _ h20 _ _ _ P0 zP0) ?_;simp only [go_sem,seval,bT u0,K2];apply hK;simp only [aB,aA];refine aQ λK hK=>?_;simp only [go_sem,seval,bT u0,K2];apply hK;simp only [aB,aA];refine ⟨c7,MQ _,(v3++x19.1),(i64.wrap (v4+(1:Int))),x19.2,(16::i2::7::q),0,b6,?_⟩;simp only [go_sem,seval,aX,aV,aO,aZ,bE u0,l0,iI u0,fT u0,kL hvrP0,nP hvrP0,hvrP0,mY,dY,eO,CJ,←GT,bT u0,K2]
 ·refine lT ?_
  try simp only [seval,bD,aY,aB,aA]
  obtain rfl:=bV b6;simp only [xer,xel] at h;refine aK (aQ λK hK=>?_);simp only [go_sem,seval,bT u0,c11,e10];apply hK;simp only [aB,aA];refine cV ?_
  try simp only [aU,aS]
  cases h;refine ⟨by simp,?_⟩;simp only [go_sem,seval,aX,aV,aO,aZ,bE u0,l0,iI u0,fT u0,kL hvrP0,nP hvrP0,hvrP0,mY,dY,eO,CJ,←GT,bT u0,c11,e10]
theorem yN {oQ} (BK:sU oQ) {dT} (nQ:mM dT) (n:Nat):qG (dW oQ dT n):=by
 rintro a0 a1 a2 a3 r h q m vs P0 zP0 ⟨hv,w0,hvrP0⟩;refine SC.wv hv ?_;refine SC.ap w0 λu0 l0=>?_
 try simp only [go_sem,seval] at w0 l0
 refine sY func96 call96 ntmps96 results96 ?_;unfold dW at h;refine aK (aQ λK hK=>?_);simp only [go_sem,seval,cX u0,w0,hvrP0];apply hK;simp only [aB,aA];refine aK (aK (aQ λK hK=>?_));simp only [go_sem,seval,cX u0,w0,hvrP0];apply hK;simp only [aB,aA];refine eU h (λc3 h=>?_) (λc3 h=>?_)
 ·refine aK ?_;obtain ⟨x4,h5,h⟩:=aI h;refine aQ λK hK=>?_;simp only [go_sem,seval,cX u0,c3,w0,hvrP0];refine SC.bA (BK a0 a1 a2 a3 _ h5 _ _ _ P0 zP0) ?_;simp only [go_sem,seval,cX u0,c3,w0,hvrP0];apply hK;simp only [aB,aA];refine cV ?_
  try simp only [aU,aS]
  cases h;refine ⟨by simp,?_⟩;simp only [go_sem,seval,aX,aV,aO,aZ,bE u0,l0,iI u0,fT u0,kL hvrP0,nP hvrP0,hvrP0,mY,dY,eO,CJ,←GT,cX u0,c3,w0]
 ·refine cO ?_
  try simp only [aB,aA]
  refine aK ?_;obtain ⟨x6,h7,h⟩:=aI h;refine aQ λK hK=>?_;have K1:=qJ2 c3 w0;simp only [go_sem,seval,cX u0,hvrP0,K1];refine SC.bA (oT a0 _ h7 _ _ _ P0 zP0) ?_;simp only [go_sem,seval,cX u0,hvrP0,K1];apply hK;simp only [aB,aA];refine aK (aK (aQ λK hK=>?_));simp only [go_sem,seval,cX u0,hvrP0,K1];apply hK;simp only [aB,aA];refine eU h (λc8 h=>?_) (λc8 h=>?_)
  ·refine aK ?_;obtain ⟨x9,h15,h⟩:=aI h;obtain ⟨f12,f13,f14⟩:=cB h15;have f16:a1.aP[0]? = some x9:=f14;obtain ⟨x10,h17,h⟩:=aI h;refine aQ λK hK=>?_;have K2:=qJ6 K1 c8 f12 f13 f14 f16;simp only [go_sem,seval,cX u0,hvrP0,K2];refine SC.bA (EJ n x9 a2 _ h17 _ _ _) ?_;simp only [go_sem,seval,cX u0,hvrP0,K2];apply hK;simp only [aB,aA];refine aK (aK (aQ λK hK=>?_));simp only [go_sem,seval,cX u0,hvrP0,K2];apply hK;simp only [aB,aA];refine eU h (λc18 h=>?_) (λc18 h=>?_)
   ·refine aQ λK hK=>?_;simp only [go_sem,seval,cX u0,c18,hvrP0,K2];apply hK;simp only [aB,aA];refine aK ?_;obtain ⟨x19,h20,h⟩:=aI h;refine aQ λK hK=>?_;simp only [go_sem,seval,cX u0,c18,hvrP0,K2];refine SC.bA (vF x6 x10 ({ a3 with fB:=a1.fB }:aC) _ h20 _ _ _ P0 zP0) ?_;simp only [go_sem,seval,cX u0,c18,hvrP0,K2];apply hK;simp only [aB,aA];refine cV ?_
    try simp only [aU,aS]
    cases h;refine ⟨by simp,?_⟩;simp only [go_sem,seval,aX,aV,aO,aZ,bE u0,l0,iI u0,fT u0,kL hvrP0,nP hvrP0,hvrP0,mY,dY,eO,CJ,←GT,cX u0,c18,K2]
   ·refine cO ?_
    try simp only [aB,aA]
    refine aK ?_;obtain ⟨x21,h22,h⟩:=aI h;refine aQ λK hK=>?_;simp only [go_sem,seval,cX u0,c18,hvrP0,K2];refine SC.bA (vF x6 x10 a3 _ h22 _ _ _ P0 zP0) ?_;simp only [go_sem,seval,cX u0,c18,hvrP0,K2];apply hK;simp only [aB,aA];refine cV ?_
    try simp only [aU,aS]
    cases h;refine ⟨by simp,?_⟩;simp only [go_sem,seval,aX,aV,aO,aZ,bE u0,l0,iI u0,fT u0,kL hvrP0,nP hvrP0,hvrP0,mY,dY,eO,CJ,←GT,cX u0,c18,K2]
  ·refine cO ?_
   try simp only [aB,aA]
   refine aK ?_;obtain ⟨x23,h25,h⟩:=aI h;obtain ⟨x24,h26,h⟩:=aI h;refine mT [(0,0),(1,0),(2,0),(3,0),(4,0),(5,1),(6,0),(7,0),(8,0),(9,0),(10,0),(11,0)] 23 λK hK=>?_;simp only [go_sem,seval,cX u0,c8,hvrP0,K1];refine Ku (EI a1.gB a2 _ h25 _ _ _) ?_;simp only [go_sem,seval,cX u0,c8,hvrP0,K1];refine Ku (KZ n a1.aP a2 _ h26 _ _ _) ?_;simp only [go_sem,seval,cX u0,c8,hvrP0,K1];apply hK;simp only [aB,aA];refine aK ?_;obtain ⟨x27,h29,h⟩:=aI h;obtain ⟨x28,h30,h⟩:=aI h;refine mT [(0,0),(1,0),(2,0),(3,0),(4,0),(5,0),(6,0),(7,0),(8,1),(9,0),(10,1),(11,0),(12,0),(13,0),(14,0),(15,0)] 39 λK hK=>?_;simp only [go_sem,seval,cX u0,c8,hvrP0,K1];refine Ku (nQ x6 a1.bY a2 a3 _ h29 _ _ _ P0 zP0) ?_;simp only [go_sem,seval,cX u0,c8,hvrP0,K1];refine Ku (nQ x27.2 a1.gT a2 a3 _ h30 _ _ _ P0 zP0) ?_;simp only [go_sem,seval,cX u0,c8,hvrP0,K1];apply hK;simp only [aB,aA];refine aK (aQ λK hK=>?_);simp only [go_sem,seval,cX u0,c8,hvrP0,K1];apply hK;simp only [aB,aA];refine cV ?_
   try simp only [aU,aS]
   cases h;refine ⟨by simp,?_⟩;simp only [go_sem,seval,aX,aV,aO,aZ,bE u0,l0,iI u0,fT u0,kL hvrP0,nP hvrP0,hvrP0,mY,dY,eO,CJ,←GT,cX u0,c8,K1]
theorem Bw {dT} (nQ:mM dT) (n:Nat):sU (fM dT n):=by
 rintro a0 a1 a2 a3 r h q m vs P0 zP0 ⟨hv,w0,hvrP0⟩;refine SC.wv hv ?_;refine SC.ap w0 λu0 l0=>?_
 try simp only [go_sem,seval] at w0 l0
 refine sY func129 call129 ntmps129 results129 ?_;unfold fM at h;refine aK (aQ λK hK=>?_);simp only [go_sem,seval,bT u0,w0,hvrP0];apply hK;simp only [aB,aA];refine aK ?_;obtain ⟨x3,h4,h⟩:=aI h;refine aQ λK hK=>?_;simp only [go_sem,seval,bT u0,w0,hvrP0];refine SC.bA (oT a0 _ h4 _ _ _ P0 zP0) ?_;simp only [go_sem,seval,bT u0,w0,hvrP0];apply hK;simp only [aB,aA];refine aK ?_;obtain ⟨x5,h10,h⟩:=aI h;obtain ⟨f7,f8,f9⟩:=cB h10;refine Gy (o0 [0,1,2,3,4,5,6,7,8,9,10]) 16 ?_;simp only [aB,aA];refine aK ?_;obtain ⟨x11,h12,h⟩:=aI h;refine aQ λK hK=>?_;have K1:=qJ4 f7 f8 f9 w0;simp only [go_sem,seval,bT u0,hvrP0,K1];refine SC.mono (De n x3 a1 x5 a2 _ h12 _ _ _ P0 zP0 (by simp only [go_sem,seval,bT u0,hvrP0,K1])) ?_;rintro _ _ ⟨o_x11,j_x11,o2_x11,j2_x11,s_x11,s2_x11,d_x11,d2_x11,rfl,rfl⟩;replace s_x11:q <:+ o_x11:=List.IsSuffix.trans (by simp only [go_sem]) s_x11;replace s2_x11:q <:+ o2_x11:=List.IsSuffix.trans (by simp only [go_sem]) s2_x11;have K2:=qJ3 K1 s_x11 d_x11;simp only [go_sem,seval,bT u0,s2_x11,d2_x11,hvrP0,K2];apply hK;simp only [aB,aA];refine aK (aK ?_);obtain ⟨⟨f13,f14⟩,h⟩:=cH h;refine aQ λK hK=>?_;simp only [go_sem,seval,bT u0,s2_x11,d2_x11,f13,f14,hvrP0,K2];apply hK;simp only [aB,aA];refine dO ?_;obtain ⟨y19,b19,h⟩:=aI h;refine wY (λc X Y=>∃v16 v17 v18 o_v16 j_v16,eH x5 c v16 v17 v18=some y19/\X 0=.ptr P0 0/\X 2=.list .none (a2.map (cI .i64))/\X 5=.ptr (0::q) 0/\X 7=.ptr (1::q) 0/\X 9=.ptr (14::q) 0/\X 10=.list (.st (.anon o_x11 j_x11)) (x11.1.map aC.C)/\Y.tok o_x11 j_x11=true/\q <:+ o_x11/\X 11=.list (.st (.anon o_v16 j_v16)) (v16.map (cI .i64))/\Y.tok o_v16 j_v16=true/\q <:+ o_v16/\X 37=.list .none ((x5.aW.drop x5.bC.toNat).map aL.C)/\X 38=.li ((x5.aW.drop x5.bC.toNat).length:Int)/\X 39=.li v17/\(o_x11=o_v16)=False/\(o_v16=o_x11)=False/\Y.blk P0=some ((bL.C v18.p_)++[.ls v18.f_.fN,.lb v18.f_.dC,.li v18.f_.bU,.li v18.f_.bC,.list .self (v18.f_.aW.map aL.C),.list .none (v18.f_.bY.map aC.C),.li v18.eW,.li v18.e_])/\Y.blk (0::q)=some ((aC.C a1))/\Y.blk (1::q)=some ((aC.C a3))/\Y.blk (14::q)=some ((aR.C x5))/\Y.ver P0 5=zP0+v18.f_.aW.length/\Y.gl=m.gl/\m.back q Y=(m.setv P0 5 ((bL.C v18.p_)++[.ls v18.f_.fN,.lb v18.f_.dC,.li v18.f_.bU,.li v18.f_.bC,.list .self (v18.f_.aW.map aL.C),.list .none (v18.f_.bY.map aC.C),.li v18.eW,.li v18.e_]) (zP0+v18.f_.aW.length))) n ⟨x11.2.1,(0:Int),x11.2.2,o2_x11,j2_x11,b19,?_⟩ ?_
 ·simp only [go_sem,seval,aX,aV,aO,aZ,bE u0,l0,iI u0,fT u0,kL hvrP0,nP hvrP0,hvrP0,mY,dY,eO,CJ,←GT,bT u0,s2_x11,d2_x11,f13,f14,K2]
 rintro i15 c20 E21 m22 ⟨v16,v17,v18,o_v16,j_v16,b19,e23⟩ _
 rcases c20 with _ | c20
 ·cases b19
 rw [eH] at b19;refine aK (aQ λK hK=>?_);have K3:=qJ8 f7 f8 f9 s_x11 d_x11 f13 f14 e23;simp only [go_sem,seval,bT u0,s2_x11,d2_x11,K3];apply hK;simp only [aB,aA];refine aK (eU b19 (λc24 b19=>?_) (λc24 b19=>?_))
 ·refine cO ?_
  try simp only [aB,aA]
  refine aK (dO (aK ?_));obtain ⟨x25,h30,b19⟩:=aI b19;obtain ⟨f27,f28,f29⟩:=cB h30;refine aQ λK hK=>?_;have K4:=qJ5 K3 c24 f27 f28 f29;simp only [go_sem,seval,bT u0,s2_x11,d2_x11,K4];apply hK;simp only [aB,aA];obtain ⟨x31,h32,b19⟩:=aI b19;obtain ⟨f33,b19⟩:=cH b19;have f34:v16.length+1<=1073741824:=by first | omega | (simp only [mY,dY,eO] at f33 ⊢;omega)
  have f35:v16.length<=1073741823:=by first | omega | (simp only [mY,dY,eO] at f33 ⊢;omega)
  refine Ec (o:=o_x11) (j:=j_x11) (by simp only [go_sem,seval,bT u0,s2_x11,d2_x11,f33,f34,f35,K4]) λf36=>?_;have f37:=f36 10 (by omega);refine aQ λK hK=>?_;have K5:=qJ4 K4 f33 f34 f35;simp only [go_sem,seval,bT u0,s2_x11,d2_x11,f37.1,f37.2,K5];refine SC.by_ (oS v18 x25 _ h32 _ _ _ P0 zP0 (by simp only [go_sem,seval,bT u0,s2_x11,d2_x11,f37.1,f37.2,K5])) ?_;simp only [go_sem,seval,bT u0,s2_x11,d2_x11,f37.1,f37.2,K5];apply hK;simp only [aB,aA];refine aQ λK hK=>?_;simp only [go_sem,seval,bT u0,s2_x11,d2_x11,f37.1,f37.2,K5];apply hK;simp only [aB,aA];refine ⟨c20,MQ _,(v16++[x31.1]),(i64.wrap (v17+(1:Int))),x31.2,(10::i15::33::q),0,b19,?_⟩;simp only [go_sem,seval,aX,aV,aO,aZ,bE u0,l0,iI u0,fT u0,kL hvrP0,nP hvrP0,hvrP0,mY,dY,eO,CJ,←GT,bT u0,s2_x11,d2_x11,f37.1,f37.2,K5]
 ·refine lT ?_
  try simp only [seval,bD,aY,aB,aA]
  obtain rfl:=bV b19;refine aK (aK (aQ λK hK=>?_));simp only [go_sem,seval,bT u0,s2_x11,d2_x11,c24,K3];apply hK;simp only [aB,aA];refine eU h (λc38 h=>?_) (λc38 h=>?_)
  ·refine aK (aQ λK hK=>?_);simp only [go_sem,seval,bT u0,s2_x11,d2_x11,c24,c38,K3];apply hK;simp only [aB,aA];refine cV ?_
   try simp only [aU,aS]
   cases h;refine ⟨by simp,?_⟩;simp only [go_sem,seval,aX,aV,aO,aZ,bE u0,l0,iI u0,fT u0,kL hvrP0,nP hvrP0,hvrP0,mY,dY,eO,CJ,←GT,bT u0,s2_x11,d2_x11,c24,c38,K3]
  ·refine cO ?_
   try simp only [aB,aA]
   refine aK ?_;obtain ⟨x39,h41,h⟩:=aI h;obtain ⟨x40,h42,h⟩:=aI h;obtain ⟨f43,h⟩:=cH h;have f44:x11.1.length+x40.1.length<=1073741824:=by first | omega | (simp only [mY,dY,eO] at f43 ⊢;omega)
   refine Ec (o:=o_v16) (j:=j_v16) (by simp only [go_sem,seval,bT u0,s2_x11,d2_x11,c24,c38,f43,f44,K3]) λf45=>?_;have f46:=f45 50 (by omega);refine mT [(5,0),(6,0),(7,0),(8,0),(9,0),(1,0),(2,0),(3,1),(4,0),(10,0),(0,0),(11,0),(12,0)] 52 λK hK=>?_;have K6:=qJ5 K3 c24 c38 f43 f44;simp only [go_sem,seval,bT u0,s2_x11,d2_x11,f46.1,f46.2,K6];refine gR (Cb v18 a1 a2 a3 _ h41 _ _ _ P0 zP0 (by simp only [go_sem,seval,bT u0,s2_x11,d2_x11,f46.1,f46.2,K6])) rfl ?_;simp only [go_sem,seval,bT u0,s2_x11,d2_x11,f46.1,f46.2,K6];refine gR (nQ v18 x5.bY v16 x39 _ h42 _ _ _ P0 zP0 (by simp only [go_sem,seval,bT u0,s2_x11,d2_x11,f46.1,f46.2,K6])) rfl ?_;simp only [go_sem,seval,bT u0,s2_x11,d2_x11,f46.1,f46.2,K6];apply hK;simp only [aB,aA];refine cV ?_
   try simp only [aU,aS]
   cases h;refine ⟨by simp,?_⟩;simp only [go_sem,seval,aX,aV,aO,aZ,bE u0,l0,iI u0,fT u0,kL hvrP0,nP hvrP0,hvrP0,mY,dY,eO,CJ,←GT,bT u0,s2_x11,d2_x11,f46.1,f46.2,K6]
theorem tB:∀n,mM (dX n)/\qG (fI n)/\sU (kK n)
 | 0=>⟨λ_ _ _ _ _ h=>dU h,λ_ _ _ _ _ h=>dU h,λ_ _ _ _ _ h=>dU h⟩
 | n+1=>
   have ih:=tB n
   ⟨AQ ih.2.1 n,yN ih.2.2 ih.1 n,Bw ih.1 n⟩
theorem Cc (n:Nat):mM (dX n):=(tB n).1
def NY (f:bL->Int->Option (aR × Int)):Prop:=∀a0 a1 r,f a0 a1=some r->BV prog 32 [.agg ((bL.C a0)),.li a1] (.tup [.agg ((aR.C r.1)),.li r.2])
theorem Mw (n:Nat):NY (wS n):=by
 intro a0 a1 r h q m vs hv;refine SC.wv hv (sY func32 call32 ntmps32 results32 ?_);unfold wS at h;refine aK (aQ λK hK=>?_);simp only [go_sem,seval];apply hK;simp only [aB,aA];refine aK (aK ?_);obtain ⟨y3,b3,h⟩:=aI h;refine yI 12 (λX Y=>X 1=.li a1/\X 2=.ptr (0::q) 0/\X 4=.ptr (1::q) 0/\X 15=.lb y3/\Y.blk (0::q)=some ((bL.C a0))/\Y.blk (1::q)=some ([.ls [],.lb false,.li (0:Int),.li (0:Int),.list .self ([].map aL.C),.list .self ([].map aC.C)])/\Y.gl=m.gl/\m.back q Y=m) ?_ ?_
 ·rcases xV b3 with ⟨c4,b3⟩ | ⟨c4,b3⟩
  ·refine aQ λK hK=>?_;simp only [go_sem,seval,c4];apply hK;simp only [aB,aA];obtain rfl:=bV b3;refine ⟨by decide,?_⟩;simp only [go_sem,seval,aX,BT,aV,aO,aZ,c4]
  ·refine aQ λK hK=>?_;simp only [go_sem,seval,c4];apply hK;simp only [aB,aA];obtain rfl:=bV b3;refine ⟨by decide,?_⟩;simp only [go_sem,seval,aX,BT,aV,aO,aZ,c4]
 ·intro E5 m6 e7 _;simp only [aB,aA];refine eU h (λc8 h=>?_) (λc8 h=>?_)
  ·refine aK (aQ λK hK=>?_);simp only [go_sem,seval,c8,e7];apply hK;simp only [aB,aA];refine vV (id:=(1::q)) (off:=4) (cs:=[.ls [],.lb false,.li (0:Int),.li (0:Int),.nilv,.nilv]) (by simp only [go_sem,seval,c8,e7]) rfl ?_;refine vV (id:=(1::q)) (off:=5) (cs:=[.ls [],.lb false,.li (0:Int),.li (0:Int),.list .none [],.nilv]) (by simp only [go_sem,seval,c8,e7]) rfl ?_;refine cV ?_
   try simp only [aU,aS]
   cases h;refine ⟨by simp,?_⟩;simp only [go_sem,seval,aX,BT,aV,aO,aZ,c8,e7]
  ·refine cO ?_
   try simp only [aB,aA]
   refine aK ?_;obtain ⟨x9,h14,h⟩:=aI h;obtain ⟨f11,f12,f13⟩:=cB h14;refine Gy (o0 [0,1,2,3,4,5,6,7,8]) 21 ?_;simp only [aB,aA];refine aK (SW_setv (id:=(19::q)) (off:=5) (n:=m6.ver (19::q) 5+x9.aW.length) (cs:=[.list .none (a0.bF.map aR.C),.ls x9.fN,.lb x9.dC,.li x9.bU,.li x9.bC,.list .none (x9.aW.map aL.C),.list .none (x9.bY.map aC.C),.li (0:Int),.li (0:Int)]) (v0:=.list .none (x9.aW.map aL.C)) (by simp only [go_sem,seval,c8,f11,f12,f13,e7]) rfl (λ_=>rfl) (λ_ h=>by cases h) (by simp only [go_sem,seval,c8,f11,f12,f13,e7];exact Nat.le_add_right _ _) ?_);obtain ⟨f15,h⟩:=cH h;have f16:x9.aW.length<=1073741824:=by first | omega | (simp only [mY,dY,eO] at f15 ⊢;omega)
   refine aQ λK hK=>?_;have K1:=qJ7 c8 f11 f12 f13 f15 f16 e7;simp only [go_sem,seval,K1];apply hK;simp only [aB,aA];refine aK ?_;obtain ⟨x17,h18,h⟩:=aI h;refine aQ λK hK=>?_;simp only [go_sem,seval,K1];refine SC.by_ (Cc n (aJ.mk a0 x9 (0:Int) (0:Int)) x9.bY [] (aC.mk ([114,101,116,117,114,110]:cJ) (-1:Int) (0:Int) [] [] [] (-1:Int)) _ h18 _ _ _ (19::q) (m6.ver (19::q) 5+1) (by simp only [go_sem,seval,Nat.add_right_comm,K1])) ?_;simp only [go_sem,seval,K1];apply hK;simp only [aB,aA];refine aK (aK (aQ λK hK=>?_));simp only [go_sem,seval,K1];apply hK;simp only [aB,aA];refine eU h (λc19 h=>?_) (λc19 h=>?_)
   ·refine aK (Gy [(0,0),(5,0),(1,0),(2,0),(3,0),(4,1),(6,0)] 58 ?_);simp only [aB,aA];refine vV (id:=(1::q)) (off:=4) (cs:=[.ls [],.lb false,.li (0:Int),.li (0:Int),.nilv,.nilv]) (by simp only [go_sem,seval,c19,K1]) rfl ?_;refine vV (id:=(1::q)) (off:=5) (cs:=[.ls [],.lb false,.li (0:Int),.li (0:Int),.list .none [],.nilv]) (by simp only [go_sem,seval,c19,K1]) rfl ?_;refine cV ?_
    try simp only [aU,aS]
    cases h;refine ⟨by simp,?_⟩;simp only [go_sem,seval,aX,BT,aV,aO,aZ,c19,K1]
   ·refine cO ?_
    try simp only [aB,aA]
    refine aK (aQ λK hK=>?_);simp only [go_sem,seval,c19,K1];apply hK;simp only [aB,aA];refine cV ?_
    try simp only [aU,aS]
    cases h;refine ⟨by simp,?_⟩;simp only [go_sem,seval,aX,BT,aV,aO,aZ,c19,K1]
