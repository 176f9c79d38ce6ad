import Derived.Test.YtknbgnpeiohifaaGreatDoorGH8
namespace Go.Proofs.YtknbgnpeiohifaaGreatDoor.Abs
open Go.RowKit Tryz
open IntKind (i64 u32 u64 u8)
set_option linter.all false
set_option maxRecDepth 10000
set_option maxHeartbeats 2000000
set_option maxHeartbeats 2000000
open Tryz
def Ga (f:aM->Option aM):Prop:=∀a0 r,f a0=some r->∀(q:Pa) (m:M) (vs:List V) (P0:Pa) (zP0:Nat),vs.map V.weak1=[.ptr P0 0]/\m.blk P0=some ((bM.C a0.p_)++[.ls a0.f_.iE,.lb a0.f_.eK,.li a0.f_.bO,.li a0.f_.aT,.list .self (a0.f_.aQ.map aK.C),.list .none (a0.f_.bH.map aA.C),.li a0.gS,.li a0.e_])/\m.ver P0 5=zP0+a0.f_.aQ.length->SC prog 161 vs q m (λv Y=>v=.tup []/\Y=(m.setv P0 5 ((bM.C r.p_)++[.ls r.f_.iE,.lb r.f_.eK,.li r.f_.bO,.li r.f_.aT,.list .self (r.f_.aQ.map aK.C),.list .none (r.f_.bH.map aA.C),.li r.gS,.li r.e_]) (zP0+r.f_.aQ.length)))
theorem qH:Ga (eJ):=by
 rintro a0 r h q m vs P0 zP0 ⟨hv,w0,hvrP0⟩;refine SC.wv hv ?_;refine SC.ap w0 λu0 l0=>?_
 try simp only [go_sem] at w0 l0
 refine wG func161 call161 ntmps161 results161 ?_;unfold eJ at h;refine bW ?_;refine bW ?_;refine gD h (λc1 h=>?_) (λc1 h=>?_)
 ·refine qC λK hK=>?_;simp only [go_sem,seval,c1];apply hK;simp only [];cases h;refine ⟨zd,?_⟩;simp only [go_sem,cN,gP u0,JV hvrP0]
 ·refine dA ?_;cases h;refine ⟨zd,?_⟩;simp only [go_sem,cN,gP u0,JV hvrP0,c1]
def QN (f:Int->(List Int)->Option Int):Prop:=∀a0 a1 r,f a0 a1=some r->By prog 164 [.li a0,.list .none (a1.map (cI .i64))] (.li r)
theorem Ip:QN (Bb):=λa0 a1 r h q m vs hv=>SC.wva hv (cH func164 call164 ntmps164 results164 rfl (wk (.j 2 1 9 [.v 12 Bool λy=>.lb y] [0,1] [] [] none .z .z) q m (Bb.eq_1 _ _) h))
instance:iQ 164 (QN Bb):=⟨Ip⟩
def CQ (f:aB->(List Int)->Option aB):Prop:=∀a0 a1 r,f a0 a1=some r->By prog 162 [.agg ((aB.C a0)),.list .none (a1.map (cI .i64))] (.agg ((aB.C r)))
def Bd (f:(List aB)->(List Int)->Option (List aB)):Prop:=∀a0 a1 r,f a0 a1=some r->By prog 165 [.list .none (a0.map aB.C),.list .none (a1.map (cI .i64))] (.list .none (r.map aB.C))
theorem Pi {yA} (Nz:Bd yA) (n:Nat):CQ (yC yA n):=haveI:iQ 165 (Bd yA):=⟨Nz⟩;λa0 a1 r h q m vs hv=>SC.wva hv (cH func162 call162 ntmps162 results162 rfl (wk .z q m (yC.eq_1 _ _ _ _) h))
theorem NA {tW} (OY:CQ tW) (n:Nat):Bd (wR tW n):=haveI:iQ 162 (CQ tW):=⟨OY⟩;λa0 a1 r h q m vs hv=>SC.wva hv (cH func165 call165 ntmps165 results165 rfl (wk (.s 5 (.l [.o 5 (List aB) λy=>(y.map aB.C),.v 10 Int λy=>.li y] [1,8,9] [] [] none .z .z)) q m (wR.eq_1 _ _ _ _) h))
theorem BW:∀n,CQ (uB n)/\Bd (wS n)
 | 0=>⟨λ_ _ _ h=>cK h,λ_ _ _ h=>cK h⟩
 | n+1=>
   have ih:=BW n
   ⟨Pi ih.2 n,NA ih.1 n⟩
theorem Iq (n:Nat):CQ (uB n):=(BW n).1
theorem Qi (n:Nat):Bd (wS n):=(BW n).2
def FZ (f:aM->aK->Option (Int × aM)):Prop:=∀a0 a1 r,f a0 a1=some r->∀(q:Pa) (m:M) (vs:List V) (P0:Pa) (zP0:Nat),vs.map V.weak1=[.ptr P0 0,.agg ((aK.C a1))]/\m.blk P0=some ((bM.C a0.p_)++[.ls a0.f_.iE,.lb a0.f_.eK,.li a0.f_.bO,.li a0.f_.aT,.list .self (a0.f_.aQ.map aK.C),.list .none (a0.f_.bH.map aA.C),.li a0.gS,.li a0.e_])/\m.ver P0 5=zP0+a0.f_.aQ.length->SC prog 235 vs q m (λv Y=>v=.li r.1/\Y=(m.setv P0 5 ((bM.C r.2.p_)++[.ls r.2.f_.iE,.lb r.2.f_.eK,.li r.2.f_.bO,.li r.2.f_.aT,.list .self (r.2.f_.aQ.map aK.C),.list .none (r.2.f_.bH.map aA.C),.li r.2.gS,.li r.2.e_]) (zP0+r.2.f_.aQ.length)))
theorem qG:FZ (eI):=by
 rintro a0 a1 r h q m vs P0 zP0 ⟨hv,w0,hvrP0⟩;refine SC.wv hv ?_;refine SC.ap w0 λu0 l0=>?_
 try simp only [go_sem] at w0 l0
 refine wG func235 call235 ntmps235 results235 ?_;unfold eI at h;refine bW ?_;refine aR (bW ?_);refine gD h (λc2 h=>?_) (λc2 h=>?_)
 ·refine bW ?_;refine bW ?_;refine dI ?_
  try simp only [eN]
  cases h;refine ⟨zd,?_⟩;simp only [go_sem,seval,cJ,cN,gP u0,JV hvrP0]
 ·refine dA ?_
  refine aR ?_;obtain ⟨f3,h⟩:=cQ h;have f4:a0.f_.aQ.length+1<=1073741824:=by first | omega | (simp only [oY,qB,sY] at f3 ⊢;omega)
  have f5:a0.f_.aQ.length<=1073741823:=by first | omega | (simp only [oY,qB,sY] at f3 ⊢;omega)
  refine jM λK hK=>?_;simp only [go_sem,seval,tX u0,c2,f4,w0,hvrP0];apply hK;refine bW ?_;refine dI ?_;cases h;refine ⟨zd,?_⟩;simp only [go_sem,seval,cJ,cG,cN,gP u0,Vx u0,Zv hvrP0,oY,qB,sY,Lk,←xdr]
def GV (f:aM->aA->aJ->(List Int)->Option ((List aA) × (List Int) × aM)):Prop:=∀a0 a1 a2 a3 r,f a0 a1 a2 a3=some r->∀(q:Pa) (m:M) (vs:List V) (P0:Pa) (zP0:Nat),vs.map V.weak1=[.ptr P0 0,.agg ((aA.C a1)),.agg ((aJ.C a2)),.list .none (a3.map (cI .i64))]/\m.blk P0=some ((bM.C a0.p_)++[.ls a0.f_.iE,.lb a0.f_.eK,.li a0.f_.bO,.li a0.f_.aT,.list .self (a0.f_.aQ.map aK.C),.list .none (a0.f_.bH.map aA.C),.li a0.gS,.li a0.e_])/\m.ver P0 5=zP0+a0.f_.aQ.length->SC prog 234 vs q m (λv Y=>∃(id:Pa) (j:Nat) (id2:Pa) (j2:Nat),q <:+ id/\q <:+ id2/\(id=id2)=False/\(id2=id)=False/\v=.tup [.list (.st (.anon id j)) (r.1.map aA.C),.list (.st (.anon id2 j2)) (r.2.1.map (cI .i64))]/\Y=((m.setv P0 5 ((bM.C r.2.2.p_)++[.ls r.2.2.f_.iE,.lb r.2.2.f_.eK,.li r.2.2.f_.bO,.li r.2.2.f_.aT,.list .self (r.2.2.f_.aQ.map aK.C),.list .none (r.2.2.f_.bH.map aA.C),.li r.2.2.gS,.li r.2.2.e_]) (zP0+r.2.2.f_.aQ.length)).tokset id j true).tokset id2 j2 true)
theorem Gb (n:Nat):GV (nK n):=by
 rintro a0 a1 a2 a3 r h q m vs P0 zP0 ⟨hv,w0,hvrP0⟩;refine SC.wv hv ?_;refine SC.ap w0 λu0 l0=>?_
 try simp only [go_sem] at w0 l0
 refine SC_of2 func234 rfl (λxs w=>call234 xs w) ntmps234 ze (DI Array.toList results234) (λo1 o2=>.tup [.list o1 (r.1.map aA.C),.list o2 (r.2.1.map (cI .i64))]) ?_;unfold nK at h;refine bW ?_;refine bW ?_;refine bW ?_;refine aR (bW ?_);refine dY ?_;obtain ⟨y8,b8,h⟩:=aH h;refine EK 10 ([].map aA.C) rfl (by simp only [go_sem,seval]) ?_;refine EK 11 ([].map (cI .i64)) rfl (by simp only [go_sem,seval]) ?_;refine zR (λc X Y=>∃v4 v5 v6 v7 o_v4 j_v4 o_v5 j_v5,fH n a1 a3 a2 c v4 v5 v6 v7=some y8/\X 0=.ptr P0 0/\X 3=.list .none (a3.map (cI .i64))/\X 5=.ptr (0::q) 0/\X 6=.ptr (1::q) 0/\X 10=.list (.st (.anon o_v4 j_v4)) (v4.map aA.C)/\Y.tok o_v4 j_v4=true/\q <:+ o_v4/\X 11=.list (.st (.anon o_v5 j_v5)) (v5.map (cI .i64))/\Y.tok o_v5 j_v5=true/\q <:+ o_v5/\X 17=.list .none (a1.aN.map aB.C)/\X 18=.li (a1.aN.length:Int)/\X 19=.li v6/\(o_v4=o_v5)=False/\(o_v5=o_v4)=False/\Y.blk P0=some ((bM.C v7.p_)++[.ls v7.f_.iE,.lb v7.f_.eK,.li v7.f_.bO,.li v7.f_.aT,.list .self (v7.f_.aQ.map aK.C),.list .none (v7.f_.bH.map aA.C),.li v7.gS,.li v7.e_])/\Y.blk (0::q)=some ((aA.C a1))/\Y.blk (1::q)=some ((aJ.C a2))/\Y.ver P0 5=zP0+v7.f_.aQ.length/\Y.gl=m.gl/\m.back q Y=(m.setv P0 5 ((bM.C v7.p_)++[.ls v7.f_.iE,.lb v7.f_.eK,.li v7.f_.bO,.li v7.f_.aT,.list .self (v7.f_.aQ.map aK.C),.list .none (v7.f_.bH.map aA.C),.li v7.gS,.li v7.e_]) (zP0+v7.f_.aQ.length))) n ⟨[],[],(0:Int),a0,(10::q),0,(11::q),0,b8,?_⟩ ?_
 ·simp only [go_sem,seval,cJ,cG,cN,l0,JV hvrP0,hvrP0,uD u0,w0]
 rintro i3 c9 E10 m11 ⟨v4,v5,v6,v7,o_v4,j_v4,o_v5,j_v5,b8,e12⟩ _
 rcases c9 with _ | c9
 ·cases b8
 rw [fH] at b8;refine bW ?_;refine aR (gD b8 (λc13 b8=>?_) (λc13 b8=>?_))
 ·refine dA ?_
  refine aR ?_;obtain ⟨y14,b14,b8⟩:=aH b8;refine Bq 47 (λX Y=>∃(oy14_10:Pa) (jy14_10:Nat),∃(oy14_11:Pa) (jy14_11:Nat),X 0=.ptr P0 0/\X 3=.list .none (a3.map (cI .i64))/\X 5=.ptr (0::q) 0/\X 6=.ptr (1::q) 0/\X 10=.list (.st (.anon oy14_10 jy14_10)) (y14.1.map aA.C)/\Y.tok oy14_10 jy14_10=true/\q <:+ oy14_10/\X 11=.list (.st (.anon oy14_11 jy14_11)) (y14.2.1.map (cI .i64))/\Y.tok oy14_11 jy14_11=true/\q <:+ oy14_11/\X 17=.list .none (a1.aN.map aB.C)/\X 18=.li (a1.aN.length:Int)/\X 19=.li v6/\(oy14_10=oy14_11)=False/\(oy14_11=oy14_10)=False/\Y.blk P0=some ((bM.C y14.2.2.p_)++[.ls y14.2.2.f_.iE,.lb y14.2.2.f_.eK,.li y14.2.2.f_.bO,.li y14.2.2.f_.aT,.list .self (y14.2.2.f_.aQ.map aK.C),.list .none (y14.2.2.f_.bH.map aA.C),.li y14.2.2.gS,.li y14.2.2.e_])/\Y.blk (0::q)=some ((aA.C a1))/\Y.blk (1::q)=some ((aJ.C a2))/\Y.ver P0 5=zP0+y14.2.2.f_.aQ.length/\Y.gl=m.gl/\m.back q Y=(m.setv P0 5 ((bM.C y14.2.2.p_)++[.ls y14.2.2.f_.iE,.lb y14.2.2.f_.eK,.li y14.2.2.f_.bO,.li y14.2.2.f_.aT,.list .self (y14.2.2.f_.aQ.map aK.C),.list .none (y14.2.2.f_.bH.map aA.C),.li y14.2.2.gS,.li y14.2.2.e_]) (zP0+y14.2.2.f_.aQ.length))) ?_ ?_
  ·refine dY (aR ?_);obtain ⟨x15,h20,b14⟩:=aH b14;obtain ⟨f17,f18,f19⟩:=bX h20;refine oB ?_;refine aR (bW ?_);refine gD b14 (λc21 b14=>?_) (λc21 b14=>?_)
   ·refine aR ?_;obtain ⟨x22,h23,b14⟩:=aH b14;obtain ⟨f24,b14⟩:=cQ b14;have f25:v5.length+1<=1073741824:=by first | omega | (simp only [oY,qB,sY] at f24 ⊢;omega)
    have f26:v5.length<=1073741823:=by first | omega | (simp only [oY,qB,sY] at f24 ⊢;omega)
    refine HA (o:=o_v4) (j:=j_v4) (by simp only [go_sem,e12]) λf27=>?_;have f28:=f27 16 zb;refine dL λK hK=>?_;simp only [go_sem,seval,c21,e12];refine SC.bA (Ip x15.fB a3 _ h23 _ _ _) ?_;simp only [go_sem,seval,f25,e12];apply hK;refine lM ?_
    try simp only [eH,dN,↓reduceIte,aV]
    obtain rfl:=bS b14;refine ⟨zc,o_v4,j_v4,(16::i3::12::q),0,?_⟩;simp only [go_sem,seval,cJ,cG,uD u0,f28.1,f28.2,e12]
   ·refine dA ?_
    refine bW ?_;refine aR (aR ?_);obtain ⟨x29,h33,b14⟩:=aH b14;obtain ⟨f30,f31,f32⟩:=bX h33;refine oB ?_;refine gD b14 (λc34 b14=>?_) (λc34 b14=>?_)
    ·refine oB ?_;refine aR ?_;obtain ⟨x35,h36,b14⟩:=aH b14;refine dL λK hK=>?_;simp only [go_sem,seval,e12];refine SC.bA (qH v7 _ h36 _ _ _ P0 zP0) ?_;simp only [go_sem,seval];apply hK;refine aR ?_;obtain ⟨x37,h38,b14⟩:=aH b14;refine dL λK hK=>?_;simp only [go_sem,seval,uD u0,f17,f31,f32,e12];refine SC.bA (qG x35 x29 _ h38 _ _ _ P0 zP0) ?_;simp only [go_sem,seval];apply hK;refine aR ?_;obtain ⟨f39,b14⟩:=cQ b14;have f40:v5.length+1<=1073741824:=by first | omega | (simp only [oY,qB,sY] at f39 ⊢;omega)
     have f41:v5.length<=1073741823:=by first | omega | (simp only [oY,qB,sY] at f39 ⊢;omega)
     refine HA (o:=o_v4) (j:=j_v4) (by simp only [go_sem,e12]) λf42=>?_;have f43:=f42 32 zb;refine oB ?_;obtain ⟨x44,h45,b14⟩:=aH b14;obtain ⟨f46,b14⟩:=cQ b14;have f47:v4.length+1<=1073741824:=by first | omega | (simp only [oY,qB,sY] at f46 ⊢;omega)
     have f48:v4.length<=1073741823:=by first | omega | (simp only [oY,qB,sY] at f46 ⊢;omega)
     refine jM λK hK=>?_;simp only [go_sem,seval,uD u0,e12];refine SC.bA (Iq n x15 a3 _ h45 _ _ _) ?_;simp only [go_sem,seval,uD u0,f43.1,f47,e12];apply hK;simp only [aV,cR];obtain rfl:=bS b14;refine ⟨zc,(45::i3::12::q),0,(32::i3::12::q),0,?_⟩;simp only [go_sem,seval,cJ,cG,wD u0,uD u0,f43.2,e12]
    ·refine dA ?_
     refine aR ?_;obtain ⟨x49,h50,b14⟩:=aH b14;refine dL λK hK=>?_;simp only [go_sem,seval,c34,e12];refine SC.bA (qH v7 _ h50 _ _ _ P0 zP0) ?_;simp only [go_sem,seval];apply hK;refine aR ?_;obtain ⟨x51,h52,b14⟩:=aH b14;refine dL λK hK=>?_;simp only [go_sem,seval,uD u0,f17,f31,f32,e12];refine SC.bA (qG x49 x29 _ h52 _ _ _ P0 zP0) ?_;simp only [go_sem,seval];apply hK;refine aR ?_;obtain ⟨f53,b14⟩:=cQ b14;have f54:v5.length+1<=1073741824:=by first | omega | (simp only [oY,qB,sY] at f53 ⊢;omega)
     have f55:v5.length<=1073741823:=by first | omega | (simp only [oY,qB,sY] at f53 ⊢;omega)
     refine HA (o:=o_v4) (j:=j_v4) (by simp only [go_sem,e12]) λf56=>?_;have f57:=f56 31 zb;refine oB ?_;obtain ⟨x58,h59,b14⟩:=aH b14;obtain ⟨f60,b14⟩:=cQ b14;have f61:v4.length+1<=1073741824:=by first | omega | (simp only [oY,qB,sY] at f60 ⊢;omega)
     have f62:v4.length<=1073741823:=by first | omega | (simp only [oY,qB,sY] at f60 ⊢;omega)
     refine jM λK hK=>?_;simp only [go_sem,seval,uD u0,e12];refine SC.bA (Iq n x15 a3 _ h59 _ _ _) ?_;simp only [go_sem,seval,uD u0,f57.1,f61,e12];apply hK;simp only [aV,cR];obtain rfl:=bS b14;refine ⟨zc,(44::i3::12::q),0,(31::i3::12::q),0,?_⟩;simp only [go_sem,seval,cJ,cG,wD u0,uD u0,f57.2,e12]
  ·rintro E63 m64 ⟨oy14_10,jy14_10,oy14_11,jy14_11,e65⟩ _;refine oB ?_;refine ⟨c9,Rh _,y14.1,y14.2.1,(i64.wrap (v6+(1:Int))),y14.2.2,oy14_10,jy14_10,oy14_11,jy14_11,b8,?_⟩;simp only [go_sem,seval,e65]
 ·refine lM ?_
  try simp only [eH,dN,↓reduceIte,aV]
  obtain rfl:=bS b8;refine bW ?_;refine dI ?_;cases h;refine ⟨zd,?_⟩;refine ⟨o_v4,j_v4,o_v5,j_v5,?_,?_,?_,?_,?_,?_,?_,?_⟩ <;> simp only [go_sem,seval,e12]
def FY (f:aM->aA->(List Int)->aA->Option aA):Prop:=∀a0 a1 a2 a3 r,f a0 a1 a2 a3=some r->∀(q:Pa) (m:M) (vs:List V) (P0:Pa) (zP0:Nat),vs.map V.weak1=[.ptr P0 0,.agg ((aA.C a1)),.list .none (a2.map (cI .i64)),.agg ((aA.C a3))]/\m.blk P0=some ((bM.C a0.p_)++[.ls a0.f_.iE,.lb a0.f_.eK,.li a0.f_.bO,.li a0.f_.aT,.list .self (a0.f_.aQ.map aK.C),.list .none (a0.f_.bH.map aA.C),.li a0.gS,.li a0.e_])/\m.ver P0 5=zP0+a0.f_.aQ.length->SC prog 236 vs q m (λv Y=>v=.agg ((aA.C r))/\Y=m)
theorem EV:FY (kJ):=by
 rintro a0 a1 a2 a3 r h q m vs P0 zP0 ⟨hv,w0,hvrP0⟩;refine SC.wv hv ?_;refine SC.apart w0 λu0=>?_
 try simp only [go_sem] at w0
 refine wG func236 call236 ntmps236 results236 ?_;unfold kJ at h;refine bW ?_;refine aR ?_;obtain ⟨x4,h8,h⟩:=aH h;obtain ⟨f5,f6,f7⟩:=bX h8;refine jM λK hK=>?_;simp only [go_sem,seval,tX u0,f5,f6,f7,w0];apply hK;refine aR (bW ?_);refine dY (bW ?_);refine gD h (λc9 h=>?_) (λc9 h=>?_)
 ·refine aR (bW ?_);refine gD h (λc10 h=>?_) (λc10 h=>?_)
  ·refine oB ?_;refine bW ?_;refine dI ?_
   try simp only [eN,nE]
   cases h;exact jS
  ·refine dA ?_
   refine bW ?_;refine dI ?_
   try simp only [eN,nE]
   cases h;exact jS
 ·refine bW ?_;refine gD h (λc11 h=>?_) (λc11 h=>?_)
  ·refine bW ?_;refine dI ?_
   try simp only [eN,nE]
   cases h;exact jS
  ·refine dA ?_
   try simp only [aV,cR]
   refine aR ?_;obtain ⟨x12,h13,h⟩:=aH h;refine jM λK hK=>?_;simp only [go_sem,seval,c11];refine SC.bA (Ip a1.fB a2 _ h13 _ _ _) ?_;simp only [go_sem,seval];apply hK;refine dI ?_;cases h;exact jS
def GU (f:aM->aB->aA->Option (aA × aM)):Prop:=∀a0 a1 a2 r,f a0 a1 a2=some r->∀(q:Pa) (m:M) (vs:List V) (P0:Pa) (zP0:Nat),vs.map V.weak1=[.ptr P0 0,.agg ((aB.C a1)),.agg ((aA.C a2))]/\m.blk P0=some ((bM.C a0.p_)++[.ls a0.f_.iE,.lb a0.f_.eK,.li a0.f_.bO,.li a0.f_.aT,.list .self (a0.f_.aQ.map aK.C),.list .none (a0.f_.bH.map aA.C),.li a0.gS,.li a0.e_])/\m.ver P0 5=zP0+a0.f_.aQ.length->SC prog 163 vs q m (λv Y=>v=.agg ((aA.C r.1))/\Y=(m.setv P0 5 ((bM.C r.2.p_)++[.ls r.2.f_.iE,.lb r.2.f_.eK,.li r.2.f_.bO,.li r.2.f_.aT,.list .self (r.2.f_.aQ.map aK.C),.list .none (r.2.f_.bH.map aA.C),.li r.2.gS,.li r.2.e_]) (zP0+r.2.f_.aQ.length)))
theorem zF:GU (fE):=by
 rintro a0 a1 a2 r h q m vs P0 zP0 ⟨hv,w0,hvrP0⟩;refine SC.wv hv ?_;refine SC.ap w0 λu0 l0=>?_
 try simp only [go_sem] at w0 l0
 refine wG func163 call163 ntmps163 results163 ?_;unfold fE at h;refine bW ?_;refine bW ?_;refine aR (bW ?_);refine gD h (λc4 h=>?_) (λc4 h=>?_)
 ·obtain ⟨x5,h6,h⟩:=aH h;refine dL λK hK=>?_;simp only [go_sem,seval,c4];refine SC.bA (qG a0 (aK.mk [] a2.iO (0:Int)) _ h6 _ _ _ P0 zP0) ?_;simp only [go_sem,seval,tX u0];apply hK;refine bW ?_;refine bW ?_;refine dI ?_;cases h;refine ⟨zd,?_⟩;simp only [go_sem,seval,cJ,eR,cN,wD u0,qB,sY,Lk]
 ·refine dA ?_
  refine bW ?_;refine bW ?_;refine dI ?_;cases h;refine ⟨zd,?_⟩;simp only [go_sem,seval,cJ,eR,cN,l0,JV hvrP0,qB,sY,Lk]
def nU (f:aM->(List aA)->(List Int)->aA->Option ((List aA) × aM)):Prop:=∀a0 a1 a2 a3 r,f a0 a1 a2 a3=some r->∀(q:Pa) (m:M) (vs:List V) (P0:Pa) (zP0:Nat),vs.map V.weak1=[.ptr P0 0,.list .none (a1.map aA.C),.list .none (a2.map (cI .i64)),.agg ((aA.C a3))]/\m.blk P0=some ((bM.C a0.p_)++[.ls a0.f_.iE,.lb a0.f_.eK,.li a0.f_.bO,.li a0.f_.aT,.list .self (a0.f_.aQ.map aK.C),.list .none (a0.f_.bH.map aA.C),.li a0.gS,.li a0.e_])/\m.ver P0 5=zP0+a0.f_.aQ.length->SC prog 43 vs q m (λv Y=>v=.list .none (r.1.map aA.C)/\Y=(m.setv P0 5 ((bM.C r.2.p_)++[.ls r.2.f_.iE,.lb r.2.f_.eK,.li r.2.f_.bO,.li r.2.f_.aT,.list .self (r.2.f_.aQ.map aK.C),.list .none (r.2.f_.bH.map aA.C),.li r.2.gS,.li r.2.e_]) (zP0+r.2.f_.aQ.length)))
def sW (f:aM->aA->(List Int)->aA->Option ((List aA) × aM)):Prop:=∀a0 a1 a2 a3 r,f a0 a1 a2 a3=some r->∀(q:Pa) (m:M) (vs:List V) (P0:Pa) (zP0:Nat),vs.map V.weak1=[.ptr P0 0,.agg ((aA.C a1)),.list .none (a2.map (cI .i64)),.agg ((aA.C a3))]/\m.blk P0=some ((bM.C a0.p_)++[.ls a0.f_.iE,.lb a0.f_.eK,.li a0.f_.bO,.li a0.f_.aT,.list .self (a0.f_.aQ.map aK.C),.list .none (a0.f_.bH.map aA.C),.li a0.gS,.li a0.e_])/\m.ver P0 5=zP0+a0.f_.aQ.length->SC prog 95 vs q m (λv Y=>v=.list .none (r.1.map aA.C)/\Y=(m.setv P0 5 ((bM.C r.2.p_)++[.ls r.2.f_.iE,.lb r.2.f_.eK,.li r.2.f_.bO,.li r.2.f_.aT,.list .self (r.2.f_.aQ.map aK.C),.list .none (r.2.f_.bH.map aA.C),.li r.2.gS,.li r.2.e_]) (zP0+r.2.f_.aQ.length)))
def vY (f:aM->aA->(List Int)->aA->Option ((List aA) × aM)):Prop:=∀a0 a1 a2 a3 r,f a0 a1 a2 a3=some r->∀(q:Pa) (m:M) (vs:List V) (P0:Pa) (zP0:Nat),vs.map V.weak1=[.ptr P0 0,.agg ((aA.C a1)),.list .none (a2.map (cI .i64)),.agg ((aA.C a3))]/\m.blk P0=some ((bM.C a0.p_)++[.ls a0.f_.iE,.lb a0.f_.eK,.li a0.f_.bO,.li a0.f_.aT,.list .self (a0.f_.aQ.map aK.C),.list .none (a0.f_.bH.map aA.C),.li a0.gS,.li a0.e_])/\m.ver P0 5=zP0+a0.f_.aQ.length->SC prog 160 vs q m (λv Y=>v=.list .none (r.1.map aA.C)/\Y=(m.setv P0 5 ((bM.C r.2.p_)++[.ls r.2.f_.iE,.lb r.2.f_.eK,.li r.2.f_.bO,.li r.2.f_.aT,.list .self (r.2.f_.aQ.map aK.C),.list .none (r.2.f_.bH.map aA.C),.li r.2.gS,.li r.2.e_]) (zP0+r.2.f_.aQ.length)))
theorem Dv {eY} (Bx:sW eY) (n:Nat):nU (gQ eY n):=by
 rintro a0 a1 a2 a3 r h q m vs P0 zP0 ⟨hv,w0,hvrP0⟩;refine SC.wv hv ?_;refine SC.ap w0 λu0 l0=>?_
 try simp only [go_sem] at w0 l0
 refine wG func43 call43 ntmps43 results43 ?_;unfold gQ at h;refine bW ?_;refine bW ?_;refine aR (bW ?_);refine dY ?_;obtain ⟨y6,b6,h⟩:=aH h;refine EK 9 ([].map aA.C) rfl (by simp only [go_sem,seval]) ?_;refine zR (λc X Y=>∃v3 v4 v5 o_v3 j_v3,dZ eY a1 a2 a3 c v3 v4 v5=some y6/\X 0=.ptr P0 0/\X 2=.list .none (a2.map (cI .i64))/\X 7=.ptr (0::q) 0/\X 9=.list (.st (.anon o_v3 j_v3)) (v3.map aA.C)/\Y.tok o_v3 j_v3=true/\q <:+ o_v3/\X 12=.list .none (a1.map aA.C)/\X 13=.li (a1.length:Int)/\X 14=.li v4/\Y.blk P0=some ((bM.C v5.p_)++[.ls v5.f_.iE,.lb v5.f_.eK,.li v5.f_.bO,.li v5.f_.aT,.list .self (v5.f_.aQ.map aK.C),.list .none (v5.f_.bH.map aA.C),.li v5.gS,.li v5.e_])/\Y.blk (0::q)=some ((aA.C a3))/\Y.ver P0 5=zP0+v5.f_.aQ.length/\Y.gl=m.gl/\m.back q Y=(m.setv P0 5 ((bM.C v5.p_)++[.ls v5.f_.iE,.lb v5.f_.eK,.li v5.f_.bO,.li v5.f_.aT,.list .self (v5.f_.aQ.map aK.C),.list .none (v5.f_.bH.map aA.C),.li v5.gS,.li v5.e_]) (zP0+v5.f_.aQ.length))) n ⟨[],(0:Int),a0,(6::q),0,b6,?_⟩ ?_
 ·simp only [go_sem,seval,cJ,cG,cN,l0,JV hvrP0,hvrP0,uD u0,w0]
 rintro i2 c7 E8 m9 ⟨v3,v4,v5,o_v3,j_v3,b6,e10⟩ _
 rcases c7 with _ | c7
 ·cases b6
 rw [dZ] at b6;refine bW ?_;refine aR (gD b6 (λc11 b6=>?_) (λc11 b6=>?_))
 ·refine dA ?_
  refine aR (dY (aR ?_));obtain ⟨x12,h17,b6⟩:=aH b6;obtain ⟨f14,f15,f16⟩:=bX h17;refine oB ?_;refine aR (bW ?_);refine gD b6 (λc18 b6=>?_) (λc18 b6=>?_)
  ·refine bW ?_;refine dI ?_
   try simp only [eN,nE]
   obtain rfl:=bS b6;simp only [Sum.elim_inr] at h;cases h;exact jS
  ·refine dA ?_
   try simp only [aV]
   obtain ⟨x19,h20,b6⟩:=aH b6;obtain ⟨f21,b6⟩:=cQ b6;have f22:v3.length+x19.1.length<=1073741824:=by first | omega | (simp only [oY,qB,sY] at f21 ⊢;omega)
   refine qC λK hK=>?_;simp only [go_sem,seval,c18,e10];refine SC.bA (Bx v5 x12 a2 a3 _ h20 _ _ _ P0 zP0) ?_;simp only [go_sem,seval,f21,e10];apply hK;simp only [aV,cR];refine oB ?_;refine ⟨c7,Rh _,(v3++x19.1),(i64.wrap (v4+(1:Int))),x19.2,(16::i2::7::q),0,b6,?_⟩;simp only [go_sem,seval,cJ,cG,wD u0,uD u0,e10]
 ·refine lM ?_
  try simp only [eH,dN,↓reduceIte,aV]
  obtain rfl:=bS b6;simp only [xed] at h;refine bW ?_;refine dI ?_;cases h;exact jS
theorem Bw {qE} (ED:vY qE) {eS} (oW:nU eS) (n:Nat):sW (eT qE eS n):=by
 rintro a0 a1 a2 a3 r h q m vs P0 zP0 ⟨hv,w0,hvrP0⟩;refine SC.wv hv ?_;refine SC.ap w0 λu0 l0=>?_
 try simp only [go_sem] at w0 l0
 refine wG func95 call95 ntmps95 results95 ?_;unfold eT at h;refine bW ?_;refine aR (bW ?_);refine gD h (λc3 h=>?_) (λc3 h=>?_)
 ·refine aR ?_;obtain ⟨x4,h5,h⟩:=aH h;refine dL λK hK=>?_;simp only [go_sem,seval,c3];refine SC.bA (ED a0 a1 a2 a3 _ h5 _ _ _ P0 zP0) ?_;simp only [go_sem,seval];apply hK;refine dI ?_
  try simp only [eN]
  cases h;refine ⟨zd,?_⟩;simp only [go_sem,seval,cJ,cN,wD u0]
 ·refine dA ?_
  refine aR ?_;obtain ⟨x6,h7,h⟩:=aH h;refine dL λK hK=>?_;simp only [go_sem,seval,c3];refine SC.bA (qH a0 _ h7 _ _ _ P0 zP0) ?_;simp only [go_sem,seval];apply hK;refine aR (bW ?_);refine gD h (λc8 h=>?_) (λc8 h=>?_)
  ·refine aR ?_;obtain ⟨x9,h15,h⟩:=aH h;obtain ⟨f12,f13,f14⟩:=bX h15;have f16:a1.aN[0]? = some x9:=f14;obtain ⟨x10,h17,h⟩:=aH h;refine dL λK hK=>?_;simp only [go_sem,seval,tX u0,c8,f12,f13,f16];refine SC.bA (Iq n x9 a2 _ h17 _ _ _) ?_;simp only [go_sem,seval];apply hK;refine aR (bW ?_);refine gD h (λc18 h=>?_) (λc18 h=>?_)
   ·refine oB ?_;refine aR ?_;obtain ⟨x19,h20,h⟩:=aH h;refine dL λK hK=>?_;simp only [go_sem,seval];refine SC.bA (zF x6 x10 ({ a3 with gI:=a1.gI }:aA) _ h20 _ _ _ P0 zP0) ?_;simp only [go_sem,seval];apply hK;refine dI ?_
    try simp only [eN]
    cases h;refine ⟨zd,?_⟩;simp only [go_sem,seval,cJ,cN,wD u0]
   ·refine dA ?_
    refine aR ?_;obtain ⟨x21,h22,h⟩:=aH h;refine dL λK hK=>?_;simp only [go_sem,seval,tX u0,c18];refine SC.bA (zF x6 x10 a3 _ h22 _ _ _ P0 zP0) ?_;simp only [go_sem,seval];apply hK;refine dI ?_
    try simp only [eN]
    cases h;refine ⟨zd,?_⟩;simp only [go_sem,seval,cJ,cN,wD u0]
  ·refine dA ?_
   refine aR ?_;obtain ⟨x23,h25,h⟩:=aH h;obtain ⟨x24,h26,h⟩:=aH h;refine jM λK hK=>?_;simp only [go_sem,seval,tX u0,c8];refine SC.bA (Ip a1.fB a2 _ h25 _ _ _) ?_;simp only [go_sem,seval,tX u0];refine SC.bA (Qi n a1.aN a2 _ h26 _ _ _) ?_;simp only [go_sem,seval,tX u0];apply hK;refine aR ?_;obtain ⟨x27,h29,h⟩:=aH h;obtain ⟨x28,h30,h⟩:=aH h;refine jM λK hK=>?_;simp only [go_sem,seval,tX u0];refine SC.bA (oW x6 a1.bH a2 a3 _ h29 _ _ _ P0 zP0) ?_;simp only [go_sem,seval,tX u0];refine SC.bA (oW x27.2 a1.eG a2 a3 _ h30 _ _ _ P0 zP0) ?_;simp only [go_sem,seval,tX u0];apply hK;refine bW ?_;refine dI ?_;cases h;refine ⟨zd,?_⟩;simp only [go_sem,seval,cJ,cN,wD u0]
theorem Ej {eS} (oW:nU eS) (n:Nat):vY (gZ eS n):=by
 rintro a0 a1 a2 a3 r h q m vs P0 zP0 ⟨hv,w0,hvrP0⟩;refine SC.wv hv ?_;refine SC.ap w0 λu0 l0=>?_
 try simp only [go_sem] at w0 l0
 refine wG func160 call160 ntmps160 results160 ?_;unfold gZ at h;refine bW ?_;refine aR ?_;obtain ⟨x3,h4,h⟩:=aH h;refine dL λK hK=>?_;simp only [go_sem,seval];refine SC.bA (qH a0 _ h4 _ _ _ P0 zP0) ?_;simp only [go_sem,seval];apply hK;refine aR ?_;obtain ⟨x5,h10,h⟩:=aH h;obtain ⟨f7,f8,f9⟩:=bX h10;refine jM λK hK=>?_;simp only [go_sem,seval,uD u0,f7,f8,f9];apply hK;refine aR ?_;obtain ⟨x11,h12,h⟩:=aH h;refine dL λK hK=>?_;simp only [go_sem,seval,uD u0];refine SC.mono (Gb n x3 a1 x5 a2 _ h12 _ _ _ P0 zP0 (by simp only [go_sem,seval,uD u0])) ?_;rintro _ _ ⟨o_x11,j_x11,o2_x11,j2_x11,s_x11,s2_x11,d_x11,d2_x11,rfl,rfl⟩;replace s_x11:q <:+ o_x11:=List.IsSuffix.trans (by simp only [go_sem]) s_x11;replace s2_x11:q <:+ o2_x11:=List.IsSuffix.trans (by simp only [go_sem]) s2_x11;simp only [go_sem,seval];apply hK;refine aR (aR ?_);obtain ⟨⟨f13,f14⟩,h⟩:=cQ h;refine oB ?_;refine dY ?_;obtain ⟨y19,b19,h⟩:=aH h;refine zR (λc X Y=>∃v16 v17 v18 o_v16 j_v16,fG x5 c v16 v17 v18=some y19/\X 0=.ptr P0 0/\X 2=.list .none (a2.map (cI .i64))/\X 5=.ptr (0::q) 0/\X 7=.ptr (1::q) 0/\X 9=.ptr (14::q) 0/\X 10=.list (.st (.anon o_x11 j_x11)) (x11.1.map aA.C)/\Y.tok o_x11 j_x11=true/\q <:+ o_x11/\X 11=.list (.st (.anon o_v16 j_v16)) (v16.map (cI .i64))/\Y.tok o_v16 j_v16=true/\q <:+ o_v16/\X 37=.list .none ((x5.aQ.drop x5.aT.toNat).map aK.C)/\X 38=.li ((x5.aQ.drop x5.aT.toNat).length:Int)/\X 39=.li v17/\(o_x11=o_v16)=False/\(o_v16=o_x11)=False/\Y.blk P0=some ((bM.C v18.p_)++[.ls v18.f_.iE,.lb v18.f_.eK,.li v18.f_.bO,.li v18.f_.aT,.list .self (v18.f_.aQ.map aK.C),.list .none (v18.f_.bH.map aA.C),.li v18.gS,.li v18.e_])/\Y.blk (0::q)=some ((aA.C a1))/\Y.blk (1::q)=some ((aA.C a3))/\Y.blk (14::q)=some ((aJ.C x5))/\Y.ver P0 5=zP0+v18.f_.aQ.length/\Y.gl=m.gl/\m.back q Y=(m.setv P0 5 ((bM.C v18.p_)++[.ls v18.f_.iE,.lb v18.f_.eK,.li v18.f_.bO,.li v18.f_.aT,.list .self (v18.f_.aQ.map aK.C),.list .none (v18.f_.bH.map aA.C),.li v18.gS,.li v18.e_]) (zP0+v18.f_.aQ.length))) n ⟨x11.2.1,(0:Int),x11.2.2,o2_x11,j2_x11,b19,?_⟩ ?_
 ·simp only [go_sem,seval,cJ,cG,cN,wD u0,uD u0,s_x11,s2_x11,d_x11,d2_x11]
 rintro i15 c20 E21 m22 ⟨v16,v17,v18,o_v16,j_v16,b19,e23⟩ _
 rcases c20 with _ | c20
 ·cases b19
 rw [fG] at b19;refine bW ?_;refine aR (gD b19 (λc24 b19=>?_) (λc24 b19=>?_))
 ·refine dA ?_
  refine aR (dY (aR ?_));obtain ⟨x25,h30,b19⟩:=aH b19;obtain ⟨f27,f28,f29⟩:=bX h30;refine oB ?_;obtain ⟨x31,h32,b19⟩:=aH b19;obtain ⟨f33,b19⟩:=cQ b19;have f34:v16.length+1<=1073741824:=by first | omega | (simp only [oY,qB,sY] at f33 ⊢;omega)
  have f35:v16.length<=1073741823:=by first | omega | (simp only [oY,qB,sY] at f33 ⊢;omega)
  refine HA (o:=o_x11) (j:=j_x11) (by simp only [go_sem,e23]) λf36=>?_;have f37:=f36 10 zb;refine qC λK hK=>?_;simp only [go_sem,seval,e23];refine SC.bA (qG v18 x25 _ h32 _ _ _ P0 zP0) ?_;simp only [go_sem,seval,f34,e23];apply hK;simp only [aV,cR];refine oB ?_;refine ⟨c20,Rh _,(v16++[x31.1]),(i64.wrap (v17+(1:Int))),x31.2,(10::i15::33::q),0,b19,?_⟩;simp only [go_sem,seval,cJ,cG,wD u0,uD u0,s_x11,f37.1,f37.2,e23]
 ·refine lM ?_
  try simp only [eH,dN,↓reduceIte,aV]
  obtain rfl:=bS b19;refine aR (bW ?_);refine gD h (λc38 h=>?_) (λc38 h=>?_)
  ·refine bW ?_;refine dI ?_
   try simp only [eN]
   cases h;exact jS
  ·refine dA ?_
   refine aR ?_;obtain ⟨x39,h41,h⟩:=aH h;obtain ⟨x40,h42,h⟩:=aH h;obtain ⟨f43,h⟩:=cQ h;have f44:x11.1.length+x40.1.length<=1073741824:=by first | omega | (simp only [oY,qB,sY] at f43 ⊢;omega)
   refine HA (o:=o_v16) (j:=j_v16) (by simp only [go_sem,e23]) λf45=>?_;have f46:=f45 50 zb;refine jM λK hK=>?_;simp only [go_sem,seval,c38,e23];refine SC.bA (EV v18 a1 a2 a3 _ h41 _ _ _ P0 zP0) ?_;simp only [go_sem,seval,e23];refine SC.bA (oW v18 x5.bH v16 x39 _ h42 _ _ _ P0 zP0) ?_;simp only [go_sem,seval,f43,e23];apply hK;refine dI ?_;cases h;refine ⟨zd,?_⟩;simp only [go_sem,seval,cG,wD u0,s_x11,e23]
theorem wJ:∀n,nU (eU n)/\sW (gW n)/\vY (lF n)
 | 0=>⟨λ_ _ _ _ _ h=>cK h,λ_ _ _ _ _ h=>cK h,λ_ _ _ _ _ h=>cK h⟩
 | n+1=>
   have ih:=wJ n
   ⟨Dv ih.2.1 n,Bw ih.2.2 ih.1 n,Ej ih.1 n⟩
theorem EW (n:Nat):nU (eU n):=(wJ n).1
def Nj (f:bM->Int->Option (aJ × Int)):Prop:=∀a0 a1 r,f a0 a1=some r->By prog 11 [.agg ((bM.C a0)),.li a1] (.tup [.agg ((aJ.C r.1)),.li r.2])
theorem RS (n:Nat):Nj (xK n):=by
 intro a0 a1 r h q m vs hv;refine SC.wv hv (wG func11 call11 ntmps11 results11 ?_);unfold xK at h;refine bW ?_;refine aR (aR ?_);obtain ⟨y3,b3,h⟩:=aH h;refine Bq 12 (λX Y=>X 1=.li a1/\X 2=.ptr (0::q) 0/\X 4=.ptr (1::q) 0/\X 15=.lb y3/\Y.blk (0::q)=some ((bM.C a0))/\Y.blk (1::q)=some ([.ls [],.lb false,.li (0:Int),.li (0:Int),.list .self ([].map aK.C),.list .self ([].map aA.C)])/\Y.gl=m.gl/\m.back q Y=m) ?_ ?_
 ·rcases AZ b3 with ⟨c4,b3⟩ | ⟨c4,b3⟩
  ·refine oB ?_;obtain rfl:=bS b3;exact jD
  ·refine oB ?_;obtain rfl:=bS b3;exact jD
 ·intro E5 m6 e7 _;refine gD h (λc8 h=>?_) (λc8 h=>?_)
  ·refine bW ?_;refine Kk (id:=(1::q)) (off:=4) (cs:=[.ls [],.lb false,.li (0:Int),.li (0:Int),.nilv,.nilv]) (by simp only [go_sem,seval]) rfl ?_;refine Kk (id:=(1::q)) (off:=5) (cs:=[.ls [],.lb false,.li (0:Int),.li (0:Int),.list .none [],.nilv]) (by simp only [go_sem,seval]) rfl ?_;refine dI ?_
   try simp only [eN]
   cases h;exact jS
  ·refine dA ?_
   refine aR ?_;obtain ⟨x9,h14,h⟩:=aH h;obtain ⟨f11,f12,f13⟩:=bX h14;refine jM λK hK=>?_;simp only [go_sem,seval,f11,f12,f13,e7];apply hK;refine aR (SW_setv (id:=(19::q)) (off:=5) (n:=m6.ver (19::q) 5+x9.aQ.length) (cs:=[.list .none (a0.bC.map aJ.C),.ls x9.iE,.lb x9.eK,.li x9.bO,.li x9.aT,.list .none (x9.aQ.map aK.C),.list .none (x9.bH.map aA.C),.li (0:Int),.li (0:Int)]) (v0:=.list .none (x9.aQ.map aK.C)) (by simp only [go_sem,seval]) rfl (λ_=>rfl) (λ_ h=>by cases h) (by simp only [go_sem];exact Nat.le_add_right _ _) ?_);obtain ⟨f15,h⟩:=cQ h;have f16:x9.aQ.length<=1073741824:=by first | omega | (simp only [oY,qB,sY] at f15 ⊢;omega)
   refine oB ?_;refine aR ?_;obtain ⟨x17,h18,h⟩:=aH h;refine dL λK hK=>?_;simp only [go_sem,seval];refine SC.by_ (EW n (aM.mk a0 x9 (0:Int) (0:Int)) x9.bH [] (aA.mk ([114,101,116,117,114,110]:cB) (-1:Int) (0:Int) [] [] [] (-1:Int)) _ h18 _ _ _ (19::q) (m6.ver (19::q) 5+1) (by simp only [go_sem,seval,Nat.add_right_comm])) ?_;simp only [go_sem,seval];apply hK;refine aR (bW ?_);refine gD h (λc19 h=>?_) (λc19 h=>?_)
   ·refine aR (jM λK hK=>?_);simp only [go_sem,seval,c19,e7];apply hK;refine Kk (id:=(1::q)) (off:=4) (cs:=[.ls [],.lb false,.li (0:Int),.li (0:Int),.nilv,.nilv]) (by simp only [go_sem,seval]) rfl ?_;refine Kk (id:=(1::q)) (off:=5) (cs:=[.ls [],.lb false,.li (0:Int),.li (0:Int),.list .none [],.nilv]) (by simp only [go_sem,seval]) rfl ?_;refine dI ?_
    try simp only [eN]
    cases h;refine ⟨zd,?_⟩;simp only [go_sem,seval,cJ,Pp,eR,cG,e7]
   ·refine dA ?_
    refine bW ?_;refine dI ?_;cases h;refine ⟨zd,?_⟩;simp only [go_sem,seval,cJ,Pp,eR,cG,e7]
instance:iQ 11 (∀n,Nj (xK n)):=⟨RS⟩
