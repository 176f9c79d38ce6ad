import Derived.Test.YtnheknbibdgglaaGreatDoorMH8
namespace Go.Proofs.YtnheknbibdgglaaGreatDoor.Abs
open Go.RowKit Tryz
open IntKind (i64 u32 u64 u8)
set_option linter.all false
set_option maxRecDepth 10000
set_option maxHeartbeats 2000000
open Tryz
def CE (f:aL->Option aL):Prop:=∀a0 r,f a0=some r->∀(q:Pa) (m:M) (vs:List V) (P0:Pa) (zP0:Nat),vs.map V.weak1=[.ptr P0 0]/\m.blk P0=some ((aK.C a0.p_)++[.ls a0.f_.gS,.lb a0.f_.eC,.li a0.f_.bV,.li a0.f_.aQ,.list .self (a0.f_.aO.map aJ.C),.list .none (a0.f_.bR.map aA.C),.li a0.gG,.li a0.e_])/\m.ver P0 5=zP0+a0.f_.aO.length->SC prog 92 vs q m (λv Y=>v=.tup []/\Y=(m.setv P0 5 ((aK.C r.p_)++[.ls r.f_.gS,.lb r.f_.eC,.li r.f_.bV,.li r.f_.aQ,.list .self (r.f_.aO.map aJ.C),.list .none (r.f_.bR.map aA.C),.li r.gG,.li r.e_]) (zP0+r.f_.aO.length)))
theorem oK:CE (eB):=by
 rintro a0 r h q m vs P0 zP0 ⟨hv,w0,hvrP0⟩;refine SC.wv hv ?_;refine SC.ap w0 λu0 l0=>?_
 try simp only [go_sem] at w0 l0
 refine oE func92 call92 ntmps92 results92 ?_;unfold eB at h;refine bC ?_;refine bC ?_;refine cY h (λc1 h=>?_) (λc1 h=>?_)
 ·refine kM λK hK=>?_;simp only [go_sem,seval,c1];apply hK;simp only [];cases h;refine ⟨zc,?_⟩;simp only [go_sem,bG,dW u0,jY hvrP0]
 ·refine bL ?_;cases h;refine ⟨zc,?_⟩;simp only [go_sem,bG,dW u0,jY hvrP0,c1]
def Ll (f:Int->(List Int)->Option Int):Prop:=∀a0 a1 r,f a0 a1=some r->Ey prog 95 [.li a0,.list .none (a1.map (cI .i64))] (.li r)
theorem Ep:Ll (xF):=λa0 a1 r h q m vs hv=>SC.wva hv (fF func95 call95 ntmps95 results95 rfl (wk (.j 2 1 9 [.v 12 Bool λy=>.lb y] [0,1] [] [] none .z .z) q m (xF.eq_1 _ _) h))
instance:rX 95 (Ll xF):=⟨Ep⟩
def zN (f:aF->(List Int)->Option aF):Prop:=∀a0 a1 r,f a0 a1=some r->Ey prog 93 [.agg ((aF.C a0)),.list .none (a1.map (cI .i64))] (.agg ((aF.C r)))
def xH (f:(List aF)->(List Int)->Option (List aF)):Prop:=∀a0 a1 r,f a0 a1=some r->Ey prog 96 [.list .none (a0.map aF.C),.list .none (a1.map (cI .i64))] (.list .none (r.map aF.C))
theorem JU {uD} (IE:xH uD) (n:Nat):zN (uG uD n):=haveI:rX 96 (xH uD):=⟨IE⟩;λa0 a1 r h q m vs hv=>SC.wva hv (fF func93 call93 ntmps93 results93 rfl (wk .z q m (uG.eq_1 _ _ _ _) h))
theorem IF {qS} (JS:zN qS) (n:Nat):xH (sY qS n):=haveI:rX 93 (zN qS):=⟨JS⟩;λa0 a1 r h q m vs hv=>SC.wva hv (fF func96 call96 ntmps96 results96 rfl (wk (.s 5 (.l [.o 5 (List aF) λy=>(y.map aF.C),.v 10 Int λy=>.li y] [1,8,9] [] [] none .z .z)) q m (sY.eq_1 _ _ _ _) h))
theorem yO:∀n,zN (qV n)/\xH (sZ n)
 | 0=>⟨λ_ _ _ h=>eO h,λ_ _ _ h=>eO h⟩
 | n+1=>
   have ih:=yO n
   ⟨JU ih.2 n,IF ih.1 n⟩
theorem Es (n:Nat):zN (qV n):=(yO n).1
theorem KC (n:Nat):xH (sZ n):=(yO n).2
def CD (f:aL->aJ->Option (Int × aL)):Prop:=∀a0 a1 r,f a0 a1=some r->∀(q:Pa) (m:M) (vs:List V) (P0:Pa) (zP0:Nat),vs.map V.weak1=[.ptr P0 0,.agg ((aJ.C a1))]/\m.blk P0=some ((aK.C a0.p_)++[.ls a0.f_.gS,.lb a0.f_.eC,.li a0.f_.bV,.li a0.f_.aQ,.list .self (a0.f_.aO.map aJ.C),.list .none (a0.f_.bR.map aA.C),.li a0.gG,.li a0.e_])/\m.ver P0 5=zP0+a0.f_.aO.length->SC prog 137 vs q m (λv Y=>v=.li r.1/\Y=(m.setv P0 5 ((aK.C r.2.p_)++[.ls r.2.f_.gS,.lb r.2.f_.eC,.li r.2.f_.bV,.li r.2.f_.aQ,.list .self (r.2.f_.aO.map aJ.C),.list .none (r.2.f_.bR.map aA.C),.li r.2.gG,.li r.2.e_]) (zP0+r.2.f_.aO.length)))
theorem oJ:CD (eA):=by
 rintro a0 a1 r h q m vs P0 zP0 ⟨hv,w0,hvrP0⟩;refine SC.wv hv ?_;refine SC.ap w0 λu0 l0=>?_
 try simp only [go_sem] at w0 l0
 refine oE func137 call137 ntmps137 results137 ?_;unfold eA at h;refine bC ?_;refine aN (bC ?_);refine cY h (λc2 h=>?_) (λc2 h=>?_)
 ·refine bC ?_;refine bC ?_;refine cB ?_
  try simp only [cE]
  cases h;refine ⟨zc,?_⟩;simp only [go_sem,seval,bB,bG,dW u0,jY hvrP0]
 ·refine bL ?_
  refine aN ?_;obtain ⟨f3,h⟩:=bN h;have f4:a0.f_.aO.length+1<=1073741824:=by first | omega | (simp only [nB,jJ,mO] at f3 ⊢;omega)
  have f5:a0.f_.aO.length<=1073741823:=by first | omega | (simp only [nB,jJ,mO] at f3 ⊢;omega)
  refine eV λK hK=>?_;simp only [go_sem,seval,lR u0,c2,f4,w0,hvrP0];apply hK;refine bC ?_;refine cB ?_;cases h;refine ⟨zc,?_⟩;simp only [go_sem,seval,bB,bZ,bG,dW u0,Ka u0,Ni hvrP0,nB,jJ,mO,ES,←xee]
def Dl (f:aL->aA->aP->(List Int)->Option ((List aA) × (List Int) × aL)):Prop:=∀a0 a1 a2 a3 r,f a0 a1 a2 a3=some r->∀(q:Pa) (m:M) (vs:List V) (P0:Pa) (zP0:Nat),vs.map V.weak1=[.ptr P0 0,.agg ((aA.C a1)),.agg ((aP.C a2)),.list .none (a3.map (cI .i64))]/\m.blk P0=some ((aK.C a0.p_)++[.ls a0.f_.gS,.lb a0.f_.eC,.li a0.f_.bV,.li a0.f_.aQ,.list .self (a0.f_.aO.map aJ.C),.list .none (a0.f_.bR.map aA.C),.li a0.gG,.li a0.e_])/\m.ver P0 5=zP0+a0.f_.aO.length->SC prog 136 vs q m (λv Y=>∃(id:Pa) (j:Nat) (id2:Pa) (j2:Nat),q <:+ id/\q <:+ id2/\(id=id2)=False/\(id2=id)=False/\v=.tup [.list (.st (.anon id j)) (r.1.map aA.C),.list (.st (.anon id2 j2)) (r.2.1.map (cI .i64))]/\Y=((m.setv P0 5 ((aK.C r.2.2.p_)++[.ls r.2.2.f_.gS,.lb r.2.2.f_.eC,.li r.2.2.f_.bV,.li r.2.2.f_.aQ,.list .self (r.2.2.f_.aO.map aJ.C),.list .none (r.2.2.f_.bR.map aA.C),.li r.2.2.gG,.li r.2.2.e_]) (zP0+r.2.2.f_.aO.length)).tokset id j true).tokset id2 j2 true)
theorem CF (n:Nat):Dl (mC n):=by
 rintro a0 a1 a2 a3 r h q m vs P0 zP0 ⟨hv,w0,hvrP0⟩;refine SC.wv hv ?_;refine SC.ap w0 λu0 l0=>?_
 try simp only [go_sem] at w0 l0
 refine SC_of2 func136 rfl (λxs w=>call136 xs w) ntmps136 zd (vJ Array.toList results136) (λo1 o2=>.tup [.list o1 (r.1.map aA.C),.list o2 (r.2.1.map (cI .i64))]) ?_;unfold mC at h;refine bC ?_;refine bC ?_;refine bC ?_;refine aN (bC ?_);refine cK ?_;obtain ⟨y8,b8,h⟩:=aD h;refine zU 10 ([].map aA.C) rfl (by simp only [go_sem,seval]) ?_;refine zU 11 ([].map (cI .i64)) rfl (by simp only [go_sem,seval]) ?_;refine rG (λc X Y=>∃v4 v5 v6 v7 o_v4 j_v4 o_v5 j_v5,fH n a1 a3 a2 c v4 v5 v6 v7=some y8/\X 0=.ptr P0 0/\X 3=.list .none (a3.map (cI .i64))/\X 5=.ptr (0::q) 0/\X 6=.ptr (1::q) 0/\X 10=.list (.st (.anon o_v4 j_v4)) (v4.map aA.C)/\Y.tok o_v4 j_v4=true/\q <:+ o_v4/\X 11=.list (.st (.anon o_v5 j_v5)) (v5.map (cI .i64))/\Y.tok o_v5 j_v5=true/\q <:+ o_v5/\X 17=.list .none (a1.aM.map aF.C)/\X 18=.li (a1.aM.length:Int)/\X 19=.li v6/\(o_v4=o_v5)=False/\(o_v5=o_v4)=False/\Y.blk P0=some ((aK.C v7.p_)++[.ls v7.f_.gS,.lb v7.f_.eC,.li v7.f_.bV,.li v7.f_.aQ,.list .self (v7.f_.aO.map aJ.C),.list .none (v7.f_.bR.map aA.C),.li v7.gG,.li v7.e_])/\Y.blk (0::q)=some ((aA.C a1))/\Y.blk (1::q)=some ((aP.C a2))/\Y.ver P0 5=zP0+v7.f_.aO.length/\Y.gl=m.gl/\m.back q Y=(m.setv P0 5 ((aK.C v7.p_)++[.ls v7.f_.gS,.lb v7.f_.eC,.li v7.f_.bV,.li v7.f_.aQ,.list .self (v7.f_.aO.map aJ.C),.list .none (v7.f_.bR.map aA.C),.li v7.gG,.li v7.e_]) (zP0+v7.f_.aO.length))) n ⟨[],[],(0:Int),a0,(10::q),0,(11::q),0,b8,?_⟩ ?_
 ·simp only [go_sem,seval,bB,bZ,bG,l0,jY hvrP0,hvrP0,jZ u0,w0]
 rintro i3 c9 E10 m11 ⟨v4,v5,v6,v7,o_v4,j_v4,o_v5,j_v5,b8,e12⟩ _
 rcases c9 with _ | c9
 ·cases b8
 rw [fH] at b8;refine bC ?_;refine aN (cY b8 (λc13 b8=>?_) (λc13 b8=>?_))
 ·refine bL ?_
  refine aN ?_;obtain ⟨y14,b14,b8⟩:=aD b8;refine rE 47 (λX Y=>∃(oy14_10:Pa) (jy14_10:Nat),∃(oy14_11:Pa) (jy14_11:Nat),X 0=.ptr P0 0/\X 3=.list .none (a3.map (cI .i64))/\X 5=.ptr (0::q) 0/\X 6=.ptr (1::q) 0/\X 10=.list (.st (.anon oy14_10 jy14_10)) (y14.1.map aA.C)/\Y.tok oy14_10 jy14_10=true/\q <:+ oy14_10/\X 11=.list (.st (.anon oy14_11 jy14_11)) (y14.2.1.map (cI .i64))/\Y.tok oy14_11 jy14_11=true/\q <:+ oy14_11/\X 17=.list .none (a1.aM.map aF.C)/\X 18=.li (a1.aM.length:Int)/\X 19=.li v6/\(oy14_10=oy14_11)=False/\(oy14_11=oy14_10)=False/\Y.blk P0=some ((aK.C y14.2.2.p_)++[.ls y14.2.2.f_.gS,.lb y14.2.2.f_.eC,.li y14.2.2.f_.bV,.li y14.2.2.f_.aQ,.list .self (y14.2.2.f_.aO.map aJ.C),.list .none (y14.2.2.f_.bR.map aA.C),.li y14.2.2.gG,.li y14.2.2.e_])/\Y.blk (0::q)=some ((aA.C a1))/\Y.blk (1::q)=some ((aP.C a2))/\Y.ver P0 5=zP0+y14.2.2.f_.aO.length/\Y.gl=m.gl/\m.back q Y=(m.setv P0 5 ((aK.C y14.2.2.p_)++[.ls y14.2.2.f_.gS,.lb y14.2.2.f_.eC,.li y14.2.2.f_.bV,.li y14.2.2.f_.aQ,.list .self (y14.2.2.f_.aO.map aJ.C),.list .none (y14.2.2.f_.bR.map aA.C),.li y14.2.2.gG,.li y14.2.2.e_]) (zP0+y14.2.2.f_.aO.length))) ?_ ?_
  ·refine cK (aN ?_);obtain ⟨x15,h20,b14⟩:=aD b14;obtain ⟨f17,f18,f19⟩:=aY h20;refine dY ?_;refine aN (bC ?_);refine cY b14 (λc21 b14=>?_) (λc21 b14=>?_)
   ·refine aN ?_;obtain ⟨x22,h23,b14⟩:=aD b14;obtain ⟨f24,b14⟩:=bN b14;have f25:v5.length+1<=1073741824:=by first | omega | (simp only [nB,jJ,mO] at f24 ⊢;omega)
    have f26:v5.length<=1073741823:=by first | omega | (simp only [nB,jJ,mO] at f24 ⊢;omega)
    refine DF (o:=o_v4) (j:=j_v4) (by simp only [go_sem,e12]) λf27=>?_;have f28:=f27 16 za;refine bX λK hK=>?_;simp only [go_sem,seval,c21,e12];refine SC.bA (Ep x15.cZ a3 _ h23 _ _ _) ?_;simp only [go_sem,seval,f25,e12];apply hK;refine gE ?_
    try simp only [cV,cM,↓reduceIte,aR]
    obtain rfl:=aZ b14;refine ⟨zb,o_v4,j_v4,(16::i3::12::q),0,?_⟩;simp only [go_sem,seval,bB,bZ,jZ u0,f28.1,f28.2,e12]
   ·refine bL ?_
    refine bC ?_;refine aN (aN ?_);obtain ⟨x29,h33,b14⟩:=aD b14;obtain ⟨f30,f31,f32⟩:=aY h33;refine dY ?_;refine cY b14 (λc34 b14=>?_) (λc34 b14=>?_)
    ·refine dY ?_;refine aN ?_;obtain ⟨x35,h36,b14⟩:=aD b14;refine bX λK hK=>?_;simp only [go_sem,seval,e12];refine SC.bA (oK v7 _ h36 _ _ _ P0 zP0) ?_;simp only [go_sem,seval];apply hK;refine aN ?_;obtain ⟨x37,h38,b14⟩:=aD b14;refine bX λK hK=>?_;simp only [go_sem,seval,jZ u0,f17,f31,f32,e12];refine SC.bA (oJ x35 x29 _ h38 _ _ _ P0 zP0) ?_;simp only [go_sem,seval];apply hK;refine aN ?_;obtain ⟨f39,b14⟩:=bN b14;have f40:v5.length+1<=1073741824:=by first | omega | (simp only [nB,jJ,mO] at f39 ⊢;omega)
     have f41:v5.length<=1073741823:=by first | omega | (simp only [nB,jJ,mO] at f39 ⊢;omega)
     refine DF (o:=o_v4) (j:=j_v4) (by simp only [go_sem,e12]) λf42=>?_;have f43:=f42 32 za;refine dY ?_;obtain ⟨x44,h45,b14⟩:=aD b14;obtain ⟨f46,b14⟩:=bN b14;have f47:v4.length+1<=1073741824:=by first | omega | (simp only [nB,jJ,mO] at f46 ⊢;omega)
     have f48:v4.length<=1073741823:=by first | omega | (simp only [nB,jJ,mO] at f46 ⊢;omega)
     refine eV λK hK=>?_;simp only [go_sem,seval,jZ u0,e12];refine SC.bA (Es n x15 a3 _ h45 _ _ _) ?_;simp only [go_sem,seval,jZ u0,f43.1,f47,e12];apply hK;simp only [aR,bJ];obtain rfl:=aZ b14;refine ⟨zb,(45::i3::12::q),0,(32::i3::12::q),0,?_⟩;simp only [go_sem,seval,bB,bZ,dR u0,jZ u0,f43.2,e12]
    ·refine bL ?_
     refine aN ?_;obtain ⟨x49,h50,b14⟩:=aD b14;refine bX λK hK=>?_;simp only [go_sem,seval,c34,e12];refine SC.bA (oK v7 _ h50 _ _ _ P0 zP0) ?_;simp only [go_sem,seval];apply hK;refine aN ?_;obtain ⟨x51,h52,b14⟩:=aD b14;refine bX λK hK=>?_;simp only [go_sem,seval,jZ u0,f17,f31,f32,e12];refine SC.bA (oJ x49 x29 _ h52 _ _ _ P0 zP0) ?_;simp only [go_sem,seval];apply hK;refine aN ?_;obtain ⟨f53,b14⟩:=bN b14;have f54:v5.length+1<=1073741824:=by first | omega | (simp only [nB,jJ,mO] at f53 ⊢;omega)
     have f55:v5.length<=1073741823:=by first | omega | (simp only [nB,jJ,mO] at f53 ⊢;omega)
     refine DF (o:=o_v4) (j:=j_v4) (by simp only [go_sem,e12]) λf56=>?_;have f57:=f56 31 za;refine dY ?_;obtain ⟨x58,h59,b14⟩:=aD b14;obtain ⟨f60,b14⟩:=bN b14;have f61:v4.length+1<=1073741824:=by first | omega | (simp only [nB,jJ,mO] at f60 ⊢;omega)
     have f62:v4.length<=1073741823:=by first | omega | (simp only [nB,jJ,mO] at f60 ⊢;omega)
     refine eV λK hK=>?_;simp only [go_sem,seval,jZ u0,e12];refine SC.bA (Es n x15 a3 _ h59 _ _ _) ?_;simp only [go_sem,seval,jZ u0,f57.1,f61,e12];apply hK;simp only [aR,bJ];obtain rfl:=aZ b14;refine ⟨zb,(44::i3::12::q),0,(31::i3::12::q),0,?_⟩;simp only [go_sem,seval,bB,bZ,dR u0,jZ u0,f57.2,e12]
  ·rintro E63 m64 ⟨oy14_10,jy14_10,oy14_11,jy14_11,e65⟩ _;refine dY ?_;refine ⟨c9,EO _,y14.1,y14.2.1,(i64.wrap (v6+(1:Int))),y14.2.2,oy14_10,jy14_10,oy14_11,jy14_11,b8,?_⟩;simp only [go_sem,seval,e65]
 ·refine gE ?_
  try simp only [cV,cM,↓reduceIte,aR]
  obtain rfl:=aZ b8;refine bC ?_;refine cB ?_;cases h;refine ⟨zc,?_⟩;refine ⟨o_v4,j_v4,o_v5,j_v5,?_,?_,?_,?_,?_,?_,?_,?_⟩ <;> simp only [go_sem,seval,e12]
def CC (f:aL->aA->(List Int)->aA->Option aA):Prop:=∀a0 a1 a2 a3 r,f a0 a1 a2 a3=some r->∀(q:Pa) (m:M) (vs:List V) (P0:Pa) (zP0:Nat),vs.map V.weak1=[.ptr P0 0,.agg ((aA.C a1)),.list .none (a2.map (cI .i64)),.agg ((aA.C a3))]/\m.blk P0=some ((aK.C a0.p_)++[.ls a0.f_.gS,.lb a0.f_.eC,.li a0.f_.bV,.li a0.f_.aQ,.list .self (a0.f_.aO.map aJ.C),.list .none (a0.f_.bR.map aA.C),.li a0.gG,.li a0.e_])/\m.ver P0 5=zP0+a0.f_.aO.length->SC prog 138 vs q m (λv Y=>v=.agg ((aA.C r))/\Y=m)
theorem BB:CC (jT):=by
 rintro a0 a1 a2 a3 r h q m vs P0 zP0 ⟨hv,w0,hvrP0⟩;refine SC.wv hv ?_;refine SC.apart w0 λu0=>?_
 try simp only [go_sem] at w0
 refine oE func138 call138 ntmps138 results138 ?_;unfold jT at h;refine bC ?_;refine aN ?_;obtain ⟨x4,h8,h⟩:=aD h;obtain ⟨f5,f6,f7⟩:=aY h8;refine eV λK hK=>?_;simp only [go_sem,seval,lR u0,f5,f6,f7,w0];apply hK;refine aN (bC ?_);refine cK (bC ?_);refine cY h (λc9 h=>?_) (λc9 h=>?_)
 ·refine aN (bC ?_);refine cY h (λc10 h=>?_) (λc10 h=>?_)
  ·refine dY ?_;refine bC ?_;refine cB ?_
   try simp only [cE,gP]
   cases h;exact jS
  ·refine bL ?_
   refine bC ?_;refine cB ?_
   try simp only [cE,gP]
   cases h;exact jS
 ·refine bC ?_;refine cY h (λc11 h=>?_) (λc11 h=>?_)
  ·refine bC ?_;refine cB ?_
   try simp only [cE,gP]
   cases h;exact jS
  ·refine bL ?_
   try simp only [aR,bJ]
   refine aN ?_;obtain ⟨x12,h13,h⟩:=aD h;refine eV λK hK=>?_;simp only [go_sem,seval,c11];refine SC.bA (Ep a1.cZ a2 _ h13 _ _ _) ?_;simp only [go_sem,seval];apply hK;refine cB ?_;cases h;exact jS
def Dk (f:aL->aF->aA->Option (aA × aL)):Prop:=∀a0 a1 a2 r,f a0 a1 a2=some r->∀(q:Pa) (m:M) (vs:List V) (P0:Pa) (zP0:Nat),vs.map V.weak1=[.ptr P0 0,.agg ((aF.C a1)),.agg ((aA.C a2))]/\m.blk P0=some ((aK.C a0.p_)++[.ls a0.f_.gS,.lb a0.f_.eC,.li a0.f_.bV,.li a0.f_.aQ,.list .self (a0.f_.aO.map aJ.C),.list .none (a0.f_.bR.map aA.C),.li a0.gG,.li a0.e_])/\m.ver P0 5=zP0+a0.f_.aO.length->SC prog 94 vs q m (λv Y=>v=.agg ((aA.C r.1))/\Y=(m.setv P0 5 ((aK.C r.2.p_)++[.ls r.2.f_.gS,.lb r.2.f_.eC,.li r.2.f_.bV,.li r.2.f_.aQ,.list .self (r.2.f_.aO.map aJ.C),.list .none (r.2.f_.bR.map aA.C),.li r.2.gG,.li r.2.e_]) (zP0+r.2.f_.aO.length)))
theorem uY:Dk (fB):=by
 rintro a0 a1 a2 r h q m vs P0 zP0 ⟨hv,w0,hvrP0⟩;refine SC.wv hv ?_;refine SC.ap w0 λu0 l0=>?_
 try simp only [go_sem] at w0 l0
 refine oE func94 call94 ntmps94 results94 ?_;unfold fB at h;refine bC ?_;refine bC ?_;refine aN (bC ?_);refine cY h (λc4 h=>?_) (λc4 h=>?_)
 ·obtain ⟨x5,h6,h⟩:=aD h;refine bX λK hK=>?_;simp only [go_sem,seval,c4];refine SC.bA (oJ a0 (aJ.mk [] a2.gI (0:Int)) _ h6 _ _ _ P0 zP0) ?_;simp only [go_sem,seval,lR u0];apply hK;refine bC ?_;refine bC ?_;refine cB ?_;cases h;refine ⟨zc,?_⟩;simp only [go_sem,seval,bB,dI,bG,dR u0,jJ,mO,ES]
 ·refine bL ?_
  refine bC ?_;refine bC ?_;refine cB ?_;cases h;refine ⟨zc,?_⟩;simp only [go_sem,seval,bB,dI,bG,l0,jY hvrP0,jJ,mO,ES]
def mH (f:aL->(List aA)->(List Int)->aA->Option ((List aA) × aL)):Prop:=∀a0 a1 a2 a3 r,f a0 a1 a2 a3=some r->∀(q:Pa) (m:M) (vs:List V) (P0:Pa) (zP0:Nat),vs.map V.weak1=[.ptr P0 0,.list .none (a1.map aA.C),.list .none (a2.map (cI .i64)),.agg ((aA.C a3))]/\m.blk P0=some ((aK.C a0.p_)++[.ls a0.f_.gS,.lb a0.f_.eC,.li a0.f_.bV,.li a0.f_.aQ,.list .self (a0.f_.aO.map aJ.C),.list .none (a0.f_.bR.map aA.C),.li a0.gG,.li a0.e_])/\m.ver P0 5=zP0+a0.f_.aO.length->SC prog 31 vs q m (λv Y=>v=.list .none (r.1.map aA.C)/\Y=(m.setv P0 5 ((aK.C r.2.p_)++[.ls r.2.f_.gS,.lb r.2.f_.eC,.li r.2.f_.bV,.li r.2.f_.aQ,.list .self (r.2.f_.aO.map aJ.C),.list .none (r.2.f_.bR.map aA.C),.li r.2.gG,.li r.2.e_]) (zP0+r.2.f_.aO.length)))
def pY (f:aL->aA->(List Int)->aA->Option ((List aA) × aL)):Prop:=∀a0 a1 a2 a3 r,f a0 a1 a2 a3=some r->∀(q:Pa) (m:M) (vs:List V) (P0:Pa) (zP0:Nat),vs.map V.weak1=[.ptr P0 0,.agg ((aA.C a1)),.list .none (a2.map (cI .i64)),.agg ((aA.C a3))]/\m.blk P0=some ((aK.C a0.p_)++[.ls a0.f_.gS,.lb a0.f_.eC,.li a0.f_.bV,.li a0.f_.aQ,.list .self (a0.f_.aO.map aJ.C),.list .none (a0.f_.bR.map aA.C),.li a0.gG,.li a0.e_])/\m.ver P0 5=zP0+a0.f_.aO.length->SC prog 62 vs q m (λv Y=>v=.list .none (r.1.map aA.C)/\Y=(m.setv P0 5 ((aK.C r.2.p_)++[.ls r.2.f_.gS,.lb r.2.f_.eC,.li r.2.f_.bV,.li r.2.f_.aQ,.list .self (r.2.f_.aO.map aJ.C),.list .none (r.2.f_.bR.map aA.C),.li r.2.gG,.li r.2.e_]) (zP0+r.2.f_.aO.length)))
def sK (f:aL->aA->(List Int)->aA->Option ((List aA) × aL)):Prop:=∀a0 a1 a2 a3 r,f a0 a1 a2 a3=some r->∀(q:Pa) (m:M) (vs:List V) (P0:Pa) (zP0:Nat),vs.map V.weak1=[.ptr P0 0,.agg ((aA.C a1)),.list .none (a2.map (cI .i64)),.agg ((aA.C a3))]/\m.blk P0=some ((aK.C a0.p_)++[.ls a0.f_.gS,.lb a0.f_.eC,.li a0.f_.bV,.li a0.f_.aQ,.list .self (a0.f_.aO.map aJ.C),.list .none (a0.f_.bR.map aA.C),.li a0.gG,.li a0.e_])/\m.ver P0 5=zP0+a0.f_.aO.length->SC prog 91 vs q m (λv Y=>v=.list .none (r.1.map aA.C)/\Y=(m.setv P0 5 ((aK.C r.2.p_)++[.ls r.2.f_.gS,.lb r.2.f_.eC,.li r.2.f_.bV,.li r.2.f_.aQ,.list .self (r.2.f_.aO.map aJ.C),.list .none (r.2.f_.bR.map aA.C),.li r.2.gG,.li r.2.e_]) (zP0+r.2.f_.aO.length)))
theorem Ap {eR} (xS:pY eR) (n:Nat):mH (gC eR n):=by
 rintro a0 a1 a2 a3 r h q m vs P0 zP0 ⟨hv,w0,hvrP0⟩;refine SC.wv hv ?_;refine SC.ap w0 λu0 l0=>?_
 try simp only [go_sem] at w0 l0
 refine oE func31 call31 ntmps31 results31 ?_;unfold gC at h;refine bC ?_;refine bC ?_;refine aN (bC ?_);refine cK ?_;obtain ⟨y6,b6,h⟩:=aD h;refine zU 9 ([].map aA.C) rfl (by simp only [go_sem,seval]) ?_;refine rG (λc X Y=>∃v3 v4 v5 o_v3 j_v3,dT eR a1 a2 a3 c v3 v4 v5=some y6/\X 0=.ptr P0 0/\X 2=.list .none (a2.map (cI .i64))/\X 7=.ptr (0::q) 0/\X 9=.list (.st (.anon o_v3 j_v3)) (v3.map aA.C)/\Y.tok o_v3 j_v3=true/\q <:+ o_v3/\X 12=.list .none (a1.map aA.C)/\X 13=.li (a1.length:Int)/\X 14=.li v4/\Y.blk P0=some ((aK.C v5.p_)++[.ls v5.f_.gS,.lb v5.f_.eC,.li v5.f_.bV,.li v5.f_.aQ,.list .self (v5.f_.aO.map aJ.C),.list .none (v5.f_.bR.map aA.C),.li v5.gG,.li v5.e_])/\Y.blk (0::q)=some ((aA.C a3))/\Y.ver P0 5=zP0+v5.f_.aO.length/\Y.gl=m.gl/\m.back q Y=(m.setv P0 5 ((aK.C v5.p_)++[.ls v5.f_.gS,.lb v5.f_.eC,.li v5.f_.bV,.li v5.f_.aQ,.list .self (v5.f_.aO.map aJ.C),.list .none (v5.f_.bR.map aA.C),.li v5.gG,.li v5.e_]) (zP0+v5.f_.aO.length))) n ⟨[],(0:Int),a0,(6::q),0,b6,?_⟩ ?_
 ·simp only [go_sem,seval,bB,bZ,bG,l0,jY hvrP0,hvrP0,jZ u0,w0]
 rintro i2 c7 E8 m9 ⟨v3,v4,v5,o_v3,j_v3,b6,e10⟩ _
 rcases c7 with _ | c7
 ·cases b6
 rw [dT] at b6;refine bC ?_;refine aN (cY b6 (λc11 b6=>?_) (λc11 b6=>?_))
 ·refine bL ?_
  refine aN (cK (aN ?_));obtain ⟨x12,h17,b6⟩:=aD b6;obtain ⟨f14,f15,f16⟩:=aY h17;refine dY ?_;refine aN (bC ?_);refine cY b6 (λc18 b6=>?_) (λc18 b6=>?_)
  ·refine bC ?_;refine cB ?_
   try simp only [cE,gP]
   obtain rfl:=aZ b6;simp only [PQ] at h;cases h;exact jS
  ·refine bL ?_
   try simp only [aR]
   obtain ⟨x19,h20,b6⟩:=aD b6;obtain ⟨f21,b6⟩:=bN b6;have f22:v3.length+x19.1.length<=1073741824:=by first | omega | (simp only [nB,jJ,mO] at f21 ⊢;omega)
   refine kM λK hK=>?_;simp only [go_sem,seval,c18,e10];refine SC.bA (xS v5 x12 a2 a3 _ h20 _ _ _ P0 zP0) ?_;simp only [go_sem,seval,f21,e10];apply hK;simp only [aR,bJ];refine dY ?_;refine ⟨c7,EO _,(v3++x19.1),(i64.wrap (v4+(1:Int))),x19.2,(16::i2::7::q),0,b6,?_⟩;simp only [go_sem,seval,bB,bZ,dR u0,jZ u0,e10]
 ·refine gE ?_
  try simp only [cV,cM,↓reduceIte,aR]
  obtain rfl:=aZ b6;simp only [SP] at h;refine bC ?_;refine cB ?_;cases h;exact jS
theorem xR {oH} (Bn:sK oH) {eH} (nC:mH eH) (n:Nat):pY (eM oH eH n):=by
 rintro a0 a1 a2 a3 r h q m vs P0 zP0 ⟨hv,w0,hvrP0⟩;refine SC.wv hv ?_;refine SC.ap w0 λu0 l0=>?_
 try simp only [go_sem] at w0 l0
 refine oE func62 call62 ntmps62 results62 ?_;unfold eM at h;refine bC ?_;refine aN (bC ?_);refine cY h (λc3 h=>?_) (λc3 h=>?_)
 ·refine aN ?_;obtain ⟨x4,h5,h⟩:=aD h;refine bX λK hK=>?_;simp only [go_sem,seval,c3];refine SC.bA (Bn a0 a1 a2 a3 _ h5 _ _ _ P0 zP0) ?_;simp only [go_sem,seval];apply hK;refine cB ?_
  try simp only [cE]
  cases h;refine ⟨zc,?_⟩;simp only [go_sem,seval,bB,bG,dR u0]
 ·refine bL ?_
  refine aN ?_;obtain ⟨x6,h7,h⟩:=aD h;refine bX λK hK=>?_;simp only [go_sem,seval,c3];refine SC.bA (oK a0 _ h7 _ _ _ P0 zP0) ?_;simp only [go_sem,seval];apply hK;refine aN (bC ?_);refine cY h (λc8 h=>?_) (λc8 h=>?_)
  ·refine aN ?_;obtain ⟨x9,h15,h⟩:=aD h;obtain ⟨f12,f13,f14⟩:=aY h15;have f16:a1.aM[0]? = some x9:=f14;obtain ⟨x10,h17,h⟩:=aD h;refine bX λK hK=>?_;simp only [go_sem,seval,lR u0,c8,f12,f13,f16];refine SC.bA (Es n x9 a2 _ h17 _ _ _) ?_;simp only [go_sem,seval];apply hK;refine aN (bC ?_);refine cY h (λc18 h=>?_) (λc18 h=>?_)
   ·refine dY ?_;refine aN ?_;obtain ⟨x19,h20,h⟩:=aD h;refine bX λK hK=>?_;simp only [go_sem,seval];refine SC.bA (uY x6 x10 ({ a3 with fV:=a1.fV }:aA) _ h20 _ _ _ P0 zP0) ?_;simp only [go_sem,seval];apply hK;refine cB ?_
    try simp only [cE]
    cases h;refine ⟨zc,?_⟩;simp only [go_sem,seval,bB,bG,dR u0]
   ·refine bL ?_
    refine aN ?_;obtain ⟨x21,h22,h⟩:=aD h;refine bX λK hK=>?_;simp only [go_sem,seval,lR u0,c18];refine SC.bA (uY x6 x10 a3 _ h22 _ _ _ P0 zP0) ?_;simp only [go_sem,seval];apply hK;refine cB ?_
    try simp only [cE]
    cases h;refine ⟨zc,?_⟩;simp only [go_sem,seval,bB,bG,dR u0]
  ·refine bL ?_
   refine aN ?_;obtain ⟨x23,h25,h⟩:=aD h;obtain ⟨x24,h26,h⟩:=aD h;refine eV λK hK=>?_;simp only [go_sem,seval,lR u0,c8];refine SC.bA (Ep a1.cZ a2 _ h25 _ _ _) ?_;simp only [go_sem,seval,lR u0];refine SC.bA (KC n a1.aM a2 _ h26 _ _ _) ?_;simp only [go_sem,seval,lR u0];apply hK;refine aN ?_;obtain ⟨x27,h29,h⟩:=aD h;obtain ⟨x28,h30,h⟩:=aD h;refine eV λK hK=>?_;simp only [go_sem,seval,lR u0];refine SC.bA (nC x6 a1.bR a2 a3 _ h29 _ _ _ P0 zP0) ?_;simp only [go_sem,seval,lR u0];refine SC.bA (nC x27.2 a1.iP a2 a3 _ h30 _ _ _ P0 zP0) ?_;simp only [go_sem,seval,lR u0];apply hK;refine bC ?_;refine cB ?_;cases h;refine ⟨zc,?_⟩;simp only [go_sem,seval,bB,bG,dR u0]
theorem AY {eH} (nC:mH eH) (n:Nat):sK (gQ eH n):=by
 rintro a0 a1 a2 a3 r h q m vs P0 zP0 ⟨hv,w0,hvrP0⟩;refine SC.wv hv ?_;refine SC.ap w0 λu0 l0=>?_
 try simp only [go_sem] at w0 l0
 refine oE func91 call91 ntmps91 results91 ?_;unfold gQ at h;refine bC ?_;refine aN ?_;obtain ⟨x3,h4,h⟩:=aD h;refine bX λK hK=>?_;simp only [go_sem,seval];refine SC.bA (oK a0 _ h4 _ _ _ P0 zP0) ?_;simp only [go_sem,seval];apply hK;refine aN ?_;obtain ⟨x5,h10,h⟩:=aD h;obtain ⟨f7,f8,f9⟩:=aY h10;refine eV λK hK=>?_;simp only [go_sem,seval,jZ u0,f7,f8,f9];apply hK;refine aN ?_;obtain ⟨x11,h12,h⟩:=aD h;refine bX λK hK=>?_;simp only [go_sem,seval,jZ u0];refine SC.mono (CF n x3 a1 x5 a2 _ h12 _ _ _ P0 zP0 (by simp only [go_sem,seval,jZ u0])) ?_;rintro _ _ ⟨o_x11,j_x11,o2_x11,j2_x11,s_x11,s2_x11,d_x11,d2_x11,rfl,rfl⟩;replace s_x11:q <:+ o_x11:=List.IsSuffix.trans (by simp only [go_sem]) s_x11;replace s2_x11:q <:+ o2_x11:=List.IsSuffix.trans (by simp only [go_sem]) s2_x11;simp only [go_sem,seval];apply hK;refine aN (aN ?_);obtain ⟨⟨f13,f14⟩,h⟩:=bN h;refine dY ?_;refine cK ?_;obtain ⟨y19,b19,h⟩:=aD h;refine rG (λc X Y=>∃v16 v17 v18 o_v16 j_v16,fG x5 c v16 v17 v18=some y19/\X 0=.ptr P0 0/\X 2=.list .none (a2.map (cI .i64))/\X 5=.ptr (0::q) 0/\X 7=.ptr (1::q) 0/\X 9=.ptr (14::q) 0/\X 10=.list (.st (.anon o_x11 j_x11)) (x11.1.map aA.C)/\Y.tok o_x11 j_x11=true/\q <:+ o_x11/\X 11=.list (.st (.anon o_v16 j_v16)) (v16.map (cI .i64))/\Y.tok o_v16 j_v16=true/\q <:+ o_v16/\X 37=.list .none ((x5.aO.drop x5.aQ.toNat).map aJ.C)/\X 38=.li ((x5.aO.drop x5.aQ.toNat).length:Int)/\X 39=.li v17/\(o_x11=o_v16)=False/\(o_v16=o_x11)=False/\Y.blk P0=some ((aK.C v18.p_)++[.ls v18.f_.gS,.lb v18.f_.eC,.li v18.f_.bV,.li v18.f_.aQ,.list .self (v18.f_.aO.map aJ.C),.list .none (v18.f_.bR.map aA.C),.li v18.gG,.li v18.e_])/\Y.blk (0::q)=some ((aA.C a1))/\Y.blk (1::q)=some ((aA.C a3))/\Y.blk (14::q)=some ((aP.C x5))/\Y.ver P0 5=zP0+v18.f_.aO.length/\Y.gl=m.gl/\m.back q Y=(m.setv P0 5 ((aK.C v18.p_)++[.ls v18.f_.gS,.lb v18.f_.eC,.li v18.f_.bV,.li v18.f_.aQ,.list .self (v18.f_.aO.map aJ.C),.list .none (v18.f_.bR.map aA.C),.li v18.gG,.li v18.e_]) (zP0+v18.f_.aO.length))) n ⟨x11.2.1,(0:Int),x11.2.2,o2_x11,j2_x11,b19,?_⟩ ?_
 ·simp only [go_sem,seval,bB,bZ,bG,dR u0,jZ u0,s_x11,s2_x11,d_x11,d2_x11]
 rintro i15 c20 E21 m22 ⟨v16,v17,v18,o_v16,j_v16,b19,e23⟩ _
 rcases c20 with _ | c20
 ·cases b19
 rw [fG] at b19;refine bC ?_;refine aN (cY b19 (λc24 b19=>?_) (λc24 b19=>?_))
 ·refine bL ?_
  refine aN (cK (aN ?_));obtain ⟨x25,h30,b19⟩:=aD b19;obtain ⟨f27,f28,f29⟩:=aY h30;refine dY ?_;obtain ⟨x31,h32,b19⟩:=aD b19;obtain ⟨f33,b19⟩:=bN b19;have f34:v16.length+1<=1073741824:=by first | omega | (simp only [nB,jJ,mO] at f33 ⊢;omega)
  have f35:v16.length<=1073741823:=by first | omega | (simp only [nB,jJ,mO] at f33 ⊢;omega)
  refine DF (o:=o_x11) (j:=j_x11) (by simp only [go_sem,e23]) λf36=>?_;have f37:=f36 10 za;refine kM λK hK=>?_;simp only [go_sem,seval,e23];refine SC.bA (oJ v18 x25 _ h32 _ _ _ P0 zP0) ?_;simp only [go_sem,seval,f34,e23];apply hK;simp only [aR,bJ];refine dY ?_;refine ⟨c20,EO _,(v16++[x31.1]),(i64.wrap (v17+(1:Int))),x31.2,(10::i15::33::q),0,b19,?_⟩;simp only [go_sem,seval,bB,bZ,dR u0,jZ u0,s_x11,f37.1,f37.2,e23]
 ·refine gE ?_
  try simp only [cV,cM,↓reduceIte,aR]
  obtain rfl:=aZ b19;refine aN (bC ?_);refine cY h (λc38 h=>?_) (λc38 h=>?_)
  ·refine bC ?_;refine cB ?_
   try simp only [cE]
   cases h;exact jS
  ·refine bL ?_
   refine aN ?_;obtain ⟨x39,h41,h⟩:=aD h;obtain ⟨x40,h42,h⟩:=aD h;obtain ⟨f43,h⟩:=bN h;have f44:x11.1.length+x40.1.length<=1073741824:=by first | omega | (simp only [nB,jJ,mO] at f43 ⊢;omega)
   refine DF (o:=o_v16) (j:=j_v16) (by simp only [go_sem,e23]) λf45=>?_;have f46:=f45 50 za;refine eV λK hK=>?_;simp only [go_sem,seval,c38,e23];refine SC.bA (BB v18 a1 a2 a3 _ h41 _ _ _ P0 zP0) ?_;simp only [go_sem,seval,e23];refine SC.bA (nC v18 x5.bR v16 x39 _ h42 _ _ _ P0 zP0) ?_;simp only [go_sem,seval,f43,e23];apply hK;refine cB ?_;cases h;refine ⟨zc,?_⟩;simp only [go_sem,seval,bZ,dR u0,s_x11,e23]
theorem sU:∀n,mH (eN n)/\pY (gM n)/\sK (kH n)
 | 0=>⟨λ_ _ _ _ _ h=>eO h,λ_ _ _ _ _ h=>eO h,λ_ _ _ _ _ h=>eO h⟩
 | n+1=>
   have ih:=sU n
   ⟨Ap ih.2.1 n,xR ih.2.2 ih.1 n,AY ih.1 n⟩
theorem BC (n:Nat):mH (eN n):=(sU n).1
def NM (f:aK->Int->Option (aP × Int)):Prop:=∀a0 a1 r,f a0 a1=some r->Ey prog 13 [.agg ((aK.C a0)),.li a1] (.tup [.agg ((aP.C r.1)),.li r.2])
theorem Hq (n:Nat):NM (tR n):=by
 intro a0 a1 r h q m vs hv;refine SC.wv hv (oE func13 call13 ntmps13 results13 ?_);unfold tR at h;refine bC ?_;refine aN (aN ?_);obtain ⟨y3,b3,h⟩:=aD h;refine rE 12 (λX Y=>X 1=.li a1/\X 2=.ptr (0::q) 0/\X 4=.ptr (1::q) 0/\X 15=.lb y3/\Y.blk (0::q)=some ((aK.C a0))/\Y.blk (1::q)=some ([.ls [],.lb false,.li (0:Int),.li (0:Int),.list .self ([].map aJ.C),.list .self ([].map aA.C)])/\Y.gl=m.gl/\m.back q Y=m) ?_ ?_
 ·rcases mL b3 with ⟨c4,b3⟩ | ⟨c4,b3⟩
  ·refine dY ?_;obtain rfl:=aZ b3;exact jD
  ·refine dY ?_;obtain rfl:=aZ b3;exact jD
 ·intro E5 m6 e7 _;refine cY h (λc8 h=>?_) (λc8 h=>?_)
  ·refine bC ?_;refine Gj (id:=(1::q)) (off:=4) (cs:=[.ls [],.lb false,.li (0:Int),.li (0:Int),.nilv,.nilv]) (by simp only [go_sem,seval]) rfl ?_;refine Gj (id:=(1::q)) (off:=5) (cs:=[.ls [],.lb false,.li (0:Int),.li (0:Int),.list .none [],.nilv]) (by simp only [go_sem,seval]) rfl ?_;refine cB ?_
   try simp only [cE]
   cases h;exact jS
  ·refine bL ?_
   refine aN ?_;obtain ⟨x9,h14,h⟩:=aD h;obtain ⟨f11,f12,f13⟩:=aY h14;refine eV λK hK=>?_;simp only [go_sem,seval,f11,f12,f13,e7];apply hK;refine aN (SW_setv (id:=(19::q)) (off:=5) (n:=m6.ver (19::q) 5+x9.aO.length) (cs:=[.list .none (a0.aU.map aP.C),.ls x9.gS,.lb x9.eC,.li x9.bV,.li x9.aQ,.list .none (x9.aO.map aJ.C),.list .none (x9.bR.map aA.C),.li (0:Int),.li (0:Int)]) (v0:=.list .none (x9.aO.map aJ.C)) (by simp only [go_sem,seval]) rfl (λ_=>rfl) (λ_ h=>by cases h) (by simp only [go_sem];exact Nat.le_add_right _ _) ?_);obtain ⟨f15,h⟩:=bN h;have f16:x9.aO.length<=1073741824:=by first | omega | (simp only [nB,jJ,mO] at f15 ⊢;omega)
   refine dY ?_;refine aN ?_;obtain ⟨x17,h18,h⟩:=aD h;refine bX λK hK=>?_;simp only [go_sem,seval];refine SC.by_ (BC n (aL.mk a0 x9 (0:Int) (0:Int)) x9.bR [] (aA.mk ([114,101,116,117,114,110]:cQ) (-1:Int) (0:Int) [] [] [] (-1:Int)) _ h18 _ _ _ (19::q) (m6.ver (19::q) 5+1) (by simp only [go_sem,seval,Nat.add_right_comm])) ?_;simp only [go_sem,seval];apply hK;refine aN (bC ?_);refine cY h (λc19 h=>?_) (λc19 h=>?_)
   ·refine aN (eV λK hK=>?_);simp only [go_sem,seval,c19,e7];apply hK;refine Gj (id:=(1::q)) (off:=4) (cs:=[.ls [],.lb false,.li (0:Int),.li (0:Int),.nilv,.nilv]) (by simp only [go_sem,seval]) rfl ?_;refine Gj (id:=(1::q)) (off:=5) (cs:=[.ls [],.lb false,.li (0:Int),.li (0:Int),.list .none [],.nilv]) (by simp only [go_sem,seval]) rfl ?_;refine cB ?_
    try simp only [cE]
    cases h;refine ⟨zc,?_⟩;simp only [go_sem,seval,bB,JZ,dI,bZ,e7]
   ·refine bL ?_
    refine bC ?_;refine cB ?_;cases h;refine ⟨zc,?_⟩;simp only [go_sem,seval,bB,JZ,dI,bZ,e7]
