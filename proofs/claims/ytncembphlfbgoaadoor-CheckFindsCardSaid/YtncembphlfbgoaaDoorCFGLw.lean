/-
 Walks: each function does what its model says. Written by a program of mine (gen.py) for this claim.
-/
import Derived.Test.YtncembphlfbgoaaDoorCFS3
import Derived.Test.YtncembphlfbgoaaDoorCFH8
import Derived.Test.YtncembphlfbgoaaDoorCFGMm
import Derived.Test.YtncembphlfbgoaaDoorCFCf1
namespace Go.Proofs.YtncembphlfbgoaaDoor.Abs
open Go.RowKit
set_option linter.unusedVariables false
set_option maxRecDepth 10000
def uH (f:Option Bool):Prop:=∀r,f=some r->∀(q:Pa) (m:M) (vs:List V),vs.map V.weak1=[]/\(m.hp=fun _=>none)/\m.gl 0=.eptr [(cA aZ.C cG)] 0 0/\m.gl 1=.eptr [(cA cS eF)] 0 0/\m.gl 2=.eptr [(cA cS bT)] 0 0/\m.gl 4=.eptr [(cA (cA cS) cT)] 0 0->SC Tryd.prog 4 vs q m (fun v m'=>v=.lit (.bool r)/\m'=m)
theorem tG (n:Nat):uH (lP n):=by
 rintro r h q m vs ⟨hv,hgh,hg0,hg1,hg2,hg4⟩;refine SC.weak ?_;rw [hv];refine eN Tryd.func4 rfl (fun xs w=>Tryd.call4 xs w) Tryd.ntmps4 (by kernel_rfl) Tryd.results4 ?_;unfold lP at h;refine aL fun _ z=>?_;simp only [go_sem];apply z;refine aI ?_;obtain ⟨x1,h3,h⟩:=aC h;refine aM fun _ z=>?_;simp only [go_sem,seval];refine SC.by_ (yV n ([101,120,112,111,114,116,32,102,110,32,102,40,112,58,32,112,117,98,44,32,120,58,32,117,51,50,41,32,45,62,32,117,51,50,32,123,32,114,101,116,117,114,110,32,120,32,43,32,112,59,32,125]:cD) _ h3 _ _ _ (by simp only [go_sem,UInt8.reduceToNat,hgh,hg0,hg1,hg2,hg4])) ?_;simp only [go_sem,seval];apply z;refine aI ?_;obtain ⟨y4,hy4,h⟩:=aC h;refine cZ 50 [] [] rfl (fun E' m'=>E' 0=.lit (.bool y4)/\m'.gl=m.gl/\m'.hp=m.hp/\m.back q m'=m) ?_ ?_
 ·rcases cY (x1.2.1 == (0:Int)) with c5 | c5
  ·replace hy4:=bC c5 hy4
   rcases cY ((x1.1.aS.length:Int) == (1:Int)) with c6 | c6
   ·replace hy4:=bC c6 hy4;obtain ⟨x7,h11,hy4⟩:=aC hy4;obtain ⟨f8,f9,f10⟩:=bF h11;have f12:x1.1.aS[0]? = some x7:=f10
    rcases cY ((x7.bR.length:Int) == (2:Int)) with c13 | c13
    ·replace hy4:=bC c13 hy4
     rcases cY ((x7.eR.length:Int) == (1:Int)) with c14 | c14
     ·replace hy4:=bC c14 hy4;obtain ⟨x15,h19,hy4⟩:=aC hy4;obtain ⟨f16,f17,f18⟩:=bF h19;have f20:x7.eR[0]? = some x15:=f18;refine aM fun _ z=>?_;simp only [go_sem,seval,c5,c6,f8,f9,f12,c13,c14,f17,f20];apply z;obtain rfl:=aJ hy4;refine ⟨by decide,?_⟩;simp only [go_sem,↓reduceIte,aQ,aK,hgh]
     ·replace hy4:=bD c14 hy4;refine aM fun _ z=>?_;simp only [go_sem,seval,c5,c6,f8,f9,f12,c13,c14];apply z;obtain rfl:=aJ hy4;refine ⟨by decide,?_⟩;simp only [go_sem,↓reduceIte,aQ,aK,hgh]
    ·replace hy4:=bD c13 hy4;refine aM fun _ z=>?_;simp only [go_sem,seval,c5,c6,f8,f9,f12,c13];apply z;obtain rfl:=aJ hy4;refine ⟨by decide,?_⟩;simp only [go_sem,↓reduceIte,aQ,aK,hgh]
   ·replace hy4:=bD c6 hy4;refine aM fun _ z=>?_;simp only [go_sem,seval,c5,c6];apply z;obtain rfl:=aJ hy4;refine ⟨by decide,?_⟩;simp only [go_sem,↓reduceIte,aQ,aK,hgh]
  ·replace hy4:=bD c5 hy4;refine aM fun _ z=>?_;simp only [go_sem,seval,c5];apply z;obtain rfl:=aJ hy4;refine ⟨by decide,?_⟩;simp only [go_sem,↓reduceIte,aQ,aK,hgh]
 ·intro E21 m22 e23 _;simp only [aE];refine aU ?_;obtain rfl:=aJ h;refine ⟨by simp,?_⟩;simp only [go_sem,e23]
def nL (f:cD->cD->Int->Option Bool):Prop:=∀a0 a1 a2 r,f a0 a1 a2=some r->∀(q:Pa) (m:M) (vs:List V),vs.map V.weak1=[.list .none (lN a0),.lit (.string (bs a1)),.lit (.int .i64 a2)]/\(m.hp=fun _=>none)/\m.gl 0=.eptr [(cA aZ.C cG)] 0 0/\m.gl 1=.eptr [(cA cS eF)] 0 0/\m.gl 2=.eptr [(cA cS bT)] 0 0/\m.gl 4=.eptr [(cA (cA cS) cT)] 0 0->SC Tryd.prog 3 vs q m (fun v m'=>v=.lit (.bool r)/\m'=m)
theorem rJ (n:Nat):nL (gV n):=by
 rintro a0 a1 a2 r h q m vs ⟨hv,hgh,hg0,hg1,hg2,hg4⟩;refine SC.weak ?_;rw [hv];have hrs:=congrArg Array.toList Tryd.results3;refine SC_x Tryd.func3 rfl (fun xs w=>Tryd.call3 xs w) Tryd.ntmps3 ?_;unfold gV at h;refine tF hrs (by kernel_rfl) ?_;refine aM fun _ z=>?_;simp only [go_sem,Nat.reduceAdd];apply z;refine tF hrs (by kernel_rfl) ?_;refine aI ?_;obtain ⟨x3,h4,h⟩:=aC h;refine aM fun _ z=>?_;simp only [go_sem];refine SC.by_ (tG n _ h4 _ _ _ (by simp only [go_sem,hgh,hg0,hg1,hg2,hg4])) ?_;simp only [go_sem,seval];apply z;refine dA (!x3) (fun c5=>?_) (fun c5=>?_)
 ·replace h:=bC c5 h;refine aL fun _ z=>?_;simp only [go_sem,seval,c5];apply z;refine aU ?_
  try simp only [bE]
  obtain rfl:=aJ h;refine ⟨by first | exact rfl | exact trivial,by first | exact .inl rfl | exact .inl trivial | exact trivial,?_⟩;simp only [go_sem,seval,aQ,aK]
 ·replace h:=bD c5 h;refine bB ?_
  try simp only [aE]
  refine tF hrs (by kernel_rfl) ?_;refine aL fun _ z=>?_;simp only [go_sem,seval,c5];apply z;refine eK (decide ((3000:Int)<(a0.length:Int))) (by simp only [go_sem,↓reduceIte]) (fun c6=>?_) (fun c6=>?_)
  ·replace h:=bC c6 h;refine aL fun _ z=>?_;simp only [go_sem,seval,c6];apply z;refine aU ?_
   try simp only [bE]
   obtain rfl:=aJ h;refine ⟨by first | exact rfl | exact trivial,by first | exact .inl rfl | exact .inl trivial | exact trivial,?_⟩;simp only [go_sem,seval,aQ,aK]
  ·replace h:=bD c6 h;refine bB ?_
   try simp only [aE]
   refine tF hrs (by kernel_rfl) ?_;obtain ⟨x7,h9,h⟩:=aC h;refine aM fun _ z=>?_;simp only [go_sem,seval,c6];refine SC.by_ (yV n a0 _ h9 _ _ _ (by simp only [go_sem,hgh,hg0,hg1,hg2,hg4])) ?_;simp only [go_sem,seval];apply z;refine tF hrs (by kernel_rfl) ?_;refine aL fun _ z=>?_;simp only [go_sem,seval];apply z;refine dA (x7.2.1 != (0:Int)) (fun c10=>?_) (fun c10=>?_)
   ·replace h:=bC c10 h;refine aL fun _ z=>?_;simp only [go_sem,seval,c10];apply z;refine aU ?_
    try simp only [bE]
    obtain rfl:=aJ h;refine ⟨by first | exact rfl | exact trivial,by first | exact .inl rfl | exact .inl trivial | exact trivial,?_⟩;simp only [go_sem,seval,aQ,aK]
   ·replace h:=bD c10 h;refine bB ?_
    try simp only [aE]
    refine tF hrs (by kernel_rfl) ?_;obtain ⟨x11,h12,h⟩:=aC h;refine aM fun _ z=>?_;simp only [go_sem,seval,c10];refine SC.by_ (xY n x7.1 a1 _ h12 _ _ _ (by simp only [go_sem])) ?_;simp only [go_sem,seval];apply z;refine tF hrs (by kernel_rfl) ?_;refine aM fun _ z=>?_;simp only [go_sem,Nat.reduceAdd];apply z;refine tF hrs (by kernel_rfl) ?_;refine aL fun _ z=>?_;simp only [go_sem,seval];apply z;refine bK ?_;obtain ⟨y16,hy16,h⟩:=aC h;refine dE [] [] rfl (fun c E' m'=>∃v14 v15,eC x7 a1 c v14 v15=some y16/\E' 1=.lit (.string (bs a1))/\E' 5=.ptr (0::q) 0/\E' 6=.ptr (1::q) 0/\E' 7=.ptr (13::q) 0/\E' 10=.lit (.int .i64 x11.1)/\E' 11=.lit (.bool x11.2)/\E' 12=.lit (.int .i64 v14)/\E' 41=.list .none (x7.1.aS.map aO.C)/\E' 42=.lit (.int .i64 (x7.1.aS.length:Int))/\E' 43=.lit (.int .i64 v15)/\m'.blk (0::q)=some ([.lit (.int .i64 a2)])/\m'.blk (1::q)=some ([.lit (.bool false)])/\m'.blk (13::q)=some ((bV.C x7.1))/\m'.gl=m.gl/\m'.hp=m.hp/\m.back q m'=m) n ⟨(-1:Int),(0:Int),hy16,?_⟩ ?_
    ·simp only [go_sem,seval,aQ,aK,hgh]
    rintro i13 c17 E18 m19 ⟨v14,v15,hy16,e20⟩ _
    rcases c17 with _ | c17
    ·exact absurd hy16 (by rw [eC];exact fun e=>nomatch e)
    rw [eC] at hy16;refine aL fun _ z=>?_;simp only [go_sem,e20];apply z;refine aI ?_;refine eK (decide (v15<(x7.1.aS.length:Int))) (by simp only [go_sem,↓reduceIte]) (fun c21=>?_) (fun c21=>?_)
    ·replace hy16:=bC c21 hy16;refine bB ?_
     try simp only [aE]
     refine aI ?_;obtain ⟨y22,hy22,hy16⟩:=aC hy16;refine cZ 17 [] [] rfl (fun E' m'=>E' 1=.lit (.string (bs a1))/\E' 5=.ptr (0::q) 0/\E' 6=.ptr (1::q) 0/\E' 7=.ptr (13::q) 0/\E' 10=.lit (.int .i64 x11.1)/\E' 11=.lit (.bool x11.2)/\E' 12=.lit (.int .i64 y22)/\E' 41=.list .none (x7.1.aS.map aO.C)/\E' 42=.lit (.int .i64 (x7.1.aS.length:Int))/\E' 43=.lit (.int .i64 v15)/\m'.blk (0::q)=some ([.lit (.int .i64 a2)])/\m'.blk (1::q)=some ([.lit (.bool false)])/\m'.blk (13::q)=some ((bV.C x7.1))/\m'.gl=m.gl/\m'.hp=m.hp/\m.back q m'=m) ?_ ?_
     ·refine bK ?_;refine aI ?_;obtain ⟨x23,h28,hy22⟩:=aC hy22;obtain ⟨f25,f26,f27⟩:=bF h28;refine aM fun _ z=>?_;simp only [go_sem,seval,f25,f26,f27,e20];apply z;refine aI ?_;obtain ⟨y29,hy29,hy22⟩:=aC hy22;refine cZ 15 [] [] rfl (fun E' m'=>E' 1=.lit (.string (bs a1))/\E' 5=.ptr (0::q) 0/\E' 6=.ptr (1::q) 0/\E' 7=.ptr (13::q) 0/\E' 10=.lit (.int .i64 x11.1)/\E' 11=.lit (.bool x11.2)/\E' 12=.lit (.int .i64 v14)/\E' 13=.lit (.int .i64 v15)/\E' 41=.list .none (x7.1.aS.map aO.C)/\E' 42=.lit (.int .i64 (x7.1.aS.length:Int))/\E' 43=.lit (.int .i64 v15)/\E' 55=.lit (.bool y29)/\m'.blk (0::q)=some ([.lit (.int .i64 a2)])/\m'.blk (1::q)=some ([.lit (.bool false)])/\m'.blk (13::q)=some ((bV.C x7.1))/\m'.gl=m.gl/\m'.hp=m.hp/\m.back q m'=m) ?_ ?_
      ·rcases cY (decide (x23.gI=a1)) with c30 | c30
       ·replace hy29:=bC c30 hy29;refine aM fun _ z=>?_;simp only [go_sem,seval,c30,e20];apply z;obtain rfl:=aJ hy29;refine ⟨by decide,?_⟩;simp only [go_sem,seval,aQ,e20,hgh]
       ·replace hy29:=bD c30 hy29;refine aM fun _ z=>?_;simp only [go_sem,seval,c30,e20];apply z;obtain rfl:=aJ hy29;refine ⟨by decide,?_⟩;simp only [go_sem,seval,aQ,e20,hgh]
      ·intro E31 m32 e33 _;simp only [aE];refine eK y29 (by simp only [go_sem,e33]) (fun c34=>?_) (fun c34=>?_)
       ·replace hy22:=bC c34 hy22;refine gF fun _ z=>?_;simp only [go_sem,seval,e33];apply z;simp only [aE,aT];obtain rfl:=aJ hy22;refine ⟨by decide,?_⟩;simp only [go_sem,seval,e33,hgh]
       ·replace hy22:=bD c34 hy22;refine bB ?_
        try simp only [aE,aT]
        obtain rfl:=aJ hy22;refine ⟨by decide,?_⟩;simp only [go_sem,e33,hgh]
     ·intro E35 m36 e37 _;simp only [aE];refine aM fun _ z=>?_;simp only [go_sem,seval,e37];apply z;refine ⟨c17,Nat.lt_succ_self _,y22,(IntKind.i64.wrap (v15+(1:Int))),hy16,?_⟩;simp only [go_sem,seval,e37,hgh]
    ·replace hy16:=bD c21 hy16;refine eG ?_
     try simp only [bZ,bQ,↓reduceIte,aE]
     obtain rfl:=aJ hy16;refine tF hrs (by kernel_rfl) ?_;refine aI ?_;obtain ⟨y38,hy38,h⟩:=aC h;refine cZ 43 [] [] rfl (fun E' m'=>E' 5=.ptr (0::q) 0/\E' 6=.ptr (1::q) 0/\E' 7=.ptr (13::q) 0/\E' 67=.lit (.bool y38)/\m'.blk (0::q)=some ([.lit (.int .i64 a2)])/\m'.blk (1::q)=some ([.lit (.bool false)])/\m'.blk (13::q)=some ((bV.C x7.1))/\m'.gl=m.gl/\m'.hp=m.hp/\m.back q m'=m) ?_ ?_
     ·rcases cY (x11.2 != (decide ((0:Int)<=v14))) with c39 | c39
      ·replace hy38:=bC c39 hy38;refine aM fun _ z=>?_;simp only [go_sem,seval,c21,c39,e20];apply z;obtain rfl:=aJ hy38;refine ⟨by decide,?_⟩;simp only [go_sem,seval,e20,hgh]
      ·replace hy38:=bD c39 hy38;refine aM fun _ z=>?_;simp only [go_sem,seval,c21,c39,e20];apply z;obtain rfl:=aJ hy38;refine ⟨by decide,?_⟩;simp only [go_sem,seval,e20,hgh]
     ·intro E40 m41 e42 _;simp only [aE];refine eK y38 (by simp only [go_sem,e42]) (fun c43=>?_) (fun c43=>?_)
      ·replace h:=bC c43 h;refine aL fun _ z=>?_;simp only [go_sem,Nat.reduceAdd,e42];apply z;refine aU ?_
       try simp only [bE]
       obtain rfl:=aJ h;refine ⟨by first | exact rfl | exact trivial,by first | exact .inl rfl | exact .inl trivial | exact trivial,?_⟩;simp only [go_sem,↓reduceIte,aQ,e42]
      ·replace h:=bD c43 h;refine bB ?_
       try simp only [aE]
       refine tF hrs (by kernel_rfl) ?_;refine aM fun _ z=>?_;simp only [go_sem,seval];apply z;refine tF hrs (by kernel_rfl) ?_;refine aL fun _ z=>?_;simp only [go_sem,seval,e42];apply z;refine bK ?_;obtain ⟨y49,hy49,h⟩:=aC h;refine dE [] [] rfl (fun c E' m'=>∃v47 v48,eB x7 c v47 v48=some y49/\E' 5=.ptr (0::q) 0/\E' 6=.ptr (1::q) 0/\E' 7=.ptr (13::q) 0/\E' 15=.ptr (43::q) 0/\E' 16=.ptr (44::q) 0/\E' 17=.lit (.int .i64 v47)/\E' 69=.list .none (x7.1.aS.map aO.C)/\E' 70=.lit (.int .i64 (x7.1.aS.length:Int))/\E' 71=.lit (.int .i64 v48)/\m'.blk (0::q)=some ([.lit (.int .i64 a2)])/\m'.blk (1::q)=some ([.lit (.bool false)])/\m'.blk (43::q)=some ([.lit (.int .i64 (0:Int))])/\m'.blk (44::q)=some ([.lit (.int .i64 (-1:Int))])/\m'.blk (13::q)=some ((bV.C x7.1))/\m'.gl=m.gl/\m'.hp=m.hp/\m.back q m'=m) n ⟨(0:Int),(0:Int),hy49,?_⟩ ?_
       ·simp only [go_sem,seval,aQ,e42,hgh]
       rintro i46 c50 E51 m52 ⟨v47,v48,hy49,e53⟩ _
       rcases c50 with _ | c50
       ·exact absurd hy49 (by rw [eB];exact fun e=>nomatch e)
       rw [eB] at hy49;refine aL fun _ z=>?_;simp only [go_sem,e53];apply z;refine aI ?_;refine eK (decide (v48<(x7.1.aS.length:Int))) (by simp only [go_sem,↓reduceIte]) (fun c54=>?_) (fun c54=>?_)
       ·replace hy49:=bC c54 hy49;refine bB ?_
        try simp only [aE]
        refine aI ?_;obtain ⟨y55,hy55,hy49⟩:=aC hy49;refine cZ 10 [] [] rfl (fun E' m'=>E' 5=.ptr (0::q) 0/\E' 6=.ptr (1::q) 0/\E' 7=.ptr (13::q) 0/\E' 15=.ptr (43::q) 0/\E' 16=.ptr (44::q) 0/\E' 17=.lit (.int .i64 y55)/\E' 69=.list .none (x7.1.aS.map aO.C)/\E' 70=.lit (.int .i64 (x7.1.aS.length:Int))/\E' 71=.lit (.int .i64 v48)/\m'.blk (0::q)=some ([.lit (.int .i64 a2)])/\m'.blk (1::q)=some ([.lit (.bool false)])/\m'.blk (43::q)=some ([.lit (.int .i64 (0:Int))])/\m'.blk (44::q)=some ([.lit (.int .i64 (-1:Int))])/\m'.blk (13::q)=some ((bV.C x7.1))/\m'.gl=m.gl/\m'.hp=m.hp/\m.back q m'=m) ?_ ?_
        ·refine bK ?_;refine aI ?_;obtain ⟨x56,h61,hy55⟩:=aC hy55;obtain ⟨f58,f59,f60⟩:=bF h61;refine aM fun _ z=>?_;simp only [go_sem,seval,f58,f59,f60,e53];apply z;refine aL fun _ z=>?_;simp only [go_sem,seval];apply z;refine dA x56.eJ (fun c62=>?_) (fun c62=>?_)
         ·replace hy55:=bC c62 hy55;refine gF fun _ z=>?_;simp only [go_sem,seval,c62,e53];apply z;simp only [aE,aT];obtain rfl:=aJ hy55;refine ⟨by decide,?_⟩;simp only [go_sem,seval,aQ,e53,hgh]
         ·replace hy55:=bD c62 hy55;refine bB ?_
          try simp only [aE,aT]
          obtain rfl:=aJ hy55;refine ⟨by decide,?_⟩;simp only [go_sem,seval,aQ,c62,e53,hgh]
        ·intro E63 m64 e65 _;simp only [aE];refine aM fun _ z=>?_;simp only [go_sem,seval,e65];apply z;refine ⟨c50,Nat.lt_succ_self _,y55,(IntKind.i64.wrap (v48+(1:Int))),hy49,?_⟩;simp only [go_sem,seval,e65,hgh]
       ·replace hy49:=bD c54 hy49;refine eG ?_
        try simp only [bZ,bQ,↓reduceIte,aE]
        obtain rfl:=aJ hy49;cases hok:EI n x7.1.aS v47 with
        | false=>rw [hok] at h;exact nomatch h
        | true=>
        rw [hok] at h;obtain rfl:true=r:=aJ h;clear h;obtain ⟨hlen,hall,hfs⟩:=FF hok;obtain ⟨d5,d6,d7,d15,d16,d17,_,_,_,b0,b1,b43,b44,b13,hgl,hhp,hbk⟩:=e53;refine JI hrs (by kernel_rfl) (by kernel_rfl) (by decide) (by kernel_rfl) (by kernel_rfl) ?_;refine aM fun _ z=>?_;simp only [go_sem,seval,List.map_cons,List.map_nil,List.nil_append,List.append_nil,true_and,List.drop_zero,List.take_succ_cons,List.take_zero,List.length_cons,List.length_nil,d7,b13];refine SC.by_ (FE x7.1 _ _ _ (by simp only [go_sem,List.map_cons,List.map_nil])) ?_;simp only [go_sem,Nat.reduceAdd];apply z;have k5:(zX (zX (zX E51 72 (V.lit (Value.bool (decide (v48<(x7.1.aS.length:Int)))))) 80 (V.agg [V.list vB.none (List.map aO.C x7.1.aS)])) 81 (V.fn (Fn.func 17) [] [V.ptr (0::54::q) 0])) 5=.ptr (0::q) 0:=by simp only [go_sem,seval,d5]
        have k6:(zX (zX (zX E51 72 (V.lit (Value.bool (decide (v48<(x7.1.aS.length:Int)))))) 80 (V.agg [V.list vB.none (List.map aO.C x7.1.aS)])) 81 (V.fn (Fn.func 17) [] [V.ptr (0::54::q) 0])) 6=.ptr (1::q) 0:=by simp only [go_sem,seval,d6]
        have k7:(zX (zX (zX E51 72 (V.lit (Value.bool (decide (v48<(x7.1.aS.length:Int)))))) 80 (V.agg [V.list vB.none (List.map aO.C x7.1.aS)])) 81 (V.fn (Fn.func 17) [] [V.ptr (0::54::q) 0])) 7=.ptr (13::q) 0:=by simp only [go_sem,seval,d7]
        have k15:(zX (zX (zX E51 72 (V.lit (Value.bool (decide (v48<(x7.1.aS.length:Int)))))) 80 (V.agg [V.list vB.none (List.map aO.C x7.1.aS)])) 81 (V.fn (Fn.func 17) [] [V.ptr (0::54::q) 0])) 15=.ptr (43::q) 0:=by simp only [go_sem,seval,d15]
        have k16:(zX (zX (zX E51 72 (V.lit (Value.bool (decide (v48<(x7.1.aS.length:Int)))))) 80 (V.agg [V.list vB.none (List.map aO.C x7.1.aS)])) 81 (V.fn (Fn.func 17) [] [V.ptr (0::54::q) 0])) 16=.ptr (44::q) 0:=by simp only [go_sem,seval,d16]
        have k17:(zX (zX (zX E51 72 (V.lit (Value.bool (decide (v48<(x7.1.aS.length:Int)))))) 80 (V.agg [V.list vB.none (List.map aO.C x7.1.aS)])) 81 (V.fn (Fn.func 17) [] [V.ptr (0::54::q) 0])) 17=.lit (.int .i64 v47):=by simp only [go_sem,seval,d17]
        have k81:(zX (zX (zX E51 72 (V.lit (Value.bool (decide (v48<(x7.1.aS.length:Int)))))) 80 (V.agg [V.list vB.none (List.map aO.C x7.1.aS)])) 81 (V.fn (Fn.func 17) [] [V.ptr (0::54::q) 0])) 81=.fn (.func 17) [] [.ptr (0::54::q) 0]:=by simp only [go_sem,↓reduceIte]
        generalize (zX (zX (zX E51 72 (V.lit (Value.bool (decide (v48<(x7.1.aS.length:Int)))))) 80 (V.agg [V.list vB.none (List.map aO.C x7.1.aS)])) 81 (V.fn (Fn.func 17) [] [V.ptr (0::54::q) 0]))=E9 at k5 k6 k7 k15 k16 k17 k81 ⊢
        clear d5 d6 d7 d15 d16 d17;have hpq:¬ (0::55::q) <:+ (0::54::q):=fun h=>by have:=h.eq_of_length (by simp);simp at this
        refine ⟨17,[.ptr (0::54::q) 0],_,_,_,
         fun pre m'=>m'.blk (0::54::q)=some [.list .none (x7.1.aS.map aO.C)]/\m'.blk (0::q)=some [.lit (.int .i64 a2)]/\m'.blk (1::q)=some [.lit (.bool false)]/\m'.blk (43::q)=some [.lit (.int .i64 (pre.length:Int))]/\m'.blk (44::q)=some [.lit (.int .i64 (pre.getLastD (-1)))]/\m'.blk (13::q)=some (bV.C x7.1)/\m'.gl=m.gl/\m'.hp=m.hp/\m.back q m'=m,
         fun jump m'=>jump=.exit 4/\m'.blk (0::q)=some [.lit (.int .i64 a2)]/\m'.blk (1::q)=some [.lit (.bool false)]/\m'.blk (43::q)=some [.lit (.int .i64 a2)]/\m'.gl=m.gl/\m'.hp=m.hp/\m.back q m'=m,
         fun x=>zX (eL (some 82) (.lit (.int .i64 x)) E9) 20 (.lit (.int .i64 x)),by simp only [go_sem,k81],(fun xs w=>Tryd.call17 xs w),EH x7.1.aS hpq hlen,fun pre m1 h=>h.1,?_,?_,?_,?_,?_,?_,?_⟩
        ·have hq54:(q=54::q)=False:=eq_false fun h=>by have:=congrArg List.length h;simp at this
         simp only [go_sem,seval,and_true,List.length_nil,b0,b1,b43,b44,b13,hgl,hhp,hbk,aQ,hq54,List.getLastD_nil,List.cons.injEq,and_false,Nat.succ_ne_self]
         try trivial
        ·rintro pre m1 m2 ⟨h1,h2,h3,h4,h5,h6,h7,h8,h9⟩ hm;exact ⟨(qK hm hpq).trans h1,(qK hm nsx).trans h2,(qK hm nsx).trans h3,(qK hm nsx).trans h4,(qK hm nsx).trans h5,(qK hm nsx).trans h6,(congrArg M.gl hm).trans h7,(congrArg M.hp hm).trans h8,Cf ((List.suffix_cons _ _).trans (List.suffix_cons _ _)) hm h9⟩
        ·rintro jump m1 m2 ⟨h0,h2,h3,h4,h7,h8,h9⟩ hm;exact ⟨h0,(qK hm nsx).trans h2,(qK hm nsx).trans h3,(qK hm nsx).trans h4,(congrArg M.gl hm).trans h7,(congrArg M.hp hm).trans h8,Cf ((List.suffix_cons _ _).trans (List.suffix_cons _ _)) hm h9⟩
        ·intro l x m' ρ;refine AD fun _ z=>?_;simp only [go_sem,↓reduceIte];apply z;exact ⟨rfl,rfl,rfl⟩
        ·rintro l pre x m' kk ⟨t,ht⟩ ⟨h1,h2,h3,h4,h5,h6,h7,h8,h9⟩;obtain ⟨j,f,rfl,hj,hxf,hlt⟩:=expo_at _ _ _ _ _ ht;simp only [Nat.zero_add] at hlt ⊢;obtain ⟨w,hw,hw4⟩:=hfs f (List.mem_of_getElem? hj) hxf;obtain ⟨hjl,_⟩:=List.getElem?_eq_some_iff.1 hj;have g1:(0:Int)<=(j:Int):=Int.natCast_nonneg _;have g2:(j:Int)<(x7.1.aS.length:Int):=by omega
         have c1:decide ((j:Int)<=pre.getLastD (-1))=false:=decide_eq_false (by have:((0:Nat):Int) - 1=-1:=rfl;rw [this] at hlt;omega);have c2:decide ((x7.1.aS.length:Int)<=(j:Int))=false:=decide_eq_false (by omega);have c3:decide ((4:Int)<w)=false:=decide_eq_false (by omega);refine HU ?_;refine AC ?_;refine AC ?_;refine AD fun _ z=>?_;simp only [go_sem,seval,List.map_cons,List.map_nil,Option.map_some,List.nil_append,List.append_nil,true_and,List.drop_succ_cons,List.drop_zero,List.take_succ_cons,List.take_zero,List.length_cons,List.length_nil,List.length_map,List.getElem?_map,implies_true,Bool.not_true,k7,k16,h5,h6,c1,c2,g1,g2,hj,hxf];refine SC.by_ (zS n f w hw _ _ _ (by simp only [go_sem,List.map_cons,List.map_nil,hxf])) ?_;simp only [go_sem,seval,c3];apply z;simp only [aE,reduceCtorEq]
         have hn:IntKind.i64.wrap ((pre.length:Int)+1)=((pre.length+1:Nat):Int):=by
          have:pre.length<=1000000:=by
           have hl:=congrArg List.length ht;have:=expo_le x7.1.aS 0;simp at hl
           omega
          exact (fQ (by omega) (by omega)).trans (by omega)
         refine Ch false (by simp only [go_sem,↓reduceIte]) ?_;simp only [↓reduceIte,Bool.false_eq_true];refine ER ?_;simp only [aE];refine AC ?_;refine AD fun _ z=>?_;simp only [go_sem,seval,true_and,List.set_cons_zero,List.length_cons,List.length_nil,k16,h5];apply z;simp only [aE];refine AC ?_;refine AD fun _ z=>?_;simp only [go_sem,seval,true_and,and_true,List.drop_zero,List.set_cons_zero,List.length_cons,List.length_nil,k15,h4,hn,List.cons.injEq];apply z;simp only [aE];refine AC ?_;refine AD fun _ z=>?_;simp only [go_sem,seval,and_true,List.drop_zero,k15,k5,h2,List.cons.injEq];apply z;simp only [aE];have hq54:(q=54::q)=False:=eq_false fun h=>by have:=congrArg List.length h;simp at this
         have hq54':(54::q=q)=False:=eq_false fun h=>by have:=congrArg List.length h;simp at this
         cases hst:(((pre.length+1:Nat):Int) == a2) with
         | true=>
           refine Ch true (by simp only [go_sem,↓reduceIte]) ?_;simp only [↓reduceIte];refine JM ?_;rw [bQ,if_neg (by decide)];have ha2:((pre.length+1:Nat):Int)=a2:=eq_of_beq hst;refine ⟨rfl,?_⟩;simp only [go_sem,seval,and_true,h2,h3,h7,h8,h9,ha2,aQ,List.cons.injEq]
         | false=>
           refine Ch false (by simp only [go_sem,↓reduceIte]) ?_;simp only [↓reduceIte,Bool.false_eq_true];refine ER ?_;rw [aT];have e1:(pre++[(j:Int)]).length=pre.length+1:=by simp
           have e2:(pre++[(j:Int)]).getLastD (-1)=(j:Int):=by simp
           simp only [go_sem,seval,and_true,h1,h2,h3,h6,h7,h8,h9,e1,e2,aQ,hq54',List.cons.injEq,and_false,Nat.succ_ne_self]
        ·rintro xs m' rfl ⟨h1,h2,h3,h4,h5,h6,h7,h8,h9⟩;have hva:(((rR x7.1.aS 0).length:Int) == v47)=true:=by rw [hall];exact beq_self_eq_true _
         refine aL fun _ z=>?_;simp only [go_sem,seval,true_and,List.drop_zero,List.set_cons_zero,List.length_cons,List.length_nil,k6,k15,k17,h3,h4,hva];apply z;refine aU ?_;refine ⟨.inl rfl,?_⟩;simp only [go_sem,seval,and_true,List.drop_zero,k6,h9,aQ]
        ·rintro jump m' ⟨rfl,h2,h3,h4,h7,h8,h9⟩;refine .inl ⟨rfl,?_⟩;refine aI ?_;refine gF fun _ z=>?_;cases hva:(a2 == v47) with
         | true=>
           simp only [go_sem,seval,true_and,List.drop_zero,List.set_cons_zero,List.length_cons,List.length_nil,k6,k15,k17,h3,h4,hva];apply z;simp only [aE];refine aU ?_;refine ⟨.inl rfl,?_⟩;simp only [go_sem,seval,and_true,List.drop_zero,k6,h9,aQ]
         | false=>
           have haa:(a2 == a2)=true:=beq_self_eq_true _;simp only [go_sem,seval,true_and,List.drop_zero,List.set_cons_zero,List.length_cons,List.length_nil,beq_self_eq_true,k5,k6,k15,k17,h2,h3,h4,hva];apply z;simp only [aE];refine aU ?_;refine ⟨.inl rfl,?_⟩;simp only [go_sem,seval,and_true,List.drop_zero,k6,h9,aQ]
end Go.Proofs.YtncembphlfbgoaaDoor.Abs
