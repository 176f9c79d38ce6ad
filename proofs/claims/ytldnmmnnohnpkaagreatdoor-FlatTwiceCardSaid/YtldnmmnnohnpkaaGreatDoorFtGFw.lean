/-
 Walks: each function does what its model says. Written by a program of mine (gen.py) for this claim.
-/
import Derived.Test.YtldnmmnnohnpkaaGreatDoorFtH8
import Derived.Test.YtldnmmnnohnpkaaGreatDoorFtVs
import Derived.Test.YtldnmmnnohnpkaaGreatDoorFtGFm
namespace Go.Proofs.YtldnmmnnohnpkaaGreatDoor.Abs
open Go.RowKit
set_option linter.unusedVariables false
set_option maxRecDepth 10000
@[go_sem high] theorem eqT_38_neq {x y:Operand} {C:V->Prop} {a0 b0:Str} {a1 b1:Str} {a2 b2:Int} {a3 b3:Int} {a4 b4:Int} {a5 b5:Int} {a6 b6:Int} {a7 b7:Int}:sbin Tryz.prog .neq 38 x y (.agg [.lit (.string (bs a0)),.lit (.string (bs a1)),.lit (.int .i64 a2),.lit (.int .i64 a3),.lit (.int .i64 a4),.lit (.int .i64 a5),.lit (.int .i64 a6),.lit (.int .i64 a7)]) (.agg [.lit (.string (bs b0)),.lit (.string (bs b1)),.lit (.int .i64 b2),.lit (.int .i64 b3),.lit (.int .i64 b4),.lit (.int .i64 b5),.lit (.int .i64 b6),.lit (.int .i64 b7)]) C=C (.lit (.bool (!((decide (a0=b0)) && ((decide (a1=b1)) && ((a2 == b2) && ((a3 == b3) && ((a4 == b4) && ((a5 == b5) && ((a6 == b6) && (a7 == b7))))))))))):=by
 have h:=zpD (P:=Tryz.prog) (T:=38) (x:=x) (y:=y) (C:=C) (xs:=[.string (bs a0),.string (bs a1),.int .i64 a2,.int .i64 a3,.int .i64 a4,.int .i64 a5,.int .i64 a6,.int .i64 a7]) (ys:=[.string (bs b0),.string (bs b1),.int .i64 b2,.int .i64 b3,.int .i64 b4,.int .i64 b5,.int .i64 b6,.int .i64 b7]) (es:=[bs a0 == bs b0,bs a1 == bs b1,a2 == b2,a3 == b3,a4 == b4,a5 == b5,a6 == b6,a7 == b7]) (by kernel_rfl) (by kernel_rfl) (by kernel_rfl) (by kernel_rfl) (by kernel_rfl);simp only [List.map_cons,List.map_nil,List.all_cons,List.all_nil,Bool.and_true,id,bs_beq] at h;exact h
def zig (f:zaj->Option zaj):Prop:=∀a0 r,f a0=some r->∀(q:Pa) (m:M) (vs:List V) (P0:Pa) (zP0:Nat),vs.map V.weak1=[.ptr P0 0]/\m.blk P0=some ((zaz.C a0.p_)++[.lit (.string (bs a0.f_.zco)),.lit (.bool a0.f_.zbr),.lit (.int .i64 a0.f_.zaX),.lit (.int .i64 a0.f_.zaE),.list .self (a0.f_.zaJ.map zar.C),.list .none (a0.f_.zba.map zac.C),.lit (.int .i64 a0.zcm),.lit (.int .i64 a0.e_)])/\m.ver P0 5=zP0+a0.f_.zaJ.length->SC Tryz.prog 121 vs q m (fun v m'=>v=.tup []/\m'=(m.setv P0 5 ((zaz.C r.p_)++[.lit (.string (bs r.f_.zco)),.lit (.bool r.f_.zbr),.lit (.int .i64 r.f_.zaX),.lit (.int .i64 r.f_.zaE),.list .self (r.f_.zaJ.map zar.C),.list .none (r.f_.zba.map zac.C),.lit (.int .i64 r.zcm),.lit (.int .i64 r.e_)]) (zP0+r.f_.zaJ.length)))
theorem zdV:zig (zbT):=by
 rintro a0 r h q m vs P0 zP0 ⟨hv,hmP0,hvrP0⟩;refine SC.weak ?_;rw [hv];refine SC.apart hmP0 fun hpP0=>?_;have hmsP0:=za7 hmP0
 try simp only [go_sem] at hmP0 hmsP0
 refine SC_w Tryz.func121 rfl (fun xs w=>Tryz.call121 xs w) Tryz.ntmps121 (by kernel_rfl) Tryz.results121 ?_;unfold zbT at h;refine zaq fun K hK=>?_;simp only [go_sem,seval,hmP0];apply hK;refine zaq fun K hK=>?_;simp only [go_sem,seval];apply hK;refine zcn (decide ((16384:Int)<(IntKind.i64.wrap (a0.zcm+(1:Int))))) (by simp only [go_sem,↓reduceIte]) (fun c1=>?_) (fun c1=>?_)
 ·replace h:=zaM c1 h;refine zc0 fun K hK=>?_;simp only [go_sem,seval,c1];apply hK;simp only [];obtain rfl:=zai h;refine ⟨by simp,?_⟩;simp only [go_sem,zak,zay hpP0,zkS hvrP0]
 ·replace h:=zaN c1 h;refine zaA ?_;obtain rfl:=zai h;refine ⟨by simp,?_⟩;simp only [go_sem,zak,zay hpP0,zkS hvrP0,c1]
def zp9 (f:Int->(List Int)->Option Int):Prop:=∀a0 a1 r,f a0 a1=some r->∀(q:Pa) (m:M) (vs:List V),vs.map V.weak1=[.lit (.int .i64 a0),.list .none (a1.map (cI .i64))]->SC Tryz.prog 124 vs q m (fun v m'=>v=.lit (.int .i64 r)/\m'=m)
theorem zjY:zp9 (zjG):=by
 intro a0 a1 r h q m vs hv;refine SC.weak ?_;rw [hv];refine SC_w Tryz.func124 rfl (fun xs w=>Tryz.call124 xs w) Tryz.ntmps124 (by kernel_rfl) Tryz.results124 ?_;unfold zjG at h;refine zaq fun K hK=>?_;simp only [go_sem];apply hK;refine zah ?_;refine zah ?_;obtain ⟨y1,hy1,h⟩:=bind_some h;refine zbm 9 [] [] rfl (fun E' m'=>E' 0=.lit (.int .i64 a0)/\E' 1=.list .none (a1.map (cI .i64))/\E' 12=.lit (.bool y1)/\m'.gl=m.gl/\m.back q m'=m) ?_ ?_
 ·rcases zbk (decide (a0<(0:Int))) with c2 | c2
  ·replace hy1:=zaM c2 hy1;refine zat fun K hK=>?_;simp only [go_sem,seval,c2];apply hK;obtain rfl:=zai hy1;refine ⟨by decide,?_⟩;simp only [go_sem,seval,zak]
  ·replace hy1:=zaN c2 hy1;refine zat fun K hK=>?_;simp only [go_sem,seval,c2];apply hK;obtain rfl:=zai hy1;refine ⟨by decide,?_⟩;simp only [go_sem,seval,zak]
 ·intro E3 m4 e5 _;simp only [zad];refine zcn y1 (by simp only [go_sem,e5]) (fun c6=>?_) (fun c6=>?_)
  ·replace h:=zaM c6 h;refine zaq fun K hK=>?_;simp only [go_sem,seval,e5];apply hK;refine zaw ?_
   try simp only [zaC]
   obtain rfl:=zai h;refine ⟨by simp,?_⟩;simp only [go_sem,↓reduceIte,e5]
  ·replace h:=zaN c6 h;refine zaA ?_
   try simp only [zad]
   refine zah ?_;obtain ⟨x7,h11,h⟩:=bind_some h;obtain ⟨f8,f9,f10⟩:=zaD h11;refine zat fun K hK=>?_;simp only [go_sem,seval,f8,f9,f10,e5];apply hK;refine zaw ?_;obtain rfl:=zai h;refine ⟨by simp,?_⟩;simp only [go_sem,↓reduceIte,e5]
def ziW (f:zaf->(List Int)->Option zaf):Prop:=∀a0 a1 r,f a0 a1=some r->∀(q:Pa) (m:M) (vs:List V),vs.map V.weak1=[.agg ((zaf.C a0)),.list .none (a1.map (cI .i64))]->SC Tryz.prog 122 vs q m (fun v m'=>v=.agg ((zaf.C r))/\m'=m)
def zhK (f:(List zaf)->(List Int)->Option (List zaf)):Prop:=∀a0 a1 r,f a0 a1=some r->∀(q:Pa) (m:M) (vs:List V),vs.map V.weak1=[.list .none (a0.map zaf.C),.list .none (a1.map (cI .i64))]->SC Tryz.prog 125 vs q m (fun v m'=>v=.list .none (r.map zaf.C)/\m'=m)
theorem zlM {zgy:(List zaf)->(List Int)->Option (List zaf)} (zls:zhK zgy) (n:Nat):ziW (zhn zgy n):=by
 intro a0 a1 r h q m vs hv;refine SC.weak ?_;rw [hv];refine SC_w Tryz.func122 rfl (fun xs w=>Tryz.call122 xs w) Tryz.ntmps122 (by kernel_rfl) Tryz.results122 ?_;unfold zhn at h;refine zaq fun K hK=>?_;simp only [go_sem,Nat.reduceAdd];apply hK;refine zah ?_;obtain ⟨x3,h4,h⟩:=bind_some h;refine zat fun K hK=>?_;simp only [go_sem,seval];refine SC.by_ (zjY a0.Var_ a1 _ h4 _ _ _ (by simp only [go_sem])) ?_;simp only [go_sem,seval];apply hK;refine zah ?_;obtain ⟨x5,h6,h⟩:=bind_some h;refine zat fun K hK=>?_;simp only [go_sem,seval];refine SC.by_ (zls a0.zas a1 _ h6 _ _ _ (by simp only [go_sem])) ?_;simp only [go_sem,seval];apply hK;refine zaq fun K hK=>?_;simp only [go_sem,seval];apply hK;refine zaw ?_;obtain rfl:=zai h;refine ⟨by simp,?_⟩;simp only [go_sem,seval,zan,zak]
theorem zlv {zeE:zaf->(List Int)->Option zaf} (zlK:ziW zeE) (n:Nat):zhK (zgI zeE n):=by
 intro a0 a1 r h q m vs hv;refine SC.weak ?_;rw [hv];refine SC_w Tryz.func125 rfl (fun xs w=>Tryz.call125 xs w) Tryz.ntmps125 (by kernel_rfl) Tryz.results125 ?_;unfold zgI at h;refine zaq fun K hK=>?_;simp only [go_sem];apply hK;refine zaq fun K hK=>?_;simp only [go_sem,Nat.reduceAdd];apply hK;refine zah ?_;refine zaq fun K hK=>?_;simp only [go_sem,seval];apply hK;refine zaL ?_;obtain ⟨y4,hy4,h⟩:=bind_some h;refine zfk 5 ([].map zaf.C) rfl (by simp only [go_sem,seval]) ?_;refine zbj [] [] rfl (fun c E' m'=>∃v2 v3 o_v2 j_v2,ze9 zeE a0 a1 c v2 v3=some y4/\E' 1=.list .none (a1.map (cI .i64))/\E' 5=.list (.st (.anon o_v2 j_v2)) (v2.map zaf.C)/\m'.tok o_v2 j_v2=true/\q <:+ o_v2/\E' 8=.list .none (a0.map zaf.C)/\E' 9=.lit (.int .i64 (a0.length:Int))/\E' 10=.lit (.int .i64 v3)/\m'.gl=m.gl/\m.back q m'=m) n ⟨[],(0:Int),(5::q),0,hy4,?_⟩ ?_
 ·simp only [go_sem,seval,zaH,zak]
 rintro i1 c5 E6 m7 ⟨v2,v3,o_v2,j_v2,hy4,e8⟩ _
 rcases c5 with _ | c5
 ·exact absurd hy4 (by rw [ze9];exact fun e=>nomatch e)
 rw [ze9] at hy4;refine zaq fun K hK=>?_;simp only [go_sem,Nat.reduceAdd,e8];apply hK;refine zah ?_;refine zcn (decide (v3<(a0.length:Int))) (by simp only [go_sem,↓reduceIte]) (fun c9=>?_) (fun c9=>?_)
 ·replace hy4:=zaM c9 hy4;refine zaA ?_
  try simp only [zad]
  refine zah ?_;refine zaL ?_;refine zah ?_;obtain ⟨x10,h15,hy4⟩:=bind_some hy4;obtain ⟨f12,f13,f14⟩:=zaD h15;refine zat fun K hK=>?_;simp only [go_sem,seval,f12,f13,f14,e8];apply hK;obtain ⟨x16,h17,hy4⟩:=bind_some hy4;obtain ⟨f18,hy4⟩:=zaS hy4;have f19:v2.length+1<=1073741824:=by first | omega | (simp only [List.length_append,List.length_cons,List.length_nil] at f18 ⊢;omega)
  have f20:v2.length<=1073741823:=by first | omega | (simp only [List.length_append,List.length_cons,List.length_nil] at f18 ⊢;omega)
  refine zc0 fun K hK=>?_;simp only [go_sem,seval,e8];refine SC.by_ (zlK x10 a1 _ h17 _ _ _ (by simp only [go_sem])) ?_;simp only [go_sem,seval,f19,e8];apply hK;simp only [zad,zau];refine zat fun K hK=>?_;simp only [go_sem,seval,e8];apply hK;refine ⟨c5,Nat.lt_succ_self _,(v2++[x16]),(IntKind.i64.wrap (v3+(1:Int))),(10::i1::6::q),0,hy4,?_⟩;simp only [go_sem,seval,zan,zaH,e8]
 ·replace hy4:=zaN c9 hy4;refine zbN ?_
  try simp only [zaV,zaQ,↓reduceIte,zad]
  obtain rfl:=zai hy4;refine zaq fun K hK=>?_;simp only [go_sem,seval,c9,e8];apply hK;refine zaw ?_;obtain rfl:=zai h;refine ⟨by simp,?_⟩;simp only [go_sem,↓reduceIte,e8]
theorem zgQ:∀n,ziW (zfF n)/\zhK (zha n)
 | 0=>⟨fun _ _ _ h=>zbV h,fun _ _ _ h=>zbV h⟩
 | n+1=>
   have ih:=zgQ n
   ⟨zlM ih.2 n,zlv ih.1 n⟩
theorem zjH (n:Nat):ziW (zfF n):=(zgQ n).1
theorem zmu (n:Nat):zhK (zha n):=(zgQ n).2
def zif (f:zaj->zar->Option (Int × zaj)):Prop:=∀a0 a1 r,f a0 a1=some r->∀(q:Pa) (m:M) (vs:List V) (P0:Pa) (zP0:Nat),vs.map V.weak1=[.ptr P0 0,.agg ((zar.C a1))]/\m.blk P0=some ((zaz.C a0.p_)++[.lit (.string (bs a0.f_.zco)),.lit (.bool a0.f_.zbr),.lit (.int .i64 a0.f_.zaX),.lit (.int .i64 a0.f_.zaE),.list .self (a0.f_.zaJ.map zar.C),.list .none (a0.f_.zba.map zac.C),.lit (.int .i64 a0.zcm),.lit (.int .i64 a0.e_)])/\m.ver P0 5=zP0+a0.f_.zaJ.length->SC Tryz.prog 173 vs q m (fun v m'=>v=.lit (.int .i64 r.1)/\m'=(m.setv P0 5 ((zaz.C r.2.p_)++[.lit (.string (bs r.2.f_.zco)),.lit (.bool r.2.f_.zbr),.lit (.int .i64 r.2.f_.zaX),.lit (.int .i64 r.2.f_.zaE),.list .self (r.2.f_.zaJ.map zar.C),.list .none (r.2.f_.zba.map zac.C),.lit (.int .i64 r.2.zcm),.lit (.int .i64 r.2.e_)]) (zP0+r.2.f_.zaJ.length)))
theorem zdU:zif (zbS):=by
 rintro a0 a1 r h q m vs P0 zP0 ⟨hv,hmP0,hvrP0⟩;refine SC.weak ?_;rw [hv];refine SC.apart hmP0 fun hpP0=>?_;have hmsP0:=za7 hmP0
 try simp only [go_sem] at hmP0 hmsP0
 refine SC_w Tryz.func173 rfl (fun xs w=>Tryz.call173 xs w) Tryz.ntmps173 (by kernel_rfl) Tryz.results173 ?_;unfold zbS at h;refine zaq fun K hK=>?_;simp only [go_sem,Nat.reduceAdd];apply hK;refine zah ?_;refine zaq fun K hK=>?_;simp only [go_sem,seval,pz1 hpP0,hmP0,hvrP0];apply hK;refine zcn (decide ((4096:Int)<=(a0.f_.zaJ.length:Int))) (by simp only [go_sem,↓reduceIte]) (fun c2=>?_) (fun c2=>?_)
 ·replace h:=zaM c2 h;refine zaq fun K hK=>?_;simp only [go_sem,seval,pz1 hpP0,c2,hmP0];apply hK;refine zaq fun K hK=>?_;simp only [go_sem,Nat.reduceAdd];apply hK;refine zaw ?_
  try simp only [zaC]
  obtain rfl:=zai h;refine ⟨by simp,?_⟩;simp only [go_sem,↓reduceIte,zan,zak,zay hpP0,zkS hvrP0]
 ·replace h:=zaN c2 h;refine zaA ?_
  try simp only [zad]
  refine zah ?_;obtain ⟨f3,h⟩:=zaS h;have f4:a0.f_.zaJ.length+1<=1073741824:=by first | omega | (simp only [List.length_append,List.length_cons,List.length_nil] at f3 ⊢;omega)
  have f5:a0.f_.zaJ.length<=1073741823:=by first | omega | (simp only [List.length_append,List.length_cons,List.length_nil] at f3 ⊢;omega)
  refine zaU (tbl:=[0,0,2,6,14,30,0,64,254,511,1023,2047,4095]) (ord:=[(1,0),(2,0),(3,0),(4,0),(5,0),(6,0),(7,0),(8,0),(0,0),(9,0),(10,0),(11,0),(12,0)]) 22 rfl (by kernel_rfl) (by kernel_rfl) fun K hK=>?_;simp only [go_sem,seval,pz1 hpP0,c2,f4,hmP0,hvrP0];apply hK;simp only [zad];refine zaq fun K hK=>?_;simp only [go_sem,seval,hvrP0];apply hK;refine zaw ?_;obtain rfl:=zai h;refine ⟨by simp,?_⟩;simp only [go_sem,↓reduceIte,zan,zaH,zak,zay hpP0,zpb hpP0,set_bump hvrP0,List.length_append,List.length_cons,List.length_nil,Nat.zero_add,←Nat.add_assoc]
def ziE (f:zaj->zac->zao->(List Int)->Option ((List zac) × (List Int) × zaj)):Prop:=∀a0 a1 a2 a3 r,f a0 a1 a2 a3=some r->∀(q:Pa) (m:M) (vs:List V) (P0:Pa) (zP0:Nat),vs.map V.weak1=[.ptr P0 0,.agg ((zac.C a1)),.agg ((zao.C a2)),.list .none (a3.map (cI .i64))]/\m.blk P0=some ((zaz.C a0.p_)++[.lit (.string (bs a0.f_.zco)),.lit (.bool a0.f_.zbr),.lit (.int .i64 a0.f_.zaX),.lit (.int .i64 a0.f_.zaE),.list .self (a0.f_.zaJ.map zar.C),.list .none (a0.f_.zba.map zac.C),.lit (.int .i64 a0.zcm),.lit (.int .i64 a0.e_)])/\m.ver P0 5=zP0+a0.f_.zaJ.length->SC Tryz.prog 172 vs q m (fun v m'=>∃(id:Pa) (j:Nat) (id2:Pa) (j2:Nat),q <:+ id/\q <:+ id2/\(id=id2)=False/\(id2=id)=False/\v=.tup [.list (.st (.anon id j)) (r.1.map zac.C),.list (.st (.anon id2 j2)) (r.2.1.map (cI .i64))]/\m'=((m.setv P0 5 ((zaz.C r.2.2.p_)++[.lit (.string (bs r.2.2.f_.zco)),.lit (.bool r.2.2.f_.zbr),.lit (.int .i64 r.2.2.f_.zaX),.lit (.int .i64 r.2.2.f_.zaE),.list .self (r.2.2.f_.zaJ.map zar.C),.list .none (r.2.2.f_.zba.map zac.C),.lit (.int .i64 r.2.2.zcm),.lit (.int .i64 r.2.2.e_)]) (zP0+r.2.2.f_.zaJ.length)).tokset id j true).tokset id2 j2 true)
theorem zih (n:Nat):ziE (zeG n):=by
 rintro a0 a1 a2 a3 r h q m vs P0 zP0 ⟨hv,hmP0,hvrP0⟩;refine SC.weak ?_;rw [hv];refine SC.apart hmP0 fun hpP0=>?_;have hmsP0:=za7 hmP0
 try simp only [go_sem] at hmP0 hmsP0
 refine SC_of2 Tryz.func172 rfl (fun xs w=>Tryz.call172 xs w) Tryz.ntmps172 (by kernel_rfl) (congrArg Array.toList Tryz.results172) (fun o1 o2=>.tup [.list o1 (r.1.map zac.C),.list o2 (r.2.1.map (cI .i64))]) ?_;unfold zeG at h;refine zaq fun K hK=>?_;simp only [go_sem,seval];apply hK;refine zaq fun K hK=>?_;simp only [go_sem,Nat.reduceAdd];apply hK;refine zaq fun K hK=>?_;simp only [go_sem,Nat.reduceAdd];apply hK;refine zah ?_;refine zaq fun K hK=>?_;simp only [go_sem,seval];apply hK;refine zaL ?_;obtain ⟨y8,hy8,h⟩:=bind_some h;refine zfk 10 ([].map zac.C) rfl (by simp only [go_sem,seval]) ?_;refine zfk 11 ([].map (cI .i64)) rfl (by simp only [go_sem,seval]) ?_;refine zbj [] [] rfl (fun c E' m'=>∃v4 v5 v6 v7 o_v4 j_v4 o_v5 j_v5,zcj n a1 a3 a2 c v4 v5 v6 v7=some y8/\E' 0=.ptr P0 0/\E' 3=.list .none (a3.map (cI .i64))/\E' 5=.ptr (0::q) 0/\E' 6=.ptr (1::q) 0/\E' 10=.list (.st (.anon o_v4 j_v4)) (v4.map zac.C)/\m'.tok o_v4 j_v4=true/\q <:+ o_v4/\E' 11=.list (.st (.anon o_v5 j_v5)) (v5.map (cI .i64))/\m'.tok o_v5 j_v5=true/\q <:+ o_v5/\E' 17=.list .none (a1.zas.map zaf.C)/\E' 18=.lit (.int .i64 (a1.zas.length:Int))/\E' 19=.lit (.int .i64 v6)/\(o_v4=o_v5)=False/\(o_v5=o_v4)=False/\m'.blk P0=some ((zaz.C v7.p_)++[.lit (.string (bs v7.f_.zco)),.lit (.bool v7.f_.zbr),.lit (.int .i64 v7.f_.zaX),.lit (.int .i64 v7.f_.zaE),.list .self (v7.f_.zaJ.map zar.C),.list .none (v7.f_.zba.map zac.C),.lit (.int .i64 v7.zcm),.lit (.int .i64 v7.e_)])/\m'.blk (0::q)=some ((zac.C a1))/\m'.blk (1::q)=some ((zao.C a2))/\m'.ver P0 5=zP0+v7.f_.zaJ.length/\m'.gl=m.gl/\m.back q m'=(m.setv P0 5 ((zaz.C v7.p_)++[.lit (.string (bs v7.f_.zco)),.lit (.bool v7.f_.zbr),.lit (.int .i64 v7.f_.zaX),.lit (.int .i64 v7.f_.zaE),.list .self (v7.f_.zaJ.map zar.C),.list .none (v7.f_.zba.map zac.C),.lit (.int .i64 v7.zcm),.lit (.int .i64 v7.e_)]) (zP0+v7.f_.zaJ.length))) n ⟨[],[],(0:Int),a0,(10::q),0,(11::q),0,hy8,?_⟩ ?_
 ·simp only [go_sem,seval,zan,zaH,zak,hmsP0,zkS hvrP0,hvrP0,pz2 hpP0,hmP0]
 rintro i3 c9 E10 m11 ⟨v4,v5,v6,v7,o_v4,j_v4,o_v5,j_v5,hy8,e12⟩ _
 rcases c9 with _ | c9
 ·exact absurd hy8 (by rw [zcj];exact fun e=>nomatch e)
 rw [zcj] at hy8;refine zaq fun K hK=>?_;simp only [go_sem,Nat.reduceAdd,e12];apply hK;refine zah ?_;refine zcn (decide (v6<(a1.zas.length:Int))) (by simp only [go_sem,↓reduceIte]) (fun c13=>?_) (fun c13=>?_)
 ·replace hy8:=zaM c13 hy8;refine zaA ?_
  try simp only [zad]
  refine zah ?_;obtain ⟨y14,hy14,hy8⟩:=bind_some hy8;refine zbm 47 [] [] rfl (fun E' m'=>∃(oy14_10:Pa) (jy14_10:Nat),∃(oy14_11:Pa) (jy14_11:Nat),E' 0=.ptr P0 0/\E' 3=.list .none (a3.map (cI .i64))/\E' 5=.ptr (0::q) 0/\E' 6=.ptr (1::q) 0/\E' 10=.list (.st (.anon oy14_10 jy14_10)) (y14.1.map zac.C)/\m'.tok oy14_10 jy14_10=true/\q <:+ oy14_10/\E' 11=.list (.st (.anon oy14_11 jy14_11)) (y14.2.1.map (cI .i64))/\m'.tok oy14_11 jy14_11=true/\q <:+ oy14_11/\E' 17=.list .none (a1.zas.map zaf.C)/\E' 18=.lit (.int .i64 (a1.zas.length:Int))/\E' 19=.lit (.int .i64 v6)/\(oy14_10=oy14_11)=False/\(oy14_11=oy14_10)=False/\m'.blk P0=some ((zaz.C y14.2.2.p_)++[.lit (.string (bs y14.2.2.f_.zco)),.lit (.bool y14.2.2.f_.zbr),.lit (.int .i64 y14.2.2.f_.zaX),.lit (.int .i64 y14.2.2.f_.zaE),.list .self (y14.2.2.f_.zaJ.map zar.C),.list .none (y14.2.2.f_.zba.map zac.C),.lit (.int .i64 y14.2.2.zcm),.lit (.int .i64 y14.2.2.e_)])/\m'.blk (0::q)=some ((zac.C a1))/\m'.blk (1::q)=some ((zao.C a2))/\m'.ver P0 5=zP0+y14.2.2.f_.zaJ.length/\m'.gl=m.gl/\m.back q m'=(m.setv P0 5 ((zaz.C y14.2.2.p_)++[.lit (.string (bs y14.2.2.f_.zco)),.lit (.bool y14.2.2.f_.zbr),.lit (.int .i64 y14.2.2.f_.zaX),.lit (.int .i64 y14.2.2.f_.zaE),.list .self (y14.2.2.f_.zaJ.map zar.C),.list .none (y14.2.2.f_.zba.map zac.C),.lit (.int .i64 y14.2.2.zcm),.lit (.int .i64 y14.2.2.e_)]) (zP0+y14.2.2.f_.zaJ.length))) ?_ ?_
  ·refine zaL ?_;refine zah ?_;obtain ⟨x15,h20,hy14⟩:=bind_some hy14;obtain ⟨f17,f18,f19⟩:=zaD h20;refine zat fun K hK=>?_;simp only [go_sem,seval,f17,f18,f19,e12];apply hK;refine zah ?_;refine zaq fun K hK=>?_;simp only [go_sem,seval];apply hK;refine zbK (x15.zbg == (4:Int)) (fun c21=>?_) (fun c21=>?_)
   ·replace hy14:=zaM c21 hy14;refine zah ?_;obtain ⟨x22,h23,hy14⟩:=bind_some hy14;obtain ⟨f24,hy14⟩:=zaS hy14;have f25:v5.length+1<=1073741824:=by first | omega | (simp only [List.length_append,List.length_cons,List.length_nil] at f24 ⊢;omega)
    have f26:v5.length<=1073741823:=by first | omega | (simp only [List.length_append,List.length_cons,List.length_nil] at f24 ⊢;omega)
    refine zjP (o:=o_v4) (j:=j_v4) (by simp only [go_sem,e12]) fun f27=>?_;have f28:=f27 16 (by omega);refine zat fun K hK=>?_;simp only [go_sem,seval,c21,e12];refine SC.by_ (zjY x15.Var_ a3 _ h23 _ _ _ (by simp only [go_sem])) ?_;simp only [go_sem,seval,f25,e12];apply hK;refine zbN ?_
    try simp only [zaV,zaQ,↓reduceIte,zad]
    obtain rfl:=zai hy14;refine ⟨by decide,o_v4,j_v4,(16::i3::12::q),0,?_⟩;simp only [go_sem,seval,zan,zaH,pz2 hpP0,f28.1,f28.2,e12]
   ·replace hy14:=zaN c21 hy14;refine zaA ?_
    try simp only [zad]
    refine zaq fun K hK=>?_;simp only [go_sem,Nat.reduceAdd,c21];apply hK;refine zah ?_;refine zah ?_;obtain ⟨x29,h33,hy14⟩:=bind_some hy14;obtain ⟨f30,f31,f32⟩:=zaD h33;refine zat fun K hK=>?_;simp only [go_sem,seval,f17,f31,f32,e12];apply hK;refine zbK (x29.za3 == (1:Int)) (fun c34=>?_) (fun c34=>?_)
    ·replace hy14:=zaM c34 hy14;refine zat fun K hK=>?_;simp only [go_sem,Nat.reduceAdd,c34];apply hK;refine zah ?_;obtain ⟨x35,h36,hy14⟩:=bind_some hy14;refine zat fun K hK=>?_;simp only [go_sem,seval,e12];refine SC.by_ (zdV v7 _ h36 _ _ _ P0 zP0 (by simp only [go_sem,↓reduceIte,pz2 hpP0,e12])) ?_;simp only [go_sem,Nat.reduceAdd];apply hK;refine zah ?_;obtain ⟨x37,h38,hy14⟩:=bind_some hy14;refine zat fun K hK=>?_;simp only [go_sem,seval,pz2 hpP0,f17,f31,f32,e12];refine SC.by_ (zdU x35 x29 _ h38 _ _ _ P0 zP0 (by simp only [go_sem,↓reduceIte])) ?_;simp only [go_sem,seval];apply hK;refine zah ?_;obtain ⟨f39,hy14⟩:=zaS hy14;have f40:v5.length+1<=1073741824:=by first | omega | (simp only [List.length_append,List.length_cons,List.length_nil] at f39 ⊢;omega)
     have f41:v5.length<=1073741823:=by first | omega | (simp only [List.length_append,List.length_cons,List.length_nil] at f39 ⊢;omega)
     refine zjP (o:=o_v4) (j:=j_v4) (by simp only [go_sem,e12]) fun f42=>?_;have f43:=f42 32 (by omega);refine zat fun K hK=>?_;simp only [go_sem,seval,f40,e12];apply hK;obtain ⟨x44,h45,hy14⟩:=bind_some hy14;obtain ⟨f46,hy14⟩:=zaS hy14;have f47:v4.length+1<=1073741824:=by first | omega | (simp only [List.length_append,List.length_cons,List.length_nil] at f46 ⊢;omega)
     have f48:v4.length<=1073741823:=by first | omega | (simp only [List.length_append,List.length_cons,List.length_nil] at f46 ⊢;omega)
     refine zaU (tbl:=[0,0,0,0,0,24,56,0,128,510,1022,2047,4095]) (ord:=[(3,0),(4,0),(5,0),(0,0),(1,0),(2,0),(6,0),(7,0),(8,1),(9,0),(10,0),(11,0),(12,0)]) 47 rfl (by kernel_rfl) (by kernel_rfl) fun K hK=>?_;simp only [go_sem,seval,pz2 hpP0,e12];refine zaT (zjH n x15 a3 _ h45 _ _ _ (by simp only [go_sem])) rfl ?_;simp only [go_sem,seval,pz2 hpP0,f43.1,f47,e12];apply hK;simp only [zad,zau];obtain rfl:=zai hy14;refine ⟨by decide,(45::i3::12::q),0,(32::i3::12::q),0,?_⟩;simp only [go_sem,seval,zan,zaH,zfx hpP0,pz2 hpP0,f43.2,e12]
    ·replace hy14:=zaN c34 hy14;refine zaA ?_
     try simp only [zad]
     refine zah ?_;obtain ⟨x49,h50,hy14⟩:=bind_some hy14;refine zat fun K hK=>?_;simp only [go_sem,seval,c34,e12];refine SC.by_ (zdV v7 _ h50 _ _ _ P0 zP0 (by simp only [go_sem,↓reduceIte,pz2 hpP0,e12])) ?_;simp only [go_sem,Nat.reduceAdd];apply hK;refine zah ?_;obtain ⟨x51,h52,hy14⟩:=bind_some hy14;refine zat fun K hK=>?_;simp only [go_sem,seval,pz2 hpP0,f17,f31,f32,e12];refine SC.by_ (zdU x49 x29 _ h52 _ _ _ P0 zP0 (by simp only [go_sem,↓reduceIte])) ?_;simp only [go_sem,seval];apply hK;refine zah ?_;obtain ⟨f53,hy14⟩:=zaS hy14;have f54:v5.length+1<=1073741824:=by first | omega | (simp only [List.length_append,List.length_cons,List.length_nil] at f53 ⊢;omega)
     have f55:v5.length<=1073741823:=by first | omega | (simp only [List.length_append,List.length_cons,List.length_nil] at f53 ⊢;omega)
     refine zjP (o:=o_v4) (j:=j_v4) (by simp only [go_sem,e12]) fun f56=>?_;have f57:=f56 31 (by omega);refine zat fun K hK=>?_;simp only [go_sem,seval,f54,e12];apply hK;obtain ⟨x58,h59,hy14⟩:=bind_some hy14;obtain ⟨f60,hy14⟩:=zaS hy14;have f61:v4.length+1<=1073741824:=by first | omega | (simp only [List.length_append,List.length_cons,List.length_nil] at f60 ⊢;omega)
     have f62:v4.length<=1073741823:=by first | omega | (simp only [List.length_append,List.length_cons,List.length_nil] at f60 ⊢;omega)
     refine zaU (tbl:=[0,0,0,0,0,24,56,0,128,510,1022,2047,4095]) (ord:=[(3,0),(4,0),(5,0),(0,0),(1,0),(2,0),(6,0),(7,0),(8,1),(9,0),(10,0),(11,0),(12,0)]) 46 rfl (by kernel_rfl) (by kernel_rfl) fun K hK=>?_;simp only [go_sem,seval,pz2 hpP0,e12];refine zaT (zjH n x15 a3 _ h59 _ _ _ (by simp only [go_sem])) rfl ?_;simp only [go_sem,seval,pz2 hpP0,f57.1,f61,e12];apply hK;simp only [zad,zau];obtain rfl:=zai hy14;refine ⟨by decide,(44::i3::12::q),0,(31::i3::12::q),0,?_⟩;simp only [go_sem,seval,zan,zaH,zfx hpP0,pz2 hpP0,f57.2,e12]
  ·rintro E63 m64 ⟨oy14_10,jy14_10,oy14_11,jy14_11,e65⟩ _;simp only [zad];refine zat fun K hK=>?_;simp only [go_sem,seval,e65];apply hK;refine ⟨c9,Nat.lt_succ_self _,y14.1,y14.2.1,(IntKind.i64.wrap (v6+(1:Int))),y14.2.2,oy14_10,jy14_10,oy14_11,jy14_11,hy8,?_⟩;simp only [go_sem,seval,e65]
 ·replace hy8:=zaN c13 hy8;refine zbN ?_
  try simp only [zaV,zaQ,↓reduceIte,zad]
  obtain rfl:=zai hy8;refine zaq fun K hK=>?_;simp only [go_sem,seval,c13,e12];apply hK;refine zaw ?_;obtain rfl:=zai h;refine ⟨by simp,?_⟩;refine ⟨o_v4,j_v4,o_v5,j_v5,?_,?_,?_,?_,?_,?_,?_,?_⟩ <;> simp only [go_sem,seval,e12]
def zie (f:zaj->zac->(List Int)->zac->Option zac):Prop:=∀a0 a1 a2 a3 r,f a0 a1 a2 a3=some r->∀(q:Pa) (m:M) (vs:List V) (P0:Pa) (zP0:Nat),vs.map V.weak1=[.ptr P0 0,.agg ((zac.C a1)),.list .none (a2.map (cI .i64)),.agg ((zac.C a3))]/\m.blk P0=some ((zaz.C a0.p_)++[.lit (.string (bs a0.f_.zco)),.lit (.bool a0.f_.zbr),.lit (.int .i64 a0.f_.zaX),.lit (.int .i64 a0.f_.zaE),.list .self (a0.f_.zaJ.map zar.C),.list .none (a0.f_.zba.map zac.C),.lit (.int .i64 a0.zcm),.lit (.int .i64 a0.e_)])/\m.ver P0 5=zP0+a0.f_.zaJ.length->SC Tryz.prog 174 vs q m (fun v m'=>v=.agg ((zac.C r))/\m'=m)
theorem zhS:zie (zdG):=by
 rintro a0 a1 a2 a3 r h q m vs P0 zP0 ⟨hv,hmP0,hvrP0⟩;refine SC.weak ?_;rw [hv];refine SC.apart hmP0 fun hpP0=>?_
 try simp only [go_sem] at hmP0
 refine SC_w Tryz.func174 rfl (fun xs w=>Tryz.call174 xs w) Tryz.ntmps174 (by kernel_rfl) Tryz.results174 ?_;unfold zdG at h;refine zaq fun K hK=>?_;simp only [go_sem,seval];apply hK;refine zah ?_;obtain ⟨x4,h8,h⟩:=bind_some h;obtain ⟨f5,f6,f7⟩:=zaD h8;refine zaU (tbl:=[0,1,3,7,15,0,32,127,255,511,1023]) (ord:=[(0,0),(1,0),(2,0),(3,0),(4,0),(5,0),(6,0),(7,0),(8,0),(9,0),(10,0)]) 14 rfl (by kernel_rfl) (by kernel_rfl) fun K hK=>?_;simp only [go_sem,seval,pz1 hpP0,f5,f6,f7,hmP0];apply hK;simp only [zad];refine zah ?_;refine zaq fun K hK=>?_;simp only [go_sem,seval];apply hK;refine zaL ?_;refine zaq fun K hK=>?_;simp only [go_sem,seval];apply hK;refine zbK (a1.Var_ == (-2:Int)) (fun c9=>?_) (fun c9=>?_)
 ·replace h:=zaM c9 h;refine zah ?_;refine zaq fun K hK=>?_;simp only [go_sem,seval,c9];apply hK;refine zcn (decide (a3.At_<(0:Int))) (by simp only [go_sem,↓reduceIte]) (fun c10=>?_) (fun c10=>?_)
  ·replace h:=zaM c10 h;refine zat fun K hK=>?_;simp only [go_sem,seval,c10];apply hK;refine zaq fun K hK=>?_;simp only [go_sem,seval];apply hK;refine zaw ?_
   try simp only [zaC,zaZ]
   obtain rfl:=zai h;refine ⟨by simp,?_⟩;simp only [go_sem,seval,zan,zak]
  ·replace h:=zaN c10 h;refine zaA ?_
   try simp only [zad]
   refine zaq fun K hK=>?_;simp only [go_sem,seval,c10];apply hK;refine zaw ?_
   try simp only [zaC,zaZ]
   obtain rfl:=zai h;refine ⟨by simp,?_⟩;simp only [go_sem,seval,zan,zak]
 ·replace h:=zaN c9 h;refine zaq fun K hK=>?_;simp only [go_sem,seval,c9];apply hK;refine zbK (a1.Var_ == (-1:Int)) (fun c11=>?_) (fun c11=>?_)
  ·replace h:=zaM c11 h;refine zaq fun K hK=>?_;simp only [go_sem,seval,c11];apply hK;refine zaw ?_
   try simp only [zaC,zaZ]
   obtain rfl:=zai h;refine ⟨by simp,?_⟩;simp only [go_sem,seval,zan,za6,zak]
  ·replace h:=zaN c11 h;refine zaA ?_
   try simp only [zad,zau]
   refine zah ?_;obtain ⟨x12,h13,h⟩:=bind_some h;refine zaU (tbl:=[0,1,0,7,0,16,63,127]) (ord:=[(0,0),(1,0),(2,0),(3,0),(4,0),(5,1),(6,0),(7,0)]) 28 rfl (by kernel_rfl) (by kernel_rfl) fun K hK=>?_;simp only [go_sem,seval,c11];refine zaT (zjY a1.Var_ a2 _ h13 _ _ _ (by simp only [go_sem])) rfl ?_;simp only [go_sem,seval];apply hK;simp only [zad];refine zaw ?_;obtain rfl:=zai h;refine ⟨by simp,?_⟩;simp only [go_sem,seval,zan,za6,zak]
def ziD (f:zaj->zaf->zac->Option (zac × zaj)):Prop:=∀a0 a1 a2 r,f a0 a1 a2=some r->∀(q:Pa) (m:M) (vs:List V) (P0:Pa) (zP0:Nat),vs.map V.weak1=[.ptr P0 0,.agg ((zaf.C a1)),.agg ((zac.C a2))]/\m.blk P0=some ((zaz.C a0.p_)++[.lit (.string (bs a0.f_.zco)),.lit (.bool a0.f_.zbr),.lit (.int .i64 a0.f_.zaX),.lit (.int .i64 a0.f_.zaE),.list .self (a0.f_.zaJ.map zar.C),.list .none (a0.f_.zba.map zac.C),.lit (.int .i64 a0.zcm),.lit (.int .i64 a0.e_)])/\m.ver P0 5=zP0+a0.f_.zaJ.length->SC Tryz.prog 123 vs q m (fun v m'=>v=.agg ((zac.C r.1))/\m'=(m.setv P0 5 ((zaz.C r.2.p_)++[.lit (.string (bs r.2.f_.zco)),.lit (.bool r.2.f_.zbr),.lit (.int .i64 r.2.f_.zaX),.lit (.int .i64 r.2.f_.zaE),.list .self (r.2.f_.zaJ.map zar.C),.list .none (r.2.f_.zba.map zac.C),.lit (.int .i64 r.2.zcm),.lit (.int .i64 r.2.e_)]) (zP0+r.2.f_.zaJ.length)))
theorem zfT:ziD (zcq):=by
 rintro a0 a1 a2 r h q m vs P0 zP0 ⟨hv,hmP0,hvrP0⟩;refine SC.weak ?_;rw [hv];refine SC.apart hmP0 fun hpP0=>?_;have hmsP0:=za7 hmP0
 try simp only [go_sem] at hmP0 hmsP0
 refine SC_w Tryz.func123 rfl (fun xs w=>Tryz.call123 xs w) Tryz.ntmps123 (by kernel_rfl) Tryz.results123 ?_;unfold zcq at h;refine zaq fun K hK=>?_;simp only [go_sem,seval];apply hK;refine zaq fun K hK=>?_;simp only [go_sem,seval];apply hK;refine zah ?_;refine zaq fun K hK=>?_;simp only [go_sem,seval];apply hK;refine zcn (decide (a2.Op_=([118,97,114]:Str))) (by simp only [go_sem,↓reduceIte]) (fun c4=>?_) (fun c4=>?_)
 ·replace h:=zaM c4 h;obtain ⟨x5,h6,h⟩:=bind_some h;refine zat fun K hK=>?_;simp only [go_sem,seval,c4];refine SC.by_ (zdU a0 (zar.mk [] a2.zeD (0:Int)) _ h6 _ _ _ P0 zP0 (by simp only [go_sem,seval,pz1 hpP0,hmP0,hvrP0])) ?_;simp only [go_sem,seval,pz1 hpP0];apply hK;refine zaq fun K hK=>?_;simp only [go_sem,seval];apply hK;refine zaq fun K hK=>?_;simp only [go_sem,seval,pz1 hpP0];apply hK;refine zaw ?_;obtain rfl:=zai h;refine ⟨by simp,?_⟩;simp only [go_sem,seval,zan,za6,zak,zfx hpP0,List.length_cons,List.length_nil,Nat.zero_add]
 ·replace h:=zaN c4 h;refine zaA ?_
  try simp only [zad]
  refine zaq fun K hK=>?_;simp only [go_sem,seval,c4];apply hK;refine zaq fun K hK=>?_;simp only [go_sem,seval];apply hK;refine zaw ?_;obtain rfl:=zai h;refine ⟨by simp,?_⟩;simp only [go_sem,seval,zan,za6,zak,hmsP0,zkS hvrP0,List.length_cons,List.length_nil,Nat.zero_add]
def zc8 (f:zaj->(List zac)->(List Int)->zac->Option ((List zac) × zaj)):Prop:=∀a0 a1 a2 a3 r,f a0 a1 a2 a3=some r->∀(q:Pa) (m:M) (vs:List V) (P0:Pa) (zP0:Nat),vs.map V.weak1=[.ptr P0 0,.list .none (a1.map zac.C),.list .none (a2.map (cI .i64)),.agg ((zac.C a3))]/\m.blk P0=some ((zaz.C a0.p_)++[.lit (.string (bs a0.f_.zco)),.lit (.bool a0.f_.zbr),.lit (.int .i64 a0.f_.zaX),.lit (.int .i64 a0.f_.zaE),.list .self (a0.f_.zaJ.map zar.C),.list .none (a0.f_.zba.map zac.C),.lit (.int .i64 a0.zcm),.lit (.int .i64 a0.e_)])/\m.ver P0 5=zP0+a0.f_.zaJ.length->SC Tryz.prog 54 vs q m (fun v m'=>v=.list .none (r.1.map zac.C)/\m'=(m.setv P0 5 ((zaz.C r.2.p_)++[.lit (.string (bs r.2.f_.zco)),.lit (.bool r.2.f_.zbr),.lit (.int .i64 r.2.f_.zaX),.lit (.int .i64 r.2.f_.zaE),.list .self (r.2.f_.zaJ.map zar.C),.list .none (r.2.f_.zba.map zac.C),.lit (.int .i64 r.2.zcm),.lit (.int .i64 r.2.e_)]) (zP0+r.2.f_.zaJ.length)))
def zeo (f:zaj->zac->(List Int)->zac->Option ((List zac) × zaj)):Prop:=∀a0 a1 a2 a3 r,f a0 a1 a2 a3=some r->∀(q:Pa) (m:M) (vs:List V) (P0:Pa) (zP0:Nat),vs.map V.weak1=[.ptr P0 0,.agg ((zac.C a1)),.list .none (a2.map (cI .i64)),.agg ((zac.C a3))]/\m.blk P0=some ((zaz.C a0.p_)++[.lit (.string (bs a0.f_.zco)),.lit (.bool a0.f_.zbr),.lit (.int .i64 a0.f_.zaX),.lit (.int .i64 a0.f_.zaE),.list .self (a0.f_.zaJ.map zar.C),.list .none (a0.f_.zba.map zac.C),.lit (.int .i64 a0.zcm),.lit (.int .i64 a0.e_)])/\m.ver P0 5=zP0+a0.f_.zaJ.length->SC Tryz.prog 83 vs q m (fun v m'=>v=.list .none (r.1.map zac.C)/\m'=(m.setv P0 5 ((zaz.C r.2.p_)++[.lit (.string (bs r.2.f_.zco)),.lit (.bool r.2.f_.zbr),.lit (.int .i64 r.2.f_.zaX),.lit (.int .i64 r.2.f_.zaE),.list .self (r.2.f_.zaJ.map zar.C),.list .none (r.2.f_.zba.map zac.C),.lit (.int .i64 r.2.zcm),.lit (.int .i64 r.2.e_)]) (zP0+r.2.f_.zaJ.length)))
def ze5 (f:zaj->zac->(List Int)->zac->Option ((List zac) × zaj)):Prop:=∀a0 a1 a2 a3 r,f a0 a1 a2 a3=some r->∀(q:Pa) (m:M) (vs:List V) (P0:Pa) (zP0:Nat),vs.map V.weak1=[.ptr P0 0,.agg ((zac.C a1)),.list .none (a2.map (cI .i64)),.agg ((zac.C a3))]/\m.blk P0=some ((zaz.C a0.p_)++[.lit (.string (bs a0.f_.zco)),.lit (.bool a0.f_.zbr),.lit (.int .i64 a0.f_.zaX),.lit (.int .i64 a0.f_.zaE),.list .self (a0.f_.zaJ.map zar.C),.list .none (a0.f_.zba.map zac.C),.lit (.int .i64 a0.zcm),.lit (.int .i64 a0.e_)])/\m.ver P0 5=zP0+a0.f_.zaJ.length->SC Tryz.prog 120 vs q m (fun v m'=>v=.list .none (r.1.map zac.C)/\m'=(m.setv P0 5 ((zaz.C r.2.p_)++[.lit (.string (bs r.2.f_.zco)),.lit (.bool r.2.f_.zbr),.lit (.int .i64 r.2.f_.zaX),.lit (.int .i64 r.2.f_.zaE),.list .self (r.2.f_.zaJ.map zar.C),.list .none (r.2.f_.zba.map zac.C),.lit (.int .i64 r.2.zcm),.lit (.int .i64 r.2.e_)]) (zP0+r.2.f_.zaJ.length)))
theorem zhg {zbn:zaj->zac->(List Int)->zac->Option ((List zac) × zaj)} (zgr:zeo zbn) (n:Nat):zc8 (zci zbn n):=by
 rintro a0 a1 a2 a3 r h q m vs P0 zP0 ⟨hv,hmP0,hvrP0⟩;refine SC.weak ?_;rw [hv];refine SC.apart hmP0 fun hpP0=>?_;have hmsP0:=za7 hmP0
 try simp only [go_sem] at hmP0 hmsP0
 refine SC_w Tryz.func54 rfl (fun xs w=>Tryz.call54 xs w) Tryz.ntmps54 (by kernel_rfl) Tryz.results54 ?_;unfold zci at h;refine zaq fun K hK=>?_;simp only [go_sem,Nat.reduceAdd];apply hK;refine zaq fun K hK=>?_;simp only [go_sem,Nat.reduceAdd];apply hK;refine zah ?_;refine zaq fun K hK=>?_;simp only [go_sem,seval];apply hK;refine zaL ?_;obtain ⟨y6,hy6,h⟩:=bind_some h;refine zfk 9 ([].map zac.C) rfl (by simp only [go_sem,seval]) ?_;refine zbj [] [] rfl (fun c E' m'=>∃v3 v4 v5 o_v3 j_v3,zbE zbn a1 a2 a3 c v3 v4 v5=some y6/\E' 0=.ptr P0 0/\E' 2=.list .none (a2.map (cI .i64))/\E' 7=.ptr (0::q) 0/\E' 9=.list (.st (.anon o_v3 j_v3)) (v3.map zac.C)/\m'.tok o_v3 j_v3=true/\q <:+ o_v3/\E' 12=.list .none (a1.map zac.C)/\E' 13=.lit (.int .i64 (a1.length:Int))/\E' 14=.lit (.int .i64 v4)/\m'.blk P0=some ((zaz.C v5.p_)++[.lit (.string (bs v5.f_.zco)),.lit (.bool v5.f_.zbr),.lit (.int .i64 v5.f_.zaX),.lit (.int .i64 v5.f_.zaE),.list .self (v5.f_.zaJ.map zar.C),.list .none (v5.f_.zba.map zac.C),.lit (.int .i64 v5.zcm),.lit (.int .i64 v5.e_)])/\m'.blk (0::q)=some ((zac.C a3))/\m'.ver P0 5=zP0+v5.f_.zaJ.length/\m'.gl=m.gl/\m.back q m'=(m.setv P0 5 ((zaz.C v5.p_)++[.lit (.string (bs v5.f_.zco)),.lit (.bool v5.f_.zbr),.lit (.int .i64 v5.f_.zaX),.lit (.int .i64 v5.f_.zaE),.list .self (v5.f_.zaJ.map zar.C),.list .none (v5.f_.zba.map zac.C),.lit (.int .i64 v5.zcm),.lit (.int .i64 v5.e_)]) (zP0+v5.f_.zaJ.length))) n ⟨[],(0:Int),a0,(6::q),0,hy6,?_⟩ ?_
 ·simp only [go_sem,seval,zan,zaH,zak,hmsP0,zkS hvrP0,hvrP0,pz2 hpP0,hmP0]
 rintro i2 c7 E8 m9 ⟨v3,v4,v5,o_v3,j_v3,hy6,e10⟩ _
 rcases c7 with _ | c7
 ·exact absurd hy6 (by rw [zbE];exact fun e=>nomatch e)
 rw [zbE] at hy6;refine zaq fun K hK=>?_;simp only [go_sem,Nat.reduceAdd,e10];apply hK;refine zah ?_;refine zcn (decide (v4<(a1.length:Int))) (by simp only [go_sem,↓reduceIte]) (fun c11=>?_) (fun c11=>?_)
 ·replace hy6:=zaM c11 hy6;refine zaA ?_
  try simp only [zad]
  refine zah ?_;refine zaL ?_;refine zah ?_;obtain ⟨x12,h17,hy6⟩:=bind_some hy6;obtain ⟨f14,f15,f16⟩:=zaD h17;refine zat fun K hK=>?_;simp only [go_sem,seval,f14,f15,f16,e10];apply hK;refine zah ?_;refine zaq fun K hK=>?_;simp only [go_sem,seval,pz2 hpP0,e10];apply hK;refine zbK (v5.e_ != (0:Int)) (fun c18=>?_) (fun c18=>?_)
  ·replace hy6:=zaM c18 hy6;refine zaq fun K hK=>?_;simp only [go_sem,Nat.reduceAdd,c18];apply hK;refine zaw ?_
   try simp only [zaC,zaZ]
   obtain rfl:=zai hy6;simp only [Sum.elim_inr] at h;obtain rfl:=zai h;refine ⟨by simp,?_⟩;simp only [go_sem,↓reduceIte,zan,e10]
  ·replace hy6:=zaN c18 hy6;refine zaA ?_
   try simp only [zad]
   obtain ⟨x19,h20,hy6⟩:=bind_some hy6;obtain ⟨f21,hy6⟩:=zaS hy6;have f22:v3.length+x19.1.length<=1073741824:=by first | omega | (simp only [List.length_append,List.length_cons,List.length_nil] at f21 ⊢;omega)
   refine zc0 fun K hK=>?_;simp only [go_sem,seval,c18,e10];refine SC.by_ (zgr v5 x12 a2 a3 _ h20 _ _ _ P0 zP0 (by simp only [go_sem,↓reduceIte,pz2 hpP0,e10])) ?_;simp only [go_sem,seval,f21,e10];apply hK;simp only [zad,zau];refine zat fun K hK=>?_;simp only [go_sem,seval,e10];apply hK;refine ⟨c7,Nat.lt_succ_self _,(v3++x19.1),(IntKind.i64.wrap (v4+(1:Int))),x19.2,(16::i2::7::q),0,hy6,?_⟩;simp only [go_sem,seval,zan,zaH,zfx hpP0,pz2 hpP0,e10]
 ·replace hy6:=zaN c11 hy6;refine zbN ?_
  try simp only [zaV,zaQ,↓reduceIte,zad]
  obtain rfl:=zai hy6;simp only [Sum.elim_inl] at h;refine zaq fun K hK=>?_;simp only [go_sem,seval,c11,e10];apply hK;refine zaw ?_;obtain rfl:=zai h;refine ⟨by simp,?_⟩;simp only [go_sem,↓reduceIte,e10]
theorem zgp {zdR:zaj->zac->(List Int)->zac->Option ((List zac) × zaj)} (zhG:ze5 zdR) {zbl:zaj->(List zac)->(List Int)->zac->Option ((List zac) × zaj)} (zds:zc8 zbl) (n:Nat):zeo (zbM zdR zbl n):=by
 rintro a0 a1 a2 a3 r h q m vs P0 zP0 ⟨hv,hmP0,hvrP0⟩;refine SC.weak ?_;rw [hv];refine SC.apart hmP0 fun hpP0=>?_;have hmsP0:=za7 hmP0
 try simp only [go_sem] at hmP0 hmsP0
 refine SC_w Tryz.func83 rfl (fun xs w=>Tryz.call83 xs w) Tryz.ntmps83 (by kernel_rfl) Tryz.results83 ?_;unfold zbM at h;refine zaq fun K hK=>?_;simp only [go_sem,seval];apply hK;refine zah ?_;refine zaq fun K hK=>?_;simp only [go_sem,seval];apply hK;refine zcn (decide (a1.Op_=([99,97,108,108]:Str))) (by simp only [go_sem,↓reduceIte]) (fun c3=>?_) (fun c3=>?_)
 ·replace h:=zaM c3 h;refine zah ?_;obtain ⟨x4,h5,h⟩:=bind_some h;refine zat fun K hK=>?_;simp only [go_sem,seval,c3];refine SC.by_ (zhG a0 a1 a2 a3 _ h5 _ _ _ P0 zP0 (by simp only [go_sem,↓reduceIte,pz1 hpP0,hmP0,hvrP0])) ?_;simp only [go_sem,seval];apply hK;refine zaw ?_
  try simp only [zaC]
  obtain rfl:=zai h;refine ⟨by simp,?_⟩;simp only [go_sem,↓reduceIte,zan,zak,zfx hpP0]
 ·replace h:=zaN c3 h;refine zaA ?_
  try simp only [zad]
  refine zah ?_;obtain ⟨x6,h7,h⟩:=bind_some h;refine zat fun K hK=>?_;simp only [go_sem,seval,c3];refine SC.by_ (zdV a0 _ h7 _ _ _ P0 zP0 (by simp only [go_sem,↓reduceIte,pz1 hpP0,hmP0,hvrP0])) ?_;simp only [go_sem,Nat.reduceAdd];apply hK;refine zah ?_;refine zaq fun K hK=>?_;simp only [go_sem,seval,pz1 hpP0];apply hK;refine zcn (decide (a1.Op_=([114,101,116,117,114,110]:Str))) (by simp only [go_sem,↓reduceIte]) (fun c8=>?_) (fun c8=>?_)
  ·replace h:=zaM c8 h;refine zah ?_;obtain ⟨x9,h15,h⟩:=bind_some h;obtain ⟨f12,f13,f14⟩:=zaD h15;have f16:a1.zas[0]? = some x9:=f14;obtain ⟨x10,h17,h⟩:=bind_some h;refine zat fun K hK=>?_;simp only [go_sem,seval,pz1 hpP0,c8,f12,f13,f16];refine SC.by_ (zjH n x9 a2 _ h17 _ _ _ (by simp only [go_sem])) ?_;simp only [go_sem,seval];apply hK;refine zah ?_;refine zaq fun K hK=>?_;simp only [go_sem,seval,pz1 hpP0];apply hK;refine zcn (decide (a3.At_<(0:Int))) (by simp only [go_sem,↓reduceIte]) (fun c18=>?_) (fun c18=>?_)
   ·replace h:=zaM c18 h;refine zat fun K hK=>?_;simp only [go_sem,seval,pz1 hpP0,c18];apply hK;refine zah ?_;obtain ⟨x19,h20,h⟩:=bind_some h;refine zat fun K hK=>?_;simp only [go_sem,seval];refine SC.by_ (zfT x6 x10 ({ a3 with At_:=a1.At_ }:zac) _ h20 _ _ _ P0 zP0 (by simp only [go_sem,↓reduceIte,pz1 hpP0])) ?_;simp only [go_sem,seval];apply hK;refine zaw ?_
    try simp only [zaC]
    obtain rfl:=zai h;refine ⟨by simp,?_⟩;simp only [go_sem,↓reduceIte,zan,zak,zfx hpP0]
   ·replace h:=zaN c18 h;refine zaA ?_
    try simp only [zad]
    refine zah ?_;obtain ⟨x21,h22,h⟩:=bind_some h;refine zat fun K hK=>?_;simp only [go_sem,seval,pz1 hpP0,c18];refine SC.by_ (zfT x6 x10 a3 _ h22 _ _ _ P0 zP0 (by simp only [go_sem,↓reduceIte,pz1 hpP0])) ?_;simp only [go_sem,seval];apply hK;refine zaw ?_
    try simp only [zaC]
    obtain rfl:=zai h;refine ⟨by simp,?_⟩;simp only [go_sem,↓reduceIte,zan,zak,zfx hpP0]
  ·replace h:=zaN c8 h;refine zaA ?_
   try simp only [zad]
   refine zah ?_;obtain ⟨x23,h25,h⟩:=bind_some h;obtain ⟨x24,h26,h⟩:=bind_some h;refine zaU (tbl:=[0,1,0,7,0,16,0,127,63,511,1023,2047]) (ord:=[(0,0),(1,0),(2,0),(3,0),(4,0),(5,1),(6,0),(7,0),(8,0),(9,0),(10,0),(11,0)]) 23 rfl (by kernel_rfl) (by kernel_rfl) fun K hK=>?_;simp only [go_sem,seval,pz1 hpP0,c8];refine zaT (zjY a1.Var_ a2 _ h25 _ _ _ (by simp only [go_sem])) rfl ?_;simp only [go_sem,seval,pz1 hpP0];refine zaT (zmu n a1.zas a2 _ h26 _ _ _ (by simp only [go_sem])) rfl ?_;simp only [go_sem,seval,pz1 hpP0];apply hK;simp only [zad];refine zah ?_;obtain ⟨x27,h29,h⟩:=bind_some h;obtain ⟨x28,h30,h⟩:=bind_some h;refine zaU (tbl:=[0,0,2,0,0,31,0,0,128,0,0,2047,447,8191,16383,32767]) (ord:=[(0,0),(1,0),(2,0),(3,0),(4,0),(5,0),(6,0),(7,0),(8,1),(9,0),(10,1),(11,0),(12,0),(13,0),(14,0),(15,0)]) 39 rfl (by kernel_rfl) (by kernel_rfl) fun K hK=>?_;simp only [go_sem,seval,pz1 hpP0];refine zaT (zds x6 a1.zba a2 a3 _ h29 _ _ _ P0 zP0 (by simp only [go_sem,↓reduceIte,pz1 hpP0])) rfl ?_;simp only [go_sem,seval,pz1 hpP0];refine zaT (zds x27.2 a1.zeO a2 a3 _ h30 _ _ _ P0 zP0 (by simp only [go_sem,↓reduceIte])) rfl ?_;simp only [go_sem,seval,pz1 hpP0];apply hK;simp only [zad];refine zaq fun K hK=>?_;simp only [go_sem,seval];apply hK;refine zaw ?_;obtain rfl:=zai h;refine ⟨by simp,?_⟩;simp only [go_sem,↓reduceIte,zan,zak,zfx hpP0]
theorem zhy {zbl:zaj->(List zac)->(List Int)->zac->Option ((List zac) × zaj)} (zds:zc8 zbl) (n:Nat):ze5 (zdm zbl n):=by
 rintro a0 a1 a2 a3 r h q m vs P0 zP0 ⟨hv,hmP0,hvrP0⟩;refine SC.weak ?_;rw [hv];refine SC.apart hmP0 fun hpP0=>?_;have hmsP0:=za7 hmP0
 try simp only [go_sem] at hmP0 hmsP0
 refine SC_w Tryz.func120 rfl (fun xs w=>Tryz.call120 xs w) Tryz.ntmps120 (by kernel_rfl) Tryz.results120 ?_;unfold zdm at h;refine zaq fun K hK=>?_;simp only [go_sem,seval];apply hK;refine zah ?_;obtain ⟨x3,h4,h⟩:=bind_some h;refine zat fun K hK=>?_;simp only [go_sem,seval];refine SC.by_ (zdV a0 _ h4 _ _ _ P0 zP0 (by simp only [go_sem,↓reduceIte,pz2 hpP0,hmP0,hvrP0])) ?_;simp only [go_sem,Nat.reduceAdd];apply hK;refine zah ?_;obtain ⟨x5,h10,h⟩:=bind_some h;obtain ⟨f7,f8,f9⟩:=zaD h10;refine zaU (tbl:=[0,1,3,7,15,0,32,127,255,0,1023]) (ord:=[(0,0),(1,0),(2,0),(3,0),(4,0),(5,0),(6,0),(7,0),(8,0),(9,0),(10,0)]) 16 rfl (by kernel_rfl) (by kernel_rfl) fun K hK=>?_;simp only [go_sem,seval,pz2 hpP0,f7,f8,f9];apply hK;simp only [zad];refine zah ?_;obtain ⟨x11,h12,h⟩:=bind_some h;refine zat fun K hK=>?_;simp only [go_sem,seval,pz2 hpP0];refine SC.mono (zih n x3 a1 x5 a2 _ h12 _ _ _ P0 zP0 (by simp only [go_sem,↓reduceIte,pz2 hpP0])) ?_;rintro _ _ ⟨o_x11,j_x11,o2_x11,j2_x11,s_x11,s2_x11,d_x11,d2_x11,rfl,rfl⟩;replace s_x11:q <:+ o_x11:=List.IsSuffix.trans (by simp only [go_sem]) s_x11;replace s2_x11:q <:+ o2_x11:=List.IsSuffix.trans (by simp only [go_sem]) s2_x11;simp only [go_sem,seval];apply hK;refine zah ?_;refine zah ?_;obtain ⟨⟨f13,f14⟩,h⟩:=zaS h;refine zat fun K hK=>?_;simp only [go_sem,seval,pz2 hpP0,f13,f14];apply hK;refine zaL ?_;obtain ⟨y19,hy19,h⟩:=bind_some h;refine zbj [] [] rfl (fun c E' m'=>∃v16 v17 v18 o_v16 j_v16,zch x5 c v16 v17 v18=some y19/\E' 0=.ptr P0 0/\E' 2=.list .none (a2.map (cI .i64))/\E' 5=.ptr (0::q) 0/\E' 7=.ptr (1::q) 0/\E' 9=.ptr (14::q) 0/\E' 10=.list (.st (.anon o_x11 j_x11)) (x11.1.map zac.C)/\m'.tok o_x11 j_x11=true/\q <:+ o_x11/\E' 11=.list (.st (.anon o_v16 j_v16)) (v16.map (cI .i64))/\m'.tok o_v16 j_v16=true/\q <:+ o_v16/\E' 37=.list .none ((x5.zaJ.drop x5.zaE.toNat).map zar.C)/\E' 38=.lit (.int .i64 ((x5.zaJ.drop x5.zaE.toNat).length:Int))/\E' 39=.lit (.int .i64 v17)/\(o_x11=o_v16)=False/\(o_v16=o_x11)=False/\m'.blk P0=some ((zaz.C v18.p_)++[.lit (.string (bs v18.f_.zco)),.lit (.bool v18.f_.zbr),.lit (.int .i64 v18.f_.zaX),.lit (.int .i64 v18.f_.zaE),.list .self (v18.f_.zaJ.map zar.C),.list .none (v18.f_.zba.map zac.C),.lit (.int .i64 v18.zcm),.lit (.int .i64 v18.e_)])/\m'.blk (0::q)=some ((zac.C a1))/\m'.blk (1::q)=some ((zac.C a3))/\m'.blk (14::q)=some ((zao.C x5))/\m'.ver P0 5=zP0+v18.f_.zaJ.length/\m'.gl=m.gl/\m.back q m'=(m.setv P0 5 ((zaz.C v18.p_)++[.lit (.string (bs v18.f_.zco)),.lit (.bool v18.f_.zbr),.lit (.int .i64 v18.f_.zaX),.lit (.int .i64 v18.f_.zaE),.list .self (v18.f_.zaJ.map zar.C),.list .none (v18.f_.zba.map zac.C),.lit (.int .i64 v18.zcm),.lit (.int .i64 v18.e_)]) (zP0+v18.f_.zaJ.length))) n ⟨x11.2.1,(0:Int),x11.2.2,o2_x11,j2_x11,hy19,?_⟩ ?_
 ·simp only [go_sem,seval,zan,zaH,zak,zfx hpP0,pz2 hpP0,s_x11,s2_x11,d_x11,d2_x11]
 rintro i15 c20 E21 m22 ⟨v16,v17,v18,o_v16,j_v16,hy19,e23⟩ _
 rcases c20 with _ | c20
 ·exact absurd hy19 (by rw [zch];exact fun e=>nomatch e)
 rw [zch] at hy19;refine zaq fun K hK=>?_;simp only [go_sem,e23];apply hK;refine zah ?_;refine zcn (decide (v17<((x5.zaJ.drop x5.zaE.toNat).length:Int))) (by simp only [go_sem,↓reduceIte]) (fun c24=>?_) (fun c24=>?_)
 ·replace hy19:=zaM c24 hy19;refine zaA ?_
  try simp only [zad]
  refine zah ?_;refine zaL ?_;refine zah ?_;obtain ⟨x25,h30,hy19⟩:=bind_some hy19;obtain ⟨f27,f28,f29⟩:=zaD h30;refine zat fun K hK=>?_;simp only [go_sem,seval,f27,f28,f29,e23];apply hK;obtain ⟨x31,h32,hy19⟩:=bind_some hy19;obtain ⟨f33,hy19⟩:=zaS hy19;have f34:v16.length+1<=1073741824:=by first | omega | (simp only [List.length_append,List.length_cons,List.length_nil] at f33 ⊢;omega)
  have f35:v16.length<=1073741823:=by first | omega | (simp only [List.length_append,List.length_cons,List.length_nil] at f33 ⊢;omega)
  refine zjP (o:=o_x11) (j:=j_x11) (by simp only [go_sem,e23]) fun f36=>?_;have f37:=f36 10 (by omega);refine zc0 fun K hK=>?_;simp only [go_sem,seval,e23];refine SC.by_ (zdU v18 x25 _ h32 _ _ _ P0 zP0 (by simp only [go_sem,↓reduceIte,pz2 hpP0,e23])) ?_;simp only [go_sem,seval,f34,e23];apply hK;simp only [zad,zau];refine zat fun K hK=>?_;simp only [go_sem,seval,e23];apply hK;refine ⟨c20,Nat.lt_succ_self _,(v16++[x31.1]),(IntKind.i64.wrap (v17+(1:Int))),x31.2,(10::i15::33::q),0,hy19,?_⟩;simp only [go_sem,seval,zan,zaH,zfx hpP0,pz2 hpP0,s_x11,f37.1,f37.2,e23]
 ·replace hy19:=zaN c24 hy19;refine zbN ?_
  try simp only [zaV,zaQ,↓reduceIte,zad]
  obtain rfl:=zai hy19;refine zah ?_;refine zaq fun K hK=>?_;simp only [go_sem,seval,c24,e23];apply hK;refine zbK (v18.e_ != (0:Int)) (fun c38=>?_) (fun c38=>?_)
  ·replace h:=zaM c38 h;refine zaq fun K hK=>?_;simp only [go_sem,Nat.reduceAdd,c38];apply hK;refine zaw ?_
   try simp only [zaC]
   obtain rfl:=zai h;refine ⟨by simp,?_⟩;simp only [go_sem,↓reduceIte,e23]
  ·replace h:=zaN c38 h;refine zaA ?_
   try simp only [zad]
   refine zah ?_;obtain ⟨x39,h41,h⟩:=bind_some h;obtain ⟨x40,h42,h⟩:=bind_some h;obtain ⟨f43,h⟩:=zaS h;have f44:x11.1.length+x40.1.length<=1073741824:=by first | omega | (simp only [List.length_append,List.length_cons,List.length_nil] at f43 ⊢;omega)
   refine zjP (o:=o_v16) (j:=j_v16) (by simp only [go_sem,e23]) fun f45=>?_;have f46:=f45 50 (by omega);refine zaU (tbl:=[0,0,0,4,0,0,0,0,0,480,1022,2047,4095]) (ord:=[(5,0),(6,0),(7,0),(8,0),(9,0),(1,0),(2,0),(3,1),(4,0),(10,0),(0,0),(11,0),(12,0)]) 52 rfl (by kernel_rfl) (by kernel_rfl) fun K hK=>?_;simp only [go_sem,seval,c38,e23];refine zaT (zhS v18 a1 a2 a3 _ h41 _ _ _ P0 zP0 (by simp only [go_sem,e23])) rfl ?_;simp only [go_sem,seval,e23];refine zaT (zds v18 x5.zba v16 x39 _ h42 _ _ _ P0 zP0 (by simp only [go_sem,e23])) rfl ?_;simp only [go_sem,seval,f43,e23];apply hK;simp only [zad];refine zaw ?_;obtain rfl:=zai h;refine ⟨by simp,?_⟩;simp only [go_sem,↓reduceIte,zaH,zfx hpP0,s_x11,e23]
theorem zfc:∀n,zc8 (zcc n)/\zeo (zbY n)/\ze5 (zeF n)
 | 0=>⟨fun _ _ _ _ _ h=>zbV h,fun _ _ _ _ _ h=>zbV h,fun _ _ _ _ _ h=>zbV h⟩
 | n+1=>
   have ih:=zfc n
   ⟨zhg ih.2.1 n,zgp ih.2.2 ih.1 n,zhy ih.1 n⟩
theorem zhT (n:Nat):zc8 (zcc n):=(zfc n).1
def znU (f:zaz->Int->Option (zao × Int)):Prop:=∀a0 a1 r,f a0 a1=some r->∀(q:Pa) (m:M) (vs:List V),vs.map V.weak1=[.agg ((zaz.C a0)),.lit (.int .i64 a1)]->SC Tryz.prog 22 vs q m (fun v m'=>v=.tup [.agg ((zao.C r.1)),.lit (.int .i64 r.2)]/\m'=m)
theorem zjJ (n:Nat):znU (zfG n):=by
 intro a0 a1 r h q m vs hv;refine SC.weak ?_;rw [hv];refine SC_w Tryz.func22 rfl (fun xs w=>Tryz.call22 xs w) Tryz.ntmps22 (by kernel_rfl) Tryz.results22 ?_;unfold zfG at h;refine zaq fun K hK=>?_;simp only [go_sem,Nat.reduceAdd];apply hK;refine zah ?_;refine zah ?_;obtain ⟨y3,hy3,h⟩:=bind_some h;refine zbm 12 [] [] rfl (fun E' m'=>E' 1=.lit (.int .i64 a1)/\E' 2=.ptr (0::q) 0/\E' 4=.ptr (1::q) 0/\E' 15=.lit (.bool y3)/\m'.blk (0::q)=some ((zaz.C a0))/\m'.blk (1::q)=some ([.lit (.string (bs [])),.lit (.bool false),.lit (.int .i64 (0:Int)),.lit (.int .i64 (0:Int)),.list .self ([].map zar.C),.list .self ([].map zac.C)])/\m'.gl=m.gl/\m.back q m'=m) ?_ ?_
 ·rcases zbk (decide (a1<(0:Int))) with c4 | c4
  ·replace hy3:=zaM c4 hy3;refine zat fun K hK=>?_;simp only [go_sem,seval,c4];apply hK;obtain rfl:=zai hy3;refine ⟨by decide,?_⟩;simp only [go_sem,seval,zan,zak]
  ·replace hy3:=zaN c4 hy3;refine zat fun K hK=>?_;simp only [go_sem,seval,c4];apply hK;obtain rfl:=zai hy3;refine ⟨by decide,?_⟩;simp only [go_sem,seval,zan,zak]
 ·intro E5 m6 e7 _;simp only [zad];refine zcn y3 (by simp only [go_sem,e7]) (fun c8=>?_) (fun c8=>?_)
  ·replace h:=zaM c8 h;refine zaq fun K hK=>?_;simp only [go_sem,seval,e7];apply hK;refine zk4 (id:=(1::q)) (off:=4) (cs:=[.lit (.string (bs [])),.lit (.bool false),.lit (.int .i64 (0:Int)),.lit (.int .i64 (0:Int)),.nilv,.nilv]) (by simp only [go_sem,↓reduceIte]) rfl ?_;refine zk4 (id:=(1::q)) (off:=5) (cs:=[.lit (.string (bs [])),.lit (.bool false),.lit (.int .i64 (0:Int)),.lit (.int .i64 (0:Int)),.list .none [],.nilv]) (by simp only [go_sem,↓reduceIte]) rfl ?_;refine zaw ?_
   try simp only [zaC]
   obtain rfl:=zai h;refine ⟨by simp,?_⟩;simp only [go_sem,seval,zan,e7]
  ·replace h:=zaN c8 h;refine zaA ?_
   try simp only [zad]
   refine zah ?_;obtain ⟨x9,h14,h⟩:=bind_some h;obtain ⟨f11,f12,f13⟩:=zaD h14;refine zaU (tbl:=[0,0,2,0,14,30,63,127,255]) (ord:=[(0,0),(1,0),(2,0),(3,0),(4,0),(5,0),(6,0),(7,0),(8,0)]) 21 rfl (by kernel_rfl) (by kernel_rfl) fun K hK=>?_;simp only [go_sem,seval,f11,f12,f13,e7];apply hK;simp only [zad];refine zah ?_;refine SW_setv (id:=(19::q)) (off:=5) (n:=m6.ver (19::q) 5+x9.zaJ.length) (cs:=[.list .none (a0.zaB.map zao.C),.lit (.string (bs x9.zco)),.lit (.bool x9.zbr),.lit (.int .i64 x9.zaX),.lit (.int .i64 x9.zaE),.list .none (x9.zaJ.map zar.C),.list .none (x9.zba.map zac.C),.lit (.int .i64 (0:Int)),.lit (.int .i64 (0:Int))]) (v0:=.list .none (x9.zaJ.map zar.C)) (by simp only [go_sem,↓reduceIte]) rfl (fun _=>rfl) (fun _ h=>by cases h) (by simp only [go_sem];exact Nat.le_add_right _ _) ?_;obtain ⟨f15,h⟩:=zaS h;have f16:x9.zaJ.length<=1073741824:=by first | omega | (simp only [List.length_append,List.length_cons,List.length_nil] at f15 ⊢;omega)
   refine zat fun K hK=>?_;simp only [go_sem,seval,f15];apply hK;refine zah ?_;obtain ⟨x17,h18,h⟩:=bind_some h;refine zat fun K hK=>?_;simp only [go_sem,seval];refine SC.by_ (zhT n (zaj.mk a0 x9 (0:Int) (0:Int)) x9.zba [] (zac.mk ([114,101,116,117,114,110]:Str) (-1:Int) (0:Int) [] [] [] (-1:Int)) _ h18 _ _ _ (19::q) (m6.ver (19::q) 5+1) (by simp only [go_sem,Nat.add_right_comm,↓reduceIte])) ?_;simp only [go_sem,seval];apply hK;refine zah ?_;refine zaq fun K hK=>?_;simp only [go_sem,seval];apply hK;refine zbK (x17.2.e_ != (0:Int)) (fun c19=>?_) (fun c19=>?_)
   ·replace h:=zaM c19 h;refine zah ?_;refine zaU (tbl:=[0,0,2,6,14,1,63]) (ord:=[(0,0),(5,0),(1,0),(2,0),(3,0),(4,1),(6,0)]) 58 rfl (by kernel_rfl) (by kernel_rfl) fun K hK=>?_;simp only [go_sem,seval,c19,e7];apply hK;simp only [zad];refine zk4 (id:=(1::q)) (off:=4) (cs:=[.lit (.string (bs [])),.lit (.bool false),.lit (.int .i64 (0:Int)),.lit (.int .i64 (0:Int)),.nilv,.nilv]) (by simp only [go_sem,↓reduceIte]) rfl ?_;refine zk4 (id:=(1::q)) (off:=5) (cs:=[.lit (.string (bs [])),.lit (.bool false),.lit (.int .i64 (0:Int)),.lit (.int .i64 (0:Int)),.list .none [],.nilv]) (by simp only [go_sem,↓reduceIte]) rfl ?_;refine zaw ?_
    try simp only [zaC]
    obtain rfl:=zai h;refine ⟨by simp,?_⟩;simp only [go_sem,seval,zan,zl8,za6,zaH,e7]
   ·replace h:=zaN c19 h;refine zaA ?_
    try simp only [zad]
    refine zaq fun K hK=>?_;simp only [go_sem,seval,c19,e7];apply hK;refine zaw ?_;obtain rfl:=zai h;refine ⟨by simp,?_⟩;simp only [go_sem,seval,zan,zl8,za6,zaH,e7]
def zh8 (f:Option Bool):Prop:=∀r,f=some r->∀(q:Pa) (m:M) (vs:List V),vs.map V.weak1=[]/\(m.hp=fun _=>none)/\m.gl 1=.eptr [(cA zax.C za1)] 0 0/\m.gl 2=.eptr [(cA cS zbQ)] 0 0/\m.gl 3=.eptr [(cA cS zaW)] 0 0/\m.gl 5=.eptr [(cA (cA cS) zbc)] 0 0->SC Tryz.prog 20 vs q m (fun v m'=>v=.lit (.bool r)/\m'=m)
theorem zhN (n:Nat):zh8 (zdA n):=by
 rintro r h q m vs ⟨hv,hgh,hg1,hg2,hg3,hg5⟩;refine SC.weak ?_;rw [hv];refine SC_w Tryz.func20 rfl (fun xs w=>Tryz.call20 xs w) Tryz.ntmps20 (by kernel_rfl) Tryz.results20 ?_;unfold zdA at h;refine zaq fun K hK=>?_;simp only [go_sem];apply hK;refine zah ?_;obtain ⟨x1,h3,h⟩:=bind_some h;refine zat fun K hK=>?_;simp only [go_sem,seval];refine SC.by_ (zkd n ((102::110::32::103::40::120::58::32::117::51::50::41::32::45::62::32::117::51::50::32::123::32::114::101::116::117::114::110::32::120::32::43::32::49::59::32::125::32::102::110::32::102::40::121::58::32::117::51::50::41::32::45::62::32::117::51::50::32::123::32::121::32::61::32::103::40::121::41::59::32::114::101::116::117::114::110::32::121::59::32::125::[]):Str) _ h3 _ _ _ (by simp only [go_sem,UInt8.reduceToNat,hgh,hg1,hg2,hg3,hg5])) ?_;simp only [go_sem,seval];apply hK;refine zah ?_;obtain ⟨x4,h6,h⟩:=bind_some h;refine zat fun K hK=>?_;simp only [go_sem,seval];refine SC.by_ (zjJ n x1.1 (1:Int) _ h6 _ _ _ (by simp only [go_sem])) ?_;simp only [go_sem,seval];apply hK;refine zah ?_;obtain ⟨y7,hy7,h⟩:=bind_some h;refine zbm 63 [] [] rfl (fun E' m'=>E' 0=.lit (.bool y7)/\m'.gl=m.gl/\m'.hp=m.hp/\m.back q m'=m) ?_ ?_
 ·rcases zbk (x1.2.1 == (0:Int)) with c8 | c8
  ·replace hy7:=zaM c8 hy7
   rcases zbk (x4.2 == (0:Int)) with c9 | c9
   ·replace hy7:=zaM c9 hy7
    rcases zbk ((x4.1.zaJ.length:Int) == (2:Int)) with c10 | c10
    ·replace hy7:=zaM c10 hy7
     rcases zbk ((x4.1.zba.length:Int) == (3:Int)) with c11 | c11
     ·replace hy7:=zaM c11 hy7;obtain ⟨x12,h16,hy7⟩:=bind_some hy7;obtain ⟨f13,f14,f15⟩:=zaD h16;have f17:x4.1.zba[0]? = some x12:=f15
      rcases zbk (decide (x12.Op_=([118,97,114]:Str))) with c18 | c18
      ·replace hy7:=zaM c18 hy7;obtain ⟨x19,h23,hy7⟩:=bind_some hy7;obtain ⟨f20,f21,f22⟩:=zaD h23;have f24:x4.1.zba[1]? = some x19:=f22
       rcases zbk (decide (x19.Op_=([115,101,116]:Str))) with c25 | c25
       ·replace hy7:=zaM c25 hy7;obtain ⟨x26,h30,hy7⟩:=bind_some hy7;obtain ⟨f27,f28,f29⟩:=zaD h30;have f31:x4.1.zba[2]? = some x26:=f29;refine zat fun K hK=>?_;simp only [go_sem,seval,Int.reduceToNat,c8,c9,c10,c11,f13,f14,f17,c18,f20,f21,f24,c25,f27,f28,f31];apply hK;obtain rfl:=zai hy7;refine ⟨by decide,?_⟩;simp only [go_sem,↓reduceIte,zan,zak,hgh]
       ·replace hy7:=zaN c25 hy7;refine zat fun K hK=>?_;simp only [go_sem,seval,Int.reduceToNat,c8,c9,c10,c11,f13,f14,f17,c18,f20,f21,f24,c25];apply hK;obtain rfl:=zai hy7;refine ⟨by decide,?_⟩;simp only [go_sem,↓reduceIte,zan,zak,hgh]
      ·replace hy7:=zaN c18 hy7;refine zat fun K hK=>?_;simp only [go_sem,seval,c8,c9,c10,c11,f13,f14,f17,c18];apply hK;obtain rfl:=zai hy7;refine ⟨by decide,?_⟩;simp only [go_sem,↓reduceIte,zan,zak,hgh]
     ·replace hy7:=zaN c11 hy7;refine zat fun K hK=>?_;simp only [go_sem,seval,c8,c9,c10,c11];apply hK;obtain rfl:=zai hy7;refine ⟨by decide,?_⟩;simp only [go_sem,↓reduceIte,zan,zak,hgh]
    ·replace hy7:=zaN c10 hy7;refine zat fun K hK=>?_;simp only [go_sem,seval,c8,c9,c10];apply hK;obtain rfl:=zai hy7;refine ⟨by decide,?_⟩;simp only [go_sem,↓reduceIte,zan,zak,hgh]
   ·replace hy7:=zaN c9 hy7;refine zat fun K hK=>?_;simp only [go_sem,seval,c8,c9];apply hK;obtain rfl:=zai hy7;refine ⟨by decide,?_⟩;simp only [go_sem,↓reduceIte,zan,zak,hgh]
  ·replace hy7:=zaN c8 hy7;refine zat fun K hK=>?_;simp only [go_sem,seval,c8];apply hK;obtain rfl:=zai hy7;refine ⟨by decide,?_⟩;simp only [go_sem,↓reduceIte,zan,zak,hgh]
 ·intro E32 m33 e34 _;simp only [zad];refine zaw ?_;obtain rfl:=zai h;refine ⟨by simp,?_⟩;simp only [go_sem,e34]
def ze2 (f:(List zaf)->Option (List zal)):Prop:=∀a0 r,f a0=some r->∀(q:Pa) (m:M) (vs:List V),vs.map V.weak1=[.list .none (a0.map zaf.C)]->SC Tryz.prog 86 vs q m (fun v m'=>v=.list .none (r.map zal.C)/\m'=m)
theorem zhv {zbP:(List zaf)->Option (List zal)} (zhE:ze2 zbP) (n:Nat):ze2 (zdi zbP n):=by
 intro a0 r h q m vs hv;refine SC.weak ?_;rw [hv];refine SC_w Tryz.func86 rfl (fun xs w=>Tryz.call86 xs w) Tryz.ntmps86 (by kernel_rfl) Tryz.results86 ?_;unfold zdi at h;refine zaq fun K hK=>?_;simp only [go_sem];apply hK;refine zaq fun K hK=>?_;simp only [go_sem,Nat.reduceAdd];apply hK;refine zah ?_;refine zaq fun K hK=>?_;simp only [go_sem,seval];apply hK;refine zaL ?_;obtain ⟨y4,hy4,h⟩:=bind_some h;refine zfk 3 ([].map zal.C) rfl (by simp only [go_sem,seval]) ?_;refine zbj [] [] rfl (fun c E' m'=>∃v2 v3 o_v2 j_v2,zcg zbP a0 c v2 v3=some y4/\E' 3=.list (.st (.anon o_v2 j_v2)) (v2.map zal.C)/\m'.tok o_v2 j_v2=true/\q <:+ o_v2/\E' 6=.list .none (a0.map zaf.C)/\E' 7=.lit (.int .i64 (a0.length:Int))/\E' 8=.lit (.int .i64 v3)/\m'.gl=m.gl/\m.back q m'=m) n ⟨[],(0:Int),(5::q),0,hy4,?_⟩ ?_
 ·simp only [go_sem,seval,zaH,zak]
 rintro i1 c5 E6 m7 ⟨v2,v3,o_v2,j_v2,hy4,e8⟩ _
 rcases c5 with _ | c5
 ·exact absurd hy4 (by rw [zcg];exact fun e=>nomatch e)
 rw [zcg] at hy4;refine zaq fun K hK=>?_;simp only [go_sem,Nat.reduceAdd,e8];apply hK;refine zah ?_;refine zcn (decide (v3<(a0.length:Int))) (by simp only [go_sem,↓reduceIte]) (fun c9=>?_) (fun c9=>?_)
 ·replace hy4:=zaM c9 hy4;refine zaA ?_
  try simp only [zad]
  refine zah ?_;refine zaL ?_;refine zah ?_;obtain ⟨x10,h15,hy4⟩:=bind_some hy4;obtain ⟨f12,f13,f14⟩:=zaD h15;refine zat fun K hK=>?_;simp only [go_sem,seval,f12,f13,f14,e8];apply hK;refine zah ?_;obtain ⟨f16,hy4⟩:=zaS hy4;have f17:1+x10.Op_.length<=4611686018427387904:=by first | omega | (simp only [List.length_append,List.length_cons,List.length_nil] at f16 ⊢;omega)
  obtain ⟨f18,hy4⟩:=zaS hy4;have f19:v2.length+1<=1073741824:=by first | omega | (simp only [List.length_append,List.length_cons,List.length_nil] at f18 ⊢;omega)
  have f20:v2.length<=1073741823:=by first | omega | (simp only [List.length_append,List.length_cons,List.length_nil] at f18 ⊢;omega)
  refine zat fun K hK=>?_;simp only [go_sem,seval,f17,f19,e8];apply hK;obtain ⟨x21,h22,hy4⟩:=bind_some hy4;obtain ⟨f23,hy4⟩:=zaS hy4;have f24:v2.length+1+x21.length<=1073741824:=by first | omega | (simp only [List.length_append,List.length_cons,List.length_nil] at f23 ⊢;omega)
  refine zc0 fun K hK=>?_;simp only [go_sem,seval];refine SC.by_ (zhE x10.zas _ h22 _ _ _ (by simp only [go_sem])) ?_;simp only [go_sem,seval,f24];apply hK;simp only [zad,zau];refine zat fun K hK=>?_;simp only [go_sem,seval,e8];apply hK;refine ⟨c5,Nat.lt_succ_self _,((v2++[(zal.mk (([61]:Str)++x10.Op_) [] x10.zbg (IntKind.i64.wrap x10.N_) x10.Var_ (x10.zas.length:Int) (0:Int) x10.At_)])++x21),(IntKind.i64.wrap (v3+(1:Int))),(29::i1::6::q),0,hy4,?_⟩;simp only [go_sem,seval,zan,zaH,e8]
 ·replace hy4:=zaN c9 hy4;refine zbN ?_
  try simp only [zaV,zaQ,↓reduceIte,zad]
  obtain rfl:=zai hy4;refine zaq fun K hK=>?_;simp only [go_sem,seval,c9,e8];apply hK;refine zaw ?_;obtain rfl:=zai h;refine ⟨by simp,?_⟩;simp only [go_sem,↓reduceIte,e8]
theorem zfR:∀n,ze2 (zc2 n)
 | 0=>fun _ _ h=>zbV h
 | n+1=>zhv (zfR n) n
def ze1 (f:(List zac)->Option (List zal)):Prop:=∀a0 r,f a0=some r->∀(q:Pa) (m:M) (vs:List V),vs.map V.weak1=[.list .none (a0.map zac.C)]->SC Tryz.prog 57 vs q m (fun v m'=>v=.list .none (r.map zal.C)/\m'=m)
theorem zhu {zbC:(List zac)->Option (List zal)} (zfC:ze1 zbC) (n:Nat):ze1 (zdh zbC n):=by
 intro a0 r h q m vs hv;refine SC.weak ?_;rw [hv];refine SC_w Tryz.func57 rfl (fun xs w=>Tryz.call57 xs w) Tryz.ntmps57 (by kernel_rfl) Tryz.results57 ?_;unfold zdh at h;refine zaq fun K hK=>?_;simp only [go_sem];apply hK;refine zaq fun K hK=>?_;simp only [go_sem,Nat.reduceAdd];apply hK;refine zah ?_;refine zaq fun K hK=>?_;simp only [go_sem,seval];apply hK;refine zaL ?_;obtain ⟨y4,hy4,h⟩:=bind_some h;refine zfk 3 ([].map zal.C) rfl (by simp only [go_sem,seval]) ?_;refine zbj [] [] rfl (fun c E' m'=>∃v2 v3 o_v2 j_v2,zcf zbC n a0 c v2 v3=some y4/\E' 3=.list (.st (.anon o_v2 j_v2)) (v2.map zal.C)/\m'.tok o_v2 j_v2=true/\q <:+ o_v2/\E' 6=.list .none (a0.map zac.C)/\E' 7=.lit (.int .i64 (a0.length:Int))/\E' 8=.lit (.int .i64 v3)/\m'.gl=m.gl/\m.back q m'=m) n ⟨[],(0:Int),(5::q),0,hy4,?_⟩ ?_
 ·simp only [go_sem,seval,zaH,zak]
 rintro i1 c5 E6 m7 ⟨v2,v3,o_v2,j_v2,hy4,e8⟩ _
 rcases c5 with _ | c5
 ·exact absurd hy4 (by rw [zcf];exact fun e=>nomatch e)
 rw [zcf] at hy4;refine zaq fun K hK=>?_;simp only [go_sem,Nat.reduceAdd,e8];apply hK;refine zah ?_;refine zcn (decide (v3<(a0.length:Int))) (by simp only [go_sem,↓reduceIte]) (fun c9=>?_) (fun c9=>?_)
 ·replace hy4:=zaM c9 hy4;refine zaA ?_
  try simp only [zad]
  refine zah ?_;refine zaL ?_;refine zah ?_;obtain ⟨x10,h15,hy4⟩:=bind_some hy4;obtain ⟨f12,f13,f14⟩:=zaD h15;refine zat fun K hK=>?_;simp only [go_sem,seval,f12,f13,f14,e8];apply hK;refine zah ?_;obtain ⟨f16,hy4⟩:=zaS hy4;have f17:v2.length+1<=1073741824:=by first | omega | (simp only [List.length_append,List.length_cons,List.length_nil] at f16 ⊢;omega)
  have f18:v2.length<=1073741823:=by first | omega | (simp only [List.length_append,List.length_cons,List.length_nil] at f16 ⊢;omega)
  refine zat fun K hK=>?_;simp only [go_sem,seval,f17,e8];apply hK;refine zah ?_;obtain ⟨x19,h20,hy4⟩:=bind_some hy4;obtain ⟨f21,hy4⟩:=zaS hy4;have f22:v2.length+1+x19.length<=1073741824:=by first | omega | (simp only [List.length_append,List.length_cons,List.length_nil] at f21 ⊢;omega)
  refine zat fun K hK=>?_;simp only [go_sem,seval];refine SC.by_ (zfR n x10.zas _ h20 _ _ _ (by simp only [go_sem])) ?_;simp only [go_sem,seval,f22];apply hK;refine zah ?_;obtain ⟨x23,h24,hy4⟩:=bind_some hy4;obtain ⟨f25,hy4⟩:=zaS hy4;have f26:v2.length+1+x19.length+x23.length<=1073741824:=by first | omega | (simp only [List.length_append,List.length_cons,List.length_nil] at f25 ⊢;omega)
  refine zat fun K hK=>?_;simp only [go_sem,seval];refine SC.by_ (zfC x10.zba _ h24 _ _ _ (by simp only [go_sem])) ?_;simp only [go_sem,seval,f26];apply hK;obtain ⟨x27,h28,hy4⟩:=bind_some hy4;obtain ⟨f29,hy4⟩:=zaS hy4;have f30:v2.length+1+x19.length+x23.length+x27.length<=1073741824:=by first | omega | (simp only [List.length_append,List.length_cons,List.length_nil] at f29 ⊢;omega)
  refine zc0 fun K hK=>?_;simp only [go_sem,seval];refine SC.by_ (zfC x10.zeO _ h28 _ _ _ (by simp only [go_sem])) ?_;simp only [go_sem,seval,f30];apply hK;simp only [zad,zau];refine zat fun K hK=>?_;simp only [go_sem,seval,e8];apply hK;refine ⟨c5,Nat.lt_succ_self _,((((v2++[(zal.mk x10.Op_ [] x10.Var_ x10.zeD (x10.zas.length:Int) (x10.zba.length:Int) (x10.zeO.length:Int) x10.At_)])++x19)++x23)++x27),(IntKind.i64.wrap (v3+(1:Int))),(43::i1::6::q),0,hy4,?_⟩;simp only [go_sem,seval,zan,zaH,e8]
 ·replace hy4:=zaN c9 hy4;refine zbN ?_
  try simp only [zaV,zaQ,↓reduceIte,zad]
  obtain rfl:=zai hy4;refine zaq fun K hK=>?_;simp only [go_sem,seval,c9,e8];apply hK;refine zaw ?_;obtain rfl:=zai h;refine ⟨by simp,?_⟩;simp only [go_sem,↓reduceIte,e8]
theorem zeT:∀n,ze1 (zcH n)
 | 0=>fun _ _ h=>zbV h
 | n+1=>zhu (zeT n) n
def zi2 (f:zao->Option (List zal)):Prop:=∀a0 r,f a0=some r->∀(q:Pa) (m:M) (vs:List V),vs.map V.weak1=[.agg ((zao.C a0))]->SC Tryz.prog 24 vs q m (fun v m'=>v=.list .none (r.map zal.C)/\m'=m)
theorem zf2 (n:Nat):zi2 (zdt n):=by
 intro a0 r h q m vs hv;refine SC.weak ?_;rw [hv];refine SC_w Tryz.func24 rfl (fun xs w=>Tryz.call24 xs w) Tryz.ntmps24 (by kernel_rfl) Tryz.results24 ?_;unfold zdt at h;refine zaq fun K hK=>?_;simp only [go_sem,Nat.reduceAdd];apply hK;refine zaq fun K hK=>?_;simp only [go_sem,seval];apply hK;refine zah ?_;refine zaq fun K hK=>?_;simp only [go_sem,seval];apply hK;refine zbK a0.zbr (fun c3=>?_) (fun c3=>?_)
 ·replace h:=zaM c3 h;refine zat fun K hK=>?_;simp only [go_sem,seval,c3];apply hK;refine zaq fun K hK=>?_;simp only [go_sem,seval];apply hK;refine zah ?_;refine zaq fun K hK=>?_;simp only [go_sem,seval];apply hK;refine zaL ?_;obtain ⟨y7,hy7,h⟩:=bind_some h;refine zfk 4 ([(zal.mk ([102,110]:Str) a0.zco (1:Int) a0.zaX a0.zaE (a0.zaJ.length:Int) (a0.zba.length:Int) (0:Int))].map zal.C) rfl (by simp only [go_sem,seval]) ?_;refine zbj [] [] rfl (fun c E' m'=>∃v5 v6 o_v5 j_v5,zct a0 c v5 v6=some y7/\E' 1=.ptr (0::q) 0/\E' 4=.list (.st (.anon o_v5 j_v5)) (v5.map zal.C)/\m'.tok o_v5 j_v5=true/\q <:+ o_v5/\E' 26=.list .none (a0.zaJ.map zar.C)/\E' 27=.lit (.int .i64 (a0.zaJ.length:Int))/\E' 28=.lit (.int .i64 v6)/\m'.blk (0::q)=some ((zao.C a0))/\m'.gl=m.gl/\m.back q m'=m) n ⟨([(zal.mk ([102,110]:Str) a0.zco (1:Int) a0.zaX a0.zaE (a0.zaJ.length:Int) (a0.zba.length:Int) (0:Int))]),(0:Int),(28::q),0,hy7,?_⟩ ?_
  ·simp only [go_sem,seval,zan,zaH,zak,c3]
  rintro i4 c8 E9 m10 ⟨v5,v6,o_v5,j_v5,hy7,e11⟩ _
  rcases c8 with _ | c8
  ·exact absurd hy7 (by rw [zct];exact fun e=>nomatch e)
  rw [zct] at hy7;refine zaq fun K hK=>?_;simp only [go_sem,Nat.reduceAdd,e11];apply hK;refine zah ?_;refine zcn (decide (v6<(a0.zaJ.length:Int))) (by simp only [go_sem,↓reduceIte]) (fun c12=>?_) (fun c12=>?_)
  ·replace hy7:=zaM c12 hy7;refine zaA ?_
   try simp only [zad]
   refine zah ?_;refine zaL ?_;refine zah ?_;obtain ⟨x13,h18,hy7⟩:=bind_some hy7;obtain ⟨f15,f16,f17⟩:=zaD h18;refine zat fun K hK=>?_;simp only [go_sem,seval,f15,f16,f17,e11];apply hK;obtain ⟨f19,hy7⟩:=zaS hy7;have f20:v5.length+1<=1073741824:=by first | omega | (simp only [List.length_append,List.length_cons,List.length_nil] at f19 ⊢;omega)
   have f21:v5.length<=1073741823:=by first | omega | (simp only [List.length_append,List.length_cons,List.length_nil] at f19 ⊢;omega)
   refine zc0 fun K hK=>?_;simp only [go_sem,seval,f20,e11];apply hK;simp only [zad,zau];refine zat fun K hK=>?_;simp only [go_sem,seval,e11];apply hK;refine ⟨c8,Nat.lt_succ_self _,(v5++[(zal.mk ([118]:Str) x13.zco x13.za3 x13.zfQ (0:Int) (0:Int) (0:Int) (0:Int))]),(IntKind.i64.wrap (v6+(1:Int))),(14::i4::29::q),0,hy7,?_⟩;simp only [go_sem,seval,zan,zaH,c3,e11]
  ·replace hy7:=zaN c12 hy7;refine zbN ?_
   try simp only [zaV,zaQ,↓reduceIte,zad]
   obtain rfl:=zai hy7;refine zah ?_;obtain ⟨x22,h23,h⟩:=bind_some h;obtain ⟨f24,h⟩:=zaS h;have f25:v5.length+x22.length<=1073741824:=by first | omega | (simp only [List.length_append,List.length_cons,List.length_nil] at f24 ⊢;omega)
   refine zat fun K hK=>?_;simp only [go_sem,seval,c3,c12,e11];refine SC.by_ (zeT n a0.zba _ h23 _ _ _ (by simp only [go_sem])) ?_;simp only [go_sem,seval,f24,e11];apply hK;refine zaw ?_;obtain rfl:=zai h;refine ⟨by simp,?_⟩;simp only [go_sem,↓reduceIte,zaH,e11]
 ·replace h:=zaN c3 h;refine zaA ?_
  try simp only [zad]
  refine zaq fun K hK=>?_;simp only [go_sem,seval,c3];apply hK;refine zah ?_;refine zaq fun K hK=>?_;simp only [go_sem,seval];apply hK;refine zaL ?_;obtain ⟨y33,hy33,h⟩:=bind_some h;refine zfk 4 ([(zal.mk ([102,110]:Str) a0.zco (0:Int) a0.zaX a0.zaE (a0.zaJ.length:Int) (a0.zba.length:Int) (0:Int))].map zal.C) rfl (by simp only [go_sem,seval]) ?_;refine zbj [] [] rfl (fun c E' m'=>∃v31 v32 o_v31 j_v31,zcs a0 c v31 v32=some y33/\E' 1=.ptr (0::q) 0/\E' 4=.list (.st (.anon o_v31 j_v31)) (v31.map zal.C)/\m'.tok o_v31 j_v31=true/\q <:+ o_v31/\E' 26=.list .none (a0.zaJ.map zar.C)/\E' 27=.lit (.int .i64 (a0.zaJ.length:Int))/\E' 28=.lit (.int .i64 v32)/\m'.blk (0::q)=some ((zao.C a0))/\m'.gl=m.gl/\m.back q m'=m) n ⟨([(zal.mk ([102,110]:Str) a0.zco (0:Int) a0.zaX a0.zaE (a0.zaJ.length:Int) (a0.zba.length:Int) (0:Int))]),(0:Int),(26::q),0,hy33,?_⟩ ?_
  ·simp only [go_sem,seval,zan,zaH,zak,c3]
  rintro i30 c34 E35 m36 ⟨v31,v32,o_v31,j_v31,hy33,e37⟩ _
  rcases c34 with _ | c34
  ·exact absurd hy33 (by rw [zcs];exact fun e=>nomatch e)
  rw [zcs] at hy33;refine zaq fun K hK=>?_;simp only [go_sem,Nat.reduceAdd,e37];apply hK;refine zah ?_;refine zcn (decide (v32<(a0.zaJ.length:Int))) (by simp only [go_sem,↓reduceIte]) (fun c38=>?_) (fun c38=>?_)
  ·replace hy33:=zaM c38 hy33;refine zaA ?_
   try simp only [zad]
   refine zah ?_;refine zaL ?_;refine zah ?_;obtain ⟨x39,h44,hy33⟩:=bind_some hy33;obtain ⟨f41,f42,f43⟩:=zaD h44;refine zat fun K hK=>?_;simp only [go_sem,seval,f41,f42,f43,e37];apply hK;obtain ⟨f45,hy33⟩:=zaS hy33;have f46:v31.length+1<=1073741824:=by first | omega | (simp only [List.length_append,List.length_cons,List.length_nil] at f45 ⊢;omega)
   have f47:v31.length<=1073741823:=by first | omega | (simp only [List.length_append,List.length_cons,List.length_nil] at f45 ⊢;omega)
   refine zc0 fun K hK=>?_;simp only [go_sem,seval,f46,e37];apply hK;simp only [zad,zau];refine zat fun K hK=>?_;simp only [go_sem,seval,e37];apply hK;refine ⟨c34,Nat.lt_succ_self _,(v31++[(zal.mk ([118]:Str) x39.zco x39.za3 x39.zfQ (0:Int) (0:Int) (0:Int) (0:Int))]),(IntKind.i64.wrap (v32+(1:Int))),(14::i30::27::q),0,hy33,?_⟩;simp only [go_sem,seval,zan,zaH,c3,e37]
  ·replace hy33:=zaN c38 hy33;refine zbN ?_
   try simp only [zaV,zaQ,↓reduceIte,zad]
   obtain rfl:=zai hy33;refine zah ?_;obtain ⟨x48,h49,h⟩:=bind_some h;obtain ⟨f50,h⟩:=zaS h;have f51:v31.length+x48.length<=1073741824:=by first | omega | (simp only [List.length_append,List.length_cons,List.length_nil] at f50 ⊢;omega)
   refine zat fun K hK=>?_;simp only [go_sem,seval,c3,c38,e37];refine SC.by_ (zeT n a0.zba _ h49 _ _ _ (by simp only [go_sem])) ?_;simp only [go_sem,seval,f50,e37];apply hK;refine zaw ?_;obtain rfl:=zai h;refine ⟨by simp,?_⟩;simp only [go_sem,↓reduceIte,zaH,e37]
def zkp (f:(List zac)->Option Int):Prop:=∀a0 r,f a0=some r->∀(q:Pa) (m:M) (vs:List V),vs.map V.weak1=[.list .none (a0.map zac.C)]->SC Tryz.prog 25 vs q m (fun v m'=>v=.lit (.int .i64 r)/\m'=m)
theorem zlN {zen:(List zac)->Option Int} (zkb:zkp zen) (n:Nat):zkp (zho zen n):=by
 intro a0 r h q m vs hv;refine SC.weak ?_;rw [hv];refine SC_w Tryz.func25 rfl (fun xs w=>Tryz.call25 xs w) Tryz.ntmps25 (by kernel_rfl) Tryz.results25 ?_;unfold zho at h;refine zaq fun K hK=>?_;simp only [go_sem];apply hK;refine zaq fun K hK=>?_;simp only [go_sem,Nat.reduceAdd];apply hK;refine zah ?_;refine zaq fun K hK=>?_;simp only [go_sem,seval];apply hK;refine zaL ?_;obtain ⟨y4,hy4,h⟩:=bind_some h;refine zbj [] [] rfl (fun c E' m'=>∃v2 v3,zfw zen a0 c v2 v3=some y4/\E' 3=.lit (.int .i64 v2)/\E' 6=.list .none (a0.map zac.C)/\E' 7=.lit (.int .i64 (a0.length:Int))/\E' 8=.lit (.int .i64 v3)/\m'.gl=m.gl/\m.back q m'=m) n ⟨(0:Int),(0:Int),hy4,?_⟩ ?_
 ·simp only [go_sem,seval,zak]
 rintro i1 c5 E6 m7 ⟨v2,v3,hy4,e8⟩ _
 rcases c5 with _ | c5
 ·exact absurd hy4 (by rw [zfw];exact fun e=>nomatch e)
 rw [zfw] at hy4;refine zaq fun K hK=>?_;simp only [go_sem,e8];apply hK;refine zah ?_;refine zcn (decide (v3<(a0.length:Int))) (by simp only [go_sem,↓reduceIte]) (fun c9=>?_) (fun c9=>?_)
 ·replace hy4:=zaM c9 hy4;refine zaA ?_
  try simp only [zad]
  refine zah ?_;refine zaL ?_;refine zah ?_;obtain ⟨x10,h15,hy4⟩:=bind_some hy4;obtain ⟨f12,f13,f14⟩:=zaD h15;refine zat fun K hK=>?_;simp only [go_sem,seval,f12,f13,f14,e8];apply hK;obtain ⟨x16,h18,hy4⟩:=bind_some hy4;obtain ⟨x17,h19,hy4⟩:=bind_some hy4;refine zaU (tbl:=[0,0,2,6,14,0,32,110,254,511,1023]) (ord:=[(1,0),(2,0),(3,0),(5,0),(6,1),(7,0),(0,0),(4,0),(8,0),(9,0),(10,0)]) 16 rfl (by kernel_rfl) (by kernel_rfl) fun K hK=>?_;simp only [go_sem,seval];refine zaT (zkb x10.zba _ h18 _ _ _ (by simp only [go_sem])) rfl ?_;simp only [go_sem,seval];refine zaT (zkb x10.zeO _ h19 _ _ _ (by simp only [go_sem])) rfl ?_;simp only [go_sem,seval,e8];apply hK;simp only [zad,zau];refine zat fun K hK=>?_;simp only [go_sem,seval,e8];apply hK;refine ⟨c5,Nat.lt_succ_self _,(IntKind.i64.wrap (v2+(IntKind.i64.wrap ((IntKind.i64.wrap ((1:Int)+x16))+x17)))),(IntKind.i64.wrap (v3+(1:Int))),hy4,?_⟩;simp only [go_sem,seval,zan,e8]
 ·replace hy4:=zaN c9 hy4;refine zbN ?_
  try simp only [zaV,zaQ,↓reduceIte,zad]
  obtain rfl:=zai hy4;refine zaq fun K hK=>?_;simp only [go_sem,seval,c9,e8];apply hK;refine zaw ?_;obtain rfl:=zai h;refine ⟨by simp,?_⟩;simp only [go_sem,↓reduceIte,e8]
theorem zjI:∀n,zkp (zhp n)
 | 0=>fun _ _ h=>zbV h
 | n+1=>zlN (zjI n) n
def zhd (f:Str->Int->Option Bool):Prop:=∀a0 a1 r,f a0 a1=some r->∀(q:Pa) (m:M) (vs:List V),vs.map V.weak1=[.list .none (zeR a0),.lit (.int .i64 a1)]/\(m.hp=fun _=>none)/\m.gl 1=.eptr [(cA zax.C za1)] 0 0/\m.gl 2=.eptr [(cA cS zbQ)] 0 0/\m.gl 3=.eptr [(cA cS zaW)] 0 0/\m.gl 5=.eptr [(cA (cA cS) zbc)] 0 0->SC Tryz.prog 6 vs q m (fun v m'=>v=.lit (.bool r)/\m'=m)
theorem zgY (n:Nat):zhd (zcV n):=by
 rintro a0 a1 r h q m vs ⟨hv,hgh,hg1,hg2,hg3,hg5⟩;refine SC.weak ?_;rw [hv];refine SC_w Tryz.func6 rfl (fun xs w=>Tryz.call6 xs w) Tryz.ntmps6 (by kernel_rfl) Tryz.results6 ?_;unfold zcV at h;refine zaq fun K hK=>?_;simp only [go_sem];apply hK;refine zah ?_;refine zah ?_;obtain ⟨x1,h2,h⟩:=bind_some h;refine zat fun K hK=>?_;simp only [go_sem];refine SC.by_ (zhN n _ h2 _ _ _ (by simp only [go_sem,hgh,hg1,hg2,hg3,hg5])) ?_;simp only [go_sem,seval];apply hK;refine zbK (!x1) (fun c3=>?_) (fun c3=>?_)
 ·replace h:=zaM c3 h;refine zaq fun K hK=>?_;simp only [go_sem,Nat.reduceAdd,c3];apply hK;refine zaw ?_
  try simp only [zaC]
  obtain rfl:=zai h;refine ⟨by simp,?_⟩;simp only [go_sem,↓reduceIte,zak]
 ·replace h:=zaN c3 h;refine zaA ?_
  try simp only [zad]
  refine zah ?_;refine zaq fun K hK=>?_;simp only [go_sem,seval,c3];apply hK;refine zcn (decide ((2000:Int)<(a0.length:Int))) (by simp only [go_sem,↓reduceIte]) (fun c4=>?_) (fun c4=>?_)
  ·replace h:=zaM c4 h;refine zaq fun K hK=>?_;simp only [go_sem,Nat.reduceAdd,c4];apply hK;refine zaw ?_
   try simp only [zaC]
   obtain rfl:=zai h;refine ⟨by simp,?_⟩;simp only [go_sem,↓reduceIte,zak]
  ·replace h:=zaN c4 h;refine zaA ?_
   try simp only [zad]
   refine zah ?_;obtain ⟨x5,h7,h⟩:=bind_some h;refine zat fun K hK=>?_;simp only [go_sem,seval,c4];refine SC.by_ (zkd n a0 _ h7 _ _ _ (by simp only [go_sem,hgh,hg1,hg2,hg3,hg5])) ?_;simp only [go_sem,seval];apply hK;refine zah ?_;refine zaq fun K hK=>?_;simp only [go_sem,seval];apply hK;refine zbK (x5.2.1 != (0:Int)) (fun c8=>?_) (fun c8=>?_)
   ·replace h:=zaM c8 h;refine zaq fun K hK=>?_;simp only [go_sem,Nat.reduceAdd,c8];apply hK;refine zaw ?_
    try simp only [zaC]
    obtain rfl:=zai h;refine ⟨by simp,?_⟩;simp only [go_sem,↓reduceIte,zan,zak]
   ·replace h:=zaN c8 h;refine zaA ?_
    try simp only [zad]
    refine zah ?_;obtain ⟨x9,h11,h⟩:=bind_some h;refine zat fun K hK=>?_;simp only [go_sem,seval,c8];refine SC.by_ (zjJ n x5.1 a1 _ h11 _ _ _ (by simp only [go_sem])) ?_;simp only [go_sem,seval];apply hK;refine zah ?_;refine zaq fun K hK=>?_;simp only [go_sem,seval];apply hK;refine zbK (x9.2 != (0:Int)) (fun c12=>?_) (fun c12=>?_)
    ·replace h:=zaM c12 h;refine zaq fun K hK=>?_;simp only [go_sem,Nat.reduceAdd,c12];apply hK;refine zaw ?_
     try simp only [zaC]
     obtain rfl:=zai h;refine ⟨by simp,?_⟩;simp only [go_sem,↓reduceIte,zan,zak]
    ·replace h:=zaN c12 h;refine zaA ?_
     try simp only [zad]
     refine zah ?_;obtain ⟨x13,h15,h⟩:=bind_some h;refine zat fun K hK=>?_;simp only [go_sem,seval,c12];refine SC.by_ (zjJ n (zaz.mk [x9.1]) (0:Int) _ h15 _ _ _ (by simp only [go_sem])) ?_;simp only [go_sem,seval];apply hK;refine zah ?_;obtain ⟨x16,h18,h⟩:=bind_some h;obtain ⟨x17,h19,h⟩:=bind_some h;refine zaU (tbl:=[0,1,0,7,15,31]) (ord:=[(0,0),(1,0),(2,1),(3,0),(4,0),(5,0)]) 45 rfl (by kernel_rfl) (by kernel_rfl) fun K hK=>?_;simp only [go_sem,seval];refine zaT (zf2 n x9.1 _ h18 _ _ _ (by simp only [go_sem])) rfl ?_;simp only [go_sem,seval];refine zaT (zf2 n x13.1 _ h19 _ _ _ (by simp only [go_sem])) rfl ?_;simp only [go_sem,seval];apply hK;simp only [zad];refine zah ?_;refine zah ?_;obtain ⟨y20,hy20,h⟩:=bind_some h;refine zbm 54 [] [] rfl (fun E' m'=>E' 8=.ptr (24::q) 0/\E' 12=.list .none (x16.map zal.C)/\E' 13=.list .none (x17.map zal.C)/\E' 55=.lit (.bool y20)/\m'.blk (24::q)=some ((zao.C x9.1))/\m'.gl=m.gl/\m'.hp=m.hp/\m.back q m'=m) ?_ ?_
     ·rcases zbk (x13.2 != (0:Int)) with c21 | c21
      ·replace hy20:=zaM c21 hy20;refine zat fun K hK=>?_;simp only [go_sem,seval,c21];apply hK;obtain rfl:=zai hy20;refine ⟨by decide,?_⟩;simp only [go_sem,seval,zan,zak,hgh]
      ·replace hy20:=zaN c21 hy20;refine zat fun K hK=>?_;simp only [go_sem,seval,c21];apply hK;obtain rfl:=zai hy20;refine ⟨by decide,?_⟩;simp only [go_sem,seval,zan,zak,hgh]
     ·intro E22 m23 e24 _;simp only [zad];refine zcn y20 (by simp only [go_sem,e24]) (fun c25=>?_) (fun c25=>?_)
      ·replace h:=zaM c25 h;refine zaq fun K hK=>?_;simp only [go_sem,Nat.reduceAdd];apply hK;refine zaw ?_
       try simp only [zaC]
       obtain rfl:=zai h;refine ⟨by simp,?_⟩;simp only [go_sem,↓reduceIte,e24]
      ·replace h:=zaN c25 h;refine zaA ?_
       try simp only [zad]
       refine zah ?_;refine zaq fun K hK=>?_;simp only [go_sem,seval,e24];apply hK;refine zaL ?_;obtain ⟨y28,hy28,h⟩:=bind_some h;refine zbj [] [] rfl (fun c E' m'=>∃v27,zbL x16 x17 c v27=some y28/\E' 8=.ptr (24::q) 0/\E' 12=.list .none (x16.map zal.C)/\E' 13=.list .none (x17.map zal.C)/\E' 57=.lit (.int .i64 (x16.length:Int))/\E' 58=.lit (.int .i64 v27)/\m'.blk (24::q)=some ((zao.C x9.1))/\m'.gl=m.gl/\m'.hp=m.hp/\m.back q m'=m) n ⟨(0:Int),hy28,?_⟩ ?_
       ·simp only [go_sem,seval,e24,hgh]
       rintro i26 c29 E30 m31 ⟨v27,hy28,e32⟩ _
       rcases c29 with _ | c29
       ·exact absurd hy28 (by rw [zbL];exact fun e=>nomatch e)
       rw [zbL] at hy28;refine zaq fun K hK=>?_;simp only [go_sem,e32];apply hK;refine zah ?_;refine zcn (decide (v27<(x16.length:Int))) (by simp only [go_sem,↓reduceIte]) (fun c33=>?_) (fun c33=>?_)
       ·replace hy28:=zaM c33 hy28;refine zaA ?_
        try simp only [zad]
        refine zah ?_;refine zaL ?_;refine zaq fun K hK=>?_;simp only [go_sem,seval,c33,e32];apply hK;refine zah ?_;obtain ⟨x34,h39,hy28⟩:=bind_some hy28;obtain ⟨f36,f37,f38⟩:=zaD h39;obtain ⟨x35,h43,hy28⟩:=bind_some hy28;obtain ⟨f40,f41,f42⟩:=zaD h43;refine zaU (tbl:=[0,0,3,7,0,0,48,112,255]) (ord:=[(0,0),(1,0),(2,0),(3,0),(4,0),(5,0),(6,0),(7,0),(8,0)]) 12 rfl (by kernel_rfl) (by kernel_rfl) fun K hK=>?_;simp only [go_sem,seval,f36,f37,f38,f41,f42,e32];apply hK;simp only [zad];refine zcn (!((decide (x34.Tag_=x35.Tag_)) && ((decide (x34.za5=x35.za5)) && ((x34.A_ == x35.A_) && ((x34.B_ == x35.B_) && ((x34.C_ == x35.C_) && ((x34.D_ == x35.D_) && ((x34.E_ == x35.E_) && (x34.At_ == x35.At_))))))))) (by simp only [go_sem,↓reduceIte]) (fun c44=>?_) (fun c44=>?_)
        ·replace hy28:=zaM c44 hy28;refine zaq fun K hK=>?_;simp only [go_sem,Nat.reduceAdd,c44];apply hK;refine zaw ?_
         try simp only [zaC,zaZ]
         obtain rfl:=zai hy28;simp only [Sum.elim_inr] at h;obtain rfl:=zai h;refine ⟨by simp,?_⟩;simp only [go_sem,↓reduceIte,e32]
        ·replace hy28:=zaN c44 hy28;refine zaA ?_
         try simp only [zad,zau]
         refine zat fun K hK=>?_;simp only [go_sem,seval,c44,e32];apply hK;refine ⟨c29,Nat.lt_succ_self _,(IntKind.i64.wrap (v27+(1:Int))),hy28,?_⟩;simp only [go_sem,seval,e32,hgh]
       ·replace hy28:=zaN c33 hy28;refine zbN ?_
        try simp only [zaV,zaQ,↓reduceIte,zad]
        obtain rfl:=zai hy28;simp only [Sum.elim_inl] at h;refine zah ?_;obtain ⟨y45,hy45,h⟩:=bind_some h;refine zbm 69 [] [] rfl (fun E' m'=>E' 4=.lit (.bool y45)/\m'.gl=m.gl/\m'.hp=m.hp/\m.back q m'=m) ?_ ?_
        ·obtain ⟨x46,h47,hy45⟩:=bind_some hy45
         rcases zbk (decide (x46<=(16384:Int))) with c48 | c48
         ·replace hy45:=zaM c48 hy45;refine zat fun K hK=>?_;simp only [go_sem,seval,c33,e32];refine SC.by_ (zjI n x9.1.zba _ h47 _ _ _ (by simp only [go_sem])) ?_;simp only [go_sem,seval,c48,e32];apply hK;obtain rfl:=zai hy45;refine ⟨by decide,?_⟩;simp only [go_sem,↓reduceIte,e32,hgh]
         ·replace hy45:=zaN c48 hy45;refine zat fun K hK=>?_;simp only [go_sem,seval,c33,e32];refine SC.by_ (zjI n x9.1.zba _ h47 _ _ _ (by simp only [go_sem])) ?_;simp only [go_sem,seval,c48];apply hK;obtain rfl:=zai hy45;refine ⟨by decide,?_⟩;simp only [go_sem,↓reduceIte,e32,hgh]
        ·intro E49 m50 e51 _;simp only [zad];refine zaw ?_;obtain rfl:=zai h;refine ⟨by simp,?_⟩;simp only [go_sem,e51]
end Go.Proofs.YtldnmmnnohnpkaaGreatDoor.Abs
