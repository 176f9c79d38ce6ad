import Derived.ChangeArms
import Derived.Test.YtnheknbibdgglaaGreatDoorMGMm
import Derived.Test.YtnheknbibdgglaaGreatDoorRows
import Derived.LaidMore
import Derived.MakeChecks
import Derived.ChangeSame
set_option linter.all false
namespace Go.Proofs.YtnheknbibdgglaaGreatDoor.Abs
open Go.RowKit
section
variable {H:Type} {enc:TypeId × Value->H} {P:Program} {w:World} {base:Nat} {spare:Nat->Bool} {held:Bool} {fuel:Nat}
theorem Sk {α:Type} {l:List α} {i:Nat} {x:α} (h:(l.drop i).take 1=[x]):l[i]? = some x:=by
 rw [←Td];cases hd:l.drop i with
 | nil=>rw [hd] at h;cases h
 | cons y r=>rw [hd] at h;simp at h;simp [h]
theorem tabS {t e n:Nat} {l:List cQ} {cs:List Value} {p:List MemPlace} (ht:P.underlying t=some (.array n e)) (he:P.underlying e=some .string) (hce:P.cellsOf e=1) (hct:P.cellsOf t=n) (hl:l.length=n)
  (h:DataW.trod enc P w base spare held fuel t cs=some (.agg (l.map λs=>.lit (.string s)),p)):cs=l.map λs=>Value.string (bs s):=by
 obtain ⟨xs,m,_,hx,hlen,hn,hel⟩:=DataW.trod_array ht h;simp only [Prod.mk.injEq,DataW.agg.injEq] at hx;rw [hct] at hlen;apply OA;intro i
 by_cases hi:i<n
 ·have h1:=hel i hi;rw [hce,SQ] at h1;obtain ⟨x,hxi⟩:∃x,xs[i]? = some x:=⟨xs[i],tS za⟩;rw [hxi] at h1;obtain ⟨s,h2,h3,_⟩:=DataW.trod_string he h1;rw [Sk h2,AJ];obtain ⟨y,hy⟩:∃y,l[i]? = some y:=⟨l[i],tS za⟩;have h4:(l.map λs=>(DataW.lit (.string s):DataW H))[i]? = (xs.map (·.1))[i]? := by rw [hx.1]
  rw [AJ,AJ,hy,hxi,h3] at h4;simp only [FI,Option.some.injEq,DataW.lit.injEq,Lit.string.injEq] at h4;rw [hy,FI,h4];cases s;rfl
 ·rw [xdu za,xdu (by simp;omega)]
theorem UV {α:Type} {k:Nat} {cs:List α} {l:List (List α)} (hlen:cs.length=l.length*k) (hk:∀i,i<l.length->∃y,l[i]? = some y/\(cs.drop (i*k)).take k=y):cs=l.flatten:=by
 induction l generalizing cs with
 | nil=>
   rw [mO,Nat.zero_mul] at hlen;rw [List.eq_nil_of_length_eq_zero hlen];rfl
 | cons y l ih=>
   obtain ⟨y',h1,h2⟩:=hk 0 zc;obtain rfl:y=y':=by simpa using h1
   rw [Nat.zero_mul,sR] at h2
   have h3:=ih (cs:=cs.drop k) (by rw [HG,hlen,jJ,Kk];omega) (λi hi=>by
    obtain ⟨z,h4,h5⟩:=hk (i+1) (by simpa using hi);refine ⟨z,by simpa using h4,?_⟩;rw [List.drop_drop,←h5,Kk,Nat.add_comm])
   rw [HJ,←h3,←h2,List.take_append_drop]
theorem tabSS {t a e n k:Nat} {l:List (List cQ)} {cs:List Value} {p:List MemPlace} (ht:P.underlying t=some (.array n a)) (ha:P.underlying a=some (.array k e)) (he:P.underlying e=some .string) (hce:P.cellsOf e=1) (hca:P.cellsOf a=k) (hct:P.cellsOf t=n*k)
  (hl:l.length=n) (hk:∀x ∈ l,x.length=k)
  (h:DataW.trod enc P w base spare held fuel t cs=some (.agg (l.map λx=>.agg (x.map λs=>.lit (.string s))),p)):cs=(l.map λx=>x.map λs=>Value.string (bs s)).flatten:=by
 obtain ⟨xs,m,_,hx,hlen,hn,hel⟩:=DataW.trod_array ht h;simp only [Prod.mk.injEq,DataW.agg.injEq] at hx;rw [hct] at hlen;refine UV (k:=k) (by rw [hlen,wM,hl]) ?_;intro i hi;rw [wM,hl] at hi;have h1:=hel i hi;rw [hca] at h1;obtain ⟨x,hxi⟩:∃x,xs[i]? = some x:=⟨xs[i],tS za⟩;obtain ⟨y,hy⟩:∃y,l[i]? = some y:=⟨l[i],tS za⟩;have h4:(l.map λx=>(DataW.agg (x.map λs=>.lit (.string s)):DataW H))[i]? = (xs.map (·.1))[i]? := by rw [hx.1]
 rw [AJ,AJ,hy,hxi] at h4;simp only [FI,Option.some.injEq] at h4;rw [hxi] at h1;obtain ⟨x1,x2⟩:=x;simp only at h4;subst h4;refine ⟨_,by rw [AJ,hy];rfl,?_⟩;exact tabS ha he hce hca (hk y (zX hy)) h1
end
def PW (ts:List (Nat × List Value)):GG:=λb o=>(ts.find? (·.1 == b)).bind λt=>t.2[o]?
def Il (ts:List (Nat × List Value)):Nat->V:=λg=>match ts.find? (·.1 == g) with | some t=>.eptr [t.2.map V.lit] 0 0 | none=>.top
theorem Rd {w:World} {ts:List (Nat × List Value)} (h:∀t ∈ ts,∀o,w.cell? ⟨t.1,o,none⟩=t.2[o]?):GB w (PW ts):=by
 intro b o v hv;unfold PW at hv;cases hf:ts.find? (·.1 == b) with
 | none=>rw [hf] at hv;cases hv
 | some t=>
   rw [hf] at hv;have h1:=List.find?_some hf;have h2:=List.mem_of_find?_eq_some hf;simp only [beq_iff_eq] at h1;rw [←h1,h t h2 o];exact hv
theorem lits_cr {c:Conc} (l:List Value):CR c (l.map V.lit) l:=by
 induction l with
 | nil=>exact .nil
 | cons v l ih=>exact .lit ih
theorem Tv {c:Conc} {ts:List (Nat × List Value)} (hG:∀b o v,PW ts b o=some v->c.G b o=some v) (h1:(ts.all λt=>t.2.all Value.oneCell')=true) (g:Nat):CR c [Il ts g] [.pointer (some ⟨g,0,none⟩)]:=by
 unfold Il;cases hf:ts.find? (·.1 == g) with
 | none=>exact .top .nil
 | some t=>
   have h3:=List.mem_of_find?_eq_some hf
   have:=CR.eptr (c:=c) (rows:=[t.2.map V.lit]) (es:=t.2) (sz:=(t.2.map V.lit).length) (i:=0) (off:=0) (b:=g) (o:=0) (vs:=[]) (cs:=[]) (by simpa using lits_cr t.2) zc (λj u hu=>hG _ _ _ (by simp only [PW,hf,nA,ES,hu])) (λu hu=>by
    have:=KK.1 h1 t h3;exact KK.1 this u hu) .nil
   simpa using this
def M.startG (gl:Nat->V):M:={ M.start with gl:=gl }
section
variable {P:Program} {w:World} {G:GG}
theorem OI {gl:Nat->V} (hC:GB w G) (hg:∀g,CR (Conc.start w G) [gl g] [.pointer (some ⟨g,0,none⟩)]):fZ (Conc.start w G) (M.startG gl) w:=
 ⟨hC,λ_ _ h=>FV h,λ_ _ _ h=>dE rfl h,λs b cap sz len _ hk=>FV hk,λs s' b cap sz len cap' sz' len' _ _ hk=>FV hk,λ_ _ _ h=>dE rfl h,hg,λ_ _=>⟨λ_=>rfl,λ_=>rfl⟩,tW _,λ_ h=>h.elim,λ_ _ h=>FV h⟩
theorem LM {gl:Nat->V} (b:Nat):¬ fC (Conc.start w G) (M.startG gl) b:=by
 rintro (⟨id,h,_⟩ | ⟨s,cap,sz,len,_,hk⟩)
 ·exact h rfl
 ·cases hk
theorem oB.belowG {q:Pa} {c':Conc} {m':M} {w':World} {gl:Nat->V} (h:oB q (Conc.start w G) (M.startG gl) w c' m' w'):Below w.heap.size w w':=
 ⟨h.os,h.tape,h.output,h.size,λb hb=>h.heap b hb (LM b) (.inl hb)⟩
theorem SC.claimG {f:FuncId} {args:List V} {xs:List Value} {R:M->Prop} {gl:Nat->V} (hen:∀(xs:Array Value) (w:World),(callFunc f xs).run P w=.ok (.enter f xs) w) (h:SC P f args [] (M.startG gl) (λr m'=>r=.lit (.bool true)/\R m')) (hC:GB w G) (hg:∀g,CR (Conc.start w G) [gl g] [.pointer (some ⟨g,0,none⟩)]) (ha:CR (Conc.start w G) args xs) :
  Calls P f xs.toArray w λe w'=>e=.returned (.bool true)/\Below w.heap.size w w':=by
 rcases h (Conc.start w G) xs w (OI hC hg) ha (Na []) with ⟨_,k⟩ | ⟨x,w',k,_⟩
 ·refine k.mono λ_ _ ⟨x,c',r,m',e,⟨hr,_⟩,_,hX,hv⟩=>?_;subst e hr;exact ⟨by rw [hv.inv_lit],hX.belowG⟩
 ·rw [hen] at k;cases k
end
def laidP:List (String × DataW Unit):=[("remontoire/lex.signs",Rows.laid_remontoire_lex_signs),("remontoire/parse.words",Rows.laid_remontoire_parse_words),("remontoire/parse.levels",Rows.laid_remontoire_parse_levels)]
def tabsP:List (Nat × List Value):=[(1,gO.map λs=>.string (bs s)),(2,cT.map λs=>.string (bs s)),(6,(dM.map λx=>x.map λs=>Value.string (bs s)).flatten)]
theorem gSigns:Tryz.prog.globalNamed "remontoire/lex.signs" = some 1:=zd
theorem gWords:Tryz.prog.globalNamed "remontoire/parse.words" = some 2:=zd
theorem gLevels:Tryz.prog.globalNamed "remontoire/parse.levels" = some 6:=zd
section
variable {H:Type} {enc:TypeId × Value->H} {P:Program} {w:World} {base:Nat} {spare:Nat->Bool} {held:Bool} {fuel:Nat}
def LY (d:Option TypeDesc) (s i:Nat):Bool:=match d with
 | some (.struct fs)=>(fs.toList.map λf=>(f.type,f.offset)) == [(s,0),(i,1)]
 | _=>false
theorem Nm {d:Option TypeDesc} {s i:Nat} (h:LY d s i=true):∃f0 f1:Field,d=some (.struct #[f0,f1])/\f0.type=s/\f0.offset=0/\f1.type=i/\f1.offset=1:=by
 unfold LY at h
 split at h
 ·rename_i fs;obtain ⟨l⟩:=fs;simp only [beq_iff_eq] at h;cases l with
  | nil=>cases h
  | cons f0 l=>
  cases l with
  | nil=>simp at h
  | cons f1 l=>
  cases l with
  | nil=>
    simp only [oC,qA,List.cons.injEq,Prod.mk.injEq,and_true] at h;exact ⟨f0,f1,rfl,h.1.1,h.1.2,h.2.1,h.2.2⟩
  | cons f2 l=>simp at h
 ·cases h
theorem tabR {t a es ei n:Nat} {k:IntKind} {l:List (cQ × Int)} {cs:List Value} {p:List MemPlace} (ht:P.underlying t=some (.array n a)) (har:LY (P.underlying a) es ei=true)
  (he0:P.underlying es=some .string) (he1:P.underlying ei=some (.int k)) (hc0:P.cellsOf es=1) (hc1:P.cellsOf ei=1) (hca:P.cellsOf a=2) (hct:P.cellsOf t=n*2) (hl:l.length=n)
  (h:DataW.trod enc P w base spare held fuel t cs=some (.agg (l.map λx=>.agg [.lit (.string x.1),.lit (.int k x.2)]),p)):cs=(l.map λx=>[Value.string (bs x.1),Value.int k x.2]).flatten:=by
 obtain ⟨f0,f1,ha,rfl,h0,rfl,h1⟩:=Nm har;obtain ⟨xs,m,_,hx,hlen,hn,hel⟩:=DataW.trod_array ht h;simp only [Prod.mk.injEq,DataW.agg.injEq] at hx;rw [hct] at hlen;refine UV (k:=2) (by rw [hlen,wM,hl]) ?_;intro i hi;rw [wM,hl] at hi;have h2:=hel i hi;rw [hca] at h2;obtain ⟨x,hxi⟩:∃x,xs[i]? = some x:=⟨xs[i],tS za⟩;obtain ⟨y,hy⟩:∃y,l[i]? = some y:=⟨l[i],tS za⟩;have h4:(l.map λx=>(DataW.agg [.lit (.string x.1),.lit (.int k x.2)]:DataW H))[i]? = (xs.map (·.1))[i]? := by rw [hx.1]
 rw [AJ,AJ,hy,hxi] at h4;simp only [FI,Option.some.injEq] at h4;rw [hxi] at h2;refine ⟨_,by rw [AJ,hy];rfl,?_⟩;obtain ⟨y0,y1,m2,e1,e2,e3,e4⟩:=Go.ChangeShapes.trod_struct2 ha h2;rw [h0,hc0] at e3;rw [h1,hc1] at e4;obtain ⟨s,g1,g2,_⟩:=DataW.trod_string he0 e3;obtain ⟨z,g3,g4,_⟩:=DataW.trod_int he1 e4;rw [e1,g2,g4] at h4;simp only [DataW.agg.injEq,List.cons.injEq,DataW.lit.injEq,Lit.string.injEq,Lit.int.injEq,true_and,and_true] at h4;rw [hca] at e2
 match hc:(cs.drop (i*2)).take 2,e2 with
 | [a0,a1],_=>
   rw [hc] at g1 g3;simp only [sR,Gq,Gp,List.cons.injEq,and_true,Bu] at g1 g3;rw [g1,g3];show [Value.string s,Value.int k z]=[Value.string (bs y.1),Value.int k y.2];rw [h4.1,h4.2];cases s;rfl
end
def laidC:List (String × DataW Unit):=laidP++[("remontoire/check.built",Rows.laid_remontoire_check_built)]
def Vl:List (cQ × Int):=[([115,101,108,101,99,116],3),([108,111,110,103],1),([108,111],1),([104,105],1),([119,105,100,101],2)]
def tabsC:List (Nat × List Value):=tabsP++[(0,(Vl.map λx=>[Value.string (bs x.1),Value.int .i64 x.2]).flatten)]
theorem gBuilt:Tryz.prog.globalNamed "remontoire/check.built" = some 0:=zd
def laidI:List (String × DataW Unit):=laidC++[("remontoire/interp.ops",Rows.laid_remontoire_interp_ops)]
def opsL:List (cQ × Int):=eY.map λx=>(x.Qa,x.op_)
def GW:List (Nat × List Value):=tabsC++[(3,(opsL.map λx=>[Value.string (bs x.1),Value.int .i64 x.2]).flatten)]
theorem gOps:Tryz.prog.globalNamed "remontoire/interp.ops" = some 3:=zd
theorem Sh (os:Os) (args:Array Value):laidMetH Tryz.prog laidI ((World.doorLaid Tryz.prog 400 os).forCall (λ_ _=>0) ⟨#[],args,[]⟩).memory:=
 laidMetH_of_parts3 (fuel:=8) (laidMet_of_run' 8 zd zd) zd zd
theorem Ud {W:World} (h:laidMetH Tryz.prog laidI W):∀t ∈ GW,∀o,W.cell? ⟨t.1,o,none⟩=t.2[o]? := by
 rw [MakeChecks.laidMetH_plain _ _ _ zd] at h;obtain ⟨ps,⟨g0,t0,cs0,f0,p0,q0,hg0,ht0,hv0,hd0,⟨g1,t1,cs1,f1,p1,q1,hg1,ht1,hv1,hd1,⟨g2,t2,cs2,f2,p2,q2,hg2,ht2,hv2,hd2,⟨g3,t3,cs3,f3,p3,q3,hg3,ht3,hv3,hd3,⟨g4,t4,cs4,f4,p4,q4,hg4,ht4,hv4,hd4,_,_⟩,_⟩,_⟩,_⟩,_⟩,_,_⟩:=h;obtain rfl:=jN (gSigns.symm.trans hg0);obtain rfl:=jN (gWords.symm.trans hg1);obtain rfl:=jN (gLevels.symm.trans hg2);obtain rfl:=jN (gBuilt.symm.trans hg3);obtain rfl:=jN (gOps.symm.trans hg4)
 obtain rfl:t0=231:=by
  have h:(Tryz.prog.globals[1]?).map (·.type)=some 231:=zd
  exact (jN (h.symm.trans ht0)).symm
 obtain rfl:t1=234:=by
  have h:(Tryz.prog.globals[2]?).map (·.type)=some 234:=zd
  exact (jN (h.symm.trans ht1)).symm
 obtain rfl:t2=259:=by
  have h:(Tryz.prog.globals[6]?).map (·.type)=some 259:=zd
  exact (jN (h.symm.trans ht2)).symm
 obtain rfl:t3=184:=by
  have h:(Tryz.prog.globals[0]?).map (·.type)=some 184:=zd
  exact (jN (h.symm.trans ht3)).symm
 obtain rfl:t4=243:=by
  have h:(Tryz.prog.globals[3]?).map (·.type)=some 243:=zd
  exact (jN (h.symm.trans ht4)).symm
 have hs:Tryz.prog.underlying 9=some .string:=zd
 have hc:Tryz.prog.cellsOf 9=1:=zd
 have e0:=tabS (t:=231) (e:=9) (n:=26) (l:=gO) zd hs hc zd rfl hd0;have e1:=tabS (t:=234) (e:=9) (n:=13) (l:=cT) zd hs hc zd rfl hd1;have e2:=tabSS (t:=259) (a:=208) (e:=9) (n:=7) (k:=3) (l:=dM) zd zd hs hc zd zd rfl zb hd2;have e3:=tabR (t:=184) (a:=183) (n:=5) (k:=.i64) (es:=9) (ei:=3) (l:=Vl) zd zd zd zd zd zd zd zd rfl hd3;have e4:=tabR (t:=243) (a:=242) (n:=15) (k:=.i64) (es:=9) (ei:=3) (l:=opsL) zd zd zd zd zd zd zd zd rfl hd4;intro t ht o;unfold GW tabsC tabsP at ht;simp only [Cj,MR,or_false,EP,wN] at ht
 rcases ht with rfl | rfl | rfl | rfl | rfl
 ·rw [World.var?_cell hg0 hv0 o,←e0,xeq]
 ·rw [World.var?_cell hg1 hv1 o,←e1,xeq]
 ·rw [World.var?_cell hg2 hv2 o,←e2,xeq]
 ·rw [World.var?_cell hg3 hv3 o,←e3,xeq]
 ·rw [World.var?_cell hg4 hv4 o,←e4,xeq]
theorem Rc:(GW.all λt=>t.2.all Value.oneCell')=true:=zd
theorem tabsI_2:Il GW 2=.eptr [cA cS cT] 0 0:=zd
theorem tabsI_1:Il GW 1=.eptr [cA cS gO] 0 0:=zd
theorem tabsI_6:Il GW 6=.eptr [cA (cA cS) dM] 0 0:=zd
theorem tabsI_0:Il GW 0=.eptr [cA bK.C dD] 0 0:=zd
theorem tabsI_3:Il GW 3=.eptr [cA bY.C eY] 0 0:=zd
