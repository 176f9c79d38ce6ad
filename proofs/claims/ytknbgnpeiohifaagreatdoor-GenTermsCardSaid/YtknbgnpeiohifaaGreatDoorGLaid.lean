import Derived.ChangeArms
import Derived.Test.YtknbgnpeiohifaaGreatDoorGGMm
import Derived.Test.YtknbgnpeiohifaaGreatDoorRows
import Derived.LaidMore
import Derived.MakeChecks
import Derived.ChangeSame
set_option linter.all false
namespace Go.Proofs.YtknbgnpeiohifaaGreatDoor.Abs
open Go.RowKit
section
variable {H:Type} {enc:TypeId × Value->H} {P:Program} {w:World} {base:Nat} {spare:Nat->Bool} {held:Bool} {fuel:Nat}
theorem XZ {α:Type} {l:List α} {i:Nat} {x:α} (h:(l.drop i).take 1=[x]):l[i]? = some x:=by
 rw [←xdx];cases hd:l.drop i with
 | nil=>rw [hd] at h;cases h
 | cons y r=>rw [hd] at h;simp at h;simp [h]
theorem tabS {t e n:Nat} {l:List cB} {cs:List Value} {p:List MemPlace} (ht:P.underlying t=some (.array n e)) (he:P.underlying e=some .string) (hce:P.cellsOf e=1) (hct:P.cellsOf t=n) (hl:l.length=n)
  (h:DataW.trod enc P w base spare held fuel t cs=some (.agg (l.map λs=>.lit (.string s)),p)):cs=l.map λs=>Value.string (bs s):=by
 obtain ⟨xs,m,_,hx,hlen,hn,hel⟩:=DataW.trod_array ht h;simp only [Prod.mk.injEq,DataW.agg.injEq] at hx;rw [hct] at hlen;apply Yz;intro i
 by_cases hi:i<n
 ·have h1:=hel i hi;rw [hce,YJ] at h1;obtain ⟨x,hxi⟩:∃x,xs[i]? = some x:=⟨xs[i],yN zb⟩;rw [hxi] at h1;obtain ⟨s,h2,h3,_⟩:=DataW.trod_string he h1;rw [XZ h2,KM];obtain ⟨y,hy⟩:∃y,l[i]? = some y:=⟨l[i],yN zb⟩;have h4:(l.map λs=>(DataW.lit (.string s):DataW H))[i]? = (xs.map (·.1))[i]? := by rw [hx.1]
  rw [KM,KM,hy,hxi,h3] at h4;simp only [PJ,Option.some.injEq,DataW.lit.injEq,Lit.string.injEq] at h4;rw [hy,PJ,h4];cases s;rfl
 ·rw [VH zb,VH (by simp;omega)]
theorem Vo {α:Type} {k:Nat} {cs:List α} {l:List (List α)} (hlen:cs.length=l.length*k) (hk:∀i,i<l.length->∃y,l[i]? = some y/\(cs.drop (i*k)).take k=y):cs=l.flatten:=by
 induction l generalizing cs with
 | nil=>
   rw [sY,Nat.zero_mul] at hlen;rw [List.eq_nil_of_length_eq_zero hlen];rfl
 | cons y l ih=>
   obtain ⟨y',h1,h2⟩:=hk 0 zd;obtain rfl:y=y':=by simpa using h1
   rw [Nat.zero_mul,DH] at h2
   have h3:=ih (cs:=cs.drop k) (by rw [Us,hlen,qB,NM];omega) (λi hi=>by
    obtain ⟨z,h4,h5⟩:=hk (i+1) (by simpa using hi);refine ⟨z,by simpa using h4,?_⟩;rw [List.drop_drop,←h5,NM,Nat.add_comm])
   rw [Ll,←h3,←h2,xeo]
theorem tabSS {t a e n k:Nat} {l:List (List cB)} {cs:List Value} {p:List MemPlace} (ht:P.underlying t=some (.array n a)) (ha:P.underlying a=some (.array k e)) (he:P.underlying e=some .string) (hce:P.cellsOf e=1) (hca:P.cellsOf a=k) (hct:P.cellsOf t=n*k)
  (hl:l.length=n) (hk:∀x ∈ l,x.length=k)
  (h:DataW.trod enc P w base spare held fuel t cs=some (.agg (l.map λx=>.agg (x.map λs=>.lit (.string s))),p)):cs=(l.map λx=>x.map λs=>Value.string (bs s)).flatten:=by
 obtain ⟨xs,m,_,hx,hlen,hn,hel⟩:=DataW.trod_array ht h;simp only [Prod.mk.injEq,DataW.agg.injEq] at hx;rw [hct] at hlen;refine Vo (k:=k) (by rw [hlen,Kn,hl]) ?_;intro i hi;rw [Kn,hl] at hi;have h1:=hel i hi;rw [hca] at h1;obtain ⟨x,hxi⟩:∃x,xs[i]? = some x:=⟨xs[i],yN zb⟩;obtain ⟨y,hy⟩:∃y,l[i]? = some y:=⟨l[i],yN zb⟩;have h4:(l.map λx=>(DataW.agg (x.map λs=>.lit (.string s)):DataW H))[i]? = (xs.map (·.1))[i]? := by rw [hx.1]
 rw [KM,KM,hy,hxi] at h4;simp only [PJ,Option.some.injEq] at h4;rw [hxi] at h1;obtain ⟨x1,x2⟩:=x;simp only at h4;subst h4;refine ⟨_,by rw [KM,hy];rfl,?_⟩;exact tabS ha he hce hca (hk y (GB hy)) h1
end
def Lx (ts:List (Nat × List Value)):GG:=λb o=>(ts.find? (·.1 == b)).bind λt=>t.2[o]?
def Ja (ts:List (Nat × List Value)):Nat->V:=λg=>match ts.find? (·.1 == g) with | some t=>.eptr [t.2.map V.lit] 0 0 | none=>.top
theorem Xb {w:World} {ts:List (Nat × List Value)} (h:∀t ∈ ts,∀o,w.cell? ⟨t.1,o,none⟩=t.2[o]?):Km w (Lx ts):=by
 intro b o v hv;unfold Lx at hv;cases hf:ts.find? (·.1 == b) with
 | none=>rw [hf] at hv;cases hv
 | some t=>
   rw [hf] at hv;have h1:=List.find?_some hf;have h2:=List.mem_of_find?_eq_some hf;simp only [beq_iff_eq] at h1;rw [←h1,h t h2 o];exact hv
theorem lits_cr {c:Conc} (l:List Value):CR c (l.map V.lit) l:=by
 induction l with
 | nil=>exact .nil
 | cons v l ih=>exact .lit ih
theorem Zk {c:Conc} {ts:List (Nat × List Value)} (hG:∀b o v,Lx ts b o=some v->c.G b o=some v) (h1:(ts.all λt=>t.2.all Value.oneCell')=true) (g:Nat):CR c [Ja ts g] [.pointer (some ⟨g,0,none⟩)]:=by
 unfold Ja;cases hf:ts.find? (·.1 == g) with
 | none=>exact .top .nil
 | some t=>
   have h3:=List.mem_of_find?_eq_some hf
   have:=CR.eptr (c:=c) (rows:=[t.2.map V.lit]) (es:=t.2) (sz:=(t.2.map V.lit).length) (i:=0) (off:=0) (b:=g) (o:=0) (vs:=[]) (cs:=[]) (by simpa using lits_cr t.2) zd (λj u hu=>hG _ _ _ (by simp only [Lx,hf,iX,Lk,hu])) (λu hu=>by
    have:=Rj.1 h1 t h3;exact Rj.1 this u hu) .nil
   simpa using this
def M.startG (gl:Nat->V):M:={ M.start with gl:=gl }
section
variable {P:Program} {w:World} {G:GG}
theorem UG {gl:Nat->V} (hC:Km w G) (hg:∀g,CR (Conc.start w G) [gl g] [.pointer (some ⟨g,0,none⟩)]):gT (Conc.start w G) (M.startG gl) w:=
 ⟨hC,λ_ _ h=>JZ h,λ_ _ _ h=>cM rfl h,λs b cap sz len _ hk=>JZ hk,λs s' b cap sz len cap' sz' len' _ _ hk=>JZ hk,λ_ _ _ h=>cM rfl h,hg,λ_ _=>⟨λ_=>rfl,λ_=>rfl⟩,uZ _,λ_ h=>h.elim,λ_ _ h=>JZ h⟩
theorem Ru {gl:Nat->V} (b:Nat):¬ fN (Conc.start w G) (M.startG gl) b:=by
 rintro (⟨id,h,_⟩ | ⟨s,cap,sz,len,_,hk⟩)
 ·exact h rfl
 ·cases hk
theorem qK.belowG {q:Pa} {c':Conc} {m':M} {w':World} {gl:Nat->V} (h:qK q (Conc.start w G) (M.startG gl) w c' m' w'):Below w.heap.size w w':=
 ⟨h.os,h.tape,h.output,h.size,λb hb=>h.heap b hb (Ru b) (.inl hb)⟩
theorem SC.claimG {f:FuncId} {args:List V} {xs:List Value} {R:M->Prop} {gl:Nat->V} (hen:∀(xs:Array Value) (w:World),(callFunc f xs).run P w=.ok (.enter f xs) w) (h:SC P f args [] (M.startG gl) (λr m'=>r=.lit (.bool true)/\R m')) (hC:Km w G) (hg:∀g,CR (Conc.start w G) [gl g] [.pointer (some ⟨g,0,none⟩)]) (ha:CR (Conc.start w G) args xs) :
  Calls P f xs.toArray w λe w'=>e=.returned (.bool true)/\Below w.heap.size w w':=by
 rcases h (Conc.start w G) xs w (UG hC hg) ha (SU []) with ⟨_,k⟩ | ⟨x,w',k,_⟩
 ·refine k.mono λ_ _ ⟨x,c',r,m',e,⟨hr,_⟩,_,hX,hv⟩=>?_;subst e hr;exact ⟨by rw [hv.inv_lit],hX.belowG⟩
 ·rw [hen] at k;cases k
end
def laidP:List (String × DataW Unit):=[("remontoire/lex.signs",Rows.laid_remontoire_lex_signs),("remontoire/parse.words",Rows.laid_remontoire_parse_words),("remontoire/parse.levels",Rows.laid_remontoire_parse_levels)]
def tabsP:List (Nat × List Value):=[(2,gL.map λs=>.string (bs s)),(3,cL.map λs=>.string (bs s)),(8,(dH.map λx=>x.map λs=>Value.string (bs s)).flatten)]
theorem gSigns:Tryz.prog.globalNamed "remontoire/lex.signs" = some 2:=ze
theorem gWords:Tryz.prog.globalNamed "remontoire/parse.words" = some 3:=ze
theorem gLevels:Tryz.prog.globalNamed "remontoire/parse.levels" = some 8:=ze
section
variable {H:Type} {enc:TypeId × Value->H} {P:Program} {w:World} {base:Nat} {spare:Nat->Bool} {held:Bool} {fuel:Nat}
def LD (d:Option TypeDesc) (s i:Nat):Bool:=match d with
 | some (.struct fs)=>(fs.toList.map λf=>(f.type,f.offset)) == [(s,0),(i,1)]
 | _=>false
theorem MU {d:Option TypeDesc} {s i:Nat} (h:LD d s i=true):∃f0 f1:Field,d=some (.struct #[f0,f1])/\f0.type=s/\f0.offset=0/\f1.type=i/\f1.offset=1:=by
 unfold LD at h
 split at h
 ·rename_i fs;obtain ⟨l⟩:=fs;simp only [beq_iff_eq] at h;cases l with
  | nil=>cases h
  | cons f0 l=>
  cases l with
  | nil=>simp at h
  | cons f1 l=>
  cases l with
  | nil=>
    simp only [yV,Dh,List.cons.injEq,Prod.mk.injEq,and_true] at h;exact ⟨f0,f1,rfl,h.1.1,h.1.2,h.2.1,h.2.2⟩
  | cons f2 l=>simp at h
 ·cases h
theorem tabR {t a es ei n:Nat} {k:IntKind} {l:List (cB × Int)} {cs:List Value} {p:List MemPlace} (ht:P.underlying t=some (.array n a)) (har:LD (P.underlying a) es ei=true)
  (he0:P.underlying es=some .string) (he1:P.underlying ei=some (.int k)) (hc0:P.cellsOf es=1) (hc1:P.cellsOf ei=1) (hca:P.cellsOf a=2) (hct:P.cellsOf t=n*2) (hl:l.length=n)
  (h:DataW.trod enc P w base spare held fuel t cs=some (.agg (l.map λx=>.agg [.lit (.string x.1),.lit (.int k x.2)]),p)):cs=(l.map λx=>[Value.string (bs x.1),Value.int k x.2]).flatten:=by
 obtain ⟨f0,f1,ha,rfl,h0,rfl,h1⟩:=MU har;obtain ⟨xs,m,_,hx,hlen,hn,hel⟩:=DataW.trod_array ht h;simp only [Prod.mk.injEq,DataW.agg.injEq] at hx;rw [hct] at hlen;refine Vo (k:=2) (by rw [hlen,Kn,hl]) ?_;intro i hi;rw [Kn,hl] at hi;have h2:=hel i hi;rw [hca] at h2;obtain ⟨x,hxi⟩:∃x,xs[i]? = some x:=⟨xs[i],yN zb⟩;obtain ⟨y,hy⟩:∃y,l[i]? = some y:=⟨l[i],yN zb⟩;have h4:(l.map λx=>(DataW.agg [.lit (.string x.1),.lit (.int k x.2)]:DataW H))[i]? = (xs.map (·.1))[i]? := by rw [hx.1]
 rw [KM,KM,hy,hxi] at h4;simp only [PJ,Option.some.injEq] at h4;rw [hxi] at h2;refine ⟨_,by rw [KM,hy];rfl,?_⟩;obtain ⟨y0,y1,m2,e1,e2,e3,e4⟩:=Go.ChangeShapes.trod_struct2 ha h2;rw [h0,hc0] at e3;rw [h1,hc1] at e4;obtain ⟨s,g1,g2,_⟩:=DataW.trod_string he0 e3;obtain ⟨z,g3,g4,_⟩:=DataW.trod_int he1 e4;rw [e1,g2,g4] at h4;simp only [DataW.agg.injEq,List.cons.injEq,DataW.lit.injEq,Lit.string.injEq,Lit.int.injEq,true_and,and_true] at h4;rw [hca] at e2
 match hc:(cs.drop (i*2)).take 2,e2 with
 | [a0,a1],_=>
   rw [hc] at g1 g3;simp only [DH,SE,Uk,List.cons.injEq,and_true,Sr] at g1 g3;rw [g1,g3];show [Value.string s,Value.int k z]=[Value.string (bs y.1),Value.int k y.2];rw [h4.1,h4.2];cases s;rfl
end
def laidC:List (String × DataW Unit):=laidP++[("remontoire/check.built",Rows.laid_remontoire_check_built)]
def zaW:List (cB × Int):=[([115,101,108,101,99,116],3),([108,111,110,103],1),([108,111],1),([104,105],1),([119,105,100,101],2)]
def tabsC:List (Nat × List Value):=tabsP++[(0,(zaW.map λx=>[Value.string (bs x.1),Value.int .i64 x.2]).flatten)]
theorem gBuilt:Tryz.prog.globalNamed "remontoire/check.built" = some 0:=ze
def laidK:List (String × DataW Unit):=[("remontoire/term.all",Rows.laid_remontoire_term_all),("remontoire/vop.rows",Rows.laid_remontoire_vop_rows)]++(laidC++[("remontoire/interp.ops",Rows.laid_remontoire_interp_ops),("remontoire/gen.simple",Rows.laid_remontoire_gen_simple)])
def opsL:List (cB × Int):=cD.map λx=>(x.GF,x.op_)
def simL:List (cB × Int):=dR.map λx=>(x.GF,x.Wg)
def vrL:List (Int × Int):=dW.map λx=>(x.to_,x.Ws)
def Cq:List (Nat × List Value):=[(5,[Value.int .u32 0,Value.int .u32 4294967295]),(1,(vrL.map λx=>[Value.int .i64 x.1,Value.int .i64 x.2]).flatten)]++(tabsC++[(4,(opsL.map λx=>[Value.string (bs x.1),Value.int .i64 x.2]).flatten),(6,(simL.map λx=>[Value.string (bs x.1),Value.int .i64 x.2]).flatten)])
section
variable {H:Type} {enc:TypeId × Value->H} {P:Program} {w:World} {base:Nat} {spare:Nat->Bool} {held:Bool} {fuel:Nat}
theorem tabT {t e:Nat} {k:IntKind} {a b:Int} {cs:List Value} {p:List MemPlace} (har:LD (P.underlying t) e e=true) (he:P.underlying e=some (.int k)) (hc0:P.cellsOf e=1) (hct:P.cellsOf t=2)
  (h:DataW.trod enc P w base spare held fuel t cs=some (.agg [.lit (.int k a),.lit (.int k b)],p)):cs=[Value.int k a,Value.int k b]:=by
 obtain ⟨f0,f1,ha,h00,h0,h11,h1⟩:=MU har;obtain ⟨y0,y1,m2,e1,e2,e3,e4⟩:=Go.ChangeShapes.trod_struct2 ha h;rw [h0,h00,hc0] at e3;rw [h1,h11,hc0] at e4;obtain ⟨z0,g3,g4,_⟩:=DataW.trod_int he e3;obtain ⟨z1,g5,g6,_⟩:=DataW.trod_int he e4;rw [g4,g6] at e1;simp only [Prod.mk.injEq,DataW.agg.injEq,List.cons.injEq,DataW.lit.injEq,Lit.int.injEq,true_and,and_true] at e1;rw [hct] at e2
 match cs,e2 with
 | [a0,a1],_=>
   simp only [DH,SE,Uk,List.cons.injEq,and_true,Sr] at g3 g5;rw [g3,g5,e1.1.1,e1.1.2]
theorem tabNN {t a e n:Nat} {k:IntKind} {l:List (Int × Int)} {cs:List Value} {p:List MemPlace} (ht:P.underlying t=some (.array n a)) (har:LD (P.underlying a) e e=true)
  (he:P.underlying e=some (.int k)) (hc:P.cellsOf e=1) (hca:P.cellsOf a=2) (hct:P.cellsOf t=n*2) (hl:l.length=n)
  (h:DataW.trod enc P w base spare held fuel t cs=some (.agg (l.map λx=>.agg [.lit (.int k x.1),.lit (.int k x.2)]),p)):cs=(l.map λx=>[Value.int k x.1,Value.int k x.2]).flatten:=by
 obtain ⟨xs,m,_,hx,hlen,hn,hel⟩:=DataW.trod_array ht h;simp only [Prod.mk.injEq,DataW.agg.injEq] at hx;rw [hct] at hlen;refine Vo (k:=2) (by rw [hlen,Kn,hl]) ?_;intro i hi;rw [Kn,hl] at hi;have h2:=hel i hi;rw [hca] at h2;obtain ⟨x,hxi⟩:∃x,xs[i]? = some x:=⟨xs[i],yN zb⟩;obtain ⟨y,hy⟩:∃y,l[i]? = some y:=⟨l[i],yN zb⟩;have h4:(l.map λx=>(DataW.agg [.lit (.int k x.1),.lit (.int k x.2)]:DataW H))[i]? = (xs.map (·.1))[i]? := by rw [hx.1]
 rw [KM,KM,hy,hxi] at h4;simp only [PJ,Option.some.injEq] at h4;rw [hxi,←Prod.eta x,←h4] at h2;exact ⟨_,by rw [KM,hy];rfl,tabT har he hc hca h2⟩
end
theorem gAll:Tryz.prog.globalNamed "remontoire/term.all" = some 5:=ze
theorem gVrows:Tryz.prog.globalNamed "remontoire/vop.rows" = some 1:=ze
theorem gSimple:Tryz.prog.globalNamed "remontoire/gen.simple" = some 6:=ze
theorem gOps:Tryz.prog.globalNamed "remontoire/interp.ops" = some 4:=ze
theorem XV (os:Os) (args:Array Value):laidMetH Tryz.prog laidK ((World.doorLaid Tryz.prog 400 os).forCall (λ_ _=>0) ⟨#[],args,[]⟩).memory:=
 laidMetH_of_parts3 (fuel:=8) (laidMet_of_run' 8 ze ze) ze ze
theorem ZP {W:World} (h:laidMetH Tryz.prog laidK W):∀t ∈ Cq,∀o,W.cell? ⟨t.1,o,none⟩=t.2[o]? := by
 rw [MakeChecks.laidMetH_plain _ _ _ ze] at h;obtain ⟨ps,⟨ga,ta,csa,fa,pa,qa,hga,hta,hva,hda,⟨gv,tv',csv,fv,pv,qv,hgv,htv,hvv,hdv,⟨g0,t0,cs0,f0,p0,q0,hg0,ht0,hv0,hd0,⟨g1,t1,cs1,f1,p1,q1,hg1,ht1,hv1,hd1,⟨g2,t2,cs2,f2,p2,q2,hg2,ht2,hv2,hd2,⟨g3,t3,cs3,f3,p3,q3,hg3,ht3,hv3,hd3,⟨g4,t4,cs4,f4,p4,q4,hg4,ht4,hv4,hd4,⟨g5,t5,cs5,f5,p5,q5,hg5,ht5,hv5,hd5,_,_⟩,_⟩,_⟩,_⟩,_⟩,_⟩,_⟩,_⟩,_,_⟩:=h;obtain rfl:=Li (gAll.symm.trans hga)
 obtain rfl:ta=400:=by
  have h:(Tryz.prog.globals[5]?).map (·.type)=some 400:=ze
  exact (Li (h.symm.trans hta)).symm
 obtain rfl:=Li (gVrows.symm.trans hgv)
 obtain rfl:tv'=334:=by
  have h:(Tryz.prog.globals[1]?).map (·.type)=some 334:=ze
  exact (Li (h.symm.trans htv)).symm
 obtain rfl:=Li (gSimple.symm.trans hg5)
 obtain rfl:t5=429:=by
  have h:(Tryz.prog.globals[6]?).map (·.type)=some 429:=ze
  exact (Li (h.symm.trans ht5)).symm
 obtain rfl:=Li (gSigns.symm.trans hg0);obtain rfl:=Li (gWords.symm.trans hg1);obtain rfl:=Li (gLevels.symm.trans hg2);obtain rfl:=Li (gBuilt.symm.trans hg3);obtain rfl:=Li (gOps.symm.trans hg4)
 obtain rfl:t0=355:=by
  have h:(Tryz.prog.globals[2]?).map (·.type)=some 355:=ze
  exact (Li (h.symm.trans ht0)).symm
 obtain rfl:t1=385:=by
  have h:(Tryz.prog.globals[3]?).map (·.type)=some 385:=ze
  exact (Li (h.symm.trans ht1)).symm
 obtain rfl:t2=438:=by
  have h:(Tryz.prog.globals[8]?).map (·.type)=some 438:=ze
  exact (Li (h.symm.trans ht2)).symm
 obtain rfl:t3=286:=by
  have h:(Tryz.prog.globals[0]?).map (·.type)=some 286:=ze
  exact (Li (h.symm.trans ht3)).symm
 obtain rfl:t4=422:=by
  have h:(Tryz.prog.globals[4]?).map (·.type)=some 422:=ze
  exact (Li (h.symm.trans ht4)).symm
 have hs:Tryz.prog.underlying 9=some .string:=ze
 have hc:Tryz.prog.cellsOf 9=1:=ze
 have e0:=tabS (t:=355) (e:=9) (n:=26) (l:=gL) ze hs hc ze rfl hd0;have e1:=tabS (t:=385) (e:=9) (n:=13) (l:=cL) ze hs hc ze rfl hd1;have e2:=tabSS (t:=438) (a:=349) (e:=9) (n:=7) (k:=3) (l:=dH) ze ze hs hc ze ze rfl zc hd2;have e3:=tabR (t:=286) (a:=285) (n:=5) (k:=.i64) (es:=9) (ei:=3) (l:=zaW) ze ze ze ze ze ze ze ze rfl hd3;have e4:=tabR (t:=422) (a:=421) (n:=15) (k:=.i64) (es:=9) (ei:=3) (l:=opsL) ze ze ze ze ze ze ze ze rfl hd4;have e5:=tabR (t:=429) (a:=428) (n:=8) (k:=.i64) (es:=9) (ei:=3) (l:=simL) ze ze ze ze ze ze ze ze rfl hd5;have ev:=tabNN (t:=334) (a:=265) (n:=32) (k:=.i64) (e:=3) (l:=vrL) ze ze ze ze ze ze rfl hdv;have ea:=tabT (t:=400) (e:=53) (k:=.u32) (a:=0) (b:=4294967295) ze ze ze ze hda;intro t ht o;unfold Cq tabsC tabsP at ht;simp only [Di,St,or_false,Ri,AE] at ht
 rcases ht with rfl | rfl | rfl | rfl | rfl | rfl | rfl | rfl
 ·rw [World.var?_cell hga hva o,←ea,xee]
 ·rw [World.var?_cell hgv hvv o,←ev,xee]
 ·rw [World.var?_cell hg0 hv0 o,←e0,xee]
 ·rw [World.var?_cell hg1 hv1 o,←e1,xee]
 ·rw [World.var?_cell hg2 hv2 o,←e2,xee]
 ·rw [World.var?_cell hg3 hv3 o,←e3,xee]
 ·rw [World.var?_cell hg4 hv4 o,←e4,xee]
 ·rw [World.var?_cell hg5 hv5 o,←e5,xee]
theorem Xa:(Cq.all λt=>t.2.all Value.oneCell')=true:=ze
theorem tabsK_3:Ja Cq 3=.eptr [cA cS cL] 0 0:=ze
theorem tabsK_2:Ja Cq 2=.eptr [cA cS gL] 0 0:=ze
theorem tabsK_8:Ja Cq 8=.eptr [cA (cA cS) dH] 0 0:=ze
theorem tabsK_0:Ja Cq 0=.eptr [cA bK.C cV] 0 0:=ze
theorem tabsK_5:Ja Cq 5=.eptr [[.lit (.int .u32 0),.lit (.int .u32 4294967295)]] 0 0:=ze
theorem tabsK_4:Ja Cq 4=.eptr [cA bG.C cD] 0 0:=ze
theorem tabsK_1:Ja Cq 1=.eptr [cA bT.C dW] 0 0:=ze
theorem tabsK_6:Ja Cq 6=.eptr [cA bP.C dR] 0 0:=ze
