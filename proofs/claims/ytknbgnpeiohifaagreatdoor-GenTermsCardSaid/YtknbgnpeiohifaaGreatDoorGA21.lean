import Derived.Test.YtknbgnpeiohifaaGreatDoorGA20
import Derived.Below
set_option linter.all false
namespace Go.Proofs.YtknbgnpeiohifaaGreatDoor.Abs
open Go.RowKit
def dt (S:V->Prop) (C:V->Prop):Prop:=∃v,S v/\C v
@[go_sem] theorem dt_eq {a:V} {C:V->Prop}:dt (λv=>a=v) C=C a:=propext ⟨λ⟨_,h,hc⟩=>h ▸ hc,λh=>⟨a,rfl,h⟩⟩
@[go_sem] theorem dt_and {p:Prop} {S C:V->Prop}:dt (λv=>p/\S v) C=(p/\dt S C):=propext ⟨λ⟨v,⟨hp,hs⟩,hc⟩=>⟨hp,v,hs,hc⟩,λ⟨hp,v,hs,hc⟩=>⟨v,⟨hp,hs⟩,hc⟩⟩
@[congr] theorem dt_congr {S S':V->Prop} {C:V->Prop} (h:∀v,S v=S' v):dt S C=dt S' C:=by rw [show S=S' from funext h]
def dm (S:V->M->Prop) (m:M) (C:V->M->Prop):Prop:=∃v m',S v m'/\m'.gl=m.gl/\C v m'
def dcall (P:Program) (f:V) (args:List V) (q:Pa) (m:M) (C:V->M->Prop):Prop:=∃v m',sfn P f args q m (λr m1=>r=v/\m1=m')/\m'.gl=m.gl/\C v m'
theorem dcall_of {P:Program} {g:FuncId} {first captured args:List V} {q:Pa} {m m':M} {v:V} {C:V->M->Prop} (h:SC P g (first++args++captured) q m (λr m1=>r=v/\m1=m')) (hg:m'.gl=m.gl) (hc:C v m'):dcall P (.fn (.func g) first captured) args q m C:=⟨v,m',h,hg,hc⟩
def Qa (os:List Oper) (i:Nat) (C:Oper->Prop):Prop:=match os[i]? with | some o=>C o | none=>False
@[go_sem] theorem nthO_zero {o:Oper} {os:List Oper} {C:Oper->Prop}:Qa (o::os) 0 C=C o:=rI rfl
@[go_sem] theorem nthO_succ {o:Oper} {os:List Oper} {i:Nat} {C:Oper->Prop}:Qa (o::os) (i+1) C=Qa os i C:=by
 unfold Qa;rw [xdy]
section
variable {P:Program} {full:List Oper} {π:Pa} {k0:Nat} {K:Nat->gE->M->Prop} {i f:Nat} {rest:List (Nat × Nat)} {hist:List M} {E:gE} {m:M} {d:Option Nat} {ty:TypeId} {pos:String} {after:Array Edge} {v:V}
end
section
variable {P:Program} {N:Nat} {π:Pa} {k:Nat} {E:gE} {m:M} {Q:Exit->Nat->gE->M->Prop}
theorem SW_join {x:Code} (J:gE->M->Prop) (h:SW P N π x k E m (vP (λ_ E' m'=>J E' m') Q)) (h2:∀k' E' m',J E' m'->(∀t,wr x t=false->E' t=E t)->Q .normal k' E' m'):SW P N π x k E m Q:=by
 intro hf c a w g1 g2 g3;refine wp_mono (h hf c a w g1 g2 g3) λe a' w' hp=>?_;obtain ⟨c',k',E',m',q1,q2,q3,q4,q5,q6,q7⟩:=hp;cases e with
 | normal=>exact ⟨c',k',E',m',h2 k' E' m' q1 q7,q2,q3,q4,q5,q6,q7⟩
 | _=>exact ⟨c',k',E',m',q1,q2,q3,q4,q5,q6,q7⟩
theorem QU {body:Code} (Inv:gE->M->Prop) (μ:gE->M->Nat) (h0:Inv E m)
  (step:∀(i:Nat) (E':gE) (m':M),Inv E' m'->(∀t,wr body t=false->E' t=E t)->SW P N (i::k::π) body 0 E' m' (vP (λ_ E2 m2=>Inv E2 m2/\μ E2 m2<μ E' m') λe _ E2 m2=>Q e (k+1) E2 m2)) :
  SW P N π (.loop body) k E m Q:=by
 refine SW_loop Inv μ h0 λi E' m' hI hf=>FJ (step i E' m' hI hf) λe k2 E2 m2 h=>?_;cases e <;> exact h
theorem zbe {x:Code} (J:gE->M->Prop) (hJ:J E m) (h:∀E' m',J E' m'->SW P N π x k E' m' Q):SW P N π x k E m Q:=h E m hJ
theorem Sd {x:Code} (J:M->Prop) (hJ:J m) (h:∀m',J m'->SW P N π x k E m' Q):SW P N π x k E m Q:=h m hJ
def zbo (m:M) (π:Pa) (k:Nat):Prop:=∀j,k<=j->∀id,(j::π) <:+ id->m.blk id=none/\(∀off,m.ver id off=0)/\∀i,m.tok id i=false
theorem zbf {x:Code} (h:zbo m π k->SW P N π x k E m Q):SW P N π x k E m Q:=by
 intro hf c a w h1 h2 h3;exact h (λj hj id gG=>⟨h1.fresh_blk (h3 j hj id gG),(h1.ver0 id (h3 j hj id gG)).1,(h1.ver0 id (h3 j hj id gG)).2⟩) hf c a w h1 h2 h3
theorem zbo.fW {j:Nat} (h:zbo m π k) (hj:k<=j):m.blk (j::π)=none/\(∀off,m.ver (j::π) off=0)/\∀i,m.tok (j::π) i=false:=h j hj _ (Qq _)
theorem cN (q:Pa) (m:M):m.back q m=m:=by
 cases m;simp [M.back]
theorem cJ {q id:Pa} {m m':M} {vs:List V} (h:q <:+ id):m.back q (m'.set id vs)=m.back q m':=by
 have hs:q.isSuffixOf id=true:=Px.2 h;unfold M.back
 congr 1
 funext i
 show (if q.isSuffixOf i then m.blk i else if i=id then some vs else m'.blk i)=_
 split
 ·rfl
 ·rename_i hi;rw [cE (by rintro rfl;exact hi hs)]
theorem cG {q id:Pa} {m m':M} {n:Nat} {b:Bool} (h:q <:+ id):m.back q (m'.tokset id n b)=m.back q m':=by
 have hs:q.isSuffixOf id=true:=Px.2 h;unfold M.back
 congr 1
 funext i
 show (if q.isSuffixOf i then m.tok i else λj=>if i=id/\j=n then b else m'.tok i j)=_
 split
 ·rfl
 ·rename_i hi
  funext j
  rw [cE (by rintro ⟨rfl,_⟩;exact hi hs)]
theorem eR {q id:Pa} {m m':M} {off:Nat} (h:q <:+ id):m.back q (m'.bump id off)=m.back q m':=by
 have hs:q.isSuffixOf id=true:=Px.2 h;unfold M.back
 congr 1
 funext i
 show (if q.isSuffixOf i then m.ver i else λo=>if i=id/\o=off then m'.ver i o+1 else m'.ver i o)=_
 split
 ·rfl
 ·rename_i hi
  funext j
  rw [cE (by rintro ⟨rfl,_⟩;exact hi hs)]
theorem vQ {q:Pa}:q <:+ q:=Qq q
theorem fR {q p:Pa} {n:Nat} (h:q <:+ p):q <:+ (n::p):=h.trans (List.suffix_cons n p)
def VW:V->Nat
 | .lit (.int _ i)=>i.toNat
 | _=>0
@[go_sem] theorem natOf_nat {k:IntKind} {n:Nat}:VW (.lit (.int k (n:Int)))=n:=by simp [VW]
theorem XU {m:M} {id:Pa} {j:Nat}:m.drop (.st (.anon id j))=m.tokset id j false:=rI rfl
end
def M.start:M:=⟨λ_=>none,λ_ _=>0,λ_ _=>false,λ_=>.top,λ_=>none⟩
def Conc.start (w:World) (G:GG):Conc:=⟨w.heap.size,λ_=>False,λ_=>none,λ_=>none,G⟩
section
variable {P:Program} {w:World} {G:GG}
theorem JZ {α:Type} {x:α} {p:Prop} (h:(none:Option α)=some x):p:=by cases h
theorem SU (q:Pa):Af (Conc.start w G) q:=λ_ _=>⟨rfl,λ_=>rfl,λ_ _=>rfl,rfl⟩
theorem ints_in {c:Conc} {k:IntKind} {a:Option Addr} {cap:Nat} {zs:List Int} (hl:zs.length<=cap) (hm:cap<=maxLen) (ha:0<zs.length->∃b off,a=some ⟨b,off,none⟩) (hG:Sf c.G a (zs.map (Value.int k))):CR c [.list .none (zs.map λz=>[.lit (.int k z)])] [.slice a zs.length cap]:=by
 have hcr:∀l:List Int,CR c ((l.map λz=>[V.lit (.int k z)]).flatten) (l.map (Value.int k)):=by
  intro l
  induction l with
  | nil=>exact .nil
  | cons z l ih=>exact .lit ih
 have:=CR.list (o:=.none) (a:=a) (cap:=cap) (c:=c) (rows:=zs.map λz=>[V.lit (.int k z)]) (es:=zs.map (Value.int k)) (sz:=1) (vs:=[]) (cs:=[]) (hcr zs) (by intro r hr;obtain ⟨y,_,rfl⟩:=Qo.1 hr;rfl) zc (by simpa using hl) hm (by simpa using ha) hG (by intro u hu;obtain ⟨y,_,rfl⟩:=Qo.1 hu;rfl) trivial .nil;simpa using this
end
end Go.Proofs.YtknbgnpeiohifaaGreatDoor.Abs
namespace Go.Proofs.YtknbgnpeiohifaaGreatDoor
open Go.RowKit
def rowG (x:Addr) (len:Nat) (k:IntKind) (zs:List Int):GG:=λb o=>if b=x.block/\x.off<=o/\o<x.off+len then some (.int k (zs.getD (o - x.off) 0)) else none
theorem Xs (G:GG) (k:IntKind) (zs:List Int) (h:∀n ∈ zs,(Lit.int k n).wf=true):DG G (zs.map (Ys.int k)) (zs.map (Value.int k)):=by
 induction zs with
 | nil=>exact .nil
 | cons z zs ih=>exact .int (h z zd) (ih λn hn=>h n (by simp [hn]))
def KK (G H:GG):GG:=λb o=>match G b o with | some v=>some v | none=>H b o
theorem Yf {w:World} {G H:GG} (h:Km w G) (k:Km w H):Km w (KK G H):=by
 intro b o v hv;unfold KK at hv
 split at hv
 ·rename_i u hu;injection hv with hv;subst hv;exact h _ _ _ hu
 ·exact k _ _ _ hv
theorem Vv {G H:GG} {b o:Nat} {v:Value} (h:G b o=some v):KK G H b o=some v:=by simp [KK,h]
theorem TV {w:World} {G H:GG} (h:Km w G) (k:Km w H) {b o:Nat} {v:Value} (hv:H b o=some v):KK G H b o=some v:=by
 unfold KK
 split
 ·rename_i u hu;have h1:=h _ _ _ hu;have h2:=k _ _ _ hv;rw [h1] at h2;exact h2
 ·exact hv
theorem Is.le {G G':GG} (hle:∀b o v,G b o=some v->G' b o=some v) {es:List Ys} {a:Option Addr} {len cap:Nat} (h:Is G es a len cap):Is G' es a len cap:=by
 obtain ⟨h0,hc,hm,cs,h1,ha⟩:=h;refine ⟨h0,hc,hm,cs,h1.mono hle,λhl=>?_⟩;obtain ⟨b,off,e,h⟩:=ha hl;exact ⟨b,off,e,λi u hu=>hle _ _ _ (h i u hu)⟩
theorem row_in {k:IntKind} {w:World} {a:Option Addr} {len cap:Nat} {zs:List Int}
  (h:(a=none/\len=0/\cap=0/\zs=[]) ∨ ∃x,a=some x/\len<=cap/\cap<=maxLen/\zs.length=cap/\(∀i,i<zs.length->w.cell? (x.add i)=some (.int k (zs.getD i 0)))/\∀n ∈ zs,(Lit.int k n).wf=true) :
  ∃G,Km w G/\Is G ((zs.take len).map (Ys.int k)) a len cap/\(zs.take len).length=len/\∀n ∈ zs.take len,(Lit.int k n).wf=true:=by
 rcases h with ⟨rfl,rfl,rfl,rfl⟩ | ⟨x,rfl,hlc,hm,hz,hcell,hwf⟩
 ·exact ⟨λ_ _=>none,λb o v h=>(by cases h),⟨rfl,uZ _,zc,[],.nil,λh=>by cases h⟩,rfl,zd⟩
 ·have hwf':∀n ∈ zs.take len,(Lit.int k n).wf=true:=λn hn=>hwf n (Ul hn);have hlen:(zs.take len).length=len:=by rw [NL];omega
  rcases Nat.eq_zero_or_pos len with h0 | h0
  ·subst h0;exact ⟨λ_ _=>none,λb o v h=>(by cases h),⟨zd,Ko _,hm,[],by simpa using .nil,λh=>by cases h⟩,rfl,zd⟩
  ·have hsp:x=⟨x.block,x.off,none⟩:=by
    have h1:=hcell 0 zb;cases hs:x.spot with
    | none=>cases x;simp_all
    | some s=>
      unfold World.cell? Addr.add at h1;rw [cX rfl,hs] at h1
      split at h1 <;> simp at h1
   refine ⟨rowG x len k zs,λb o v hv=>?_,⟨by simp;omega,hlc,hm,(zs.take len).map (Value.int k),Xs _ _ _ hwf',λ_=>⟨x.block,x.off,by rw [←hsp],λi u hu=>?_⟩⟩,hlen,hwf'⟩
   ·unfold rowG at hv
    split at hv
    ·rename_i hb
     injection hv with hv
     subst hv;have:=hcell (o - x.off) zb;rw [hsp,oA] at this;rw [hb.1,←this]
     congr 2;simp;omega
    ·cases hv
   ·have hi:i<len:=by have:=(xW.1 hu).1;simp at this;omega
    unfold rowG;rw [cX ⟨rfl,zb,zb⟩];rw [show x.off+i - x.off=i by omega];rw [KM,xep hi,yN zb] at hu;rw [List.getD_eq_getElem?_getD,yN zb];exact hu
end Go.Proofs.YtknbgnpeiohifaaGreatDoor
namespace Go.Proofs.YtknbgnpeiohifaaGreatDoor.Abs
open Go.RowKit
abbrev cB:=List UInt8
def bs (l:cB):ByteArray:=⟨l.toArray⟩
theorem Ki (l:cB):(bs l).size=l.length:=by simp [bs,ByteArray.size]
theorem zaY {a b:cB}:bs a=bs b ↔ a=b:=by
 constructor
 ·intro h;have:=DI (λx:ByteArray=>x.data.toList) h;simpa [bs] using this
 ·rintro rfl;rfl
theorem zaZ (l:cB) (i:Nat) (h:i<(bs l).size):(bs l)[i]=l[i]'(by rw [Ki] at h;exact h):=by
 show (bs l).data[i]=_;simp [bs]
theorem Vu (l:cB) (a b:Nat):(bs l).extract a b=bs ((l.take b).drop a):=by
 apply ByteArray.ext;rw [ByteArray.data_extract];apply Array.ext';simp [bs,List.drop_take]
def sH (l:cB):List (List V):=l.map λb=>[.lit (.int .u8 (b.toNat:Int))]
theorem RZ (l:cB):lS (bs l)=sH l:=by simp [lS,sH,bs]
def sgo (o:Option UInt8) (C:V->Prop):Prop:=match o with | some c=>C (.lit (.int .u8 (c.toNat:Int))) | none=>False
section
variable {P:Program} {T:TypeId} {x y:Operand} {C:V->Prop} {m:M} {E:gE} {s t l:cB} {k:IntKind} {i:Int} {o:NV} {f:FuncId} {args:List V} {q p:Pa}
@[go_sem] theorem Zs {c:UInt8}:sgo (some c) C=C (.lit (.int .u8 (c.toNat:Int))):=rI rfl
@[congr] theorem sgo_congr {o o':Option UInt8} (h:o=o'):sgo o C=sgo o' C:=by rw [h]
@[go_sem high] theorem ev_strb:ev m E (.const (.string ⟨l.toArray⟩))=.lit (.string (bs l)):=rI rfl
@[go_sem high] theorem sbin_seqlb:uR P .eql T x y (.lit (.string (bs s))) (.lit (.string (bs t))) C=C (.lit (.bool (decide (s=t)))):=by
 rw [Xo];simp only [zaY]
@[go_sem high] theorem sbin_sneqb:uR P .neq T x y (.lit (.string (bs s))) (.lit (.string (bs t))) C=C (.lit (.bool (decide (s ≠ t)))):=by
 have:((bs s).toList == (bs t).toList)=decide (s=t):=by
  by_cases h:s=t
  ·subst h;simp
  ·have:¬ (bs s).toList=(bs t).toList:=λe=>h (zaY.1 (CX e));simp [h,this]
 simp [uR,this]
@[go_sem high] theorem slenU_sb:Ou .str (.lit (.string (bs s))) C=C (.lit (.int .i64 s.length)):=by rw [slenU_s,Ki]
@[go_sem high] theorem sindexU_sb:Lz P .str (.lit (.string (bs s))) (.lit (.int k i)) C=(0<=i/\sgo s[i.toNat]? C):=by
 rw [Xh];apply propext;refine and_congr_right λ_=>?_
 by_cases h:i.toNat<s.length
 ·have h':i.toNat<(bs s).size:=by rw [Ki];exact h
  rw [yN h,Zs];exact ⟨λ⟨_,hc⟩=>by rw [zaZ] at hc;exact hc,λhc=>⟨h',by rw [zaZ];exact hc⟩⟩
 ·rw [VH zb];exact ⟨λ⟨h',_⟩=>cM (by rw [Ki] at h';exact h') h,λhc=>hc.elim⟩
def slB:Option Int->Option Int->cB->(V->Prop)->Prop
 | some a,some b,s,C=>0<=a/\a<=b/\b<=s.length/\C (.lit (.string (bs ((s.take b.toNat).drop a.toNat))))
 | _,_,_,_=>False
@[go_sem high] theorem slU_sb {lo hi:Option V}:SY P .str (.lit (.string (bs s))) lo hi C=slB (mX lo 0) (mX hi s.length) s C:=by
 rw [slU_s,Ki];unfold slS slB;cases mX lo 0 <;> cases mX hi s.length <;> first | rfl | (simp only [Ki,Vu])
@[go_sem] theorem slB_some {a b:Int}:slB (some a) (some b) s C=(0<=a/\a<=b/\b<=s.length/\C (.lit (.string (bs ((s.take b.toNat).drop a.toNat))))):=rI rfl
@[go_sem high] theorem cvU_lsb {D e:TypeId}:cvU P T D (.sl e) .str (.list o (sH s)) C=(ud P e=.int .u8/\C (.lit (.string (bs s)))):=by
 rw [←RZ,cvU_ls]
@[congr] theorem slB_congr {a a' b b':Option Int} {s s':cB} (h1:a=a') (h2:b=b') (h3:s=s'):slB a b s C=slB a' b' s' C:=by rw [h1,h2,h3]
theorem SC.by_ {C:V->M->Prop} {v:V} {m':M} (h:SC P f args q m (λr m1=>r=v/\m1=m')) (hC:C v m'):SC P f args q m C:=
 h.mono λ_ _ ⟨e1,e2⟩=>by rw [e1,e2];exact hC
theorem Jh {a:List V} (h:m.blk p=some a):m.set p a=m:=by
 cases m with | mk blk ver tok gl=>
 unfold M.set
 congr 1
 funext i
 show (if i=p then some a else blk i)=blk i
 split
 ·rename_i hi;rw [hi];exact h.symm
 ·rfl
theorem gP {m2:M} {a:List V} (h:¬ q <:+ p):m.back q (m2.set p a)=(m.back q m2).set p a:=by
 have hs:¬ q.isSuffixOf p=true:=λe=>h (Px.1 e);unfold M.back M.set
 congr 1
 funext i
 show (if q.isSuffixOf i then m.blk i else if i=p then some a else m2.blk i)=(if i=p then some a else if q.isSuffixOf i then m.blk i else m2.blk i)
 by_cases h1:i=p
 ·subst h1;rw [cE hs,cX rfl,cX rfl]
 ·rw [cE h1,cE h1]
end
attribute [go_sem] yV Dh List.toList_toArray PJ Option.map_none AE Fu Ri true_and and_true Sr DH SE Uk Pw SD qB sY Kn xeg xdy KM List.forall_mem_cons St false_implies implies_true Bool.not_true Bool.not_false beq_self_eq_true Bool.or_true Bool.true_or Bool.and_true Bool.true_and Bool.or_false Bool.false_or Bool.and_false Bool.false_and List.forall_mem_map Int.natCast_nonneg GD decide_true decide_false xeh
theorem PS {G:GG} {k:IntKind}:∀ {zs:List Int} {cs:List Value},DG G (zs.map (Ys.int k)) cs->cs=zs.map (Value.int k):=by
 intro zs
 induction zs with
 | nil=>intro cs h;exact h.inv_nil
 | cons z zs ih=>
   intro cs h;obtain ⟨xs,rfl,_,h2⟩:=h.inv_int;rw [ih h2];rfl
theorem Zp {c:Conc} {k:IntKind} {a:Option Addr} {len cap:Nat} {zs:List Int} (h:Is c.G (zs.map (Ys.int k)) a len cap):CR c [.list .none (zs.map λz=>[.lit (.int k z)])] [.slice a len cap]:=by
 obtain ⟨h0,h1,h2,cs,h3,h4⟩:=h;obtain rfl:=PS h3;rw [Kn] at h0;subst h0;refine ints_in h1 h2 (λhl=>?_) (λhl=>?_)
 ·obtain ⟨b,off,e,_⟩:=h4 hl;exact ⟨b,off,e⟩
 ·rw [Kn] at hl;exact h4 hl
theorem zaV {c:Conc} {a:Option Addr} {len cap:Nat} {zs:List Int} (h:Is c.G (zs.map (Ys.int .u8)) a len cap) (hw:∀n ∈ zs,(Lit.int .u8 n).wf=true):CR c [.list .none (sH (zs.map λz=>z.toNat.toUInt8))] [.slice a len cap]:=by
 have e:sH (zs.map λz=>z.toNat.toUInt8)=zs.map λz=>[V.lit (.int .u8 z)]:=by
  unfold sH;rw [List.map_map];refine xdj λz hz=>?_;have h1:=hw z hz
  have h2:0<=z/\z<256:=by
   simp [Lit.wf,IntKind.min,IntKind.max,IntKind.signed,IntKind.bits] at h1
   omega
  simp only [Function.comp]
  have h3:((z.toNat.toUInt8.toNat:Nat):Int)=z:=by
   rw [Nat.toUInt8,UInt8.toNat_ofNat'];omega
  rw [h3]
 rw [e];exact Zp h
def iN {α:Type} (p:Prop) [Decidable p] (x:Option α):Option α:=if p then x else none
theorem cQ {α:Type} {p:Prop} [Decidable p] {x:Option α} {r:α} (h:iN p x=some r):p/\x=some r:=by
 unfold iN at h
 split at h
 ·rename_i hp;exact ⟨hp,h⟩
 ·cases h
theorem wP {α:Type} {p:Prop} [Decidable p] {x:Option α} (hp:p):iN p x=x:=cX hp
theorem aH {α β:Type} {x:Option α} {f:α->Option β} {r:β} (h:x.bind f=some r):∃a,x=some a/\f a=some r:=Option.bind_eq_some_iff.1 h
theorem bool_or (b:Bool):b=true ∨ b=false:=by cases b <;> simp
def aZ {α:Type} (l:List α) (i:Int):Option α:=if 0<=i then l[i.toNat]? else none
theorem bX {α:Type} {l:List α} {i:Int} {x:α} (h:aZ l i=some x):0<=i/\i<l.length/\l[i.toNat]? = some x:=by
 unfold aZ at h
 split at h
 ·rename_i h0;obtain ⟨h1,_⟩:=xW.1 h;exact ⟨h0,zb,h⟩
 ·cases h
theorem TD {α:Type} {l:List α} {i:Nat}:aZ l (i:Int)=l[i]? := by
 unfold aZ;rw [cX zb,GD]
theorem ite_t {α:Type} {b:Bool} {x y:α} {r:α} (hb:b=true) (h:(if b=true then x else y)=r):x=r:=by rw [hb] at h;exact h
theorem ite_f {α:Type} {b:Bool} {x y:α} {r:α} (hb:b=false) (h:(if b=true then x else y)=r):y=r:=by rw [hb] at h;exact h
theorem bS {α:Type} {x y:α} (h:some x=some y):x=y:=by injection h
section
variable {P:Program} {N:Nat} {π:Pa} {k:Nat} {E:gE} {m:M} {Q:Exit->Nat->gE->M->Prop} {q p:Pa} {f:FuncId} {args:List V} {R:V->M->Prop}
theorem least {p:Nat->Prop} (h:∃c,p c):∃c,p c/\∀d,p d->c<=d:=by
 obtain ⟨c,hc⟩:=h
 induction c using Nat.strongRecOn with
 | _ c ih=>
   by_cases hx:∃d,d<c/\p d
   ·obtain ⟨d,hd,hp⟩:=hx;exact ih d hd hp
   ·exact ⟨c,hc,λd hd=>Nat.le_of_not_lt λhlt=>hx ⟨d,hlt,hd⟩⟩
theorem zbg {body:Code} (Inv:Nat->gE->M->Prop) (c0:Nat) (h0:Inv c0 E m)
  (step:∀(i c:Nat) (E':gE) (m':M),Inv c E' m'->(∀t,wr body t=false->E' t=E t)->SW P N (i::k::π) body 0 E' m' (vP (λ_ E2 m2=>∃c',c'<c/\Inv c' E2 m2) λe _ E2 m2=>Q e (k+1) E2 m2)) :
  SW P N π (.loop body) k E m Q:=by
 have hμ:∀(E:gE) (m:M),∃c,(∃c',Inv c' E m)->Inv c E m/\∀d,Inv d E m->c<=d:=by
  intro E m
  by_cases h:∃c',Inv c' E m
  ·obtain ⟨c,h1,h2⟩:=least h;exact ⟨c,λ_=>⟨h1,h2⟩⟩
  ·exact ⟨0,λh'=>cM h' h⟩
 refine QU (λE m=>∃c,Inv c E m) (λE m=>Classical.choose (hμ E m)) ⟨c0,h0⟩ λi E' m' hI hf=>?_;obtain ⟨h1,h2⟩:=Classical.choose_spec (hμ E' m') hI;refine FJ (step i _ E' m' h1 hf) λe k2 E2 m2 h=>?_;cases e with
 | normal=>
   obtain ⟨c',hc,hI2⟩:=h;obtain ⟨h3,h4⟩:=Classical.choose_spec (hμ E2 m2) ⟨c',hI2⟩;exact ⟨⟨c',hI2⟩,Nat.lt_of_le_of_lt (h4 c' hI2) hc⟩
 | _=>exact h
theorem SC.apart {cs:List V} (hm:m.blk p=some cs) (h:¬ q <:+ p->SC P f args q m R):SC P f args q m R:=by
 intro c xs w h1 h2 h3;refine h (λhs=>?_) c xs w h1 h2 h3;have:=h1.fresh_blk (h3 p hs);rw [hm] at this;cases this
theorem pa1 (hp:¬ q <:+ p) {a:Nat}:(a::q=p)=False:=eq_false λh=>hp (h ▸ fR vQ)
theorem pa3 (hp:¬ q <:+ p) {a b c:Nat}:(a::b::c::q=p)=False:=eq_false λh=>hp (h ▸ fR (fR (fR vQ)))
theorem pa5 (hp:¬ q <:+ p) {a b c d e:Nat}:(a::b::c::d::e::q=p)=False:=eq_false λh=>hp (h ▸ fR (fR (fR (fR (fR vQ)))))
theorem pb1 (hp:¬ q <:+ p) {a:Nat}:(p=a::q)=False:=eq_false λh=>hp (h ▸ fR vQ)
theorem pb2 (hp:¬ q <:+ p) {a b:Nat}:(p=a::b::q)=False:=eq_false λh=>hp (h ▸ fR (fR vQ))
theorem pb3 (hp:¬ q <:+ p) {a b c:Nat}:(p=a::b::c::q)=False:=eq_false λh=>hp (h ▸ fR (fR (fR vQ)))
theorem pb5 (hp:¬ q <:+ p) {a b c d e:Nat}:(p=a::b::c::d::e::q)=False:=eq_false λh=>hp (h ▸ fR (fR (fR (fR (fR vQ)))))
@[go_sem] theorem sf1 {a:Nat}:(q <:+ a::q)=True:=eq_true (fR vQ)
@[go_sem] theorem sf3 {a b c:Nat}:(q <:+ a::b::c::q)=True:=eq_true (fR (fR (fR vQ)))
@[go_sem] theorem sf5 {a b c d e:Nat}:(q <:+ a::b::c::d::e::q)=True:=eq_true (fR (fR (fR (fR (fR vQ)))))
end
@[go_sem] theorem byteRows_len {l:cB}:(sH l).length=l.length:=by simp [sH]
@[go_sem] theorem int0:Int.toNat 0=0:=rI rfl
attribute [go_sem] Ko Nat.zero_ne_one Nat.one_ne_zero uZ Uj and_self
