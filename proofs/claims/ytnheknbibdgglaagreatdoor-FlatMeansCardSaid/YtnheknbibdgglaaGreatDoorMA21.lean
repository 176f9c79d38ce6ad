import Derived.Test.YtnheknbibdgglaaGreatDoorMA20
import Derived.Below
set_option linter.all false
namespace Go.Proofs.YtnheknbibdgglaaGreatDoor.Abs
open Go.RowKit
def dt (S:V->Prop) (C:V->Prop):Prop:=∃v,S v/\C v
@[go_sem] theorem dt_eq {a:V} {C:V->Prop}:dt (λv=>a=v) C=C a:=propext ⟨λ⟨_,h,hc⟩=>h ▸ hc,λh=>⟨a,rfl,h⟩⟩
@[go_sem] theorem dt_and {p:Prop} {S C:V->Prop}:dt (λv=>p/\S v) C=(p/\dt S C):=propext ⟨λ⟨v,⟨hp,hs⟩,hc⟩=>⟨hp,v,hs,hc⟩,λ⟨hp,v,hs,hc⟩=>⟨v,⟨hp,hs⟩,hc⟩⟩
@[congr] theorem dt_congr {S S':V->Prop} {C:V->Prop} (h:∀v,S v=S' v):dt S C=dt S' C:=by rw [show S=S' from funext h]
def dm (S:V->M->Prop) (m:M) (C:V->M->Prop):Prop:=∃v m',S v m'/\m'.gl=m.gl/\C v m'
def dcall (P:Program) (f:V) (args:List V) (q:Pa) (m:M) (C:V->M->Prop):Prop:=∃v m',sfn P f args q m (λr m1=>r=v/\m1=m')/\m'.gl=m.gl/\C v m'
theorem dcall_of {P:Program} {g:FuncId} {first captured args:List V} {q:Pa} {m m':M} {v:V} {C:V->M->Prop} (h:SC P g (first++args++captured) q m (λr m1=>r=v/\m1=m')) (hg:m'.gl=m.gl) (hc:C v m'):dcall P (.fn (.func g) first captured) args q m C:=⟨v,m',h,hg,hc⟩
def Kv (os:List Oper) (i:Nat) (C:Oper->Prop):Prop:=match os[i]? with | some o=>C o | none=>False
@[go_sem] theorem nthO_zero {o:Oper} {os:List Oper} {C:Oper->Prop}:Kv (o::os) 0 C=C o:=rI rfl
@[go_sem] theorem nthO_succ {o:Oper} {os:List Oper} {i:Nat} {C:Oper->Prop}:Kv (o::os) (i+1) C=Kv os i C:=by
 unfold Kv;rw [ED]
section
variable {P:Program} {full:List Oper} {π:Pa} {k0:Nat} {K:Nat->fP->M->Prop} {i f:Nat} {rest:List (Nat × Nat)} {hist:List M} {E:fP} {m:M} {d:Option Nat} {ty:TypeId} {pos:String} {after:Array Edge} {v:V}
end
section
variable {P:Program} {N:Nat} {π:Pa} {k:Nat} {E:fP} {m:M} {Q:Exit->Nat->fP->M->Prop}
theorem SH {body:Code} (Inv:fP->M->Prop) (μ:fP->M->Nat) (h0:Inv E m)
  (step:∀(i:Nat) (E':fP) (m':M),Inv E' m'->(∀t,wr body t=false->E' t=E t)->SW P N (i::k::π) body 0 E' m' (sS (λ_ E2 m2=>Inv E2 m2/\μ E2 m2<μ E' m') λe _ E2 m2=>Q e (k+1) E2 m2)) :
  SW P N π (.loop body) k E m Q:=by
 refine SW_loop Inv μ h0 λi E' m' hI hf=>Ci (step i E' m' hI hf) λe k2 E2 m2 h=>?_;cases e <;> exact h
theorem Vz {x:Code} (J:fP->M->Prop) (hJ:J E m) (h:∀E' m',J E' m'->SW P N π x k E' m' Q):SW P N π x k E m Q:=h E m hJ
theorem MA {x:Code} (J:M->Prop) (hJ:J m) (h:∀m',J m'->SW P N π x k E m' Q):SW P N π x k E m Q:=h m hJ
def VI (m:M) (π:Pa) (k:Nat):Prop:=∀j,k<=j->∀id,(j::π) <:+ id->m.blk id=none/\(∀off,m.ver id off=0)/\∀i,m.tok id i=false
theorem VA {x:Code} (h:VI m π k->SW P N π x k E m Q):SW P N π x k E m Q:=by
 intro hf c a w h1 h2 h3;exact h (λj hj id eZ=>⟨h1.fresh_blk (h3 j hj id eZ),(h1.ver0 id (h3 j hj id eZ)).1,(h1.ver0 id (h3 j hj id eZ)).2⟩) hf c a w h1 h2 h3
theorem VI.fU {j:Nat} (h:VI m π k) (hj:k<=j):m.blk (j::π)=none/\(∀off,m.ver (j::π) off=0)/\∀i,m.tok (j::π) i=false:=h j hj _ (KO _)
theorem bG (q:Pa) (m:M):m.back q m=m:=by
 cases m;simp [M.back]
theorem bB {q id:Pa} {m m':M} {vs:List V} (h:q <:+ id):m.back q (m'.set id vs)=m.back q m':=by
 have hs:q.isSuffixOf id=true:=GS.2 h;unfold M.back
 congr 1
 funext i
 show (if q.isSuffixOf i then m.blk i else if i=id then some vs else m'.blk i)=_
 split
 ·rfl
 ·rename_i hi;rw [bU (by rintro rfl;exact hi hs)]
theorem bZ {q id:Pa} {m m':M} {n:Nat} {b:Bool} (h:q <:+ id):m.back q (m'.tokset id n b)=m.back q m':=by
 have hs:q.isSuffixOf id=true:=GS.2 h;unfold M.back
 congr 1
 funext i
 show (if q.isSuffixOf i then m.tok i else λj=>if i=id/\j=n then b else m'.tok i j)=_
 split
 ·rfl
 ·rename_i hi
  funext j
  rw [bU (by rintro ⟨rfl,_⟩;exact hi hs)]
theorem dI {q id:Pa} {m m':M} {off:Nat} (h:q <:+ id):m.back q (m'.bump id off)=m.back q m':=by
 have hs:q.isSuffixOf id=true:=GS.2 h;unfold M.back
 congr 1
 funext i
 show (if q.isSuffixOf i then m.ver i else λo=>if i=id/\o=off then m'.ver i o+1 else m'.ver i o)=_
 split
 ·rfl
 ·rename_i hi
  funext j
  rw [bU (by rintro ⟨rfl,_⟩;exact hi hs)]
theorem tG {q:Pa}:q <:+ q:=KO q
theorem iG {q p:Pa} {n:Nat} (h:q <:+ p):q <:+ (n::p):=h.trans (QU n p)
theorem Sg {m:M} {id:Pa} {j:Nat}:m.drop (.st (.anon id j))=m.tokset id j false:=rI rfl
end
def M.start:M:=⟨λ_=>none,λ_ _=>0,λ_ _=>false,λ_=>.top,λ_=>none⟩
def Conc.start (w:World) (G:GG):Conc:=⟨w.heap.size,λ_=>False,λ_=>none,λ_=>none,G⟩
section
variable {P:Program} {w:World} {G:GG}
theorem FV {α:Type} {x:α} {p:Prop} (h:(none:Option α)=some x):p:=by cases h
theorem Na (q:Pa):uU (Conc.start w G) q:=λ_ _=>⟨rfl,λ_=>rfl,λ_ _=>rfl,rfl⟩
theorem IU {c:Conc} {k:IntKind} {a:Option Addr} {cap:Nat} {zs:List Int} (hl:zs.length<=cap) (hm:cap<=maxLen) (ha:0<zs.length->∃b off,a=some ⟨b,off,none⟩) (hG:IN c.G a (zs.map (Value.int k))):CR c [.list .none (zs.map λz=>[.lit (.int k z)])] [.slice a zs.length cap]:=by
 have hcr:∀l:List Int,CR c ((l.map λz=>[V.lit (.int k z)]).flatten) (l.map (Value.int k)):=by
  intro l
  induction l with
  | nil=>exact .nil
  | cons z l ih=>exact .lit ih
 have:=CR.list (o:=.none) (a:=a) (cap:=cap) (c:=c) (rows:=zs.map λz=>[V.lit (.int k z)]) (es:=zs.map (Value.int k)) (sz:=1) (vs:=[]) (cs:=[]) (hcr zs) (by intro r hr;obtain ⟨y,_,rfl⟩:=Iw.1 hr;rfl) zb (by simpa using hl) hm (by simpa using ha) hG (by intro u hu;obtain ⟨y,_,rfl⟩:=Iw.1 hu;rfl) trivial .nil;simpa using this
end
end Go.Proofs.YtnheknbibdgglaaGreatDoor.Abs
namespace Go.Proofs.YtnheknbibdgglaaGreatDoor
open Go.RowKit
def rowG (x:Addr) (len:Nat) (k:IntKind) (zs:List Int):GG:=λb o=>if b=x.block/\x.off<=o/\o<x.off+len then some (.int k (zs.getD (o - x.off) 0)) else none
theorem RF (G:GG) (k:IntKind) (zs:List Int) (h:∀n ∈ zs,(Lit.int k n).wf=true):AC G (zs.map (SK.int k)) (zs.map (Value.int k)):=by
 induction zs with
 | nil=>exact .nil
 | cons z zs ih=>exact .int (h z zc) (ih λn hn=>h n (by simp [hn]))
theorem Ex.le {G G':GG} (hle:∀b o v,G b o=some v->G' b o=some v) {es:List SK} {a:Option Addr} {len cap:Nat} (h:Ex G es a len cap):Ex G' es a len cap:=by
 obtain ⟨h0,hc,hm,cs,h1,ha⟩:=h;refine ⟨h0,hc,hm,cs,h1.mono hle,λhl=>?_⟩;obtain ⟨b,off,e,h⟩:=ha hl;exact ⟨b,off,e,λi u hu=>hle _ _ _ (h i u hu)⟩
theorem row_in {k:IntKind} {w:World} {a:Option Addr} {len cap:Nat} {zs:List Int}
  (h:(a=none/\len=0/\cap=0/\zs=[]) ∨ ∃x,a=some x/\len<=cap/\cap<=maxLen/\zs.length=cap/\(∀i,i<zs.length->w.cell? (x.add i)=some (.int k (zs.getD i 0)))/\∀n ∈ zs,(Lit.int k n).wf=true) :
  ∃G,GB w G/\Ex G ((zs.take len).map (SK.int k)) a len cap/\(zs.take len).length=len/\∀n ∈ zs.take len,(Lit.int k n).wf=true:=by
 rcases h with ⟨rfl,rfl,rfl,rfl⟩ | ⟨x,rfl,hlc,hm,hz,hcell,hwf⟩
 ·exact ⟨λ_ _=>none,λb o v h=>(by cases h),⟨rfl,tW _,zb,[],.nil,λh=>by cases h⟩,rfl,zc⟩
 ·have hwf':∀n ∈ zs.take len,(Lit.int k n).wf=true:=λn hn=>hwf n (MK hn);have hlen:(zs.take len).length=len:=by rw [EC];omega
  rcases Nat.eq_zero_or_pos len with h0 | h0
  ·subst h0;exact ⟨λ_ _=>none,λb o v h=>(by cases h),⟨zc,HI _,hm,[],by simpa using .nil,λh=>by cases h⟩,rfl,zc⟩
  ·have hsp:x=⟨x.block,x.off,none⟩:=by
    have h1:=hcell 0 za;cases hs:x.spot with
    | none=>cases x;simp_all
    | some s=>
      unfold World.cell? Addr.add at h1;rw [cG rfl,hs] at h1
      split at h1 <;> simp at h1
   refine ⟨rowG x len k zs,λb o v hv=>?_,⟨by simp;omega,hlc,hm,(zs.take len).map (Value.int k),RF _ _ _ hwf',λ_=>⟨x.block,x.off,by rw [←hsp],λi u hu=>?_⟩⟩,hlen,hwf'⟩
   ·unfold rowG at hv
    split at hv
    ·rename_i hb
     injection hv with hv
     subst hv;have:=hcell (o - x.off) za;rw [hsp,lT] at this;rw [hb.1,←this]
     congr 2;simp;omega
    ·cases hv
   ·have hi:i<len:=by have:=(sG.1 hu).1;simp at this;omega
    unfold rowG;rw [cG ⟨rfl,za,za⟩];rw [show x.off+i - x.off=i by omega];rw [AJ,xeo hi,tS za] at hu;rw [Oq,tS za];exact hu
end Go.Proofs.YtnheknbibdgglaaGreatDoor
namespace Go.Proofs.YtnheknbibdgglaaGreatDoor.Abs
open Go.RowKit
abbrev cQ:=List UInt8
def bs (l:cQ):ByteArray:=⟨l.toArray⟩
theorem Gi (l:cQ):(bs l).size=l.length:=by simp [bs,ByteArray.size]
theorem Vn {a b:cQ}:bs a=bs b ↔ a=b:=by
 constructor
 ·intro h;have:=vJ (λx:ByteArray=>x.data.toList) h;simpa [bs] using this
 ·rintro rfl;rfl
theorem Vo (l:cQ) (i:Nat) (h:i<(bs l).size):(bs l)[i]=l[i]'(by rw [Gi] at h;exact h):=by
 show (bs l).data[i]=_;simp [bs]
theorem PD (l:cQ) (a b:Nat):(bs l).extract a b=bs ((l.take b).drop a):=by
 apply ByteArray.ext;rw [ByteArray.data_extract];apply Array.ext';simp [bs,List.drop_take]
def pK (l:cQ):List (List V):=l.map λb=>[.lit (.int .u8 (b.toNat:Int))]
theorem Mx (l:cQ):kU (bs l)=pK l:=by simp [kU,pK,bs]
def sgo (o:Option UInt8) (C:V->Prop):Prop:=match o with | some c=>C (.lit (.int .u8 (c.toNat:Int))) | none=>False
section
variable {P:Program} {T:TypeId} {x y:Operand} {C:V->Prop} {m:M} {E:fP} {s t l:cQ} {k:IntKind} {i:Int} {o:IL} {f:FuncId} {args:List V} {q p:Pa}
@[go_sem] theorem TJ {c:UInt8}:sgo (some c) C=C (.lit (.int .u8 (c.toNat:Int))):=rI rfl
@[congr] theorem sgo_congr {o o':Option UInt8} (h:o=o'):sgo o C=sgo o' C:=by rw [h]
@[go_sem high] theorem ev_strb:ev m E (.const (.string ⟨l.toArray⟩))=.lit (.string (bs l)):=rI rfl
@[go_sem high] theorem sbin_seqlb:qU P .eql T x y (.lit (.string (bs s))) (.lit (.string (bs t))) C=C (.lit (.bool (decide (s=t)))):=by
 rw [Rx];simp only [Vn]
@[go_sem high] theorem sbin_sneqb:qU P .neq T x y (.lit (.string (bs s))) (.lit (.string (bs t))) C=C (.lit (.bool (decide (s ≠ t)))):=by
 have:((bs s).toList == (bs t).toList)=decide (s=t):=by
  by_cases h:s=t
  ·subst h;simp
  ·have:¬ (bs s).toList=(bs t).toList:=λe=>h (Vn.1 (zR e));simp [h,this]
 simp [qU,this]
@[go_sem high] theorem slenU_sb:Jm .str (.lit (.string (bs s))) C=C (.lit (.int .i64 s.length)):=by rw [slenU_s,Gi]
@[go_sem high] theorem sindexU_sb:Ha P .str (.lit (.string (bs s))) (.lit (.int k i)) C=(0<=i/\sgo s[i.toNat]? C):=by
 rw [Rl];apply propext;refine and_congr_right λ_=>?_
 by_cases h:i.toNat<s.length
 ·have h':i.toNat<(bs s).size:=by rw [Gi];exact h
  rw [tS h,TJ];exact ⟨λ⟨_,hc⟩=>by rw [Vo] at hc;exact hc,λhc=>⟨h',by rw [Vo];exact hc⟩⟩
 ·rw [xdu za];exact ⟨λ⟨h',_⟩=>dE (by rw [Gi] at h';exact h') h,λhc=>hc.elim⟩
def slB:Option Int->Option Int->cQ->(V->Prop)->Prop
 | some a,some b,s,C=>0<=a/\a<=b/\b<=s.length/\C (.lit (.string (bs ((s.take b.toNat).drop a.toNat))))
 | _,_,_,_=>False
@[go_sem high] theorem slU_sb {lo hi:Option V}:OJ P .str (.lit (.string (bs s))) lo hi C=slB (lY lo 0) (lY hi s.length) s C:=by
 rw [slU_s,Gi];unfold slS slB;cases lY lo 0 <;> cases lY hi s.length <;> first | rfl | (simp only [Gi,PD])
@[go_sem] theorem slB_some {a b:Int}:slB (some a) (some b) s C=(0<=a/\a<=b/\b<=s.length/\C (.lit (.string (bs ((s.take b.toNat).drop a.toNat))))):=rI rfl
@[go_sem high] theorem cvU_lsb {D e:TypeId}:cvU P T D (.sl e) .str (.list o (pK s)) C=(ud P e=.int .u8/\C (.lit (.string (bs s)))):=by
 rw [←Mx,cvU_ls]
@[congr] theorem slB_congr {a a' b b':Option Int} {s s':cQ} (h1:a=a') (h2:b=b') (h3:s=s'):slB a b s C=slB a' b' s' C:=by rw [h1,h2,h3]
theorem SC.by_ {C:V->M->Prop} {v:V} {m':M} (h:SC P f args q m (λr m1=>r=v/\m1=m')) (hC:C v m'):SC P f args q m C:=
 h.mono λ_ _ ⟨e1,e2⟩=>by rw [e1,e2];exact hC
theorem pF {a:List V} (h:m.blk p=some a):m.set p a=m:=by
 cases m with | mk blk ver tok gl=>
 unfold M.set
 congr 1
 funext i
 show (if i=p then some a else blk i)=blk i
 split
 ·rename_i hi;rw [hi];exact h.symm
 ·rfl
theorem dW {m2:M} {a:List V} (h:¬ q <:+ p):m.back q (m2.set p a)=(m.back q m2).set p a:=by
 have hs:¬ q.isSuffixOf p=true:=λe=>h (GS.1 e);unfold M.back M.set
 congr 1
 funext i
 show (if q.isSuffixOf i then m.blk i else if i=p then some a else m2.blk i)=(if i=p then some a else if q.isSuffixOf i then m.blk i else m2.blk i)
 by_cases h1:i=p
 ·subst h1;rw [bU hs,cG rfl,cG rfl]
 ·rw [bU h1,bU h1]
end
attribute [go_sem] oC qA xep FI xej wN ER EP true_and and_true Bu sR Gq Gp GD Ii jJ mO wM KJ ED AJ xed MR false_implies implies_true Bool.not_true Bool.not_false beq_self_eq_true Bool.or_true Bool.true_or Bool.and_true Bool.true_and Bool.or_false Bool.false_or Bool.and_false Bool.false_and List.forall_mem_map SR wR decide_true decide_false xek
theorem Kr {G:GG} {k:IntKind}:∀ {zs:List Int} {cs:List Value},AC G (zs.map (SK.int k)) cs->cs=zs.map (Value.int k):=by
 intro zs
 induction zs with
 | nil=>intro cs h;exact h.inv_nil
 | cons z zs ih=>
   intro cs h;obtain ⟨xs,rfl,_,h2⟩:=h.inv_int;rw [ih h2];rfl
theorem TG {c:Conc} {k:IntKind} {a:Option Addr} {len cap:Nat} {zs:List Int} (h:Ex c.G (zs.map (SK.int k)) a len cap):CR c [.list .none (zs.map λz=>[.lit (.int k z)])] [.slice a len cap]:=by
 obtain ⟨h0,h1,h2,cs,h3,h4⟩:=h;obtain rfl:=Kr h3;rw [wM] at h0;subst h0;refine IU h1 h2 (λhl=>?_) (λhl=>?_)
 ·obtain ⟨b,off,e,_⟩:=h4 hl;exact ⟨b,off,e⟩
 ·rw [wM] at hl;exact h4 hl
theorem Vj {c:Conc} {a:Option Addr} {len cap:Nat} {zs:List Int} (h:Ex c.G (zs.map (SK.int .u8)) a len cap) (hw:∀n ∈ zs,(Lit.int .u8 n).wf=true):CR c [.list .none (pK (zs.map λz=>z.toNat.toUInt8))] [.slice a len cap]:=by
 have e:pK (zs.map λz=>z.toNat.toUInt8)=zs.map λz=>[V.lit (.int .u8 z)]:=by
  unfold pK;rw [List.map_map];refine xdr λz hz=>?_;have h1:=hw z hz
  have h2:0<=z/\z<256:=by
   simp [Lit.wf,IntKind.min,IntKind.max,IntKind.signed,IntKind.bits] at h1
   omega
  simp only [Function.comp]
  have h3:((z.toNat.toUInt8.toNat:Nat):Int)=z:=by
   rw [Nat.toUInt8,UInt8.toNat_ofNat'];omega
  rw [h3]
 rw [e];exact TG h
def iE {α:Type} (p:Prop) [Decidable p] (x:Option α):Option α:=if p then x else none
theorem bN {α:Type} {p:Prop} [Decidable p] {x:Option α} {r:α} (h:iE p x=some r):p/\x=some r:=by
 unfold iE at h
 split at h
 ·rename_i hp;exact ⟨hp,h⟩
 ·cases h
theorem FW {α:Type} {p:Prop} [Decidable p] {x:Option α} (hp:p):iE p x=x:=cG hp
theorem aD {α β:Type} {x:Option α} {f:α->Option β} {r:β} (h:x.bind f=some r):∃a,x=some a/\f a=some r:=Option.bind_eq_some_iff.1 h
theorem bool_or (b:Bool):b=true ∨ b=false:=by cases b <;> simp
def aS {α:Type} (l:List α) (i:Int):Option α:=if 0<=i then l[i.toNat]? else none
theorem aY {α:Type} {l:List α} {i:Int} {x:α} (h:aS l i=some x):0<=i/\i<l.length/\l[i.toNat]? = some x:=by
 unfold aS at h
 split at h
 ·rename_i h0;obtain ⟨h1,_⟩:=sG.1 h;exact ⟨h0,za,h⟩
 ·cases h
theorem ite_t {α:Type} {b:Bool} {x y:α} {r:α} (hb:b=true) (h:(if b=true then x else y)=r):x=r:=by rw [hb] at h;exact h
theorem ite_f {α:Type} {b:Bool} {x y:α} {r:α} (hb:b=false) (h:(if b=true then x else y)=r):y=r:=by rw [hb] at h;exact h
theorem aZ {α:Type} {x y:α} (h:some x=some y):x=y:=by injection h
section
variable {P:Program} {N:Nat} {π:Pa} {k:Nat} {E:fP} {m:M} {Q:Exit->Nat->fP->M->Prop} {q p:Pa} {f:FuncId} {args:List V} {R:V->M->Prop}
theorem least {p:Nat->Prop} (h:∃c,p c):∃c,p c/\∀d,p d->c<=d:=by
 obtain ⟨c,hc⟩:=h
 induction c using Nat.strongRecOn with
 | _ c ih=>
   by_cases hx:∃d,d<c/\p d
   ·obtain ⟨d,hd,hp⟩:=hx;exact ih d hd hp
   ·exact ⟨c,hc,λd hd=>Nat.le_of_not_lt λhlt=>hx ⟨d,hlt,hd⟩⟩
theorem FE {body:Code} (Inv:Nat->fP->M->Prop) (c0:Nat) (h0:Inv c0 E m)
  (step:∀(i c:Nat) (E':fP) (m':M),Inv c E' m'->(∀t,wr body t=false->E' t=E t)->SW P N (i::k::π) body 0 E' m' (sS (λ_ E2 m2=>∃c',c'<c/\Inv c' E2 m2) λe _ E2 m2=>Q e (k+1) E2 m2)) :
  SW P N π (.loop body) k E m Q:=by
 have hμ:∀(E:fP) (m:M),∃c,(∃c',Inv c' E m)->Inv c E m/\∀d,Inv d E m->c<=d:=by
  intro E m
  by_cases h:∃c',Inv c' E m
  ·obtain ⟨c,h1,h2⟩:=least h;exact ⟨c,λ_=>⟨h1,h2⟩⟩
  ·exact ⟨0,λh'=>dE h' h⟩
 refine SH (λE m=>∃c,Inv c E m) (λE m=>Classical.choose (hμ E m)) ⟨c0,h0⟩ λi E' m' hI hf=>?_;obtain ⟨h1,h2⟩:=Classical.choose_spec (hμ E' m') hI;refine Ci (step i _ E' m' h1 hf) λe k2 E2 m2 h=>?_;cases e with
 | normal=>
   obtain ⟨c',hc,hI2⟩:=h;obtain ⟨h3,h4⟩:=Classical.choose_spec (hμ E2 m2) ⟨c',hI2⟩;exact ⟨⟨c',hI2⟩,Nat.lt_of_le_of_lt (h4 c' hI2) hc⟩
 | _=>exact h
theorem SC.apart {cs:List V} (hm:m.blk p=some cs) (h:¬ q <:+ p->SC P f args q m R):SC P f args q m R:=by
 intro c xs w h1 h2 h3;refine h (λhs=>?_) c xs w h1 h2 h3;have:=h1.fresh_blk (h3 p hs);rw [hm] at this;cases this
theorem pa1 (hp:¬ q <:+ p) {a:Nat}:(a::q=p)=False:=eq_false λh=>hp (h ▸ iG tG)
theorem pa3 (hp:¬ q <:+ p) {a b c:Nat}:(a::b::c::q=p)=False:=eq_false λh=>hp (h ▸ iG (iG (iG tG)))
theorem pa5 (hp:¬ q <:+ p) {a b c d e:Nat}:(a::b::c::d::e::q=p)=False:=eq_false λh=>hp (h ▸ iG (iG (iG (iG (iG tG)))))
theorem pb1 (hp:¬ q <:+ p) {a:Nat}:(p=a::q)=False:=eq_false λh=>hp (h ▸ iG tG)
theorem pb3 (hp:¬ q <:+ p) {a b c:Nat}:(p=a::b::c::q)=False:=eq_false λh=>hp (h ▸ iG (iG (iG tG)))
theorem pb5 (hp:¬ q <:+ p) {a b c d e:Nat}:(p=a::b::c::d::e::q)=False:=eq_false λh=>hp (h ▸ iG (iG (iG (iG (iG tG)))))
@[go_sem] theorem sf1 {a:Nat}:(q <:+ a::q)=True:=eq_true (iG tG)
@[go_sem] theorem sf2 {a b:Nat}:(q <:+ a::b::q)=True:=eq_true (iG (iG tG))
@[go_sem] theorem sf3 {a b c:Nat}:(q <:+ a::b::c::q)=True:=eq_true (iG (iG (iG tG)))
@[go_sem] theorem sf5 {a b c d e:Nat}:(q <:+ a::b::c::d::e::q)=True:=eq_true (iG (iG (iG (iG (iG tG)))))
end
@[go_sem] theorem byteRows_len {l:cQ}:(pK l).length=l.length:=by simp [pK]
@[go_sem] theorem int0:Int.toNat 0=0:=rI rfl
attribute [go_sem] HI xdw Nat.one_ne_zero tW Oz and_self
