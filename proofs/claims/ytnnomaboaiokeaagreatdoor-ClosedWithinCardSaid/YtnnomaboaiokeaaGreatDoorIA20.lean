import Derived.Test.YtnnomaboaiokeaaGreatDoorIA16
set_option linter.all false
namespace Go.Proofs.YtnnomaboaiokeaaGreatDoor.Abs
open Go.RowKit
inductive UD where
 | int (k:IntKind) | str | sl (e:TypeId) | ar (n:Nat) (e:TypeId) | st | oth | none_
def Tk:Option TypeDesc->UD
 | some (.int k)=>.int k
 | some .string=>.str
 | some (.slice e)=>.sl e
 | some (.array n e)=>.ar n e
 | some (.struct _)=>.st
 | some _=>.oth
 | none=>.none_
def ud (P:Program) (T:TypeId):UD:=Tk (P.underlying T)
section
variable {P:Program} {T:TypeId} {C:V->Prop} {CM:V->M->Prop} {Cm:M->Prop} {m:M} {id:Pa} {off n s:Nat} {k:IntKind} {rows rows2:List (List V)} {o:Jt} {i:Int} {cs vs:List V} {v:V}
def Lu:UD->V->(V->Prop)->Prop
 | .str,.lit (.string s),C=>C (.lit (.int .i64 s.size))
 | .sl _,.list _ rows,C=>C (.lit (.int .i64 rows.length))
 | .sl _,.arr _ _ len _,C=>C (.lit (.int .i64 len))
 | .sl _,.vec _ _ len,C=>C (.lit (.int .i64 len))
 | .sl _,.nilv,C=>C (.lit (.int .i64 0))
 | .ar n _,_,C=>C (.lit (.int .i64 n))
 | _,_,_=>False
@[go_sem] theorem slen_u:IS P T v C=Lu (ud P T) v C:=by
 unfold IS ud;cases P.underlying T with
 | none=>rfl
 | some d=>cases d <;> first | rfl | (cases v <;> first | rfl | (rename_i x;cases x <;> rfl))
@[go_sem] theorem slenU_s {b:ByteArray}:Lu .str (.lit (.string b)) C=C (.lit (.int .i64 b.size)):=rI rfl
@[go_sem] theorem slenU_l {e:TypeId}:Lu (.sl e) (.list o rows) C=C (.lit (.int .i64 rows.length)):=rI rfl
def sN (P:Program):UD->V->V->(V->Prop)->Prop
 | .sl e,.list _ rows,.lit (.int _ n),C=>(match cE P e with | some s=>0<=n/\n<rows.length/\(∀r ∈ rows,r.length=s)/\C (.eptr rows n.toNat 0) | none=>False)
 | .sl e,.arr id off len _,.lit (.int _ n),C=>(match cE P e with | some s=>0<=n/\n<len/\C (.ptr id (off+n.toNat*s)) | none=>False)
 | .ar len e,.ptr id off,.lit (.int _ n),C=>(match cE P e with | some s=>0<=n/\n<len/\C (.ptr id (off+n.toNat*s)) | none=>False)
 | .ar len e,.eptr rows i off,.lit (.int _ n),C=>(match cE P e with | some s=>0<=n/\n<len/\C (.eptr rows i (off+n.toNat*s)) | none=>False)
 | .sl e,.vec id sz len,.lit (.int _ n),C=>(match cE P e with | some s=>sz=s/\0<=n/\n<len/\C (.pp id (n.toNat*s)) | none=>False)
 | .ar len e,.pp id off,.lit (.int _ n),C=>(match cE P e with | some s=>0<=n/\n<len/\C (.pp id (off+n.toNat*s)) | none=>False)
 | _,_,_,_=>False
@[go_sem] theorem sindexA_u {ix:V}:xJ P T v ix C=sN P (ud P T) v ix C:=by
 unfold xJ ud;cases P.underlying T with
 | none=>rfl
 | some d=>cases d <;> first | rfl | (cases v <;> first | rfl | (cases ix <;> first | rfl | (rename_i x;cases x <;> rfl)))
def ixL:Option Nat->List (List V)->Int->(V->Prop)->Prop
 | some s,rows,n,C=>0<=n/\n<rows.length/\(∀r ∈ rows,r.length=s)/\C (.eptr rows n.toNat 0)
 | none,_,_,_=>False
def ixE:Option Nat->List (List V)->Nat->Nat->Nat->Int->(V->Prop)->Prop
 | some s,rows,i,off,len,n,C=>0<=n/\n<len/\C (.eptr rows i (off+n.toNat*s))
 | none,_,_,_,_,_,_=>False
@[go_sem] theorem sindexAU_l {e:TypeId}:sN P (.sl e) (.list o rows) (.lit (.int k i)) C=ixL (cE P e) rows i C:=by
 simp only [sN];cases cE P e <;> rfl
@[go_sem] theorem sindexAU_e {e:TypeId} {len j:Nat}:sN P (.ar len e) (.eptr rows j off) (.lit (.int k i)) C=ixE (cE P e) rows j off len i C:=by
 simp only [sN];cases cE P e <;> rfl
def ixV:Option Nat->Pa->Nat->Nat->Int->(V->Prop)->Prop
 | some s,id,sz,len,n,C=>sz=s/\0<=n/\n<len/\C (.pp id (n.toNat*s))
 | none,_,_,_,_,_=>False
@[go_sem] theorem OV {e:TypeId} {sz len:Nat}:sN P (.sl e) (.vec id sz len) (.lit (.int k i)) C=ixV (cE P e) id sz len i C:=by
 simp only [sN];cases cE P e <;> rfl
@[go_sem] theorem Ux {sz len:Nat}:ixV (some s) id sz len i C=(sz=s/\0<=i/\i<len/\C (.pp id (i.toNat*s))):=rI rfl
@[go_sem] theorem ixL_some:ixL (some s) rows i C=(0<=i/\i<rows.length/\(∀r ∈ rows,r.length=s)/\C (.eptr rows i.toNat 0)):=rI rfl
@[go_sem] theorem ixE_some {len j:Nat}:ixE (some s) rows j off len i C=(0<=i/\i<len/\C (.eptr rows j (off+i.toNat*s))):=rI rfl
def Mh:Option Bool->Option Nat->List V->Nat->(V->Prop)->Prop
 | some true,some n,cs,off,C=>C (.agg ((cs.drop off).take n))
 | some false,_,cs,off,C=>(match cs.drop off with | u::_=>C u | []=>False)
 | _,_,_,_,_=>False
def hd (cs:List V) (C:V->Prop):Prop:=match cs with | u::_=>C u | []=>False
@[go_sem] theorem hd_cons {u:V}:hd (u::cs) C=C u:=rI rfl
@[go_sem] theorem spart_u:Fw P T cs off C=Mh (pS P T) (cE P T) cs off C:=by
 unfold Fw Mh;cases pS P T with
 | none=>rfl
 | some b=>
   cases b with
   | true=>cases cE P T <;> rfl
   | false=>
     simp only;rw [←xeq];cases cs.drop off <;> rfl
@[go_sem] theorem spartU_t:Mh (some true) (some n) cs off C=C (.agg ((cs.drop off).take n)):=rI rfl
@[go_sem] theorem spartU_f {z:Option Nat}:Mh (some false) z cs off C=hd (cs.drop off) C:=rI rfl
def Hr (P:Program):UD->V->V->(V->Prop)->Prop
 | .ar len e,.agg cs,.lit (.int _ n),C=>(match cE P e with | some s=>0<=n/\n<len/\Fw P e cs (n.toNat*s) C | none=>False)
 | .str,.lit (.string b),.lit (.int _ n),C=>0<=n/\∃h:n.toNat<b.size,C (.lit (.int .u8 (b[n.toNat]).toNat))
 | _,_,_,_=>False
@[go_sem] theorem sindex_u {ix:V}:Da P T v ix C=Hr P (ud P T) v ix C:=by
 unfold Da ud;cases P.underlying T with
 | none=>rfl
 | some d=>
   cases d with
   | string=>
     cases v with
     | lit a=>cases a <;> first | rfl | (cases ix with
       | lit x=>cases x <;> rfl
       | _=>rfl)
     | _=>rfl
   | array n e=>
     cases v with
     | agg cs=>cases ix with
       | lit x=>cases x <;> rfl
       | _=>rfl
     | _=>rfl
   | _=>rfl
@[go_sem] theorem Ri {b:ByteArray}:Hr P .str (.lit (.string b)) (.lit (.int k i)) C=(0<=i/\∃h:i.toNat<b.size,C (.lit (.int .u8 (b[i.toNat]).toNat))):=rI rfl
def ixG (P:Program) (e:TypeId):Option Nat->List V->Nat->Int->(V->Prop)->Prop
 | some s,cs,len,n,C=>0<=n/\n<len/\Fw P e cs (n.toNat*s) C
 | none,_,_,_,_=>False
@[go_sem] theorem sindexU_a {e:TypeId} {len:Nat}:Hr P (.ar len e) (.agg cs) (.lit (.int k i)) C=ixG P e (cE P e) cs len i C:=by
 simp only [Hr];cases cE P e <;> rfl
@[go_sem] theorem ixG_some {e:TypeId} {len:Nat}:ixG P e (some s) cs len i C=(0<=i/\i<len/\Fw P e cs (i.toNat*s) C):=rI rfl
def UH:Option Nat->V->(V->Prop)->Prop
 | some fo,.ptr id off,C=>C (.ptr id (off+fo))
 | some fo,.eptr rows i off,C=>C (.eptr rows i (off+fo))
 | some fo,.pp id off,C=>C (.pp id (off+fo))
 | _,_,_=>False
@[go_sem] theorem sfieldA_u {f:Nat}:uU P T f v C=UH (mG P T f) v C:=by
 unfold uU UH;cases mG P T f with
 | none=>rfl
 | some fo=>cases v <;> rfl
@[go_sem] theorem fldA_p {fo:Nat}:UH (some fo) (.ptr id off) C=C (.ptr id (off+fo)):=rI rfl
@[go_sem] theorem fldA_q {fo:Nat}:UH (some fo) (.pp id off) C=C (.pp id (off+fo)):=rI rfl
@[go_sem] theorem fldA_e {fo j:Nat}:UH (some fo) (.eptr rows j off) C=C (.eptr rows j (off+fo)):=rI rfl
def fdT (P:Program) (T:TypeId) (f:Nat):Option (TypeId × Nat):=
 match P.underlying T with
 | some (.struct fs)=>(fs[f]?).map λfd=>(fd.type,fd.offset)
 | _=>none
def fldV (P:Program):Option (TypeId × Nat)->V->(V->Prop)->Prop
 | some (t,fo),.agg cs,C=>Fw P t cs fo C
 | _,_,_=>False
@[go_sem] theorem sfield_u {f:Nat}:Ep P T f v C=fldV P (fdT P T f) v C:=by
 unfold Ep fdT;cases P.underlying T with
 | none=>rfl
 | some d=>
   cases d with
   | struct fs=>
     simp only;cases hf:fs[f]? with
     | none=>cases v <;> simp [fldV,hf]
     | some fd=>cases v <;> simp [fldV,hf]
   | _=>rfl
@[go_sem] theorem fldV_some {t:TypeId} {fo:Nat}:fldV P (some (t,fo)) (.agg cs) C=Fw P t cs fo C:=rI rfl
def ldH (ver:Nat->Nat) (id:Pa) (off:Nat):List V->(V->Prop)->Prop
 | u::_,C=>C (u.ld (.cell id off (ver off)))
 | [],_=>False
@[go_sem] theorem ldH_cons {ver:Nat->Nat} {u:V}:ldH ver id off (u::cs) C=C (u.ld (.cell id off (ver off))):=rI rfl
def Pp (ver:Nat->Nat) (id:Pa):Nat->List V->List V
 | _,[]=>[]
 | off,u::cs=>u.ld (.cell id off (ver off))::Pp ver id (off+1) cs
@[go_sem] theorem Uv {ver:Nat->Nat} {u:V}:Pp ver id off (u::cs)=u.ld (.cell id off (ver off))::Pp ver id (off+1) cs:=rI rfl
def Mi:Option Bool->Option Nat->(Nat->Nat)->Pa->Nat->Option (List V)->(V->Prop)->Prop
 | some false,_,ver,id,off,some cs,C=>ldH ver id off (cs.drop off) C
 | some true,some n,_,_,off,some cs,C=>n<=(cs.drop off).length/\C (.agg (((cs.drop off).take n).map V.shared))
 | _,_,_,_,_,_,_=>False
theorem NM {ver:Nat->Nat}:∀ {off:Nat} {cs:List V} {f:Nat},((cs.mapIdx λj v=>v.ld (.cell id (f+j) (ver (f+j)))).drop off)=Pp ver id (f+off) (cs.drop off):=by
 intro off
 induction off with
 | zero=>
   intro cs
   induction cs with
   | nil=>intro f;rfl
   | cons u cs ih=>
     intro f;have h1:=ih (f:=f+1);simp only [iB,SV] at h1 ⊢;rw [List.mapIdx_cons,Uv,←h1,SV]
     congr 2
     funext j v
     rw [show f+(j+1)=f+1+j by omega]
 | succ off ih=>
   intro cs f;cases cs with
   | nil=>simp [Pp]
   | cons u cs=>
     rw [List.mapIdx_cons,iT,iT,show f+(off+1)=f+1+off by omega,←ih]
     congr 2
     funext j v
     rw [show f+(j+1)=f+1+j by omega]
theorem Ut {ver:Nat->Nat}:(Fi ver id cs).drop off=Pp ver id off (cs.drop off):=by
 have:=NM (id:=id) (ver:=ver) (off:=off) (cs:=cs) (f:=0);simpa [Fi] using this
theorem Uu {ver:Nat->Nat}:∀ {n off:Nat} {cs:List V},(Pp ver id off cs).take n=Pp ver id off (cs.take n):=by
 intro n
 induction n with
 | zero=>intro off cs;simp [Pp]
 | succ n ih=>
   intro off cs;cases cs with
   | nil=>simp [Pp]
   | cons u cs=>simp [Pp,ih]
theorem Po {ver:Nat->Nat}:∀ {off:Nat} {cs:List V},(Pp ver id off cs).length=cs.length:=by
 intro off cs
 induction cs generalizing off with
 | nil=>rfl
 | cons u cs ih=>simp [Pp,ih]
theorem Lx {s:sW} {v:V}:(V.ld s v).shared=v.shared:=by
 cases v with
 | list o rows=>cases o <;> rfl
 | _=>rfl
theorem Pn {ver:Nat->Nat}:∀ {off:Nat} {cs:List V},(Pp ver id off cs).map V.shared=cs.map V.shared:=by
 intro off cs
 induction cs generalizing off with
 | nil=>rfl
 | cons u cs ih=>simp only [Pp,gT,Lx,ih]
@[go_sem] theorem sload_p:pN P m T (.ptr id off) C=Mi (pS P T) (cE P T) (m.ver id) id off (m.blk id) C:=by
 have hc:uD m (.ptr id off)=(m.blk id).map λvs=>(Fi (m.ver id) id vs).drop off:=rfl;unfold pN Mi;rw [hc];cases hb:m.blk id with
 | none=>cases pS P T with
   | none=>rfl
   | some b=>cases b <;> first | rfl | (cases cE P T <;> rfl)
 | some cs=>
   simp only [iI];rw [Ut];cases pS P T with
   | none=>rfl
   | some b=>
     cases b with
     | true=>
       cases cE P T with
       | none=>rfl
       | some n=>simp only [Uu,Po,Pn]
     | false=>
       simp only [];cases cs.drop off <;> rfl
@[go_sem] theorem sloadB_f {z:Option Nat} {ver:Nat->Nat}:Mi (some false) z ver id off (some cs) C=ldH ver id off (cs.drop off) C:=rI rfl
@[go_sem] theorem sloadB_t {ver:Nat->Nat}:Mi (some true) (some n) ver id off (some cs) C=(n<=(cs.drop off).length/\C (.agg (((cs.drop off).take n).map V.shared))):=rI rfl
def HQ:Option Bool->Option Nat->Nat->Option (List V)->(V->Prop)->Prop
 | some false,_,off,some r,C=>hd (r.drop off) C
 | some true,some n,off,some r,C=>n<=(r.drop off).length/\C (.agg (((r.drop off).take n).map V.shared))
 | _,_,_,_,_=>False
@[go_sem] theorem sload_e {j:Nat}:pN P m T (.eptr rows j off) C=HQ (pS P T) (cE P T) off rows[j]? C:=by
 have hc:uD m (.eptr rows j off)=(rows[j]?).map λr=>r.drop off:=rfl;unfold pN HQ;rw [hc];cases hb:rows[j]? with
 | none=>cases pS P T with
   | none=>rfl
   | some b=>cases b <;> cases cE P T <;> rfl
 | some r=>
   simp only [iI];cases pS P T with
   | none=>rfl
   | some b=>
     cases b with
     | true=>cases cE P T <;> rfl
     | false=>
       simp only [hd];cases r.drop off <;> rfl
@[go_sem] theorem sload_q:pN P m T (.pp id off) C=HQ (pS P T) (cE P T) off (m.hp id) C:=by
 have hc:uD m (.pp id off)=(m.hp id).map λr=>r.drop off:=rfl;unfold pN HQ;rw [hc];cases hb:m.hp id with
 | none=>cases pS P T with
   | none=>rfl
   | some b=>cases b <;> cases cE P T <;> rfl
 | some r=>
   simp only [iI];cases pS P T with
   | none=>rfl
   | some b=>
     cases b with
     | true=>cases cE P T <;> rfl
     | false=>
       simp only [hd];cases r.drop off <;> rfl
@[go_sem] theorem sloadE_f {z:Option Nat} {r:List V}:HQ (some false) z off (some r) C=hd (r.drop off) C:=rI rfl
@[go_sem] theorem sloadE_t {r:List V}:HQ (some true) (some n) off (some r) C=(n<=(r.drop off).length/\C (.agg (((r.drop off).take n).map V.shared))):=rI rfl
@[go_sem] theorem ld_lit {s:sW} {x:Value}:V.ld s (.lit x)=.lit x:=rI rfl
@[go_sem] theorem ld_ptr {s:sW}:V.ld s (.ptr id off)=.ptr id off:=rI rfl
@[go_sem] theorem ld_pp {s:sW}:V.ld s (.pp id off)=.pp id off:=rI rfl
@[go_sem] theorem ld_vec {s:sW} {sz len:Nat}:V.ld s (.vec id sz len)=.vec id sz len:=rI rfl
def ldO (s:sW):Jt->Jt
 | .self=>.st s
 | o=>o
@[go_sem] theorem ld_list {s:sW}:V.ld s (.list o rows)=.list (ldO s o) rows:=by cases o <;> rfl
@[go_sem] theorem ldO_self {s:sW}:ldO s .self=.st s:=rI rfl
@[go_sem] theorem ldO_none {s:sW}:ldO s .none=.none:=rI rfl
def Hm:Option (List V)->Option Nat->Bool->Nat->Nat->M->(M->Prop)->Prop
 | some vs,some n,ok,len,off,m',C=>ok=true/\len=n/\off+n<=vs.length/\C m'
 | _,_,_,_,_,_,_=>False
@[go_sem] theorem sstore_p:Bt P m T (.ptr id off) v Cm=Hm (m.blk id) (cE P T) v.cellsOk v.cells.length off (m.stN id off v.cells) Cm:=by
 unfold Bt Hm;simp only;cases m.blk id <;> cases cE P T <;> rfl
def hpGet:Option (List V)->List V
 | some vs=>vs
 | none=>[]
@[go_sem] theorem hpGet_some:hpGet (some vs)=vs:=rI rfl
@[go_sem] theorem sstore_q:Bt P m T (.pp id off) v Cm=Hm (m.hp id) (cE P T) v.cellsOk v.cells.length off (m.hset id (Gn (hpGet (m.hp id)) off (v.cells.map V.toHp))) Cm:=by
 unfold Bt Hm;simp only;cases m.hp id <;> cases cE P T <;> rfl
@[go_sem] theorem putN_nil:Gn cs off []=cs:=rI rfl
@[go_sem] theorem putN_cons:Gn cs off (v::vs)=Gn (cs.set off v) (off+1) vs:=rI rfl
@[go_sem] theorem toHp_lit {x:Value}:V.toHp (.lit x)=.lit x:=rI rfl
@[go_sem] theorem toHp_none:V.toHp (.list .none rows)=.list .none rows:=rI rfl
@[go_sem] theorem toHp_nil:V.toHp (.list .exact [])=.nilv:=rI rfl
@[go_sem] theorem toHp_vec {sz len:Nat}:V.toHp (.vec id sz len)=.vec id sz len:=rI rfl
@[go_sem] theorem toHp_nilv:V.toHp .nilv=.nilv:=rI rfl
@[go_sem] theorem hset_blk:(m.hset id vs).blk=m.blk:=rI rfl
@[go_sem] theorem hset_ver:(m.hset id vs).ver=m.ver:=rI rfl
@[go_sem] theorem hset_gl:(m.hset id vs).gl=m.gl:=rI rfl
@[go_sem] theorem sstoreB_some {ok:Bool} {len:Nat} {m':M}:Hm (some vs) (some n) ok len off m' Cm=(ok=true/\len=n/\off+n<=vs.length/\Cm m'):=rI rfl
@[go_sem] theorem cells_agg:V.cells (.agg vs)=vs:=rI rfl
@[go_sem] theorem cells_lit {x:Value}:V.cells (.lit x)=[.lit x]:=rI rfl
@[go_sem] theorem cells_ptr:V.cells (.ptr id off)=[.ptr id off]:=rI rfl
@[go_sem] theorem cells_list:V.cells (.list o rows)=[.list o rows]:=rI rfl
@[go_sem] theorem cells_pp:V.cells (.pp id off)=[.pp id off]:=rI rfl
@[go_sem] theorem cells_vec {sz len:Nat}:V.cells (.vec id sz len)=[.vec id sz len]:=rI rfl
@[go_sem] theorem cells_fn {f:Fn} {xs ys:List V}:V.cells (.fn f xs ys)=[.fn f xs ys]:=rI rfl
@[go_sem] theorem cok_agg:V.cellsOk (.agg vs)=true:=rI rfl
@[go_sem] theorem cok_int:V.cellsOk (.lit (.int k i))=true:=rI rfl
@[go_sem] theorem cok_bool {b:Bool}:V.cellsOk (.lit (.bool b))=true:=rI rfl
@[go_sem] theorem cok_str {b:ByteArray}:V.cellsOk (.lit (.string b))=true:=rI rfl
@[go_sem] theorem cok_ptr:V.cellsOk (.ptr id off)=true:=rI rfl
@[go_sem] theorem cok_list:V.cellsOk (.list o rows)=true:=rI rfl
@[go_sem] theorem cok_pp:V.cellsOk (.pp id off)=true:=rI rfl
@[go_sem] theorem cok_vec {sz len:Nat}:V.cellsOk (.vec id sz len)=true:=rI rfl
@[go_sem] theorem cok_fn {f:Fn} {xs ys:List V}:V.cellsOk (.fn f xs ys)=true:=rI rfl
@[go_sem] theorem stN_nil:M.stN m id off []=m:=rI rfl
def stB:Option (List V)->M->Pa->Nat->V->M
 | some cs,m,id,off,v=>m.st1 id cs off v
 | none,m,_,_,_=>m
@[go_sem] theorem stN_cons:M.stN m id off (v::vs)=(stB (m.blk id) m id off v).stN id (off+1) vs:=by
 simp only [M.stN];cases m.blk id <;> rfl
@[go_sem] theorem stB_some:stB (some cs) m id off v=m.st1 id cs off v:=rI rfl
@[go_sem] theorem st1_lit {x:Value}:M.st1 m id cs off (.lit x)=m.set id (cs.set off (.lit x)):=rI rfl
@[go_sem] theorem st1_pp {id':Pa} {off':Nat}:M.st1 m id cs off (.pp id' off')=m.set id (cs.set off (.pp id' off')):=rI rfl
@[go_sem] theorem st1_vec {id':Pa} {sz len:Nat}:M.st1 m id cs off (.vec id' sz len)=m.set id (cs.set off (.vec id' sz len)):=rI rfl
@[go_sem] theorem st1_nilv:M.st1 m id cs off .nilv=m.set id (cs.set off .nilv):=rI rfl
@[go_sem] theorem st1_list:M.st1 m id cs off (.list o rows)=if DD m o rows then ((m.kill o).set id (cs.set off (.list .self rows))).bump id off else m.set id (cs.set off (.list .none rows)):=rI rfl
@[go_sem] theorem TD:DD m .exact rows=true:=rI rfl
@[go_sem] theorem selfable_none:DD m .none rows=false:=rI rfl
@[go_sem] theorem selfable_anon {j:Nat}:DD m (.st (.anon id j)) rows=m.tok id j:=rI rfl
@[go_sem] theorem kill_exact:M.kill m .exact=m:=rI rfl
@[go_sem] theorem kill_anon {j:Nat}:M.kill m (.st (.anon id j))=m.tokset id j false:=rI rfl
@[go_sem] theorem drop_exact:M.drop m .exact=m:=rI rfl
def Jl:List V->List V->M->Pa->Nat->M
 | .list .self rows::_,cs,m,id,off=>m.set id (cs.set off (.list .none rows))
 | _,_,m,_,_=>m
def AW:Option (List V)->M->Pa->Nat->M
 | some cs,m,id,off=>Jl (cs.drop off) cs m id off
 | none,m,_,_=>m
@[go_sem] theorem RR {j:Nat}:M.drop m (.st (.cell id off j))=AW (m.blk id) m id off:=by
 show m.unself id off=_;unfold M.unself AW;cases m.blk id with
 | none=>rfl
 | some cs=>
   simp only;rw [←xeq];cases cs.drop off with
   | nil=>rfl
   | cons u us=>cases u with
     | list o rows=>cases o <;> rfl
     | _=>rfl
@[go_sem] theorem unselfB_some:AW (some cs) m id off=Jl (cs.drop off) cs m id off:=rI rfl
@[go_sem] theorem unselfC_self:Jl (.list .self rows::vs) cs m id off=m.set id (cs.set off (.list .none rows)):=rI rfl
@[go_sem] theorem unselfC_none:Jl (.list .none rows::vs) cs m id off=m:=rI rfl
@[go_sem] theorem set_blk {id':Pa}:(m.set id vs).blk id'=if id'=id then some vs else m.blk id':=rI rfl
@[go_sem] theorem set_ver:(m.set id vs).ver=m.ver:=rI rfl
@[go_sem] theorem set_tok:(m.set id vs).tok=m.tok:=rI rfl
@[go_sem] theorem set_gl:(m.set id vs).gl=m.gl:=rI rfl
@[go_sem] theorem set_hp:(m.set id vs).hp=m.hp:=rI rfl
@[go_sem] theorem bump_hp:(m.bump id off).hp=m.hp:=rI rfl
@[go_sem] theorem tokset_hp {b:Bool}:(m.tokset id n b).hp=m.hp:=rI rfl
@[go_sem] theorem bump_blk:(m.bump id off).blk=m.blk:=rI rfl
@[go_sem] theorem bump_tok:(m.bump id off).tok=m.tok:=rI rfl
@[go_sem] theorem bump_gl:(m.bump id off).gl=m.gl:=rI rfl
@[go_sem] theorem bump_ver {id':Pa} {off':Nat}:(m.bump id off).ver id' off'=if id'=id/\off'=off then m.ver id' off'+1 else m.ver id' off':=rI rfl
@[go_sem] theorem tokset_blk {b:Bool}:(m.tokset id n b).blk=m.blk:=rI rfl
@[go_sem] theorem tokset_ver {b:Bool}:(m.tokset id n b).ver=m.ver:=rI rfl
@[go_sem] theorem tokset_gl {b:Bool}:(m.tokset id n b).gl=m.gl:=rI rfl
@[go_sem] theorem tokset_tok {b:Bool} {id':Pa} {n':Nat}:(m.tokset id n b).tok id' n'=if id'=id/\n'=n then b else m.tok id' n':=rI rfl
@[go_sem] theorem set_set {vs':List V}:(m.set id vs).set id vs'=m.set id vs':=by
 show M.mk _ m.ver m.tok m.gl m.hp=M.mk _ m.ver m.tok m.gl m.hp
 congr 1
 funext i
 show (if i=id then some vs' else if i=id then some vs else m.blk i)=if i=id then some vs' else m.blk i
 by_cases h:i=id
 ·rw [if_pos h,if_pos h]
 ·rw [if_neg h,if_neg h,if_neg h]
def Uq:Option (List V)->Nat->Bool
 | some cs,off=>(match cs.drop off with | .list .self _::_=>true | _=>false)
 | none,_=>false
def TE:List V->Bool
 | .list .self _::_=>true
 | _=>false
@[go_sem] theorem liveB_anon {j:Nat}:fA m (.anon id j)=m.tok id j:=rI rfl
@[go_sem] theorem liveB_c {j:Nat}:fA m (.cell id off j)=(m.ver id off == j && Uq (m.blk id) off):=by
 unfold fA Uq;simp only;cases m.blk id with
 | none=>rfl
 | some cs=>
   simp only;rw [←xeq];cases cs.drop off with
   | nil=>rfl
   | cons u us=>cases u with
     | list o rows=>cases o <;> rfl
     | _=>rfl
@[go_sem] theorem liveC_some:Uq (some cs) off=TE (cs.drop off):=rI rfl
@[go_sem] theorem selfHd_self:TE (.list .self rows::vs)=true:=rI rfl
@[go_sem] theorem Si:uR m .exact rows=true:=rI rfl
@[go_sem] theorem appendable_st {s:sW}:uR m (.st s) rows=(rows.isEmpty || fA m s):=rI rfl
@[go_sem] theorem raw0_lit {x:Value}:V.raw0 (.lit x)=.lit x:=rI rfl
def rawO:Jt->List (List V)->Jt
 | .exact,_=>.self
 | .st _,[]=>.self
 | _,_=>.none
@[go_sem] theorem raw0_list:V.raw0 (.list o rows)=.list (rawO o rows) rows:=by
 cases o with
 | st s=>cases rows <;> rfl
 | _=>rfl
@[go_sem] theorem rawO_exact:rawO .exact rows=.self:=rI rfl
@[go_sem] theorem rawO_none:rawO .none rows=.none:=rI rfl
@[go_sem] theorem raw0_ptr:V.raw0 (.ptr id off)=.ptr id off:=rI rfl
@[go_sem] theorem shared_list:V.shared (.list o rows)=.list .none rows:=rI rfl
@[go_sem] theorem shared_lit {x:Value}:V.shared (.lit x)=.lit x:=rI rfl
@[go_sem] theorem raw0_vec {sz len:Nat}:V.raw0 (.vec id sz len)=.vec id sz len:=rI rfl
@[go_sem] theorem raw0_nilv:V.raw0 .nilv=.list .self []:=rI rfl
@[go_sem] theorem shared_vec {sz len:Nat}:V.shared (.vec id sz len)=.vec id sz len:=rI rfl
@[go_sem] theorem shared_nilv:V.shared .nilv=.nilv:=rI rfl
@[go_sem] theorem shared_fn {f:Fn} {xs ys:List V}:V.shared (.fn f xs ys)=.fn f xs ys:=rI rfl
@[go_sem] theorem weak_lit {x:Value}:V.weak (.lit x)=.lit x:=rI rfl
@[go_sem] theorem weak_list:V.weak (.list o rows)=.list .none rows:=rI rfl
@[go_sem] theorem weak_agg:V.weak (.agg vs)=.agg (vs.map V.shared):=rI rfl
@[go_sem] theorem weak_tup:V.weak (.tup vs)=.tup (vs.map V.weak1):=rI rfl
@[go_sem] theorem weak1_lit {x:Value}:V.weak1 (.lit x)=.lit x:=rI rfl
@[go_sem] theorem weak1_list:V.weak1 (.list o rows)=.list .none rows:=rI rfl
@[go_sem] theorem weak1_ptr:V.weak1 (.ptr id off)=.ptr id off:=rI rfl
@[go_sem] theorem weak1_agg:V.weak1 (.agg vs)=.agg (vs.map V.shared):=rI rfl
def HD:Option (List V)->(V->Prop)->Prop
 | some r,C=>C (.agg r)
 | none,_=>False
@[go_sem] theorem fillU_some:HD (some vs) C=C (.agg vs):=rI rfl
def Eu (P:Program) (T:TypeId):UD->List (Nat × V)->(V->Prop)->Prop
 | .st,ps,C=>(match cY P T,pU P T with | some zs,some l=>HD (yB (l[·]?) zs ps) C | _,_=>False)
 | .ar _ e,ps,C=>(match cY P T,cE P e with | some zs,some s=>HD (yB (λi=>some (i*s,s)) zs ps) C | _,_=>False)
 | _,_,_=>False
@[go_sem] theorem sbuild_u {ps:List (Nat × V)}:AG P T ps C=Eu P T (ud P T) ps C:=by
 unfold AG ud;cases P.underlying T with
 | none=>rfl
 | some d=>
   cases d with
   | struct fs=>
     simp only [Tk,Eu];cases cY P T with
     | none=>rfl
     | some zs=>
       simp only;cases pU P T with
       | none=>rfl
       | some l=>simp only [HD];cases yB (l[·]?) zs ps <;> rfl
   | array n e=>
     simp only [Tk,Eu];cases cY P T with
     | none=>rfl
     | some zs=>
       simp only;cases cE P e with
       | none=>rfl
       | some s=>simp only [HD];cases yB (λi=>some (i*s,s)) zs ps <;> rfl
   | _=>cases cY P T <;> rfl
def bldS:Option (List V)->Option (List (Nat × Nat))->List (Nat × V)->(V->Prop)->Prop
 | some zs,some l,ps,C=>HD (fillS l zs ps) C
 | _,_,_,_=>False
where fillS (l:List (Nat × Nat)) (zs:List V) (ps:List (Nat × V)):Option (List V):=yB (l[·]?) zs ps
def bldA:Option (List V)->Option Nat->List (Nat × V)->(V->Prop)->Prop
 | some zs,some s,ps,C=>HD (yB (λi=>some (i*s,s)) zs ps) C
 | _,_,_,_=>False
@[go_sem] theorem sbuildU_s {ps:List (Nat × V)}:Eu P T .st ps C=bldS (cY P T) (pU P T) ps C:=by
 unfold Eu bldS;cases cY P T <;> cases pU P T <;> rfl
@[go_sem] theorem sbuildU_a {e:TypeId} {ps:List (Nat × V)}:Eu P T (.ar n e) ps C=bldA (cY P T) (cE P e) ps C:=by
 unfold Eu bldA;simp only;cases cY P T <;> cases cE P e <;> rfl
@[go_sem] theorem bldS_some {zs:List V} {l:List (Nat × Nat)} {ps:List (Nat × V)}:bldS (some zs) (some l) ps C=HD (yB (l[·]?) zs ps) C:=rI rfl
@[go_sem] theorem bldA_some {zs:List V} {ps:List (Nat × V)}:bldA (some zs) (some s) ps C=HD (yB (λi=>some (i*s,s)) zs ps) C:=rI rfl
@[go_sem] theorem fillV_nil {pl:Nat->Option (Nat × Nat)}:yB pl cs []=some cs:=rI rfl
def UK (pl:Nat->Option (Nat × Nat)) (cells:List V) (v:V) (rest:List (Nat × V)):Option (Nat × Nat)->Option (List V)
 | none=>none
 | some (off,size)=>if v.cellsOk=true/\v.cells.length=size/\off+size<=cells.length then yB pl (cells.take off++v.cells++cells.drop (off+size)) rest else none
@[go_sem] theorem fillV_cons {pl:Nat->Option (Nat × Nat)} {j:Nat} {rest:List (Nat × V)}:yB pl cs ((j,v)::rest)=UK pl cs v rest (pl j):=by
 simp only [yB,UK];cases pl j <;> rfl
@[go_sem] theorem fillP_some {pl:Nat->Option (Nat × Nat)} {rest:List (Nat × V)}:UK pl cs v rest (some (off,s))=if v.cellsOk=true/\v.cells.length=s/\off+s<=cs.length then yB pl (cs.take off++v.cells++cs.drop (off+s)) rest else none:=rI rfl
def bslU (P:Program):UD->Nat->List (Nat × V)->(V->Prop)->Prop
 | .sl e,n,ps,C=>(match cE P e,cY P e with
   | some s,some _=>ps.map Prod.fst=List.range n/\0<s/\n*s<=16777216/\(∀p ∈ ps,p.2.cellsOk=true/\p.2.cells.length=s)/\C (.list .exact (ps.map λp=>p.2.cells.map V.shared))
   | _,_=>False)
 | _,_,_,_=>False
@[go_sem] theorem sbuildSlice_u {ps:List (Nat × V)}:oQ P T n ps C=bslU P (ud P T) n ps C:=by
 unfold oQ ud;cases P.underlying T with
 | none=>rfl
 | some d=>cases d <;> rfl
def bslC:Option Nat->Option (List V)->Nat->List (Nat × V)->(V->Prop)->Prop
 | some s,some _,n,ps,C=>ps.map Prod.fst=List.range n/\0<s/\n*s<=16777216/\(∀p ∈ ps,p.2.cellsOk=true/\p.2.cells.length=s)/\C (.list .exact (ps.map λp=>p.2.cells.map V.shared))
 | _,_,_,_,_=>False
@[go_sem] theorem bslU_l {e:TypeId} {ps:List (Nat × V)}:bslU P (.sl e) n ps C=bslC (cE P e) (cY P e) n ps C:=by
 unfold bslU bslC;simp only;cases cE P e <;> cases cY P e <;> rfl
def Kz (s:Nat):Nat->List (Nat × V)->Prop
 | _,[]=>True
 | j,(i,v)::ps=>i=j/\v.cellsOk=true/\v.cells.length=s/\Kz s (j+1) ps
@[go_sem] theorem bslOk_nil {j:Nat}:Kz s j []=True:=rI rfl
@[go_sem] theorem PJ {j i:Nat} {ps:List (Nat × V)}:Kz s j ((i,v)::ps)=(i=j/\v.cellsOk=true/\v.cells.length=s/\Kz s (j+1) ps):=rI rfl
theorem Vd:∀ {ps:List (Nat × V)} {j:Nat},Kz s j ps ↔ ps.map Prod.fst=(List.range ps.length).map (j + ·)/\∀p ∈ ps,p.2.cellsOk=true/\p.2.cells.length=s:=by
 intro ps
 induction ps with
 | nil=>intro j;simp [Kz]
 | cons p ps ih=>
   intro j;obtain ⟨i,v⟩:=p;rw [PJ,ih];simp only [gT,dT,List.range_succ_eq_map,xee,List.cons.injEq,SV,jH];have:((λx=>j+x) ∘ Nat.succ)=λx=>j+1+x:=by funext x;simp only [Function.comp];omega
   rw [this]
   constructor
   ·rintro ⟨h1,h2,h3,h4,h5⟩;exact ⟨⟨h1,h4⟩,⟨h2,h3⟩,h5⟩
   ·rintro ⟨⟨h1,h4⟩,⟨h2,h3⟩,h5⟩;exact ⟨h1,h2,h3,h4,h5⟩
@[go_sem] theorem bslC_some {zs:List V} {ps:List (Nat × V)}:bslC (some s) (some zs) n ps C=(ps.length=n/\Kz s 0 ps/\0<s/\n*s<=16777216/\C (.list .exact (ps.map λp=>p.2.cells.map V.shared))):=by
 apply propext;show (ps.map Prod.fst=List.range n/\0<s/\n*s<=16777216/\(∀p ∈ ps,p.2.cellsOk=true/\p.2.cells.length=s)/\_) ↔ _;rw [Vd];have hz:∀l:List Nat,l.map (0 + ·)=l:=λl=>by simp
 rw [hz]
 constructor
 ·rintro ⟨h1,h2,h3,h4,h5⟩;have hl:ps.length=n:=by have:=congrArg List.length h1;simpa using this
  exact ⟨hl,⟨by rw [hl];exact h1,h4⟩,h2,h3,h5⟩
 ·rintro ⟨hl,⟨h1,h4⟩,h2,h3,h5⟩;exact ⟨by rw [h1,hl],h2,h3,h4,h5⟩
def Ub:UD->V->Option (List (List V))
 | .sl _,.list _ rows=>some rows
 | .str,.lit (.string s)=>some (kV s)
 | _,_=>none
@[go_sem] theorem newsV_u:LC P T v=Ub (ud P T) v:=by
 unfold LC ud;cases P.underlying T with
 | none=>rfl
 | some d=>cases d <;> first | rfl | (cases v <;> first | rfl | (rename_i x;cases x <;> rfl))
@[go_sem] theorem newsU_l {e:TypeId}:Ub (.sl e) (.list o rows)=some rows:=rI rfl
def MG (P:Program) (q:Pa) (m:M):UD->V->Option (List (List V))->(V->M->Prop)->Prop
 | .sl e,.list o rows,some rows2,C=>(match cE P e,cY P e,(P.info? e).map (·.bytes) with
    | some n,some zs,some by_=>uR m o rows=true/\0<n/\by_<=65536/\zs.length=n/\(∀r ∈ rows,r.length=n)/\(∀r ∈ rows2,r.length=n)/\rows.length+rows2.length<=1073741824 ∧
       C (.list (.st (.anon q 0)) (rows++rows2)) ((m.drop o).tokset q 0 true)
    | _,_,_=>False)
 | .sl e,.nilv,some rows2,C=>(match cE P e,cY P e,(P.info? e).map (·.bytes) with
    | some n,some zs,some by_=>0<n/\by_<=65536/\zs.length=n/\(∀r ∈ rows2,r.length=n)/\0<rows2.length/\rows2.length<=1073741824 ∧
       C (.vec q n rows2.length) (m.hset q (rows2.flatten.map V.toHp))
    | _,_,_=>False)
 | .sl e,.vec id sz len,some rows2,C=>(match cE P e,cY P e,(P.info? e).map (·.bytes),m.hp id with
    | some n,some zs,some by_,some vs=>sz=n/\by_<=65536/\zs.length=n/\(∀r ∈ rows2,r.length=n)/\len*n<=vs.length/\len+rows2.length<=1073741824 ∧
       C (.vec q n (len+rows2.length)) (m.hmove id q (vs.take (len*n)++rows2.flatten.map V.toHp))
    | _,_,_,_=>False)
 | _,_,_,_=>False
@[go_sem] theorem sappend_u {q:Pa} {u:TypeId} {x:V}:vU P q m T u v x CM=MG P q m (ud P T) v (Ub (ud P u) x) CM:=by
 rw [←newsV_u];unfold vU ud;cases P.underlying T with
 | none=>rfl
 | some d=>cases d <;> first | rfl | (cases v <;> first | rfl | (cases LC P u x <;> rfl))
def appC (q:Pa) (m:M) (o:Jt) (rows rows2:List (List V)):Option Nat->Option (List V)->Option Nat->(V->M->Prop)->Prop
 | some n,some zs,some by_,C=>uR m o rows=true/\0<n/\by_<=65536/\zs.length=n/\(∀r ∈ rows,r.length=n)/\(∀r ∈ rows2,r.length=n)/\rows.length+rows2.length<=1073741824 ∧
      C (.list (.st (.anon q 0)) (rows++rows2)) ((m.drop o).tokset q 0 true)
 | _,_,_,_=>False
@[go_sem] theorem appU_l {q:Pa} {e:TypeId}:MG P q m (.sl e) (.list o rows) (some rows2) CM=appC q m o rows rows2 (cE P e) (cY P e) ((P.info? e).map (·.bytes)) CM:=by
 unfold MG appC;simp only;cases cE P e <;> cases cY P e <;> cases (P.info? e).map (·.bytes) <;> rfl
def appN (q:Pa) (m:M) (rows2:List (List V)):Option Nat->Option (List V)->Option Nat->(V->M->Prop)->Prop
 | some n,some zs,some by_,C=>0<n/\by_<=65536/\zs.length=n/\(∀r ∈ rows2,r.length=n)/\0<rows2.length/\rows2.length<=1073741824/\C (.vec q n rows2.length) (m.hset q (rows2.flatten.map V.toHp))
 | _,_,_,_=>False
def appV (q:Pa) (m:M) (id:Pa) (sz len:Nat) (rows2:List (List V)):Option Nat->Option (List V)->Option Nat->Option (List V)->(V->M->Prop)->Prop
 | some n,some zs,some by_,some vs,C=>sz=n/\by_<=65536/\zs.length=n/\(∀r ∈ rows2,r.length=n)/\len*n<=vs.length/\len+rows2.length<=1073741824/\C (.vec q n (len+rows2.length)) (m.hmove id q (vs.take (len*n)++rows2.flatten.map V.toHp))
 | _,_,_,_,_=>False
@[go_sem] theorem appU_n {q:Pa} {e:TypeId}:MG P q m (.sl e) .nilv (some rows2) CM=appN q m rows2 (cE P e) (cY P e) ((P.info? e).map (·.bytes)) CM:=by
 unfold MG appN;simp only;cases cE P e <;> cases cY P e <;> cases (P.info? e).map (·.bytes) <;> rfl
@[go_sem] theorem appU_v {q:Pa} {e:TypeId} {sz len:Nat}:MG P q m (.sl e) (.vec id sz len) (some rows2) CM=appV q m id sz len rows2 (cE P e) (cY P e) ((P.info? e).map (·.bytes)) (m.hp id) CM:=by
 unfold MG appV;simp only;cases cE P e <;> cases cY P e <;> cases (P.info? e).map (·.bytes) <;> cases m.hp id <;> rfl
@[go_sem] theorem Sk {q:Pa} {zs:List V} {by_:Nat}:appN q m rows2 (some n) (some zs) (some by_) CM=(0<n/\by_<=65536/\zs.length=n/\(∀r ∈ rows2,r.length=n)/\0<rows2.length/\rows2.length<=1073741824/\CM (.vec q n rows2.length) (m.hset q (rows2.flatten.map V.toHp))):=rI rfl
@[go_sem] theorem Sj {q:Pa} {zs:List V} {by_ sz len:Nat}:appV q m id sz len rows2 (some n) (some zs) (some by_) (some vs) CM=(sz=n/\by_<=65536/\zs.length=n/\(∀r ∈ rows2,r.length=n)/\len*n<=vs.length/\len+rows2.length<=1073741824/\CM (.vec q n (len+rows2.length)) (m.hmove id q (vs.take (len*n)++rows2.flatten.map V.toHp))):=rI rfl
def mkU (P:Program) (q:Pa) (m:M):UD->V->V->(V->M->Prop)->Prop
 | .sl e,.lit (.int _ n),.lit (.int _ n2),C=>(match cE P e,cY P e,(P.info? e).map (·.bytes) with
    | some s,some zs,some by_=>n=n2/\0<=n/\0<s/\by_<=65536/\zs.length=s/\n<=1073741824/\C (.vec q s n.toNat) (m.hset q (List.replicate n.toNat (zs.map V.toHp)).flatten)
    | _,_,_=>False)
 | _,_,_,_=>False
@[go_sem] theorem smake_u {q:Pa} {l kk:V}:Hq P q m T l kk CM=mkU P q m (ud P T) l kk CM:=by
 unfold Hq ud;cases P.underlying T with
 | none=>rfl
 | some d=>cases d <;> first | rfl | (cases l <;> first | rfl | (rename_i x;cases x <;> first | rfl | (cases kk <;> first | rfl | (rename_i y;cases y <;> rfl))))
def mkC (q:Pa) (m:M) (i i2:Int):Option Nat->Option (List V)->Option Nat->(V->M->Prop)->Prop
 | some s,some zs,some by_,C=>i=i2/\0<=i/\0<s/\by_<=65536/\zs.length=s/\i<=1073741824/\C (.vec q s i.toNat) (m.hset q (List.replicate i.toNat (zs.map V.toHp)).flatten)
 | _,_,_,_=>False
@[go_sem] theorem mkU_l {q:Pa} {e:TypeId} {k2:IntKind} {i2:Int}:mkU P q m (.sl e) (.lit (.int k i)) (.lit (.int k2 i2)) CM=mkC q m i i2 (cE P e) (cY P e) ((P.info? e).map (·.bytes)) CM:=by
 unfold mkU mkC;simp only;cases cE P e <;> cases cY P e <;> cases (P.info? e).map (·.bytes) <;> rfl
@[go_sem] theorem mkC_some {q:Pa} {zs:List V} {by_:Nat} {i2:Int}:mkC q m i i2 (some s) (some zs) (some by_) CM=(i=i2/\0<=i/\0<s/\by_<=65536/\zs.length=s/\i<=1073741824/\CM (.vec q s i.toNat) (m.hset q (List.replicate i.toNat (zs.map V.toHp)).flatten)):=rI rfl
def Uf (P:Program):UD->V->V->(V->Prop)->Prop
 | .sl e,.lit (.int _ i),.lit (.int _ i2),C=>mkLC i i2 (cE P e) (cY P e) ((P.info? e).map (·.bytes)) C
 | _,_,_,_=>False
where mkLC (i i2:Int):Option Nat->Option (List V)->Option Nat->(V->Prop)->Prop
 | some s,some zs,some by_,C=>i=i2/\0<=i/\0<s/\by_<=65536/\zs.length=s/\i<=1073741824/\C (.list .exact (List.replicate i.toNat (zs.map V.toHp)))
 | _,_,_,_=>False
@[go_sem] theorem smakeL_u {l kk:V}:CZ P T l kk C=Uf P (ud P T) l kk C:=by
 unfold CZ ud;cases P.underlying T with
 | none=>rfl
 | some d=>cases d <;> first | rfl | (cases l <;> first | rfl | (rename_i x;cases x <;> first | rfl | (cases kk <;> first | rfl | (rename_i e _ _ y;cases y <;> first | rfl | (show _=Uf.mkLC _ _ (cE P e) (cY P e) ((P.info? e).map (·.bytes)) C;simp only;cases cE P e <;> cases cY P e <;> cases (P.info? e).map (·.bytes) <;> rfl)))))
@[go_sem] theorem mkLU_l {e:TypeId} {k2:IntKind} {i2:Int}:Uf P (.sl e) (.lit (.int k i)) (.lit (.int k2 i2)) C=Uf.mkLC i i2 (cE P e) (cY P e) ((P.info? e).map (·.bytes)) C:=rI rfl
@[go_sem] theorem mkLC_some {zs:List V} {by_:Nat} {i2:Int}:Uf.mkLC i i2 (some s) (some zs) (some by_) C=(i=i2/\0<=i/\0<s/\by_<=65536/\zs.length=s/\i<=1073741824/\C (.list .exact (List.replicate i.toNat (zs.map V.toHp)))):=rI rfl
@[go_sem] theorem appC_some {q:Pa} {zs:List V} {by_:Nat}:appC q m o rows rows2 (some n) (some zs) (some by_) CM=(uR m o rows=true/\0<n/\by_<=65536/\zs.length=n/\(∀r ∈ rows,r.length=n)/\(∀r ∈ rows2,r.length=n)/\rows.length+rows2.length<=1073741824/\CM (.list (.st (.anon q 0)) (rows++rows2)) ((m.drop o).tokset q 0 true)):=rI rfl
def cvU (P:Program) (src dst:TypeId):UD->UD->V->(V->Prop)->Prop
 | .int _,.int k,.lit (.int _ n),C=>C (.lit (.int k (k.wrap n)))
 | .int _,.str,.lit (.int _ n),C=>C (.lit (.string (Utf8.encode n)))
 | .str,.str,.lit (.string s),C=>C (.lit (.string s))
 | .sl e,.str,.list _ rows,C=>P.underlying e=some (.int .u8)/\∃s,rows=kV s/\C (.lit (.string s))
 | .str,.sl e,.lit (.string s),C=>P.underlying e=some (.int .u8)/\s.size<=4611686018427387904/\C (.list .none (kV s))
 | _,_,v,C=>AP P src dst v C
@[go_sem] theorem sconv_u {D:TypeId}:AP P T D v C=cvU P T D (ud P T) (ud P D) v C:=by
 unfold ud;cases hs:P.underlying T with
 | none=>rfl
 | some d=>
   cases hd:P.underlying D with
   | none=>cases d <;> rfl
   | some d'=>
     cases d <;> first
      | rfl
      | (cases d' <;> first
          | rfl
          | (cases v <;> first
              | rfl
              | (unfold cvU AP;rw [hs,hd];done)
              | (rename_i x;cases x <;> first | rfl | (unfold cvU AP;rw [hs,hd];done) | (simp only [Tk,cvU,AP,hs,hd]))
              | (simp only [Tk,cvU,AP,hs,hd])))
@[go_sem] theorem cvU_i {D:TypeId} {k2:IntKind}:cvU P T D (.int k2) (.int k) (.lit (.int k2 i)) C=C (.lit (.int k (k.wrap i))):=rI rfl
theorem Li {a b:ByteArray} (h:kV a=kV b):a=b:=by
 have h2:∀l l':List UInt8,(l.map λb=>[V.lit (.int .u8 (b.toNat:Int))])=(l'.map λb=>[V.lit (.int .u8 (b.toNat:Int))])->l=l':=by
  intro l
  induction l with
  | nil=>intro l' h;cases l' with | nil=>rfl | cons _ _=>cases h
  | cons x l ih=>
    intro l' h;cases l' with
    | nil=>cases h
    | cons y l'=>
      simp only [gT,List.cons.injEq,V.lit.injEq,Value.int.injEq,true_and,and_true,Int.ofNat_inj] at h;rw [ih l' h.2,UInt8.toNat_inj.1 h.1]
 have:=h2 _ _ h;cases a;cases b
 simp only [Array.toList_inj] at this;exact congrArg ByteArray.mk this
theorem ud_u8 {e:TypeId}:(P.underlying e=some (.int .u8))=(ud P e=.int .u8):=by
 apply propext;unfold ud
 constructor
 ·intro h;rw [h];rfl
 ·intro h;cases hu:P.underlying e with
  | none=>rw [hu] at h;cases h
  | some d=>rw [hu] at h;cases d <;> first | (cases h;done) | (injection h with h;rw [h])
@[go_sem] theorem cvU_ls {D e:TypeId} {b:ByteArray}:cvU P T D (.sl e) .str (.list o (kV b)) C=(ud P e=.int .u8/\C (.lit (.string b))):=by
 apply propext;show (P.underlying e=some (.int .u8)/\∃s,kV b=kV s/\C (.lit (.string s))) ↔ _;rw [ud_u8];exact and_congr_right λ_=>⟨λ⟨s,h,hc⟩=>by rw [Li h];exact hc,λhc=>⟨b,rfl,hc⟩⟩
def OT (P:Program):UD->V->Option V->Option V->(V->Prop)->Prop
 | .str,.lit (.string s),lo,hi,C=>
   (match mH lo 0,mH hi s.size with
    | some l,some h=>0<=l/\l<=h/\h<=s.size/\C (.lit (.string (s.extract l.toNat h.toNat)))
    | _,_=>False)
 | .sl e,.list _ rows,lo,hi,C=>
   (match mH lo 0,mH hi rows.length,cE P e with
    | some l,some h,some s=>0<=l/\l<=h/\h<=rows.length/\(∀r ∈ rows,r.length=s)/\C (.list .none ((rows.take h.toNat).drop l.toNat))
    | _,_,_=>False)
 | .ar n e,.eptr rows i off,lo,hi,C=>
   (match mH lo 0,mH hi n,cE P e,rows[i]? with
    | some l,some h,some s,some r=>0<s/\0<=l/\l<=h/\h<=n/\n<=1073741824/\off+n*s<=r.length/\C (.list .none (CG s (h.toNat - l.toNat) (r.drop (off+l.toNat*s))))
    | _,_,_,_=>False)
 | .ar n e,.ptr id off,lo,hi,C=>
   (match mH lo 0,mH hi n,cE P e with
    | some l,some h,some s=>0<=l/\l<=h/\h<=n/\l<n/\n<=1073741824/\C (.arr id (off+l.toNat*s) (h.toNat - l.toNat) (n - l.toNat))
    | _,_,_=>False)
 | .sl e,.vec id sz len,lo,hi,C=>
   (match mH lo 0,mH hi len,cE P e with
    | some l,some h,some _=>l=0/\0<=h/\h<=len/\C (.vec id sz h.toNat)
    | _,_,_=>False)
 | .sl e,.nilv,lo,hi,C=>
   (match mH lo 0,mH hi 0,cE P e with
    | some l,some h,some _=>l=0/\h=0/\C .nilv
    | _,_,_=>False)
 | _,_,_,_,_=>False
@[go_sem] theorem sslice_u {lo hi:Option V}:CY P T v lo hi C=OT P (ud P T) v lo hi C:=by
 unfold CY ud;cases P.underlying T with
 | none=>rfl
 | some d=>cases d <;> first | rfl | (cases v <;> first | rfl | (rename_i x;cases x <;> rfl))
def slS:Option Int->Option Int->ByteArray->(V->Prop)->Prop
 | some l,some h,s,C=>0<=l/\l<=h/\h<=s.size/\C (.lit (.string (s.extract l.toNat h.toNat)))
 | _,_,_,_=>False
def slL:Option Int->Option Int->Option Nat->List (List V)->(V->Prop)->Prop
 | some l,some h,some s,rows,C=>0<=l/\l<=h/\h<=rows.length/\(∀r ∈ rows,r.length=s)/\C (.list .none ((rows.take h.toNat).drop l.toNat))
 | _,_,_,_,_=>False
@[go_sem] theorem slU_s {b:ByteArray} {lo hi:Option V}:OT P .str (.lit (.string b)) lo hi C=slS (mH lo 0) (mH hi b.size) b C:=by
 unfold OT slS;simp only;cases mH lo 0 <;> cases mH hi b.size <;> rfl
@[go_sem] theorem slU_l {e:TypeId} {lo hi:Option V}:OT P (.sl e) (.list o rows) lo hi C=slL (mH lo 0) (mH hi rows.length) (cE P e) rows C:=by
 unfold OT slL;simp only;cases mH lo 0 <;> cases mH hi rows.length <;> cases cE P e <;> rfl
def slV:Option Int->Option Int->Option Nat->Pa->Nat->Nat->(V->Prop)->Prop
 | some l,some h,some _,id,sz,len,C=>l=0/\0<=h/\h<=len/\C (.vec id sz h.toNat)
 | _,_,_,_,_,_,_=>False
def slN:Option Int->Option Int->Option Nat->(V->Prop)->Prop
 | some l,some h,some _,C=>l=0/\h=0/\C .nilv
 | _,_,_,_=>False
@[go_sem] theorem slU_v {e:TypeId} {sz len:Nat} {lo hi:Option V}:OT P (.sl e) (.vec id sz len) lo hi C=slV (mH lo 0) (mH hi len) (cE P e) id sz len C:=by
 unfold OT slV;simp only;cases mH lo 0 <;> cases mH hi len <;> cases cE P e <;> rfl
@[go_sem] theorem slU_n {e:TypeId} {lo hi:Option V}:OT P (.sl e) .nilv lo hi C=slN (mH lo 0) (mH hi 0) (cE P e) C:=by
 unfold OT slN;simp only;cases mH lo 0 <;> cases mH hi 0 <;> cases cE P e <;> rfl
@[go_sem] theorem Tv {sz len:Nat} {l h:Int}:slV (some l) (some h) (some s) id sz len C=(l=0/\0<=h/\h<=len/\C (.vec id sz h.toNat)):=rI rfl
@[go_sem] theorem Tx {l h:Int}:slN (some l) (some h) (some s) C=(l=0/\h=0/\C .nilv):=rI rfl
@[go_sem] theorem slL_some {l h:Int}:slL (some l) (some h) (some s) rows C=(0<=l/\l<=h/\h<=rows.length/\(∀r ∈ rows,r.length=s)/\C (.list .none ((rows.take h.toNat).drop l.toNat))):=rI rfl
@[go_sem] theorem bndV_none {d:Nat}:mH none d=some (d:Int):=rI rfl
@[go_sem] theorem bndV_some {d:Nat}:mH (some (.lit (.int k i))) d=some i:=rI rfl
end
