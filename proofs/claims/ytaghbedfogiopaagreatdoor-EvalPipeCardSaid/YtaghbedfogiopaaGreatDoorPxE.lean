/- The operations on values that are written out: each by lemmas of its own; what comes behind is named, never a lambda. -/
import Derived.Test.YtaghbedfogiopaaGreatDoorPxD
import Derived.Lib.LaidTab
set_option linter.unusedSimpArgs false
set_option linter.unusedVariables false
set_option linter.unusedSectionVars false
set_option linter.unnecessarySimpa false
namespace Go.LX
open Go Go.RowKit Go.Proofs
theorem pe {A B:Prop} (h:A ↔ B):A=B:=propext h
def Bq {α:Type} (o:Option α) (C:α->Prop):Prop:=∃ a,o=some a/\C a
theorem Q9 {α:Type} {a:α} {C:α->Prop}:Bq (some a) C=C a:=pe ⟨fun ⟨_,h,hc⟩=>by cases h;exact hc,fun h=>⟨a,rfl,h⟩⟩
def getE {α:Type} (o:Option α) (C:α->Prop):Prop:=∃ a,o=some a/\C a
theorem Jeg {α:Type} {a:α} {C:α->Prop}:getE (some a) C=C a:=pe ⟨fun ⟨_,h,hc⟩=>by cases h;exact hc,fun h=>⟨a,rfl,h⟩⟩
theorem Yl {α:Type} [Inhabited α] {l:List α} {i:Nat} {C:α->Prop}:getE (l[i]?) C=(i<l.length/\C (l.getD i default)):=by
 apply pe;constructor
 ·rintro ⟨a,h,hc⟩;obtain ⟨h1,rfl⟩:=Eab.1 h;exact ⟨h1,by simpa[Eaj,h1] using hc⟩
 ·rintro ⟨h1,hc⟩;exact ⟨l[i],Eaa h1,by simpa[Eaj,h1] using hc⟩
theorem Jmu {α γ:Type} [Inhabited α] {l:List α} {f:α->γ} {i:Nat} {C:γ->Prop}:getE ((l.map f)[i]?) C=(i<l.length/\C (f (l.getD i default))):=by
 apply pe;rw[show getE ((l.map f)[i]?) C ↔ getE (l[i]?) (fun a=>C (f a)) from Iff.of_eq ex_map,Yl]
def at_ (s:List UInt8) (i:Nat):Nat:=(s.getD i 0).toNat
theorem Fr (s:List UInt8) (i:Nat):at_ s i<=255:=by
 have:=(s.getD i 0).toNat_lt;simp only[at_];omega
theorem Jxv {s:List UInt8} {i:Nat} {b:UInt8} (h:s[i]? = some b):at_ s i=b.toNat:=by simp[at_,Eaj,h]
theorem Ql {s:List UInt8} {i:Nat} (h:i<s.length):at_ s i=s[i].toNat:=by simp[at_,Eaj,h]
section
variable {X:Cx} {P:Program} {ro:Option Nat} {K:L->Prop} {J:St->Prop} {t:List L} {r:Regs} {ds:List (Option Tmp)}
theorem u_draw {id:Nat} {ops:Array Oper} {Q:Ex->St->Prop}:lwp X ro (.region id ops true) Q ⟨t,r⟩=SWP X ro (.region id ops true) Q ⟨t,r⟩:=(rfl)
theorem w_at0 {o:Oper} {ops:List Oper} {C:St->Prop}:lAt X ds (o :: ops) 0 C ⟨t,r⟩=F4 ds o.guard (lop X o C) (F9 o.dst C) ⟨t,r⟩:=(rfl)
theorem w_atS {o:Oper} {ops:List Oper} {C:St->Prop} {i:Nat}:lAt X ds (o :: ops) (i+1) C ⟨t,r⟩=lAt X ds ops i C ⟨t,r⟩:=(rfl)
theorem Jje {A B:St->Prop}:F4 ds none A B ⟨t,r⟩=A ⟨t,r⟩:=(rfl)
theorem u_cond {b:Bool} {A B:St->Prop}:O0 (.p (.bool b)) A B ⟨t,r⟩=if b=true then A ⟨t,r⟩ else B ⟨t,r⟩:=by
 cases b<;>simp[O0]
def gsel (o:Option Tmp) (want:Bool) (A B:St->Prop) (s:St):Prop :=
 match o with
 | some dj=>match s.tmps.getD dj .junk with
  | .p (.bool c)=>(c=want->A (s.put (some dj) (.p (.bool want))))/\(c=(!want)->B (s.put (some dj) (.p (.bool (!want)))))
  | .tup []=>B s
  | _=>False
 | none=>False
def gval (l:L) (dj:Tmp) (want:Bool) (A B:St->Prop) (s:St):Prop :=
 match l with
 | .p (.bool c)=>(c=want->A (s.put (some dj) (.p (.bool want))))/\(c=(!want)->B (s.put (some dj) (.p (.bool (!want)))))
 | .tup []=>B s
 | _=>False
theorem Jpt {j:Nat} {want:Bool} {A B:St->Prop}:F4 ds (some (j,want)) A B ⟨t,r⟩=gsel (ds.getD j none) want A B ⟨t,r⟩:=(rfl)
theorem u_gsel {dj:Tmp} {want:Bool} {A B:St->Prop}:gsel (some dj) want A B ⟨t,r⟩=gval (t.getD dj .junk) dj want A B ⟨t,r⟩:=(rfl)
theorem Jlr {dj:Tmp} {c:Bool} {A B:St->Prop}:gval (.p (.bool c)) dj true A B ⟨t,r⟩=if c=true then A ⟨t.set dj (.p (.bool true)),r⟩ else B ⟨t.set dj (.p (.bool false)),r⟩:=by
 cases c<;>simp[gval,St.put]
theorem Jie {dj:Tmp} {c:Bool} {A B:St->Prop}:gval (.p (.bool c)) dj false A B ⟨t,r⟩=if c=true then B ⟨t.set dj (.p (.bool true)),r⟩ else A ⟨t.set dj (.p (.bool false)),r⟩:=by
 cases c<;>simp[gval,St.put]
theorem Jb5 {dj:Tmp} {want:Bool} {A B:St->Prop}:gval (.tup []) dj want A B ⟨t,r⟩=B ⟨t,r⟩:=(rfl)
theorem u_pick {c:Bool} {a b:L}:Jc0 (.p (.bool c)) a b K=if c=true then K a else K b:=by cases c<;>simp[Jc0]
variable {cst:Bool}
theorem Jgk {op:BinOp} {ty:TypeId} {k k':IntKind} {a b:Int}:lbin P op ty cst (.p (.int k a)) (.p (.int k' b)) K=lint op k a k' b K:=(rfl)
theorem Jfr {op:BinOp} {ty:TypeId} {a b:List UInt8}:lbin P op ty cst (.p (.str a)) (.p (.str b)) K=lstr op a b K:=(rfl)
theorem Jho {ty:TypeId} {a b:Bool}:lbin P .eql ty cst (.p (.bool a)) (.p (.bool b)) K=(P.underlying ty=some .bool/\K (.p (.bool (a == b)))):=(rfl)
theorem Jhz {ty:TypeId} {a b:Bool}:lbin P .neq ty cst (.p (.bool a)) (.p (.bool b)) K=(P.underlying ty=some .bool/\K (.p (.bool (a != b)))):=(rfl)
def kb (K:L->Prop) (b:Bool):Prop:=K (.p (.bool b))
def knb (K:L->Prop) (b:Bool):Prop:=K (.p (.bool (!b)))
def Jld (o:Option (List Tag)) (a b:List PV) (C:Bool->Prop):Prop:=∃ ts,o=some ts/\Bq (Bt ts a b) C
theorem Jnt {ts:List Tag} {a b:List PV} {C:Bool->Prop}:Jld (some ts) a b C=Bq (Bt ts a b) C:=pe ⟨fun ⟨_,h,hc⟩=>by cases h;exact hc,fun h=>⟨ts,rfl,h⟩⟩
theorem Jhd {ty:TypeId} {a b:List PV}:lbin P .eql ty cst (.p (.agg a)) (.p (.agg b)) K=Jld (Nt P ty) a b (kb K):=(rfl)
theorem Jfg {ty:TypeId} {a b:List PV}:lbin P .neq ty cst (.p (.agg a)) (.p (.agg b)) K=Jld (Nt P ty) a b (knb K):=(rfl)
def ptrC (o:Option TypeDesc) (b:Bool):Option Bool:=match o with | some (.pointer _)=>some b | _=>none
def ifcC (o:Option TypeDesc) (b:Bool):Option Bool:=match o with | some (.interface _)=>some b | _=>none
def slcC (o:Option TypeDesc) (b:Bool):Option Bool:=match o with | some (.slice _)=>some b | _=>none
def ptrS (P:Program) (o:Option TypeDesc) (c:Bool):Option Bool:=match o with | some (.pointer e)=>if c=true/\P.cellsOf e≠0 then some true else none | _=>none
theorem c_ptrC {e:TypeId} {b:Bool}:ptrC (some (.pointer e)) b=some b:=(rfl)
theorem c_ifcC {ms:Array (String×TypeId)} {b:Bool}:ifcC (some (.interface ms)) b=some b:=(rfl)
theorem c_slcC {e:TypeId} {b:Bool}:slcC (some (.slice e)) b=some b:=(rfl)
theorem c_ptrS {e:TypeId} {c:Bool}:ptrS P (some (.pointer e)) c=if c=true/\P.cellsOf e≠0 then some true else none:=(rfl)
section
variable {op:BinOp} {ty:TypeId} {d i j d' i' j':Nat}
theorem u_n_pp:lbin P op ty cst (.p .nptr) (.p .nptr) K=Db (ptrC (P.underlying ty) true) op K:=by
 show Db (Fy P ty cst (.p .nptr) (.p .nptr)) op K=_;unfold Fy ptrC;generalize P.underlying ty=o;cases o with
 | none=>rfl
 | some o=>cases o<;>rfl
theorem Jm1:lbin P op ty cst (.ptr d i j) (.p .nptr) K=Db (ptrC (P.underlying ty) false) op K:=by
 show Db (Fy P ty cst (.ptr d i j) (.p .nptr)) op K=_;unfold Fy ptrC;generalize P.underlying ty=o;cases o with
 | none=>rfl
 | some o=>cases o<;>rfl
theorem Jjt:lbin P op ty cst (.ptr d i j) (.ptr d' i' j') K=Db (ptrS P (P.underlying ty) (d == d' && (i == i' && j == j'))) op K:=by
 show Db (Fy P ty cst (.ptr d i j) (.ptr d' i' j')) op K=_;unfold Fy ptrS;generalize P.underlying ty=o;cases o with
 | none=>rfl
 | some o =>
  cases o<;>first|rfl | (simp only[Ebb,beq_iff_eq,and_assoc])
theorem u_n_ii:lbin P op ty true (.p .nifc) (.p .nifc) K=Db (ifcC (P.underlying ty) true) op K:=by
 show Db (Fy P ty true (.p .nifc) (.p .nifc)) op K=_;unfold Fy ifcC;generalize P.underlying ty=o;cases o with
 | none=>rfl
 | some o=>cases o<;>rfl
theorem u_n_in:lbin P op ty cst (.p .ifc) (.p .nifc) K=Db (ifcC (P.underlying ty) false) op K:=by
 show Db (Fy P ty cst (.p .ifc) (.p .nifc)) op K=_;unfold Fy ifcC;generalize P.underlying ty=o;cases o with
 | none=>rfl
 | some o=>cases o<;>rfl
theorem Jnb {T:TypeId} {q:IntKind} {n:Int}:lbin P op ty cst (.p (.ifi T q n)) (.p .nifc) K=Db (ifcC (P.underlying ty) false) op K:=by
 show Db (Fy P ty cst (.p (.ifi T q n)) (.p .nifc)) op K=_;unfold Fy ifcC;generalize P.underlying ty=o;cases o with
 | none=>rfl
 | some o=>cases o<;>rfl
theorem u_n_ss:lbin P op ty cst (.p .snil) (.p .snil) K=Db (slcC (P.underlying ty) true) op K:=by
 show Db (Fy P ty cst (.p .snil) (.p .snil)) op K=_;unfold Fy slcC;generalize P.underlying ty=o;cases o with
 | none=>rfl
 | some o=>cases o<;>rfl
theorem u_n_sl {c:List PV} {cs:List (List PV)}:lbin P op ty cst (.p (.sl (c :: cs))) (.p .snil) K=Db (slcC (P.underlying ty) false) op K:=by
 show Db (Fy P ty cst (.p (.sl (c :: cs))) (.p .snil)) op K=_;unfold Fy slcC;generalize P.underlying ty=o;cases o with
 | none=>rfl
 | some o=>cases o<;>rfl
end
theorem Xs {b:Bool}:Db (some b) .eql K=K (.p (.bool b)):=(rfl)
theorem Xf {b:Bool}:Db (some b) .neq K=K (.p (.bool (!b))):=(rfl)
theorem Jp4 {v:Value}:D8 (.const v)=true:=(rfl)
theorem Jey {i:Tmp}:D8 (.tmp i)=false:=(rfl)
theorem u_kb {b:Bool}:kb K b=K (.p (.bool b)):=(rfl)
theorem u_knb {b:Bool}:knb K b=K (.p (.bool (!b))):=(rfl)
def bopt (b:Bool):Option Bool->Option Bool
 | some x=>some (b && x)
 | none=>none
theorem Jem {a b:Bool}:bopt a (some b)=some (a && b):=(rfl)
theorem Un:Bt [] [] []=some true:=(rfl)
theorem So {ts:List Tag} {a b:Bool} {x y:List PV}:Bt (.bool :: ts) (.bool a :: x) (.bool b :: y)=bopt (a == b) (Bt ts x y):=by
 simp only[Bt,bopt];cases Bt ts x y<;>rfl
theorem Vz {ts:List Tag} {k:IntKind} {a b:Int} {x y:List PV}:Bt (.int :: ts) (.int k a :: x) (.int k b :: y)=bopt (a == b) (Bt ts x y):=by
 simp only[Bt,bopt,if_true];cases Bt ts x y<;>rfl
theorem Vl {ts:List Tag} {a b:List UInt8} {x y:List PV}:Bt (.str :: ts) (.str a :: x) (.str b :: y)=bopt (a == b) (Bt ts x y):=by
 simp only[Bt,bopt];cases Bt ts x y<;>rfl
variable {k k':IntKind} {a b:Int}
def B0 (k:IntKind):Nat:=k.bits
theorem u_shl:lint .shl k a k' b K=(0<=b/\K (.p (.int k (k.wrap (a * 2 ^ min b.toNat (B0 k)))))):=(rfl)
theorem u_shr:lint .shr k a k' b K=(0<=b/\K (.p (.int k (a.fdiv (2 ^ min b.toNat (B0 k)))))):=(rfl)
theorem u_add:lint .add k a k b K=K (.p (.int k (k.wrap (a+b)))):=by simp[lint]
theorem u_sub:lint .sub k a k b K=K (.p (.int k (k.wrap (a - b)))):=by simp[lint]
theorem u_mul:lint .mul k a k b K=K (.p (.int k (k.wrap (a * b)))):=by simp[lint]
theorem u_quo:lint .quo k a k b K=(b≠0/\K (.p (.int k (k.wrap (a.tdiv b))))):=by simp[lint]
theorem u_rem:lint .rem k a k b K=(b≠0/\K (.p (.int k (a.tmod b)))):=by simp[lint]
theorem u_and:lint .and k a k b K=K (.p (.int k (k.wrap (BitVec.ofInt (B0 k) a &&& BitVec.ofInt (B0 k) b).toNat))):=by unfold B0;simp[lint]
theorem u_or:lint .or k a k b K=K (.p (.int k (k.wrap (BitVec.ofInt (B0 k) a ||| BitVec.ofInt (B0 k) b).toNat))):=by unfold B0;simp[lint]
theorem u_eql:lint .eql k a k b K=K (.p (.bool (a == b))):=by simp[lint]
theorem u_neq:lint .neq k a k b K=K (.p (.bool (a != b))):=by simp[lint]
theorem u_lss:lint .lss k a k b K=K (.p (.bool (decide (a<b)))):=by simp[lint]
theorem u_leq:lint .leq k a k b K=K (.p (.bool (decide (a<=b)))):=by simp[lint]
theorem u_gtr:lint .gtr k a k b K=K (.p (.bool (decide (b<a)))):=by simp[lint]
theorem u_geq:lint .geq k a k b K=K (.p (.bool (decide (b<=a)))):=by simp[lint]
variable {x y:List UInt8}
theorem u_sadd:lstr .add x y K=(x.length+y.length<=9223372036854775807/\K (.p (.str (x ++ y)))):=(rfl)
theorem u_seql:lstr .eql x y K=K (.p (.bool (x == y))):=(rfl)
theorem u_sneq:lstr .neq x y K=K (.p (.bool (!(x == y)))):=(rfl)
theorem u_slss:lstr .lss x y K=K (.p (.bool (Op.bytesLess x y))):=(rfl)
theorem u_sgtr:lstr .gtr x y K=K (.p (.bool (!(Op.bytesLess x y || x == y)))):=(rfl)
theorem u_sgeq:lstr .geq x y K=K (.p (.bool (!(Op.bytesLess x y)))):=(rfl)
theorem u_neg:lun .neg (.p (.int k a)) K=K (.p (.int k (k.wrap (0 - a)))):=(rfl)
theorem u_not {c:Bool}:lun .not (.p (.bool c)) K=K (.p (.bool (!c))):=(rfl)
theorem u_max:Fj true [.p (.int k a),.p (.int k' b)] K=K (.p (.int k (max a b))):=(rfl)
theorem u_min:Fj false [.p (.int k a),.p (.int k' b)] K=K (.p (.int k (min a b))):=(rfl)
def kstr (K:L->Prop) (bs:List UInt8):Prop:=K (.p (.str bs))
theorem u_kstr {bs:List UInt8}:kstr K bs=K (.p (.str bs)):=(rfl)
def irE:Option TypeDesc->Bool
 | some (.int .i32)=>true
 | _=>false
theorem Kg0:irE (some (.int .i32))=true:=(rfl)
theorem Kg8:irE (some (.int .u8))=false:=(rfl)
def irO (P:Program):Option TypeDesc->Bool
 | some (.slice e)=>irE (P.underlying e)
 | _=>false
theorem Jzz {ta:TypeId}:Ju3 P ta=irO P (P.underlying ta):=by
 unfold Ju3 irO irE;cases P.underlying ta with
 | none=>rfl
 | some q=>cases q<;>rfl
theorem Kd4 {e:TypeId}:irO P (some (.slice e))=irE (P.underlying e):=(rfl)
theorem Kbr:irO P (some (.int k))=false:=(rfl)
def krun (K:L->Prop) (ns:List Int):Prop:=K (.p (.str (ns.flatMap fun n=>(Utf8.encode n).data.toList)))
theorem u_krun {ns:List Int}:krun K ns=K (.p (.str (ns.flatMap fun n=>(Utf8.encode n).data.toList))):=(rfl)
theorem Kfu {sb:TypeId} {es:List (List PV)}:J2z P sb (.p (.sl es)) K=(P.underlying sb=some .string/\Bq (Jui es) (krun K)):=(rfl)
theorem J0r {ns:List Int}:Jui (ns.map fun n=>[.int .i32 n])=some ns:=by
 induction ns with
 | nil=>rfl
 | cons n ns ih=>simp only[Eaq,Jui,ih]
theorem u_cvF {sa sb:TypeId} {o:Operand} {dst:Option Tmp}:cvF P sa sb o dst J ⟨t,r⟩=if irO P (P.underlying sa)=true then J2z P sb ((St.mk t r).get o) (kput dst J ⟨t,r⟩) else J1 P sa sb ((St.mk t r).get o) (kput dst J ⟨t,r⟩):=by
 rw[<- Jzz];rfl
def Jaf (P:Program) (o q:Option TypeDesc) (d j:Nat) (r:Option Reg) (K:L->Prop):Prop :=
 match r,o,q with
 | some (.var _ cs),some (.pointer t),some .unsafePointer=>P.cellsOf t≠0/\j<cs.length/\K (.ptr d 0 j)
 | some (.var T cs),some .unsafePointer,some (.pointer u)=>liesAt P P.depth T (cs.length / P.cellsOf T) j u 1=true/\(P.info? u).isSome=true/\K (.ptr d 0 j)
 | _,_,_=>False
theorem Jgg {sa sb:TypeId} {o:Operand} {dst:Option Tmp} {d j:Nat}:cvG P sa sb ⟨t,r⟩ o dst J (.ptr d 0 j)=Jaf P (P.underlying sa) (P.underlying sb) d j (Am d r) (kput dst J ⟨t,r⟩):=(rfl)
theorem Jg3 {sa sb:TypeId} {o:Operand} {dst:Option Tmp} {k:IntKind} {n:Int}:cvG P sa sb ⟨t,r⟩ o dst J (.p (.int k n))=cvF P sa sb o dst J (St.freezeOps ⟨t,r⟩ [o]):=(rfl)
theorem Jlo {sa sb:TypeId} {o:Operand} {dst:Option Tmp} {es:List (List PV)}:cvG P sa sb ⟨t,r⟩ o dst J (.p (.sl es))=cvF P sa sb o dst J (St.freezeOps ⟨t,r⟩ [o]):=(rfl)
def cvR (oa:Option TypeDesc) (e:TypeId) (dst:Option Tmp) (x:List UInt8) (s:St) (J:St->Prop):Prop :=
 match dst with
 | some d=>oa=some .string/\d<1000/\x.length<=70368744177664/\J ((s.newReg d (.row e 1 (Jwm x))).put (some d) (.own d 0 (Jwm x).length))
 | none=>False
theorem u_cvR {d:Nat} {oa:Option TypeDesc} {e:TypeId} {x:List UInt8}:cvR oa e (some d) x ⟨t,r⟩ J=(oa=some .string/\d<1000/\x.length<=70368744177664/\J ((St.newReg d (.row e 1 (Jwm x)) ⟨t,r⟩).put (some d) (.own d 0 (Jwm x).length))):=(rfl)
def cvS (P:Program) (sa sb:TypeId) (oa ob:Option TypeDesc) (x:List UInt8) (s:St) (dst:Option Tmp) (J:St->Prop):Prop :=
 match ob with
 | some (.slice e)=>if irE (P.underlying e)=true then cvR oa e dst x s J else oa.isSome=true/\P.underlying e=some (.int .u8)/\kput dst J s (.p (.sl (x.map fun c=>[.int .u8 c.toNat])))
 | _=>J1 P sa sb (.p (.str x)) (kput dst J s)
theorem Jev {sa sb:TypeId} {o:Operand} {dst:Option Tmp} {x:List UInt8}:cvG P sa sb ⟨t,r⟩ o dst J (.p (.str x))=cvS P sa sb (P.underlying sa) (P.underlying sb) x ⟨t,r⟩ dst J:=by
 show Og P sa sb x ⟨t,r⟩ dst J=_;unfold Og cvS;rw[Jzz];cases P.underlying sb with
 | none=>rfl
 | some q=>cases q<;>rfl
theorem Jil {sa sb:TypeId} {oa:TypeDesc} {dst:Option Tmp} {x:List UInt8} {e:TypeId}:cvS P sa sb (some oa) (some (.slice e)) x ⟨t,r⟩ dst J=if irE (P.underlying e)=true then cvR (some oa) e dst x ⟨t,r⟩ J else (P.underlying e=some (.int .u8)/\kput dst J ⟨t,r⟩ (.p (.sl (x.map fun c=>[.int .u8 c.toNat])))):=by simp[cvS]
theorem Jhe {sa sb:TypeId} {o:Operand} {dst:Option Tmp} {d m n:Nat}:cvG P sa sb ⟨t,r⟩ o dst J (.own d m n)=cvF P sa sb o dst J (St.freezeOps ⟨t,r⟩ [o]):=(rfl)
theorem Jbn {d j:Nat} {ty:TypeId} {T:TypeId} {cs:List L}:Jaf P (some (.pointer ty)) (some .unsafePointer) d j (some (.var T cs)) K=(P.cellsOf ty≠0/\j<cs.length/\K (.ptr d 0 j)):=(rfl)
theorem Vr {d j:Nat} {ty:TypeId} {T:TypeId} {cs:List L}:Jaf P (some .unsafePointer) (some (.pointer ty)) d j (some (.var T cs)) K=(liesAt P P.depth T (cs.length / P.cellsOf T) j ty 1=true/\(P.info? ty).isSome=true/\K (.ptr d 0 j)):=(rfl)
def Sc (P:Program) (src dst:Option TypeDesc) (x:L) (K:L->Prop):Prop :=
 match dst,x with
 | some (.int k),.p (.int _ n)=>src.isSome=true/\K (.p (.int k (k.wrap n)))
 | some .string,.p (.str s)=>src.isSome=true/\(∀ e,src≠some (.slice e))/\K (.p (.str s))
 | some .string,.p (.int _ n)=>src.isSome=true/\(∀ e,src≠some (.slice e))/\K (.p (.str (Utf8.encode n).data.toList))
 | some .string,.p (.sl es)=>(∃ e,src=some (.slice e)/\P.underlying e=some (.int .u8))/\Bq (Cw es) (kstr K)
 | _,_=>False
theorem u_conv {s d:TypeId} {x:L}:J1 P s d x K=Sc P (P.underlying s) (P.underlying d) x K:=(rfl)
theorem Jb3 {d:TypeDesc}:Sc P (some d) (some (.int k')) (.p (.int k a)) K=K (.p (.int k' (k'.wrap a))):=by simp[Sc]
theorem Zt:Sc P (some (.int k')) (some .string) (.p (.int k a)) K=K (.p (.str (Utf8.encode a).data.toList)):=by simp[Sc]
theorem Uu {e:TypeId} {es:List (List PV)}:Sc P (some (.slice e)) (some .string) (.p (.sl es)) K=(P.underlying e=some (.int .u8)/\Bq (Cw es) (kstr K)):=by
 simp[Sc]
def Rr (n:Int):Option (List UInt8)->Option (List UInt8)
 | some bs=>if 0<=n/\n<256 then some (UInt8.ofNat n.toNat :: bs) else none
 | none=>none
theorem X9:Cw []=some []:=(rfl)
theorem My {n:Int} {l:List (List PV)}:Cw ([.int .u8 n] :: l)=Rr n (Cw l):=by
 simp only[Cw,Rr];cases Cw l<;>simp
def u8of (n:Int):UInt8:=UInt8.ofNat (n % 256).toNat
theorem U0 {n:Int} {bs:List UInt8}:Rr (IntKind.u8.wrap n) (some bs)=some (u8of n :: bs):=by
 simp only[Rr,Be,u8of];rw[if_pos omg]
theorem Jad {s:List UInt8} {i:Nat} {bs:List UInt8}:Rr (at_ s i) (some bs)=some (s.getD i 0 :: bs):=by
 simp only[Rr];rw[if_pos ⟨omg,by have:=Fr s i;omega⟩];simp[at_]
def lenT (d:Option TypeDesc) (x:L) (K:L->Prop):Prop :=
 match d,x with
 | some .string,.p (.str s)=>K (.p (.int .i64 s.length))
 | some (.slice _),.p (.sl es)=>K (.p (.int .i64 es.length))
 | some (.slice _),.p .snil=>K (.p (.int .i64 0))
 | some (.slice _),.own _ _ len=>K (.p (.int .i64 len))
 | some (.map _ _),.p .nmap=>K (.p (.int .i64 0))
 | some (.map _ _),.p (.mp es)=>K (.p (.int .i64 es.length))
 | _,_=>False
variable {es:List (List PV)} {e sz:Nat}
theorem u_len {ty:TypeId} {x:L}:llen P ty x K=lenT (P.underlying ty) x K:=(rfl)
theorem Jgu:lenT (some .string) (.p (.str x)) K=K (.p (.int .i64 x.length)):=(rfl)
theorem Jjq:lenT (some (.slice e)) (.p (.sl es)) K=K (.p (.int .i64 es.length)):=(rfl)
theorem Jgf:lenT (some (.slice e)) (.p .snil) K=K (.p (.int .i64 0)):=(rfl)
theorem Jfq {d o n:Nat}:lenT (some (.slice e)) (.own d o n) K=K (.p (.int .i64 n)):=(rfl)
def Jdg (sz:Nat) (K:L->Prop) (e:List PV):Prop:=e.length=sz/\K (.eptr e)
theorem Jnm {c:List PV}:Jdg sz K c=(c.length=sz/\K (.eptr c)):=(rfl)
def iaT (r:Regs) (o:Option (TypeId×Nat)) (q:Option (Nat×TypeId×Nat)) (x ix:L) (K:L->Prop):Prop :=
 match x,ix with
 | .p (.sl es),.p (.int _ i)=>match o with
  | some (_,sz)=>0<=i/\getE (es[i.toNat]?) (Jdg sz K)
  | none=>False
 | .own d off len,.p (.int _ i)=>match Am d r,o with
  | some (.row _ sz _),some (_,sz')=>sz=sz'/\0<=i/\i<len/\K (.ptr d (off+i.toNat) 0)
  | some (.lrow _ sz _ _),some (_,sz')=>sz=sz'/\0<=i/\i<len/\K (.ptr d (off+i.toNat) 0)
  | _,_=>False
 | .ptr d a b,.p (.int _ i)=>match q with
  | some (n,_,sz)=>0<=i/\i<n/\K (.ptr d a (b+i.toNat * sz))
  | none=>False
 | .eptr cs,.p (.int _ i)=>match q with
  | some (n,_,sz)=>0<=i/\i<n/\i.toNat * sz<=cs.length/\K (.eptr (cs.drop (i.toNat * sz)))
  | none=>False
 | _,_=>False
def iaR (q:Option Reg) (sz':Nat) (d off len:Nat) (i:Int) (K:L->Prop):Prop :=
 match q with
 | some (.row _ sz _)=>sz=sz'/\0<=i/\i<len/\K (.ptr d (off+i.toNat) 0)
 | some (.lrow _ sz _ _)=>sz=sz'/\0<=i/\i<len/\K (.ptr d (off+i.toNat) 0)
 | _=>False
theorem Yb {ty:TypeId} {x ix:L}:Dg P r ty x ix K=iaT r (slE P ty) (arE P ty) x ix K:=by
 unfold Dg iaT getE Jdg;rfl
theorem Jnd {i:Int} {q:Option (Nat×TypeId×Nat)}:iaT r (some (e,sz)) q (.p (.sl es)) (.p (.int k i)) K=(0<=i/\getE (es[i.toNat]?) (Jdg sz K)):=(rfl)
theorem Jja {i:Int} {d off len:Nat} {q:Option (Nat×TypeId×Nat)}:iaT r (some (e,sz)) q (.own d off len) (.p (.int k i)) K=iaR (Am d r) sz d off len i K:=by
 simp only[iaT,iaR];generalize Am d r=q;cases q with
 | none=>rfl
 | some q=>cases q<;>rfl
theorem Jii {i:Int} {d a b n:Nat} {o:Option (TypeId×Nat)}:iaT r o (some (n,e,sz)) (.ptr d a b) (.p (.int k i)) K=(0<=i/\i<n/\K (.ptr d a (b+i.toNat * sz))):=(rfl)
theorem Kby {i:Int} {d off len sz':Nat} {T:TypeId} {fu:Bool} {ll:List (List L)}:iaR (some (.lrow T sz fu ll)) sz' d off len i K=(sz=sz'/\0<=i/\i<len/\K (.ptr d (off+i.toNat) 0)):=(rfl)
theorem Jh1 {i:Int} {d off len sz':Nat} {T:TypeId}:iaR (some (.row T sz es)) sz' d off len i K=(sz=sz'/\0<=i/\i<len/\K (.ptr d (off+i.toNat) 0)):=(rfl)
def Jlj (K:L->Prop) (b:UInt8):Prop:=K (.p (.int .u8 b.toNat))
def kp (K:L->Prop) (c:PV):Prop:=K (.p c)
theorem u_kp {c:PV}:kp K c=K (.p c):=(rfl)
def ixT (P:Program) (d:Option TypeDesc) (x ix:L) (K:L->Prop):Prop :=
 match d,x,ix with
 | some .string,.p (.str s),.p (.int _ i)=>0<=i/\getE (s[i.toNat]?) (Jlj K)
 | some (.array n e),.p (.agg cs),.p (.int _ i)=>B2 P e=some false/\P.cellsOf e=1/\0<=i/\i<n/\getE (cs[i.toNat]?) (kp K)
 | _,_,_=>False
theorem Jn3 {ty:TypeId} {x ix:L}:Ix P ty x ix K=ixT P (P.underlying ty) x ix K:=by
 unfold Ix ixT getE Jlj kp;rfl
theorem Jia {i:Int}:ixT P (some .string) (.p (.str x)) (.p (.int k i)) K=(0<=i/\i.toNat<x.length/\K (.p (.int .u8 (at_ x i.toNat)))):=by
 show (0<=i/\getE (x[i.toNat]?) (Jlj K))=_;rw[Yl];rfl
theorem Kd6 {n:Nat} {cs:List PV} {i:Int}:ixT P (some (.array n e)) (.p (.agg cs)) (.p (.int k i)) K=(B2 P e=some false/\P.cellsOf e=1/\0<=i/\i<n/\getE (cs[i.toNat]?) (kp K)):=(rfl)
def faT (o:Option (Nat×TypeId)) (x:L) (K:L->Prop):Prop :=
 match o,x with
 | some (off,_),.eptr cs=>off<=cs.length/\K (.eptr (cs.drop off))
 | some (off,_),.ptr d i j=>K (.ptr d i (j+off))
 | _,_=>False
variable {off n f:Nat} {ft ty T:TypeId} {cs:List PV} {d i j:Nat} {ls:List L}
theorem Xz {x:L}:Kj5 P ty x f K=faT (fld P ty f) x K:=(rfl)
theorem Jga:faT (some (off,ft)) (.eptr cs) K=(off<=cs.length/\K (.eptr (cs.drop off))):=(rfl)
theorem Jl1:faT (some (off,ft)) (.ptr d i j) K=K (.ptr d i (j+off)):=(rfl)
def kagg (K:L->Prop) (ps:List PV):Prop:=K (.p (.agg ps))
theorem u_kagg {ps:List PV}:kagg K ps=K (.p (.agg ps)):=(rfl)
def Z0 (j:Nat) (K:L->Prop) (e:List PV):Prop:=getE (e[j]?) (kp K)
theorem Jpe {c:List PV}:Z0 j K c=getE (c[j]?) (kp K):=(rfl)
def krow (n j:Nat) (K:L->Prop) (e:List PV):Prop:=0<n/\j+n<=e.length/\K (.p (.agg ((e.drop j).take n)))
theorem u_krow {c:List PV}:krow n j K c=(0<n/\j+n<=c.length/\K (.p (.agg ((c.drop j).take n)))):=(rfl)
def Jai (j:Nat) (K:L->Prop) (e:List L):Prop:=getE (e[j]?) K
theorem Kd2 {c:List L}:Jai j K c=getE (c[j]?) K:=(rfl)
def Jl0 (n j:Nat) (K:L->Prop) (e:List L):Prop:=0<n/\j+n<=e.length/\Bq (Bg L.pure? ((e.drop j).take n)) (kagg K)
def ldT (n:Nat) (r:Regs) (o:Option Bool) (x:L) (K:L->Prop):Prop :=
 match o,x with
 | some false,.eptr cs=>getE (cs[0]?) (kp K)
 | some true,.eptr cs=>0<n/\n<=cs.length/\K (.p (.agg (cs.take n)))
 | some false,.ptr d i j=>match Am d r with
  | some (.var _ cs)=>i=0/\getE (cs[j]?) K
  | some (.row _ _ es)=>getE (es[i]?) (Z0 j K)
  | some (.lrow _ _ _ es)=>getE (es[i]?) (Jai j K)
  | some (.obj _)=>False
  | none=>False
 | some true,.ptr d i j=>match Am d r with
  | some (.var _ cs)=>i=0/\0<n/\j+n<=cs.length/\Bq (Bg L.pure? ((cs.drop j).take n)) (kagg K)
  | some (.row _ _ es)=>getE (es[i]?) (krow n j K)
  | some (.lrow _ _ _ es)=>getE (es[i]?) (Jl0 n j K)
  | some (.obj _)=>False
  | none=>False
 | _,_=>False
def ldF (q:Option Reg) (i j:Nat) (K:L->Prop):Prop :=
 match q with
 | some (.var _ cs)=>i=0/\getE (cs[j]?) K
 | some (.row _ _ es)=>getE (es[i]?) (Z0 j K)
 | some (.lrow _ _ _ es)=>getE (es[i]?) (Jai j K)
 | some (.obj _)=>False
 | none=>False
def ldA (q:Option Reg) (n i j:Nat) (K:L->Prop):Prop :=
 match q with
 | some (.var _ cs)=>i=0/\0<n/\j+n<=cs.length/\Bq (Bg L.pure? ((cs.drop j).take n)) (kagg K)
 | some (.row _ _ es)=>getE (es[i]?) (krow n j K)
 | some (.lrow _ _ _ es)=>getE (es[i]?) (Jl0 n j K)
 | some (.obj _)=>False
 | none=>False
theorem u_load {x:L}:Jc P r ty x K=ldT (P.cellsOf ty) r (B2 P ty) x K:=by unfold Jc ldT getE kp Bq kagg Z0 krow Jai Jl0 getE Bq kagg;rfl
theorem Y6:ldT n r (some false) (.eptr cs) K=getE (cs[0]?) (kp K):=(rfl)
theorem Xe:ldT n r (some true) (.eptr cs) K=(0<n/\n<=cs.length/\K (.p (.agg (cs.take n)))):=(rfl)
theorem Jb2:ldT n r (some false) (.ptr d i j) K=ldF (Am d r) i j K:=(rfl)
theorem Ja4:ldT n r (some true) (.ptr d i j) K=ldA (Am d r) n i j K:=(rfl)
theorem Jex:ldF (some (.var T ls)) i j K=(i=0/\getE (ls[j]?) K):=(rfl)
theorem Jhq:ldF (some (.row T sz es)) i j K=getE (es[i]?) (Z0 j K):=(rfl)
theorem Jgd:ldA (some (.var T ls)) n i j K=(i=0/\0<n/\j+n<=ls.length/\Bq (Bg L.pure? ((ls.drop j).take n)) (kagg K)):=(rfl)
theorem J9v {fu:Bool} {ll:List (List L)}:ldF (some (.lrow T sz fu ll)) i j K=getE (ll[i]?) (Jai j K):=(rfl)
theorem Je7:ldA (some (.row T sz es)) n i j K=getE (es[i]?) (krow n j K):=(rfl)
def bnd (s:St):Option Operand->Option L
 | none=>none
 | some o=>some (s.get o)
theorem Jh7 {s:St}:bnd s none=none:=(rfl)
theorem Jks {s:St} {o:Operand}:bnd s (some o)=some (s.get o):=(rfl)
def bndI (d:Int):Option L->Option Int
 | none=>some d
 | some (.p (.int _ n))=>some n
 | some _=>none
def slT (P:Program) (r:Regs) (o:Option TypeDesc) (x:L) (lo hi:Option L) (K:L->Prop):Prop :=
 match o,x with
 | some .string,.p (.str s)=>∃ l h,bndI 0 lo=some l/\bndI s.length hi=some h/\0<=l/\l<=h/\h<=s.length/\K (.p (.str ((s.drop l.toNat).take (h.toNat - l.toNat))))
 | some (.slice e),.p (.sl es)=>0<P.cellsOf e/\(∀ x∈es,x.length=P.cellsOf e)/\∃ l h,bndI 0 lo=some l/\bndI es.length hi=some h/\0<=l/\l<=h/\h<=es.length/\K (.p (.sl ((es.drop l.toNat).take (h.toNat - l.toNat))))
 | some (.slice e),.p .snil=>0<P.cellsOf e/\∃ l h,bndI 0 lo=some l/\bndI 0 hi=some h/\l=0/\h=0/\K (.p .snil)
 | some (.slice e),.own d off len=>0<P.cellsOf e/\Pa r d=some (P.cellsOf e)/\∃ l h,bndI 0 lo=some l/\bndI len hi=some h/\0<=l/\l<=h/\h<=(max len (Gx r d - off):Nat)/\K (.own d (off+l.toNat) (h.toNat - l.toNat))
 | _,_=>False
theorem Jpp {o:Operand} {lo hi:Option Operand}:G2 P r ty (St.mk t r).get o lo hi none K=slT P r (P.underlying ty) ((St.mk t r).get o) (bnd ⟨t,r⟩ lo) (bnd ⟨t,r⟩ hi) K:=by
 have h1:∀ (d:Int) (q:Option Operand),Dr (St.mk t r).get d q=bndI d (bnd ⟨t,r⟩ q):=by
  intro d q;cases q with
  | none=>rfl
  | some q =>
   simp only[Dr,bnd];cases (St.mk t r).get q with
   | p v=>cases v<;>rfl
   | _=>rfl
 unfold G2 slT;simp only[h1,true_and];generalize P.underlying ty=q;generalize (St.mk t r).get o=l;cases q with
 | none=>rfl
 | some q=>cases q<;>first|rfl | (cases l<;>first|rfl | (rename_i v;cases v<;>rfl))
theorem Jpq {l:Int}:slT P r (some .string) (.p (.str x)) (some (.p (.int k l))) none K=(0<=l/\l<=x.length/\K (.p (.str (x.drop l.toNat)))):=by
 simp only[slT,bndI];apply pe;constructor
 ·rintro ⟨l',h',g1,g2,h1,h2,_,h3⟩;cases g1;cases g2;refine ⟨h1,h2,?_⟩
  rwa[Eae sm] at h3
 ·rintro ⟨h1,h2,h3⟩;refine ⟨_,_,rfl,rfl,h1,h2,Edq _,?_⟩
  rwa[Eae sm]
theorem Joo {h:Int}:slT P r (some .string) (.p (.str x)) none (some (.p (.int k h))) K=(0<=h/\h<=x.length/\K (.p (.str (x.take h.toNat)))):=by
 simp[slT,bndI]
theorem Jol {l h:Int}:slT P r (some .string) (.p (.str x)) (some (.p (.int k l))) (some (.p (.int k' h))) K=(0<=l/\l<=h/\h<=x.length/\K (.p (.str ((x.drop l.toNat).take (h.toNat - l.toNat))))):=by
 simp[slT,bndI]
theorem Jn6 {l:Int}:slT P r (some (.slice e)) (.p (.sl es)) (some (.p (.int k l))) none K=(0<P.cellsOf e/\(∀ x∈es,x.length=P.cellsOf e)/\0<=l/\l<=es.length/\K (.p (.sl (es.drop l.toNat)))):=by
 simp only[slT,bndI];apply pe;constructor
 ·rintro ⟨g1,g2,l',h',k1,k2,h1,h2,_,h3⟩;cases k1;cases k2;refine ⟨g1,g2,h1,h2,?_⟩
  rwa[Eae sm] at h3
 ·rintro ⟨g1,g2,h1,h2,h3⟩;refine ⟨g1,g2,_,_,rfl,rfl,h1,h2,Edq _,?_⟩
  rwa[Eae sm]
theorem Jps {h:Int}:slT P r (some (.slice e)) (.p (.sl es)) none (some (.p (.int k h))) K=(0<P.cellsOf e/\(∀ x∈es,x.length=P.cellsOf e)/\0<=h/\h<=es.length/\K (.p (.sl (es.take h.toNat)))):=by
 simp[slT,bndI]
theorem Jpf {l h:Int}:slT P r (some (.slice e)) (.p (.sl es)) (some (.p (.int k l))) (some (.p (.int k' h))) K=(0<P.cellsOf e/\(∀ x∈es,x.length=P.cellsOf e)/\0<=l/\l<=h/\h<=es.length/\K (.p (.sl ((es.drop l.toNat).take (h.toNat - l.toNat))))):=by
 simp[slT,bndI]
theorem Jos {h:Int}:slT P r (some (.slice e)) (.p .snil) none (some (.p (.int k h))) K=(0<P.cellsOf e/\h=0/\K (.p .snil)):=by
 simp[slT,bndI]
theorem Jo5 {h:Int} {o m:Nat}:slT P r (some (.slice e)) (.own d o m) none (some (.p (.int k h))) K=(0<P.cellsOf e/\Pa r d=some (P.cellsOf e)/\0<=h/\h<=(max m (Gx r d - o):Nat)/\K (.own d o h.toNat)):=by
 simp[slT,bndI]
theorem Jp1 {l:Int} {o m:Nat}:slT P r (some (.slice e)) (.own d o m) (some (.p (.int k l))) none K=(0<P.cellsOf e/\Pa r d=some (P.cellsOf e)/\0<=l/\l<=m/\K (.own d (o+l.toNat) (m - l.toNat))):=by
 simp only[slT,bndI];apply pe;constructor
 ·rintro ⟨g1,g2,l',h',k1,k2,h1,h2,_,h3⟩;cases k1;cases k2;exact ⟨g1,g2,h1,h2,by simpa using h3⟩
 ·rintro ⟨g1,g2,h1,h2,h3⟩;exact ⟨g1,g2,_,_,rfl,rfl,h1,h2,omg,by simpa using h3⟩
theorem Jgc {o:Oper} {x:Operand} {lo hi:Option Operand} {dst:Option Tmp} {d:Nat}:slG P o ty x lo hi dst J ⟨t,r⟩ (.ptr d 0 0)=larr P ty ⟨t,r⟩ d lo hi (kput dst J) (Am d r):=(rfl)
theorem Jnv {o:Oper} {x:Operand} {lo hi:Option Operand} {dst:Option Tmp} {v:PV}:slG P o ty x lo hi dst J ⟨t,r⟩ (.p v)=G2 P r ty (St.mk t r).get x lo hi none (kput dst J ⟨t,r⟩):=(rfl)
theorem Jfb {o:Oper} {x:Operand} {lo hi:Option Operand} {dst:Option Tmp} {d m n:Nat}:slG P o ty x lo hi dst J ⟨t,r⟩ (.own d m n)=G2 P r ty (St.mk t r).get x lo hi none (kput dst J ⟨t,r⟩):=(rfl)
def karr (d n:Nat) (lo hi:Option L) (N:St->L->Prop) (s:St) (ps:List PV):Prop :=
 ∃ l h,bndI 0 lo=some l/\bndI n hi=some h/\0<=l/\l<=h/\h<=n/\N (Dx d (some (.ar ps)) s) (.p (.sl (((ps.map fun p=>[p]).drop l.toNat).take (h.toNat - l.toNat))))
def laT (P:Program) (o:Option (Nat×TypeId×Nat)) (s:St) (d:Nat) (lo hi:Option L) (N:St->L->Prop) (q:Option Reg):Prop :=
 match q,o with
 | some (.var _ cs),some (n,_,sz)=>sz=1/\n=cs.length/\Bq (Bg L.pure? cs) (karr d n lo hi N s)
 | _,_=>False
theorem u_larr {lo hi:Option Operand} {N:St->L->Prop} {q:Option Reg} {d:Nat}:larr P ty ⟨t,r⟩ d lo hi N q=laT P (arE P ty) ⟨t,r⟩ d (bnd ⟨t,r⟩ lo) (bnd ⟨t,r⟩ hi) N q:=by
 have h1:∀ (d:Int) (q:Option Operand),Dr (St.mk t r).get d q=bndI d (bnd ⟨t,r⟩ q):=by
  intro d q;cases q with
  | none=>rfl
  | some q =>
   simp only[Dr,bnd];cases (St.mk t r).get q with
   | p v=>cases v<;>rfl
   | _=>rfl
 unfold larr laT karr Bq;simp only[h1];cases q with
 | none=>rfl
 | some q=>cases q<;>first|rfl | (cases arE P ty<;>rfl)
theorem u_laT {lo hi:Option L} {N:St->L->Prop} {d n sz:Nat} {e T:TypeId} {cs:List L}:laT P (some (n,e,sz)) ⟨t,r⟩ d lo hi N (some (.var T cs))=(sz=1/\n=cs.length/\Bq (Bg L.pure? cs) (karr d n lo hi N ⟨t,r⟩)):=(rfl)
theorem Jk4 {d n:Nat} {l:Int} {N:St->L->Prop} {ps:List PV}:karr d n (some (.p (.int k l))) none N ⟨t,r⟩ ps=(0<=l/\l<=n/\N (Dx d (some (.ar ps)) ⟨t,r⟩) (.p (.sl (((ps.map fun p=>[p]).drop l.toNat).take ((n:Int).toNat - l.toNat))))):=by
 apply pe;constructor
 ·rintro ⟨l',h',g1,g2,h1,h2,h3,h4⟩;cases g1;cases g2;exact ⟨h1,h2,h4⟩
 ·rintro ⟨h1,h2,h3⟩;exact ⟨_,_,rfl,rfl,h1,h2,omg,h3⟩
def rsz:Option Reg->Option Nat
 | some (.row _ sz _)=>some sz
 | some (.lrow _ sz _ _)=>some sz
 | _=>none
def rln:Option Reg->Nat
 | some (.row _ _ es)=>es.length
 | some (.lrow _ _ _ es)=>es.length
 | _=>0
theorem Jpy:Pa r d=rsz (Am d r):=by
 unfold Pa rsz;cases Am d r with
 | none=>rfl
 | some g=>cases g<;>rfl
theorem Jl4:Gx r d=rln (Am d r):=by
 unfold Gx rln;cases Am d r with
 | none=>rfl
 | some g=>cases g<;>rfl
theorem Jhh:rsz (some (.row T sz es))=some sz:=(rfl)
theorem Jbq {fu:Bool} {ll:List (List L)}:rsz (some (.lrow T sz fu ll))=some sz:=(rfl)
theorem Jhv:rln (some (.row T sz es))=es.length:=(rfl)
theorem Jaj {fu:Bool} {ll:List (List L)}:rln (some (.lrow T sz fu ll))=ll.length:=(rfl)
theorem Jhi {xs:List PV}:Qk (.tup xs) i K=getE (xs[i]?) (kp K):=(rfl)
theorem Jgm:lnil (.ptr d i j) K=K (.ptr d i j):=(rfl)
def kfn (g:FuncId) (K:L->Prop) (ids:List Nat):Prop:=K (.fn g ids)
theorem u_kfn {g:FuncId} {ids:List Nat}:kfn g K ids=K (.fn g ids):=(rfl)
theorem u_caps {g:FuncId} {d i j:Nat}:Jmn g (.ptr d i j :: ls) K=Bq (Hq (.ptr d i j :: ls)) (kfn g K):=by cases ls<;>rfl
theorem Kgo {g:FuncId} {cs:List PV}:Jmn g [.eptr cs] K=K (.p (.clo g cs)):=(rfl)
def capC (d:Nat):Option (List Nat)->Option (List Nat)
 | some l=>some (d :: l)
 | none=>none
theorem Jfv {l:List Nat}:capC d (some l)=some (d :: l):=(rfl)
theorem Ja9:Hq []=some []:=(rfl)
theorem Zm:Hq (.ptr d 0 0 :: ls)=capC d (Hq ls):=(rfl)
def zok (o:Option (List PV)) (sz:Nat):Prop:=∃ zs,o=some zs/\zs.length=sz
theorem u_zok {zs:List PV}:zok (some zs) sz=(zs.length=sz):=pe ⟨fun ⟨_,h,hc⟩=>by cases h;exact hc,fun h=>⟨zs,rfl,h⟩⟩
def Jmp (P:Program) (ty:TypeId) (parts:List (Nat×L)) (K:L->Prop) (z:List PV):Prop:=Ez P ty=true/\Bq (Ef P ty z parts) (kagg K)
theorem Jir {parts:List (Nat×L)} {z:List PV}:Jmp P ty parts K z=(Ez P ty=true/\Bq (Ef P ty z parts) (kagg K)):=(rfl)
theorem Jn5 {parts:List (Nat×L)} (h:Ez P ty=true):Vf P ty parts K=Bq (Bu P ty) (Jmp P ty parts K):=by
 unfold Vf;split
 ·rename_i n e he;unfold Ez at h;rw[he] at h;cases h
 ·rfl
theorem J62 {n e:Nat} {parts:List (Nat×L)} (h:P.underlying ty=some (.array n e)):Vf P ty parts K=(P.cellsOf e=1/\n=parts.length/\zok (Bu P ty) n/\Bq (Jw8 0 parts) (kagg K)):=by
 unfold Vf;rw[h];rfl
def arrC (v:PV):Option (List PV)->Option (List PV)
 | some r=>some (v :: r)
 | none=>none
theorem u_arrC {v:PV} {r:List PV}:arrC v (some r)=some (v :: r):=(rfl)
theorem Kcz {k:Nat}:Jw8 k []=some []:=(rfl)
theorem Kap {k i:Nat} {v:PV} {rest:List (Nat×L)}:Jw8 k ((i,.p v) :: rest)=if i=k/\v.scalar=true then arrC v (Jw8 (k+1) rest) else none:=by
 unfold arrC;rfl
def W8 (P:Program) (ty:TypeId) (cs:List PV) (o:Option (Nat×TypeId)) (x:L) (rest:List (Nat×L)):Option (List PV) :=
 match o,x with
 | some (off,ft),.p (.agg xs)=>if xs.length=P.cellsOf ft/\off+xs.length<=cs.length then Ef P ty (cs.take off ++ xs ++ cs.drop (off+xs.length)) rest else none
 | some (off,ft),.p v=>if 1=P.cellsOf ft/\off+1<=cs.length then Ef P ty (cs.set off v) rest else none
 | _,_=>none
theorem Jcq:Ef P ty cs []=some cs:=(rfl)
theorem Ys {rest:List (Nat×L)} {x:L}:Ef P ty cs ((i,x) :: rest)=W8 P ty cs (fld P ty i) x rest:=by
 simp only[Ef,W8];rfl
theorem Kac {rest:List (Nat×L)} {xs:List PV}:W8 P ty cs (some (off,ft)) (.p (.agg xs)) rest=if xs.length=P.cellsOf ft/\off+xs.length<=cs.length then Ef P ty (cs.take off ++ xs ++ cs.drop (off+xs.length)) rest else none:=(rfl)
theorem Xj {rest:List (Nat×L)} {v:Bool}:W8 P ty cs (some (off,ft)) (.p (.bool v)) rest=if 1=P.cellsOf ft/\off+1<=cs.length then Ef P ty (cs.set off (.bool v)) rest else none:=(rfl)
theorem Jas {rest:List (Nat×L)}:W8 P ty cs (some (off,ft)) (.p (.int k a)) rest=if 1=P.cellsOf ft/\off+1<=cs.length then Ef P ty (cs.set off (.int k a)) rest else none:=(rfl)
theorem Jap {rest:List (Nat×L)}:W8 P ty cs (some (off,ft)) (.p (.str x)) rest=if 1=P.cellsOf ft/\off+1<=cs.length then Ef P ty (cs.set off (.str x)) rest else none:=(rfl)
def Jj2 (d:Nat) (T:TypeId) (s:St) (J:St->Prop) (zs:List PV):Prop:=J ((s.newReg d (.var T (zs.map .p))).put (some d) (.ptr d 0 0))
theorem Jjj {zs:List PV}:Jj2 d T ⟨t,r⟩ J zs=J ((St.newReg d (.var T (zs.map .p)) ⟨t,r⟩).put (some d) (.ptr d 0 0)):=(rfl)
theorem Jno:Wg P d T ⟨t,r⟩ J=(d<1000/\Bq (Bu P T) (Jj2 d T ⟨t,r⟩ J)):=(rfl)
def kbox (d:Nat) (T:TypeId) (s:St) (J:St->Prop) (xs:List L):Prop:=J ((s.newReg d (.var T (xs.map (L.forget d)))).put (some d) (.ptr d 0 0))
theorem u_kbox {xs:List L}:kbox d T ⟨t,r⟩ J xs=J ((St.newReg d (.var T (xs.map (L.forget d))) ⟨t,r⟩).put (some d) (.ptr d 0 0)):=(rfl)
theorem u_box {o:Operand}:lbox d T ⟨t,r⟩ o J=(d<1000/\Bq (B3 ((St.mk t r).get o)) (kbox d T ⟨t,r⟩ J)):=(rfl)
theorem Jjl {q:Reg}:St.newReg d q ⟨t,r⟩=⟨t.map (L.forget d),(d,q) :: Cv d r⟩:=(rfl)
theorem Jkj:St.forget d ⟨t,r⟩=⟨t.map (L.forget d),Cv d r⟩:=(rfl)
theorem Jic {ps:List PV}:B3 (.p (.agg ps))=some (ps.map .p):=(rfl)
theorem Je0 {c:Bool}:B3 (.p (.bool c))=some [.p (.bool c)]:=(rfl)
theorem Jjc:B3 (.p (.int k a))=some [.p (.int k a)]:=(rfl)
theorem Jj3:B3 (.p (.str x))=some [.p (.str x)]:=(rfl)
theorem Jox:B3 (.p (.sl es))=some [.p (.sl es)]:=(rfl)
theorem Jf8:B3 (.p .snil)=some [.p .snil]:=(rfl)
theorem Jmb {o m:Nat}:B3 (.own d o m)=some [.own d o m]:=(rfl)
theorem Jmt:B3 (.ptr d i j)=some [.ptr d i j]:=(rfl)
def kst (P:Program) (ty:TypeId) (d i j:Nat) (T:TypeId) (cs:List L) (s:St) (J:St->Prop) (xs:List L):Prop :=
 i=0/\xs.length=P.cellsOf ty/\P.cellsOf ty≠0/\j+xs.length<=cs.length/\J { s with regs:=Bs d (.var T (cs.take j ++ xs ++ cs.drop (j+xs.length))) s.regs }
theorem u_kst {xs:List L}:kst P ty d i j T ls ⟨t,r⟩ J xs=(i=0/\xs.length=P.cellsOf ty/\P.cellsOf ty≠0/\j+xs.length<=ls.length/\J ⟨t,Bs d (.var T (ls.take j ++ xs ++ ls.drop (j+xs.length))) r⟩):=(rfl)
def kst3 (P:Program) (ty:TypeId) (a:Operand) (d i j:Nat) (T:TypeId) (sz:Nat) (es:List (List PV)) (s:St) (J:St->Prop) (ps:List PV) (e:List PV):Prop :=
 ps.length=P.cellsOf ty/\P.cellsOf ty≠0/\j+ps.length<=e.length/\Am d s.regs=some (.row T sz es)/\s.get a=.ptr d i j/\J { s with regs:=Bs d (.row T sz (es.set i (e.take j ++ ps ++ e.drop (j+ps.length)))) s.regs }
theorem u_kst3 {o:Operand} {ps c:List PV}:kst3 P ty o d i j T sz es ⟨t,r⟩ J ps c=(ps.length=P.cellsOf ty/\P.cellsOf ty≠0/\j+ps.length<=c.length/\Am d r=some (.row T sz es)/\(St.mk t r).get o=.ptr d i j/\J ⟨t,Bs d (.row T sz (es.set i (c.take j ++ ps ++ c.drop (j+ps.length)))) r⟩):=(rfl)
def kst2 (P:Program) (ty:TypeId) (a:Operand) (d i j:Nat) (T:TypeId) (sz:Nat) (es:List (List PV)) (s:St) (J:St->Prop) (ps:List PV):Prop:=getE (es[i]?) (kst3 P ty a d i j T sz es s J ps)
theorem u_kst2 {o:Operand} {ps:List PV}:kst2 P ty o d i j T sz es ⟨t,r⟩ J ps=getE (es[i]?) (kst3 P ty o d i j T sz es ⟨t,r⟩ J ps):=(rfl)
def kst1 (P:Program) (ty:TypeId) (a:Operand) (d i j:Nat) (T:TypeId) (sz:Nat) (es:List (List PV)) (s:St) (J:St->Prop) (xs:List L):Prop:=Bq (Bg L.pure? xs) (kst2 P ty a d i j T sz es s J)
theorem u_kst1 {o:Operand} {xs:List L}:kst1 P ty o d i j T sz es ⟨t,r⟩ J xs=Bq (Bg L.pure? xs) (kst2 P ty o d i j T sz es ⟨t,r⟩ J):=(rfl)
def Jdt (P:Program) (ty:TypeId) (a x:Operand) (d i j:Nat) (T:TypeId) (sz:Nat) (es:List (List PV)) (J:St->Prop) (s:St):Prop:=Bq (B3 (s.get x)) (kst1 P ty a d i j T sz es s J)
theorem Jph {o q:Operand}:Jdt P ty o q d i j T sz es J ⟨t,r⟩=Bq (B3 ((St.mk t r).get q)) (kst1 P ty o d i j T sz es ⟨t,r⟩ J):=(rfl)
def kls2 (P:Program) (ty:TypeId) (d i j:Nat) (T:TypeId) (sz:Nat) (f:Bool) (es:List (List L)) (s:St) (J:St->Prop) (xs:List L) (e:List L):Prop :=
 xs.length=P.cellsOf ty/\P.cellsOf ty≠0/\j+xs.length<=e.length/\J { s with regs:=Bs d (.lrow T sz f (es.set i (e.take j ++ xs ++ e.drop (j+xs.length)))) s.regs }
def kls (P:Program) (ty:TypeId) (d i j:Nat) (T:TypeId) (sz:Nat) (f:Bool) (es:List (List L)) (s:St) (J:St->Prop) (xs:List L):Prop:=getE (es[i]?) (kls2 P ty d i j T sz f es s J xs)
theorem u_kls {xs:List L} {fu:Bool} {ll:List (List L)}:kls P ty d i j T sz fu ll ⟨t,r⟩ J xs=getE (ll[i]?) (kls2 P ty d i j T sz fu ll ⟨t,r⟩ J xs):=(rfl)
theorem u_kls2 {xs c:List L} {fu:Bool} {ll:List (List L)}:kls2 P ty d i j T sz fu ll ⟨t,r⟩ J xs c=(xs.length=P.cellsOf ty/\P.cellsOf ty≠0/\j+xs.length<=c.length/\J ⟨t,Bs d (.lrow T sz fu (ll.set i (c.take j ++ xs ++ c.drop (j+xs.length)))) r⟩):=(rfl)
def stR (P:Program) (ty:TypeId) (s:St) (a x:Operand) (d i j:Nat) (J:St->Prop) (q:Option Reg):Prop :=
 match q with
 | some (.var T cs)=>Bq (B3 (s.get x)) (kst P ty d i j T cs s J)
 | some (.row T sz es)=>Jdt P ty a x d i j T sz es J (s.freezeOps [x])
 | some (.lrow T sz f es)=>Bq (B3 (s.get x)) (kls P ty d i j T sz f es s J)
 | some (.obj _)=>False
 | none=>False
def stA (P:Program) (ty:TypeId) (s:St) (a x:Operand) (J:St->Prop) (la:L):Prop :=
 match la with
 | .ptr d i j=>stR P ty s a x d i j J (Am d s.regs)
 | _=>False
theorem Jon {o q:Operand}:Nv P ty ⟨t,r⟩ o q J=stA P ty ⟨t,r⟩ o q J ((St.mk t r).get o):=by
 unfold Nv stA stR Jdt kst1 kst2 kst3 kst kls kls2 Bq getE;apply pe;cases (St.mk t r).get o with
 | ptr d i j =>
  simp only;cases Am d r with
  | none=>exact Iff.rfl
  | some g =>
   cases g with
   | var T cs=>exact Iff.rfl
   | row T sz es=>exact Iff.rfl
   | lrow T sz f es=>exact Iff.rfl
   | obj o=>exact Iff.rfl
 | _=>exact Iff.rfl
theorem u_stA {o q:Operand}:stA P ty ⟨t,r⟩ o q J (.ptr d i j)=stR P ty ⟨t,r⟩ o q d i j J (Am d r):=(rfl)
theorem Jgl {o q:Operand}:stR P ty ⟨t,r⟩ o q d i j J (some (.var T ls))=Bq (B3 ((St.mk t r).get q)) (kst P ty d i j T ls ⟨t,r⟩ J):=(rfl)
theorem Jf7 {o q:Operand}:stR P ty ⟨t,r⟩ o q d i j J (some (.row T sz es))=Jdt P ty o q d i j T sz es J (St.freezeOps ⟨t,r⟩ [q]):=(rfl)
theorem J9o {o q:Operand} {fu:Bool} {ll:List (List L)}:stR P ty ⟨t,r⟩ o q d i j J (some (.lrow T sz fu ll))=Bq (B3 ((St.mk t r).get q)) (kls P ty d i j T sz fu ll ⟨t,r⟩ J):=(rfl)
def frz (s:St) (xs:List Operand):L->St
 | .own d _ _=>if d<1000 then (s.freeze d).freezeOps xs else s.freezeOps xs
 | .mref d=>if d<1000 then (s.freeze d).freezeOps xs else s.freezeOps xs
 | _=>s.freezeOps xs
theorem Jhj:St.freezeOps ⟨t,r⟩ []=⟨t,r⟩:=(rfl)
theorem Jcr {o:Operand} {os:List Operand}:St.freezeOps ⟨t,r⟩ (o :: os)=frz ⟨t,r⟩ os ((St.mk t r).get o):=by
 simp only[St.freezeOps,frz];cases (St.mk t r).get o<;>rfl
theorem Jp2 {os:List Operand} {v:PV}:frz ⟨t,r⟩ os (.p v)=St.freezeOps ⟨t,r⟩ os:=(rfl)
theorem Jfm {os:List Operand}:frz ⟨t,r⟩ os (.ptr d i j)=St.freezeOps ⟨t,r⟩ os:=(rfl)
theorem Jar {os:List Operand}:frz ⟨t,r⟩ os (.mref d)=if d<1000 then (St.freeze d ⟨t,r⟩).freezeOps os else St.freezeOps ⟨t,r⟩ os:=(rfl)
theorem Jjb {os:List Operand} {g:FuncId} {ids:List Nat}:frz ⟨t,r⟩ os (.fn g ids)=St.freezeOps ⟨t,r⟩ os:=(rfl)
theorem Jhk {os:List Operand} {o m:Nat}:frz ⟨t,r⟩ os (.own d o m)=if d<1000 then (St.freeze d ⟨t,r⟩).freezeOps os else St.freezeOps ⟨t,r⟩ os:=(rfl)
theorem Jit:St.freeze d ⟨t,r⟩=Dx d (fzOf (Am d r)) ⟨t,r⟩:=(rfl)
theorem Jcj:fzOf (some (.row T sz es))=some (.rw es):=(rfl)
theorem Jeo {m:List (PV×PV)}:fzOf (some (.obj (.mp m)))=some (.mp m):=(rfl)
theorem Jm4 {z:Fz}:Dx d (some z) ⟨t,r⟩=⟨t.map (L.freeze d z),Cp d z r⟩:=(rfl)
def cloF (X:Cx) (g:FuncId) (ps:List PV) (f:Operand) (args:List Operand) (dst:Option Tmp) (J:St->Prop) (s:St):Prop:=s.get f=.p (.clo g ps)/\Ll X g (args.map s.get ++ [.eptr ps]) s dst J
def callT (X:Cx) (s:St) (f:Operand) (args:List Operand) (dst:Option Tmp) (J:St->Prop) (l:L):Prop :=
 match l with
 | .fn g ids=>Jm X (X.kind g) g ids args s dst J
 | .p (.clo g ps)=>X.kind g=0/\cloF X g ps f args dst J (s.freezeOps args)
 | _=>False
theorem u_call {f:Operand} {args:List Operand} {dst:Option Tmp}:Jc1 X ⟨t,r⟩ f args dst J=callT X ⟨t,r⟩ f args dst J ((St.mk t r).get f):=(rfl)
theorem Jn9 {f:Operand} {args:List Operand} {dst:Option Tmp} {g:FuncId} {ids:List Nat}:callT X ⟨t,r⟩ f args dst J (.fn g ids)=Jm X (X.kind g) g ids args ⟨t,r⟩ dst J:=(rfl)
def Jln (X:Cx) (g:FuncId) (ids:List Nat) (args:List Operand) (dst:Option Tmp) (J:St->Prop) (s:St):Prop:=Ll X g (args.map s.get ++ ids.map fun d=>L.ptr d 0 0) s dst J
theorem Jiw {args:List Operand} {dst:Option Tmp} {g:FuncId} {ids:List Nat}:Jm X 0 g ids args ⟨t,r⟩ dst J=Jln X g ids args dst J (St.freezeOps ⟨t,r⟩ args):=(rfl)
theorem Jlx {args:List Operand} {dst:Option Tmp} {g:FuncId} {ids:List Nat}:Jm X 1 g ids args ⟨t,r⟩ dst J=Jln X g ids args dst J ⟨t,r⟩:=(rfl)
theorem Jji {args:List Operand} {dst:Option Tmp} {g:FuncId}:Jm X 3 g [] args ⟨t,r⟩ dst J=Jkt X g (args.map (St.mk t r).get) ⟨t,r⟩ dst J:=by
 show ([]=[]/\_)=_;simp only[true_and]
theorem Jim {args:List Operand} {dst:Option Tmp} {g:FuncId}:Jm X 2 g [] args ⟨t,r⟩ dst J=lext X g (args.map (St.mk t r).get) ⟨t,r⟩ dst J:=by
 show ([]=[]/\_)=_;simp only[true_and]
theorem Joq {args:List Operand} {dst:Option Tmp} {g:FuncId} {ids:List Nat}:Jln X g ids args dst J ⟨t,r⟩=Ll X g (args.map (St.mk t r).get ++ ids.map fun d=>L.ptr d 0 0) ⟨t,r⟩ dst J:=(rfl)
theorem Jm7 {ls:List L} {dst:Option Tmp} {g:FuncId}:Ll X g ls ⟨t,r⟩ dst J=N2 X g ls ⟨t,r⟩ (Ra (Dj [] (Rs ls)) r) dst J:=(rfl)
theorem L.map_none (l:L) (h:l.ids=[]) (f:Nat->Option Nat):l.map f=l:=by
 cases l<;>simp[L.ids] at h<;>first|rfl | (subst h;rfl)
def Q6 (dst:Option Tmp) (K:St->Prop) (s:St) (l:L) (rs':Regs):Prop:=Ta [] dst K s l rs'
theorem Vj {ls:List L} {ρ:Ren} {x:Nat×Nat} {dst:Option Tmp} {g:FuncId}:N2 X g ls ⟨t,r⟩ (x :: ρ) dst J=Al X g (ls.map (L.map (upId (x :: ρ)))) (Cz (x :: ρ) r) (Ta (x :: ρ) dst J ⟨t,r⟩):=(rfl)
theorem Sd:∀ (r:Regs),Cz [] r=[]
 | []=>rfl
 | (d,q) :: r=>by simp[Cz,upId,Sd r]
theorem Zb {ls:List L} {dst:Option Tmp} {g:FuncId}:N2 X g ls ⟨t,r⟩ [] dst J=Al X g (ls.map (L.map (upId []))) [] (Q6 dst J ⟨t,r⟩):=by
 unfold N2 Q6;rw[Sd]
theorem Py:∀ (l:L),l.map (C5 [])=l:=by
 have h:∀ ds,Bg (C5 []) ds=some ds:=by
  intro ds
  induction ds with
  | nil=>rfl
  | cons d ds ih=>simp only[Bg,ih];simp[C5]
 intro l;cases l with
 | ptr d i j=>rfl
 | own d i j=>rfl
 | mref d=>rfl
 | fn g ds=>simp[L.map,h,J3a]
 | cfn g ds=>simp[L.map,h,J54]
 | _=>rfl
theorem Zi (q:Reg):q.map (C5 [])=q:=by
 cases q with
 | var T cs=>simp only[Reg.map];congr 1;exact (Ebp fun l _=>Py l).trans (List.map_id _)
 | lrow T sz f es =>
  simp only[Reg.map];congr 1;refine (Ebp fun e _=>?_).trans (List.map_id _);exact (Ebp fun l _=>Py l).trans (List.map_id _)
 | _=>rfl
theorem Qa:∀ (r:Regs),C1 [] none [] [] r=r
 | []=>rfl
 | (d,q) :: r=>by simp only[C1,N7,upId,if_true,Zi,Qa r]
theorem Jk2 (s:St):s.after [] none []=s:=by
 obtain ⟨t,r⟩:=s;simp only[St.after,Da,Gc,List.filter_nil,Eca,List.nil_append,Qa];congr 1;exact (Ebp fun l _=>Py l).trans (List.map_id _)
def noId (_:Nat):Option Nat:=none
theorem Wm {dst:Option Tmp} {l:L}:Q6 dst J ⟨t,r⟩ l []=J ((St.mk t r).put dst (l.map noId)):=by
 unfold Q6 Ta;have e:Ek dst []=none:=rfl;rw[e,Jk2];have e2:C6 [] none=noId:=by funext n;rfl
 rw[e2]
theorem Sk {dst:Option Tmp} {l:L} {rs':Regs} {x:Nat×Reg}:Q6 dst J ⟨t,r⟩ l (x :: rs')=Ta [] dst J ⟨t,r⟩ l (x :: rs'):=(rfl)
theorem Jo7 {dst:Option Tmp} {l:L} {rs':Regs} {ρ:Ren}:Ta ρ dst J ⟨t,r⟩ l rs'=J ((St.after ρ (Ek dst rs') rs' ⟨t,r⟩).put dst (l.map (C6 ρ (Ek dst rs')))):=(rfl)
def Jae (bad:List Nat) (t:List L):List L :=
 match bad with
 | []=>t
 | _=>t.map (L.map (C5 bad))
theorem Vs:Jae [] t=t:=(rfl)
theorem Sr {b:Nat} {bs:List Nat}:Jae (b :: bs) t=t.map (L.map (C5 (b :: bs))):=(rfl)
def Xi (bad:List Nat) (q:Reg):Reg :=
 match bad with
 | []=>q
 | _=>q.map (C5 bad)
theorem Xr {q:Reg}:Xi [] q=q:=(rfl)
theorem Ut {b:Nat} {bs:List Nat} {q:Reg}:Xi (b :: bs) q=q.map (C5 (b :: bs)):=(rfl)
theorem Jiq {bad:List Nat} {q:Reg}:Xi bad q=q.map (C5 bad):=by
 cases bad with
 | nil=>exact (Zi q).symm
 | cons=>rfl
def Hl:Ren->List Nat
 | []=>[]
 | (d,n) :: ρ=>if 500000<=n then d :: Hl ρ else Hl ρ
theorem Oj:∀ (ρ:Ren),(ρ.filter fun x=>decide (500000<=x.2)).map (·.1)=Hl ρ
 | []=>rfl
 | (d,n) :: ρ=>by
  simp only[Hl,List.filter_cons,decide_eq_true_eq];split<;>simp[Oj ρ]
theorem Uj {ρ:Ren}:Da ρ none=Hl ρ:=Oj ρ
theorem Uq {ρ:Ren} {x:Nat}:Da ρ (some x)=x :: Hl ρ:=by simp only[Da,Oj]
theorem Vb:Hl []=[]:=(rfl)
theorem Sp {ρ:Ren} {a b:Nat}:Hl ((a,b) :: ρ)=if 500000<=b then a :: Hl ρ else Hl ρ:=(rfl)
theorem Jnk {ρ:Ren} {nw:Option Nat} {rs':Regs}:St.after ρ nw rs' ⟨t,r⟩=⟨Jae (Da ρ nw) t,Gc ρ nw rs' ++ C1 ρ nw (Da ρ nw) rs' r⟩:=by
 simp only[St.after];congr 1;cases Da ρ nw with
 | nil=>exact (Ebp fun l _=>Py l).trans (List.map_id _)
 | cons=>rfl
def newF (ρ:Ren) (d:Nat):Option Reg->Regs
 | some r=>[(d,r.map (C6 ρ (some d)))]
 | none=>[]
theorem Jcd {ρ:Ren} {rs':Regs}:Gc ρ none rs'=[]:=(rfl)
theorem Ja6 {ρ:Ren} {rs':Regs} {x:Nat}:Gc ρ (some x) rs'=newF ρ x (Am 900 rs'):=by
 simp only[Gc,newF];cases Am 900 rs'<;>rfl
theorem u_newF {ρ:Ren} {x:Nat} {q:Reg}:newF ρ x (some q)=[(x,q.map (C6 ρ (some x)))]:=(rfl)
def oldF (e:Nat) (ρ:Ren) (nw:Option Nat) (rest:Regs):Option Reg->Regs
 | some r=>(e,r.map (C6 ρ nw)) :: rest
 | none=>rest
def oldN (e:Nat) (q:Reg) (ρ:Ren) (nw:Option Nat) (bad:List Nat) (rs' rest:Regs):Option Nat->Regs
 | some n=>oldF e ρ nw rest (Am n rs')
 | none=>(e,Xi bad q) :: rest
theorem Jej {ρ:Ren} {nw:Option Nat} {bad:List Nat} {rs':Regs}:C1 ρ nw bad rs' []=[]:=(rfl)
theorem Ja2 {ρ:Ren} {nw:Option Nat} {bad:List Nat} {rs':Regs} {e:Nat} {q:Reg}:C1 ρ nw bad rs' ((e,q) :: r)=if N7 nw e=true then oldN e q ρ nw bad rs' (C1 ρ nw bad rs' r) (upId ρ e) else C1 ρ nw bad rs' r:=by
 simp only[C1,oldN,oldF,Jiq];split
 ·cases upId ρ e with
  | none=>rfl
  | some n=>simp only;cases Am n rs'<;>rfl
 ·rfl
theorem Zw {ρ:Ren} {nw:Option Nat} {bad:List Nat} {rs' rest:Regs} {e n:Nat} {q:Reg}:oldN e q ρ nw bad rs' rest (some n)=oldF e ρ nw rest (Am n rs'):=(rfl)
theorem W6 {ρ:Ren} {nw:Option Nat} {bad:List Nat} {rs' rest:Regs} {e:Nat} {q:Reg}:oldN e q ρ nw bad rs' rest none=(e,Xi bad q) :: rest:=(rfl)
theorem Zd {ρ:Ren} {nw:Option Nat} {rest:Regs} {e:Nat} {q:Reg}:oldF e ρ nw rest (some q)=(e,q.map (C6 ρ nw)) :: rest:=(rfl)
theorem Yq {ρ:Ren} {nw:Option Nat} {rest:Regs} {e:Nat}:oldF e ρ nw rest none=rest:=(rfl)
theorem Sw {e:Nat}:N7 none e=true:=(rfl)
theorem Sy {x e:Nat}:N7 (some x) e=decide (e≠x):=(rfl)
def newO (dst:Option Tmp):Bool->Option Nat
 | true=>some (match dst with | some d=>if d<900 then d else 990 | none=>990)
 | false=>none
theorem Jpa {dst:Option Tmp} {rs':Regs}:Ek dst rs'=newO dst (findKey 900 rs'):=by
 simp only[Ek,newO];cases findKey 900 rs'<;>rfl
theorem Jj7 {dst:Option Tmp}:newO dst false=none:=(rfl)
theorem Jin {x:Tmp}:newO (some x) true=some (if x<900 then x else 990):=(rfl)
theorem Jfp:newO none true=some 990:=(rfl)
theorem Kkj {e:Nat}:findKey e []=false:=(rfl)
theorem Qc {e a:Nat} {q:Reg}:findKey e ((a,q) :: r)=if a=e then true else findKey e r:=(rfl)
theorem Jix {e:Nat}:upId [] e=none:=(rfl)
theorem Jhb {ρ:Ren} {a b e:Nat}:upId ((a,b) :: ρ) e=if a=e then some b else upId ρ e:=(rfl)
theorem Jgi {ρ:Ren} {a b e:Nat}:dnId ((a,b) :: ρ) e=if b=e then some a else dnId ρ e:=(rfl)
def Jl5 (x:Nat):Option Nat->Option Nat
 | some e=>if e=x then none else some e
 | none=>none
theorem Xu {ρ:Ren} {e:Nat}:C6 ρ none e=dnId ρ e:=(rfl)
theorem Yu {ρ:Ren} {x e:Nat}:C6 ρ (some x) e=if e=900 then some x else Jl5 x (dnId ρ e):=by
 simp only[C6,Jl5];cases dnId ρ e<;>rfl
theorem Vp {x e:Nat}:Jl5 x (some e)=if e=x then none else some e:=(rfl)
theorem Xw {b:Nat} {bs:List Nat} {e:Nat}:C5 (b :: bs) e=if e=b then none else C5 bs e:=by
 simp only[C5,List.contains_cons,Ecf,beq_iff_eq];by_cases h:e=b<;>simp[h]
theorem Jcs {e:Nat}:C5 [] e=some e:=(rfl)
theorem Jml {a b e:Nat}:Fb a b e=if e=a then some b else if e=b then none else some e:=(rfl)
theorem Jef {ρ:Ren}:Cz ρ []=[]:=(rfl)
def upF (ρ:Ren) (q:Reg) (rest:Regs):Option Nat->Regs
 | some n=>(n,q.map (upId ρ)) :: rest
 | none=>rest
theorem Jcb {ρ:Ren} {a:Nat} {q:Reg}:Cz ρ ((a,q) :: r)=upF ρ q (Cz ρ r) (upId ρ a):=by
 simp only[Cz,upF];cases upId ρ a<;>rfl
theorem Jbt {ρ:Ren} {q:Reg} {rest:Regs} {e:Nat}:upF ρ q rest (some e)=(e,q.map (upId ρ)) :: rest:=(rfl)
theorem Jao {ρ:Ren} {q:Reg} {rest:Regs}:upF ρ q rest none=rest:=(rfl)
theorem Ji0 {f:Nat->Option Nat}:Reg.map f (.var T ls)=.var T (ls.map (L.map f)):=(rfl)
theorem Jiu {f:Nat->Option Nat}:Reg.map f (.row T sz es)=.row T sz es:=(rfl)
theorem Jew {f:Nat->Option Nat} {fu:Bool} {ll:List (List L)}:Reg.map f (.lrow T sz fu ll)=.lrow T sz fu (ll.map fun e=>e.map (L.map f)):=(rfl)
theorem Jlt {f:Nat->Option Nat} {o:PObj}:Reg.map f (.obj o)=.obj o:=(rfl)
theorem u_m_p {f:Nat->Option Nat} {v:PV}:L.map f (.p v)=.p v:=(rfl)
theorem Jn0 {f:Nat->Option Nat}:L.map f (.ptr d i j)=Jyi (f d) i j:=(rfl)
theorem Jmy {f:Nat->Option Nat} {o m:Nat}:L.map f (.own d o m)=Jxj (f d) o m:=(rfl)
theorem Kfh {f:Nat->Option Nat}:L.map f (.mref d)=Jwt (f d):=(rfl)
theorem u_m_fn {f:Nat->Option Nat} {g:FuncId} {ids:List Nat}:L.map f (.fn g ids)=J3a g (Bg f ids):=(rfl)
theorem Jjs {f:Nat->Option Nat}:L.map f (.eptr cs)=.eptr cs:=(rfl)
theorem Joi {f:Nat->Option Nat} {l:Nat}:L.map f (.yld l)=.yld l:=(rfl)
theorem Jnp {f:Nat->Option Nat} {xs:List PV}:L.map f (.tup xs)=.tup xs:=(rfl)
theorem Jmf {f:Nat->Option Nat}:L.map f .junk=.junk:=(rfl)
theorem u_ptrO {e:Nat}:Jyi (some e) i j=.ptr e i j:=(rfl)
theorem u_ownO {e o m:Nat}:Jxj (some e) o m=.own e o m:=(rfl)
theorem Khd {e:Nat}:Jwt (some e)=.mref e:=(rfl)
theorem u_fnO {g:FuncId} {ids:List Nat}:J3a g (some ids)=.fn g ids:=(rfl)
theorem u_ownN {o m:Nat}:Jxj none o m=.junk:=(rfl)
theorem Jlm {ls:List L}:Rs ls=ls.flatMap L.ids:=(rfl)
theorem Xo {old:List Nat}:Dj old []=[]:=(rfl)
theorem Vd {old:List Nat} {a:Nat} {ds:List Nat}:Dj old (a :: ds)=if old.contains a=true then Dj old ds else a :: Dj (a :: old) ds:=(rfl)
theorem X7:Ra [] r=[]:=(rfl)
theorem V9 {a:Nat} {ds:List Nat}:Ra (a :: ds) r=P0 (a :: ds) (Ve (a :: ds) (Nr (a :: ds) r) r):=(rfl)
theorem Jf1 {D I:List Nat}:P0 D I=Gw 0 D ++ Ff D.length I:=(rfl)
theorem Uh {m:Nat}:Gw m []=[]:=(rfl)
theorem Sx {m a:Nat} {ds:List Nat}:Gw m (a :: ds)=if m<400000 then (a,1000+m) :: Gw (m+1) ds else []:=(rfl)
theorem Vh {m:Nat}:Ff m []=[]:=(rfl)
theorem Sm {m a:Nat} {ds:List Nat}:Ff m (a :: ds)=if m<400000 then (a,if 1000<=a/\a<500000 then 1000+m else 500000+m) :: Ff (m+1) ds else []:=(rfl)
theorem Ji8 {D:List Nat}:Nr D r=Dj D (F3 D r):=(rfl)
theorem Jlp {D I:List Nat}:Ve D I r=I ++ Dj (D ++ I) (F3 I r):=(rfl)
theorem Wa {ids:List Nat}:F3 ids []=[]:=(rfl)
theorem Su {ids:List Nat} {a:Nat} {q:Reg}:F3 ids ((a,q) :: r)=if ids.contains a=true then q.ids ++ F3 ids r else F3 ids r:=(rfl)
theorem Jgx:Mk d ⟨t,r⟩ J=(d<1000/\J ((St.newReg d (.obj (.mp [])) ⟨t,r⟩).put (some d) (.mref d))):=(rfl)
def rgT (d:Nat) (o:Option TypeDesc) (s:St) (l:L) (J:St->Prop):Prop :=
 match o,l with
 | some .string,.p (.str u)=>J ((s.newReg d (.obj (.sit u 0))).put (some d) (.ptr d 0 0))
 | some (.map _ _),.p .nmap=>J ((s.newReg d (.obj (.mit [] []))).put (some d) (.ptr d 0 0))
 | some (.map _ _),.p (.mp es)=>J ((s.newReg d (.obj (.mit es []))).put (some d) (.ptr d 0 0))
 | _,_=>False
theorem Jpu {o:Operand}:Wr P d ty ⟨t,r⟩ o J=(d<1000/\rgT d (P.underlying ty) ⟨t,r⟩ ((St.mk t r).get o) J):=(rfl)
theorem Ji5:rgT d (some .string) ⟨t,r⟩ (.p (.str x)) J=J ((St.newReg d (.obj (.sit x 0)) ⟨t,r⟩).put (some d) (.ptr d 0 0)):=(rfl)
theorem Jop {k1 e1:TypeId} {m:List (PV×PV)}:rgT d (some (.map k1 e1)) ⟨t,r⟩ (.p (.mp m)) J=J ((St.newReg d (.obj (.mit m [])) ⟨t,r⟩).put (some d) (.ptr d 0 0)):=(rfl)
def nxT (s:St) (b:Bool) (N:St->L->Prop) (l:L):Prop :=
 match l with
 | .ptr d 0 0=>match Am d s.regs,b with
  | some (.obj (.sit u pos)),true=>(pos<u.length->N { s with regs:=Bs d (.obj (.sit u (pos+(Utf8.decode ⟨⟨u⟩⟩ pos).2))) s.regs } (.tup [.bool true,.int .i64 pos,.int .i32 (Utf8.decode ⟨⟨u⟩⟩ pos).1])) /\
    (¬ pos<u.length->N s (.tup [.bool false]))
  | some (.obj (.mit es seen)),false=>(∀ i p,es[i]? = some p->i ∉ seen->N { s with regs:=Bs d (.obj (.mit es (seen ++ [i]))) s.regs } (.tup [.bool true,p.1,p.2])) /\
    ((∀ i,i<es.length->i∈seen)->N s (.tup [.bool false]))
  | _,_=>False
 | _=>False
def nxS (s:St) (d:Nat) (N:St->L->Prop):Option Reg->Prop
 | some (.obj (.sit u pos))=>if pos<u.length then N { s with regs:=Bs d (.obj (.sit u (pos+(Utf8.decode ⟨⟨u⟩⟩ pos).2))) s.regs } (.tup [.bool true,.int .i64 pos,.int .i32 (Utf8.decode ⟨⟨u⟩⟩ pos).1]) else N s (.tup [.bool false])
 | _=>False
def nxM (s:St) (d:Nat) (N:St->L->Prop):Option Reg->Prop
 | some (.obj (.mit es seen))=>(∀ i p,es[i]? = some p->i ∉ seen->N { s with regs:=Bs d (.obj (.mit es (seen ++ [i]))) s.regs } (.tup [.bool true,p.1,p.2])) /\
    ((∀ i,i<es.length->i∈seen)->N s (.tup [.bool false]))
 | _=>False
variable {N:St->L->Prop}
theorem u_next {o:Operand} {b:Bool}:Wv ⟨t,r⟩ o b N=nxT ⟨t,r⟩ b N ((St.mk t r).get o):=(rfl)
theorem Jnx:nxT ⟨t,r⟩ true N (.ptr d 0 0)=nxS ⟨t,r⟩ d N (Am d r):=by
 simp only[nxT,nxS];cases Am d r with
 | none=>rfl
 | some g =>
  cases g with
  | obj o =>
   cases o with
   | sit u pos=>apply pe;by_cases h:pos<u.length<;>simp[h]
   | _=>rfl
  | _=>rfl
theorem Joc:nxT ⟨t,r⟩ false N (.ptr d 0 0)=nxM ⟨t,r⟩ d N (Am d r):=by
 simp only[nxT,nxM];cases Am d r with
 | none=>rfl
 | some g =>
  cases g with
  | obj o=>cases o<;>rfl
  | _=>rfl
theorem u_nxS {pos:Nat}:nxS ⟨t,r⟩ d N (some (.obj (.sit x pos)))=if pos<x.length then N ⟨t,Bs d (.obj (.sit x (pos+(Utf8.decode ⟨⟨x⟩⟩ pos).2))) r⟩ (.tup [.bool true,.int .i64 pos,.int .i32 (Utf8.decode ⟨⟨x⟩⟩ pos).1]) else N ⟨t,r⟩ (.tup [.bool false]):=(rfl)
theorem
    u_nxM {m:List (PV×PV)} {seen:List Nat}:nxM ⟨t,r⟩ d N (some (.obj (.mit m seen)))=((∀ i p,m[i]? = some p->i ∉ seen->N ⟨t,Bs d (.obj (.mit m (seen ++ [i]))) r⟩ (.tup [.bool true,p.1,p.2])) /\
    ((∀ i,i<m.length->i∈seen)->N ⟨t,r⟩ (.tup [.bool false]))):=(rfl)
def enT (r:Regs) (K:L->Prop) (l:L):Prop :=
 match l with
 | .ptr d 0 0=>match Am d r with
  | some (.obj (.mit es seen))=>∃ i,seen.getLast? = some i/\∃ p,es[i]? = some p/\K (.tup [p.1,p.2])
  | _=>False
 | _=>False
def enM (K:L->Prop):Option Reg->Prop
 | some (.obj (.mit es seen))=>∃ i,seen.getLast? = some i/\∃ p,es[i]? = some p/\K (.tup [p.1,p.2])
 | _=>False
theorem Jpv {o:Operand}:Ri ⟨t,r⟩ o K=enT r K ((St.mk t r).get o):=(rfl)
theorem u_enT:enT r K (.ptr d 0 0)=enM K (Am d r):=(rfl)
theorem u_enM {m:List (PV×PV)} {seen:List Nat} {q:Nat}:enM K (some (.obj (.mit m (seen ++ [q])))) = ∃ p,m[q]? = some p/\K (.tup [p.1,p.2]):=by
 apply pe;simp[enM]
def muS (P:Program) (d:Nat) (s:St) (J:St->Prop) (es':List (PV×PV)):Prop:=J { s with regs:=Bs d (.obj (.mp es')) s.regs }
theorem u_muS {m:List (PV×PV)}:muS P d ⟨t,r⟩ J m=J ⟨t,Bs d (.obj (.mp m)) r⟩:=(rfl)
def muR (P:Program) (d:Nat) (o:Option (TypeId×TypeId)) (lk lv:L) (s:St) (J:St->Prop) (q:Option Reg):Prop :=
 match q,o,lk,lv with
 | some (.obj (.mp es)),some (kt,_),.p kp,.p vp=>De P kt kp=true/\Bq (mput kp vp es) (muS P d s J)
 | _,_,_,_=>False
def muT (P:Program) (ty:TypeId) (k v:Operand) (J:St->Prop) (s:St) (l:L):Prop :=
 match l with
 | .mref d=>muR P d (mapT P ty) (s.get k) (s.get v) s J (Am d s.regs)
 | _=>False
def muF (P:Program) (ty:TypeId) (m k v:Operand) (J:St->Prop) (s:St):Prop:=muT P ty k v J s (s.get m)
theorem X1 {o1 o2 o3:Operand}:Dq P ty ⟨t,r⟩ o1 o2 o3 J=muF P ty o1 o2 o3 J (St.freezeOps ⟨t,r⟩ [o3]):=by
 unfold Dq muF muT muR Bq muS;generalize St.freezeOps ⟨t,r⟩ [o3]=s;cases s.get o1<;>rfl
theorem u_muF {o1 o2 o3:Operand}:muF P ty o1 o2 o3 J ⟨t,r⟩=muT P ty o2 o3 J ⟨t,r⟩ ((St.mk t r).get o1):=(rfl)
theorem u_muT {o2 o3:Operand}:muT P ty o2 o3 J ⟨t,r⟩ (.mref d)=muR P d (mapT P ty) ((St.mk t r).get o2) ((St.mk t r).get o3) ⟨t,r⟩ J (Am d r):=(rfl)
theorem u_muR {kt et:TypeId} {v w:PV} {m:List (PV×PV)}:muR P d (some (kt,et)) (.p v) (.p w) ⟨t,r⟩ J (some (.obj (.mp m)))=(De P kt v=true/\Bq (mput v w m) (muS P d ⟨t,r⟩ J)):=(rfl)
def meV (d:Nat) (m:List (PV×PV)) (s:St) (N:St->L->Prop) (q:Option (Option (Nat×PV))):Prop :=
 match q with
 | some (some (j,x))=>∀ n:Int,N { s with regs:=Bs d (.obj (.mpe m j n)) s.regs } (.tup [x,.int .i64 n])
 | _=>False
def esV (d:Nat) (m:List (PV×PV)) (j:Nat) (v:PV) (s:St) (J:St->Prop) (q:Option (PV×PV)):Prop:=match q with
 | some q=>J { s with regs:=Bs d (.obj (.mp (m.set j (q.1,v)))) s.regs }
 | none=>False
def mdR (P:Program) (d:Nat) (o:Option (TypeId×TypeId)) (lk:L) (s:St) (J:St->Prop) (q:Option Reg):Prop :=
 match q,o,lk with
 | some (.obj (.mp es)),some (kt,_),.p kp=>De P kt kp=true/\Bq (mdel kp es) (muS P d s J)
 | _,_,_=>False
def mdT (P:Program) (ty:TypeId) (k:Operand) (J:St->Prop) (s:St) (l:L):Prop :=
 match l with
 | .mref d=>mdR P d (mapT P ty) (s.get k) s J (Am d s.regs)
 | _=>False
theorem Jj9 {o1 o2:Operand}:Kq P ty ⟨t,r⟩ o1 o2 J=mdT P ty o2 J ⟨t,r⟩ ((St.mk t r).get o1):=by
 unfold Kq mdT mdR Bq muS;cases (St.mk t r).get o1<;>rfl
theorem u_mdT {o2:Operand}:mdT P ty o2 J ⟨t,r⟩ (.mref d)=mdR P d (mapT P ty) ((St.mk t r).get o2) ⟨t,r⟩ J (Am d r):=(rfl)
theorem u_mdR {kt et:TypeId} {v:PV} {m:List (PV×PV)}:mdR P d (some (kt,et)) (.p v) ⟨t,r⟩ J (some (.obj (.mp m)))=(De P kt v=true/\Bq (mdel v m) (muS P d ⟨t,r⟩ J)):=(rfl)
def lkV (ok:Bool) (K:L->Prop) (z:PV) (q:Option (Nat×PV)):Prop :=
 K
  (match q,ok with
  | some (_,v),true=>.tup [v,.bool true]
  | none,true=>.tup [z,.bool false]
  | some (_,v),false=>.p v
  | none,false=>.p z)
def lkZ (oz:Option PV) (ok:Bool) (K:L->Prop) (q:Option (Nat×PV)):Prop:=∃ z,oz=some z/\lkV ok K z q
def lkT (P:Program) (om:Option (TypeId×TypeId)) (oe:Option (List (PV×PV))) (ix:L) (ok:Bool) (K:L->Prop):Prop :=
 match om,oe,ix with
 | some (kt,et),some es,.p k=>De P kt k=true/\Bq (Cl k es 0) (lkZ (E5 P et) ok K)
 | _,_,_=>False
theorem Jjo {o1 o2:Operand} {b:Bool}:lqvK P r ⟨t,r⟩ (.lookup ty o1 o2 b) K=lkT P (mapT P ty) (Tz r ((St.mk t r).get o1)) ((St.mk t r).get o2) b K:=by
 apply pe;show (∃ l,Yc P r ty ((St.mk t r).get o1) ((St.mk t r).get o2) b l/\K l) ↔ _;unfold Yc lkT;generalize mapT P ty=a;generalize Tz r ((St.mk t r).get o1)=c;generalize (St.mk t r).get o2=q;cases a with
 | none=>simp
 | some a =>
  cases c with
  | none=>simp
  | some c =>
   cases q<;>simp only[false_and,exists_false,Bq,lkZ,lkV];constructor
   ·rintro ⟨l,⟨h1,q,h2,z,h3,rfl⟩,hK⟩;exact ⟨h1,q,h2,z,h3,hK⟩
   ·rintro ⟨h1,q,h2,z,h3,hK⟩;exact ⟨_,⟨h1,q,h2,z,h3,rfl⟩,hK⟩
theorem u_lkT {kt et:TypeId} {m:List (PV×PV)} {v:PV} {b:Bool}:lkT P (some (kt,et)) (some m) (.p v) b K=(De P kt v=true/\Bq (Cl v m 0) (lkZ (E5 P et) b K)):=(rfl)
theorem u_lkZ {z:PV} {b:Bool} {q:Option (Nat×PV)}:lkZ (some z) b K q=lkV b K z q:=pe ⟨fun ⟨_,h,hc⟩=>by cases h;exact hc,fun h=>⟨z,rfl,h⟩⟩
theorem Jk7 {z v:PV} {i:Nat}:lkV true K z (some (i,v))=K (.tup [v,.bool true]):=(rfl)
theorem Jjh {z:PV}:lkV true K z none=K (.tup [z,.bool false]):=(rfl)
theorem Ke0 {z v:PV} {i:Nat}:lkV false K z (some (i,v))=K (.p v):=(rfl)
theorem Jan {m:List (PV×PV)}:Tz r (.p (.mp m))=some m:=(rfl)
def mofR:Option Reg->Option (List (PV×PV))
 | some (.obj (.mp es))=>some es
 | _=>none
theorem J5p:Tz r (.mref d)=mofR (Am d r):=(rfl)
theorem u_mofR {m:List (PV×PV)}:mofR (some (.obj (.mp m)))=some m:=(rfl)
def Kek (o:Option TypeDesc) (v:PV):Bool:=match o with | some d=>kfit d v | none=>false
theorem Jgp {kt:TypeId} {v:PV}:De P kt v=Kek (P.underlying kt) v:=(rfl)
theorem Jcu {q q':IntKind} {n:Int}:Kek (some (.int q)) (.int q' n)=(q == q'):=(rfl)
theorem Kas:Kek (some .string) (.str x)=true:=(rfl)
theorem x_int {k:IntKind}:(∃ d,some (TypeDesc.int k)=some d/\∀ ms,¬ d=.interface ms)=True:=eq_true ⟨_,rfl,fun _ h=>by cases h⟩
theorem i_int {T:TypeId} {q:IntKind} {n:Int}:M8 T (.p (.int q n))=.ifi T q n:=(rfl)
theorem Jok {o:Operand}:lqvK P r ⟨t,r⟩ (.makeInterface ty o) K=((∃ d,P.underlying ty=some d/\∀ ms,d≠.interface ms)/\K (.p (M8 ty ((St.mk t r).get o)))):=by
 apply pe;constructor
 ·rintro ⟨l,⟨h,rfl⟩,hK⟩;exact ⟨h,hK⟩
 ·rintro ⟨h,hK⟩;exact ⟨_,⟨h,rfl⟩,hK⟩
def usdV (K:L->Prop) (l:L):Prop :=
 match l with
 | .p .snil=>K (.p .nptr)
 | .own d off n=>0<n/\K (.ptr d off 0)
 | _=>False
theorem u_usd {o:Operand}:lqvK P r ⟨t,r⟩ (.call { callee:=.builtin .unsafeSliceData,args:=#[o],argTypes:=#[ty] }) K=usdV K ((St.mk t r).get o):=by
 apply pe;show (∃ l,(match (St.mk t r).get o with | .p .snil=>l=.p .nptr | .own d off n=>0<n/\l=.ptr d off 0 | _=>False)/\K l) ↔ _;unfold usdV;split
 ·constructor
  ·rintro ⟨l,rfl,h⟩;exact h
  ·intro h;exact ⟨_,rfl,h⟩
 ·constructor
  ·rintro ⟨l,⟨h1,rfl⟩,h⟩;exact ⟨h1,h⟩
  ·rintro ⟨h1,h⟩;exact ⟨_,⟨h1,rfl⟩,h⟩
 ·simp
theorem Jbs:usdV K (.p .snil)=K (.p .nptr):=(rfl)
theorem Jbh {o m:Nat}:usdV K (.own d o m)=(0<m/\K (.ptr d o 0)):=(rfl)
theorem Jav {dst:Option Tmp} {o2:Operand} {t1:TypeId}:Jd1 X t1 dst o2 J ⟨t,r⟩ (.p .nptr)=((∃ k,(St.mk t r).get o2=.p (.int k 0))/\J ((St.mk t r).put dst (.p (.str [])))):=(rfl)
theorem Jbc {dst:Option Tmp} {o2:Operand} {t1:TypeId}:Jd1 X t1 dst o2 J ⟨t,r⟩ (.ptr d 0 0)=usT X.P (X.P.underlying t1) d ⟨t,r⟩ (kput dst J) ((St.mk t r).get o2):=(rfl)
theorem u_usT {o:Option TypeDesc} {v:Int}:usT P o d ⟨t,r⟩ N (.p (.int .i64 v))=usR P o d v ⟨t,r⟩ N (Am d r):=(rfl)
def usB (d:Nat) (n:Int) (s:St) (N:St->L->Prop) (bs:List UInt8):Prop:=n=bs.length/\bs≠[]/\bs.length<=9223372036854775807/\N (s.forget d) (.p (.str bs))
theorem u_usB {v:Int} {bs:List UInt8}:usB d v ⟨t,r⟩ N bs=(v=bs.length/\bs≠[]/\bs.length<=9223372036854775807/\N (St.forget d ⟨t,r⟩) (.p (.str bs))):=(rfl)
theorem u_usR {o:Option TypeDesc} {v:Int}:usR P o d v ⟨t,r⟩ N (some (.row T 1 es))=(o=some (.pointer T)/\P.cellsOf T=1/\Bq (Cw es) (usB d v ⟨t,r⟩ N)):=(rfl)
def kmk (d:Nat) (e:TypeId) (sz:Nat) (s:St) (n:Nat) (J:St->Prop) (zs:List PV):Prop:=zs.length=sz/\J ((s.newReg d (.row e sz (List.replicate n zs))).put (some d) (.own d 0 n))
theorem u_kmk {zs:List PV}:kmk d e sz ⟨t,r⟩ n J zs=(zs.length=sz/\J ((St.newReg d (.row e sz (List.replicate n zs)) ⟨t,r⟩).put (some d) (.own d 0 n))):=(rfl)
def fits (b:Option Nat) (c lim:Int):Prop:=∃ x,b=some x/\(x:Int) * c<=lim
theorem u_fits {x:Nat} {c lim:Int}:fits (some x) c lim=((x:Int) * c<=lim):=pe ⟨fun ⟨_,h,hc⟩=>by cases h;exact hc,fun h=>⟨x,rfl,h⟩⟩
def mkT (P:Program) (d:Nat) (o:Option (TypeId×Nat)) (s:St) (l c:L) (J:St->Prop):Prop :=
 match o,l,c with
 | some (e,sz),.p (.int _ l),.p (.int _ c)=>0<=l/\l<=c/\fits (Bo P e) c 281474976710656/\c<=9223372036854775807/\Bq (Bu P e) (kmk d e sz s l.toNat J)
 | _,_,_=>False
theorem Xy {l c:Operand}:Gl P d ty ⟨t,r⟩ l c J=(d<1000/\mkT P d (slE P ty) ⟨t,r⟩ ((St.mk t r).get l) ((St.mk t r).get c) J):=by
 unfold Gl mkT fits Bq kmk;rfl
theorem u_mkT:mkT P d (some (e,sz)) ⟨t,r⟩ (.p (.int k a)) (.p (.int k' b)) J=(0<=a/\a<=b/\fits (Bo P e) b 281474976710656/\b<=9223372036854775807/\Bq (Bu P e) (kmk d e sz ⟨t,r⟩ a.toNat J)):=(rfl)
def kbs2 (d:Nat) (e:TypeId) (sz n:Nat) (s:St) (J:St->Prop) (es:List (List PV)):Prop:=J ((s.newReg d (.row e sz es)).put (some d) (.own d 0 n))
theorem u_kbs2:kbs2 d e sz n ⟨t,r⟩ J es=J ((St.newReg d (.row e sz es) ⟨t,r⟩).put (some d) (.own d 0 n)):=(rfl)
def kbs (d:Nat) (e:TypeId) (sz n:Nat) (parts:List (Nat×Operand)) (J:St->Prop) (s:St):Prop :=
 Jt 0 (parts.map fun (i,x)=>(i,s.get x))=true/\Bq (Dn sz (parts.map fun (i,x)=>(i,s.get x))) (kbs2 d e sz n s J)
theorem u_kbs {parts:List (Nat×Operand)}:kbs d e sz n parts J ⟨t,r⟩=(Jt 0 (parts.map fun (i,x)=>(i,(St.mk t r).get x))=true/\Bq (Dn sz (parts.map fun (i,x)=>(i,(St.mk t r).get x))) (kbs2 d e sz n ⟨t,r⟩ J)):=(rfl)
def bsT (P:Program) (d:Nat) (o:Option (TypeId×Nat)) (n:Nat) (s:St) (parts:List (Nat×Operand)) (J:St->Prop):Prop :=
 match o with
 | some (e,sz)=>n * sz<=16777216/\zok (Bu P e) sz/\parts.length=n/\kbs d e sz n parts J (s.freezeOps (parts.map (·.2)))
 | none=>False
theorem Wo {parts:List (Nat×Operand)}:Fo P d ty n ⟨t,r⟩ parts J=(d<1000/\n<=16777216/\bsT P d (slE P ty) n ⟨t,r⟩ parts J):=by
 unfold Fo bsT kbs kbs2 Bq zok;rfl
def boT (P:Program) (d:Nat) (o:Option (TypeId×Nat)) (s:St) (l:L) (J:St->Prop):Prop :=
 match o with
 | some (e,1)=>zok (Bu P e) 1/\l.cellOK=true/\l.mentions d=false/\J ((s.newReg d (.lrow e 1 false [[l]])).put (some d) (.own d 0 1))
 | _=>False
theorem J9x {y:Operand}:Jvj P d ty ⟨t,r⟩ [(0,y)] J=(d<1000/\boT P d (slE P ty) ⟨t,r⟩ ((St.mk t r).get y) J):=by
 unfold Jvj boT zok;apply pe;refine and_congr_right fun _=>⟨?_,fun h=>?_⟩
 ·rintro ⟨e,h,h1,h2⟩;rw[h];exact ⟨h1,h2⟩
 ·split at h
  ·rename_i e he;exact ⟨e,he,h.1,h.2⟩
  ·exact h.elim
theorem u_boT {l:L}:boT P d (some (e,1)) ⟨t,r⟩ l J=(zok (Bu P e) 1/\l.cellOK=true/\l.mentions d=false/\J ((St.newReg d (.lrow e 1 false [[l]]) ⟨t,r⟩).put (some d) (.own d 0 1))):=(rfl)
theorem u_bsT {parts:List (Nat×Operand)}:bsT P d (some (e,sz)) n ⟨t,r⟩ parts J=(n * sz<=16777216/\zok (Bu P e) sz/\parts.length=n/\kbs d e sz n parts J (St.freezeOps ⟨t,r⟩ (parts.map (·.2)))):=(rfl)
theorem Jo2:Jt n []=true:=(rfl)
theorem Jky {x:L} {rest:List (Nat×L)}:Jt n ((i,x) :: rest)=(i == n && Jt (n+1) rest):=(rfl)
def ppA:Option (List L)->Option (List PV)
 | some xs=>Bg L.pure? xs
 | none=>none
theorem Jjw {xs:List L}:ppA (some xs)=Bg L.pure? xs:=(rfl)
def ppC (sz:Nat) (o:Option (List PV)) (os:Option (List (List PV))):Option (List (List PV)) :=
 match o,os with
 | some ps,some es=>if ps.length=sz then some (ps :: es) else none
 | _,_=>none
theorem Jiz {ps:List PV}:ppC sz (some ps) (some es)=if ps.length=sz then some (ps :: es) else none:=(rfl)
theorem pp_nil:Dn sz []=some []:=(rfl)
theorem Jof {x:L} {rest:List (Nat×L)}:Dn sz ((i,x) :: rest)=ppC sz (ppA (B3 x)) (Dn sz rest):=by
 simp only[Dn,ppC,ppA];cases B3 x with
 | none=>rfl
 | some xs =>
  simp only;cases Bg L.pure? xs with
  | none=>rfl
  | some ps =>
   simp only;cases Dn sz rest with
   | none=>split<;>rfl
   | some es=>rfl
def ksl (K:L->Prop) (es:List (List PV)):Prop:=K (.p (.sl es))
theorem u_ksl:ksl K es=K (.p (.sl es)):=(rfl)
def qbT (P:Program) (s:St) (n:Nat) (parts:List (Nat×Operand)) (K:L->Prop) (o:Option (TypeId×Nat)):Prop :=
 match o with
 | some (e,sz)=>n * sz<=16777216/\zok (Bu P e) sz/\parts.length=n/\Jt 0 (parts.map fun (i,x)=>(i,s.get x))=true/\Bq (Dn sz (parts.map fun (i,x)=>(i,s.get x))) (ksl K)
 | none=>False
theorem u_lqbs {parts:List (Nat×Operand)}:lqbs P ⟨t,r⟩ ty n parts K=qbT P ⟨t,r⟩ n parts K (slE P ty):=by
 unfold lqbs qbT zok Bq ksl;apply pe;constructor
 ·rintro ⟨e,sz,h,h'⟩;rw[h];exact h'
 ·intro h;split at h
  ·rename_i e sz he;exact ⟨e,sz,he,h⟩
  ·exact h.elim
theorem u_qbT {parts:List (Nat×Operand)}:qbT P ⟨t,r⟩ n parts K (some (e,sz))=(n * sz<=16777216/\zok (Bu P e) sz/\parts.length=n/\Jt 0 (parts.map fun (i,x)=>(i,(St.mk t r).get x))=true/\Bq (Dn sz (parts.map fun (i,x)=>(i,(St.mk t r).get x))) (ksl K)):=(rfl)
def J2 (b:Option Nat) (m:Nat):Prop:=∃ x,b=some x/\m * x<=140737488355328
theorem Jp0 {m x:Nat}:J2 (some x) m=(m * x<=140737488355328):=pe ⟨fun ⟨_,h,hc⟩=>by cases h;exact hc,fun h=>⟨x,rfl,h⟩⟩
def apX (P:Program) (tt:Prop) (d:Nat) (e sz:Nat) (s:St) (lx:L) (J:St->Prop) (es':List (List PV)):Prop :=
 (∀ q∈es',q.length=sz)/\match lx with
  | .own d0 0 n=>match Am d0 s.regs with
   | some (.row T sz' es)=>T=e/\sz'=sz/\es.length=n/\(∃ b,Bo P e=some b/\(n+es'.length) * b<=140737488355328)/\n+es'.length<=9223372036854775807 /\
     J (((s.forget d0).newReg d (.row e sz (es ++ es'))).put (some d) (.own d 0 (n+es'.length)))
   | some (.lrow T sz' true es)=>T=e/\sz'=sz/\tt/\Fx P d e sz s n es es' J
   | _=>False
  | .p .snil=>(∃ b,Bo P e=some b/\es'.length * b<=140737488355328)/\es'.length<=9223372036854775807/\J ((s.newReg d (.row e sz es')).put (some d) (.own d 0 es'.length))
  | _=>False
def apR (P:Program) (tt:Prop) (b:Option Nat) (d:Nat) (e sz:Nat) (s:St) (d0 n:Nat) (J:St->Prop) (es':List (List PV)) (q:Option Reg):Prop :=
 match q with
 | some (
     .row T sz' es)=>T=e/\sz'=sz/\es.length=n/\J2 b (n+es'.length)/\n+es'.length<=9223372036854775807 /\
     J (((s.forget d0).newReg d (.row e sz (es ++ es'))).put (some d) (.own d 0 (n+es'.length)))
 | some (.lrow T sz' true es)=>T=e/\sz'=sz/\tt/\Fx P d e sz s n es es' J
 | _=>False
def apZR (P:Program) (d e sz:Nat) (s:St) (m:Int) (J:St->Prop) (n:Nat) (zs:List PV):Option Reg->Prop
 | some (.lrow T sz' true es)=>T=e/\sz'=sz/\Fx P d e sz s n es (List.replicate m.toNat zs) J
 | _=>False
def apZN (bb:Option Nat) (d e sz:Nat) (s:St) (m:Int) (J:St->Prop) (zs:List PV):Prop :=
 zs.length=sz/\J2 bb m.toNat/\m<=9223372036854775807/\J ((s.newReg d (.row e sz [])).put (some d) (.own d 0 m.toNat))
def apZX (P:Program) (d e sz:Nat) (s:St) (m:Int) (J:St->Prop) (lx:L) (zs:List PV):Prop :=
 match lx with
  | .own d0 0 n=>sz=1/\zs.length=1/\apZR P d e sz s m J n zs (Am d0 s.regs)
  | .p .snil=>apZN (Bo P e) d e sz s m J zs
  | _=>False
def Zj:Option TypeDesc->Prop
 | some (.int _)=>True
 | _=>False
theorem Job:Zj (some (.int k))=True:=(rfl)
def apT (P:Program) (t1 t2:TypeId) (d:Nat) (o:Option (TypeId×Nat)) (s:St) (lx ly:L) (J:St->Prop):Prop :=
 match o with
 | some (e,sz)=>match ly with
  | .p (.int _ m)=>Zj (P.underlying t2)/\0<m/\Bq (Bu P e) (apZX P d e sz s m J lx)
  | _=>zok (Bu P e) sz/\Bq (Gp P t1 t2 e s ly) (apX P (t1=t2) d e sz s lx J)
 | none=>False
theorem Jmv {t1 t2:TypeId} {o q:Operand}:Kk P d t1 t2 ⟨t,r⟩ o q J=(d<1000/\apT P t1 t2 d (slE P t1) ⟨t,r⟩ ((St.mk t r).get o) ((St.mk t r).get q) J):=by
 unfold Kk;split
 ·rename_i kq m hg;rw[hg];unfold apT;cases slE P t1 with
  | none=>rfl
  | some p =>
   obtain ⟨e,sz⟩:=p;simp only[Yk,Bq,apZX,apZN,J2];have h1:(∃ k,P.underlying t2=some (.int k)) ↔ Zj (P.underlying t2):=by
    unfold Zj;split
    ·rename_i k h;exact ⟨fun _=>trivial,fun _=>⟨k,h⟩⟩
    ·rename_i h;exact ⟨fun ⟨k,hk⟩=>h k hk,fun h=>h.elim⟩
   rw[h1];rfl
 ·rename_i h;unfold Qe apT;cases slE P t1 with
  | none=>rfl
  | some p =>
   obtain ⟨e,sz⟩:=p;generalize (St.mk t r).get q=ly at *
   cases ly with
   | p x =>
    cases x with
    | int k m=>exact (h _ _ rfl).elim
    | _=>unfold apX zok Bq;rfl
   | _=>unfold apX zok Bq;rfl
theorem Jhc {t1 t2:TypeId} {lx:L} {m:Int}:apT P t1 t2 d (some (e,sz)) ⟨t,r⟩ lx (.p (.int k m)) J=(Zj (P.underlying t2)/\0<m/\Bq (Bu P e) (apZX P d e sz ⟨t,r⟩ m J lx)):=(rfl)
theorem Jm3 {m:Int} {zs:List PV}:apZX P d e sz ⟨t,r⟩ m J (.p .snil) zs=(zs.length=sz/\J2 (Bo P e) m.toNat/\m<=9223372036854775807/\J ((St.newReg d (.row e sz []) ⟨t,r⟩).put (some d) (.own d 0 m.toNat))):=(rfl)
theorem u_apZX {m:Int} {d0:Nat} {zs:List PV}:apZX P d e sz ⟨t,r⟩ m J (.own d0 0 n) zs=(sz=1/\zs.length=1/\apZR P d e sz ⟨t,r⟩ m J n zs (Am d0 r)):=(rfl)
theorem u_apZR {m:Int} {zs:List PV} {sz':Nat} {ls:List (List L)}:apZR P d e sz ⟨t,r⟩ m J n zs (some (.lrow T sz' true ls))=(T=e/\sz'=sz/\Fx P d e sz ⟨t,r⟩ n ls (List.replicate m.toNat zs) J):=(rfl)
theorem Jfy {t1 t2:TypeId} {lx:L}:apT P t1 t2 d (some (e,sz)) ⟨t,r⟩ lx (.p (.str x)) J=(zok (Bu P e) sz/\Bq (Gp P t1 t2 e ⟨t,r⟩ (.p (.str x))) (apX P (t1=t2) d e sz ⟨t,r⟩ lx J)):=(rfl)
theorem Jkp {t1 t2:TypeId} {lx:L}:apT P t1 t2 d (some (e,sz)) ⟨t,r⟩ lx (.p (.sl es)) J=(zok (Bu P e) sz/\Bq (Gp P t1 t2 e ⟨t,r⟩ (.p (.sl es))) (apX P (t1=t2) d e sz ⟨t,r⟩ lx J)):=(rfl)
theorem Jhp {t1 t2:TypeId} {lx:L} {d0 o m:Nat}:apT P t1 t2 d (some (e,sz)) ⟨t,r⟩ lx (.own d0 o m) J=(zok (Bu P e) sz/\Bq (Gp P t1 t2 e ⟨t,r⟩ (.own d0 o m)) (apX P (t1=t2) d e sz ⟨t,r⟩ lx J)):=(rfl)
def Jk9 (o1 o2:Option TypeDesc) (b:Option Nat) (z:Option PV) (bs:List UInt8):Option (List (List PV)) :=
 match o1,o2,b,z with
 | some .string,some (.int .u8),some 1,some (.int .u8 0)=>some (bs.map fun c=>[.int .u8 c.toNat])
 | _,_,_,_=>none
theorem V4 {t1 t2:TypeId}:Gp P t1 t2 e ⟨t,r⟩ (.p (.str x))=Jk9 (P.underlying t2) (P.underlying e) (Bo P e) (E5 P e) x:=(rfl)
theorem Jmk:Jk9 (some .string) (some (.int .u8)) (some 1) (some (.int .u8 0)) x=some (x.map fun c=>[.int .u8 c.toNat]):=(rfl)
theorem Yy {t1 t2:TypeId}:Gp P t1 t2 e ⟨t,r⟩ (.p (.sl es))=if t1=t2 then some es else none:=(rfl)
theorem Ul {t1 t2:TypeId} {o m:Nat}:Gp P t1 t2 e ⟨t,r⟩ (.own d o m)=if t1=t2 then Gj ⟨t,r⟩ (.own d o m) else none:=(rfl)
theorem Jh0 {tt:Prop} {d0:Nat}:apX P tt d e sz ⟨t,r⟩ (.own d0 0 n) J es=((∀ q∈es,q.length=sz)/\apR P tt (Bo P e) d e sz ⟨t,r⟩ d0 n J es (Am d0 r)):=by
 unfold apX apR J2;rfl
theorem Jhl {tt:Prop}:apX P tt d e sz ⟨t,r⟩ (.p .snil) J es=((∀ q∈es,q.length=sz)/\J2 (Bo P e) es.length/\es.length<=9223372036854775807/\J ((St.newReg d (.row e sz es) ⟨t,r⟩).put (some d) (.own d 0 es.length))):=(rfl)
theorem u_apR {tt:Prop} {bb:Option Nat} {es':List (List PV)} {d0 sz':Nat}:apR P tt bb d e sz ⟨t,r⟩ d0 n J es' (some (.row T sz' es))=(T=e/\sz'=sz/\es.length=n/\J2 bb (n+es'.length)/\n+es'.length<=9223372036854775807 /\
     J ((St.newReg d (.row e sz (es ++ es')) (St.forget d0 ⟨t,r⟩)).put (some d) (.own d 0 (n+es'.length)))):=(rfl)
def apG (bb:Option Nat) (d e sz:Nat) (s:St) (n:Nat) (es':List (List PV)) (J:St->Prop) (ps:List (List PV)):Prop :=
 J2 bb (n+es'.length)/\n+es'.length<=9223372036854775807/\J ((s.newReg d (.row e sz (ps ++ es'))).put (some d) (.own d 0 (n+es'.length)))
theorem u_apG {es':List (List PV)} {ls:List (List L)}:Fx P d e sz ⟨t,r⟩ n ls es' J=(n<=ls.length/\0<ls.length/\ls.length<n+es'.length/\Bq (Cb (ls.take n)) (apG (Bo P e) d e sz ⟨t,r⟩ n es' J)):=by
 unfold Fx Bq apG J2;rfl
theorem u_apG2 {bb:Option Nat} {es' ps:List (List PV)}:apG bb d e sz ⟨t,r⟩ n es' J ps=(J2 bb (n+es'.length)/\n+es'.length<=9223372036854775807/\J ((St.newReg d (.row e sz (ps ++ es')) ⟨t,r⟩).put (some d) (.own d 0 (n+es'.length)))):=(rfl)
def alX (d:Nat) (e b m:Nat) (s:St) (lx:L) (J:St->Prop) (es':List (List L)):Prop :=
 match lx with
 | .p .snil=>m * b<=140737488355328/\m<=9223372036854775807/\J ((s.newReg d (.lrow e 1 false es')).put (some d) (.own d 0 m))
 | .own d0 0 n=>match Am d0 s.regs with
  | some (.lrow T0 1 _ es)=>T0=e/\es.length=n/\Jvk d es=true/\(n+m) * b<=140737488355328/\n+m<=9223372036854775807/\J (((s.forget d0).newReg d (.lrow e 1 false (es ++ es'))).put (some d) (.own d 0 (n+m)))
  | _=>False
 | _=>False
theorem Kbv {b m:Nat} {es':List (List L)}:alX d e b m ⟨t,r⟩ (.p .snil) J es'=(m * b<=140737488355328/\m<=9223372036854775807/\J ((St.newReg d (.lrow e 1 false es') ⟨t,r⟩).put (some d) (.own d 0 m))):=(rfl)
def alR (d d0:Nat) (e b n m:Nat) (s:St) (J:St->Prop) (es':List (List L)):Option Reg->Prop
 | some (.lrow T0 1 _ es)=>T0=e/\es.length=n/\Jvk d es=true/\(n+m) * b<=140737488355328/\n+m<=9223372036854775807/\J (((s.forget d0).newReg d (.lrow e 1 false (es ++ es'))).put (some d) (.own d 0 (n+m)))
 | _=>False
theorem Kc3 {b m d0:Nat} {es':List (List L)}:alX d e b m ⟨t,r⟩ (.own d0 0 n) J es'=alR d d0 e b n m ⟨t,r⟩ J es' (Am d0 r):=(rfl)
theorem u_alR {b m d0 T0:Nat} {fu:Bool} {es es':List (List L)}:alR d d0 e b n m ⟨t,r⟩ J es' (some (.lrow T0 1 fu es))=(T0=e/\es.length=n/\Jvk d es=true/\(n+m) * b<=140737488355328/\n+m<=9223372036854775807/\J ((St.newReg d (.lrow e 1 false (es ++ es')) (St.forget d0 ⟨t,r⟩)).put (some d) (.own d 0 (n+m)))):=(rfl)
def alY (d e b m:Nat) (s:St) (lx:L) (J:St->Prop):Option Reg->Prop
 | some (.lrow T1 1 _ es')=>T1=e/\es'.length=m/\0<m/\(es'.all fun q=>q.all L.cellOK)=true/\Jvk d es'=true/\alX d e b m s lx J es'
 | _=>False
theorem u_alY {b m T1:Nat} {lx:L} {fu:Bool} {es':List (List L)}:alY d e b m ⟨t,r⟩ lx J (some (.lrow T1 1 fu es'))=(T1=e/\es'.length=m/\0<m/\(es'.all fun q=>q.all L.cellOK)=true/\Jvk d es'=true/\alX d e b m ⟨t,r⟩ lx J es'):=(rfl)
def alB (d e m d1:Nat) (s:St) (lx:L) (J:St->Prop):Option Nat->Prop
 | some b=>alY d e b m s lx J (Am d1 s.regs)
 | none=>False
theorem u_alB {b m d1:Nat} {lx:L}:alB d e m d1 ⟨t,r⟩ lx J (some b)=alY d e b m ⟨t,r⟩ lx J (Am d1 r):=(rfl)
def alT (P:Program) (d:Nat) (s:St) (lx ly:L) (J:St->Prop) (o:Option (TypeId×Nat)):Prop :=
 match o,ly with
 | some (e,1),.own d1 0 m=>zok (Bu P e) 1/\alB d e m d1 s lx J (Bo P e)
 | _,_=>False
theorem u_alT {lx:L} {d1 m:Nat}:alT P d ⟨t,r⟩ lx (.own d1 0 m) J (some (e,1))=(zok (Bu P e) 1/\alB d e m d1 ⟨t,r⟩ lx J (Bo P e)):=(rfl)
theorem Kcb {x y:Operand}:Jxb P d ty ⟨t,r⟩ x y J=(d<1000/\alT P d ⟨t,r⟩ ((St.mk t r).get x) ((St.mk t r).get y) J (slE P ty)):=by
 unfold Jxb alT alB alY alX zok;apply pe;refine and_congr_right fun _=>⟨?_,fun h=>?_⟩
 ·rintro ⟨e,b,h,h1,h2,h3⟩;rw[h];split at h3
  ·rename_i d1 m hg;rw[hg];refine ⟨h1,?_⟩;show match Bo P e with
    | some b=>_
    | none=>_
   rw[h2];exact h3
  ·exact h3.elim
 ·split at h
  ·rename_i e d1 m he hg;obtain ⟨h1,h⟩:=h;split at h
   ·rename_i b hb;exact ⟨e,b,he,h1,hb,by rw[hg];exact h⟩
   ·exact h.elim
  ·exact h.elim
def cpD (s:St) (d off:Nat) (es':List (List PV)) (C:St->L->Prop):Option Reg->Prop
 | some (.row T sz' es)=>sz'=1/\off+es'.length<=es.length/\C { s with regs:=Bs d (.row T 1 (es.take off ++ es' ++ es.drop (off+es'.length))) s.regs } (.p (.int .i64 (es'.length:Nat)))
 | some (.lrow T sz' f es)=>sz'=1/\off+es'.length<=es.length/\C { s with regs:=Bs d (.lrow T 1 f (es.take off ++ es'.map (List.map L.p) ++ es.drop (off+es'.length))) s.regs } (.p (.int .i64 (es'.length:Nat)))
 | _=>False
def cpY (s:St) (d off:Nat) (ly:L) (C:St->L->Prop) (es':List (List PV)):Prop :=
 (∀ q∈es',q.length=1)/\N6 s ly/\if es'.length=0 then C s (.p (.int .i64 0)) else cpD s d off es' C (Am d s.regs)
def cpX (s:St) (lx ly:L) (C:St->L->Prop):Prop :=
 match lx with
 | .own d off len=>Bq (srcM s len ly) (cpY s d off ly C)
 | _=>False
def cpT (P:Program) (t1 t2:TypeId) (s:St) (lx ly:L) (C:St->L->Prop) (o:Option (TypeId×Nat)):Prop :=
 match o with
 | some (_,sz)=>sz=1/\t1=t2/\cpX s lx ly C
 | none=>False
theorem u_copy {t1 t2:TypeId} {o q:Operand} {C:St->L->Prop}:Tv P t1 t2 ⟨t,r⟩ o q C=cpT P t1 t2 ⟨t,r⟩ ((St.mk t r).get o) ((St.mk t r).get q) C (slE P t1):=by
 unfold Tv cpT cpX Bq cpY;cases slE P t1 with
 | none=>rfl
 | some p =>
  obtain ⟨e,sz⟩:=p;rfl
theorem u_cpT {t1 t2:TypeId} {lx ly:L} {C:St->L->Prop}:cpT P t1 t2 ⟨t,r⟩ lx ly C (some (e,sz))=(sz=1/\t1=t2/\cpX ⟨t,r⟩ lx ly C):=(rfl)
theorem u_cpX {off len:Nat} {ly:L} {C:St->L->Prop}:cpX ⟨t,r⟩ (.own d off len) ly C=Bq (srcM ⟨t,r⟩ len ly) (cpY ⟨t,r⟩ d off ly C):=(rfl)
theorem u_cpY {off:Nat} {ly:L} {es':List (List PV)} {C:St->L->Prop}:cpY ⟨t,r⟩ d off ly C es'=((∀ q∈es',q.length=1)/\N6 ⟨t,r⟩ ly/\if es'.length=0 then C ⟨t,r⟩ (.p (.int .i64 0)) else cpD ⟨t,r⟩ d off es' C (Am d r)):=(rfl)
theorem u_cpD {off sz':Nat} {es':List (List PV)} {C:St->L->Prop}:cpD ⟨t,r⟩ d off es' C (some (.row T sz' es))=(sz'=1/\off+es'.length<=es.length/\C ⟨t,Bs d (.row T 1 (es.take off ++ es' ++ es.drop (off+es'.length))) r⟩ (.p (.int .i64 (es'.length:Nat)))):=(rfl)
theorem u_cpDl {off sz':Nat} {f:Bool} {ls:List (List L)} {es':List (List PV)} {C:St->L->Prop}:cpD ⟨t,r⟩ d off es' C (some (.lrow T sz' f ls))=(sz'=1/\off+es'.length<=ls.length/\C ⟨t,Bs d (.lrow T 1 f (ls.take off ++ es'.map (List.map L.p) ++ ls.drop (off+es'.length))) r⟩ (.p (.int .i64 (es'.length:Nat)))):=(rfl)
def Jmg (s:St) (m d off len:Nat):Option Reg->Option (List (List PV))
 | some (.lrow _ _ _ es)=>if off+len<=es.length then Cb ((es.drop off).take (min len m)) else none
 | _=>(Gj s (.own d off len)).map (List.take m)
theorem Jbm {m o n:Nat}:srcM ⟨t,r⟩ m (.own d o n)=Jmg ⟨t,r⟩ m d o n (Am d r):=(rfl)
theorem Jez {m o n sz':Nat} {f:Bool} {ls:List (List L)}:Jmg ⟨t,r⟩ m d o n (some (.lrow T sz' f ls))=if o+n<=ls.length then Cb ((ls.drop o).take (min n m)) else none:=(rfl)
def takeO (m:Nat) (o:Option (List (List PV))):Option (List (List PV)):=o.map (List.take m)
theorem Joy {m:Nat}:takeO m (some es)=some (es.take m):=(rfl)
theorem Jfc {m o n sz':Nat}:Jmg ⟨t,r⟩ m d o n (some (.row T sz' es))=takeO m (Gj ⟨t,r⟩ (.own d o n)):=(rfl)
def oneO:Option (List (List PV))->Prop
 | some es=>∀ e∈es,e.length=1
 | none=>True
theorem Jh3 {l:L}:N6 ⟨t,r⟩ l=oneO (Gj ⟨t,r⟩ l):=by
 unfold N6 oneO;split<;>simp_all
theorem u_oneO:oneO (some es) = ∀ e∈es,e.length=1:=(rfl)
theorem u_oneN:oneO none=True:=(rfl)
def srcR (off len:Nat):Option Reg->Option (List (List PV))
 | some (.row _ _ es)=>if off+len<=es.length then some ((es.drop off).take len) else none
 | _=>none
theorem Je1 {o m:Nat}:Gj ⟨t,r⟩ (.own d o m)=srcR o m (Am d r):=by
 unfold Gj srcR;simp only;cases Am d r with
 | none=>rfl
 | some g=>cases g<;>rfl
theorem Jls {o m sz':Nat} {f:Bool} {ls:List (List L)}:srcR o m (some (.lrow T sz' f ls))=none:=(rfl)
theorem u_srcR {o m:Nat}:srcR o m (some (.row T sz es))=if o+m<=es.length then some ((es.drop o).take m) else none:=(rfl)
theorem Jpm {C:PV->Prop} {v:PV}:Rb C (.p v)=C v:=(rfl)
def kr2 (C:List PV->Prop) (x:PV) (xs:List PV):Prop:=C (x :: xs)
def kr1 (P:Program) (s:St) (l:List ResultVar) (C:List PV->Prop) (x:PV):Prop:=H4 P s l (kr2 C x)
theorem u_kr2 {C:List PV->Prop} {v:PV}:kr2 C v cs=C (v :: cs):=(rfl)
theorem u_kr1 {C:List PV->Prop} {v:PV} {l:List ResultVar}:kr1 P ⟨t,r⟩ l C v=H4 P ⟨t,r⟩ l (kr2 C v):=(rfl)
theorem Jgr {C:List PV->Prop}:H4 P ⟨t,r⟩ [] C=C []:=(rfl)
theorem Jgh {C:List PV->Prop} {l:List ResultVar}:H4 P ⟨t,r⟩ (.tmp i :: l) C=Rb (kr1 P ⟨t,r⟩ l C) (t.getD i .junk):=(rfl)
theorem Jcf {C:List PV->Prop} {l:List ResultVar}:H4 P ⟨t,r⟩ (.cell i T :: l) C=Jc P r T (t.getD i .junk) (Rb (kr1 P ⟨t,r⟩ l C)):=(rfl)
theorem u_kres {keys:List Nat} {Post:L->Regs->Prop}:kres keys Post r cs=Post (Sg cs) (Cu (900 :: keys) r):=(rfl)
theorem Jm0 {keys:List Nat} {Post:L->Regs->Prop} {l:L}:Jdn keys Post r l=Post l (Cu (900 :: keys) r):=(rfl)
theorem Jb6:Cu [] r=[]:=(rfl)
def Jdi (d:Nat) (rest:Regs):Option Reg->Regs
 | some q=>(d,q) :: rest
 | none=>rest
theorem Yd {ids:List Nat}:Cu (d :: ids) r=Jdi d (Cu ids r) (Am d r):=by
 simp only[Cu,Jdi];cases Am d r<;>rfl
theorem Vq {rest:Regs} {q:Reg}:Jdi d rest (some q)=(d,q) :: rest:=(rfl)
theorem Vc {rest:Regs}:Jdi d rest none=rest:=(rfl)
def lret3 (P:Program) (rvs:List ResultVar) (keys:List Nat) (Post:L->Regs->Prop) (s:St):Prop:=H4 P s rvs (kres keys Post s.regs)
theorem u_retF {rvs:List ResultVar} {keys:List Nat} {Post:L->Regs->Prop}:O7 P false rvs keys Post ⟨t,r⟩=lret3 P rvs keys Post (St.freezeOps ⟨t,r⟩ (Gm rvs)):=(rfl)
theorem u_retO {rvs:List ResultVar} {keys:List Nat} {Post:L->Regs->Prop}:O7 P true rvs keys Post ⟨t,r⟩=Jdm P rvs keys Post ⟨t,r⟩:=(rfl)
theorem Jaw {keys:List Nat} {Post:L->Regs->Prop}:Jdm P [.tmp i] keys Post ⟨t,r⟩=Jdn keys Post r (t.getD i .junk):=(rfl)
theorem u_ret3 {rvs:List ResultVar} {keys:List Nat} {Post:L->Regs->Prop}:lret3 P rvs keys Post ⟨t,r⟩=H4 P ⟨t,r⟩ rvs (kres keys Post r):=(rfl)
theorem U2:Du [] ⟨t,r⟩=⟨t,r⟩:=(rfl)
theorem Sl {a b:Nat} {l:List (Nat×Nat)}:Du ((a,b) :: l) ⟨t,r⟩=Du l (Yo a b ⟨t,r⟩):=(rfl)
def renB (a b:Nat) (s:St):Bool->St
 | true=>s.ren a b
 | false=>s
theorem Joh {a b:Nat}:Yo a b ⟨t,r⟩=renB a b ⟨t,r⟩ (findKey a r):=by
 simp only[Yo,renB];cases findKey a r<;>rfl
theorem Jkr {a b:Nat}:renB a b ⟨t,r⟩ false=⟨t,r⟩:=(rfl)
theorem Jl9 {a b:Nat}:renB a b ⟨t,r⟩ true=⟨t.map (L.map (Fb a b)),Eu a b r⟩:=(rfl)
theorem Jcp {a b:Nat}:Eu a b []=[]:=(rfl)
def renF (a b:Nat) (q:Reg) (rest:Regs):Option Nat->Regs
 | some n=>(n,q.map (Fb a b)) :: rest
 | none=>rest
theorem Yv {a b e:Nat} {q:Reg}:Eu a b ((e,q) :: r)=renF a b q (Eu a b r) (Fb a b e):=by
 simp only[Eu,renF];cases Fb a b e<;>rfl
theorem Yn {a b e:Nat} {q:Reg} {rest:Regs}:renF a b q rest (some e)=(e,q.map (Fb a b)) :: rest:=(rfl)
theorem Vg:Gm []=[]:=(rfl)
theorem V6 {l:List ResultVar}:Gm (.tmp i :: l)=.tmp i :: Gm l:=(rfl)
theorem Sn {l:List ResultVar}:Gm (.cell i T :: l)=Gm l:=(rfl)
theorem Jlv {v:PV}:Sg [v]=.p v:=(rfl)
theorem Jmh:Sg []=.tup []:=(rfl)
theorem Jj6 {v w:PV}:Sg (v :: w :: cs)=.tup (v :: w :: cs):=(rfl)
variable {q:Reg}
theorem Jby:Am d []=none:=(rfl)
theorem Zq:Am d ((i,q) :: r)=if i=d then some q else Am d r:=(rfl)
theorem Jbl:Cv d []=[]:=(rfl)
theorem Zp:Cv d ((i,q) :: r)=if i=d then Cv d r else (i,q.forget d) :: Cv d r:=(rfl)
theorem Jal {q':Reg}:Bs d q ((i,q') :: r)=if i=d then (i,q) :: r else (i,q') :: Bs d q r:=(rfl)
variable {z:Fz}
theorem Jbd:Cp d z []=[]:=(rfl)
theorem Zh:Cp d z ((i,q) :: r)=if i=d then Cp d z r else (i,q.freeze d z) :: Cp d z r:=(rfl)
theorem Jif:Reg.forget d (.var T ls)=.var T (ls.map (L.forget d)):=(rfl)
theorem Jkx:Reg.forget d (.row T sz es)=.row T sz es:=(rfl)
theorem Jio {o:PObj}:Reg.forget d (.obj o)=.obj o:=(rfl)
theorem Jgo {fu:Bool} {ll:List (List L)}:Reg.forget d (.lrow T sz fu ll)=.lrow T sz fu (ll.map fun e=>e.map (L.forget d)):=(rfl)
theorem Jjg:Reg.freeze d z (.var T ls)=.var T (ls.map (L.freeze d z)):=(rfl)
theorem Jku {es':List (List PV)}:Reg.freeze d z (.row T sz es')=.row T sz es':=(rfl)
theorem Kcx {fu:Bool} {ll:List (List L)}:Reg.freeze d z (.lrow T sz fu ll)=.lrow T sz fu (ll.map fun e=>e.map (L.freeze d z)):=(rfl)
theorem Jll {o:PObj}:Reg.freeze d z (.obj o)=.obj o:=(rfl)
theorem u_f_p {v:PV}:L.forget d (.p v)=.p v:=(rfl)
theorem Jkc:L.forget d .junk=.junk:=(rfl)
theorem Jnw {xs:List PV}:L.forget d (.tup xs)=.tup xs:=(rfl)
theorem Jkv:L.forget d (.eptr cs)=.eptr cs:=(rfl)
theorem Joj {e:Nat}:L.forget d (.ptr e i j)=if e=d then .junk else .ptr e i j:=by simp[L.forget,L.mentions]
theorem Jpl {e:Nat} {o m:Nat}:L.forget d (.own e o m)=if e=d then .junk else .own e o m:=by simp[L.forget,L.mentions]
theorem Jiy {e:Nat}:L.forget d (.mref e)=if e=d then .junk else .mref e:=by simp[L.forget,L.mentions]
theorem u_f_fn {g:FuncId} {ids:List Nat}:L.forget d (.fn g ids)=if ids.contains d=true then .junk else .fn g ids:=(rfl)
theorem u_z_p {v:PV}:L.freeze d z (.p v)=.p v:=(rfl)
theorem Jjn:L.freeze d z .junk=.junk:=(rfl)
theorem Jnf {xs:List PV}:L.freeze d z (.tup xs)=.tup xs:=(rfl)
theorem Jlu:L.freeze d z (.eptr cs)=.eptr cs:=(rfl)
theorem Jom {l:Nat}:L.freeze d z (.yld l)=.yld l:=(rfl)
theorem Jog {e:Nat}:L.freeze d (.rw es) (.ptr e i j)=if e=d then .junk else .ptr e i j:=(rfl)
theorem Jlw {e:Nat}:L.freeze d .gone (.ptr e i j)=if e=d then .junk else .ptr e i j:=(rfl)
theorem Jjd {e:Nat} {mm:List (PV×PV)}:L.freeze d (.mp mm) (.ptr e i j)=if e=d then .junk else .ptr e i j:=(rfl)
theorem Jme {e:Nat} {ps:List PV}:L.freeze d (.ar ps) (.ptr e 0 0)=if e=d then .eptr ps else .ptr e 0 0:=by
 show (if e=d then (if 0=0/\0<=ps.length then L.eptr (ps.drop 0) else .junk) else _)=_;simp
theorem Kdp {e o m:Nat} {ps:List PV}:L.freeze d (.ar ps) (.own e o m)=if e=d then .junk else .own e o m:=(rfl)
theorem Jo9 {e o m:Nat}:L.freeze d (.rw es) (.own e o m)=if e=d then (if o+m<=es.length then .p (.sl ((es.drop o).take m)) else .junk) else .own e o m:=(rfl)
theorem Jkn {e o m:Nat}:L.freeze d .gone (.own e o m)=if e=d then .junk else .own e o m:=(rfl)
theorem Jij {e:Nat} {mm:List (PV×PV)}:L.freeze d (.mp mm) (.mref e)=if e=d then .p (.mp mm) else .mref e:=(rfl)
theorem Kc5 {e:Nat}:L.freeze d (.rw es) (.mref e)=if e=d then .junk else .mref e:=(rfl)
theorem u_z_fn {g:FuncId} {ids:List Nat}:L.freeze d z (.fn g ids)=if ids.contains d=true then .junk else .fn g ids:=(rfl)
theorem Jgj:Reg.ids (.var T ls)=ls.flatMap L.ids:=(rfl)
theorem Jgs:Reg.ids (.row T sz es)=[]:=(rfl)
theorem u_id_p {v:PV}:L.ids (.p v)=[]:=(rfl)
theorem Jk3:L.ids (.ptr d i j)=[d]:=(rfl)
theorem Jk1 {o m:Nat}:L.ids (.own d o m)=[d]:=(rfl)
theorem Jpk {g:FuncId} {ids:List Nat}:L.ids (.fn g ids)=ids:=(rfl)
theorem Jfa {α γ:Type} {f:α->Option γ}:Bg f []=some []:=(rfl)
def consO {γ:Type} (o:Option γ) (os:Option (List γ)):Option (List γ) :=
 match o with
 | some b=>match os with
  | some bs=>some (b :: bs)
  | none=>none
 | none=>none
theorem Jp3 {γ:Type} {b:γ} {bs:List γ}:consO (some b) (some bs)=some (b :: bs):=(rfl)
theorem Jbe {α γ:Type} {f:α->Option γ} {a:α} {l:List α}:Bg f (a :: l)=consO (f a) (Bg f l):=(rfl)
theorem u_pure {v:PV}:L.pure? (.p v)=some v:=(rfl)
end
theorem iteI {c:Prop} [Decidable c] {A B:Prop} (h1:c->A) (h2:¬ c->B):if c then A else B:=by
 by_cases h:c
 ·rw[if_pos h];exact h1 h
 ·rw[if_neg h];exact h2 h
theorem Ac {l:List UInt8}:(l=[])=(l.length=0):=by simp
theorem Ja0 {n:Nat}:((n:Int) - 1).toNat=n - 1:=by omega
theorem Jcc {a b:Nat}:((a:Int) - b).toNat=a - b:=by omega
theorem Ja7 {n:Nat}:((n:Int)+1).toNat=n+1:=by omega
theorem Jak {a b:Nat}:((a:Int)+b).toNat=a+b:=by omega
theorem Ak {α:Type} {l:List α} {i:Nat} {Q:α->Prop} (h:i<l.length) (hq:∀ a,l[i]? = some a->Q a):∃ a,l[i]? = some a/\Q a:=⟨l[i],Eaa h,hq _ (Eaa h)⟩
def kun (A:St->Prop) (Q:Ex->St->Prop):Ex->St->Prop
 | .normal,s=>A s
 | .exit id,s=>Q (.exit id) s
 | .ret,s=>Q .ret s
def rounds (X:Cx) (ro:Option Nat) (c:Code) (Q:Ex->St->Prop):Nat->St->Prop
 | 0,_=>False
 | n+1,s=>SWP X ro c (kun (rounds X ro c Q n) Q) s
theorem kun_n {A:St->Prop} {Q:Ex->St->Prop} {t:List L} {r:Regs}:kun A Q .normal ⟨t,r⟩=A ⟨t,r⟩:=(rfl)
theorem kun_e {A:St->Prop} {Q:Ex->St->Prop} {t:List L} {r:Regs} {id:Nat}:kun A Q (.exit id) ⟨t,r⟩=Q (.exit id) ⟨t,r⟩:=(rfl)
theorem kun_r {A:St->Prop} {Q:Ex->St->Prop} {t:List L} {r:Regs}:kun A Q .ret ⟨t,r⟩=Q .ret ⟨t,r⟩:=(rfl)
theorem SWP.rounds {X:Cx} {ro:Option Nat} {c:Code} {Q:Ex->St->Prop} {s:St} (n:Nat) (h:rounds X ro c Q n s):SWP X ro (.loop c) Q s:=by
 intro Γ a w hG hr;have key:∀ n s,LX.rounds X ro c Q n s->∀ a w,RR Γ s a w->∀ (b:Frame) (k:List Item) (cs:List Frame),b.roundOf=(F0 ro).round->(F0 ro).fn b.fn->(F0 ro).room (cs.length+1+1) ->
   ∃ e a' w',QQ Γ Q e a' w'/\ArrivesIn (Machine.fenced X.P (F0 ro)) X.P (lone (b.atR a (.code c :: .inLoop c :: k)) cs w) b k cs e a' w':=by
  intro n
  induction n with
  | zero=>intro s h;exact h.elim
  | succ n ih =>
   intro s hs a w hr b k cs hro hb hroom;obtain ⟨e,a₁,w₁,hq,harr⟩:=hs Γ a w hG hr b (.inLoop c :: k) cs hro hb hroom;cases e with
   | normal =>
    obtain ⟨s',h1,h2⟩:=hq;obtain ⟨e₂,a₂,w₂,hq₂,harr₂⟩:=ih s' h1 a₁ w₁ h2 b k cs hro hb hroom;exact ⟨e₂,a₂,w₂,hq₂,.of_steps (StepsIn.trans harr (.one (fenced_calm hb hroom rfl) stepR_inLoop)) harr₂⟩
   | exit id =>
    obtain ⟨s',h1,h2⟩:=hq;exact ⟨.exit id,a₁,w₁,⟨s',h1,h2⟩,.pass (x:=.inLoop c) rfl (fun _ _=>.inl sm) harr⟩
   | ret =>
    obtain ⟨s',h1,h2⟩:=hq;exact ⟨.ret,a₁,w₁,⟨s',h1,h2⟩,.pass (x:=.inLoop c) rfl (fun _ _=>.inl sm) harr⟩
   | goto l=>exact hq.elim
   | panic ch=>exact hq.elim
   | outgrown=>exact hq.elim
 intro b k cs hro hb hroom;obtain ⟨e,a',w',hq,harr⟩:=key n s h a w hr b k cs hro hb hroom;exact ⟨e,a',w',hq,.of_steps (.one (fenced_calm hb hroom rfl) stepR_loop) harr⟩
theorem Js9 {β:Env} {w w':World} {Im:Nat->Prop} {args:List L} {rs:Regs} {tmps:Array Value} (hf:Fit β w Im ⟨args,rs⟩ tmps) (h:Below w.heap.size w w'):CallStep β w Im rs β w' Im rs :=
 {
  os:=h.os,tape:=h.tape,output:=h.output,size:=h.size,block:=fun k hk _=>h.block k hk,imin:=fun _ h=>h,imnew:=fun _ h=>.inl h,env:=fun _ _ _=>rfl,keys:=fun d r hd=>.inr ⟨r,hd⟩,regnew:=fun d r loc hd hl=>.inr ⟨d,r,loc,hd,hl,rfl⟩
  fit:=by
   have g:Grow w Im w' Im:=⟨h.os,h.tape,h.output,h.size,h.block,fun _ h=>h,fun _ h=>.inl h,fun b hb=>Ebe (hf.im b hb) h.size⟩
   have:=hf.grow g;exact { size:=rfl,tmps:=fun i l h=>by simp at h,regs:=this.regs,nodup:=this.nodup,live:=this.live,apart:=this.apart,im:=this.im } }
theorem Jr1 {X:Cx} {f:FuncId} {args:List L} {rs:Regs} {l:L} {v:Value} (hent:Enters X.P f) (_:l.retOK=true) (hv:∀ β w Im,LRep β w Im v l)
  (h:∀ (β:Env) (Im:Nat->Prop) (w:World) (vs:List Value),X.G w Im->Fit β w Im ⟨args,rs⟩ ⟨vs⟩->Calls X.P f ⟨vs⟩ w fun e w'=>e=.returned v/\Below w.heap.size w w'):Det X f args rs l rs :=
 ⟨hent,fun β Im w vs hg hf=>(h β Im w vs hg hf).mono fun _ w' ⟨he,hb⟩=>⟨v,l,rs,β,Im,he,⟨rfl,rfl⟩,hv _ _ _,Js9 hf hb⟩⟩
theorem Jw9 {X:Cx} {f:FuncId} {args:List L} {rs:Regs} {l:L} (hent:Enters X.P f)
  (h:∀ (β:Env) (Im:Nat->Prop) (w:World) (vs:List Value),X.G w Im->Fit β w Im ⟨args,rs⟩ ⟨vs⟩->Calls X.P f ⟨vs⟩ w fun e w'=>(∃ v,e=.returned v/\∀ β w Im,LRep β w Im v l)/\Below w.heap.size w w'):Det X f args rs l rs :=
 ⟨hent,fun β Im w vs hg hf=>(h β Im w vs hg hf).mono fun _ w' ⟨⟨v,he,hv⟩,hb⟩=>⟨v,l,rs,β,Im,he,⟨rfl,rfl⟩,hv _ _ _,Js9 hf hb⟩⟩
theorem Jn2 {β:Env} {w:World} {Im:Nat->Prop} {v:Value} {t:TypeId} {k:IntKind} {n:Int} (h:LRep β w Im v (.p (.ifi t k n))):v=.iface t (.int k n):=by cases h;rfl
theorem fit1 {β:Env} {w:World} {Im:Nat->Prop} {a:L} {rs:Regs} {vs:List Value} (h:Fit β w Im ⟨[a],rs⟩ ⟨vs⟩):∃ v,vs=[v]/\LRep β w Im v a:=by
 have hs:=h.size
 match vs,hs with
 | [v],_=>exact ⟨v,rfl,h.tmps 0 a rfl⟩
theorem fit2 {β:Env} {w:World} {Im:Nat->Prop} {a b:L} {rs:Regs} {vs:List Value} (h:Fit β w Im ⟨[a,b],rs⟩ ⟨vs⟩):∃ v u,vs=[v,u]/\LRep β w Im v a/\LRep β w Im u b:=by
 have hs:=h.size
 match vs,hs with
 | [v,u],_=>exact ⟨v,u,rfl,h.tmps 0 a rfl,h.tmps 1 b rfl⟩
theorem fit3 {β:Env} {w:World} {Im:Nat->Prop} {a b c:L} {rs:Regs} {vs:List Value} (h:Fit β w Im ⟨[a,b,c],rs⟩ ⟨vs⟩):∃ v u x,vs=[v,u,x]/\LRep β w Im v a/\LRep β w Im u b/\LRep β w Im x c:=by
 have hs:=h.size
 match vs,hs with
 | [v,u,x],_=>exact ⟨v,u,x,rfl,h.tmps 0 a rfl,h.tmps 1 b rfl,h.tmps 2 c rfl⟩
theorem Ks {β:Env} {w:World} {Im:Nat->Prop} {v:Value} {s:List UInt8} (h:LRep β w Im v (.p (.str s))):v=.string ⟨⟨s⟩⟩:=by cases h;rfl
theorem Mz {β:Env} {w:World} {Im:Nat->Prop} {v:Value} {k:IntKind} {n:Int} (h:LRep β w Im v (.p (.int k n))):v=.int k n:=by cases h;rfl
theorem Na {β:Env} {w:World} {Im:Nat->Prop} {v:Value} {b:Bool} (h:LRep β w Im v (.p (.bool b))):v=.bool b:=by cases h;rfl
theorem Kgm {β:Env} {w:World} {Im:Nat->Prop} {v:Value} {f:FuncId} (h:LRep β w Im v (.fn f [])):v=.func (.func f) #[] #[]:=by
 obtain ⟨vs,hv,hl,_⟩:=h;cases vs with
 | nil=>exact hv
 | cons a l=>simp at hl
theorem Det.calls_below {X:Cx} {f:FuncId} {args:List L} {l:L} (h:Det X f args [] l []) {w:World} {Im:Nat->Prop} (hg:X.G w Im) (hi:∀ b,Im b->b<w.heap.size) {vs:List Value} (hl:vs.length=args.length)
  (ha:∀ (i:Nat) (v:Value) (a:L),vs[i]? = some v->args[i]? = some a->LRep (fun _=>none) w Im v a) {v:Value} (hu:∀ β w' Im' u,LRep β w' Im' u l->u=v):Calls X.P f ⟨vs⟩ w fun e w'=>e=.returned v/\Below w.heap.size w w':=by
 refine (h.2 (fun _=>none) Im w vs hg ?_).mono fun e w' ⟨u,m,rs',β',Im',he,⟨hm,_⟩,hr,hc⟩=>?_
 ·exact {
      size:=by simpa using hl,tmps:=fun i a ha'=>by
       obtain ⟨u,hu'⟩:=getElem?_of_length hl ha';have e:(⟨vs⟩:Array Value).getD i undef=u:=by simp[Eav,hu']
       rw[e];exact ha i u a hu' ha'
      regs:=fun d r h=>(by cases h),nodup:=.nil,live:=fun d r loc h=>(by cases h),apart:=fun d r d' r' l1 l2 h=>(by cases h),im:=hi }
 ·subst hm;have:=hu _ _ _ _ hr;subst this;exact ⟨he,⟨hc.os,hc.tape,hc.output,hc.size,fun k hk=>hc.block k hk fun d r loc h=>(by cases h)⟩⟩
section
variable {X:Cx} {ro:Option Nat} {md:Region.Mode} {ops:Array Oper}
def ancB (md:Region.Mode) (ops:Array Oper):Nat->Nat->Nat->Bool
 | 0,_,_=>false
 | f+1,i,j=>match ops[j]? with
  | some o=>o.after.toList.any (fun e=>Region.binds md e && e.on == i) || o.after.toList.any (fun e=>Region.binds md e && ancB md ops f i e.on)
  | none=>false
def Y0 (md:Region.Mode) (ops:Array Oper) (k:Nat):Bool :=
 (List.range ops.size).all fun j=>decide (j<k) || (List.range j).all fun i=>ancB md ops ops.size i j
def Down (md:Region.Mode) (ops:Array Oper) (listed:Array Bool):Prop :=
 ∀ i o,ops[i]? = some o->listed.getD i false=true->∀ e∈o.after,Region.binds md e=true->listed.getD e.on false=true
theorem Qb {listed:Array Bool} (hd:Down md ops listed):∀ (f i j:Nat) (o:Oper),ops[j]? = some o->(∀ e∈o.after,Region.binds md e=true->listed.getD e.on false=true)->ancB md ops f i j=true->listed.getD i false=true
 | 0,_,_,_,_,_,h=>by cases h
 | f+1,i,j,o,ho,hall,h=>by
  simp only[ancB,ho,Ecf,List.any_eq_true,Ebb,beq_iff_eq] at h;rcases h with ⟨e,he,hb,rfl⟩ | ⟨e,he,hb,ha⟩
  ·exact hall e (by simpa using he) hb
  ·have hl:=hall e (by simpa using he) hb;cases hoe:ops[e.on]? with
   | none =>
    cases f with
    | zero=>cases ha
    | succ f=>simp[ancB,hoe] at ha
   | some oe=>exact Qb hd f i e.on oe hoe (fun e' he' hb'=>hd e.on oe hoe hl e' he' hb') ha
theorem Hn {listed:Array Bool} {j:Nat}:listed.getD j true=false ↔ j<listed.size/\listed.getD j false=false:=by
 simp only[Eav];by_cases h:j<listed.size
 ·simp[h]
 ·simp[h]
theorem Down.set {listed:Array Bool} (hd:Down md ops listed) {i:Nat} (hi:i∈Region.ready md ops listed):Down md ops (listed.setIfInBounds i true):=by
 obtain ⟨h0,oi,hoi,hall⟩:=mem_ready.1 hi;intro j o ho hl e he hb;by_cases hji:j=i
 ·subst hji;rw[hoi] at ho;cases ho;exact getD_set_true (hall e he hb)
 ·have:listed.getD j false=true:=by
   rw[<- hl];simp[Eav,Array.getElem?_setIfInBounds_ne (Ne.symm hji)]
  exact getD_set_true (hd j o ho this e he hb)
theorem Sj {k:Nat} (hT:Y0 md ops k=true) {listed:Array Bool} (hd:Down md ops listed) {j:Nat} (hj:j∈Region.ready md ops listed) (hk:k<=j):∀ i,i<j->listed.getD i false=true:=by
 obtain ⟨_,o,ho,hall⟩:=mem_ready.1 hj;intro i hi;simp only[Y0,Eby,List.mem_range,Ecf,decide_eq_true_eq] at hT;have h1:=hT j (Ea7.1 ho).1;rcases h1 with h1 | h1
 ·omega
 ·exact Qb hd _ i j o ho hall (h1 i hi)
def Ty (X:Cx) (md:Region.Mode) (ops:Array Oper) (k:Nat) (K:St->Prop):Nat->Array Bool->St->Prop
 | 0,listed,s=>Region.ready md ops listed=[]/\K s
 | fuel+1,listed,s=>(Region.ready md ops listed=[]->K s) /\
  ∀
   i∈Region.ready md ops listed,∀ o,ops[i]? = some o ->
   (i<k->YS X (ops.toList.map (·.dst)) s o fun l=>Ty X md ops k K fuel (listed.setIfInBounds i true) (s.put o.dst l)) /\
   (k<=i->∃ C:St->Prop,lAt X (ops.toList.map (·.dst)) ops.toList i C s/\∀ s',C s'->Ty X md ops k K fuel (listed.setIfInBounds i true) s')
theorem G0 {Γ:Base} {k:Nat} {K:St->Prop} {Q:Exit->Act->World->Prop} {n:Nat} (hG:Γ.G=X.G) (hQ:∀ s a w,K s->RR Γ s a w->Q .normal a w):∀ (fuel:Nat) (listed:Array Bool) (s:St) (a:Act) (w:World),RR Γ s a w ->
  Ty X md ops k K fuel listed s->wpAnyIn (F0 ro) n X.P md ops Q fuel listed a w
 | 0,_,s,a,w,h,hl=>⟨hl.1,hQ s a w hl.2 h⟩
 | fuel+1,_,s,a,w,h,hl=>⟨fun h0=>hQ s a w (hl.1 h0) h,fun i hi=>by
   obtain ⟨_,o,ho,_⟩:=mem_ready.1 hi;by_cases hk:i<k
   ·exact Zy ho hG h ((hl.2 i hi o ho).1 hk) fun l a' w' h1 h2=>G0 hG hQ fuel _ _ a' w' h2 h1
   ·obtain ⟨C,hA,hC⟩:=(hl.2 i hi o ho).2 omg;exact wpOpIn_mono (fun a' w' ⟨s',hs,hr'⟩=>G0 hG hQ fuel _ s' a' w' hr' (hC s' hs)) (Uc hG h hA)⟩
theorem Y9 {k:Nat} (hT:Y0 md ops k=true) {K:St->Prop} {i:Nat} {oi:Oper} {v:L} (hi:ops[i]? = some oi) (hik:i<k):∀ (fuel:Nat) (listed:Array Bool) (s:St),Down md ops listed ->
   (∀ j oj,ops[j]? = some oj->j≠i->listed.getD j true=false->(∀ e∈oj.after,Region.binds md e=true->e.on≠i)->oi.apart ops oj=true) ->
   i∈Region.ready md ops listed->YS X (ops.toList.map (·.dst)) s oi (fun m=>m=v) ->
   Ty X md ops k K fuel (listed.setIfInBounds i true) (s.put oi.dst v)->Ty X md ops k K (fuel+1) listed s:=by
 intro fuel
 induction fuel with
 | zero =>
  intro listed s hd _ hr hy H;have only:∀ j∈Region.ready md ops listed,j=i:=by
   intro j hj;by_cases hji:j=i
   ·exact hji
   ·have:=ready_mono hj hji;rw[H.1] at this;cases this
  refine ⟨fun h=>(by rw[h] at hr;cases hr),fun j hj oj hoj=>?_⟩;have:=only j hj;subst this;rw[hi] at hoj;cases hoj;exact ⟨fun _=>Kr (fun l hl=>by rw[hl];exact H) hy,fun h=>by omega⟩
 | succ fuel ih =>
  intro listed s hd hfree hr hy H;refine ⟨fun h=>(by rw[h] at hr;cases hr),fun j hj oj hoj=>?_⟩;by_cases hji:j=i
  ·subst hji;rw[hi] at hoj;cases hoj;exact ⟨fun _=>Kr (fun l hl=>by rw[hl];exact H) hy,fun h=>by omega⟩
  ·have hjk:j<k:=by
    rcases Eds j k with h | h
    ·exact h
    ·exfalso;have h1:=Sj hT hd hj h i omg;have h2:=(Hn.1 (mem_ready.1 hr).1).2;rw[h1] at h2;cases h2
   refine ⟨fun _=>?_,fun h=>by omega⟩;have h1:=(H.2 j (ready_mono hj hji) oj hoj).1 hjk;obtain ⟨hjun,oj',hoj',hall⟩:=mem_ready.1 hj;rw[hoj] at hoj';cases hoj';have hnot:∀ e∈oj.after,Region.binds md e=true->e.on≠i:=fun e he hb heq=>by
    have h1:=hall e he hb;have h0:=(Hn.1 (mem_ready.1 hr).1).2;rw[heq] at h1;rw[h1] at h0;cases h0
   obtain ⟨a1,a2,a3⟩:=Oper.apart_spec (hfree j oj hoj hji hjun hnot);have hfree':∀ q ok,ops[q]? = some ok->q≠i->(listed.setIfInBounds j true).getD q true=false ->
     (∀ e∈ok.after,Region.binds md e=true->e.on≠i)->oi.apart ops ok=true:=fun q ok hk hki hun hno=>by
    refine hfree q ok hk hki ?_ hno;by_cases hjk:j=q
    ·subst hjk;exact hjun
    ·rw[getD_set_ne true hjk] at hun;exact hun
   refine Kr (fun l hl=>?_) (Yr a1 h1);refine ih (listed.setIfInBounds j true) (s.put oj.dst l) (hd.set hj) hfree' (ready_mono hr (Ne.symm hji)) (Uk a3 hy) ?_;rw[Array.setIfInBounds_comm _ _ hji];rw[<- Js0 s v l a2];exact hl
def M5 (X:Cx) (ds:List (Option Tmp)) (all:List Oper) (K:St->Prop):Nat->Nat->List Oper->St->Prop
 | _,_,[],s=>K s
 | 0,i,_ :: rest,s=>lAt X ds all i (M5 X ds all K 0 (i+1) rest) s
 | k+1,i,o :: rest,s=>YS X ds s o fun l=>M5 X ds all K k (i+1) rest (s.put o.dst l)
def Upto (p:Nat) (listed:Array Bool):Prop:=∀ i,i<listed.size->listed.getD i false=decide (i<p)
theorem Nc {k:Nat} (hT:Y0 md ops k=true) {K:St->Prop}:∀ (l:List Oper) (p q:Nat) (listed:Array Bool) (s:St),k - p=q->(∀ j,l[j]? = ops[p+j]?)->listed.size=ops.size->Down md ops listed->Upto p listed ->
  Region.lexFrom md ops l.length p listed=true->M5 X (ops.toList.map (·.dst)) ops.toList K q p l s->Ty X md ops k K l.length listed s
 | [],_,_,_,_,_,_,_,_,_,hB,h=>⟨by simpa[Region.lexFrom] using hB,by simpa[M5] using h⟩
 | o :: l,p,q,listed,s,hq,hl,hsz,hd,hup,hB,h=>by
  have h0:ops[p]? = some o:=by simpa using (hl 0).symm
  have hp:p<ops.size:=(Ea7.1 h0).1;simp only[Ead,Region.lexFrom,Ebb] at hB;obtain ⟨⟨hr,hf⟩,hB'⟩:=hB;have hr':p∈Region.ready md ops listed:=by simpa using hr
  have hl':∀ j,l[j]? = ops[p+1+j]?:=fun j=>by have:=hl (j+1);simpa[Eb2,Ecw 1 j] using this
  have hup':Upto (p+1) (listed.setIfInBounds p true):=by
   intro i hi;simp only[Array.size_setIfInBounds] at hi;by_cases hip:i=p
   ·subst hip;simp[Eav,hi]
   ·have:=hup i hi;rw[show (listed.setIfInBounds p true).getD i false=listed.getD i false by simp[Eav,Array.getElem?_setIfInBounds_ne (Ne.symm hip)],this];congr 1;exact propext ⟨fun h=>by omega,fun h=>by omega⟩
  cases q with
  | succ q =>
   simp only[M5] at h;obtain ⟨v,hy,hK⟩:=Jab (X:=X) h;exact Y9 hT h0 omg l.length listed s hd (Region.free_spec h0 hf) hr' hy
    (Nc hT l (p+1) q _ _ omg hl' (by simpa using hsz) (hd.set hr') hup' hB' hK)
  | zero =>
   simp only[M5] at h;have only:∀ j∈Region.ready md ops listed,j=p:=by
    intro j hj;obtain ⟨hun,oj,hoj,_⟩:=mem_ready.1 hj;obtain ⟨hjs,hjf⟩:=Hn.1 hun;have h1:=hup j hjs;rw[hjf] at h1;have hjp:¬ j<p:=by simpa using h1.symm
    rcases Eds p j with hlt | hge
    ·exfalso;have h2:=Sj hT hd hj omg p hlt;have h3:=hup p omg;rw[h2] at h3;simp at h3
    ·omega
   refine ⟨fun h'=>(by rw[h'] at hr';cases hr'),fun j hj oj hoj=>?_⟩;have:=only j hj;subst this;refine ⟨fun hlt=>by omega,fun _=>?_⟩;rw[h0] at hoj;cases hoj;exact ⟨_,h,fun s' hs'=>Nc hT l (j+1) 0 _ s' omg hl' (by simpa using hsz) (hd.set hr') hup' hB' hs'⟩
theorem Gi {id:Nat} {Q:Ex->St->Prop} {s:St} (k:Nat) (hm:X.P.follows .mixedOrders=true) (hB:Region.lexB .any ops=true) (hT:Y0 .any ops k=true)
  (h:M5 X (ops.toList.map (·.dst)) ops.toList (Q .normal) k 0 ops.toList s):SWP X ro (.region id ops true) Q s:=fun Γ a w hG hr=>by
 simp only[Region.lexB,Ebb] at hB;have h':RR Γ s a { w with drawn:=w.drawn+1 }:=by
  obtain ⟨ms,hdef,β,Im,hx⟩:=hr;exact ⟨ms,hdef,β,Im,hx.grow (Grow.drew hx.fit.im)⟩
 refine wpIn_region_any hm (G0 (k:=k) (K:=Q .normal) hG.1 (fun s _ _ h1 h2=>⟨s,h1,h2⟩) _ _ s a _ h' ?_);have:=Nc (X:=X) (K:=Q .normal) (md:=.any) hT ops.toList 0 k (Array.replicate ops.size false) s omg sm sm ?_ ?_ (by simpa using hB.2) h
 ·simpa using this
 ·intro i o ho hl;exfalso;have hi:=(Ea7.1 ho).1;simp[Eav,hi] at hl
 ·intro i hi;simp only[Array.size_replicate] at hi;simp[Eav,hi]
end
section
variable {X:Cx} {ro:Option Nat} {K:St->Prop} {t:List L} {r:Regs} {ds:List (Option Tmp)} {all rest:List Oper} {dst:Option Tmp} {op:Op} {ty:TypeId} {ps:String} {af:Array Edge} {i k:Nat}
def Ug (X:Cx) (ds:List (Option Tmp)) (all:List Oper) (K:St->Prop) (k i:Nat) (rest:List Oper):St->Prop:=M5 X ds all K k i rest
theorem Jnu {k i:Nat} {l:List Oper}:M5 X ds all K k i l ⟨t,r⟩=Ug X ds all K k i l ⟨t,r⟩:=(rfl)
theorem t_nil:Ug X ds all K k i [] ⟨t,r⟩=K ⟨t,r⟩:=by cases k<;>rfl
theorem Jn7 {o:Oper}:Ug X ds all K 0 i (o :: rest) ⟨t,r⟩=lAt X ds all i (Ug X ds all K 0 (i+1) rest) ⟨t,r⟩:=(rfl)
theorem Jo8 {o:Oper}:Ug X ds all K (k+1) i (o :: rest) ⟨t,r⟩=YS X ds ⟨t,r⟩ o (kput o.dst (Ug X ds all K k (i+1) rest) ⟨t,r⟩):=(rfl)
theorem y_none {C:L->Prop}:YS X ds ⟨t,r⟩ ⟨dst,op,ty,ps,af,none⟩ C=lqc X ⟨t,r⟩ ⟨dst,op,ty,ps,af,none⟩ C:=(rfl)
end
theorem Jss {X:Cx} {ro:Option Nat} {c:Code} {Q:Ex->St->Prop} {s:St} {n:Nat} (hm:X.P.follows .mixedOrders=true) (h:lwp X ro c (kun (LX.rounds X ro c Q n) Q) s):LX.rounds X ro c Q (n+1) s:=Ae hm _ _ _ h
end Go.LX
