/- The operations on values that are written out: each by lemmas of its own; what comes behind is named, never a lambda. -/
import Derived.Test.YtmejkfclabmijaaGreatDoorPathTextsLxD
import Derived.Below
import Derived.Lib.LaidTab
set_option linter.unusedSimpArgs false
set_option linter.unusedVariables false
set_option linter.unusedSectionVars false
set_option linter.unnecessarySimpa false
namespace Go.LX
open Go Go.RowKit Go.Proofs
theorem pe {A B:Prop} (h:A ↔ B):A=B:=propext h
def H9 {α:Type} (o:Option α) (C:α→Prop):Prop:=∃ a,o=some a∧C a
theorem Bo {α:Type} {a:α} {C:α→Prop}:H9 (some a) C=C a:=pe ⟨fun ⟨_,h,hc⟩=>by cases h;exact hc,fun h=>⟨a,rfl,h⟩⟩
def getE {α:Type} (o:Option α) (C:α→Prop):Prop:=∃ a,o=some a∧C a
theorem Bl {α:Type} {a:α} {C:α→Prop}:getE (some a) C=C a:=pe ⟨fun ⟨_,h,hc⟩=>by cases h;exact hc,fun h=>⟨a,rfl,h⟩⟩
theorem Jkv {α:Type} [Inhabited α] {l:List α} {i:Nat} {C:α→Prop}:getE (l[i]?) C=(i<l.length∧C (l.getD i default)):=by
 apply pe
 constructor
 ·rintro ⟨a,h,hc⟩
  obtain ⟨h1,rfl⟩:=List.getElem?_eq_some_iff.1 h
  exact ⟨h1,by simpa [List.getD_eq_getElem?_getD,h1] using hc⟩
 ·rintro ⟨h1,hc⟩
  exact ⟨l[i],List.getElem?_eq_getElem h1,by simpa [List.getD_eq_getElem?_getD,h1] using hc⟩
theorem Jkz {α γ:Type} [Inhabited α] {l:List α} {f:α→γ} {i:Nat} {C:γ→Prop}:getE ((l.map f)[i]?) C=(i<l.length∧C (f (l.getD i default))):=by
 apply pe
 rw [show getE ((l.map f)[i]?) C ↔ getE (l[i]?) (fun a=>C (f a)) from Iff.of_eq ex_map,Jkv]
def at_ (s:List UInt8) (i:Nat):Nat:=(s.getD i 0).toNat
theorem Nd (s:List UInt8) (i:Nat):at_ s i≤255:=by
 have:=(s.getD i 0).toNat_lt
 simp only [at_];omega
theorem Wt {s:List UInt8} {i:Nat} {b:UInt8} (h:s[i]? = some b):at_ s i=b.toNat:=by simp [at_,List.getD_eq_getElem?_getD,h]
theorem Jfg {s:List UInt8} {i:Nat} (h:i<s.length):at_ s i=s[i].toNat:=by simp [at_,List.getD_eq_getElem?_getD,h]
section
variable {X:Cx} {P:Program} {ro:Option Nat} {K:L→Prop} {J:St→Prop} {t:List L} {r:Regs} {ds:List (Option Tmp)}
theorem Ja {id:Nat} {ops:Array Oper} {Q:Ex→St→Prop}:lwp X ro (.region id ops true) Q ⟨t,r⟩=SWP X ro (.region id ops true) Q ⟨t,r⟩:=(rfl)
theorem w_leaf {ops:List Oper} {C:St→Prop}:lOrd X ds ops C .leaf ⟨t,r⟩=C ⟨t,r⟩:=(rfl)
theorem w_nil {ops:List Oper} {C:St→Prop}:lOrd X ds ops C .nil ⟨t,r⟩=True:=(rfl)
theorem w_node {ops:List Oper} {C:St→Prop} {i:Nat} {sub next:Ord}:lOrd X ds ops C (.node i sub next) ⟨t,r⟩=(lAt X ds ops i (lOrd X ds ops C sub) ⟨t,r⟩∧lOrd X ds ops C next ⟨t,r⟩):=(rfl)
theorem Je0 {o:Oper} {ops:List Oper} {C:St→Prop}:lAt X ds (o :: ops) 0 C ⟨t,r⟩=Qt ds o.guard (lop X o C) (Qy o.dst C) ⟨t,r⟩:=(rfl)
theorem Jei {o:Oper} {ops:List Oper} {C:St→Prop} {i:Nat}:lAt X ds (o :: ops) (i+1) C ⟨t,r⟩=lAt X ds ops i C ⟨t,r⟩:=(rfl)
theorem Ry {A B:St→Prop}:Qt ds none A B ⟨t,r⟩=A ⟨t,r⟩:=(rfl)
theorem Bq {b:Bool} {A B:St→Prop}:Jbm (.p (.bool b)) A B ⟨t,r⟩=if b=true then A ⟨t,r⟩ else B ⟨t,r⟩:=by
 cases b <;> simp [Jbm]
def gsel (o:Option Tmp) (want:Bool) (A B:St→Prop) (s:St):Prop :=
 match o with
 | some dj=>match s.tmps.getD dj .junk with
  | .p (.bool c)=>(c=want→A (s.put (some dj) (.p (.bool want))))∧(c=(!want)→B (s.put (some dj) (.p (.bool (!want)))))
  | .tup []=>B s
  | _=>False
 | none=>False
def gval (l:L) (dj:Tmp) (want:Bool) (A B:St→Prop) (s:St):Prop :=
 match l with
 | .p (.bool c)=>(c=want→A (s.put (some dj) (.p (.bool want))))∧(c=(!want)→B (s.put (some dj) (.p (.bool (!want)))))
 | .tup []=>B s
 | _=>False
theorem C2 {j:Nat} {want:Bool} {A B:St→Prop}:Qt ds (some (j,want)) A B ⟨t,r⟩=gsel (ds.getD j none) want A B ⟨t,r⟩:=(rfl)
theorem Dq {dj:Tmp} {want:Bool} {A B:St→Prop}:gsel (some dj) want A B ⟨t,r⟩=gval (t.getD dj .junk) dj want A B ⟨t,r⟩:=(rfl)
theorem Db {dj:Tmp} {c:Bool} {A B:St→Prop}:gval (.p (.bool c)) dj true A B ⟨t,r⟩=if c=true then A ⟨t.set dj (.p (.bool true)),r⟩ else B ⟨t.set dj (.p (.bool false)),r⟩:=by
 cases c <;> simp [gval,St.put]
theorem D1 {dj:Tmp} {c:Bool} {A B:St→Prop}:gval (.p (.bool c)) dj false A B ⟨t,r⟩=if c=true then B ⟨t.set dj (.p (.bool true)),r⟩ else A ⟨t.set dj (.p (.bool false)),r⟩:=by
 cases c <;> simp [gval,St.put]
theorem J2 {dj:Tmp} {want:Bool} {A B:St→Prop}:gval (.tup []) dj want A B ⟨t,r⟩=B ⟨t,r⟩:=(rfl)
theorem Dn {c:Bool} {a b:L}:Jpt (.p (.bool c)) a b K=if c=true then K a else K b:=by cases c <;> simp [Jpt]
variable {cst:Bool}
theorem Au {op:BinOp} {ty:TypeId} {k k':IntKind} {a b:Int}:lbin P op ty cst (.p (.int k a)) (.p (.int k' b)) K=lint op k a k' b K:=(rfl)
theorem Ep {op:BinOp} {ty:TypeId} {a b:List UInt8}:lbin P op ty cst (.p (.str a)) (.p (.str b)) K=lstr op a b K:=(rfl)
theorem Ja0 {ty:TypeId} {a b:Bool}:lbin P .neq ty cst (.p (.bool a)) (.p (.bool b)) K=(P.underlying ty=some .bool∧K (.p (.bool (a != b)))):=(rfl)
def knb (K:L→Prop) (b:Bool):Prop:=K (.p (.bool (!b)))
def aggEq (o:Option (List Tag)) (a b:List PV) (C:Bool→Prop):Prop:=∃ ts,o=some ts∧H9 (Ix ts a b) C
theorem Jb1 {ts:List Tag} {a b:List PV} {C:Bool→Prop}:aggEq (some ts) a b C=H9 (Ix ts a b) C:=pe ⟨fun ⟨_,h,hc⟩=>by cases h;exact hc,fun h=>⟨ts,rfl,h⟩⟩
theorem V6 {ty:TypeId} {a b:List PV}:lbin P .neq ty cst (.p (.agg a)) (.p (.agg b)) K=aggEq (Jd7 P ty) a b (knb K):=(rfl)
def ptrC (o:Option TypeDesc) (b:Bool):Option Bool:=match o with | some (.pointer _)=>some b | _=>none
def ifcC (o:Option TypeDesc) (b:Bool):Option Bool:=match o with | some (.interface _)=>some b | _=>none
def slcC (o:Option TypeDesc) (b:Bool):Option Bool:=match o with | some (.slice _)=>some b | _=>none
def ptrS (P:Program) (o:Option TypeDesc) (c:Bool):Option Bool:=match o with | some (.pointer e)=>if c=true∧P.cellsOf e≠0 then some true else none | _=>none
theorem Jmn {e:TypeId} {b:Bool}:ptrC (some (.pointer e)) b=some b:=(rfl)
theorem Xc {ms:Array (String×TypeId)} {b:Bool}:ifcC (some (.interface ms)) b=some b:=(rfl)
theorem Jsd {e:TypeId} {b:Bool}:slcC (some (.slice e)) b=some b:=(rfl)
theorem Jsw {e:TypeId} {c:Bool}:ptrS P (some (.pointer e)) c=if c=true∧P.cellsOf e≠0 then some true else none:=(rfl)
section
variable {op:BinOp} {ty:TypeId} {d i j d' i' j':Nat}
theorem Jtf:lbin P op ty cst (.p .nptr) (.p .nptr) K=Mb (ptrC (P.underlying ty) true) op K:=by
 show Mb (Qa P ty cst (.p .nptr) (.p .nptr)) op K=_
 unfold Qa ptrC;generalize P.underlying ty=o;cases o with
 | none=>rfl
 | some o=>cases o <;> rfl
theorem Jpm:lbin P op ty cst (.ptr d i j) (.p .nptr) K=Mb (ptrC (P.underlying ty) false) op K:=by
 show Mb (Qa P ty cst (.ptr d i j) (.p .nptr)) op K=_
 unfold Qa ptrC;generalize P.underlying ty=o;cases o with
 | none=>rfl
 | some o=>cases o <;> rfl
theorem Jkg:lbin P op ty cst (.ptr d i j) (.ptr d' i' j') K=Mb (ptrS P (P.underlying ty) (d == d' && (i == i' && j == j'))) op K:=by
 show Mb (Qa P ty cst (.ptr d i j) (.ptr d' i' j')) op K=_
 unfold Qa ptrS;generalize P.underlying ty=o;cases o with
 | none=>rfl
 | some o =>
  cases o <;> first | rfl | (simp only [Bool.and_eq_true,beq_iff_eq,and_assoc])
theorem Jht:lbin P op ty true (.p .nifc) (.p .nifc) K=Mb (ifcC (P.underlying ty) true) op K:=by
 show Mb (Qa P ty true (.p .nifc) (.p .nifc)) op K=_
 unfold Qa ifcC;generalize P.underlying ty=o;cases o with
 | none=>rfl
 | some o=>cases o <;> rfl
theorem Jn4:lbin P op ty cst (.p .ifc) (.p .nifc) K=Mb (ifcC (P.underlying ty) false) op K:=by
 show Mb (Qa P ty cst (.p .ifc) (.p .nifc)) op K=_
 unfold Qa ifcC;generalize P.underlying ty=o;cases o with
 | none=>rfl
 | some o=>cases o <;> rfl
theorem Joy {T:TypeId} {q:IntKind} {n:Int}:lbin P op ty cst (.p (.ifi T q n)) (.p .nifc) K=Mb (ifcC (P.underlying ty) false) op K:=by
 show Mb (Qa P ty cst (.p (.ifi T q n)) (.p .nifc)) op K=_
 unfold Qa ifcC;generalize P.underlying ty=o;cases o with
 | none=>rfl
 | some o=>cases o <;> rfl
theorem Jr3 {c:List PV} {cs:List (List PV)}:lbin P op ty cst (.p (.sl (c :: cs))) (.p .snil) K=Mb (slcC (P.underlying ty) false) op K:=by
 show Mb (Qa P ty cst (.p (.sl (c :: cs))) (.p .snil)) op K=_
 unfold Qa slcC;generalize P.underlying ty=o;cases o with
 | none=>rfl
 | some o=>cases o <;> rfl
end
theorem Si {b:Bool}:Mb (some b) .eql K=K (.p (.bool b)):=(rfl)
theorem Mf {b:Bool}:Mb (some b) .neq K=K (.p (.bool (!b))):=(rfl)
theorem Bt {v:Value}:Nv (.const v)=true:=(rfl)
theorem Ar {i:Tmp}:Nv (.tmp i)=false:=(rfl)
theorem Jpi {b:Bool}:knb K b=K (.p (.bool (!b))):=(rfl)
def bopt (b:Bool):Option Bool→Option Bool
 | some x=>some (b && x)
 | none=>none
theorem Wd {a b:Bool}:bopt a (some b)=some (a && b):=(rfl)
theorem Q2:Ix [] [] []=some true:=(rfl)
theorem P4 {ts:List Tag} {a b:Bool} {x y:List PV}:Ix (.bool :: ts) (.bool a :: x) (.bool b :: y)=bopt (a == b) (Ix ts x y):=by
 simp only [Ix,bopt]
 cases Ix ts x y <;> rfl
theorem Q9 {ts:List Tag} {k:IntKind} {a b:Int} {x y:List PV}:Ix (.int :: ts) (.int k a :: x) (.int k b :: y)=bopt (a == b) (Ix ts x y):=by
 simp only [Ix,bopt,if_true]
 cases Ix ts x y <;> rfl
theorem Q6 {ts:List Tag} {a b:List UInt8} {x y:List PV}:Ix (.str :: ts) (.str a :: x) (.str b :: y)=bopt (a == b) (Ix ts x y):=by
 simp only [Ix,bopt]
 cases Ix ts x y <;> rfl
variable {k k':IntKind} {a b:Int}
theorem u_shl:lint .shl k a k' b K=(0≤b∧K (.p (.int k (k.wrap (a * 2 ^ min b.toNat k.bits))))):=(rfl)
theorem Jgw:lint .shr k a k' b K=(0≤b∧K (.p (.int k (a.fdiv (2 ^ min b.toNat k.bits))))):=(rfl)
theorem E8:lint .add k a k b K=K (.p (.int k (k.wrap (a+b)))):=by simp [lint]
theorem M5:lint .sub k a k b K=K (.p (.int k (k.wrap (a - b)))):=by simp [lint]
theorem Jhb:lint .mul k a k b K=K (.p (.int k (k.wrap (a * b)))):=by simp [lint]
theorem Jon:lint .quo k a k b K=(b≠0∧K (.p (.int k (k.wrap (a.tdiv b))))):=by simp [lint]
theorem Jk3:lint .rem k a k b K=(b≠0∧K (.p (.int k (a.tmod b)))):=by simp [lint]
theorem Jg3:lint .and k a k b K=K (.p (.int k (k.wrap (BitVec.ofInt k.bits a &&& BitVec.ofInt k.bits b).toNat))):=by simp [lint]
theorem u_or:lint .or k a k b K=K (.p (.int k (k.wrap (BitVec.ofInt k.bits a ||| BitVec.ofInt k.bits b).toNat))):=by simp [lint]
theorem G0:lint .eql k a k b K=K (.p (.bool (a == b))):=by simp [lint]
theorem Kx:lint .neq k a k b K=K (.p (.bool (a != b))):=by simp [lint]
theorem Dm:lint .lss k a k b K=K (.p (.bool (decide (a<b)))):=by simp [lint]
theorem Pr:lint .leq k a k b K=K (.p (.bool (decide (a≤b)))):=by simp [lint]
theorem Je:lint .gtr k a k b K=K (.p (.bool (decide (b<a)))):=by simp [lint]
theorem Lc:lint .geq k a k b K=K (.p (.bool (decide (b≤a)))):=by simp [lint]
variable {x y:List UInt8}
theorem Mo:lstr .add x y K=(x.length+y.length≤9223372036854775807∧K (.p (.str (x ++ y)))):=(rfl)
theorem Nh:lstr .eql x y K=K (.p (.bool (x == y))):=(rfl)
theorem Qv:lstr .neq x y K=K (.p (.bool (!(x == y)))):=(rfl)
theorem Ji9:lstr .lss x y K=K (.p (.bool (Op.bytesLess x y))):=(rfl)
theorem J7 {c:Bool}:lun .not (.p (.bool c)) K=K (.p (.bool (!c))):=(rfl)
theorem u_min:P7 false [.p (.int k a),.p (.int k' b)] K=K (.p (.int k (min a b))):=(rfl)
def kstr (K:L→Prop) (bs:List UInt8):Prop:=K (.p (.str bs))
theorem Xk {bs:List UInt8}:kstr K bs=K (.p (.str bs)):=(rfl)
theorem L4 {sa sb:TypeId} {o:Operand} {dst:Option Tmp}:cvF P sa sb o dst J ⟨t,r⟩=Vq P sa sb ((St.mk t r).get o) (kput dst J ⟨t,r⟩):=(rfl)
def Jm8 (P:Program) (o q:Option TypeDesc) (d j:Nat) (r:Option Reg) (K:L→Prop):Prop :=
 match r,o,q with
 | some (.var _ cs),some (.pointer t),some .unsafePointer=>P.cellsOf t≠0∧j<cs.length∧K (.ptr d 0 j)
 | some (.var T cs),some .unsafePointer,some (.pointer u)=>liesAt P P.depth T (cs.length / P.cellsOf T) j u 1=true∧(P.info? u).isSome=true∧K (.ptr d 0 j)
 | _,_,_=>False
theorem Zl {sa sb:TypeId} {o:Operand} {dst:Option Tmp} {d j:Nat}:cvG P sa sb ⟨t,r⟩ o dst J (.ptr d 0 j)=Jm8 P (P.underlying sa) (P.underlying sb) d j (Bj d r) (kput dst J ⟨t,r⟩):=(rfl)
theorem Hz {sa sb:TypeId} {o:Operand} {dst:Option Tmp} {k:IntKind} {n:Int}:cvG P sa sb ⟨t,r⟩ o dst J (.p (.int k n))=cvF P sa sb o dst J (St.freezeOps ⟨t,r⟩ [o]):=(rfl)
theorem Je5 {sa sb:TypeId} {o:Operand} {dst:Option Tmp} {es:List (List PV)}:cvG P sa sb ⟨t,r⟩ o dst J (.p (.sl es))=cvF P sa sb o dst J (St.freezeOps ⟨t,r⟩ [o]):=(rfl)
def cvS (P:Program) (sa sb:TypeId) (oa ob:Option TypeDesc) (x:List UInt8) (s:St) (dst:Option Tmp) (J:St→Prop):Prop :=
 match ob with
 | some (.slice e)=>oa.isSome=true∧P.underlying e=some (.int .u8)∧kput dst J s (.p (.sl (x.map fun c=>[.int .u8 c.toNat])))
 | _=>Vq P sa sb (.p (.str x)) (kput dst J s)
theorem Jhj {sa sb:TypeId} {o:Operand} {dst:Option Tmp} {x:List UInt8}:cvG P sa sb ⟨t,r⟩ o dst J (.p (.str x))=cvS P sa sb (P.underlying sa) (P.underlying sb) x ⟨t,r⟩ dst J:=by
 show Jaa P sa sb x ⟨t,r⟩ dst J=_
 unfold Jaa cvS
 cases P.underlying sb with
 | none=>rfl
 | some q=>cases q <;> rfl
theorem Jl5 {sa sb:TypeId} {oa:TypeDesc} {dst:Option Tmp} {x:List UInt8} {e:TypeId}:cvS P sa sb (some oa) (some (.slice e)) x ⟨t,r⟩ dst J=(P.underlying e=some (.int .u8)∧kput dst J ⟨t,r⟩ (.p (.sl (x.map fun c=>[.int .u8 c.toNat])))):=by simp [cvS]
theorem S8 {sa sb:TypeId} {o:Operand} {dst:Option Tmp} {d m n:Nat}:cvG P sa sb ⟨t,r⟩ o dst J (.own d m n)=cvF P sa sb o dst J (St.freezeOps ⟨t,r⟩ [o]):=(rfl)
theorem Jcj {d j:Nat} {ty:TypeId} {T:TypeId} {cs:List L}:Jm8 P (some (.pointer ty)) (some .unsafePointer) d j (some (.var T cs)) K=(P.cellsOf ty≠0∧j<cs.length∧K (.ptr d 0 j)):=(rfl)
theorem Y3 {d j:Nat} {ty:TypeId} {T:TypeId} {cs:List L}:Jm8 P (some .unsafePointer) (some (.pointer ty)) d j (some (.var T cs)) K=(liesAt P P.depth T (cs.length / P.cellsOf T) j ty 1=true∧(P.info? ty).isSome=true∧K (.ptr d 0 j)):=(rfl)
def Jdl (P:Program) (src dst:Option TypeDesc) (x:L) (K:L→Prop):Prop :=
 match dst,x with
 | some (.int k),.p (.int _ n)=>src.isSome=true∧K (.p (.int k (k.wrap n)))
 | some .string,.p (.str s)=>src.isSome=true∧(∀ e,src≠some (.slice e))∧K (.p (.str s))
 | some .string,.p (.int _ n)=>src.isSome=true∧(∀ e,src≠some (.slice e))∧K (.p (.str (Utf8.encode n).data.toList))
 | some .string,.p (.sl es)=>(∃ e,src=some (.slice e)∧P.underlying e=some (.int .u8))∧H9 (Lk es) (kstr K)
 | _,_=>False
theorem Kl {s d:TypeId} {x:L}:Vq P s d x K=Jdl P (P.underlying s) (P.underlying d) x K:=(rfl)
theorem Hn {d:TypeDesc}:Jdl P (some d) (some (.int k')) (.p (.int k a)) K=K (.p (.int k' (k'.wrap a))):=by simp [Jdl]
theorem U1:Jdl P (some (.int k')) (some .string) (.p (.int k a)) K=K (.p (.str (Utf8.encode a).data.toList)):=by simp [Jdl]
theorem Ms {e:TypeId} {es:List (List PV)}:Jdl P (some (.slice e)) (some .string) (.p (.sl es)) K=(P.underlying e=some (.int .u8)∧H9 (Lk es) (kstr K)):=by
 simp [Jdl]
def Y4 (n:Int):Option (List UInt8)→Option (List UInt8)
 | some bs=>if 0≤n∧n<256 then some (UInt8.ofNat n.toNat :: bs) else none
 | none=>none
theorem Nf:Lk []=some []:=(rfl)
theorem Ly {n:Int} {l:List (List PV)}:Lk ([.int .u8 n] :: l)=Y4 n (Lk l):=by
 simp only [Lk,Y4]
 cases Lk l <;> simp
def u8of (n:Int):UInt8:=UInt8.ofNat (n % 256).toNat
theorem Q5 {n:Int} {bs:List UInt8}:Y4 (IntKind.u8.wrap n) (some bs)=some (u8of n :: bs):=by
 simp only [Y4,F9,u8of]
 rw [if_pos (by omega)]
theorem Xb {s:List UInt8} {i:Nat} {bs:List UInt8}:Y4 (at_ s i) (some bs)=some (s.getD i 0 :: bs):=by
 simp only [Y4]
 rw [if_pos ⟨by omega,by have:=Nd s i;omega⟩]
 simp [at_]
def lenT (d:Option TypeDesc) (x:L) (K:L→Prop):Prop :=
 match d,x with
 | some .string,.p (.str s)=>K (.p (.int .i64 s.length))
 | some (.slice _),.p (.sl es)=>K (.p (.int .i64 es.length))
 | some (.slice _),.p .snil=>K (.p (.int .i64 0))
 | some (.slice _),.own _ _ len=>K (.p (.int .i64 len))
 | some (.map _ _),.p .nmap=>K (.p (.int .i64 0))
 | some (.map _ _),.p (.mp es)=>K (.p (.int .i64 es.length))
 | _,_=>False
variable {es:List (List PV)} {e sz:Nat}
theorem Ds {ty:TypeId} {x:L}:llen P ty x K=lenT (P.underlying ty) x K:=(rfl)
theorem Dl:lenT (some .string) (.p (.str x)) K=K (.p (.int .i64 x.length)):=(rfl)
theorem D4:lenT (some (.slice e)) (.p (.sl es)) K=K (.p (.int .i64 es.length)):=(rfl)
theorem S5:lenT (some (.slice e)) (.p .snil) K=K (.p (.int .i64 0)):=(rfl)
theorem F3 {d o n:Nat}:lenT (some (.slice e)) (.own d o n) K=K (.p (.int .i64 n)):=(rfl)
def Jpl (sz:Nat) (K:L→Prop) (e:List PV):Prop:=e.length=sz∧K (.eptr e)
theorem Eo {c:List PV}:Jpl sz K c=(c.length=sz∧K (.eptr c)):=(rfl)
def iaT (r:Regs) (o:Option (TypeId×Nat)) (q:Option (Nat×TypeId×Nat)) (x ix:L) (K:L→Prop):Prop :=
 match x,ix with
 | .p (.sl es),.p (.int _ i)=>match o with
  | some (_,sz)=>0≤i∧getE (es[i.toNat]?) (Jpl sz K)
  | none=>False
 | .own d off len,.p (.int _ i)=>match Bj d r,o with
  | some (.row _ sz _),some (_,sz')=>sz=sz'∧0≤i∧i<len∧K (.ptr d (off+i.toNat) 0)
  | some (.lrow _ sz _ _),some (_,sz')=>sz=sz'∧0≤i∧i<len∧K (.ptr d (off+i.toNat) 0)
  | _,_=>False
 | .ptr d a b,.p (.int _ i)=>match q with
  | some (n,_,sz)=>0≤i∧i<n∧K (.ptr d a (b+i.toNat * sz))
  | none=>False
 | .eptr cs,.p (.int _ i)=>match q with
  | some (n,_,sz)=>0≤i∧i<n∧i.toNat * sz≤cs.length∧K (.eptr (cs.drop (i.toNat * sz)))
  | none=>False
 | _,_=>False
def iaR (q:Option Reg) (sz':Nat) (d off len:Nat) (i:Int) (K:L→Prop):Prop :=
 match q with
 | some (.row _ sz _)=>sz=sz'∧0≤i∧i<len∧K (.ptr d (off+i.toNat) 0)
 | some (.lrow _ sz _ _)=>sz=sz'∧0≤i∧i<len∧K (.ptr d (off+i.toNat) 0)
 | _=>False
theorem Cj {ty:TypeId} {x ix:L}:Mr P r ty x ix K=iaT r (slE P ty) (arE P ty) x ix K:=by
 unfold Mr iaT getE Jpl
 rfl
theorem Ei {i:Int} {q:Option (Nat×TypeId×Nat)}:iaT r (some (e,sz)) q (.p (.sl es)) (.p (.int k i)) K=(0≤i∧getE (es[i.toNat]?) (Jpl sz K)):=(rfl)
theorem Lj {i:Int} {d off len:Nat} {q:Option (Nat×TypeId×Nat)}:iaT r (some (e,sz)) q (.own d off len) (.p (.int k i)) K=iaR (Bj d r) sz d off len i K:=by
 simp only [iaT,iaR]
 generalize Bj d r=q
 cases q with
 | none=>rfl
 | some q=>cases q <;> rfl
theorem Jex {i:Int} {d a b n:Nat} {o:Option (TypeId×Nat)}:iaT r o (some (n,e,sz)) (.ptr d a b) (.p (.int k i)) K=(0≤i∧i<n∧K (.ptr d a (b+i.toNat * sz))):=(rfl)
theorem Lg {i:Int} {d off len sz':Nat} {T:TypeId}:iaR (some (.row T sz es)) sz' d off len i K=(sz=sz'∧0≤i∧i<len∧K (.ptr d (off+i.toNat) 0)):=(rfl)
def Jr0 (K:L→Prop) (b:UInt8):Prop:=K (.p (.int .u8 b.toNat))
def kp (K:L→Prop) (c:PV):Prop:=K (.p c)
theorem G8 {c:PV}:kp K c=K (.p c):=(rfl)
def ixT (P:Program) (d:Option TypeDesc) (x ix:L) (K:L→Prop):Prop :=
 match d,x,ix with
 | some .string,.p (.str s),.p (.int _ i)=>0≤i∧getE (s[i.toNat]?) (Jr0 K)
 | some (.array n e),.p (.agg cs),.p (.int _ i)=>Ju P e=some false∧P.cellsOf e=1∧0≤i∧i<n∧getE (cs[i.toNat]?) (kp K)
 | _,_,_=>False
theorem Ib {ty:TypeId} {x ix:L}:Ui P ty x ix K=ixT P (P.underlying ty) x ix K:=by
 unfold Ui ixT getE Jr0 kp;rfl
theorem Hf {i:Int}:ixT P (some .string) (.p (.str x)) (.p (.int k i)) K=(0≤i∧i.toNat<x.length∧K (.p (.int .u8 (at_ x i.toNat)))):=by
 show (0≤i∧getE (x[i.toNat]?) (Jr0 K))=_
 rw [Jkv];rfl
def faT (o:Option (Nat×TypeId)) (x:L) (K:L→Prop):Prop :=
 match o,x with
 | some (off,_),.eptr cs=>off≤cs.length∧K (.eptr (cs.drop off))
 | some (off,_),.ptr d i j=>K (.ptr d i (j+off))
 | _,_=>False
variable {off n f:Nat} {ft ty T:TypeId} {cs:List PV} {d i j:Nat} {ls:List L}
theorem C0 {x:L}:Nt P ty x f K=faT (fld P ty f) x K:=(rfl)
theorem Gb:faT (some (off,ft)) (.eptr cs) K=(off≤cs.length∧K (.eptr (cs.drop off))):=(rfl)
theorem G3:faT (some (off,ft)) (.ptr d i j) K=K (.ptr d i (j+off)):=(rfl)
def kagg (K:L→Prop) (ps:List PV):Prop:=K (.p (.agg ps))
theorem Jb {ps:List PV}:kagg K ps=K (.p (.agg ps)):=(rfl)
def Jk5 (j:Nat) (K:L→Prop) (e:List PV):Prop:=getE (e[j]?) (kp K)
theorem Q3 {c:List PV}:Jk5 j K c=getE (c[j]?) (kp K):=(rfl)
def krow (n j:Nat) (K:L→Prop) (e:List PV):Prop:=0<n∧j+n≤e.length∧K (.p (.agg ((e.drop j).take n)))
theorem Jm3 {c:List PV}:krow n j K c=(0<n∧j+n≤c.length∧K (.p (.agg ((c.drop j).take n)))):=(rfl)
def Jmv (j:Nat) (K:L→Prop) (e:List L):Prop:=getE (e[j]?) K
def klrow (n j:Nat) (K:L→Prop) (e:List L):Prop:=0<n∧j+n≤e.length∧H9 (Gv L.pure? ((e.drop j).take n)) (kagg K)
def ldT (n:Nat) (r:Regs) (o:Option Bool) (x:L) (K:L→Prop):Prop :=
 match o,x with
 | some false,.eptr cs=>getE (cs[0]?) (kp K)
 | some true,.eptr cs=>0<n∧n≤cs.length∧K (.p (.agg (cs.take n)))
 | some false,.ptr d i j=>match Bj d r with
  | some (.var _ cs)=>i=0∧getE (cs[j]?) K
  | some (.row _ _ es)=>getE (es[i]?) (Jk5 j K)
  | some (.lrow _ _ _ es)=>getE (es[i]?) (Jmv j K)
  | some (.obj _)=>False
  | none=>False
 | some true,.ptr d i j=>match Bj d r with
  | some (.var _ cs)=>i=0∧0<n∧j+n≤cs.length∧H9 (Gv L.pure? ((cs.drop j).take n)) (kagg K)
  | some (.row _ _ es)=>getE (es[i]?) (krow n j K)
  | some (.lrow _ _ _ es)=>getE (es[i]?) (klrow n j K)
  | some (.obj _)=>False
  | none=>False
 | _,_=>False
def ldF (q:Option Reg) (i j:Nat) (K:L→Prop):Prop :=
 match q with
 | some (.var _ cs)=>i=0∧getE (cs[j]?) K
 | some (.row _ _ es)=>getE (es[i]?) (Jk5 j K)
 | some (.lrow _ _ _ es)=>getE (es[i]?) (Jmv j K)
 | some (.obj _)=>False
 | none=>False
def ldA (q:Option Reg) (n i j:Nat) (K:L→Prop):Prop :=
 match q with
 | some (.var _ cs)=>i=0∧0<n∧j+n≤cs.length∧H9 (Gv L.pure? ((cs.drop j).take n)) (kagg K)
 | some (.row _ _ es)=>getE (es[i]?) (krow n j K)
 | some (.lrow _ _ _ es)=>getE (es[i]?) (klrow n j K)
 | some (.obj _)=>False
 | none=>False
theorem C5 {x:L}:Uo P r ty x K=ldT (P.cellsOf ty) r (Ju P ty) x K:=by unfold Uo ldT getE kp H9 kagg Jk5 krow Jmv klrow getE H9 kagg;rfl
theorem Dd:ldT n r (some false) (.eptr cs) K=getE (cs[0]?) (kp K):=(rfl)
theorem I6:ldT n r (some true) (.eptr cs) K=(0<n∧n≤cs.length∧K (.p (.agg (cs.take n)))):=(rfl)
theorem Dv:ldT n r (some false) (.ptr d i j) K=ldF (Bj d r) i j K:=(rfl)
theorem F7:ldT n r (some true) (.ptr d i j) K=ldA (Bj d r) n i j K:=(rfl)
theorem E0:ldF (some (.var T ls)) i j K=(i=0∧getE (ls[j]?) K):=(rfl)
theorem N0:ldF (some (.row T sz es)) i j K=getE (es[i]?) (Jk5 j K):=(rfl)
theorem G1:ldA (some (.var T ls)) n i j K=(i=0∧0<n∧j+n≤ls.length∧H9 (Gv L.pure? ((ls.drop j).take n)) (kagg K)):=(rfl)
theorem Jar:ldA (some (.row T sz es)) n i j K=getE (es[i]?) (krow n j K):=(rfl)
def bnd (s:St):Option Operand→Option L
 | none=>none
 | some o=>some (s.get o)
theorem Ev {s:St}:bnd s none=none:=(rfl)
theorem D5 {s:St} {o:Operand}:bnd s (some o)=some (s.get o):=(rfl)
def bndI (d:Int):Option L→Option Int
 | none=>some d
 | some (.p (.int _ n))=>some n
 | some _=>none
def slT (P:Program) (r:Regs) (o:Option TypeDesc) (x:L) (lo hi:Option L) (K:L→Prop):Prop :=
 match o,x with
 | some .string,.p (.str s)=>∃ l h,bndI 0 lo=some l∧bndI s.length hi=some h∧0≤l∧l≤h∧h≤s.length∧K (.p (.str ((s.drop l.toNat).take (h.toNat - l.toNat))))
 | some (.slice e),.p (.sl es)=>0<P.cellsOf e∧(∀ x∈es,x.length=P.cellsOf e)∧∃ l h,bndI 0 lo=some l∧bndI es.length hi=some h∧0≤l∧l≤h∧h≤es.length∧K (.p (.sl ((es.drop l.toNat).take (h.toNat - l.toNat))))
 | some (.slice e),.p .snil=>0<P.cellsOf e∧∃ l h,bndI 0 lo=some l∧bndI 0 hi=some h∧l=0∧h=0∧K (.p .snil)
 | some (.slice e),.own d off len=>0<P.cellsOf e∧Jbt r d=some (P.cellsOf e)∧∃ l h,bndI 0 lo=some l∧bndI len hi=some h∧0≤l∧l≤h∧h≤(max len (Rk r d - off):Nat)∧K (.own d (off+l.toNat) (h.toNat - l.toNat))
 | _,_=>False
theorem E2 {o:Operand} {lo hi:Option Operand}:R1 P r ty (St.mk t r).get o lo hi none K=slT P r (P.underlying ty) ((St.mk t r).get o) (bnd ⟨t,r⟩ lo) (bnd ⟨t,r⟩ hi) K:=by
 have h1:∀ (d:Int) (q:Option Operand),Nc (St.mk t r).get d q=bndI d (bnd ⟨t,r⟩ q):=by
  intro d q
  cases q with
  | none=>rfl
  | some q =>
   simp only [Nc,bnd]
   cases (St.mk t r).get q with
   | p v=>cases v <;> rfl
   | _=>rfl
 unfold R1 slT
 simp only [h1,true_and]
 generalize P.underlying ty=q
 generalize (St.mk t r).get o=l
 cases q with
 | none=>rfl
 | some q=>cases q <;> first | rfl | (cases l <;> first | rfl | (rename_i v;cases v <;> rfl))
theorem H4 {l:Int}:slT P r (some .string) (.p (.str x)) (some (.p (.int k l))) none K=(0≤l∧l≤x.length∧K (.p (.str (x.drop l.toNat)))):=by
 simp only [slT,bndI]
 apply pe
 constructor
 ·rintro ⟨l',h',g1,g2,h1,h2,_,h3⟩
  cases g1;cases g2
  refine ⟨h1,h2,?_⟩
  rwa [List.take_of_length_le (by simp)] at h3
 ·rintro ⟨h1,h2,h3⟩
  refine ⟨_,_,rfl,rfl,h1,h2,Int.le_refl _,?_⟩
  rwa [List.take_of_length_le (by simp)]
theorem Jp3 {h:Int}:slT P r (some .string) (.p (.str x)) none (some (.p (.int k h))) K=(0≤h∧h≤x.length∧K (.p (.str (x.take h.toNat)))):=by
 simp [slT,bndI]
theorem La {l h:Int}:slT P r (some .string) (.p (.str x)) (some (.p (.int k l))) (some (.p (.int k' h))) K=(0≤l∧l≤h∧h≤x.length∧K (.p (.str ((x.drop l.toNat).take (h.toNat - l.toNat))))):=by
 simp [slT,bndI]
theorem Jb7 {l:Int}:slT P r (some (.slice e)) (.p (.sl es)) (some (.p (.int k l))) none K=(0<P.cellsOf e∧(∀ x∈es,x.length=P.cellsOf e)∧0≤l∧l≤es.length∧K (.p (.sl (es.drop l.toNat)))):=by
 simp only [slT,bndI]
 apply pe
 constructor
 ·rintro ⟨g1,g2,l',h',k1,k2,h1,h2,_,h3⟩
  cases k1;cases k2
  refine ⟨g1,g2,h1,h2,?_⟩
  rwa [List.take_of_length_le (by simp)] at h3
 ·rintro ⟨g1,g2,h1,h2,h3⟩
  refine ⟨g1,g2,_,_,rfl,rfl,h1,h2,Int.le_refl _,?_⟩
  rwa [List.take_of_length_le (by simp)]
theorem Jov {h:Int}:slT P r (some (.slice e)) (.p (.sl es)) none (some (.p (.int k h))) K=(0<P.cellsOf e∧(∀ x∈es,x.length=P.cellsOf e)∧0≤h∧h≤es.length∧K (.p (.sl (es.take h.toNat)))):=by
 simp [slT,bndI]
theorem Jh7 {l h:Int}:slT P r (some (.slice e)) (.p (.sl es)) (some (.p (.int k l))) (some (.p (.int k' h))) K=(0<P.cellsOf e∧(∀ x∈es,x.length=P.cellsOf e)∧0≤l∧l≤h∧h≤es.length∧K (.p (.sl ((es.drop l.toNat).take (h.toNat - l.toNat))))):=by
 simp [slT,bndI]
theorem Jpp {h:Int}:slT P r (some (.slice e)) (.p .snil) none (some (.p (.int k h))) K=(0<P.cellsOf e∧h=0∧K (.p .snil)):=by
 simp [slT,bndI]
theorem V0 {h:Int} {o m:Nat}:slT P r (some (.slice e)) (.own d o m) none (some (.p (.int k h))) K=(0<P.cellsOf e∧Jbt r d=some (P.cellsOf e)∧0≤h∧h≤(max m (Rk r d - o):Nat)∧K (.own d o h.toNat)):=by
 simp [slT,bndI]
theorem Pb {l:Int} {o m:Nat}:slT P r (some (.slice e)) (.own d o m) (some (.p (.int k l))) none K=(0<P.cellsOf e∧Jbt r d=some (P.cellsOf e)∧0≤l∧l≤m∧K (.own d (o+l.toNat) (m - l.toNat))):=by
 simp only [slT,bndI]
 apply pe
 constructor
 ·rintro ⟨g1,g2,l',h',k1,k2,h1,h2,_,h3⟩
  cases k1;cases k2
  exact ⟨g1,g2,h1,h2,by simpa using h3⟩
 ·rintro ⟨g1,g2,h1,h2,h3⟩
  exact ⟨g1,g2,_,_,rfl,rfl,h1,h2,by omega,by simpa using h3⟩
theorem Zu {o:Oper} {x:Operand} {lo hi:Option Operand} {dst:Option Tmp} {d:Nat}:slG P o ty x lo hi dst J ⟨t,r⟩ (.ptr d 0 0)=larr P ty ⟨t,r⟩ d lo hi (kput dst J) (Bj d r):=(rfl)
theorem Gf {o:Oper} {x:Operand} {lo hi:Option Operand} {dst:Option Tmp} {v:PV}:slG P o ty x lo hi dst J ⟨t,r⟩ (.p v)=R1 P r ty (St.mk t r).get x lo hi none (kput dst J ⟨t,r⟩):=(rfl)
theorem Mz {o:Oper} {x:Operand} {lo hi:Option Operand} {dst:Option Tmp} {d m n:Nat}:slG P o ty x lo hi dst J ⟨t,r⟩ (.own d m n)=R1 P r ty (St.mk t r).get x lo hi none (kput dst J ⟨t,r⟩):=(rfl)
def karr (cs:List L) (n:Nat) (lo hi:Option L) (N:St→L→Prop) (s:St) (ps:List PV):Prop :=
 ∃ l h,bndI 0 lo=some l∧bndI n hi=some h∧0≤l∧l≤h∧h≤n∧N s (.p (.sl (((ps.map fun p=>[p]).drop l.toNat).take (h.toNat - l.toNat))))
def laT (P:Program) (o:Option (Nat×TypeId×Nat)) (s:St) (d:Nat) (lo hi:Option L) (N:St→L→Prop) (q:Option Reg):Prop :=
 match q,o with
 | some (.var _ cs),some (n,_,sz)=>sz=1∧n=cs.length∧H9 (Gv L.pure? cs) (karr cs n lo hi N (N6 d (some .gone) s))
 | _,_=>False
theorem Jme {lo hi:Option Operand} {N:St→L→Prop} {q:Option Reg} {d:Nat}:larr P ty ⟨t,r⟩ d lo hi N q=laT P (arE P ty) ⟨t,r⟩ d (bnd ⟨t,r⟩ lo) (bnd ⟨t,r⟩ hi) N q:=by
 have h1:∀ (d:Int) (q:Option Operand),Nc (St.mk t r).get d q=bndI d (bnd ⟨t,r⟩ q):=by
  intro d q
  cases q with
  | none=>rfl
  | some q =>
   simp only [Nc,bnd]
   cases (St.mk t r).get q with
   | p v=>cases v <;> rfl
   | _=>rfl
 unfold larr laT karr H9
 simp only [h1]
 cases q with
 | none=>rfl
 | some q=>cases q <;> first | rfl | (cases arE P ty <;> rfl)
theorem Jtl {lo hi:Option L} {N:St→L→Prop} {d n sz:Nat} {e T:TypeId} {cs:List L}:laT P (some (n,e,sz)) ⟨t,r⟩ d lo hi N (some (.var T cs))=(sz=1∧n=cs.length∧H9 (Gv L.pure? cs) (karr cs n lo hi N (N6 d (some .gone) ⟨t,r⟩))):=(rfl)
theorem Jev {cs:List L} {n:Nat} {l:Int} {N:St→L→Prop} {ps:List PV}:karr cs n (some (.p (.int k l))) none N ⟨t,r⟩ ps=(0≤l∧l≤n∧N ⟨t,r⟩ (.p (.sl (((ps.map fun p=>[p]).drop l.toNat).take ((n:Int).toNat - l.toNat))))):=by
 apply pe
 constructor
 ·rintro ⟨l',h',g1,g2,h1,h2,h3,h4⟩
  cases g1;cases g2
  exact ⟨h1,h2,h4⟩
 ·rintro ⟨h1,h2,h3⟩
  exact ⟨_,_,rfl,rfl,h1,h2,by omega,h3⟩
def rsz:Option Reg→Option Nat
 | some (.row _ sz _)=>some sz
 | some (.lrow _ sz _ _)=>some sz
 | _=>none
def rln:Option Reg→Nat
 | some (.row _ _ es)=>es.length
 | some (.lrow _ _ _ es)=>es.length
 | _=>0
theorem Oj:Jbt r d=rsz (Bj d r):=by
 unfold Jbt rsz;cases Bj d r with
 | none=>rfl
 | some g=>cases g <;> rfl
theorem Td:Rk r d=rln (Bj d r):=by
 unfold Rk rln;cases Bj d r with
 | none=>rfl
 | some g=>cases g <;> rfl
theorem O7:rsz (some (.row T sz es))=some sz:=(rfl)
theorem Mi {fu:Bool} {ll:List (List L)}:rsz (some (.lrow T sz fu ll))=some sz:=(rfl)
theorem Jg1:rln (some (.row T sz es))=es.length:=(rfl)
theorem Rx {fu:Bool} {ll:List (List L)}:rln (some (.lrow T sz fu ll))=ll.length:=(rfl)
theorem Eb {xs:List PV}:Jcs (.tup xs) i K=getE (xs[i]?) (kp K):=(rfl)
theorem Lu:lnil (.ptr d i j) K=K (.ptr d i j):=(rfl)
def kfn (g:FuncId) (K:L→Prop) (ids:List Nat):Prop:=K (.fn g ids)
theorem u_kfn {g:FuncId} {ids:List Nat}:kfn g K ids=K (.fn g ids):=(rfl)
theorem u_caps {g:FuncId}:Jtm g ls K=H9 (Ss ls) (kfn g K):=(rfl)
def capC (d:Nat):Option (List Nat)→Option (List Nat)
 | some l=>some (d :: l)
 | none=>none
theorem Jg7 {l:List Nat}:capC d (some l)=some (d :: l):=(rfl)
theorem Jfj:Ss []=some []:=(rfl)
theorem Jbw:Ss (.ptr d 0 0 :: ls)=capC d (Ss ls):=(rfl)
def Jsx (P:Program) (ty:TypeId) (parts:List (Nat×L)) (K:L→Prop) (z:List PV):Prop:=Ou P ty=true∧H9 (N2 P ty z parts) (kagg K)
theorem Jc {parts:List (Nat×L)} {z:List PV}:Jsx P ty parts K z=(Ou P ty=true∧H9 (N2 P ty z parts) (kagg K)):=(rfl)
theorem J9 {parts:List (Nat×L)}:Ji7 P ty parts K=H9 (Jf P ty) (Jsx P ty parts K):=(rfl)
def Jlv (P:Program) (ty:TypeId) (cs:List PV) (o:Option (Nat×TypeId)) (x:L) (rest:List (Nat×L)):Option (List PV) :=
 match o,x with
 | some (off,ft),.p (.agg xs)=>if xs.length=P.cellsOf ft∧off+xs.length≤cs.length then N2 P ty (cs.take off ++ xs ++ cs.drop (off+xs.length)) rest else none
 | some (off,ft),.p v=>if 1=P.cellsOf ft∧off+1≤cs.length then N2 P ty (cs.set off v) rest else none
 | _,_=>none
theorem Hr:N2 P ty cs []=some cs:=(rfl)
theorem Io {rest:List (Nat×L)} {x:L}:N2 P ty cs ((i,x) :: rest)=Jlv P ty cs (fld P ty i) x rest:=by
 simp only [N2,Jlv];rfl
theorem Qk {rest:List (Nat×L)} {v:Bool}:Jlv P ty cs (some (off,ft)) (.p (.bool v)) rest=if 1=P.cellsOf ft∧off+1≤cs.length then N2 P ty (cs.set off (.bool v)) rest else none:=(rfl)
theorem Mh {rest:List (Nat×L)}:Jlv P ty cs (some (off,ft)) (.p (.int k a)) rest=if 1=P.cellsOf ft∧off+1≤cs.length then N2 P ty (cs.set off (.int k a)) rest else none:=(rfl)
theorem K6 {rest:List (Nat×L)}:Jlv P ty cs (some (off,ft)) (.p (.str x)) rest=if 1=P.cellsOf ft∧off+1≤cs.length then N2 P ty (cs.set off (.str x)) rest else none:=(rfl)
def Jr9 (d:Nat) (T:TypeId) (s:St) (J:St→Prop) (zs:List PV):Prop:=J ((s.newReg d (.var T (zs.map .p))).put (some d) (.ptr d 0 0))
theorem Gy {zs:List PV}:Jr9 d T ⟨t,r⟩ J zs=J ((St.newReg d (.var T (zs.map .p)) ⟨t,r⟩).put (some d) (.ptr d 0 0)):=(rfl)
theorem Hw:Jh8 P d T ⟨t,r⟩ J=(d<1000∧H9 (Jf P T) (Jr9 d T ⟨t,r⟩ J)):=(rfl)
def kbox (d:Nat) (T:TypeId) (s:St) (J:St→Prop) (xs:List L):Prop:=J ((s.newReg d (.var T (xs.map (L.forget d)))).put (some d) (.ptr d 0 0))
theorem Qp {xs:List L}:kbox d T ⟨t,r⟩ J xs=J ((St.newReg d (.var T (xs.map (L.forget d))) ⟨t,r⟩).put (some d) (.ptr d 0 0)):=(rfl)
theorem Um {o:Operand}:lbox d T ⟨t,r⟩ o J=(d<1000∧H9 (Jw ((St.mk t r).get o)) (kbox d T ⟨t,r⟩ J)):=(rfl)
theorem Cu {q:Reg}:St.newReg d q ⟨t,r⟩=⟨t.map (L.forget d),(d,q) :: Ll d r⟩:=(rfl)
theorem G6:St.forget d ⟨t,r⟩=⟨t.map (L.forget d),Ll d r⟩:=(rfl)
theorem E5 {ps:List PV}:Jw (.p (.agg ps))=some (ps.map .p):=(rfl)
theorem Tc {c:Bool}:Jw (.p (.bool c))=some [.p (.bool c)]:=(rfl)
theorem Ma:Jw (.p (.int k a))=some [.p (.int k a)]:=(rfl)
theorem Lh:Jw (.p (.str x))=some [.p (.str x)]:=(rfl)
theorem Mj:Jw (.p (.sl es))=some [.p (.sl es)]:=(rfl)
theorem Jgl:Jw (.p .snil)=some [.p .snil]:=(rfl)
theorem M9 {o m:Nat}:Jw (.own d o m)=some [.own d o m]:=(rfl)
theorem Jj0:Jw (.ptr d i j)=some [.ptr d i j]:=(rfl)
def kst (P:Program) (ty:TypeId) (d i j:Nat) (T:TypeId) (cs:List L) (s:St) (J:St→Prop) (xs:List L):Prop :=
 i=0∧xs.length=P.cellsOf ty∧P.cellsOf ty≠0∧j+xs.length≤cs.length∧J { s with regs:=Iy d (.var T (cs.take j ++ xs ++ cs.drop (j+xs.length))) s.regs }
theorem Iz {xs:List L}:kst P ty d i j T ls ⟨t,r⟩ J xs=(i=0∧xs.length=P.cellsOf ty∧P.cellsOf ty≠0∧j+xs.length≤ls.length∧J ⟨t,Iy d (.var T (ls.take j ++ xs ++ ls.drop (j+xs.length))) r⟩):=(rfl)
def kst3 (P:Program) (ty:TypeId) (a:Operand) (d i j:Nat) (T:TypeId) (sz:Nat) (es:List (List PV)) (s:St) (J:St→Prop) (ps:List PV) (e:List PV):Prop :=
 ps.length=P.cellsOf ty∧P.cellsOf ty≠0∧j+ps.length≤e.length∧Bj d s.regs=some (.row T sz es)∧s.get a=.ptr d i j∧J { s with regs:=Iy d (.row T sz (es.set i (e.take j ++ ps ++ e.drop (j+ps.length)))) s.regs }
theorem Vs {o:Operand} {ps c:List PV}:kst3 P ty o d i j T sz es ⟨t,r⟩ J ps c=(ps.length=P.cellsOf ty∧P.cellsOf ty≠0∧j+ps.length≤c.length∧Bj d r=some (.row T sz es)∧(St.mk t r).get o=.ptr d i j∧J ⟨t,Iy d (.row T sz (es.set i (c.take j ++ ps ++ c.drop (j+ps.length)))) r⟩):=(rfl)
def kst2 (P:Program) (ty:TypeId) (a:Operand) (d i j:Nat) (T:TypeId) (sz:Nat) (es:List (List PV)) (s:St) (J:St→Prop) (ps:List PV):Prop:=getE (es[i]?) (kst3 P ty a d i j T sz es s J ps)
theorem Vw {o:Operand} {ps:List PV}:kst2 P ty o d i j T sz es ⟨t,r⟩ J ps=getE (es[i]?) (kst3 P ty o d i j T sz es ⟨t,r⟩ J ps):=(rfl)
def kst1 (P:Program) (ty:TypeId) (a:Operand) (d i j:Nat) (T:TypeId) (sz:Nat) (es:List (List PV)) (s:St) (J:St→Prop) (xs:List L):Prop:=H9 (Gv L.pure? xs) (kst2 P ty a d i j T sz es s J)
theorem Vr {o:Operand} {xs:List L}:kst1 P ty o d i j T sz es ⟨t,r⟩ J xs=H9 (Gv L.pure? xs) (kst2 P ty o d i j T sz es ⟨t,r⟩ J):=(rfl)
def Joc (P:Program) (ty:TypeId) (a x:Operand) (d i j:Nat) (T:TypeId) (sz:Nat) (es:List (List PV)) (J:St→Prop) (s:St):Prop:=H9 (Jw (s.get x)) (kst1 P ty a d i j T sz es s J)
theorem Sf {o q:Operand}:Joc P ty o q d i j T sz es J ⟨t,r⟩=H9 (Jw ((St.mk t r).get q)) (kst1 P ty o d i j T sz es ⟨t,r⟩ J):=(rfl)
def kls2 (P:Program) (ty:TypeId) (d i j:Nat) (T:TypeId) (sz:Nat) (f:Bool) (es:List (List L)) (s:St) (J:St→Prop) (xs:List L) (e:List L):Prop :=
 xs.length=P.cellsOf ty∧P.cellsOf ty≠0∧j+xs.length≤e.length∧J { s with regs:=Iy d (.lrow T sz f (es.set i (e.take j ++ xs ++ e.drop (j+xs.length)))) s.regs }
def kls (P:Program) (ty:TypeId) (d i j:Nat) (T:TypeId) (sz:Nat) (f:Bool) (es:List (List L)) (s:St) (J:St→Prop) (xs:List L):Prop:=getE (es[i]?) (kls2 P ty d i j T sz f es s J xs)
def stR (P:Program) (ty:TypeId) (s:St) (a x:Operand) (d i j:Nat) (J:St→Prop) (q:Option Reg):Prop :=
 match q with
 | some (.var T cs)=>H9 (Jw (s.get x)) (kst P ty d i j T cs s J)
 | some (.row T sz es)=>Joc P ty a x d i j T sz es J (s.freezeOps [x])
 | some (.lrow T sz f es)=>H9 (Jw (s.get x)) (kls P ty d i j T sz f es s J)
 | some (.obj _)=>False
 | none=>False
def stA (P:Program) (ty:TypeId) (s:St) (a x:Operand) (J:St→Prop) (la:L):Prop :=
 match la with
 | .ptr d i j=>stR P ty s a x d i j J (Bj d s.regs)
 | _=>False
theorem Fj {o q:Operand}:Zh P ty ⟨t,r⟩ o q J=stA P ty ⟨t,r⟩ o q J ((St.mk t r).get o):=by
 unfold Zh stA stR Joc kst1 kst2 kst3 kst kls kls2 H9 getE
 apply pe
 cases (St.mk t r).get o with
 | ptr d i j =>
  simp only
  cases Bj d r with
  | none=>exact Iff.rfl
  | some g =>
   cases g with
   | var T cs=>exact Iff.rfl
   | row T sz es=>exact Iff.rfl
   | lrow T sz f es=>exact Iff.rfl
   | obj o=>exact Iff.rfl
 | _=>exact Iff.rfl
theorem Ii {o q:Operand}:stA P ty ⟨t,r⟩ o q J (.ptr d i j)=stR P ty ⟨t,r⟩ o q d i j J (Bj d r):=(rfl)
theorem Ef {o q:Operand}:stR P ty ⟨t,r⟩ o q d i j J (some (.var T ls))=H9 (Jw ((St.mk t r).get q)) (kst P ty d i j T ls ⟨t,r⟩ J):=(rfl)
theorem Oy {o q:Operand}:stR P ty ⟨t,r⟩ o q d i j J (some (.row T sz es))=Joc P ty o q d i j T sz es J (St.freezeOps ⟨t,r⟩ [q]):=(rfl)
def frz (s:St) (xs:List Operand):L→St
 | .own d _ _=>if d<1000 then (s.freeze d).freezeOps xs else s.freezeOps xs
 | .mref d=>if d<1000 then (s.freeze d).freezeOps xs else s.freezeOps xs
 | _=>s.freezeOps xs
theorem Ag:St.freezeOps ⟨t,r⟩ []=⟨t,r⟩:=(rfl)
theorem Ae {o:Operand} {os:List Operand}:St.freezeOps ⟨t,r⟩ (o :: os)=frz ⟨t,r⟩ os ((St.mk t r).get o):=by
 simp only [St.freezeOps,frz]
 cases (St.mk t r).get o <;> rfl
theorem A3 {os:List Operand} {v:PV}:frz ⟨t,r⟩ os (.p v)=St.freezeOps ⟨t,r⟩ os:=(rfl)
theorem H1 {os:List Operand}:frz ⟨t,r⟩ os (.ptr d i j)=St.freezeOps ⟨t,r⟩ os:=(rfl)
theorem Xh {os:List Operand}:frz ⟨t,r⟩ os (.mref d)=if d<1000 then (St.freeze d ⟨t,r⟩).freezeOps os else St.freezeOps ⟨t,r⟩ os:=(rfl)
theorem Jd8 {os:List Operand} {g:FuncId} {ids:List Nat}:frz ⟨t,r⟩ os (.fn g ids)=St.freezeOps ⟨t,r⟩ os:=(rfl)
theorem E6 {os:List Operand} {o m:Nat}:frz ⟨t,r⟩ os (.own d o m)=if d<1000 then (St.freeze d ⟨t,r⟩).freezeOps os else St.freezeOps ⟨t,r⟩ os:=(rfl)
theorem Fu:St.freeze d ⟨t,r⟩=N6 d (fzOf (Bj d r)) ⟨t,r⟩:=(rfl)
theorem En:fzOf (some (.row T sz es))=some (.rw es):=(rfl)
theorem Jaz {m:List (PV×PV)}:fzOf (some (.obj (.mp m)))=some (.mp m):=(rfl)
theorem F4 {z:Fz}:N6 d (some z) ⟨t,r⟩=⟨t.map (L.freeze d z),K4 d z r⟩:=(rfl)
def callT (X:Cx) (s:St) (args:List Operand) (dst:Option Tmp) (J:St→Prop) (l:L):Prop :=
 match l with
 | .fn g ids=>Vk X (X.kind g) g ids args s dst J
 | _=>False
theorem Cf {f:Operand} {args:List Operand} {dst:Option Tmp}:Jo8 X ⟨t,r⟩ f args dst J=callT X ⟨t,r⟩ args dst J ((St.mk t r).get f):=(rfl)
theorem Bv {args:List Operand} {dst:Option Tmp} {g:FuncId} {ids:List Nat}:callT X ⟨t,r⟩ args dst J (.fn g ids)=Vk X (X.kind g) g ids args ⟨t,r⟩ dst J:=(rfl)
def Jr7 (X:Cx) (g:FuncId) (ids:List Nat) (args:List Operand) (dst:Option Tmp) (J:St→Prop) (s:St):Prop:=Xd X g (args.map s.get ++ ids.map fun d=>L.ptr d 0 0) s dst J
theorem Bi {args:List Operand} {dst:Option Tmp} {g:FuncId} {ids:List Nat}:Vk X 0 g ids args ⟨t,r⟩ dst J=Jr7 X g ids args dst J (St.freezeOps ⟨t,r⟩ args):=(rfl)
theorem Th {args:List Operand} {dst:Option Tmp} {g:FuncId} {ids:List Nat}:Vk X 1 g ids args ⟨t,r⟩ dst J=Jr7 X g ids args dst J ⟨t,r⟩:=(rfl)
theorem Jco {args:List Operand} {dst:Option Tmp} {g:FuncId}:Vk X 3 g [] args ⟨t,r⟩ dst J=lextR X g (args.map (St.mk t r).get) ⟨t,r⟩ dst J:=by
 show ([]=[]∧_)=_
 simp only [true_and]
theorem Jj7 {args:List Operand} {dst:Option Tmp} {g:FuncId}:Vk X 2 g [] args ⟨t,r⟩ dst J=lext X g (args.map (St.mk t r).get) ⟨t,r⟩ dst J:=by
 show ([]=[]∧_)=_
 simp only [true_and]
theorem Bz {args:List Operand} {dst:Option Tmp} {g:FuncId} {ids:List Nat}:Jr7 X g ids args dst J ⟨t,r⟩=Xd X g (args.map (St.mk t r).get ++ ids.map fun d=>L.ptr d 0 0) ⟨t,r⟩ dst J:=(rfl)
theorem Bx {ls:List L} {dst:Option Tmp} {g:FuncId}:Xd X g ls ⟨t,r⟩ dst J=Jal X g ls ⟨t,r⟩ (Jd2 (Mu [] (Jer ls)) r) dst J:=(rfl)
def Jfh (dst:Option Tmp) (K:St→Prop) (s:St) (l:L) (rs':Regs):Prop:=Jgm [] dst K s l rs'
theorem Fb {ls:List L} {ρ:Ren} {x:Nat×Nat} {dst:Option Tmp} {g:FuncId}:Jal X g ls ⟨t,r⟩ (x :: ρ) dst J=B2 X g (ls.map (L.map (upId (x :: ρ)))) (Lq (x :: ρ) r) (Jgm (x :: ρ) dst J ⟨t,r⟩):=(rfl)
theorem Jfc:∀ (r:Regs),Lq [] r=[]
 | []=>rfl
 | (d,q) :: r=>by simp [Lq,upId,Jfc r]
theorem A4 {ls:List L} {dst:Option Tmp} {g:FuncId}:Jal X g ls ⟨t,r⟩ [] dst J=B2 X g (ls.map (L.map (upId []))) [] (Jfh dst J ⟨t,r⟩):=by
 unfold Jal Jfh
 rw [Jfc]
theorem Jb3:∀ (l:L),l.map (L3 [])=l:=by
 have h:∀ ds,Gv (L3 []) ds=some ds:=by
  intro ds
  induction ds with
  | nil=>rfl
  | cons d ds ih=>simp only [Gv,ih];simp [L3]
 intro l
 cases l with
 | ptr d i j=>rfl
 | own d i j=>rfl
 | mref d=>rfl
 | fn g ds=>simp [L.map,h,L.fnO]
 | cfn g ds=>simp [L.map,h,L.cfnO]
 | _=>rfl
theorem Jlw (q:Reg):q.map (L3 [])=q:=by
 cases q with
 | var T cs=>simp only [Reg.map];congr 1;exact (List.map_congr_left fun l _=>Jb3 l).trans (List.map_id _)
 | lrow T sz f es =>
  simp only [Reg.map];congr 1
  refine (List.map_congr_left fun e _=>?_).trans (List.map_id _)
  exact (List.map_congr_left fun l _=>Jb3 l).trans (List.map_id _)
 | _=>rfl
theorem Jc9:∀ (r:Regs),L0 [] none [] [] r=r
 | []=>rfl
 | (d,q) :: r=>by simp only [L0,Zd,upId,if_true,Jlw,Jc9 r]
theorem after_id (s:St):s.after [] none []=s:=by
 obtain ⟨t,r⟩:=s
 simp only [St.after,Mc,Ra,List.filter_nil,List.map_nil,List.nil_append,Jc9]
 congr 1
 exact (List.map_congr_left fun l _=>Jb3 l).trans (List.map_id _)
def noId (_:Nat):Option Nat:=none
theorem Bp {dst:Option Tmp} {l:L}:Jfh dst J ⟨t,r⟩ l []=J ((St.mk t r).put dst (l.map noId)):=by
 unfold Jfh Jgm
 have e:Oi dst []=none:=rfl
 rw [e,after_id]
 have e2:Md [] none=noId:=by funext n;rfl
 rw [e2]
theorem Iw {dst:Option Tmp} {l:L} {rs':Regs} {x:Nat×Reg}:Jfh dst J ⟨t,r⟩ l (x :: rs')=Jgm [] dst J ⟨t,r⟩ l (x :: rs'):=(rfl)
theorem Ik {dst:Option Tmp} {l:L} {rs':Regs} {ρ:Ren}:Jgm ρ dst J ⟨t,r⟩ l rs'=J ((St.after ρ (Oi dst rs') rs' ⟨t,r⟩).put dst (l.map (Md ρ (Oi dst rs')))):=(rfl)
def Jmz (bad:List Nat) (t:List L):List L :=
 match bad with
 | []=>t
 | _=>t.map (L.map (L3 bad))
theorem Kt:Jmz [] t=t:=(rfl)
theorem D3 {b:Nat} {bs:List Nat}:Jmz (b :: bs) t=t.map (L.map (L3 (b :: bs))):=(rfl)
def Jk4 (bad:List Nat) (q:Reg):Reg :=
 match bad with
 | []=>q
 | _=>q.map (L3 bad)
theorem Jbv {q:Reg}:Jk4 [] q=q:=(rfl)
theorem Hq {b:Nat} {bs:List Nat} {q:Reg}:Jk4 (b :: bs) q=q.map (L3 (b :: bs)):=(rfl)
theorem regBy_eq {bad:List Nat} {q:Reg}:Jk4 bad q=q.map (L3 bad):=by
 cases bad with
 | nil=>exact (Jlw q).symm
 | cons=>rfl
def Sq:Ren→List Nat
 | []=>[]
 | (d,n) :: ρ=>if 500000≤n then d :: Sq ρ else Sq ρ
theorem Zm:∀ (ρ:Ren),(ρ.filter fun x=>decide (500000≤x.2)).map (·.1)=Sq ρ
 | []=>rfl
 | (d,n) :: ρ=>by
  simp only [Sq,List.filter_cons,decide_eq_true_eq]
  split <;> simp [Zm ρ]
theorem Gk {ρ:Ren}:Mc ρ none=Sq ρ:=Zm ρ
theorem G2 {ρ:Ren} {x:Nat}:Mc ρ (some x)=x :: Sq ρ:=by simp only [Mc,Zm]
theorem Dz:Sq []=[]:=(rfl)
theorem Es {ρ:Ren} {a b:Nat}:Sq ((a,b) :: ρ)=if 500000≤b then a :: Sq ρ else Sq ρ:=(rfl)
theorem Hk {ρ:Ren} {nw:Option Nat} {rs':Regs}:St.after ρ nw rs' ⟨t,r⟩=⟨Jmz (Mc ρ nw) t,Ra ρ nw rs' ++ L0 ρ nw (Mc ρ nw) rs' r⟩:=by
 simp only [St.after]
 congr 1
 cases Mc ρ nw with
 | nil=>exact (List.map_congr_left fun l _=>Jb3 l).trans (List.map_id _)
 | cons=>rfl
def newF (ρ:Ren) (d:Nat):Option Reg→Regs
 | some r=>[(d,r.map (Md ρ (some d)))]
 | none=>[]
theorem Hp {ρ:Ren} {rs':Regs}:Ra ρ none rs'=[]:=(rfl)
theorem H6 {ρ:Ren} {rs':Regs} {x:Nat}:Ra ρ (some x) rs'=newF ρ x (Bj 900 rs'):=by
 simp only [Ra,newF];cases Bj 900 rs' <;> rfl
theorem Lo {ρ:Ren} {x:Nat} {q:Reg}:newF ρ x (some q)=[(x,q.map (Md ρ (some x)))]:=(rfl)
def oldF (e:Nat) (ρ:Ren) (nw:Option Nat) (rest:Regs):Option Reg→Regs
 | some r=>(e,r.map (Md ρ nw)) :: rest
 | none=>rest
def oldN (e:Nat) (q:Reg) (ρ:Ren) (nw:Option Nat) (bad:List Nat) (rs' rest:Regs):Option Nat→Regs
 | some n=>oldF e ρ nw rest (Bj n rs')
 | none=>(e,Jk4 bad q) :: rest
theorem Fm {ρ:Ren} {nw:Option Nat} {bad:List Nat} {rs':Regs}:L0 ρ nw bad rs' []=[]:=(rfl)
theorem Fh {ρ:Ren} {nw:Option Nat} {bad:List Nat} {rs':Regs} {e:Nat} {q:Reg}:L0 ρ nw bad rs' ((e,q) :: r)=if Zd nw e=true then oldN e q ρ nw bad rs' (L0 ρ nw bad rs' r) (upId ρ e) else L0 ρ nw bad rs' r:=by
 simp only [L0,oldN,oldF,regBy_eq]
 split
 ·cases upId ρ e with
  | none=>rfl
  | some n=>simp only;cases Bj n rs' <;> rfl
 ·rfl
theorem Fs {ρ:Ren} {nw:Option Nat} {bad:List Nat} {rs' rest:Regs} {e n:Nat} {q:Reg}:oldN e q ρ nw bad rs' rest (some n)=oldF e ρ nw rest (Bj n rs'):=(rfl)
theorem Ih {ρ:Ren} {nw:Option Nat} {bad:List Nat} {rs' rest:Regs} {e:Nat} {q:Reg}:oldN e q ρ nw bad rs' rest none=(e,Jk4 bad q) :: rest:=(rfl)
theorem Fx {ρ:Ren} {nw:Option Nat} {rest:Regs} {e:Nat} {q:Reg}:oldF e ρ nw rest (some q)=(e,q.map (Md ρ nw)) :: rest:=(rfl)
theorem Mg {ρ:Ren} {nw:Option Nat} {rest:Regs} {e:Nat}:oldF e ρ nw rest none=rest:=(rfl)
theorem Fv {e:Nat}:Zd none e=true:=(rfl)
theorem Hs {x e:Nat}:Zd (some x) e=decide (e≠x):=(rfl)
def newO (dst:Option Tmp):Bool→Option Nat
 | true=>some (match dst with | some d=>if d<900 then d else 990 | none=>990)
 | false=>none
theorem Hl {dst:Option Tmp} {rs':Regs}:Oi dst rs'=newO dst (findKey 900 rs'):=by
 simp only [Oi,newO];cases findKey 900 rs' <;> rfl
theorem Jd {dst:Option Tmp}:newO dst false=none:=(rfl)
theorem Jz {x:Tmp}:newO (some x) true=some (if x<900 then x else 990):=(rfl)
theorem Jfu:newO none true=some 990:=(rfl)
theorem D6 {e:Nat}:findKey e []=false:=(rfl)
theorem Bu {e a:Nat} {q:Reg}:findKey e ((a,q) :: r)=if a=e then true else findKey e r:=(rfl)
theorem Jt {e:Nat}:upId [] e=none:=(rfl)
theorem D7 {ρ:Ren} {a b e:Nat}:upId ((a,b) :: ρ) e=if a=e then some b else upId ρ e:=(rfl)
theorem Iu {ρ:Ren} {a b e:Nat}:dnId ((a,b) :: ρ) e=if b=e then some a else dnId ρ e:=(rfl)
def Js8 (x:Nat):Option Nat→Option Nat
 | some e=>if e=x then none else some e
 | none=>none
theorem Ip {ρ:Ren} {e:Nat}:Md ρ none e=dnId ρ e:=(rfl)
theorem Hm {ρ:Ren} {x e:Nat}:Md ρ (some x) e=if e=900 then some x else Js8 x (dnId ρ e):=by
 simp only [Md,Js8];cases dnId ρ e <;> rfl
theorem Nz {x e:Nat}:Js8 x (some e)=if e=x then none else some e:=(rfl)
theorem Ft {b:Nat} {bs:List Nat} {e:Nat}:L3 (b :: bs) e=if e=b then none else L3 bs e:=by
 simp only [L3,List.contains_cons,Bool.or_eq_true,beq_iff_eq]
 by_cases h:e=b <;> simp [h]
theorem Gl {e:Nat}:L3 [] e=some e:=(rfl)
theorem Fn {a b e:Nat}:Pt a b e=if e=a then some b else if e=b then none else some e:=(rfl)
theorem Gn {ρ:Ren}:Lq ρ []=[]:=(rfl)
def upF (ρ:Ren) (q:Reg) (rest:Regs):Option Nat→Regs
 | some n=>(n,q.map (upId ρ)) :: rest
 | none=>rest
theorem Fr {ρ:Ren} {a:Nat} {q:Reg}:Lq ρ ((a,q) :: r)=upF ρ q (Lq ρ r) (upId ρ a):=by
 simp only [Lq,upF];cases upId ρ a <;> rfl
theorem Fq {ρ:Ren} {q:Reg} {rest:Regs} {e:Nat}:upF ρ q rest (some e)=(e,q.map (upId ρ)) :: rest:=(rfl)
theorem J5 {ρ:Ren} {q:Reg} {rest:Regs}:upF ρ q rest none=rest:=(rfl)
theorem Eg {f:Nat→Option Nat}:Reg.map f (.var T ls)=.var T (ls.map (L.map f)):=(rfl)
theorem Di {f:Nat→Option Nat}:Reg.map f (.row T sz es)=.row T sz es:=(rfl)
theorem P0 {f:Nat→Option Nat} {fu:Bool} {ll:List (List L)}:Reg.map f (.lrow T sz fu ll)=.lrow T sz fu (ll.map fun e=>e.map (L.map f)):=(rfl)
theorem Yg {f:Nat→Option Nat} {o:PObj}:Reg.map f (.obj o)=.obj o:=(rfl)
theorem B6 {f:Nat→Option Nat} {v:PV}:L.map f (.p v)=.p v:=(rfl)
theorem Fi {f:Nat→Option Nat}:L.map f (.ptr d i j)=L.ptrO (f d) i j:=(rfl)
theorem D2 {f:Nat→Option Nat} {o m:Nat}:L.map f (.own d o m)=L.ownO (f d) o m:=(rfl)
theorem T9 {f:Nat→Option Nat} {g:FuncId} {ids:List Nat}:L.map f (.fn g ids)=L.fnO g (Gv f ids):=(rfl)
theorem Jl {f:Nat→Option Nat}:L.map f (.eptr cs)=.eptr cs:=(rfl)
theorem Jpc {f:Nat→Option Nat} {l:Nat}:L.map f (.yld l)=.yld l:=(rfl)
theorem Et {f:Nat→Option Nat} {xs:List PV}:L.map f (.tup xs)=.tup xs:=(rfl)
theorem H7 {f:Nat→Option Nat}:L.map f .junk=.junk:=(rfl)
theorem Gw {e:Nat}:L.ptrO (some e) i j=.ptr e i j:=(rfl)
theorem Ey {e o m:Nat}:L.ownO (some e) o m=.own e o m:=(rfl)
theorem Y2 {g:FuncId} {ids:List Nat}:L.fnO g (some ids)=.fn g ids:=(rfl)
theorem Js1 {o m:Nat}:L.ownO none o m=.junk:=(rfl)
theorem Bh {ls:List L}:Jer ls=ls.flatMap L.ids:=(rfl)
theorem Az {old:List Nat}:Mu old []=[]:=(rfl)
theorem Ff {old:List Nat} {a:Nat} {ds:List Nat}:Mu old (a :: ds)=if old.contains a=true then Mu old ds else a :: Mu (a :: old) ds:=(rfl)
theorem A5:Jd2 [] r=[]:=(rfl)
theorem Fe {a:Nat} {ds:List Nat}:Jd2 (a :: ds) r=Jce (a :: ds) (Jia (a :: ds) (Z8 (a :: ds) r) r):=(rfl)
theorem Hj {D I:List Nat}:Jce D I=Rz 0 D ++ Px D.length I:=(rfl)
theorem Fd {m:Nat}:Rz m []=[]:=(rfl)
theorem Eu {m a:Nat} {ds:List Nat}:Rz m (a :: ds)=if m<400000 then (a,1000+m) :: Rz (m+1) ds else []:=(rfl)
theorem Fc {m:Nat}:Px m []=[]:=(rfl)
theorem H3 {m a:Nat} {ds:List Nat}:Px m (a :: ds)=if m<400000 then (a,if 1000≤a∧a<500000 then 1000+m else 500000+m) :: Px (m+1) ds else []:=(rfl)
theorem Ie {D:List Nat}:Z8 D r=Mu D (Qn D r):=(rfl)
theorem Ig {D I:List Nat}:Jia D I r=I ++ Mu (D ++ I) (Qn I r):=(rfl)
theorem Fa {ids:List Nat}:Qn ids []=[]:=(rfl)
theorem Ew {ids:List Nat} {a:Nat} {q:Reg}:Qn ids ((a,q) :: r)=if ids.contains a=true then q.ids ++ Qn ids r else Qn ids r:=(rfl)
theorem Jad:X3 d ⟨t,r⟩ J=(d<1000∧J ((St.newReg d (.obj (.mp [])) ⟨t,r⟩).put (some d) (.mref d))):=(rfl)
def rgT (d:Nat) (o:Option TypeDesc) (s:St) (l:L) (J:St→Prop):Prop :=
 match o,l with
 | some .string,.p (.str u)=>J ((s.newReg d (.obj (.sit u 0))).put (some d) (.ptr d 0 0))
 | some (.map _ _),.p .nmap=>J ((s.newReg d (.obj (.mit [] []))).put (some d) (.ptr d 0 0))
 | some (.map _ _),.p (.mp es)=>J ((s.newReg d (.obj (.mit es []))).put (some d) (.ptr d 0 0))
 | _,_=>False
theorem Wf {o:Operand}:Jjc P d ty ⟨t,r⟩ o J=(d<1000∧rgT d (P.underlying ty) ⟨t,r⟩ ((St.mk t r).get o) J):=(rfl)
theorem Vi:rgT d (some .string) ⟨t,r⟩ (.p (.str x)) J=J ((St.newReg d (.obj (.sit x 0)) ⟨t,r⟩).put (some d) (.ptr d 0 0)):=(rfl)
theorem Joq {k1 e1:TypeId} {m:List (PV×PV)}:rgT d (some (.map k1 e1)) ⟨t,r⟩ (.p (.mp m)) J=J ((St.newReg d (.obj (.mit m [])) ⟨t,r⟩).put (some d) (.ptr d 0 0)):=(rfl)
def nxT (s:St) (b:Bool) (N:St→L→Prop) (l:L):Prop :=
 match l with
 | .ptr d 0 0=>match Bj d s.regs,b with
  | some (.obj (.sit u pos)),true=>(pos<u.length→N { s with regs:=Iy d (.obj (.sit u (pos+(Utf8.decode ⟨⟨u⟩⟩ pos).2))) s.regs } (.tup [.bool true,.int .i64 pos,.int .i32 (Utf8.decode ⟨⟨u⟩⟩ pos).1])) ∧
    (¬ pos<u.length→N s (.tup [.bool false]))
  | some (.obj (.mit es seen)),false=>(∀ i p,es[i]? = some p→i ∉ seen→N { s with regs:=Iy d (.obj (.mit es (seen ++ [i]))) s.regs } (.tup [.bool true,p.1,p.2])) ∧
    ((∀ i,i<es.length→i∈seen)→N s (.tup [.bool false]))
  | _,_=>False
 | _=>False
def nxS (s:St) (d:Nat) (N:St→L→Prop):Option Reg→Prop
 | some (.obj (.sit u pos))=>if pos<u.length then N { s with regs:=Iy d (.obj (.sit u (pos+(Utf8.decode ⟨⟨u⟩⟩ pos).2))) s.regs } (.tup [.bool true,.int .i64 pos,.int .i32 (Utf8.decode ⟨⟨u⟩⟩ pos).1]) else N s (.tup [.bool false])
 | _=>False
def nxM (s:St) (d:Nat) (N:St→L→Prop):Option Reg→Prop
 | some (.obj (.mit es seen))=>(∀ i p,es[i]? = some p→i ∉ seen→N { s with regs:=Iy d (.obj (.mit es (seen ++ [i]))) s.regs } (.tup [.bool true,p.1,p.2])) ∧
    ((∀ i,i<es.length→i∈seen)→N s (.tup [.bool false]))
 | _=>False
variable {N:St→L→Prop}
theorem Vo {o:Operand} {b:Bool}:Jkh ⟨t,r⟩ o b N=nxT ⟨t,r⟩ b N ((St.mk t r).get o):=(rfl)
theorem Ty:nxT ⟨t,r⟩ true N (.ptr d 0 0)=nxS ⟨t,r⟩ d N (Bj d r):=by
 simp only [nxT,nxS]
 cases Bj d r with
 | none=>rfl
 | some g =>
  cases g with
  | obj o =>
   cases o with
   | sit u pos=>apply pe;by_cases h:pos<u.length <;> simp [h]
   | _=>rfl
  | _=>rfl
theorem Jp6:nxT ⟨t,r⟩ false N (.ptr d 0 0)=nxM ⟨t,r⟩ d N (Bj d r):=by
 simp only [nxT,nxM]
 cases Bj d r with
 | none=>rfl
 | some g =>
  cases g with
  | obj o=>cases o <;> rfl
  | _=>rfl
theorem Jew {pos:Nat}:nxS ⟨t,r⟩ d N (some (.obj (.sit x pos)))=if pos<x.length then N ⟨t,Iy d (.obj (.sit x (pos+(Utf8.decode ⟨⟨x⟩⟩ pos).2))) r⟩ (.tup [.bool true,.int .i64 pos,.int .i32 (Utf8.decode ⟨⟨x⟩⟩ pos).1]) else N ⟨t,r⟩ (.tup [.bool false]):=(rfl)
theorem
    u_nxM {m:List (PV×PV)} {seen:List Nat}:nxM ⟨t,r⟩ d N (some (.obj (.mit m seen)))=((∀ i p,m[i]? = some p→i ∉ seen→N ⟨t,Iy d (.obj (.mit m (seen ++ [i]))) r⟩ (.tup [.bool true,p.1,p.2])) ∧
    ((∀ i,i<m.length→i∈seen)→N ⟨t,r⟩ (.tup [.bool false]))):=(rfl)
def enT (r:Regs) (K:L→Prop) (l:L):Prop :=
 match l with
 | .ptr d 0 0=>match Bj d r with
  | some (.obj (.mit es seen))=>∃ i,seen.getLast? = some i∧∃ p,es[i]? = some p∧K (.tup [p.1,p.2])
  | _=>False
 | _=>False
def enM (K:L→Prop):Option Reg→Prop
 | some (.obj (.mit es seen))=>∃ i,seen.getLast? = some i∧∃ p,es[i]? = some p∧K (.tup [p.1,p.2])
 | _=>False
theorem Jp5 {o:Operand}:Jdq ⟨t,r⟩ o K=enT r K ((St.mk t r).get o):=(rfl)
theorem u_enT:enT r K (.ptr d 0 0)=enM K (Bj d r):=(rfl)
theorem u_enM {m:List (PV×PV)} {seen:List Nat} {q:Nat}:enM K (some (.obj (.mit m (seen ++ [q])))) = ∃ p,m[q]? = some p∧K (.tup [p.1,p.2]):=by
 apply pe
 simp [enM]
def muS (P:Program) (d:Nat) (s:St) (J:St→Prop) (es':List (PV×PV)):Prop:=J { s with regs:=Iy d (.obj (.mp es')) s.regs }
theorem Jn9 {m:List (PV×PV)}:muS P d ⟨t,r⟩ J m=J ⟨t,Iy d (.obj (.mp m)) r⟩:=(rfl)
def muR (P:Program) (d:Nat) (o:Option (TypeId×TypeId)) (lk lv:L) (s:St) (J:St→Prop) (q:Option Reg):Prop :=
 match q,o,lk,lv with
 | some (.obj (.mp es)),some (kt,_),.p kp,.p vp=>Ml P kt kp=true∧H9 (mput kp vp es) (muS P d s J)
 | _,_,_,_=>False
def muT (P:Program) (ty:TypeId) (k v:Operand) (J:St→Prop) (s:St) (l:L):Prop :=
 match l with
 | .mref d=>muR P d (mapT P ty) (s.get k) (s.get v) s J (Bj d s.regs)
 | _=>False
def muF (P:Program) (ty:TypeId) (m k v:Operand) (J:St→Prop) (s:St):Prop:=muT P ty k v J s (s.get m)
theorem Uy {o1 o2 o3:Operand}:Ns P ty ⟨t,r⟩ o1 o2 o3 J=muF P ty o1 o2 o3 J (St.freezeOps ⟨t,r⟩ [o3]):=by
 unfold Ns muF muT muR H9 muS
 generalize St.freezeOps ⟨t,r⟩ [o3]=s
 cases s.get o1 <;> rfl
theorem Jsj {o1 o2 o3:Operand}:muF P ty o1 o2 o3 J ⟨t,r⟩=muT P ty o2 o3 J ⟨t,r⟩ ((St.mk t r).get o1):=(rfl)
theorem u_muT {o2 o3:Operand}:muT P ty o2 o3 J ⟨t,r⟩ (.mref d)=muR P d (mapT P ty) ((St.mk t r).get o2) ((St.mk t r).get o3) ⟨t,r⟩ J (Bj d r):=(rfl)
theorem Jsb {kt et:TypeId} {v w:PV} {m:List (PV×PV)}:muR P d (some (kt,et)) (.p v) (.p w) ⟨t,r⟩ J (some (.obj (.mp m)))=(Ml P kt v=true∧H9 (mput v w m) (muS P d ⟨t,r⟩ J)):=(rfl)
def mdR (P:Program) (d:Nat) (o:Option (TypeId×TypeId)) (lk:L) (s:St) (J:St→Prop) (q:Option Reg):Prop :=
 match q,o,lk with
 | some (.obj (.mp es)),some (kt,_),.p kp=>Ml P kt kp=true∧H9 (mdel kp es) (muS P d s J)
 | _,_,_=>False
def mdT (P:Program) (ty:TypeId) (k:Operand) (J:St→Prop) (s:St) (l:L):Prop :=
 match l with
 | .mref d=>mdR P d (mapT P ty) (s.get k) s J (Bj d s.regs)
 | _=>False
theorem Jlr {o1 o2:Operand}:V4 P ty ⟨t,r⟩ o1 o2 J=mdT P ty o2 J ⟨t,r⟩ ((St.mk t r).get o1):=by
 unfold V4 mdT mdR H9 muS
 cases (St.mk t r).get o1 <;> rfl
theorem u_mdT {o2:Operand}:mdT P ty o2 J ⟨t,r⟩ (.mref d)=mdR P d (mapT P ty) ((St.mk t r).get o2) ⟨t,r⟩ J (Bj d r):=(rfl)
theorem u_mdR {kt et:TypeId} {v:PV} {m:List (PV×PV)}:mdR P d (some (kt,et)) (.p v) ⟨t,r⟩ J (some (.obj (.mp m)))=(Ml P kt v=true∧H9 (mdel v m) (muS P d ⟨t,r⟩ J)):=(rfl)
def lkV (ok:Bool) (K:L→Prop) (z:PV) (q:Option (Nat×PV)):Prop :=
 K
  (match q,ok with
  | some (_,v),true=>.tup [v,.bool true]
  | none,true=>.tup [z,.bool false]
  | some (_,v),false=>.p v
  | none,false=>.p z)
def lkZ (oz:Option PV) (ok:Bool) (K:L→Prop) (q:Option (Nat×PV)):Prop:=∃ z,oz=some z∧lkV ok K z q
def lkT (P:Program) (om:Option (TypeId×TypeId)) (oe:Option (List (PV×PV))) (ix:L) (ok:Bool) (K:L→Prop):Prop :=
 match om,oe,ix with
 | some (kt,et),some es,.p k=>Ml P kt k=true∧H9 (K2 k es 0) (lkZ (Pe P et) ok K)
 | _,_,_=>False
theorem S9 {o1 o2:Operand} {b:Bool}:lqvK P r ⟨t,r⟩ (.lookup ty o1 o2 b) K=lkT P (mapT P ty) (Jgt r ((St.mk t r).get o1)) ((St.mk t r).get o2) b K:=by
 apply pe
 show (∃ l,Jkw P r ty ((St.mk t r).get o1) ((St.mk t r).get o2) b l∧K l) ↔ _
 unfold Jkw lkT
 generalize mapT P ty=a
 generalize Jgt r ((St.mk t r).get o1)=c
 generalize (St.mk t r).get o2=q
 cases a with
 | none=>simp
 | some a =>
  cases c with
  | none=>simp
  | some c =>
   cases q <;> simp only [false_and,exists_false,H9,lkZ,lkV]
   constructor
   ·rintro ⟨l,⟨h1,q,h2,z,h3,rfl⟩,hK⟩;exact ⟨h1,q,h2,z,h3,hK⟩
   ·rintro ⟨h1,q,h2,z,h3,hK⟩;exact ⟨_,⟨h1,q,h2,z,h3,rfl⟩,hK⟩
theorem Jgk {kt et:TypeId} {m:List (PV×PV)} {v:PV} {b:Bool}:lkT P (some (kt,et)) (some m) (.p v) b K=(Ml P kt v=true∧H9 (K2 v m 0) (lkZ (Pe P et) b K)):=(rfl)
theorem Jlm {z:PV} {b:Bool} {q:Option (Nat×PV)}:lkZ (some z) b K q=lkV b K z q:=pe ⟨fun ⟨_,h,hc⟩=>by cases h;exact hc,fun h=>⟨z,rfl,h⟩⟩
theorem Jfd {z v:PV} {i:Nat}:lkV true K z (some (i,v))=K (.tup [v,.bool true]):=(rfl)
theorem Jfk {z:PV}:lkV true K z none=K (.tup [z,.bool false]):=(rfl)
theorem Pw {m:List (PV×PV)}:Jgt r (.p (.mp m))=some m:=(rfl)
def kfitO (o:Option TypeDesc) (v:PV):Bool:=match o with | some d=>kfit d v | none=>false
theorem O8 {kt:TypeId} {v:PV}:Ml P kt v=kfitO (P.underlying kt) v:=(rfl)
theorem Mk {q q':IntKind} {n:Int}:kfitO (some (.int q)) (.int q' n)=(q == q'):=(rfl)
theorem Jpe {k:IntKind}:(∃ d,some (TypeDesc.int k)=some d∧∀ ms,¬ d=.interface ms)=True:=eq_true ⟨_,rfl,fun _ h=>by cases h⟩
theorem Jpf {T:TypeId} {q:IntKind} {n:Int}:X4 T (.p (.int q n))=.ifi T q n:=(rfl)
theorem Jb9 {o:Operand}:lqvK P r ⟨t,r⟩ (.makeInterface ty o) K=((∃ d,P.underlying ty=some d∧∀ ms,d≠.interface ms)∧K (.p (X4 ty ((St.mk t r).get o)))):=by
 apply pe
 constructor
 ·rintro ⟨l,⟨h,rfl⟩,hK⟩;exact ⟨h,hK⟩
 ·rintro ⟨h,hK⟩;exact ⟨_,⟨h,rfl⟩,hK⟩
def usdV (K:L→Prop) (l:L):Prop :=
 match l with
 | .p .snil=>K (.p .nptr)
 | .own d off n=>0<n∧K (.ptr d off 0)
 | _=>False
theorem u_usd {o:Operand}:lqvK P r ⟨t,r⟩ (.call { callee:=.builtin .unsafeSliceData,args:=#[o],argTypes:=#[ty] }) K=usdV K ((St.mk t r).get o):=by
 apply pe
 show (∃ l,(match (St.mk t r).get o with | .p .snil=>l=.p .nptr | .own d off n=>0<n∧l=.ptr d off 0 | _=>False)∧K l) ↔ _
 unfold usdV
 split
 ·constructor
  ·rintro ⟨l,rfl,h⟩;exact h
  ·intro h;exact ⟨_,rfl,h⟩
 ·constructor
  ·rintro ⟨l,⟨h1,rfl⟩,h⟩;exact ⟨h1,h⟩
  ·rintro ⟨h1,h⟩;exact ⟨_,⟨h1,rfl⟩,h⟩
 ·simp
theorem Jff:usdV K (.p .snil)=K (.p .nptr):=(rfl)
theorem Jdw {o m:Nat}:usdV K (.own d o m)=(0<m∧K (.ptr d o 0)):=(rfl)
theorem Jdb {dst:Option Tmp} {o2:Operand} {t1:TypeId}:Joj X t1 dst o2 J ⟨t,r⟩ (.p .nptr)=((∃ k,(St.mk t r).get o2=.p (.int k 0))∧J ((St.mk t r).put dst (.p (.str [])))):=(rfl)
theorem Jeb {dst:Option Tmp} {o2:Operand} {t1:TypeId}:Joj X t1 dst o2 J ⟨t,r⟩ (.ptr d 0 0)=usT X.P (X.P.underlying t1) d ⟨t,r⟩ (kput dst J) ((St.mk t r).get o2):=(rfl)
theorem u_usT {o:Option TypeDesc} {v:Int}:usT P o d ⟨t,r⟩ N (.p (.int .i64 v))=usR P o d v ⟨t,r⟩ N (Bj d r):=(rfl)
def usB (d:Nat) (n:Int) (s:St) (N:St→L→Prop) (bs:List UInt8):Prop:=n=bs.length∧bs≠[]∧bs.length≤9223372036854775807∧N (s.forget d) (.p (.str bs))
theorem u_usB {v:Int} {bs:List UInt8}:usB d v ⟨t,r⟩ N bs=(v=bs.length∧bs≠[]∧bs.length≤9223372036854775807∧N (St.forget d ⟨t,r⟩) (.p (.str bs))):=(rfl)
theorem u_usR {o:Option TypeDesc} {v:Int}:usR P o d v ⟨t,r⟩ N (some (.row T 1 es))=(o=some (.pointer T)∧P.cellsOf T=1∧H9 (Lk es) (usB d v ⟨t,r⟩ N)):=(rfl)
def kmk (d:Nat) (e:TypeId) (sz:Nat) (s:St) (n:Nat) (J:St→Prop) (zs:List PV):Prop:=zs.length=sz∧J ((s.newReg d (.row e sz (List.replicate n zs))).put (some d) (.own d 0 n))
theorem u_kmk {zs:List PV}:kmk d e sz ⟨t,r⟩ n J zs=(zs.length=sz∧J ((St.newReg d (.row e sz (List.replicate n zs)) ⟨t,r⟩).put (some d) (.own d 0 n))):=(rfl)
def fits (b:Option Nat) (c lim:Int):Prop:=∃ x,b=some x∧(x:Int) * c≤lim
theorem Jst {x:Nat} {c lim:Int}:fits (some x) c lim=((x:Int) * c≤lim):=pe ⟨fun ⟨_,h,hc⟩=>by cases h;exact hc,fun h=>⟨x,rfl,h⟩⟩
def mkT (P:Program) (d:Nat) (o:Option (TypeId×Nat)) (s:St) (l c:L) (J:St→Prop):Prop :=
 match o,l,c with
 | some (e,sz),.p (.int _ l),.p (.int _ c)=>0≤l∧l≤c∧fits (Ic P e) c 281474976710656∧c≤9223372036854775807∧H9 (Jf P e) (kmk d e sz s l.toNat J)
 | _,_,_=>False
theorem Jbb {l c:Operand}:R4 P d ty ⟨t,r⟩ l c J=(d<1000∧mkT P d (slE P ty) ⟨t,r⟩ ((St.mk t r).get l) ((St.mk t r).get c) J):=by
 unfold R4 mkT fits H9 kmk
 rfl
theorem u_mkT:mkT P d (some (e,sz)) ⟨t,r⟩ (.p (.int k a)) (.p (.int k' b)) J=(0≤a∧a≤b∧fits (Ic P e) b 281474976710656∧b≤9223372036854775807∧H9 (Jf P e) (kmk d e sz ⟨t,r⟩ a.toNat J)):=(rfl)
def kbs2 (d:Nat) (e:TypeId) (sz n:Nat) (s:St) (J:St→Prop) (es:List (List PV)):Prop:=J ((s.newReg d (.row e sz es)).put (some d) (.own d 0 n))
theorem Ht:kbs2 d e sz n ⟨t,r⟩ J es=J ((St.newReg d (.row e sz es) ⟨t,r⟩).put (some d) (.own d 0 n)):=(rfl)
def kbs (d:Nat) (e:TypeId) (sz n:Nat) (parts:List (Nat×Operand)) (J:St→Prop) (s:St):Prop :=
 U9 0 (parts.map fun (i,x)=>(i,s.get x))=true∧H9 (M6 sz (parts.map fun (i,x)=>(i,s.get x))) (kbs2 d e sz n s J)
theorem Ji {parts:List (Nat×Operand)}:kbs d e sz n parts J ⟨t,r⟩=(U9 0 (parts.map fun (i,x)=>(i,(St.mk t r).get x))=true∧H9 (M6 sz (parts.map fun (i,x)=>(i,(St.mk t r).get x))) (kbs2 d e sz n ⟨t,r⟩ J)):=(rfl)
def zok (o:Option (List PV)) (sz:Nat):Prop:=∃ zs,o=some zs∧zs.length=sz
theorem Il {zs:List PV}:zok (some zs) sz=(zs.length=sz):=pe ⟨fun ⟨_,h,hc⟩=>by cases h;exact hc,fun h=>⟨zs,rfl,h⟩⟩
def bsT (P:Program) (d:Nat) (o:Option (TypeId×Nat)) (n:Nat) (s:St) (parts:List (Nat×Operand)) (J:St→Prop):Prop :=
 match o with
 | some (e,sz)=>n * sz≤16777216∧zok (Jf P e) sz∧parts.length=n∧kbs d e sz n parts J (s.freezeOps (parts.map (·.2)))
 | none=>False
theorem Dg {parts:List (Nat×Operand)}:Qh P d ty n ⟨t,r⟩ parts J=(d<1000∧n≤16777216∧bsT P d (slE P ty) n ⟨t,r⟩ parts J):=by
 unfold Qh bsT kbs kbs2 H9 zok
 rfl
theorem Jg {parts:List (Nat×Operand)}:bsT P d (some (e,sz)) n ⟨t,r⟩ parts J=(n * sz≤16777216∧zok (Jf P e) sz∧parts.length=n∧kbs d e sz n parts J (St.freezeOps ⟨t,r⟩ (parts.map (·.2)))):=(rfl)
theorem Gp:U9 n []=true:=(rfl)
theorem Gr {x:L} {rest:List (Nat×L)}:U9 n ((i,x) :: rest)=(i == n && U9 (n+1) rest):=(rfl)
def ppA:Option (List L)→Option (List PV)
 | some xs=>Gv L.pure? xs
 | none=>none
theorem Gs {xs:List L}:ppA (some xs)=Gv L.pure? xs:=(rfl)
def ppC (sz:Nat) (o:Option (List PV)) (os:Option (List (List PV))):Option (List (List PV)) :=
 match o,os with
 | some ps,some es=>if ps.length=sz then some (ps :: es) else none
 | _,_=>none
theorem Gu {ps:List PV}:ppC sz (some ps) (some es)=if ps.length=sz then some (ps :: es) else none:=(rfl)
theorem Hu:M6 sz []=some []:=(rfl)
theorem Ho {x:L} {rest:List (Nat×L)}:M6 sz ((i,x) :: rest)=ppC sz (ppA (Jw x)) (M6 sz rest):=by
 simp only [M6,ppC,ppA]
 cases Jw x with
 | none=>rfl
 | some xs =>
  simp only
  cases Gv L.pure? xs with
  | none=>rfl
  | some ps =>
   simp only
   cases M6 sz rest with
   | none=>split <;> rfl
   | some es=>rfl
def Vb (b:Option Nat) (m:Nat):Prop:=∃ x,b=some x∧m * x≤140737488355328
theorem Hc {m x:Nat}:Vb (some x) m=(m * x≤140737488355328):=pe ⟨fun ⟨_,h,hc⟩=>by cases h;exact hc,fun h=>⟨x,rfl,h⟩⟩
def apX (P:Program) (tt:Prop) (d:Nat) (e sz:Nat) (s:St) (lx:L) (J:St→Prop) (es':List (List PV)):Prop :=
 (∀ q∈es',q.length=sz)∧match lx with
  | .own d0 0 n=>match Bj d0 s.regs with
   | some (.row T sz' es)=>T=e∧sz'=sz∧es.length=n∧(∃ b,Ic P e=some b∧(n+es'.length) * b≤140737488355328)∧n+es'.length≤9223372036854775807 ∧
     J (((s.forget d0).newReg d (.row e sz (es ++ es'))).put (some d) (.own d 0 (n+es'.length)))
   | some (.lrow T sz' true es)=>T=e∧sz'=sz∧tt∧P8 P d e sz s n es es' J
   | _=>False
  | .p .snil=>(∃ b,Ic P e=some b∧es'.length * b≤140737488355328)∧es'.length≤9223372036854775807∧J ((s.newReg d (.row e sz es')).put (some d) (.own d 0 es'.length))
  | _=>False
def apR (P:Program) (tt:Prop) (b:Option Nat) (d:Nat) (e sz:Nat) (s:St) (d0 n:Nat) (J:St→Prop) (es':List (List PV)) (q:Option Reg):Prop :=
 match q with
 | some (
     .row T sz' es)=>T=e∧sz'=sz∧es.length=n∧Vb b (n+es'.length)∧n+es'.length≤9223372036854775807 ∧
     J (((s.forget d0).newReg d (.row e sz (es ++ es'))).put (some d) (.own d 0 (n+es'.length)))
 | some (.lrow T sz' true es)=>T=e∧sz'=sz∧tt∧P8 P d e sz s n es es' J
 | _=>False
def apZR (P:Program) (d e sz:Nat) (s:St) (m:Int) (J:St→Prop) (n:Nat) (zs:List PV):Option Reg→Prop
 | some (.lrow T sz' true es)=>T=e∧sz'=sz∧P8 P d e sz s n es (List.replicate m.toNat zs) J
 | _=>False
def apZN (bb:Option Nat) (d e sz:Nat) (s:St) (m:Int) (J:St→Prop) (zs:List PV):Prop :=
 zs.length=sz∧Vb bb m.toNat∧m≤9223372036854775807∧J ((s.newReg d (.row e sz [])).put (some d) (.own d 0 m.toNat))
def apZX (P:Program) (d e sz:Nat) (s:St) (m:Int) (J:St→Prop) (lx:L) (zs:List PV):Prop :=
 match lx with
  | .own d0 0 n=>sz=1∧zs.length=1∧apZR P d e sz s m J n zs (Bj d0 s.regs)
  | .p .snil=>apZN (Ic P e) d e sz s m J zs
  | _=>False
def Jlb:Option TypeDesc→Prop
 | some (.int _)=>True
 | _=>False
theorem Jb2:Jlb (some (.int k))=True:=(rfl)
def apT (P:Program) (t1 t2:TypeId) (d:Nat) (o:Option (TypeId×Nat)) (s:St) (lx ly:L) (J:St→Prop):Prop :=
 match o with
 | some (e,sz)=>match ly with
  | .p (.int _ m)=>Jlb (P.underlying t2)∧0<m∧H9 (Jf P e) (apZX P d e sz s m J lx)
  | _=>zok (Jf P e) sz∧H9 (Rp P t1 t2 e s ly) (apX P (t1=t2) d e sz s lx J)
 | none=>False
theorem F5 {t1 t2:TypeId} {o q:Operand}:We P d t1 t2 ⟨t,r⟩ o q J=(d<1000∧apT P t1 t2 d (slE P t1) ⟨t,r⟩ ((St.mk t r).get o) ((St.mk t r).get q) J):=by
 unfold We
 split
 ·rename_i kq m hg
  rw [hg]
  unfold apT
  cases slE P t1 with
  | none=>rfl
  | some p =>
   obtain ⟨e,sz⟩:=p
   simp only [Jkb,H9,apZX,apZN,Vb]
   have h1:(∃ k,P.underlying t2=some (.int k)) ↔ Jlb (P.underlying t2):=by
    unfold Jlb
    split
    ·rename_i k h;exact ⟨fun _=>trivial,fun _=>⟨k,h⟩⟩
    ·rename_i h;exact ⟨fun ⟨k,hk⟩=>h k hk,fun h=>h.elim⟩
   rw [h1]
   rfl
 ·rename_i h
  unfold Jcy apT
  cases slE P t1 with
  | none=>rfl
  | some p =>
   obtain ⟨e,sz⟩:=p
   generalize (St.mk t r).get q=ly at *
   cases ly with
   | p x =>
    cases x with
    | int k m=>exact (h _ _ rfl).elim
    | _=>unfold apX zok H9;rfl
   | _=>unfold apX zok H9;rfl
theorem Wa {t1 t2:TypeId} {lx:L} {m:Int}:apT P t1 t2 d (some (e,sz)) ⟨t,r⟩ lx (.p (.int k m)) J=(Jlb (P.underlying t2)∧0<m∧H9 (Jf P e) (apZX P d e sz ⟨t,r⟩ m J lx)):=(rfl)
theorem Jot {m:Int} {zs:List PV}:apZX P d e sz ⟨t,r⟩ m J (.p .snil) zs=(zs.length=sz∧Vb (Ic P e) m.toNat∧m≤9223372036854775807∧J ((St.newReg d (.row e sz []) ⟨t,r⟩).put (some d) (.own d 0 m.toNat))):=(rfl)
theorem Jnb {m:Int} {d0:Nat} {zs:List PV}:apZX P d e sz ⟨t,r⟩ m J (.own d0 0 n) zs=(sz=1∧zs.length=1∧apZR P d e sz ⟨t,r⟩ m J n zs (Bj d0 r)):=(rfl)
theorem Jn5 {m:Int} {zs:List PV} {sz':Nat} {ls:List (List L)}:apZR P d e sz ⟨t,r⟩ m J n zs (some (.lrow T sz' true ls))=(T=e∧sz'=sz∧P8 P d e sz ⟨t,r⟩ n ls (List.replicate m.toNat zs) J):=(rfl)
theorem Jam {t1 t2:TypeId} {lx:L}:apT P t1 t2 d (some (e,sz)) ⟨t,r⟩ lx (.p (.str x)) J=(zok (Jf P e) sz∧H9 (Rp P t1 t2 e ⟨t,r⟩ (.p (.str x))) (apX P (t1=t2) d e sz ⟨t,r⟩ lx J)):=(rfl)
theorem P9 {t1 t2:TypeId} {lx:L}:apT P t1 t2 d (some (e,sz)) ⟨t,r⟩ lx (.p (.sl es)) J=(zok (Jf P e) sz∧H9 (Rp P t1 t2 e ⟨t,r⟩ (.p (.sl es))) (apX P (t1=t2) d e sz ⟨t,r⟩ lx J)):=(rfl)
theorem G5 {t1 t2:TypeId} {lx:L} {d0 o m:Nat}:apT P t1 t2 d (some (e,sz)) ⟨t,r⟩ lx (.own d0 o m) J=(zok (Jf P e) sz∧H9 (Rp P t1 t2 e ⟨t,r⟩ (.own d0 o m)) (apX P (t1=t2) d e sz ⟨t,r⟩ lx J)):=(rfl)
def strSrc (o1 o2:Option TypeDesc) (b:Option Nat) (z:Option PV) (bs:List UInt8):Option (List (List PV)) :=
 match o1,o2,b,z with
 | some .string,some (.int .u8),some 1,some (.int .u8 0)=>some (bs.map fun c=>[.int .u8 c.toNat])
 | _,_,_,_=>none
theorem T6 {t1 t2:TypeId}:Rp P t1 t2 e ⟨t,r⟩ (.p (.str x))=strSrc (P.underlying t2) (P.underlying e) (Ic P e) (Pe P e) x:=(rfl)
theorem Je7:strSrc (some .string) (some (.int .u8)) (some 1) (some (.int .u8 0)) x=some (x.map fun c=>[.int .u8 c.toNat]):=(rfl)
theorem Me {t1 t2:TypeId}:Rp P t1 t2 e ⟨t,r⟩ (.p (.sl es))=if t1=t2 then some es else none:=(rfl)
theorem E1 {t1 t2:TypeId} {o m:Nat}:Rp P t1 t2 e ⟨t,r⟩ (.own d o m)=if t1=t2 then R2 ⟨t,r⟩ (.own d o m) else none:=(rfl)
theorem Gg {tt:Prop} {d0:Nat}:apX P tt d e sz ⟨t,r⟩ (.own d0 0 n) J es=((∀ q∈es,q.length=sz)∧apR P tt (Ic P e) d e sz ⟨t,r⟩ d0 n J es (Bj d0 r)):=by
 unfold apX apR Vb
 rfl
theorem Rf {tt:Prop}:apX P tt d e sz ⟨t,r⟩ (.p .snil) J es=((∀ q∈es,q.length=sz)∧Vb (Ic P e) es.length∧es.length≤9223372036854775807∧J ((St.newReg d (.row e sz es) ⟨t,r⟩).put (some d) (.own d 0 es.length))):=(rfl)
theorem Kz {tt:Prop} {bb:Option Nat} {es':List (List PV)} {d0 sz':Nat}:apR P tt bb d e sz ⟨t,r⟩ d0 n J es' (some (.row T sz' es))=(T=e∧sz'=sz∧es.length=n∧Vb bb (n+es'.length)∧n+es'.length≤9223372036854775807 ∧
     J ((St.newReg d (.row e sz (es ++ es')) (St.forget d0 ⟨t,r⟩)).put (some d) (.own d 0 (n+es'.length)))):=(rfl)
def apG (bb:Option Nat) (d e sz:Nat) (s:St) (n:Nat) (es':List (List PV)) (J:St→Prop) (ps:List (List PV)):Prop :=
 Vb bb (n+es'.length)∧n+es'.length≤9223372036854775807∧J ((s.newReg d (.row e sz (ps ++ es'))).put (some d) (.own d 0 (n+es'.length)))
theorem Jta {es':List (List PV)} {ls:List (List L)}:P8 P d e sz ⟨t,r⟩ n ls es' J=(n≤ls.length∧0<ls.length∧ls.length<n+es'.length∧H9 (Kr (ls.take n)) (apG (Ic P e) d e sz ⟨t,r⟩ n es' J)):=by
 unfold P8 H9 apG Vb;rfl
theorem Jn6 {bb:Option Nat} {es' ps:List (List PV)}:apG bb d e sz ⟨t,r⟩ n es' J ps=(Vb bb (n+es'.length)∧n+es'.length≤9223372036854775807∧J ((St.newReg d (.row e sz (ps ++ es')) ⟨t,r⟩).put (some d) (.own d 0 (n+es'.length)))):=(rfl)
def cpD (s:St) (d off:Nat) (es':List (List PV)) (C:St→L→Prop):Option Reg→Prop
 | some (.row T sz' es)=>sz'=1∧off+es'.length≤es.length∧C { s with regs:=Iy d (.row T 1 (es.take off ++ es' ++ es.drop (off+es'.length))) s.regs } (.p (.int .i64 (es'.length:Nat)))
 | some (.lrow T sz' f es)=>sz'=1∧off+es'.length≤es.length∧C { s with regs:=Iy d (.lrow T 1 f (es.take off ++ es'.map (List.map L.p) ++ es.drop (off+es'.length))) s.regs } (.p (.int .i64 (es'.length:Nat)))
 | _=>False
def cpY (s:St) (d off:Nat) (ly:L) (C:St→L→Prop) (es':List (List PV)):Prop :=
 (∀ q∈es',q.length=1)∧Jaw s ly∧if es'.length=0 then C s (.p (.int .i64 0)) else cpD s d off es' C (Bj d s.regs)
def cpX (s:St) (lx ly:L) (C:St→L→Prop):Prop :=
 match lx with
 | .own d off len=>H9 (srcM s len ly) (cpY s d off ly C)
 | _=>False
def cpT (P:Program) (t1 t2:TypeId) (s:St) (lx ly:L) (C:St→L→Prop) (o:Option (TypeId×Nat)):Prop :=
 match o with
 | some (_,sz)=>sz=1∧t1=t2∧cpX s lx ly C
 | none=>False
theorem Xp {t1 t2:TypeId} {o q:Operand} {C:St→L→Prop}:Jgz P t1 t2 ⟨t,r⟩ o q C=cpT P t1 t2 ⟨t,r⟩ ((St.mk t r).get o) ((St.mk t r).get q) C (slE P t1):=by
 unfold Jgz cpT cpX H9 cpY
 cases slE P t1 with
 | none=>rfl
 | some p =>
  obtain ⟨e,sz⟩:=p
  rfl
theorem Jel {t1 t2:TypeId} {lx ly:L} {C:St→L→Prop}:cpT P t1 t2 ⟨t,r⟩ lx ly C (some (e,sz))=(sz=1∧t1=t2∧cpX ⟨t,r⟩ lx ly C):=(rfl)
theorem Jc2 {off len:Nat} {ly:L} {C:St→L→Prop}:cpX ⟨t,r⟩ (.own d off len) ly C=H9 (srcM ⟨t,r⟩ len ly) (cpY ⟨t,r⟩ d off ly C):=(rfl)
theorem Jea {off:Nat} {ly:L} {es':List (List PV)} {C:St→L→Prop}:cpY ⟨t,r⟩ d off ly C es'=((∀ q∈es',q.length=1)∧Jaw ⟨t,r⟩ ly∧if es'.length=0 then C ⟨t,r⟩ (.p (.int .i64 0)) else cpD ⟨t,r⟩ d off es' C (Bj d r)):=(rfl)
theorem Jku {off sz':Nat} {es':List (List PV)} {C:St→L→Prop}:cpD ⟨t,r⟩ d off es' C (some (.row T sz' es))=(sz'=1∧off+es'.length≤es.length∧C ⟨t,Iy d (.row T 1 (es.take off ++ es' ++ es.drop (off+es'.length))) r⟩ (.p (.int .i64 (es'.length:Nat)))):=(rfl)
theorem Jnr {off sz':Nat} {f:Bool} {ls:List (List L)} {es':List (List PV)} {C:St→L→Prop}:cpD ⟨t,r⟩ d off es' C (some (.lrow T sz' f ls))=(sz'=1∧off+es'.length≤ls.length∧C ⟨t,Iy d (.lrow T 1 f (ls.take off ++ es'.map (List.map L.p) ++ ls.drop (off+es'.length))) r⟩ (.p (.int .i64 (es'.length:Nat)))):=(rfl)
def Jse (s:St) (m d off len:Nat):Option Reg→Option (List (List PV))
 | some (.lrow _ _ _ es)=>if off+len≤es.length then Kr ((es.drop off).take (min len m)) else none
 | _=>(R2 s (.own d off len)).map (List.take m)
theorem Ov {m o n:Nat}:srcM ⟨t,r⟩ m (.own d o n)=Jse ⟨t,r⟩ m d o n (Bj d r):=(rfl)
theorem Tg {m o n sz':Nat} {f:Bool} {ls:List (List L)}:Jse ⟨t,r⟩ m d o n (some (.lrow T sz' f ls))=if o+n≤ls.length then Kr ((ls.drop o).take (min n m)) else none:=(rfl)
def takeO (m:Nat) (o:Option (List (List PV))):Option (List (List PV)):=o.map (List.take m)
theorem Y6 {m:Nat}:takeO m (some es)=some (es.take m):=(rfl)
theorem S7 {m o n sz':Nat}:Jse ⟨t,r⟩ m d o n (some (.row T sz' es))=takeO m (R2 ⟨t,r⟩ (.own d o n)):=(rfl)
def oneO:Option (List (List PV))→Prop
 | some es=>∀ e∈es,e.length=1
 | none=>True
theorem R3 {l:L}:Jaw ⟨t,r⟩ l=oneO (R2 ⟨t,r⟩ l):=by
 unfold Jaw oneO
 split <;> simp_all
theorem Jd6:oneO (some es) = ∀ e∈es,e.length=1:=(rfl)
theorem Jes:oneO none=True:=(rfl)
def srcR (off len:Nat):Option Reg→Option (List (List PV))
 | some (.row _ _ es)=>if off+len≤es.length then some ((es.drop off).take len) else none
 | _=>none
theorem F2 {o m:Nat}:R2 ⟨t,r⟩ (.own d o m)=srcR o m (Bj d r):=by
 unfold R2 srcR
 simp only
 cases Bj d r with
 | none=>rfl
 | some g=>cases g <;> rfl
theorem Vj {o m sz':Nat} {f:Bool} {ls:List (List L)}:srcR o m (some (.lrow T sz' f ls))=none:=(rfl)
theorem Jk {o m:Nat}:srcR o m (some (.row T sz es))=if o+m≤es.length then some ((es.drop o).take m) else none:=(rfl)
theorem Bs {C:PV→Prop} {v:PV}:Jc8 C (.p v)=C v:=(rfl)
def kr2 (C:List PV→Prop) (x:PV) (xs:List PV):Prop:=C (x :: xs)
def kr1 (P:Program) (s:St) (l:List ResultVar) (C:List PV→Prop) (x:PV):Prop:=S2 P s l (kr2 C x)
theorem Cs {C:List PV→Prop} {v:PV}:kr2 C v cs=C (v :: cs):=(rfl)
theorem Cr {C:List PV→Prop} {v:PV} {l:List ResultVar}:kr1 P ⟨t,r⟩ l C v=S2 P ⟨t,r⟩ l (kr2 C v):=(rfl)
theorem A6 {C:List PV→Prop}:S2 P ⟨t,r⟩ [] C=C []:=(rfl)
theorem A7 {C:List PV→Prop} {l:List ResultVar}:S2 P ⟨t,r⟩ (.tmp i :: l) C=Jc8 (kr1 P ⟨t,r⟩ l C) (t.getD i .junk):=(rfl)
theorem Ij {C:List PV→Prop} {l:List ResultVar}:S2 P ⟨t,r⟩ (.cell i T :: l) C=Uo P r T (t.getD i .junk) (Jc8 (kr1 P ⟨t,r⟩ l C)):=(rfl)
theorem B9 {keys:List Nat} {Post:L→Regs→Prop}:kres keys Post r cs=Post (Jdy cs) (Li (900 :: keys) r):=(rfl)
theorem Km {keys:List Nat} {Post:L→Regs→Prop} {l:L}:Jol keys Post r l=Post l (Li (900 :: keys) r):=(rfl)
theorem Av:Li [] r=[]:=(rfl)
def Jps (d:Nat) (rest:Regs):Option Reg→Regs
 | some q=>(d,q) :: rest
 | none=>rest
theorem Ap {ids:List Nat}:Li (d :: ids) r=Jps d (Li ids r) (Bj d r):=by
 simp only [Li,Jps];cases Bj d r <;> rfl
theorem Em {rest:Regs} {q:Reg}:Jps d rest (some q)=(d,q) :: rest:=(rfl)
theorem Al {rest:Regs}:Jps d rest none=rest:=(rfl)
def lret3 (P:Program) (rvs:List ResultVar) (keys:List Nat) (Post:L→Regs→Prop) (s:St):Prop:=S2 P s rvs (kres keys Post s.regs)
theorem B7 {rvs:List ResultVar} {keys:List Nat} {Post:L→Regs→Prop}:Jbj P false rvs keys Post ⟨t,r⟩=lret3 P rvs keys Post (St.freezeOps ⟨t,r⟩ (Rj rvs)):=(rfl)
theorem Ls {rvs:List ResultVar} {keys:List Nat} {Post:L→Regs→Prop}:Jbj P true rvs keys Post ⟨t,r⟩=Jp0 P rvs keys Post ⟨t,r⟩:=(rfl)
theorem H5 {keys:List Nat} {Post:L→Regs→Prop}:Jp0 P [.tmp i] keys Post ⟨t,r⟩=Jol keys Post r (t.getD i .junk):=(rfl)
theorem B5 {rvs:List ResultVar} {keys:List Nat} {Post:L→Regs→Prop}:lret3 P rvs keys Post ⟨t,r⟩=S2 P ⟨t,r⟩ rvs (kres keys Post r):=(rfl)
theorem Af:Np [] ⟨t,r⟩=⟨t,r⟩:=(rfl)
theorem C3 {a b:Nat} {l:List (Nat×Nat)}:Np ((a,b) :: l) ⟨t,r⟩=Np l (Jkf a b ⟨t,r⟩):=(rfl)
def renB (a b:Nat) (s:St):Bool→St
 | true=>s.ren a b
 | false=>s
theorem Gj {a b:Nat}:Jkf a b ⟨t,r⟩=renB a b ⟨t,r⟩ (findKey a r):=by
 simp only [Jkf,renB];cases findKey a r <;> rfl
theorem Mx {a b:Nat}:renB a b ⟨t,r⟩ false=⟨t,r⟩:=(rfl)
theorem Fl {a b:Nat}:renB a b ⟨t,r⟩ true=⟨t.map (L.map (Pt a b)),Oo a b r⟩:=(rfl)
theorem D8 {a b:Nat}:Oo a b []=[]:=(rfl)
def renF (a b:Nat) (q:Reg) (rest:Regs):Option Nat→Regs
 | some n=>(n,q.map (Pt a b)) :: rest
 | none=>rest
theorem Dr {a b e:Nat} {q:Reg}:Oo a b ((e,q) :: r)=renF a b q (Oo a b r) (Pt a b e):=by
 simp only [Oo,renF];cases Pt a b e <;> rfl
theorem Du {a b e:Nat} {q:Reg} {rest:Regs}:renF a b q rest (some e)=(e,q.map (Pt a b)) :: rest:=(rfl)
theorem Am:Rj []=[]:=(rfl)
theorem Ao {l:List ResultVar}:Rj (.tmp i :: l)=.tmp i :: Rj l:=(rfl)
theorem Gq {l:List ResultVar}:Rj (.cell i T :: l)=Rj l:=(rfl)
theorem Co {v:PV}:Jdy [v]=.p v:=(rfl)
theorem Jck:Jdy []=.tup []:=(rfl)
theorem Cy {v w:PV}:Jdy (v :: w :: cs)=.tup (v :: w :: cs):=(rfl)
variable {q:Reg}
theorem Ay:Bj d []=none:=(rfl)
theorem Aw:Bj d ((i,q) :: r)=if i=d then some q else Bj d r:=(rfl)
theorem B4:Ll d []=[]:=(rfl)
theorem C4:Ll d ((i,q) :: r)=if i=d then Ll d r else (i,q.forget d) :: Ll d r:=(rfl)
theorem Cp {q':Reg}:Iy d q ((i,q') :: r)=if i=d then (i,q) :: r else (i,q') :: Iy d q r:=(rfl)
variable {z:Fz}
theorem Dx:K4 d z []=[]:=(rfl)
theorem Dk:K4 d z ((i,q) :: r)=if i=d then K4 d z r else (i,q.freeze d z) :: K4 d z r:=(rfl)
theorem Hy:Reg.forget d (.var T ls)=.var T (ls.map (L.forget d)):=(rfl)
theorem Fy:Reg.forget d (.row T sz es)=.row T sz es:=(rfl)
theorem Jjt {o:PObj}:Reg.forget d (.obj o)=.obj o:=(rfl)
theorem Jaq {fu:Bool} {ll:List (List L)}:Reg.forget d (.lrow T sz fu ll)=.lrow T sz fu (ll.map fun e=>e.map (L.forget d)):=(rfl)
theorem Kn:Reg.freeze d z (.var T ls)=.var T (ls.map (L.freeze d z)):=(rfl)
theorem N8 {es':List (List PV)}:Reg.freeze d z (.row T sz es')=.row T sz es':=(rfl)
theorem Jjx {o:PObj}:Reg.freeze d z (.obj o)=.obj o:=(rfl)
theorem Ez {v:PV}:L.forget d (.p v)=.p v:=(rfl)
theorem G7:L.forget d .junk=.junk:=(rfl)
theorem Ks {xs:List PV}:L.forget d (.tup xs)=.tup xs:=(rfl)
theorem Jr:L.forget d (.eptr cs)=.eptr cs:=(rfl)
theorem H8 {e:Nat}:L.forget d (.ptr e i j)=if e=d then .junk else .ptr e i j:=by simp [L.forget,L.mentions]
theorem Ga {e:Nat} {o m:Nat}:L.forget d (.own e o m)=if e=d then .junk else .own e o m:=by simp [L.forget,L.mentions]
theorem Jjm {e:Nat}:L.forget d (.mref e)=if e=d then .junk else .mref e:=by simp [L.forget,L.mentions]
theorem Jh0 {g:FuncId} {ids:List Nat}:L.forget d (.fn g ids)=if ids.contains d=true then .junk else .fn g ids:=(rfl)
theorem I9 {v:PV}:L.freeze d z (.p v)=.p v:=(rfl)
theorem Te:L.freeze d z .junk=.junk:=(rfl)
theorem Jx {xs:List PV}:L.freeze d z (.tup xs)=.tup xs:=(rfl)
theorem Pg:L.freeze d z (.eptr cs)=.eptr cs:=(rfl)
theorem Jp1 {l:Nat}:L.freeze d z (.yld l)=.yld l:=(rfl)
theorem Kh {e:Nat}:L.freeze d z (.ptr e i j)=if e=d then .junk else .ptr e i j:=(rfl)
theorem G9 {e o m:Nat}:L.freeze d (.rw es) (.own e o m)=if e=d then (if o+m≤es.length then .p (.sl ((es.drop o).take m)) else .junk) else .own e o m:=(rfl)
theorem Yy {e o m:Nat}:L.freeze d .gone (.own e o m)=if e=d then .junk else .own e o m:=(rfl)
theorem Jd1 {e:Nat} {mm:List (PV×PV)}:L.freeze d (.mp mm) (.mref e)=if e=d then .p (.mp mm) else .mref e:=(rfl)
theorem Zi {g:FuncId} {ids:List Nat}:L.freeze d z (.fn g ids)=if ids.contains d=true then .junk else .fn g ids:=(rfl)
theorem H2:Reg.ids (.var T ls)=ls.flatMap L.ids:=(rfl)
theorem Jq:Reg.ids (.row T sz es)=[]:=(rfl)
theorem Cl {v:PV}:L.ids (.p v)=[]:=(rfl)
theorem I5:L.ids (.ptr d i j)=[d]:=(rfl)
theorem Ki {o m:Nat}:L.ids (.own d o m)=[d]:=(rfl)
theorem Jiz {g:FuncId} {ids:List Nat}:L.ids (.fn g ids)=ids:=(rfl)
theorem C7 {α γ:Type} {f:α→Option γ}:Gv f []=some []:=(rfl)
def consO {γ:Type} (o:Option γ) (os:Option (List γ)):Option (List γ) :=
 match o with
 | some b=>match os with
  | some bs=>some (b :: bs)
  | none=>none
 | none=>none
theorem El {γ:Type} {b:γ} {bs:List γ}:consO (some b) (some bs)=some (b :: bs):=(rfl)
theorem Cz {α γ:Type} {f:α→Option γ} {a:α} {l:List α}:Gv f (a :: l)=consO (f a) (Gv f l):=(rfl)
theorem F1 {v:PV}:L.pure? (.p v)=some v:=(rfl)
end
end Go.LX
namespace Go.LX
open Go Go.RowKit Go.Proofs
theorem iteI {c:Prop} [Decidable c] {A B:Prop} (h1:c→A) (h2:¬ c→B):if c then A else B:=by
 by_cases h:c
 ·rw [if_pos h];exact h1 h
 ·rw [if_neg h];exact h2 h
theorem Ai {l:List UInt8}:(l=[])=(l.length=0):=by simp
theorem B1 {α:Type} {l:List α} {i:Nat} {Q:α→Prop} (h:i<l.length) (hq:∀ a,l[i]? = some a→Q a):∃ a,l[i]? = some a∧Q a:=⟨l[i],List.getElem?_eq_getElem h,hq _ (List.getElem?_eq_getElem h)⟩
def kl2 {ι κ:Type} (I:ι→St) (Pre:ι→Prop) (μ:ι→Nat) (x:ι) (id:Nat) (J:κ→St) (PE:κ→Prop) (Q:Ex→St→Prop):Ex→St→Prop
 | .normal,s=>∃ y,Pre y∧μ y<μ x∧s.Le (I y)
 | .exit id',s=>if id'=id then ∃ y,PE y∧s.Le (J y) else Q (.exit id') s
 | .ret,s=>Q .ret s
def kun (A:St→Prop) (Q:Ex→St→Prop):Ex→St→Prop
 | .normal,s=>A s
 | .exit id,s=>Q (.exit id) s
 | .ret,s=>Q .ret s
def rounds (X:Cx) (ro:Option Nat) (c:Code) (Q:Ex→St→Prop):Nat→St→Prop
 | 0,_=>False
 | n+1,s=>SWP X ro c (kun (rounds X ro c Q n) Q) s
theorem Jf1 {A:St→Prop} {Q:Ex→St→Prop} {t:List L} {r:Regs}:kun A Q .normal ⟨t,r⟩=A ⟨t,r⟩:=(rfl)
theorem Jeh {A:St→Prop} {Q:Ex→St→Prop} {t:List L} {r:Regs} {id:Nat}:kun A Q (.exit id) ⟨t,r⟩=Q (.exit id) ⟨t,r⟩:=(rfl)
theorem Jkx {A:St→Prop} {Q:Ex→St→Prop} {t:List L} {r:Regs}:kun A Q .ret ⟨t,r⟩=Q .ret ⟨t,r⟩:=(rfl)
theorem SWP.rounds {X:Cx} {ro:Option Nat} {c:Code} {Q:Ex→St→Prop} {s:St} (n:Nat) (h:rounds X ro c Q n s):SWP X ro (.loop c) Q s:=by
 intro Γ a w hG hr
 have key:∀ n s,LX.rounds X ro c Q n s→∀ a w,RR Γ s a w→∀ (b:Frame) (k:List Item) (cs:List Frame),b.roundOf=(F0 ro).round→(F0 ro).fn b.fn→(F0 ro).room (cs.length+1+1) →
   ∃ e a' w',QQ Γ Q e a' w'∧ArrivesIn (Machine.fenced X.P (F0 ro)) X.P (lone (b.atR a (.code c :: .inLoop c :: k)) cs w) b k cs e a' w':=by
  intro n
  induction n with
  | zero=>intro s h;exact h.elim
  | succ n ih =>
   intro s hs a w hr b k cs hro hb hroom
   obtain ⟨e,a₁,w₁,hq,harr⟩:=hs Γ a w hG hr b (.inLoop c :: k) cs hro hb hroom
   cases e with
   | normal =>
    obtain ⟨s',h1,h2⟩:=hq
    obtain ⟨e₂,a₂,w₂,hq₂,harr₂⟩:=ih s' h1 a₁ w₁ h2 b k cs hro hb hroom
    exact ⟨e₂,a₂,w₂,hq₂,.of_steps (StepsIn.trans harr (.one (fenced_calm hb hroom rfl) stepR_inLoop)) harr₂⟩
   | exit id =>
    obtain ⟨s',h1,h2⟩:=hq
    exact ⟨.exit id,a₁,w₁,⟨s',h1,h2⟩,.pass (x:=.inLoop c) rfl (fun _ _=>.inl (by simp)) harr⟩
   | ret =>
    obtain ⟨s',h1,h2⟩:=hq
    exact ⟨.ret,a₁,w₁,⟨s',h1,h2⟩,.pass (x:=.inLoop c) rfl (fun _ _=>.inl (by simp)) harr⟩
   | goto l=>exact hq.elim
   | panic ch=>exact hq.elim
   | outgrown=>exact hq.elim
 intro b k cs hro hb hroom
 obtain ⟨e,a',w',hq,harr⟩:=key n s h a w hr b k cs hro hb hroom
 exact ⟨e,a',w',hq,.of_steps (.one (fenced_calm hb hroom rfl) stepR_loop) harr⟩
end Go.LX
namespace Go.LX
open Go Go.RowKit Go.Proofs
theorem CallStep.of_below {β:Env} {w w':World} {Im:Nat→Prop} {args:List L} {rs:Regs} {tmps:Array Value} (hf:Fit β w Im ⟨args,rs⟩ tmps) (h:Below w.heap.size w w'):CallStep β w Im rs β w' Im rs :=
 {
  os:=h.os,tape:=h.tape,output:=h.output,size:=h.size,block:=fun k hk _=>h.block k hk,imin:=fun _ h=>h,imnew:=fun _ h=>.inl h,env:=fun _ _ _=>rfl,keys:=fun d r hd=>.inr ⟨r,hd⟩,regnew:=fun d r loc hd hl=>.inr ⟨d,r,loc,hd,hl,rfl⟩
  fit:=by
   have g:Grow w Im w' Im:=⟨h.os,h.tape,h.output,h.size,h.block,fun _ h=>h,fun _ h=>.inl h,fun b hb=>Nat.lt_of_lt_of_le (hf.im b hb) h.size⟩
   have:=hf.grow g
   exact { size:=rfl,tmps:=fun i l h=>by simp at h,regs:=this.regs,nodup:=this.nodup,live:=this.live,apart:=this.apart,im:=this.im } }
theorem Det.of_below {X:Cx} {f:FuncId} {args:List L} {rs:Regs} {l:L} {v:Value} (hent:Enters X.P f) (_:l.retOK=true) (hv:∀ β w Im,LRep β w Im v l)
  (h:∀ (β:Env) (Im:Nat→Prop) (w:World) (vs:List Value),X.G w Im→Fit β w Im ⟨args,rs⟩ ⟨vs⟩→Calls X.P f ⟨vs⟩ w fun e w'=>e=.returned v∧Below w.heap.size w w'):Det X f args rs l rs :=
 ⟨hent,fun β Im w vs hg hf=>(h β Im w vs hg hf).mono fun _ w' ⟨he,hb⟩=>⟨v,l,rs,β,Im,he,⟨rfl,rfl⟩,hv _ _ _,CallStep.of_below hf hb⟩⟩
theorem Det.of_belowE {X:Cx} {f:FuncId} {args:List L} {rs:Regs} {l:L} (hent:Enters X.P f)
  (h:∀ (β:Env) (Im:Nat→Prop) (w:World) (vs:List Value),X.G w Im→Fit β w Im ⟨args,rs⟩ ⟨vs⟩→Calls X.P f ⟨vs⟩ w fun e w'=>(∃ v,e=.returned v∧∀ β w Im,LRep β w Im v l)∧Below w.heap.size w w'):Det X f args rs l rs :=
 ⟨hent,fun β Im w vs hg hf=>(h β Im w vs hg hf).mono fun _ w' ⟨⟨v,he,hv⟩,hb⟩=>⟨v,l,rs,β,Im,he,⟨rfl,rfl⟩,hv _ _ _,CallStep.of_below hf hb⟩⟩
theorem rep_ifi {β:Env} {w:World} {Im:Nat→Prop} {v:Value} {t:TypeId} {k:IntKind} {n:Int} (h:LRep β w Im v (.p (.ifi t k n))):v=.iface t (.int k n):=by cases h;rfl
theorem fit1 {β:Env} {w:World} {Im:Nat→Prop} {a:L} {rs:Regs} {vs:List Value} (h:Fit β w Im ⟨[a],rs⟩ ⟨vs⟩):∃ v,vs=[v]∧LRep β w Im v a:=by
 have hs:=h.size
 match vs,hs with
 | [v],_=>exact ⟨v,rfl,h.tmps 0 a rfl⟩
theorem fit2 {β:Env} {w:World} {Im:Nat→Prop} {a b:L} {rs:Regs} {vs:List Value} (h:Fit β w Im ⟨[a,b],rs⟩ ⟨vs⟩):∃ v u,vs=[v,u]∧LRep β w Im v a∧LRep β w Im u b:=by
 have hs:=h.size
 match vs,hs with
 | [v,u],_=>exact ⟨v,u,rfl,h.tmps 0 a rfl,h.tmps 1 b rfl⟩
theorem V7 {β:Env} {w:World} {Im:Nat→Prop} {v:Value} {s:List UInt8} (h:LRep β w Im v (.p (.str s))):v=.string ⟨⟨s⟩⟩:=by cases h;rfl
theorem Yc {β:Env} {w:World} {Im:Nat→Prop} {v:Value} {k:IntKind} {n:Int} (h:LRep β w Im v (.p (.int k n))):v=.int k n:=by cases h;rfl
theorem rep_bool {β:Env} {w:World} {Im:Nat→Prop} {v:Value} {b:Bool} (h:LRep β w Im v (.p (.bool b))):v=.bool b:=by cases h;rfl
theorem Det.calls_below {X:Cx} {f:FuncId} {args:List L} {l:L} (h:Det X f args [] l []) {w:World} {Im:Nat→Prop} (hg:X.G w Im) (hi:∀ b,Im b→b<w.heap.size) {vs:List Value} (hl:vs.length=args.length)
  (ha:∀ (i:Nat) (v:Value) (a:L),vs[i]? = some v→args[i]? = some a→LRep (fun _=>none) w Im v a) {v:Value} (hu:∀ β w' Im' u,LRep β w' Im' u l→u=v):Calls X.P f ⟨vs⟩ w fun e w'=>e=.returned v∧Below w.heap.size w w':=by
 refine (h.2 (fun _=>none) Im w vs hg ?_).mono fun e w' ⟨u,m,rs',β',Im',he,⟨hm,_⟩,hr,hc⟩=>?_
 ·exact {
      size:=by simpa using hl,tmps:=fun i a ha'=>by
       obtain ⟨u,hu'⟩:=getElem?_of_length hl ha'
       have e:(⟨vs⟩:Array Value).getD i undef=u:=by simp [Array.getD_eq_getD_getElem?,hu']
       rw [e];exact ha i u a hu' ha'
      regs:=fun d r h=>(by cases h),nodup:=.nil,live:=fun d r loc h=>(by cases h),apart:=fun d r d' r' l1 l2 h=>(by cases h),im:=hi }
 ·subst hm
  have:=hu _ _ _ _ hr
  subst this
  exact ⟨he,⟨hc.os,hc.tape,hc.output,hc.size,fun k hk=>hc.block k hk fun d r loc h=>(by cases h)⟩⟩
end Go.LX
namespace Go.LX
open Go Go.RowKit Go.Proofs
end Go.LX
namespace Go.LX
open Go Go.RowKit Go.Proofs
section
variable {X:Cx} {ro:Option Nat} {md:Region.Mode} {ops:Array Oper}
def ancB (md:Region.Mode) (ops:Array Oper):Nat→Nat→Nat→Bool
 | 0,_,_=>false
 | f+1,i,j=>match ops[j]? with
  | some o=>o.after.toList.any (fun e=>Region.binds md e && e.on == i) || o.after.toList.any (fun e=>Region.binds md e && ancB md ops f i e.on)
  | none=>false
def Jl1 (md:Region.Mode) (ops:Array Oper) (k:Nat):Bool :=
 (List.range ops.size).all fun j=>decide (j<k) || (List.range j).all fun i=>ancB md ops ops.size i j
def Down (md:Region.Mode) (ops:Array Oper) (listed:Array Bool):Prop :=
 ∀ i o,ops[i]? = some o→listed.getD i false=true→∀ e∈o.after,Region.binds md e=true→listed.getD e.on false=true
theorem Jc7 {listed:Array Bool} (hd:Down md ops listed):∀ (f i j:Nat) (o:Oper),ops[j]? = some o→(∀ e∈o.after,Region.binds md e=true→listed.getD e.on false=true)→ancB md ops f i j=true→listed.getD i false=true
 | 0,_,_,_,_,_,h=>by cases h
 | f+1,i,j,o,ho,hall,h=>by
  simp only [ancB,ho,Bool.or_eq_true,List.any_eq_true,Bool.and_eq_true,beq_iff_eq] at h
  rcases h with ⟨e,he,hb,rfl⟩ | ⟨e,he,hb,ha⟩
  ·exact hall e (by simpa using he) hb
  ·have hl:=hall e (by simpa using he) hb
   cases hoe:ops[e.on]? with
   | none =>
    cases f with
    | zero=>cases ha
    | succ f=>simp [ancB,hoe] at ha
   | some oe=>exact Jc7 hd f i e.on oe hoe (fun e' he' hb'=>hd e.on oe hoe hl e' he' hb') ha
theorem Sl {listed:Array Bool} {j:Nat}:listed.getD j true=false ↔ j<listed.size∧listed.getD j false=false:=by
 simp only [Array.getD_eq_getD_getElem?]
 by_cases h:j<listed.size
 ·simp [h]
 ·simp [h]
theorem Down.set {listed:Array Bool} (hd:Down md ops listed) {i:Nat} (hi:i∈Region.ready md ops listed):Down md ops (listed.setIfInBounds i true):=by
 obtain ⟨h0,oi,hoi,hall⟩:=mem_ready.1 hi
 intro j o ho hl e he hb
 by_cases hji:j=i
 ·subst hji
  rw [hoi] at ho;cases ho
  exact getD_set_true (hall e he hb)
 ·have:listed.getD j false=true:=by
   rw [← hl]
   simp [Array.getD_eq_getD_getElem?,Array.getElem?_setIfInBounds_ne (Ne.symm hji)]
  exact getD_set_true (hd j o ho this e he hb)
theorem Jci {k:Nat} (hT:Jl1 md ops k=true) {listed:Array Bool} (hd:Down md ops listed) {j:Nat} (hj:j∈Region.ready md ops listed) (hk:k≤j):∀ i,i<j→listed.getD i false=true:=by
 obtain ⟨_,o,ho,hall⟩:=mem_ready.1 hj
 intro i hi
 simp only [Jl1,List.all_eq_true,List.mem_range,Bool.or_eq_true,decide_eq_true_eq] at hT
 have h1:=hT j (Array.getElem?_eq_some_iff.1 ho).1
 rcases h1 with h1 | h1
 ·omega
 ·exact Jc7 hd _ i j o ho hall (h1 i hi)
def Jgr (X:Cx) (md:Region.Mode) (ops:Array Oper) (k:Nat) (K:St→Prop):Nat→Array Bool→St→Prop
 | 0,listed,s=>Region.ready md ops listed=[]∧K s
 | fuel+1,listed,s=>(Region.ready md ops listed=[]→K s) ∧
  ∀
   i∈Region.ready md ops listed,∀ o,ops[i]? = some o →
   (i<k→YS X (ops.toList.map (·.dst)) s o fun l=>Jgr X md ops k K fuel (listed.setIfInBounds i true) (s.put o.dst l)) ∧
   (k≤i→∃ C:St→Prop,lAt X (ops.toList.map (·.dst)) ops.toList i C s∧∀ s',C s'→Jgr X md ops k K fuel (listed.setIfInBounds i true) s')
theorem Rv {Γ:Base} {k:Nat} {K:St→Prop} {Q:Exit→Act→World→Prop} {n:Nat} (hG:Γ.G=X.G) (hQ:∀ s a w,K s→RR Γ s a w→Q .normal a w):∀ (fuel:Nat) (listed:Array Bool) (s:St) (a:Act) (w:World),RR Γ s a w →
  Jgr X md ops k K fuel listed s→wpAnyIn (F0 ro) n X.P md ops Q fuel listed a w
 | 0,_,s,a,w,h,hl=>⟨hl.1,hQ s a w hl.2 h⟩
 | fuel+1,_,s,a,w,h,hl=>⟨fun h0=>hQ s a w (hl.1 h0) h,fun i hi=>by
   obtain ⟨_,o,ho,_⟩:=mem_ready.1 hi
   by_cases hk:i<k
   ·exact Jkc ho hG h ((hl.2 i hi o ho).1 hk) fun l a' w' h1 h2=>Rv hG hQ fuel _ _ a' w' h2 h1
   ·obtain ⟨C,hA,hC⟩:=(hl.2 i hi o ho).2 (by omega)
    exact wpOpIn_mono (fun a' w' ⟨s',hs,hr'⟩=>Rv hG hQ fuel _ s' a' w' hr' (hC s' hs)) (Jg6 hG h hA)⟩
theorem Jly {k:Nat} (hT:Jl1 md ops k=true) {K:St→Prop} {i:Nat} {oi:Oper} {v:L} (hi:ops[i]? = some oi) (hik:i<k):∀ (fuel:Nat) (listed:Array Bool) (s:St),Down md ops listed →
   (∀ j oj,ops[j]? = some oj→j≠i→listed.getD j true=false→(∀ e∈oj.after,Region.binds md e=true→e.on≠i)→oi.apart ops oj=true) →
   i∈Region.ready md ops listed→YS X (ops.toList.map (·.dst)) s oi (fun m=>m=v) →
   Jgr X md ops k K fuel (listed.setIfInBounds i true) (s.put oi.dst v)→Jgr X md ops k K (fuel+1) listed s:=by
 intro fuel
 induction fuel with
 | zero =>
  intro listed s hd _ hr hy H
  have only:∀ j∈Region.ready md ops listed,j=i:=by
   intro j hj
   by_cases hji:j=i
   ·exact hji
   ·have:=ready_mono hj hji
    rw [H.1] at this
    cases this
  refine ⟨fun h=>(by rw [h] at hr;cases hr),fun j hj oj hoj=>?_⟩
  have:=only j hj
  subst this
  rw [hi] at hoj;cases hoj
  exact ⟨fun _=>Wj (fun l hl=>by rw [hl];exact H) hy,fun h=>by omega⟩
 | succ fuel ih =>
  intro listed s hd hfree hr hy H
  refine ⟨fun h=>(by rw [h] at hr;cases hr),fun j hj oj hoj=>?_⟩
  by_cases hji:j=i
  ·subst hji;rw [hi] at hoj;cases hoj
   exact ⟨fun _=>Wj (fun l hl=>by rw [hl];exact H) hy,fun h=>by omega⟩
  ·have hjk:j<k:=by
    rcases Nat.lt_or_ge j k with h | h
    ·exact h
    ·exfalso
     have h1:=Jci hT hd hj h i (by omega)
     have h2:=(Sl.1 (mem_ready.1 hr).1).2
     rw [h1] at h2;cases h2
   refine ⟨fun _=>?_,fun h=>by omega⟩
   have h1:=(H.2 j (ready_mono hj hji) oj hoj).1 hjk
   obtain ⟨hjun,oj',hoj',hall⟩:=mem_ready.1 hj
   rw [hoj] at hoj';cases hoj'
   have hnot:∀ e∈oj.after,Region.binds md e=true→e.on≠i:=fun e he hb heq=>by
    have h1:=hall e he hb
    have h0:=(Sl.1 (mem_ready.1 hr).1).2
    rw [heq] at h1
    rw [h1] at h0;cases h0
   obtain ⟨a1,a2,a3⟩:=Oper.apart_spec (hfree j oj hoj hji hjun hnot)
   have hfree':∀ q ok,ops[q]? = some ok→q≠i→(listed.setIfInBounds j true).getD q true=false →
     (∀ e∈ok.after,Region.binds md e=true→e.on≠i)→oi.apart ops ok=true:=fun q ok hk hki hun hno=>by
    refine hfree q ok hk hki ?_ hno
    by_cases hjk:j=q
    ·subst hjk;exact hjun
    ·rw [getD_set_ne true hjk] at hun;exact hun
   refine Wj (fun l hl=>?_) (Jjk a1 h1)
   refine ih (listed.setIfInBounds j true) (s.put oj.dst l) (hd.set hj) hfree' (ready_mono hr (Ne.symm hji)) (Jho a3 hy) ?_
   rw [Array.setIfInBounds_comm _ _ hji]
   rw [← St.put_comm s v l a2]
   exact hl
def Xy (X:Cx) (ds:List (Option Tmp)) (all:List Oper) (K:St→Prop):Nat→Nat→List Oper→St→Prop
 | _,_,[],s=>K s
 | 0,i,_ :: rest,s=>lAt X ds all i (Xy X ds all K 0 (i+1) rest) s
 | k+1,i,o :: rest,s=>YS X ds s o fun l=>Xy X ds all K k (i+1) rest (s.put o.dst l)
def Upto (p:Nat) (listed:Array Bool):Prop:=∀ i,i<listed.size→listed.getD i false=decide (i<p)
theorem Z6 {k:Nat} (hT:Jl1 md ops k=true) {K:St→Prop}:∀ (l:List Oper) (p q:Nat) (listed:Array Bool) (s:St),k - p=q→(∀ j,l[j]? = ops[p+j]?)→listed.size=ops.size→Down md ops listed→Upto p listed →
  Region.lexFrom md ops l.length p listed=true→Xy X (ops.toList.map (·.dst)) ops.toList K q p l s→Jgr X md ops k K l.length listed s
 | [],_,_,_,_,_,_,_,_,_,hB,h=>⟨by simpa [Region.lexFrom] using hB,by simpa [Xy] using h⟩
 | o :: l,p,q,listed,s,hq,hl,hsz,hd,hup,hB,h=>by
  have h0:ops[p]? = some o:=by simpa using (hl 0).symm
  have hp:p<ops.size:=(Array.getElem?_eq_some_iff.1 h0).1
  simp only [List.length_cons,Region.lexFrom,Bool.and_eq_true] at hB
  obtain ⟨⟨hr,hf⟩,hB'⟩:=hB
  have hr':p∈Region.ready md ops listed:=by simpa using hr
  have hl':∀ j,l[j]? = ops[p+1+j]?:=fun j=>by have:=hl (j+1);simpa [Nat.add_assoc,Nat.add_comm 1 j] using this
  have hup':Upto (p+1) (listed.setIfInBounds p true):=by
   intro i hi
   simp only [Array.size_setIfInBounds] at hi
   by_cases hip:i=p
   ·subst hip
    simp [Array.getD_eq_getD_getElem?,hi]
   ·have:=hup i hi
    rw [show (listed.setIfInBounds p true).getD i false=listed.getD i false by simp [Array.getD_eq_getD_getElem?,Array.getElem?_setIfInBounds_ne (Ne.symm hip)],this]
    congr 1
    exact propext ⟨fun h=>by omega,fun h=>by omega⟩
  cases q with
  | succ q =>
   simp only [Xy] at h
   obtain ⟨v,hy,hK⟩:=Jle (X:=X) h
   exact Jly hT h0 (by omega) l.length listed s hd (Region.free_spec h0 hf) hr' hy
    (Z6 hT l (p+1) q _ _ (by omega) hl' (by simpa using hsz) (hd.set hr') hup' hB' hK)
  | zero =>
   simp only [Xy] at h
   have only:∀ j∈Region.ready md ops listed,j=p:=by
    intro j hj
    obtain ⟨hun,oj,hoj,_⟩:=mem_ready.1 hj
    obtain ⟨hjs,hjf⟩:=Sl.1 hun
    have h1:=hup j hjs
    rw [hjf] at h1
    have hjp:¬ j<p:=by simpa using h1.symm
    rcases Nat.lt_or_ge p j with hlt | hge
    ·exfalso
     have h2:=Jci hT hd hj (by omega) p hlt
     have h3:=hup p (by omega)
     rw [h2] at h3;simp at h3
    ·omega
   refine ⟨fun h'=>(by rw [h'] at hr';cases hr'),fun j hj oj hoj=>?_⟩
   have:=only j hj
   subst this
   refine ⟨fun hlt=>by omega,fun _=>?_⟩
   rw [h0] at hoj;cases hoj
   exact ⟨_,h,fun s' hs'=>Z6 hT l (j+1) 0 _ s' (by omega) hl' (by simpa using hsz) (hd.set hr') hup' hB' hs'⟩
theorem Rd {id:Nat} {Q:Ex→St→Prop} {s:St} (k:Nat) (hm:X.P.follows .mixedOrders=true) (hB:Region.lexB .any ops=true) (hT:Jl1 .any ops k=true)
  (h:Xy X (ops.toList.map (·.dst)) ops.toList (Q .normal) k 0 ops.toList s):SWP X ro (.region id ops true) Q s:=fun Γ a w hG hr=>by
 simp only [Region.lexB,Bool.and_eq_true] at hB
 have h':RR Γ s a { w with drawn:=w.drawn+1 }:=by
  obtain ⟨ms,hdef,β,Im,hx⟩:=hr
  exact ⟨ms,hdef,β,Im,hx.grow (Grow.drew hx.fit.im)⟩
 refine wpIn_region_any hm (Rv (k:=k) (K:=Q .normal) hG (fun s _ _ h1 h2=>⟨s,h1,h2⟩) _ _ s a _ h' ?_)
 have:=Z6 (X:=X) (K:=Q .normal) (md:=.any) hT ops.toList 0 k (Array.replicate ops.size false) s (by omega) (by simp) (by simp) ?_ ?_ (by simpa using hB.2) h
 ·simpa using this
 ·intro i o ho hl
  exfalso
  have hi:=(Array.getElem?_eq_some_iff.1 ho).1
  simp [Array.getD_eq_getD_getElem?,hi] at hl
 ·intro i hi
  simp only [Array.size_replicate] at hi
  simp [Array.getD_eq_getD_getElem?,hi]
end
end Go.LX
namespace Go.LX
open Go Go.RowKit Go.Proofs
section
variable {X:Cx} {ro:Option Nat} {K:St→Prop} {t:List L} {r:Regs} {ds:List (Option Tmp)} {all rest:List Oper} {dst:Option Tmp} {op:Op} {ty:TypeId} {ps:String} {af:Array Edge} {i k:Nat}
def Jfw (X:Cx) (ds:List (Option Tmp)) (all:List Oper) (K:St→Prop) (k i:Nat) (rest:List Oper):St→Prop:=Xy X ds all K k i rest
theorem Tp {k i:Nat} {l:List Oper}:Xy X ds all K k i l ⟨t,r⟩=Jfw X ds all K k i l ⟨t,r⟩:=(rfl)
theorem Jdr:Jfw X ds all K k i [] ⟨t,r⟩=K ⟨t,r⟩:=by cases k <;> rfl
theorem Tv {o:Oper}:Jfw X ds all K 0 i (o :: rest) ⟨t,r⟩=lAt X ds all i (Jfw X ds all K 0 (i+1) rest) ⟨t,r⟩:=(rfl)
theorem Tm {o:Oper}:Jfw X ds all K (k+1) i (o :: rest) ⟨t,r⟩=YS X ds ⟨t,r⟩ o (kput o.dst (Jfw X ds all K k (i+1) rest) ⟨t,r⟩):=(rfl)
theorem W8 {C:L→Prop}:YS X ds ⟨t,r⟩ ⟨dst,op,ty,ps,af,none⟩ C=lqc X ⟨t,r⟩ ⟨dst,op,ty,ps,af,none⟩ C:=(rfl)
end
theorem SWP.roundI {X:Cx} {ro:Option Nat} {c:Code} {Q:Ex→St→Prop} {s:St} {n:Nat} (hm:X.P.follows .mixedOrders=true) (h:lwp X ro c (kun (LX.rounds X ro c Q n) Q) s):LX.rounds X ro c Q (n+1) s:=Ax hm _ _ _ h
end Go.LX
namespace Go.LX
open Go Go.RowKit Go.Proofs
structure YKeep (w:World) (Im:Nat→Prop) (w':World) (Im':Nat→Prop):Prop where
 os:w'.os=w.os
 tape:w'.tape=w.tape
 output:w'.output=w.output
 size:w.heap.size≤w'.heap.size
 im:∀ b,Im b→Im' b
 block:∀ b,Im b→w'.heap[b]? = w.heap[b]?
 lt:∀ b,Im' b→b<w'.heap.size
theorem YKeep.refl {w:World} {Im:Nat→Prop} (h:∀ b,Im b→b<w.heap.size):YKeep w Im w Im :=
 ⟨rfl,rfl,rfl,Nat.le_refl _,fun _ h=>h,fun _ _=>rfl,h⟩
theorem YKeep.trans {w w1 w2:World} {Im Im1 Im2:Nat→Prop} (h:YKeep w Im w1 Im1) (k:YKeep w1 Im1 w2 Im2):YKeep w Im w2 Im2 :=
 ⟨k.os.trans h.os,k.tape.trans h.tape,k.output.trans h.output,Nat.le_trans h.size k.size,fun b hb=>k.im b (h.im b hb),fun b hb=>(k.block b (h.im b hb)).trans (h.block b hb),k.lt⟩
theorem YKeep.keeps {w w':World} {Im Im':Nat→Prop} (h:YKeep w Im w' Im'):Keeps w Im w' Im':=⟨h.im,h.block⟩
theorem YKeep.of_grow {w w':World} {Im Im':Nat→Prop} (h:Grow w Im w' Im') (hi:∀ b,Im b→b<w.heap.size):YKeep w Im w' Im' :=
 ⟨h.os,h.tape,h.output,h.size,h.im,fun b hb=>h.block b (hi b hb),h.lt⟩
abbrev Gh:=Option Nat→World→(Nat→Prop)→Prop
def JOK (J:Gh):Prop:=∀ (k:Option Nat) (w:World) (Im:Nat→Prop) (w':World) (Im':Nat→Prop),(∀ b,Im b→b<w.heap.size)→J k w Im→Grow w Im w' Im'→J k w' Im'
def Jte (w:World) (Im:Nat→Prop) (us:List Value) (x:List PV):Prop:=us.length=x.length∧∀ (i:Nat) (v:Value) (p:PV),us[i]? = some v→x[i]? = some p→PRep w Im v p
def YAt (X:Cx) (l:Nat) (args:Array Value) (w:World) (R:Ending→World→Prop):Prop :=
 ∃ fn tmps assign body,(Instr.yield l args).run X.P w=.ok (.round l fn tmps assign body) w∧RoundIn (F0 none) 0 X.P l fn tmps assign body w R
def YOK (X:Cx) (l:Nat) (J:Gh) (xs:List (List PV)):Prop:=∀ (k:Nat) (x:List PV),xs[k]? = some x→∀ (w:World) (Im:Nat→Prop) (us:List Value),J (some k) w Im→X.G w Im→(∀ b,Im b→b<w.heap.size)→Jte w Im us x →
 YAt X l ⟨us⟩ w fun e w'=>∃ Im',YKeep w Im w' Im'∧((e=.returned (.bool true)∧J (some (k+1)) w' Im')∨(e=.returned (.bool false)∧J none w' Im'))
def Jf3 (X:Cx) (f:FuncId) (args:List L) (xs:List (List PV)):Prop :=
 Enters X.P f∧∀ (l:Nat) (J:Gh),JOK J→YOK X l J xs→∀ (Im:Nat→Prop) (w:World) (vs:List Value),X.G w Im→(∀ b,Im b→b<w.heap.size)→J (some 0) w Im →
  vs.length=args.length→(∀ (i:Nat) (v:Value) (a:L),vs[i]? = some v→args[i]? = some a→LRep (fun _=>none) w Im v a) →
  Calls X.P f ⟨.func (.yield l) #[] #[] :: vs⟩ w fun e w'=>∃ v Im',e=.returned v∧YKeep w Im w' Im'∧(J (some xs.length) w' Im'∨J none w' Im')
def St.bare (s:St):St:=⟨s.tmps.map (L.map fun _=>none),[]⟩
theorem RRx.bare {Γ:Base} {β:Env} {Im:Nat→Prop} {s:St} {tmps:Array Value} {w:World} (h:RRx Γ β Im s tmps w):RRx Γ β Im s.bare tmps w :=
 {
  h with
  fit:={
      size:=by simp [St.bare,h.fit.size],tmps:=fun i l hl=>by
       simp only [St.bare,List.getElem?_map] at hl
       obtain ⟨l',h1,rfl⟩:=Option.map_eq_some_iff.1 hl
       exact (h.fit.tmps i l' h1).map (fun d n hd=>by cases hd)
      regs:=fun d r hr=>by simp [St.bare] at hr
      nodup:=.nil,live:=fun d r loc hr=>by simp [St.bare] at hr,apart:=fun d r d' r' l1 l2 hr=>by simp [St.bare] at hr,im:=h.fit.im }
  regnew:=fun d r loc hr=>by simp [St.bare] at hr
  marks:=fun D hD=>by obtain ⟨h1,h2,h3,_⟩:=h.marks D hD;exact ⟨h1,h2,h3,fun d r loc hr=>by simp [St.bare] at hr⟩ }
def JR (X:Cx) (J:Gh) (w0:World) (Im00:Nat→Prop) (k:Option Nat) (s:St) (a:Act) (w:World):Prop :=
 a.defers=[]∧∃ (W:World) (β0:Env) (I0:Nat→Prop),(∀ b,I0 b→b<W.heap.size)∧YKeep w0 Im00 W I0∧J k W I0∧RRm ⟨W,β0,I0,fun _=>False,[],X.G,X.mono⟩ [] s a w
theorem RRx.grown {Γ:Base} {β:Env} {Im:Nat→Prop} {s:St} {tmps:Array Value} {w:World} (h:RRx Γ β Im s tmps w) (hm:∀ b,¬ Γ.may b):Grow Γ.W0 Γ.Im0 w Im :=
 ⟨h.os,h.tape,h.output,h.size,fun k hk=>h.block k hk (hm k),h.imin,fun b hb=>(h.imnew b hb).elim .inl fun h'=>h'.elim .inr fun h=>absurd h (hm b),h.fit.im⟩
def JQ (X:Cx) (J:Gh) (w0:World) (Im00:Nat→Prop) (Q:Ex→Option Nat→St→Prop):Exit→Act→World→Prop
 | .normal,a,w=>∃ k s,Q .normal k s∧JR X J w0 Im00 k s a w
 | .exit id,a,w=>∃ k s,Q (.exit id) k s∧JR X J w0 Im00 k s a w
 | .ret,a,w=>∃ k s,Q .ret k s∧JR X J w0 Im00 k s a w
 | _,_,_=>False
def JWP (X:Cx) (xs:List (List PV)) (l:Nat) (c:Code) (Q:Ex→Option Nat→St→Prop) (k:Option Nat) (s:St):Prop :=
 ∀ J w0 Im00,JOK J→YOK X l J xs→∀ a w,JR X J w0 Im00 k s a w→c.wpIn (F0 none) 1 X.P (JQ X J w0 Im00 Q) a w
def Wz:List L→Option (List PV)
 | []=>some []
 | .p x :: l=>match Wz l with
  | some xs=>some (x :: xs)
  | none=>none
 | _ :: _=>none
def X2 (xs:List (List PV)) (n:Nat) (o:Option (List PV)) (t f:Option Nat→Prop):Prop :=
 match o with
 | some x=>xs[n]? = some x∧t (some (n+1))∧f none
 | none=>False
def Jiu (xs:List (List PV)) (l l':Nat) (s:St) (args:List Operand) (dst:Option Tmp) (K:Option Nat→St→Prop) (k:Option Nat):Prop :=
 match k with
 | some n=>l'=l∧X2 xs n (Wz (args.map (s.freezeOps args).get)) (fun k=>K k ((s.freezeOps args).bare.put dst (.p (.bool true)))) (fun k=>K k ((s.freezeOps args).bare.put dst (.p (.bool false))))
 | none=>False
def Jk2 (X:Cx) (xs:List (List PV)) (l:Nat) (o:Oper) (args:List Operand) (K:Option Nat→St→Prop) (k:Option Nat) (s:St) (x:L):Prop :=
 match x with
 | .yld l'=>Jiu xs l l' s args o.dst K k
 | _=>lop X o (K k) s
def jop (X:Cx) (xs:List (List PV)) (l:Nat) (o:Oper) (K:Option Nat→St→Prop) (k:Option Nat) (s:St):Prop :=
 match o.op with
 | .call { callee:=.value f,args,argTypes:=_ }=>Jk2 X xs l o args.toList K k s (s.get f)
 | _=>lop X o (K k) s
def kunitJ (dst:Option Tmp) (K:Option Nat→St→Prop) (k:Option Nat) (s:St):Prop:=K k (s.put dst (.tup []))
def jops (X:Cx) (xs:List (List PV)) (l:Nat) (ds:List (Option Tmp)):List Oper→(Option Nat→St→Prop)→Option Nat→St→Prop
 | [],K,k,s=>K k s
 | o :: rest,K,k,s=>Qt ds o.guard (jop X xs l o (jops X xs l ds rest K) k) (kunitJ o.dst (jops X xs l ds rest K) k) s
def jseq (B:(Ex→Option Nat→St→Prop)→Option Nat→St→Prop) (Q:Ex→Option Nat→St→Prop):Ex→Option Nat→St→Prop
 | .normal,k,s=>B Q k s
 | .exit id,k,s=>Q (.exit id) k s
 | .ret,k,s=>Q .ret k s
def Zo (id:Nat) (Q:Ex→Option Nat→St→Prop):Ex→Option Nat→St→Prop
 | .normal,k,s=>Q .normal k s
 | .exit id',k,s=>if id'=id then Q .normal k s else Q (.exit id') k s
 | .ret,k,s=>Q .ret k s
def jwp (X:Cx) (xs:List (List PV)) (l:Nat):Code→(Ex→Option Nat→St→Prop)→Option Nat→St→Prop
 | .skip,Q,k,s=>Q .normal k s
 | .region id ops draw,Q,k,s=>match draw with
  | false=>jops X xs l (ops.toList.map (·.dst)) ops.toList (Q .normal) k s
  | true=>JWP X xs l (.region id ops true) Q k s
 | .seq a b,Q,k,s=>jwp X xs l a (jseq (jwp X xs l b) Q) k s
 | .cond c a b,Q,k,s=>Jbm (s.get c) (jwp X xs l a Q k) (jwp X xs l b Q k) s
 | .block id c,Q,k,s=>jwp X xs l c (Zo id Q) k s
 | .loop c,Q,k,s=>JWP X xs l (.loop c) Q k s
 | .exit id,Q,k,s=>Q (.exit id) k s
 | .ret,Q,k,s=>Q .ret k s
 | .label _,Q,k,s=>Q .normal k s
 | c,Q,k,s=>JWP X xs l c Q k s
theorem Jeu:∀ {ls:List L} {x:List PV},Wz ls=some x→ls=x.map .p
 | [],x,h=>by cases h;rfl
 | .p y :: ls,x,h=>by
  simp only [Wz] at h
  split at h
  ·rename_i xs hx;cases h;rw [Jeu hx];rfl
  ·cases h
 | .ptr _ _ _ :: _,_,h=>by cases h
 | .own _ _ _ :: _,_,h=>by cases h
 | .eptr _ :: _,_,h=>by cases h
 | .fn _ _ :: _,_,h=>by cases h
 | .cfn _ _ :: _,_,h=>by cases h
 | .yld _ :: _,_,h=>by cases h
 | .tup _ :: _,_,h=>by cases h
 | .mref _ :: _,_,h=>by cases h
 | .junk :: _,_,h=>by cases h
section
variable {X:Cx} {xs:List (List PV)} {l:Nat} {J:Gh} {w0:World} {Im00:Nat→Prop}
theorem Jqn {s:St} {a:Act} {w:World} {o:Oper} {K:Option Nat→St→Prop} {k:Option Nat} {Q:Exit→Act→World→Prop} (hJ:JOK J) (hY:YOK X l J xs) (h:JR X J w0 Im00 k s a w) (hl:jop X xs l o K k s) :
  o.wpIn (F0 none) 1 X.P a w (fun a' w'=>∃ k s,K k s∧JR X J w0 Im00 k s a' w') Q:=by
 obtain ⟨hd,W,β0,I0,hlt,hkeep,hj,hr⟩:=h
 have quiet:lop X o (K k) s→o.wpIn (F0 none) 1 X.P a w (fun a' w'=>∃ k s,K k s∧JR X J w0 Im00 k s a' w') Q:=fun hl=>by
  refine Oper.wpIn_mono (fun a' w' ⟨s',h1,h2⟩=>⟨k,s',h1,h2.1,W,β0,I0,hlt,hkeep,hj,h2⟩) (Xs (Γ:=⟨W,β0,I0,fun _=>False,[],X.G,X.mono⟩) rfl hr hl)
 unfold jop at hl
 split at hl
 ·rename_i f args ats ho
  unfold Jk2 at hl
  split at hl
  ·rename_i l' hf
   unfold Jiu at hl
   split at hl
   ·rename_i n
    obtain ⟨rfl,hl⟩:=hl
    obtain ⟨_,β,Im,hx⟩:=hr
    have hfv:=Ec hx.fit f
    rw [hf] at hfv
    obtain ⟨Im1,hx1⟩:=RRx.freezeOps args.toList hx
    unfold X2 at hl
    split at hl
    ·rename_i x hx0
     obtain ⟨hn,hK1,hK2⟩:=hl
     have hargs:=Jeu hx0
     have hG1:Grow W I0 w Im1:=hx1.grown (fun _ h=>h)
     have hrep:Jte w Im1 (args.toList.map a.eval) x:=by
      have hlen:args.toList.length=x.length:=by have:=congrArg List.length hargs;simpa using this
      refine ⟨by simpa using hlen,fun i v p hv hp=>?_⟩
      rw [List.getElem?_map] at hv
      obtain ⟨o',ho',rfl⟩:=Option.map_eq_some_iff.1 hv
      have h2:=Ec hx1.fit o'
      have h3:(args.toList.map (s.freezeOps args.toList).get)[i]? = (x.map L.p)[i]?:=by rw [hargs]
      rw [List.getElem?_map,List.getElem?_map,ho',hp] at h3
      rw [Option.some.inj h3] at h2
      exact h2
     have hj1:J (some n) w Im1:=hJ _ _ _ _ _ hlt hj hG1
     obtain ⟨fn,tmps,assign,body,hy,hR⟩:=hY n x hn w Im1 _ hj1 hx1.glob hx1.fit.im hrep
     refine ⟨fun _ _=>trivial,?_⟩
     have hdn:∀ c,o.op≠.defer c:=by rw [ho];simp
     rw [Yo _ hdn]
     have hrun:(execOp a.eval o).run X.P w=.ok (.round l' fn tmps assign body) w:=by
      unfold execOp
      rw [ho]
      have he:a.eval f=.func (.yield l') #[] #[]:=hfv
      have hm:args.map a.eval=⟨args.toList.map a.eval⟩:=by rw [← Array.toList_inj];simp
      simp only [resolve,he,hm]
      simp [Deferred.ofValue,invoke,hy]
     rw [hrun]
     refine ⟨fun _=>Nat.le_refl _,hR.mono fun e w' ⟨Im',hk',hc⟩=>?_⟩
     have hb:=hx1.bare
     have back:∀ (k':Option Nat) (b:Bool),J k' w' Im'→JR X J w0 Im00 k' ((s.freezeOps args.toList).bare.put o.dst (.p (.bool b))) (a.put o.dst (.bool b)) w':=by
      intro k' b hjk
      refine ⟨Gi hd,w',β,Im',hk'.lt,hkeep.trans ((YKeep.of_grow hG1 hlt).trans hk'),hjk,Gi hd,β,Im',?_⟩
      refine RRx.put ?_ o.dst (PRep.bool b)
      refine {
          fit:={ size:=hb.fit.size,tmps:=fun i m hm=>(hb.fit.tmps i m hm).mono' hk'.keeps,regs:=fun d r hr=>(by simp [St.bare] at hr),nodup:=.nil,live:=fun d r loc hr=>(by simp [St.bare] at hr),apart:=fun d r d' r' l1 l2 hr=>(by simp [St.bare] at hr),im:=hk'.lt }
          os:=rfl,tape:=rfl,output:=rfl,size:=Nat.le_refl _,block:=fun _ _ _=>rfl,imin:=fun _ h=>h,imnew:=fun _ h=>.inl h,regnew:=fun d r loc hr=>(by simp [St.bare] at hr),fixed:=fun _ _ _=>rfl
          glob:=X.mono hk'.keeps hx1.glob,marks:=fun D hD=>(by cases hD),mnod:=.nil }
     rcases hc with ⟨rfl,hj2⟩ | ⟨rfl,hj2⟩
     ·exact ⟨_,_,hK1,back _ _ hj2⟩
     ·exact ⟨_,_,hK2,back _ _ hj2⟩
    ·exact hl.elim
   ·exact hl.elim
  ·exact quiet hl
 ·exact quiet hl
theorem W9 {ops:Array Oper} {K:Option Nat→St→Prop} {Q:Exit→Act→World→Prop} (hJ:JOK J) (hY:YOK X l J xs) (hQ:∀ k s a w,K k s→JR X J w0 Im00 k s a w→Q .normal a w):∀ (os:List Oper) (i:Nat),(∀ j,os[j]? = ops[i+j]?)→∀ (k:Option Nat) (s:St) (a:Act) (w:World),JR X J w0 Im00 k s a w →
  jops X xs l (ops.toList.map (·.dst)) os K k s→wpOpsIn (F0 none) 1 X.P ops Q (List.range' i os.length) a w
 | [],i,_,k,s,a,w,h,hl=>by simpa [wpOpsIn] using hQ k s a w hl h
 | o :: os,i,hi,k,s,a,w,h,hl=>by
  have h0:ops[i]? = some o:=by simpa using (hi 0).symm
  have hi':∀ j,os[j]? = ops[i+1+j]?:=fun j=>by have:=hi (j+1);simpa [Nat.add_assoc,Nat.add_comm 1 j] using this
  simp only [List.length_cons,List.range'_succ,wpOpsIn,h0]
  simp only [jops] at hl
  obtain ⟨hd,W,β0,I0,hlt,hkeep,hj,hr⟩:=h
  obtain ⟨s',h',hc⟩:=Q8 hr.rr hl
  have hm:RRm ⟨W,β0,I0,fun _=>False,[],X.G,X.mono⟩ [] s' a w:=by
   obtain ⟨ms,h1,h2⟩:=h'
   have:ms=[]:=by rw [hd] at h1;cases ms <;> first | rfl | cases h1
   subst this
   exact ⟨h1,h2⟩
  rcases hc with ⟨hA,hw⟩ | ⟨hB,hw⟩
  ·rw [if_pos (hw o rfl)]
   exact Oper.wpIn_mono (fun a' w' ⟨k2,s2,hs2,hr2⟩=>W9 hJ hY hQ os (i+1) hi' k2 s2 a' w' hr2 hs2) (Jqn hJ hY ⟨hd,W,β0,I0,hlt,hkeep,hj,hm⟩ hA)
  ·rw [if_neg (by rw [hw o rfl];simp)]
   obtain ⟨hdef,β,Im,hx⟩:=hm
   exact ⟨fun _ _=>trivial,W9 hJ hY hQ os (i+1) hi' k _ _ w ⟨Gi hd,W,β0,I0,hlt,hkeep,hj,Gi hd,β,Im,hx.put o.dst Sx⟩ hB⟩
theorem Zt:∀ (c:Code) (Q:Ex→Option Nat→St→Prop) (k:Option Nat) (s:St),jwp X xs l c Q k s→JWP X xs l c Q k s:=by
 intro c
 induction c with
 | skip=>exact fun Q k s h J w0 Im00 hJ hY a w hr=>wpIn_skip ⟨k,s,h,hr⟩
 | region id ops draw =>
  intro Q k s h
  cases draw with
  | false =>
   intro J w0 Im00 hJ hY a w hr
   simp only [jwp] at h
   refine wpIn_region ?_
   have:=W9 (X:=X) (ops:=ops) (K:=Q .normal) (Q:=JQ X J w0 Im00 Q) hJ hY (fun k s a w h1 h2=>⟨k,s,h1,h2⟩) ops.toList 0 (by simp) k s a w hr h
   rw [Array.length_toList] at this
   rw [List.range_eq_range']
   exact this
  | true=>exact h
 | seq x y ihx ihy =>
  intro Q k s h J w0 Im00 hJ hY a w hr
  simp only [jwp] at h
  refine wpIn_seq (wpIn_mono (ihx _ k s h J w0 Im00 hJ hY a w hr) fun e a w hq=>?_)
  cases e with
  | normal=>obtain ⟨k',s',h1,h2⟩:=hq;exact ihy Q k' s' h1 J w0 Im00 hJ hY a w h2
  | exit id=>exact hq
  | ret=>exact hq
  | goto l=>exact hq.elim
  | panic c=>exact hq.elim
  | outgrown=>exact hq.elim
 | cond c x y ihx ihy =>
  intro Q k s h J w0 Im00 hJ hY a w hr
  simp only [jwp,Jbm] at h
  obtain ⟨hd,W,β0,I0,hlt,hkeep,hj,hdef,β,Im,hx⟩:=hr
  have hc:=Ec hx.fit c
  split at h
  ·rename_i t hg
   rw [hg] at hc
   cases hv:a.eval c <;> rw [hv] at hc <;> cases hc
   exact wpIn_cond_split hv (fun ht=>ihx Q k s (h.1 ht) J w0 Im00 hJ hY a w ⟨hd,W,β0,I0,hlt,hkeep,hj,hdef,β,Im,hx⟩) (fun ht=>ihy Q k s (h.2 ht) J w0 Im00 hJ hY a w ⟨hd,W,β0,I0,hlt,hkeep,hj,hdef,β,Im,hx⟩)
  ·exact h.elim
 | block id c ih =>
  intro Q k s h J w0 Im00 hJ hY a w hr
  simp only [jwp] at h
  refine wpIn_block (wpIn_mono (ih _ k s h J w0 Im00 hJ hY a w hr) fun e a w hq=>?_)
  cases e with
  | normal=>exact hq
  | exit id' =>
   obtain ⟨k',s',h1,h2⟩:=hq
   simp only [Zo] at h1
   simp only [Exit.inBlock]
   split at h1
   ·rename_i he;rw [if_pos he];exact ⟨k',s',h1,h2⟩
   ·rename_i he;rw [if_neg he];exact ⟨k',s',h1,h2⟩
  | ret=>exact hq
  | goto l=>exact hq.elim
  | panic c=>exact hq.elim
  | outgrown=>exact hq.elim
 | loop c _=>exact fun Q k s h=>h
 | exit id=>exact fun Q k s h J w0 Im00 hJ hY a w hr=>wpIn_exit ⟨k,s,h,hr⟩
 | ret=>exact fun Q k s h J w0 Im00 hJ hY a w hr=>wpIn_ret ⟨k,s,h,hr⟩
 | label l=>exact fun Q k s h J w0 Im00 hJ hY a w hr=>wpIn_label ⟨k,s,h,hr⟩
 | rangeFunc f ps asg c _ _=>exact fun Q k s h=>h
 | scope c ih=>exact fun Q k s h=>h
 | goto l=>exact fun Q k s h=>h
 | refuse why=>exact fun Q k s h=>h
def Jpz {ι:Type} (I:ι→Option Nat×St) (Pre:ι→Prop) (μ:ι→Nat) (x:ι) (Q:Ex→Option Nat→St→Prop):Ex→Option Nat→St→Prop
 | .normal,k,s=>∃ y,Pre y∧μ y<μ x∧k=(I y).1∧s.Le (I y).2
 | .exit id,k,s=>Q (.exit id) k s
 | .ret,k,s=>Q .ret k s
theorem JR.le {k:Option Nat} {s s':St} {a:Act} {w:World} (h:JR X J w0 Im00 k s a w) (hle:s.Le s'):JR X J w0 Im00 k s' a w:=by
 obtain ⟨hd,W,β0,I0,hlt,hkeep,hj,hr⟩:=h
 obtain ⟨ms,h1,h2⟩:=hle _ _ _ hr.rr
 have:ms=[]:=by rw [hd] at h1;cases ms <;> first | rfl | cases h1
 subst this
 exact ⟨hd,W,β0,I0,hlt,hkeep,hj,h1,h2⟩
theorem JWP.loop {ι:Type} (I:ι→Option Nat×St) (Pre:ι→Prop) (μ:ι→Nat) (x0:ι) {c:Code} {Q:Ex→Option Nat→St→Prop} {k:Option Nat} {s:St} (hk:k=(I x0).1) (hs:s.Le (I x0).2) (h0:Pre x0)
  (round:∀ x,Pre x→JWP X xs l c (Jpz I Pre μ x Q) (I x).1 (I x).2):JWP X xs l (.loop c) Q k s:=by
 intro J w0 Im00 hJ hY a w hr
 have key:∀ n x,μ x=n→Pre x→∀ a w,JR X J w0 Im00 (I x).1 (I x).2 a w→∀ (b:Frame) (k:List Item) (cs:List Frame),b.roundOf=(F0 none).round→(F0 none).fn b.fn→(F0 none).room (cs.length+1+1) →
   ∃ e a' w',JQ X J w0 Im00 Q e a' w'∧ArrivesIn (Machine.fenced X.P (F0 none)) X.P (lone (b.atR a (.code c :: .inLoop c :: k)) cs w) b k cs e a' w':=by
  intro n
  induction n using Nat.strongRecOn with
  | _ n ih =>
   intro x hn hP a w hr b k cs hro hb hroom
   obtain ⟨e,a₁,w₁,hq,harr⟩:=round x hP J w0 Im00 hJ hY a w hr b (.inLoop c :: k) cs hro hb hroom
   cases e with
   | normal =>
    obtain ⟨k',s',⟨y,hy,hlt,hk',hle⟩,h2⟩:=hq
    subst hk'
    obtain ⟨e₂,a₂,w₂,hq₂,harr₂⟩:=ih (μ y) (hn ▸ hlt) y rfl hy a₁ w₁ (h2.le hle) b k cs hro hb hroom
    exact ⟨e₂,a₂,w₂,hq₂,.of_steps (StepsIn.trans harr (.one (fenced_calm hb hroom rfl) stepR_inLoop)) harr₂⟩
   | exit id =>
    obtain ⟨k',s',h1,h2⟩:=hq
    exact ⟨.exit id,a₁,w₁,⟨k',s',h1,h2⟩,.pass (x:=.inLoop c) rfl (fun _ _=>.inl (by simp)) harr⟩
   | ret =>
    obtain ⟨k',s',h1,h2⟩:=hq
    exact ⟨.ret,a₁,w₁,⟨k',s',h1,h2⟩,.pass (x:=.inLoop c) rfl (fun _ _=>.inl (by simp)) harr⟩
   | goto l=>exact hq.elim
   | panic ch=>exact hq.elim
   | outgrown=>exact hq.elim
 intro b k' cs hro hb hroom
 subst hk
 obtain ⟨e,a',w',hq,harr⟩:=key _ x0 rfl h0 a w (hr.le hs) b k' cs hro hb hroom
 exact ⟨e,a',w',hq,.of_steps (.one (fenced_calm hb hroom rfl) stepR_loop) harr⟩
def jret (xs:List (List PV)):Ex→Option Nat→St→Prop
 | .normal,k,_=>k=some xs.length∨k=none
 | .ret,k,_=>k=some xs.length∨k=none
 | .exit _,_,_=>False
end
theorem Jf3.of_code {X:Cx} {f:FuncId} {fn:Func} {c:Code} {args:List L} {xs:List (List PV)} (hf:X.P.funcs[f]? = some fn) (hname:(fn.name == "runtime.NumGoroutine")=false) (hb:fn.body=some c) (hres:fn.results = #[]) (hn:args.length+1≤fn.ntmps)
  (h:∀ l,JWP X xs l c (jret xs) (some 0) ⟨Fp fn.ntmps (argW 0 (.yld l :: args)),[]⟩):Jf3 X f args xs:=by
 refine ⟨enters_of hf hname hb,fun l J hJ hY Im w vs hglob hlt hj hlen hrep=>?_⟩
 refine callsIn_wide.1 (callsIn_of_wp_marks (n:=1) (F:=Fence.wide) hf hb trivial ?_)
 have e0:Fp fn.ntmps (argW 0 (.yld l :: args))=(.yld l :: args) ++ List.replicate (fn.ntmps - (L.yld l :: args).length) .junk:=(Jen (by simpa using hn)).symm
 have hr0:JR X J w Im (some 0) ⟨Fp fn.ntmps (argW 0 (.yld l :: args)),[]⟩ { tmps:=(⟨.func (.yield l) #[] #[] :: vs⟩:Array Value) ++ Array.replicate (fn.ntmps - (⟨.func (.yield l) #[] #[] :: vs⟩:Array Value).size) undef,defers:=[] } w:=by
  refine ⟨rfl,w,fun _=>none,Im,hlt,YKeep.refl hlt,hj,rfl,fun _=>none,Im,{ fit:={ size:=?_,tmps:=fun i m hm=>?_,regs:=fun d r hr=>by simp at hr,nodup:=.nil,live:=fun d r loc hr=>by simp at hr,apart:=fun d r d' r' l1 l2 hr=>by simp at hr,im:=hlt },os:=rfl,tape:=rfl,output:=rfl,size:=Nat.le_refl _,block:=fun _ _ _=>rfl,imin:=fun _ h=>h,imnew:=fun _ h=>.inl h,regnew:=fun d r loc hr=>by simp at hr,fixed:=fun _ _ _=>rfl,glob:=hglob,mnod:=.nil,marks:=fun D hD=>(by cases hD) }⟩
  ·simp [Kv,hlen];omega
  ·simp only [e0] at hm
   by_cases hi:i<(L.yld l :: args).length
   ·rw [List.getElem?_append_left hi] at hm
    have e:((⟨.func (.yield l) #[] #[] :: vs⟩:Array Value) ++ Array.replicate (fn.ntmps - (⟨.func (.yield l) #[] #[] :: vs⟩:Array Value).size) undef).getD i undef=(Value.func (.yield l) #[] #[] :: vs).getD i undef:=by
     simp only [Array.getD_eq_getD_getElem?,List.getD_eq_getElem?_getD]
     rw [Array.getElem?_append_left (by simp at hi ⊢;omega)]
     simp
    rw [e]
    cases i with
    | zero=>simp at hm;subst hm;rfl
    | succ i =>
     simp at hm hi
     have hv:i<vs.length:=by omega
     simp [hv]
     exact hrep i _ m (by simp [hv]) hm
   ·rw [List.getElem?_append_right (by omega),List.getElem?_replicate] at hm
    split at hm
    ·cases hm;trivial
    ·cases hm
 have hw:=h l J w Im hJ hY _ w hr0
 refine wpIn_mono (show c.wpIn Fence.wide 1 X.P _ _ _ from hw) fun e a w' hq=>?_
 have fin:∀ k s,(k=some xs.length∨k=none)→JR X J w Im k s a w'→LeavesInM Fence.wide 1 X.P fn a.tmps (fun e w'=>∃ v Im',e=.returned v∧YKeep w Im w' Im'∧(J (some xs.length) w' Im'∨J none w' Im')) a.defers .returning w':=by
  rintro k s hk ⟨hd,W,β0,I0,hlt',hkeep,hj',hr⟩
  rw [hd]
  obtain ⟨_,β,Im',hx⟩:=hr
  have hg:Grow W I0 w' Im':=hx.grown (fun _ h=>h)
  have hrun:=Sh (P:=X.P) (fn:=fn) (tmps:=a.tmps) (w:=w') (vs:=[]) (by rw [hres];simp)
  refine ⟨_,hrun,_,Im',rfl,hkeep.trans (YKeep.of_grow hg hlt'),?_⟩
  have:=hJ _ _ _ _ _ hlt' hj' hg
  rcases hk with rfl | rfl
  ·exact .inl this
  ·exact .inr this
 cases e with
 | normal=>obtain ⟨k,s,h1,h2⟩:=hq;exact fin k s h1 h2
 | ret=>obtain ⟨k,s,h1,h2⟩:=hq;exact fin k s h1 h2
 | exit id=>obtain ⟨k,s,h1,h2⟩:=hq;exact h1.elim
 | goto l=>exact hq.elim
 | panic c=>exact hq.elim
 | outgrown=>exact hq.elim
end Go.LX
