/- Functions that yield, and loops over them: one lemma per step. -/
import Derived.Test.YtmejkfclabmijaaGreatDoorPathTextsLxF
import Derived.Shelf.Strings.Builder1
import Derived.Shelf.Strings.Trim
import Derived.Shelf.Small.Utf8
import Derived.Shelf.Small.Strs
import Derived.Shelf.Small.Wraps
import Derived.Shelf.Strings.BuilderF
import Derived.Shelf.Strconv.Atoi
import Derived.Shelf.Strconv.Itoa0
import Derived.Shelf.Strconv.Itoa1
import Derived.Shelf.LaysM
import Derived.Shelf.Strconv.Itoa2
import Derived.Shelf.Strconv.Itoa3
import Derived.Shelf.Strconv.Itoa4
import Derived.Shelf.Strconv.AtoiErrFast
import Derived.Shelf.Strconv.ParseIntEmpty
import Derived.Shelf.Strconv.AtoiFail
import Derived.Shelf.Strconv.Clone
import Derived.Shelf.Strconv.SyntaxError
import Derived.Shelf.LaysC
import Derived.Shelf.Strconv.ToError
import Derived.Shelf.Strconv.Lower
import Derived.Shelf.Strconv.ParseUint10
import Derived.Shelf.Strconv.ParseUint10Empty
import Derived.Shelf.Strconv.ParseUint10Any
import Derived.Shelf.Strconv.ParseInt10
import Derived.Shelf.Strconv.AtoiLong
import Derived.Shelf.Strconv.AtoiInnerAll
import Derived.Shelf.Strconv.RangeError
import Derived.Shelf.Strconv.ToErrorRange
import Derived.Shelf.Strconv.AtoiAll
import Derived.Shelf.Strconv.ErrVarAll
import Derived.Shelf.Strconv.ParseUintEmpty
import Derived.Shelf.Strings.Search1
import Derived.Shelf.Strings.Prefix
import Derived.Shelf.Unicode.Decode
import Derived.Shelf.Strings.Runes
import Derived.Shelf.Strings.IndexAny
import Derived.Shelf.Strings.AsciiSet
import Derived.Shelf.Strings.IndexAnyAll
import Derived.Shelf.Unicode.DecodeSlow
import Derived.Shelf.Unicode.DecodeAny
import Derived.Shelf.Unicode.DecodeLast
import Derived.Ground.Names2Prog
import Derived.Shelf.Slices.ReverseS
import Derived.Shelf.Slices.SearchI
import Derived.Shelf.Slices.Cells
import Derived.Ground.SlgnProg
import Derived.Shelf.SlicesE.Reverse
import Derived.Shelf.Lays7
import Derived.Shelf.Spec.TrailingZeros
import Derived.Shelf.Unicode.ValidAny
import Derived.Test.YtmejkfclabmijaaGreatDoorProg
set_option linter.unusedSimpArgs false
set_option linter.unusedVariables false
set_option linter.unusedSectionVars false
set_option linter.unnecessarySimpa false
namespace Go.LX
open Go Go.RowKit Go.Proofs
def Jnl (x:PV):Option (List PV)→Option (List PV)
 | some xs=>some (x :: xs)
 | none=>none
def fixN:Option Nat→Option Nat
 | some n=>if n<500000 then some n else none
 | none=>none
section
variable {X:Cx} {xs:List (List PV)} {l:Nat} {Q:Ex→Option Nat→St→Prop} {K:Option Nat→St→Prop} {n:Option Nat} {t:List L} {r:Regs} {ds:List (Option Tmp)} {rest:List Oper} {dst:Option Tmp} {ty:TypeId} {ps:String} {af:Array Edge} {g:Option (Nat×Bool)} {k:Nat}
theorem Jio:jwp X xs l .skip Q n ⟨t,r⟩=Q .normal n ⟨t,r⟩:=(rfl)
theorem U2 {id:Nat} {ops:Array Oper}:jwp X xs l (.region id ops false) Q n ⟨t,r⟩=jops X xs l (ops.toList.map (·.dst)) ops.toList (Q .normal) n ⟨t,r⟩:=(rfl)
theorem Jjw {a b:Code}:jwp X xs l (a.seq b) Q n ⟨t,r⟩=jwp X xs l a (jseq (jwp X xs l b) Q) n ⟨t,r⟩:=(rfl)
theorem Jh2 {c:Operand} {a b:Code}:jwp X xs l (.cond c a b) Q n ⟨t,r⟩=Jbm ((St.mk t r).get c) (jwp X xs l a Q n) (jwp X xs l b Q n) ⟨t,r⟩:=(rfl)
theorem Jb5 {id:Nat} {c:Code}:jwp X xs l (.block id c) Q n ⟨t,r⟩=jwp X xs l c (Zo id Q) n ⟨t,r⟩:=(rfl)
theorem j_loop {c:Code}:jwp X xs l (.loop c) Q n ⟨t,r⟩=JWP X xs l (.loop c) Q n ⟨t,r⟩:=(rfl)
theorem Jm0 {id:Nat}:jwp X xs l (.exit id) Q n ⟨t,r⟩=Q (.exit id) n ⟨t,r⟩:=(rfl)
theorem j_ret:jwp X xs l .ret Q n ⟨t,r⟩=Q .ret n ⟨t,r⟩:=(rfl)
theorem S3 {B:(Ex→Option Nat→St→Prop)→Option Nat→St→Prop}:jseq B Q .normal n ⟨t,r⟩=B Q n ⟨t,r⟩:=(rfl)
theorem Ji1 {B:(Ex→Option Nat→St→Prop)→Option Nat→St→Prop} {id:Nat}:jseq B Q (.exit id) n ⟨t,r⟩=Q (.exit id) n ⟨t,r⟩:=(rfl)
theorem Js4 {B:(Ex→Option Nat→St→Prop)→Option Nat→St→Prop}:jseq B Q .ret n ⟨t,r⟩=Q .ret n ⟨t,r⟩:=(rfl)
theorem Jgj {id:Nat}:Zo id Q .normal n ⟨t,r⟩=Q .normal n ⟨t,r⟩:=(rfl)
theorem Jid {id id':Nat}:Zo id Q (.exit id') n ⟨t,r⟩=if id'=id then Q .normal n ⟨t,r⟩ else Q (.exit id') n ⟨t,r⟩:=(rfl)
theorem Jsa {id:Nat}:Zo id Q .ret n ⟨t,r⟩=Q .ret n ⟨t,r⟩:=(rfl)
theorem Jfe:jops X xs l ds [] K n ⟨t,r⟩=K n ⟨t,r⟩:=(rfl)
theorem Yr {op:Op}:jops X xs l ds (⟨dst,op,ty,ps,af,none⟩ :: rest) K n ⟨t,r⟩=jop X xs l ⟨dst,op,ty,ps,af,none⟩ (jops X xs l ds rest K) n ⟨t,r⟩:=(rfl)
theorem Jcd {f:Operand} {args:Array Operand} {ats:Array TypeId}:jop X xs l ⟨dst,.call { callee:=.value f,args:=args,argTypes:=ats },ty,ps,af,g⟩ K n ⟨t,r⟩=Jk2 X xs l ⟨dst,.call { callee:=.value f,args:=args,argTypes:=ats },ty,ps,af,g⟩ args.toList K n ⟨t,r⟩ ((St.mk t r).get f):=(rfl)
theorem jc_yld {o:Oper} {args:List Operand} {l':Nat}:Jk2 X xs l o args K n ⟨t,r⟩ (.yld l')=Jiu xs l l' ⟨t,r⟩ args o.dst K n:=(rfl)
theorem Jod {o:Oper} {args:List Operand} {f:FuncId} {is:List Nat}:Jk2 X xs l o args K n ⟨t,r⟩ (.fn f is)=lop X o (K n) ⟨t,r⟩:=(rfl)
theorem jy {l':Nat} {args:List Operand}:Jiu xs l l' ⟨t,r⟩ args dst K (some k)=(l'=l∧X2 xs k (Wz (args.map ((St.mk t r).freezeOps args).get)) (fun m=>K m ((((St.mk t r).freezeOps args).bare).put dst (.p (.bool true)))) (fun m=>K m ((((St.mk t r).freezeOps args).bare).put dst (.p (.bool false))))):=(rfl)
theorem jy_at {x:List PV} {a b:Option Nat→Prop}:X2 xs k (some x) a b=(xs[k]? = some x∧a (some (k+1))∧b none):=(rfl)
theorem Jgp:Wz []=some []:=(rfl)
theorem Job {x:PV} {ls:List L}:Wz (.p x :: ls)=Jnl x (Wz ls):=by
 simp only [Wz,Jnl]
 cases Wz ls <;> rfl
theorem Jky {x:PV} {ys:List PV}:Jnl x (some ys)=some (x :: ys):=(rfl)
theorem j_bare:(St.mk t r).bare=⟨t.map (L.map fun _=>none),[]⟩:=(rfl)
theorem Zf:jret xs .normal n ⟨t,r⟩=(n=some xs.length∨n=none):=(rfl)
theorem Jsn:jret xs .ret n ⟨t,r⟩=(n=some xs.length∨n=none):=(rfl)
theorem Jhi {ι:Type} {I:ι→Option Nat×St} {Pre:ι→Prop} {μ:ι→Nat} {x:ι}:Jpz I Pre μ x Q .normal n ⟨t,r⟩ = ∃ y,Pre y∧μ y<μ x∧n=(I y).1∧(St.mk t r).Le (I y).2:=(rfl)
theorem Jhn {ι:Type} {I:ι→Option Nat×St} {Pre:ι→Prop} {μ:ι→Nat} {x:ι} {id:Nat}:Jpz I Pre μ x Q (.exit id) n ⟨t,r⟩=Q (.exit id) n ⟨t,r⟩:=(rfl)
theorem Js9 {ι:Type} {I:ι→Option Nat×St} {Pre:ι→Prop} {μ:ι→Nat} {x:ι}:Jpz I Pre μ x Q .ret n ⟨t,r⟩=Q .ret n ⟨t,r⟩:=(rfl)
theorem Yw {x:Operand}:jop X xs l ⟨dst,.move x,ty,ps,af,g⟩ K n ⟨t,r⟩=lop X ⟨dst,.move x,ty,ps,af,g⟩ (K n) ⟨t,r⟩:=(rfl)
theorem Jak {x:Operand}:jop X xs l ⟨dst,.assign x,ty,ps,af,g⟩ K n ⟨t,r⟩=lop X ⟨dst,.assign x,ty,ps,af,g⟩ (K n) ⟨t,r⟩:=(rfl)
theorem Jiv {op:BinOp} {tx ty1:TypeId} {x y:Operand}:jop X xs l ⟨dst,.binOp op tx x y ty1,ty,ps,af,g⟩ K n ⟨t,r⟩=lop X ⟨dst,.binOp op tx x y ty1,ty,ps,af,g⟩ (K n) ⟨t,r⟩:=(rfl)
theorem jp_un {op:UnOp} {tx:TypeId} {x:Operand}:jop X xs l ⟨dst,.unOp op tx x,ty,ps,af,g⟩ K n ⟨t,r⟩=lop X ⟨dst,.unOp op tx x,ty,ps,af,g⟩ (K n) ⟨t,r⟩:=(rfl)
theorem Y0 {tx:TypeId} {x:Operand}:jop X xs l ⟨dst,.load tx x,ty,ps,af,g⟩ K n ⟨t,r⟩=lop X ⟨dst,.load tx x,ty,ps,af,g⟩ (K n) ⟨t,r⟩:=(rfl)
theorem Jju {tx:TypeId} {a x:Operand}:jop X xs l ⟨dst,.store tx a x,ty,ps,af,g⟩ K n ⟨t,r⟩=lop X ⟨dst,.store tx a x,ty,ps,af,g⟩ (K n) ⟨t,r⟩:=(rfl)
theorem Tx {tx:TypeId} {x:Operand} {f:Nat}:jop X xs l ⟨dst,.fieldAddr tx x f,ty,ps,af,g⟩ K n ⟨t,r⟩=lop X ⟨dst,.fieldAddr tx x f,ty,ps,af,g⟩ (K n) ⟨t,r⟩:=(rfl)
theorem Uc {tx:TypeId} {x i:Operand}:jop X xs l ⟨dst,.indexAddr tx x i,ty,ps,af,g⟩ K n ⟨t,r⟩=lop X ⟨dst,.indexAddr tx x i,ty,ps,af,g⟩ (K n) ⟨t,r⟩:=(rfl)
theorem Jj5 {tx:TypeId} {x:Operand} {lo hi mx:Option Operand}:jop X xs l ⟨dst,.slice tx x lo hi mx,ty,ps,af,g⟩ K n ⟨t,r⟩=lop X ⟨dst,.slice tx x lo hi mx,ty,ps,af,g⟩ (K n) ⟨t,r⟩:=(rfl)
end
section
variable {X:Cx} {K:St→Prop} {t:List L} {r:Regs} {Inv:Nat→Regs→Prop} {Stop:Ex→Regs→Prop} {n k:Nat}
theorem Rn {id:Nat} {ops:Array Oper}:lwpA X (.region id ops false) K ⟨t,r⟩=lops X (ops.toList.map (·.dst)) ops.toList K ⟨t,r⟩:=(rfl)
theorem Jsk {a b:Code}:lwpA X (a.seq b) K ⟨t,r⟩=lwpA X a (lwpA X b K) ⟨t,r⟩:=(rfl)
theorem O1 {rn:List (Nat×Nat)}:Jip n rn Inv Stop k .normal ⟨t,r⟩ = ∃ R,Inv (k+1) R∧(Np rn ⟨t,r⟩).Le ⟨Fp n [],R⟩:=(rfl)
theorem kr_ret {rn:List (Nat×Nat)}:Jip n rn Inv Stop k .ret ⟨t,r⟩ = ∃ R,Stop .ret R∧(Np rn ⟨t,r⟩).Le ⟨Fp n [],R⟩:=(rfl)
theorem Mn {p:Tmp} {ps:List Tmp} {x:PV} {ys:List PV}:setPs (p :: ps) (x :: ys) t=setPs ps ys (t.set p (.p x)):=(rfl)
theorem Nl {ys:List PV}:setPs [] ys t=t:=by cases ys <;> rfl
theorem S6:rnOf k []=[]:=(rfl)
theorem Sy {d:Nat} {T:TypeId} {cs:List L}:rnOf k ((d,.var T cs) :: r)=(d,1000+k) :: rnOf (k+1) r:=(rfl)
theorem Yu {d:Nat} {T:TypeId} {sz:Nat} {es:List (List PV)}:rnOf k ((d,.row T sz es) :: r)=(d,if 1000≤d∧d<500000 then 1000+k else 500000+k) :: rnOf (k+1) r:=by
 simp [rnOf,Jmu]
theorem Jgn {ρ:Ren} {d:Nat}:Zc ρ d=fixN (upId ρ d):=by
 unfold Zc fixN
 cases upId ρ d <;> rfl
theorem O0 {d:Nat}:fixN (some d)=if d<500000 then some d else none:=(rfl)
end
end Go.LX
namespace Go.LX
open Go Go.RowKit Go.Proofs
def So (rs0:Regs):Regs→Prop
 | []=>True
 | (e,_) :: rest=>(e=900∨findKey e rs0=true)∧So rs0 rest
theorem Xe {rs0:Regs}:∀ {R:Regs},So rs0 R→∀ e r,(e,r)∈R→e=900∨findKey e rs0=true
 | [],_,e,r,h=>by cases h
 | (e',q) :: R,h,e,r,hm=>by
  rcases List.mem_cons.1 hm with hm | hm
  ·cases hm;exact h.1
  ·exact Xe h.2 e r hm
def kLe (Q:Ex→St→Prop) (e:Ex) (s:St):Prop:=∃ s2,s.Le s2∧Q e s2
theorem SWP.ofLe {X:Cx} {ro:Option Nat} {c:Code} {Q:Ex→St→Prop} {s:St} (h:SWP X ro c (kLe Q) s):SWP X ro c Q s:=fun Γ a w hG hr =>
 wpIn_mono (h Γ a w hG hr) fun e a w hq'=>by
  cases e with
  | normal=>obtain ⟨s',⟨s2,h1,h2⟩,h3⟩:=hq';exact ⟨s2,h2,h1 _ _ _ h3⟩
  | exit id=>obtain ⟨s',⟨s2,h1,h2⟩,h3⟩:=hq';exact ⟨s2,h2,h1 _ _ _ h3⟩
  | ret=>obtain ⟨s',⟨s2,h1,h2⟩,h3⟩:=hq';exact ⟨s2,h2,h1 _ _ _ h3⟩
  | goto l=>exact hq'.elim
  | panic c=>exact hq'.elim
  | outgrown=>exact hq'.elim
theorem SWP.range {X:Cx} {g:Operand} {ps:Array Tmp} {assign body:Code} {Q:Ex→St→Prop} {t0:List L} {r0:Regs} {f d:Nat} {T:TypeId} {cs:List L} {pcs:List PV} (xs:List (List PV)) (n:Nat) (rn:List (Nat×Nat)) (hrn:∀ x∈rn,x.2<1000∨500000≤x.2)
  (ρ:Ren) (sl:List L) (rs0:Regs) (t1:List L) (r1:Regs) (Inv:Nat→Regs→Prop) (Stop:Ex→Regs→Prop)
  (hg:(St.mk t0 r0).get g=.fn f [d]) (hd:Bj d r0=some (.var T cs)) (hp:Gv L.pure? cs=some pcs) (hi:Jf3 X f [.eptr pcs] xs) (hs1:N6 d (some .gone) ⟨t0,r0⟩=⟨t1,r1⟩)
  (hn:t1.length=n) (hsm:r1.length≤1000) (hps:∀ x∈xs,x.length=ps.size) (hρ:rnOf 0 r1=ρ) (hsl:t1.map (L.map (Zc ρ))=sl) (hr0:Lq ρ r1=rs0) (h0:Inv 0 rs0)
  (hkI:∀ k R,Inv k R→So rs0 R) (hkS:∀ x R,Stop x R→So rs0 R) (hSn:∀ R,¬ Stop .normal R)
  (round:∀ k x R l,xs[k]? = some x→Inv k R→lwpA X assign (fun s2=>SWP X (some l) body (Jip n rn Inv Stop k) s2) ⟨setPs ps.toList x sl,R⟩)
  (done:∀ R,Inv xs.length R→kLe Q .normal (St.after ρ (Oi none R) R ⟨t1,r1⟩))
  (stop:∀ x R,Stop x R→kLe Q x (St.after ρ (Oi none R) R ⟨t1,r1⟩)):SWP X none (.rangeFunc g ps assign body) Q ⟨t0,r0⟩:=by
 subst hρ hsl hr0
 exact SWP.ofLe (SWP.rangeFunc xs n rn hrn Inv Stop hg hd hp hi hs1 hn hsm hps h0 (fun k R h=>Xe (hkI k R h)) (fun x R h=>Xe (hkS x R h)) hSn round done stop)
end Go.LX
namespace Go.Proofs
open Go.Shelf
def Tryz.lays137_ren:Go.Shelf.Ren:=⟨fun | 137=>111 | 217=>182 | 266=>227 | n=>n,fun | 9=>9 | 5=>5 | 3=>3 | n=>n,fun | n=>n⟩
theorem Tryz.lays137:Go.Proofs.Lays.n137 Tryz.prog Tryz.lays137_ren:={
 mixed:=by kernel_rfl
 f137:=Tryz.func111.trans (congrArg some (by kernel_rfl))
 f217:=Tryz.func182.trans (congrArg some (by kernel_rfl))
 f266:=Tryz.func227.trans (congrArg some (by kernel_rfl))
 t3:=Tryz.underlying3
 a3:=Tryz.isAgg3
 z3:=Tryz.sizeOf3
 v3:=Tryz.zeroValue3
 t5:=Tryz.underlying5
 a5:=Tryz.isAgg5
 z5:=Tryz.sizeOf5
 v5:=Tryz.zeroValue5
 t9:=Tryz.underlying9
 a9:=Tryz.isAgg9
 z9:=Tryz.sizeOf9
 v9:=Tryz.zeroValue9 }
open Go.RowKit in
theorem Tryz.strings_IndexByte (s:ByteArray) (c:Int) (w:World) :
  Calls Tryz.prog 111 #[.string s,.int .u8 c] w fun e w'=>e=.returned (.int .i64 (Lib.indexByte s.data.toList c.toNat.toUInt8))∧w'=w:=Any.strings_IndexByte Tryz.lays137 s c w
def Tryz.laysM171_ren:Go.Shelf.Ren:=⟨fun | 171=>113 | 243=>185 | 246=>226 | 283=>252 | 284=>253 | 285=>254 | 286=>255 | 129=>268 | 317=>267 | 318=>269 | 319=>270 | 320=>271 | 337=>287 | 338=>288 | n=>n,fun | 3=>3 | 9=>9 | 2=>2 | 4=>4 | 171=>238 | 0=>0 | 53=>189 | 37=>126 | 5=>5 | 173=>241 | 212=>252 | 51=>237 | 20=>20 | 213=>253 | 46=>122 | 232=>274 | 233=>275 | n=>n,fun | 17=>5 | 18=>6 | 19=>7 | n=>n⟩
theorem Tryz.laysM171:Go.Proofs.LaysM.n171 Tryz.prog Tryz.laysM171_ren:={
 mixed:=by kernel_rfl
 f129:=Tryz.func268.trans (congrArg some (by kernel_rfl))
 f171:=Tryz.func113.trans (congrArg some (by kernel_rfl))
 f243:=Tryz.func185.trans (congrArg some (by kernel_rfl))
 f246:=Tryz.func226.trans (congrArg some (by kernel_rfl))
 f283:=Tryz.func252.trans (congrArg some (by kernel_rfl))
 f284:=Tryz.func253.trans (congrArg some (by kernel_rfl))
 f285:=Tryz.func254.trans (congrArg some (by kernel_rfl))
 f286:=Tryz.func255.trans (congrArg some (by kernel_rfl))
 f317:=Tryz.func267.trans (congrArg some (by kernel_rfl))
 f318:=Tryz.func269.trans (congrArg some (by kernel_rfl))
 f319:=Tryz.func270.trans (congrArg some (by kernel_rfl))
 f320:=Tryz.func271.trans (congrArg some (by kernel_rfl))
 f337:=Tryz.func287.trans (congrArg some (by kernel_rfl))
 f338:=Tryz.func288.trans (congrArg some (by kernel_rfl))
 t0:=Tryz.underlying0
 a0:=Tryz.isAgg0
 z0:=Tryz.sizeOf0
 v0:=Tryz.zeroValue0
 t2:=Tryz.underlying2
 a2:=Tryz.isAgg2
 z2:=Tryz.sizeOf2
 v2:=Tryz.zeroValue2
 t3:=Tryz.underlying3
 a3:=Tryz.isAgg3
 z3:=Tryz.sizeOf3
 v3:=Tryz.zeroValue3
 t4:=Tryz.underlying4
 a4:=Tryz.isAgg4
 z4:=Tryz.sizeOf4
 v4:=Tryz.zeroValue4
 t5:=Tryz.underlying5
 a5:=Tryz.isAgg5
 z5:=Tryz.sizeOf5
 v5:=Tryz.zeroValue5
 t9:=Tryz.underlying9
 a9:=Tryz.isAgg9
 z9:=Tryz.sizeOf9
 v9:=Tryz.zeroValue9
 t20:=Tryz.underlying20
 a20:=Tryz.isAgg20
 z20:=Tryz.sizeOf20
 v20:=Tryz.zeroValue20
 t37:=Tryz.underlying126
 a37:=Tryz.isAgg126
 z37:=Tryz.sizeOf126
 v37:=Tryz.zeroValue126
 t46:=Tryz.underlying122
 a46:=Tryz.isAgg122
 z46:=Tryz.sizeOf122
 v46:=Tryz.zeroValue122
 t51:=Tryz.underlying237
 a51:=Tryz.isAgg237
 z51:=Tryz.sizeOf237
 v51:=Tryz.zeroValue237
 t53:=Tryz.underlying189
 a53:=Tryz.isAgg189
 z53:=Tryz.sizeOf189
 v53:=Tryz.zeroValue189
 t171:=Tryz.underlying238
 a171:=Tryz.isAgg238
 z171:=Tryz.sizeOf238
 v171:=Tryz.zeroValue238
 t173:=Tryz.underlying241
 a173:=Tryz.isAgg241
 z173:=Tryz.sizeOf241
 v173:=Tryz.zeroValue241
 t212:=Tryz.underlying252
 a212:=Tryz.isAgg252
 z212:=Tryz.sizeOf252
 v212:=Tryz.zeroValue252
 t213:=Tryz.underlying253
 a213:=Tryz.isAgg253
 z213:=Tryz.sizeOf253
 t232:=Tryz.underlying274
 a232:=Tryz.isAgg274
 z232:=Tryz.sizeOf274
 v232:=Tryz.zeroValue274
 t233:=Tryz.underlying275
 a233:=Tryz.isAgg275
 z233:=Tryz.sizeOf275
 v233:=Tryz.zeroValue275
 g17:=by kernel_rfl
 g18:=by kernel_rfl
 g19:=by kernel_rfl
 i0:=by kernel_rfl
 i2:=by kernel_rfl
 i3:=by kernel_rfl
 i4:=by kernel_rfl
 i5:=by kernel_rfl
 i9:=by kernel_rfl
 i20:=by kernel_rfl
 i37:=by kernel_rfl
 i46:=by kernel_rfl
 i51:=by kernel_rfl
 i53:=by kernel_rfl
 i171:=by kernel_rfl
 i173:=by kernel_rfl
 i212:=by kernel_rfl
 i232:=by kernel_rfl
 i233:=by kernel_rfl
 m17:=by kernel_rfl
 m18:=by kernel_rfl
 m19:=by kernel_rfl }
open Go.RowKit Go.Sort Go.Lib in
theorem Tryz.strconv_Itoa (n:Int) (h0:-9223372036854775808≤n) (h1:n≤9223372036854775807) (w:World) (htab:Lib.TabIs Tryz.prog w "internal/strconv.uint64pow10" .u64 Lib.pow10Tab) :
  Calls Tryz.prog 113 #[.int .i64 n] w fun e w'=>e=.returned (.string ⟨(Lib.itoa n).toArray⟩)∧∃ k os,w'=grow (w.drewN k) os:=Any.strconv_Itoa Tryz.laysM171 n h0 h1 w htab
def Tryz.laysC245_ren:Go.Shelf.Ren:=⟨fun | 245=>184 | 279=>229 | 280=>230 | 281=>231 | 282=>232 | 316=>257 | 171=>113 | 205=>258 | 243=>185 | 246=>226 | 283=>252 | 284=>253 | 285=>254 | 286=>255 | 129=>268 | 317=>267 | 318=>269 | 319=>270 | 320=>271 | 337=>287 | 338=>288 | n=>n,fun | 9=>9 | 3=>3 | 75=>113 | 167=>213 | 4=>4 | 168=>216 | 210=>244 | 37=>126 | 0=>0 | 127=>191 | 145=>258 | 143=>256 | 2=>2 | 171=>238 | 53=>189 | 5=>5 | 173=>241 | 212=>252 | 51=>237 | 20=>20 | 213=>253 | 46=>122 | 232=>274 | 233=>275 | 80=>129 | n=>n,fun | 15=>3 | 16=>4 | 17=>5 | 18=>6 | 19=>7 | n=>n⟩
theorem Tryz.laysC245:Go.Proofs.LaysC.n245 Tryz.prog Tryz.laysC245_ren:={
 mixed:=by kernel_rfl
 f129:=Tryz.func268.trans (congrArg some (by kernel_rfl))
 f171:=Tryz.func113.trans (congrArg some (by kernel_rfl))
 f205:=Tryz.func258.trans (congrArg some (by kernel_rfl))
 f243:=Tryz.func185.trans (congrArg some (by kernel_rfl))
 f245:=Tryz.func184.trans (congrArg some (by kernel_rfl))
 f246:=Tryz.func226.trans (congrArg some (by kernel_rfl))
 f279:=Tryz.func229.trans (congrArg some (by kernel_rfl))
 f280:=Tryz.func230.trans (congrArg some (by kernel_rfl))
 f281:=Tryz.func231.trans (congrArg some (by kernel_rfl))
 f282:=Tryz.func232.trans (congrArg some (by kernel_rfl))
 f283:=Tryz.func252.trans (congrArg some (by kernel_rfl))
 f284:=Tryz.func253.trans (congrArg some (by kernel_rfl))
 f285:=Tryz.func254.trans (congrArg some (by kernel_rfl))
 f286:=Tryz.func255.trans (congrArg some (by kernel_rfl))
 f316:=Tryz.func257.trans (congrArg some (by kernel_rfl))
 f317:=Tryz.func267.trans (congrArg some (by kernel_rfl))
 f318:=Tryz.func269.trans (congrArg some (by kernel_rfl))
 f319:=Tryz.func270.trans (congrArg some (by kernel_rfl))
 f320:=Tryz.func271.trans (congrArg some (by kernel_rfl))
 f337:=Tryz.func287.trans (congrArg some (by kernel_rfl))
 f338:=Tryz.func288.trans (congrArg some (by kernel_rfl))
 t0:=Tryz.underlying0
 a0:=Tryz.isAgg0
 z0:=Tryz.sizeOf0
 v0:=Tryz.zeroValue0
 t2:=Tryz.underlying2
 a2:=Tryz.isAgg2
 z2:=Tryz.sizeOf2
 v2:=Tryz.zeroValue2
 t3:=Tryz.underlying3
 a3:=Tryz.isAgg3
 z3:=Tryz.sizeOf3
 v3:=Tryz.zeroValue3
 t4:=Tryz.underlying4
 a4:=Tryz.isAgg4
 z4:=Tryz.sizeOf4
 v4:=Tryz.zeroValue4
 t5:=Tryz.underlying5
 a5:=Tryz.isAgg5
 z5:=Tryz.sizeOf5
 v5:=Tryz.zeroValue5
 t9:=Tryz.underlying9
 a9:=Tryz.isAgg9
 z9:=Tryz.sizeOf9
 v9:=Tryz.zeroValue9
 t20:=Tryz.underlying20
 a20:=Tryz.isAgg20
 z20:=Tryz.sizeOf20
 v20:=Tryz.zeroValue20
 t37:=Tryz.underlying126
 a37:=Tryz.isAgg126
 z37:=Tryz.sizeOf126
 v37:=Tryz.zeroValue126
 t46:=Tryz.underlying122
 a46:=Tryz.isAgg122
 z46:=Tryz.sizeOf122
 v46:=Tryz.zeroValue122
 t51:=Tryz.underlying237
 a51:=Tryz.isAgg237
 z51:=Tryz.sizeOf237
 v51:=Tryz.zeroValue237
 t53:=Tryz.underlying189
 a53:=Tryz.isAgg189
 z53:=Tryz.sizeOf189
 v53:=Tryz.zeroValue189
 t75:=Tryz.underlying113
 a75:=Tryz.isAgg113
 z75:=Tryz.sizeOf113
 v75:=Tryz.zeroValue113
 t127:=Tryz.underlying191
 a127:=Tryz.isAgg191
 z127:=Tryz.sizeOf191
 v127:=Tryz.zeroValue191
 t143:=Tryz.underlying256
 a143:=Tryz.isAgg256
 z143:=Tryz.sizeOf256
 v143:=Tryz.zeroValue256
 t145:=Tryz.underlying258
 a145:=Tryz.isAgg258
 z145:=Tryz.sizeOf258
 v145:=Tryz.zeroValue258
 t167:=Tryz.underlying213
 a167:=Tryz.isAgg213
 z167:=Tryz.sizeOf213
 v167:=Tryz.zeroValue213
 t168:=Tryz.underlying216
 a168:=Tryz.isAgg216
 z168:=Tryz.sizeOf216
 v168:=Tryz.zeroValue216
 t171:=Tryz.underlying238
 a171:=Tryz.isAgg238
 z171:=Tryz.sizeOf238
 v171:=Tryz.zeroValue238
 t173:=Tryz.underlying241
 a173:=Tryz.isAgg241
 z173:=Tryz.sizeOf241
 v173:=Tryz.zeroValue241
 t210:=Tryz.underlying244
 a210:=Tryz.isAgg244
 z210:=Tryz.sizeOf244
 v210:=Tryz.zeroValue244
 t212:=Tryz.underlying252
 a212:=Tryz.isAgg252
 z212:=Tryz.sizeOf252
 v212:=Tryz.zeroValue252
 t213:=Tryz.underlying253
 a213:=Tryz.isAgg253
 z213:=Tryz.sizeOf253
 t232:=Tryz.underlying274
 a232:=Tryz.isAgg274
 z232:=Tryz.sizeOf274
 v232:=Tryz.zeroValue274
 t233:=Tryz.underlying275
 a233:=Tryz.isAgg275
 z233:=Tryz.sizeOf275
 v233:=Tryz.zeroValue275
 g15:=by kernel_rfl
 g16:=by kernel_rfl
 g17:=by kernel_rfl
 g18:=by kernel_rfl
 g19:=by kernel_rfl
 t80:=Tryz.underlying129
 a80:=Tryz.isAgg129
 z80:=Tryz.sizeOf129
 v80:=Tryz.zeroValue129
 i0:=by kernel_rfl
 i2:=by kernel_rfl
 i3:=by kernel_rfl
 i4:=by kernel_rfl
 i5:=by kernel_rfl
 i9:=by kernel_rfl
 i20:=by kernel_rfl
 i37:=by kernel_rfl
 i46:=by kernel_rfl
 i51:=by kernel_rfl
 i53:=by kernel_rfl
 i75:=by kernel_rfl
 i80:=by kernel_rfl
 i127:=by kernel_rfl
 i143:=by kernel_rfl
 i145:=by kernel_rfl
 i167:=by kernel_rfl
 i168:=by kernel_rfl
 i171:=by kernel_rfl
 i173:=by kernel_rfl
 i210:=by kernel_rfl
 i212:=by kernel_rfl
 i232:=by kernel_rfl
 i233:=by kernel_rfl
 m15:=by kernel_rfl
 m16:=by kernel_rfl
 m17:=by kernel_rfl
 m18:=by kernel_rfl
 m19:=by kernel_rfl
 c0:=by kernel_rfl
 c2:=by kernel_rfl
 c3:=by kernel_rfl
 c4:=by kernel_rfl
 c5:=by kernel_rfl
 c9:=by kernel_rfl
 c20:=by kernel_rfl
 c37:=by kernel_rfl
 c46:=by kernel_rfl
 c51:=by kernel_rfl
 c53:=by kernel_rfl
 c75:=by kernel_rfl
 c80:=by kernel_rfl
 c127:=by kernel_rfl
 c143:=by kernel_rfl
 c145:=by kernel_rfl
 c167:=by kernel_rfl
 c168:=by kernel_rfl
 c171:=by kernel_rfl
 c173:=by kernel_rfl
 c210:=by kernel_rfl
 c212:=by kernel_rfl
 c213:=by kernel_rfl
 c232:=by kernel_rfl
 c233:=by kernel_rfl }
open Go.RowKit in
theorem Tryz.strconv_toError_syntax (fn s:ByteArray) (base bits:Int) (ev:Value) (w:World) (hlim:s.size≤281474976710656) (hv:w.cell? ⟨3,0,none⟩=some ev) (hev:ev=.nilIface∨∃ te pe,ev=.iface te pe) :
  Calls Tryz.prog 184 #[.string fn,.string s,.int .i64 base,.int .i64 bits,.iface 213 (.int .i64 2)] w fun e w'=>∃ N,e=.returned (.iface 216 (.pointer (some ⟨N,0,none⟩)))∧w.heap.size≤N∧w'.heap[N]? = some (.cells #[.string fn,.string s,ev] 244 (0,0))∧Below w.heap.size w w':=Any.strconv_toError_syntax Tryz.laysC245 fn s base bits ev w hlim hv hev
open Go.RowKit in
def Tryz.laysC172_ren:Go.Shelf.Ren:=⟨fun | 172=>112 | 244=>183 | 245=>184 | 247=>228 | 279=>229 | 280=>230 | 281=>231 | 282=>232 | 287=>256 | 316=>257 | 171=>113 | 205=>258 | 321=>272 | 322=>273 | 243=>185 | 246=>226 | 283=>252 | 284=>253 | 285=>254 | 286=>255 | 129=>268 | 317=>267 | 318=>269 | 319=>270 | 320=>271 | 337=>287 | 338=>288 | n=>n,fun | 9=>9 | 3=>3 | 75=>113 | 76=>114 | 4=>4 | 5=>5 | 167=>213 | 37=>126 | 0=>0 | 85=>214 | 2=>2 | 168=>216 | 53=>189 | 175=>235 | 46=>122 | 210=>244 | 127=>191 | 145=>258 | 143=>256 | 21=>21 | 171=>238 | 173=>241 | 212=>252 | 51=>237 | 20=>20 | 213=>253 | 232=>274 | 233=>275 | 80=>129 | n=>n,fun | 15=>3 | 16=>4 | 17=>5 | 18=>6 | 19=>7 | n=>n⟩
theorem Tryz.laysC172:Go.Proofs.LaysC.n172 Tryz.prog Tryz.laysC172_ren:={
 mixed:=by kernel_rfl
 f129:=Tryz.func268.trans (congrArg some (by kernel_rfl))
 f171:=Tryz.func113.trans (congrArg some (by kernel_rfl))
 f172:=Tryz.func112.trans (congrArg some (by kernel_rfl))
 f205:=Tryz.func258.trans (congrArg some (by kernel_rfl))
 f243:=Tryz.func185.trans (congrArg some (by kernel_rfl))
 f244:=Tryz.func183.trans (congrArg some (by kernel_rfl))
 f245:=Tryz.func184.trans (congrArg some (by kernel_rfl))
 f246:=Tryz.func226.trans (congrArg some (by kernel_rfl))
 f247:=Tryz.func228.trans (congrArg some (by kernel_rfl))
 f279:=Tryz.func229.trans (congrArg some (by kernel_rfl))
 f280:=Tryz.func230.trans (congrArg some (by kernel_rfl))
 f281:=Tryz.func231.trans (congrArg some (by kernel_rfl))
 f282:=Tryz.func232.trans (congrArg some (by kernel_rfl))
 f283:=Tryz.func252.trans (congrArg some (by kernel_rfl))
 f284:=Tryz.func253.trans (congrArg some (by kernel_rfl))
 f285:=Tryz.func254.trans (congrArg some (by kernel_rfl))
 f286:=Tryz.func255.trans (congrArg some (by kernel_rfl))
 f287:=Tryz.func256.trans (congrArg some (by kernel_rfl))
 f316:=Tryz.func257.trans (congrArg some (by kernel_rfl))
 f317:=Tryz.func267.trans (congrArg some (by kernel_rfl))
 f318:=Tryz.func269.trans (congrArg some (by kernel_rfl))
 f319:=Tryz.func270.trans (congrArg some (by kernel_rfl))
 f320:=Tryz.func271.trans (congrArg some (by kernel_rfl))
 f321:=Tryz.func272.trans (congrArg some (by kernel_rfl))
 f322:=Tryz.func273.trans (congrArg some (by kernel_rfl))
 f337:=Tryz.func287.trans (congrArg some (by kernel_rfl))
 f338:=Tryz.func288.trans (congrArg some (by kernel_rfl))
 t0:=Tryz.underlying0
 a0:=Tryz.isAgg0
 z0:=Tryz.sizeOf0
 v0:=Tryz.zeroValue0
 t2:=Tryz.underlying2
 a2:=Tryz.isAgg2
 z2:=Tryz.sizeOf2
 v2:=Tryz.zeroValue2
 t3:=Tryz.underlying3
 a3:=Tryz.isAgg3
 z3:=Tryz.sizeOf3
 v3:=Tryz.zeroValue3
 t4:=Tryz.underlying4
 a4:=Tryz.isAgg4
 z4:=Tryz.sizeOf4
 v4:=Tryz.zeroValue4
 t5:=Tryz.underlying5
 a5:=Tryz.isAgg5
 z5:=Tryz.sizeOf5
 v5:=Tryz.zeroValue5
 t9:=Tryz.underlying9
 a9:=Tryz.isAgg9
 z9:=Tryz.sizeOf9
 v9:=Tryz.zeroValue9
 t20:=Tryz.underlying20
 a20:=Tryz.isAgg20
 z20:=Tryz.sizeOf20
 v20:=Tryz.zeroValue20
 t21:=Tryz.underlying21
 a21:=Tryz.isAgg21
 z21:=Tryz.sizeOf21
 v21:=Tryz.zeroValue21
 t37:=Tryz.underlying126
 a37:=Tryz.isAgg126
 z37:=Tryz.sizeOf126
 v37:=Tryz.zeroValue126
 t46:=Tryz.underlying122
 a46:=Tryz.isAgg122
 z46:=Tryz.sizeOf122
 v46:=Tryz.zeroValue122
 t51:=Tryz.underlying237
 a51:=Tryz.isAgg237
 z51:=Tryz.sizeOf237
 v51:=Tryz.zeroValue237
 t53:=Tryz.underlying189
 a53:=Tryz.isAgg189
 z53:=Tryz.sizeOf189
 v53:=Tryz.zeroValue189
 t75:=Tryz.underlying113
 a75:=Tryz.isAgg113
 z75:=Tryz.sizeOf113
 v75:=Tryz.zeroValue113
 t76:=Tryz.underlying114
 a76:=Tryz.isAgg114
 z76:=Tryz.sizeOf114
 v76:=Tryz.zeroValue114
 t85:=Tryz.underlying214
 a85:=Tryz.isAgg214
 z85:=Tryz.sizeOf214
 v85:=Tryz.zeroValue214
 t127:=Tryz.underlying191
 a127:=Tryz.isAgg191
 z127:=Tryz.sizeOf191
 v127:=Tryz.zeroValue191
 t143:=Tryz.underlying256
 a143:=Tryz.isAgg256
 z143:=Tryz.sizeOf256
 v143:=Tryz.zeroValue256
 t145:=Tryz.underlying258
 a145:=Tryz.isAgg258
 z145:=Tryz.sizeOf258
 v145:=Tryz.zeroValue258
 t167:=Tryz.underlying213
 a167:=Tryz.isAgg213
 z167:=Tryz.sizeOf213
 v167:=Tryz.zeroValue213
 t168:=Tryz.underlying216
 a168:=Tryz.isAgg216
 z168:=Tryz.sizeOf216
 v168:=Tryz.zeroValue216
 t171:=Tryz.underlying238
 a171:=Tryz.isAgg238
 z171:=Tryz.sizeOf238
 v171:=Tryz.zeroValue238
 t173:=Tryz.underlying241
 a173:=Tryz.isAgg241
 z173:=Tryz.sizeOf241
 v173:=Tryz.zeroValue241
 t175:=Tryz.underlying235
 a175:=Tryz.isAgg235
 z175:=Tryz.sizeOf235
 v175:=Tryz.zeroValue235
 t210:=Tryz.underlying244
 a210:=Tryz.isAgg244
 z210:=Tryz.sizeOf244
 v210:=Tryz.zeroValue244
 t212:=Tryz.underlying252
 a212:=Tryz.isAgg252
 z212:=Tryz.sizeOf252
 v212:=Tryz.zeroValue252
 t213:=Tryz.underlying253
 a213:=Tryz.isAgg253
 z213:=Tryz.sizeOf253
 t232:=Tryz.underlying274
 a232:=Tryz.isAgg274
 z232:=Tryz.sizeOf274
 v232:=Tryz.zeroValue274
 t233:=Tryz.underlying275
 a233:=Tryz.isAgg275
 z233:=Tryz.sizeOf275
 v233:=Tryz.zeroValue275
 g15:=by kernel_rfl
 g16:=by kernel_rfl
 g17:=by kernel_rfl
 g18:=by kernel_rfl
 g19:=by kernel_rfl
 t80:=Tryz.underlying129
 a80:=Tryz.isAgg129
 z80:=Tryz.sizeOf129
 v80:=Tryz.zeroValue129
 i0:=by kernel_rfl
 i2:=by kernel_rfl
 i3:=by kernel_rfl
 i4:=by kernel_rfl
 i5:=by kernel_rfl
 i9:=by kernel_rfl
 i20:=by kernel_rfl
 i21:=by kernel_rfl
 i37:=by kernel_rfl
 i46:=by kernel_rfl
 i51:=by kernel_rfl
 i53:=by kernel_rfl
 i75:=by kernel_rfl
 i76:=by kernel_rfl
 i80:=by kernel_rfl
 i85:=by kernel_rfl
 i127:=by kernel_rfl
 i143:=by kernel_rfl
 i145:=by kernel_rfl
 i167:=by kernel_rfl
 i168:=by kernel_rfl
 i171:=by kernel_rfl
 i173:=by kernel_rfl
 i175:=by kernel_rfl
 i210:=by kernel_rfl
 i212:=by kernel_rfl
 i232:=by kernel_rfl
 i233:=by kernel_rfl
 m15:=by kernel_rfl
 m16:=by kernel_rfl
 m17:=by kernel_rfl
 m18:=by kernel_rfl
 m19:=by kernel_rfl
 c0:=by kernel_rfl
 c2:=by kernel_rfl
 c3:=by kernel_rfl
 c4:=by kernel_rfl
 c5:=by kernel_rfl
 c9:=by kernel_rfl
 c20:=by kernel_rfl
 c21:=by kernel_rfl
 c37:=by kernel_rfl
 c46:=by kernel_rfl
 c51:=by kernel_rfl
 c53:=by kernel_rfl
 c75:=by kernel_rfl
 c76:=by kernel_rfl
 c80:=by kernel_rfl
 c85:=by kernel_rfl
 c127:=by kernel_rfl
 c143:=by kernel_rfl
 c145:=by kernel_rfl
 c167:=by kernel_rfl
 c168:=by kernel_rfl
 c171:=by kernel_rfl
 c173:=by kernel_rfl
 c175:=by kernel_rfl
 c210:=by kernel_rfl
 c212:=by kernel_rfl
 c213:=by kernel_rfl
 c232:=by kernel_rfl
 c233:=by kernel_rfl }
open Go.RowKit in
theorem Tryz.strconv_Atoi_ok (s:ByteArray) (hmax:s.size≤9223372036854775806) (v:Int) (h:Lib.atoiAll s.data.toList=.ok v) (w:World) :
  Calls Tryz.prog 112 #[.string s] w fun e w'=>e=.returned (.tuple #[.int .i64 v,.nilIface])∧(w'=w∨∃ t,w'=Lib.bytesWorld w 5 t):=Any.strconv_Atoi_ok Tryz.laysC172 s hmax v h w
open Go.RowKit in
open Go.RowKit in
theorem Tryz.strconv_Atoi_range (s:ByteArray) (hlim:s.size≤281474976710656) (h:Lib.atoiAll s.data.toList=.range) (ev:Value) (w:World) (hv:w.cell? ⟨4,0,none⟩=some ev) (hev:ev=.nilIface∨∃ te pe,ev=.iface te pe) :
  Calls Tryz.prog 112 #[.string s] w fun e w'=>∃ N,e=.returned (.tuple #[.int .i64 (Lib.atoiSat s.data.toList),.iface 216 (.pointer (some ⟨N,0,none⟩))])∧w.heap.size≤N∧w'.heap[N]? = some (.cells #[.string ⟨#[65,116,111,105]⟩,.string s,ev] 244 (0,0))∧Below w.heap.size w w':=Any.strconv_Atoi_range Tryz.laysC172 s hlim h ev w hv hev
def Tryz.lays197_ren:Go.Shelf.Ren:=⟨fun | 197=>176 | 260=>222 | n=>n,fun | 9=>9 | 21=>21 | 3=>3 | 4=>4 | 5=>5 | 105=>178 | 119=>118 | 0=>0 | 46=>122 | 139=>121 | 138=>120 | n=>n,fun | 3=>0 | 4=>1 | n=>n⟩
theorem Tryz.lays197:Go.Proofs.Lays.n197 Tryz.prog Tryz.lays197_ren:={
 mixed:=by kernel_rfl
 f197:=Tryz.func176.trans (congrArg some (by kernel_rfl))
 f260:=Tryz.func222.trans (congrArg some (by kernel_rfl))
 t0:=Tryz.underlying0
 a0:=Tryz.isAgg0
 z0:=Tryz.sizeOf0
 v0:=Tryz.zeroValue0
 t3:=Tryz.underlying3
 a3:=Tryz.isAgg3
 z3:=Tryz.sizeOf3
 v3:=Tryz.zeroValue3
 t4:=Tryz.underlying4
 a4:=Tryz.isAgg4
 z4:=Tryz.sizeOf4
 v4:=Tryz.zeroValue4
 t5:=Tryz.underlying5
 a5:=Tryz.isAgg5
 z5:=Tryz.sizeOf5
 v5:=Tryz.zeroValue5
 t9:=Tryz.underlying9
 a9:=Tryz.isAgg9
 z9:=Tryz.sizeOf9
 v9:=Tryz.zeroValue9
 t21:=Tryz.underlying21
 a21:=Tryz.isAgg21
 z21:=Tryz.sizeOf21
 v21:=Tryz.zeroValue21
 t46:=Tryz.underlying122
 a46:=Tryz.isAgg122
 z46:=Tryz.sizeOf122
 v46:=Tryz.zeroValue122
 t105:=Tryz.underlying178
 a105:=Tryz.isAgg178
 z105:=Tryz.sizeOf178
 v105:=Tryz.zeroValue178
 t119:=Tryz.underlying118
 a119:=Tryz.isAgg118
 z119:=Tryz.sizeOf118
 t138:=Tryz.underlying120
 a138:=Tryz.isAgg120
 z138:=Tryz.sizeOf120
 v138:=Tryz.zeroValue120
 t139:=Tryz.underlying121
 a139:=Tryz.isAgg121
 z139:=Tryz.sizeOf121
 v139:=Tryz.zeroValue121
 g3:=by kernel_rfl
 g4:=by kernel_rfl }
open Go.RowKit Go.Lib in
theorem Tryz.utf8_DecodeRuneInString (s:ByteArray) (w:World) (hT:Lib.Utf8Tabs 0 1 w) :
  Calls Tryz.prog 176 #[.string s] w fun e w'=>e=.returned (.tuple #[.int .i32 (Lib.decodeGo s).1,.int .i64 (Lib.decodeGo s).2])∧Below w.heap.size w w':=Any.utf8_DecodeRuneInString Tryz.lays197 s w hT
def Tryz.lays7_27_ren:Go.Shelf.Ren:=⟨fun | 27=>271 | 28=>287 | 29=>288 | n=>n,fun | 25=>122 | 3=>3 | 27=>237 | 22=>189 | 4=>4 | 53=>274 | 0=>0 | 5=>5 | 54=>275 | n=>n,fun | 0=>6 | 1=>7 | n=>n⟩
theorem Tryz.lays7_27:Go.Proofs.Lays7.n27 Tryz.prog Tryz.lays7_27_ren:={
 mixed:=by kernel_rfl
 f27:=Tryz.func271.trans (congrArg some (by kernel_rfl))
 f28:=Tryz.func287.trans (congrArg some (by kernel_rfl))
 f29:=Tryz.func288.trans (congrArg some (by kernel_rfl))
 t0:=Tryz.underlying0
 a0:=Tryz.isAgg0
 z0:=Tryz.sizeOf0
 v0:=Tryz.zeroValue0
 i0:=by kernel_rfl
 t3:=Tryz.underlying3
 a3:=Tryz.isAgg3
 z3:=Tryz.sizeOf3
 v3:=Tryz.zeroValue3
 i3:=by kernel_rfl
 t4:=Tryz.underlying4
 a4:=Tryz.isAgg4
 z4:=Tryz.sizeOf4
 v4:=Tryz.zeroValue4
 i4:=by kernel_rfl
 t5:=Tryz.underlying5
 a5:=Tryz.isAgg5
 z5:=Tryz.sizeOf5
 v5:=Tryz.zeroValue5
 i5:=by kernel_rfl
 t22:=Tryz.underlying189
 a22:=Tryz.isAgg189
 z22:=Tryz.sizeOf189
 v22:=Tryz.zeroValue189
 i22:=by kernel_rfl
 t25:=Tryz.underlying122
 a25:=Tryz.isAgg122
 z25:=Tryz.sizeOf122
 v25:=Tryz.zeroValue122
 i25:=by kernel_rfl
 t27:=Tryz.underlying237
 a27:=Tryz.isAgg237
 z27:=Tryz.sizeOf237
 v27:=Tryz.zeroValue237
 i27:=by kernel_rfl
 t53:=Tryz.underlying274
 a53:=Tryz.isAgg274
 z53:=Tryz.sizeOf274
 v53:=Tryz.zeroValue274
 i53:=by kernel_rfl
 t54:=Tryz.underlying275
 a54:=Tryz.isAgg275
 z54:=Tryz.sizeOf275
 g0:=by kernel_rfl
 g1:=by kernel_rfl }
def Tryz.lays196_ren:Go.Shelf.Ren:=⟨fun | 196=>52 | 259=>115 | n=>n,fun | 9=>9 | 4=>4 | 3=>3 | 5=>5 | 12=>12 | 119=>118 | 0=>0 | 46=>122 | 139=>121 | 138=>120 | 53=>189 | n=>n,fun | 3=>0 | 4=>1 | n=>n⟩
theorem Tryz.lays196:Go.Proofs.Lays.n196 Tryz.prog Tryz.lays196_ren:={
 mixed:=by kernel_rfl
 f196:=Tryz.func52.trans (congrArg some (by kernel_rfl))
 f259:=Tryz.func115.trans (congrArg some (by kernel_rfl))
 t0:=Tryz.underlying0
 a0:=Tryz.isAgg0
 z0:=Tryz.sizeOf0
 v0:=Tryz.zeroValue0
 t3:=Tryz.underlying3
 a3:=Tryz.isAgg3
 z3:=Tryz.sizeOf3
 v3:=Tryz.zeroValue3
 t4:=Tryz.underlying4
 a4:=Tryz.isAgg4
 z4:=Tryz.sizeOf4
 v4:=Tryz.zeroValue4
 t5:=Tryz.underlying5
 a5:=Tryz.isAgg5
 z5:=Tryz.sizeOf5
 v5:=Tryz.zeroValue5
 t9:=Tryz.underlying9
 a9:=Tryz.isAgg9
 z9:=Tryz.sizeOf9
 v9:=Tryz.zeroValue9
 t12:=Tryz.underlying12
 a12:=Tryz.isAgg12
 z12:=Tryz.sizeOf12
 v12:=Tryz.zeroValue12
 t46:=Tryz.underlying122
 a46:=Tryz.isAgg122
 z46:=Tryz.sizeOf122
 v46:=Tryz.zeroValue122
 t53:=Tryz.underlying189
 a53:=Tryz.isAgg189
 z53:=Tryz.sizeOf189
 v53:=Tryz.zeroValue189
 t119:=Tryz.underlying118
 a119:=Tryz.isAgg118
 z119:=Tryz.sizeOf118
 t138:=Tryz.underlying120
 a138:=Tryz.isAgg120
 z138:=Tryz.sizeOf120
 v138:=Tryz.zeroValue120
 t139:=Tryz.underlying121
 a139:=Tryz.isAgg121
 z139:=Tryz.sizeOf121
 v139:=Tryz.zeroValue121
 g3:=by kernel_rfl
 g4:=by kernel_rfl }
end Go.Proofs
