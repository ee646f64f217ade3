/- Numbers: what the functions compute, in plain words. -/
import Derived.Test.YtgfggbndbceppaaGreatDoorLxS
import Derived.Test.YtgfggbndbceppaaGreatDoorLxN
import Derived.Lib.ItoaNum
import Derived.Lib.Repeat
import Derived.Lib.Bytealg
import Derived.Shelf.Strings.Builder1
import Derived.Shelf.Strings.Builder2
import Derived.Shelf.Strings.Trim
import Derived.Shelf.Small.Utf8
import Derived.Shelf.Small.Strs
import Derived.Shelf.Small.Wraps
import Derived.Shelf.Strings.BuilderF
import Derived.Shelf.Strconv.Atoi
import Derived.Shelf.Strconv.Itoa0
import Derived.Shelf.Strconv.Itoa1
import Derived.Shelf.LaysM
import Derived.Shelf.Strconv.Itoa2
import Derived.Shelf.Strconv.Itoa3
import Derived.Shelf.Strconv.Itoa4
import Derived.Shelf.Strconv.AtoiErrFast
import Derived.Shelf.Strconv.ParseIntEmpty
import Derived.Shelf.Strconv.AtoiFail
import Derived.Shelf.Strconv.Clone
import Derived.Shelf.Strconv.SyntaxError
import Derived.Shelf.LaysC
import Derived.Shelf.Strconv.ToError
import Derived.Shelf.Strconv.Lower
import Derived.Shelf.Strconv.ParseUint10
import Derived.Shelf.Strconv.ParseUint10Empty
import Derived.Shelf.Strconv.ParseUint10Any
import Derived.Shelf.Strconv.ParseInt10
import Derived.Shelf.Strconv.AtoiLong
import Derived.Shelf.Strconv.AtoiInnerAll
import Derived.Shelf.Strconv.RangeError
import Derived.Shelf.Strconv.ToErrorRange
import Derived.Shelf.Strconv.AtoiAll
import Derived.Shelf.Strconv.ErrVarAll
import Derived.Shelf.Strconv.ParseUintEmpty
import Derived.Shelf.Strings.Search1
import Derived.Shelf.GgClosure.StringsIndexFunc
import Derived.Shelf.GgClosure.StringsTrimFunc
import Derived.Shelf.Strings.Prefix
import Derived.Shelf.Unicode.Decode
import Derived.Shelf.Strings.Runes
import Derived.Shelf.Strings.IndexAny
import Derived.Shelf.Strings.AsciiSet
import Derived.Shelf.Strings.IndexAnyAll
import Derived.Shelf.Bits.Mul64
import Derived.Shelf.Strings.Repeat
import Derived.Shelf.Unicode.DecodeSlow
import Derived.Shelf.Unicode.DecodeAny
import Derived.Shelf.Unicode.DecodeLast
import Derived.Shelf.Strings.FuncGrows
import Derived.Ground.Names2Prog
import Derived.Shelf.Slices.SearchI
import Derived.Test.YtgfggbndbceppaaGreatDoorProg
import Derived.Test.YtgfggbndbceppaaGreatDoorLxR
import Derived.Test.YtgfggbndbceppaaGreatDoorLxM
import Derived.Test.YtgfggbndbceppaaGreatDoorLxO
import Derived.WalkKit
import Derived.WalkSpells
import Derived.Lib.ConvBytes
import Derived.Lib.SlBytesRow
import Derived.Lib.AtoiErrMem
set_option linter.unusedSimpArgs false
set_option linter.unusedVariables false
set_option linter.unusedSectionVars false
set_option linter.unnecessarySimpa false
namespace Go.LX
open Go Go.Proofs
abbrev Node.pv (n:Node):List PV:=n.cells
theorem Jsh (n:Node):n.pv=[.int .i64 n.kind,.int .i64 n.many,.str n.name,.str n.s,.bool n.neg,.int .i64 n.e]:=(rfl)
def Jxb (many e:Int):Bool:=decide (-1000≤e) && decide (e≤1000) && decide (many+e≤1000)
theorem Jut {m e:Int}:Jxb m e=false ↔ e < -1000∨1000<e∨1000<m+e:=by
 simp only [Jxb];by_cases h1:-1000≤e <;> by_cases h2:e≤1000 <;> by_cases h3:m+e≤1000 <;> simp [h1,h2,h3] <;> omega
def Jrh (n:Node):Bool :=
 if ¬ n.kind=3 then false else if ¬ n.many=0 then false else if ¬ n.name.length=0 then false else if Jrg n.s=false then false else if 100<(n.s.length:Int) then false else
 if n.e < -1000 then false else if 1000<n.e then false else if 1000<(n.s.length:Int)+n.e then false else
 if n.s.length=0 then (if n.neg=false then n.e == 0 else false) else (if ¬ (at_ n.s 0:Int)=48 then ((at_ n.s (n.s.length - 1):Int) != 48) else false)
def cmpI (a b:Int):Int:=if a<b then -1 else if b<a then 1 else 0
def cmpS (a b:List UInt8):Int:=if Op.bytesLess a b=true then -1 else if (Op.bytesLess a b || a == b)=false then 1 else 0
def Jwx:Node:=⟨0,0,[],[],false,0⟩
def make (neg:Bool) (s:List UInt8) (e:Int):Node×Int :=
 if Jrg s=false then (Jwx,4) else
 if (Jr5 s).length=0 then ({ Jwx with kind:=3 },0) else
 if e < -100000000 then (Jwx,2) else if 100000000<e then (Jwx,2) else
 let t:=Jsl (Jr5 s);let e':=e+((Jr5 s).length - t.length)
 if 100<(t.length:Int) then (Jwx,2) else if e' < -1000 then (Jwx,2) else if 1000<(t.length:Int)+e' then (Jwx,2) else
 ({ Jwx with kind:=3,s:=t,neg:=neg,e:=e' },0)
def J3v (a b:Node):Int :=
 if a.s.length=0 then cmpI a.s.length b.s.length else if b.s.length=0 then cmpI a.s.length b.s.length else
 if ¬ cmpI (a.s.length+a.e) (b.s.length+b.e)=0 then cmpI (a.s.length+a.e) (b.s.length+b.e) else cmpS a.s b.s
def numCmp (a b:Node):Int :=
 if a.neg=true∧b.neg=false then -1 else if b.neg=true∧a.neg=false then 1 else if a.neg=true then J3v b a else J3v a b
structure Node.small (n:Node):Prop where
 s:n.s.length≤1000000
 e1:-1000000≤n.e
 e2:n.e≤1000000
def J6m (f g:Int→Int) (side:Int):Nat→Int→Int
 | 0,_=>0
 | n+1,p=>if f p<g p then -side else if g p<f p then side else J6m f g side n (p - 1)
def Jq7 (n:Node):List UInt8:=if n.neg=true then [45] else []
def Jq5 (n:Node):List UInt8 :=
 if n.s.length=0 then [48] else
 if 0≤n.e∧(n.s.length:Int)+n.e≤20 then Jq7 n ++ n.s ++ Lib.repeatL [48] n.e.toNat else
 if n.e<0∧-20≤n.e then
  Jq7 n ++ (Lib.repeatL [48] (1 - n.e - n.s.length).toNat ++ n.s).take (((Lib.repeatL [48] (1 - n.e - n.s.length).toNat ++ n.s).length:Int)+n.e).toNat ++ [46] ++ (Lib.repeatL [48] (1 - n.e - n.s.length).toNat ++ n.s).drop (((Lib.repeatL [48] (1 - n.e - n.s.length).toNat ++ n.s).length:Int)+n.e).toNat
 else Jq7 n ++ n.s ++ [101] ++ Lib.itoa n.e
def val (l:List UInt8):Int:=l.foldl (fun n c=>n * 10+((c.toNat:Int) - 48)) 0
end Go.LX
namespace Go.Proofs
open Go.Shelf
def Tryz_lays160_renX:Go.Shelf.Ren:=⟨fun | 160=>208 | 232=>221 | 231=>217 | 227=>218 | 234=>222 | 233=>219 | 236=>223 | 235=>220 | 228=>236 | 271=>238 | 151=>237 | 197=>228 | 120=>255 | 152=>254 | 260=>242 | 137=>206 | 119=>261 | 224=>262 | 225=>263 | 217=>230 | 266=>244 | n=>n,fun | 9=>9 | 4=>4 | 3=>3 | 5=>5 | 117=>231 | 116=>230 | 0=>0 | 124=>234 | 21=>21 | 105=>238 | 46=>140 | 119=>136 | 139=>139 | 138=>138 | n=>n,fun | 3=>0 | 4=>1 | n=>n⟩
theorem Jyw:Go.Proofs.Lays.n160 Tryz.prog Tryz_lays160_renX:={
 mixed:=by kernel_rfl
 f119:=Tryz.func261.trans (congrArg some (by kernel_rfl))
 f120:=Tryz.func255.trans (congrArg some (by kernel_rfl))
 f137:=Tryz.func206.trans (congrArg some (by kernel_rfl))
 f151:=Tryz.func237.trans (congrArg some (by kernel_rfl))
 f152:=Tryz.func254.trans (congrArg some (by kernel_rfl))
 f160:=Tryz.func208.trans (congrArg some (by kernel_rfl))
 f197:=Tryz.func228.trans (congrArg some (by kernel_rfl))
 f217:=Tryz.func230.trans (congrArg some (by kernel_rfl))
 f224:=Tryz.func262.trans (congrArg some (by kernel_rfl))
 f225:=Tryz.func263.trans (congrArg some (by kernel_rfl))
 f227:=Tryz.func218.trans (congrArg some (by kernel_rfl))
 f228:=Tryz.func236.trans (congrArg some (by kernel_rfl))
 f231:=Tryz.func217.trans (congrArg some (by kernel_rfl))
 f232:=Tryz.func221.trans (congrArg some (by kernel_rfl))
 f233:=Tryz.func219.trans (congrArg some (by kernel_rfl))
 f234:=Tryz.func222.trans (congrArg some (by kernel_rfl))
 f235:=Tryz.func220.trans (congrArg some (by kernel_rfl))
 f236:=Tryz.func223.trans (congrArg some (by kernel_rfl))
 f260:=Tryz.func242.trans (congrArg some (by kernel_rfl))
 f266:=Tryz.func244.trans (congrArg some (by kernel_rfl))
 f271:=Tryz.func238.trans (congrArg some (by kernel_rfl))
 t0:=Tryz.underlying0
 a0:=Tryz.isAgg0
 z0:=Tryz.sizeOf0
 v0:=Tryz.zeroValue0
 t3:=Tryz.underlying3
 a3:=Tryz.isAgg3
 z3:=Tryz.sizeOf3
 v3:=Tryz.zeroValue3
 t4:=Tryz.underlying4
 a4:=Tryz.isAgg4
 z4:=Tryz.sizeOf4
 v4:=Tryz.zeroValue4
 t5:=Tryz.underlying5
 a5:=Tryz.isAgg5
 z5:=Tryz.sizeOf5
 v5:=Tryz.zeroValue5
 t9:=Tryz.underlying9
 a9:=Tryz.isAgg9
 z9:=Tryz.sizeOf9
 v9:=Tryz.zeroValue9
 t21:=Tryz.underlying21
 a21:=Tryz.isAgg21
 z21:=Tryz.sizeOf21
 v21:=Tryz.zeroValue21
 t46:=Tryz.underlying140
 a46:=Tryz.isAgg140
 z46:=Tryz.sizeOf140
 v46:=Tryz.zeroValue140
 t105:=Tryz.underlying238
 a105:=Tryz.isAgg238
 z105:=Tryz.sizeOf238
 v105:=Tryz.zeroValue238
 t116:=Tryz.underlying230
 a116:=Tryz.isAgg230
 z116:=Tryz.sizeOf230
 t117:=Tryz.underlying231
 a117:=Tryz.isAgg231
 z117:=Tryz.sizeOf231
 v117:=Tryz.zeroValue231
 t119:=Tryz.underlying136
 a119:=Tryz.isAgg136
 z119:=Tryz.sizeOf136
 t124:=Tryz.underlying234
 a124:=Tryz.isAgg234
 z124:=Tryz.sizeOf234
 v124:=Tryz.zeroValue234
 t138:=Tryz.underlying138
 a138:=Tryz.isAgg138
 z138:=Tryz.sizeOf138
 v138:=Tryz.zeroValue138
 t139:=Tryz.underlying139
 a139:=Tryz.isAgg139
 z139:=Tryz.sizeOf139
 v139:=Tryz.zeroValue139
 g3:=by kernel_rfl
 g4:=by kernel_rfl }
open Go.RowKit in
theorem Tryz.strings_Trim_one (s:ByteArray) (c:UInt8) (hc:c.toNat<128) (w:World) (hs:s.size≤9223372036854775807) :
  Calls Tryz.prog 208 #[.string s,.string ⟨#[c]⟩] w fun e w'=>e=.returned (.string ⟨(Lib.trimB s.data.toList c).toArray⟩)∧(w'=w∨w'=w.drew):=Any.strings_Trim_one Jyw s c hc w hs
def Tryz_lays237_renX:Go.Shelf.Ren:=⟨fun | 237=>215 | 272=>235 | 238=>234 | 315=>253 | 273=>252 | 197=>228 | 271=>238 | 260=>242 | 120=>255 | n=>n,fun | 9=>9 | 40=>227 | 4=>4 | 3=>3 | 105=>238 | 21=>21 | 0=>0 | 5=>5 | 119=>136 | 46=>140 | 139=>139 | 138=>138 | n=>n,fun | 3=>0 | 4=>1 | n=>n⟩
theorem Jyz:Go.Proofs.Lays.n237 Tryz.prog Tryz_lays237_renX:={
 mixed:=by kernel_rfl
 f120:=Tryz.func255.trans (congrArg some (by kernel_rfl))
 f197:=Tryz.func228.trans (congrArg some (by kernel_rfl))
 f237:=Tryz.func215.trans (congrArg some (by kernel_rfl))
 f238:=Tryz.func234.trans (congrArg some (by kernel_rfl))
 f260:=Tryz.func242.trans (congrArg some (by kernel_rfl))
 f271:=Tryz.func238.trans (congrArg some (by kernel_rfl))
 f272:=Tryz.func235.trans (congrArg some (by kernel_rfl))
 f273:=Tryz.func252.trans (congrArg some (by kernel_rfl))
 f315:=Tryz.func253.trans (congrArg some (by kernel_rfl))
 t0:=Tryz.underlying0
 a0:=Tryz.isAgg0
 z0:=Tryz.sizeOf0
 v0:=Tryz.zeroValue0
 t3:=Tryz.underlying3
 a3:=Tryz.isAgg3
 z3:=Tryz.sizeOf3
 v3:=Tryz.zeroValue3
 t4:=Tryz.underlying4
 a4:=Tryz.isAgg4
 z4:=Tryz.sizeOf4
 v4:=Tryz.zeroValue4
 t5:=Tryz.underlying5
 a5:=Tryz.isAgg5
 z5:=Tryz.sizeOf5
 v5:=Tryz.zeroValue5
 t9:=Tryz.underlying9
 a9:=Tryz.isAgg9
 z9:=Tryz.sizeOf9
 v9:=Tryz.zeroValue9
 t21:=Tryz.underlying21
 a21:=Tryz.isAgg21
 z21:=Tryz.sizeOf21
 v21:=Tryz.zeroValue21
 t40:=Tryz.underlying227
 a40:=Tryz.isAgg227
 z40:=Tryz.sizeOf227
 v40:=Tryz.zeroValue227
 t46:=Tryz.underlying140
 a46:=Tryz.isAgg140
 z46:=Tryz.sizeOf140
 v46:=Tryz.zeroValue140
 t105:=Tryz.underlying238
 a105:=Tryz.isAgg238
 z105:=Tryz.sizeOf238
 v105:=Tryz.zeroValue238
 t119:=Tryz.underlying136
 a119:=Tryz.isAgg136
 z119:=Tryz.sizeOf136
 t138:=Tryz.underlying138
 a138:=Tryz.isAgg138
 z138:=Tryz.sizeOf138
 v138:=Tryz.zeroValue138
 t139:=Tryz.underlying139
 a139:=Tryz.isAgg139
 z139:=Tryz.sizeOf139
 v139:=Tryz.zeroValue139
 g3:=by kernel_rfl
 g4:=by kernel_rfl }
open Go.RowKit Go.Lib in
theorem Tryz.strings_TrimFunc_grows (g:Nat) (lb:Array Value) (eg:∀ args w,(callFunc g args).run Tryz.prog w=.ok (.enter g args) w) (p:Nat→Bool) (s:ByteArray) (w:World) (hs:s.size≤9223372036854775807) (hT:Lib.Utf8Tabs 0 1 w) (hp:PredGrows Tryz.prog g lb p w) :
  Calls Tryz.prog 215 #[.string s,.func (.func g) #[] lb] w fun e w'=>e=.returned (.string (Lib.trimF p s))∧Below w.heap.size w w':=Any.strings_TrimFunc_grows Jyz g lb eg p s w hs hT hp
end Go.Proofs
set_option maxRecDepth 100000
set_option maxHeartbeats 2000000
namespace Go.LX
open Go Go.RowKit Go.Proofs
attribute [local irreducible] Al SWP Bi
theorem J4m (m e:Int) (hm1:0≤m) (hm2:m≤1000000):Det cx 196 [.p (.int .i64 m),.p (.int .i64 e)] [] (.p (.bool (Jxb m e))) []:=by
 (refine bgo Tryz.func196 ?_;simp only [go_sem,simprocAttr])
 (repeat' (first | (split) | fail)) <;> simp (disch:=omega) [Jxb,Aa, *] <;> omega
theorem J2a (c:Nat):Det cx 216 [.p (.int .i32 c)] [] (.p (.bool (decide (48≤c) && decide (c≤57)))) []:=by
 (refine bgo Tryz.func216 ?_;simp only [go_sem,simprocAttr])
 (repeat' (first | (split) | fail)) <;> (rw [Bool.eq_iff_iff];first | omega | (simp [-List.length_eq_zero_iff,Ac, *];done)|(simp [-List.length_eq_zero_iff,Ac, *];omega))
theorem nm_eta (x:ByteArray):(⟨⟨x.data.toList⟩⟩:ByteArray)=x:=by rcases x with ⟨⟨l⟩⟩;rfl
theorem J3a (s:List UInt8) (hs:s.length≤9223372036854775807):Det cx 215 [.p (.str s),.fn 216 []] [] (.p (.str (Lib.trimF figR ⟨⟨s⟩⟩).data.toList)) []:=by
 have he:Enters cx.P 216:=enters_of Tryz.func216 kr rfl;refine Jrd (v:=.string (Lib.trimF figR ⟨⟨s⟩⟩)) (enters_of Tryz.func215 kr rfl) rfl (fun β w Im=>?_) fun β Im w vs hg hf=>?_
 ·have:=PRep.str (w:=w) (Im:=Im) (Lib.trimF figR ⟨⟨s⟩⟩).data.toList;rw [nm_eta] at this;exact this
 ·obtain ⟨v,u,rfl,h1,h2⟩:=fit2 hf;cases Ks h1;cases J69 h2;refine Tryz.strings_TrimFunc_grows 216 #[] he figR ⟨⟨s⟩⟩ w hs (Jbj hg).tabs fun W x hx hb=>?_
  have hi:∀ b,Im b→b<W.heap.size:=fun b hb'=>Nat.lt_of_lt_of_le (hf.im b hb') hb.size
  exact (J2a x).calls_below (w:=W) (Im:=Im) (cx.mono ⟨fun _ h=>h,fun b hb'=>hb.block b (hf.im b hb')⟩ hg) hi (vs:=[.int .i32 x]) rfl
   (fun i v a hv ha=>by cases i with | zero=>simp at hv ha;subst hv;subst ha;exact PRep.int _ _ | succ i=>simp at hv) (fun β w' Im' u hu=>Na hu)
theorem J04 (s:List UInt8) (hs:s.length≤9223372036854775807):Det cx 193 [.p (.str s)] [] (.p (.bool (Jrg s))) []:=by
 (refine bgo Tryz.func193 ?_;simp only [go_sem,simprocAttr]);(repeat' (first | ((refine Jqa (J3a s hs) ?_);simp only [go_sem,simprocAttr]) | fail));exact Jyq ⟨⟨s⟩⟩
theorem d_Trim (s:List UInt8) (hs:s.length≤9223372036854775807):Det cx 208 [.p (.str s),.p (.str [48])] [] (.p (.str (Jr5 (Jsl s)))) []:=by
 refine Jrd (v:=.string ⟨⟨Jr5 (Jsl s)⟩⟩) (enters_of Tryz.func208 kr rfl) rfl (fun β w Im=>PRep.str _) fun β Im w vs hg hf=>?_
 obtain ⟨v,u,rfl,h1,h2⟩:=fit2 hf;cases Ks h1;cases Ks h2;refine (Tryz.strings_Trim_one ⟨⟨s⟩⟩ 48 de w hs).mono fun e w' ⟨h,hw⟩=>⟨h,?_⟩
 rcases hw with rfl | rfl
 ·exact Below.refl _ _
 ·exact (Below.refl _ _).drew
theorem Jyh (n:Node) (hs:n.s.length≤1000000):Det cx 177 [.p (.agg n.pv)] [] (.p (.bool (Jrh n))) []:=by
 (refine bgo Tryz.func177 ?_;simp only [go_sem,simprocAttr,Jsh]);(repeat' (first | (apply iteI <;> intro h)|((first | (refine Jqi ?_)|(refine Jqa (J04 _ omg) ?_)|(refine Jqa (J4m _ _ omg omg) ?_)|(refine Jqb (d_Trim _ omg) ?_));simp only [go_sem,simprocAttr]) | fail))
 all_goals (try simp (disch:=omega) only [Aa,Qs,Ab,Jlh,Mf,Ja0,Jcc,Ja7,Jak] at *)
 ·simp [-List.length_eq_zero_iff,Ac,Jrh, *]
 ·simp [-List.length_eq_zero_iff,Ac,Jrh, *]
 ·simp [-List.length_eq_zero_iff,Ac,Jrh, *]
 ·simp [-List.length_eq_zero_iff,Ac,Jrh, *]
 ·rw [Jut] at h;rw [Bool.eq_iff_iff];simp [-List.length_eq_zero_iff,Ac,Jrh]
  intros
  omega
 ·simp [-List.length_eq_zero_iff,Ac,Jrh, *]
 ·rename_i hP _ _;rw [Jut] at hP;have c1:¬ n.e < -1000:=by omega
  have c2:¬ 1000<n.e:=by omega
  have c3:¬ 1000<(n.s.length:Int)+n.e:=by omega
  simp [-List.length_eq_zero_iff,Ac,Jrh, *]
 ·rename_i hP _ _;rw [Jut] at hP;have c1:¬ n.e < -1000:=by omega
  have c2:¬ 1000<n.e:=by omega
  have c3:¬ 1000<(n.s.length:Int)+n.e:=by omega
  simp [-List.length_eq_zero_iff,Ac,Jrh, *]
 ·rename_i hP _;rw [Jut] at hP;have c1:¬ n.e < -1000:=by omega
  have c2:¬ 1000<n.e:=by omega
  have c3:¬ 1000<(n.s.length:Int)+n.e:=by omega
  rw [Bool.eq_iff_iff,beq_iff_eq,J66 omg];simp [-List.length_eq_zero_iff,Ac,Jrh, *];omega
end Go.LX
set_option maxRecDepth 100000
set_option maxHeartbeats 2000000
namespace Go.LX
open Go Go.RowKit Go.Proofs
attribute [local irreducible] Al SWP Bi
end Go.LX
namespace Go.LX
open Go Go.Proofs
def dig (s:List UInt8):Nat:=s.foldl (fun n c=>n * 10+(c.toNat - 48)) 0
def digF (n:Nat) (s:List UInt8):Nat:=s.foldl (fun n c=>n * 10+(c.toNat - 48)) n
structure RightN (n:Node):Prop where
 kind:n.kind=3
 many:n.many=0
 name:n.name=[]
 figs:Jrg n.s=true
 len:n.s.length≤100
 e1:-1000≤n.e
 e2:n.e≤1000
 top:(n.s.length:Int)+n.e≤1000
 zero:n.s.length=0→n.neg=false∧n.e=0
 head:0<n.s.length→at_ n.s 0≠48
 last:0<n.s.length→at_ n.s (n.s.length - 1)≠48
theorem Jx2 (n:Node):Jrh n=true ↔ RightN n:=by
 constructor
 ·intro h;unfold Jrh at h;split at h
  ·cases h
  split at h
  ·cases h
  split at h
  ·cases h
  split at h
  ·cases h
  split at h
  ·cases h
  split at h
  ·cases h
  split at h
  ·cases h
  split at h
  ·cases h
  rename_i h1 h2 h3 h4 h5 h6 h7 h8;have hn:n.name=[]:=List.eq_nil_of_length_eq_zero omg;have hf:Jrg n.s=true:=by simpa using h4
  split at h
  ·split at h
   ·exact ⟨by omega,by omega,hn,hf,by omega,by omega,by omega,by omega,fun _=>⟨by assumption,by simpa using h⟩,fun h=>by omega,fun h=>by omega⟩
   ·cases h
  ·split at h
   ·exact ⟨by omega,by omega,hn,hf,by omega,by omega,by omega,by omega,fun h=>by omega,fun _=>by omega,fun _ hh=>by simp [hh] at h⟩
   ·cases h
 ·intro h;obtain ⟨g1,g2,g3,g4,g5,g6,g7,g8,g9,g10,g11⟩:=h;unfold Jrh;rw [if_neg omg,if_neg omg,if_neg (by simp [g3]),if_neg (by simp [g4]),if_neg omg,if_neg omg,if_neg omg,if_neg omg];split
  ·rename_i h0;obtain ⟨k1,k2⟩:=g9 h0;rw [if_pos k1];simp [k2]
  ·rename_i h0;have k1:=g10 omg;have k2:=g11 omg;rw [if_pos omg];simp;omega
theorem RightN.small {n:Node} (h:RightN n):n.small:=⟨by have:=h.len;omega,by have:=h.e1;omega,by have:=h.e2;omega⟩
def mag (n:Node):Nat:=dig n.s * 10 ^ (n.e+1000).toNat
def cmp3 (side:Int) (x y:Nat):Int:=if x<y then -side else if y<x then side else 0
def Node.flip (n:Node):Node:={ n with neg:=!n.neg && (n.s != []) }
theorem RightN.flip {n:Node} (h:RightN n):RightN n.flip:=by
 obtain ⟨g1,g2,g3,g4,g5,g6,g7,g8,g9,g10,g11⟩:=h;refine ⟨g1,g2,g3,g4,g5,g6,g7,g8,fun h0=>⟨?_,(g9 h0).2⟩,g10,g11⟩;have:n.s=[]:=List.eq_nil_of_length_eq_zero h0;simp [Node.flip,this]
end Go.LX
namespace Go.LX
open Go Go.RowKit Go.Proofs
attribute [local irreducible] Al SWP Bi
def lexI {α β:Type} (c:α→β→Int):List α→List β→Int
 | [],[]=>0
 | [],_ :: _=>-1
 | _ :: _,[]=>1
 | x :: l,y :: m=>if c x y=0 then lexI c l m else c x y
def ndN (s:List UInt8) (g:Bool) (e:Int):Node:=⟨3,0,[],s,g,e⟩
mutual
def cmpT:Tree→Tree→Int
 | .mk k s g e kids,.mk k' s' g' e' kids' =>
  if k=k' then (if k=3 then numCmp (ndN s g e) (ndN s' g' e') else if k=4 then cmpS s s' else
   if k=6 then (if lexI cmpS (kids.list.map (·.1)) (kids'.list.map (·.1))=0 then cmpF kids kids'.list else lexI cmpS (kids.list.map (·.1)) (kids'.list.map (·.1))) else
   if k=5 then cmpF kids kids'.list else 0) else cmpI k k'
def cmpF:Forest→List KT→Int
 | .nil,[]=>0
 | .nil,_ :: _=>-1
 | .cons _ _ _,[]=>1
 | .cons _ t r,q :: l=>if cmpT t q.2=0 then cmpF r l else cmpT t q.2
end
theorem Jy6 {s:List UInt8} {g:Bool} {e:Int} (h:Yz s g e):RightN (ndN s g e):=by
 obtain ⟨h0,h1,h2,h3,h4,h5⟩:=h;refine ⟨rfl,rfl,rfl,h0,h1,h2,h3,h4,fun hz=>?_,fun hp=>?_,fun hp=>?_⟩
 ·have:s=[]:=List.eq_nil_of_length_eq_zero hz;rw [if_pos this] at h5;exact h5
 ·have:s≠[]:=by intro e;subst e;exact (Nat.lt_irrefl 0 hp).elim
  rw [if_neg this] at h5;exact h5.1
 ·have:s≠[]:=by intro e;subst e;exact (Nat.lt_irrefl 0 hp).elim
  rw [if_neg this] at h5;exact h5.2
theorem num_of {k m:Int} {s:List UInt8} {g:Bool} {e:Int} (h:G3 k s g e m) (hk:k=3):Yz s g e:=by
 subst hk;unfold G3 at h;simp at h;exact h.2
end Go.LX
namespace Go.LX
open Go Go.RowKit Go.Proofs
section
variable {X:Cx} {ro:Option Nat} {md:Region.Mode} {ops:Array Oper}
theorem J1k {k:Nat} {K:St→Prop} {i:Nat} {oi:Oper} {v:L} (hi:ops[i]? = some oi) (hik:i<k) (hA:∀ j,k≤j→j<ops.size→ancB md ops ops.size i j=true):∀ (fuel:Nat) (listed:Array Bool) (s:St),Down md ops listed →
   (∀ j oj,ops[j]? = some oj→j≠i→listed.getD j true=false→(∀ e∈oj.after,Region.binds md e=true→e.on≠i)→oi.apart ops oj=true) →
   i∈Region.ready md ops listed→YS X (ops.toList.map (·.dst)) s oi (fun m=>m=v) →
   Ty X md ops k K fuel (listed.setIfInBounds i true) (s.put oi.dst v)→Ty X md ops k K (fuel+1) listed s:=by
 intro fuel
 induction fuel with
 | zero =>
  intro listed s hd _ hr hy H;have only:∀ j∈Region.ready md ops listed,j=i:=by
   intro j hj;by_cases hji:j=i
   ·exact hji
   ·have:=ready_mono hj hji;rw [H.1] at this;cases this
  refine ⟨fun h=>(by rw [h] at hr;cases hr),fun j hj oj hoj=>?_⟩;have:=only j hj;subst this;rw [hi] at hoj;cases hoj;exact ⟨fun _=>Kr (fun l hl=>by rw [hl];exact H) hy,fun h=>by omega⟩
 | succ fuel ih =>
  intro listed s hd hfree hr hy H;refine ⟨fun h=>(by rw [h] at hr;cases hr),fun j hj oj hoj=>?_⟩;by_cases hji:j=i
  ·subst hji;rw [hi] at hoj;cases hoj;exact ⟨fun _=>Kr (fun l hl=>by rw [hl];exact H) hy,fun h=>by omega⟩
  ·have hjk:j<k:=by
    rcases Nat.lt_or_ge j k with h | h
    ·exact h
    ·exfalso;obtain ⟨_,oj',hoj',hall⟩:=mem_ready.1 hj;have h1:=Qb hd _ i j oj' hoj' hall (hA j h (Array.getElem?_eq_some_iff.1 hoj').1);have h2:=(Hn.1 (mem_ready.1 hr).1).2;rw [h1] at h2;cases h2
   refine ⟨fun _=>?_,fun h=>by omega⟩;have h1:=(H.2 j (ready_mono hj hji) oj hoj).1 hjk;obtain ⟨hjun,oj',hoj',hall⟩:=mem_ready.1 hj;rw [hoj] at hoj';cases hoj';have hnot:∀ e∈oj.after,Region.binds md e=true→e.on≠i:=fun e he hb heq=>by
    have h1:=hall e he hb;have h0:=(Hn.1 (mem_ready.1 hr).1).2;rw [heq] at h1;rw [h1] at h0;cases h0
   obtain ⟨a1,a2,a3⟩:=Oper.apart_spec (hfree j oj hoj hji hjun hnot);have hfree':∀ q ok,ops[q]? = some ok→q≠i→(listed.setIfInBounds j true).getD q true=false →
     (∀ e∈ok.after,Region.binds md e=true→e.on≠i)→oi.apart ops ok=true:=fun q ok hk hki hun hno=>by
    refine hfree q ok hk hki ?_ hno;by_cases hjk:j=q
    ·subst hjk;exact hjun
    ·rw [getD_set_ne true hjk] at hun;exact hun
   refine Kr (fun l hl=>?_) (Yr a1 h1);refine ih (listed.setIfInBounds j true) (s.put oj.dst l) (hd.set hj) hfree' (ready_mono hr (Ne.symm hji)) (Uk a3 hy) ?_;rw [Array.setIfInBounds_comm _ _ hji];rw [← Jtx s v l a2];exact hl
def YSAt (X:Cx) (ds:List (Option Tmp)) (ops:List Oper) (i:Nat) (C:St→Prop) (s:St):Prop:=match ops[i]? with
 | some o=>YS X ds s o fun l=>C (s.put o.dst l)
 | none=>False
def Juy (X:Cx) (ds:List (Option Tmp)) (ops:List Oper) (E:St→Prop):List Nat→St→Prop
 | [],s=>E s
 | i :: I,s=>YSAt X ds ops i (Juy X ds ops E I) s
def J3k (md:Region.Mode) (ops:Array Oper) (k:Nat):List Nat→Array Bool→Bool
 | [],_=>true
 | i :: I,listed=>(Region.ready md ops listed).contains i && (Region.free md ops listed i && (decide (i<k) && ((List.range ops.size).all (fun j=>decide (j<k) || ancB md ops ops.size i j) && J3k md ops k I (listed.setIfInBounds i true))))
def J26:List Nat→Array Bool→Array Bool
 | [],listed=>listed
 | i :: I,listed=>J26 I (listed.setIfInBounds i true)
theorem Jwv {k:Nat} {K:St→Prop} {fuel:Nat}:∀ (I:List Nat) (listed:Array Bool) (s:St),J3k md ops k I listed=true→Down md ops listed →
  Juy X (ops.toList.map (·.dst)) ops.toList (Ty X md ops k K fuel (J26 I listed)) I s→Ty X md ops k K (fuel+I.length) listed s
 | [],listed,s,_,_,h=>h
 | i :: I,listed,s,hB,hd,h=>by
  simp only [J3k,Bool.and_eq_true,List.contains_eq_mem,decide_eq_true_eq] at hB;obtain ⟨h1,h2,h3,h4,h5⟩:=hB;obtain ⟨_,oi,hoi,_⟩:=mem_ready.1 h1;simp only [Juy,YSAt] at h;rw [Array.getElem?_toList,hoi] at h;obtain ⟨v,hy,hK⟩:=Jab (X:=X) h;refine J1k hoi h3 (fun j hj hs=>?_) (fuel+I.length) listed s hd (Region.free_spec hoi h2) h1 hy (Jwv I _ _ h5 (hd.set h1) hK);have:=List.all_eq_true.1 h4 j (List.mem_range.2 hs);rw [Bool.or_eq_true,decide_eq_true_eq] at this;rcases this with h | h
  ·omega
  ·exact h
theorem Jxo {ds:List (Option Tmp)} {os:List Oper} {E E':St→Prop} (hE:∀ s,E s→E' s):∀ (I:List Nat) (s:St),Juy X ds os E I s→Juy X ds os E' I s
 | [],s,h=>hE s h
 | i :: I,s,h=>by
  simp only [Juy,YSAt] at h ⊢;split
  ·rename_i o ho;rw [ho] at h;exact Kr (fun l hl=>Jxo hE I _ hl) h
  ·rename_i ho;rw [ho] at h;exact h
def Jtd (X:Cx) (ds:List (Option Tmp)) (ops:List Oper) (k:Nat) (K:St→Prop):Ord→St→Prop
 | .leaf,s=>K s
 | .nil,_=>True
 | .bad,_=>False
 | .node i sub next,s=>(if i<k then YSAt X ds ops i (Jtd X ds ops k K sub) s else lAt X ds ops i (Jtd X ds ops k K sub) s)∧Jtd X ds ops k K next s
theorem Jyj {k:Nat} {K:St→Prop} {f:Nat} {listed:Array Bool} {s:St}:∀ (is:List Nat),Jtd X (ops.toList.map (·.dst)) ops.toList k K (is.foldr (fun i acc=>.node i (P6 ops f (listed.setIfInBounds i true)) acc) .nil) s →
  ∀ i∈is,(if i<k then YSAt X (ops.toList.map (·.dst)) ops.toList i (Jtd X (ops.toList.map (·.dst)) ops.toList k K (P6 ops f (listed.setIfInBounds i true))) s else lAt X (ops.toList.map (·.dst)) ops.toList i (Jtd X (ops.toList.map (·.dst)) ops.toList k K (P6 ops f (listed.setIfInBounds i true))) s)
 | [],_,i,hi=>by cases hi
 | j :: is,h,i,hi=>by
  simp only [List.foldr_cons,Jtd] at h;rcases List.mem_cons.1 hi with rfl | hi
  ·exact h.1
  ·exact Jyj is h.2 i hi
theorem Jt6 {k:Nat} {K:St→Prop}:∀ (f:Nat) (listed:Array Bool) (s:St),Jtd X (ops.toList.map (·.dst)) ops.toList k K (P6 ops f listed) s→Ty X .any ops k K f listed s
 | 0,listed,s,h=>by
  unfold P6 at h;split at h
  ·rename_i h0;exact ⟨h0,h⟩
  ·exact h.elim
 | f+1,listed,s,h=>by
  unfold P6 at h;split at h
  ·rename_i h0;exact ⟨fun _=>h,fun i hi=>by rw [h0] at hi;cases hi⟩
  ·rename_i h0;refine ⟨fun h1=>absurd h1 h0,fun i hi o ho=>?_⟩;have:=Jyj _ h i hi;refine ⟨fun hk=>?_,fun hk=>?_⟩
   ·rw [if_pos hk] at this;unfold YSAt at this;rw [Array.getElem?_toList,ho] at this;exact Kr (fun l hl=>Jt6 f _ _ hl) this
   ·rw [if_neg omg] at this;exact ⟨_,this,fun s' hs=>Jt6 f _ _ hs⟩
theorem J5q {id:Nat} {Q:Ex→St→Prop} {s:St} (k:Nat) (I:List Nat) (T:Ord) (f:Nat) (hm:X.P.follows .mixedOrders=true) (hf:f+I.length=ops.size) (hB:J3k .any ops k I (Array.replicate ops.size false)=true) (hT:P6 ops f (J26 I (Array.replicate ops.size false))=T)
  (h:Juy X (ops.toList.map (·.dst)) ops.toList (Jtd X (ops.toList.map (·.dst)) ops.toList k (Q .normal) T) I s):SWP X ro (.region id ops true) Q s:=fun Γ a w hG hr=>by
 have h':RR Γ s a { w with drawn:=w.drawn+1 }:=by
  obtain ⟨ms,hdef,β,Im,hx⟩:=hr;exact ⟨ms,hdef,β,Im,hx.grow (Grow.drew hx.fit.im)⟩
 refine wpIn_region_any hm (G0 (k:=k) (K:=Q .normal) hG (fun s _ _ h1 h2=>⟨s,h1,h2⟩) _ _ s a _ h' ?_);have hd:Down .any ops (Array.replicate ops.size false):=by
  intro i o ho hl;exfalso;have hi:=(Array.getElem?_eq_some_iff.1 ho).1;simp [Array.getD_eq_getD_getElem?,hi] at hl
 have:=Jwv (X:=X) (K:=Q .normal) (fuel:=f) I (Array.replicate ops.size false) s hB hd ?_
 ·rw [hf] at this;exact this
 ·subst hT;exact Jxo (fun s hs=>Jt6 f _ s hs) I s h
end
section
variable {X:Cx} {ds:List (Option Tmp)} {t:List L} {r:Regs} {E:St→Prop}
theorem J60 {ops:List Oper}:Juy X ds ops E [] ⟨t,r⟩=E ⟨t,r⟩:=(rfl)
theorem y_take {ops:List Oper} {i:Nat} {I:List Nat}:Juy X ds ops E (i :: I) ⟨t,r⟩=YSAt X ds ops i (Juy X ds ops E I) ⟨t,r⟩:=(rfl)
theorem y_at0 {o:Oper} {ops:List Oper}:YSAt X ds (o :: ops) 0 E ⟨t,r⟩=YS X ds ⟨t,r⟩ o (kput o.dst E ⟨t,r⟩):=(rfl)
theorem y_atS {o:Oper} {ops:List Oper} {i:Nat}:YSAt X ds (o :: ops) (i+1) E ⟨t,r⟩=YSAt X ds ops i E ⟨t,r⟩:=(rfl)
theorem y_leaf {ops:List Oper} {k:Nat}:Jtd X ds ops k E .leaf ⟨t,r⟩=E ⟨t,r⟩:=(rfl)
theorem y_nil {ops:List Oper} {k:Nat}:Jtd X ds ops k E .nil ⟨t,r⟩=True:=(rfl)
theorem y_node {ops:List Oper} {k i:Nat} {sub next:Ord}:Jtd X ds ops k E (.node i sub next) ⟨t,r⟩=((if i<k then YSAt X ds ops i (Jtd X ds ops k E sub) ⟨t,r⟩ else lAt X ds ops i (Jtd X ds ops k E sub) ⟨t,r⟩)∧Jtd X ds ops k E next ⟨t,r⟩):=(rfl)
attribute [go_sem] J60 y_take y_at0 y_atS y_leaf y_nil y_node
end
def farL:L→Bool
 | .p _=>true
 | .eptr _=>true
 | _=>false
section
variable {X:Cx} {ro:Option Nat} {ops:Array Oper}
def J3f (o:Oper):Bool:=o.guard.isNone && match o.op with
 | .move _=>true
 | .indexAddr ..=>true
 | .fieldAddr ..=>true
 | .load ..=>true
 | .binOp ..=>true
 | _=>false
def J6q (o:Oper):Bool:=o.guard.isNone && match o.op,o.dst with
 | .alloc _,some _=>true
 | _,_=>false
def J7f (o:Oper):Bool:=o.guard.isNone && match o.op,o.dst with
 | .store ..,none=>true
 | _,_=>false
def farOps (s:St) (o:Oper):Prop:=∀ x∈o.op.operands.toList,farL (s.get x)=true
def lTakeA (X:Cx) (ds:List (Option Tmp)) (ops:List Oper) (E:St→Prop):List Nat→St→Prop
 | [],s=>E s
 | i :: I,s=>match ops[i]? with
  | some o=>farOps s o∧YS X ds s o fun l=>farL l=true∧lTakeA X ds ops E I (s.put o.dst l)
  | none=>False
def takeAB (ops:Array Oper) (k:Nat):List Nat→Array Bool→Bool
 | [],_=>true
 | i :: I,listed=>(Region.ready .any ops listed).contains i && (Region.free .any ops listed i && (decide (i<k) && ((match ops[i]? with | some o=>J3f o | none=>false) && ((List.range ops.size).all (fun j=>decide (j<k) || (ancB .any ops ops.size i j || match ops[j]? with | some o=>J6q o || J7f o | none=>false)) && takeAB ops k I (listed.setIfInBounds i true)))))
end
section
variable {X:Cx} {ds:List (Option Tmp)} {t:List L} {r:Regs} {E:St→Prop} {dst:Option Tmp} {ty:TypeId} {ps:String} {af:Array Edge} {g:Option (Nat×Bool)}
def kfar (dst:Option Tmp) (C:St→Prop) (s:St) (l:L):Prop:=farL l=true∧C (s.put dst l)
end
theorem Al.perm {X:Cx} {f:FuncId} {args:List L} {rs rs':Regs} {Post:L→Regs→Prop} (hp:rs'.Perm rs) (h:Al X f args rs Post):Al X f args rs' Post:=by
 refine ⟨h.1,fun β Im w vs hg hf=>?_⟩;have hmi:∀ x,x∈rs ↔ x∈rs':=fun x=>hp.symm.mem_iff
 have hf':Fit β w Im ⟨args,rs⟩ ⟨vs⟩:={ size:=hf.size,tmps:=hf.tmps,im:=hf.im,regs:=fun d r hd=>hf.regs d r ((hmi _).1 hd),nodup:=((hp.map _).nodup_iff).1 hf.nodup,live:=fun d r loc hd hl=>hf.live d r loc ((hmi _).1 hd) hl,apart:=fun d r d' r' l1 l2 hd hd' hne h1 h2=>hf.apart d r d' r' l1 l2 ((hmi _).1 hd) ((hmi _).1 hd') hne h1 h2 }
 refine (h.2 β Im w vs hg hf').mono fun e w' ⟨v,m,q,β',Im',he,hP,hr,hc⟩=>⟨v,m,q,β',Im',he,hP,hr,?_⟩
 exact { hc with
  block:=fun k hk hno=>hc.block k hk fun d r loc hd hl=>hno d r loc ((hmi _).1 hd) hl
  imnew:=fun b hb=>by
   rcases hc.imnew b hb with h | h | ⟨d,r,loc,h1,h2⟩
   ·exact .inl h
   ·exact .inr (.inl h)
   ·exact .inr (.inr ⟨d,r,loc,(hmi _).1 h1,h2⟩)
  keys:=fun d r hd=>by
   rcases hc.keys d r hd with h | ⟨r0,h⟩
   ·exact .inl h
   ·exact .inr ⟨r0,(hmi _).1 h⟩
  regnew:=fun d r loc hd hl=>by
   rcases hc.regnew d r loc hd hl with h | ⟨d1,r1,loc1,h1,h2⟩
   ·exact .inl h
   ·exact .inr ⟨d1,r1,loc1,(hmi _).1 h1,h2⟩ }
attribute [local irreducible] Al Bi SWP
def treeL (l:List Tree):List (List PV):=l.map fun t=>[.sl (valL (t.enc []))]
def J5b:List Tree→Bool
 | a :: b :: l=>decide (0≤cmpT b a) && J5b (b :: l)
 | _=>true
end Go.LX
namespace Go.LX
open Go
def ndT (n:Node):Tree:=.mk n.kind n.s n.neg n.e .nil
def rootN:Tree→Node
 | .mk k s g e kids=>⟨k,kids.len,[],s,g,e⟩
def leafB:Tree→Bool
 | .mk _ _ _ _ .nil=>true
 | .mk _ _ _ _ (.cons _ _ _)=>false
def saysB (n c:Int):Bool :=
 if n=0 then decide (c=0) else if n=1 then decide (c≠0) else if n=2 then decide (c<0) else if n=3 then decide (c≤0) else if n=4 then decide (0<c) else decide (0≤c)
def holdsB (a:Int×Node) (x:Node):Bool:=saysB a.1 (cmpT (ndT x) (ndT a.2))
def letsB (mask kind:Int):Bool:=decide (mask.toNat / 2 ^ kind.toNat % 2=1)
def J6k (mask:Int) (l:List (Int×Node)) (x:Node):Bool:=decide (Jq8 x) && (letsB mask x.kind && l.all fun a=>holdsB a x)
def keyV (s:List UInt8) (v:Tree):List Node:=match getT (Je s).1 v with
 | .ok u=>u.enc []
 | .error _=>[]
def keyT (s:List UInt8) (v:Tree):Tree:=match getT (Je s).1 v with
 | .ok u=>u
 | .error _=>.mk 0 [] false 0 .nil
def J11 (ps:List (Tree→Bool)):Tree→Bool:=match ps with
 | []=>fun _=>true
 | p :: _=>p
def partP (kids:List KT) (nm:List UInt8) (p:Tree→Bool):Bool:=match Ch nm kids with
 | some u=>p u
 | none=>false
def objS (kids:List KT):List RKT→List (Tree→Bool)→Bool
 | r :: rows,p :: ps=>partP kids r.1 p && objS kids rows ps
 | _,_=>true
def tupS:List (Tree→Bool)→List KT→Bool
 | [],[]=>true
 | p :: ps,q :: l=>p q.2 && tupS ps l
 | [],_ :: _=>false
 | _ :: _,[]=>false
def sKey:List UInt8:=[107,101,121]
def sVal:List UInt8:=[118,97,108,117,101]
def entK:Tree→Option (List UInt8×Tree)
 | .mk k _ _ _ kids=>if k=6∧kids.len=2 then (match Ch sKey kids.list,Ch sVal kids.list with
  | some (.mk k' s' _ _ _),some x=>if k'=4 then some (s',x) else none
  | _,_=>none) else none
def Juh (last:Option (List UInt8)) (key:List UInt8):Bool:=match last with
 | none=>true
 | some l=>Op.bytesLess l key
def entS (P:Tree→Bool):Option (List UInt8)→List KT→Bool
 | _,[]=>true
 | last,q :: l=>match entK q.2 with
  | none=>false
  | some (key,x)=>Juh last key && (P x && entS P (some key) l)
def sameT (a b:Tree):Bool:=decide (a.enc []=b.enc [])
def aheadT (last:Option Tree) (key:Tree):Bool:=match last with
 | none=>true
 | some l=>decide (cmpT l key<0)
def J5m (P:Tree→Bool) (q:KT):Bool:=decide (q.2.kind=5) && (decide (q.2.kids.len≠0) && q.2.kids.list.all fun x=>P x.2)
def J1g (s:List UInt8) (l:List KT):List Tree:=l.map fun q=>keyT s q.2
def J55 (l:List Tree):Tree:=l.headD (.mk 0 [] false 0 .nil)
def J5i (P:Tree→Bool) (s:List UInt8):Option Tree→List KT→Bool
 | _,[]=>true
 | last,q :: l=>J5m P q && (((J1g s q.2.kids.list).all fun k=>sameT k (J55 (J1g s q.2.kids.list))) && (aheadT last (J55 (J1g s q.2.kids.list)) && J5i P s (some (J55 (J1g s q.2.kids.list))) l))
def allP (P:Tree→Bool) (l:List KT):Bool:=l.all fun q=>P q.2
def inK (k:Int) (s:List UInt8) (n:Int) (rows:List RKT) (ps:List (Tree→Bool)) (v:Tree):Bool :=
 if k=0 then true
 else if k=1 then leafB v && J6k n (J7d rows) (rootN v)
 else if k=2 then decide (v.kind=6) && ((decide (n≠0) || decide (v.kids.len=rows.length)) && objS v.kids.list rows ps)
 else if k=3 then decide (v.kind=6) && allP (J11 ps) v.kids.list
 else decide (v.kind=5) && (
  if k=4 then tupS ps v.kids.list
  else if k=6 then entS (J11 ps) none v.kids.list
  else if k=8 then J5i (J11 ps) s none v.kids.list
  else if k=7 then allP (J11 ps) v.kids.list && J5b (J1g s v.kids.list)
  else allP (J11 ps) v.kids.list)
end Go.LX
namespace Go.LX
open Go Go.Proofs
end Go.LX
namespace Go.LX
open Go Go.RowKit Go.Proofs
attribute [local irreducible] Al SWP Bi
theorem J2u {k:Int} {s:List UInt8} {g:Bool} {e m:Int} (h:G3 k s g e m) (hk:k<5):k=0∨k=1∨k=2∨k=3∨k=4:=by
 unfold G3 at h;split at h
 ·omega
 ·split at h
  ·omega
  ·split at h
   ·omega
   ·split at h
    ·omega
    ·exact h.elim
theorem J06 {s:List UInt8} {g:Bool} {e:Int} (h:Yz s g e):Jrh ⟨3,0,[],s,g,e⟩=true:=(Jx2 _).2 (Jy6 h)
theorem J5f (k:Int) (s:List UInt8) (g:Bool) (e:Int) (h:G3 k s g e 0) (hk:k<5) (hs:s.length≤1000000):Det cx 149 [.p (.agg [.int .i64 k,.int .i64 0,.str [],.str s,.bool g,.int .i64 e])] [] (.p (.bool true)) []:=by
 rcases J2u h hk with rfl | rfl | rfl | rfl | rfl
 ·obtain ⟨rfl,rfl,rfl⟩:s=[]∧g=false∧e=0:=by simpa [G3] using h
  (refine bgo Tryz.func149 ?_;simp only [go_sem,simprocAttr])
  all_goals (first | rfl | simp)
 ·obtain ⟨rfl,rfl,rfl⟩:s=[]∧g=false∧e=0:=by simpa [G3] using h
  (refine bgo Tryz.func149 ?_;simp only [go_sem,simprocAttr])
  all_goals (first | rfl | simp)
 ·obtain ⟨rfl,rfl,rfl⟩:s=[]∧g=false∧e=0:=by simpa [G3] using h
  (refine bgo Tryz.func149 ?_;simp only [go_sem,simprocAttr])
  all_goals (first | rfl | simp)
 ·have hn:=num_of h rfl;have hR:=Jyh ⟨3,0,[],s,g,e⟩ hs;rw [J06 hn,Jsh] at hR;(refine bgo Tryz.func149 ?_;simp only [go_sem,simprocAttr]);(repeat' (first | ((refine Jqa (hR) ?_);simp only [go_sem,simprocAttr]) | fail))
  all_goals (first | rfl | simp)
 ·obtain ⟨hv,rfl,rfl⟩:valid s=true∧g=false∧e=0:=by simpa [G3] using h
  have hV:=Fi s omg;rw [hv] at hV;(refine bgo Tryz.func149 ?_;simp only [go_sem,simprocAttr]);(repeat' (first | ((refine Jqa (hV) ?_);simp only [go_sem,simprocAttr]) | fail))
  all_goals (first | rfl | simp)
def stk2 (k:Int):List (List PV):=[[.int .i64 5,.int .i64 0,.bool false,.str []],[.int .i64 k,.int .i64 0,.bool true,.str []]]
theorem Jyn (a:Int) (b:Bool) (c:List UInt8):Det cx 151 [.p (.agg [.int .i64 a,.int .i64 0,.bool b,.str c])] [] (.p (.bool false)) []:=by
 (refine bgo Tryz.func151 ?_;simp only [go_sem,simprocAttr])
 skip
theorem J1q (k:Int):Det cx 178 [.p (.sl (stk2 k)),.fn 151 []] [] (.p (.int .i64 (-1))) []:=by
 have hl2:(stk2 k).length=2:=rfl;(refine bgo Tryz.func178 ?_;simp only [go_sem,simprocAttr,hl2]);refine SWP.loop (fun i:Nat=>⟨Ba 19 [(0,.p (.sl (stk2 k))),(1,.fn 151 []),(7,.p (.int .i64 2)),(8,.p (.int .i64 i))],[]⟩) (fun i=>i≤2) (fun i=>2 - i) 0 Jqe (Nat.zero_le _) ?_;rintro i hi;have hcase:i=0∨i=1∨i=2:=by omega
 rcases hcase with rfl | rfl | rfl
 ·have h0:(stk2 k)[0]? = some [.int .i64 5,.int .i64 0,.bool false,.str []]:=rfl;have w0:IntKind.i64.wrap 1=1:=by decide
  (refine lws ?_;simp only [go_sem,simprocAttr,h0]);(repeat' (first | ((refine Jqa (Jyn _ _ _) ?_);simp only [go_sem,simprocAttr,w0]) | fail));exact ⟨1,by omega,by omega,Jqe⟩
 ·have h0:(stk2 k)[1]? = some [.int .i64 k,.int .i64 0,.bool true,.str []]:=rfl;have w0:IntKind.i64.wrap (1+1)=2:=by decide
  have w1:IntKind.i64.wrap 2=2:=by decide
  (refine lws ?_;simp only [go_sem,simprocAttr,h0]);(repeat' (first | ((refine Jqa (Jyn _ _ _) ?_);simp only [go_sem,simprocAttr,w1]) | fail));exact ⟨2,by omega,by omega,Jqe⟩
 ·(refine lws ?_;simp only [go_sem,simprocAttr])
  skip
theorem Jyf (k:Int):Det cx 150 [.p (.sl (stk2 k)),.fn 151 []] [] (.p (.bool false)) []:=by
 (refine bgo Tryz.func150 ?_;simp only [go_sem,simprocAttr]);(repeat' (first | ((refine Jqa (J1q k) ?_);simp only [go_sem,simprocAttr]) | fail))
theorem J4j (k:Int) (s:List UInt8) (g:Bool) (e:Int) (h:G3 k s g e 0) (hk:k<5) (hs:s.length≤1000000):Det cx 121 [.p (.sl [[.int .i64 k,.int .i64 0,.str [],.str s,.bool g,.int .i64 e]])] [] (.p (.bool true)) []:=by
 have hP:=J5f k s g e h hk hs;have hC:=Jyf k;(refine bgo Tryz.func121 ?_;simp only [go_sem,simprocAttr]);refine SWP.loop (fun i:Nat=>if i=0 then ⟨Ba 123 [(0,.p (.sl [[.int .i64 k,.int .i64 0,.str [],.str s,.bool g,.int .i64 e]])),(3,.own 9 0 1),(10,.p (.sl [[.int .i64 k,.int .i64 0,.str [],.str s,.bool g,.int .i64 e]])),(11,.p (.int .i64 1)),(12,.p (.int .i64 0))],[(9,.row 160 4 [[.int .i64 5,.int .i64 1,.bool false,.str []]])]⟩ else ⟨Ba 123 [(0,.p (.sl [[.int .i64 k,.int .i64 0,.str [],.str s,.bool g,.int .i64 e]])),(3,.own 113 0 2),(11,.p (.int .i64 1)),(12,.p (.int .i64 1))],[(113,.row 160 4 (stk2 k))]⟩) (fun i=>i≤1) (fun i=>1 - i) 0 (by rw [if_pos rfl];exact Jqe) (Nat.zero_le _) ?_;rintro i hi;have hcase:i=0∨i=1:=by omega
 rcases hcase with rfl | rfl
 ·rw [if_pos rfl];(refine lws ?_;simp only [go_sem,simprocAttr]);refine SWP.loop (fun _:Unit=>⟨Ba 123 [(0,.p (.sl [[.int .i64 k,.int .i64 0,.str [],.str s,.bool g,.int .i64 e]])),(3,.own 9 0 1),(5,.ptr 5 0 0),(10,.p (.sl [[.int .i64 k,.int .i64 0,.str [],.str s,.bool g,.int .i64 e]])),(11,.p (.int .i64 1)),(12,.p (.int .i64 0))],[(5,.var 35 [.p (.int .i64 k),.p (.int .i64 0),.p (.str []),.p (.str s),.p (.bool g),.p (.int .i64 e)]),(9,.row 160 4 [[.int .i64 5,.int .i64 1,.bool false,.str []]])]⟩) (fun _=>True) (fun _=>0) () Jqe trivial ?_;rintro _ _;have e1:((1:Nat):Int)=1:=rfl;have e2:((2:Nat):Int)=2:=rfl;have w0:IntKind.i64.wrap 0=0:=by decide
  have w1:IntKind.i64.wrap 1=1:=by decide
  have hk6:(k=6)=False:=eq_false omg;(refine lws ?_;simp only [go_sem,simprocAttr,e1,w0]);(repeat' (first | ((first | (refine Jqi ?_)|(refine Jqa (hP) ?_));simp only [go_sem,simprocAttr,e1,w0,decide_false,Bool.not_false,Bool.not_true]) | fail));refine J5q 6 [0,4,5] (.node 1 (.node 2 (.node 3 (.node 6 (.node 7 (.node 8 (.node 9 .leaf .nil) .nil) .nil) .nil) (.node 6 (.node 3 (.node 7 (.node 8 (.node 9 .leaf .nil) .nil) .nil) .nil) .nil)) (.node 6 (.node 2 (.node 3 (.node 7 (.node 8 (.node 9 .leaf .nil) .nil) .nil) .nil) .nil) .nil)) (.node 2 (.node 1 (.node 3 (.node 6 (.node 7 (.node 8 (.node 9 .leaf .nil) .nil) .nil) .nil) (.node 6 (.node 3 (.node 7 (.node 8 (.node 9 .leaf .nil) .nil) .nil) .nil) .nil)) (.node 3 (.node 1 (.node 6 (.node 7 (.node 8 (.node 9 .leaf .nil) .nil) .nil) .nil) (.node 6 (.node 1 (.node 7 (.node 8 (.node 9 .leaf .nil) .nil) .nil) .nil) .nil)) (.node 6 (.node 1 (.node 3 (.node 7 (.node 8 (.node 9 .leaf .nil) .nil) .nil) .nil) (.node 3 (.node 1 (.node 7 (.node 8 (.node 9 .leaf .nil) .nil) .nil) .nil) .nil)) .nil))) (.node 6 (.node 1 (.node 2 (.node 3 (.node 7 (.node 8 (.node 9 .leaf .nil) .nil) .nil) .nil) .nil) (.node 2 (.node 1 (.node 3 (.node 7 (.node 8 (.node 9 .leaf .nil) .nil) .nil) .nil) (.node 3 (.node 1 (.node 7 (.node 8 (.node 9 .leaf .nil) .nil) .nil) .nil) .nil)) .nil)) .nil))) 7 hm rfl kr kr ?_;simp only [go_sem,simprocAttr,w1];(repeat' (refine And.intro ?_ ?_))
  all_goals first
   | (intro q hq;simp at hq;rw [hq];rfl)
   | (
    refine ⟨1,by omega,by omega,?_⟩;rw [if_neg de];unfold stk2;exact Jqe)
 ·rw [if_neg de];have hl2:(stk2 k).length=2:=rfl;have ht2:(stk2 k).take 2=stk2 k:=rfl;have hle:(2≤2)=True:=eq_true (Nat.le_refl 2);(refine lws ?_;simp only [go_sem,simprocAttr,hl2,ht2,hle]);(repeat' (first | ((refine Jqa (hC) ?_);simp only [go_sem,simprocAttr]) | fail))
theorem Js9 {n:Node} (h:Jq8 n):n.many=0:=by
 obtain ⟨hk,_,h⟩:=h;unfold G3 at h;split at h
 ·exact h.1
 ·split at h
  ·exact h.1
  ·split at h
   ·exact h.2.1
   ·split at h
    ·omega
    ·exact h.elim
theorem ndT_ok {n:Node} (h:Jq8 n):okT (ndT n):=by
 have hm:=Js9 h;obtain ⟨hk,hn,ho⟩:=h;rw [hm] at ho;exact Lu.2 ⟨ho,Sb _,I6⟩
theorem J7i {n:Node} (h:Jq8 n):(ndT n).enc []=[n]:=by
 have hm:=Js9 h;obtain ⟨hk,hn,ho⟩:=h;rw [ndT,A6,Bl];cases n;simp only at hm hn;subst hm;subst hn;rfl
theorem J00 {n:Node} (hk:n.kind<5):Jw [n]=decide (Jq8 n):=by
 rw [Bool.eq_iff_iff,Iq,decide_eq_true_eq];constructor
 ·rintro ⟨t,ht,h⟩;cases t with
  | mk k s g e kids =>
   rw [A6] at h;have h1:=(List.cons.inj h).1;have h2:=(List.cons.inj h).2;cases kids with
   | nil =>
    subst h1;exact ⟨hk,rfl,(Lu.1 ht).1⟩
   | cons a b c =>
    rw [A0] at h2;have:=congrArg List.length h2;have hp:=Et b a;simp at this;omega
 ·intro h;exact ⟨ndT n,ndT_ok h,(J7i h).symm⟩
def keysL (s:List UInt8) (l:List KT):List (List PV):=l.map fun q=>[.sl (valL (keyV s q.2))]
theorem Jv4 {v:List YRow} {j:Nat} {nm:List UInt8} {t:RT} {b:List YRow} (h:v.drop j=t.enc nm ++ b):∃ (k n:Int) (s:List UInt8) (g:Int) (e:Node),(rowL v)[j]? = some [.int .i64 k,.int .i64 n,.str nm,.str s,.int .i64 g,.int .i64 e.kind,.int .i64 e.many,.str e.name,.str e.s,.bool e.neg,.int .i64 e.e]:=by
 cases t with
 | mk k s g e kids =>
  rw [Jqk] at h;exact ⟨k,kids.len,s,g,e,Jr8 h⟩
def Jr9 (l:List (List UInt8×RT)):List (List PV):=l.map fun p=>[.str p.1]
@[simp] theorem tnameL_nil:Jr9 []=[]:=rfl
theorem Ju9 (l:List (List UInt8×RT)):(Jr9 l).length=l.length:=by simp [Jr9]
theorem J08 {l:List (List UInt8×RT)} {k:Nat} {p:List UInt8×RT} (h:l[k]? = some p):Jr9 (l.take (k+1))=Jr9 (l.take k) ++ [[.str p.1]]:=by
 rw [List.take_add_one,h];simp [Jr9]
def placeR (rows:List RKT) (i:Nat):Nat:=1+((rows.take i).map fun p=>(p.2.enc p.1).length).sum
structure NodeFitC (n:Node):Prop where
 s:n.s.length≤1000000
 e0:-9223372036854775808≤n.e
 e1:n.e≤9223372036854775807
theorem Jvp (n:Node) (hnm:n.name≠[]):Det cx 102 [.p (.sl [[.int .i64 n.kind,.int .i64 n.many,.str n.name,.str n.s,.bool n.neg,.int .i64 n.e]])] [] (.p (.bool false)) []:=by
 have hg0:([[PV.int .i64 n.kind,PV.int .i64 n.many,PV.str n.name,PV.str n.s,PV.bool n.neg,PV.int .i64 n.e]]:List (List PV))[0]? = some [PV.int .i64 n.kind,PV.int .i64 n.many,PV.str n.name,PV.str n.s,PV.bool n.neg,PV.int .i64 n.e]:=rfl;have c2:(n.name=[])=False:=eq_false hnm;have hN:=Uv [n] sm;rw [show valL [n]=[[.int .i64 n.kind,.int .i64 n.many,.str n.name,.str n.s,.bool n.neg,.int .i64 n.e]] from rfl] at hN;(refine bgo Tryz.func102 ?_;simp only [go_sem,simprocAttr,hg0,c2,List.length_cons,List.length_nil])
 skip
theorem Jqn {c:Node}:c=Jqt ↔ c.kind=0∧c.many=0∧c.name=[]∧c.s=[]∧c.neg=false∧c.e=0:=by
 rw [← Qo];rfl
def leadI (i:Nat) (o:Option Nat):Int:=match o with
 | some o=>((i+o:Nat):Int)
 | none=>-1
structure RowFit (r:YRow):Prop where
 s:r.s.length≤1000000
 name:r.name.length≤1000000
 c:NodeFitC r.c
end Go.LX
namespace Go.LX
open Go
def incR:List UInt8→List UInt8
 | []=>[]
 | c :: r=>if c=57 then 48 :: incR r else (c+1) :: r
def decR:List UInt8→List UInt8
 | []=>[]
 | c :: r=>if c=48 then 57 :: decR r else (c - 1) :: r
def moreS (s:List UInt8):List UInt8:=(incR (48 :: s).reverse).reverse
def lessS (s:List UInt8):List UInt8:=(decR s.reverse).reverse
def J3h (n:Node) (e:Int):List UInt8:=n.s ++ List.replicate (n.e - e).toNat 48
def topR (n:Node) (above:Bool):Int:=if (n.neg != above)=false∧n.s=[49] then (n.s.length:Int)+n.e - 1 else n.s.length+n.e
def J0b (n:Node) (above:Bool):Int:=max (topR n above - 100) (-1000)
def J0q (n:Node) (above:Bool):List UInt8:=if (n.neg != above)=true then moreS (J3h n (J0b n above)) else lessS (J3h n (J0b n above))
def J3g (n:Node) (above:Bool):Option Node :=
 if n.s=[] then some ⟨3,0,[],[49],!above,-1000⟩
 else if (make n.neg (J0q n above) (J0b n above)).2=0 then some (make n.neg (J0q n above) (J0b n above)).1 else none
def numC (a:Int×Node):List Node:=if a.2.kind=3 then a.2 :: ((J3g a.2 true).toList ++ (J3g a.2 false).toList) else []
def strC (a:Int×Node):List Node:=if a.2.kind=4 then [a.2,⟨4,0,[],a.2.s ++ [0],false,0⟩] else []
def J0n (k:Int):Node:=⟨k,0,[],[],false,0⟩
def candA (l:List (Int×Node)):List Node:=[J0n 0,J0n 1,J0n 2,J0n 3] ++ l.flatMap numC
def candR (l:List (Int×Node)):List Node:=candA l ++ [J0n 4] ++ l.flatMap strC
theorem J5c:∀ s,(incR s).length=s.length
 | []=>rfl
 | c :: r=>by unfold incR;split <;> simp [J5c r]
theorem J5u:∀ s,(decR s).length=s.length
 | []=>rfl
 | c :: r=>by unfold decR;split <;> simp [J5u r]
end Go.LX
namespace Go.LX
open Go Go.Proofs Go.RowKit
structure BytesOwn (w wr:World) (l:List UInt8):Prop where
 below:Below w.heap.size w wr
 cell:∀ (k:Nat) (c:UInt8),l[k]? = some c→wr.cell? ⟨w.heap.size,k,none⟩=some (.int .u8 (c.toNat:Int))
 soft:∀ k,k<l.length→wr.frozen? ⟨w.heap.size,k,none⟩=false
theorem BytesOwn.set {w wr:World} {l:List UInt8} (h:BytesOwn w wr l) {k:Nat} (hk:k<l.length) (c:UInt8) (v:Int) (hv:v=(c.toNat:Int)):BytesOwn w (wr.setCell ⟨w.heap.size,k,none⟩ (.int .u8 v)) (l.set k c) where
 below:=h.below.setCell (Nat.le_refl _) _
 cell i d hi:=by
  subst hv;by_cases hik:i=k
  ·subst hik;rw [List.getElem?_set_self hk] at hi;cases hi;exact World.cell?_setCell_same _ _ _ (h.cell i l[i] (List.getElem?_eq_getElem hk))
  ·rw [List.getElem?_set_ne (Ne.symm hik)] at hi;rw [World.cell?_setCell_other _ _ _ _ (by intro e;cases e;exact hik rfl)];exact h.cell i d hi
 soft i hi:=by
  rw [World.frozen?_setCell];exact h.soft i (by simpa using hi)
theorem BytesOwn.bytes {w wr:World} {l:List UInt8} (h:BytesOwn w wr l):Lib.Bytes wr w.heap.size 0 ⟨l.toArray⟩:=by
 intro i hi;have hi':i<l.length:=hi;rw [Nat.zero_add];exact h.cell i l[i] (List.getElem?_eq_getElem hi')
def stepAt (x y:UInt8) (pre:List UInt8) (c:UInt8) (j r:Nat):List UInt8:=pre ++ c :: (List.replicate (r - j) x ++ List.replicate j y)
end Go.LX
namespace Go.LX
open Go
end Go.LX
namespace Go.LX
open Go Go.RowKit Go.Proofs
attribute [local irreducible] Al SWP Bi
def J5a (l:List YRow):List (Int×Node):=l.map fun r=>(r.n,r.c)
def atomsIn (v:List YRow) (i m:Nat):List (Int×Node):=J5a ((v.drop (i+1)).take m)
def shortY (r:YRow):Bool:=decide (r.s.length≤100) && (decide (r.name.length≤100) && decide (r.c.s.length≤100))
def Jrt (v:List YRow) (m:Nat):Bool:=decide (v.length≤m) && v.all shortY
structure ERow (r:YRow):Prop where
 s:r.s.length≤9223372036854775807
 name:r.name.length≤9223372036854775807
 cs:r.c.s.length≤9223372036854775807
 e0:-9223372036854775808≤r.c.e
 e1:r.c.e≤9223372036854775807
def nameR (nm:List UInt8):List YRow→List YRow
 | []=>[]
 | r :: rs=>⟨r.kind,r.many,nm,r.s,r.n,r.c⟩ :: rs
def J3q (ns:List (List UInt8)) (ls:List (List YRow)) (i:Nat):List YRow:=if i<ns.length then nameR (ns.getD i []) (ls.getD i []) else ls.getD i []
def Jrv (ns:List (List UInt8)) (ls:List (List YRow)):Nat→List YRow
 | 0=>[]
 | i+1=>Jrv ns ls i ++ J3q ns ls i
def J50 (y:YRow) (ns:List (List UInt8)) (ls:List (List YRow)):List YRow:=⟨y.kind,ls.length,y.name,y.s,y.n,y.c⟩ :: Jrv ns ls ls.length
def Jsm (ls:List (List YRow)):List (List PV):=ls.map fun v=>[.sl (rowL v)]
def Jta (ns:List (List UInt8)):List (List PV):=ns.map fun s=>[.str s]
@[simp] theorem Jsp (ls:List (List YRow)):(Jsm ls).length=ls.length:=by simp [Jsm]
@[simp] theorem namesL_len (ns:List (List UInt8)):(Jta ns).length=ns.length:=by simp [Jta]
theorem Jvb {ls:List (List YRow)} {i:Nat} {v:List YRow} (h:ls[i]? = some v):(Jsm ls)[i]? = some [.sl (rowL v)]:=by simp [Jsm,h]
theorem J2d {ns:List (List UInt8)} {i:Nat} {v:List UInt8} (h:ns[i]? = some v):(Jta ns)[i]? = some [.str v]:=by simp [Jta,h]
end Go.LX
