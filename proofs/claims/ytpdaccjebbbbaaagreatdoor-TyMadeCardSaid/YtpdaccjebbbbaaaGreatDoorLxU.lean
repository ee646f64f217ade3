/-
  DERIVED: THE SHELF's CONTRACTS AT THIS DUMP, IN PLAIN WORDS (tools/lay-plain.mjs out of 'LxShCN.lean', which tools/lay-shelf.mjs wrote): THE SAME DECLARATIONS UNDER THE SAME NAMES: 'import', 'namespace', 'open', 'def', 'theorem' AND NOTHING ELSE: no command of the shelf's: FOR A HAND-IN. Each laying: the table of numbers ('.._ren') and one theorem, a field a fact of the dump's own or the kernel's comparison; each contract: ONE APPLICATION.
-/
import Derived.Shelf.Strings.Builder1
import Derived.Shelf.Strings.Builder2
import Derived.Shelf.Strings.OnBuilder
import Derived.Shelf.Strings.Trim
import Derived.Shelf.Small.Utf8
import Derived.Shelf.Small.Strs
import Derived.Shelf.Small.Wraps
import Derived.Shelf.Strings.BuilderF
import Derived.Shelf.Strconv.Atoi
import Derived.Shelf.Strconv.Itoa0
import Derived.Shelf.Strconv.Itoa1
import Derived.Shelf.LaysM
import Derived.Shelf.Strconv.Itoa2
import Derived.Shelf.Strconv.Itoa3
import Derived.Shelf.Strconv.Itoa4
import Derived.Shelf.Strconv.AtoiErrFast
import Derived.Shelf.Strconv.ParseIntEmpty
import Derived.Shelf.Strconv.AtoiFail
import Derived.Shelf.Strconv.Clone
import Derived.Shelf.Strconv.SyntaxError
import Derived.Shelf.LaysC
import Derived.Shelf.Strconv.ToError
import Derived.Shelf.Strconv.Lower
import Derived.Shelf.Strconv.ParseUint10
import Derived.Shelf.Strconv.ParseUint10Empty
import Derived.Shelf.Strconv.ParseUint10Any
import Derived.Shelf.Strconv.ParseInt10
import Derived.Shelf.Strconv.AtoiLong
import Derived.Shelf.Strconv.AtoiInnerAll
import Derived.Shelf.Strconv.RangeError
import Derived.Shelf.Strconv.ToErrorRange
import Derived.Shelf.Strconv.AtoiAll
import Derived.Shelf.Strconv.ErrVarAll
import Derived.Shelf.Strconv.ParseUintEmpty
import Derived.Shelf.Strings.Search1
import Derived.Shelf.GgClosure.StringsIndexFunc
import Derived.Shelf.GgClosure.StringsTrimFunc
import Derived.Shelf.Strings.Prefix
import Derived.Shelf.Unicode.Decode
import Derived.Shelf.Strings.Runes
import Derived.Shelf.Strings.IndexAny
import Derived.Shelf.Strings.AsciiSet
import Derived.Shelf.Strings.IndexAnyAll
import Derived.Shelf.Bits.Mul64
import Derived.Shelf.Strings.Repeat
import Derived.Shelf.Unicode.DecodeSlow
import Derived.Shelf.Unicode.DecodeAny
import Derived.Shelf.Unicode.DecodeLast
import Derived.Shelf.Strings.FuncGrows
import Derived.Ground.Names2Prog
import Derived.Shelf.Slices.SearchI
import Derived.Test.YtpdaccjebbbbaaaGreatDoorProg
import Derived.Test.YtpdaccjebbbbaaaGreatDoorLxS
import Derived.Test.YtpdaccjebbbbaaaGreatDoorLxT
import Derived.Test.YtpdaccjebbbbaaaGreatDoorLxR
import Derived.Test.YtpdaccjebbbbaaaGreatDoorLxM
set_option linter.unusedSimpArgs false
set_option linter.unusedVariables false
set_option linter.unusedSectionVars false
set_option linter.unnecessarySimpa false
namespace Go.Proofs
open Go.Shelf
def Tryz_lays160_renX:Go.Shelf.Ren:=⟨fun | 160=>172 | 232=>144 | 231=>140 | 227=>141 | 234=>145 | 233=>142 | 236=>146 | 235=>143 | 228=>169 | 271=>171 | 151=>170 | 197=>155 | 120=>189 | 152=>188 | 260=>176 | 137=>128 | 119=>195 | 224=>196 | 225=>197 | 217=>157 | 266=>178 | n=>n,fun | 9=>9 | 4=>4 | 3=>3 | 5=>5 | 117=>183 | 116=>182 | 0=>0 | 124=>186 | 21=>21 | 105=>196 | 46=>115 | 119=>111 | 139=>114 | 138=>113 | n=>n,fun | 3=>0 | 4=>1 | n=>n⟩
theorem Jzr:Go.Proofs.Lays.n160 Tryz.prog Tryz_lays160_renX:={
 mixed:=by kernel_rfl
 f119:=Tryz.func195.trans (congrArg some (by kernel_rfl))
 f120:=Tryz.func189.trans (congrArg some (by kernel_rfl))
 f137:=Tryz.func128.trans (congrArg some (by kernel_rfl))
 f151:=Tryz.func170.trans (congrArg some (by kernel_rfl))
 f152:=Tryz.func188.trans (congrArg some (by kernel_rfl))
 f160:=Tryz.func172.trans (congrArg some (by kernel_rfl))
 f197:=Tryz.func155.trans (congrArg some (by kernel_rfl))
 f217:=Tryz.func157.trans (congrArg some (by kernel_rfl))
 f224:=Tryz.func196.trans (congrArg some (by kernel_rfl))
 f225:=Tryz.func197.trans (congrArg some (by kernel_rfl))
 f227:=Tryz.func141.trans (congrArg some (by kernel_rfl))
 f228:=Tryz.func169.trans (congrArg some (by kernel_rfl))
 f231:=Tryz.func140.trans (congrArg some (by kernel_rfl))
 f232:=Tryz.func144.trans (congrArg some (by kernel_rfl))
 f233:=Tryz.func142.trans (congrArg some (by kernel_rfl))
 f234:=Tryz.func145.trans (congrArg some (by kernel_rfl))
 f235:=Tryz.func143.trans (congrArg some (by kernel_rfl))
 f236:=Tryz.func146.trans (congrArg some (by kernel_rfl))
 f260:=Tryz.func176.trans (congrArg some (by kernel_rfl))
 f266:=Tryz.func178.trans (congrArg some (by kernel_rfl))
 f271:=Tryz.func171.trans (congrArg some (by kernel_rfl))
 t0:=Tryz.underlying0
 a0:=Tryz.isAgg0
 z0:=Tryz.sizeOf0
 v0:=Tryz.zeroValue0
 t3:=Tryz.underlying3
 a3:=Tryz.isAgg3
 z3:=Tryz.sizeOf3
 v3:=Tryz.zeroValue3
 t4:=Tryz.underlying4
 a4:=Tryz.isAgg4
 z4:=Tryz.sizeOf4
 v4:=Tryz.zeroValue4
 t5:=Tryz.underlying5
 a5:=Tryz.isAgg5
 z5:=Tryz.sizeOf5
 v5:=Tryz.zeroValue5
 t9:=Tryz.underlying9
 a9:=Tryz.isAgg9
 z9:=Tryz.sizeOf9
 v9:=Tryz.zeroValue9
 t21:=Tryz.underlying21
 a21:=Tryz.isAgg21
 z21:=Tryz.sizeOf21
 v21:=Tryz.zeroValue21
 t46:=Tryz.underlying115
 a46:=Tryz.isAgg115
 z46:=Tryz.sizeOf115
 v46:=Tryz.zeroValue115
 t105:=Tryz.underlying196
 a105:=Tryz.isAgg196
 z105:=Tryz.sizeOf196
 v105:=Tryz.zeroValue196
 t116:=Tryz.underlying182
 a116:=Tryz.isAgg182
 z116:=Tryz.sizeOf182
 t117:=Tryz.underlying183
 a117:=Tryz.isAgg183
 z117:=Tryz.sizeOf183
 v117:=Tryz.zeroValue183
 t119:=Tryz.underlying111
 a119:=Tryz.isAgg111
 z119:=Tryz.sizeOf111
 t124:=Tryz.underlying186
 a124:=Tryz.isAgg186
 z124:=Tryz.sizeOf186
 v124:=Tryz.zeroValue186
 t138:=Tryz.underlying113
 a138:=Tryz.isAgg113
 z138:=Tryz.sizeOf113
 v138:=Tryz.zeroValue113
 t139:=Tryz.underlying114
 a139:=Tryz.isAgg114
 z139:=Tryz.sizeOf114
 v139:=Tryz.zeroValue114
 g3:=by kernel_rfl
 g4:=by kernel_rfl }
open Go.RowKit in
theorem Tryz.strings_Trim_one (s:ByteArray) (c:UInt8) (hc:c.toNat<128) (w:World) (hs:s.size≤9223372036854775807) :
  Calls Tryz.prog 172 #[.string s,.string ⟨#[c]⟩] w fun e w'=>e=.returned (.string ⟨(Lib.trimB s.data.toList c).toArray⟩)∧(w'=w∨w'=w.drew):=Any.strings_Trim_one Jzr s c hc w hs
def Tryz_lays237_renX:Go.Shelf.Ren:=⟨fun | 237=>138 | 272=>168 | 238=>167 | 315=>187 | 273=>186 | 197=>155 | 271=>171 | 260=>176 | 120=>189 | n=>n,fun | 9=>9 | 40=>179 | 4=>4 | 3=>3 | 105=>196 | 21=>21 | 0=>0 | 5=>5 | 119=>111 | 46=>115 | 139=>114 | 138=>113 | n=>n,fun | 3=>0 | 4=>1 | n=>n⟩
theorem Jz0:Go.Proofs.Lays.n237 Tryz.prog Tryz_lays237_renX:={
 mixed:=by kernel_rfl
 f120:=Tryz.func189.trans (congrArg some (by kernel_rfl))
 f197:=Tryz.func155.trans (congrArg some (by kernel_rfl))
 f237:=Tryz.func138.trans (congrArg some (by kernel_rfl))
 f238:=Tryz.func167.trans (congrArg some (by kernel_rfl))
 f260:=Tryz.func176.trans (congrArg some (by kernel_rfl))
 f271:=Tryz.func171.trans (congrArg some (by kernel_rfl))
 f272:=Tryz.func168.trans (congrArg some (by kernel_rfl))
 f273:=Tryz.func186.trans (congrArg some (by kernel_rfl))
 f315:=Tryz.func187.trans (congrArg some (by kernel_rfl))
 t0:=Tryz.underlying0
 a0:=Tryz.isAgg0
 z0:=Tryz.sizeOf0
 v0:=Tryz.zeroValue0
 t3:=Tryz.underlying3
 a3:=Tryz.isAgg3
 z3:=Tryz.sizeOf3
 v3:=Tryz.zeroValue3
 t4:=Tryz.underlying4
 a4:=Tryz.isAgg4
 z4:=Tryz.sizeOf4
 v4:=Tryz.zeroValue4
 t5:=Tryz.underlying5
 a5:=Tryz.isAgg5
 z5:=Tryz.sizeOf5
 v5:=Tryz.zeroValue5
 t9:=Tryz.underlying9
 a9:=Tryz.isAgg9
 z9:=Tryz.sizeOf9
 v9:=Tryz.zeroValue9
 t21:=Tryz.underlying21
 a21:=Tryz.isAgg21
 z21:=Tryz.sizeOf21
 v21:=Tryz.zeroValue21
 t40:=Tryz.underlying179
 a40:=Tryz.isAgg179
 z40:=Tryz.sizeOf179
 v40:=Tryz.zeroValue179
 t46:=Tryz.underlying115
 a46:=Tryz.isAgg115
 z46:=Tryz.sizeOf115
 v46:=Tryz.zeroValue115
 t105:=Tryz.underlying196
 a105:=Tryz.isAgg196
 z105:=Tryz.sizeOf196
 v105:=Tryz.zeroValue196
 t119:=Tryz.underlying111
 a119:=Tryz.isAgg111
 z119:=Tryz.sizeOf111
 t138:=Tryz.underlying113
 a138:=Tryz.isAgg113
 z138:=Tryz.sizeOf113
 v138:=Tryz.zeroValue113
 t139:=Tryz.underlying114
 a139:=Tryz.isAgg114
 z139:=Tryz.sizeOf114
 v139:=Tryz.zeroValue114
 g3:=by kernel_rfl
 g4:=by kernel_rfl }
open Go.RowKit Go.Lib in
theorem Tryz.strings_TrimFunc_grows (g:Nat) (lb:Array Value) (eg:∀ args w,(callFunc g args).run Tryz.prog w=.ok (.enter g args) w) (p:Nat→Bool) (s:ByteArray) (w:World) (hs:s.size≤9223372036854775807) (hT:Lib.Utf8Tabs 0 1 w) (hp:PredGrows Tryz.prog g lb p w) :
  Calls Tryz.prog 138 #[.string s,.func (.func g) #[] lb] w fun e w'=>e=.returned (.string (Lib.trimF p s))∧Below w.heap.size w w':=Any.strings_TrimFunc_grows Jz0 g lb eg p s w hs hT hp
end Go.Proofs
set_option maxRecDepth 100000
set_option maxHeartbeats 2000000
namespace Go.LX
open Go Go.RowKit Go.Proofs
attribute [local irreducible] Al SWP Bi
theorem Jvo (s:List UInt8):Jq4 s=Pk s:=rfl
theorem J06 (m e:Int) (hm1:0≤m) (hm2:m≤1000000):Det cx 113 [.p (.int .i64 m),.p (.int .i64 e)] [] (.p (.bool (Jxu m e))) []:=by
 (refine bgo Tryz.func113 ?_;simp only [go_sem,simprocAttr])
 (repeat' (first | (split) | fail)) <;> simp (disch:=omega) [Jxu,Aa, *] <;> omega
theorem J26 (c:Nat):Det cx 139 [.p (.int .i32 c)] [] (.p (.bool (decide (48≤c) && decide (c≤57)))) []:=by
 (refine bgo Tryz.func139 ?_;simp only [go_sem,simprocAttr])
 (repeat' (first | (split) | fail)) <;> (rw [Bool.eq_iff_iff];first | omega | (simp [-List.length_eq_zero_iff,Ac, *];done)|(simp [-List.length_eq_zero_iff,Ac, *];omega))
theorem J2y (a:Int):Det cx 151 [.p (.int .i64 a)] [] (.p (.bool false)) []:=by
 (refine bgo Tryz.func151 ?_;simp only [go_sem,simprocAttr])
theorem J19 (a:List UInt8):Det cx 153 [.p (.str a)] [] (.p (.bool false)) []:=by
 (refine bgo Tryz.func153 ?_;simp only [go_sem,simprocAttr])
theorem Jvv (a b:Int):Det cx 119 [.p (.int .i64 a),.p (.int .i64 b)] [] (.p (.int .i64 (cmpI a b))) []:=by
 (refine bgo Tryz.func119 ?_;simp only [go_sem,simprocAttr]);(repeat' (first | (apply iteI <;> intro h)|((refine Jqa (J2y _) ?_);simp only [go_sem,simprocAttr]) | fail))
 all_goals simp [cmpI, *]
theorem J4w (a b:List UInt8):Det cx 121 [.p (.str a),.p (.str b)] [] (.p (.int .i64 (cmpS a b))) []:=by
 (refine bgo Tryz.func121 ?_;simp only [go_sem,simprocAttr]);(repeat' (first | (apply iteI <;> intro h)|((refine Jqa (J19 _) ?_);simp only [go_sem,simprocAttr]) | fail))
 all_goals simp_all [cmpS]
theorem nm_eta (x:ByteArray):(⟨⟨x.data.toList⟩⟩:ByteArray)=x:=by rcases x with ⟨⟨l⟩⟩;rfl
theorem J5a (s:List UInt8) (hs:s.length≤9223372036854775807):Det cx 138 [.p (.str s),.fn 139 []] [] (.p (.str (Lib.trimF figR ⟨⟨s⟩⟩).data.toList)) []:=by
 have he:Enters cx.P 139:=enters_of Tryz.func139 krf rfl;refine Jq2 (v:=.string (Lib.trimF figR ⟨⟨s⟩⟩)) (enters_of Tryz.func138 krf rfl) rfl (fun β w Im=>?_) fun β Im w vs hg hf=>?_
 ·have:=PRep.str (w:=w) (Im:=Im) (Lib.trimF figR ⟨⟨s⟩⟩).data.toList;rw [nm_eta] at this;exact this
 ·obtain ⟨v,u,rfl,h1,h2⟩:=fit2 hf;cases Ks h1;cases J99 h2;refine Tryz.strings_TrimFunc_grows 139 #[] he figR ⟨⟨s⟩⟩ w hs (Jbj hg).tabs fun W x hx hb=>?_
  have hi:∀ b,Im b→b<W.heap.size:=fun b hb'=>Nat.lt_of_lt_of_le (hf.im b hb') hb.size
  exact (J26 x).calls_below (w:=W) (Im:=Im) (cx.mono ⟨fun _ h=>h,fun b hb'=>hb.block b (hf.im b hb')⟩ hg) hi (vs:=[.int .i32 x]) rfl
   (fun i v a hv ha=>by cases i with | zero=>simp at hv ha;subst hv;subst ha;exact PRep.int _ _ | succ i=>simp at hv) (fun β w' Im' u hu=>Na hu)
theorem Jw3 (s:List UInt8) (hs:s.length≤9223372036854775807):Det cx 110 [.p (.str s)] [] (.p (.bool (Jq4 s))) []:=by
 (refine bgo Tryz.func110 ?_;simp only [go_sem,simprocAttr]);(repeat' (first | ((refine Jqa (J5a s hs) ?_);simp only [go_sem,simprocAttr]) | fail));exact Jz2 ⟨⟨s⟩⟩
theorem d_Trim (s:List UInt8) (hs:s.length≤9223372036854775807):Det cx 172 [.p (.str s),.p (.str [48])] [] (.p (.str (Jqo (Jqx s)))) []:=by
 refine Jq2 (v:=.string ⟨⟨Jqo (Jqx s)⟩⟩) (enters_of Tryz.func172 krf rfl) rfl (fun β w Im=>PRep.str _) fun β Im w vs hg hf=>?_
 obtain ⟨v,u,rfl,h1,h2⟩:=fit2 hf;cases Ks h1;cases Ks h2;refine (Tryz.strings_Trim_one ⟨⟨s⟩⟩ 48 de w hs).mono fun e w' ⟨h,hw⟩=>⟨h,?_⟩
 rcases hw with rfl | rfl
 ·exact Below.refl _ _
 ·exact (Below.refl _ _).drew
theorem Jy4 (n:Node) (hs:n.s.length≤1000000):Det cx 149 [.p (.agg n.pv)] [] (.p (.bool (Jrn n))) []:=by
 (refine bgo Tryz.func149 ?_;simp only [go_sem,simprocAttr,Jst]);(repeat' (first | (apply iteI <;> intro h)|((first | (refine Jql ?_)|(refine Jqa (Jw3 _ omg) ?_)|(refine Jqa (J06 _ _ omg omg) ?_)|(refine Jqe (d_Trim _ omg) ?_));simp only [go_sem,simprocAttr]) | fail))
 all_goals (try simp (disch:=omega) only [Aa,Qs,Ab,Jlh,Mf,Ja0,Jcc,Ja7,Jak] at *)
 ·simp [-List.length_eq_zero_iff,Ac,Jrn, *]
 ·simp [-List.length_eq_zero_iff,Ac,Jrn, *]
 ·simp [-List.length_eq_zero_iff,Ac,Jrn, *]
 ·simp [-List.length_eq_zero_iff,Ac,Jrn, *]
 ·rw [Jtb] at h;rw [Bool.eq_iff_iff];simp [-List.length_eq_zero_iff,Ac,Jrn]
  intros
  omega
 ·simp [-List.length_eq_zero_iff,Ac,Jrn, *]
 ·rename_i hP _ _;rw [Jtb] at hP;have c1:¬ n.e < -1000:=by omega
  have c2:¬ 1000<n.e:=by omega
  have c3:¬ 1000<(n.s.length:Int)+n.e:=by omega
  simp [-List.length_eq_zero_iff,Ac,Jrn, *]
 ·rename_i hP _ _;rw [Jtb] at hP;have c1:¬ n.e < -1000:=by omega
  have c2:¬ 1000<n.e:=by omega
  have c3:¬ 1000<(n.s.length:Int)+n.e:=by omega
  simp [-List.length_eq_zero_iff,Ac,Jrn, *]
 ·rename_i hP _;rw [Jtb] at hP;have c1:¬ n.e < -1000:=by omega
  have c2:¬ 1000<n.e:=by omega
  have c3:¬ 1000<(n.s.length:Int)+n.e:=by omega
  rw [Bool.eq_iff_iff,beq_iff_eq,J93 omg];simp [-List.length_eq_zero_iff,Ac,Jrn, *];omega
theorem J91 (a b:Node) (ha:a.small) (hb:b.small):Det cx 152 [.p (.agg a.pv),.p (.agg b.pv)] [] (.p (.int .i64 (Jxs a b))) []:=by
 obtain ⟨a1,a2,a3⟩:=ha;obtain ⟨b1,b2,b3⟩:=hb;(refine bgo Tryz.func152 ?_;simp only [go_sem,simprocAttr,Jst]);simp (disch:=omega) only [Aa];(repeat' (first | (apply iteI <;> intro h)|((first | (refine Jqa (Jvv _ _) ?_)|(refine Jqa (J4w _ _) ?_));simp only [go_sem,simprocAttr]) | fail))
 all_goals simp_all [Jxs]
theorem J8s (a b:Node) (ha:a.small) (hb:b.small):Det cx 120 [.p (.agg a.pv),.p (.agg b.pv)] [] (.p (.int .i64 (Jyh a b))) []:=by
 (refine bgo Tryz.func120 ?_;simp only [go_sem,simprocAttr,Jst]);(repeat' (first | (apply iteI <;> intro h)|((first | (refine Jqa (J91 a b ha hb) ?_)|(refine Jqa (J91 b a hb ha) ?_));simp only [go_sem,simprocAttr]) | fail))
 all_goals simp_all [Jyh]
end Go.LX
namespace Go.LX
open Go Go.Proofs
def dig (s:List UInt8):Nat:=s.foldl (fun n c=>n * 10+(c.toNat - 48)) 0
def digF (n:Nat) (s:List UInt8):Nat:=s.foldl (fun n c=>n * 10+(c.toNat - 48)) n
structure RightN (n:Node):Prop where
 kind:n.kind=3
 many:n.many=0
 name:n.name=[]
 figs:Jq4 n.s=true
 len:n.s.length≤100
 e1:-1000≤n.e
 e2:n.e≤1000
 top:(n.s.length:Int)+n.e≤1000
 zero:n.s.length=0→n.neg=false∧n.e=0
 head:0<n.s.length→at_ n.s 0≠48
 last:0<n.s.length→at_ n.s (n.s.length - 1)≠48
theorem Jza (n:Node):Jrn n=true ↔ RightN n:=by
 constructor
 ·intro h;unfold Jrn at h;split at h
  ·cases h
  split at h
  ·cases h
  split at h
  ·cases h
  split at h
  ·cases h
  split at h
  ·cases h
  split at h
  ·cases h
  split at h
  ·cases h
  split at h
  ·cases h
  rename_i h1 h2 h3 h4 h5 h6 h7 h8;have hn:n.name=[]:=List.eq_nil_of_length_eq_zero omg;have hf:Jq4 n.s=true:=by simpa using h4
  split at h
  ·split at h
   ·exact ⟨by omega,by omega,hn,hf,by omega,by omega,by omega,by omega,fun _=>⟨by assumption,by simpa using h⟩,fun h=>by omega,fun h=>by omega⟩
   ·cases h
  ·split at h
   ·exact ⟨by omega,by omega,hn,hf,by omega,by omega,by omega,by omega,fun h=>by omega,fun _=>by omega,fun _ hh=>by simp [hh] at h⟩
   ·cases h
 ·intro h;obtain ⟨g1,g2,g3,g4,g5,g6,g7,g8,g9,g10,g11⟩:=h;unfold Jrn;rw [if_neg omg,if_neg omg,if_neg (by simp [g3]),if_neg (by simp [g4]),if_neg omg,if_neg omg,if_neg omg,if_neg omg];split
  ·rename_i h0;obtain ⟨k1,k2⟩:=g9 h0;rw [if_pos k1];simp [k2]
  ·rename_i h0;have k1:=g10 omg;have k2:=g11 omg;rw [if_pos omg];simp;omega
theorem RightN.small {n:Node} (h:RightN n):n.small:=⟨by have:=h.len;omega,by have:=h.e1;omega,by have:=h.e2;omega⟩
def mag (n:Node):Nat:=dig n.s * 10 ^ (n.e+1000).toNat
def cmp3 (side:Int) (x y:Nat):Int:=if x<y then -side else if y<x then side else 0
def Node.flip (n:Node):Node:={ n with neg:=!n.neg && (n.s != []) }
theorem RightN.flip {n:Node} (h:RightN n):RightN n.flip:=by
 obtain ⟨g1,g2,g3,g4,g5,g6,g7,g8,g9,g10,g11⟩:=h;refine ⟨g1,g2,g3,g4,g5,g6,g7,g8,fun h0=>⟨?_,(g9 h0).2⟩,g10,g11⟩;have:n.s=[]:=List.eq_nil_of_length_eq_zero h0;simp [Node.flip,this]
end Go.LX
namespace Go.LX
open Go Go.RowKit Go.Proofs
attribute [local irreducible] Al SWP Bi
def lexI {α β:Type} (c:α→β→Int):List α→List β→Int
 | [],[]=>0
 | [],_ :: _=>-1
 | _ :: _,[]=>1
 | x :: l,y :: m=>if c x y=0 then lexI c l m else c x y
theorem J83 {α β:Type} {c:α→β→Int} {l:List α} {m:List β} {i:Nat} {x:α} {y:β} (hx:l[i]? = some x) (hy:m[i]? = some y) :
  lexI c (l.drop i) (m.drop i)=if c x y=0 then lexI c (l.drop (i+1)) (m.drop (i+1)) else c x y:=by
 obtain ⟨h1,rfl⟩:=List.getElem?_eq_some_iff.1 hx;obtain ⟨h2,rfl⟩:=List.getElem?_eq_some_iff.1 hy;rw [List.drop_eq_getElem_cons h1,List.drop_eq_getElem_cons h2,lexI]
theorem J3w {α β:Type} {c:α→β→Int} {l:List α} {m:List β} {i:Nat} (h:l.length≤i) (hm:i<m.length):lexI c (l.drop i) (m.drop i) = -1:=by
 rw [List.drop_eq_nil_of_le h,List.drop_eq_getElem_cons hm,lexI]
theorem J3f {α β:Type} {c:α→β→Int} {l:List α} {m:List β} {i:Nat} (h:l.length≤i) (hm:m.length≤i):lexI c (l.drop i) (m.drop i)=0:=by
 rw [List.drop_eq_nil_of_le h,List.drop_eq_nil_of_le hm,lexI]
theorem J2n {α β:Type} {c:α→β→Int} {l:List α} {m:List β} {i:Nat} (h:i<l.length) (hm:m.length≤i):lexI c (l.drop i) (m.drop i)=1:=by
 rw [List.drop_eq_getElem_cons h,List.drop_eq_nil_of_le hm,lexI]
def ndN (s:List UInt8) (g:Bool) (e:Int):Node:=⟨3,0,[],s,g,e⟩
mutual
def cmpT:Tree→Tree→Int
 | .mk k s g e kids,.mk k' s' g' e' kids' =>
  if k=k' then (if k=3 then Jyh (ndN s g e) (ndN s' g' e') else if k=4 then cmpS s s' else
   if k=6 then (if lexI cmpS (kids.list.map (·.1)) (kids'.list.map (·.1))=0 then cmpF kids kids'.list else lexI cmpS (kids.list.map (·.1)) (kids'.list.map (·.1))) else
   if k=5 then cmpF kids kids'.list else 0) else cmpI k k'
def cmpF:Forest→List KT→Int
 | .nil,[]=>0
 | .nil,_ :: _=>-1
 | .cons _ _ _,[]=>1
 | .cons _ t r,q :: l=>if cmpT t q.2=0 then cmpF r l else cmpT t q.2
end
theorem Jt0 {k:Int} {s:List UInt8} {g:Bool} {e:Int} {kids:Forest} {k':Int} {s':List UInt8} {g':Bool} {e':Int} {kids':Forest}:cmpT (.mk k s g e kids) (.mk k' s' g' e' kids') =
  if k=k' then (if k=3 then Jyh (ndN s g e) (ndN s' g' e') else if k=4 then cmpS s s' else
   if k=6 then (if lexI cmpS (kids.list.map (·.1)) (kids'.list.map (·.1))=0 then cmpF kids kids'.list else lexI cmpS (kids.list.map (·.1)) (kids'.list.map (·.1))) else
   if k=5 then cmpF kids kids'.list else 0) else cmpI k k':=by rw [cmpT]
theorem Jx1:∀ (f:Forest) (l:List KT),cmpF f l=lexI (fun p q:KT=>cmpT p.2 q.2) f.list l
 | .nil,[]=>by rw [cmpF];rfl
 | .nil,_ :: _=>by rw [cmpF];rfl
 | .cons _ _ _,[]=>by rw [cmpF];rfl
 | .cons _ t r,q :: l=>by rw [cmpF,Jx1 r l];rfl
theorem J07 {l:List KT} {i:Nat} {p:KT} (h:l[i]? = some p):(Bd l)[i]? = some [.str p.1]:=by simp [Bd,h]
theorem J2m {l:List KT} {i:Nat} {p:KT} (h:l[i]? = some p):(l.map (·.1))[i]? = some p.1:=by simp [h]
theorem Jyx (l m:List KT) (hl:l.length≤1000000) (hlm:m.length≤1000000):Det cx 122 [.p (.sl (Bd l)),.p (.sl (Bd m))] [] (.p (.int .i64 (lexI cmpS (l.map (·.1)) (m.map (·.1))))) []:=by
 have e1:(l.map (·.1)).length=l.length:=List.length_map ..
 have e2:(m.map (·.1)).length=m.length:=List.length_map ..
 (refine bgo Tryz.func122 ?_;simp only [go_sem,simprocAttr,A9]);refine SWP.loop (fun i:Nat=>⟨Ba 36 [(0,.p (.sl (Bd l))),(1,.p (.sl (Bd m))),(9,.p (.sl (Bd l))),(10,.p (.int .i64 l.length)),(11,.p (.int .i64 i))],[]⟩) (fun i=>i≤l.length∧lexI cmpS (l.map (·.1)) (m.map (·.1))=lexI cmpS ((l.map (·.1)).drop i) ((m.map (·.1)).drop i)) (fun i=>l.length - i) 0 Jqc ⟨Nat.zero_le _,rfl⟩ ?_;rintro i ⟨h1,h3⟩;by_cases hi:i<l.length
 ·have c1:((i:Int)<(l.length:Int))=True:=eq_true omg;obtain ⟨x,hx⟩:∃ x,l[i]? = some x:=⟨_,List.getElem?_eq_getElem hi⟩
  have hgx:=J07 hx;by_cases hj:i<m.length
  ·have c2:((m.length:Int)≤(i:Int))=False:=eq_false omg;obtain ⟨y,hy⟩:∃ y,m[i]? = some y:=⟨_,List.getElem?_eq_getElem hj⟩
   have hgy:=J07 hy;have w1:=wj1 (i:=i) omg;have hk:=J83 (c:=cmpS) (J2m hx) (J2m hy);(refine lws ?_;simp only [go_sem,simprocAttr,A9,c1,c2,hgx,hgy]);(repeat' (first | (apply iteI <;> intro h)|((refine Jqa (J4w _ _) ?_);simp only [go_sem,simprocAttr,w1]) | fail))
   ·rw [h3,hk,if_neg h]
   ·exact ⟨i+1,⟨by omega,by rw [h3,hk,if_pos (Decidable.not_not.1 h)]⟩,by omega,Jqc⟩
  ·have c2:((m.length:Int)≤(i:Int))=True:=eq_true omg;(refine lws ?_;simp only [go_sem,simprocAttr,A9,c1,c2,hgx]);rw [h3,J2n omg omg]
 ·have c1:((i:Int)<(l.length:Int))=False:=eq_false omg;(refine lws ?_;simp only [go_sem,simprocAttr,A9,c1]);(repeat' (apply iteI <;> intro h))
  ·rw [h3,J3w omg omg]
  ·rw [h3,J3f omg omg]
theorem J6h {l:List KT} {i:Nat} {p:KT} (h:l[i]? = some p):(A4 l)[i]? = some [.sl (valL (p.2.enc []))]:=by simp [A4,h]
theorem Jtw (a:Int):cmpI a a=0:=by simp [cmpI]
abbrev cmp2 (p q:KT):Int:=cmpT p.2 q.2
theorem Jzw (l m:List KT) (hl:l.length≤1000000) (hlm:m.length≤1000000) (hc:∀ p∈l,∀ q∈m,Det cx 96 [.p (.sl (valL (p.2.enc []))),.p (.sl (valL (q.2.enc [])))] [] (.p (.int .i64 (cmp2 p q))) []) :
  Det cx 124 [.p (.sl (A4 l)),.p (.sl (A4 m)),.fn 96 []] [] (.p (.int .i64 (lexI cmp2 l m))) []:=by
 (refine bgo Tryz.func124 ?_;simp only [go_sem,simprocAttr,A5]);refine SWP.loop (fun i:Nat=>⟨Ba 39 [(0,.p (.sl (A4 l))),(1,.p (.sl (A4 m))),(2,.fn 96 []),(11,.p (.sl (A4 l))),(12,.p (.int .i64 l.length)),(13,.p (.int .i64 i))],[]⟩) (fun i=>i≤l.length∧lexI cmp2 l m=lexI cmp2 (l.drop i) (m.drop i)) (fun i=>l.length - i) 0 Jqc ⟨Nat.zero_le _,rfl⟩ ?_;rintro i ⟨h1,h3⟩;by_cases hi:i<l.length
 ·have c1:((i:Int)<(l.length:Int))=True:=eq_true omg;obtain ⟨x,hx⟩:∃ x,l[i]? = some x:=⟨_,List.getElem?_eq_getElem hi⟩
  have hgx:=J6h hx;by_cases hj:i<m.length
  ·have c2:((m.length:Int)≤(i:Int))=False:=eq_false omg;obtain ⟨y,hy⟩:∃ y,m[i]? = some y:=⟨_,List.getElem?_eq_getElem hj⟩
   have hgy:=J6h hy;have w1:=wj1 (i:=i) omg;have hk:=J83 (c:=cmp2) hx hy;have hxy:=hc x (List.mem_of_getElem? hx) y (List.mem_of_getElem? hy);(refine lws ?_;simp only [go_sem,simprocAttr,A5,c1,c2,hgx,hgy]);(repeat' (first | (apply iteI <;> intro h)|((refine Jqa (hxy) ?_);simp only [go_sem,simprocAttr,w1]) | fail))
   ·rw [h3,hk,if_neg h]
   ·exact ⟨i+1,⟨by omega,by rw [h3,hk,if_pos (Decidable.not_not.1 h)]⟩,by omega,Jqc⟩
  ·have c2:((m.length:Int)≤(i:Int))=True:=eq_true omg;(refine lws ?_;simp only [go_sem,simprocAttr,A5,c1,c2,hgx]);rw [h3,J2n omg omg]
 ·have c1:((i:Int)<(l.length:Int))=False:=eq_false omg;(refine lws ?_;simp only [go_sem,simprocAttr,A5,c1]);(repeat' (apply iteI <;> intro h))
  ·rw [h3,J3w omg omg]
  ·rw [h3,J3f omg omg]
theorem J3d {k m:Int} {nm s:List UInt8} {g:Bool} {e:Int} (h:Yz s g e):Node.small ⟨k,m,nm,s,g,e⟩:=by
 obtain ⟨_,h1,h2,h3,_⟩:=h;exact ⟨by show s.length≤_;omega,by show _≤e;omega,by show e≤_;omega⟩
theorem J0b {s:List UInt8} {g:Bool} {e:Int} (h:Yz s g e):RightN (ndN s g e):=by
 obtain ⟨h0,h1,h2,h3,h4,h5⟩:=h;refine ⟨rfl,rfl,rfl,h0,h1,h2,h3,h4,fun hz=>?_,fun hp=>?_,fun hp=>?_⟩
 ·have:s=[]:=List.eq_nil_of_length_eq_zero hz;rw [if_pos this] at h5;exact h5
 ·have:s≠[]:=by intro e;subst e;exact (Nat.lt_irrefl 0 hp).elim
  rw [if_neg this] at h5;exact h5.1
 ·have:s≠[]:=by intro e;subst e;exact (Nat.lt_irrefl 0 hp).elim
  rw [if_neg this] at h5;exact h5.2
theorem J1v {k m:Int} {s:List UInt8} {g:Bool} {e:Int} (h:G3 k s g e m) (hk:k=3):Yz s g e:=by
 subst hk;unfold G3 at h;simp at h;exact h.2
end Go.LX
namespace Go.LX
open Go Go.RowKit Go.Proofs
section
variable {X:Cx} {ro:Option Nat} {md:Region.Mode} {ops:Array Oper}
theorem J3t {k:Nat} {K:St→Prop} {i:Nat} {oi:Oper} {v:L} (hi:ops[i]? = some oi) (hik:i<k) (hA:∀ j,k≤j→j<ops.size→ancB md ops ops.size i j=true):∀ (fuel:Nat) (listed:Array Bool) (s:St),Down md ops listed →
   (∀ j oj,ops[j]? = some oj→j≠i→listed.getD j true=false→(∀ e∈oj.after,Region.binds md e=true→e.on≠i)→oi.apart ops oj=true) →
   i∈Region.ready md ops listed→YS X (ops.toList.map (·.dst)) s oi (fun m=>m=v) →
   Jtk X md ops k K fuel (listed.setIfInBounds i true) (s.put oi.dst v)→Jtk X md ops k K (fuel+1) listed s:=by
 intro fuel
 induction fuel with
 | zero =>
  intro listed s hd _ hr hy H;have only:∀ j∈Region.ready md ops listed,j=i:=by
   intro j hj;by_cases hji:j=i
   ·exact hji
   ·have:=ready_mono hj hji;rw [H.1] at this;cases this
  refine ⟨fun h=>(by rw [h] at hr;cases hr),fun j hj oj hoj=>?_⟩;have:=only j hj;subst this;rw [hi] at hoj;cases hoj;exact ⟨fun _=>Kr (fun l hl=>by rw [hl];exact H) hy,fun h=>by omega⟩
 | succ fuel ih =>
  intro listed s hd hfree hr hy H;refine ⟨fun h=>(by rw [h] at hr;cases hr),fun j hj oj hoj=>?_⟩;by_cases hji:j=i
  ·subst hji;rw [hi] at hoj;cases hoj;exact ⟨fun _=>Kr (fun l hl=>by rw [hl];exact H) hy,fun h=>by omega⟩
  ·have hjk:j<k:=by
    rcases Nat.lt_or_ge j k with h | h
    ·exact h
    ·exfalso;obtain ⟨_,oj',hoj',hall⟩:=mem_ready.1 hj;have h1:=Qb hd _ i j oj' hoj' hall (hA j h (Array.getElem?_eq_some_iff.1 hoj').1);have h2:=(Hn.1 (mem_ready.1 hr).1).2;rw [h1] at h2;cases h2
   refine ⟨fun _=>?_,fun h=>by omega⟩;have h1:=(H.2 j (ready_mono hj hji) oj hoj).1 hjk;obtain ⟨hjun,oj',hoj',hall⟩:=mem_ready.1 hj;rw [hoj] at hoj';cases hoj';have hnot:∀ e∈oj.after,Region.binds md e=true→e.on≠i:=fun e he hb heq=>by
    have h1:=hall e he hb;have h0:=(Hn.1 (mem_ready.1 hr).1).2;rw [heq] at h1;rw [h1] at h0;cases h0
   obtain ⟨a1,a2,a3⟩:=Oper.apart_spec (hfree j oj hoj hji hjun hnot);have hfree':∀ q ok,ops[q]? = some ok→q≠i→(listed.setIfInBounds j true).getD q true=false →
     (∀ e∈ok.after,Region.binds md e=true→e.on≠i)→oi.apart ops ok=true:=fun q ok hk hki hun hno=>by
    refine hfree q ok hk hki ?_ hno;by_cases hjk:j=q
    ·subst hjk;exact hjun
    ·rw [getD_set_ne true hjk] at hun;exact hun
   refine Kr (fun l hl=>?_) (Yr a1 h1);refine ih (listed.setIfInBounds j true) (s.put oj.dst l) (hd.set hj) hfree' (ready_mono hr (Ne.symm hji)) (Uk a3 hy) ?_;rw [Array.setIfInBounds_comm _ _ hji];rw [← Js7 s v l a2];exact hl
def YSAt (X:Cx) (ds:List (Option Tmp)) (ops:List Oper) (i:Nat) (C:St→Prop) (s:St):Prop:=match ops[i]? with
 | some o=>YS X ds s o fun l=>C (s.put o.dst l)
 | none=>False
def Jvi (X:Cx) (ds:List (Option Tmp)) (ops:List Oper) (E:St→Prop):List Nat→St→Prop
 | [],s=>E s
 | i :: I,s=>YSAt X ds ops i (Jvi X ds ops E I) s
def J52 (md:Region.Mode) (ops:Array Oper) (k:Nat):List Nat→Array Bool→Bool
 | [],_=>true
 | i :: I,listed=>(Region.ready md ops listed).contains i && (Region.free md ops listed i && (decide (i<k) && ((List.range ops.size).all (fun j=>decide (j<k) || ancB md ops ops.size i j) && J52 md ops k I (listed.setIfInBounds i true))))
def Jx6:List Nat→Array Bool→Array Bool
 | [],listed=>listed
 | i :: I,listed=>Jx6 I (listed.setIfInBounds i true)
theorem Jxl {k:Nat} {K:St→Prop} {fuel:Nat}:∀ (I:List Nat) (listed:Array Bool) (s:St),J52 md ops k I listed=true→Down md ops listed →
  Jvi X (ops.toList.map (·.dst)) ops.toList (Jtk X md ops k K fuel (Jx6 I listed)) I s→Jtk X md ops k K (fuel+I.length) listed s
 | [],listed,s,_,_,h=>h
 | i :: I,listed,s,hB,hd,h=>by
  simp only [J52,Bool.and_eq_true,List.contains_eq_mem,decide_eq_true_eq] at hB;obtain ⟨h1,h2,h3,h4,h5⟩:=hB;obtain ⟨_,oi,hoi,_⟩:=mem_ready.1 h1;simp only [Jvi,YSAt] at h;rw [Array.getElem?_toList,hoi] at h;obtain ⟨v,hy,hK⟩:=Jab (X:=X) h;refine J3t hoi h3 (fun j hj hs=>?_) (fuel+I.length) listed s hd (Region.free_spec hoi h2) h1 hy (Jxl I _ _ h5 (hd.set h1) hK);have:=List.all_eq_true.1 h4 j (List.mem_range.2 hs);rw [Bool.or_eq_true,decide_eq_true_eq] at this;rcases this with h | h
  ·omega
  ·exact h
theorem Jzf {ds:List (Option Tmp)} {os:List Oper} {E E':St→Prop} (hE:∀ s,E s→E' s):∀ (I:List Nat) (s:St),Jvi X ds os E I s→Jvi X ds os E' I s
 | [],s,h=>hE s h
 | i :: I,s,h=>by
  simp only [Jvi,YSAt] at h ⊢;split
  ·rename_i o ho;rw [ho] at h;exact Kr (fun l hl=>Jzf hE I _ hl) h
  ·rename_i ho;rw [ho] at h;exact h
def Js6 (X:Cx) (ds:List (Option Tmp)) (ops:List Oper) (k:Nat) (K:St→Prop):Ord→St→Prop
 | .leaf,s=>K s
 | .nil,_=>True
 | .bad,_=>False
 | .node i sub next,s=>(if i<k then YSAt X ds ops i (Js6 X ds ops k K sub) s else lAt X ds ops i (Js6 X ds ops k K sub) s)∧Js6 X ds ops k K next s
theorem Jyr {k:Nat} {K:St→Prop} {f:Nat} {listed:Array Bool} {s:St}:∀ (is:List Nat),Js6 X (ops.toList.map (·.dst)) ops.toList k K (is.foldr (fun i acc=>.node i (P6 ops f (listed.setIfInBounds i true)) acc) .nil) s →
  ∀ i∈is,(if i<k then YSAt X (ops.toList.map (·.dst)) ops.toList i (Js6 X (ops.toList.map (·.dst)) ops.toList k K (P6 ops f (listed.setIfInBounds i true))) s else lAt X (ops.toList.map (·.dst)) ops.toList i (Js6 X (ops.toList.map (·.dst)) ops.toList k K (P6 ops f (listed.setIfInBounds i true))) s)
 | [],_,i,hi=>by cases hi
 | j :: is,h,i,hi=>by
  simp only [List.foldr_cons,Js6] at h;rcases List.mem_cons.1 hi with rfl | hi
  ·exact h.1
  ·exact Jyr is h.2 i hi
theorem Js8 {k:Nat} {K:St→Prop}:∀ (f:Nat) (listed:Array Bool) (s:St),Js6 X (ops.toList.map (·.dst)) ops.toList k K (P6 ops f listed) s→Jtk X .any ops k K f listed s
 | 0,listed,s,h=>by
  unfold P6 at h;split at h
  ·rename_i h0;exact ⟨h0,h⟩
  ·exact h.elim
 | f+1,listed,s,h=>by
  unfold P6 at h;split at h
  ·rename_i h0;exact ⟨fun _=>h,fun i hi=>by rw [h0] at hi;cases hi⟩
  ·rename_i h0;refine ⟨fun h1=>absurd h1 h0,fun i hi o ho=>?_⟩;have:=Jyr _ h i hi;refine ⟨fun hk=>?_,fun hk=>?_⟩
   ·rw [if_pos hk] at this;unfold YSAt at this;rw [Array.getElem?_toList,ho] at this;exact Kr (fun l hl=>Js8 f _ _ hl) this
   ·rw [if_neg omg] at this;exact ⟨_,this,fun s' hs=>Js8 f _ _ hs⟩
theorem J9s {id:Nat} {Q:Ex→St→Prop} {s:St} (k:Nat) (I:List Nat) (T:Ord) (f:Nat) (hm:X.P.follows .mixedOrders=true) (hf:f+I.length=ops.size) (hB:J52 .any ops k I (Array.replicate ops.size false)=true) (hT:P6 ops f (Jx6 I (Array.replicate ops.size false))=T)
  (h:Jvi X (ops.toList.map (·.dst)) ops.toList (Js6 X (ops.toList.map (·.dst)) ops.toList k (Q .normal) T) I s):SWP X ro (.region id ops true) Q s:=fun Γ a w hG hr=>by
 have h':RR Γ s a { w with drawn:=w.drawn+1 }:=by
  obtain ⟨ms,hdef,β,Im,hx⟩:=hr;exact ⟨ms,hdef,β,Im,hx.grow (Grow.drew hx.fit.im)⟩
 refine wpIn_region_any hm (G0 (k:=k) (K:=Q .normal) hG.1 (fun s _ _ h1 h2=>⟨s,h1,h2⟩) _ _ s a _ h' ?_);have hd:Down .any ops (Array.replicate ops.size false):=by
  intro i o ho hl;exfalso;have hi:=(Array.getElem?_eq_some_iff.1 ho).1;simp [Array.getD_eq_getD_getElem?,hi] at hl
 have:=Jxl (X:=X) (K:=Q .normal) (fuel:=f) I (Array.replicate ops.size false) s hB hd ?_
 ·rw [hf] at this;exact this
 ·subst hT;exact Jzf (fun s hs=>Js8 f _ s hs) I s h
end
section
variable {X:Cx} {ds:List (Option Tmp)} {t:List L} {r:Regs} {E:St→Prop}
theorem Ka8 {ops:List Oper}:Jvi X ds ops E [] ⟨t,r⟩=E ⟨t,r⟩:=(rfl)
theorem y_take {ops:List Oper} {i:Nat} {I:List Nat}:Jvi X ds ops E (i :: I) ⟨t,r⟩=YSAt X ds ops i (Jvi X ds ops E I) ⟨t,r⟩:=(rfl)
theorem y_at0 {o:Oper} {ops:List Oper}:YSAt X ds (o :: ops) 0 E ⟨t,r⟩=YS X ds ⟨t,r⟩ o (kput o.dst E ⟨t,r⟩):=(rfl)
theorem y_atS {o:Oper} {ops:List Oper} {i:Nat}:YSAt X ds (o :: ops) (i+1) E ⟨t,r⟩=YSAt X ds ops i E ⟨t,r⟩:=(rfl)
theorem y_leaf {ops:List Oper} {k:Nat}:Js6 X ds ops k E .leaf ⟨t,r⟩=E ⟨t,r⟩:=(rfl)
theorem y_nil {ops:List Oper} {k:Nat}:Js6 X ds ops k E .nil ⟨t,r⟩=True:=(rfl)
theorem y_node {ops:List Oper} {k i:Nat} {sub next:Ord}:Js6 X ds ops k E (.node i sub next) ⟨t,r⟩=((if i<k then YSAt X ds ops i (Js6 X ds ops k E sub) ⟨t,r⟩ else lAt X ds ops i (Js6 X ds ops k E sub) ⟨t,r⟩)∧Js6 X ds ops k E next ⟨t,r⟩):=(rfl)
attribute [go_sem] Ka8 y_take y_at0 y_atS y_leaf y_nil y_node
end
def farL:L→Bool
 | .p _=>true
 | .eptr _=>true
 | _=>false
theorem Kam {P:Program} {regs regs':List (Nat×Reg)} {ρ:Operand→L} {op:Op} {l:L} (hf:∀ x∈op.operands.toList,farL (ρ x)=true) (h:lqv P regs ρ op l):lqv P regs' ρ op l:=by
 cases op with
 | lookup t x ix ok =>
  have hx:=hf x (by simp [Op.operands]);have e:Tz regs (ρ x)=Tz regs' (ρ x):=by
   unfold Tz;cases hρ:ρ x <;> rw [hρ] at hx <;> simp [farL] at hx <;> (try rfl)
   rename_i a;cases a <;> rfl
  simp only [lqv,Yc] at h ⊢;rw [← e];exact h
 | call c =>
  obtain ⟨callee,args,ts⟩:=c;cases callee with
  | builtin b =>
   cases b with
   | cap =>
    simp only [lqv] at h ⊢;split at h
    ·rename_i x t hargs hts;have hx:=hf x (by simp [Op.operands,Call.operands,hargs]);revert h;cases hρ:ρ x <;> rw [hρ] at hx <;> simp [farL] at hx
     ·rename_i a;cases a <;> exact id
     ·exact id
    ·exact h
   | _=>exact h
  | _=>exact h
 | _=>exact h
theorem lq_far {P:Program} {regs regs':List (Nat×Reg)} {ρ:Operand→L} {op:Op} {K:L→Prop} (hf:∀ x∈op.operands.toList,farL (ρ x)=true) (h:lq P regs ρ op K):lq P regs' ρ op K:=by
 have ptr:∀ {x:L} {d i j:Nat},farL x=true→x=.ptr d i j→False:=by intro x d i j h e;subst e;cases h
 unfold lq at h ⊢;split at h
 case h_8 =>
  rename_i a;have hx:=hf a (by simp [Op.operands]);revert h;unfold Jc;generalize B2 P _=b;rcases b with _ | _ | _ <;> cases hρ:ρ a <;> rw [hρ] at hx <;> simp [farL] at hx <;> exact id
 case h_11 =>
  rename_i x y;have hx:=hf x (by simp [Op.operands]);revert h;unfold Dg;generalize ρ y=iy;cases hρ:ρ x <;> rw [hρ] at hx <;> simp [farL] at hx
  ·rename_i a;cases iy with
   | p b=>cases a <;> cases b <;> exact id
   | _=>cases a <;> exact id
  ·cases iy with
   | p b=>cases b <;> exact id
   | _=>exact id
 case h_13 t x lo hi mx =>
  have hx:=hf x (by simp [Op.operands]);revert h;unfold G2;generalize P.underlying t=u;cases hρ:ρ x <;> rw [hρ] at hx <;> simp [farL] at hx
  ·rename_i a;cases u with
   | none=>exact id
   | some u=>cases u <;> cases a <;> exact id
  ·cases u with
   | none=>exact id
   | some u=>cases u <;> exact id
 all_goals first
  | exact h
  | skip
 obtain ⟨l,h1,h2⟩:=h;exact ⟨l,Kam hf h1,h2⟩
section
variable {X:Cx} {ro:Option Nat} {ops:Array Oper}
def Js9 (o:Oper):Bool:=o.guard.isNone && match o.op with
 | .move _=>true
 | .indexAddr ..=>true
 | .fieldAddr ..=>true
 | .load ..=>true
 | .binOp ..=>true
 | _=>false
def Jt9 (o:Oper):Bool:=o.guard.isNone && match o.op,o.dst with
 | .alloc _,some _=>true
 | _,_=>false
def Jua (o:Oper):Bool:=o.guard.isNone && match o.op,o.dst with
 | .store ..,none=>true
 | _,_=>false
def farOps (s:St) (o:Oper):Prop:=∀ x∈o.op.operands.toList,farL (s.get x)=true
theorem J9v {ds:List (Option Tmp)} {s:St} {o:Oper} {K:L→Prop} (h:Js9 o=true):YS X ds s o K=lq X.P s.regs s.get o.op K:=by
 obtain ⟨dst,op,ty,ps,af,g⟩:=o;cases g with
 | some g=>simp [Js9] at h
 | none =>
  unfold YS lqc;cases op <;> first | rfl | (simp [Js9] at h)
theorem J22 {s:St} {dst:Option Tmp} {v:L}:(s.put dst v).regs=s.regs:=by cases dst <;> rfl
theorem Jx8 {s:St} {dst:Option Tmp} {v:L} {R:Regs}:({ (s.put dst v) with regs:=R }:St)=({ s with regs:=R }:St).put dst v:=by cases dst <;> rfl
def lTakeA (X:Cx) (ds:List (Option Tmp)) (ops:List Oper) (E:St→Prop):List Nat→St→Prop
 | [],s=>E s
 | i :: I,s=>match ops[i]? with
  | some o=>farOps s o∧YS X ds s o fun l=>farL l=true∧lTakeA X ds ops E I (s.put o.dst l)
  | none=>False
def takeAB (ops:Array Oper) (k:Nat):List Nat→Array Bool→Bool
 | [],_=>true
 | i :: I,listed=>(Region.ready .any ops listed).contains i && (Region.free .any ops listed i && (decide (i<k) && ((match ops[i]? with | some o=>Js9 o | none=>false) && ((List.range ops.size).all (fun j=>decide (j<k) || (ancB .any ops ops.size i j || match ops[j]? with | some o=>Jt9 o || Jua o | none=>false)) && takeAB ops k I (listed.setIfInBounds i true)))))
end
section
variable {X:Cx} {ds:List (Option Tmp)} {t:List L} {r:Regs} {E:St→Prop} {dst:Option Tmp} {ty:TypeId} {ps:String} {af:Array Edge} {g:Option (Nat×Bool)}
def kfar (dst:Option Tmp) (C:St→Prop) (s:St) (l:L):Prop:=farL l=true∧C (s.put dst l)
theorem v_fp {x:PV}:(farL (.p x)=true)=True:=by simp [farL]
theorem v_fe {cs:List PV}:(farL (.eptr cs)=true)=True:=by simp [farL]
def J57 (X:Cx) (args:List L) (C:L→Prop) (l:L):Prop:=match l with
 | .fn g []=>Bi X g args C
 | .p (.clo g ps)=>Bi X g (args ++ [.eptr ps]) C
 | _=>False
theorem Ka6 {n:Tmp} {args:Array Operand} {ats:Array TypeId} {C:L→Prop}:lqc X ⟨t,r⟩ ⟨dst,.call { callee:=.value (.tmp n),args:=args,argTypes:=ats },ty,ps,af,g⟩ C=J57 X (args.toList.map (St.mk t r).get) C ((St.mk t r).get (.tmp n)):=(rfl)
theorem Ka9 {f:FuncId} {args:List L} {C:L→Prop}:J57 X args C (.fn f [])=Bi X f args C:=(rfl)
attribute [go_sem] Ka6 Ka9 v_fp v_fe
end
theorem Al.perm {X:Cx} {f:FuncId} {args:List L} {rs rs':Regs} {Post:L→Regs→Prop} (hp:rs'.Perm rs) (h:Al X f args rs Post):Al X f args rs' Post:=by
 refine ⟨h.1,fun β Im w vs hg hf=>?_⟩;have hmi:∀ x,x∈rs ↔ x∈rs':=fun x=>hp.symm.mem_iff
 have hf':Fit β w Im ⟨args,rs⟩ ⟨vs⟩:={ size:=hf.size,tmps:=hf.tmps,im:=hf.im,regs:=fun d r hd=>hf.regs d r ((hmi _).1 hd),nodup:=((hp.map _).nodup_iff).1 hf.nodup,live:=fun d r loc hd hl=>hf.live d r loc ((hmi _).1 hd) hl,apart:=fun d r d' r' l1 l2 hd hd' hne h1 h2=>hf.apart d r d' r' l1 l2 ((hmi _).1 hd) ((hmi _).1 hd') hne h1 h2 }
 refine (h.2 β Im w vs hg hf').mono fun e w' ⟨v,m,q,β',Im',he,hP,hr,hc⟩=>⟨v,m,q,β',Im',he,hP,hr,?_⟩
 exact { hc with
  block:=fun k hk hno=>hc.block k hk fun d r loc hd hl=>hno d r loc ((hmi _).1 hd) hl
  imnew:=fun b hb=>by
   rcases hc.imnew b hb with h | h | ⟨d,r,loc,h1,h2⟩
   ·exact .inl h
   ·exact .inr (.inl h)
   ·exact .inr (.inr ⟨d,r,loc,(hmi _).1 h1,h2⟩)
  keys:=fun d r hd=>by
   rcases hc.keys d r hd with h | ⟨r0,h⟩
   ·exact .inl h
   ·exact .inr ⟨r0,(hmi _).1 h⟩
  regnew:=fun d r loc hd hl=>by
   rcases hc.regnew d r loc hd hl with h | ⟨d1,r1,loc1,h1,h2⟩
   ·exact .inl h
   ·exact .inr ⟨d1,r1,loc1,(hmi _).1 h1,h2⟩ }
attribute [local irreducible] Al Bi SWP
theorem nc_num (m m':Int) (nm nm' s s':List UInt8) (g g':Bool) (e e':Int) (h:Yz s g e) (h':Yz s' g' e'):Det cx 120 [.p (.agg [.int .i64 3,.int .i64 m,.str nm,.str s,.bool g,.int .i64 e]),.p (.agg [.int .i64 3,.int .i64 m',.str nm',.str s',.bool g',.int .i64 e'])] [] (.p (.int .i64 (Jyh (ndN s g e) (ndN s' g' e')))) []:=by
 have:=J8s ⟨3,m,nm,s,g,e⟩ ⟨3,m',nm',s',g',e'⟩ (J3d h) (J3d h');exact this
theorem J5z {a b:Int} (h:¬ a=b):¬ cmpI a b=0:=by
 unfold cmpI;split
 ·decide
 ·split
  ·decide
  ·omega
theorem J8u {k:Int} {s:List UInt8} {g:Bool} {e:Int} {kids:Forest} (h:okT (.mk k s g e kids)) {p:KT} (hp:p∈kids.list):okT p.2:=Jdo.1 (Lu.1 h).2.2 p hp
theorem d_Cmp (n:Nat) (t u:Tree) (hn:(t.enc []).length≤n) (ht:okT t) (hu:okT u) (hs:(t.enc []).length≤1000000) (hs':(u.enc []).length≤1000000):Det cx 96 [.p (.sl (valL (t.enc []))),.p (.sl (valL (u.enc [])))] [] (.p (.int .i64 (cmpT t u))) []:=by
 induction n generalizing t u with
 | zero=>have:=Et t [];omega
 | succ n ih =>
 cases t with
 | mk k s g e kids =>
 cases u with
 | mk k' s' g' e' kids' =>
 have hok:=Lu.1 ht;have hok':=Lu.1 hu;rw [A6,List.length_cons] at hn hs hs';have hg:=Cc [] k s g e kids;have hg':=Cc [] k' s' g' e' kids';have hll:=Jqv kids;have hll':=Jqv kids';have hkl:=Jqw kids;have hkl':=Jqw kids';have hc:∀ p∈kids.list,∀ q∈kids'.list,Det cx 96 [.p (.sl (valL (p.2.enc []))),.p (.sl (valL (q.2.enc [])))] [] (.p (.int .i64 (cmp2 p q))) []:=fun p hp q hq=>ih p.2 q.2 (by have:=Jd7 hp;omega) (J8u ht hp) (J8u hu hq) (by have:=Jd7 hp;omega) (by have:=Jd7 hq;omega)
 have hCF:=Jzw kids.list kids'.list omg omg hc;by_cases hkk:k=k'
 ·subst hkk;by_cases h3:k=3
  ·subst h3;(refine bgo Tryz.func96 ?_;simp only [go_sem,simprocAttr]);(repeat' (first | (apply iteI <;> intro h)|((first | (refine Jql ?_)|(refine Jqe (Jvv _ _) ?_)|(refine Jqe (nc_num _ _ _ _ _ _ _ _ _ _ (J1v hok.1 rfl) (J1v hok'.1 rfl)) ?_));simp only [go_sem,simprocAttr,hg,hg']) | fail))
   all_goals first
    | exact absurd (Jtw _) (by assumption)
    | (rw [Jt0,if_pos rfl,if_pos rfl];done)
  ·by_cases h4:k=4
   ·subst h4;(refine bgo Tryz.func96 ?_;simp only [go_sem,simprocAttr]);(repeat' (first | (apply iteI <;> intro h)|((first | (refine Jql ?_)|(refine Jqe (Jvv _ _) ?_)|(refine Jqe (J4w _ _) ?_));simp only [go_sem,simprocAttr,hg,hg']) | fail))
    all_goals first
     | exact absurd (Jtw _) (by assumption)
     | (rw [Jt0,if_pos rfl,if_neg de,if_pos rfl];done)
   ·by_cases h6:k=6
    ·subst h6;(refine bgo Tryz.func96 ?_;simp only [go_sem,simprocAttr]);(repeat' (first | (apply iteI <;> intro h)|((first | (refine Jql ?_)|(refine Jqe (Jvv _ _) ?_)|(refine Jqa (J54 [] s g e kids omg) ?_)|(refine Jqa (J54 [] s' g' e' kids' omg) ?_)|(refine Jqa (Jyx _ _ omg omg) ?_)|(refine Jqa (Px [] 6 s g e kids omg) ?_)|(refine Jqa (Px [] 6 s' g' e' kids' omg) ?_)|(refine Jqa (hCF) ?_));simp only [go_sem,simprocAttr,hg,hg']) | fail))
     all_goals first
      | exact absurd (Jtw _) (by assumption)
      | (rw [Jt0,if_pos rfl,if_neg de,if_neg de,if_pos rfl,if_neg (by assumption)];done)
      | (rw [Jt0,if_pos rfl,if_neg de,if_neg de,if_pos rfl,if_pos (Decidable.not_not.1 (by assumption)),Jx1];done)
    ·by_cases h5:k=5
     ·subst h5;(refine bgo Tryz.func96 ?_;simp only [go_sem,simprocAttr]);(repeat' (first | (apply iteI <;> intro h)|((first | (refine Jql ?_)|(refine Jqe (Jvv _ _) ?_)|(refine Jqa (Px [] 5 s g e kids omg) ?_)|(refine Jqa (Px [] 5 s' g' e' kids' omg) ?_)|(refine Jqa (hCF) ?_));simp only [go_sem,simprocAttr,hg,hg']) | fail))
      all_goals first
       | exact absurd (Jtw _) (by assumption)
       | (rw [Jt0,if_pos rfl,if_neg de,if_neg de,if_neg de,if_pos rfl,Jx1];done)
     ·(refine bgo Tryz.func96 ?_;simp only [go_sem,simprocAttr]);(repeat' (first | (apply iteI <;> intro h)|((first | (refine Jql ?_)|(refine Jqe (Jvv _ _) ?_));simp only [go_sem,simprocAttr,hg,hg'])|(exfalso;omega)))
      all_goals first
       | exact absurd (Jtw _) (by assumption)
       | (rw [Jt0,if_pos rfl,if_neg h3,if_neg h4,if_neg h6,if_neg h5];done)
 ·(refine bgo Tryz.func96 ?_;simp only [go_sem,simprocAttr]);(repeat' (first | (apply iteI <;> intro h)|((first | (refine Jql ?_)|(refine Jqe (Jvv _ _) ?_));simp only [go_sem,simprocAttr,hg,hg']) | fail))
  all_goals first
   | (rw [Jt0,if_neg hkk];done)
   | exact absurd (Decidable.not_not.1 (by assumption)) (J5z hkk)
   | exact absurd (by assumption) (J5z hkk)
def treeL (l:List Tree):List (List PV):=l.map fun t=>[.sl (valL (t.enc []))]
def J9o:List Tree→Bool
 | a :: b :: l=>decide (0≤cmpT b a) && J9o (b :: l)
 | _=>true
end Go.LX
namespace Go.LX
open Go
def ndT (n:Node):Tree:=.mk n.kind n.s n.neg n.e .nil
def rootN:Tree→Node
 | .mk k s g e kids=>⟨k,kids.len,[],s,g,e⟩
def leafB:Tree→Bool
 | .mk _ _ _ _ .nil=>true
 | .mk _ _ _ _ (.cons _ _ _)=>false
def J6d (n c:Int):Bool :=
 if n=0 then decide (c=0) else if n=1 then decide (c≠0) else if n=2 then decide (c<0) else if n=3 then decide (c≤0) else if n=4 then decide (0<c) else decide (0≤c)
def Jts (a:Int×Node) (x:Node):Bool:=J6d a.1 (cmpT (ndT x) (ndT a.2))
def Js1 (mask kind:Int):Bool:=decide (mask.toNat / 2 ^ kind.toNat % 2=1)
def Jr2 (mask:Int) (l:List (Int×Node)) (x:Node):Bool:=decide (Jqk x) && (Js1 mask x.kind && l.all fun a=>Jts a x)
def keyV (s:List UInt8) (v:Tree):List Node:=match getT (Je s).1 v with
 | .ok u=>u.enc []
 | .error _=>[]
def keyT (s:List UInt8) (v:Tree):Tree:=match getT (Je s).1 v with
 | .ok u=>u
 | .error _=>.mk 0 [] false 0 .nil
def J2w (ps:List (Tree→Bool)):Tree→Bool:=match ps with
 | []=>fun _=>true
 | p :: _=>p
def partP (kids:List KT) (nm:List UInt8) (p:Tree→Bool):Bool:=match Ch nm kids with
 | some u=>p u
 | none=>false
def objS (kids:List KT):List RKT→List (Tree→Bool)→Bool
 | r :: rows,p :: ps=>partP kids r.1 p && objS kids rows ps
 | _,_=>true
def tupS:List (Tree→Bool)→List KT→Bool
 | [],[]=>true
 | p :: ps,q :: l=>p q.2 && tupS ps l
 | [],_ :: _=>false
 | _ :: _,[]=>false
def sKey:List UInt8:=[107,101,121]
def sVal:List UInt8:=[118,97,108,117,101]
def entK:Tree→Option (List UInt8×Tree)
 | .mk k _ _ _ kids=>if k=6∧kids.len=2 then (match Ch sKey kids.list,Ch sVal kids.list with
  | some (.mk k' s' _ _ _),some x=>if k'=4 then some (s',x) else none
  | _,_=>none) else none
def Jtu (last:Option (List UInt8)) (key:List UInt8):Bool:=match last with
 | none=>true
 | some l=>Op.bytesLess l key
def entS (P:Tree→Bool):Option (List UInt8)→List KT→Bool
 | _,[]=>true
 | last,q :: l=>match entK q.2 with
  | none=>false
  | some (key,x)=>Jtu last key && (P x && entS P (some key) l)
def sameT (a b:Tree):Bool:=decide (a.enc []=b.enc [])
def aheadT (last:Option Tree) (key:Tree):Bool:=match last with
 | none=>true
 | some l=>decide (cmpT l key<0)
def J9u (P:Tree→Bool) (q:KT):Bool:=decide (q.2.kind=5) && (decide (q.2.kids.len≠0) && q.2.kids.list.all fun x=>P x.2)
def J3c (s:List UInt8) (l:List KT):List Tree:=l.map fun q=>keyT s q.2
def J9w (l:List Tree):Tree:=l.headD (.mk 0 [] false 0 .nil)
def J90 (P:Tree→Bool) (s:List UInt8):Option Tree→List KT→Bool
 | _,[]=>true
 | last,q :: l=>J9u P q && (((J3c s q.2.kids.list).all fun k=>sameT k (J9w (J3c s q.2.kids.list))) && (aheadT last (J9w (J3c s q.2.kids.list)) && J90 P s (some (J9w (J3c s q.2.kids.list))) l))
def allP (P:Tree→Bool) (l:List KT):Bool:=l.all fun q=>P q.2
def inK (k:Int) (s:List UInt8) (n:Int) (rows:List RKT) (ps:List (Tree→Bool)) (v:Tree):Bool :=
 if k=0 then true
 else if k=1 then leafB v && Jr2 n (Jqq rows) (rootN v)
 else if k=2 then decide (v.kind=6) && ((decide (n≠0) || decide (v.kids.len=rows.length)) && objS v.kids.list rows ps)
 else if k=3 then decide (v.kind=6) && allP (J2w ps) v.kids.list
 else decide (v.kind=5) && (
  if k=4 then tupS ps v.kids.list
  else if k=6 then entS (J2w ps) none v.kids.list
  else if k=8 then J90 (J2w ps) s none v.kids.list
  else if k=7 then allP (J2w ps) v.kids.list && J9o (J3c s v.kids.list)
  else allP (J2w ps) v.kids.list)
def idxF (b:Nat→Bool):Nat→Nat→Int
 | 0,_=>-1
 | k+1,i=>if b i=true then idxF b k (i+1) else i
def allF (b:Nat→Bool):Nat→Nat→Bool
 | 0,_=>true
 | k+1,i=>b i && allF b k (i+1)
theorem Jx2 {b:Nat→Bool}:∀ {k i:Nat},decide (0≤idxF b k i) = !allF b k i
 | 0,i=>rfl
 | k+1,i=>by
  rw [idxF,allF];cases b i
  ·simp
  ·simp only [if_true,Bool.true_and];exact Jx2
end Go.LX
namespace Go.LX
open Go Go.Proofs
end Go.LX
namespace Go.LX
open Go Go.RowKit Go.Proofs
attribute [local irreducible] Al SWP Bi
end Go.LX
